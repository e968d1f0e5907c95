/- OWN WORK: a part of the proof of a law of the seat YtdbiillompeclaaGreatDoor: what the functions compute. -/
import Derived.Test.YtdbiillompeclaaGreatDoorProg
import Derived.Test.YtdbiillompeclaaGreatDoorXT1
import Derived.Test.YtdbiillompeclaaGreatDoorXMp
section
set_option linter.unusedVariables false
set_option linter.unusedSimpArgs false
namespace Go.Proofs.YtdbiillompeclaaGreatDoor.X
open Go Go.RowKit Go.Proofs Go.Sx
attribute [local irreducible] slA isA box row


set_option maxRecDepth 100000 in
theorem c_Few02 (l : List TOp) (A : Option Addr) (c : Nat) (hl : l.length ≤ 2000000) (hM : omany l ≤ 1000000000000) : Con Tryz.prog 31 [.slice A l.length c] [] [slA A l] Unit (fun _ => .int .i64 (fewO l)) (fun _ => []) (fun _ => []) := by
 refine con Tryz.func31 rfl Tryz.ntmps31 rfl ?_
 intro M0 F0 w0
 refine cs ?_
 refine cr ?_
 refine ls (op (p_asg rfl) rfl) ?_
 refine ln ?_
 refine nthen ?_
 refine cs ?_
 refine cr ?_
 refine ls (op (p_asg rfl) rfl) ?_
 refine ln ?_
 refine nthen ?_
 refine cs ?_
 refine cs ?_
 refine cr ?_
 refine ls (op (p_move rfl) rfl) ?_
 refine ls (op (p_lenl rfl Tryz.underlying57) rfl) ?_
 refine ls (op (p_move rfl) rfl) ?_
 refine ln ?_
 refine nthen ?_
 refine cb ?_
 refine cl (ι := {q : Nat × Int // q.1 ≤ l.length ∧ q.2 = ((omany (l.take q.1) : Nat) : Int)}) (fun i => St M0 F0 w0 51 [(0, .slice A l.length c), (8, .slice A l.length c), (9, .int .i64 (l.length : Int)), (10, .int .i64 (i.1.1 : Int)), (3, .int .i64 i.1.2)] [] [slA A l]) (fun i => l.length - i.1.1) ⟨(0, 0), by simp [omany]⟩ (wk0 (by repeat (first | exact subσ.nil _ | refine subσ.cons rfl ?_)) (by repeat' (first | constructor | apply Sub.suf))) ?_
 rintro ⟨⟨k, n⟩, hk, hn⟩
 refine cmono (S' := St M0 F0 w0 51 [(0, .slice A l.length c), (8, .slice A l.length c), (9, .int .i64 (l.length : Int)), (10, .int .i64 (k : Int)), (3, .int .i64 n)] [] [slA A l]) (fun _ _ h => h) ?_
 refine cs ?_
 refine cr ?_
 refine ls (op (p_icmp rfl rfl rfl) rfl) ?_
 refine ln ?_
 refine nthen ?_
 refine cs ?_
 refine cc rfl ?_ ?_
 ·
  intro h11
  dsimp only at hk hn
  try simp only [decide_eq_true_eq, decide_eq_false_iff_not, Bool.not_eq_true', Bool.not_eq_false', Int.not_lt, Int.not_le, ge_iff_le, Bool.not_true, Bool.not_false] at h11
  have hk1 : k < l.length := by omega
  have hs : omany (l.take (k + 1)) = omany (l.take k) + l[k].many := sum_take_succ (f := TOp.many) hk1
  have ht : omany (l.take (k + 1)) ≤ omany l := sum_take_le TOp.many l (k + 1)
  have hu : l[k].many = l[k].name.size + l[k].to.size + l[k].l.length + sizes l[k].l := rfl
  refine cskip ?_
  refine nthen ?_
  refine cs ?_
  refine cb ?_
  refine cs ?_
  refine elC (by repeat' constructor) k (List.getElem?_eq_getElem (l := l) hk1) ?_; rintro zbp zop zyp hAp
  refine cr ?_
  refine ls (op (p_ia k hAp hk1 rfl Tryz.underlying57 Tryz.sizeOf126 rfl rfl) rfl) ?_
  refine ls (o_ldj Tryz.isAgg126 Tryz.sizeOf126 rfl (by repeat' constructor) 0 rfl (by repeat (first | exact Cut.d | apply Cut.t | apply Cut.s)) rfl) ?_
  refine ls (o_alloc Tryz.zeroValue126 rfl rfl) ?_
  refine le ?_; intro b5
  refine ls (o_st rfl Tryz.sizeOf126 rfl rfl rfl rfl rfl (by repeat' constructor) (by repeat' constructor) (by repeat' constructor)) ?_
  refine ln ?_
  refine nthen ?_
  refine cs ?_
  refine cr ?_
  refine ls (op (p_move rfl) rfl) ?_
  refine ls (op (p_fa fa126_1 rfl) rfl) ?_
  refine ls (o_ld Tryz.isAgg9 rfl (by repeat' constructor) (by repeat' constructor) rfl) ?_
  refine ls (op (p_lens rfl Tryz.underlying9) rfl) ?_
  refine ls (op (p_fa fa126_2 rfl) rfl) ?_
  refine ls (o_ld Tryz.isAgg9 rfl (by repeat' constructor) (by repeat' constructor) rfl) ?_
  refine ls (op (p_lens rfl Tryz.underlying9) rfl) ?_
  refine ls (op (p_add rfl rfl (by omega)) rfl) ?_
  refine ls (op (p_fa fa126_3 rfl) rfl) ?_
  refine ls (o_ld Tryz.isAgg37 rfl (by repeat' constructor) (by repeat' constructor) rfl) ?_
  refine ls (op (p_lenl rfl Tryz.underlying37) rfl) ?_
  refine ls (op (p_add rfl rfl (by omega)) rfl) ?_
  refine ls (op (p_add rfl rfl (by omega)) rfl) ?_
  refine ls (op (p_asg rfl) rfl) ?_
  refine ln ?_
  refine nthen ?_
  refine cs ?_
  refine cr ?_
  refine ls (op (p_fa fa126_3 rfl) rfl) ?_
  refine ls (o_ld Tryz.isAgg37 rfl (by repeat' constructor) (by repeat' constructor) rfl) ?_
  refine ls (op (p_lenl rfl Tryz.underlying37) rfl) ?_
  refine ls (op (p_move rfl) rfl) ?_
  refine ln ?_
  refine nthen ?_
  refine cb ?_
  refine cl (ι := {q : Nat × Int // q.1 ≤ l[k].l.length ∧ q.2 = (n + (((l[k].name.size : Int) + l[k].to.size) + l[k].l.length)) + sizes (l[k].l.take q.1)}) (fun i => St M0 F0 w0 51 [(0, .slice A l.length c), (8, .slice A l.length c), (9, .int .i64 (l.length : Int)), (10, .int .i64 (k : Int)), (5, .pointer (some ⟨b5, 0, none⟩)), (28, .slice zyp.1 l[k].l.length zyp.2), (29, .int .i64 (l[k].l.length : Int)), (30, .int .i64 (i.1.1 : Int)), (3, .int .i64 i.1.2)] [box b5 126 (Rp.enc l[k] zyp)] [slA A l, slA zyp.1 l[k].l]) (fun i => l[k].l.length - i.1.1) ⟨(0, (n + (((l[k].name.size : Int) + l[k].to.size) + l[k].l.length))), by simp [sizes]⟩ (wk0 (by repeat (first | exact subσ.nil _ | refine subσ.cons rfl ?_)) (by repeat' (first | constructor | apply Sub.suf))) ?_
  rintro ⟨⟨j, x⟩, hj, hx⟩
  refine cmono (S' := St M0 F0 w0 51 [(0, .slice A l.length c), (8, .slice A l.length c), (9, .int .i64 (l.length : Int)), (10, .int .i64 (k : Int)), (5, .pointer (some ⟨b5, 0, none⟩)), (28, .slice zyp.1 l[k].l.length zyp.2), (29, .int .i64 (l[k].l.length : Int)), (30, .int .i64 (j : Int)), (3, .int .i64 x)] [box b5 126 (Rp.enc l[k] zyp)] [slA A l, slA zyp.1 l[k].l]) (fun _ _ h => h) ?_
  refine cs ?_
  refine cr ?_
  refine ls (op (p_icmp rfl rfl rfl) rfl) ?_
  refine ln ?_
  refine nthen ?_
  refine cs ?_
  refine cc rfl ?_ ?_
  ·
   intro h31
   dsimp only at hj hx
   try simp only [decide_eq_true_eq, decide_eq_false_iff_not, Bool.not_eq_true', Bool.not_eq_false', Int.not_lt, Int.not_le, ge_iff_le, Bool.not_true, Bool.not_false] at h31
   have hj1 : j < l[k].l.length := by omega
   have ej1 := sizes_succ hj1
   have ej2 := sizes_le l[k].l (j + 1)
   refine cskip ?_
   refine nthen ?_
   refine cs ?_
   refine cb ?_
   refine cs ?_
   refine elC (by repeat' constructor) j (List.getElem?_eq_getElem (l := l[k].l) hj1) ?_; rintro zbq zoq zyq hAq
   refine cr ?_
   refine ls (op (p_ia j hAq hj1 rfl Tryz.underlying37 Tryz.sizeOf9 rfl rfl) rfl) ?_
   refine ls (o_ldi Tryz.isAgg9 rfl (by repeat' constructor) 0 rfl (by repeat (first | exact Cut.d | apply Cut.t | apply Cut.s)) rfl) ?_
   refine ls (op (p_asg rfl) rfl) ?_
   refine ln ?_
   refine nthen ?_
   refine cr ?_
   refine ls (op (p_move rfl) rfl) ?_
   refine ls (op (p_move rfl) rfl) ?_
   refine ls (op (p_lens rfl Tryz.underlying9) rfl) ?_
   refine ls (op (p_add rfl rfl (by omega)) rfl) ?_
   refine ls (op (p_asg rfl) rfl) ?_
   refine ln ?_
   refine nblock ?_
   refine nthen ?_
   refine cr ?_
   refine ls (op (p_add rfl rfl (by omega)) rfl) ?_
   refine ls (op (p_move rfl) rfl) ?_
   refine ln ?_
   refine nnext ⟨(j + 1, x + (l[k].l[j].size : Int)), hj1, by dsimp only; omega⟩ (by dsimp only; omega) (wk0 (by repeat (first | exact subσ.nil _ | refine subσ.cons rfl ?_)) (by repeat' (first | constructor | apply Sub.suf)))
  ·
   intro h31
   dsimp only at hj hx
   try simp only [decide_eq_true_eq, decide_eq_false_iff_not, Bool.not_eq_true', Bool.not_eq_false', Int.not_lt, Int.not_le, ge_iff_le, Bool.not_true, Bool.not_false] at h31
   rw [List.take_of_length_le (by omega)] at hx
   refine cexit ?_
   refine xthen ?_
   refine xthen ?_
   refine xblock ?_
   refine nblock ?_
   refine nthen ?_
   refine cr ?_
   refine ls (op (p_add rfl rfl (by omega)) rfl) ?_
   refine ls (op (p_move rfl) rfl) ?_
   refine ln ?_
   refine nnext ⟨(k + 1, x), hk1, by dsimp only; omega⟩ (by dsimp only; omega) (wk (is := []) (by repeat (first | exact subσ.nil _ | refine subσ.cons rfl ?_)) rfl (by repeat' (first | constructor | apply Sub.suf)))
 ·
  intro h11
  dsimp only at hk hn
  try simp only [decide_eq_true_eq, decide_eq_false_iff_not, Bool.not_eq_true', Bool.not_eq_false', Int.not_lt, Int.not_le, ge_iff_le, Bool.not_true, Bool.not_false] at h11
  rw [List.take_of_length_le (by omega)] at hn
  refine cexit ?_
  refine xthen ?_
  refine xthen ?_
  refine xblock ?_
  refine nthen ?_
  refine cs ?_
  refine cs ?_
  refine cr ?_
  refine ls (op (p_move rfl) rfl) ?_
  refine ls (op (p_lenl rfl Tryz.underlying57) rfl) ?_
  refine ls (op (p_icmp rfl rfl rfl) rfl) ?_
  refine ls (op (p_move rfl) rfl) ?_
  refine andX 3 43 46 rfl (subσ.cons (t := 0) rfl (subσ.cons (t := 8) rfl (subσ.cons (t := 9) rfl (subσ.cons (t := 10) rfl (subσ.cons (t := 3) rfl (subσ.cons (t := 11) rfl (subσ.nil _))))))) ?_ ?_
  ·
   intro h43
   refine lskip rfl rfl rfl rfl rfl ?_
   refine lskip rfl rfl rfl rfl rfl ?_
   refine ls (op (p_pickf rfl rfl) rfl) ?_
   refine ln (nmid (wk0 (by repeat (first | exact subσ.nil _ | refine subσ.cons rfl ?_)) (by repeat' (first | constructor | apply Sub.suf))))
  apply exI
  ·
   intro h43
   refine lwant rfl rfl rfl rfl (op (p_move rfl) rfl) ?_
   refine lwant rfl rfl rfl rfl (op (p_icmp rfl rfl rfl) rfl) ?_
   refine ls (op (p_pickt rfl rfl) rfl) ?_
   refine ln (nmid (wk0 (by repeat (first | exact subσ.nil _ | refine subσ.cons rfl ?_)) (by repeat' (first | constructor | apply Sub.suf))))
  ·
   refine ln ?_
   refine nthen ?_
   refine cc rfl ?_ ?_
   ·
    intro h46
    refine cs ?_
    refine cr ?_
    refine ls (op (p_asg rfl) rfl) ?_
    refine ln ?_
    refine nthen ?_
    refine cret ?_
    refine xret (fun _ _ h => h) ?_
    refine rret (is := []) () (Or.inl rfl) (Res.t rfl Res.d) ?_ rfl (by repeat' (first | constructor | apply Sub.suf))
    have h47 : l.length ≤ 80 ∧ omany l ≤ 8000 := (by have h := h46; simp at h; omega); simp only [packV, fewO, if_pos h47]
   ·
    intro h46
    refine cskip ?_
    refine nthen ?_
    refine cs ?_
    refine cr ?_
    refine ls (op (p_move rfl) rfl) ?_
    refine ls (op (p_move rfl) rfl) ?_
    refine ls (op (p_lenl rfl Tryz.underlying57) rfl) ?_
    refine ls (op (p_add rfl rfl (by omega)) rfl) ?_
    refine ls (op (p_asg rfl) rfl) ?_
    refine ln ?_
    refine nthen ?_
    refine cret ?_
    refine xret (fun _ _ h => h) ?_
    refine rret (is := []) () (Or.inl rfl) (Res.t rfl Res.d) ?_ rfl (by repeat' (first | constructor | apply Sub.suf))
    have h47 : ¬ (l.length ≤ 80 ∧ omany l ≤ 8000) := (by have h := h46; simp at h; omega); simp only [packV, fewO, if_neg h47, hn]

set_option maxRecDepth 100000 in
theorem c_does02 (p b : Nat) (T : List File) (o : TOp) (y : Option Addr × Nat) (ho : o.fit) (hn : T.length + 1 ≤ 2000000) : Con Tryz.prog 77 [.pointer (some ⟨p, 0, none⟩), sv o y] [box p 120 [.map (some b)], tr b T] [slA y.1 o.l, nilA y] {q : (Nat × Nat) × (List File × Int) // q.2 = doesT T o} (fun q => .tuple #[.pointer (some ⟨q.1.1.1, 0, none⟩), .int .i64 q.1.2.2]) (fun q => [box q.1.1.1 120 [.map (some q.1.1.2)], tr q.1.1.2 q.1.2.1]) (fun _ => []) := by
 refine con Tryz.func77 rfl Tryz.ntmps77 rfl ?_
 intro M0 F0 w0
 refine cs ?_
 refine cr ?_
 refine ls (o_box rfl rfl rfl) ?_
 refine le ?_; intro b3
 refine ls (op (p_asg rfl) rfl) ?_
 refine ls (op (p_asg rfl) rfl) ?_
 refine ln ?_
 refine nthen ?_
 refine cs ?_
 refine cs ?_
 refine cr ?_
 refine ls (op (p_fa fa126_0 rfl) rfl) ?_
 refine ls (o_ld Tryz.isAgg3 rfl (by repeat' constructor) (by repeat' constructor) rfl) ?_
 refine ln ?_
 refine nthen ?_
 refine cb ?_
 refine cs ?_
 refine cr ?_
 refine ls (op (p_icmp rfl rfl rfl) rfl) ?_
 refine ls (op (p_asg rfl) rfl) ?_
 refine ln ?_
 refine nthen ?_
 refine cc rfl ?_ ?_
 ·
  intro h11
  have k0 : o.kind = 0 := by simpa using h11
  refine cs ?_
  refine cr ?_
  refine ls (op (p_move rfl) rfl) ?_
  refine ls (op (p_move rfl) rfl) ?_
  refine ls (op (p_fa fa126_1 rfl) rfl) ?_
  refine ls (o_ld Tryz.isAgg9 rfl (by repeat' constructor) (by repeat' constructor) rfl) ?_
  refine ls (o_call (is := [1, 1]) Tryz.call25 (c_tAdd p b T o.name) rfl rfl (by repeat' (first | constructor | apply Sub.suf)) rfl) ?_
  refine le ?_; rintro ⟨⟨T1, e1⟩, hq⟩
  refine ls (op (p_asg rfl) rfl) ?_
  refine ls (op (p_asg rfl) rfl) ?_
  refine ln ?_
  refine nthen ?_
  refine cret ?_
  refine xret (fun _ _ h => h) ?_
  refine rret (is := [0, 0]) ⟨((p, b), (T1, e1)), hq.trans (by simp [doesT, k0])⟩ (Or.inl rfl) (Res.t rfl (Res.t rfl Res.d)) (rfl) rfl (by repeat' (first | constructor | apply Sub.suf))
 ·
  intro h11
  have k0 : ¬ o.kind = 0 := by simpa using h11
  refine cs ?_
  refine cr ?_
  refine ls (op (p_icmp rfl rfl rfl) rfl) ?_
  refine ls (op (p_asg rfl) rfl) ?_
  refine ln ?_
  refine nthen ?_
  refine cc rfl ?_ ?_
  ·
   intro h18
   have k1 : o.kind = 1 := by simpa using h18
   refine cs ?_
   refine cr ?_
   refine ls (op (p_move rfl) rfl) ?_
   refine ls (op (p_move rfl) rfl) ?_
   refine ls (op (p_fa fa126_1 rfl) rfl) ?_
   refine ls (o_ld Tryz.isAgg9 rfl (by repeat' constructor) (by repeat' constructor) rfl) ?_
   refine ls (o_call (is := [1, 1]) Tryz.call129 (c_tRem p b T o.name) rfl rfl (by repeat' (first | constructor | apply Sub.suf)) rfl) ?_
   refine le ?_; rintro ⟨⟨T1, e1⟩, hq⟩
   refine ls (op (p_asg rfl) rfl) ?_
   refine ls (op (p_asg rfl) rfl) ?_
   refine ln ?_
   refine nthen ?_
   refine cret ?_
   refine xret (fun _ _ h => h) ?_
   refine rret (is := [0, 0]) ⟨((p, b), (T1, e1)), hq.trans (by simp [doesT, k1])⟩ (Or.inl rfl) (Res.t rfl (Res.t rfl Res.d)) (rfl) rfl (by repeat' (first | constructor | apply Sub.suf))
  ·
   intro h18
   have k1 : ¬ o.kind = 1 := by simpa using h18
   refine cs ?_
   refine cr ?_
   refine ls (op (p_icmp rfl rfl rfl) rfl) ?_
   refine ls (op (p_asg rfl) rfl) ?_
   refine ln ?_
   refine nthen ?_
   refine cc rfl ?_ ?_
   ·
    intro h25
    have k2 : o.kind = 2 := by simpa using h25
    refine cs ?_
    refine cr ?_
    refine ls (op (p_move rfl) rfl) ?_
    refine ls (op (p_move rfl) rfl) ?_
    refine ls (op (p_fa fa126_1 rfl) rfl) ?_
    refine ls (o_ld Tryz.isAgg9 rfl (by repeat' constructor) (by repeat' constructor) rfl) ?_
    refine ls (op (p_fa fa126_2 rfl) rfl) ?_
    refine ls (o_ld Tryz.isAgg9 rfl (by repeat' constructor) (by repeat' constructor) rfl) ?_
    refine ls (o_call (is := [1, 1]) Tryz.call104 (c_tMove p b T o.name o.to) rfl rfl (by repeat' (first | constructor | apply Sub.suf)) rfl) ?_
    refine le ?_; rintro ⟨⟨T1, e1⟩, hq⟩
    refine ls (op (p_asg rfl) rfl) ?_
    refine ls (op (p_asg rfl) rfl) ?_
    refine ln ?_
    refine nthen ?_
    refine cret ?_
    refine xret (fun _ _ h => h) ?_
    refine rret (is := [0, 0]) ⟨((p, b), (T1, e1)), hq.trans (by simp [doesT, k2])⟩ (Or.inl rfl) (Res.t rfl (Res.t rfl Res.d)) (rfl) rfl (by repeat' (first | constructor | apply Sub.suf))
   ·
    intro h25
    have k2 : ¬ o.kind = 2 := by simpa using h25
    refine cs ?_
    refine cr ?_
    refine ls (op (p_icmp rfl rfl rfl) rfl) ?_
    refine ls (op (p_asg rfl) rfl) ?_
    refine ln ?_
    refine nthen ?_
    refine cc rfl ?_ ?_
    ·
     intro h34
     have k3 : o.kind = 3 := by simpa using h34
     refine cs ?_
     refine cr ?_
     refine ls (op (p_move rfl) rfl) ?_
     refine ls (op (p_move rfl) rfl) ?_
     refine ls (op (p_fa fa126_1 rfl) rfl) ?_
     refine ls (o_ld Tryz.isAgg9 rfl (by repeat' constructor) (by repeat' constructor) rfl) ?_
     refine ls (op (p_fa fa126_3 rfl) rfl) ?_
     refine ls (o_ld Tryz.isAgg37 rfl (by repeat' constructor) (by repeat' constructor) rfl) ?_
     refine ls (o_call (is := [1, 1]) Tryz.call26 (c_tPut p b T o.name o.l y.1 y.2 ho.2.2.1) rfl rfl (by repeat' (first | constructor | apply Sub.suf)) rfl) ?_
     refine le ?_; rintro ⟨⟨T1, e1⟩, hq⟩
     refine ls (op (p_asg rfl) rfl) ?_
     refine ls (op (p_asg rfl) rfl) ?_
     refine ln ?_
     refine nthen ?_
     refine cret ?_
     refine xret (fun _ _ h => h) ?_
     refine rret (is := [0, 0]) ⟨((p, b), (T1, e1)), hq.trans (by simp [doesT, k3])⟩ (Or.inl rfl) (Res.t rfl (Res.t rfl Res.d)) (rfl) rfl (by repeat' (first | constructor | apply Sub.suf))
    ·
     intro h34
     have k3 : ¬ o.kind = 3 := by simpa using h34
     refine cs ?_
     refine cr ?_
     refine ls (op (p_icmp rfl rfl rfl) rfl) ?_
     refine ls (op (p_asg rfl) rfl) ?_
     refine ln ?_
     refine nthen ?_
     refine cc rfl ?_ ?_
     ·
      intro h43
      have k4 : o.kind = 4 := by simpa using h43
      refine cs ?_
      refine cr ?_
      refine ls (op (p_move rfl) rfl) ?_
      refine ls (o_call (is := [1, 1]) Tryz.call36 (c_tCopy p b T) rfl rfl (by repeat' (first | constructor | apply Sub.suf)) rfl) ?_
      refine le ?_; rintro ⟨p4, b4⟩
      refine ls (op (p_asg rfl) rfl) ?_
      refine ln ?_
      refine nthen ?_
      refine cs ?_
      refine cr ?_
      refine ls (op (p_move rfl) rfl) ?_
      refine ls (o_call (is := [2, 2]) Tryz.call25 (c_tAdd p b T ⟨#[110, 111, 110, 101]⟩) rfl rfl (by repeat' (first | constructor | apply Sub.suf)) rfl) ?_
      refine le ?_; rintro ⟨⟨T1, e1⟩, hq⟩
      have hT1 : T1.length ≤ 2000000 := by have h1 := congrArg (fun z : List File × Int => z.1.length) hq; have h2 := tAdd_len T ⟨#[110, 111, 110, 101]⟩; dsimp only at h1; omega
      refine ln ?_
      refine nthen ?_
      refine cs ?_
      refine cs ?_
      refine cr ?_
      refine ls (op (p_move rfl) rfl) ?_
      refine ls (o_call (is := [0, 0]) Tryz.call84 (c_tNames p b T1 hT1) rfl rfl (by repeat' (first | constructor | apply Sub.suf)) rfl) ?_
      refine le ?_; rintro ⟨A5, c5⟩
      refine lmono (fun a w h => Go.Sx.freeze (i := 0) rfl h) ?_
      refine ls (op (p_lenl rfl Tryz.underlying37) rfl) ?_
      refine ls (op (p_move rfl) rfl) ?_
      refine ln ?_
      refine nthen ?_
      refine cb ?_
      refine cl (ι := {q : Nat × List File // q.1 ≤ T1.length}) (fun i => St M0 F0 w0 63 [(0, .pointer (some ⟨p, 0, none⟩)), (6, .pointer (some ⟨p4, 0, none⟩)), (50, .slice A5 T1.length c5), (51, .int .i64 (T1.length : Int)), (52, .int .i64 (i.1.1 : Int))] [box p 120 [.map (some b)], tr b i.1.2, box p4 120 [.map (some b4)], tr b4 T] [slA A5 (T1.map (·.1))]) (fun i => T1.length - i.1.1) ⟨(0, T1), Nat.zero_le _⟩ (wk (is := [0, 0, 0, 0]) (by repeat (first | exact subσ.nil _ | refine subσ.cons rfl ?_)) rfl (by repeat' (first | constructor | apply Sub.suf))) ?_
      rintro ⟨⟨k, U⟩, hk⟩
      refine cmono (S' := St M0 F0 w0 63 [(0, .pointer (some ⟨p, 0, none⟩)), (6, .pointer (some ⟨p4, 0, none⟩)), (50, .slice A5 T1.length c5), (51, .int .i64 (T1.length : Int)), (52, .int .i64 (k : Int))] [box p 120 [.map (some b)], tr b U, box p4 120 [.map (some b4)], tr b4 T] [slA A5 (T1.map (·.1))]) (fun _ _ h => h) ?_
      refine cs ?_
      refine cr ?_
      refine ls (op (p_icmp rfl rfl rfl) rfl) ?_
      refine ln ?_
      refine nthen ?_
      refine cs ?_
      refine cc rfl ?_ ?_
      ·
       intro h53
       dsimp only at hk
       try simp only [decide_eq_true_eq, decide_eq_false_iff_not, Bool.not_eq_true', Bool.not_eq_false', Int.not_lt, Int.not_le, ge_iff_le, Bool.not_true, Bool.not_false] at h53
       have hk1 : k < T1.length := by omega
       have hk2 : k < (T1.map (·.1)).length := by simpa using hk1
       refine cskip ?_
       refine nthen ?_
       refine cs ?_
       refine cb ?_
       refine cs ?_
       refine elC (by repeat' constructor) k (List.getElem?_eq_getElem (l := (T1.map (·.1))) hk2) ?_; rintro zbp zop zyp hAp
       refine cr ?_
       refine ls (op (p_ia k hAp hk1 rfl Tryz.underlying37 Tryz.sizeOf9 rfl rfl) rfl) ?_
       refine ls (o_ldi Tryz.isAgg9 rfl (by repeat' constructor) 0 rfl (by repeat (first | exact Cut.d | apply Cut.t | apply Cut.s)) rfl) ?_
       refine ls (op (p_asg rfl) rfl) ?_
       refine ln ?_
       refine nthen ?_
       refine cr ?_
       refine ls (op (p_move rfl) rfl) ?_
       refine ls (op (p_move rfl) rfl) ?_
       refine ls (o_bsl [(⟨#[110, 111, 110, 101]⟩ : ByteArray)] Tryz.underlying37 Tryz.sizeOf9 Tryz.zeroValue9 rfl (Enum.t Enum.d) (RV.t () rfl Sub.d RV.d) rfl (by decide) (by decide) rfl) ?_
       refine le ?_; intro b58
       refine lmono (fun a w h => Go.Sx.freeze (i := 0) rfl h) ?_
       refine ls (o_call (is := [0, 0]) Tryz.call26 (c_tPut p b U _ [(⟨#[110, 111, 110, 101]⟩ : ByteArray)] _ _ (by simp)) rfl rfl (by repeat' (first | constructor | apply Sub.suf)) rfl) ?_
       refine le ?_; rintro ⟨⟨U2, e2⟩, hq2⟩
       refine ln ?_
       refine nblock ?_
       refine nthen ?_
       refine cr ?_
       refine ls (op (p_add rfl rfl (by omega)) rfl) ?_
       refine ls (op (p_move rfl) rfl) ?_
       refine ln ?_
       refine nnext ⟨(k + 1, U2), hk1⟩ (by dsimp only; omega) (wk (is := [0, 0, 0, 0]) (by repeat (first | exact subσ.nil _ | refine subσ.cons rfl ?_)) rfl (by repeat' (first | constructor | apply Sub.suf)))
      ·
       intro h53
       dsimp only at hk
       try simp only [decide_eq_true_eq, decide_eq_false_iff_not, Bool.not_eq_true', Bool.not_eq_false', Int.not_lt, Int.not_le, ge_iff_le, Bool.not_true, Bool.not_false] at h53
       refine cexit ?_
       refine xthen ?_
       refine xthen ?_
       refine xblock ?_
       refine nthen ?_
       refine cs ?_
       refine cr ?_
       refine ls (op (p_move rfl) rfl) ?_
       refine ls (op (p_asg rfl) rfl) ?_
       refine ls (op (p_asg rfl) rfl) ?_
       refine ln ?_
       refine nthen ?_
       refine cret ?_
       refine xret (fun _ _ h => h) ?_
       refine rret (is := [2, 2]) ⟨((p4, b4), (T, 0)), by simp [doesT, k4]⟩ (Or.inl rfl) (Res.t rfl (Res.t rfl Res.d)) (rfl) rfl (by repeat' (first | constructor | apply Sub.suf))
     ·
      intro h43
      have k4 : ¬ o.kind = 4 := by simpa using h43
      refine cskip ?_
      refine nblock ?_
      refine nthen ?_
      refine cs ?_
      refine cr ?_
      refine ls (op (p_move rfl) rfl) ?_
      refine ls (op (p_asg rfl) rfl) ?_
      refine ls (op (p_asg rfl) rfl) ?_
      refine ln ?_
      refine nthen ?_
      refine cret ?_
      refine xret (fun _ _ h => h) ?_
      refine rret (is := [1, 1]) ⟨((p, b), (T, 0)), by simp [doesT, k0, k1, k2, k3]⟩ (Or.inl rfl) (Res.t rfl (Res.t rfl Res.d)) (rfl) rfl (by repeat' (first | constructor | apply Sub.suf))

set_option maxRecDepth 100000 in
theorem c_Made02 (l : List TOp) (A : Option Addr) (c : Nat) (hl : l.length ≤ 1048576) (hM : ∀ o ∈ l, o.many ≤ 2000000) : Con Tryz.prog 32 [.slice A l.length c] [] [slA A l] ((Nat × Nat) × (Option Addr × Nat)) (fun q => .tuple #[.pointer (some ⟨q.1.1, 0, none⟩), .slice q.2.1 (madeT l).length q.2.2]) (fun q => [box q.1.1 120 [.map (some q.1.2)], tr q.1.2 (madeT l)]) (fun q => [slA q.2.1 (madeT l)]) := by
 refine con Tryz.func32 rfl Tryz.ntmps32 rfl ?_
 intro M0 F0 w0
 refine cs ?_
 refine cr ?_
 refine ls (op (p_asg rfl) rfl) ?_
 refine ls (op (p_asg rfl) rfl) ?_
 refine ln ?_
 refine nthen ?_
 refine cs ?_
 refine cr ?_
 refine ls (o_call (is := []) Tryz.call23 (c_tNew) rfl rfl (by repeat' (first | constructor | apply Sub.suf)) rfl) ?_
 refine le ?_; rintro ⟨p0, b0⟩
 refine ls (op (p_asg rfl) rfl) ?_
 refine ln ?_
 refine nthen ?_
 refine cs ?_
 refine cr ?_
 refine ls (op (p_asg rfl) rfl) ?_
 refine ln ?_
 refine nthen ?_
 refine cs ?_
 refine cs ?_
 refine cmono (fun a w h => nilSl (α := File) h) ?_
 refine cr ?_
 refine ls (op (p_move rfl) rfl) ?_
 refine ls (op (p_lenl rfl Tryz.underlying57) rfl) ?_
 refine ls (op (p_move rfl) rfl) ?_
 refine ln ?_
 refine nthen ?_
 refine cb ?_
 refine cl (ι := {q : Nat × (Nat × Nat) × (Option Addr × Nat) // q.1 ≤ l.length}) (fun i => St M0 F0 w0 41 [(13, .slice A l.length c), (14, .int .i64 (l.length : Int)), (15, .int .i64 (i.1.1 : Int)), (4, .pointer (some ⟨i.1.2.1.1, 0, none⟩)), (5, .slice i.1.2.2.1 (madeT (l.take i.1.1)).length i.1.2.2.2)] [box i.1.2.1.1 120 [.map (some i.1.2.1.2)], tr i.1.2.1.2 (madeT (l.take i.1.1))] [slA A l, slA i.1.2.2.1 (madeT (l.take i.1.1))]) (fun i => l.length - i.1.1) ⟨(0, (p0, b0), (none, 0)), Nat.zero_le _⟩ (wk (is := [0, 0]) (by repeat (first | exact subσ.nil _ | refine subσ.cons rfl ?_)) rfl (by repeat' (first | constructor | apply Sub.suf))) ?_
 rintro ⟨⟨k, ⟨p, b⟩, ⟨A1, c1⟩⟩, hk⟩
 refine cmono (S' := St M0 F0 w0 41 [(13, .slice A l.length c), (14, .int .i64 (l.length : Int)), (15, .int .i64 (k : Int)), (4, .pointer (some ⟨p, 0, none⟩)), (5, .slice A1 (madeT (l.take k)).length c1)] [box p 120 [.map (some b)], tr b (madeT (l.take k))] [slA A l, slA A1 (madeT (l.take k))]) (fun _ _ h => h) ?_
 refine cs ?_
 refine cr ?_
 refine ls (op (p_icmp rfl rfl rfl) rfl) ?_
 refine ln ?_
 refine nthen ?_
 refine cs ?_
 refine cc rfl ?_ ?_
 ·
  intro h16
  dsimp only at hk
  try simp only [decide_eq_true_eq, decide_eq_false_iff_not, Bool.not_eq_true', Bool.not_eq_false', Int.not_lt, Int.not_le, ge_iff_le, Bool.not_true, Bool.not_false] at h16
  have hk1 : k < l.length := by omega
  have hok : l[k].many ≤ 2000000 := hM _ (List.getElem_mem hk1)
  have htk : (l.take k).length = k := by rw [List.length_take]; omega
  have hso := madeT_sor (l.take k)
  have htok : Tok (l.take k).length 2000000 (madeT (l.take k)) := madeT_tok fun o ho => hM o (List.mem_of_mem_take ho)
  have hlen := htok.len
  have hms := madeT_succ hk1
  refine cskip ?_
  refine nthen ?_
  refine cs ?_
  refine cb ?_
  refine cs ?_
  refine elC (by repeat' constructor) k (List.getElem?_eq_getElem (l := l) hk1) ?_; rintro zbp zop zyp hAp
  refine cr ?_
  refine ls (op (p_ia k hAp hk1 rfl Tryz.underlying57 Tryz.sizeOf126 rfl rfl) rfl) ?_
  refine ls (o_ldj Tryz.isAgg126 Tryz.sizeOf126 rfl (by repeat' constructor) 0 rfl (by repeat (first | exact Cut.d | apply Cut.t | apply Cut.s)) rfl) ?_
  refine ls (o_alloc Tryz.zeroValue126 rfl rfl) ?_
  refine le ?_; intro b7
  refine ls (o_st rfl Tryz.sizeOf126 rfl rfl rfl rfl rfl (by repeat' constructor) (by repeat' constructor) (by repeat' constructor)) ?_
  refine ln ?_
  refine nthen ?_
  refine cs ?_
  refine cs ?_
  refine cr ?_
  refine ls (op (p_move rfl) rfl) ?_
  refine ls (op (p_ptrnil Tryz.underlying47 rfl rfl) rfl) ?_
  refine ln ?_
  refine nthen ?_
  refine cc rfl (fun h => by cases h) (fun h => ?_)
  refine cskip ?_
  refine nthen ?_
  refine cs ?_
  refine cr ?_
  refine ls (op (p_move rfl) rfl) ?_
  refine ls (o_ldw Tryz.isAgg126 Tryz.sizeOf126 rfl (by repeat' constructor) (by rfl) rfl) ?_
  refine ls (o_call (is := []) Tryz.call76 (c_rDo (madeT (l.take k)) A1 c1 (by omega) l[k] zyp (TOp.fit_of hok) (fun u => (htok.get u).1)) rfl rfl (by repeat' (first | constructor | apply Sub.suf)) rfl) ?_
  refine le ?_; rintro ⟨⟨⟨S1, e1⟩, ⟨A2, c2⟩⟩, hq⟩
  refine ls (op (p_move rfl) rfl) ?_
  refine ls (op (p_ext rfl (by repeat' constructor)) rfl) ?_
  refine ls (op (p_ext rfl (by repeat' constructor)) rfl) ?_
  refine ls (op (p_asg rfl) rfl) ?_
  refine ls (op (p_asg rfl) rfl) ?_
  refine ln ?_
  refine nthen ?_
  refine cs ?_
  refine cr ?_
  refine ls (op (p_move rfl) rfl) ?_
  refine ls (op (p_asg rfl) rfl) ?_
  refine ln ?_
  refine nthen ?_
  refine cs ?_
  refine cr ?_
  refine ls (op (p_move rfl) rfl) ?_
  refine ls (o_ldw Tryz.isAgg126 Tryz.sizeOf126 rfl (by repeat' constructor) (by rfl) rfl) ?_
  refine ls (o_call (is := [1, 1]) Tryz.call77 (c_does02 p b (madeT (l.take k)) l[k] zyp (TOp.fit_of hok) (by omega)) rfl rfl (by repeat' (first | constructor | apply Sub.suf)) rfl) ?_
  refine le ?_; rintro ⟨⟨⟨p2, b2⟩, ⟨T2, e2⟩⟩, hd⟩
  dsimp only at hq hd
  rw [does_eq hso] at hd
  obtain ⟨rfl, rfl⟩ := Prod.mk.inj (hd.trans hq.symm)
  refine ls (op (p_move rfl) rfl) ?_
  refine ls (op (p_ext rfl (by repeat' constructor)) rfl) ?_
  refine ls (op (p_ext rfl (by repeat' constructor)) rfl) ?_
  refine ls (op (p_asg rfl) rfl) ?_
  refine ls (op (p_asg rfl) rfl) ?_
  refine ln ?_
  refine nthen ?_
  refine cs ?_
  refine cr ?_
  refine ls (op (p_move rfl) rfl) ?_
  refine ls (op (p_asg rfl) rfl) ?_
  refine ln ?_
  refine nthen ?_
  refine cs ?_
  refine cr ?_
  refine ls (op (p_move rfl) rfl) ?_
  refine ls (op (p_move rfl) rfl) ?_
  refine ls (op (p_icmp rfl rfl rfl) rfl) ?_
  refine ln ?_
  refine nthen ?_
  refine cc rfl ?_ ?_
  ·
   intro h37
   simp at h37
  ·
   intro h37
   skip
   refine cskip ?_
   refine nblock ?_
   refine nthen ?_
   refine cr ?_
   refine ls (op (p_add rfl rfl (by omega)) rfl) ?_
   refine ls (op (p_move rfl) rfl) ?_
   refine ln ?_
   have hT2 : T2 = madeT (l.take (k + 1)) := by rw [hms, ← hd]
   subst hT2
   refine nnext ⟨(k + 1, (p2, b2), (A2, c2)), hk1⟩ (by dsimp only; omega) (wk (is := [0, 0]) (by repeat (first | exact subσ.nil _ | refine subσ.cons rfl ?_)) rfl (by repeat' (first | constructor | apply Sub.suf)))
 ·
  intro h16
  dsimp only at hk
  try simp only [decide_eq_true_eq, decide_eq_false_iff_not, Bool.not_eq_true', Bool.not_eq_false', Int.not_lt, Int.not_le, ge_iff_le, Bool.not_true, Bool.not_false] at h16
  rw [List.take_of_length_le (by omega)]
  refine cexit ?_
  refine xthen ?_
  refine xthen ?_
  refine xblock ?_
  refine nthen ?_
  refine cs ?_
  refine cr ?_
  refine ls (op (p_move rfl) rfl) ?_
  refine ls (op (p_move rfl) rfl) ?_
  refine ls (op (p_asg rfl) rfl) ?_
  refine ls (op (p_asg rfl) rfl) ?_
  refine ln ?_
  refine nthen ?_
  refine cret ?_
  refine xret (fun _ _ h => h) ?_
  refine rret (is := [0, 0]) ((p, b), (A1, c1)) (Or.inl rfl) (Res.t rfl (Res.t rfl Res.d)) (rfl) rfl (by repeat' (first | constructor | apply Sub.suf))

end Go.Proofs.YtdbiillompeclaaGreatDoor.X

end
section
set_option linter.unusedVariables false
set_option linter.unusedSimpArgs false
namespace Go.Proofs.YtdbiillompeclaaGreatDoor.X
open Go Go.RowKit Go.Proofs Go.Sx
attribute [local irreducible] slA isA box row
theorem bldI : ∃ j, Tryz.prog.info? 162 = some j ∧ j.size ≠ 0 := by
 obtain ⟨j, h1, h2⟩ := Option.map_eq_some_iff.1 (show (Tryz.prog.info? 162).map (fun i => i.size) = some 2 by kernel_rfl)
 exact ⟨j, h1, by omega⟩
theorem bldH : Tryz.prog.info? 162 = some (Classical.choose bldI) ∧ (Classical.choose bldI).size ≠ 0 := Classical.choose_spec bldI
theorem bldL : liesAt Tryz.prog Tryz.prog.depth 162 (2 / Tryz.prog.cellsOf 162) 0 162 1 = true := by kernel_rfl
theorem toB_size (l : List UInt8) : (toB l).size = l.length := by simp [toB, ByteArray.size]
theorem l_Itoa (i : Nat) (hi : i < 100) : Con Tryz.prog 107 [.int .i64 (i : Int)] [] [] Unit (fun _ => .string (toB (Lib.decDigits i))) (fun _ => []) (fun _ => []) := con_same (fun w => Tryz.strconv_Itoa_small i hi w)

theorem fa162_0 : FA Tryz.prog 162 0 0 := fun b o w => by kernel_rfl
theorem fa162_1 : FA Tryz.prog 162 1 1 := fun b o w => by kernel_rfl
theorem inf5 : (Tryz.prog.info? 5).map (fun i => (i.zero, i.size, i.bytes)) = some (some (.int .u8 0), 1, 1) := by kernel_rfl
set_option maxRecDepth 100000 in
theorem c_bCheck0 (b : Nat) (v : Value) : Con Tryz.prog 140 [.pointer (some ⟨b, 0, none⟩)] [box b 162 [.pointer none, v]] [] Unit (fun _ => .tuple #[]) (fun _ => [box b 162 [.pointer (some ⟨b, 0, none⟩), v]]) (fun _ => []) := by
 refine con Tryz.func140 rfl Tryz.ntmps140 rfl ?_
 intro M0 F0 w0
 refine cs ?_
 refine cr ?_
 refine ls (op (p_move rfl) rfl) ?_
 refine ls (op (p_nilck rfl) rfl) ?_
 refine ls (op (p_fa fa162_0 rfl) rfl) ?_
 refine ls (o_ld Tryz.isAgg159 rfl (by repeat' constructor) (by repeat' constructor) rfl) ?_
 refine ls (op (p_ptrnil0 Tryz.underlying159 rfl rfl) rfl) ?_
 refine ln ?_
 refine nthen ?_
 refine cc rfl (fun h => ?_) (fun h => by cases h)
 refine cr ?_
 refine ls (op (p_move rfl) rfl) ?_
 refine ls (op (p_move rfl) rfl) ?_
 refine ls (o_tou Tryz.underlying159 Tryz.underlying218 bldH.1 bldH.2 rfl (by repeat' constructor) (by simp) rfl) ?_
 refine ls (op (p_noesc Tryz.func162 (by kernel_rfl) (by kernel_rfl) (by kernel_rfl) (by kernel_rfl) rfl) rfl) ?_
 refine ls (o_fromu Tryz.underlying218 Tryz.underlying159 bldH.1 rfl (by repeat' constructor) bldL rfl) ?_
 refine ls (op (p_nilck rfl) rfl) ?_
 refine ls (op (p_fa fa162_0 rfl) rfl) ?_
 refine ls (o_st rfl Tryz.sizeOf159 rfl rfl rfl rfl rfl (by repeat' constructor) (by repeat' constructor) (by repeat' constructor)) ?_
 refine ln ?_
 refine rret (is := [0]) () (Or.inr rfl) Res.d (rfl) rfl (by repeat' (first | constructor | apply Sub.suf))

set_option maxRecDepth 100000 in
theorem c_bCheck1 (b : Nat) (v : Value) : Con Tryz.prog 140 [.pointer (some ⟨b, 0, none⟩)] [box b 162 [.pointer (some ⟨b, 0, none⟩), v]] [] Unit (fun _ => .tuple #[]) (fun _ => [box b 162 [.pointer (some ⟨b, 0, none⟩), v]]) (fun _ => []) := by
 refine con Tryz.func140 rfl Tryz.ntmps140 rfl ?_
 intro M0 F0 w0
 refine cs ?_
 refine cr ?_
 refine ls (op (p_move rfl) rfl) ?_
 refine ls (op (p_nilck rfl) rfl) ?_
 refine ls (op (p_fa fa162_0 rfl) rfl) ?_
 refine ls (o_ld Tryz.isAgg159 rfl (by repeat' constructor) (by repeat' constructor) rfl) ?_
 refine ls (op (p_ptrnil Tryz.underlying159 rfl rfl) rfl) ?_
 refine ln ?_
 refine nthen ?_
 refine cc rfl (fun h => by cases h) (fun h => ?_)
 refine cs ?_
 refine cr ?_
 refine ls (op (p_move rfl) rfl) ?_
 refine ls (op (p_nilck rfl) rfl) ?_
 refine ls (op (p_fa fa162_0 rfl) rfl) ?_
 refine ls (o_ld Tryz.isAgg159 rfl (by repeat' constructor) (by repeat' constructor) rfl) ?_
 refine ls (op (p_move rfl) rfl) ?_
 refine ls (op (p_ptrneS Tryz.underlying159 bldH.1 rfl rfl) rfl) ?_
 refine ln ?_
 refine nthen ?_
 refine cc rfl (fun h => by cases h) (fun h => ?_)
 refine cskip ?_
 refine rret (is := [0]) () (Or.inr rfl) Res.d (rfl) rfl (by repeat' (first | constructor | apply Sub.suf))

theorem c_bCheck (u : Bool) (b : Nat) (v : Value) : Con Tryz.prog 140 [.pointer (some ⟨b, 0, none⟩)] [box b 162 [(.pointer (if u then some ⟨b, 0, none⟩ else none)), v]] [] Unit (fun _ => .tuple #[]) (fun _ => [box b 162 [.pointer (some ⟨b, 0, none⟩), v]]) (fun _ => []) := by
 cases u
 ·
  exact c_bCheck0 b v
 ·
  exact c_bCheck1 b v

set_option maxRecDepth 100000 in
theorem c_bWrite (u : Bool) (b : Nat) (A : Option Addr) (c : Nat) (l : List UInt8) (s : ByteArray) (l' : List UInt8) (hl' : l ++ ofB s = l') (hl : l.length + s.size ≤ 140737488355328) : Con Tryz.prog 106 [.pointer (some ⟨b, 0, none⟩), .string s] [box b 162 [(.pointer (if u then some ⟨b, 0, none⟩ else none)), .slice A l.length c], row 5 A c l] [] {q : Option Addr × Nat // l' = [] → A = none → q.1 = none} (fun _ => .tuple #[.int .i64 (s.size : Int), .nilIface]) (fun q => [box b 162 [.pointer (some ⟨b, 0, none⟩), .slice q.1.1 l'.length q.1.2], row 5 q.1.1 q.1.2 l']) (fun _ => []) := by
 subst hl'
 refine con Tryz.func106 rfl Tryz.ntmps106 rfl ?_
 intro M0 F0 w0
 refine cs ?_
 refine cr ?_
 refine ls (op (p_asg rfl) rfl) ?_
 refine ls (op (p_asg rfl) rfl) ?_
 refine ln ?_
 refine nthen ?_
 refine cs ?_
 refine cr ?_
 refine ls (op (p_move rfl) rfl) ?_
 refine ls (o_call (is := [0]) Tryz.call140 (c_bCheck u b (.slice A l.length c)) rfl rfl (by repeat' (first | constructor | apply Sub.suf)) rfl) ?_
 refine le ?_; intro x7
 refine ln ?_
 refine nthen ?_
 refine cs ?_
 refine cr ?_
 refine ls (op (p_move rfl) rfl) ?_
 refine ls (op (p_move rfl) rfl) ?_
 refine ls (op (p_nilck rfl) rfl) ?_
 refine ls (op (p_fa fa162_1 rfl) rfl) ?_
 refine ls (o_ld Tryz.isAgg160 rfl (by repeat' constructor) (by repeat' constructor) rfl) ?_
 refine ls (op (p_move rfl) rfl) ?_
 refine ls (o_appS (i := 1) Tryz.underlying160 Tryz.underlying9 inf5 rfl rfl hl rfl rfl) ?_
 refine le ?_; rintro ⟨⟨A2, c2⟩, hA2⟩
 refine ls (op (p_nilck rfl) rfl) ?_
 refine ls (op (p_fa fa162_1 rfl) rfl) ?_
 refine ls (o_st rfl Tryz.sizeOf160 rfl rfl rfl rfl rfl (by repeat' constructor) (by repeat' constructor) (by repeat' constructor)) ?_
 refine ln ?_
 refine nthen ?_
 refine cs ?_
 refine cr ?_
 refine ls (op (p_move rfl) rfl) ?_
 refine ls (op (p_lens rfl Tryz.underlying9) rfl) ?_
 refine ls (op (p_asg rfl) rfl) ?_
 refine ls (op (p_asg rfl) rfl) ?_
 refine ln ?_
 refine nthen ?_
 refine cret ?_
 refine xret (fun _ _ h => h) ?_
 refine rret (is := [1, 0]) ⟨(A2, c2), hA2⟩ (Or.inl rfl) (Res.t rfl (Res.t rfl Res.d)) (rfl) rfl (by repeat' (first | constructor | apply Sub.suf))

set_option maxRecDepth 100000 in
theorem c_bString (v : Value) (b : Nat) (A : Option Addr) (c : Nat) (l : List UInt8) (hA : l = [] → A = none) (hl : l.length ≤ 140737488355328) : Con Tryz.prog 109 [.pointer (some ⟨b, 0, none⟩)] [box b 162 [v, .slice A l.length c], row 5 A c l] [] Unit (fun _ => .string (toB l)) (fun _ => []) (fun _ => []) := by
 refine con Tryz.func109 rfl Tryz.ntmps109 rfl ?_
 intro M0 F0 w0
 refine cs ?_
 refine cr ?_
 refine ls (op (p_asg rfl) rfl) ?_
 refine ln ?_
 refine nthen ?_
 refine cs ?_
 rcases Classical.em (l = []) with he | he
 ·
  obtain rfl := hA he
  subst he
  refine cd [10] [(3, b, 1, _), (8, b, 1, _)] TryzX.mixed (TOk.t (isBoxS (by repeat' constructor) (k := 1) (by repeat (first | exact Cut.d | apply Cut.t | apply Cut.s))) (TOk.t (isBoxS (by repeat' constructor) (k := 1) (by repeat (first | exact Cut.d | apply Cut.t | apply Cut.s))) TOk.d)) ?_
  refine tk 0 rfl (by kernel_rfl) (fun _ _ _ h => h) gnone (TTany _) (p_move rfl) rfl ?_
  refine tk 1 rfl (by kernel_rfl) (fun _ _ _ h => h) gnone (TTany _) (p_nilck rfl) rfl ?_
  refine tk 2 rfl (by kernel_rfl) (fun _ _ _ h => h) gnone (TTany _) (p_fa fa162_1 rfl) rfl ?_
  refine tk 3 rfl (by kernel_rfl) (fun _ _ _ h => h) gnone (TTat (List.Mem.head _)) (p_ld Tryz.isAgg160 rfl) rfl ?_
  refine tk 4 rfl (by kernel_rfl) (fun _ _ _ h => h) gnone (TTany _) (p_usdn rfl) rfl ?_
  refine tk 5 rfl (by kernel_rfl) (fun _ _ _ h => h) gnone (TTany _) (p_move rfl) rfl ?_
  refine tk 6 rfl (by kernel_rfl) (fun _ _ _ h => h) gnone (TTany _) (p_nilck rfl) rfl ?_
  refine tk 7 rfl (by kernel_rfl) (fun _ _ _ h => h) gnone (TTany _) (p_fa fa162_1 rfl) rfl ?_
  refine tk 8 rfl (by kernel_rfl) (fun _ _ _ h => h) gnone (TTat (List.Mem.tail _ (List.Mem.head _))) (p_ld Tryz.isAgg160 rfl) rfl ?_
  refine tk 9 rfl (by kernel_rfl) (fun _ _ _ h => h) gnone (TTany _) (p_lenl rfl Tryz.underlying160) rfl ?_
  refine df 10 (by kernel_rfl) ?_
  refine doR rfl (op (p_usn rfl rfl) rfl) (TOk.x (by kernel_rfl) (TOk.x (by kernel_rfl) TOk.d)) ?_
  refine tk 11 rfl (by kernel_rfl) (fun _ _ _ h => h) gnone (TTany _) (p_asg rfl) rfl ?_
  refine dn (by kernel_rfl) ?_
  refine nthen ?_
  refine cret ?_
  refine xret (fun _ _ h => h) ?_
  refine rret (is := []) () (Or.inl rfl) (Res.t rfl Res.d) (rfl) rfl (by repeat' (first | constructor | apply Sub.suf))
 ·
  refine cpure (St.rowcap (α := UInt8) (e := 5) (by repeat' constructor)) ?_
  intro hcap
  have hc0 : c ≠ 0 := by have := List.length_pos_iff.2 he; omega
  refine rowC (α := UInt8) (e := 5) (by repeat' constructor) he fun g hg => ?_
  subst hg
  refine cd [10] [(3, b, 1, _), (8, b, 1, _)] TryzX.mixed (TOk.t (isBoxS (by repeat' constructor) (k := 1) (by repeat (first | exact Cut.d | apply Cut.t | apply Cut.s))) (TOk.t (isBoxS (by repeat' constructor) (k := 1) (by repeat (first | exact Cut.d | apply Cut.t | apply Cut.s))) TOk.d)) ?_
  refine tk 0 rfl (by kernel_rfl) (fun _ _ _ h => h) gnone (TTany _) (p_move rfl) rfl ?_
  refine tk 1 rfl (by kernel_rfl) (fun _ _ _ h => h) gnone (TTany _) (p_nilck rfl) rfl ?_
  refine tk 2 rfl (by kernel_rfl) (fun _ _ _ h => h) gnone (TTany _) (p_fa fa162_1 rfl) rfl ?_
  refine tk 3 rfl (by kernel_rfl) (fun _ _ _ h => h) gnone (TTat (List.Mem.head _)) (p_ld Tryz.isAgg160 rfl) rfl ?_
  refine tk 4 rfl (by kernel_rfl) (fun _ _ _ h => h) gnone (TTany _) (p_usd hc0 rfl) rfl ?_
  refine tk 5 rfl (by kernel_rfl) (fun _ _ _ h => h) gnone (TTany _) (p_move rfl) rfl ?_
  refine tk 6 rfl (by kernel_rfl) (fun _ _ _ h => h) gnone (TTany _) (p_nilck rfl) rfl ?_
  refine tk 7 rfl (by kernel_rfl) (fun _ _ _ h => h) gnone (TTany _) (p_fa fa162_1 rfl) rfl ?_
  refine tk 8 rfl (by kernel_rfl) (fun _ _ _ h => h) gnone (TTat (List.Mem.tail _ (List.Mem.head _))) (p_ld Tryz.isAgg160 rfl) rfl ?_
  refine tk 9 rfl (by kernel_rfl) (fun _ _ _ h => h) gnone (TTany _) (p_lenl rfl Tryz.underlying160) rfl ?_
  refine df 10 (by kernel_rfl) ?_
  refine doR rfl (o_ustr (i := 1) Tryz.underlying198 (by kernel_rfl) he hl rfl rfl rfl rfl) (TOk.x (by kernel_rfl) (TOk.x (by kernel_rfl) TOk.d)) ?_
  refine tk 11 rfl (by kernel_rfl) (fun _ _ _ h => h) gnone (TTany _) (p_asg rfl) rfl ?_
  refine dn (by kernel_rfl) ?_
  refine nthen ?_
  refine cret ?_
  refine xret (fun _ _ h => h) ?_
  refine rret (is := []) () (Or.inl rfl) (Res.t rfl Res.d) (rfl) rfl (by repeat' (first | constructor | apply Sub.suf))

set_option maxRecDepth 100000 in
theorem c_lineText (l : List ByteArray) (A : Option Addr) (c : Nat) (hl : l.length ≤ 2000000) (hB : (lineT l).length ≤ 100000000) : Con Tryz.prog 108 [.slice A l.length c] [] [slA A l] Unit (fun _ => .string (toB (lineT l))) (fun _ => []) (fun _ => []) := by
 refine con Tryz.func108 rfl Tryz.ntmps108 rfl ?_
 intro M0 F0 w0
 refine cs ?_
 refine cr ?_
 refine ls (op (p_asg rfl) rfl) ?_
 refine ln ?_
 refine nthen ?_
 refine cs ?_
 refine cr ?_
 refine ls (o_alloc Tryz.zeroValue162 rfl rfl) ?_
 refine le ?_; intro b3
 refine ln ?_
 refine nthen ?_
 refine cs ?_
 refine cs ?_
 refine cmono (fun a w h => nilRow (α := UInt8) 5 h) ?_
 refine cr ?_
 refine ls (op (p_move rfl) rfl) ?_
 refine ls (op (p_lenl rfl Tryz.underlying37) rfl) ?_
 refine ls (op (p_move rfl) rfl) ?_
 refine ln ?_
 refine nthen ?_
 refine cb ?_
 refine cl (ι := {q : Nat × Bool × (Option Addr × Nat) // q.1 ≤ l.length ∧ (lineT (l.take q.1) = [] → q.2.2.1 = none)}) (fun i => St M0 F0 w0 17 [(3, .pointer (some ⟨b3, 0, none⟩)), (6, .slice A l.length c), (7, .int .i64 (l.length : Int)), (8, .int .i64 (i.1.1 : Int))] [box b3 162 [(.pointer (if i.1.2.1 then some ⟨b3, 0, none⟩ else none)), .slice i.1.2.2.1 (lineT (l.take i.1.1)).length i.1.2.2.2], row 5 i.1.2.2.1 i.1.2.2.2 (lineT (l.take i.1.1))] [slA A l]) (fun i => l.length - i.1.1) ⟨(0, false, (none, 0)), Nat.zero_le _, fun _ => rfl⟩ (wk (is := [1, 0]) (by repeat (first | exact subσ.nil _ | refine subσ.cons rfl ?_)) rfl (by repeat' (first | constructor | apply Sub.suf))) ?_
 rintro ⟨⟨k, u, ⟨A2, c2⟩⟩, hk, hnil⟩
 refine cmono (S' := St M0 F0 w0 17 [(3, .pointer (some ⟨b3, 0, none⟩)), (6, .slice A l.length c), (7, .int .i64 (l.length : Int)), (8, .int .i64 (k : Int))] [box b3 162 [(.pointer (if u then some ⟨b3, 0, none⟩ else none)), .slice A2 (lineT (l.take k)).length c2], row 5 A2 c2 (lineT (l.take k))] [slA A l]) (fun _ _ h => h) ?_
 refine cs ?_
 refine cr ?_
 refine ls (op (p_icmp rfl rfl rfl) rfl) ?_
 refine ln ?_
 refine nthen ?_
 refine cs ?_
 refine cc rfl ?_ ?_
 ·
  intro h9
  dsimp only at hk hnil
  try simp only [decide_eq_true_eq, decide_eq_false_iff_not, Bool.not_eq_true', Bool.not_eq_false', Int.not_lt, Int.not_le, ge_iff_le, Bool.not_true, Bool.not_false] at h9
  have hk1 : k < l.length := by omega
  have hfs : lineT (l.take (k + 1)) = lineT (l.take k) ++ (ofB l[k] ++ [10]) := flat_succ (fun s => ofB s ++ [10]) hk1
  have hfl : (lineT (l.take (k + 1))).length ≤ (lineT l).length := flat_le _ l (k + 1)
  have hsz : (lineT (l.take k)).length + (l[k].size + 1) ≤ 100000000 := by rw [hfs, List.length_append, List.length_append, ofB_length, List.length_singleton] at hfl; omega
  have hst : lineT (l.take k) ++ ofB (l[k] ++ (⟨#[10]⟩ : ByteArray)) = lineT (l.take (k + 1)) := by rw [hfs, ofB_append]; rfl
  have hs1 : (⟨#[10]⟩ : ByteArray).size = 1 := rfl
  refine cskip ?_
  refine nthen ?_
  refine cs ?_
  refine cb ?_
  refine cs ?_
  refine elC (by repeat' constructor) k (List.getElem?_eq_getElem (l := l) hk1) ?_; rintro zbp zop zyp hAp
  refine cr ?_
  refine ls (op (p_ia k hAp hk1 rfl Tryz.underlying37 Tryz.sizeOf9 rfl rfl) rfl) ?_
  refine ls (o_ldi Tryz.isAgg9 rfl (by repeat' constructor) 0 rfl (by repeat (first | exact Cut.d | apply Cut.t | apply Cut.s)) rfl) ?_
  refine ls (op (p_asg rfl) rfl) ?_
  refine ln ?_
  refine nthen ?_
  refine cr ?_
  refine ls (op (p_move rfl) rfl) ?_
  refine ls (op (p_cat rfl rfl (by rw [hs1]; omega)) rfl) ?_
  refine ls (o_call (is := [0, 0]) Tryz.call106 (c_bWrite u b3 A2 c2 (lineT (l.take k)) (l[k] ++ (⟨#[10]⟩ : ByteArray)) _ hst (by rw [ByteArray.size_append, hs1]; omega)) rfl rfl (by repeat' (first | constructor | apply Sub.suf)) rfl) ?_
  refine le ?_; rintro ⟨⟨A3, c3⟩, hA3⟩
  dsimp only at hA3
  refine ln ?_
  refine nblock ?_
  refine nthen ?_
  refine cr ?_
  refine ls (op (p_add rfl rfl (by omega)) rfl) ?_
  refine ls (op (p_move rfl) rfl) ?_
  refine ln ?_
  refine nnext ⟨(k + 1, true, (A3, c3)), hk1, fun h => hA3 h (hnil (by rw [hfs] at h; exact (List.append_eq_nil_iff.1 h).1))⟩ (by dsimp only; omega) (wk (is := [0, 0]) (by repeat (first | exact subσ.nil _ | refine subσ.cons rfl ?_)) rfl (by repeat' (first | constructor | apply Sub.suf)))
 ·
  intro h9
  dsimp only at hk hnil
  try simp only [decide_eq_true_eq, decide_eq_false_iff_not, Bool.not_eq_true', Bool.not_eq_false', Int.not_lt, Int.not_le, ge_iff_le, Bool.not_true, Bool.not_false] at h9
  have htk : l.take k = l := List.take_of_length_le (by omega)
  refine cexit ?_
  refine xthen ?_
  refine xthen ?_
  refine xblock ?_
  refine nthen ?_
  refine cs ?_
  refine cr ?_
  refine ls (o_call (is := [0, 0]) Tryz.call109 (c_bString _ b3 A2 c2 (lineT (l.take k)) hnil (by rw [htk]; omega)) rfl rfl (by repeat' (first | constructor | apply Sub.suf)) rfl) ?_
  refine le ?_; intro x16
  refine ls (op (p_asg rfl) rfl) ?_
  refine ln ?_
  refine nthen ?_
  refine cret ?_
  refine xret (fun _ _ h => h) ?_
  refine rret (is := []) () (Or.inl rfl) (Res.t rfl Res.d) ?_ rfl (by repeat' (first | constructor | apply Sub.suf))
  simp only [packV, htk]

set_option maxRecDepth 100000 in
theorem c_tText (p b : Nat) (T : List File) (hn : T.length ≤ 2000000) (hf : Tfit T) (hB : (textT T).length ≤ 100000000) (Γt : List Asn) (hI : ∀ x ∈ T, Con Tryz.prog 107 [.int .i64 (x.2.length : Int)] [] Γt Unit (fun _ => .string (toB (Lib.decDigits x.2.length))) (fun _ => []) (fun _ => [])) : Con Tryz.prog 52 [.pointer (some ⟨p, 0, none⟩)] [box p 120 [.map (some b)], tr b T] Γt Unit (fun _ => .string (toB (textT T))) (fun _ => [box p 120 [.map (some b)], tr b T]) (fun _ => []) := by
 refine con Tryz.func52 rfl Tryz.ntmps52 rfl ?_
 intro M0 F0 w0
 refine cs ?_
 refine cr ?_
 refine ls (op (p_asg rfl) rfl) ?_
 refine ln ?_
 refine nthen ?_
 refine cs ?_
 refine cr ?_
 refine ls (o_alloc Tryz.zeroValue162 rfl rfl) ?_
 refine le ?_; intro b3
 refine ln ?_
 refine nthen ?_
 refine cs ?_
 refine cs ?_
 refine cpure (St.tr (b := b) (by repeat' constructor)) ?_
 intro hso
 refine cmono (fun a w h => nilRow (α := UInt8) 5 h) ?_
 refine cr ?_
 refine ls (op (p_move rfl) rfl) ?_
 refine ls (o_call (is := [2, 2]) Tryz.call84 (c_tNames p b T hn) rfl rfl (by repeat' (first | constructor | apply Sub.suf)) rfl) ?_
 refine le ?_; rintro ⟨A8, c8⟩
 refine lmono (fun a w h => Go.Sx.freeze (i := 0) rfl h) ?_
 refine ls (op (p_lenl rfl Tryz.underlying37) rfl) ?_
 refine ls (op (p_move rfl) rfl) ?_
 refine ln ?_
 refine nthen ?_
 refine cb ?_
 refine cl (ι := {q : Nat × Bool × (Option Addr × Nat) // q.1 ≤ T.length ∧ (textT (T.take q.1) = [] → q.2.2.1 = none)}) (fun i => St M0 F0 w0 33 [(0, .pointer (some ⟨p, 0, none⟩)), (3, .pointer (some ⟨b3, 0, none⟩)), (8, .slice A8 T.length c8), (9, .int .i64 (T.length : Int)), (10, .int .i64 (i.1.1 : Int))] [box b3 162 [(.pointer (if i.1.2.1 then some ⟨b3, 0, none⟩ else none)), .slice i.1.2.2.1 (textT (T.take i.1.1)).length i.1.2.2.2], row 5 i.1.2.2.1 i.1.2.2.2 (textT (T.take i.1.1)), box p 120 [.map (some b)], tr b T] (slA A8 (T.map (·.1)) :: Γt)) (fun i => T.length - i.1.1) ⟨(0, false, (none, 0)), Nat.zero_le _, fun _ => rfl⟩ (wk (is := [3, 2, 0, 0]) (by repeat (first | exact subσ.nil _ | refine subσ.cons rfl ?_)) rfl (by repeat' (first | constructor | apply Sub.suf))) ?_
 rintro ⟨⟨k, u, ⟨A2, c2⟩⟩, hk, hnil⟩
 refine cmono (S' := St M0 F0 w0 33 [(0, .pointer (some ⟨p, 0, none⟩)), (3, .pointer (some ⟨b3, 0, none⟩)), (8, .slice A8 T.length c8), (9, .int .i64 (T.length : Int)), (10, .int .i64 (k : Int))] [box b3 162 [(.pointer (if u then some ⟨b3, 0, none⟩ else none)), .slice A2 (textT (T.take k)).length c2], row 5 A2 c2 (textT (T.take k)), box p 120 [.map (some b)], tr b T] (slA A8 (T.map (·.1)) :: Γt)) (fun _ _ h => h) ?_
 refine cs ?_
 refine cr ?_
 refine ls (op (p_icmp rfl rfl rfl) rfl) ?_
 refine ln ?_
 refine nthen ?_
 refine cs ?_
 refine cc rfl ?_ ?_
 ·
  intro h11
  dsimp only at hk hnil
  try simp only [decide_eq_true_eq, decide_eq_false_iff_not, Bool.not_eq_true', Bool.not_eq_false', Int.not_lt, Int.not_le, ge_iff_le, Bool.not_true, Bool.not_false] at h11
  have hk1 : k < T.length := by omega
  have hk2 : k < (T.map (·.1)).length := by simpa using hk1
  have hnm : (T.map (·.1))[k] = T[k].1 := List.getElem_map ..
  have hmem : T[k] ∈ T := List.getElem_mem hk1
  have hgl : getL T T[k].1 = T[k].2 := by simp [getL, (getT_some (k := T[k].1) (l := T[k].2) hso).2 hmem]
  have hfs : textT (T.take (k + 1)) = textT (T.take k) ++ fileT T[k] := flat_succ fileT hk1
  have hfl : (textT (T.take (k + 1))).length ≤ (textT T).length := flat_le _ T (k + 1)
  have hfx : (fileT T[k]).length = T[k].1.size + 1 + (Lib.decDigits T[k].2.length).length + 1 + (lineT T[k].2).length := by simp only [fileT, List.length_append, ofB_length, List.length_singleton]
  have hsz : (textT (T.take k)).length + (T[k].1.size + 1 + (Lib.decDigits T[k].2.length).length + 1 + (lineT T[k].2).length) ≤ 100000000 := by rw [hfs, List.length_append, hfx] at hfl; omega
  have hs1 : (⟨#[10]⟩ : ByteArray).size = 1 := rfl
  have hs2 : (⟨#[32]⟩ : ByteArray).size = 1 := rfl
  have hst : textT (T.take k) ++ ofB ((((T[k].1 ++ (⟨#[32]⟩ : ByteArray)) ++ toB (Lib.decDigits T[k].2.length)) ++ (⟨#[10]⟩ : ByteArray)) ++ toB (lineT T[k].2)) = textT (T.take (k + 1)) := by rw [hfs, ofB_append, ofB_append, ofB_append, ofB_append]; rfl
  refine cskip ?_
  refine nthen ?_
  refine cs ?_
  refine cb ?_
  refine cs ?_
  refine elC (by repeat' constructor) k (List.getElem?_eq_getElem (l := (T.map (·.1))) hk2) ?_; rintro zbp zop zyp hAp
  refine cr ?_
  refine ls (op (p_ia k hAp hk1 rfl Tryz.underlying37 Tryz.sizeOf9 rfl rfl) rfl) ?_
  refine ls (o_ldi Tryz.isAgg9 rfl (by repeat' constructor) 0 rfl (by repeat (first | exact Cut.d | apply Cut.t | apply Cut.s)) rfl) ?_
  refine ls (op (p_asg rfl) rfl) ?_
  refine ln ?_
  refine nthen ?_
  refine cs ?_
  rw [hnm]
  refine cr ?_
  refine ls (op (p_move rfl) rfl) ?_
  refine ls (op (p_nilck rfl) rfl) ?_
  refine ls (op (p_fa fa120_0 rfl) rfl) ?_
  refine ls (o_ld Tryz.isAgg118 rfl (by repeat' constructor) (by repeat' constructor) rfl) ?_
  refine ls (op (p_move rfl) rfl) ?_
  refine ls (o_look1 Tryz.underlying118 Tryz.underlying9 Tryz.zeroValue37 rfl rfl (by repeat' constructor) rfl) ?_
  refine le ?_; rintro y19
  rw [hgl]
  refine ls (op (p_asg rfl) rfl) ?_
  refine ln ?_
  refine nthen ?_
  refine cr ?_
  refine ls (op (p_move rfl) rfl) ?_
  refine ls (op (p_cat rfl rfl (by rw [hs2]; omega)) rfl) ?_
  refine ls (op (p_move rfl) rfl) ?_
  refine ls (op (p_lenl rfl Tryz.underlying37) rfl) ?_
  refine ls (o_call (is := []) Tryz.call107 (hI T[k] hmem) rfl rfl (by repeat' (first | constructor | apply Sub.suf)) rfl) ?_
  refine le ?_; intro x24
  refine ls (op (p_cat rfl rfl (by rw [ByteArray.size_append, toB_size, hs2]; omega)) rfl) ?_
  refine ls (op (p_cat rfl rfl (by rw [ByteArray.size_append, ByteArray.size_append, toB_size, hs1, hs2]; omega)) rfl) ?_
  refine ls (op (p_move rfl) rfl) ?_
  refine ls (o_call (is := []) Tryz.call108 (c_lineText T[k].2 y19.1 y19.2 (hf _ hmem) (by omega)) rfl rfl (by repeat' (first | constructor | apply Sub.suf)) rfl) ?_
  refine le ?_; intro x28
  refine ls (op (p_cat rfl rfl (by rw [ByteArray.size_append, ByteArray.size_append, ByteArray.size_append, toB_size, toB_size, hs1, hs2]; omega)) rfl) ?_
  refine ls (o_call (is := [0, 0]) Tryz.call106 (c_bWrite u b3 A2 c2 (textT (T.take k)) _ _ hst (by rw [ByteArray.size_append, ByteArray.size_append, ByteArray.size_append, ByteArray.size_append, toB_size, toB_size, hs1, hs2]; omega)) rfl rfl (by repeat' (first | constructor | apply Sub.suf)) rfl) ?_
  refine le ?_; rintro ⟨⟨A3, c3⟩, hA3⟩
  dsimp only at hA3
  refine ln ?_
  refine nblock ?_
  refine nthen ?_
  refine cr ?_
  refine ls (op (p_add rfl rfl (by omega)) rfl) ?_
  refine ls (op (p_move rfl) rfl) ?_
  refine ln ?_
  refine nnext ⟨(k + 1, true, (A3, c3)), hk1, fun h => hA3 h (hnil (by rw [hfs] at h; exact (List.append_eq_nil_iff.1 h).1))⟩ (by dsimp only; omega) (wk (is := [0, 0, 0, 0]) (by repeat (first | exact subσ.nil _ | refine subσ.cons rfl ?_)) rfl (by repeat' (first | constructor | apply Sub.suf)))
 ·
  intro h11
  dsimp only at hk hnil
  try simp only [decide_eq_true_eq, decide_eq_false_iff_not, Bool.not_eq_true', Bool.not_eq_false', Int.not_lt, Int.not_le, ge_iff_le, Bool.not_true, Bool.not_false] at h11
  have htk : T.take k = T := List.take_of_length_le (by omega)
  refine cexit ?_
  refine xthen ?_
  refine xthen ?_
  refine xblock ?_
  refine nthen ?_
  refine cs ?_
  refine cr ?_
  refine ls (o_call (is := [0, 0]) Tryz.call109 (c_bString _ b3 A2 c2 (textT (T.take k)) hnil (by rw [htk]; omega)) rfl rfl (by repeat' (first | constructor | apply Sub.suf)) rfl) ?_
  refine le ?_; intro x32
  refine ls (op (p_asg rfl) rfl) ?_
  refine ln ?_
  refine nthen ?_
  refine cret ?_
  refine xret (fun _ _ h => h) ?_
  refine rret (is := [0, 0]) () (Or.inl rfl) (Res.t rfl Res.d) ?_ rfl (by repeat' (first | constructor | apply Sub.suf))
  simp only [packV, htk]

end Go.Proofs.YtdbiillompeclaaGreatDoor.X

end
