/- OWN WORK: a part of the proof of a law of the seat YtjeampaghmcefaaGreatDoor: what the functions compute. -/
import Derived.Test.YtjeampaghmcefaaGreatDoorProg
import Derived.Test.YtjeampaghmcefaaGreatDoorXT1
import Derived.Test.YtjeampaghmcefaaGreatDoorXMp
section
set_option linter.unusedVariables false
set_option linter.unusedSimpArgs false
namespace Go.Proofs.YtjeampaghmcefaaGreatDoor.X
open Go Go.RowKit Go.Proofs Go.Sx
attribute [local irreducible] slA isA box row


set_option maxRecDepth 100000 in
theorem c_Few02 (l : List TOp) (A : Option Addr) (c : Nat) (hl : l.length ≤ 2000000) (hM : omany l ≤ 1000000000000) : Con Tryz.prog 6 [.slice A l.length c] [] [slA A l] Unit (fun _ => .int .i64 (fewO l)) (fun _ => []) (fun _ => []) := by
 refine con Tryz.func6 rfl Tryz.ntmps6 rfl ?_
 intro M0 F0 w0
 refine cs ?_
 refine cr ?_
 refine ls (op (p_asg rfl) rfl) ?_
 refine ln ?_
 refine nthen ?_
 refine cs ?_
 refine cr ?_
 refine ls (op (p_asg rfl) rfl) ?_
 refine ln ?_
 refine nthen ?_
 refine cs ?_
 refine cs ?_
 refine cr ?_
 refine ls (op (p_move rfl) rfl) ?_
 refine ls (op (p_lenl rfl Tryz.underlying22) rfl) ?_
 refine ls (op (p_move rfl) rfl) ?_
 refine ln ?_
 refine nthen ?_
 refine cb ?_
 refine cl (ι := {q : Nat × Int // q.1 ≤ l.length ∧ q.2 = ((omany (l.take q.1) : Nat) : Int)}) (fun i => St M0 F0 w0 51 [(0, .slice A l.length c), (8, .slice A l.length c), (9, .int .i64 (l.length : Int)), (10, .int .i64 (i.1.1 : Int)), (3, .int .i64 i.1.2)] [] [slA A l]) (fun i => l.length - i.1.1) ⟨(0, 0), by simp [omany]⟩ (wk0 (by repeat (first | exact subσ.nil _ | refine subσ.cons rfl ?_)) (by repeat' (first | constructor | apply Sub.suf))) ?_
 rintro ⟨⟨k, n⟩, hk, hn⟩
 refine cmono (S' := St M0 F0 w0 51 [(0, .slice A l.length c), (8, .slice A l.length c), (9, .int .i64 (l.length : Int)), (10, .int .i64 (k : Int)), (3, .int .i64 n)] [] [slA A l]) (fun _ _ h => h) ?_
 refine cs ?_
 refine cr ?_
 refine ls (op (p_icmp rfl rfl rfl) rfl) ?_
 refine ln ?_
 refine nthen ?_
 refine cs ?_
 refine cc rfl ?_ ?_
 ·
  intro h11
  dsimp only at hk hn
  try simp only [decide_eq_true_eq, decide_eq_false_iff_not, Bool.not_eq_true', Bool.not_eq_false', Int.not_lt, Int.not_le, ge_iff_le, Bool.not_true, Bool.not_false] at h11
  have hk1 : k < l.length := by omega
  have hs : omany (l.take (k + 1)) = omany (l.take k) + l[k].many := sum_take_succ (f := TOp.many) hk1
  have ht : omany (l.take (k + 1)) ≤ omany l := sum_take_le TOp.many l (k + 1)
  have hu : l[k].many = l[k].name.size + l[k].to.size + l[k].l.length + sizes l[k].l := rfl
  refine cskip ?_
  refine nthen ?_
  refine cs ?_
  refine cb ?_
  refine cs ?_
  refine elC (by repeat' constructor) k (List.getElem?_eq_getElem (l := l) hk1) ?_; rintro zbp zop zyp hAp
  refine cr ?_
  refine ls (op (p_ia k hAp hk1 rfl Tryz.underlying22 Tryz.sizeOf71 rfl rfl) rfl) ?_
  refine ls (o_ldj Tryz.isAgg71 Tryz.sizeOf71 rfl (by repeat' constructor) 0 rfl (by repeat (first | exact Cut.d | apply Cut.t | apply Cut.s)) rfl) ?_
  refine ls (o_alloc Tryz.zeroValue71 rfl rfl) ?_
  refine le ?_; intro b5
  refine ls (o_st rfl Tryz.sizeOf71 rfl rfl rfl rfl rfl (by repeat' constructor) (by repeat' constructor) (by repeat' constructor)) ?_
  refine ln ?_
  refine nthen ?_
  refine cs ?_
  refine cr ?_
  refine ls (op (p_move rfl) rfl) ?_
  refine ls (op (p_fa fa71_1 rfl) rfl) ?_
  refine ls (o_ld Tryz.isAgg9 rfl (by repeat' constructor) (by repeat' constructor) rfl) ?_
  refine ls (op (p_lens rfl Tryz.underlying9) rfl) ?_
  refine ls (op (p_fa fa71_2 rfl) rfl) ?_
  refine ls (o_ld Tryz.isAgg9 rfl (by repeat' constructor) (by repeat' constructor) rfl) ?_
  refine ls (op (p_lens rfl Tryz.underlying9) rfl) ?_
  refine ls (op (p_add rfl rfl (by omega)) rfl) ?_
  refine ls (op (p_fa fa71_3 rfl) rfl) ?_
  refine ls (o_ld Tryz.isAgg23 rfl (by repeat' constructor) (by repeat' constructor) rfl) ?_
  refine ls (op (p_lenl rfl Tryz.underlying23) rfl) ?_
  refine ls (op (p_add rfl rfl (by omega)) rfl) ?_
  refine ls (op (p_add rfl rfl (by omega)) rfl) ?_
  refine ls (op (p_asg rfl) rfl) ?_
  refine ln ?_
  refine nthen ?_
  refine cs ?_
  refine cr ?_
  refine ls (op (p_fa fa71_3 rfl) rfl) ?_
  refine ls (o_ld Tryz.isAgg23 rfl (by repeat' constructor) (by repeat' constructor) rfl) ?_
  refine ls (op (p_lenl rfl Tryz.underlying23) rfl) ?_
  refine ls (op (p_move rfl) rfl) ?_
  refine ln ?_
  refine nthen ?_
  refine cb ?_
  refine cl (ι := {q : Nat × Int // q.1 ≤ l[k].l.length ∧ q.2 = (n + (((l[k].name.size : Int) + l[k].to.size) + l[k].l.length)) + sizes (l[k].l.take q.1)}) (fun i => St M0 F0 w0 51 [(0, .slice A l.length c), (8, .slice A l.length c), (9, .int .i64 (l.length : Int)), (10, .int .i64 (k : Int)), (5, .pointer (some ⟨b5, 0, none⟩)), (28, .slice zyp.1 l[k].l.length zyp.2), (29, .int .i64 (l[k].l.length : Int)), (30, .int .i64 (i.1.1 : Int)), (3, .int .i64 i.1.2)] [box b5 71 (Rp.enc l[k] zyp)] [slA A l, slA zyp.1 l[k].l]) (fun i => l[k].l.length - i.1.1) ⟨(0, (n + (((l[k].name.size : Int) + l[k].to.size) + l[k].l.length))), by simp [sizes]⟩ (wk0 (by repeat (first | exact subσ.nil _ | refine subσ.cons rfl ?_)) (by repeat' (first | constructor | apply Sub.suf))) ?_
  rintro ⟨⟨j, x⟩, hj, hx⟩
  refine cmono (S' := St M0 F0 w0 51 [(0, .slice A l.length c), (8, .slice A l.length c), (9, .int .i64 (l.length : Int)), (10, .int .i64 (k : Int)), (5, .pointer (some ⟨b5, 0, none⟩)), (28, .slice zyp.1 l[k].l.length zyp.2), (29, .int .i64 (l[k].l.length : Int)), (30, .int .i64 (j : Int)), (3, .int .i64 x)] [box b5 71 (Rp.enc l[k] zyp)] [slA A l, slA zyp.1 l[k].l]) (fun _ _ h => h) ?_
  refine cs ?_
  refine cr ?_
  refine ls (op (p_icmp rfl rfl rfl) rfl) ?_
  refine ln ?_
  refine nthen ?_
  refine cs ?_
  refine cc rfl ?_ ?_
  ·
   intro h31
   dsimp only at hj hx
   try simp only [decide_eq_true_eq, decide_eq_false_iff_not, Bool.not_eq_true', Bool.not_eq_false', Int.not_lt, Int.not_le, ge_iff_le, Bool.not_true, Bool.not_false] at h31
   have hj1 : j < l[k].l.length := by omega
   have ej1 := sizes_succ hj1
   have ej2 := sizes_le l[k].l (j + 1)
   refine cskip ?_
   refine nthen ?_
   refine cs ?_
   refine cb ?_
   refine cs ?_
   refine elC (by repeat' constructor) j (List.getElem?_eq_getElem (l := l[k].l) hj1) ?_; rintro zbq zoq zyq hAq
   refine cr ?_
   refine ls (op (p_ia j hAq hj1 rfl Tryz.underlying23 Tryz.sizeOf9 rfl rfl) rfl) ?_
   refine ls (o_ldi Tryz.isAgg9 rfl (by repeat' constructor) 0 rfl (by repeat (first | exact Cut.d | apply Cut.t | apply Cut.s)) rfl) ?_
   refine ls (op (p_asg rfl) rfl) ?_
   refine ln ?_
   refine nthen ?_
   refine cr ?_
   refine ls (op (p_move rfl) rfl) ?_
   refine ls (op (p_move rfl) rfl) ?_
   refine ls (op (p_lens rfl Tryz.underlying9) rfl) ?_
   refine ls (op (p_add rfl rfl (by omega)) rfl) ?_
   refine ls (op (p_asg rfl) rfl) ?_
   refine ln ?_
   refine nblock ?_
   refine nthen ?_
   refine cr ?_
   refine ls (op (p_add rfl rfl (by omega)) rfl) ?_
   refine ls (op (p_move rfl) rfl) ?_
   refine ln ?_
   refine nnext ⟨(j + 1, x + (l[k].l[j].size : Int)), hj1, by dsimp only; omega⟩ (by dsimp only; omega) (wk0 (by repeat (first | exact subσ.nil _ | refine subσ.cons rfl ?_)) (by repeat' (first | constructor | apply Sub.suf)))
  ·
   intro h31
   dsimp only at hj hx
   try simp only [decide_eq_true_eq, decide_eq_false_iff_not, Bool.not_eq_true', Bool.not_eq_false', Int.not_lt, Int.not_le, ge_iff_le, Bool.not_true, Bool.not_false] at h31
   rw [List.take_of_length_le (by omega)] at hx
   refine cexit ?_
   refine xthen ?_
   refine xthen ?_
   refine xblock ?_
   refine nblock ?_
   refine nthen ?_
   refine cr ?_
   refine ls (op (p_add rfl rfl (by omega)) rfl) ?_
   refine ls (op (p_move rfl) rfl) ?_
   refine ln ?_
   refine nnext ⟨(k + 1, x), hk1, by dsimp only; omega⟩ (by dsimp only; omega) (wk (is := []) (by repeat (first | exact subσ.nil _ | refine subσ.cons rfl ?_)) rfl (by repeat' (first | constructor | apply Sub.suf)))
 ·
  intro h11
  dsimp only at hk hn
  try simp only [decide_eq_true_eq, decide_eq_false_iff_not, Bool.not_eq_true', Bool.not_eq_false', Int.not_lt, Int.not_le, ge_iff_le, Bool.not_true, Bool.not_false] at h11
  rw [List.take_of_length_le (by omega)] at hn
  refine cexit ?_
  refine xthen ?_
  refine xthen ?_
  refine xblock ?_
  refine nthen ?_
  refine cs ?_
  refine cs ?_
  refine cr ?_
  refine ls (op (p_move rfl) rfl) ?_
  refine ls (op (p_lenl rfl Tryz.underlying22) rfl) ?_
  refine ls (op (p_icmp rfl rfl rfl) rfl) ?_
  refine ls (op (p_move rfl) rfl) ?_
  refine andX 3 43 46 rfl (subσ.cons (t := 0) rfl (subσ.cons (t := 8) rfl (subσ.cons (t := 9) rfl (subσ.cons (t := 10) rfl (subσ.cons (t := 3) rfl (subσ.cons (t := 11) rfl (subσ.nil _))))))) ?_ ?_
  ·
   intro h43
   refine lskip rfl rfl rfl rfl rfl ?_
   refine lskip rfl rfl rfl rfl rfl ?_
   refine ls (op (p_pickf rfl rfl) rfl) ?_
   refine ln (nmid (wk0 (by repeat (first | exact subσ.nil _ | refine subσ.cons rfl ?_)) (by repeat' (first | constructor | apply Sub.suf))))
  apply exI
  ·
   intro h43
   refine lwant rfl rfl rfl rfl (op (p_move rfl) rfl) ?_
   refine lwant rfl rfl rfl rfl (op (p_icmp rfl rfl rfl) rfl) ?_
   refine ls (op (p_pickt rfl rfl) rfl) ?_
   refine ln (nmid (wk0 (by repeat (first | exact subσ.nil _ | refine subσ.cons rfl ?_)) (by repeat' (first | constructor | apply Sub.suf))))
  ·
   refine ln ?_
   refine nthen ?_
   refine cc rfl ?_ ?_
   ·
    intro h46
    refine cs ?_
    refine cr ?_
    refine ls (op (p_asg rfl) rfl) ?_
    refine ln ?_
    refine nthen ?_
    refine cret ?_
    refine xret (fun _ _ h => h) ?_
    refine rret (is := []) () (Or.inl rfl) (Res.t rfl Res.d) ?_ rfl (by repeat' (first | constructor | apply Sub.suf))
    have h47 : l.length ≤ 80 ∧ omany l ≤ 8000 := (by have h := h46; simp at h; omega); simp only [packV, fewO, if_pos h47]
   ·
    intro h46
    refine cskip ?_
    refine nthen ?_
    refine cs ?_
    refine cr ?_
    refine ls (op (p_move rfl) rfl) ?_
    refine ls (op (p_move rfl) rfl) ?_
    refine ls (op (p_lenl rfl Tryz.underlying22) rfl) ?_
    refine ls (op (p_add rfl rfl (by omega)) rfl) ?_
    refine ls (op (p_asg rfl) rfl) ?_
    refine ln ?_
    refine nthen ?_
    refine cret ?_
    refine xret (fun _ _ h => h) ?_
    refine rret (is := []) () (Or.inl rfl) (Res.t rfl Res.d) ?_ rfl (by repeat' (first | constructor | apply Sub.suf))
    have h47 : ¬ (l.length ≤ 80 ∧ omany l ≤ 8000) := (by have h := h46; simp at h; omega); simp only [packV, fewO, if_neg h47, hn]

set_option maxRecDepth 100000 in
theorem c_does02 (p b : Nat) (T : List File) (o : TOp) (y : Option Addr × Nat) (ho : o.fit) (hn : T.length + 1 ≤ 2000000) : Con Tryz.prog 32 [.pointer (some ⟨p, 0, none⟩), sv o y] [box p 81 [.map (some b)], tr b T] [slA y.1 o.l, nilA y] {q : (Nat × Nat) × (List File × Int) // q.2 = doesT T o} (fun q => .tuple #[.pointer (some ⟨q.1.1.1, 0, none⟩), .int .i64 q.1.2.2]) (fun q => [box q.1.1.1 81 [.map (some q.1.1.2)], tr q.1.1.2 q.1.2.1]) (fun _ => []) := by
 refine con Tryz.func32 rfl Tryz.ntmps32 rfl ?_
 intro M0 F0 w0
 refine cs ?_
 refine cr ?_
 refine ls (o_box rfl rfl rfl) ?_
 refine le ?_; intro b3
 refine ls (op (p_asg rfl) rfl) ?_
 refine ls (op (p_asg rfl) rfl) ?_
 refine ln ?_
 refine nthen ?_
 refine cs ?_
 refine cs ?_
 refine cr ?_
 refine ls (op (p_fa fa71_0 rfl) rfl) ?_
 refine ls (o_ld Tryz.isAgg3 rfl (by repeat' constructor) (by repeat' constructor) rfl) ?_
 refine ln ?_
 refine nthen ?_
 refine cb ?_
 refine cs ?_
 refine cr ?_
 refine ls (op (p_icmp rfl rfl rfl) rfl) ?_
 refine ls (op (p_asg rfl) rfl) ?_
 refine ln ?_
 refine nthen ?_
 refine cc rfl ?_ ?_
 ·
  intro h11
  have k0 : o.kind = 0 := by simpa using h11
  refine cs ?_
  refine cr ?_
  refine ls (op (p_move rfl) rfl) ?_
  refine ls (op (p_move rfl) rfl) ?_
  refine ls (op (p_fa fa71_1 rfl) rfl) ?_
  refine ls (o_ld Tryz.isAgg9 rfl (by repeat' constructor) (by repeat' constructor) rfl) ?_
  refine ls (o_call (is := [1, 1]) Tryz.call72 (c_tAdd p b T o.name) rfl rfl (by repeat' (first | constructor | apply Sub.suf)) rfl) ?_
  refine le ?_; rintro ⟨⟨T1, e1⟩, hq⟩
  refine ls (op (p_asg rfl) rfl) ?_
  refine ls (op (p_asg rfl) rfl) ?_
  refine ln ?_
  refine nthen ?_
  refine cret ?_
  refine xret (fun _ _ h => h) ?_
  refine rret (is := [0, 0]) ⟨((p, b), (T1, e1)), hq.trans (by simp [doesT, k0])⟩ (Or.inl rfl) (Res.t rfl (Res.t rfl Res.d)) (rfl) rfl (by repeat' (first | constructor | apply Sub.suf))
 ·
  intro h11
  have k0 : ¬ o.kind = 0 := by simpa using h11
  refine cs ?_
  refine cr ?_
  refine ls (op (p_icmp rfl rfl rfl) rfl) ?_
  refine ls (op (p_asg rfl) rfl) ?_
  refine ln ?_
  refine nthen ?_
  refine cc rfl ?_ ?_
  ·
   intro h18
   have k1 : o.kind = 1 := by simpa using h18
   refine cs ?_
   refine cr ?_
   refine ls (op (p_move rfl) rfl) ?_
   refine ls (op (p_move rfl) rfl) ?_
   refine ls (op (p_fa fa71_1 rfl) rfl) ?_
   refine ls (o_ld Tryz.isAgg9 rfl (by repeat' constructor) (by repeat' constructor) rfl) ?_
   refine ls (o_call (is := [1, 1]) Tryz.call73 (c_tRem p b T o.name) rfl rfl (by repeat' (first | constructor | apply Sub.suf)) rfl) ?_
   refine le ?_; rintro ⟨⟨T1, e1⟩, hq⟩
   refine ls (op (p_asg rfl) rfl) ?_
   refine ls (op (p_asg rfl) rfl) ?_
   refine ln ?_
   refine nthen ?_
   refine cret ?_
   refine xret (fun _ _ h => h) ?_
   refine rret (is := [0, 0]) ⟨((p, b), (T1, e1)), hq.trans (by simp [doesT, k1])⟩ (Or.inl rfl) (Res.t rfl (Res.t rfl Res.d)) (rfl) rfl (by repeat' (first | constructor | apply Sub.suf))
  ·
   intro h18
   have k1 : ¬ o.kind = 1 := by simpa using h18
   refine cs ?_
   refine cr ?_
   refine ls (op (p_icmp rfl rfl rfl) rfl) ?_
   refine ls (op (p_asg rfl) rfl) ?_
   refine ln ?_
   refine nthen ?_
   refine cc rfl ?_ ?_
   ·
    intro h25
    have k2 : o.kind = 2 := by simpa using h25
    refine cs ?_
    refine cr ?_
    refine ls (op (p_move rfl) rfl) ?_
    refine ls (op (p_move rfl) rfl) ?_
    refine ls (op (p_fa fa71_1 rfl) rfl) ?_
    refine ls (o_ld Tryz.isAgg9 rfl (by repeat' constructor) (by repeat' constructor) rfl) ?_
    refine ls (op (p_fa fa71_2 rfl) rfl) ?_
    refine ls (o_ld Tryz.isAgg9 rfl (by repeat' constructor) (by repeat' constructor) rfl) ?_
    refine ls (o_call (is := [1, 1]) Tryz.call37 (c_tMove p b T o.name o.to) rfl rfl (by repeat' (first | constructor | apply Sub.suf)) rfl) ?_
    refine le ?_; rintro ⟨⟨T1, e1⟩, hq⟩
    refine ls (op (p_asg rfl) rfl) ?_
    refine ls (op (p_asg rfl) rfl) ?_
    refine ln ?_
    refine nthen ?_
    refine cret ?_
    refine xret (fun _ _ h => h) ?_
    refine rret (is := [0, 0]) ⟨((p, b), (T1, e1)), hq.trans (by simp [doesT, k2])⟩ (Or.inl rfl) (Res.t rfl (Res.t rfl Res.d)) (rfl) rfl (by repeat' (first | constructor | apply Sub.suf))
   ·
    intro h25
    have k2 : ¬ o.kind = 2 := by simpa using h25
    refine cs ?_
    refine cr ?_
    refine ls (op (p_icmp rfl rfl rfl) rfl) ?_
    refine ls (op (p_asg rfl) rfl) ?_
    refine ln ?_
    refine nthen ?_
    refine cc rfl ?_ ?_
    ·
     intro h34
     have k3 : o.kind = 3 := by simpa using h34
     refine cs ?_
     refine cr ?_
     refine ls (op (p_move rfl) rfl) ?_
     refine ls (op (p_move rfl) rfl) ?_
     refine ls (op (p_fa fa71_1 rfl) rfl) ?_
     refine ls (o_ld Tryz.isAgg9 rfl (by repeat' constructor) (by repeat' constructor) rfl) ?_
     refine ls (op (p_fa fa71_3 rfl) rfl) ?_
     refine ls (o_ld Tryz.isAgg23 rfl (by repeat' constructor) (by repeat' constructor) rfl) ?_
     refine ls (o_call (is := [1, 1]) Tryz.call74 (c_tPut p b T o.name o.l y.1 y.2 ho.2.2.1) rfl rfl (by repeat' (first | constructor | apply Sub.suf)) rfl) ?_
     refine le ?_; rintro ⟨⟨T1, e1⟩, hq⟩
     refine ls (op (p_asg rfl) rfl) ?_
     refine ls (op (p_asg rfl) rfl) ?_
     refine ln ?_
     refine nthen ?_
     refine cret ?_
     refine xret (fun _ _ h => h) ?_
     refine rret (is := [0, 0]) ⟨((p, b), (T1, e1)), hq.trans (by simp [doesT, k3])⟩ (Or.inl rfl) (Res.t rfl (Res.t rfl Res.d)) (rfl) rfl (by repeat' (first | constructor | apply Sub.suf))
    ·
     intro h34
     have k3 : ¬ o.kind = 3 := by simpa using h34
     refine cs ?_
     refine cr ?_
     refine ls (op (p_icmp rfl rfl rfl) rfl) ?_
     refine ls (op (p_asg rfl) rfl) ?_
     refine ln ?_
     refine nthen ?_
     refine cc rfl ?_ ?_
     ·
      intro h43
      have k4 : o.kind = 4 := by simpa using h43
      refine cs ?_
      refine cr ?_
      refine ls (op (p_move rfl) rfl) ?_
      refine ls (o_call (is := [1, 1]) Tryz.call10 (c_tCopy p b T) rfl rfl (by repeat' (first | constructor | apply Sub.suf)) rfl) ?_
      refine le ?_; rintro ⟨p4, b4⟩
      refine ls (op (p_asg rfl) rfl) ?_
      refine ln ?_
      refine nthen ?_
      refine cs ?_
      refine cr ?_
      refine ls (op (p_move rfl) rfl) ?_
      refine ls (o_call (is := [2, 2]) Tryz.call72 (c_tAdd p b T ⟨#[110, 111, 110, 101]⟩) rfl rfl (by repeat' (first | constructor | apply Sub.suf)) rfl) ?_
      refine le ?_; rintro ⟨⟨T1, e1⟩, hq⟩
      have hT1 : T1.length ≤ 2000000 := by have h1 := congrArg (fun z : List File × Int => z.1.length) hq; have h2 := tAdd_len T ⟨#[110, 111, 110, 101]⟩; dsimp only at h1; omega
      refine ln ?_
      refine nthen ?_
      refine cs ?_
      refine cs ?_
      refine cr ?_
      refine ls (op (p_move rfl) rfl) ?_
      refine ls (o_call (is := [0, 0]) Tryz.call75 (c_tNames p b T1 hT1) rfl rfl (by repeat' (first | constructor | apply Sub.suf)) rfl) ?_
      refine le ?_; rintro ⟨A5, c5⟩
      refine lmono (fun a w h => Go.Sx.freeze (i := 0) rfl h) ?_
      refine ls (op (p_lenl rfl Tryz.underlying23) rfl) ?_
      refine ls (op (p_move rfl) rfl) ?_
      refine ln ?_
      refine nthen ?_
      refine cb ?_
      refine cl (ι := {q : Nat × List File // q.1 ≤ T1.length}) (fun i => St M0 F0 w0 63 [(0, .pointer (some ⟨p, 0, none⟩)), (6, .pointer (some ⟨p4, 0, none⟩)), (50, .slice A5 T1.length c5), (51, .int .i64 (T1.length : Int)), (52, .int .i64 (i.1.1 : Int))] [box p 81 [.map (some b)], tr b i.1.2, box p4 81 [.map (some b4)], tr b4 T] [slA A5 (T1.map (·.1))]) (fun i => T1.length - i.1.1) ⟨(0, T1), Nat.zero_le _⟩ (wk (is := [0, 0, 0, 0]) (by repeat (first | exact subσ.nil _ | refine subσ.cons rfl ?_)) rfl (by repeat' (first | constructor | apply Sub.suf))) ?_
      rintro ⟨⟨k, U⟩, hk⟩
      refine cmono (S' := St M0 F0 w0 63 [(0, .pointer (some ⟨p, 0, none⟩)), (6, .pointer (some ⟨p4, 0, none⟩)), (50, .slice A5 T1.length c5), (51, .int .i64 (T1.length : Int)), (52, .int .i64 (k : Int))] [box p 81 [.map (some b)], tr b U, box p4 81 [.map (some b4)], tr b4 T] [slA A5 (T1.map (·.1))]) (fun _ _ h => h) ?_
      refine cs ?_
      refine cr ?_
      refine ls (op (p_icmp rfl rfl rfl) rfl) ?_
      refine ln ?_
      refine nthen ?_
      refine cs ?_
      refine cc rfl ?_ ?_
      ·
       intro h53
       dsimp only at hk
       try simp only [decide_eq_true_eq, decide_eq_false_iff_not, Bool.not_eq_true', Bool.not_eq_false', Int.not_lt, Int.not_le, ge_iff_le, Bool.not_true, Bool.not_false] at h53
       have hk1 : k < T1.length := by omega
       have hk2 : k < (T1.map (·.1)).length := by simpa using hk1
       refine cskip ?_
       refine nthen ?_
       refine cs ?_
       refine cb ?_
       refine cs ?_
       refine elC (by repeat' constructor) k (List.getElem?_eq_getElem (l := (T1.map (·.1))) hk2) ?_; rintro zbp zop zyp hAp
       refine cr ?_
       refine ls (op (p_ia k hAp hk1 rfl Tryz.underlying23 Tryz.sizeOf9 rfl rfl) rfl) ?_
       refine ls (o_ldi Tryz.isAgg9 rfl (by repeat' constructor) 0 rfl (by repeat (first | exact Cut.d | apply Cut.t | apply Cut.s)) rfl) ?_
       refine ls (op (p_asg rfl) rfl) ?_
       refine ln ?_
       refine nthen ?_
       refine cr ?_
       refine ls (op (p_move rfl) rfl) ?_
       refine ls (op (p_move rfl) rfl) ?_
       refine ls (o_bsl [(⟨#[110, 111, 110, 101]⟩ : ByteArray)] Tryz.underlying23 Tryz.sizeOf9 Tryz.zeroValue9 rfl (Enum.t Enum.d) (RV.t () rfl Sub.d RV.d) rfl (by decide) (by decide) rfl) ?_
       refine le ?_; intro b58
       refine lmono (fun a w h => Go.Sx.freeze (i := 0) rfl h) ?_
       refine ls (o_call (is := [0, 0]) Tryz.call74 (c_tPut p b U _ [(⟨#[110, 111, 110, 101]⟩ : ByteArray)] _ _ (by simp)) rfl rfl (by repeat' (first | constructor | apply Sub.suf)) rfl) ?_
       refine le ?_; rintro ⟨⟨U2, e2⟩, hq2⟩
       refine ln ?_
       refine nblock ?_
       refine nthen ?_
       refine cr ?_
       refine ls (op (p_add rfl rfl (by omega)) rfl) ?_
       refine ls (op (p_move rfl) rfl) ?_
       refine ln ?_
       refine nnext ⟨(k + 1, U2), hk1⟩ (by dsimp only; omega) (wk (is := [0, 0, 0, 0]) (by repeat (first | exact subσ.nil _ | refine subσ.cons rfl ?_)) rfl (by repeat' (first | constructor | apply Sub.suf)))
      ·
       intro h53
       dsimp only at hk
       try simp only [decide_eq_true_eq, decide_eq_false_iff_not, Bool.not_eq_true', Bool.not_eq_false', Int.not_lt, Int.not_le, ge_iff_le, Bool.not_true, Bool.not_false] at h53
       refine cexit ?_
       refine xthen ?_
       refine xthen ?_
       refine xblock ?_
       refine nthen ?_
       refine cs ?_
       refine cr ?_
       refine ls (op (p_move rfl) rfl) ?_
       refine ls (op (p_asg rfl) rfl) ?_
       refine ls (op (p_asg rfl) rfl) ?_
       refine ln ?_
       refine nthen ?_
       refine cret ?_
       refine xret (fun _ _ h => h) ?_
       refine rret (is := [2, 2]) ⟨((p4, b4), (T, 0)), by simp [doesT, k4]⟩ (Or.inl rfl) (Res.t rfl (Res.t rfl Res.d)) (rfl) rfl (by repeat' (first | constructor | apply Sub.suf))
     ·
      intro h43
      have k4 : ¬ o.kind = 4 := by simpa using h43
      refine cskip ?_
      refine nblock ?_
      refine nthen ?_
      refine cs ?_
      refine cr ?_
      refine ls (op (p_move rfl) rfl) ?_
      refine ls (op (p_asg rfl) rfl) ?_
      refine ls (op (p_asg rfl) rfl) ?_
      refine ln ?_
      refine nthen ?_
      refine cret ?_
      refine xret (fun _ _ h => h) ?_
      refine rret (is := [1, 1]) ⟨((p, b), (T, 0)), by simp [doesT, k0, k1, k2, k3]⟩ (Or.inl rfl) (Res.t rfl (Res.t rfl Res.d)) (rfl) rfl (by repeat' (first | constructor | apply Sub.suf))

set_option maxRecDepth 100000 in
theorem c_Made02 (l : List TOp) (A : Option Addr) (c : Nat) (hl : l.length ≤ 1048576) (hM : ∀ o ∈ l, o.many ≤ 2000000) : Con Tryz.prog 9 [.slice A l.length c] [] [slA A l] ((Nat × Nat) × (Option Addr × Nat)) (fun q => .tuple #[.pointer (some ⟨q.1.1, 0, none⟩), .slice q.2.1 (madeT l).length q.2.2]) (fun q => [box q.1.1 81 [.map (some q.1.2)], tr q.1.2 (madeT l)]) (fun q => [slA q.2.1 (madeT l)]) := by
 refine con Tryz.func9 rfl Tryz.ntmps9 rfl ?_
 intro M0 F0 w0
 refine cs ?_
 refine cr ?_
 refine ls (op (p_asg rfl) rfl) ?_
 refine ls (op (p_asg rfl) rfl) ?_
 refine ln ?_
 refine nthen ?_
 refine cs ?_
 refine cr ?_
 refine ls (o_call (is := []) Tryz.call30 (c_tNew) rfl rfl (by repeat' (first | constructor | apply Sub.suf)) rfl) ?_
 refine le ?_; rintro ⟨p0, b0⟩
 refine ls (op (p_asg rfl) rfl) ?_
 refine ln ?_
 refine nthen ?_
 refine cs ?_
 refine cr ?_
 refine ls (op (p_asg rfl) rfl) ?_
 refine ln ?_
 refine nthen ?_
 refine cs ?_
 refine cs ?_
 refine cmono (fun a w h => nilSl (α := File) h) ?_
 refine cr ?_
 refine ls (op (p_move rfl) rfl) ?_
 refine ls (op (p_lenl rfl Tryz.underlying22) rfl) ?_
 refine ls (op (p_move rfl) rfl) ?_
 refine ln ?_
 refine nthen ?_
 refine cb ?_
 refine cl (ι := {q : Nat × (Nat × Nat) × (Option Addr × Nat) // q.1 ≤ l.length}) (fun i => St M0 F0 w0 41 [(13, .slice A l.length c), (14, .int .i64 (l.length : Int)), (15, .int .i64 (i.1.1 : Int)), (4, .pointer (some ⟨i.1.2.1.1, 0, none⟩)), (5, .slice i.1.2.2.1 (madeT (l.take i.1.1)).length i.1.2.2.2)] [box i.1.2.1.1 81 [.map (some i.1.2.1.2)], tr i.1.2.1.2 (madeT (l.take i.1.1))] [slA A l, slA i.1.2.2.1 (madeT (l.take i.1.1))]) (fun i => l.length - i.1.1) ⟨(0, (p0, b0), (none, 0)), Nat.zero_le _⟩ (wk (is := [0, 0]) (by repeat (first | exact subσ.nil _ | refine subσ.cons rfl ?_)) rfl (by repeat' (first | constructor | apply Sub.suf))) ?_
 rintro ⟨⟨k, ⟨p, b⟩, ⟨A1, c1⟩⟩, hk⟩
 refine cmono (S' := St M0 F0 w0 41 [(13, .slice A l.length c), (14, .int .i64 (l.length : Int)), (15, .int .i64 (k : Int)), (4, .pointer (some ⟨p, 0, none⟩)), (5, .slice A1 (madeT (l.take k)).length c1)] [box p 81 [.map (some b)], tr b (madeT (l.take k))] [slA A l, slA A1 (madeT (l.take k))]) (fun _ _ h => h) ?_
 refine cs ?_
 refine cr ?_
 refine ls (op (p_icmp rfl rfl rfl) rfl) ?_
 refine ln ?_
 refine nthen ?_
 refine cs ?_
 refine cc rfl ?_ ?_
 ·
  intro h16
  dsimp only at hk
  try simp only [decide_eq_true_eq, decide_eq_false_iff_not, Bool.not_eq_true', Bool.not_eq_false', Int.not_lt, Int.not_le, ge_iff_le, Bool.not_true, Bool.not_false] at h16
  have hk1 : k < l.length := by omega
  have hok : l[k].many ≤ 2000000 := hM _ (List.getElem_mem hk1)
  have htk : (l.take k).length = k := by rw [List.length_take]; omega
  have hso := madeT_sor (l.take k)
  have htok : Tok (l.take k).length 2000000 (madeT (l.take k)) := madeT_tok fun o ho => hM o (List.mem_of_mem_take ho)
  have hlen := htok.len
  have hms := madeT_succ hk1
  refine cskip ?_
  refine nthen ?_
  refine cs ?_
  refine cb ?_
  refine cs ?_
  refine elC (by repeat' constructor) k (List.getElem?_eq_getElem (l := l) hk1) ?_; rintro zbp zop zyp hAp
  refine cr ?_
  refine ls (op (p_ia k hAp hk1 rfl Tryz.underlying22 Tryz.sizeOf71 rfl rfl) rfl) ?_
  refine ls (o_ldj Tryz.isAgg71 Tryz.sizeOf71 rfl (by repeat' constructor) 0 rfl (by repeat (first | exact Cut.d | apply Cut.t | apply Cut.s)) rfl) ?_
  refine ls (o_alloc Tryz.zeroValue71 rfl rfl) ?_
  refine le ?_; intro b7
  refine ls (o_st rfl Tryz.sizeOf71 rfl rfl rfl rfl rfl (by repeat' constructor) (by repeat' constructor) (by repeat' constructor)) ?_
  refine ln ?_
  refine nthen ?_
  refine cs ?_
  refine cs ?_
  refine cr ?_
  refine ls (op (p_move rfl) rfl) ?_
  refine ls (op (p_ptrnil Tryz.underlying29 rfl rfl) rfl) ?_
  refine ln ?_
  refine nthen ?_
  refine cc rfl (fun h => by cases h) (fun h => ?_)
  refine cskip ?_
  refine nthen ?_
  refine cs ?_
  refine cr ?_
  refine ls (op (p_move rfl) rfl) ?_
  refine ls (o_ldw Tryz.isAgg71 Tryz.sizeOf71 rfl (by repeat' constructor) (by rfl) rfl) ?_
  refine ls (o_call (is := []) Tryz.call31 (c_rDo (madeT (l.take k)) A1 c1 (by omega) l[k] zyp (TOp.fit_of hok) (fun u => (htok.get u).1)) rfl rfl (by repeat' (first | constructor | apply Sub.suf)) rfl) ?_
  refine le ?_; rintro ⟨⟨⟨S1, e1⟩, ⟨A2, c2⟩⟩, hq⟩
  refine ls (op (p_move rfl) rfl) ?_
  refine ls (op (p_ext rfl (by repeat' constructor)) rfl) ?_
  refine ls (op (p_ext rfl (by repeat' constructor)) rfl) ?_
  refine ls (op (p_asg rfl) rfl) ?_
  refine ls (op (p_asg rfl) rfl) ?_
  refine ln ?_
  refine nthen ?_
  refine cs ?_
  refine cr ?_
  refine ls (op (p_move rfl) rfl) ?_
  refine ls (op (p_asg rfl) rfl) ?_
  refine ln ?_
  refine nthen ?_
  refine cs ?_
  refine cr ?_
  refine ls (op (p_move rfl) rfl) ?_
  refine ls (o_ldw Tryz.isAgg71 Tryz.sizeOf71 rfl (by repeat' constructor) (by rfl) rfl) ?_
  refine ls (o_call (is := [1, 1]) Tryz.call32 (c_does02 p b (madeT (l.take k)) l[k] zyp (TOp.fit_of hok) (by omega)) rfl rfl (by repeat' (first | constructor | apply Sub.suf)) rfl) ?_
  refine le ?_; rintro ⟨⟨⟨p2, b2⟩, ⟨T2, e2⟩⟩, hd⟩
  dsimp only at hq hd
  rw [does_eq hso] at hd
  obtain ⟨rfl, rfl⟩ := Prod.mk.inj (hd.trans hq.symm)
  refine ls (op (p_move rfl) rfl) ?_
  refine ls (op (p_ext rfl (by repeat' constructor)) rfl) ?_
  refine ls (op (p_ext rfl (by repeat' constructor)) rfl) ?_
  refine ls (op (p_asg rfl) rfl) ?_
  refine ls (op (p_asg rfl) rfl) ?_
  refine ln ?_
  refine nthen ?_
  refine cs ?_
  refine cr ?_
  refine ls (op (p_move rfl) rfl) ?_
  refine ls (op (p_asg rfl) rfl) ?_
  refine ln ?_
  refine nthen ?_
  refine cs ?_
  refine cr ?_
  refine ls (op (p_move rfl) rfl) ?_
  refine ls (op (p_move rfl) rfl) ?_
  refine ls (op (p_icmp rfl rfl rfl) rfl) ?_
  refine ln ?_
  refine nthen ?_
  refine cc rfl ?_ ?_
  ·
   intro h37
   simp at h37
  ·
   intro h37
   skip
   refine cskip ?_
   refine nblock ?_
   refine nthen ?_
   refine cr ?_
   refine ls (op (p_add rfl rfl (by omega)) rfl) ?_
   refine ls (op (p_move rfl) rfl) ?_
   refine ln ?_
   have hT2 : T2 = madeT (l.take (k + 1)) := by rw [hms, ← hd]
   subst hT2
   refine nnext ⟨(k + 1, (p2, b2), (A2, c2)), hk1⟩ (by dsimp only; omega) (wk (is := [0, 0]) (by repeat (first | exact subσ.nil _ | refine subσ.cons rfl ?_)) rfl (by repeat' (first | constructor | apply Sub.suf)))
 ·
  intro h16
  dsimp only at hk
  try simp only [decide_eq_true_eq, decide_eq_false_iff_not, Bool.not_eq_true', Bool.not_eq_false', Int.not_lt, Int.not_le, ge_iff_le, Bool.not_true, Bool.not_false] at h16
  rw [List.take_of_length_le (by omega)]
  refine cexit ?_
  refine xthen ?_
  refine xthen ?_
  refine xblock ?_
  refine nthen ?_
  refine cs ?_
  refine cr ?_
  refine ls (op (p_move rfl) rfl) ?_
  refine ls (op (p_move rfl) rfl) ?_
  refine ls (op (p_asg rfl) rfl) ?_
  refine ls (op (p_asg rfl) rfl) ?_
  refine ln ?_
  refine nthen ?_
  refine cret ?_
  refine xret (fun _ _ h => h) ?_
  refine rret (is := [0, 0]) ((p, b), (A1, c1)) (Or.inl rfl) (Res.t rfl (Res.t rfl Res.d)) (rfl) rfl (by repeat' (first | constructor | apply Sub.suf))

end Go.Proofs.YtjeampaghmcefaaGreatDoor.X

end
section
set_option linter.unusedVariables false
set_option linter.unusedSimpArgs false
namespace Go.Proofs.YtjeampaghmcefaaGreatDoor.X
open Go Go.RowKit Go.Proofs Go.Sx
attribute [local irreducible] slA isA box row



end Go.Proofs.YtjeampaghmcefaaGreatDoor.X

end
