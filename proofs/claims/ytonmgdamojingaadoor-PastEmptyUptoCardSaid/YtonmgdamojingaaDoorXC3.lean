/- OWN WORK: a part of the proof of a law of the seat YtonmgdamojingaaDoor: contracts. -/
import Derived.Test.YtonmgdamojingaaDoorProg
import Derived.Test.YtonmgdamojingaaDoorXC2
section
set_option linter.unusedVariables false
set_option linter.unusedSimpArgs false
namespace Go.Proofs.YtonmgdamojingaaDoor.X
open Go Go.RowKit Go.Proofs Go.Sx
attribute [local irreducible] slA isA box row

theorem fa30_1 : FA Tryd.prog 30 1 1 := fun b o w => by kernel_rfl
theorem inf23 : (Tryd.prog.info? 23).map (fun i => (i.zero, i.size, i.bytes)) = some (some (.slice none 0 0), 1, 24) := by kernel_rfl
theorem sb30 : SB Tryd.prog 30 [(0, 1), (1, 1)] [.int .i64 0, .slice none 0 0] := SB.struct Tryd.zeroValue30 rfl Tryd.underlying30 (fun w => by kernel_rfl)
set_option maxRecDepth 100000 in
theorem c_rNew15 (v : Int) (V : Nat) (hV : max v 0 = (V : Int)) : Con Tryd.prog 19 [.int .i64 v] [] [] Unit (fun _ => .agg #[.int .i64 (V : Int), .slice none 0 0]) (fun _ => []) (fun _ => []) := by
 refine con Tryd.func19 rfl Tryd.ntmps19 rfl ?_
 intro M0 F0 w0
 refine cs ?_
 refine cr ?_
 refine ls (o_alloc Tryd.zeroValue30 rfl rfl) ?_
 refine le ?_; intro b2
 refine ln ?_
 refine nthen ?_
 refine cs ?_
 refine cs ?_
 refine cr ?_
 refine ls (op (p_move rfl) rfl) ?_
 refine ls (op (p_icmp rfl rfl rfl) rfl) ?_
 refine ln ?_
 refine nthen ?_
 refine cc rfl ?_ ?_
 ·
  intro h4
  try simp only [decide_eq_true_eq, decide_eq_false_iff_not, Bool.not_eq_true', Bool.not_eq_false', Int.not_lt, Int.not_le, ge_iff_le, Bool.not_true, Bool.not_false] at h4
  obtain rfl : V = 0 := by omega
  refine cr ?_
  refine ls (op (p_asg rfl) rfl) ?_
  refine ln ?_
  refine nthen ?_
  refine cs ?_
  refine cr ?_
  refine ls (op (p_move rfl) rfl) ?_
  refine ls (op (p_bld sb30 rfl (Fill.t (by repeat (first | exact At.z | apply At.s)) rfl rfl (by repeat (first | exact Put.d | apply Put.t | apply Put.s)) Fill.d)) rfl) ?_
  refine ls (o_st rfl Tryd.sizeOf30 rfl rfl rfl rfl rfl (by repeat (first | exact At.z | apply At.s)) (by repeat (first | exact Put.d | apply Put.t | apply Put.s)) (by repeat (first | exact SetAt.z | apply SetAt.s))) ?_
  refine ln ?_
  refine nthen ?_
  refine cret ?_
  refine xret (fun _ _ h => h) ?_
  refine rret (is := []) () (Or.inl rfl) (Res.c rfl Tryd.isAgg30 Tryd.sizeOf30 (by repeat (first | exact At.z | apply At.s)) (by rfl) Res.d) (rfl) rfl (by repeat (first | exact Sub.d | (refine Sub.s ?_ ?_; (repeat (first | exact In.z | apply In.s))) | (refine Sub.suf ?_; (repeat (first | exact Suf.z | apply Suf.s)))))
 ·
  intro h4
  try simp only [decide_eq_true_eq, decide_eq_false_iff_not, Bool.not_eq_true', Bool.not_eq_false', Int.not_lt, Int.not_le, ge_iff_le, Bool.not_true, Bool.not_false] at h4
  obtain rfl : v = (V : Int) := by omega
  refine cskip ?_
  refine nthen ?_
  refine cs ?_
  refine cr ?_
  refine ls (op (p_move rfl) rfl) ?_
  refine ls (op (p_bld sb30 rfl (Fill.t (by repeat (first | exact At.z | apply At.s)) rfl rfl (by repeat (first | exact Put.d | apply Put.t | apply Put.s)) Fill.d)) rfl) ?_
  refine ls (o_st rfl Tryd.sizeOf30 rfl rfl rfl rfl rfl (by repeat (first | exact At.z | apply At.s)) (by repeat (first | exact Put.d | apply Put.t | apply Put.s)) (by repeat (first | exact SetAt.z | apply SetAt.s))) ?_
  refine ln ?_
  refine nthen ?_
  refine cret ?_
  refine xret (fun _ _ h => h) ?_
  refine rret (is := []) () (Or.inl rfl) (Res.c rfl Tryd.isAgg30 Tryd.sizeOf30 (by repeat (first | exact At.z | apply At.s)) (by rfl) Res.d) (rfl) rfl (by repeat (first | exact Sub.d | (refine Sub.s ?_ ?_; (repeat (first | exact In.z | apply In.s))) | (refine Sub.suf ?_; (repeat (first | exact Suf.z | apply Suf.s)))))

set_option maxRecDepth 100000 in
theorem c_rAdd15 (V : Nat) (rows : List (List Prim)) (A : Option Addr) (c : Nat) (hV : V + rows.length ≤ 4611686018427387904) (hn : rows.length ≤ 1000000) (hA0 : rows = [] → A = none → c = 0) (l : List Prim) (B : Option Addr) (c' : Nat) (hB0 : B = none → c' = 0) (rs : List (List Prim)) (hrs : rs = rows ++ [l]) : Con Tryd.prog 20 [.agg #[.int .i64 (V : Int), .slice A rows.length c], .slice B l.length c'] [] [slA A rows, slA B l] {y : Option Addr × Nat // rs.length ≤ y.2} (fun y => .agg #[.int .i64 (V : Int), .slice y.1.1 rs.length y.1.2]) (fun _ => []) (fun y => [slA y.1.1 rs]) := by
 subst hrs
 refine con Tryd.func20 rfl Tryd.ntmps20 rfl ?_
 intro M0 F0 w0
 refine cs ?_
 refine cr ?_
 refine ls (o_box rfl rfl rfl) ?_
 refine le ?_; intro b2
 refine ls (o_alloc Tryd.zeroValue30 rfl rfl) ?_
 refine le ?_; intro b4
 refine ln ?_
 refine nthen ?_
 refine cs ?_
 refine cmono (fun a w h => nilQ (y := (B, c')) hB0 h) ?_
 refine cr ?_
 refine ls (o_bsl ([] : List (List Prim)) Tryd.underlying22 Tryd.sizeOf23 Tryd.zeroValue23 rfl Enum.d RV.d rfl (by decide) (by decide) rfl) ?_
 refine le ?_; intro b5
 refine ls (op (p_fa fa30_1 rfl) rfl) ?_
 refine ls (o_ld Tryd.isAgg22 rfl (by repeat (first | exact At.z | apply At.s)) (by repeat (first | exact At.z | apply At.s)) rfl) ?_
 refine ls (o_app (is := [0]) Tryd.underlying22 inf23 rfl (by decide) (by decide) rfl rfl (by simp only [List.length_nil]; omega) (fun h hB => hA0 h hB) rfl (by repeat (first | exact Sub.d | (refine Sub.s ?_ ?_; (repeat (first | exact In.z | apply In.s))) | (refine Sub.suf ?_; (repeat (first | exact Suf.z | apply Suf.s))))) rfl) ?_
 refine le ?_; rintro ⟨A8, c8⟩
 refine ls (op (p_move rfl) rfl) ?_
 refine ls (o_bsl [l] Tryd.underlying22 Tryd.sizeOf23 Tryd.zeroValue23 rfl (Enum.t Enum.d) (RV.t (B, c') rfl (by repeat (first | exact Sub.d | (refine Sub.s ?_ ?_; (repeat (first | exact In.z | apply In.s))) | (refine Sub.suf ?_; (repeat (first | exact Suf.z | apply Suf.s))))) RV.d) rfl (by decide) (by decide) rfl) ?_
 refine le ?_; intro b10
 refine lmono (fun a w h => Go.Sx.freeze (i := 0) rfl h) ?_
 refine ls (o_app (is := [0]) Tryd.underlying22 inf23 rfl (by decide) (by decide) rfl rfl (by simp only [List.length_append, List.length_nil, List.length_cons]; omega) (fun h => by cases h) rfl (by repeat (first | exact Sub.d | (refine Sub.s ?_ ?_; (repeat (first | exact In.z | apply In.s))) | (refine Sub.suf ?_; (repeat (first | exact Suf.z | apply Suf.s))))) rfl) ?_
 refine le ?_; rintro ⟨A9, c9⟩
 refine ls (op (p_fa fa30_1 rfl) rfl) ?_
 refine ls (o_st rfl Tryd.sizeOf22 rfl rfl rfl rfl rfl (by repeat (first | exact At.z | apply At.s)) (by repeat (first | exact Put.d | apply Put.t | apply Put.s)) (by repeat (first | exact SetAt.z | apply SetAt.s))) ?_
 refine ln ?_
 refine nthen ?_
 refine cs ?_
 refine rowLeC (by repeat (first | exact At.z | apply At.s)) (fun hle => ?_)
 refine cmono (fun a w h => Go.Sx.freeze (i := 0) rfl h) ?_
 refine cr ?_
 refine ls (o_ldw Tryd.isAgg30 Tryd.sizeOf30 rfl (by repeat (first | exact At.z | apply At.s)) (by rfl) rfl) ?_
 refine ls (o_st rfl Tryd.sizeOf30 rfl rfl rfl rfl rfl (by repeat (first | exact At.z | apply At.s)) (by repeat (first | exact Put.d | apply Put.t | apply Put.s)) (by repeat (first | exact SetAt.z | apply SetAt.s))) ?_
 refine ln ?_
 refine nthen ?_
 refine cret ?_
 refine xret (fun _ _ h => h) ?_
 refine rret (is := []) ⟨(A9, c9), hle⟩ (Or.inl rfl) (Res.c rfl Tryd.isAgg30 Tryd.sizeOf30 (by repeat (first | exact At.z | apply At.s)) (by rfl) Res.d) (rfl) rfl (by repeat (first | exact Sub.d | (refine Sub.s ?_ ?_; (repeat (first | exact In.z | apply In.s))) | (refine Sub.suf ?_; (repeat (first | exact Suf.z | apply Suf.s)))))

set_option maxRecDepth 100000 in
theorem c_few15 (rows : List (List Prim)) (A : Option Addr) (c : Nat) (l : List Prim) (B : Option Addr) (c' : Nat) (hn : rows.length ≤ 2000000) (hl : l.length ≤ 2000000) (hR : ∀ l ∈ rows, l.length ≤ 2000000) (hM : many l + (rows.map many).sum ≤ 1000000000000) (hM2 : l.length + (rows.map List.length).sum ≤ 1000000000000) : Con Tryd.prog 5 [.slice A rows.length c, .slice B l.length c'] [] [slA A rows, slA B l] Unit (fun _ => .bool (fewT rows l)) (fun _ => []) (fun _ => []) := by
 refine con Tryd.func5 rfl Tryd.ntmps5 rfl ?_
 intro M0 F0 w0
 refine cs ?_
 refine cr ?_
 refine ls (op (p_asg rfl) rfl) ?_
 refine ln ?_
 refine nthen ?_
 refine cs ?_
 refine cr ?_
 refine ls (op (p_move rfl) rfl) ?_
 refine ls (o_call (is := []) Tryd.call13 (c_Many l B c' hl (by omega)) rfl rfl (by repeat (first | exact Sub.d | (refine Sub.s ?_ ?_; (repeat (first | exact In.z | apply In.s))) | (refine Sub.suf ?_; (repeat (first | exact Suf.z | apply Suf.s))))) rfl) ?_
 refine le ?_; intro x10
 refine ls (op (p_move rfl) rfl) ?_
 refine ls (op (p_lenl rfl Tryd.underlying23) rfl) ?_
 refine ls (op (p_asg rfl) rfl) ?_
 refine ls (op (p_asg rfl) rfl) ?_
 refine ln ?_
 refine nthen ?_
 refine cs ?_
 refine cs ?_
 refine cr ?_
 refine ls (op (p_move rfl) rfl) ?_
 refine ls (op (p_lenl rfl Tryd.underlying22) rfl) ?_
 refine ls (op (p_move rfl) rfl) ?_
 refine ln ?_
 refine nthen ?_
 refine cb ?_
 refine cl (ι := {q : Nat × Int × Int // q.1 ≤ rows.length ∧ q.2.1 = ((many l + ((rows.take q.1).map many).sum : Nat) : Int) ∧ q.2.2 = ((l.length + ((rows.take q.1).map List.length).sum : Nat) : Int)}) (fun i => St M0 F0 w0 39 [(0, .slice A rows.length c), (13, .slice A rows.length c), (14, .int .i64 (rows.length : Int)), (15, .int .i64 (i.1.1 : Int)), (5, .int .i64 i.1.2.1), (6, .int .i64 i.1.2.2)] [] [slA A rows]) (fun i => rows.length - i.1.1) ⟨(0, (many l : Int), (l.length : Int)), by simp⟩ (wk0 (by repeat (first | exact subσ.nil _ | refine subσ.cons rfl ?_)) (by repeat (first | exact Sub.d | (refine Sub.s ?_ ?_; (repeat (first | exact In.z | apply In.s))) | (refine Sub.suf ?_; (repeat (first | exact Suf.z | apply Suf.s)))))) ?_
 rintro ⟨⟨k, n, u⟩, hk, hnn, huu⟩
 refine cmono (S' := St M0 F0 w0 39 [(0, .slice A rows.length c), (13, .slice A rows.length c), (14, .int .i64 (rows.length : Int)), (15, .int .i64 (k : Int)), (5, .int .i64 n), (6, .int .i64 u)] [] [slA A rows]) (fun _ _ h => h) ?_
 refine cs ?_
 refine cr ?_
 refine ls (op (p_icmp rfl rfl rfl) rfl) ?_
 refine ln ?_
 refine nthen ?_
 refine cs ?_
 refine cc rfl ?_ ?_
 ·
  intro h16
  dsimp only at hk hnn huu
  try simp only [decide_eq_true_eq, decide_eq_false_iff_not, Bool.not_eq_true', Bool.not_eq_false', Int.not_lt, Int.not_le, ge_iff_le, Bool.not_true, Bool.not_false] at h16
  have hk1 : k < rows.length := by omega
  have e1 := sum_take_succ (f := many) hk1; have e2 := sum_take_succ (f := List.length) hk1
  have e3 := sum_take_le many rows (k + 1); have e4 := sum_take_le List.length rows (k + 1)
  refine cskip ?_
  refine nthen ?_
  refine cs ?_
  refine cb ?_
  refine cs ?_
  refine elC (by repeat (first | exact At.z | apply At.s)) k (List.getElem?_eq_getElem (l := rows) hk1) ?_; rintro zbp zop zyp hAp
  refine cr ?_
  refine ls (op (p_ia k hAp hk1 rfl Tryd.underlying22 Tryd.sizeOf23 rfl rfl) rfl) ?_
  refine ls (o_ldi Tryd.isAgg23 rfl (by repeat (first | exact At.z | apply At.s)) 0 rfl (by repeat (first | exact Cut.d | apply Cut.t | apply Cut.s)) rfl) ?_
  refine ls (op (p_asg rfl) rfl) ?_
  refine ln ?_
  refine nthen ?_
  refine cr ?_
  refine ls (op (p_move rfl) rfl) ?_
  refine ls (op (p_move rfl) rfl) ?_
  refine ls (o_call (is := []) Tryd.call13 (c_Many rows[k] zyp.1 zyp.2 (hR _ (List.getElem_mem hk1)) (by omega)) rfl rfl (by repeat (first | exact Sub.d | (refine Sub.s ?_ ?_; (repeat (first | exact In.z | apply In.s))) | (refine Sub.suf ?_; (repeat (first | exact Suf.z | apply Suf.s))))) rfl) ?_
  refine le ?_; intro x21
  refine ls (op (p_add rfl rfl (by omega)) rfl) ?_
  refine ls (op (p_move rfl) rfl) ?_
  refine ls (op (p_move rfl) rfl) ?_
  refine ls (op (p_lenl rfl Tryd.underlying23) rfl) ?_
  refine ls (op (p_add rfl rfl (by omega)) rfl) ?_
  refine ls (op (p_asg rfl) rfl) ?_
  refine ls (op (p_asg rfl) rfl) ?_
  refine ln ?_
  refine nblock ?_
  refine nthen ?_
  refine cr ?_
  refine ls (op (p_add rfl rfl (by omega)) rfl) ?_
  refine ls (op (p_move rfl) rfl) ?_
  refine ln ?_
  refine nnext ⟨(k + 1, n + (many rows[k] : Int), u + (rows[k].length : Int)), hk1, by dsimp only; omega, by dsimp only; omega⟩ (by dsimp only; omega) (wk (is := []) (by repeat (first | exact subσ.nil _ | refine subσ.cons rfl ?_)) rfl (by repeat (first | exact Sub.d | (refine Sub.s ?_ ?_; (repeat (first | exact In.z | apply In.s))) | (refine Sub.suf ?_; (repeat (first | exact Suf.z | apply Suf.s))))))
 ·
  intro h16
  dsimp only at hk hnn huu
  try simp only [decide_eq_true_eq, decide_eq_false_iff_not, Bool.not_eq_true', Bool.not_eq_false', Int.not_lt, Int.not_le, ge_iff_le, Bool.not_true, Bool.not_false] at h16
  rw [List.take_of_length_le (by omega)] at hnn huu
  refine cexit ?_
  refine xthen ?_
  refine xthen ?_
  refine xblock ?_
  refine nthen ?_
  refine cs ?_
  refine cr ?_
  refine ls (op (p_move rfl) rfl) ?_
  refine ls (op (p_icmp rfl rfl rfl) rfl) ?_
  refine ls (op (p_move rfl) rfl) ?_
  refine andX 3 30 33 rfl (subσ.cons (t := 0) rfl (subσ.cons (t := 13) rfl (subσ.cons (t := 14) rfl (subσ.cons (t := 15) rfl (subσ.cons (t := 5) rfl (subσ.cons (t := 6) rfl (subσ.cons (t := 16) rfl (subσ.nil _)))))))) ?_ ?_
  ·
   intro h30
   refine lskip rfl rfl rfl rfl rfl ?_
   refine lskip rfl rfl rfl rfl rfl ?_
   refine ls (op (p_pickf rfl rfl) rfl) ?_
   refine ln (nmid (wk0 (by repeat (first | exact subσ.nil _ | refine subσ.cons rfl ?_)) (by repeat (first | exact Sub.d | (refine Sub.s ?_ ?_; (repeat (first | exact In.z | apply In.s))) | (refine Sub.suf ?_; (repeat (first | exact Suf.z | apply Suf.s)))))))
  apply exI
  ·
   intro h30
   refine lwant rfl rfl rfl rfl (op (p_move rfl) rfl) ?_
   refine lwant rfl rfl rfl rfl (op (p_icmp rfl rfl rfl) rfl) ?_
   refine ls (op (p_pickt rfl rfl) rfl) ?_
   refine ln (nmid (wk0 (by repeat (first | exact subσ.nil _ | refine subσ.cons rfl ?_)) (by repeat (first | exact Sub.d | (refine Sub.s ?_ ?_; (repeat (first | exact In.z | apply In.s))) | (refine Sub.suf ?_; (repeat (first | exact Suf.z | apply Suf.s)))))))
  ·
   refine ls (op (p_move rfl) rfl) ?_
   refine andX 4 34 38 rfl (subσ.cons (t := 0) rfl (subσ.cons (t := 13) rfl (subσ.cons (t := 14) rfl (subσ.cons (t := 15) rfl (subσ.cons (t := 5) rfl (subσ.cons (t := 6) rfl (subσ.cons (t := 16) rfl (subσ.nil _)))))))) ?_ ?_
   ·
    intro h34
    refine lskip rfl rfl rfl rfl rfl ?_
    refine lskip rfl rfl rfl rfl rfl ?_
    refine lskip rfl rfl rfl rfl rfl ?_
    refine ls (op (p_pickf rfl rfl) rfl) ?_
    refine ln (nmid (wk0 (by repeat (first | exact subσ.nil _ | refine subσ.cons rfl ?_)) (by repeat (first | exact Sub.d | (refine Sub.s ?_ ?_; (repeat (first | exact In.z | apply In.s))) | (refine Sub.suf ?_; (repeat (first | exact Suf.z | apply Suf.s)))))))
   apply exI
   ·
    intro h34
    refine lwant rfl rfl rfl rfl (op (p_move rfl) rfl) ?_
    refine lwant rfl rfl rfl rfl (op (p_lenl rfl Tryd.underlying22) rfl) ?_
    refine lwant rfl rfl rfl rfl (op (p_icmp rfl rfl rfl) rfl) ?_
    refine ls (op (p_pickt rfl rfl) rfl) ?_
    refine ln (nmid (wk0 (by repeat (first | exact subσ.nil _ | refine subσ.cons rfl ?_)) (by repeat (first | exact Sub.d | (refine Sub.s ?_ ?_; (repeat (first | exact In.z | apply In.s))) | (refine Sub.suf ?_; (repeat (first | exact Suf.z | apply Suf.s)))))))
   ·
    refine ls (op (p_asg rfl) rfl) ?_
    refine ln ?_
    refine nthen ?_
    refine cret ?_
    refine xret (fun _ _ h => h) ?_
    refine rret (is := []) () (Or.inl rfl) (Res.t rfl Res.d) ?_ rfl (by repeat (first | exact Sub.d | (refine Sub.s ?_ ?_; (repeat (first | exact In.z | apply In.s))) | (refine Sub.suf ?_; (repeat (first | exact Suf.z | apply Suf.s)))))
    rw [hnn, huu]; rfl

set_option maxRecDepth 100000 in
theorem c_made15 (v : Int) (V : Nat) (hV : max v 0 = (V : Int)) (rows : List (List Prim)) (A : Option Addr) (c : Nat) (hn : rows.length ≤ 1000000) (hVn : V + rows.length ≤ 4611686018427387904)(hR : ∀ l ∈ rows, l.length ≤ 2000000 ∧ ∀ x ∈ l, x.fit) : Con Tryd.prog 7 [.int .i64 v, .slice A rows.length c] [] [slA A rows] {y : Nat × Ring × (Option Addr × Nat) // RI V rows y.2.1 ∧ rows.length ≤ y.2.2.2 ∧ (rows = [] → y.2.2.1 = none → y.2.2.2 = 0)} (fun y => .tuple #[.pointer (some ⟨y.1.1, 0, none⟩), .agg #[.int .i64 (V : Int), .slice y.1.2.2.1 rows.length y.1.2.2.2]]) (fun y => [box y.1.1 64 y.1.2.1.cells]) (fun y => [ringA y.1.2.1.rg, slA y.1.2.2.1 rows]) := by
 refine con Tryd.func7 rfl Tryd.ntmps7 rfl ?_
 intro M0 F0 w0
 refine cs ?_
 refine cr ?_
 refine ls (op (p_asg rfl) rfl) ?_
 refine ls (o_alloc Tryd.zeroValue30 rfl rfl) ?_
 refine le ?_; intro b5
 refine ln ?_
 refine nthen ?_
 refine cs ?_
 refine cr ?_
 refine ls (op (p_move rfl) rfl) ?_
 refine ls (o_call (is := []) Tryd.call14 (c_pNew v V hV) rfl rfl (by repeat (first | exact Sub.d | (refine Sub.s ?_ ?_; (repeat (first | exact In.z | apply In.s))) | (refine Sub.suf ?_; (repeat (first | exact Suf.z | apply Suf.s))))) rfl) ?_
 refine le ?_; intro b11
 refine ls (op (p_move rfl) rfl) ?_
 refine ls (o_call (is := []) Tryd.call19 (c_rNew15 v V hV) rfl rfl (by repeat (first | exact Sub.d | (refine Sub.s ?_ ?_; (repeat (first | exact In.z | apply In.s))) | (refine Sub.suf ?_; (repeat (first | exact Suf.z | apply Suf.s))))) rfl) ?_
 refine le ?_; intro x13
 refine ls (o_alloc Tryd.zeroValue30 rfl rfl) ?_
 refine le ?_; intro b7
 refine ls (op (p_asg rfl) rfl) ?_
 refine ls (o_st rfl Tryd.sizeOf30 rfl rfl rfl rfl rfl (by repeat (first | exact At.z | apply At.s)) (by repeat (first | exact Put.d | apply Put.t | apply Put.s)) (by repeat (first | exact SetAt.z | apply SetAt.s))) ?_
 refine ln ?_
 refine nthen ?_
 refine cs ?_
 refine cs ?_
 refine cmono (fun a w h => nilSl (α := List Prim) h) ?_
 refine cr ?_
 refine ls (op (p_move rfl) rfl) ?_
 refine ls (op (p_lenl rfl Tryd.underlying22) rfl) ?_
 refine ls (op (p_move rfl) rfl) ?_
 refine ln ?_
 refine nthen ?_
 refine cb ?_
 refine cl (ι := {q : Nat × Ring × (Option Addr × Nat) // q.1 ≤ rows.length ∧ RI V (rows.take q.1) q.2.1 ∧ (rows.take q.1).length ≤ q.2.2.2 ∧ (rows.take q.1 = [] → q.2.2.1 = none → q.2.2.2 = 0)}) (fun i => St M0 F0 w0 33 [(5, .pointer (some ⟨b5, 0, none⟩)), (6, .pointer (some ⟨b11, 0, none⟩)), (7, .pointer (some ⟨b7, 0, none⟩)), (14, .slice A rows.length c), (15, .int .i64 (rows.length : Int)), (16, .int .i64 (i.1.1 : Int))] [box b5 30 [.int .i64 0, .slice none 0 0], box b7 30 [.int .i64 (V : Int), .slice i.1.2.2.1 (rows.take i.1.1).length i.1.2.2.2], box b11 64 (i.1.2.1).cells] [ringA (i.1.2.1).rg, slA i.1.2.2.1 (rows.take i.1.1), slA A rows]) (fun i => rows.length - i.1.1) ⟨(0, Ring.zero V, (none, 0)), Nat.zero_le _, RI.zero V, Nat.le_refl _, fun _ _ => rfl⟩ (wk (is := [2, 0, 0]) (by repeat (first | exact subσ.nil _ | refine subσ.cons rfl ?_)) rfl (by repeat (first | exact Sub.d | (refine Sub.s ?_ ?_; (repeat (first | exact In.z | apply In.s))) | (refine Sub.suf ?_; (repeat (first | exact Suf.z | apply Suf.s)))))) ?_
 rintro ⟨⟨k, r, ⟨A2, c2⟩⟩, hk, hI, hc2, h02⟩
 refine cmono (S' := St M0 F0 w0 33 [(5, .pointer (some ⟨b5, 0, none⟩)), (6, .pointer (some ⟨b11, 0, none⟩)), (7, .pointer (some ⟨b7, 0, none⟩)), (14, .slice A rows.length c), (15, .int .i64 (rows.length : Int)), (16, .int .i64 (k : Int))] [box b5 30 [.int .i64 0, .slice none 0 0], box b7 30 [.int .i64 (V : Int), .slice A2 (rows.take k).length c2], box b11 64 (r).cells] [ringA (r).rg, slA A2 (rows.take k), slA A rows]) (fun _ _ h => h) ?_
 refine cs ?_
 refine cr ?_
 refine ls (op (p_icmp rfl rfl rfl) rfl) ?_
 refine ln ?_
 refine nthen ?_
 refine cs ?_
 refine cc rfl ?_ ?_
 ·
  intro h17
  dsimp only at hk hI hc2 h02
  try simp only [decide_eq_true_eq, decide_eq_false_iff_not, Bool.not_eq_true', Bool.not_eq_false', Int.not_lt, Int.not_le, ge_iff_le, Bool.not_true, Bool.not_false] at h17
  have hk1 : k < rows.length := by omega
  have htk : (rows.take k).length = k := by rw [List.length_take]; omega
  have hRk := hR _ (List.getElem_mem hk1)
  refine cskip ?_
  refine nthen ?_
  refine cs ?_
  refine cb ?_
  refine cs ?_
  refine elC (by repeat (first | exact At.z | apply At.s)) k (List.getElem?_eq_getElem (l := rows) hk1) ?_; rintro zbp zop zyp hAp
  refine nilP (y := zyp) (by repeat (first | exact At.z | apply At.s)) (fun hnl => ?_)
  refine cr ?_
  refine ls (op (p_ia k hAp hk1 rfl Tryd.underlying22 Tryd.sizeOf23 rfl rfl) rfl) ?_
  refine ls (o_ldi Tryd.isAgg23 rfl (by repeat (first | exact At.z | apply At.s)) 0 rfl (by repeat (first | exact Cut.d | apply Cut.t | apply Cut.s)) rfl) ?_
  refine ls (op (p_asg rfl) rfl) ?_
  refine ln ?_
  refine nthen ?_
  refine cs ?_
  refine cs ?_
  refine cr ?_
  refine ls (op (p_move rfl) rfl) ?_
  refine ls (op (p_ptrnil Tryd.underlying28 rfl rfl) rfl) ?_
  refine ln ?_
  refine nthen ?_
  refine cc rfl (fun h => by cases h) (fun h => ?_)
  refine cskip ?_
  refine nthen ?_
  refine cs ?_
  refine cr ?_
  refine ls (op (p_move rfl) rfl) ?_
  refine ls (op (p_move rfl) rfl) ?_
  refine ls (o_call (is := []) Tryd.call9 (c_lNew rows[k] zyp.1 zyp.2 hRk.1) rfl rfl (by repeat (first | exact Sub.d | (refine Sub.s ?_ ?_; (repeat (first | exact In.z | apply In.s))) | (refine Sub.suf ?_; (repeat (first | exact Suf.z | apply Suf.s))))) rfl) ?_
  refine le ?_; rintro ⟨A3, c3⟩
  refine ls (o_call (is := [2]) Tryd.call11 (c_pAdd b11 V (rows.take k) r hI (by omega) rows[k] A3 c3 hRk.1 hRk.2) rfl rfl (by repeat (first | exact Sub.d | (refine Sub.s ?_ ?_; (repeat (first | exact In.z | apply In.s))) | (refine Sub.suf ?_; (repeat (first | exact Suf.z | apply Suf.s))))) rfl) ?_
  refine le ?_; rintro ⟨A4, c4⟩
  refine ln ?_
  refine nthen ?_
  refine cr ?_
  refine ls (o_ldw Tryd.isAgg30 Tryd.sizeOf30 rfl (by repeat (first | exact At.z | apply At.s)) (by rfl) rfl) ?_
  refine ls (op (p_move rfl) rfl) ?_
  refine ls (o_call (is := []) Tryd.call20 (c_rAdd15 V (rows.take k) A2 c2 (by omega) (by omega) h02 rows[k] zyp.1 zyp.2 hnl (rows.take (k + 1)) (List.take_succ_eq_append_getElem hk1)) rfl rfl (by repeat (first | exact Sub.d | (refine Sub.s ?_ ?_; (repeat (first | exact In.z | apply In.s))) | (refine Sub.suf ?_; (repeat (first | exact Suf.z | apply Suf.s))))) rfl) ?_
  refine le ?_; rintro ⟨⟨A5, c5⟩, hle⟩
  dsimp only at hle
  have hI2 := hI.add (A := A4) (c := c4) hRk.1 hRk.2
  rw [← List.take_succ_eq_append_getElem hk1] at hI2
  refine ls (o_st rfl Tryd.sizeOf30 rfl rfl rfl rfl rfl (by repeat (first | exact At.z | apply At.s)) (by repeat (first | exact Put.d | apply Put.t | apply Put.s)) (by repeat (first | exact SetAt.z | apply SetAt.s))) ?_
  refine ln ?_
  refine nblock ?_
  refine nthen ?_
  refine cr ?_
  refine ls (op (p_add rfl rfl (by omega)) rfl) ?_
  refine ls (op (p_move rfl) rfl) ?_
  refine ln ?_
  refine nnext ⟨(k + 1, r.add ((V + (rows.take k).length + 1) % 64) (rows[k], A4, c4), (A5, c5)), hk1, hI2, hle, fun h => by have := congrArg List.length h; rw [List.length_take, List.length_nil] at this; omega⟩ (by dsimp only; omega) (wk (is := [1, 1, 0]) (by repeat (first | exact subσ.nil _ | refine subσ.cons rfl ?_)) rfl (by repeat (first | exact Sub.d | (refine Sub.s ?_ ?_; (repeat (first | exact In.z | apply In.s))) | (refine Sub.suf ?_; (repeat (first | exact Suf.z | apply Suf.s))))))
 ·
  intro h17
  dsimp only at hk hI hc2 h02
  try simp only [decide_eq_true_eq, decide_eq_false_iff_not, Bool.not_eq_true', Bool.not_eq_false', Int.not_lt, Int.not_le, ge_iff_le, Bool.not_true, Bool.not_false] at h17
  obtain rfl : k = rows.length := by omega
  rw [List.take_length] at hI hc2 h02
  refine cexit ?_
  refine xthen ?_
  refine xthen ?_
  refine xblock ?_
  refine nthen ?_
  refine cs ?_
  rw [List.take_length]
  refine cd [3] [(1, b7, 0, _)] TrydX.mixed (TOk.t (isBoxS (by repeat (first | exact At.z | apply At.s)) (k := 2) (by repeat (first | exact Cut.d | apply Cut.t | apply Cut.s))) TOk.d) ?_
  refine tk 0 rfl (by kernel_rfl) (fun _ _ _ h => h) gnone (TTany _) (p_move rfl) rfl ?_
  refine tk 1 rfl (by kernel_rfl) (fun _ _ _ h => h) gnone (TTat (List.Mem.head _)) (p_lda Tryd.isAgg30 Tryd.sizeOf30 rfl rfl) rfl ?_
  refine tk 2 rfl (by kernel_rfl) (fun _ _ _ h => h) gnone (TTany _) (p_asg rfl) rfl ?_
  refine df 3 (by kernel_rfl) ?_
  refine doR rfl (o_st rfl Tryd.sizeOf30 rfl rfl rfl rfl rfl (by repeat (first | exact At.z | apply At.s)) (by repeat (first | exact Put.d | apply Put.t | apply Put.s)) (by repeat (first | exact SetAt.z | apply SetAt.s))) (TOk.x (by kernel_rfl) TOk.d) ?_
  refine dn (by kernel_rfl) ?_
  refine nthen ?_
  refine cret ?_
  refine xret (fun _ _ h => h) ?_
  refine rret (is := [2]) ⟨(b11, r, (A2, c2)), hI, hc2, h02⟩ (Or.inl rfl) (Res.t rfl (Res.c rfl Tryd.isAgg30 Tryd.sizeOf30 (by repeat (first | exact At.z | apply At.s)) (by rfl) Res.d)) (rfl) rfl (by repeat (first | exact Sub.d | (refine Sub.s ?_ ?_; (repeat (first | exact In.z | apply In.s))) | (refine Sub.suf ?_; (repeat (first | exact Suf.z | apply Suf.s)))))

end Go.Proofs.YtonmgdamojingaaDoor.X

end
section
set_option linter.unusedVariables false
set_option linter.unusedSimpArgs false
namespace Go.Proofs.YtonmgdamojingaaDoor.X
open Go Go.RowKit Go.Proofs Go.Sx
attribute [local irreducible] slA isA box row

theorem fit_of {p : Prim} (h1 : p.old.length ≤ 2000000) (h2 : p.new.length ≤ 2000000) (h3 : p.name.size ≤ 2000000) (h4 : p.to.size ≤ 2000000) (h5 : p.old.all (fun s => decide (s.size ≤ 2000000)) = true) (h6 : p.new.all (fun s => decide (s.size ≤ 2000000)) = true) : p.fit :=
 ⟨h1, h2, h3, h4, (fun s h => by simpa using List.all_eq_true.1 h5 s h), (fun s h => by simpa using List.all_eq_true.1 h6 s h)⟩
def vA : Prim := ⟨0, ⟨#[97]⟩, ⟨#[]⟩, 0, [⟨#[120]⟩], []⟩
def vB : Prim := ⟨0, ⟨#[97]⟩, ⟨#[]⟩, 5, [⟨#[121]⟩], [⟨#[122]⟩]⟩
def vC : Prim := ⟨0, ⟨#[97]⟩, ⟨#[]⟩, 4, [⟨#[121]⟩], [⟨#[122]⟩]⟩
theorem fitvA : vA.fit := fit_of (by decide) (by decide) (by decide) (by decide) (by decide) (by decide)
theorem fitvB : vB.fit := fit_of (by decide) (by decide) (by decide) (by decide) (by decide) (by decide)
theorem fit1A : ∀ x ∈ [vA], x.fit := by intro x h; simp at h; subst h; exact fitvA
theorem fit1B : ∀ x ∈ [vB], x.fit := by intro x h; simp at h; subst h; exact fitvB
theorem al1 : prebT 3 [[vA]] 3 [vB] = ([vC], 0) := by decide +kernel
theorem al2 : prebT 3 [[vA]] 2 [vB] = ([], 150) := by decide +kernel
theorem al3 : sinceT 3 [[vA]] 3 = ([vA], 0) := by decide +kernel
theorem al4 : atP 3 [[vA]] 4 = ([vA], true) := by decide +kernel
theorem hRA : ∀ l ∈ [[vA]], l.length ≤ 2000000 ∧ ∀ x ∈ l, x.fit := by intro l h; simp at h; subst h; exact ⟨by decide, fit1A⟩
theorem two_eq {α β : Type} {a c : α} {b d : β} (h : (a, b) = (c, d)) : a = c ∧ b = d := by simpa using h
theorem sinceT_ok2 {V : Nat} {rows : List (List Prim)} {z e : Int} {l : List Prim} (h : (l, e) = sinceT V rows z) (hR : ∀ l ∈ rows, l.length ≤ 2000000 ∧ ∀ x ∈ l, x.fit) (hF : rows.flatten.length ≤ 2000000) : l.length ≤ 2000000 ∧ ∀ x ∈ l, x.fit := by
 unfold sinceT at h
 split at h <;> cases h
 ·
  exact ⟨Nat.le_trans (flat_len rows _) hF, flat_fit hR _⟩
 ·
  simp
theorem prebT_ok2 {V : Nat} {rows : List (List Prim)} {z e : Int} {l m : List Prim} (h : (l, e) = prebT V rows z m) (hR : ∀ l ∈ rows, l.length ≤ 2000000 ∧ ∀ x ∈ l, x.fit) (hm : m.length ≤ 2000000) (hf : ∀ x ∈ m, x.fit) : l.length ≤ 2000000 ∧ ∀ x ∈ l, x.fit := by
 unfold prebT at h
 split at h
 ·
  split at h <;> cases h
  ·
   rename_i r hr
   obtain ⟨k1, k2⟩ := reb_ok hr (flat_fit hR _) hf
   exact ⟨by omega, k2⟩
  ·
   simp
 ·
  cases h; simp
theorem flat_sum {rows : List (List Prim)} {n : Nat} (h : n + (rows.map List.length).sum ≤ 60) : rows.flatten.length ≤ 2000000 := by
 rw [List.length_flatten]; omega

theorem many_len (l : List Prim) : l.length ≤ many l := by unfold many; omega
theorem lens_le : ∀ (rows : List (List Prim)), (rows.map List.length).sum ≤ (rows.map many).sum
 | [] => Nat.le_refl _
 | l :: rows => by simp only [List.map_cons, List.sum_cons]; have := lens_le rows; have := many_len l; omega


set_option maxRecDepth 100000 in
theorem c_alive15 : Con Tryd.prog 6 [] [] [] Unit (fun _ => .bool true) (fun _ => []) (fun _ => []) := by
 refine con Tryd.func6 rfl Tryd.ntmps6 rfl ?_
 intro M0 F0 w0
 refine cs ?_
 refine cr ?_
 refine ls (op (p_asg rfl) rfl) ?_
 refine ln ?_
 refine nthen ?_
 refine cs ?_
 refine cr ?_
 refine ls (o_call (is := []) Tryd.call14 (c_pNew 3 3 rfl) rfl rfl (by repeat (first | exact Sub.d | (refine Sub.s ?_ ?_; (repeat (first | exact In.z | apply In.s))) | (refine Sub.suf ?_; (repeat (first | exact Suf.z | apply Suf.s))))) rfl) ?_
 refine le ?_; intro b13
 refine ls (op (p_asg rfl) rfl) ?_
 refine ln ?_
 refine nthen ?_
 refine cs ?_
 refine cs ?_
 refine cr ?_
 refine ls (op (p_move rfl) rfl) ?_
 refine ls (op (p_ptrnil Tryd.underlying28 rfl rfl) rfl) ?_
 refine ln ?_
 refine nthen ?_
 refine cc rfl (fun h => by cases h) (fun h => ?_)
 refine cskip ?_
 refine nthen ?_
 refine cs ?_
 refine cmono (fun a w h => nilSl (α := ByteArray) h) ?_
 refine cr ?_
 refine ls (op (p_move rfl) rfl) ?_
 refine ls (o_bsl ([⟨#[120]⟩] : List ByteArray) Tryd.underlying45 Tryd.sizeOf9 Tryd.zeroValue9 rfl (Enum.t Enum.d) (RV.t () rfl Sub.d RV.d) rfl (by decide) (by decide) rfl) ?_
 refine le ?_; intro b17
 refine lmono (fun a w h => Go.Sx.freeze (i := 0) rfl h) ?_
 refine ls (op (p_bld sb47 rfl (Fill.t (by repeat (first | exact At.z | apply At.s)) rfl rfl (by repeat (first | exact Put.d | apply Put.t | apply Put.s)) (Fill.t (by repeat (first | exact At.z | apply At.s)) rfl rfl (by repeat (first | exact Put.d | apply Put.t | apply Put.s)) (Fill.t (by repeat (first | exact At.z | apply At.s)) rfl rfl (by repeat (first | exact Put.d | apply Put.t | apply Put.s)) Fill.d)))) rfl) ?_
 refine ls (o_bsl [vA] Tryd.underlying33 Tryd.sizeOf47 Tryd.zeroValue47 rfl (Enum.t Enum.d) (RV.t ((some ⟨b17, 0, none⟩, 1), (none, 0)) rfl (by repeat (first | exact Sub.d | (refine Sub.s ?_ ?_; (repeat (first | exact In.z | apply In.s))) | (refine Sub.suf ?_; (repeat (first | exact Suf.z | apply Suf.s))))) RV.d) rfl (by decide) (by decide) rfl) ?_
 refine le ?_; intro b19
 refine lmono (fun a w h => Go.Sx.freeze (i := 0) rfl h) ?_
 refine ls (o_call (is := [0]) Tryd.call11 (c_pAdd b13 3 [] (Ring.zero 3) (RI.zero 3) (by decide) [vA] (some ⟨b19, 0, none⟩) 1 (by decide) fit1A) rfl rfl (by repeat (first | exact Sub.d | (refine Sub.s ?_ ?_; (repeat (first | exact In.z | apply In.s))) | (refine Sub.suf ?_; (repeat (first | exact Suf.z | apply Suf.s))))) rfl) ?_
 refine le ?_; rintro ⟨A1, c1⟩
 have hI : RI 3 [[vA]] (Ring.add (Ring.zero 3) 4 ([vA], A1, c1)) := (RI.zero 3).add (l := [vA]) (A := A1) (c := c1) (by decide) fit1A
 refine ls (op (p_asg rfl) rfl) ?_
 refine ln ?_
 refine nthen ?_
 refine cs ?_
 refine cr ?_
 refine ls (o_bsl ([⟨#[121]⟩] : List ByteArray) Tryd.underlying45 Tryd.sizeOf9 Tryd.zeroValue9 rfl (Enum.t Enum.d) (RV.t () rfl Sub.d RV.d) rfl (by decide) (by decide) rfl) ?_
 refine le ?_; intro b21
 refine lmono (fun a w h => Go.Sx.freeze (i := 0) rfl h) ?_
 refine ls (o_bsl ([⟨#[122]⟩] : List ByteArray) Tryd.underlying45 Tryd.sizeOf9 Tryd.zeroValue9 rfl (Enum.t Enum.d) (RV.t () rfl Sub.d RV.d) rfl (by decide) (by decide) rfl) ?_
 refine le ?_; intro b22
 refine lmono (fun a w h => Go.Sx.freeze (i := 0) rfl h) ?_
 refine ls (op (p_bld sb47 rfl (Fill.t (by repeat (first | exact At.z | apply At.s)) rfl rfl (by repeat (first | exact Put.d | apply Put.t | apply Put.s)) (Fill.t (by repeat (first | exact At.z | apply At.s)) rfl rfl (by repeat (first | exact Put.d | apply Put.t | apply Put.s)) (Fill.t (by repeat (first | exact At.z | apply At.s)) rfl rfl (by repeat (first | exact Put.d | apply Put.t | apply Put.s)) (Fill.t (by repeat (first | exact At.z | apply At.s)) rfl rfl (by repeat (first | exact Put.d | apply Put.t | apply Put.s)) (Fill.t (by repeat (first | exact At.z | apply At.s)) rfl rfl (by repeat (first | exact Put.d | apply Put.t | apply Put.s)) Fill.d)))))) rfl) ?_
 refine ls (o_bsl [vB] Tryd.underlying33 Tryd.sizeOf47 Tryd.zeroValue47 rfl (Enum.t Enum.d) (RV.t ((some ⟨b21, 0, none⟩, 1), (some ⟨b22, 0, none⟩, 1)) rfl (by repeat (first | exact Sub.d | (refine Sub.s ?_ ?_; (repeat (first | exact In.z | apply In.s))) | (refine Sub.suf ?_; (repeat (first | exact Suf.z | apply Suf.s))))) RV.d) rfl (by decide) (by decide) rfl) ?_
 refine le ?_; intro b24
 refine lmono (fun a w h => Go.Sx.freeze (i := 0) rfl h) ?_
 refine ls (op (p_asg rfl) rfl) ?_
 refine ln ?_
 refine nthen ?_
 refine cs ?_
 refine cr ?_
 refine ls (op (p_move rfl) rfl) ?_
 refine ls (op (p_move rfl) rfl) ?_
 refine ls (o_call (is := [0]) Tryd.call8 (c_pRebase b13 3 [[vA]] (Ring.add (Ring.zero 3) 4 ([vA], A1, c1)) hI (by decide) hRA 3 [vB] (some ⟨b24, 0, none⟩) 1 (by decide) fit1B) rfl rfl (by repeat (first | exact Sub.d | (refine Sub.s ?_ ?_; (repeat (first | exact In.z | apply In.s))) | (refine Sub.suf ?_; (repeat (first | exact Suf.z | apply Suf.s))))) rfl) ?_
 refine le ?_; rintro ⟨⟨⟨l1, e1⟩, ⟨A2, c2⟩⟩, hr⟩
 obtain ⟨rfl, rfl⟩ := two_eq (hr.trans al1)
 refine ls (op (p_move rfl) rfl) ?_
 refine ls (op (p_ext rfl (by repeat (first | exact At.z | apply At.s))) rfl) ?_
 refine ls (op (p_ext rfl (by repeat (first | exact At.z | apply At.s))) rfl) ?_
 refine ls (op (p_asg rfl) rfl) ?_
 refine ls (op (p_asg rfl) rfl) ?_
 refine ln ?_
 refine nthen ?_
 refine cs ?_
 refine cr ?_
 refine ls (op (p_move rfl) rfl) ?_
 refine ls (op (p_move rfl) rfl) ?_
 refine ls (o_call (is := [0]) Tryd.call8 (c_pRebase b13 3 [[vA]] (Ring.add (Ring.zero 3) 4 ([vA], A1, c1)) hI (by decide) hRA 2 [vB] (some ⟨b24, 0, none⟩) 1 (by decide) fit1B) rfl rfl (by repeat (first | exact Sub.d | (refine Sub.s ?_ ?_; (repeat (first | exact In.z | apply In.s))) | (refine Sub.suf ?_; (repeat (first | exact Suf.z | apply Suf.s))))) rfl) ?_
 refine le ?_; rintro ⟨⟨⟨l2, e2⟩, ⟨A3, c3⟩⟩, hr2⟩
 obtain ⟨rfl, rfl⟩ := two_eq (hr2.trans al2)
 refine ls (op (p_move rfl) rfl) ?_
 refine ls (op (p_ext rfl (by repeat (first | exact At.z | apply At.s))) rfl) ?_
 refine ls (op (p_ext rfl (by repeat (first | exact At.z | apply At.s))) rfl) ?_
 refine ls (op (p_asg rfl) rfl) ?_
 refine ls (op (p_asg rfl) rfl) ?_
 refine ln ?_
 refine nthen ?_
 refine cs ?_
 refine cr ?_
 refine ls (op (p_move rfl) rfl) ?_
 refine ls (o_call (is := [0]) Tryd.call15 (c_pSince b13 3 [[vA]] (Ring.add (Ring.zero 3) 4 ([vA], A1, c1)) hI (by decide) hRA (by decide) 3) rfl rfl (by repeat (first | exact Sub.d | (refine Sub.s ?_ ?_; (repeat (first | exact In.z | apply In.s))) | (refine Sub.suf ?_; (repeat (first | exact Suf.z | apply Suf.s))))) rfl) ?_
 refine le ?_; rintro ⟨⟨⟨l3, e3⟩, ⟨A4, c4⟩⟩, hr3⟩
 obtain ⟨rfl, rfl⟩ := two_eq (hr3.trans al3)
 refine ls (op (p_move rfl) rfl) ?_
 refine ls (op (p_ext rfl (by repeat (first | exact At.z | apply At.s))) rfl) ?_
 refine ls (op (p_ext rfl (by repeat (first | exact At.z | apply At.s))) rfl) ?_
 refine ls (op (p_asg rfl) rfl) ?_
 refine ls (op (p_asg rfl) rfl) ?_
 refine ln ?_
 refine nthen ?_
 refine cs ?_
 refine cr ?_
 refine ls (op (p_move rfl) rfl) ?_
 refine ls (o_call (is := [0]) Tryd.call16 (c_pCopy b13 (Ring.add (Ring.zero 3) 4 ([vA], A1, c1)) hI.len) rfl rfl (by repeat (first | exact Sub.d | (refine Sub.s ?_ ?_; (repeat (first | exact In.z | apply In.s))) | (refine Sub.suf ?_; (repeat (first | exact Suf.z | apply Suf.s))))) rfl) ?_
 refine le ?_; intro b43
 refine ls (op (p_asg rfl) rfl) ?_
 refine ln ?_
 refine nthen ?_
 refine cs ?_
 refine cr ?_
 refine ls (op (p_move rfl) rfl) ?_
 refine ls (o_call (is := [1]) Tryd.call17 (c_pAt b13 3 [[vA]] (Ring.add (Ring.zero 3) 4 ([vA], A1, c1)) hI (by decide) 4) rfl rfl (by repeat (first | exact Sub.d | (refine Sub.s ?_ ?_; (repeat (first | exact In.z | apply In.s))) | (refine Sub.suf ?_; (repeat (first | exact Suf.z | apply Suf.s))))) rfl) ?_
 refine le ?_; rintro ⟨⟨⟨l5, e5⟩, ⟨A5, c5⟩⟩, hr5⟩
 obtain ⟨rfl, rfl⟩ := two_eq (hr5.trans al4)
 refine ls (op (p_move rfl) rfl) ?_
 refine ls (op (p_ext rfl (by repeat (first | exact At.z | apply At.s))) rfl) ?_
 refine ls (op (p_ext rfl (by repeat (first | exact At.z | apply At.s))) rfl) ?_
 refine ls (op (p_asg rfl) rfl) ?_
 refine ls (op (p_asg rfl) rfl) ?_
 refine ln ?_
 refine nthen ?_
 refine cs ?_
 refine cmono (fun a w h => nilSl (α := Prim) h) ?_
 refine elC (by repeat (first | exact At.z | apply At.s)) 0 ((show ([vC] : List Prim)[0]? = some vC from rfl)) ?_; rintro zbp zop zyp hAp
 refine cr ?_
 refine ls (op (p_move rfl) rfl) ?_
 refine ls (op (p_icmp rfl rfl rfl) rfl) ?_
 refine ls (op (p_move rfl) rfl) ?_
 refine lwant rfl rfl rfl rfl (op (p_move rfl) rfl) ?_
 refine lwant rfl rfl rfl rfl (op (p_lenl rfl Tryd.underlying33) rfl) ?_
 refine lwant rfl rfl rfl rfl (op (p_icmp rfl rfl rfl) rfl) ?_
 refine ls (op (p_pickt rfl rfl) rfl) ?_
 refine ls (op (p_move rfl) rfl) ?_
 refine lwant rfl rfl rfl rfl (op (p_move rfl) rfl) ?_
 refine lwant rfl rfl rfl rfl (op (p_ia 0 hAp Nat.zero_lt_one rfl Tryd.underlying33 Tryd.sizeOf47 rfl rfl) rfl) ?_
 refine lwant rfl rfl rfl rfl (op (p_fa fa47_3 rfl) rfl) ?_
 refine lwant rfl rfl rfl rfl (o_ldi Tryd.isAgg3 rfl (by repeat (first | exact At.z | apply At.s)) 3 rfl (by repeat (first | exact Cut.d | apply Cut.t | apply Cut.s)) rfl) ?_
 refine lwant rfl rfl rfl rfl (op (p_icmp rfl rfl rfl) rfl) ?_
 refine ls (op (p_pickt rfl rfl) rfl) ?_
 refine ls (op (p_move rfl) rfl) ?_
 refine lwant rfl rfl rfl rfl (op (p_move rfl) rfl) ?_
 refine lwant rfl rfl rfl rfl (op (p_icmp rfl rfl rfl) rfl) ?_
 refine ls (op (p_pickt rfl rfl) rfl) ?_
 refine ls (op (p_move rfl) rfl) ?_
 refine lwant rfl rfl rfl rfl (op (p_move rfl) rfl) ?_
 refine lwant rfl rfl rfl rfl (op (p_icmp rfl rfl rfl) rfl) ?_
 refine ls (op (p_pickt rfl rfl) rfl) ?_
 refine ls (op (p_move rfl) rfl) ?_
 refine lwant rfl rfl rfl rfl (op (p_move rfl) rfl) ?_
 refine lwant rfl rfl rfl rfl (op (p_lenl rfl Tryd.underlying33) rfl) ?_
 refine lwant rfl rfl rfl rfl (op (p_icmp rfl rfl rfl) rfl) ?_
 refine ls (op (p_pickt rfl rfl) rfl) ?_
 refine ls (op (p_move rfl) rfl) ?_
 refine lwant rfl rfl rfl rfl (op (p_move rfl) rfl) ?_
 refine lwant rfl rfl rfl rfl (op (p_icmp rfl rfl rfl) rfl) ?_
 refine ls (op (p_pickt rfl rfl) rfl) ?_
 refine ls (op (p_move rfl) rfl) ?_
 refine lwant rfl rfl rfl rfl (op (p_move rfl) rfl) ?_
 refine lwant rfl rfl rfl rfl (op (p_ptrnn Tryd.underlying28 rfl rfl) rfl) ?_
 refine ls (op (p_pickt rfl rfl) rfl) ?_
 refine ls (op (p_move rfl) rfl) ?_
 refine lwant rfl rfl rfl rfl (op (p_move rfl) rfl) ?_
 refine lwant rfl rfl rfl rfl (o_call (is := [1]) Tryd.call11 (c_pAdd b43 3 [[vA]] (Ring.add (Ring.zero 3) 4 ([vA], A1, c1)) hI (by decide) [] none 0 (by decide) (by simp)) rfl rfl (by repeat (first | exact Sub.d | (refine Sub.s ?_ ?_; (repeat (first | exact In.z | apply In.s))) | (refine Sub.suf ?_; (repeat (first | exact Suf.z | apply Suf.s))))) rfl) ?_
 refine le ?_; rintro ⟨A6, c6⟩
 refine lwant rfl rfl rfl rfl (op (p_icmp rfl rfl rfl) rfl) ?_
 refine ls (op (p_pickt rfl rfl) rfl) ?_
 refine ls (op (p_move rfl) rfl) ?_
 refine lwant rfl rfl rfl rfl (op (p_move rfl) rfl) ?_
 refine lwant rfl rfl rfl rfl (o_call (is := [1]) Tryd.call12 (c_pVersion b13 (Ring.add (Ring.zero 3) 4 ([vA], A1, c1))) rfl rfl (by repeat (first | exact Sub.d | (refine Sub.s ?_ ?_; (repeat (first | exact In.z | apply In.s))) | (refine Sub.suf ?_; (repeat (first | exact Suf.z | apply Suf.s))))) rfl) ?_
 refine le ?_; intro x91
 refine lwant rfl rfl rfl rfl (op (p_icmp rfl rfl rfl) rfl) ?_
 refine ls (op (p_pickt rfl rfl) rfl) ?_
 refine ls (op (p_move rfl) rfl) ?_
 refine lwant rfl rfl rfl rfl (op (p_move rfl) rfl) ?_
 refine lwant rfl rfl rfl rfl (o_call (is := [0]) Tryd.call18 (c_pFirst b13 3 [[vA]] (Ring.add (Ring.zero 3) 4 ([vA], A1, c1)) hI (by decide)) rfl rfl (by repeat (first | exact Sub.d | (refine Sub.s ?_ ?_; (repeat (first | exact In.z | apply In.s))) | (refine Sub.suf ?_; (repeat (first | exact Suf.z | apply Suf.s))))) rfl) ?_
 refine le ?_; intro x96
 refine lwant rfl rfl rfl rfl (op (p_icmp rfl rfl rfl) rfl) ?_
 refine ls (op (p_pickt rfl rfl) rfl) ?_
 refine ls (op (p_move rfl) rfl) ?_
 refine lwant rfl rfl rfl rfl (op (p_move rfl) rfl) ?_
 refine lwant rfl rfl rfl rfl (op (p_lenl rfl Tryd.underlying33) rfl) ?_
 refine lwant rfl rfl rfl rfl (op (p_icmp rfl rfl rfl) rfl) ?_
 refine ls (op (p_pickt rfl rfl) rfl) ?_
 refine ls (op (p_move rfl) rfl) ?_
 refine lwant rfl rfl rfl rfl (op (p_move rfl) rfl) ?_
 refine ls (op (p_pickt rfl rfl) rfl) ?_
 refine ls (op (p_asg rfl) rfl) ?_
 refine ln ?_
 refine nthen ?_
 refine cret ?_
 refine xret (fun _ _ h => h) ?_
 refine rret (is := []) () (Or.inl rfl) (Res.t rfl Res.d) (rfl) rfl (by repeat (first | exact Sub.d | (refine Sub.s ?_ ?_; (repeat (first | exact In.z | apply In.s))) | (refine Sub.suf ?_; (repeat (first | exact Suf.z | apply Suf.s)))))

end Go.Proofs.YtonmgdamojingaaDoor.X

end
