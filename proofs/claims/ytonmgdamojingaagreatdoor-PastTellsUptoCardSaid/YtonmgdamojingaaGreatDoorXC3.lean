/- OWN WORK: a part of the proof of a law of the seat YtonmgdamojingaaGreatDoor: contracts. -/
import Derived.Test.YtonmgdamojingaaGreatDoorProg
import Derived.Test.YtonmgdamojingaaGreatDoorXC2
import Derived.Test.YtonmgdamojingaaGreatDoorXSx2
section
set_option linter.unusedVariables false
set_option linter.unusedSimpArgs false
namespace Go.Proofs.YtonmgdamojingaaGreatDoor.X
open Go Go.RowKit Go.Proofs Go.Sx
attribute [local irreducible] slA isA box row

theorem fa29_0 : FA Tryz.prog 29 0 0 := fun b o w => by kernel_rfl
theorem fa29_1 : FA Tryz.prog 29 1 1 := fun b o w => by kernel_rfl
theorem inf31 : (Tryz.prog.info? 31).map (fun i => (i.zero, i.size, i.bytes)) = some (some (.slice none 0 0), 1, 24) := by kernel_rfl
theorem sb29 : SB Tryz.prog 29 [(0, 1), (1, 1)] [.int .i64 0, .slice none 0 0] := SB.struct Tryz.zeroValue29 rfl Tryz.underlying29 (fun w => by kernel_rfl)
set_option maxRecDepth 100000 in
theorem c_rNew15 (v : Int) (V : Nat) (hV : max v 0 = (V : Int)) : Con Tryz.prog 11 [.int .i64 v] [] [] Unit (fun _ => .agg #[.int .i64 (V : Int), .slice none 0 0]) (fun _ => []) (fun _ => []) := by
 refine con Tryz.func11 rfl Tryz.ntmps11 rfl ?_
 intro M0 F0 w0
 refine cs ?_
 refine cr ?_
 refine ls (o_alloc Tryz.zeroValue29 rfl rfl) ?_
 refine le ?_; intro b2
 refine ln ?_
 refine nthen ?_
 refine cs ?_
 refine cs ?_
 refine cr ?_
 refine ls (op (p_move rfl) rfl) ?_
 refine ls (op (p_icmp rfl rfl rfl) rfl) ?_
 refine ln ?_
 refine nthen ?_
 refine cc rfl ?_ ?_
 ·
  intro h4
  try simp only [decide_eq_true_eq, decide_eq_false_iff_not, Bool.not_eq_true', Bool.not_eq_false', Int.not_lt, Int.not_le, ge_iff_le, Bool.not_true, Bool.not_false] at h4
  obtain rfl : V = 0 := by omega
  refine cr ?_
  refine ls (op (p_asg rfl) rfl) ?_
  refine ln ?_
  refine nthen ?_
  refine cs ?_
  refine cr ?_
  refine ls (op (p_move rfl) rfl) ?_
  refine ls (op (p_bld sb29 rfl (Fill.t (by repeat (first | exact At.z | apply At.s)) rfl rfl (by repeat (first | exact Put.d | apply Put.t | apply Put.s)) Fill.d)) rfl) ?_
  refine ls (o_st rfl Tryz.sizeOf29 rfl rfl rfl rfl rfl (by repeat (first | exact At.z | apply At.s)) (by repeat (first | exact Put.d | apply Put.t | apply Put.s)) (by repeat (first | exact SetAt.z | apply SetAt.s))) ?_
  refine ln ?_
  refine nthen ?_
  refine cret ?_
  refine xret (fun _ _ h => h) ?_
  refine rret (is := []) () (Or.inl rfl) (Res.c rfl Tryz.isAgg29 Tryz.sizeOf29 (by repeat (first | exact At.z | apply At.s)) (by rfl) Res.d) (rfl) rfl (by repeat (first | exact Sub.d | (refine Sub.s ?_ ?_; (repeat (first | exact In.z | apply In.s))) | (refine Sub.suf ?_; (repeat (first | exact Suf.z | apply Suf.s)))))
 ·
  intro h4
  try simp only [decide_eq_true_eq, decide_eq_false_iff_not, Bool.not_eq_true', Bool.not_eq_false', Int.not_lt, Int.not_le, ge_iff_le, Bool.not_true, Bool.not_false] at h4
  obtain rfl : v = (V : Int) := by omega
  refine cskip ?_
  refine nthen ?_
  refine cs ?_
  refine cr ?_
  refine ls (op (p_move rfl) rfl) ?_
  refine ls (op (p_bld sb29 rfl (Fill.t (by repeat (first | exact At.z | apply At.s)) rfl rfl (by repeat (first | exact Put.d | apply Put.t | apply Put.s)) Fill.d)) rfl) ?_
  refine ls (o_st rfl Tryz.sizeOf29 rfl rfl rfl rfl rfl (by repeat (first | exact At.z | apply At.s)) (by repeat (first | exact Put.d | apply Put.t | apply Put.s)) (by repeat (first | exact SetAt.z | apply SetAt.s))) ?_
  refine ln ?_
  refine nthen ?_
  refine cret ?_
  refine xret (fun _ _ h => h) ?_
  refine rret (is := []) () (Or.inl rfl) (Res.c rfl Tryz.isAgg29 Tryz.sizeOf29 (by repeat (first | exact At.z | apply At.s)) (by rfl) Res.d) (rfl) rfl (by repeat (first | exact Sub.d | (refine Sub.s ?_ ?_; (repeat (first | exact In.z | apply In.s))) | (refine Sub.suf ?_; (repeat (first | exact Suf.z | apply Suf.s)))))

set_option maxRecDepth 100000 in
theorem c_rVer15 (V : Nat) (rows : List (List Prim)) (A : Option Addr) (c : Nat) (hV : V + rows.length ≤ 4611686018427387904) : Con Tryz.prog 15 [.agg #[.int .i64 (V : Int), .slice A rows.length c]] [] [] Unit (fun _ => .int .i64 ((V + rows.length : Nat) : Int)) (fun _ => []) (fun _ => []) := by
 refine con Tryz.func15 rfl Tryz.ntmps15 rfl ?_
 intro M0 F0 w0
 refine cs ?_
 refine cr ?_
 refine ls (o_box rfl rfl rfl) ?_
 refine le ?_; intro b1
 refine ls (op (p_asg rfl) rfl) ?_
 refine ln ?_
 refine nthen ?_
 refine cs ?_
 refine cr ?_
 refine ls (op (p_fa fa29_0 rfl) rfl) ?_
 refine ls (o_ld Tryz.isAgg3 rfl (by repeat (first | exact At.z | apply At.s)) (by repeat (first | exact At.z | apply At.s)) rfl) ?_
 refine ls (op (p_fa fa29_1 rfl) rfl) ?_
 refine ls (o_ld Tryz.isAgg22 rfl (by repeat (first | exact At.z | apply At.s)) (by repeat (first | exact At.z | apply At.s)) rfl) ?_
 refine ls (op (p_lenl rfl Tryz.underlying22) rfl) ?_
 refine ls (op (p_add rfl rfl (by omega)) rfl) ?_
 refine ls (op (p_asg rfl) rfl) ?_
 refine ln ?_
 refine nthen ?_
 refine cret ?_
 refine xret (fun _ _ h => h) ?_
 refine rret (is := []) () (Or.inl rfl) (Res.t rfl Res.d) ?_ rfl (by repeat (first | exact Sub.d | (refine Sub.s ?_ ?_; (repeat (first | exact In.z | apply In.s))) | (refine Sub.suf ?_; (repeat (first | exact Suf.z | apply Suf.s)))))
 rw [Int.natCast_add]; rfl

set_option maxRecDepth 100000 in
theorem c_rFst15 (V : Nat) (rows : List (List Prim)) (A : Option Addr) (c : Nat) (hV : V + rows.length ≤ 4611686018427387904) : Con Tryz.prog 18 [.agg #[.int .i64 (V : Int), .slice A rows.length c]] [] [] Unit (fun _ => .int .i64 ((least V rows.length : Nat) : Int)) (fun _ => []) (fun _ => []) := by
 refine con Tryz.func18 rfl Tryz.ntmps18 rfl ?_
 intro M0 F0 w0
 refine cs ?_
 refine cr ?_
 refine ls (o_box rfl rfl rfl) ?_
 refine le ?_; intro b1
 refine ls (op (p_asg rfl) rfl) ?_
 refine ln ?_
 refine nthen ?_
 refine cs ?_
 refine cs ?_
 refine cr ?_
 refine ls (op (p_fa fa29_1 rfl) rfl) ?_
 refine ls (o_ld Tryz.isAgg22 rfl (by repeat (first | exact At.z | apply At.s)) (by repeat (first | exact At.z | apply At.s)) rfl) ?_
 refine ls (op (p_lenl rfl Tryz.underlying22) rfl) ?_
 refine ls (op (p_icmp rfl rfl rfl) rfl) ?_
 refine ln ?_
 refine nthen ?_
 refine cc rfl ?_ ?_
 ·
  intro h6
  try simp only [decide_eq_true_eq, decide_eq_false_iff_not, Bool.not_eq_true', Bool.not_eq_false', Int.not_lt, Int.not_le, ge_iff_le, Bool.not_true, Bool.not_false] at h6
  refine cs ?_
  refine cr ?_
  refine ls (o_ldw Tryz.isAgg29 Tryz.sizeOf29 rfl (by repeat (first | exact At.z | apply At.s)) (by rfl) rfl) ?_
  refine ls (o_call (is := []) Tryz.call15 (c_rVer15 V rows A c hV) rfl rfl (by repeat (first | exact Sub.d | (refine Sub.s ?_ ?_; (repeat (first | exact In.z | apply In.s))) | (refine Sub.suf ?_; (repeat (first | exact Suf.z | apply Suf.s))))) rfl) ?_
  refine le ?_; intro x8
  refine ls (op (p_sub rfl rfl (by omega)) rfl) ?_
  refine ls (op (p_asg rfl) rfl) ?_
  refine ln ?_
  refine nthen ?_
  refine cret ?_
  refine xret (fun _ _ h => h) ?_
  refine rret (is := []) () (Or.inl rfl) (Res.t rfl Res.d) ?_ rfl (by repeat (first | exact Sub.d | (refine Sub.s ?_ ?_; (repeat (first | exact In.z | apply In.s))) | (refine Sub.suf ?_; (repeat (first | exact Suf.z | apply Suf.s)))))
  rw [show ((least V rows.length : Nat) : Int) = ((V + rows.length : Nat) : Int) - 64 by unfold least; omega]; rfl
 ·
  intro h6
  try simp only [decide_eq_true_eq, decide_eq_false_iff_not, Bool.not_eq_true', Bool.not_eq_false', Int.not_lt, Int.not_le, ge_iff_le, Bool.not_true, Bool.not_false] at h6
  refine cskip ?_
  refine nthen ?_
  refine cs ?_
  refine cr ?_
  refine ls (op (p_fa fa29_0 rfl) rfl) ?_
  refine ls (o_ld Tryz.isAgg3 rfl (by repeat (first | exact At.z | apply At.s)) (by repeat (first | exact At.z | apply At.s)) rfl) ?_
  refine ls (op (p_asg rfl) rfl) ?_
  refine ln ?_
  refine nthen ?_
  refine cret ?_
  refine xret (fun _ _ h => h) ?_
  refine rret (is := []) () (Or.inl rfl) (Res.t rfl Res.d) ?_ rfl (by repeat (first | exact Sub.d | (refine Sub.s ?_ ?_; (repeat (first | exact In.z | apply In.s))) | (refine Sub.suf ?_; (repeat (first | exact Suf.z | apply Suf.s)))))
  rw [show least V rows.length = V by unfold least; omega]; rfl

set_option maxRecDepth 100000 in
theorem c_rAdd15 (V : Nat) (rows : List (List Prim)) (A : Option Addr) (c : Nat) (hV : V + rows.length ≤ 4611686018427387904) (hn : rows.length ≤ 1000000) (hA0 : rows = [] → A = none → c = 0) (l : List Prim) (B : Option Addr) (c' : Nat) (hB0 : B = none → c' = 0) (rs : List (List Prim)) (hrs : rs = rows ++ [l]) : Con Tryz.prog 12 [.agg #[.int .i64 (V : Int), .slice A rows.length c], .slice B l.length c'] [] [slA A rows, slA B l] {y : Option Addr × Nat // rs.length ≤ y.2} (fun y => .agg #[.int .i64 (V : Int), .slice y.1.1 rs.length y.1.2]) (fun _ => []) (fun y => [slA y.1.1 rs]) := by
 subst hrs
 refine con Tryz.func12 rfl Tryz.ntmps12 rfl ?_
 intro M0 F0 w0
 refine cs ?_
 refine cr ?_
 refine ls (o_box rfl rfl rfl) ?_
 refine le ?_; intro b2
 refine ls (o_alloc Tryz.zeroValue29 rfl rfl) ?_
 refine le ?_; intro b4
 refine ln ?_
 refine nthen ?_
 refine cs ?_
 refine cmono (fun a w h => nilQ (y := (B, c')) hB0 h) ?_
 refine cr ?_
 refine ls (o_bsl ([] : List (List Prim)) Tryz.underlying22 Tryz.sizeOf31 Tryz.zeroValue31 rfl Enum.d RV.d rfl (by decide) (by decide) rfl) ?_
 refine le ?_; intro b5
 refine ls (op (p_fa fa29_1 rfl) rfl) ?_
 refine ls (o_ld Tryz.isAgg22 rfl (by repeat (first | exact At.z | apply At.s)) (by repeat (first | exact At.z | apply At.s)) rfl) ?_
 refine ls (o_app (is := [0]) Tryz.underlying22 inf31 rfl (by decide) (by decide) rfl rfl (by simp only [List.length_nil]; omega) (fun h hB => hA0 h hB) rfl (by repeat (first | exact Sub.d | (refine Sub.s ?_ ?_; (repeat (first | exact In.z | apply In.s))) | (refine Sub.suf ?_; (repeat (first | exact Suf.z | apply Suf.s))))) rfl) ?_
 refine le ?_; rintro ⟨A8, c8⟩
 refine ls (op (p_move rfl) rfl) ?_
 refine ls (o_bsl [l] Tryz.underlying22 Tryz.sizeOf31 Tryz.zeroValue31 rfl (Enum.t Enum.d) (RV.t (B, c') rfl (by repeat (first | exact Sub.d | (refine Sub.s ?_ ?_; (repeat (first | exact In.z | apply In.s))) | (refine Sub.suf ?_; (repeat (first | exact Suf.z | apply Suf.s))))) RV.d) rfl (by decide) (by decide) rfl) ?_
 refine le ?_; intro b10
 refine lmono (fun a w h => Go.Sx.freeze (i := 0) rfl h) ?_
 refine ls (o_app (is := [0]) Tryz.underlying22 inf31 rfl (by decide) (by decide) rfl rfl (by simp only [List.length_append, List.length_nil, List.length_cons]; omega) (fun h => by cases h) rfl (by repeat (first | exact Sub.d | (refine Sub.s ?_ ?_; (repeat (first | exact In.z | apply In.s))) | (refine Sub.suf ?_; (repeat (first | exact Suf.z | apply Suf.s))))) rfl) ?_
 refine le ?_; rintro ⟨A9, c9⟩
 refine ls (op (p_fa fa29_1 rfl) rfl) ?_
 refine ls (o_st rfl Tryz.sizeOf22 rfl rfl rfl rfl rfl (by repeat (first | exact At.z | apply At.s)) (by repeat (first | exact Put.d | apply Put.t | apply Put.s)) (by repeat (first | exact SetAt.z | apply SetAt.s))) ?_
 refine ln ?_
 refine nthen ?_
 refine cs ?_
 refine rowLeC (by repeat (first | exact At.z | apply At.s)) (fun hle => ?_)
 refine cmono (fun a w h => Go.Sx.freeze (i := 0) rfl h) ?_
 refine cr ?_
 refine ls (o_ldw Tryz.isAgg29 Tryz.sizeOf29 rfl (by repeat (first | exact At.z | apply At.s)) (by rfl) rfl) ?_
 refine ls (o_st rfl Tryz.sizeOf29 rfl rfl rfl rfl rfl (by repeat (first | exact At.z | apply At.s)) (by repeat (first | exact Put.d | apply Put.t | apply Put.s)) (by repeat (first | exact SetAt.z | apply SetAt.s))) ?_
 refine ln ?_
 refine nthen ?_
 refine cret ?_
 refine xret (fun _ _ h => h) ?_
 refine rret (is := []) ⟨(A9, c9), hle⟩ (Or.inl rfl) (Res.c rfl Tryz.isAgg29 Tryz.sizeOf29 (by repeat (first | exact At.z | apply At.s)) (by rfl) Res.d) (rfl) rfl (by repeat (first | exact Sub.d | (refine Sub.s ?_ ?_; (repeat (first | exact In.z | apply In.s))) | (refine Sub.suf ?_; (repeat (first | exact Suf.z | apply Suf.s)))))

set_option maxRecDepth 100000 in
theorem c_rRows15 (V : Nat) (rows : List (List Prim)) (A : Option Addr) (c : Nat) (hV : V + rows.length ≤ 4611686018427387904) (hc : rows.length ≤ c) (z : Int) (hz : -9223372036854775808 ≤ z ∧ z < 9223372036854775808) : Con Tryz.prog 37 [.agg #[.int .i64 (V : Int), .slice A rows.length c], .int .i64 z] [] [slA A rows] {x : (List (List Prim) × Bool) × (Option Addr × Nat) // x.1 = rowsT V rows z} (fun x => .tuple #[.slice x.1.2.1 x.1.1.1.length x.1.2.2, .bool x.1.1.2]) (fun _ => []) (fun x => [slA x.1.2.1 x.1.1.1]) := by
 refine con Tryz.func37 rfl Tryz.ntmps37 rfl ?_
 intro M0 F0 w0
 refine cs ?_
 refine cr ?_
 refine ls (o_box rfl rfl rfl) ?_
 refine le ?_; intro b2
 refine ls (op (p_asg rfl) rfl) ?_
 refine ls (op (p_asg rfl) rfl) ?_
 refine ln ?_
 refine nthen ?_
 refine cs ?_
 refine cs ?_
 refine cr ?_
 refine ls (op (p_move rfl) rfl) ?_
 refine ls (o_ldw Tryz.isAgg29 Tryz.sizeOf29 rfl (by repeat (first | exact At.z | apply At.s)) (by rfl) rfl) ?_
 refine ls (o_call (is := []) Tryz.call18 (c_rFst15 V rows A c hV) rfl rfl (by repeat (first | exact Sub.d | (refine Sub.s ?_ ?_; (repeat (first | exact In.z | apply In.s))) | (refine Sub.suf ?_; (repeat (first | exact Suf.z | apply Suf.s))))) rfl) ?_
 refine le ?_; intro x8
 refine ls (op (p_icmp rfl rfl rfl) rfl) ?_
 refine ls (op (p_move rfl) rfl) ?_
 refine orX 5 10 15 rfl (subσ.cons (t := 0) rfl (subσ.cons (t := 1) rfl (subσ.cons (t := 2) rfl (subσ.cons (t := 4) rfl (subσ.cons (t := 5) rfl (subσ.nil _)))))) ?_ ?_
 ·
  intro h10
  refine lskip rfl rfl rfl rfl rfl ?_
  refine lskip rfl rfl rfl rfl rfl ?_
  refine lskip rfl rfl rfl rfl rfl ?_
  refine lskip rfl rfl rfl rfl rfl ?_
  refine ls (op (p_pickt rfl rfl) rfl) ?_
  refine ln (nmid (wk0 (by repeat (first | exact subσ.nil _ | refine subσ.cons rfl ?_)) (by repeat (first | exact Sub.d | (refine Sub.s ?_ ?_; (repeat (first | exact In.z | apply In.s))) | (refine Sub.suf ?_; (repeat (first | exact Suf.z | apply Suf.s)))))))
 apply exI
 ·
  intro h10
  refine lwant rfl rfl rfl rfl (op (p_move rfl) rfl) ?_
  refine lwant rfl rfl rfl rfl (o_ldw Tryz.isAgg29 Tryz.sizeOf29 rfl (by repeat (first | exact At.z | apply At.s)) (by rfl) rfl) ?_
  refine lwant rfl rfl rfl rfl (o_call (is := []) Tryz.call15 (c_rVer15 V rows A c hV) rfl rfl (by repeat (first | exact Sub.d | (refine Sub.s ?_ ?_; (repeat (first | exact In.z | apply In.s))) | (refine Sub.suf ?_; (repeat (first | exact Suf.z | apply Suf.s))))) rfl) ?_
  refine le ?_; intro x13
  refine lwant rfl rfl rfl rfl (op (p_icmp rfl rfl rfl) rfl) ?_
  refine ls (op (p_pickf rfl rfl) rfl) ?_
  refine ln (nmid (wk0 (by repeat (first | exact subσ.nil _ | refine subσ.cons rfl ?_)) (by repeat (first | exact Sub.d | (refine Sub.s ?_ ?_; (repeat (first | exact In.z | apply In.s))) | (refine Sub.suf ?_; (repeat (first | exact Suf.z | apply Suf.s)))))))
 ·
  refine ln ?_
  refine nthen ?_
  refine cc rfl ?_ ?_
  ·
   intro h15
   have hk0 := known_no' h15
   refine cs ?_
   refine cmono (fun a w h => nilSl (α := List Prim) h) ?_
   refine cr ?_
   refine ls (op (p_asg rfl) rfl) ?_
   refine ls (op (p_asg rfl) rfl) ?_
   refine ln ?_
   refine nthen ?_
   refine cret ?_
   refine xret (fun _ _ h => h) ?_
   refine rret (is := []) ⟨(([], false), (none, 0)), (rowsT_no hk0).symm⟩ (Or.inl rfl) (Res.t rfl (Res.t rfl Res.d)) (rfl) rfl (by repeat (first | exact Sub.d | (refine Sub.s ?_ ?_; (repeat (first | exact In.z | apply In.s))) | (refine Sub.suf ?_; (repeat (first | exact Suf.z | apply Suf.s)))))
  ·
   intro h15
   have hk0 := known_yes' h15
   obtain ⟨q, rfl, hq, hq2⟩ := known_yes hk0
   refine cskip ?_
   refine nthen ?_
   refine cs ?_
   refine cmono (fun a w h => subS (l' := rows.drop q) (c := c) q rows.length (by repeat (first | exact In.z | apply In.s)) hq (Nat.le_refl _) hc (by rw [List.take_of_length_le (by simp)]) h) ?_
   refine cr ?_
   refine ls (op (p_fa fa29_1 rfl) rfl) ?_
   refine ls (o_ld Tryz.isAgg22 rfl (by repeat (first | exact At.z | apply At.s)) (by repeat (first | exact At.z | apply At.s)) rfl) ?_
   refine ls (op (p_move rfl) rfl) ?_
   refine ls (op (p_fa fa29_0 rfl) rfl) ?_
   refine ls (o_ld Tryz.isAgg3 rfl (by repeat (first | exact At.z | apply At.s)) (by repeat (first | exact At.z | apply At.s)) rfl) ?_
   refine ls (op (p_sub rfl rfl (by omega)) rfl) ?_
   refine ls (op (p_sll q hq hc (by omega) Tryz.underlying22 Tryz.sizeOf31 rfl rfl) rfl) ?_
   refine ls (op (p_asg rfl) rfl) ?_
   refine ls (op (p_asg rfl) rfl) ?_
   refine ln ?_
   refine nthen ?_
   refine cret ?_
   refine xret (fun _ _ h => h) ?_
   refine rret (is := []) ⟨((rows.drop q, true), (if c = q then A else A.map (·.add (q * Rp.size (List Prim))), c - q)), (rowsT_yes hk0).symm⟩ (Or.inl rfl) (Res.t rfl (Res.t rfl Res.d)) ?_ rfl (by repeat (first | exact Sub.d | (refine Sub.s ?_ ?_; (repeat (first | exact In.z | apply In.s))) | (refine Sub.suf ?_; (repeat (first | exact Suf.z | apply Suf.s)))))
   rw [show rows.length - q = (rows.drop q).length by simp]; rfl

set_option maxRecDepth 100000 in
theorem c_rSince15 (V : Nat) (rows : List (List Prim)) (A : Option Addr) (c : Nat) (hV : V + rows.length ≤ 4611686018427387904)(hR : ∀ l ∈ rows, l.length ≤ 2000000 ∧ ∀ x ∈ l, x.fit) (hF : rows.flatten.length ≤ 2000000) (hc : rows.length ≤ c) (z : Int) (hz : -9223372036854775808 ≤ z ∧ z < 9223372036854775808) : Con Tryz.prog 24 [.agg #[.int .i64 (V : Int), .slice A rows.length c], .int .i64 z] [] [slA A rows] {x : (List Prim × Int) × (Option Addr × Nat) // x.1 = sinceT V rows z} (fun x => .tuple #[.slice x.1.2.1 x.1.1.1.length x.1.2.2, .int .i64 x.1.1.2]) (fun _ => []) (fun x => [slA x.1.2.1 x.1.1.1]) := by
 refine con Tryz.func24 rfl Tryz.ntmps24 rfl ?_
 intro M0 F0 w0
 refine cs ?_
 refine cr ?_
 refine ls (o_box rfl rfl rfl) ?_
 refine le ?_; intro b2
 refine ls (op (p_asg rfl) rfl) ?_
 refine ls (op (p_asg rfl) rfl) ?_
 refine ln ?_
 refine nthen ?_
 refine cs ?_
 refine cr ?_
 refine ls (o_ldw Tryz.isAgg29 Tryz.sizeOf29 rfl (by repeat (first | exact At.z | apply At.s)) (by rfl) rfl) ?_
 refine ls (op (p_move rfl) rfl) ?_
 refine ls (o_call (is := []) Tryz.call37 (c_rRows15 V rows A c hV hc z hz) rfl rfl (by repeat (first | exact Sub.d | (refine Sub.s ?_ ?_; (repeat (first | exact In.z | apply In.s))) | (refine Sub.suf ?_; (repeat (first | exact Suf.z | apply Suf.s))))) rfl) ?_
 refine le ?_; rintro ⟨⟨⟨rr, bb⟩, ⟨A1, c1⟩⟩, hr⟩
 refine ls (op (p_move rfl) rfl) ?_
 refine ls (op (p_ext rfl (by repeat (first | exact At.z | apply At.s))) rfl) ?_
 refine ls (op (p_ext rfl (by repeat (first | exact At.z | apply At.s))) rfl) ?_
 refine ls (op (p_asg rfl) rfl) ?_
 refine ls (op (p_asg rfl) rfl) ?_
 refine ln ?_
 refine nthen ?_
 refine cs ?_
 refine cs ?_
 refine cr ?_
 refine ls (op (p_move rfl) rfl) ?_
 refine ls (op (p_not rfl) rfl) ?_
 refine ln ?_
 refine nthen ?_
 refine cc rfl ?_ ?_
 ·
  intro h17
  obtain rfl : false = bb := by cases bb <;> first | rfl | (simp at h17)
  have hk0 := rowsT_false hr
  refine cs ?_
  refine cmono (fun a w h => nilSl (α := Prim) h) ?_
  refine cr ?_
  refine ls (op (p_asg rfl) rfl) ?_
  refine ls (op (p_asg rfl) rfl) ?_
  refine ln ?_
  refine nthen ?_
  refine cret ?_
  refine xret (fun _ _ h => h) ?_
  refine rret (is := []) ⟨(([], 150), (none, 0)), (sinceT_no hk0).symm⟩ (Or.inl rfl) (Res.t rfl (Res.t rfl Res.d)) (rfl) rfl (by repeat (first | exact Sub.d | (refine Sub.s ?_ ?_; (repeat (first | exact In.z | apply In.s))) | (refine Sub.suf ?_; (repeat (first | exact Suf.z | apply Suf.s)))))
 ·
  intro h17
  obtain rfl : true = bb := by cases bb <;> first | rfl | (simp at h17)
  obtain ⟨q, rfl, hq, rfl, hk0⟩ := rowsT_true hr
  refine cskip ?_
  refine nthen ?_
  refine cs ?_
  refine cr ?_
  refine ls (op (p_asg rfl) rfl) ?_
  refine ln ?_
  refine nthen ?_
  refine cs ?_
  refine cs ?_
  refine cmono (fun a w h => nilRow (α := Prim) 75 h) ?_
  refine cr ?_
  refine ls (op (p_asg rfl) rfl) ?_
  refine ln ?_
  refine nthen ?_
  refine cb ?_
  refine cl (ι := {y : Nat × Option Addr × Nat // y.1 ≤ (rows.drop q).length}) (fun i => St M0 F0 w0 31 [(6, .slice A1 (rows.drop q).length c1), (8, .slice i.1.2.1 (outP rows q i.1.1).length i.1.2.2), (9, .int .i64 (i.1.1 : Int))] [row 75 i.1.2.1 i.1.2.2 (outP rows q i.1.1)] [slA A1 (rows.drop q)]) (fun i => (rows.drop q).length - i.1.1) ⟨(0, none, 0), Nat.zero_le _⟩ (wk (is := [0]) (by repeat (first | exact subσ.nil _ | refine subσ.cons rfl ?_)) rfl (by repeat (first | exact Sub.d | (refine Sub.s ?_ ?_; (repeat (first | exact In.z | apply In.s))) | (refine Sub.suf ?_; (repeat (first | exact Suf.z | apply Suf.s)))))) ?_
  rintro ⟨⟨k, A2, c2⟩, hk⟩
  refine cmono (S' := St M0 F0 w0 31 [(6, .slice A1 (rows.drop q).length c1), (8, .slice A2 (outP rows q k).length c2), (9, .int .i64 (k : Int))] [row 75 A2 c2 (outP rows q k)] [slA A1 (rows.drop q)]) (fun _ _ h => h) ?_
  refine cs ?_
  refine cs ?_
  refine cr ?_
  refine ls (op (p_move rfl) rfl) ?_
  refine ls (op (p_move rfl) rfl) ?_
  refine ls (op (p_lenl rfl Tryz.underlying22) rfl) ?_
  refine ls (op (p_icmp rfl rfl rfl) rfl) ?_
  refine ln ?_
  refine nthen ?_
  refine cc rfl ?_ ?_
  ·
   intro h21
   dsimp only at hk
   try simp only [decide_eq_true_eq, decide_eq_false_iff_not, Bool.not_eq_true', Bool.not_eq_false', Int.not_lt, Int.not_le, ge_iff_le, Bool.not_true, Bool.not_false] at h21
   have hk1 : k < (rows.drop q).length := by omega
   have hk2 : q + k < rows.length := by rw [List.length_drop] at hk1; omega
   have ho1 := outP_le rows q (k + 1); rw [outP_step hk2] at ho1; rw [List.length_append] at ho1
   have hgd : (rows.drop q)[k] = rows[q + k] := List.getElem_drop
   refine cskip ?_
   refine nthen ?_
   refine cs ?_
   refine cb ?_
   refine elC (by repeat (first | exact At.z | apply At.s)) k (List.getElem?_eq_getElem (l := (rows.drop q)) hk1) ?_; rintro zbp zop zyp hAp
   refine nilP (y := zyp) (by repeat (first | exact At.z | apply At.s)) (fun hnl => ?_)
   refine cr ?_
   refine ls (op (p_move rfl) rfl) ?_
   refine ls (op (p_move rfl) rfl) ?_
   refine ls (op (p_move rfl) rfl) ?_
   refine ls (op (p_ia k hAp hk1 rfl Tryz.underlying22 Tryz.sizeOf31 rfl rfl) rfl) ?_
   refine ls (o_ldi Tryz.isAgg31 rfl (by repeat (first | exact At.z | apply At.s)) 0 rfl (by repeat (first | exact Cut.d | apply Cut.t | apply Cut.s)) rfl) ?_
   refine ls (o_app (is := [0]) Tryz.underlying31 inf75 rfl (by decide) (by decide) rfl rfl (by rw [hgd]; omega) (fun _ h => hnl h) rfl (by repeat (first | exact Sub.d | (refine Sub.s ?_ ?_; (repeat (first | exact In.z | apply In.s))) | (refine Sub.suf ?_; (repeat (first | exact Suf.z | apply Suf.s))))) rfl) ?_
   refine le ?_; rintro ⟨A3, c3⟩
   rw [hgd, ← outP_step hk2]
   refine ls (op (p_asg rfl) rfl) ?_
   refine ln ?_
   refine nblock ?_
   refine nthen ?_
   refine cr ?_
   refine ls (op (p_move rfl) rfl) ?_
   refine ls (op (p_add rfl rfl (by omega)) rfl) ?_
   refine ls (op (p_asg rfl) rfl) ?_
   refine ln ?_
   refine nnext ⟨(k + 1, A3, c3), hk1⟩ (by dsimp only; omega) (wk (is := [0]) (by repeat (first | exact subσ.nil _ | refine subσ.cons rfl ?_)) rfl (by repeat (first | exact Sub.d | (refine Sub.s ?_ ?_; (repeat (first | exact In.z | apply In.s))) | (refine Sub.suf ?_; (repeat (first | exact Suf.z | apply Suf.s))))))
  ·
   intro h21
   dsimp only at hk
   try simp only [decide_eq_true_eq, decide_eq_false_iff_not, Bool.not_eq_true', Bool.not_eq_false', Int.not_lt, Int.not_le, ge_iff_le, Bool.not_true, Bool.not_false] at h21
   rw [outP_all (show rows.length ≤ q + k by rw [List.length_drop] at h21 hk; omega)]
   refine cexit ?_
   refine xthen ?_
   refine xthen ?_
   refine xblock ?_
   refine nthen ?_
   refine cs ?_
   refine cmono (fun a w h => Go.Sx.freeze (i := 0) rfl h) ?_
   refine cr ?_
   refine ls (op (p_move rfl) rfl) ?_
   refine ls (op (p_asg rfl) rfl) ?_
   refine ls (op (p_asg rfl) rfl) ?_
   refine ln ?_
   refine nthen ?_
   refine cret ?_
   refine xret (fun _ _ h => h) ?_
   refine rret (is := []) ⟨(((rows.drop q).flatten, 0), (A2, c2)), (sinceT_yes hk0).symm⟩ (Or.inl rfl) (Res.t rfl (Res.t rfl Res.d)) (rfl) rfl (by repeat (first | exact Sub.d | (refine Sub.s ?_ ?_; (repeat (first | exact In.z | apply In.s))) | (refine Sub.suf ?_; (repeat (first | exact Suf.z | apply Suf.s)))))

set_option maxRecDepth 100000 in
theorem c_rReb15 (V : Nat) (rows : List (List Prim)) (A : Option Addr) (c : Nat) (hV : V + rows.length ≤ 4611686018427387904)(hR : ∀ l ∈ rows, l.length ≤ 2000000 ∧ ∀ x ∈ l, x.fit) (hF : rows.flatten.length ≤ 2000000) (hc : rows.length ≤ c) (z : Int) (hz : -9223372036854775808 ≤ z ∧ z < 9223372036854775808) (m : List Prim) (B : Option Addr) (c' : Nat) (hm : m.length ≤ 2000000) (hfm : ∀ x ∈ m, x.fit) (hB0 : m = [] → B = none → c' = 0) : Con Tryz.prog 26 [.agg #[.int .i64 (V : Int), .slice A rows.length c], .slice B m.length c', .int .i64 z] [] [slA A rows, slA B m] {x : (List Prim × Int) × (Option Addr × Nat) // x.1 = prebT V rows z m} (fun x => .tuple #[.slice x.1.2.1 x.1.1.1.length x.1.2.2, .int .i64 x.1.1.2]) (fun _ => []) (fun x => [slA x.1.2.1 x.1.1.1]) := by
 refine con Tryz.func26 rfl Tryz.ntmps26 rfl ?_
 intro M0 F0 w0
 refine cs ?_
 refine cr ?_
 refine ls (o_box rfl rfl rfl) ?_
 refine le ?_; intro b3
 refine ls (op (p_asg rfl) rfl) ?_
 refine ls (op (p_asg rfl) rfl) ?_
 refine ln ?_
 refine nthen ?_
 refine cs ?_
 refine cr ?_
 refine ls (o_ldw Tryz.isAgg29 Tryz.sizeOf29 rfl (by repeat (first | exact At.z | apply At.s)) (by rfl) rfl) ?_
 refine ls (op (p_move rfl) rfl) ?_
 refine ls (o_call (is := []) Tryz.call24 (c_rSince15 V rows A c hV hR hF hc z hz) rfl rfl (by repeat (first | exact Sub.d | (refine Sub.s ?_ ?_; (repeat (first | exact In.z | apply In.s))) | (refine Sub.suf ?_; (repeat (first | exact Suf.z | apply Suf.s))))) rfl) ?_
 refine le ?_; rintro ⟨⟨⟨l1, e1⟩, ⟨A1, c1⟩⟩, hr⟩
 refine ls (op (p_move rfl) rfl) ?_
 refine ls (op (p_ext rfl (by repeat (first | exact At.z | apply At.s))) rfl) ?_
 refine ls (op (p_ext rfl (by repeat (first | exact At.z | apply At.s))) rfl) ?_
 refine ls (op (p_asg rfl) rfl) ?_
 refine ls (op (p_asg rfl) rfl) ?_
 refine ln ?_
 refine nthen ?_
 refine cs ?_
 refine cs ?_
 refine cr ?_
 refine ls (op (p_move rfl) rfl) ?_
 refine ls (op (p_icmp rfl rfl rfl) rfl) ?_
 refine ln ?_
 refine nthen ?_
 refine cc rfl ?_ ?_
 ·
  intro h19
  try simp only [decide_eq_true_eq, decide_eq_false_iff_not, Bool.not_eq_true', Bool.not_eq_false', Int.not_lt, Int.not_le, ge_iff_le, Bool.not_true, Bool.not_false] at h19
  obtain ⟨hk0, rfl⟩ := sinceT_err hr (by simpa using h19)
  refine cs ?_
  refine cmono (fun a w h => nilSl (α := Prim) h) ?_
  refine cr ?_
  refine ls (op (p_move rfl) rfl) ?_
  refine ls (op (p_asg rfl) rfl) ?_
  refine ls (op (p_asg rfl) rfl) ?_
  refine ln ?_
  refine nthen ?_
  refine cret ?_
  refine xret (fun _ _ h => h) ?_
  refine rret (is := []) ⟨(([], 150), (none, 0)), (prebT_no hk0).symm⟩ (Or.inl rfl) (Res.t rfl (Res.t rfl Res.d)) (rfl) rfl (by repeat (first | exact Sub.d | (refine Sub.s ?_ ?_; (repeat (first | exact In.z | apply In.s))) | (refine Sub.suf ?_; (repeat (first | exact Suf.z | apply Suf.s)))))
 ·
  intro h19
  try simp only [decide_eq_true_eq, decide_eq_false_iff_not, Bool.not_eq_true', Bool.not_eq_false', Int.not_lt, Int.not_le, ge_iff_le, Bool.not_true, Bool.not_false] at h19
  obtain rfl : 0 = e1 := by have := h19; first | exact this.symm | (simp at this; omega)
  obtain ⟨q, rfl, rfl, hk0⟩ := sinceT_ok hr
  have hfl := flat_len rows q
  refine cskip ?_
  refine nthen ?_
  refine cs ?_
  refine cr ?_
  refine ls (op (p_move rfl) rfl) ?_
  refine ls (op (p_move rfl) rfl) ?_
  refine ls (o_call (is := []) Tryz.call39 (c_ref5Rebase (rows.drop q).flatten m A1 B c1 c' (by omega) hm hB0 (flat_fit hR q) hfm) rfl rfl (by repeat (first | exact Sub.d | (refine Sub.s ?_ ?_; (repeat (first | exact In.z | apply In.s))) | (refine Sub.suf ?_; (repeat (first | exact Suf.z | apply Suf.s))))) rfl) ?_
  refine le ?_; rintro ⟨⟨⟨g, bb⟩, ⟨A2, c2⟩⟩, hr2⟩
  have hp := prebT_reb hk0 hr2
  refine ls (op (p_move rfl) rfl) ?_
  refine ls (op (p_ext rfl (by repeat (first | exact At.z | apply At.s))) rfl) ?_
  refine ls (op (p_ext rfl (by repeat (first | exact At.z | apply At.s))) rfl) ?_
  refine ls (op (p_asg rfl) rfl) ?_
  refine ls (op (p_asg rfl) rfl) ?_
  refine ln ?_
  refine nthen ?_
  refine cs ?_
  refine cs ?_
  refine cr ?_
  refine ls (op (p_move rfl) rfl) ?_
  refine ls (op (p_not rfl) rfl) ?_
  refine ln ?_
  refine nthen ?_
  refine cc rfl ?_ ?_
  ·
   intro h28
   obtain rfl : false = bb := by cases bb <;> first | rfl | (simp at h28)
   refine cs ?_
   refine cmono (fun a w h => nilSl (α := Prim) h) ?_
   refine cr ?_
   refine ls (op (p_asg rfl) rfl) ?_
   refine ls (op (p_asg rfl) rfl) ?_
   refine ln ?_
   refine nthen ?_
   refine cret ?_
   refine xret (fun _ _ h => h) ?_
   refine rret (is := []) ⟨(([], 151), (none, 0)), hp.symm⟩ (Or.inl rfl) (Res.t rfl (Res.t rfl Res.d)) (rfl) rfl (by repeat (first | exact Sub.d | (refine Sub.s ?_ ?_; (repeat (first | exact In.z | apply In.s))) | (refine Sub.suf ?_; (repeat (first | exact Suf.z | apply Suf.s)))))
  ·
   intro h28
   obtain rfl : true = bb := by cases bb <;> first | rfl | (simp at h28)
   refine cskip ?_
   refine nthen ?_
   refine cs ?_
   refine cr ?_
   refine ls (op (p_move rfl) rfl) ?_
   refine ls (op (p_asg rfl) rfl) ?_
   refine ls (op (p_asg rfl) rfl) ?_
   refine ln ?_
   refine nthen ?_
   refine cret ?_
   refine xret (fun _ _ h => h) ?_
   refine rret (is := []) ⟨((g, 0), (A2, c2)), hp.symm⟩ (Or.inl rfl) (Res.t rfl (Res.t rfl Res.d)) (rfl) rfl (by repeat (first | exact Sub.d | (refine Sub.s ?_ ?_; (repeat (first | exact In.z | apply In.s))) | (refine Sub.suf ?_; (repeat (first | exact Suf.z | apply Suf.s)))))

set_option maxRecDepth 100000 in
theorem c_high (v : Int) : Con Tryz.prog 8 [.int .i64 v] [] [] Unit (fun _ => .bool (decide (1152921504606846976 < v))) (fun _ => []) (fun _ => []) := by
 refine con Tryz.func8 rfl Tryz.ntmps8 rfl ?_
 intro M0 F0 w0
 refine cs ?_
 refine cr ?_
 refine ls (op (p_asg rfl) rfl) ?_
 refine ln ?_
 refine nthen ?_
 refine cs ?_
 refine cr ?_
 refine ls (op (p_move rfl) rfl) ?_
 refine ls (op (p_icmp rfl rfl rfl) rfl) ?_
 refine ls (op (p_asg rfl) rfl) ?_
 refine ln ?_
 refine nthen ?_
 refine cret ?_
 refine xret (fun _ _ h => h) ?_
 refine rret (is := []) () (Or.inl rfl) (Res.t rfl Res.d) (rfl) rfl (by repeat (first | exact Sub.d | (refine Sub.s ?_ ?_; (repeat (first | exact In.z | apply In.s))) | (refine Sub.suf ?_; (repeat (first | exact Suf.z | apply Suf.s)))))

set_option maxRecDepth 100000 in
theorem c_few15 (rows : List (List Prim)) (A : Option Addr) (c : Nat) (l : List Prim) (B : Option Addr) (c' : Nat) (hn : rows.length ≤ 2000000) (hl : l.length ≤ 2000000) (hR : ∀ l ∈ rows, l.length ≤ 2000000) (hM : many l + (rows.map many).sum ≤ 1000000000000) (hM2 : l.length + (rows.map List.length).sum ≤ 1000000000000) : Con Tryz.prog 7 [.slice A rows.length c, .slice B l.length c'] [] [slA A rows, slA B l] Unit (fun _ => .bool (fewT rows l)) (fun _ => []) (fun _ => []) := by
 refine con Tryz.func7 rfl Tryz.ntmps7 rfl ?_
 intro M0 F0 w0
 refine cs ?_
 refine cr ?_
 refine ls (op (p_asg rfl) rfl) ?_
 refine ln ?_
 refine nthen ?_
 refine cs ?_
 refine cr ?_
 refine ls (op (p_move rfl) rfl) ?_
 refine ls (o_call (is := []) Tryz.call31 (c_Many l B c' hl (by omega)) rfl rfl (by repeat (first | exact Sub.d | (refine Sub.s ?_ ?_; (repeat (first | exact In.z | apply In.s))) | (refine Sub.suf ?_; (repeat (first | exact Suf.z | apply Suf.s))))) rfl) ?_
 refine le ?_; intro x10
 refine ls (op (p_move rfl) rfl) ?_
 refine ls (op (p_lenl rfl Tryz.underlying31) rfl) ?_
 refine ls (op (p_asg rfl) rfl) ?_
 refine ls (op (p_asg rfl) rfl) ?_
 refine ln ?_
 refine nthen ?_
 refine cs ?_
 refine cs ?_
 refine cr ?_
 refine ls (op (p_move rfl) rfl) ?_
 refine ls (op (p_lenl rfl Tryz.underlying22) rfl) ?_
 refine ls (op (p_move rfl) rfl) ?_
 refine ln ?_
 refine nthen ?_
 refine cb ?_
 refine cl (ι := {q : Nat × Int × Int // q.1 ≤ rows.length ∧ q.2.1 = ((many l + ((rows.take q.1).map many).sum : Nat) : Int) ∧ q.2.2 = ((l.length + ((rows.take q.1).map List.length).sum : Nat) : Int)}) (fun i => St M0 F0 w0 39 [(0, .slice A rows.length c), (13, .slice A rows.length c), (14, .int .i64 (rows.length : Int)), (15, .int .i64 (i.1.1 : Int)), (5, .int .i64 i.1.2.1), (6, .int .i64 i.1.2.2)] [] [slA A rows]) (fun i => rows.length - i.1.1) ⟨(0, (many l : Int), (l.length : Int)), by simp⟩ (wk0 (by repeat (first | exact subσ.nil _ | refine subσ.cons rfl ?_)) (by repeat (first | exact Sub.d | (refine Sub.s ?_ ?_; (repeat (first | exact In.z | apply In.s))) | (refine Sub.suf ?_; (repeat (first | exact Suf.z | apply Suf.s)))))) ?_
 rintro ⟨⟨k, n, u⟩, hk, hnn, huu⟩
 refine cmono (S' := St M0 F0 w0 39 [(0, .slice A rows.length c), (13, .slice A rows.length c), (14, .int .i64 (rows.length : Int)), (15, .int .i64 (k : Int)), (5, .int .i64 n), (6, .int .i64 u)] [] [slA A rows]) (fun _ _ h => h) ?_
 refine cs ?_
 refine cr ?_
 refine ls (op (p_icmp rfl rfl rfl) rfl) ?_
 refine ln ?_
 refine nthen ?_
 refine cs ?_
 refine cc rfl ?_ ?_
 ·
  intro h16
  dsimp only at hk hnn huu
  try simp only [decide_eq_true_eq, decide_eq_false_iff_not, Bool.not_eq_true', Bool.not_eq_false', Int.not_lt, Int.not_le, ge_iff_le, Bool.not_true, Bool.not_false] at h16
  have hk1 : k < rows.length := by omega
  have e1 := sum_take_succ (f := many) hk1; have e2 := sum_take_succ (f := List.length) hk1
  have e3 := sum_take_le many rows (k + 1); have e4 := sum_take_le List.length rows (k + 1)
  refine cskip ?_
  refine nthen ?_
  refine cs ?_
  refine cb ?_
  refine cs ?_
  refine elC (by repeat (first | exact At.z | apply At.s)) k (List.getElem?_eq_getElem (l := rows) hk1) ?_; rintro zbp zop zyp hAp
  refine cr ?_
  refine ls (op (p_ia k hAp hk1 rfl Tryz.underlying22 Tryz.sizeOf31 rfl rfl) rfl) ?_
  refine ls (o_ldi Tryz.isAgg31 rfl (by repeat (first | exact At.z | apply At.s)) 0 rfl (by repeat (first | exact Cut.d | apply Cut.t | apply Cut.s)) rfl) ?_
  refine ls (op (p_asg rfl) rfl) ?_
  refine ln ?_
  refine nthen ?_
  refine cr ?_
  refine ls (op (p_move rfl) rfl) ?_
  refine ls (op (p_move rfl) rfl) ?_
  refine ls (o_call (is := []) Tryz.call31 (c_Many rows[k] zyp.1 zyp.2 (hR _ (List.getElem_mem hk1)) (by omega)) rfl rfl (by repeat (first | exact Sub.d | (refine Sub.s ?_ ?_; (repeat (first | exact In.z | apply In.s))) | (refine Sub.suf ?_; (repeat (first | exact Suf.z | apply Suf.s))))) rfl) ?_
  refine le ?_; intro x21
  refine ls (op (p_add rfl rfl (by omega)) rfl) ?_
  refine ls (op (p_move rfl) rfl) ?_
  refine ls (op (p_move rfl) rfl) ?_
  refine ls (op (p_lenl rfl Tryz.underlying31) rfl) ?_
  refine ls (op (p_add rfl rfl (by omega)) rfl) ?_
  refine ls (op (p_asg rfl) rfl) ?_
  refine ls (op (p_asg rfl) rfl) ?_
  refine ln ?_
  refine nblock ?_
  refine nthen ?_
  refine cr ?_
  refine ls (op (p_add rfl rfl (by omega)) rfl) ?_
  refine ls (op (p_move rfl) rfl) ?_
  refine ln ?_
  refine nnext ⟨(k + 1, n + (many rows[k] : Int), u + (rows[k].length : Int)), hk1, by dsimp only; omega, by dsimp only; omega⟩ (by dsimp only; omega) (wk (is := []) (by repeat (first | exact subσ.nil _ | refine subσ.cons rfl ?_)) rfl (by repeat (first | exact Sub.d | (refine Sub.s ?_ ?_; (repeat (first | exact In.z | apply In.s))) | (refine Sub.suf ?_; (repeat (first | exact Suf.z | apply Suf.s))))))
 ·
  intro h16
  dsimp only at hk hnn huu
  try simp only [decide_eq_true_eq, decide_eq_false_iff_not, Bool.not_eq_true', Bool.not_eq_false', Int.not_lt, Int.not_le, ge_iff_le, Bool.not_true, Bool.not_false] at h16
  rw [List.take_of_length_le (by omega)] at hnn huu
  refine cexit ?_
  refine xthen ?_
  refine xthen ?_
  refine xblock ?_
  refine nthen ?_
  refine cs ?_
  refine cr ?_
  refine ls (op (p_move rfl) rfl) ?_
  refine ls (op (p_icmp rfl rfl rfl) rfl) ?_
  refine ls (op (p_move rfl) rfl) ?_
  refine andX 3 30 33 rfl (subσ.cons (t := 0) rfl (subσ.cons (t := 13) rfl (subσ.cons (t := 14) rfl (subσ.cons (t := 15) rfl (subσ.cons (t := 5) rfl (subσ.cons (t := 6) rfl (subσ.cons (t := 16) rfl (subσ.nil _)))))))) ?_ ?_
  ·
   intro h30
   refine lskip rfl rfl rfl rfl rfl ?_
   refine lskip rfl rfl rfl rfl rfl ?_
   refine ls (op (p_pickf rfl rfl) rfl) ?_
   refine ln (nmid (wk0 (by repeat (first | exact subσ.nil _ | refine subσ.cons rfl ?_)) (by repeat (first | exact Sub.d | (refine Sub.s ?_ ?_; (repeat (first | exact In.z | apply In.s))) | (refine Sub.suf ?_; (repeat (first | exact Suf.z | apply Suf.s)))))))
  apply exI
  ·
   intro h30
   refine lwant rfl rfl rfl rfl (op (p_move rfl) rfl) ?_
   refine lwant rfl rfl rfl rfl (op (p_icmp rfl rfl rfl) rfl) ?_
   refine ls (op (p_pickt rfl rfl) rfl) ?_
   refine ln (nmid (wk0 (by repeat (first | exact subσ.nil _ | refine subσ.cons rfl ?_)) (by repeat (first | exact Sub.d | (refine Sub.s ?_ ?_; (repeat (first | exact In.z | apply In.s))) | (refine Sub.suf ?_; (repeat (first | exact Suf.z | apply Suf.s)))))))
  ·
   refine ls (op (p_move rfl) rfl) ?_
   refine andX 4 34 38 rfl (subσ.cons (t := 0) rfl (subσ.cons (t := 13) rfl (subσ.cons (t := 14) rfl (subσ.cons (t := 15) rfl (subσ.cons (t := 5) rfl (subσ.cons (t := 6) rfl (subσ.cons (t := 16) rfl (subσ.nil _)))))))) ?_ ?_
   ·
    intro h34
    refine lskip rfl rfl rfl rfl rfl ?_
    refine lskip rfl rfl rfl rfl rfl ?_
    refine lskip rfl rfl rfl rfl rfl ?_
    refine ls (op (p_pickf rfl rfl) rfl) ?_
    refine ln (nmid (wk0 (by repeat (first | exact subσ.nil _ | refine subσ.cons rfl ?_)) (by repeat (first | exact Sub.d | (refine Sub.s ?_ ?_; (repeat (first | exact In.z | apply In.s))) | (refine Sub.suf ?_; (repeat (first | exact Suf.z | apply Suf.s)))))))
   apply exI
   ·
    intro h34
    refine lwant rfl rfl rfl rfl (op (p_move rfl) rfl) ?_
    refine lwant rfl rfl rfl rfl (op (p_lenl rfl Tryz.underlying22) rfl) ?_
    refine lwant rfl rfl rfl rfl (op (p_icmp rfl rfl rfl) rfl) ?_
    refine ls (op (p_pickt rfl rfl) rfl) ?_
    refine ln (nmid (wk0 (by repeat (first | exact subσ.nil _ | refine subσ.cons rfl ?_)) (by repeat (first | exact Sub.d | (refine Sub.s ?_ ?_; (repeat (first | exact In.z | apply In.s))) | (refine Sub.suf ?_; (repeat (first | exact Suf.z | apply Suf.s)))))))
   ·
    refine ls (op (p_asg rfl) rfl) ?_
    refine ln ?_
    refine nthen ?_
    refine cret ?_
    refine xret (fun _ _ h => h) ?_
    refine rret (is := []) () (Or.inl rfl) (Res.t rfl Res.d) ?_ rfl (by repeat (first | exact Sub.d | (refine Sub.s ?_ ?_; (repeat (first | exact In.z | apply In.s))) | (refine Sub.suf ?_; (repeat (first | exact Suf.z | apply Suf.s)))))
    rw [hnn, huu]; rfl

set_option maxRecDepth 100000 in
theorem c_made15 (v : Int) (V : Nat) (hV : max v 0 = (V : Int)) (rows : List (List Prim)) (A : Option Addr) (c : Nat) (hn : rows.length ≤ 1000000) (hVn : V + rows.length ≤ 4611686018427387904)(hR : ∀ l ∈ rows, l.length ≤ 2000000 ∧ ∀ x ∈ l, x.fit) : Con Tryz.prog 22 [.int .i64 v, .slice A rows.length c] [] [slA A rows] {y : Nat × Ring × (Option Addr × Nat) // RI V rows y.2.1 ∧ rows.length ≤ y.2.2.2 ∧ (rows = [] → y.2.2.1 = none → y.2.2.2 = 0)} (fun y => .tuple #[.pointer (some ⟨y.1.1, 0, none⟩), .agg #[.int .i64 (V : Int), .slice y.1.2.2.1 rows.length y.1.2.2.2]]) (fun y => [box y.1.1 73 y.1.2.1.cells]) (fun y => [ringA y.1.2.1.rg, slA y.1.2.2.1 rows]) := by
 refine con Tryz.func22 rfl Tryz.ntmps22 rfl ?_
 intro M0 F0 w0
 refine cs ?_
 refine cr ?_
 refine ls (op (p_asg rfl) rfl) ?_
 refine ls (o_alloc Tryz.zeroValue29 rfl rfl) ?_
 refine le ?_; intro b5
 refine ln ?_
 refine nthen ?_
 refine cs ?_
 refine cr ?_
 refine ls (op (p_move rfl) rfl) ?_
 refine ls (o_call (is := []) Tryz.call10 (c_pNew v V hV) rfl rfl (by repeat (first | exact Sub.d | (refine Sub.s ?_ ?_; (repeat (first | exact In.z | apply In.s))) | (refine Sub.suf ?_; (repeat (first | exact Suf.z | apply Suf.s))))) rfl) ?_
 refine le ?_; intro b11
 refine ls (op (p_move rfl) rfl) ?_
 refine ls (o_call (is := []) Tryz.call11 (c_rNew15 v V hV) rfl rfl (by repeat (first | exact Sub.d | (refine Sub.s ?_ ?_; (repeat (first | exact In.z | apply In.s))) | (refine Sub.suf ?_; (repeat (first | exact Suf.z | apply Suf.s))))) rfl) ?_
 refine le ?_; intro x13
 refine ls (o_alloc Tryz.zeroValue29 rfl rfl) ?_
 refine le ?_; intro b7
 refine ls (op (p_asg rfl) rfl) ?_
 refine ls (o_st rfl Tryz.sizeOf29 rfl rfl rfl rfl rfl (by repeat (first | exact At.z | apply At.s)) (by repeat (first | exact Put.d | apply Put.t | apply Put.s)) (by repeat (first | exact SetAt.z | apply SetAt.s))) ?_
 refine ln ?_
 refine nthen ?_
 refine cs ?_
 refine cs ?_
 refine cmono (fun a w h => nilSl (α := List Prim) h) ?_
 refine cr ?_
 refine ls (op (p_move rfl) rfl) ?_
 refine ls (op (p_lenl rfl Tryz.underlying22) rfl) ?_
 refine ls (op (p_move rfl) rfl) ?_
 refine ln ?_
 refine nthen ?_
 refine cb ?_
 refine cl (ι := {q : Nat × Ring × (Option Addr × Nat) // q.1 ≤ rows.length ∧ RI V (rows.take q.1) q.2.1 ∧ (rows.take q.1).length ≤ q.2.2.2 ∧ (rows.take q.1 = [] → q.2.2.1 = none → q.2.2.2 = 0)}) (fun i => St M0 F0 w0 33 [(5, .pointer (some ⟨b5, 0, none⟩)), (6, .pointer (some ⟨b11, 0, none⟩)), (7, .pointer (some ⟨b7, 0, none⟩)), (14, .slice A rows.length c), (15, .int .i64 (rows.length : Int)), (16, .int .i64 (i.1.1 : Int))] [box b5 29 [.int .i64 0, .slice none 0 0], box b7 29 [.int .i64 (V : Int), .slice i.1.2.2.1 (rows.take i.1.1).length i.1.2.2.2], box b11 73 (i.1.2.1).cells] [ringA (i.1.2.1).rg, slA i.1.2.2.1 (rows.take i.1.1), slA A rows]) (fun i => rows.length - i.1.1) ⟨(0, Ring.zero V, (none, 0)), Nat.zero_le _, RI.zero V, Nat.le_refl _, fun _ _ => rfl⟩ (wk (is := [2, 0, 0]) (by repeat (first | exact subσ.nil _ | refine subσ.cons rfl ?_)) rfl (by repeat (first | exact Sub.d | (refine Sub.s ?_ ?_; (repeat (first | exact In.z | apply In.s))) | (refine Sub.suf ?_; (repeat (first | exact Suf.z | apply Suf.s)))))) ?_
 rintro ⟨⟨k, r, ⟨A2, c2⟩⟩, hk, hI, hc2, h02⟩
 refine cmono (S' := St M0 F0 w0 33 [(5, .pointer (some ⟨b5, 0, none⟩)), (6, .pointer (some ⟨b11, 0, none⟩)), (7, .pointer (some ⟨b7, 0, none⟩)), (14, .slice A rows.length c), (15, .int .i64 (rows.length : Int)), (16, .int .i64 (k : Int))] [box b5 29 [.int .i64 0, .slice none 0 0], box b7 29 [.int .i64 (V : Int), .slice A2 (rows.take k).length c2], box b11 73 (r).cells] [ringA (r).rg, slA A2 (rows.take k), slA A rows]) (fun _ _ h => h) ?_
 refine cs ?_
 refine cr ?_
 refine ls (op (p_icmp rfl rfl rfl) rfl) ?_
 refine ln ?_
 refine nthen ?_
 refine cs ?_
 refine cc rfl ?_ ?_
 ·
  intro h17
  dsimp only at hk hI hc2 h02
  try simp only [decide_eq_true_eq, decide_eq_false_iff_not, Bool.not_eq_true', Bool.not_eq_false', Int.not_lt, Int.not_le, ge_iff_le, Bool.not_true, Bool.not_false] at h17
  have hk1 : k < rows.length := by omega
  have htk : (rows.take k).length = k := by rw [List.length_take]; omega
  have hRk := hR _ (List.getElem_mem hk1)
  refine cskip ?_
  refine nthen ?_
  refine cs ?_
  refine cb ?_
  refine cs ?_
  refine elC (by repeat (first | exact At.z | apply At.s)) k (List.getElem?_eq_getElem (l := rows) hk1) ?_; rintro zbp zop zyp hAp
  refine nilP (y := zyp) (by repeat (first | exact At.z | apply At.s)) (fun hnl => ?_)
  refine cr ?_
  refine ls (op (p_ia k hAp hk1 rfl Tryz.underlying22 Tryz.sizeOf31 rfl rfl) rfl) ?_
  refine ls (o_ldi Tryz.isAgg31 rfl (by repeat (first | exact At.z | apply At.s)) 0 rfl (by repeat (first | exact Cut.d | apply Cut.t | apply Cut.s)) rfl) ?_
  refine ls (op (p_asg rfl) rfl) ?_
  refine ln ?_
  refine nthen ?_
  refine cs ?_
  refine cs ?_
  refine cr ?_
  refine ls (op (p_move rfl) rfl) ?_
  refine ls (op (p_ptrnil Tryz.underlying26 rfl rfl) rfl) ?_
  refine ln ?_
  refine nthen ?_
  refine cc rfl (fun h => by cases h) (fun h => ?_)
  refine cskip ?_
  refine nthen ?_
  refine cs ?_
  refine cr ?_
  refine ls (op (p_move rfl) rfl) ?_
  refine ls (op (p_move rfl) rfl) ?_
  refine ls (o_call (is := []) Tryz.call14 (c_lNew rows[k] zyp.1 zyp.2 hRk.1) rfl rfl (by repeat (first | exact Sub.d | (refine Sub.s ?_ ?_; (repeat (first | exact In.z | apply In.s))) | (refine Sub.suf ?_; (repeat (first | exact Suf.z | apply Suf.s))))) rfl) ?_
  refine le ?_; rintro ⟨A3, c3⟩
  refine ls (o_call (is := [2]) Tryz.call13 (c_pAdd b11 V (rows.take k) r hI (by omega) rows[k] A3 c3 hRk.1 hRk.2) rfl rfl (by repeat (first | exact Sub.d | (refine Sub.s ?_ ?_; (repeat (first | exact In.z | apply In.s))) | (refine Sub.suf ?_; (repeat (first | exact Suf.z | apply Suf.s))))) rfl) ?_
  refine le ?_; rintro ⟨A4, c4⟩
  refine ln ?_
  refine nthen ?_
  refine cr ?_
  refine ls (o_ldw Tryz.isAgg29 Tryz.sizeOf29 rfl (by repeat (first | exact At.z | apply At.s)) (by rfl) rfl) ?_
  refine ls (op (p_move rfl) rfl) ?_
  refine ls (o_call (is := []) Tryz.call12 (c_rAdd15 V (rows.take k) A2 c2 (by omega) (by omega) h02 rows[k] zyp.1 zyp.2 hnl (rows.take (k + 1)) (List.take_succ_eq_append_getElem hk1)) rfl rfl (by repeat (first | exact Sub.d | (refine Sub.s ?_ ?_; (repeat (first | exact In.z | apply In.s))) | (refine Sub.suf ?_; (repeat (first | exact Suf.z | apply Suf.s))))) rfl) ?_
  refine le ?_; rintro ⟨⟨A5, c5⟩, hle⟩
  dsimp only at hle
  have hI2 := hI.add (A := A4) (c := c4) hRk.1 hRk.2
  rw [← List.take_succ_eq_append_getElem hk1] at hI2
  refine ls (o_st rfl Tryz.sizeOf29 rfl rfl rfl rfl rfl (by repeat (first | exact At.z | apply At.s)) (by repeat (first | exact Put.d | apply Put.t | apply Put.s)) (by repeat (first | exact SetAt.z | apply SetAt.s))) ?_
  refine ln ?_
  refine nblock ?_
  refine nthen ?_
  refine cr ?_
  refine ls (op (p_add rfl rfl (by omega)) rfl) ?_
  refine ls (op (p_move rfl) rfl) ?_
  refine ln ?_
  refine nnext ⟨(k + 1, r.add ((V + (rows.take k).length + 1) % 64) (rows[k], A4, c4), (A5, c5)), hk1, hI2, hle, fun h => by have := congrArg List.length h; rw [List.length_take, List.length_nil] at this; omega⟩ (by dsimp only; omega) (wk (is := [1, 1, 0]) (by repeat (first | exact subσ.nil _ | refine subσ.cons rfl ?_)) rfl (by repeat (first | exact Sub.d | (refine Sub.s ?_ ?_; (repeat (first | exact In.z | apply In.s))) | (refine Sub.suf ?_; (repeat (first | exact Suf.z | apply Suf.s))))))
 ·
  intro h17
  dsimp only at hk hI hc2 h02
  try simp only [decide_eq_true_eq, decide_eq_false_iff_not, Bool.not_eq_true', Bool.not_eq_false', Int.not_lt, Int.not_le, ge_iff_le, Bool.not_true, Bool.not_false] at h17
  obtain rfl : k = rows.length := by omega
  rw [List.take_length] at hI hc2 h02
  refine cexit ?_
  refine xthen ?_
  refine xthen ?_
  refine xblock ?_
  refine nthen ?_
  refine cs ?_
  rw [List.take_length]
  refine cd [3] [(1, b7, 0, _)] TryzX.mixed (TOk.t (isBoxS (by repeat (first | exact At.z | apply At.s)) (k := 2) (by repeat (first | exact Cut.d | apply Cut.t | apply Cut.s))) TOk.d) ?_
  refine tk 0 rfl (by kernel_rfl) (fun _ _ _ h => h) gnone (TTany _) (p_move rfl) rfl ?_
  refine tk 1 rfl (by kernel_rfl) (fun _ _ _ h => h) gnone (TTat (List.Mem.head _)) (p_lda Tryz.isAgg29 Tryz.sizeOf29 rfl rfl) rfl ?_
  refine tk 2 rfl (by kernel_rfl) (fun _ _ _ h => h) gnone (TTany _) (p_asg rfl) rfl ?_
  refine df 3 (by kernel_rfl) ?_
  refine doR rfl (o_st rfl Tryz.sizeOf29 rfl rfl rfl rfl rfl (by repeat (first | exact At.z | apply At.s)) (by repeat (first | exact Put.d | apply Put.t | apply Put.s)) (by repeat (first | exact SetAt.z | apply SetAt.s))) (TOk.x (by kernel_rfl) TOk.d) ?_
  refine dn (by kernel_rfl) ?_
  refine nthen ?_
  refine cret ?_
  refine xret (fun _ _ h => h) ?_
  refine rret (is := [2]) ⟨(b11, r, (A2, c2)), hI, hc2, h02⟩ (Or.inl rfl) (Res.t rfl (Res.c rfl Tryz.isAgg29 Tryz.sizeOf29 (by repeat (first | exact At.z | apply At.s)) (by rfl) Res.d)) (rfl) rfl (by repeat (first | exact Sub.d | (refine Sub.s ?_ ?_; (repeat (first | exact In.z | apply In.s))) | (refine Sub.suf ?_; (repeat (first | exact Suf.z | apply Suf.s)))))

end Go.Proofs.YtonmgdamojingaaGreatDoor.X

end
section
set_option linter.unusedVariables false
set_option linter.unusedSimpArgs false
namespace Go.Proofs.YtonmgdamojingaaGreatDoor.X
open Go Go.RowKit Go.Proofs Go.Sx
attribute [local irreducible] slA isA box row

theorem fit_of {p : Prim} (h1 : p.old.length ≤ 2000000) (h2 : p.new.length ≤ 2000000) (h3 : p.name.size ≤ 2000000) (h4 : p.to.size ≤ 2000000) (h5 : p.old.all (fun s => decide (s.size ≤ 2000000)) = true) (h6 : p.new.all (fun s => decide (s.size ≤ 2000000)) = true) : p.fit :=
 ⟨h1, h2, h3, h4, (fun s h => by simpa using List.all_eq_true.1 h5 s h), (fun s h => by simpa using List.all_eq_true.1 h6 s h)⟩
def vA : Prim := ⟨0, ⟨#[97]⟩, ⟨#[]⟩, 0, [⟨#[120]⟩], []⟩
def vB : Prim := ⟨0, ⟨#[97]⟩, ⟨#[]⟩, 5, [⟨#[121]⟩], [⟨#[122]⟩]⟩
def vC : Prim := ⟨0, ⟨#[97]⟩, ⟨#[]⟩, 4, [⟨#[121]⟩], [⟨#[122]⟩]⟩
theorem fitvA : vA.fit := fit_of (by decide) (by decide) (by decide) (by decide) (by decide) (by decide)
theorem fitvB : vB.fit := fit_of (by decide) (by decide) (by decide) (by decide) (by decide) (by decide)
theorem fit1A : ∀ x ∈ [vA], x.fit := by intro x h; simp at h; subst h; exact fitvA
theorem fit1B : ∀ x ∈ [vB], x.fit := by intro x h; simp at h; subst h; exact fitvB
theorem al1 : prebT 3 [[vA]] 3 [vB] = ([vC], 0) := by decide +kernel
theorem al2 : prebT 3 [[vA]] 2 [vB] = ([], 150) := by decide +kernel
theorem al3 : sinceT 3 [[vA]] 3 = ([vA], 0) := by decide +kernel
theorem al4 : atP 3 [[vA]] 4 = ([vA], true) := by decide +kernel
theorem hRA : ∀ l ∈ [[vA]], l.length ≤ 2000000 ∧ ∀ x ∈ l, x.fit := by intro l h; simp at h; subst h; exact ⟨by decide, fit1A⟩
theorem two_eq {α β : Type} {a c : α} {b d : β} (h : (a, b) = (c, d)) : a = c ∧ b = d := by simpa using h
theorem sinceT_ok2 {V : Nat} {rows : List (List Prim)} {z e : Int} {l : List Prim} (h : (l, e) = sinceT V rows z) (hR : ∀ l ∈ rows, l.length ≤ 2000000 ∧ ∀ x ∈ l, x.fit) (hF : rows.flatten.length ≤ 2000000) : l.length ≤ 2000000 ∧ ∀ x ∈ l, x.fit := by
 unfold sinceT at h
 split at h <;> cases h
 ·
  exact ⟨Nat.le_trans (flat_len rows _) hF, flat_fit hR _⟩
 ·
  simp
theorem prebT_ok2 {V : Nat} {rows : List (List Prim)} {z e : Int} {l m : List Prim} (h : (l, e) = prebT V rows z m) (hR : ∀ l ∈ rows, l.length ≤ 2000000 ∧ ∀ x ∈ l, x.fit) (hm : m.length ≤ 2000000) (hf : ∀ x ∈ m, x.fit) : l.length ≤ 2000000 ∧ ∀ x ∈ l, x.fit := by
 unfold prebT at h
 split at h
 ·
  split at h <;> cases h
  ·
   rename_i r hr
   obtain ⟨k1, k2⟩ := reb_ok hr (flat_fit hR _) hf
   exact ⟨by omega, k2⟩
  ·
   simp
 ·
  cases h; simp
theorem flat_sum {rows : List (List Prim)} {n : Nat} (h : n + (rows.map List.length).sum ≤ 60) : rows.flatten.length ≤ 2000000 := by
 rw [List.length_flatten]; omega

theorem many_len (l : List Prim) : l.length ≤ many l := by unfold many; omega
theorem lens_le : ∀ (rows : List (List Prim)), (rows.map List.length).sum ≤ (rows.map many).sum
 | [] => Nat.le_refl _
 | l :: rows => by simp only [List.map_cons, List.sum_cons]; have := lens_le rows; have := many_len l; omega


set_option maxRecDepth 100000 in
theorem c_alive15 : Con Tryz.prog 9 [] [] [] Unit (fun _ => .bool true) (fun _ => []) (fun _ => []) := by
 refine con Tryz.func9 rfl Tryz.ntmps9 rfl ?_
 intro M0 F0 w0
 refine cs ?_
 refine cr ?_
 refine ls (op (p_asg rfl) rfl) ?_
 refine ln ?_
 refine nthen ?_
 refine cs ?_
 refine cr ?_
 refine ls (o_call (is := []) Tryz.call10 (c_pNew 3 3 rfl) rfl rfl (by repeat (first | exact Sub.d | (refine Sub.s ?_ ?_; (repeat (first | exact In.z | apply In.s))) | (refine Sub.suf ?_; (repeat (first | exact Suf.z | apply Suf.s))))) rfl) ?_
 refine le ?_; intro b13
 refine ls (op (p_asg rfl) rfl) ?_
 refine ln ?_
 refine nthen ?_
 refine cs ?_
 refine cs ?_
 refine cr ?_
 refine ls (op (p_move rfl) rfl) ?_
 refine ls (op (p_ptrnil Tryz.underlying26 rfl rfl) rfl) ?_
 refine ln ?_
 refine nthen ?_
 refine cc rfl (fun h => by cases h) (fun h => ?_)
 refine cskip ?_
 refine nthen ?_
 refine cs ?_
 refine cmono (fun a w h => nilSl (α := ByteArray) h) ?_
 refine cr ?_
 refine ls (op (p_move rfl) rfl) ?_
 refine ls (o_bsl ([⟨#[120]⟩] : List ByteArray) Tryz.underlying67 Tryz.sizeOf9 Tryz.zeroValue9 rfl (Enum.t Enum.d) (RV.t () rfl Sub.d RV.d) rfl (by decide) (by decide) rfl) ?_
 refine le ?_; intro b17
 refine lmono (fun a w h => Go.Sx.freeze (i := 0) rfl h) ?_
 refine ls (op (p_bld sb69 rfl (Fill.t (by repeat (first | exact At.z | apply At.s)) rfl rfl (by repeat (first | exact Put.d | apply Put.t | apply Put.s)) (Fill.t (by repeat (first | exact At.z | apply At.s)) rfl rfl (by repeat (first | exact Put.d | apply Put.t | apply Put.s)) (Fill.t (by repeat (first | exact At.z | apply At.s)) rfl rfl (by repeat (first | exact Put.d | apply Put.t | apply Put.s)) Fill.d)))) rfl) ?_
 refine ls (o_bsl [vA] Tryz.underlying34 Tryz.sizeOf69 Tryz.zeroValue69 rfl (Enum.t Enum.d) (RV.t ((some ⟨b17, 0, none⟩, 1), (none, 0)) rfl (by repeat (first | exact Sub.d | (refine Sub.s ?_ ?_; (repeat (first | exact In.z | apply In.s))) | (refine Sub.suf ?_; (repeat (first | exact Suf.z | apply Suf.s))))) RV.d) rfl (by decide) (by decide) rfl) ?_
 refine le ?_; intro b19
 refine lmono (fun a w h => Go.Sx.freeze (i := 0) rfl h) ?_
 refine ls (o_call (is := [0]) Tryz.call13 (c_pAdd b13 3 [] (Ring.zero 3) (RI.zero 3) (by decide) [vA] (some ⟨b19, 0, none⟩) 1 (by decide) fit1A) rfl rfl (by repeat (first | exact Sub.d | (refine Sub.s ?_ ?_; (repeat (first | exact In.z | apply In.s))) | (refine Sub.suf ?_; (repeat (first | exact Suf.z | apply Suf.s))))) rfl) ?_
 refine le ?_; rintro ⟨A1, c1⟩
 have hI : RI 3 [[vA]] (Ring.add (Ring.zero 3) 4 ([vA], A1, c1)) := (RI.zero 3).add (l := [vA]) (A := A1) (c := c1) (by decide) fit1A
 refine ls (op (p_asg rfl) rfl) ?_
 refine ln ?_
 refine nthen ?_
 refine cs ?_
 refine cr ?_
 refine ls (o_bsl ([⟨#[121]⟩] : List ByteArray) Tryz.underlying67 Tryz.sizeOf9 Tryz.zeroValue9 rfl (Enum.t Enum.d) (RV.t () rfl Sub.d RV.d) rfl (by decide) (by decide) rfl) ?_
 refine le ?_; intro b21
 refine lmono (fun a w h => Go.Sx.freeze (i := 0) rfl h) ?_
 refine ls (o_bsl ([⟨#[122]⟩] : List ByteArray) Tryz.underlying67 Tryz.sizeOf9 Tryz.zeroValue9 rfl (Enum.t Enum.d) (RV.t () rfl Sub.d RV.d) rfl (by decide) (by decide) rfl) ?_
 refine le ?_; intro b22
 refine lmono (fun a w h => Go.Sx.freeze (i := 0) rfl h) ?_
 refine ls (op (p_bld sb69 rfl (Fill.t (by repeat (first | exact At.z | apply At.s)) rfl rfl (by repeat (first | exact Put.d | apply Put.t | apply Put.s)) (Fill.t (by repeat (first | exact At.z | apply At.s)) rfl rfl (by repeat (first | exact Put.d | apply Put.t | apply Put.s)) (Fill.t (by repeat (first | exact At.z | apply At.s)) rfl rfl (by repeat (first | exact Put.d | apply Put.t | apply Put.s)) (Fill.t (by repeat (first | exact At.z | apply At.s)) rfl rfl (by repeat (first | exact Put.d | apply Put.t | apply Put.s)) (Fill.t (by repeat (first | exact At.z | apply At.s)) rfl rfl (by repeat (first | exact Put.d | apply Put.t | apply Put.s)) Fill.d)))))) rfl) ?_
 refine ls (o_bsl [vB] Tryz.underlying34 Tryz.sizeOf69 Tryz.zeroValue69 rfl (Enum.t Enum.d) (RV.t ((some ⟨b21, 0, none⟩, 1), (some ⟨b22, 0, none⟩, 1)) rfl (by repeat (first | exact Sub.d | (refine Sub.s ?_ ?_; (repeat (first | exact In.z | apply In.s))) | (refine Sub.suf ?_; (repeat (first | exact Suf.z | apply Suf.s))))) RV.d) rfl (by decide) (by decide) rfl) ?_
 refine le ?_; intro b24
 refine lmono (fun a w h => Go.Sx.freeze (i := 0) rfl h) ?_
 refine ls (op (p_asg rfl) rfl) ?_
 refine ln ?_
 refine nthen ?_
 refine cs ?_
 refine cr ?_
 refine ls (op (p_move rfl) rfl) ?_
 refine ls (op (p_move rfl) rfl) ?_
 refine ls (o_call (is := [0]) Tryz.call25 (c_pRebase b13 3 [[vA]] (Ring.add (Ring.zero 3) 4 ([vA], A1, c1)) hI (by decide) hRA 3 [vB] (some ⟨b24, 0, none⟩) 1 (by decide) fit1B) rfl rfl (by repeat (first | exact Sub.d | (refine Sub.s ?_ ?_; (repeat (first | exact In.z | apply In.s))) | (refine Sub.suf ?_; (repeat (first | exact Suf.z | apply Suf.s))))) rfl) ?_
 refine le ?_; rintro ⟨⟨⟨l1, e1⟩, ⟨A2, c2⟩⟩, hr⟩
 obtain ⟨rfl, rfl⟩ := two_eq (hr.trans al1)
 refine ls (op (p_move rfl) rfl) ?_
 refine ls (op (p_ext rfl (by repeat (first | exact At.z | apply At.s))) rfl) ?_
 refine ls (op (p_ext rfl (by repeat (first | exact At.z | apply At.s))) rfl) ?_
 refine ls (op (p_asg rfl) rfl) ?_
 refine ls (op (p_asg rfl) rfl) ?_
 refine ln ?_
 refine nthen ?_
 refine cs ?_
 refine cr ?_
 refine ls (op (p_move rfl) rfl) ?_
 refine ls (op (p_move rfl) rfl) ?_
 refine ls (o_call (is := [0]) Tryz.call25 (c_pRebase b13 3 [[vA]] (Ring.add (Ring.zero 3) 4 ([vA], A1, c1)) hI (by decide) hRA 2 [vB] (some ⟨b24, 0, none⟩) 1 (by decide) fit1B) rfl rfl (by repeat (first | exact Sub.d | (refine Sub.s ?_ ?_; (repeat (first | exact In.z | apply In.s))) | (refine Sub.suf ?_; (repeat (first | exact Suf.z | apply Suf.s))))) rfl) ?_
 refine le ?_; rintro ⟨⟨⟨l2, e2⟩, ⟨A3, c3⟩⟩, hr2⟩
 obtain ⟨rfl, rfl⟩ := two_eq (hr2.trans al2)
 refine ls (op (p_move rfl) rfl) ?_
 refine ls (op (p_ext rfl (by repeat (first | exact At.z | apply At.s))) rfl) ?_
 refine ls (op (p_ext rfl (by repeat (first | exact At.z | apply At.s))) rfl) ?_
 refine ls (op (p_asg rfl) rfl) ?_
 refine ls (op (p_asg rfl) rfl) ?_
 refine ln ?_
 refine nthen ?_
 refine cs ?_
 refine cr ?_
 refine ls (op (p_move rfl) rfl) ?_
 refine ls (o_call (is := [0]) Tryz.call23 (c_pSince b13 3 [[vA]] (Ring.add (Ring.zero 3) 4 ([vA], A1, c1)) hI (by decide) hRA (by decide) 3) rfl rfl (by repeat (first | exact Sub.d | (refine Sub.s ?_ ?_; (repeat (first | exact In.z | apply In.s))) | (refine Sub.suf ?_; (repeat (first | exact Suf.z | apply Suf.s))))) rfl) ?_
 refine le ?_; rintro ⟨⟨⟨l3, e3⟩, ⟨A4, c4⟩⟩, hr3⟩
 obtain ⟨rfl, rfl⟩ := two_eq (hr3.trans al3)
 refine ls (op (p_move rfl) rfl) ?_
 refine ls (op (p_ext rfl (by repeat (first | exact At.z | apply At.s))) rfl) ?_
 refine ls (op (p_ext rfl (by repeat (first | exact At.z | apply At.s))) rfl) ?_
 refine ls (op (p_asg rfl) rfl) ?_
 refine ls (op (p_asg rfl) rfl) ?_
 refine ln ?_
 refine nthen ?_
 refine cs ?_
 refine cr ?_
 refine ls (op (p_move rfl) rfl) ?_
 refine ls (o_call (is := [0]) Tryz.call32 (c_pCopy b13 (Ring.add (Ring.zero 3) 4 ([vA], A1, c1)) hI.len) rfl rfl (by repeat (first | exact Sub.d | (refine Sub.s ?_ ?_; (repeat (first | exact In.z | apply In.s))) | (refine Sub.suf ?_; (repeat (first | exact Suf.z | apply Suf.s))))) rfl) ?_
 refine le ?_; intro b43
 refine ls (op (p_asg rfl) rfl) ?_
 refine ln ?_
 refine nthen ?_
 refine cs ?_
 refine cr ?_
 refine ls (op (p_move rfl) rfl) ?_
 refine ls (o_call (is := [1]) Tryz.call19 (c_pAt b13 3 [[vA]] (Ring.add (Ring.zero 3) 4 ([vA], A1, c1)) hI (by decide) 4) rfl rfl (by repeat (first | exact Sub.d | (refine Sub.s ?_ ?_; (repeat (first | exact In.z | apply In.s))) | (refine Sub.suf ?_; (repeat (first | exact Suf.z | apply Suf.s))))) rfl) ?_
 refine le ?_; rintro ⟨⟨⟨l5, e5⟩, ⟨A5, c5⟩⟩, hr5⟩
 obtain ⟨rfl, rfl⟩ := two_eq (hr5.trans al4)
 refine ls (op (p_move rfl) rfl) ?_
 refine ls (op (p_ext rfl (by repeat (first | exact At.z | apply At.s))) rfl) ?_
 refine ls (op (p_ext rfl (by repeat (first | exact At.z | apply At.s))) rfl) ?_
 refine ls (op (p_asg rfl) rfl) ?_
 refine ls (op (p_asg rfl) rfl) ?_
 refine ln ?_
 refine nthen ?_
 refine cs ?_
 refine cmono (fun a w h => nilSl (α := Prim) h) ?_
 refine elC (by repeat (first | exact At.z | apply At.s)) 0 ((show ([vC] : List Prim)[0]? = some vC from rfl)) ?_; rintro zbp zop zyp hAp
 refine cr ?_
 refine ls (op (p_move rfl) rfl) ?_
 refine ls (op (p_icmp rfl rfl rfl) rfl) ?_
 refine ls (op (p_move rfl) rfl) ?_
 refine lwant rfl rfl rfl rfl (op (p_move rfl) rfl) ?_
 refine lwant rfl rfl rfl rfl (op (p_lenl rfl Tryz.underlying34) rfl) ?_
 refine lwant rfl rfl rfl rfl (op (p_icmp rfl rfl rfl) rfl) ?_
 refine ls (op (p_pickt rfl rfl) rfl) ?_
 refine ls (op (p_move rfl) rfl) ?_
 refine lwant rfl rfl rfl rfl (op (p_move rfl) rfl) ?_
 refine lwant rfl rfl rfl rfl (op (p_ia 0 hAp Nat.zero_lt_one rfl Tryz.underlying34 Tryz.sizeOf69 rfl rfl) rfl) ?_
 refine lwant rfl rfl rfl rfl (op (p_fa fa69_3 rfl) rfl) ?_
 refine lwant rfl rfl rfl rfl (o_ldi Tryz.isAgg3 rfl (by repeat (first | exact At.z | apply At.s)) 3 rfl (by repeat (first | exact Cut.d | apply Cut.t | apply Cut.s)) rfl) ?_
 refine lwant rfl rfl rfl rfl (op (p_icmp rfl rfl rfl) rfl) ?_
 refine ls (op (p_pickt rfl rfl) rfl) ?_
 refine ls (op (p_move rfl) rfl) ?_
 refine lwant rfl rfl rfl rfl (op (p_move rfl) rfl) ?_
 refine lwant rfl rfl rfl rfl (op (p_icmp rfl rfl rfl) rfl) ?_
 refine ls (op (p_pickt rfl rfl) rfl) ?_
 refine ls (op (p_move rfl) rfl) ?_
 refine lwant rfl rfl rfl rfl (op (p_move rfl) rfl) ?_
 refine lwant rfl rfl rfl rfl (op (p_icmp rfl rfl rfl) rfl) ?_
 refine ls (op (p_pickt rfl rfl) rfl) ?_
 refine ls (op (p_move rfl) rfl) ?_
 refine lwant rfl rfl rfl rfl (op (p_move rfl) rfl) ?_
 refine lwant rfl rfl rfl rfl (op (p_lenl rfl Tryz.underlying34) rfl) ?_
 refine lwant rfl rfl rfl rfl (op (p_icmp rfl rfl rfl) rfl) ?_
 refine ls (op (p_pickt rfl rfl) rfl) ?_
 refine ls (op (p_move rfl) rfl) ?_
 refine lwant rfl rfl rfl rfl (op (p_move rfl) rfl) ?_
 refine lwant rfl rfl rfl rfl (op (p_icmp rfl rfl rfl) rfl) ?_
 refine ls (op (p_pickt rfl rfl) rfl) ?_
 refine ls (op (p_move rfl) rfl) ?_
 refine lwant rfl rfl rfl rfl (op (p_move rfl) rfl) ?_
 refine lwant rfl rfl rfl rfl (op (p_ptrnn Tryz.underlying26 rfl rfl) rfl) ?_
 refine ls (op (p_pickt rfl rfl) rfl) ?_
 refine ls (op (p_move rfl) rfl) ?_
 refine lwant rfl rfl rfl rfl (op (p_move rfl) rfl) ?_
 refine lwant rfl rfl rfl rfl (o_call (is := [1]) Tryz.call13 (c_pAdd b43 3 [[vA]] (Ring.add (Ring.zero 3) 4 ([vA], A1, c1)) hI (by decide) [] none 0 (by decide) (by simp)) rfl rfl (by repeat (first | exact Sub.d | (refine Sub.s ?_ ?_; (repeat (first | exact In.z | apply In.s))) | (refine Sub.suf ?_; (repeat (first | exact Suf.z | apply Suf.s))))) rfl) ?_
 refine le ?_; rintro ⟨A6, c6⟩
 refine lwant rfl rfl rfl rfl (op (p_icmp rfl rfl rfl) rfl) ?_
 refine ls (op (p_pickt rfl rfl) rfl) ?_
 refine ls (op (p_move rfl) rfl) ?_
 refine lwant rfl rfl rfl rfl (op (p_move rfl) rfl) ?_
 refine lwant rfl rfl rfl rfl (o_call (is := [1]) Tryz.call16 (c_pVersion b13 (Ring.add (Ring.zero 3) 4 ([vA], A1, c1))) rfl rfl (by repeat (first | exact Sub.d | (refine Sub.s ?_ ?_; (repeat (first | exact In.z | apply In.s))) | (refine Sub.suf ?_; (repeat (first | exact Suf.z | apply Suf.s))))) rfl) ?_
 refine le ?_; intro x91
 refine lwant rfl rfl rfl rfl (op (p_icmp rfl rfl rfl) rfl) ?_
 refine ls (op (p_pickt rfl rfl) rfl) ?_
 refine ls (op (p_move rfl) rfl) ?_
 refine lwant rfl rfl rfl rfl (op (p_move rfl) rfl) ?_
 refine lwant rfl rfl rfl rfl (o_call (is := [0]) Tryz.call17 (c_pFirst b13 3 [[vA]] (Ring.add (Ring.zero 3) 4 ([vA], A1, c1)) hI (by decide)) rfl rfl (by repeat (first | exact Sub.d | (refine Sub.s ?_ ?_; (repeat (first | exact In.z | apply In.s))) | (refine Sub.suf ?_; (repeat (first | exact Suf.z | apply Suf.s))))) rfl) ?_
 refine le ?_; intro x96
 refine lwant rfl rfl rfl rfl (op (p_icmp rfl rfl rfl) rfl) ?_
 refine ls (op (p_pickt rfl rfl) rfl) ?_
 refine ls (op (p_move rfl) rfl) ?_
 refine lwant rfl rfl rfl rfl (op (p_move rfl) rfl) ?_
 refine lwant rfl rfl rfl rfl (op (p_lenl rfl Tryz.underlying34) rfl) ?_
 refine lwant rfl rfl rfl rfl (op (p_icmp rfl rfl rfl) rfl) ?_
 refine ls (op (p_pickt rfl rfl) rfl) ?_
 refine ls (op (p_move rfl) rfl) ?_
 refine lwant rfl rfl rfl rfl (op (p_move rfl) rfl) ?_
 refine ls (op (p_pickt rfl rfl) rfl) ?_
 refine ls (op (p_asg rfl) rfl) ?_
 refine ln ?_
 refine nthen ?_
 refine cret ?_
 refine xret (fun _ _ h => h) ?_
 refine rret (is := []) () (Or.inl rfl) (Res.t rfl Res.d) (rfl) rfl (by repeat (first | exact Sub.d | (refine Sub.s ?_ ?_; (repeat (first | exact In.z | apply In.s))) | (refine Sub.suf ?_; (repeat (first | exact Suf.z | apply Suf.s)))))

set_option maxRecDepth 100000 in
theorem c_PastSince (v : Int) (rows : List (List Prim)) (A : Option Addr) (c : Nat) (hn : rows.length ≤ 1048576)(hR : ∀ l ∈ rows, l.length ≤ 2000000 ∧ ∀ x ∈ l, x.fit) (hM : (rows.map many).sum ≤ 1048576) (z : Int) (hz : -9223372036854775808 ≤ z ∧ z < 9223372036854775808) : Con Tryz.prog 4 [.int .i64 v, .slice A rows.length c, .int .i64 z] [] [slA A rows] Unit (fun _ => .bool true) (fun _ => []) (fun _ => []) := by
 refine con Tryz.func4 rfl Tryz.ntmps4 rfl ?_
 intro M0 F0 w0
 refine cs ?_
 refine cr ?_
 refine ls (op (p_asg rfl) rfl) ?_
 refine ln ?_
 refine nthen ?_
 refine cs ?_
 refine cs ?_
 refine cmono (fun a w h => nilSl (α := Prim) h) ?_
 refine cr ?_
 refine ls (op (p_move rfl) rfl) ?_
 refine ls (o_call (is := []) Tryz.call7 (c_few15 rows A c [] none 0 (by omega) (by decide) (fun l hl => (hR l hl).1) (by have : many [] = 0 := rfl; omega) (by have h : (rows.map List.length).sum ≤ (rows.map many).sum := lens_le rows; have h2 : ([] : List Prim).length = 0 := rfl; omega)) rfl rfl (by repeat (first | exact Sub.d | (refine Sub.s ?_ ?_; (repeat (first | exact In.z | apply In.s))) | (refine Sub.suf ?_; (repeat (first | exact Suf.z | apply Suf.s))))) rfl) ?_
 refine le ?_; intro x14
 refine ls (op (p_not rfl) rfl) ?_
 refine ls (op (p_move rfl) rfl) ?_
 refine orX 3 16 19 rfl (subσ.cons (t := 0) rfl (subσ.cons (t := 1) rfl (subσ.cons (t := 2) rfl (subσ.cons (t := 6) rfl (subσ.nil _))))) ?_ ?_
 ·
  intro h16
  refine lskip rfl rfl rfl rfl rfl ?_
  refine lskip rfl rfl rfl rfl rfl ?_
  refine ls (op (p_pickt rfl rfl) rfl) ?_
  refine ln (nmid (wk0 (by repeat (first | exact subσ.nil _ | refine subσ.cons rfl ?_)) (by repeat (first | exact Sub.d | (refine Sub.s ?_ ?_; (repeat (first | exact In.z | apply In.s))) | (refine Sub.suf ?_; (repeat (first | exact Suf.z | apply Suf.s)))))))
 apply exI
 ·
  intro h16
  refine lwant rfl rfl rfl rfl (op (p_move rfl) rfl) ?_
  refine lwant rfl rfl rfl rfl (o_call (is := []) Tryz.call8 (c_high v) rfl rfl (by repeat (first | exact Sub.d | (refine Sub.s ?_ ?_; (repeat (first | exact In.z | apply In.s))) | (refine Sub.suf ?_; (repeat (first | exact Suf.z | apply Suf.s))))) rfl) ?_
  refine le ?_; intro x18
  refine ls (op (p_pickf rfl rfl) rfl) ?_
  refine ln (nmid (wk0 (by repeat (first | exact subσ.nil _ | refine subσ.cons rfl ?_)) (by repeat (first | exact Sub.d | (refine Sub.s ?_ ?_; (repeat (first | exact In.z | apply In.s))) | (refine Sub.suf ?_; (repeat (first | exact Suf.z | apply Suf.s)))))))
 ·
  refine ln ?_
  refine nthen ?_
  refine cc rfl ?_ ?_
  ·
   intro h19
   skip
   refine cs ?_
   refine cr ?_
   refine ls (o_call (is := []) Tryz.call9 (c_alive15) rfl rfl (by repeat (first | exact Sub.d | (refine Sub.s ?_ ?_; (repeat (first | exact In.z | apply In.s))) | (refine Sub.suf ?_; (repeat (first | exact Suf.z | apply Suf.s))))) rfl) ?_
   refine le ?_; intro x20
   refine ls (op (p_asg rfl) rfl) ?_
   refine ln ?_
   refine nthen ?_
   refine cret ?_
   refine xret (fun _ _ h => h) ?_
   refine rret (is := []) () (Or.inl rfl) (Res.t rfl Res.d) (rfl) rfl (by repeat (first | exact Sub.d | (refine Sub.s ?_ ?_; (repeat (first | exact In.z | apply In.s))) | (refine Sub.suf ?_; (repeat (first | exact Suf.z | apply Suf.s)))))
  ·
   intro h19
   have hc1 : fewT rows [] = true ∧ v ≤ 1152921504606846976 := by have := h19; simp at this; exact this
   have hf0 := fewT_yes hc1.1
   have hF := flat_sum hf0.2.1
   obtain ⟨V, hV⟩ : ∃ V : Nat, max v 0 = (V : Int) := ⟨(max v 0).toNat, by omega⟩
   have hVn : V + rows.length ≤ 4611686018427387904 := by have := hc1.2; omega
   refine cskip ?_
   refine nthen ?_
   refine cs ?_
   refine cr ?_
   refine ls (op (p_move rfl) rfl) ?_
   refine ls (op (p_move rfl) rfl) ?_
   refine ls (o_call (is := []) Tryz.call22 (c_made15 v V hV rows A c (by omega) hVn hR) rfl rfl (by repeat (first | exact Sub.d | (refine Sub.s ?_ ?_; (repeat (first | exact In.z | apply In.s))) | (refine Sub.suf ?_; (repeat (first | exact Suf.z | apply Suf.s))))) rfl) ?_
   refine le ?_; rintro ⟨⟨b1, r, ⟨A1, c1⟩⟩, hI, hc, h0⟩
   dsimp only at hI hc h0
   refine ls (op (p_move rfl) rfl) ?_
   refine ls (op (p_ext rfl (by repeat (first | exact At.z | apply At.s))) rfl) ?_
   refine ls (op (p_ext rfl (by repeat (first | exact At.z | apply At.s))) rfl) ?_
   refine ls (o_alloc Tryz.zeroValue29 rfl rfl) ?_
   refine le ?_; intro b8
   refine ls (op (p_asg rfl) rfl) ?_
   refine ls (o_st rfl Tryz.sizeOf29 rfl rfl rfl rfl rfl (by repeat (first | exact At.z | apply At.s)) (by repeat (first | exact Put.d | apply Put.t | apply Put.s)) (by repeat (first | exact SetAt.z | apply SetAt.s))) ?_
   refine ln ?_
   refine nthen ?_
   refine cs ?_
   refine cs ?_
   refine cr ?_
   refine ls (op (p_move rfl) rfl) ?_
   refine ls (op (p_ptrnil Tryz.underlying26 rfl rfl) rfl) ?_
   refine ln ?_
   refine nthen ?_
   refine cc rfl (fun h => by cases h) (fun h => ?_)
   refine cskip ?_
   refine nthen ?_
   refine cs ?_
   refine cr ?_
   refine ls (op (p_move rfl) rfl) ?_
   refine ls (op (p_move rfl) rfl) ?_
   refine ls (o_call (is := [1]) Tryz.call23 (c_pSince b1 V rows r hI hVn hR hF z) rfl rfl (by repeat (first | exact Sub.d | (refine Sub.s ?_ ?_; (repeat (first | exact In.z | apply In.s))) | (refine Sub.suf ?_; (repeat (first | exact Suf.z | apply Suf.s))))) rfl) ?_
   refine le ?_; rintro ⟨⟨⟨l1, e1⟩, ⟨A2, c2⟩⟩, hr⟩
   refine ls (op (p_move rfl) rfl) ?_
   refine ls (op (p_ext rfl (by repeat (first | exact At.z | apply At.s))) rfl) ?_
   refine ls (op (p_ext rfl (by repeat (first | exact At.z | apply At.s))) rfl) ?_
   refine ls (op (p_asg rfl) rfl) ?_
   refine ls (op (p_asg rfl) rfl) ?_
   refine ln ?_
   refine nthen ?_
   refine cs ?_
   refine cr ?_
   refine ls (o_ldw Tryz.isAgg29 Tryz.sizeOf29 rfl (by repeat (first | exact At.z | apply At.s)) (by rfl) rfl) ?_
   refine ls (op (p_move rfl) rfl) ?_
   refine ls (o_call (is := []) Tryz.call24 (c_rSince15 V rows A1 c1 hVn hR hF hc z hz) rfl rfl (by repeat (first | exact Sub.d | (refine Sub.s ?_ ?_; (repeat (first | exact In.z | apply In.s))) | (refine Sub.suf ?_; (repeat (first | exact Suf.z | apply Suf.s))))) rfl) ?_
   refine le ?_; rintro ⟨⟨⟨l2, e2⟩, ⟨A3, c3⟩⟩, hr2⟩
   obtain ⟨rfl, rfl⟩ := two_eq (hr.trans hr2.symm)
   have hk := sinceT_ok2 hr hR hF
   refine ls (op (p_move rfl) rfl) ?_
   refine ls (op (p_ext rfl (by repeat (first | exact At.z | apply At.s))) rfl) ?_
   refine ls (op (p_ext rfl (by repeat (first | exact At.z | apply At.s))) rfl) ?_
   refine ls (op (p_asg rfl) rfl) ?_
   refine ls (op (p_asg rfl) rfl) ?_
   refine ln ?_
   refine nthen ?_
   refine cs ?_
   refine cr ?_
   refine ls (o_call (is := []) Tryz.call9 (c_alive15) rfl rfl (by repeat (first | exact Sub.d | (refine Sub.s ?_ ?_; (repeat (first | exact In.z | apply In.s))) | (refine Sub.suf ?_; (repeat (first | exact Suf.z | apply Suf.s))))) rfl) ?_
   refine le ?_; intro x41
   refine ls (op (p_move rfl) rfl) ?_
   refine lwant rfl rfl rfl rfl (op (p_move rfl) rfl) ?_
   refine lwant rfl rfl rfl rfl (op (p_move rfl) rfl) ?_
   refine lwant rfl rfl rfl rfl (op (p_icmp rfl rfl rfl) rfl) ?_
   refine fixL (congrArg Value.bool (decide_eq_true rfl)) ?_
   refine ls (op (p_pickt rfl rfl) rfl) ?_
   refine ls (op (p_move rfl) rfl) ?_
   refine lwant rfl rfl rfl rfl (op (p_move rfl) rfl) ?_
   refine lwant rfl rfl rfl rfl (o_call (is := []) Tryz.call21 (c_lOld l1 A2 c2 hk.1) rfl rfl (by repeat (first | exact Sub.d | (refine Sub.s ?_ ?_; (repeat (first | exact In.z | apply In.s))) | (refine Sub.suf ?_; (repeat (first | exact Suf.z | apply Suf.s))))) rfl) ?_
   refine le ?_; rintro ⟨A4, c4⟩
   refine lwant rfl rfl rfl rfl (op (p_move rfl) rfl) ?_
   refine lwant rfl rfl rfl rfl (o_call (is := []) Tryz.call20 (c_refAllP l1 l1 A4 A3 c4 c3 hk.1 hk.2) rfl rfl (by repeat (first | exact Sub.d | (refine Sub.s ?_ ?_; (repeat (first | exact In.z | apply In.s))) | (refine Sub.suf ?_; (repeat (first | exact Suf.z | apply Suf.s))))) rfl) ?_
   refine le ?_; intro x51
   refine fixL (congrArg Value.bool (decide_eq_true rfl)) ?_
   refine ls (op (p_pickt rfl rfl) rfl) ?_
   refine ls (op (p_asg rfl) rfl) ?_
   refine ln ?_
   refine nthen ?_
   refine cret ?_
   refine xret (fun _ _ h => h) ?_
   refine rret (is := []) () (Or.inl rfl) (Res.t rfl Res.d) (rfl) rfl (by repeat (first | exact Sub.d | (refine Sub.s ?_ ?_; (repeat (first | exact In.z | apply In.s))) | (refine Sub.suf ?_; (repeat (first | exact Suf.z | apply Suf.s)))))

set_option maxRecDepth 100000 in
theorem c_PastRebases (rows : List (List Prim)) (A : Option Addr) (c : Nat) (hn : rows.length ≤ 1048576)(hR : ∀ l ∈ rows, l.length ≤ 2000000 ∧ ∀ x ∈ l, x.fit) (hM : (rows.map many).sum ≤ 1048576) (l : List Prim) (B : Option Addr) (c' : Nat) (hl : l.length ≤ 1048576) (hfl : ∀ x ∈ l, x.fit) (hML : many l ≤ 1048576) (hB0 : l = [] → B = none → c' = 0) (z : Int) (hz : -9223372036854775808 ≤ z ∧ z < 9223372036854775808) : Con Tryz.prog 5 [.slice A rows.length c, .slice B l.length c', .int .i64 z] [] [slA A rows, slA B l] Unit (fun _ => .bool true) (fun _ => []) (fun _ => []) := by
 refine con Tryz.func5 rfl Tryz.ntmps5 rfl ?_
 intro M0 F0 w0
 refine cs ?_
 refine cr ?_
 refine ls (op (p_asg rfl) rfl) ?_
 refine ln ?_
 refine nthen ?_
 refine cs ?_
 refine cs ?_
 refine cr ?_
 refine ls (op (p_move rfl) rfl) ?_
 refine ls (op (p_move rfl) rfl) ?_
 refine ls (o_call (is := []) Tryz.call7 (c_few15 rows A c l B c' (by omega) (by omega) (fun l hl => (hR l hl).1) (by omega) (by have h : (rows.map List.length).sum ≤ (rows.map many).sum := lens_le rows; omega)) rfl rfl (by repeat (first | exact Sub.d | (refine Sub.s ?_ ?_; (repeat (first | exact In.z | apply In.s))) | (refine Sub.suf ?_; (repeat (first | exact Suf.z | apply Suf.s))))) rfl) ?_
 refine le ?_; intro x15
 refine ls (op (p_not rfl) rfl) ?_
 refine ln ?_
 refine nthen ?_
 refine cc rfl ?_ ?_
 ·
  intro h16
  skip
  refine cs ?_
  refine cr ?_
  refine ls (o_call (is := []) Tryz.call9 (c_alive15) rfl rfl (by repeat (first | exact Sub.d | (refine Sub.s ?_ ?_; (repeat (first | exact In.z | apply In.s))) | (refine Sub.suf ?_; (repeat (first | exact Suf.z | apply Suf.s))))) rfl) ?_
  refine le ?_; intro x17
  refine ls (op (p_asg rfl) rfl) ?_
  refine ln ?_
  refine nthen ?_
  refine cret ?_
  refine xret (fun _ _ h => h) ?_
  refine rret (is := []) () (Or.inl rfl) (Res.t rfl Res.d) (rfl) rfl (by repeat (first | exact Sub.d | (refine Sub.s ?_ ?_; (repeat (first | exact In.z | apply In.s))) | (refine Sub.suf ?_; (repeat (first | exact Suf.z | apply Suf.s)))))
 ·
  intro h16
  have hc1 : fewT rows l = true := by have := h16; simpa using this
  have hf0 := fewT_yes hc1
  have hF := flat_sum hf0.2.1
  have hVn : 0 + rows.length ≤ 4611686018427387904 := by omega
  refine cskip ?_
  refine nthen ?_
  refine cs ?_
  refine cr ?_
  refine ls (op (p_move rfl) rfl) ?_
  refine ls (o_call (is := []) Tryz.call22 (c_made15 0 0 rfl rows A c (by omega) hVn hR) rfl rfl (by repeat (first | exact Sub.d | (refine Sub.s ?_ ?_; (repeat (first | exact In.z | apply In.s))) | (refine Sub.suf ?_; (repeat (first | exact Suf.z | apply Suf.s))))) rfl) ?_
  refine le ?_; rintro ⟨⟨b1, r, ⟨A1, c1⟩⟩, hI, hc, h0⟩
  dsimp only at hI hc h0
  refine ls (op (p_move rfl) rfl) ?_
  refine ls (op (p_ext rfl (by repeat (first | exact At.z | apply At.s))) rfl) ?_
  refine ls (op (p_ext rfl (by repeat (first | exact At.z | apply At.s))) rfl) ?_
  refine ls (o_alloc Tryz.zeroValue29 rfl rfl) ?_
  refine le ?_; intro b8
  refine ls (op (p_asg rfl) rfl) ?_
  refine ls (o_st rfl Tryz.sizeOf29 rfl rfl rfl rfl rfl (by repeat (first | exact At.z | apply At.s)) (by repeat (first | exact Put.d | apply Put.t | apply Put.s)) (by repeat (first | exact SetAt.z | apply SetAt.s))) ?_
  refine ln ?_
  refine nthen ?_
  refine cs ?_
  refine cs ?_
  refine cr ?_
  refine ls (op (p_move rfl) rfl) ?_
  refine ls (op (p_ptrnil Tryz.underlying26 rfl rfl) rfl) ?_
  refine ln ?_
  refine nthen ?_
  refine cc rfl (fun h => by cases h) (fun h => ?_)
  refine cskip ?_
  refine nthen ?_
  refine cs ?_
  refine cr ?_
  refine ls (op (p_move rfl) rfl) ?_
  refine ls (op (p_move rfl) rfl) ?_
  refine ls (o_call (is := []) Tryz.call14 (c_lNew l B c' (by omega)) rfl rfl (by repeat (first | exact Sub.d | (refine Sub.s ?_ ?_; (repeat (first | exact In.z | apply In.s))) | (refine Sub.suf ?_; (repeat (first | exact Suf.z | apply Suf.s))))) rfl) ?_
  refine le ?_; rintro ⟨A5, c5⟩
  refine ls (op (p_move rfl) rfl) ?_
  refine ls (o_call (is := [1]) Tryz.call25 (c_pRebase b1 0 rows r hI hVn hR z l A5 c5 (by omega) hfl) rfl rfl (by repeat (first | exact Sub.d | (refine Sub.s ?_ ?_; (repeat (first | exact In.z | apply In.s))) | (refine Sub.suf ?_; (repeat (first | exact Suf.z | apply Suf.s))))) rfl) ?_
  refine le ?_; rintro ⟨⟨⟨l1, e1⟩, ⟨A2, c2⟩⟩, hr⟩
  refine ls (op (p_move rfl) rfl) ?_
  refine ls (op (p_ext rfl (by repeat (first | exact At.z | apply At.s))) rfl) ?_
  refine ls (op (p_ext rfl (by repeat (first | exact At.z | apply At.s))) rfl) ?_
  refine ls (op (p_asg rfl) rfl) ?_
  refine ls (op (p_asg rfl) rfl) ?_
  refine ln ?_
  refine nthen ?_
  refine cs ?_
  refine cr ?_
  refine ls (o_ldw Tryz.isAgg29 Tryz.sizeOf29 rfl (by repeat (first | exact At.z | apply At.s)) (by rfl) rfl) ?_
  refine ls (op (p_move rfl) rfl) ?_
  refine ls (op (p_move rfl) rfl) ?_
  refine ls (o_call (is := []) Tryz.call26 (c_rReb15 0 rows A1 c1 hVn hR hF hc z hz l B c' (by omega) hfl hB0) rfl rfl (by repeat (first | exact Sub.d | (refine Sub.s ?_ ?_; (repeat (first | exact In.z | apply In.s))) | (refine Sub.suf ?_; (repeat (first | exact Suf.z | apply Suf.s))))) rfl) ?_
  refine le ?_; rintro ⟨⟨⟨l2, e2⟩, ⟨A3, c3⟩⟩, hr2⟩
  obtain ⟨rfl, rfl⟩ := two_eq (hr.trans hr2.symm)
  have hk := prebT_ok2 hr hR (by omega) hfl
  refine ls (op (p_move rfl) rfl) ?_
  refine ls (op (p_ext rfl (by repeat (first | exact At.z | apply At.s))) rfl) ?_
  refine ls (op (p_ext rfl (by repeat (first | exact At.z | apply At.s))) rfl) ?_
  refine ls (op (p_asg rfl) rfl) ?_
  refine ls (op (p_asg rfl) rfl) ?_
  refine ln ?_
  refine nthen ?_
  refine cs ?_
  refine cr ?_
  refine ls (o_call (is := []) Tryz.call9 (c_alive15) rfl rfl (by repeat (first | exact Sub.d | (refine Sub.s ?_ ?_; (repeat (first | exact In.z | apply In.s))) | (refine Sub.suf ?_; (repeat (first | exact Suf.z | apply Suf.s))))) rfl) ?_
  refine le ?_; intro x40
  refine ls (op (p_move rfl) rfl) ?_
  refine lwant rfl rfl rfl rfl (op (p_move rfl) rfl) ?_
  refine lwant rfl rfl rfl rfl (op (p_move rfl) rfl) ?_
  refine lwant rfl rfl rfl rfl (op (p_icmp rfl rfl rfl) rfl) ?_
  refine fixL (congrArg Value.bool (decide_eq_true rfl)) ?_
  refine ls (op (p_pickt rfl rfl) rfl) ?_
  refine ls (op (p_move rfl) rfl) ?_
  refine lwant rfl rfl rfl rfl (op (p_move rfl) rfl) ?_
  refine lwant rfl rfl rfl rfl (o_call (is := []) Tryz.call21 (c_lOld l1 A2 c2 hk.1) rfl rfl (by repeat (first | exact Sub.d | (refine Sub.s ?_ ?_; (repeat (first | exact In.z | apply In.s))) | (refine Sub.suf ?_; (repeat (first | exact Suf.z | apply Suf.s))))) rfl) ?_
  refine le ?_; rintro ⟨A4, c4⟩
  refine lwant rfl rfl rfl rfl (op (p_move rfl) rfl) ?_
  refine lwant rfl rfl rfl rfl (o_call (is := []) Tryz.call20 (c_refAllP l1 l1 A4 A3 c4 c3 hk.1 hk.2) rfl rfl (by repeat (first | exact Sub.d | (refine Sub.s ?_ ?_; (repeat (first | exact In.z | apply In.s))) | (refine Sub.suf ?_; (repeat (first | exact Suf.z | apply Suf.s))))) rfl) ?_
  refine le ?_; intro x50
  refine fixL (congrArg Value.bool (decide_eq_true rfl)) ?_
  refine ls (op (p_pickt rfl rfl) rfl) ?_
  refine ls (op (p_asg rfl) rfl) ?_
  refine ln ?_
  refine nthen ?_
  refine cret ?_
  refine xret (fun _ _ h => h) ?_
  refine rret (is := []) () (Or.inl rfl) (Res.t rfl Res.d) (rfl) rfl (by repeat (first | exact Sub.d | (refine Sub.s ?_ ?_; (repeat (first | exact In.z | apply In.s))) | (refine Sub.suf ?_; (repeat (first | exact Suf.z | apply Suf.s)))))

end Go.Proofs.YtonmgdamojingaaGreatDoor.X

end
section
set_option linter.unusedVariables false
set_option linter.unusedSimpArgs false
namespace Go.Proofs.YtonmgdamojingaaGreatDoor.X
open Go Go.RowKit Go.Proofs Go.Sx
attribute [local irreducible] slA isA box row


set_option maxRecDepth 100000 in
theorem c_PastTells (v : Int) (rows : List (List Prim)) (A : Option Addr) (c : Nat) (hn : rows.length ≤ 1048576)(hR : ∀ l ∈ rows, l.length ≤ 2000000 ∧ ∀ x ∈ l, x.fit) (hM : (rows.map many).sum ≤ 1048576) (z : Int) (hz : -9223372036854775808 ≤ z ∧ z < 9223372036854775808) : Con Tryz.prog 3 [.int .i64 v, .slice A rows.length c, .int .i64 z] [] [slA A rows] Unit (fun _ => .bool true) (fun _ => []) (fun _ => []) := by
 refine con Tryz.func3 rfl Tryz.ntmps3 rfl ?_
 intro M0 F0 w0
 refine cs ?_
 refine cr ?_
 refine ls (op (p_asg rfl) rfl) ?_
 refine ln ?_
 refine nthen ?_
 refine cs ?_
 refine cs ?_
 refine cmono (fun a w h => nilSl (α := Prim) h) ?_
 refine cr ?_
 refine ls (op (p_move rfl) rfl) ?_
 refine ls (o_call (is := []) Tryz.call7 (c_few15 rows A c [] none 0 (by omega) (by decide) (fun l hl => (hR l hl).1) (by have : many [] = 0 := rfl; omega) (by have h : (rows.map List.length).sum ≤ (rows.map many).sum := lens_le rows; have h2 : ([] : List Prim).length = 0 := rfl; omega)) rfl rfl (by repeat (first | exact Sub.d | (refine Sub.s ?_ ?_; (repeat (first | exact In.z | apply In.s))) | (refine Sub.suf ?_; (repeat (first | exact Suf.z | apply Suf.s))))) rfl) ?_
 refine le ?_; intro x17
 refine ls (op (p_not rfl) rfl) ?_
 refine ls (op (p_move rfl) rfl) ?_
 refine orX 3 19 22 rfl (subσ.cons (t := 0) rfl (subσ.cons (t := 1) rfl (subσ.cons (t := 2) rfl (subσ.cons (t := 6) rfl (subσ.nil _))))) ?_ ?_
 ·
  intro h19
  refine lskip rfl rfl rfl rfl rfl ?_
  refine lskip rfl rfl rfl rfl rfl ?_
  refine ls (op (p_pickt rfl rfl) rfl) ?_
  refine ln (nmid (wk0 (by repeat (first | exact subσ.nil _ | refine subσ.cons rfl ?_)) (by repeat (first | exact Sub.d | (refine Sub.s ?_ ?_; (repeat (first | exact In.z | apply In.s))) | (refine Sub.suf ?_; (repeat (first | exact Suf.z | apply Suf.s)))))))
 apply exI
 ·
  intro h19
  refine lwant rfl rfl rfl rfl (op (p_move rfl) rfl) ?_
  refine lwant rfl rfl rfl rfl (o_call (is := []) Tryz.call8 (c_high v) rfl rfl (by repeat (first | exact Sub.d | (refine Sub.s ?_ ?_; (repeat (first | exact In.z | apply In.s))) | (refine Sub.suf ?_; (repeat (first | exact Suf.z | apply Suf.s))))) rfl) ?_
  refine le ?_; intro x21
  refine ls (op (p_pickf rfl rfl) rfl) ?_
  refine ln (nmid (wk0 (by repeat (first | exact subσ.nil _ | refine subσ.cons rfl ?_)) (by repeat (first | exact Sub.d | (refine Sub.s ?_ ?_; (repeat (first | exact In.z | apply In.s))) | (refine Sub.suf ?_; (repeat (first | exact Suf.z | apply Suf.s)))))))
 ·
  refine ln ?_
  refine nthen ?_
  refine cc rfl ?_ ?_
  ·
   intro h22
   skip
   refine cs ?_
   refine cr ?_
   refine ls (o_call (is := []) Tryz.call9 (c_alive15) rfl rfl (by repeat (first | exact Sub.d | (refine Sub.s ?_ ?_; (repeat (first | exact In.z | apply In.s))) | (refine Sub.suf ?_; (repeat (first | exact Suf.z | apply Suf.s))))) rfl) ?_
   refine le ?_; intro x23
   refine ls (op (p_asg rfl) rfl) ?_
   refine ln ?_
   refine nthen ?_
   refine cret ?_
   refine xret (fun _ _ h => h) ?_
   refine rret (is := []) () (Or.inl rfl) (Res.t rfl Res.d) (rfl) rfl (by repeat (first | exact Sub.d | (refine Sub.s ?_ ?_; (repeat (first | exact In.z | apply In.s))) | (refine Sub.suf ?_; (repeat (first | exact Suf.z | apply Suf.s)))))
  ·
   intro h22
   have hc1 : fewT rows [] = true ∧ v ≤ 1152921504606846976 := by have := h22; simp at this; exact this
   have hf0 := fewT_yes hc1.1
   have hF := flat_sum hf0.2.1
   obtain ⟨V, hV⟩ : ∃ V : Nat, max v 0 = (V : Int) := ⟨(max v 0).toNat, by omega⟩
   have hVn : V + rows.length ≤ 4611686018427387904 := by have := hc1.2; omega
   refine cskip ?_
   refine nthen ?_
   refine cs ?_
   refine cr ?_
   refine ls (op (p_move rfl) rfl) ?_
   refine ls (o_call (is := []) Tryz.call10 (c_pNew v V hV) rfl rfl (by repeat (first | exact Sub.d | (refine Sub.s ?_ ?_; (repeat (first | exact In.z | apply In.s))) | (refine Sub.suf ?_; (repeat (first | exact Suf.z | apply Suf.s))))) rfl) ?_
   refine le ?_; intro b25
   refine ls (op (p_move rfl) rfl) ?_
   refine ls (o_call (is := []) Tryz.call11 (c_rNew15 v V hV) rfl rfl (by repeat (first | exact Sub.d | (refine Sub.s ?_ ?_; (repeat (first | exact In.z | apply In.s))) | (refine Sub.suf ?_; (repeat (first | exact Suf.z | apply Suf.s))))) rfl) ?_
   refine le ?_; intro x27
   refine ls (o_alloc Tryz.zeroValue29 rfl rfl) ?_
   refine le ?_; intro b8
   refine ls (op (p_asg rfl) rfl) ?_
   refine ls (o_st rfl Tryz.sizeOf29 rfl rfl rfl rfl rfl (by repeat (first | exact At.z | apply At.s)) (by repeat (first | exact Put.d | apply Put.t | apply Put.s)) (by repeat (first | exact SetAt.z | apply SetAt.s))) ?_
   refine ln ?_
   refine nthen ?_
   refine cs ?_
   refine cs ?_
   refine cr ?_
   refine ls (op (p_move rfl) rfl) ?_
   refine ls (op (p_ptrnil Tryz.underlying26 rfl rfl) rfl) ?_
   refine ln ?_
   refine nthen ?_
   refine cc rfl (fun h => by cases h) (fun h => ?_)
   refine cskip ?_
   refine nthen ?_
   refine cs ?_
   refine cs ?_
   refine cmono (fun a w h => nilSl (α := List Prim) h) ?_
   refine cr ?_
   refine ls (op (p_move rfl) rfl) ?_
   refine ls (op (p_lenl rfl Tryz.underlying22) rfl) ?_
   refine ls (op (p_move rfl) rfl) ?_
   refine ln ?_
   refine nthen ?_
   refine cb ?_
   refine cl (ι := {q : Nat × Ring × (Option Addr × Nat) // q.1 ≤ rows.length ∧ RI V (rows.take q.1) q.2.1 ∧ (rows.take q.1 = [] → q.2.2.1 = none → q.2.2.2 = 0)}) (fun i => St M0 F0 w0 126 [(2, .int .i64 z), (7, .pointer (some ⟨b25, 0, none⟩)), (8, .pointer (some ⟨b8, 0, none⟩)), (30, .slice A rows.length c), (31, .int .i64 (rows.length : Int)), (32, .int .i64 (i.1.1 : Int))] [box b8 29 [.int .i64 (V : Int), .slice i.1.2.2.1 (rows.take i.1.1).length i.1.2.2.2], box b25 73 (i.1.2.1).cells] [ringA (i.1.2.1).rg, slA i.1.2.2.1 (rows.take i.1.1), slA A rows]) (fun i => rows.length - i.1.1) ⟨(0, Ring.zero V, (none, 0)), Nat.zero_le _, RI.zero V, fun _ _ => rfl⟩ (wk (is := [0, 0]) (by repeat (first | exact subσ.nil _ | refine subσ.cons rfl ?_)) rfl (by repeat (first | exact Sub.d | (refine Sub.s ?_ ?_; (repeat (first | exact In.z | apply In.s))) | (refine Sub.suf ?_; (repeat (first | exact Suf.z | apply Suf.s)))))) ?_
   rintro ⟨⟨k, r, ⟨A2, c2⟩⟩, hk, hI, h02⟩
   refine cmono (S' := St M0 F0 w0 126 [(2, .int .i64 z), (7, .pointer (some ⟨b25, 0, none⟩)), (8, .pointer (some ⟨b8, 0, none⟩)), (30, .slice A rows.length c), (31, .int .i64 (rows.length : Int)), (32, .int .i64 (k : Int))] [box b8 29 [.int .i64 (V : Int), .slice A2 (rows.take k).length c2], box b25 73 (r).cells] [ringA (r).rg, slA A2 (rows.take k), slA A rows]) (fun _ _ h => h) ?_
   refine cs ?_
   refine cr ?_
   refine ls (op (p_icmp rfl rfl rfl) rfl) ?_
   refine ln ?_
   refine nthen ?_
   refine cs ?_
   refine cc rfl ?_ ?_
   ·
    intro h33
    dsimp only at hk hI h02
    try simp only [decide_eq_true_eq, decide_eq_false_iff_not, Bool.not_eq_true', Bool.not_eq_false', Int.not_lt, Int.not_le, ge_iff_le, Bool.not_true, Bool.not_false] at h33
    have hk1 : k < rows.length := by omega
    have htk : (rows.take k).length = k := by rw [List.length_take]; omega
    have htk1 : (rows.take (k + 1)).length = k + 1 := by rw [List.length_take]; omega
    have hRk := hR _ (List.getElem_mem hk1)
    refine cskip ?_
    refine nthen ?_
    refine cs ?_
    refine cb ?_
    refine cs ?_
    refine elC (by repeat (first | exact At.z | apply At.s)) k (List.getElem?_eq_getElem (l := rows) hk1) ?_; rintro zbp zop zyp hAp
    refine nilP (y := zyp) (by repeat (first | exact At.z | apply At.s)) (fun hnl => ?_)
    refine cr ?_
    refine ls (op (p_ia k hAp hk1 rfl Tryz.underlying22 Tryz.sizeOf31 rfl rfl) rfl) ?_
    refine ls (o_ldi Tryz.isAgg31 rfl (by repeat (first | exact At.z | apply At.s)) 0 rfl (by repeat (first | exact Cut.d | apply Cut.t | apply Cut.s)) rfl) ?_
    refine ls (op (p_asg rfl) rfl) ?_
    refine ln ?_
    refine nthen ?_
    refine cs ?_
    refine cr ?_
    refine ls (o_ldw Tryz.isAgg29 Tryz.sizeOf29 rfl (by repeat (first | exact At.z | apply At.s)) (by rfl) rfl) ?_
    refine ls (op (p_move rfl) rfl) ?_
    refine ls (o_call (is := []) Tryz.call12 (c_rAdd15 V (rows.take k) A2 c2 (by omega) (by omega) h02 rows[k] zyp.1 zyp.2 hnl (rows.take (k + 1)) (List.take_succ_eq_append_getElem hk1)) rfl rfl (by repeat (first | exact Sub.d | (refine Sub.s ?_ ?_; (repeat (first | exact In.z | apply In.s))) | (refine Sub.suf ?_; (repeat (first | exact Suf.z | apply Suf.s))))) rfl) ?_
    refine le ?_; rintro ⟨⟨A5, c5⟩, hle⟩
    refine ls (o_st rfl Tryz.sizeOf29 rfl rfl rfl rfl rfl (by repeat (first | exact At.z | apply At.s)) (by repeat (first | exact Put.d | apply Put.t | apply Put.s)) (by repeat (first | exact SetAt.z | apply SetAt.s))) ?_
    refine ln ?_
    refine nthen ?_
    refine cs ?_
    refine cdB [2, 3, 5, 9, 11, 16, 18] [(4, b8, 0, _), (10, b8, 0, _), (17, b8, 0, _)] TryzX.mixed (by kernel_rfl) (by kernel_rfl) (TOk.t (isBoxS (by repeat (first | exact At.z | apply At.s)) (k := 2) (by repeat (first | exact Cut.d | apply Cut.t | apply Cut.s))) (TOk.t (isBoxS (by repeat (first | exact At.z | apply At.s)) (k := 2) (by repeat (first | exact Cut.d | apply Cut.t | apply Cut.s))) (TOk.t (isBoxS (by repeat (first | exact At.z | apply At.s)) (k := 2) (by repeat (first | exact Cut.d | apply Cut.t | apply Cut.s))) TOk.d))) ?_
    refine tkB 0 rfl (by kernel_rfl) (fun _ _ _ h => h) gnone (TTany _) (p_move rfl) rfl ?_
    refine tkB 1 rfl (by kernel_rfl) (fun _ _ _ h => h) gnone (TTany _) (p_move rfl) rfl ?_
    refine tkB 4 rfl (by kernel_rfl) (fun _ _ _ h => h) gnone (TTat (List.Mem.head _)) (p_lda Tryz.isAgg29 Tryz.sizeOf29 rfl rfl) rfl ?_
    refine dfB 2 (by kernel_rfl) ?_
    refine doRB rfl (o_call (is := []) Tryz.call14 (c_lNew rows[k] zyp.1 zyp.2 hRk.1) rfl rfl (by repeat (first | exact Sub.d | (refine Sub.s ?_ ?_; (repeat (first | exact In.z | apply In.s))) | (refine Sub.suf ?_; (repeat (first | exact Suf.z | apply Suf.s))))) rfl) (TOk.t (isBoxE fun _ => isBoxS (by repeat (first | exact At.z | apply At.s)) (k := 2) (by repeat (first | exact Cut.d | apply Cut.t | apply Cut.s))) (TOk.t (isBoxE fun _ => isBoxS (by repeat (first | exact At.z | apply At.s)) (k := 2) (by repeat (first | exact Cut.d | apply Cut.t | apply Cut.s))) (TOk.t (isBoxE fun _ => isBoxS (by repeat (first | exact At.z | apply At.s)) (k := 2) (by repeat (first | exact Cut.d | apply Cut.t | apply Cut.s))) TOk.d))) ?_
    refine eaB ?_; rintro ⟨A3, c3⟩
    refine dfB 3 (by kernel_rfl) ?_
    refine doRB rfl (o_call (is := [1]) Tryz.call13 (c_pAdd b25 V (rows.take k) r hI (by omega) rows[k] A3 c3 hRk.1 hRk.2) rfl rfl (by repeat (first | exact Sub.d | (refine Sub.s ?_ ?_; (repeat (first | exact In.z | apply In.s))) | (refine Sub.suf ?_; (repeat (first | exact Suf.z | apply Suf.s))))) rfl) (TOk.t (isBoxE fun _ => isBoxS (by repeat (first | exact At.z | apply At.s)) (k := 2) (by repeat (first | exact Cut.d | apply Cut.t | apply Cut.s))) (TOk.t (isBoxE fun _ => isBoxS (by repeat (first | exact At.z | apply At.s)) (k := 2) (by repeat (first | exact Cut.d | apply Cut.t | apply Cut.s))) (TOk.t (isBoxE fun _ => isBoxS (by repeat (first | exact At.z | apply At.s)) (k := 2) (by repeat (first | exact Cut.d | apply Cut.t | apply Cut.s))) TOk.d))) ?_
    refine eaB ?_; rintro ⟨A4, c4⟩
    have hI2 := hI.add (A := A4) (c := c4) hRk.1 hRk.2
    rw [← List.take_succ_eq_append_getElem hk1] at hI2
    refine dfB 5 (by kernel_rfl) ?_
    refine doRB rfl (o_call (is := []) Tryz.call15 (c_rVer15 V (rows.take (k + 1)) A5 c5 (by omega)) rfl rfl (by repeat (first | exact Sub.d | (refine Sub.s ?_ ?_; (repeat (first | exact In.z | apply In.s))) | (refine Sub.suf ?_; (repeat (first | exact Suf.z | apply Suf.s))))) rfl) (TOk.xP 5 [] (by kernel_rfl) (TOk.t (isBoxE fun _ => isBoxS (by repeat (first | exact At.z | apply At.s)) (k := 2) (by repeat (first | exact Cut.d | apply Cut.t | apply Cut.s))) (TOk.t (isBoxE fun _ => isBoxS (by repeat (first | exact At.z | apply At.s)) (k := 2) (by repeat (first | exact Cut.d | apply Cut.t | apply Cut.s))) TOk.d))) ?_
    refine eaB ?_; intro x44
    refine tkB 6 rfl (by kernel_rfl) (fun _ _ _ h => h) gnone (TTany _) (p_icmp rfl rfl rfl) rfl ?_
    refine fixB (congrArg Value.bool (show (!decide (((V + (rows.take k).length + 1 : Nat) : Int) = ((V + (rows.take (k + 1)).length : Nat) : Int))) = false by rw [Bool.not_eq_false', decide_eq_true_eq, htk, htk1]; omega)) ?_
    refine tkB 7 rfl (by kernel_rfl) (fun _ _ _ h => h) gnone (TTany _) (p_move rfl) rfl ?_
    refine tkB 8 rfl (by kernel_rfl) (fun _ _ _ h => h) (gyes rfl rfl rfl rfl) (TTany _) (p_move rfl) rfl ?_
    refine tkB 10 rfl (by kernel_rfl) (fun _ _ _ h => h) (gyes rfl rfl rfl rfl) (TTat (List.Mem.tail _ (List.Mem.head _))) (p_lda Tryz.isAgg29 Tryz.sizeOf29 rfl rfl) rfl ?_
    refine dfB 9 (by kernel_rfl) ?_
    refine doGB rfl rfl rfl rfl rfl (o_call (is := [0]) Tryz.call16 (c_pVersion b25 (r.add ((V + (rows.take k).length + 1) % 64) (rows[k], A4, c4))) rfl rfl (by repeat (first | exact Sub.d | (refine Sub.s ?_ ?_; (repeat (first | exact In.z | apply In.s))) | (refine Sub.suf ?_; (repeat (first | exact Suf.z | apply Suf.s))))) rfl) (TOk.xP 5 [] (by kernel_rfl) (TOk.t (isBoxE fun _ => isBoxS (by repeat (first | exact At.z | apply At.s)) (k := 2) (by repeat (first | exact Cut.d | apply Cut.t | apply Cut.s))) (TOk.t (isBoxE fun _ => isBoxS (by repeat (first | exact At.z | apply At.s)) (k := 2) (by repeat (first | exact Cut.d | apply Cut.t | apply Cut.s))) TOk.d))) ?_
    refine eaB ?_; intro x48
    refine dfB 11 (by kernel_rfl) ?_
    refine doGB rfl rfl rfl rfl rfl (o_call (is := []) Tryz.call15 (c_rVer15 V (rows.take (k + 1)) A5 c5 (by omega)) rfl rfl (by repeat (first | exact Sub.d | (refine Sub.s ?_ ?_; (repeat (first | exact In.z | apply In.s))) | (refine Sub.suf ?_; (repeat (first | exact Suf.z | apply Suf.s))))) rfl) (TOk.xP 5 [] (by kernel_rfl) (TOk.xP 11 [] (by kernel_rfl) (TOk.t (isBoxE fun _ => isBoxS (by repeat (first | exact At.z | apply At.s)) (k := 2) (by repeat (first | exact Cut.d | apply Cut.t | apply Cut.s))) TOk.d))) ?_
    refine eaB ?_; intro x50
    refine tkB 12 rfl (by kernel_rfl) (fun _ _ _ h => h) (gyes rfl rfl rfl rfl) (TTany _) (p_icmp rfl rfl rfl) rfl ?_
    refine fixB (congrArg Value.bool (show (!decide (Ring.ver (r.add ((V + (rows.take k).length + 1) % 64) (rows[k], A4, c4)) = ((V + (rows.take (k + 1)).length : Nat) : Int))) = false by rw [hI2.ver]; simp)) ?_
    refine tkB 13 rfl (by kernel_rfl) (fun _ _ _ h => h) gnone (TTany _) (p_pickf rfl rfl) rfl ?_
    refine tkB 14 rfl (by kernel_rfl) (fun _ _ _ h => h) gnone (TTany _) (p_move rfl) rfl ?_
    refine tkB 15 rfl (by kernel_rfl) (fun _ _ _ h => h) (gyes rfl rfl rfl rfl) (TTany _) (p_move rfl) rfl ?_
    refine tkB 17 rfl (by kernel_rfl) (fun _ _ _ h => h) (gyes rfl rfl rfl rfl) (TTat (List.Mem.tail _ (List.Mem.tail _ (List.Mem.head _)))) (p_lda Tryz.isAgg29 Tryz.sizeOf29 rfl rfl) rfl ?_
    refine dfB 16 (by kernel_rfl) ?_
    refine doGB rfl rfl rfl rfl rfl (o_call (is := [0]) Tryz.call17 (c_pFirst b25 V (rows.take (k + 1)) (r.add ((V + (rows.take k).length + 1) % 64) (rows[k], A4, c4)) hI2 (by omega)) rfl rfl (by repeat (first | exact Sub.d | (refine Sub.s ?_ ?_; (repeat (first | exact In.z | apply In.s))) | (refine Sub.suf ?_; (repeat (first | exact Suf.z | apply Suf.s))))) rfl) (TOk.xP 5 [] (by kernel_rfl) (TOk.xP 11 [] (by kernel_rfl) (TOk.t (isBoxE fun _ => isBoxS (by repeat (first | exact At.z | apply At.s)) (k := 2) (by repeat (first | exact Cut.d | apply Cut.t | apply Cut.s))) TOk.d))) ?_
    refine eaB ?_; intro x55
    refine dfB 18 (by kernel_rfl) ?_
    refine doGB rfl rfl rfl rfl rfl (o_call (is := []) Tryz.call18 (c_rFst15 V (rows.take (k + 1)) A5 c5 (by omega)) rfl rfl (by repeat (first | exact Sub.d | (refine Sub.s ?_ ?_; (repeat (first | exact In.z | apply In.s))) | (refine Sub.suf ?_; (repeat (first | exact Suf.z | apply Suf.s))))) rfl) (TOk.xP 5 [] (by kernel_rfl) (TOk.xP 11 [] (by kernel_rfl) (TOk.xP 18 [] (by kernel_rfl) TOk.d))) ?_
    refine eaB ?_; intro x57
    refine tkB 19 rfl (by kernel_rfl) (fun _ _ _ h => h) (gyes rfl rfl rfl rfl) (TTany _) (p_icmp rfl rfl rfl) rfl ?_
    refine fixB (congrArg Value.bool (show (!decide (((least V (rows.take (k + 1)).length : Nat) : Int) = ((least V (rows.take (k + 1)).length : Nat) : Int))) = false by simp)) ?_
    refine tkB 20 rfl (by kernel_rfl) (fun _ _ _ h => h) gnone (TTany _) (p_pickf rfl rfl) rfl ?_
    refine dnB (by kernel_rfl) ?_
    refine nthen ?_
    refine cc rfl (fun h => by cases h) (fun h => ?_)
    refine cskip ?_
    refine nblock ?_
    refine nthen ?_
    refine cr ?_
    refine ls (op (p_add rfl rfl (by omega)) rfl) ?_
    refine ls (op (p_move rfl) rfl) ?_
    refine ln ?_
    refine nnext ⟨(k + 1, (r.add ((V + (rows.take k).length + 1) % 64) (rows[k], A4, c4)), (A5, c5)), hk1, hI2, fun h => by have := congrArg List.length h; rw [List.length_take, List.length_nil] at this; omega⟩ (by dsimp only; omega) (wk (is := [1, 0]) (by repeat (first | exact subσ.nil _ | refine subσ.cons rfl ?_)) rfl (by repeat (first | exact Sub.d | (refine Sub.s ?_ ?_; (repeat (first | exact In.z | apply In.s))) | (refine Sub.suf ?_; (repeat (first | exact Suf.z | apply Suf.s))))))
   ·
    intro h33
    dsimp only at hk hI h02
    try simp only [decide_eq_true_eq, decide_eq_false_iff_not, Bool.not_eq_true', Bool.not_eq_false', Int.not_lt, Int.not_le, ge_iff_le, Bool.not_true, Bool.not_false] at h33
    obtain rfl : k = rows.length := by omega
    rw [List.take_length] at hI h02
    refine cexit ?_
    refine xthen ?_
    refine xthen ?_
    refine xblock ?_
    refine nthen ?_
    refine cs ?_
    refine cs ?_
    rw [List.take_length]
    refine cdB [2, 4, 7, 9, 11] [(1, b8, 0, _), (3, b8, 0, _), (6, b8, 0, _), (8, b8, 0, _)] TryzX.mixed (by kernel_rfl) (by kernel_rfl) (TOk.t (isBoxS (by repeat (first | exact At.z | apply At.s)) (k := 2) (by repeat (first | exact Cut.d | apply Cut.t | apply Cut.s))) (TOk.t (isBoxS (by repeat (first | exact At.z | apply At.s)) (k := 2) (by repeat (first | exact Cut.d | apply Cut.t | apply Cut.s))) (TOk.t (isBoxS (by repeat (first | exact At.z | apply At.s)) (k := 2) (by repeat (first | exact Cut.d | apply Cut.t | apply Cut.s))) (TOk.t (isBoxS (by repeat (first | exact At.z | apply At.s)) (k := 2) (by repeat (first | exact Cut.d | apply Cut.t | apply Cut.s))) TOk.d)))) ?_
    refine tkB 0 rfl (by kernel_rfl) (fun _ _ _ h => h) gnone (TTany _) (p_move rfl) rfl ?_
    refine tkB 1 rfl (by kernel_rfl) (fun _ _ _ h => h) gnone (TTat (List.Mem.head _)) (p_lda Tryz.isAgg29 Tryz.sizeOf29 rfl rfl) rfl ?_
    refine tkB 3 rfl (by kernel_rfl) (fun _ _ _ h => h) gnone (TTat (List.Mem.tail _ (List.Mem.head _))) (p_lda Tryz.isAgg29 Tryz.sizeOf29 rfl rfl) rfl ?_
    refine tkB 6 rfl (by kernel_rfl) (fun _ _ _ h => h) gnone (TTat (List.Mem.tail _ (List.Mem.tail _ (List.Mem.head _)))) (p_lda Tryz.isAgg29 Tryz.sizeOf29 rfl rfl) rfl ?_
    refine tkB 8 rfl (by kernel_rfl) (fun _ _ _ h => h) gnone (TTat (List.Mem.tail _ (List.Mem.tail _ (List.Mem.tail _ (List.Mem.head _))))) (p_lda Tryz.isAgg29 Tryz.sizeOf29 rfl rfl) rfl ?_
    refine tkB 13 rfl (by kernel_rfl) (fun _ _ _ h => h) gnone (TTany _) (p_move rfl) rfl ?_
    refine dfB 2 (by kernel_rfl) ?_
    refine doRB rfl (o_call (is := []) Tryz.call18 (c_rFst15 V rows A2 c2 hVn) rfl rfl (by repeat (first | exact Sub.d | (refine Sub.s ?_ ?_; (repeat (first | exact In.z | apply In.s))) | (refine Sub.suf ?_; (repeat (first | exact Suf.z | apply Suf.s))))) rfl) (TOk.xP 2 [] (by kernel_rfl) (TOk.t (isBoxE fun _ => isBoxS (by repeat (first | exact At.z | apply At.s)) (k := 2) (by repeat (first | exact Cut.d | apply Cut.t | apply Cut.s))) (TOk.t (isBoxE fun _ => isBoxS (by repeat (first | exact At.z | apply At.s)) (k := 2) (by repeat (first | exact Cut.d | apply Cut.t | apply Cut.s))) (TOk.t (isBoxE fun _ => isBoxS (by repeat (first | exact At.z | apply At.s)) (k := 2) (by repeat (first | exact Cut.d | apply Cut.t | apply Cut.s))) TOk.d)))) ?_
    refine eaB ?_; intro x63
    refine dfB 4 (by kernel_rfl) ?_
    refine doRB rfl (o_call (is := []) Tryz.call18 (c_rFst15 V rows A2 c2 hVn) rfl rfl (by repeat (first | exact Sub.d | (refine Sub.s ?_ ?_; (repeat (first | exact In.z | apply In.s))) | (refine Sub.suf ?_; (repeat (first | exact Suf.z | apply Suf.s))))) rfl) (TOk.xP 2 [] (by kernel_rfl) (TOk.xP 4 [] (by kernel_rfl) (TOk.t (isBoxE fun _ => isBoxS (by repeat (first | exact At.z | apply At.s)) (k := 2) (by repeat (first | exact Cut.d | apply Cut.t | apply Cut.s))) (TOk.t (isBoxE fun _ => isBoxS (by repeat (first | exact At.z | apply At.s)) (k := 2) (by repeat (first | exact Cut.d | apply Cut.t | apply Cut.s))) TOk.d)))) ?_
    refine eaB ?_; intro x65
    refine tkB 5 rfl (by kernel_rfl) (fun _ _ _ h => h) gnone (TTany _) (p_add rfl rfl (by have h : least V rows.length ≤ V + rows.length := (by unfold least; omega); omega)) rfl ?_
    refine dfB 7 (by kernel_rfl) ?_
    refine doRB rfl (o_call (is := []) Tryz.call15 (c_rVer15 V rows A2 c2 hVn) rfl rfl (by repeat (first | exact Sub.d | (refine Sub.s ?_ ?_; (repeat (first | exact In.z | apply In.s))) | (refine Sub.suf ?_; (repeat (first | exact Suf.z | apply Suf.s))))) rfl) (TOk.xP 2 [] (by kernel_rfl) (TOk.xP 4 [] (by kernel_rfl) (TOk.xP 7 [] (by kernel_rfl) (TOk.t (isBoxE fun _ => isBoxS (by repeat (first | exact At.z | apply At.s)) (k := 2) (by repeat (first | exact Cut.d | apply Cut.t | apply Cut.s))) TOk.d)))) ?_
    refine eaB ?_; intro x68
    refine dfB 9 (by kernel_rfl) ?_
    refine doRB rfl (o_call (is := []) Tryz.call15 (c_rVer15 V rows A2 c2 hVn) rfl rfl (by repeat (first | exact Sub.d | (refine Sub.s ?_ ?_; (repeat (first | exact In.z | apply In.s))) | (refine Sub.suf ?_; (repeat (first | exact Suf.z | apply Suf.s))))) rfl) (TOk.xP 2 [] (by kernel_rfl) (TOk.xP 4 [] (by kernel_rfl) (TOk.xP 7 [] (by kernel_rfl) (TOk.xP 9 [] (by kernel_rfl) TOk.d)))) ?_
    refine eaB ?_; intro x70
    refine tkB 10 rfl (by kernel_rfl) (fun _ _ _ h => h) gnone (TTany _) (p_add rfl rfl (by omega)) rfl ?_
    refine dfB 11 (by kernel_rfl) ?_
    refine doRB rfl (o_bsl ([z, ((least V rows.length : Nat) : Int), ((least V rows.length : Nat) : Int) + 1, ((V + rows.length : Nat) : Int), ((V + rows.length : Nat) : Int) + 1] : List Int) Tryz.underlying38 Tryz.sizeOf3 Tryz.zeroValue3 rfl (Enum.t (Enum.t (Enum.t (Enum.t (Enum.t Enum.d))))) (RV.t () rfl Sub.d (RV.t () rfl Sub.d (RV.t () rfl Sub.d (RV.t () rfl Sub.d (RV.t () rfl Sub.d RV.d))))) rfl (by decide) (by decide) rfl) (TOk.xP 2 [] (by kernel_rfl) (TOk.xP 4 [] (by kernel_rfl) (TOk.xP 7 [] (by kernel_rfl) (TOk.xP 9 [] (by kernel_rfl) TOk.d)))) ?_
    refine eaB ?_; intro b72
    refine amonoB (fun a w h => Go.Sx.freeze (i := 0) rfl h) ?_
    refine tkB 12 rfl (by kernel_rfl) (fun _ _ _ h => h) gnone (TTany _) (p_lenl rfl Tryz.underlying38) rfl ?_
    refine dnB (by kernel_rfl) ?_
    refine nthen ?_
    refine cb ?_
    refine cl (ι := {j : Nat // j ≤ 5}) (fun i => St M0 F0 w0 126 [(7, .pointer (some ⟨b25, 0, none⟩)), (8, .pointer (some ⟨b8, 0, none⟩)), (72, .slice (some ⟨b72, 0, none⟩) 5 5), (73, .int .i64 5), (74, .int .i64 (i.1 : Int))] [box b8 29 [.int .i64 (V : Int), .slice A2 rows.length c2], box b25 73 r.cells] [slA (some ⟨b72, 0, none⟩) ([z, ((least V rows.length : Nat) : Int), ((least V rows.length : Nat) : Int) + 1, ((V + rows.length : Nat) : Int), ((V + rows.length : Nat) : Int) + 1] : List Int), ringA r.rg, slA A2 rows]) (fun i => 5 - i.1) ⟨0, Nat.zero_le _⟩ (wk (is := [0, 0]) (by repeat (first | exact subσ.nil _ | refine subσ.cons rfl ?_)) rfl (by repeat (first | exact Sub.d | (refine Sub.s ?_ ?_; (repeat (first | exact In.z | apply In.s))) | (refine Sub.suf ?_; (repeat (first | exact Suf.z | apply Suf.s)))))) ?_
    rintro ⟨j, hj⟩
    refine cmono (S' := St M0 F0 w0 126 [(7, .pointer (some ⟨b25, 0, none⟩)), (8, .pointer (some ⟨b8, 0, none⟩)), (72, .slice (some ⟨b72, 0, none⟩) 5 5), (73, .int .i64 5), (74, .int .i64 (j : Int))] [box b8 29 [.int .i64 (V : Int), .slice A2 rows.length c2], box b25 73 r.cells] [slA (some ⟨b72, 0, none⟩) ([z, ((least V rows.length : Nat) : Int), ((least V rows.length : Nat) : Int) + 1, ((V + rows.length : Nat) : Int), ((V + rows.length : Nat) : Int) + 1] : List Int), ringA r.rg, slA A2 rows]) (fun _ _ h => h) ?_
    refine cs ?_
    refine cr ?_
    refine ls (op (p_icmp rfl rfl rfl) rfl) ?_
    refine ln ?_
    refine nthen ?_
    refine cs ?_
    refine cc rfl ?_ ?_
    ·
     intro h75
     try simp only [decide_eq_true_eq, decide_eq_false_iff_not, Bool.not_eq_true', Bool.not_eq_false', Int.not_lt, Int.not_le, ge_iff_le, Bool.not_true, Bool.not_false] at h75
     have hj1 : j < ([z, ((least V rows.length : Nat) : Int), ((least V rows.length : Nat) : Int) + 1, ((V + rows.length : Nat) : Int), ((V + rows.length : Nat) : Int) + 1] : List Int).length := by simp only [List.length_cons, List.length_nil]; omega
     obtain ⟨u, hu⟩ : ∃ u, ([z, ((least V rows.length : Nat) : Int), ((least V rows.length : Nat) : Int) + 1, ((V + rows.length : Nat) : Int), ((V + rows.length : Nat) : Int) + 1] : List Int)[j] = u := ⟨_, rfl⟩
     refine cskip ?_
     refine nthen ?_
     refine cs ?_
     refine cb ?_
     refine cs ?_
     refine elC (by repeat (first | exact At.z | apply At.s)) j ((by rw [← hu]; exact List.getElem?_eq_getElem hj1 : ([z, ((least V rows.length : Nat) : Int), ((least V rows.length : Nat) : Int) + 1, ((V + rows.length : Nat) : Int), ((V + rows.length : Nat) : Int) + 1] : List Int)[j]? = some u)) ?_; rintro zbp zop zyp hAp
     refine cr ?_
     refine ls (op (p_ia j hAp hj1 rfl Tryz.underlying38 Tryz.sizeOf3 rfl rfl) rfl) ?_
     refine ls (o_ldi Tryz.isAgg3 rfl (by repeat (first | exact At.z | apply At.s)) 0 rfl (by repeat (first | exact Cut.d | apply Cut.t | apply Cut.s)) rfl) ?_
     refine ls (op (p_asg rfl) rfl) ?_
     refine ln ?_
     refine nthen ?_
     refine cs ?_
     refine cr ?_
     refine ls (op (p_move rfl) rfl) ?_
     refine ls (op (p_move rfl) rfl) ?_
     refine ls (o_call (is := [1]) Tryz.call19 (c_pAt b25 V rows r hI hVn u) rfl rfl (by repeat (first | exact Sub.d | (refine Sub.s ?_ ?_; (repeat (first | exact In.z | apply In.s))) | (refine Sub.suf ?_; (repeat (first | exact Suf.z | apply Suf.s))))) rfl) ?_
     refine le ?_; rintro ⟨⟨⟨l1, e1⟩, ⟨A6, c6⟩⟩, hr⟩
     refine ls (op (p_move rfl) rfl) ?_
     refine ls (op (p_ext rfl (by repeat (first | exact At.z | apply At.s))) rfl) ?_
     refine ls (op (p_ext rfl (by repeat (first | exact At.z | apply At.s))) rfl) ?_
     refine ls (op (p_asg rfl) rfl) ?_
     refine ls (op (p_asg rfl) rfl) ?_
     refine ln ?_
     refine nthen ?_
     refine cs ?_
     refine cr ?_
     refine ls (op (p_move rfl) rfl) ?_
     refine ls (o_ldw Tryz.isAgg29 Tryz.sizeOf29 rfl (by repeat (first | exact At.z | apply At.s)) (by rfl) rfl) ?_
     refine ls (o_call (is := []) Tryz.call18 (c_rFst15 V rows A2 c2 hVn) rfl rfl (by repeat (first | exact Sub.d | (refine Sub.s ?_ ?_; (repeat (first | exact In.z | apply In.s))) | (refine Sub.suf ?_; (repeat (first | exact Suf.z | apply Suf.s))))) rfl) ?_
     refine le ?_; intro x86
     refine ls (op (p_icmp rfl rfl rfl) rfl) ?_
     refine ls (op (p_move rfl) rfl) ?_
     refine andX 5 88 93 rfl (subσ.cons (t := 7) rfl (subσ.cons (t := 8) rfl (subσ.cons (t := 72) rfl (subσ.cons (t := 73) rfl (subσ.cons (t := 74) rfl (subσ.cons (t := 75) rfl (subσ.cons (t := 76) rfl (subσ.cons (t := 77) rfl (subσ.cons (t := 12) rfl (subσ.cons (t := 79) rfl (subσ.cons (t := 80) rfl (subσ.cons (t := 81) rfl (subσ.cons (t := 78) rfl (subσ.cons (t := 82) rfl (subσ.cons (t := 83) rfl (subσ.cons (t := 13) rfl (subσ.cons (t := 14) rfl (subσ.nil _)))))))))))))))))) ?_ ?_
     ·
      intro h88
      refine lskip rfl rfl rfl rfl rfl ?_
      refine lskip rfl rfl rfl rfl rfl ?_
      refine lskip rfl rfl rfl rfl rfl ?_
      refine lskip rfl rfl rfl rfl rfl ?_
      refine ls (op (p_pickf rfl rfl) rfl) ?_
      refine ln (nmid (wk0 (by repeat (first | exact subσ.nil _ | refine subσ.cons rfl ?_)) (by repeat (first | exact Sub.d | (refine Sub.s ?_ ?_; (repeat (first | exact In.z | apply In.s))) | (refine Sub.suf ?_; (repeat (first | exact Suf.z | apply Suf.s)))))))
     apply exI
     ·
      intro h88
      refine lwant rfl rfl rfl rfl (op (p_move rfl) rfl) ?_
      refine lwant rfl rfl rfl rfl (o_ldw Tryz.isAgg29 Tryz.sizeOf29 rfl (by repeat (first | exact At.z | apply At.s)) (by rfl) rfl) ?_
      refine lwant rfl rfl rfl rfl (o_call (is := []) Tryz.call15 (c_rVer15 V rows A2 c2 hVn) rfl rfl (by repeat (first | exact Sub.d | (refine Sub.s ?_ ?_; (repeat (first | exact In.z | apply In.s))) | (refine Sub.suf ?_; (repeat (first | exact Suf.z | apply Suf.s))))) rfl) ?_
      refine le ?_; intro x91
      refine lwant rfl rfl rfl rfl (op (p_icmp rfl rfl rfl) rfl) ?_
      refine ls (op (p_pickt rfl rfl) rfl) ?_
      refine ln (nmid (wk0 (by repeat (first | exact subσ.nil _ | refine subσ.cons rfl ?_)) (by repeat (first | exact Sub.d | (refine Sub.s ?_ ?_; (repeat (first | exact In.z | apply In.s))) | (refine Sub.suf ?_; (repeat (first | exact Suf.z | apply Suf.s)))))))
     ·
      refine ls (op (p_asg rfl) rfl) ?_
      refine ln ?_
      refine nthen ?_
      refine cs ?_
      rcases atP_case hr.symm with ⟨hw, rfl, rfl⟩ | ⟨hw, rfl, i, hi, rfl, rfl⟩ <;> rw [hw]
      ·
       refine cdB [] [] TryzX.mixed (by kernel_rfl) (by kernel_rfl) TOk.d ?_
       refine tkB 0 rfl (by kernel_rfl) (fun _ _ _ h => h) gnone (TTany _) (p_move rfl) rfl ?_
       refine tkB 1 rfl (by kernel_rfl) (fun _ _ _ h => h) gnone (TTany _) (p_move rfl) rfl ?_
       refine tkB 2 rfl (by kernel_rfl) (fun _ _ _ h => h) gnone (TTany _) (p_bne Tryz.underlying4 rfl rfl) rfl ?_
       refine tkB 3 rfl (by kernel_rfl) (fun _ _ _ h => h) gnone (TTany _) (p_move rfl) rfl ?_
       refine tkB 4 rfl (by kernel_rfl) (fun _ _ _ h => h) (gyes rfl rfl rfl rfl) (TTany _) (p_move rfl) rfl ?_
       refine tkB 5 rfl (by kernel_rfl) (fun _ _ _ h => h) (gyes rfl rfl rfl rfl) (TTany _) (p_move rfl) rfl ?_
       refine tksB 6 rfl (by kernel_rfl) (fun _ _ _ h => h) rfl rfl rfl rfl rfl ?_
       refine tksB 7 rfl (by kernel_rfl) (fun _ _ _ h => h) rfl rfl rfl rfl rfl ?_
       refine tksB 8 rfl (by kernel_rfl) (fun _ _ _ h => h) rfl rfl rfl rfl rfl ?_
       refine tksB 9 rfl (by kernel_rfl) (fun _ _ _ h => h) rfl rfl rfl rfl rfl ?_
       refine tksB 10 rfl (by kernel_rfl) (fun _ _ _ h => h) rfl rfl rfl rfl rfl ?_
       refine tksB 11 rfl (by kernel_rfl) (fun _ _ _ h => h) rfl rfl rfl rfl rfl ?_
       refine tksB 12 rfl (by kernel_rfl) (fun _ _ _ h => h) rfl rfl rfl rfl rfl ?_
       refine tksB 13 rfl (by kernel_rfl) (fun _ _ _ h => h) rfl rfl rfl rfl rfl ?_
       refine tksB 14 rfl (by kernel_rfl) (fun _ _ _ h => h) rfl rfl rfl rfl rfl ?_
       refine tksB 15 rfl (by kernel_rfl) (fun _ _ _ h => h) rfl rfl rfl rfl rfl ?_
       refine tksB 16 rfl (by kernel_rfl) (fun _ _ _ h => h) rfl rfl rfl rfl rfl ?_
       refine tksB 17 rfl (by kernel_rfl) (fun _ _ _ h => h) rfl rfl rfl rfl rfl ?_
       refine tksB 18 rfl (by kernel_rfl) (fun _ _ _ h => h) rfl rfl rfl rfl rfl ?_
       refine tkB 19 rfl (by kernel_rfl) (fun _ _ _ h => h) (gyes rfl rfl rfl rfl) (TTany _) (p_pickf rfl rfl) rfl ?_
       refine tkB 20 rfl (by kernel_rfl) (fun _ _ _ h => h) gnone (TTany _) (p_pickf rfl rfl) rfl ?_
       refine tkB 21 rfl (by kernel_rfl) (fun _ _ _ h => h) gnone (TTany _) (p_move rfl) rfl ?_
       refine tkB 22 rfl (by kernel_rfl) (fun _ _ _ h => h) (gyes rfl rfl rfl rfl) (TTany _) (p_move rfl) rfl ?_
       refine tkB 23 rfl (by kernel_rfl) (fun _ _ _ h => h) (gyes rfl rfl rfl rfl) (TTany _) (p_not rfl) rfl ?_
       refine tkB 24 rfl (by kernel_rfl) (fun _ _ _ h => h) (gyes rfl rfl rfl rfl) (TTany _) (p_move rfl) rfl ?_
       refine tkB 25 rfl (by kernel_rfl) (fun _ _ _ h => h) (gyes rfl rfl rfl rfl) (TTany _) (p_move rfl) rfl ?_
       refine tkB 26 rfl (by kernel_rfl) (fun _ _ _ h => h) (gyes rfl rfl rfl rfl) (TTany _) (p_lenl rfl Tryz.underlying34) rfl ?_
       refine tkB 27 rfl (by kernel_rfl) (fun _ _ _ h => h) (gyes rfl rfl rfl rfl) (TTany _) (p_icmp rfl rfl rfl) rfl ?_
       refine tkB 28 rfl (by kernel_rfl) (fun _ _ _ h => h) (gyes rfl rfl rfl rfl) (TTany _) (p_pickt rfl rfl) rfl ?_
       refine tkB 29 rfl (by kernel_rfl) (fun _ _ _ h => h) gnone (TTany _) (p_pickf rfl rfl) rfl ?_
       refine dnB (by kernel_rfl) ?_
       refine nthen ?_
       refine cc rfl (fun h => by cases h) (fun h => ?_)
       refine cskip ?_
       refine nblock ?_
       refine nthen ?_
       refine cr ?_
       refine ls (op (p_add rfl rfl (by omega)) rfl) ?_
       refine ls (op (p_move rfl) rfl) ?_
       refine ln ?_
       refine nnext ⟨j + 1, by omega⟩ (by dsimp only; omega) (wk (is := [1, 0]) (by repeat (first | exact subσ.nil _ | refine subσ.cons rfl ?_)) rfl (by repeat (first | exact Sub.d | (refine Sub.s ?_ ?_; (repeat (first | exact In.z | apply In.s))) | (refine Sub.suf ?_; (repeat (first | exact Suf.z | apply Suf.s))))))
      ·
       refine elC (by repeat (first | exact At.z | apply At.s)) i (List.getElem?_eq_getElem (l := rows) hi) ?_; rintro zbq zoq zyq hAq
       have hRi := hR _ (List.getElem_mem hi)
       refine cdB [7, 17] [(9, b8, 1, _), (12, b8, 0, _), (16, zbq, zoq + i * Rp.size (List Prim), _)] TryzX.mixed (by kernel_rfl) (by kernel_rfl) (TOk.t (isBoxS (by repeat (first | exact At.z | apply At.s)) (k := 1) (by repeat (first | exact Cut.d | apply Cut.t | apply Cut.s))) (TOk.t (isBoxS (by repeat (first | exact At.z | apply At.s)) (k := 1) (by repeat (first | exact Cut.d | apply Cut.t | apply Cut.s))) (TOk.t (isInS (by repeat (first | exact At.z | apply At.s)) (k := 0) rfl (z := 1) (by repeat (first | exact Cut.d | apply Cut.t | apply Cut.s))) TOk.d))) ?_
       refine tkB 0 rfl (by kernel_rfl) (fun _ _ _ h => h) gnone (TTany _) (p_move rfl) rfl ?_
       refine tkB 1 rfl (by kernel_rfl) (fun _ _ _ h => h) gnone (TTany _) (p_move rfl) rfl ?_
       refine tkB 2 rfl (by kernel_rfl) (fun _ _ _ h => h) gnone (TTany _) (p_bne Tryz.underlying4 rfl rfl) rfl ?_
       refine tkB 3 rfl (by kernel_rfl) (fun _ _ _ h => h) gnone (TTany _) (p_move rfl) rfl ?_
       refine tkB 4 rfl (by kernel_rfl) (fun _ _ _ h => h) (gyes rfl rfl rfl rfl) (TTany _) (p_move rfl) rfl ?_
       refine tkB 5 rfl (by kernel_rfl) (fun _ _ _ h => h) (gyes rfl rfl rfl rfl) (TTany _) (p_move rfl) rfl ?_
       refine tkB 6 rfl (by kernel_rfl) (fun _ _ _ h => h) (gyes rfl rfl rfl rfl) (TTany _) (p_move rfl) rfl ?_
       refine tkB 8 rfl (by kernel_rfl) (fun _ _ _ h => h) (gyes rfl rfl rfl rfl) (TTany _) (p_fa fa29_1 rfl) rfl ?_
       refine tkB 9 rfl (by kernel_rfl) (fun _ _ _ h => h) (gyes rfl rfl rfl rfl) (TTat (List.Mem.head _)) (p_ld Tryz.isAgg22 rfl) rfl ?_
       refine tkB 10 rfl (by kernel_rfl) (fun _ _ _ h => h) (gyes rfl rfl rfl rfl) (TTany _) (p_move rfl) rfl ?_
       refine tkB 11 rfl (by kernel_rfl) (fun _ _ _ h => h) (gyes rfl rfl rfl rfl) (TTany _) (p_fa fa29_0 rfl) rfl ?_
       refine tkB 12 rfl (by kernel_rfl) (fun _ _ _ h => h) (gyes rfl rfl rfl rfl) (TTat (List.Mem.tail _ (List.Mem.head _))) (p_ld Tryz.isAgg3 rfl) rfl ?_
       refine tkB 13 rfl (by kernel_rfl) (fun _ _ _ h => h) (gyes rfl rfl rfl rfl) (TTany _) (p_sub rfl rfl (by omega)) rfl ?_
       refine tkB 14 rfl (by kernel_rfl) (fun _ _ _ h => h) (gyes rfl rfl rfl rfl) (TTany _) (p_sub rfl rfl (by omega)) rfl ?_
       refine tkB 15 rfl (by kernel_rfl) (fun _ _ _ h => h) (gyes rfl rfl rfl rfl) (TTany _) (p_ia i hAq hi (by omega) Tryz.underlying22 Tryz.sizeOf31 rfl rfl) rfl ?_
       refine tkB 16 rfl (by kernel_rfl) (fun _ _ _ h => h) (gyes rfl rfl rfl rfl) (TTat (List.Mem.tail _ (List.Mem.tail _ (List.Mem.head _)))) (p_ld Tryz.isAgg31 rfl) rfl ?_
       refine dfB 7 (by kernel_rfl) ?_
       refine doGB rfl rfl rfl rfl rfl (o_call (is := []) Tryz.call21 (c_lOld rows[i] A6 c6 hRi.1) rfl rfl (by repeat (first | exact Sub.d | (refine Sub.s ?_ ?_; (repeat (first | exact In.z | apply In.s))) | (refine Sub.suf ?_; (repeat (first | exact Suf.z | apply Suf.s))))) rfl) (TOk.t (isBoxE fun _ => isBoxS (by repeat (first | exact At.z | apply At.s)) (k := 1) (by repeat (first | exact Cut.d | apply Cut.t | apply Cut.s))) (TOk.t (isBoxE fun _ => isBoxS (by repeat (first | exact At.z | apply At.s)) (k := 1) (by repeat (first | exact Cut.d | apply Cut.t | apply Cut.s))) (TOk.t (isBoxE fun _ => isInS (by repeat (first | exact At.z | apply At.s)) (k := 0) rfl (z := 1) (by repeat (first | exact Cut.d | apply Cut.t | apply Cut.s))) TOk.d))) ?_
       refine eaB ?_; rintro ⟨A7, c7⟩
       refine dfB 17 (by kernel_rfl) ?_
       refine doGB rfl rfl rfl rfl rfl (o_call (is := []) Tryz.call20 (c_refAllP rows[i] rows[i] A7 zyq.1 c7 zyq.2 hRi.1 hRi.2) rfl rfl (by repeat (first | exact Sub.d | (refine Sub.s ?_ ?_; (repeat (first | exact In.z | apply In.s))) | (refine Sub.suf ?_; (repeat (first | exact Suf.z | apply Suf.s))))) rfl) (TOk.xP 17 [16, 15] (by kernel_rfl) (TOk.xP 17 [16, 15, 14, 13] (by kernel_rfl) (TOk.xP 17 [] (by kernel_rfl) TOk.d))) ?_
       refine eaB ?_; intro x111
       refine fixB (congrArg Value.bool (decide_eq_true rfl)) ?_
       refine tkB 18 rfl (by kernel_rfl) (fun _ _ _ h => h) (gyes rfl rfl rfl rfl) (TTany _) (p_not rfl) rfl ?_
       refine tkB 19 rfl (by kernel_rfl) (fun _ _ _ h => h) (gyes rfl rfl rfl rfl) (TTany _) (p_pickt rfl rfl) rfl ?_
       refine tkB 20 rfl (by kernel_rfl) (fun _ _ _ h => h) gnone (TTany _) (p_pickf rfl rfl) rfl ?_
       refine tkB 21 rfl (by kernel_rfl) (fun _ _ _ h => h) gnone (TTany _) (p_move rfl) rfl ?_
       refine tkB 22 rfl (by kernel_rfl) (fun _ _ _ h => h) (gyes rfl rfl rfl rfl) (TTany _) (p_move rfl) rfl ?_
       refine tkB 23 rfl (by kernel_rfl) (fun _ _ _ h => h) (gyes rfl rfl rfl rfl) (TTany _) (p_not rfl) rfl ?_
       refine tkB 24 rfl (by kernel_rfl) (fun _ _ _ h => h) (gyes rfl rfl rfl rfl) (TTany _) (p_move rfl) rfl ?_
       refine tksB 25 rfl (by kernel_rfl) (fun _ _ _ h => h) rfl rfl rfl rfl rfl ?_
       refine tksB 26 rfl (by kernel_rfl) (fun _ _ _ h => h) rfl rfl rfl rfl rfl ?_
       refine tksB 27 rfl (by kernel_rfl) (fun _ _ _ h => h) rfl rfl rfl rfl rfl ?_
       refine tkB 28 rfl (by kernel_rfl) (fun _ _ _ h => h) (gyes rfl rfl rfl rfl) (TTany _) (p_pickf rfl rfl) rfl ?_
       refine tkB 29 rfl (by kernel_rfl) (fun _ _ _ h => h) gnone (TTany _) (p_pickf rfl rfl) rfl ?_
       refine dnB (by kernel_rfl) ?_
       refine nthen ?_
       refine cc rfl (fun h => by cases h) (fun h => ?_)
       refine cskip ?_
       refine nblock ?_
       refine nthen ?_
       refine cr ?_
       refine ls (op (p_add rfl rfl (by omega)) rfl) ?_
       refine ls (op (p_move rfl) rfl) ?_
       refine ln ?_
       refine nnext ⟨j + 1, by omega⟩ (by dsimp only; omega) (wk (is := [1, 0]) (by repeat (first | exact subσ.nil _ | refine subσ.cons rfl ?_)) rfl (by repeat (first | exact Sub.d | (refine Sub.s ?_ ?_; (repeat (first | exact In.z | apply In.s))) | (refine Sub.suf ?_; (repeat (first | exact Suf.z | apply Suf.s))))))
    ·
     intro h75
     try simp only [decide_eq_true_eq, decide_eq_false_iff_not, Bool.not_eq_true', Bool.not_eq_false', Int.not_lt, Int.not_le, ge_iff_le, Bool.not_true, Bool.not_false] at h75
     refine cexit ?_
     refine xthen ?_
     refine xthen ?_
     refine xblock ?_
     refine nthen ?_
     refine cs ?_
     refine cr ?_
     refine ls (o_call (is := []) Tryz.call9 (c_alive15) rfl rfl (by repeat (first | exact Sub.d | (refine Sub.s ?_ ?_; (repeat (first | exact In.z | apply In.s))) | (refine Sub.suf ?_; (repeat (first | exact Suf.z | apply Suf.s))))) rfl) ?_
     refine le ?_; intro x125
     refine ls (op (p_asg rfl) rfl) ?_
     refine ln ?_
     refine nthen ?_
     refine cret ?_
     refine xret (fun _ _ h => h) ?_
     refine rret (is := []) () (Or.inl rfl) (Res.t rfl Res.d) (rfl) rfl (by repeat (first | exact Sub.d | (refine Sub.s ?_ ?_; (repeat (first | exact In.z | apply In.s))) | (refine Sub.suf ?_; (repeat (first | exact Suf.z | apply Suf.s)))))

end Go.Proofs.YtonmgdamojingaaGreatDoor.X

end
