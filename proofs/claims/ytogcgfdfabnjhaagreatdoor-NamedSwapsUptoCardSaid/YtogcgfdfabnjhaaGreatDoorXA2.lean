/- OWN WORK: a part of the proof of a law of the seat YtogcgfdfabnjhaaGreatDoor: the walk through functions of the program. -/
import Derived.Test.YtogcgfdfabnjhaaGreatDoorProg
import Derived.Test.YtogcgfdfabnjhaaGreatDoorXA1
import Derived.Test.YtogcgfdfabnjhaaGreatDoorXDef
import Derived.Test.YtogcgfdfabnjhaaGreatDoorXSx2
section
set_option linter.unusedVariables false
set_option linter.unusedSimpArgs false
namespace Go.Proofs.YtogcgfdfabnjhaaGreatDoor.X
open Go Go.RowKit Go.Proofs Go.Sx
attribute [local irreducible] slA isA box row

theorem zero_fit : Prim.zero.fit := ⟨by decide, by decide, by decide, by decide, (fun s h => by cases h), (fun s h => by cases h)⟩
theorem swap_fit {p q : Prim} (hp : p.fit) (hq : q.fit) : (swap p q).1.fit ∧ (swap p q).2.1.fit := by
 unfold swap
 split
 ·
  exact swapped_fit hp hq
 ·
  exact ⟨zero_fit, zero_fit⟩

theorem sb59 : SB Tryz.prog 59 [(0, 1), (1, 1), (2, 1), (3, 1), (4, 1), (5, 1)] [.int .i64 0, .string ⟨#[]⟩, .string ⟨#[]⟩, .int .i64 0, .slice none 0 0, .slice none 0 0] := SB.struct Tryz.zeroValue59 rfl Tryz.underlying59 (fun w => by kernel_rfl)
theorem sb172 : SB Tryz.prog 172 [(0, 1), (1, 1)] [.int .i64 0, .int .i64 0] := SB.array Tryz.zeroValue172 rfl Tryz.underlying172 Tryz.sizeOf3 (fun i x h => by rcases i with _ | _ |  i <;> simp_all)
set_option maxRecDepth 100000 in
theorem c_swapped (p q : Prim) (yp yq : Rp.Lay Prim) (hp : p.fit) (hq : q.fit) (hpr : p.right = true) (hqr : q.right = true) : Con Tryz.prog 109 [sv p yp, sv q yq] [] (Rp.asn p yp ++ Rp.asn q yq) (Two (swapped p q)) (fun x => x.v) (fun _ => []) (fun x => x.g) := by
 refine con Tryz.func109 rfl Tryz.ntmps109 rfl ?_
 intro M0 F0 w0
 refine cs ?_
 refine cr ?_
 refine ls (o_box rfl rfl rfl) ?_
 refine le ?_; intro b2
 refine ls (o_box rfl rfl rfl) ?_
 refine le ?_; intro b3
 refine ls (o_alloc Tryz.zeroValue59 rfl rfl) ?_
 refine le ?_; intro b4
 refine ls (o_alloc Tryz.zeroValue59 rfl rfl) ?_
 refine le ?_; intro b5
 refine ls (op (p_asg rfl) rfl) ?_
 refine ln ?_
 refine nthen ?_
 refine cs ?_
 refine cr ?_
 refine ls (op (p_fa fa59_0 rfl) rfl) ?_
 refine ls (o_ld Tryz.isAgg3 rfl (by repeat (first | exact At.z | apply At.s)) (by repeat (first | exact At.z | apply At.s)) rfl) ?_
 refine ls (op (p_fa fa59_0 rfl) rfl) ?_
 refine ls (o_ld Tryz.isAgg3 rfl (by repeat (first | exact At.z | apply At.s)) (by repeat (first | exact At.z | apply At.s)) rfl) ?_
 refine ls (op (p_bld sb172 rfl (Fill.t (by repeat (first | exact At.z | apply At.s)) rfl rfl (by repeat (first | exact Put.d | apply Put.t | apply Put.s)) (Fill.t (by repeat (first | exact At.z | apply At.s)) rfl rfl (by repeat (first | exact Put.d | apply Put.t | apply Put.s)) Fill.d))) rfl) ?_
 refine ls (o_alloc Tryz.zeroValue172 rfl rfl) ?_
 refine le ?_; intro b7
 refine ls (o_st rfl Tryz.sizeOf172 rfl rfl rfl rfl rfl (by repeat (first | exact At.z | apply At.s)) (by repeat (first | exact Put.d | apply Put.t | apply Put.s)) (by repeat (first | exact SetAt.z | apply SetAt.s))) ?_
 refine ln ?_
 refine nthen ?_
 refine cs ?_
 refine cb ?_
 refine cs ?_
 refine cr ?_
 refine ls (o_ldw Tryz.isAgg172 Tryz.sizeOf172 rfl (by repeat (first | exact At.z | apply At.s)) (by rfl) rfl) ?_
 refine ls (op (p_bld sb172 rfl (Fill.t (by repeat (first | exact At.z | apply At.s)) rfl rfl (by repeat (first | exact Put.d | apply Put.t | apply Put.s)) (Fill.t (by repeat (first | exact At.z | apply At.s)) rfl rfl (by repeat (first | exact Put.d | apply Put.t | apply Put.s)) Fill.d))) rfl) ?_
 refine ls (op (p_aeq2 Tryz.underlying172 Tryz.underlying3 (by kernel_rfl) (by kernel_rfl) Tryz.isAgg3 (by kernel_rfl) rfl rfl) rfl) ?_
 refine ls (op (p_asg rfl) rfl) ?_
 refine ln ?_
 refine nthen ?_
 refine cc rfl ?_ ?_
 ·
  intro h13
  have h13' := h13; simp only [Bool.and_eq_true, decide_eq_true_eq] at h13'
  refine cs ?_
  refine cs ?_
  refine cr ?_
  refine ls (op (p_fa fa59_1 rfl) rfl) ?_
  refine ls (o_ld Tryz.isAgg9 rfl (by repeat (first | exact At.z | apply At.s)) (by repeat (first | exact At.z | apply At.s)) rfl) ?_
  refine ls (op (p_fa fa59_1 rfl) rfl) ?_
  refine ls (o_ld Tryz.isAgg9 rfl (by repeat (first | exact At.z | apply At.s)) (by repeat (first | exact At.z | apply At.s)) rfl) ?_
  refine ls (op (p_seq rfl rfl) rfl) ?_
  refine ln ?_
  refine nthen ?_
  refine cc rfl ?_ ?_
  ·
   intro h21
   try simp only [decide_eq_true_eq, decide_eq_false_iff_not, Bool.not_eq_true', Bool.not_eq_false', Int.not_lt, Int.not_le, ge_iff_le, Bool.not_true, Bool.not_false] at h21
   refine cs ?_
   refine cr ?_
   refine ls (o_ldw Tryz.isAgg59 Tryz.sizeOf59 rfl (by repeat (first | exact At.z | apply At.s)) (by rfl) rfl) ?_
   refine ls (o_ldw Tryz.isAgg59 Tryz.sizeOf59 rfl (by repeat (first | exact At.z | apply At.s)) (by rfl) rfl) ?_
   refine ls (o_call (is := []) Tryz.call130 (c_hunks p q yp yq hp hq (right_pos hpr) (right_pos hqr)) rfl rfl (by repeat (first | exact Sub.d | (refine Sub.s ?_ ?_; (repeat (first | exact In.z | apply In.s))) | (refine Sub.suf ?_; (repeat (first | exact Suf.z | apply Suf.s))))) rfl) ?_
   refine le ?_; rintro ⟨⟨⟨r1, r2, r3⟩, z1, z2⟩, hr⟩
   refine ls (op (p_ext rfl (by repeat (first | exact At.z | apply At.s))) rfl) ?_
   refine ls (op (p_ext rfl (by repeat (first | exact At.z | apply At.s))) rfl) ?_
   refine ls (op (p_ext rfl (by repeat (first | exact At.z | apply At.s))) rfl) ?_
   refine ls (o_st rfl Tryz.sizeOf59 rfl rfl rfl rfl rfl (by repeat (first | exact At.z | apply At.s)) (by repeat (first | exact Put.d | apply Put.t | apply Put.s)) (by repeat (first | exact SetAt.z | apply SetAt.s))) ?_
   refine ls (o_st rfl Tryz.sizeOf59 rfl rfl rfl rfl rfl (by repeat (first | exact At.z | apply At.s)) (by repeat (first | exact Put.d | apply Put.t | apply Put.s)) (by repeat (first | exact SetAt.z | apply SetAt.s))) ?_
   refine ls (op (p_asg rfl) rfl) ?_
   refine ln ?_
   refine nthen ?_
   refine cret ?_
   refine xret (fun _ _ h => h) ?_
   refine rret (is := []) ⟨((r1, r2, r3), (z1, z2)), by rw [swapped, if_pos h13', if_pos h21]; exact hr⟩ (Or.inl rfl) (Res.c rfl Tryz.isAgg59 Tryz.sizeOf59 (by repeat (first | exact At.z | apply At.s)) (by rfl) (Res.c rfl Tryz.isAgg59 Tryz.sizeOf59 (by repeat (first | exact At.z | apply At.s)) (by rfl) (Res.t rfl Res.d))) (rfl) rfl (by repeat (first | exact Sub.d | (refine Sub.s ?_ ?_; (repeat (first | exact In.z | apply In.s))) | (refine Sub.suf ?_; (repeat (first | exact Suf.z | apply Suf.s)))))
  ·
   intro h21
   try simp only [decide_eq_true_eq, decide_eq_false_iff_not, Bool.not_eq_true', Bool.not_eq_false', Int.not_lt, Int.not_le, ge_iff_le, Bool.not_true, Bool.not_false] at h21
   refine cskip ?_
   refine nthen ?_
   refine cs ?_
   refine cd [2, 3] [(0, b3, 0, _), (1, b2, 0, _)] TryzX.mixed (TOk.t (isBoxS (by repeat (first | exact At.z | apply At.s)) (k := 6) (by repeat (first | exact Cut.d | apply Cut.t | apply Cut.s))) (TOk.t (isBoxS (by repeat (first | exact At.z | apply At.s)) (k := 6) (by repeat (first | exact Cut.d | apply Cut.t | apply Cut.s))) TOk.d)) ?_
   refine tk 0 rfl (by kernel_rfl) (fun _ _ _ h => h) gnone (TTat (List.Mem.head _)) (p_lda Tryz.isAgg59 Tryz.sizeOf59 rfl rfl) rfl ?_
   refine tk 1 rfl (by kernel_rfl) (fun _ _ _ h => h) gnone (TTat (List.Mem.tail _ (List.Mem.head _))) (p_lda Tryz.isAgg59 Tryz.sizeOf59 rfl rfl) rfl ?_
   refine df 2 (by kernel_rfl) ?_
   refine doR rfl (o_st rfl Tryz.sizeOf59 rfl rfl rfl rfl rfl (by repeat (first | exact At.z | apply At.s)) (by repeat (first | exact Put.d | apply Put.t | apply Put.s)) (by repeat (first | exact SetAt.z | apply SetAt.s))) (TOk.x (by kernel_rfl) (TOk.t (isBoxS (by repeat (first | exact At.z | apply At.s)) (k := 6) (by repeat (first | exact Cut.d | apply Cut.t | apply Cut.s))) TOk.d)) ?_
   refine df 3 (by kernel_rfl) ?_
   refine doR rfl (o_st rfl Tryz.sizeOf59 rfl rfl rfl rfl rfl (by repeat (first | exact At.z | apply At.s)) (by repeat (first | exact Put.d | apply Put.t | apply Put.s)) (by repeat (first | exact SetAt.z | apply SetAt.s))) (TOk.x (by kernel_rfl) (TOk.x (by kernel_rfl) TOk.d)) ?_
   refine tk 4 rfl (by kernel_rfl) (fun _ _ _ h => h) gnone (TTany _) (p_asg rfl) rfl ?_
   refine dn (by kernel_rfl) ?_
   refine nthen ?_
   refine cret ?_
   refine xret (fun _ _ h => h) ?_
   refine rret (is := []) ⟨((q, p, true), (yq, yp)), by rw [swapped, if_pos h13', if_neg h21]⟩ (Or.inl rfl) (Res.c rfl Tryz.isAgg59 Tryz.sizeOf59 (by repeat (first | exact At.z | apply At.s)) (by rfl) (Res.c rfl Tryz.isAgg59 Tryz.sizeOf59 (by repeat (first | exact At.z | apply At.s)) (by rfl) (Res.t rfl Res.d))) (rfl) rfl (by repeat (first | exact Sub.d | (refine Sub.s ?_ ?_; (repeat (first | exact In.z | apply In.s))) | (refine Sub.suf ?_; (repeat (first | exact Suf.z | apply Suf.s)))))
 ·
  intro h13
  have h13' : ¬ (p.kind = 0 ∧ q.kind = 0) := by intro e; rw [e.1, e.2] at h13; exact absurd h13 (by decide)
  refine cs ?_
  refine cr ?_
  refine ls (o_ldw Tryz.isAgg172 Tryz.sizeOf172 rfl (by repeat (first | exact At.z | apply At.s)) (by rfl) rfl) ?_
  refine ls (op (p_bld sb172 rfl (Fill.t (by repeat (first | exact At.z | apply At.s)) rfl rfl (by repeat (first | exact Put.d | apply Put.t | apply Put.s)) (Fill.t (by repeat (first | exact At.z | apply At.s)) rfl rfl (by repeat (first | exact Put.d | apply Put.t | apply Put.s)) Fill.d))) rfl) ?_
  refine ls (op (p_aeq2 Tryz.underlying172 Tryz.underlying3 (by kernel_rfl) (by kernel_rfl) Tryz.isAgg3 (by kernel_rfl) rfl rfl) rfl) ?_
  refine ls (op (p_asg rfl) rfl) ?_
  refine ln ?_
  refine nthen ?_
  refine cc rfl ?_ ?_
  ·
   intro h30
   have h30' := h30; simp only [Bool.and_eq_true, decide_eq_true_eq] at h30'
   refine cs ?_
   refine cs ?_
   refine cr ?_
   refine ls (op (p_fa fa59_1 rfl) rfl) ?_
   refine ls (o_ld Tryz.isAgg9 rfl (by repeat (first | exact At.z | apply At.s)) (by repeat (first | exact At.z | apply At.s)) rfl) ?_
   refine ls (op (p_fa fa59_1 rfl) rfl) ?_
   refine ls (o_ld Tryz.isAgg9 rfl (by repeat (first | exact At.z | apply At.s)) (by repeat (first | exact At.z | apply At.s)) rfl) ?_
   refine ls (op (p_seq rfl rfl) rfl) ?_
   refine ln ?_
   refine nthen ?_
   refine cc rfl ?_ ?_
   ·
    intro h38
    try simp only [decide_eq_true_eq, decide_eq_false_iff_not, Bool.not_eq_true', Bool.not_eq_false', Int.not_lt, Int.not_le, ge_iff_le, Bool.not_true, Bool.not_false] at h38
    refine cs ?_
    refine cr ?_
    refine ls (op (p_fa fa59_2 rfl) rfl) ?_
    refine ls (o_ld Tryz.isAgg9 rfl (by repeat (first | exact At.z | apply At.s)) (by repeat (first | exact At.z | apply At.s)) rfl) ?_
    refine ls (op (p_fa fa59_1 rfl) rfl) ?_
    refine ls (o_st rfl Tryz.sizeOf9 rfl rfl rfl rfl rfl (by repeat (first | exact At.z | apply At.s)) (by repeat (first | exact Put.d | apply Put.t | apply Put.s)) (by repeat (first | exact SetAt.z | apply SetAt.s))) ?_
    refine ln ?_
    refine nthen ?_
    refine cs ?_
    refine cd [2, 3] [(0, b3, 0, _), (1, b2, 0, _)] TryzX.mixed (TOk.t (isBoxS (by repeat (first | exact At.z | apply At.s)) (k := 6) (by repeat (first | exact Cut.d | apply Cut.t | apply Cut.s))) (TOk.t (isBoxS (by repeat (first | exact At.z | apply At.s)) (k := 6) (by repeat (first | exact Cut.d | apply Cut.t | apply Cut.s))) TOk.d)) ?_
    refine tk 0 rfl (by kernel_rfl) (fun _ _ _ h => h) gnone (TTat (List.Mem.head _)) (p_lda Tryz.isAgg59 Tryz.sizeOf59 rfl rfl) rfl ?_
    refine tk 1 rfl (by kernel_rfl) (fun _ _ _ h => h) gnone (TTat (List.Mem.tail _ (List.Mem.head _))) (p_lda Tryz.isAgg59 Tryz.sizeOf59 rfl rfl) rfl ?_
    refine df 2 (by kernel_rfl) ?_
    refine doR rfl (o_st rfl Tryz.sizeOf59 rfl rfl rfl rfl rfl (by repeat (first | exact At.z | apply At.s)) (by repeat (first | exact Put.d | apply Put.t | apply Put.s)) (by repeat (first | exact SetAt.z | apply SetAt.s))) (TOk.x (by kernel_rfl) (TOk.t (isBoxS (by repeat (first | exact At.z | apply At.s)) (k := 6) (by repeat (first | exact Cut.d | apply Cut.t | apply Cut.s))) TOk.d)) ?_
    refine df 3 (by kernel_rfl) ?_
    refine doR rfl (o_st rfl Tryz.sizeOf59 rfl rfl rfl rfl rfl (by repeat (first | exact At.z | apply At.s)) (by repeat (first | exact Put.d | apply Put.t | apply Put.s)) (by repeat (first | exact SetAt.z | apply SetAt.s))) (TOk.x (by kernel_rfl) (TOk.x (by kernel_rfl) TOk.d)) ?_
    refine tk 4 rfl (by kernel_rfl) (fun _ _ _ h => h) gnone (TTany _) (p_asg rfl) rfl ?_
    refine dn (by kernel_rfl) ?_
    refine nthen ?_
    refine cret ?_
    refine xret (fun _ _ h => h) ?_
    refine rret (is := []) ⟨((q, { p with name := q.to }, true), (yq, yp)), by rw [swapped, if_neg h13', if_pos h30', if_pos h38]⟩ (Or.inl rfl) (Res.c rfl Tryz.isAgg59 Tryz.sizeOf59 (by repeat (first | exact At.z | apply At.s)) (by rfl) (Res.c rfl Tryz.isAgg59 Tryz.sizeOf59 (by repeat (first | exact At.z | apply At.s)) (by rfl) (Res.t rfl Res.d))) (rfl) rfl (by repeat (first | exact Sub.d | (refine Sub.s ?_ ?_; (repeat (first | exact In.z | apply In.s))) | (refine Sub.suf ?_; (repeat (first | exact Suf.z | apply Suf.s)))))
   ·
    intro h38
    try simp only [decide_eq_true_eq, decide_eq_false_iff_not, Bool.not_eq_true', Bool.not_eq_false', Int.not_lt, Int.not_le, ge_iff_le, Bool.not_true, Bool.not_false] at h38
    refine cskip ?_
    refine nthen ?_
    refine cs ?_
    refine cd [7, 8] [(0, b3, 0, _), (1, b2, 0, _), (3, b2, 1, _), (5, b3, 2, _)] TryzX.mixed (TOk.t (isBoxS (by repeat (first | exact At.z | apply At.s)) (k := 6) (by repeat (first | exact Cut.d | apply Cut.t | apply Cut.s))) (TOk.t (isBoxS (by repeat (first | exact At.z | apply At.s)) (k := 6) (by repeat (first | exact Cut.d | apply Cut.t | apply Cut.s))) (TOk.t (isBoxS (by repeat (first | exact At.z | apply At.s)) (k := 1) (by repeat (first | exact Cut.d | apply Cut.t | apply Cut.s))) (TOk.t (isBoxS (by repeat (first | exact At.z | apply At.s)) (k := 1) (by repeat (first | exact Cut.d | apply Cut.t | apply Cut.s))) TOk.d)))) ?_
    refine tk 0 rfl (by kernel_rfl) (fun _ _ _ h => h) gnone (TTat (List.Mem.head _)) (p_lda Tryz.isAgg59 Tryz.sizeOf59 rfl rfl) rfl ?_
    refine tk 1 rfl (by kernel_rfl) (fun _ _ _ h => h) gnone (TTat (List.Mem.tail _ (List.Mem.head _))) (p_lda Tryz.isAgg59 Tryz.sizeOf59 rfl rfl) rfl ?_
    refine tk 2 rfl (by kernel_rfl) (fun _ _ _ h => h) gnone (TTany _) (p_fa fa59_1 rfl) rfl ?_
    refine tk 3 rfl (by kernel_rfl) (fun _ _ _ h => h) gnone (TTat (List.Mem.tail _ (List.Mem.tail _ (List.Mem.head _)))) (p_ld Tryz.isAgg9 rfl) rfl ?_
    refine tk 4 rfl (by kernel_rfl) (fun _ _ _ h => h) gnone (TTany _) (p_fa fa59_2 rfl) rfl ?_
    refine tk 5 rfl (by kernel_rfl) (fun _ _ _ h => h) gnone (TTat (List.Mem.tail _ (List.Mem.tail _ (List.Mem.tail _ (List.Mem.head _))))) (p_ld Tryz.isAgg9 rfl) rfl ?_
    refine tk 6 rfl (by kernel_rfl) (fun _ _ _ h => h) gnone (TTany _) (p_sne rfl rfl) rfl ?_
    refine df 7 (by kernel_rfl) ?_
    refine doR rfl (o_st rfl Tryz.sizeOf59 rfl rfl rfl rfl rfl (by repeat (first | exact At.z | apply At.s)) (by repeat (first | exact Put.d | apply Put.t | apply Put.s)) (by repeat (first | exact SetAt.z | apply SetAt.s))) (TOk.x (by kernel_rfl) (TOk.t (isBoxS (by repeat (first | exact At.z | apply At.s)) (k := 6) (by repeat (first | exact Cut.d | apply Cut.t | apply Cut.s))) (TOk.t (isBoxS (by repeat (first | exact At.z | apply At.s)) (k := 1) (by repeat (first | exact Cut.d | apply Cut.t | apply Cut.s))) (TOk.t (isBoxS (by repeat (first | exact At.z | apply At.s)) (k := 1) (by repeat (first | exact Cut.d | apply Cut.t | apply Cut.s))) TOk.d)))) ?_
    refine df 8 (by kernel_rfl) ?_
    refine doR rfl (o_st rfl Tryz.sizeOf59 rfl rfl rfl rfl rfl (by repeat (first | exact At.z | apply At.s)) (by repeat (first | exact Put.d | apply Put.t | apply Put.s)) (by repeat (first | exact SetAt.z | apply SetAt.s))) (TOk.x (by kernel_rfl) (TOk.x (by kernel_rfl) (TOk.t (isBoxS (by repeat (first | exact At.z | apply At.s)) (k := 1) (by repeat (first | exact Cut.d | apply Cut.t | apply Cut.s))) (TOk.t (isBoxS (by repeat (first | exact At.z | apply At.s)) (k := 1) (by repeat (first | exact Cut.d | apply Cut.t | apply Cut.s))) TOk.d)))) ?_
    refine tk 9 rfl (by kernel_rfl) (fun _ _ _ h => h) gnone (TTany _) (p_asg rfl) rfl ?_
    refine dn (by kernel_rfl) ?_
    refine nthen ?_
    refine cret ?_
    refine xret (fun _ _ h => h) ?_
    refine rret (is := []) ⟨((q, p, !decide (p.name = q.to)), (yq, yp)), by rw [swapped, if_neg h13', if_pos h30', if_neg h38]⟩ (Or.inl rfl) (Res.c rfl Tryz.isAgg59 Tryz.sizeOf59 (by repeat (first | exact At.z | apply At.s)) (by rfl) (Res.c rfl Tryz.isAgg59 Tryz.sizeOf59 (by repeat (first | exact At.z | apply At.s)) (by rfl) (Res.t rfl Res.d))) (rfl) rfl (by repeat (first | exact Sub.d | (refine Sub.s ?_ ?_; (repeat (first | exact In.z | apply In.s))) | (refine Sub.suf ?_; (repeat (first | exact Suf.z | apply Suf.s)))))
  ·
   intro h30
   have h30' : ¬ (p.kind = 0 ∧ q.kind = 3) := by intro e; rw [e.1, e.2] at h30; exact absurd h30 (by decide)
   refine cs ?_
   refine cr ?_
   refine ls (o_ldw Tryz.isAgg172 Tryz.sizeOf172 rfl (by repeat (first | exact At.z | apply At.s)) (by rfl) rfl) ?_
   refine ls (op (p_bld sb172 rfl (Fill.t (by repeat (first | exact At.z | apply At.s)) rfl rfl (by repeat (first | exact Put.d | apply Put.t | apply Put.s)) (Fill.t (by repeat (first | exact At.z | apply At.s)) rfl rfl (by repeat (first | exact Put.d | apply Put.t | apply Put.s)) Fill.d))) rfl) ?_
   refine ls (op (p_aeq2 Tryz.underlying172 Tryz.underlying3 (by kernel_rfl) (by kernel_rfl) Tryz.isAgg3 (by kernel_rfl) rfl rfl) rfl) ?_
   refine ls (op (p_asg rfl) rfl) ?_
   refine ln ?_
   refine nthen ?_
   refine cc rfl ?_ ?_
   ·
    intro h51
    have h51' := h51; simp only [Bool.and_eq_true, decide_eq_true_eq] at h51'
    refine cs ?_
    refine cs ?_
    refine cr ?_
    refine ls (op (p_fa fa59_2 rfl) rfl) ?_
    refine ls (o_ld Tryz.isAgg9 rfl (by repeat (first | exact At.z | apply At.s)) (by repeat (first | exact At.z | apply At.s)) rfl) ?_
    refine ls (op (p_fa fa59_1 rfl) rfl) ?_
    refine ls (o_ld Tryz.isAgg9 rfl (by repeat (first | exact At.z | apply At.s)) (by repeat (first | exact At.z | apply At.s)) rfl) ?_
    refine ls (op (p_seq rfl rfl) rfl) ?_
    refine ln ?_
    refine nthen ?_
    refine cc rfl ?_ ?_
    ·
     intro h59
     try simp only [decide_eq_true_eq, decide_eq_false_iff_not, Bool.not_eq_true', Bool.not_eq_false', Int.not_lt, Int.not_le, ge_iff_le, Bool.not_true, Bool.not_false] at h59
     refine cs ?_
     refine cr ?_
     refine ls (op (p_fa fa59_1 rfl) rfl) ?_
     refine ls (o_ld Tryz.isAgg9 rfl (by repeat (first | exact At.z | apply At.s)) (by repeat (first | exact At.z | apply At.s)) rfl) ?_
     refine ls (op (p_fa fa59_1 rfl) rfl) ?_
     refine ls (o_st rfl Tryz.sizeOf9 rfl rfl rfl rfl rfl (by repeat (first | exact At.z | apply At.s)) (by repeat (first | exact Put.d | apply Put.t | apply Put.s)) (by repeat (first | exact SetAt.z | apply SetAt.s))) ?_
     refine ln ?_
     refine nthen ?_
     refine cs ?_
     refine cd [2, 3] [(0, b3, 0, _), (1, b2, 0, _)] TryzX.mixed (TOk.t (isBoxS (by repeat (first | exact At.z | apply At.s)) (k := 6) (by repeat (first | exact Cut.d | apply Cut.t | apply Cut.s))) (TOk.t (isBoxS (by repeat (first | exact At.z | apply At.s)) (k := 6) (by repeat (first | exact Cut.d | apply Cut.t | apply Cut.s))) TOk.d)) ?_
     refine tk 0 rfl (by kernel_rfl) (fun _ _ _ h => h) gnone (TTat (List.Mem.head _)) (p_lda Tryz.isAgg59 Tryz.sizeOf59 rfl rfl) rfl ?_
     refine tk 1 rfl (by kernel_rfl) (fun _ _ _ h => h) gnone (TTat (List.Mem.tail _ (List.Mem.head _))) (p_lda Tryz.isAgg59 Tryz.sizeOf59 rfl rfl) rfl ?_
     refine df 2 (by kernel_rfl) ?_
     refine doR rfl (o_st rfl Tryz.sizeOf59 rfl rfl rfl rfl rfl (by repeat (first | exact At.z | apply At.s)) (by repeat (first | exact Put.d | apply Put.t | apply Put.s)) (by repeat (first | exact SetAt.z | apply SetAt.s))) (TOk.x (by kernel_rfl) (TOk.t (isBoxS (by repeat (first | exact At.z | apply At.s)) (k := 6) (by repeat (first | exact Cut.d | apply Cut.t | apply Cut.s))) TOk.d)) ?_
     refine df 3 (by kernel_rfl) ?_
     refine doR rfl (o_st rfl Tryz.sizeOf59 rfl rfl rfl rfl rfl (by repeat (first | exact At.z | apply At.s)) (by repeat (first | exact Put.d | apply Put.t | apply Put.s)) (by repeat (first | exact SetAt.z | apply SetAt.s))) (TOk.x (by kernel_rfl) (TOk.x (by kernel_rfl) TOk.d)) ?_
     refine tk 4 rfl (by kernel_rfl) (fun _ _ _ h => h) gnone (TTany _) (p_asg rfl) rfl ?_
     refine dn (by kernel_rfl) ?_
     refine nthen ?_
     refine cret ?_
     refine xret (fun _ _ h => h) ?_
     refine rret (is := []) ⟨(({ q with name := p.name }, p, true), (yq, yp)), by rw [swapped, if_neg h13', if_neg h30', if_pos h51', if_pos h59]⟩ (Or.inl rfl) (Res.c rfl Tryz.isAgg59 Tryz.sizeOf59 (by repeat (first | exact At.z | apply At.s)) (by rfl) (Res.c rfl Tryz.isAgg59 Tryz.sizeOf59 (by repeat (first | exact At.z | apply At.s)) (by rfl) (Res.t rfl Res.d))) (rfl) rfl (by repeat (first | exact Sub.d | (refine Sub.s ?_ ?_; (repeat (first | exact In.z | apply In.s))) | (refine Sub.suf ?_; (repeat (first | exact Suf.z | apply Suf.s)))))
    ·
     intro h59
     try simp only [decide_eq_true_eq, decide_eq_false_iff_not, Bool.not_eq_true', Bool.not_eq_false', Int.not_lt, Int.not_le, ge_iff_le, Bool.not_true, Bool.not_false] at h59
     refine cskip ?_
     refine nthen ?_
     refine cs ?_
     refine cd [7, 8] [(0, b3, 0, _), (1, b2, 0, _), (3, b2, 1, _), (5, b3, 1, _)] TryzX.mixed (TOk.t (isBoxS (by repeat (first | exact At.z | apply At.s)) (k := 6) (by repeat (first | exact Cut.d | apply Cut.t | apply Cut.s))) (TOk.t (isBoxS (by repeat (first | exact At.z | apply At.s)) (k := 6) (by repeat (first | exact Cut.d | apply Cut.t | apply Cut.s))) (TOk.t (isBoxS (by repeat (first | exact At.z | apply At.s)) (k := 1) (by repeat (first | exact Cut.d | apply Cut.t | apply Cut.s))) (TOk.t (isBoxS (by repeat (first | exact At.z | apply At.s)) (k := 1) (by repeat (first | exact Cut.d | apply Cut.t | apply Cut.s))) TOk.d)))) ?_
     refine tk 0 rfl (by kernel_rfl) (fun _ _ _ h => h) gnone (TTat (List.Mem.head _)) (p_lda Tryz.isAgg59 Tryz.sizeOf59 rfl rfl) rfl ?_
     refine tk 1 rfl (by kernel_rfl) (fun _ _ _ h => h) gnone (TTat (List.Mem.tail _ (List.Mem.head _))) (p_lda Tryz.isAgg59 Tryz.sizeOf59 rfl rfl) rfl ?_
     refine tk 2 rfl (by kernel_rfl) (fun _ _ _ h => h) gnone (TTany _) (p_fa fa59_1 rfl) rfl ?_
     refine tk 3 rfl (by kernel_rfl) (fun _ _ _ h => h) gnone (TTat (List.Mem.tail _ (List.Mem.tail _ (List.Mem.head _)))) (p_ld Tryz.isAgg9 rfl) rfl ?_
     refine tk 4 rfl (by kernel_rfl) (fun _ _ _ h => h) gnone (TTany _) (p_fa fa59_1 rfl) rfl ?_
     refine tk 5 rfl (by kernel_rfl) (fun _ _ _ h => h) gnone (TTat (List.Mem.tail _ (List.Mem.tail _ (List.Mem.tail _ (List.Mem.head _))))) (p_ld Tryz.isAgg9 rfl) rfl ?_
     refine tk 6 rfl (by kernel_rfl) (fun _ _ _ h => h) gnone (TTany _) (p_sne rfl rfl) rfl ?_
     refine df 7 (by kernel_rfl) ?_
     refine doR rfl (o_st rfl Tryz.sizeOf59 rfl rfl rfl rfl rfl (by repeat (first | exact At.z | apply At.s)) (by repeat (first | exact Put.d | apply Put.t | apply Put.s)) (by repeat (first | exact SetAt.z | apply SetAt.s))) (TOk.x (by kernel_rfl) (TOk.t (isBoxS (by repeat (first | exact At.z | apply At.s)) (k := 6) (by repeat (first | exact Cut.d | apply Cut.t | apply Cut.s))) (TOk.t (isBoxS (by repeat (first | exact At.z | apply At.s)) (k := 1) (by repeat (first | exact Cut.d | apply Cut.t | apply Cut.s))) (TOk.t (isBoxS (by repeat (first | exact At.z | apply At.s)) (k := 1) (by repeat (first | exact Cut.d | apply Cut.t | apply Cut.s))) TOk.d)))) ?_
     refine df 8 (by kernel_rfl) ?_
     refine doR rfl (o_st rfl Tryz.sizeOf59 rfl rfl rfl rfl rfl (by repeat (first | exact At.z | apply At.s)) (by repeat (first | exact Put.d | apply Put.t | apply Put.s)) (by repeat (first | exact SetAt.z | apply SetAt.s))) (TOk.x (by kernel_rfl) (TOk.x (by kernel_rfl) (TOk.t (isBoxS (by repeat (first | exact At.z | apply At.s)) (k := 1) (by repeat (first | exact Cut.d | apply Cut.t | apply Cut.s))) (TOk.t (isBoxS (by repeat (first | exact At.z | apply At.s)) (k := 1) (by repeat (first | exact Cut.d | apply Cut.t | apply Cut.s))) TOk.d)))) ?_
     refine tk 9 rfl (by kernel_rfl) (fun _ _ _ h => h) gnone (TTany _) (p_asg rfl) rfl ?_
     refine dn (by kernel_rfl) ?_
     refine nthen ?_
     refine cret ?_
     refine xret (fun _ _ h => h) ?_
     refine rret (is := []) ⟨((q, p, !decide (p.name = q.name)), (yq, yp)), by rw [swapped, if_neg h13', if_neg h30', if_pos h51', if_neg h59]⟩ (Or.inl rfl) (Res.c rfl Tryz.isAgg59 Tryz.sizeOf59 (by repeat (first | exact At.z | apply At.s)) (by rfl) (Res.c rfl Tryz.isAgg59 Tryz.sizeOf59 (by repeat (first | exact At.z | apply At.s)) (by rfl) (Res.t rfl Res.d))) (rfl) rfl (by repeat (first | exact Sub.d | (refine Sub.s ?_ ?_; (repeat (first | exact In.z | apply In.s))) | (refine Sub.suf ?_; (repeat (first | exact Suf.z | apply Suf.s)))))
   ·
    intro h51
    have h51' : ¬ (p.kind = 3 ∧ q.kind = 0) := by intro e; rw [e.1, e.2] at h51; exact absurd h51 (by decide)
    refine cskip ?_
    refine nblock ?_
    refine nthen ?_
    refine cs ?_
    refine cd [4, 6, 7] [(0, b3, 0, _), (1, b2, 0, _), (2, b2, 0, _), (3, b3, 0, _)] TryzX.mixed (TOk.t (isBoxS (by repeat (first | exact At.z | apply At.s)) (k := 6) (by repeat (first | exact Cut.d | apply Cut.t | apply Cut.s))) (TOk.t (isBoxS (by repeat (first | exact At.z | apply At.s)) (k := 6) (by repeat (first | exact Cut.d | apply Cut.t | apply Cut.s))) (TOk.t (isBoxS (by repeat (first | exact At.z | apply At.s)) (k := 6) (by repeat (first | exact Cut.d | apply Cut.t | apply Cut.s))) (TOk.t (isBoxS (by repeat (first | exact At.z | apply At.s)) (k := 6) (by repeat (first | exact Cut.d | apply Cut.t | apply Cut.s))) TOk.d)))) ?_
    refine tk 0 rfl (by kernel_rfl) (fun _ _ _ h => h) gnone (TTat (List.Mem.head _)) (p_lda Tryz.isAgg59 Tryz.sizeOf59 rfl rfl) rfl ?_
    refine tk 1 rfl (by kernel_rfl) (fun _ _ _ h => h) gnone (TTat (List.Mem.tail _ (List.Mem.head _))) (p_lda Tryz.isAgg59 Tryz.sizeOf59 rfl rfl) rfl ?_
    refine tk 2 rfl (by kernel_rfl) (fun _ _ _ h => h) gnone (TTat (List.Mem.tail _ (List.Mem.tail _ (List.Mem.head _)))) (p_lda Tryz.isAgg59 Tryz.sizeOf59 rfl rfl) rfl ?_
    refine tk 3 rfl (by kernel_rfl) (fun _ _ _ h => h) gnone (TTat (List.Mem.tail _ (List.Mem.tail _ (List.Mem.tail _ (List.Mem.head _))))) (p_lda Tryz.isAgg59 Tryz.sizeOf59 rfl rfl) rfl ?_
    refine df 4 (by kernel_rfl) ?_
    refine doR rfl (o_call (is := []) Tryz.call131 (c_shares p q yp yq) rfl rfl (by repeat (first | exact Sub.d | (refine Sub.s ?_ ?_; (repeat (first | exact In.z | apply In.s))) | (refine Sub.suf ?_; (repeat (first | exact Suf.z | apply Suf.s))))) rfl) (TOk.t (isBoxE fun _ => isBoxS (by repeat (first | exact At.z | apply At.s)) (k := 6) (by repeat (first | exact Cut.d | apply Cut.t | apply Cut.s))) (TOk.t (isBoxE fun _ => isBoxS (by repeat (first | exact At.z | apply At.s)) (k := 6) (by repeat (first | exact Cut.d | apply Cut.t | apply Cut.s))) (TOk.x (by kernel_rfl) (TOk.x (by kernel_rfl) TOk.d)))) ?_
    refine ea ?_; intro x76
    refine tk 5 rfl (by kernel_rfl) (fun _ _ _ h => h) gnone (TTany _) (p_not rfl) rfl ?_
    refine df 6 (by kernel_rfl) ?_
    refine doR rfl (o_st rfl Tryz.sizeOf59 rfl rfl rfl rfl rfl (by repeat (first | exact At.z | apply At.s)) (by repeat (first | exact Put.d | apply Put.t | apply Put.s)) (by repeat (first | exact SetAt.z | apply SetAt.s))) (TOk.x (by kernel_rfl) (TOk.t (isBoxS (by repeat (first | exact At.z | apply At.s)) (k := 6) (by repeat (first | exact Cut.d | apply Cut.t | apply Cut.s))) (TOk.x (by kernel_rfl) (TOk.x (by kernel_rfl) TOk.d)))) ?_
    refine df 7 (by kernel_rfl) ?_
    refine doR rfl (o_st rfl Tryz.sizeOf59 rfl rfl rfl rfl rfl (by repeat (first | exact At.z | apply At.s)) (by repeat (first | exact Put.d | apply Put.t | apply Put.s)) (by repeat (first | exact SetAt.z | apply SetAt.s))) (TOk.x (by kernel_rfl) (TOk.x (by kernel_rfl) (TOk.x (by kernel_rfl) (TOk.x (by kernel_rfl) TOk.d)))) ?_
    refine tk 8 rfl (by kernel_rfl) (fun _ _ _ h => h) gnone (TTany _) (p_asg rfl) rfl ?_
    refine dn (by kernel_rfl) ?_
    refine nthen ?_
    refine cret ?_
    refine xret (fun _ _ h => h) ?_
    refine rret (is := []) ⟨((q, p, !p.meets q), (yq, yp)), by rw [swapped, if_neg h13', if_neg h30', if_neg h51']⟩ (Or.inl rfl) (Res.c rfl Tryz.isAgg59 Tryz.sizeOf59 (by repeat (first | exact At.z | apply At.s)) (by rfl) (Res.c rfl Tryz.isAgg59 Tryz.sizeOf59 (by repeat (first | exact At.z | apply At.s)) (by rfl) (Res.t rfl Res.d))) (rfl) rfl (by repeat (first | exact Sub.d | (refine Sub.s ?_ ?_; (repeat (first | exact In.z | apply In.s))) | (refine Sub.suf ?_; (repeat (first | exact Suf.z | apply Suf.s)))))

set_option maxRecDepth 100000 in
theorem c_Swap (p q : Prim) (yp yq : Rp.Lay Prim) (hp : p.fit) (hq : q.fit) : Con Tryz.prog 96 [sv p yp, sv q yq] [] (Rp.asn p yp ++ Rp.asn q yq) (Two (swap p q)) (fun x => x.v) (fun _ => []) (fun x => x.g) := by
 refine con Tryz.func96 rfl Tryz.ntmps96 rfl ?_
 intro M0 F0 w0
 refine cs ?_
 refine cr ?_
 refine ls (o_box rfl rfl rfl) ?_
 refine le ?_; intro b2
 refine ls (o_box rfl rfl rfl) ?_
 refine le ?_; intro b3
 refine ls (o_alloc Tryz.zeroValue59 rfl rfl) ?_
 refine le ?_; intro b4
 refine ls (o_alloc Tryz.zeroValue59 rfl rfl) ?_
 refine le ?_; intro b5
 refine ls (op (p_asg rfl) rfl) ?_
 refine ln ?_
 refine nthen ?_
 refine cs ?_
 refine cs ?_
 refine cr ?_
 refine ls (o_ldw Tryz.isAgg59 Tryz.sizeOf59 rfl (by repeat (first | exact At.z | apply At.s)) (by rfl) rfl) ?_
 refine ls (o_call (is := []) Tryz.call63 (c_primRight p yp hp) rfl rfl (by repeat (first | exact Sub.d | (refine Sub.s ?_ ?_; (repeat (first | exact In.z | apply In.s))) | (refine Sub.suf ?_; (repeat (first | exact Suf.z | apply Suf.s))))) rfl) ?_
 refine le ?_; intro x8
 refine ls (op (p_move rfl) rfl) ?_
 refine andX 3 9 12 rfl (subσ.cons (t := 0) rfl (subσ.cons (t := 1) rfl (subσ.cons (t := 2) rfl (subσ.cons (t := 3) rfl (subσ.cons (t := 4) rfl (subσ.cons (t := 5) rfl (subσ.cons (t := 6) rfl (subσ.nil _)))))))) ?_ ?_
 ·
  intro h9
  refine lskip rfl rfl rfl rfl rfl ?_
  refine lskip rfl rfl rfl rfl rfl ?_
  refine ls (op (p_pickf rfl rfl) rfl) ?_
  refine ln (nmid (wk0 (by repeat (first | exact subσ.nil _ | refine subσ.cons rfl ?_)) (by repeat (first | exact Sub.d | (refine Sub.s ?_ ?_; (repeat (first | exact In.z | apply In.s))) | (refine Sub.suf ?_; (repeat (first | exact Suf.z | apply Suf.s)))))))
 apply exI
 ·
  intro h9
  refine lwant rfl rfl rfl rfl (o_ldw Tryz.isAgg59 Tryz.sizeOf59 rfl (by repeat (first | exact At.z | apply At.s)) (by rfl) rfl) ?_
  refine lwant rfl rfl rfl rfl (o_call (is := []) Tryz.call63 (c_primRight q yq hq) rfl rfl (by repeat (first | exact Sub.d | (refine Sub.s ?_ ?_; (repeat (first | exact In.z | apply In.s))) | (refine Sub.suf ?_; (repeat (first | exact Suf.z | apply Suf.s))))) rfl) ?_
  refine le ?_; intro x11
  refine ls (op (p_pickt rfl rfl) rfl) ?_
  refine ln (nmid (wk0 (by repeat (first | exact subσ.nil _ | refine subσ.cons rfl ?_)) (by repeat (first | exact Sub.d | (refine Sub.s ?_ ?_; (repeat (first | exact In.z | apply In.s))) | (refine Sub.suf ?_; (repeat (first | exact Suf.z | apply Suf.s)))))))
 ·
  refine ln ?_
  refine nthen ?_
  refine cc rfl ?_ ?_
  ·
   intro h12
   have h12' := h12; simp only [Bool.and_eq_true, decide_eq_true_eq] at h12'
   refine cr ?_
   refine ls (o_ldw Tryz.isAgg59 Tryz.sizeOf59 rfl (by repeat (first | exact At.z | apply At.s)) (by rfl) rfl) ?_
   refine ls (o_ldw Tryz.isAgg59 Tryz.sizeOf59 rfl (by repeat (first | exact At.z | apply At.s)) (by rfl) rfl) ?_
   refine ls (o_call (is := []) Tryz.call109 (c_swapped p q yp yq hp hq h12'.1 h12'.2) rfl rfl (by repeat (first | exact Sub.d | (refine Sub.s ?_ ?_; (repeat (first | exact In.z | apply In.s))) | (refine Sub.suf ?_; (repeat (first | exact Suf.z | apply Suf.s))))) rfl) ?_
   refine le ?_; rintro ⟨⟨⟨r1, r2, r3⟩, z1, z2⟩, hr⟩
   obtain ⟨hf1, hf2⟩ := swapped_fit hp hq; rw [← hr] at hf1 hf2; dsimp only at hr hf1 hf2
   refine ls (op (p_move rfl) rfl) ?_
   refine ls (op (p_ext rfl (by repeat (first | exact At.z | apply At.s))) rfl) ?_
   refine ls (op (p_ext rfl (by repeat (first | exact At.z | apply At.s))) rfl) ?_
   refine ls (op (p_ext rfl (by repeat (first | exact At.z | apply At.s))) rfl) ?_
   refine ls (o_st rfl Tryz.sizeOf59 rfl rfl rfl rfl rfl (by repeat (first | exact At.z | apply At.s)) (by repeat (first | exact Put.d | apply Put.t | apply Put.s)) (by repeat (first | exact SetAt.z | apply SetAt.s))) ?_
   refine ls (o_st rfl Tryz.sizeOf59 rfl rfl rfl rfl rfl (by repeat (first | exact At.z | apply At.s)) (by repeat (first | exact Put.d | apply Put.t | apply Put.s)) (by repeat (first | exact SetAt.z | apply SetAt.s))) ?_
   refine ls (op (p_asg rfl) rfl) ?_
   refine ln ?_
   refine nthen ?_
   refine cs ?_
   refine cs ?_
   refine cr ?_
   refine ls (op (p_move rfl) rfl) ?_
   refine ls (op (p_not rfl) rfl) ?_
   refine ls (op (p_move rfl) rfl) ?_
   refine orX 4 22 26 rfl (subσ.cons (t := 0) rfl (subσ.cons (t := 1) rfl (subσ.cons (t := 2) rfl (subσ.cons (t := 3) rfl (subσ.cons (t := 4) rfl (subσ.cons (t := 5) rfl (subσ.cons (t := 6) rfl (subσ.cons (t := 12) rfl (subσ.cons (t := 14) rfl (subσ.cons (t := 15) rfl (subσ.cons (t := 16) rfl (subσ.cons (t := 13) rfl (subσ.cons (t := 17) rfl (subσ.cons (t := 18) rfl (subσ.cons (t := 19) rfl (subσ.nil _)))))))))))))))) ?_ ?_
   ·
    intro h22
    refine lskip rfl rfl rfl rfl rfl ?_
    refine lskip rfl rfl rfl rfl rfl ?_
    refine lskip rfl rfl rfl rfl rfl ?_
    refine ls (op (p_pickt rfl rfl) rfl) ?_
    refine ln (nmid (wk0 (by repeat (first | exact subσ.nil _ | refine subσ.cons rfl ?_)) (by repeat (first | exact Sub.d | (refine Sub.s ?_ ?_; (repeat (first | exact In.z | apply In.s))) | (refine Sub.suf ?_; (repeat (first | exact Suf.z | apply Suf.s)))))))
   apply exI
   ·
    intro h22
    refine lwant rfl rfl rfl rfl (o_ldw Tryz.isAgg59 Tryz.sizeOf59 rfl (by repeat (first | exact At.z | apply At.s)) (by rfl) rfl) ?_
    refine lwant rfl rfl rfl rfl (o_call (is := []) Tryz.call63 (c_primRight r1 z1 hf1) rfl rfl (by repeat (first | exact Sub.d | (refine Sub.s ?_ ?_; (repeat (first | exact In.z | apply In.s))) | (refine Sub.suf ?_; (repeat (first | exact Suf.z | apply Suf.s))))) rfl) ?_
    refine le ?_; intro x24
    refine lwant rfl rfl rfl rfl (op (p_not rfl) rfl) ?_
    refine ls (op (p_pickf rfl rfl) rfl) ?_
    refine ln (nmid (wk0 (by repeat (first | exact subσ.nil _ | refine subσ.cons rfl ?_)) (by repeat (first | exact Sub.d | (refine Sub.s ?_ ?_; (repeat (first | exact In.z | apply In.s))) | (refine Sub.suf ?_; (repeat (first | exact Suf.z | apply Suf.s)))))))
   ·
    refine ls (op (p_move rfl) rfl) ?_
    refine orX 4 27 31 rfl (subσ.cons (t := 0) rfl (subσ.cons (t := 1) rfl (subσ.cons (t := 2) rfl (subσ.cons (t := 3) rfl (subσ.cons (t := 4) rfl (subσ.cons (t := 5) rfl (subσ.cons (t := 6) rfl (subσ.cons (t := 12) rfl (subσ.cons (t := 14) rfl (subσ.cons (t := 15) rfl (subσ.cons (t := 16) rfl (subσ.cons (t := 13) rfl (subσ.cons (t := 17) rfl (subσ.cons (t := 18) rfl (subσ.cons (t := 19) rfl (subσ.nil _)))))))))))))))) ?_ ?_
    ·
     intro h27
     refine lskip rfl rfl rfl rfl rfl ?_
     refine lskip rfl rfl rfl rfl rfl ?_
     refine lskip rfl rfl rfl rfl rfl ?_
     refine ls (op (p_pickt rfl rfl) rfl) ?_
     refine ln (nmid (wk0 (by repeat (first | exact subσ.nil _ | refine subσ.cons rfl ?_)) (by repeat (first | exact Sub.d | (refine Sub.s ?_ ?_; (repeat (first | exact In.z | apply In.s))) | (refine Sub.suf ?_; (repeat (first | exact Suf.z | apply Suf.s)))))))
    apply exI
    ·
     intro h27
     refine lwant rfl rfl rfl rfl (o_ldw Tryz.isAgg59 Tryz.sizeOf59 rfl (by repeat (first | exact At.z | apply At.s)) (by rfl) rfl) ?_
     refine lwant rfl rfl rfl rfl (o_call (is := []) Tryz.call63 (c_primRight r2 z2 hf2) rfl rfl (by repeat (first | exact Sub.d | (refine Sub.s ?_ ?_; (repeat (first | exact In.z | apply In.s))) | (refine Sub.suf ?_; (repeat (first | exact Suf.z | apply Suf.s))))) rfl) ?_
     refine le ?_; intro x29
     refine lwant rfl rfl rfl rfl (op (p_not rfl) rfl) ?_
     refine ls (op (p_pickf rfl rfl) rfl) ?_
     refine ln (nmid (wk0 (by repeat (first | exact subσ.nil _ | refine subσ.cons rfl ?_)) (by repeat (first | exact Sub.d | (refine Sub.s ?_ ?_; (repeat (first | exact In.z | apply In.s))) | (refine Sub.suf ?_; (repeat (first | exact Suf.z | apply Suf.s)))))))
    ·
     refine ln ?_
     refine nthen ?_
     refine cc rfl ?_ ?_
     ·
      intro h31
      dsimp only at h31
      refine cs ?_
      refine cmono (fun a w h => nilSl (α := ByteArray) h) ?_
      refine cr ?_
      refine ls (op (p_bld sb59 rfl Fill.d) rfl) ?_
      refine ls (op (p_bld sb59 rfl Fill.d) rfl) ?_
      refine ls (o_st rfl Tryz.sizeOf59 rfl rfl rfl rfl rfl (by repeat (first | exact At.z | apply At.s)) (by repeat (first | exact Put.d | apply Put.t | apply Put.s)) (by repeat (first | exact SetAt.z | apply SetAt.s))) ?_
      refine ls (o_st rfl Tryz.sizeOf59 rfl rfl rfl rfl rfl (by repeat (first | exact At.z | apply At.s)) (by repeat (first | exact Put.d | apply Put.t | apply Put.s)) (by repeat (first | exact SetAt.z | apply SetAt.s))) ?_
      refine ls (op (p_asg rfl) rfl) ?_
      refine ln ?_
      refine nthen ?_
      refine cret ?_
      refine xret (fun _ _ h => h) ?_
      refine rret (is := []) ⟨((Prim.zero, Prim.zero, false), (((none, 0), (none, 0)), ((none, 0), (none, 0)))), by rw [swap, ← hr]; cases r3 <;> cases e1 : r1.right <;> cases e2 : r2.right <;> simp_all⟩ (Or.inl rfl) (Res.c rfl Tryz.isAgg59 Tryz.sizeOf59 (by repeat (first | exact At.z | apply At.s)) (by rfl) (Res.c rfl Tryz.isAgg59 Tryz.sizeOf59 (by repeat (first | exact At.z | apply At.s)) (by rfl) (Res.t rfl Res.d))) (rfl) rfl (by repeat (first | exact Sub.d | (refine Sub.s ?_ ?_; (repeat (first | exact In.z | apply In.s))) | (refine Sub.suf ?_; (repeat (first | exact Suf.z | apply Suf.s)))))
     ·
      intro h31
      dsimp only at h31
      refine cskip ?_
      refine nthen ?_
      refine cs ?_
      refine cd [1, 3, 4, 5] [(0, b4, 0, _), (2, b5, 0, _)] TryzX.mixed (TOk.t (isBoxS (by repeat (first | exact At.z | apply At.s)) (k := 6) (by repeat (first | exact Cut.d | apply Cut.t | apply Cut.s))) (TOk.t (isBoxS (by repeat (first | exact At.z | apply At.s)) (k := 6) (by repeat (first | exact Cut.d | apply Cut.t | apply Cut.s))) TOk.d)) ?_
      refine tk 0 rfl (by kernel_rfl) (fun _ _ _ h => h) gnone (TTat (List.Mem.head _)) (p_lda Tryz.isAgg59 Tryz.sizeOf59 rfl rfl) rfl ?_
      refine tk 2 rfl (by kernel_rfl) (fun _ _ _ h => h) gnone (TTat (List.Mem.tail _ (List.Mem.head _))) (p_lda Tryz.isAgg59 Tryz.sizeOf59 rfl rfl) rfl ?_
      refine df 1 (by kernel_rfl) ?_
      refine doR rfl (o_call (is := []) Tryz.call68 (c_primClone r1 z1 hf1) rfl rfl (by repeat (first | exact Sub.d | (refine Sub.s ?_ ?_; (repeat (first | exact In.z | apply In.s))) | (refine Sub.suf ?_; (repeat (first | exact Suf.z | apply Suf.s))))) rfl) (TOk.x (by kernel_rfl) (TOk.t (isBoxE fun _ => isBoxS (by repeat (first | exact At.z | apply At.s)) (k := 6) (by repeat (first | exact Cut.d | apply Cut.t | apply Cut.s))) TOk.d)) ?_
      refine ea ?_; intro y1
      refine df 3 (by kernel_rfl) ?_
      refine doR rfl (o_call (is := []) Tryz.call68 (c_primClone r2 z2 hf2) rfl rfl (by repeat (first | exact Sub.d | (refine Sub.s ?_ ?_; (repeat (first | exact In.z | apply In.s))) | (refine Sub.suf ?_; (repeat (first | exact Suf.z | apply Suf.s))))) rfl) (TOk.x (by kernel_rfl) (TOk.x (by kernel_rfl) TOk.d)) ?_
      refine ea ?_; intro y2
      refine df 4 (by kernel_rfl) ?_
      refine doR rfl (o_st rfl Tryz.sizeOf59 rfl rfl rfl rfl rfl (by repeat (first | exact At.z | apply At.s)) (by repeat (first | exact Put.d | apply Put.t | apply Put.s)) (by repeat (first | exact SetAt.z | apply SetAt.s))) (TOk.x (by kernel_rfl) (TOk.x (by kernel_rfl) TOk.d)) ?_
      refine df 5 (by kernel_rfl) ?_
      refine doR rfl (o_st rfl Tryz.sizeOf59 rfl rfl rfl rfl rfl (by repeat (first | exact At.z | apply At.s)) (by repeat (first | exact Put.d | apply Put.t | apply Put.s)) (by repeat (first | exact SetAt.z | apply SetAt.s))) (TOk.x (by kernel_rfl) (TOk.x (by kernel_rfl) TOk.d)) ?_
      refine tk 6 rfl (by kernel_rfl) (fun _ _ _ h => h) gnone (TTany _) (p_asg rfl) rfl ?_
      refine dn (by kernel_rfl) ?_
      refine nthen ?_
      refine cret ?_
      refine xret (fun _ _ h => h) ?_
      refine rret (is := []) ⟨((r1, r2, true), (y1, y2)), by rw [swap, ← hr]; cases r3 <;> cases e1 : r1.right <;> cases e2 : r2.right <;> simp_all⟩ (Or.inl rfl) (Res.c rfl Tryz.isAgg59 Tryz.sizeOf59 (by repeat (first | exact At.z | apply At.s)) (by rfl) (Res.c rfl Tryz.isAgg59 Tryz.sizeOf59 (by repeat (first | exact At.z | apply At.s)) (by rfl) (Res.t rfl Res.d))) (rfl) rfl (by repeat (first | exact Sub.d | (refine Sub.s ?_ ?_; (repeat (first | exact In.z | apply In.s))) | (refine Sub.suf ?_; (repeat (first | exact Suf.z | apply Suf.s)))))
  ·
   intro h12
   have h12' : (p.right && q.right) = false := h12
   refine cskip ?_
   refine nthen ?_
   refine cs ?_
   refine cs ?_
   refine cr ?_
   refine ls (op (p_move rfl) rfl) ?_
   refine ls (op (p_not rfl) rfl) ?_
   refine ls (op (p_move rfl) rfl) ?_
   refine lskip rfl rfl rfl rfl rfl ?_
   refine lskip rfl rfl rfl rfl rfl ?_
   refine lskip rfl rfl rfl rfl rfl ?_
   refine ls (op (p_pickt rfl rfl) rfl) ?_
   refine ls (op (p_move rfl) rfl) ?_
   refine lskip rfl rfl rfl rfl rfl ?_
   refine lskip rfl rfl rfl rfl rfl ?_
   refine lskip rfl rfl rfl rfl rfl ?_
   refine ls (op (p_pickt rfl rfl) rfl) ?_
   refine ln ?_
   refine nthen ?_
   refine cc rfl (fun h => ?_) (fun h => by cases h)
   refine cs ?_
   refine cmono (fun a w h => nilSl (α := ByteArray) h) ?_
   refine cr ?_
   refine ls (op (p_bld sb59 rfl Fill.d) rfl) ?_
   refine ls (op (p_bld sb59 rfl Fill.d) rfl) ?_
   refine ls (o_st rfl Tryz.sizeOf59 rfl rfl rfl rfl rfl (by repeat (first | exact At.z | apply At.s)) (by repeat (first | exact Put.d | apply Put.t | apply Put.s)) (by repeat (first | exact SetAt.z | apply SetAt.s))) ?_
   refine ls (o_st rfl Tryz.sizeOf59 rfl rfl rfl rfl rfl (by repeat (first | exact At.z | apply At.s)) (by repeat (first | exact Put.d | apply Put.t | apply Put.s)) (by repeat (first | exact SetAt.z | apply SetAt.s))) ?_
   refine ls (op (p_asg rfl) rfl) ?_
   refine ln ?_
   refine nthen ?_
   refine cret ?_
   refine xret (fun _ _ h => h) ?_
   refine rret (is := []) ⟨((Prim.zero, Prim.zero, false), (((none, 0), (none, 0)), ((none, 0), (none, 0)))), by rw [swap, h12']; rfl⟩ (Or.inl rfl) (Res.c rfl Tryz.isAgg59 Tryz.sizeOf59 (by repeat (first | exact At.z | apply At.s)) (by rfl) (Res.c rfl Tryz.isAgg59 Tryz.sizeOf59 (by repeat (first | exact At.z | apply At.s)) (by rfl) (Res.t rfl Res.d))) (rfl) rfl (by repeat (first | exact Sub.d | (refine Sub.s ?_ ?_; (repeat (first | exact In.z | apply In.s))) | (refine Sub.suf ?_; (repeat (first | exact Suf.z | apply Suf.s)))))

end Go.Proofs.YtogcgfdfabnjhaaGreatDoor.X

end
section
set_option linter.unusedVariables false
set_option linter.unusedSimpArgs false
namespace Go.Proofs.YtogcgfdfabnjhaaGreatDoor.X
open Go Go.RowKit Go.Proofs Go.Sx
attribute [local irreducible] slA isA box row

theorem byteAt_eq (s : ByteArray) (k : Nat) (h : k < (ofB s).length) : byteAt s k = ((ofB s)[k]).toNat := by
 unfold byteAt
 rw [List.getD_eq_getElem?_getD, List.getElem?_eq_getElem (show k < s.data.toList.length from h)]
 rfl
theorem take_no10 {l : List UInt8} {k : Nat} (hk : k < l.length) (h : (l.take k).contains 10 = false) (hn : ¬ l[k].toNat = 10) : (l.take (k + 1)).contains 10 = false := by
 rw [List.take_succ_eq_append_getElem hk]
 simp only [List.contains_eq_mem, List.mem_append, List.mem_singleton, decide_eq_false_iff_not, not_or] at h ⊢
 exact ⟨h, fun e => hn (by rw [← e]; rfl)⟩
theorem has10 {l : List UInt8} {k : Nat} (hk : k < l.length) (hn : l[k].toNat = 10) : l.contains 10 = true := by
 have e : l[k] = 10 := UInt8.toNat_inj.1 hn
 simp only [List.contains_eq_mem, decide_eq_true_eq]
 rw [← e]
 exact List.getElem_mem hk
theorem all_not {α : Type} {f : α → Bool} {l : List α} {x : α} (h : x ∈ l) (hf : f x = false) : l.all f = false := by
 rw [List.all_eq_false]
 exact ⟨x, h, by simp [hf]⟩
theorem named_byte {b : UInt8} {c : Nat} (h : c = b.toNat) : (!(decide ((97 : Int) ≤ (c : Int)) && decide ((c : Int) ≤ 122)) && !(decide ((48 : Int) ≤ (c : Int)) && decide ((c : Int) ≤ 57)) && !decide ((c : Int) = 46) && !decide ((c : Int) = 45) && !decide ((c : Int) = 95) && !decide ((c : Int) = 47)) = !nameB b := by
 subst h
 unfold nameB
 rw [Bool.eq_iff_iff]
 simp
 omega


set_option maxRecDepth 100000 in
theorem c_refLine (s : ByteArray) (hs : s.size ≤ 2000000) : Con Tryz.prog 39 [.string s] [] [] Unit (fun _ => .bool (lineOk s)) (fun _ => []) (fun _ => []) := by
 refine con Tryz.func39 rfl Tryz.ntmps39 rfl ?_
 intro M0 F0 w0
 refine cs ?_
 refine cr ?_
 refine ls (op (p_asg rfl) rfl) ?_
 refine ln ?_
 refine nthen ?_
 refine cs ?_
 refine cs ?_
 refine cr ?_
 refine ls (op (p_asg rfl) rfl) ?_
 refine ln ?_
 refine nthen ?_
 refine cb ?_
 refine cl (ι := {k : Nat // k ≤ s.size ∧ ((ofB s).take k).contains 10 = false}) (fun i => St M0 F0 w0 17 [(0, .string s), (3, .int .i64 (i.1 : Int))] [] []) (fun i => s.size - i.1) ⟨0, by simp⟩ (wk0 (by repeat (first | exact subσ.nil _ | refine subσ.cons rfl ?_)) (by repeat (first | exact Sub.d | (refine Sub.s ?_ ?_; (repeat (first | exact In.z | apply In.s))) | (refine Sub.suf ?_; (repeat (first | exact Suf.z | apply Suf.s)))))) ?_
 rintro ⟨k, hk, hkk⟩
 refine cmono (S' := St M0 F0 w0 17 [(0, .string s), (3, .int .i64 (k : Int))] [] []) (fun _ _ h => h) ?_
 refine cs ?_
 refine cs ?_
 refine cr ?_
 refine ls (op (p_move rfl) rfl) ?_
 refine ls (op (p_move rfl) rfl) ?_
 refine ls (op (p_lens rfl Tryz.underlying9) rfl) ?_
 refine ls (op (p_icmp rfl rfl rfl) rfl) ?_
 refine ln ?_
 refine nthen ?_
 refine cc rfl ?_ ?_
 ·
  intro h7
  try simp only [decide_eq_true_eq, decide_eq_false_iff_not, Bool.not_eq_true', Bool.not_eq_false', Int.not_lt, Int.not_le, ge_iff_le, Bool.not_true, Bool.not_false] at h7
  have hk1 : k < s.size := by omega
  have hk2 : k < (ofB s).length := hk1
  have hb := byteAt_eq s k hk2
  refine cskip ?_
  refine nthen ?_
  refine cs ?_
  refine cb ?_
  refine cs ?_
  refine cr ?_
  refine ls (op (p_move rfl) rfl) ?_
  refine ls (op (p_move rfl) rfl) ?_
  refine ls (op (p_idxs k hk1 rfl Tryz.underlying9 rfl rfl) rfl) ?_
  refine ls (op (p_icmp rfl rfl rfl) rfl) ?_
  refine ln ?_
  refine nthen ?_
  refine cc rfl ?_ ?_
  ·
   intro h13
   try simp only [decide_eq_true_eq, decide_eq_false_iff_not, Bool.not_eq_true', Bool.not_eq_false', Int.not_lt, Int.not_le, ge_iff_le, Bool.not_true, Bool.not_false] at h13
   refine cs ?_
   refine cr ?_
   refine ls (op (p_asg rfl) rfl) ?_
   refine ln ?_
   refine nthen ?_
   refine cret ?_
   refine xret (fun _ _ h => h) ?_
   refine rret (is := []) () (Or.inl rfl) (Res.t rfl Res.d) ?_ rfl (by repeat (first | exact Sub.d | (refine Sub.s ?_ ?_; (repeat (first | exact In.z | apply In.s))) | (refine Sub.suf ?_; (repeat (first | exact Suf.z | apply Suf.s)))))
   simp only [packV, lineOk]; rw [has10 hk2 (by omega)]; simp
  ·
   intro h13
   try simp only [decide_eq_true_eq, decide_eq_false_iff_not, Bool.not_eq_true', Bool.not_eq_false', Int.not_lt, Int.not_le, ge_iff_le, Bool.not_true, Bool.not_false] at h13
   refine cskip ?_
   refine nblock ?_
   refine nthen ?_
   refine cr ?_
   refine ls (op (p_move rfl) rfl) ?_
   refine ls (op (p_add rfl rfl (by omega)) rfl) ?_
   refine ls (op (p_asg rfl) rfl) ?_
   refine ln ?_
   refine nnext ⟨k + 1, hk1, take_no10 hk2 hkk (by omega)⟩ (by dsimp only; omega) (wk0 (by repeat (first | exact subσ.nil _ | refine subσ.cons rfl ?_)) (by repeat (first | exact Sub.d | (refine Sub.s ?_ ?_; (repeat (first | exact In.z | apply In.s))) | (refine Sub.suf ?_; (repeat (first | exact Suf.z | apply Suf.s))))))
 ·
  intro h7
  try simp only [decide_eq_true_eq, decide_eq_false_iff_not, Bool.not_eq_true', Bool.not_eq_false', Int.not_lt, Int.not_le, ge_iff_le, Bool.not_true, Bool.not_false] at h7
  refine cexit ?_
  refine xthen ?_
  refine xthen ?_
  refine xblock ?_
  refine nthen ?_
  refine cs ?_
  refine cr ?_
  refine ls (op (p_move rfl) rfl) ?_
  refine ls (op (p_lens rfl Tryz.underlying9) rfl) ?_
  refine ls (op (p_icmp rfl rfl rfl) rfl) ?_
  refine ls (op (p_asg rfl) rfl) ?_
  refine ln ?_
  refine nthen ?_
  refine cret ?_
  refine xret (fun _ _ h => h) ?_
  refine rret (is := []) () (Or.inl rfl) (Res.t rfl Res.d) ?_ rfl (by repeat (first | exact Sub.d | (refine Sub.s ?_ ?_; (repeat (first | exact In.z | apply In.s))) | (refine Sub.suf ?_; (repeat (first | exact Suf.z | apply Suf.s)))))
  simp only [packV, lineOk]; rw [List.take_of_length_le (by show s.size ≤ k; omega)] at hkk; rw [hkk]; simp

set_option maxRecDepth 100000 in
theorem c_refAll (l : List ByteArray) (A : Option Addr) (c : Nat) (hl : l.length ≤ 2000000) (hs : ∀ s ∈ l, s.size ≤ 2000000) : Con Tryz.prog 79 [.slice A l.length c] [] [slA A l] Unit (fun _ => .bool (l.all lineOk)) (fun _ => []) (fun _ => []) := by
 refine con Tryz.func79 rfl Tryz.ntmps79 rfl ?_
 intro M0 F0 w0
 refine cs ?_
 refine cr ?_
 refine ls (op (p_asg rfl) rfl) ?_
 refine ln ?_
 refine nthen ?_
 refine cs ?_
 refine cs ?_
 refine cr ?_
 refine ls (op (p_asg rfl) rfl) ?_
 refine ln ?_
 refine nthen ?_
 refine cb ?_
 refine cl (ι := {k : Nat // k ≤ l.length ∧ (l.take k).all lineOk = true}) (fun i => St M0 F0 w0 16 [(0, .slice A l.length c), (3, .int .i64 (i.1 : Int))] [] [slA A l]) (fun i => l.length - i.1) ⟨0, by simp⟩ (wk0 (by repeat (first | exact subσ.nil _ | refine subσ.cons rfl ?_)) (by repeat (first | exact Sub.d | (refine Sub.s ?_ ?_; (repeat (first | exact In.z | apply In.s))) | (refine Sub.suf ?_; (repeat (first | exact Suf.z | apply Suf.s)))))) ?_
 rintro ⟨k, hk, hkk⟩
 refine cmono (S' := St M0 F0 w0 16 [(0, .slice A l.length c), (3, .int .i64 (k : Int))] [] [slA A l]) (fun _ _ h => h) ?_
 refine cs ?_
 refine cs ?_
 refine cr ?_
 refine ls (op (p_move rfl) rfl) ?_
 refine ls (op (p_move rfl) rfl) ?_
 refine ls (op (p_lenl rfl Tryz.underlying57) rfl) ?_
 refine ls (op (p_icmp rfl rfl rfl) rfl) ?_
 refine ln ?_
 refine nthen ?_
 refine cc rfl ?_ ?_
 ·
  intro h7
  try simp only [decide_eq_true_eq, decide_eq_false_iff_not, Bool.not_eq_true', Bool.not_eq_false', Int.not_lt, Int.not_le, ge_iff_le, Bool.not_true, Bool.not_false] at h7
  have hk1 : k < l.length := by omega
  refine cskip ?_
  refine nthen ?_
  refine cs ?_
  refine cb ?_
  refine cs ?_
  refine elC (by repeat (first | exact At.z | apply At.s)) k (List.getElem?_eq_getElem (l := l) hk1) ?_; rintro zbp zop zyp hAp
  refine cr ?_
  refine ls (op (p_move rfl) rfl) ?_
  refine ls (op (p_move rfl) rfl) ?_
  refine ls (op (p_ia k hAp hk1 rfl Tryz.underlying57 Tryz.sizeOf9 rfl rfl) rfl) ?_
  refine ls (o_ldi Tryz.isAgg9 rfl (by repeat (first | exact At.z | apply At.s)) 0 rfl (by repeat (first | exact Cut.d | apply Cut.t | apply Cut.s)) rfl) ?_
  refine ls (o_call (is := []) Tryz.call39 (c_refLine _ (hs _ (List.getElem_mem hk1))) rfl rfl (by repeat (first | exact Sub.d | (refine Sub.s ?_ ?_; (repeat (first | exact In.z | apply In.s))) | (refine Sub.suf ?_; (repeat (first | exact Suf.z | apply Suf.s))))) rfl) ?_
  refine le ?_; intro x14
  refine ls (op (p_not rfl) rfl) ?_
  refine ln ?_
  refine nthen ?_
  refine cc rfl ?_ ?_
  ·
   intro h15
   try simp only [decide_eq_true_eq, decide_eq_false_iff_not, Bool.not_eq_true', Bool.not_eq_false', Int.not_lt, Int.not_le, ge_iff_le, Bool.not_true, Bool.not_false] at h15
   refine cs ?_
   refine cr ?_
   refine ls (op (p_asg rfl) rfl) ?_
   refine ln ?_
   refine nthen ?_
   refine cret ?_
   refine xret (fun _ _ h => h) ?_
   refine rret (is := []) () (Or.inl rfl) (Res.t rfl Res.d) ?_ rfl (by repeat (first | exact Sub.d | (refine Sub.s ?_ ?_; (repeat (first | exact In.z | apply In.s))) | (refine Sub.suf ?_; (repeat (first | exact Suf.z | apply Suf.s)))))
   simp only [packV]; rw [all_not (List.getElem_mem hk1) h15]
  ·
   intro h15
   try simp only [decide_eq_true_eq, decide_eq_false_iff_not, Bool.not_eq_true', Bool.not_eq_false', Int.not_lt, Int.not_le, ge_iff_le, Bool.not_true, Bool.not_false] at h15
   refine cskip ?_
   refine nblock ?_
   refine nthen ?_
   refine cr ?_
   refine ls (op (p_move rfl) rfl) ?_
   refine ls (op (p_add rfl rfl (by omega)) rfl) ?_
   refine ls (op (p_asg rfl) rfl) ?_
   refine ln ?_
   refine nnext ⟨k + 1, hk1, by rw [List.take_succ_eq_append_getElem hk1, List.all_append, hkk]; simp [h15]⟩ (by dsimp only; omega) (wk0 (by repeat (first | exact subσ.nil _ | refine subσ.cons rfl ?_)) (by repeat (first | exact Sub.d | (refine Sub.s ?_ ?_; (repeat (first | exact In.z | apply In.s))) | (refine Sub.suf ?_; (repeat (first | exact Suf.z | apply Suf.s))))))
 ·
  intro h7
  try simp only [decide_eq_true_eq, decide_eq_false_iff_not, Bool.not_eq_true', Bool.not_eq_false', Int.not_lt, Int.not_le, ge_iff_le, Bool.not_true, Bool.not_false] at h7
  refine cexit ?_
  refine xthen ?_
  refine xthen ?_
  refine xblock ?_
  refine nthen ?_
  refine cs ?_
  refine cr ?_
  refine ls (op (p_asg rfl) rfl) ?_
  refine ln ?_
  refine nthen ?_
  refine cret ?_
  refine xret (fun _ _ h => h) ?_
  refine rret (is := []) () (Or.inl rfl) (Res.t rfl Res.d) ?_ rfl (by repeat (first | exact Sub.d | (refine Sub.s ?_ ?_; (repeat (first | exact In.z | apply In.s))) | (refine Sub.suf ?_; (repeat (first | exact Suf.z | apply Suf.s)))))
  simp only [packV]; rw [List.take_of_length_le (by omega)] at hkk; rw [hkk]

set_option maxRecDepth 100000 in
theorem c_refSame1 (l m : List ByteArray) (A B : Option Addr) (c c' : Nat) (hl : l.length ≤ 2000000) : Con Tryz.prog 93 [.slice A l.length c, .slice B m.length c'] [] [slA A l, slA B m] Unit (fun _ => .bool (decide (l = m))) (fun _ => []) (fun _ => []) := by
 refine con Tryz.func93 rfl Tryz.ntmps93 rfl ?_
 intro M0 F0 w0
 refine cs ?_
 refine cr ?_
 refine ls (op (p_asg rfl) rfl) ?_
 refine ln ?_
 refine nthen ?_
 refine cs ?_
 refine cs ?_
 refine cr ?_
 refine ls (op (p_move rfl) rfl) ?_
 refine ls (op (p_lenl rfl Tryz.underlying57) rfl) ?_
 refine ls (op (p_move rfl) rfl) ?_
 refine ls (op (p_lenl rfl Tryz.underlying57) rfl) ?_
 refine ls (op (p_icmp rfl rfl rfl) rfl) ?_
 refine ln ?_
 refine nthen ?_
 refine cc rfl ?_ ?_
 ·
  intro h10
  try simp only [decide_eq_true_eq, decide_eq_false_iff_not, Bool.not_eq_true', Bool.not_eq_false', Int.not_lt, Int.not_le, ge_iff_le, Bool.not_true, Bool.not_false] at h10
  refine cs ?_
  refine cr ?_
  refine ls (op (p_asg rfl) rfl) ?_
  refine ln ?_
  refine nthen ?_
  refine cret ?_
  refine xret (fun _ _ h => h) ?_
  refine rret (is := []) () (Or.inl rfl) (Res.t rfl Res.d) ?_ rfl (by repeat (first | exact Sub.d | (refine Sub.s ?_ ?_; (repeat (first | exact In.z | apply In.s))) | (refine Sub.suf ?_; (repeat (first | exact Suf.z | apply Suf.s)))))
  simp [packV]; intro e; rw [e] at h10; exact h10 rfl
 ·
  intro h10
  try simp only [decide_eq_true_eq, decide_eq_false_iff_not, Bool.not_eq_true', Bool.not_eq_false', Int.not_lt, Int.not_le, ge_iff_le, Bool.not_true, Bool.not_false] at h10
  refine cskip ?_
  refine nthen ?_
  refine cs ?_
  refine cs ?_
  refine cr ?_
  refine ls (op (p_asg rfl) rfl) ?_
  refine ln ?_
  refine nthen ?_
  refine cb ?_
  refine cl (ι := {k : Nat // k ≤ l.length ∧ l.take k = m.take k}) (fun i => St M0 F0 w0 26 [(0, .slice A l.length c), (1, .slice B m.length c'), (5, .int .i64 (i.1 : Int))] [] [slA A l, slA B m]) (fun i => l.length - i.1) ⟨0, by simp⟩ (wk0 (by repeat (first | exact subσ.nil _ | refine subσ.cons rfl ?_)) (by repeat (first | exact Sub.d | (refine Sub.s ?_ ?_; (repeat (first | exact In.z | apply In.s))) | (refine Sub.suf ?_; (repeat (first | exact Suf.z | apply Suf.s)))))) ?_
  rintro ⟨k, hk, hkk⟩
  refine cmono (S' := St M0 F0 w0 26 [(0, .slice A l.length c), (1, .slice B m.length c'), (5, .int .i64 (k : Int))] [] [slA A l, slA B m]) (fun _ _ h => h) ?_
  refine cs ?_
  refine cs ?_
  refine cr ?_
  refine ls (op (p_move rfl) rfl) ?_
  refine ls (op (p_move rfl) rfl) ?_
  refine ls (op (p_lenl rfl Tryz.underlying57) rfl) ?_
  refine ls (op (p_icmp rfl rfl rfl) rfl) ?_
  refine ln ?_
  refine nthen ?_
  refine cc rfl ?_ ?_
  ·
   intro h14
   try simp only [decide_eq_true_eq, decide_eq_false_iff_not, Bool.not_eq_true', Bool.not_eq_false', Int.not_lt, Int.not_le, ge_iff_le, Bool.not_true, Bool.not_false] at h14
   have hk1 : k < l.length := by omega
   have hk2 : k < m.length := by omega
   refine cskip ?_
   refine nthen ?_
   refine cs ?_
   refine cb ?_
   refine cs ?_
   refine elC (by repeat (first | exact At.z | apply At.s)) k (List.getElem?_eq_getElem (l := l) hk1) ?_; rintro zbp zop zyp hAp
   refine elC (by repeat (first | exact At.z | apply At.s)) k (List.getElem?_eq_getElem (l := m) hk2) ?_; rintro zbq zoq zyq hAq
   refine cd [] [(3, zbp, zop + k * Rp.size ByteArray, _), (7, zbq, zoq + k * Rp.size ByteArray, _)] TryzX.mixed (TOk.t (isInS (by repeat (first | exact At.z | apply At.s)) (k := 0) rfl (z := 1) (by repeat (first | exact Cut.d | apply Cut.t | apply Cut.s))) (TOk.t (isInS (by repeat (first | exact At.z | apply At.s)) (k := 0) rfl (z := 1) (by repeat (first | exact Cut.d | apply Cut.t | apply Cut.s))) TOk.d)) ?_
   refine tk 0 rfl (by kernel_rfl) (fun _ _ _ h => h) gnone (TTany _) (p_move rfl) rfl ?_
   refine tk 1 rfl (by kernel_rfl) (fun _ _ _ h => h) gnone (TTany _) (p_move rfl) rfl ?_
   refine tk 2 rfl (by kernel_rfl) (fun _ _ _ h => h) gnone (TTany _) (p_ia k hAp hk1 rfl Tryz.underlying57 Tryz.sizeOf9 rfl rfl) rfl ?_
   refine tk 3 rfl (by kernel_rfl) (fun _ _ _ h => h) gnone (TTat (List.Mem.head _)) (p_ld Tryz.isAgg9 rfl) rfl ?_
   refine tk 4 rfl (by kernel_rfl) (fun _ _ _ h => h) gnone (TTany _) (p_move rfl) rfl ?_
   refine tk 5 rfl (by kernel_rfl) (fun _ _ _ h => h) gnone (TTany _) (p_move rfl) rfl ?_
   refine tk 6 rfl (by kernel_rfl) (fun _ _ _ h => h) gnone (TTany _) (p_ia k hAq hk2 rfl Tryz.underlying57 Tryz.sizeOf9 rfl rfl) rfl ?_
   refine tk 7 rfl (by kernel_rfl) (fun _ _ _ h => h) gnone (TTat (List.Mem.tail _ (List.Mem.head _))) (p_ld Tryz.isAgg9 rfl) rfl ?_
   refine tk 8 rfl (by kernel_rfl) (fun _ _ _ h => h) gnone (TTany _) (p_sne rfl rfl) rfl ?_
   refine dn (by kernel_rfl) ?_
   refine nthen ?_
   refine cc rfl ?_ ?_
   ·
    intro h25
    try simp only [decide_eq_true_eq, decide_eq_false_iff_not, Bool.not_eq_true', Bool.not_eq_false', Int.not_lt, Int.not_le, ge_iff_le, Bool.not_true, Bool.not_false] at h25
    refine cs ?_
    refine cr ?_
    refine ls (op (p_asg rfl) rfl) ?_
    refine ln ?_
    refine nthen ?_
    refine cret ?_
    refine xret (fun _ _ h => h) ?_
    refine rret (is := []) () (Or.inl rfl) (Res.t rfl Res.d) ?_ rfl (by repeat (first | exact Sub.d | (refine Sub.s ?_ ?_; (repeat (first | exact In.z | apply In.s))) | (refine Sub.suf ?_; (repeat (first | exact Suf.z | apply Suf.s)))))
    simp [packV]; rintro rfl; exact h25 rfl
   ·
    intro h25
    try simp only [decide_eq_true_eq, decide_eq_false_iff_not, Bool.not_eq_true', Bool.not_eq_false', Int.not_lt, Int.not_le, ge_iff_le, Bool.not_true, Bool.not_false] at h25
    refine cskip ?_
    refine nblock ?_
    refine nthen ?_
    refine cr ?_
    refine ls (op (p_move rfl) rfl) ?_
    refine ls (op (p_add rfl rfl (by omega)) rfl) ?_
    refine ls (op (p_asg rfl) rfl) ?_
    refine ln ?_
    refine nnext ⟨k + 1, hk1, by rw [List.take_succ_eq_append_getElem hk1, List.take_succ_eq_append_getElem hk2, hkk, h25]⟩ (by dsimp only; omega) (wk0 (by repeat (first | exact subσ.nil _ | refine subσ.cons rfl ?_)) (by repeat (first | exact Sub.d | (refine Sub.s ?_ ?_; (repeat (first | exact In.z | apply In.s))) | (refine Sub.suf ?_; (repeat (first | exact Suf.z | apply Suf.s))))))
  ·
   intro h14
   try simp only [decide_eq_true_eq, decide_eq_false_iff_not, Bool.not_eq_true', Bool.not_eq_false', Int.not_lt, Int.not_le, ge_iff_le, Bool.not_true, Bool.not_false] at h14
   refine cexit ?_
   refine xthen ?_
   refine xthen ?_
   refine xblock ?_
   refine nthen ?_
   refine cs ?_
   refine cr ?_
   refine ls (op (p_asg rfl) rfl) ?_
   refine ln ?_
   refine nthen ?_
   refine cret ?_
   refine xret (fun _ _ h => h) ?_
   refine rret (is := []) () (Or.inl rfl) (Res.t rfl Res.d) ?_ rfl (by repeat (first | exact Sub.d | (refine Sub.s ?_ ?_; (repeat (first | exact In.z | apply In.s))) | (refine Sub.suf ?_; (repeat (first | exact Suf.z | apply Suf.s)))))
   simp [packV]; have := List.take_of_length_le (l := l) (i := k) (by omega); have := List.take_of_length_le (l := m) (i := k) (by omega); simp_all

set_option maxRecDepth 100000 in
theorem c_refNamed (s : ByteArray) (hs : s.size ≤ 2000000) : Con Tryz.prog 76 [.string s] [] [] Unit (fun _ => .bool (nameOk s)) (fun _ => []) (fun _ => []) := by
 refine con Tryz.func76 rfl Tryz.ntmps76 rfl ?_
 intro M0 F0 w0
 refine cs ?_
 refine cr ?_
 refine ls (op (p_asg rfl) rfl) ?_
 refine ln ?_
 refine nthen ?_
 refine cs ?_
 refine cs ?_
 refine cr ?_
 refine ls (op (p_asg rfl) rfl) ?_
 refine ln ?_
 refine nthen ?_
 refine cb ?_
 refine cl (ι := {k : Nat // k ≤ s.size ∧ ((ofB s).take k).all nameB = true}) (fun i => St M0 F0 w0 54 [(0, .string s), (3, .int .i64 (i.1 : Int))] [] []) (fun i => s.size - i.1) ⟨0, by simp⟩ (wk0 (by repeat (first | exact subσ.nil _ | refine subσ.cons rfl ?_)) (by repeat (first | exact Sub.d | (refine Sub.s ?_ ?_; (repeat (first | exact In.z | apply In.s))) | (refine Sub.suf ?_; (repeat (first | exact Suf.z | apply Suf.s)))))) ?_
 rintro ⟨k, hk, hkk⟩
 refine cmono (S' := St M0 F0 w0 54 [(0, .string s), (3, .int .i64 (k : Int))] [] []) (fun _ _ h => h) ?_
 refine cs ?_
 refine cs ?_
 refine cr ?_
 refine ls (op (p_move rfl) rfl) ?_
 refine ls (op (p_move rfl) rfl) ?_
 refine ls (op (p_lens rfl Tryz.underlying9) rfl) ?_
 refine ls (op (p_icmp rfl rfl rfl) rfl) ?_
 refine ln ?_
 refine nthen ?_
 refine cc rfl ?_ ?_
 ·
  intro h8
  try simp only [decide_eq_true_eq, decide_eq_false_iff_not, Bool.not_eq_true', Bool.not_eq_false', Int.not_lt, Int.not_le, ge_iff_le, Bool.not_true, Bool.not_false] at h8
  have hk1 : k < s.size := by omega
  have hk2 : k < (ofB s).length := hk1
  have hb := byteAt_eq s k hk2
  refine cskip ?_
  refine nthen ?_
  refine cs ?_
  refine cb ?_
  refine cs ?_
  refine cr ?_
  refine ls (op (p_move rfl) rfl) ?_
  refine ls (op (p_move rfl) rfl) ?_
  refine ls (op (p_idxs k hk1 rfl Tryz.underlying9 rfl rfl) rfl) ?_
  refine ls (op (p_asg rfl) rfl) ?_
  refine ln ?_
  refine nthen ?_
  refine cs ?_
  refine cr ?_
  refine ls (op (p_move rfl) rfl) ?_
  refine ls (op (p_icmp rfl rfl rfl) rfl) ?_
  refine ls (op (p_move rfl) rfl) ?_
  refine andX 3 16 19 rfl (subσ.cons (t := 0) rfl (subσ.cons (t := 3) rfl (subσ.cons (t := 5) rfl (subσ.cons (t := 6) rfl (subσ.cons (t := 7) rfl (subσ.cons (t := 8) rfl (subσ.cons (t := 11) rfl (subσ.cons (t := 12) rfl (subσ.cons (t := 13) rfl (subσ.cons (t := 4) rfl (subσ.nil _))))))))))) ?_ ?_
  ·
   intro h16
   refine lskip rfl rfl rfl rfl rfl ?_
   refine lskip rfl rfl rfl rfl rfl ?_
   refine ls (op (p_pickf rfl rfl) rfl) ?_
   refine ln (nmid (wk0 (by repeat (first | exact subσ.nil _ | refine subσ.cons rfl ?_)) (by repeat (first | exact Sub.d | (refine Sub.s ?_ ?_; (repeat (first | exact In.z | apply In.s))) | (refine Sub.suf ?_; (repeat (first | exact Suf.z | apply Suf.s)))))))
  apply exI
  ·
   intro h16
   refine lwant rfl rfl rfl rfl (op (p_move rfl) rfl) ?_
   refine lwant rfl rfl rfl rfl (op (p_icmp rfl rfl rfl) rfl) ?_
   refine ls (op (p_pickt rfl rfl) rfl) ?_
   refine ln (nmid (wk0 (by repeat (first | exact subσ.nil _ | refine subσ.cons rfl ?_)) (by repeat (first | exact Sub.d | (refine Sub.s ?_ ?_; (repeat (first | exact In.z | apply In.s))) | (refine Sub.suf ?_; (repeat (first | exact Suf.z | apply Suf.s)))))))
  ·
   refine ls (op (p_not rfl) rfl) ?_
   refine ls (op (p_move rfl) rfl) ?_
   refine andX 8 21 29 rfl (subσ.cons (t := 0) rfl (subσ.cons (t := 3) rfl (subσ.cons (t := 5) rfl (subσ.cons (t := 6) rfl (subσ.cons (t := 7) rfl (subσ.cons (t := 8) rfl (subσ.cons (t := 11) rfl (subσ.cons (t := 12) rfl (subσ.cons (t := 13) rfl (subσ.cons (t := 4) rfl (subσ.nil _))))))))))) ?_ ?_
   ·
    intro h21
    refine lskip rfl rfl rfl rfl rfl ?_
    refine lskip rfl rfl rfl rfl rfl ?_
    refine lskip rfl rfl rfl rfl rfl ?_
    refine lskipu rfl rfl rfl rfl ?_
    refine lskipu rfl rfl rfl rfl ?_
    refine lskip rfl rfl rfl rfl rfl ?_
    refine lskip rfl rfl rfl rfl rfl ?_
    refine ls (op (p_pickf rfl rfl) rfl) ?_
    refine ln (nmid (wk0 (by repeat (first | exact subσ.nil _ | refine subσ.cons rfl ?_)) (by repeat (first | exact Sub.d | (refine Sub.s ?_ ?_; (repeat (first | exact In.z | apply In.s))) | (refine Sub.suf ?_; (repeat (first | exact Suf.z | apply Suf.s)))))))
   apply exI
   ·
    intro h21
    refine lwant rfl rfl rfl rfl (op (p_move rfl) rfl) ?_
    refine lwant rfl rfl rfl rfl (op (p_icmp rfl rfl rfl) rfl) ?_
    refine lwant rfl rfl rfl rfl (op (p_move rfl) rfl) ?_
    refine andX 3 24 27 rfl (subσ.cons (t := 0) rfl (subσ.cons (t := 3) rfl (subσ.cons (t := 5) rfl (subσ.cons (t := 6) rfl (subσ.cons (t := 7) rfl (subσ.cons (t := 8) rfl (subσ.cons (t := 11) rfl (subσ.cons (t := 12) rfl (subσ.cons (t := 13) rfl (subσ.cons (t := 4) rfl (subσ.cons (t := 21) rfl (subσ.nil _)))))))))))) ?_ ?_
    ·
     intro h24
     refine lskip rfl rfl rfl rfl rfl ?_
     refine lskip rfl rfl rfl rfl rfl ?_
     refine lwant rfl rfl rfl rfl (op (p_pickf rfl rfl) rfl) ?_
     refine ln (nmid (wk0 (by repeat (first | exact subσ.nil _ | refine subσ.cons rfl ?_)) (by repeat (first | exact Sub.d | (refine Sub.s ?_ ?_; (repeat (first | exact In.z | apply In.s))) | (refine Sub.suf ?_; (repeat (first | exact Suf.z | apply Suf.s)))))))
    apply exI
    ·
     intro h24
     refine lwant rfl rfl rfl rfl (op (p_move rfl) rfl) ?_
     refine lwant rfl rfl rfl rfl (op (p_icmp rfl rfl rfl) rfl) ?_
     refine lwant rfl rfl rfl rfl (op (p_pickt rfl rfl) rfl) ?_
     refine ln (nmid (wk0 (by repeat (first | exact subσ.nil _ | refine subσ.cons rfl ?_)) (by repeat (first | exact Sub.d | (refine Sub.s ?_ ?_; (repeat (first | exact In.z | apply In.s))) | (refine Sub.suf ?_; (repeat (first | exact Suf.z | apply Suf.s)))))))
    ·
     refine lwant rfl rfl rfl rfl (op (p_not rfl) rfl) ?_
     refine ls (op (p_pickt rfl rfl) rfl) ?_
     refine ln (nmid (wk0 (by repeat (first | exact subσ.nil _ | refine subσ.cons rfl ?_)) (by repeat (first | exact Sub.d | (refine Sub.s ?_ ?_; (repeat (first | exact In.z | apply In.s))) | (refine Sub.suf ?_; (repeat (first | exact Suf.z | apply Suf.s)))))))
   ·
    refine ls (op (p_move rfl) rfl) ?_
    refine andX 3 30 33 rfl (subσ.cons (t := 0) rfl (subσ.cons (t := 3) rfl (subσ.cons (t := 5) rfl (subσ.cons (t := 6) rfl (subσ.cons (t := 7) rfl (subσ.cons (t := 8) rfl (subσ.cons (t := 11) rfl (subσ.cons (t := 12) rfl (subσ.cons (t := 13) rfl (subσ.cons (t := 4) rfl (subσ.nil _))))))))))) ?_ ?_
    ·
     intro h30
     refine lskip rfl rfl rfl rfl rfl ?_
     refine lskip rfl rfl rfl rfl rfl ?_
     refine ls (op (p_pickf rfl rfl) rfl) ?_
     refine ln (nmid (wk0 (by repeat (first | exact subσ.nil _ | refine subσ.cons rfl ?_)) (by repeat (first | exact Sub.d | (refine Sub.s ?_ ?_; (repeat (first | exact In.z | apply In.s))) | (refine Sub.suf ?_; (repeat (first | exact Suf.z | apply Suf.s)))))))
    apply exI
    ·
     intro h30
     refine lwant rfl rfl rfl rfl (op (p_move rfl) rfl) ?_
     refine lwant rfl rfl rfl rfl (op (p_icmp rfl rfl rfl) rfl) ?_
     refine ls (op (p_pickt rfl rfl) rfl) ?_
     refine ln (nmid (wk0 (by repeat (first | exact subσ.nil _ | refine subσ.cons rfl ?_)) (by repeat (first | exact Sub.d | (refine Sub.s ?_ ?_; (repeat (first | exact In.z | apply In.s))) | (refine Sub.suf ?_; (repeat (first | exact Suf.z | apply Suf.s)))))))
    ·
     refine ls (op (p_move rfl) rfl) ?_
     refine andX 3 34 37 rfl (subσ.cons (t := 0) rfl (subσ.cons (t := 3) rfl (subσ.cons (t := 5) rfl (subσ.cons (t := 6) rfl (subσ.cons (t := 7) rfl (subσ.cons (t := 8) rfl (subσ.cons (t := 11) rfl (subσ.cons (t := 12) rfl (subσ.cons (t := 13) rfl (subσ.cons (t := 4) rfl (subσ.nil _))))))))))) ?_ ?_
     ·
      intro h34
      refine lskip rfl rfl rfl rfl rfl ?_
      refine lskip rfl rfl rfl rfl rfl ?_
      refine ls (op (p_pickf rfl rfl) rfl) ?_
      refine ln (nmid (wk0 (by repeat (first | exact subσ.nil _ | refine subσ.cons rfl ?_)) (by repeat (first | exact Sub.d | (refine Sub.s ?_ ?_; (repeat (first | exact In.z | apply In.s))) | (refine Sub.suf ?_; (repeat (first | exact Suf.z | apply Suf.s)))))))
     apply exI
     ·
      intro h34
      refine lwant rfl rfl rfl rfl (op (p_move rfl) rfl) ?_
      refine lwant rfl rfl rfl rfl (op (p_icmp rfl rfl rfl) rfl) ?_
      refine ls (op (p_pickt rfl rfl) rfl) ?_
      refine ln (nmid (wk0 (by repeat (first | exact subσ.nil _ | refine subσ.cons rfl ?_)) (by repeat (first | exact Sub.d | (refine Sub.s ?_ ?_; (repeat (first | exact In.z | apply In.s))) | (refine Sub.suf ?_; (repeat (first | exact Suf.z | apply Suf.s)))))))
     ·
      refine ls (op (p_move rfl) rfl) ?_
      refine andX 3 38 41 rfl (subσ.cons (t := 0) rfl (subσ.cons (t := 3) rfl (subσ.cons (t := 5) rfl (subσ.cons (t := 6) rfl (subσ.cons (t := 7) rfl (subσ.cons (t := 8) rfl (subσ.cons (t := 11) rfl (subσ.cons (t := 12) rfl (subσ.cons (t := 13) rfl (subσ.cons (t := 4) rfl (subσ.nil _))))))))))) ?_ ?_
      ·
       intro h38
       refine lskip rfl rfl rfl rfl rfl ?_
       refine lskip rfl rfl rfl rfl rfl ?_
       refine ls (op (p_pickf rfl rfl) rfl) ?_
       refine ln (nmid (wk0 (by repeat (first | exact subσ.nil _ | refine subσ.cons rfl ?_)) (by repeat (first | exact Sub.d | (refine Sub.s ?_ ?_; (repeat (first | exact In.z | apply In.s))) | (refine Sub.suf ?_; (repeat (first | exact Suf.z | apply Suf.s)))))))
      apply exI
      ·
       intro h38
       refine lwant rfl rfl rfl rfl (op (p_move rfl) rfl) ?_
       refine lwant rfl rfl rfl rfl (op (p_icmp rfl rfl rfl) rfl) ?_
       refine ls (op (p_pickt rfl rfl) rfl) ?_
       refine ln (nmid (wk0 (by repeat (first | exact subσ.nil _ | refine subσ.cons rfl ?_)) (by repeat (first | exact Sub.d | (refine Sub.s ?_ ?_; (repeat (first | exact In.z | apply In.s))) | (refine Sub.suf ?_; (repeat (first | exact Suf.z | apply Suf.s)))))))
      ·
       refine ls (op (p_move rfl) rfl) ?_
       refine andX 3 42 45 rfl (subσ.cons (t := 0) rfl (subσ.cons (t := 3) rfl (subσ.cons (t := 5) rfl (subσ.cons (t := 6) rfl (subσ.cons (t := 7) rfl (subσ.cons (t := 8) rfl (subσ.cons (t := 11) rfl (subσ.cons (t := 12) rfl (subσ.cons (t := 13) rfl (subσ.nil _)))))))))) ?_ ?_
       ·
        intro h42
        refine lskip rfl rfl rfl rfl rfl ?_
        refine lskip rfl rfl rfl rfl rfl ?_
        refine ls (op (p_pickf rfl rfl) rfl) ?_
        refine ln (nmid (wk0 (by repeat (first | exact subσ.nil _ | refine subσ.cons rfl ?_)) (by repeat (first | exact Sub.d | (refine Sub.s ?_ ?_; (repeat (first | exact In.z | apply In.s))) | (refine Sub.suf ?_; (repeat (first | exact Suf.z | apply Suf.s)))))))
       apply exI
       ·
        intro h42
        refine lwant rfl rfl rfl rfl (op (p_move rfl) rfl) ?_
        refine lwant rfl rfl rfl rfl (op (p_icmp rfl rfl rfl) rfl) ?_
        refine ls (op (p_pickt rfl rfl) rfl) ?_
        refine ln (nmid (wk0 (by repeat (first | exact subσ.nil _ | refine subσ.cons rfl ?_)) (by repeat (first | exact Sub.d | (refine Sub.s ?_ ?_; (repeat (first | exact In.z | apply In.s))) | (refine Sub.suf ?_; (repeat (first | exact Suf.z | apply Suf.s)))))))
       ·
        refine ln ?_
        refine nthen ?_
        refine cc rfl ?_ ?_
        ·
         intro h45
         have h46 := named_byte hb ▸ h45
         refine cs ?_
         refine cr ?_
         refine ls (op (p_asg rfl) rfl) ?_
         refine ln ?_
         refine nthen ?_
         refine cret ?_
         refine xret (fun _ _ h => h) ?_
         refine rret (is := []) () (Or.inl rfl) (Res.t rfl Res.d) ?_ rfl (by repeat (first | exact Sub.d | (refine Sub.s ?_ ?_; (repeat (first | exact In.z | apply In.s))) | (refine Sub.suf ?_; (repeat (first | exact Suf.z | apply Suf.s)))))
         simp only [packV, nameOk]; rw [all_not (List.getElem_mem hk2) (by simpa using h46)]; simp
        ·
         intro h45
         have h46 := named_byte hb ▸ h45
         refine cskip ?_
         refine nblock ?_
         refine nthen ?_
         refine cr ?_
         refine ls (op (p_move rfl) rfl) ?_
         refine ls (op (p_add rfl rfl (by omega)) rfl) ?_
         refine ls (op (p_asg rfl) rfl) ?_
         refine ln ?_
         refine nnext ⟨k + 1, hk1, by rw [List.take_succ_eq_append_getElem hk2, List.all_append, hkk]; simpa using h46⟩ (by dsimp only; omega) (wk0 (by repeat (first | exact subσ.nil _ | refine subσ.cons rfl ?_)) (by repeat (first | exact Sub.d | (refine Sub.s ?_ ?_; (repeat (first | exact In.z | apply In.s))) | (refine Sub.suf ?_; (repeat (first | exact Suf.z | apply Suf.s))))))
 ·
  intro h8
  try simp only [decide_eq_true_eq, decide_eq_false_iff_not, Bool.not_eq_true', Bool.not_eq_false', Int.not_lt, Int.not_le, ge_iff_le, Bool.not_true, Bool.not_false] at h8
  refine cexit ?_
  refine xthen ?_
  refine xthen ?_
  refine xblock ?_
  refine nthen ?_
  refine cs ?_
  refine cr ?_
  refine ls (op (p_move rfl) rfl) ?_
  refine ls (op (p_lens rfl Tryz.underlying9) rfl) ?_
  refine ls (op (p_icmp rfl rfl rfl) rfl) ?_
  refine ls (op (p_move rfl) rfl) ?_
  refine andX 4 49 53 rfl (subσ.cons (t := 0) rfl (subσ.cons (t := 3) rfl (subσ.cons (t := 5) rfl (subσ.cons (t := 6) rfl (subσ.cons (t := 7) rfl (subσ.cons (t := 8) rfl (subσ.nil _))))))) ?_ ?_
  ·
   intro h49
   refine lskip rfl rfl rfl rfl rfl ?_
   refine lskip rfl rfl rfl rfl rfl ?_
   refine lskip rfl rfl rfl rfl rfl ?_
   refine ls (op (p_pickf rfl rfl) rfl) ?_
   refine ln (nmid (wk0 (by repeat (first | exact subσ.nil _ | refine subσ.cons rfl ?_)) (by repeat (first | exact Sub.d | (refine Sub.s ?_ ?_; (repeat (first | exact In.z | apply In.s))) | (refine Sub.suf ?_; (repeat (first | exact Suf.z | apply Suf.s)))))))
  apply exI
  ·
   intro h49
   refine lwant rfl rfl rfl rfl (op (p_move rfl) rfl) ?_
   refine lwant rfl rfl rfl rfl (op (p_lens rfl Tryz.underlying9) rfl) ?_
   refine lwant rfl rfl rfl rfl (op (p_icmp rfl rfl rfl) rfl) ?_
   refine ls (op (p_pickt rfl rfl) rfl) ?_
   refine ln (nmid (wk0 (by repeat (first | exact subσ.nil _ | refine subσ.cons rfl ?_)) (by repeat (first | exact Sub.d | (refine Sub.s ?_ ?_; (repeat (first | exact In.z | apply In.s))) | (refine Sub.suf ?_; (repeat (first | exact Suf.z | apply Suf.s)))))))
  ·
   refine ls (op (p_asg rfl) rfl) ?_
   refine ln ?_
   refine nthen ?_
   refine cret ?_
   refine xret (fun _ _ h => h) ?_
   refine rret (is := []) () (Or.inl rfl) (Res.t rfl Res.d) ?_ rfl (by repeat (first | exact Sub.d | (refine Sub.s ?_ ?_; (repeat (first | exact In.z | apply In.s))) | (refine Sub.suf ?_; (repeat (first | exact Suf.z | apply Suf.s)))))
   simp only [packV, nameOk]; rw [List.take_of_length_le (by show s.size ≤ k; omega)] at hkk; rw [hkk]; simp

end Go.Proofs.YtogcgfdfabnjhaaGreatDoor.X

end
section
set_option linter.unusedVariables false
set_option linter.unusedSimpArgs false
namespace Go.Proofs.YtogcgfdfabnjhaaGreatDoor.X
open Go Go.RowKit Go.Proofs Go.Sx
attribute [local irreducible] slA isA box row

theorem refNames_len (p : Prim) : (refNames p).length ≤ 2 := by
 unfold refNames
 by_cases h : p.kind = 3
 ·
  by_cases h' : Op.bytesLess p.name.toList p.to.toList = true <;> simp [h, h']
 ·
  simp [h]
theorem any_two {la lb : List ByteArray} {a b : ByteArray} (ha : a ∈ la) (hb : b ∈ lb) (h : a = b) : (la.any fun s => lb.any fun t => decide (s = t)) = true := by
 rw [List.any_eq_true]
 exact ⟨a, ha, by rw [List.any_eq_true]; exact ⟨b, hb, by simp [h]⟩⟩

theorem fa111_0 : FA Tryz.prog 111 0 0 := fun b o w => by kernel_rfl
theorem fa111_1 : FA Tryz.prog 111 1 1 := fun b o w => by kernel_rfl
theorem fa111_2 : FA Tryz.prog 111 2 2 := fun b o w => by kernel_rfl
theorem fa111_3 : FA Tryz.prog 111 3 3 := fun b o w => by kernel_rfl
theorem fa111_4 : FA Tryz.prog 111 4 4 := fun b o w => by kernel_rfl
theorem fa111_5 : FA Tryz.prog 111 5 5 := fun b o w => by kernel_rfl
set_option maxRecDepth 100000 in
theorem c_refRight (p : Prim) (y : Rp.Lay Prim) (hp : p.fit) : Con Tryz.prog 64 [sv p y] [] (Rp.asn p y) Unit (fun _ => .bool (p.right)) (fun _ => []) (fun _ => []) := by
 refine con Tryz.func64 rfl Tryz.ntmps64 rfl ?_
 intro M0 F0 w0
 refine cs ?_
 refine cr ?_
 refine ls (o_box rfl rfl rfl) ?_
 refine le ?_; intro b1
 refine ls (op (p_asg rfl) rfl) ?_
 refine ln ?_
 refine nthen ?_
 refine cs ?_
 refine cs ?_
 refine cr ?_
 refine ls (op (p_fa fa111_1 rfl) rfl) ?_
 refine ls (o_ld Tryz.isAgg9 rfl (by repeat (first | exact At.z | apply At.s)) (by repeat (first | exact At.z | apply At.s)) rfl) ?_
 refine ls (o_call (is := []) Tryz.call76 (c_refNamed _ hp.a) rfl rfl (by repeat (first | exact Sub.d | (refine Sub.s ?_ ?_; (repeat (first | exact In.z | apply In.s))) | (refine Sub.suf ?_; (repeat (first | exact Suf.z | apply Suf.s))))) rfl) ?_
 refine le ?_; intro x5
 refine ls (op (p_not rfl) rfl) ?_
 refine ls (op (p_move rfl) rfl) ?_
 refine orX 4 7 11 rfl (subσ.cons (t := 0) rfl (subσ.cons (t := 1) rfl (subσ.cons (t := 2) rfl (subσ.nil _)))) ?_ ?_
 ·
  intro h7
  refine lskip rfl rfl rfl rfl rfl ?_
  refine lskip rfl rfl rfl rfl rfl ?_
  refine lskip rfl rfl rfl rfl rfl ?_
  refine ls (op (p_pickt rfl rfl) rfl) ?_
  refine ln (nmid (wk0 (by repeat (first | exact subσ.nil _ | refine subσ.cons rfl ?_)) (by repeat (first | exact Sub.d | (refine Sub.s ?_ ?_; (repeat (first | exact In.z | apply In.s))) | (refine Sub.suf ?_; (repeat (first | exact Suf.z | apply Suf.s)))))))
 apply exI
 ·
  intro h7
  refine lwant rfl rfl rfl rfl (op (p_fa fa111_0 rfl) rfl) ?_
  refine lwant rfl rfl rfl rfl (o_ld Tryz.isAgg3 rfl (by repeat (first | exact At.z | apply At.s)) (by repeat (first | exact At.z | apply At.s)) rfl) ?_
  refine lwant rfl rfl rfl rfl (op (p_icmp rfl rfl rfl) rfl) ?_
  refine ls (op (p_pickf rfl rfl) rfl) ?_
  refine ln (nmid (wk0 (by repeat (first | exact subσ.nil _ | refine subσ.cons rfl ?_)) (by repeat (first | exact Sub.d | (refine Sub.s ?_ ?_; (repeat (first | exact In.z | apply In.s))) | (refine Sub.suf ?_; (repeat (first | exact Suf.z | apply Suf.s)))))))
 ·
  refine ls (op (p_move rfl) rfl) ?_
  refine orX 4 12 16 rfl (subσ.cons (t := 0) rfl (subσ.cons (t := 1) rfl (subσ.cons (t := 2) rfl (subσ.nil _)))) ?_ ?_
  ·
   intro h12
   refine lskip rfl rfl rfl rfl rfl ?_
   refine lskip rfl rfl rfl rfl rfl ?_
   refine lskip rfl rfl rfl rfl rfl ?_
   refine ls (op (p_pickt rfl rfl) rfl) ?_
   refine ln (nmid (wk0 (by repeat (first | exact subσ.nil _ | refine subσ.cons rfl ?_)) (by repeat (first | exact Sub.d | (refine Sub.s ?_ ?_; (repeat (first | exact In.z | apply In.s))) | (refine Sub.suf ?_; (repeat (first | exact Suf.z | apply Suf.s)))))))
  apply exI
  ·
   intro h12
   refine lwant rfl rfl rfl rfl (op (p_fa fa111_0 rfl) rfl) ?_
   refine lwant rfl rfl rfl rfl (o_ld Tryz.isAgg3 rfl (by repeat (first | exact At.z | apply At.s)) (by repeat (first | exact At.z | apply At.s)) rfl) ?_
   refine lwant rfl rfl rfl rfl (op (p_icmp rfl rfl rfl) rfl) ?_
   refine ls (op (p_pickf rfl rfl) rfl) ?_
   refine ln (nmid (wk0 (by repeat (first | exact subσ.nil _ | refine subσ.cons rfl ?_)) (by repeat (first | exact Sub.d | (refine Sub.s ?_ ?_; (repeat (first | exact In.z | apply In.s))) | (refine Sub.suf ?_; (repeat (first | exact Suf.z | apply Suf.s)))))))
  ·
   refine ln ?_
   refine nthen ?_
   refine cc rfl ?_ ?_
   ·
    intro h16
    skip
    refine cs ?_
    refine cr ?_
    refine ls (op (p_asg rfl) rfl) ?_
    refine ln ?_
    refine nthen ?_
    refine cret ?_
    refine xret (fun _ _ h => h) ?_
    refine rret (is := []) () (Or.inl rfl) (Res.t rfl Res.d) ?_ rfl (by repeat (first | exact Sub.d | (refine Sub.s ?_ ?_; (repeat (first | exact In.z | apply In.s))) | (refine Sub.suf ?_; (repeat (first | exact Suf.z | apply Suf.s)))))
    rw [← refRight_eq, refRight, if_pos h16]; rfl
   ·
    intro h16
    have h16' := Bool.eq_false_iff.1 h16
    refine cskip ?_
    refine nthen ?_
    refine cs ?_
    refine cs ?_
    refine cr ?_
    refine ls (op (p_fa fa111_0 rfl) rfl) ?_
    refine ls (o_ld Tryz.isAgg3 rfl (by repeat (first | exact At.z | apply At.s)) (by repeat (first | exact At.z | apply At.s)) rfl) ?_
    refine ls (op (p_icmp rfl rfl rfl) rfl) ?_
    refine ln ?_
    refine nthen ?_
    refine cc rfl ?_ ?_
    ·
     intro h19
     try simp only [decide_eq_true_eq, decide_eq_false_iff_not, Bool.not_eq_true', Bool.not_eq_false', Int.not_lt, Int.not_le, ge_iff_le, Bool.not_true, Bool.not_false] at h19
     refine cs ?_
     refine cs ?_
     refine cr ?_
     refine ls (op (p_fa fa111_2 rfl) rfl) ?_
     refine ls (o_ld Tryz.isAgg9 rfl (by repeat (first | exact At.z | apply At.s)) (by repeat (first | exact At.z | apply At.s)) rfl) ?_
     refine ls (op (p_sne rfl rfl) rfl) ?_
     refine ls (op (p_move rfl) rfl) ?_
     refine orX 4 23 27 rfl (subσ.cons (t := 0) rfl (subσ.cons (t := 1) rfl (subσ.cons (t := 2) rfl (subσ.cons (t := 16) rfl (subσ.cons (t := 17) rfl (subσ.cons (t := 18) rfl (subσ.cons (t := 19) rfl (subσ.nil _)))))))) ?_ ?_
     ·
      intro h23
      refine lskip rfl rfl rfl rfl rfl ?_
      refine lskip rfl rfl rfl rfl rfl ?_
      refine lskip rfl rfl rfl rfl rfl ?_
      refine ls (op (p_pickt rfl rfl) rfl) ?_
      refine ln (nmid (wk0 (by repeat (first | exact subσ.nil _ | refine subσ.cons rfl ?_)) (by repeat (first | exact Sub.d | (refine Sub.s ?_ ?_; (repeat (first | exact In.z | apply In.s))) | (refine Sub.suf ?_; (repeat (first | exact Suf.z | apply Suf.s)))))))
     apply exI
     ·
      intro h23
      refine lwant rfl rfl rfl rfl (op (p_fa fa111_3 rfl) rfl) ?_
      refine lwant rfl rfl rfl rfl (o_ld Tryz.isAgg3 rfl (by repeat (first | exact At.z | apply At.s)) (by repeat (first | exact At.z | apply At.s)) rfl) ?_
      refine lwant rfl rfl rfl rfl (op (p_icmp rfl rfl rfl) rfl) ?_
      refine ls (op (p_pickf rfl rfl) rfl) ?_
      refine ln (nmid (wk0 (by repeat (first | exact subσ.nil _ | refine subσ.cons rfl ?_)) (by repeat (first | exact Sub.d | (refine Sub.s ?_ ?_; (repeat (first | exact In.z | apply In.s))) | (refine Sub.suf ?_; (repeat (first | exact Suf.z | apply Suf.s)))))))
     ·
      refine ls (op (p_move rfl) rfl) ?_
      refine orX 4 28 32 rfl (subσ.cons (t := 0) rfl (subσ.cons (t := 1) rfl (subσ.cons (t := 2) rfl (subσ.cons (t := 16) rfl (subσ.cons (t := 17) rfl (subσ.cons (t := 18) rfl (subσ.cons (t := 19) rfl (subσ.nil _)))))))) ?_ ?_
      ·
       intro h28
       refine lskip rfl rfl rfl rfl rfl ?_
       refine lskip rfl rfl rfl rfl rfl ?_
       refine lskip rfl rfl rfl rfl rfl ?_
       refine ls (op (p_pickt rfl rfl) rfl) ?_
       refine ln (nmid (wk0 (by repeat (first | exact subσ.nil _ | refine subσ.cons rfl ?_)) (by repeat (first | exact Sub.d | (refine Sub.s ?_ ?_; (repeat (first | exact In.z | apply In.s))) | (refine Sub.suf ?_; (repeat (first | exact Suf.z | apply Suf.s)))))))
      apply exI
      ·
       intro h28
       refine lwant rfl rfl rfl rfl (op (p_fa fa111_3 rfl) rfl) ?_
       refine lwant rfl rfl rfl rfl (o_ld Tryz.isAgg3 rfl (by repeat (first | exact At.z | apply At.s)) (by repeat (first | exact At.z | apply At.s)) rfl) ?_
       refine lwant rfl rfl rfl rfl (op (p_icmp rfl rfl rfl) rfl) ?_
       refine ls (op (p_pickf rfl rfl) rfl) ?_
       refine ln (nmid (wk0 (by repeat (first | exact subσ.nil _ | refine subσ.cons rfl ?_)) (by repeat (first | exact Sub.d | (refine Sub.s ?_ ?_; (repeat (first | exact In.z | apply In.s))) | (refine Sub.suf ?_; (repeat (first | exact Suf.z | apply Suf.s)))))))
      ·
       refine ln ?_
       refine nthen ?_
       refine cc rfl ?_ ?_
       ·
        intro h32
        skip
        refine cs ?_
        refine cr ?_
        refine ls (op (p_asg rfl) rfl) ?_
        refine ln ?_
        refine nthen ?_
        refine cret ?_
        refine xret (fun _ _ h => h) ?_
        refine rret (is := []) () (Or.inl rfl) (Res.t rfl Res.d) ?_ rfl (by repeat (first | exact Sub.d | (refine Sub.s ?_ ?_; (repeat (first | exact In.z | apply In.s))) | (refine Sub.suf ?_; (repeat (first | exact Suf.z | apply Suf.s)))))
        rw [← refRight_eq, refRight, if_neg h16', if_pos h19, if_pos h32]; rfl
       ·
        intro h32
        have h32' := Bool.eq_false_iff.1 h32
        refine cskip ?_
        refine nthen ?_
        refine cs ?_
        refine cr ?_
        refine ls (op (p_fa fa111_4 rfl) rfl) ?_
        refine ls (o_ld Tryz.isAgg57 rfl (by repeat (first | exact At.z | apply At.s)) (by repeat (first | exact At.z | apply At.s)) rfl) ?_
        refine ls (o_call (is := []) Tryz.call79 (c_refAll p.old _ _ hp.o hp.os) rfl rfl (by repeat (first | exact Sub.d | (refine Sub.s ?_ ?_; (repeat (first | exact In.z | apply In.s))) | (refine Sub.suf ?_; (repeat (first | exact Suf.z | apply Suf.s))))) rfl) ?_
        refine le ?_; intro x35
        refine ls (op (p_move rfl) rfl) ?_
        refine andX 4 36 40 rfl (subσ.cons (t := 0) rfl (subσ.cons (t := 1) rfl (subσ.cons (t := 2) rfl (subσ.cons (t := 16) rfl (subσ.cons (t := 17) rfl (subσ.cons (t := 18) rfl (subσ.cons (t := 19) rfl (subσ.cons (t := 32) rfl (subσ.nil _))))))))) ?_ ?_
        ·
         intro h36
         refine lskip rfl rfl rfl rfl rfl ?_
         refine lskip rfl rfl rfl rfl rfl ?_
         refine lskip rfl rfl rfl rfl rfl ?_
         refine ls (op (p_pickf rfl rfl) rfl) ?_
         refine ln (nmid (wk0 (by repeat (first | exact subσ.nil _ | refine subσ.cons rfl ?_)) (by repeat (first | exact Sub.d | (refine Sub.s ?_ ?_; (repeat (first | exact In.z | apply In.s))) | (refine Sub.suf ?_; (repeat (first | exact Suf.z | apply Suf.s)))))))
        apply exI
        ·
         intro h36
         refine lwant rfl rfl rfl rfl (op (p_fa fa111_5 rfl) rfl) ?_
         refine lwant rfl rfl rfl rfl (o_ld Tryz.isAgg57 rfl (by repeat (first | exact At.z | apply At.s)) (by repeat (first | exact At.z | apply At.s)) rfl) ?_
         refine lwant rfl rfl rfl rfl (o_call (is := []) Tryz.call79 (c_refAll p.new _ _ hp.n hp.ns) rfl rfl (by repeat (first | exact Sub.d | (refine Sub.s ?_ ?_; (repeat (first | exact In.z | apply In.s))) | (refine Sub.suf ?_; (repeat (first | exact Suf.z | apply Suf.s))))) rfl) ?_
         refine le ?_; intro x39
         refine ls (op (p_pickt rfl rfl) rfl) ?_
         refine ln (nmid (wk0 (by repeat (first | exact subσ.nil _ | refine subσ.cons rfl ?_)) (by repeat (first | exact Sub.d | (refine Sub.s ?_ ?_; (repeat (first | exact In.z | apply In.s))) | (refine Sub.suf ?_; (repeat (first | exact Suf.z | apply Suf.s)))))))
        ·
         refine ls (op (p_move rfl) rfl) ?_
         refine andX 7 41 48 rfl (subσ.cons (t := 0) rfl (subσ.cons (t := 1) rfl (subσ.cons (t := 2) rfl (subσ.cons (t := 16) rfl (subσ.cons (t := 17) rfl (subσ.cons (t := 18) rfl (subσ.cons (t := 19) rfl (subσ.cons (t := 32) rfl (subσ.nil _))))))))) ?_ ?_
         ·
          intro h41
          refine lskip rfl rfl rfl rfl rfl ?_
          refine lskip rfl rfl rfl rfl rfl ?_
          refine lskip rfl rfl rfl rfl rfl ?_
          refine lskip rfl rfl rfl rfl rfl ?_
          refine lskip rfl rfl rfl rfl rfl ?_
          refine lskip rfl rfl rfl rfl rfl ?_
          refine ls (op (p_pickf rfl rfl) rfl) ?_
          refine ln (nmid (wk0 (by repeat (first | exact subσ.nil _ | refine subσ.cons rfl ?_)) (by repeat (first | exact Sub.d | (refine Sub.s ?_ ?_; (repeat (first | exact In.z | apply In.s))) | (refine Sub.suf ?_; (repeat (first | exact Suf.z | apply Suf.s)))))))
         apply exI
         ·
          intro h41
          refine lwant rfl rfl rfl rfl (op (p_fa fa111_4 rfl) rfl) ?_
          refine lwant rfl rfl rfl rfl (o_ld Tryz.isAgg57 rfl (by repeat (first | exact At.z | apply At.s)) (by repeat (first | exact At.z | apply At.s)) rfl) ?_
          refine lwant rfl rfl rfl rfl (op (p_fa fa111_5 rfl) rfl) ?_
          refine lwant rfl rfl rfl rfl (o_ld Tryz.isAgg57 rfl (by repeat (first | exact At.z | apply At.s)) (by repeat (first | exact At.z | apply At.s)) rfl) ?_
          refine lwant rfl rfl rfl rfl (o_call (is := []) Tryz.call93 (c_refSame1 p.old p.new _ _ _ _ hp.o) rfl rfl (by repeat (first | exact Sub.d | (refine Sub.s ?_ ?_; (repeat (first | exact In.z | apply In.s))) | (refine Sub.suf ?_; (repeat (first | exact Suf.z | apply Suf.s))))) rfl) ?_
          refine le ?_; intro x46
          refine lwant rfl rfl rfl rfl (op (p_not rfl) rfl) ?_
          refine ls (op (p_pickt rfl rfl) rfl) ?_
          refine ln (nmid (wk0 (by repeat (first | exact subσ.nil _ | refine subσ.cons rfl ?_)) (by repeat (first | exact Sub.d | (refine Sub.s ?_ ?_; (repeat (first | exact In.z | apply In.s))) | (refine Sub.suf ?_; (repeat (first | exact Suf.z | apply Suf.s)))))))
         ·
          refine ls (op (p_asg rfl) rfl) ?_
          refine ln ?_
          refine nthen ?_
          refine cret ?_
          refine xret (fun _ _ h => h) ?_
          refine rret (is := []) () (Or.inl rfl) (Res.t rfl Res.d) ?_ rfl (by repeat (first | exact Sub.d | (refine Sub.s ?_ ?_; (repeat (first | exact In.z | apply In.s))) | (refine Sub.suf ?_; (repeat (first | exact Suf.z | apply Suf.s)))))
          rw [← refRight_eq, refRight, if_neg h16', if_pos h19, if_neg h32']; rfl
    ·
     intro h19
     try simp only [decide_eq_true_eq, decide_eq_false_iff_not, Bool.not_eq_true', Bool.not_eq_false', Int.not_lt, Int.not_le, ge_iff_le, Bool.not_true, Bool.not_false] at h19
     refine cskip ?_
     refine nthen ?_
     refine cs ?_
     refine cs ?_
     refine cr ?_
     refine ls (op (p_fa fa111_3 rfl) rfl) ?_
     refine ls (o_ld Tryz.isAgg3 rfl (by repeat (first | exact At.z | apply At.s)) (by repeat (first | exact At.z | apply At.s)) rfl) ?_
     refine ls (op (p_icmp rfl rfl rfl) rfl) ?_
     refine ls (op (p_move rfl) rfl) ?_
     refine orX 5 52 57 rfl (subσ.cons (t := 0) rfl (subσ.cons (t := 1) rfl (subσ.cons (t := 2) rfl (subσ.cons (t := 16) rfl (subσ.cons (t := 17) rfl (subσ.cons (t := 18) rfl (subσ.cons (t := 19) rfl (subσ.nil _)))))))) ?_ ?_
     ·
      intro h52
      refine lskip rfl rfl rfl rfl rfl ?_
      refine lskip rfl rfl rfl rfl rfl ?_
      refine lskip rfl rfl rfl rfl rfl ?_
      refine lskip rfl rfl rfl rfl rfl ?_
      refine ls (op (p_pickt rfl rfl) rfl) ?_
      refine ln (nmid (wk0 (by repeat (first | exact subσ.nil _ | refine subσ.cons rfl ?_)) (by repeat (first | exact Sub.d | (refine Sub.s ?_ ?_; (repeat (first | exact In.z | apply In.s))) | (refine Sub.suf ?_; (repeat (first | exact Suf.z | apply Suf.s)))))))
     apply exI
     ·
      intro h52
      refine lwant rfl rfl rfl rfl (op (p_fa fa111_4 rfl) rfl) ?_
      refine lwant rfl rfl rfl rfl (o_ld Tryz.isAgg57 rfl (by repeat (first | exact At.z | apply At.s)) (by repeat (first | exact At.z | apply At.s)) rfl) ?_
      refine lwant rfl rfl rfl rfl (op (p_lenl rfl Tryz.underlying57) rfl) ?_
      refine lwant rfl rfl rfl rfl (op (p_icmp rfl rfl rfl) rfl) ?_
      refine ls (op (p_pickf rfl rfl) rfl) ?_
      refine ln (nmid (wk0 (by repeat (first | exact subσ.nil _ | refine subσ.cons rfl ?_)) (by repeat (first | exact Sub.d | (refine Sub.s ?_ ?_; (repeat (first | exact In.z | apply In.s))) | (refine Sub.suf ?_; (repeat (first | exact Suf.z | apply Suf.s)))))))
     ·
      refine ls (op (p_move rfl) rfl) ?_
      refine orX 5 58 63 rfl (subσ.cons (t := 0) rfl (subσ.cons (t := 1) rfl (subσ.cons (t := 2) rfl (subσ.cons (t := 16) rfl (subσ.cons (t := 17) rfl (subσ.cons (t := 18) rfl (subσ.cons (t := 19) rfl (subσ.nil _)))))))) ?_ ?_
      ·
       intro h58
       refine lskip rfl rfl rfl rfl rfl ?_
       refine lskip rfl rfl rfl rfl rfl ?_
       refine lskip rfl rfl rfl rfl rfl ?_
       refine lskip rfl rfl rfl rfl rfl ?_
       refine ls (op (p_pickt rfl rfl) rfl) ?_
       refine ln (nmid (wk0 (by repeat (first | exact subσ.nil _ | refine subσ.cons rfl ?_)) (by repeat (first | exact Sub.d | (refine Sub.s ?_ ?_; (repeat (first | exact In.z | apply In.s))) | (refine Sub.suf ?_; (repeat (first | exact Suf.z | apply Suf.s)))))))
      apply exI
      ·
       intro h58
       refine lwant rfl rfl rfl rfl (op (p_fa fa111_5 rfl) rfl) ?_
       refine lwant rfl rfl rfl rfl (o_ld Tryz.isAgg57 rfl (by repeat (first | exact At.z | apply At.s)) (by repeat (first | exact At.z | apply At.s)) rfl) ?_
       refine lwant rfl rfl rfl rfl (op (p_lenl rfl Tryz.underlying57) rfl) ?_
       refine lwant rfl rfl rfl rfl (op (p_icmp rfl rfl rfl) rfl) ?_
       refine ls (op (p_pickf rfl rfl) rfl) ?_
       refine ln (nmid (wk0 (by repeat (first | exact subσ.nil _ | refine subσ.cons rfl ?_)) (by repeat (first | exact Sub.d | (refine Sub.s ?_ ?_; (repeat (first | exact In.z | apply In.s))) | (refine Sub.suf ?_; (repeat (first | exact Suf.z | apply Suf.s)))))))
      ·
       refine ln ?_
       refine nthen ?_
       refine cc rfl ?_ ?_
       ·
        intro h63
        skip
        refine cs ?_
        refine cr ?_
        refine ls (op (p_asg rfl) rfl) ?_
        refine ln ?_
        refine nthen ?_
        refine cret ?_
        refine xret (fun _ _ h => h) ?_
        refine rret (is := []) () (Or.inl rfl) (Res.t rfl Res.d) ?_ rfl (by repeat (first | exact Sub.d | (refine Sub.s ?_ ?_; (repeat (first | exact In.z | apply In.s))) | (refine Sub.suf ?_; (repeat (first | exact Suf.z | apply Suf.s)))))
        rw [← refRight_eq, refRight, if_neg h16', if_neg h19, if_pos h63]; rfl
       ·
        intro h63
        have h63' := Bool.eq_false_iff.1 h63
        refine cskip ?_
        refine nthen ?_
        refine cs ?_
        refine cs ?_
        refine cr ?_
        refine ls (op (p_fa fa111_0 rfl) rfl) ?_
        refine ls (o_ld Tryz.isAgg3 rfl (by repeat (first | exact At.z | apply At.s)) (by repeat (first | exact At.z | apply At.s)) rfl) ?_
        refine ls (op (p_icmp rfl rfl rfl) rfl) ?_
        refine ln ?_
        refine nthen ?_
        refine cc rfl ?_ ?_
        ·
         intro h66
         try simp only [decide_eq_true_eq, decide_eq_false_iff_not, Bool.not_eq_true', Bool.not_eq_false', Int.not_lt, Int.not_le, ge_iff_le, Bool.not_true, Bool.not_false] at h66
         refine cs ?_
         refine cr ?_
         refine ls (op (p_fa fa111_2 rfl) rfl) ?_
         refine ls (o_ld Tryz.isAgg9 rfl (by repeat (first | exact At.z | apply At.s)) (by repeat (first | exact At.z | apply At.s)) rfl) ?_
         refine ls (o_call (is := []) Tryz.call76 (c_refNamed _ hp.b) rfl rfl (by repeat (first | exact Sub.d | (refine Sub.s ?_ ?_; (repeat (first | exact In.z | apply In.s))) | (refine Sub.suf ?_; (repeat (first | exact Suf.z | apply Suf.s))))) rfl) ?_
         refine le ?_; intro x69
         refine ls (op (p_move rfl) rfl) ?_
         refine andX 6 70 76 rfl (subσ.cons (t := 0) rfl (subσ.cons (t := 1) rfl (subσ.cons (t := 2) rfl (subσ.cons (t := 16) rfl (subσ.cons (t := 17) rfl (subσ.cons (t := 18) rfl (subσ.cons (t := 19) rfl (subσ.cons (t := 63) rfl (subσ.cons (t := 64) rfl (subσ.cons (t := 65) rfl (subσ.cons (t := 66) rfl (subσ.nil _)))))))))))) ?_ ?_
         ·
          intro h70
          refine lskip rfl rfl rfl rfl rfl ?_
          refine lskip rfl rfl rfl rfl rfl ?_
          refine lskip rfl rfl rfl rfl rfl ?_
          refine lskip rfl rfl rfl rfl rfl ?_
          refine lskip rfl rfl rfl rfl rfl ?_
          refine ls (op (p_pickf rfl rfl) rfl) ?_
          refine ln (nmid (wk0 (by repeat (first | exact subσ.nil _ | refine subσ.cons rfl ?_)) (by repeat (first | exact Sub.d | (refine Sub.s ?_ ?_; (repeat (first | exact In.z | apply In.s))) | (refine Sub.suf ?_; (repeat (first | exact Suf.z | apply Suf.s)))))))
         apply exI
         ·
          intro h70
          refine lwant rfl rfl rfl rfl (op (p_fa fa111_2 rfl) rfl) ?_
          refine lwant rfl rfl rfl rfl (o_ld Tryz.isAgg9 rfl (by repeat (first | exact At.z | apply At.s)) (by repeat (first | exact At.z | apply At.s)) rfl) ?_
          refine lwant rfl rfl rfl rfl (op (p_fa fa111_1 rfl) rfl) ?_
          refine lwant rfl rfl rfl rfl (o_ld Tryz.isAgg9 rfl (by repeat (first | exact At.z | apply At.s)) (by repeat (first | exact At.z | apply At.s)) rfl) ?_
          refine lwant rfl rfl rfl rfl (op (p_sne rfl rfl) rfl) ?_
          refine ls (op (p_pickt rfl rfl) rfl) ?_
          refine ln (nmid (wk0 (by repeat (first | exact subσ.nil _ | refine subσ.cons rfl ?_)) (by repeat (first | exact Sub.d | (refine Sub.s ?_ ?_; (repeat (first | exact In.z | apply In.s))) | (refine Sub.suf ?_; (repeat (first | exact Suf.z | apply Suf.s)))))))
         ·
          refine ls (op (p_asg rfl) rfl) ?_
          refine ln ?_
          refine nthen ?_
          refine cret ?_
          refine xret (fun _ _ h => h) ?_
          refine rret (is := []) () (Or.inl rfl) (Res.t rfl Res.d) ?_ rfl (by repeat (first | exact Sub.d | (refine Sub.s ?_ ?_; (repeat (first | exact In.z | apply In.s))) | (refine Sub.suf ?_; (repeat (first | exact Suf.z | apply Suf.s)))))
          rw [← refRight_eq, refRight, if_neg h16', if_neg h19, if_neg h63', if_pos h66]; rfl
        ·
         intro h66
         try simp only [decide_eq_true_eq, decide_eq_false_iff_not, Bool.not_eq_true', Bool.not_eq_false', Int.not_lt, Int.not_le, ge_iff_le, Bool.not_true, Bool.not_false] at h66
         refine cskip ?_
         refine nthen ?_
         refine cs ?_
         refine cr ?_
         refine ls (op (p_fa fa111_2 rfl) rfl) ?_
         refine ls (o_ld Tryz.isAgg9 rfl (by repeat (first | exact At.z | apply At.s)) (by repeat (first | exact At.z | apply At.s)) rfl) ?_
         refine ls (op (p_seq rfl rfl) rfl) ?_
         refine ls (op (p_asg rfl) rfl) ?_
         refine ln ?_
         refine nthen ?_
         refine cret ?_
         refine xret (fun _ _ h => h) ?_
         refine rret (is := []) () (Or.inl rfl) (Res.t rfl Res.d) ?_ rfl (by repeat (first | exact Sub.d | (refine Sub.s ?_ ?_; (repeat (first | exact In.z | apply In.s))) | (refine Sub.suf ?_; (repeat (first | exact Suf.z | apply Suf.s)))))
         rw [← refRight_eq, refRight, if_neg h16', if_neg h19, if_neg h63', if_neg h66]; rfl

set_option maxRecDepth 100000 in
theorem c_refNames (p : Prim) (y : Rp.Lay Prim) : Con Tryz.prog 132 [sv p y] [] (Rp.asn p y) {x : List ByteArray × (Option Addr × Nat) // x.1 = refNames p} (fun x => .slice x.1.2.1 x.1.1.length x.1.2.2) (fun _ => []) (fun x => [slA x.1.2.1 x.1.1]) := by
 refine con Tryz.func132 rfl Tryz.ntmps132 rfl ?_
 intro M0 F0 w0
 refine cs ?_
 refine cr ?_
 refine ls (o_box rfl rfl rfl) ?_
 refine le ?_; intro b1
 refine ls (op (p_asg rfl) rfl) ?_
 refine ln ?_
 refine nthen ?_
 refine cs ?_
 refine cs ?_
 refine cr ?_
 refine ls (op (p_fa fa111_0 rfl) rfl) ?_
 refine ls (o_ld Tryz.isAgg3 rfl (by repeat (first | exact At.z | apply At.s)) (by repeat (first | exact At.z | apply At.s)) rfl) ?_
 refine ls (op (p_icmp rfl rfl rfl) rfl) ?_
 refine ln ?_
 refine nthen ?_
 refine cc rfl ?_ ?_
 ·
  intro h5
  have h5' : ¬ p.kind = 3 := by simpa using h5
  refine cs ?_
  refine cr ?_
  refine ls (op (p_fa fa111_1 rfl) rfl) ?_
  refine ls (o_ld Tryz.isAgg9 rfl (by repeat (first | exact At.z | apply At.s)) (by repeat (first | exact At.z | apply At.s)) rfl) ?_
  refine ls (o_bsl [p.name] Tryz.underlying57 Tryz.sizeOf9 Tryz.zeroValue9 rfl (Enum.t Enum.d) (RV.t () rfl Sub.d RV.d) rfl (by decide) (by decide) rfl) ?_
  refine le ?_; intro b8
  refine lmono (fun a w h => Go.Sx.freeze (i := 0) rfl h) ?_
  refine ls (op (p_asg rfl) rfl) ?_
  refine ln ?_
  refine nthen ?_
  refine cret ?_
  refine xret (fun _ _ h => h) ?_
  refine rret (is := []) ⟨([p.name], some ⟨b8, 0, none⟩, 1), by rw [refNames, if_neg h5']⟩ (Or.inl rfl) (Res.t rfl Res.d) (rfl) rfl (by repeat (first | exact Sub.d | (refine Sub.s ?_ ?_; (repeat (first | exact In.z | apply In.s))) | (refine Sub.suf ?_; (repeat (first | exact Suf.z | apply Suf.s)))))
 ·
  intro h5
  have h5' : p.kind = 3 := by simpa using h5
  refine cskip ?_
  refine nthen ?_
  refine cs ?_
  refine cs ?_
  refine cr ?_
  refine ls (op (p_fa fa111_1 rfl) rfl) ?_
  refine ls (o_ld Tryz.isAgg9 rfl (by repeat (first | exact At.z | apply At.s)) (by repeat (first | exact At.z | apply At.s)) rfl) ?_
  refine ls (op (p_fa fa111_2 rfl) rfl) ?_
  refine ls (o_ld Tryz.isAgg9 rfl (by repeat (first | exact At.z | apply At.s)) (by repeat (first | exact At.z | apply At.s)) rfl) ?_
  refine ls (op (p_slt rfl rfl) rfl) ?_
  refine ln ?_
  refine nthen ?_
  refine cc rfl ?_ ?_
  ·
   intro h13
   skip
   refine cs ?_
   refine cr ?_
   refine ls (op (p_fa fa111_1 rfl) rfl) ?_
   refine ls (o_ld Tryz.isAgg9 rfl (by repeat (first | exact At.z | apply At.s)) (by repeat (first | exact At.z | apply At.s)) rfl) ?_
   refine ls (op (p_fa fa111_2 rfl) rfl) ?_
   refine ls (o_ld Tryz.isAgg9 rfl (by repeat (first | exact At.z | apply At.s)) (by repeat (first | exact At.z | apply At.s)) rfl) ?_
   refine ls (o_bsl [p.name, p.to] Tryz.underlying57 Tryz.sizeOf9 Tryz.zeroValue9 rfl (Enum.t (Enum.t Enum.d)) (RV.t () rfl Sub.d (RV.t () rfl Sub.d RV.d)) rfl (by decide) (by decide) rfl) ?_
   refine le ?_; intro b18
   refine lmono (fun a w h => Go.Sx.freeze (i := 0) rfl h) ?_
   refine ls (op (p_asg rfl) rfl) ?_
   refine ln ?_
   refine nthen ?_
   refine cret ?_
   refine xret (fun _ _ h => h) ?_
   refine rret (is := []) ⟨([p.name, p.to], some ⟨b18, 0, none⟩, 2), by rw [refNames, if_pos h5', if_pos h13]⟩ (Or.inl rfl) (Res.t rfl Res.d) (rfl) rfl (by repeat (first | exact Sub.d | (refine Sub.s ?_ ?_; (repeat (first | exact In.z | apply In.s))) | (refine Sub.suf ?_; (repeat (first | exact Suf.z | apply Suf.s)))))
  ·
   intro h13
   have h13' := Bool.eq_false_iff.1 h13
   refine cskip ?_
   refine nthen ?_
   refine cs ?_
   refine cr ?_
   refine ls (op (p_fa fa111_2 rfl) rfl) ?_
   refine ls (o_ld Tryz.isAgg9 rfl (by repeat (first | exact At.z | apply At.s)) (by repeat (first | exact At.z | apply At.s)) rfl) ?_
   refine ls (op (p_fa fa111_1 rfl) rfl) ?_
   refine ls (o_ld Tryz.isAgg9 rfl (by repeat (first | exact At.z | apply At.s)) (by repeat (first | exact At.z | apply At.s)) rfl) ?_
   refine ls (o_bsl [p.to, p.name] Tryz.underlying57 Tryz.sizeOf9 Tryz.zeroValue9 rfl (Enum.t (Enum.t Enum.d)) (RV.t () rfl Sub.d (RV.t () rfl Sub.d RV.d)) rfl (by decide) (by decide) rfl) ?_
   refine le ?_; intro b23
   refine lmono (fun a w h => Go.Sx.freeze (i := 0) rfl h) ?_
   refine ls (op (p_asg rfl) rfl) ?_
   refine ln ?_
   refine nthen ?_
   refine cret ?_
   refine xret (fun _ _ h => h) ?_
   refine rret (is := []) ⟨([p.to, p.name], some ⟨b23, 0, none⟩, 2), by rw [refNames, if_pos h5', if_neg h13']⟩ (Or.inl rfl) (Res.t rfl Res.d) (rfl) rfl (by repeat (first | exact Sub.d | (refine Sub.s ?_ ?_; (repeat (first | exact In.z | apply In.s))) | (refine Sub.suf ?_; (repeat (first | exact Suf.z | apply Suf.s)))))

set_option maxRecDepth 100000 in
theorem c_refAt (p : Prim) (y : Rp.Lay Prim) (k : Int) : Con Tryz.prog 110 [sv p y, .int .i64 k] [] [] Unit (fun _ => sv { p with pos := k } y) (fun _ => []) (fun _ => []) := by
 refine con Tryz.func110 rfl Tryz.ntmps110 rfl ?_
 intro M0 F0 w0
 refine cs ?_
 refine cr ?_
 refine ls (o_box rfl rfl rfl) ?_
 refine le ?_; intro b2
 refine ls (o_alloc Tryz.zeroValue111 rfl rfl) ?_
 refine le ?_; intro b4
 refine ln ?_
 refine nthen ?_
 refine cs ?_
 refine cr ?_
 refine ls (op (p_move rfl) rfl) ?_
 refine ls (op (p_fa fa111_3 rfl) rfl) ?_
 refine ls (o_st rfl Tryz.sizeOf3 rfl rfl rfl rfl rfl (by repeat (first | exact At.z | apply At.s)) (by repeat (first | exact Put.d | apply Put.t | apply Put.s)) (by repeat (first | exact SetAt.z | apply SetAt.s))) ?_
 refine ln ?_
 refine nthen ?_
 refine cs ?_
 refine cr ?_
 refine ls (o_ldw Tryz.isAgg111 Tryz.sizeOf111 rfl (by repeat (first | exact At.z | apply At.s)) (by rfl) rfl) ?_
 refine ls (o_st rfl Tryz.sizeOf111 rfl rfl rfl rfl rfl (by repeat (first | exact At.z | apply At.s)) (by repeat (first | exact Put.d | apply Put.t | apply Put.s)) (by repeat (first | exact SetAt.z | apply SetAt.s))) ?_
 refine ln ?_
 refine nthen ?_
 refine cret ?_
 refine xret (fun _ _ h => h) ?_
 refine rret (is := []) () (Or.inl rfl) (Res.c rfl Tryz.isAgg111 Tryz.sizeOf111 (by repeat (first | exact At.z | apply At.s)) (by rfl) Res.d) (rfl) rfl (by repeat (first | exact Sub.d | (refine Sub.s ?_ ?_; (repeat (first | exact In.z | apply In.s))) | (refine Sub.suf ?_; (repeat (first | exact Suf.z | apply Suf.s)))))

set_option maxRecDepth 100000 in
theorem c_refIn (p : Prim) (y : Rp.Lay Prim) (s : ByteArray) : Con Tryz.prog 111 [sv p y, .string s] [] [] Unit (fun _ => sv { p with name := s } y) (fun _ => []) (fun _ => []) := by
 refine con Tryz.func111 rfl Tryz.ntmps111 rfl ?_
 intro M0 F0 w0
 refine cs ?_
 refine cr ?_
 refine ls (o_box rfl rfl rfl) ?_
 refine le ?_; intro b2
 refine ls (o_alloc Tryz.zeroValue111 rfl rfl) ?_
 refine le ?_; intro b4
 refine ln ?_
 refine nthen ?_
 refine cs ?_
 refine cr ?_
 refine ls (op (p_move rfl) rfl) ?_
 refine ls (op (p_fa fa111_1 rfl) rfl) ?_
 refine ls (o_st rfl Tryz.sizeOf9 rfl rfl rfl rfl rfl (by repeat (first | exact At.z | apply At.s)) (by repeat (first | exact Put.d | apply Put.t | apply Put.s)) (by repeat (first | exact SetAt.z | apply SetAt.s))) ?_
 refine ln ?_
 refine nthen ?_
 refine cs ?_
 refine cr ?_
 refine ls (o_ldw Tryz.isAgg111 Tryz.sizeOf111 rfl (by repeat (first | exact At.z | apply At.s)) (by rfl) rfl) ?_
 refine ls (o_st rfl Tryz.sizeOf111 rfl rfl rfl rfl rfl (by repeat (first | exact At.z | apply At.s)) (by repeat (first | exact Put.d | apply Put.t | apply Put.s)) (by repeat (first | exact SetAt.z | apply SetAt.s))) ?_
 refine ln ?_
 refine nthen ?_
 refine cret ?_
 refine xret (fun _ _ h => h) ?_
 refine rret (is := []) () (Or.inl rfl) (Res.c rfl Tryz.isAgg111 Tryz.sizeOf111 (by repeat (first | exact At.z | apply At.s)) (by rfl) Res.d) (rfl) rfl (by repeat (first | exact Sub.d | (refine Sub.s ?_ ?_; (repeat (first | exact In.z | apply In.s))) | (refine Sub.suf ?_; (repeat (first | exact Suf.z | apply Suf.s)))))

set_option maxRecDepth 100000 in
theorem c_refCommon (p q : Prim) (yp yq : Rp.Lay Prim) : Con Tryz.prog 112 [sv p yp, sv q yq] [] (Rp.asn p yp ++ Rp.asn q yq) Unit (fun _ => .bool (p.meets q)) (fun _ => []) (fun _ => []) := by
 refine con Tryz.func112 rfl Tryz.ntmps112 rfl ?_
 intro M0 F0 w0
 refine cs ?_
 refine cr ?_
 refine ls (o_box rfl rfl rfl) ?_
 refine le ?_; intro b2
 refine ls (o_box rfl rfl rfl) ?_
 refine le ?_; intro b3
 refine ls (op (p_asg rfl) rfl) ?_
 refine ln ?_
 refine nthen ?_
 refine cs ?_
 refine cr ?_
 refine ls (o_ldw Tryz.isAgg111 Tryz.sizeOf111 rfl (by repeat (first | exact At.z | apply At.s)) (by rfl) rfl) ?_
 refine ls (o_call (is := []) Tryz.call132 (c_refNames p yp) rfl rfl (by repeat (first | exact Sub.d | (refine Sub.s ?_ ?_; (repeat (first | exact In.z | apply In.s))) | (refine Sub.suf ?_; (repeat (first | exact Suf.z | apply Suf.s))))) rfl) ?_
 refine le ?_; rintro ⟨⟨la, ya⟩, hla⟩
 dsimp only at hla
 refine ls (op (p_asg rfl) rfl) ?_
 refine ln ?_
 refine nthen ?_
 refine cs ?_
 refine cr ?_
 refine ls (o_ldw Tryz.isAgg111 Tryz.sizeOf111 rfl (by repeat (first | exact At.z | apply At.s)) (by rfl) rfl) ?_
 refine ls (o_call (is := []) Tryz.call132 (c_refNames q yq) rfl rfl (by repeat (first | exact Sub.d | (refine Sub.s ?_ ?_; (repeat (first | exact In.z | apply In.s))) | (refine Sub.suf ?_; (repeat (first | exact Suf.z | apply Suf.s))))) rfl) ?_
 refine le ?_; rintro ⟨⟨lb, yb⟩, hlb⟩
 dsimp only at hlb
 have hna : la.length ≤ 2 := hla ▸ refNames_len p
 have hnb : lb.length ≤ 2 := hlb ▸ refNames_len q
 have hm : p.meets q = la.any fun s => lb.any fun t => decide (s = t) := by rw [hla, hlb]; exact (meets_ref p q).symm
 refine ls (op (p_asg rfl) rfl) ?_
 refine ln ?_
 refine nthen ?_
 refine cs ?_
 refine cs ?_
 refine cr ?_
 refine ls (op (p_asg rfl) rfl) ?_
 refine ln ?_
 refine nthen ?_
 refine cb ?_
 refine cl (ι := {k : Nat // k ≤ la.length ∧ ((la.take k).any fun s => lb.any fun t => decide (s = t)) = false}) (fun i => St M0 F0 w0 34 [(5, .slice ya.1 la.length ya.2), (6, .slice yb.1 lb.length yb.2), (7, .int .i64 (i.1 : Int))] [] [slA ya.1 la, slA yb.1 lb]) (fun i => la.length - i.1) ⟨0, by simp⟩ (wk (is := []) (by repeat (first | exact subσ.nil _ | refine subσ.cons rfl ?_)) rfl (by repeat (first | exact Sub.d | (refine Sub.s ?_ ?_; (repeat (first | exact In.z | apply In.s))) | (refine Sub.suf ?_; (repeat (first | exact Suf.z | apply Suf.s)))))) ?_
 rintro ⟨k, hk, hkk⟩
 refine cmono (S' := St M0 F0 w0 34 [(5, .slice ya.1 la.length ya.2), (6, .slice yb.1 lb.length yb.2), (7, .int .i64 (k : Int))] [] [slA ya.1 la, slA yb.1 lb]) (fun _ _ h => h) ?_
 refine cs ?_
 refine cs ?_
 refine cr ?_
 refine ls (op (p_move rfl) rfl) ?_
 refine ls (op (p_move rfl) rfl) ?_
 refine ls (op (p_lenl rfl Tryz.underlying57) rfl) ?_
 refine ls (op (p_icmp rfl rfl rfl) rfl) ?_
 refine ln ?_
 refine nthen ?_
 refine cc rfl ?_ ?_
 ·
  intro h16
  try simp only [decide_eq_true_eq, decide_eq_false_iff_not, Bool.not_eq_true', Bool.not_eq_false', Int.not_lt, Int.not_le, ge_iff_le, Bool.not_true, Bool.not_false] at h16
  have hk1 : k < la.length := by omega
  refine cskip ?_
  refine nthen ?_
  refine cs ?_
  refine cb ?_
  refine cs ?_
  refine cr ?_
  refine ls (op (p_asg rfl) rfl) ?_
  refine ln ?_
  refine nthen ?_
  refine cb ?_
  refine cl (ι := {j : Nat // j ≤ lb.length ∧ ((lb.take j).any fun t => decide (la[k] = t)) = false}) (fun i => St M0 F0 w0 34 [(5, .slice ya.1 la.length ya.2), (6, .slice yb.1 lb.length yb.2), (7, .int .i64 (k : Int)), (8, .int .i64 (i.1 : Int))] [] [slA ya.1 la, slA yb.1 lb]) (fun i => lb.length - i.1) ⟨0, by simp⟩ (wk0 (by repeat (first | exact subσ.nil _ | refine subσ.cons rfl ?_)) (by repeat (first | exact Sub.d | (refine Sub.s ?_ ?_; (repeat (first | exact In.z | apply In.s))) | (refine Sub.suf ?_; (repeat (first | exact Suf.z | apply Suf.s)))))) ?_
  rintro ⟨j, hj, hjj⟩
  refine cmono (S' := St M0 F0 w0 34 [(5, .slice ya.1 la.length ya.2), (6, .slice yb.1 lb.length yb.2), (7, .int .i64 (k : Int)), (8, .int .i64 (j : Int))] [] [slA ya.1 la, slA yb.1 lb]) (fun _ _ h => h) ?_
  refine cs ?_
  refine cs ?_
  refine cr ?_
  refine ls (op (p_move rfl) rfl) ?_
  refine ls (op (p_move rfl) rfl) ?_
  refine ls (op (p_lenl rfl Tryz.underlying57) rfl) ?_
  refine ls (op (p_icmp rfl rfl rfl) rfl) ?_
  refine ln ?_
  refine nthen ?_
  refine cc rfl ?_ ?_
  ·
   intro h22
   try simp only [decide_eq_true_eq, decide_eq_false_iff_not, Bool.not_eq_true', Bool.not_eq_false', Int.not_lt, Int.not_le, ge_iff_le, Bool.not_true, Bool.not_false] at h22
   have hj1 : j < lb.length := by omega
   refine cskip ?_
   refine nthen ?_
   refine cs ?_
   refine cb ?_
   refine cs ?_
   refine elC (by repeat (first | exact At.z | apply At.s)) k (List.getElem?_eq_getElem (l := la) hk1) ?_; rintro zbp zop zyp hAp
   refine elC (by repeat (first | exact At.z | apply At.s)) j (List.getElem?_eq_getElem (l := lb) hj1) ?_; rintro zbq zoq zyq hAq
   refine cd [] [(3, zbp, zop + k * Rp.size ByteArray, _), (7, zbq, zoq + j * Rp.size ByteArray, _)] TryzX.mixed (TOk.t (isInS (by repeat (first | exact At.z | apply At.s)) (k := 0) rfl (z := 1) (by repeat (first | exact Cut.d | apply Cut.t | apply Cut.s))) (TOk.t (isInS (by repeat (first | exact At.z | apply At.s)) (k := 0) rfl (z := 1) (by repeat (first | exact Cut.d | apply Cut.t | apply Cut.s))) TOk.d)) ?_
   refine tk 0 rfl (by kernel_rfl) (fun _ _ _ h => h) gnone (TTany _) (p_move rfl) rfl ?_
   refine tk 1 rfl (by kernel_rfl) (fun _ _ _ h => h) gnone (TTany _) (p_move rfl) rfl ?_
   refine tk 2 rfl (by kernel_rfl) (fun _ _ _ h => h) gnone (TTany _) (p_ia k hAp hk1 rfl Tryz.underlying57 Tryz.sizeOf9 rfl rfl) rfl ?_
   refine tk 3 rfl (by kernel_rfl) (fun _ _ _ h => h) gnone (TTat (List.Mem.head _)) (p_ld Tryz.isAgg9 rfl) rfl ?_
   refine tk 4 rfl (by kernel_rfl) (fun _ _ _ h => h) gnone (TTany _) (p_move rfl) rfl ?_
   refine tk 5 rfl (by kernel_rfl) (fun _ _ _ h => h) gnone (TTany _) (p_move rfl) rfl ?_
   refine tk 6 rfl (by kernel_rfl) (fun _ _ _ h => h) gnone (TTany _) (p_ia j hAq hj1 rfl Tryz.underlying57 Tryz.sizeOf9 rfl rfl) rfl ?_
   refine tk 7 rfl (by kernel_rfl) (fun _ _ _ h => h) gnone (TTat (List.Mem.tail _ (List.Mem.head _))) (p_ld Tryz.isAgg9 rfl) rfl ?_
   refine tk 8 rfl (by kernel_rfl) (fun _ _ _ h => h) gnone (TTany _) (p_seq rfl rfl) rfl ?_
   refine dn (by kernel_rfl) ?_
   refine nthen ?_
   refine cc rfl ?_ ?_
   ·
    intro h33
    try simp only [decide_eq_true_eq, decide_eq_false_iff_not, Bool.not_eq_true', Bool.not_eq_false', Int.not_lt, Int.not_le, ge_iff_le, Bool.not_true, Bool.not_false] at h33
    refine cs ?_
    refine cr ?_
    refine ls (op (p_asg rfl) rfl) ?_
    refine ln ?_
    refine nthen ?_
    refine cret ?_
    refine xret (fun _ _ h => h) ?_
    refine rret (is := []) () (Or.inl rfl) (Res.t rfl Res.d) ?_ rfl (by repeat (first | exact Sub.d | (refine Sub.s ?_ ?_; (repeat (first | exact In.z | apply In.s))) | (refine Sub.suf ?_; (repeat (first | exact Suf.z | apply Suf.s)))))
    rw [hm]; exact congrArg Value.bool (any_two (List.getElem_mem hk1) (List.getElem_mem hj1) h33).symm
   ·
    intro h33
    try simp only [decide_eq_true_eq, decide_eq_false_iff_not, Bool.not_eq_true', Bool.not_eq_false', Int.not_lt, Int.not_le, ge_iff_le, Bool.not_true, Bool.not_false] at h33
    refine cskip ?_
    refine nblock ?_
    refine nthen ?_
    refine cr ?_
    refine ls (op (p_move rfl) rfl) ?_
    refine ls (op (p_add rfl rfl (by omega)) rfl) ?_
    refine ls (op (p_asg rfl) rfl) ?_
    refine ln ?_
    refine nnext ⟨j + 1, hj1, by rw [List.take_succ_eq_append_getElem hj1, List.any_append, hjj]; simp [h33]⟩ (by dsimp only; omega) (wk0 (by repeat (first | exact subσ.nil _ | refine subσ.cons rfl ?_)) (by repeat (first | exact Sub.d | (refine Sub.s ?_ ?_; (repeat (first | exact In.z | apply In.s))) | (refine Sub.suf ?_; (repeat (first | exact Suf.z | apply Suf.s))))))
  ·
   intro h22
   try simp only [decide_eq_true_eq, decide_eq_false_iff_not, Bool.not_eq_true', Bool.not_eq_false', Int.not_lt, Int.not_le, ge_iff_le, Bool.not_true, Bool.not_false] at h22
   refine cexit ?_
   refine xthen ?_
   refine xthen ?_
   refine xblock ?_
   refine nblock ?_
   refine nthen ?_
   refine cr ?_
   refine ls (op (p_move rfl) rfl) ?_
   refine ls (op (p_add rfl rfl (by omega)) rfl) ?_
   refine ls (op (p_asg rfl) rfl) ?_
   refine ln ?_
   refine nnext ⟨k + 1, hk1, by rw [List.take_of_length_le (show lb.length ≤ j by omega)] at hjj; rw [List.take_succ_eq_append_getElem hk1, List.any_append, hkk]; simp only [List.any_cons, List.any_nil, Bool.or_false, Bool.false_or]; exact hjj⟩ (by dsimp only; omega) (wk0 (by repeat (first | exact subσ.nil _ | refine subσ.cons rfl ?_)) (by repeat (first | exact Sub.d | (refine Sub.s ?_ ?_; (repeat (first | exact In.z | apply In.s))) | (refine Sub.suf ?_; (repeat (first | exact Suf.z | apply Suf.s))))))
 ·
  intro h16
  try simp only [decide_eq_true_eq, decide_eq_false_iff_not, Bool.not_eq_true', Bool.not_eq_false', Int.not_lt, Int.not_le, ge_iff_le, Bool.not_true, Bool.not_false] at h16
  refine cexit ?_
  refine xthen ?_
  refine xthen ?_
  refine xblock ?_
  refine nthen ?_
  refine cs ?_
  refine cr ?_
  refine ls (op (p_asg rfl) rfl) ?_
  refine ln ?_
  refine nthen ?_
  refine cret ?_
  refine xret (fun _ _ h => h) ?_
  refine rret (is := []) () (Or.inl rfl) (Res.t rfl Res.d) ?_ rfl (by repeat (first | exact Sub.d | (refine Sub.s ?_ ?_; (repeat (first | exact In.z | apply In.s))) | (refine Sub.suf ?_; (repeat (first | exact Suf.z | apply Suf.s)))))
  rw [hm]; rw [List.take_of_length_le (show la.length ≤ k by omega)] at hkk; rw [hkk]; rfl

end Go.Proofs.YtogcgfdfabnjhaaGreatDoor.X

end
section
set_option linter.unusedVariables false
set_option linter.unusedSimpArgs false
namespace Go.Proofs.YtogcgfdfabnjhaaGreatDoor.X
open Go Go.RowKit Go.Proofs Go.Sx
attribute [local irreducible] slA isA box row

theorem two_fit {p q : Prim} (hp : p.fit) (hq : q.fit) : (Sx.refTwo p q).1.fit ∧ (Sx.refTwo p q).2.1.fit := by
 obtain ⟨p1, p2, p3, p4, p5, p6⟩ := hp
 obtain ⟨q1, q2, q3, q4, q5, q6⟩ := hq
 unfold Sx.refTwo Sx.hunks
 refine ⟨?_, ?_⟩ <;> (repeat' split) <;> constructor <;> assumption

theorem sb111 : SB Tryz.prog 111 [(0, 1), (1, 1), (2, 1), (3, 1), (4, 1), (5, 1)] [.int .i64 0, .string ⟨#[]⟩, .string ⟨#[]⟩, .int .i64 0, .slice none 0 0, .slice none 0 0] := SB.struct Tryz.zeroValue111 rfl Tryz.underlying111 (fun w => by kernel_rfl)
set_option maxRecDepth 100000 in
theorem c_refTwo (p q : Prim) (yp yq : Rp.Lay Prim) (hp : p.fit) (hq : q.fit) (hpr : p.right = true) (hqr : q.right = true) : Con Tryz.prog 97 [sv p yp, sv q yq] [] (Rp.asn p yp ++ Rp.asn q yq) (Two (refTwo p q)) (fun x => x.v) (fun _ => []) (fun x => x.g) := by
 refine con Tryz.func97 rfl Tryz.ntmps97 rfl ?_
 intro M0 F0 w0
 refine cs ?_
 refine cr ?_
 refine ls (o_box rfl rfl rfl) ?_
 refine le ?_; intro b2
 refine ls (o_box rfl rfl rfl) ?_
 refine le ?_; intro b3
 refine ls (o_alloc Tryz.zeroValue111 rfl rfl) ?_
 refine le ?_; intro b4
 refine ls (o_alloc Tryz.zeroValue111 rfl rfl) ?_
 refine le ?_; intro b5
 refine ls (op (p_asg rfl) rfl) ?_
 refine ln ?_
 refine nthen ?_
 refine cs ?_
 refine cs ?_
 have hp1 := hp.o; have hp2 := hp.n; have hq1 := hq.o; have hq2 := hq.n; have hpa := right_pos hpr; have hqa := right_pos hqr
 refine cr ?_
 refine ls (op (p_fa fa111_0 rfl) rfl) ?_
 refine ls (o_ld Tryz.isAgg3 rfl (by repeat (first | exact At.z | apply At.s)) (by repeat (first | exact At.z | apply At.s)) rfl) ?_
 refine ls (op (p_icmp rfl rfl rfl) rfl) ?_
 refine ls (op (p_move rfl) rfl) ?_
 refine andX 4 10 14 rfl (subσ.cons (t := 0) rfl (subσ.cons (t := 1) rfl (subσ.cons (t := 2) rfl (subσ.cons (t := 3) rfl (subσ.cons (t := 4) rfl (subσ.cons (t := 5) rfl (subσ.cons (t := 6) rfl (subσ.nil _)))))))) ?_ ?_
 ·
  intro h10
  refine lskip rfl rfl rfl rfl rfl ?_
  refine lskip rfl rfl rfl rfl rfl ?_
  refine lskip rfl rfl rfl rfl rfl ?_
  refine ls (op (p_pickf rfl rfl) rfl) ?_
  refine ln (nmid (wk0 (by repeat (first | exact subσ.nil _ | refine subσ.cons rfl ?_)) (by repeat (first | exact Sub.d | (refine Sub.s ?_ ?_; (repeat (first | exact In.z | apply In.s))) | (refine Sub.suf ?_; (repeat (first | exact Suf.z | apply Suf.s)))))))
 apply exI
 ·
  intro h10
  refine lwant rfl rfl rfl rfl (op (p_fa fa111_0 rfl) rfl) ?_
  refine lwant rfl rfl rfl rfl (o_ld Tryz.isAgg3 rfl (by repeat (first | exact At.z | apply At.s)) (by repeat (first | exact At.z | apply At.s)) rfl) ?_
  refine lwant rfl rfl rfl rfl (op (p_icmp rfl rfl rfl) rfl) ?_
  refine ls (op (p_pickt rfl rfl) rfl) ?_
  refine ln (nmid (wk0 (by repeat (first | exact subσ.nil _ | refine subσ.cons rfl ?_)) (by repeat (first | exact Sub.d | (refine Sub.s ?_ ?_; (repeat (first | exact In.z | apply In.s))) | (refine Sub.suf ?_; (repeat (first | exact Suf.z | apply Suf.s)))))))
 ·
  refine ls (op (p_move rfl) rfl) ?_
  refine andX 6 15 21 rfl (subσ.cons (t := 0) rfl (subσ.cons (t := 1) rfl (subσ.cons (t := 2) rfl (subσ.cons (t := 3) rfl (subσ.cons (t := 4) rfl (subσ.cons (t := 5) rfl (subσ.cons (t := 6) rfl (subσ.nil _)))))))) ?_ ?_
  ·
   intro h15
   refine lskip rfl rfl rfl rfl rfl ?_
   refine lskip rfl rfl rfl rfl rfl ?_
   refine lskip rfl rfl rfl rfl rfl ?_
   refine lskip rfl rfl rfl rfl rfl ?_
   refine lskip rfl rfl rfl rfl rfl ?_
   refine ls (op (p_pickf rfl rfl) rfl) ?_
   refine ln (nmid (wk0 (by repeat (first | exact subσ.nil _ | refine subσ.cons rfl ?_)) (by repeat (first | exact Sub.d | (refine Sub.s ?_ ?_; (repeat (first | exact In.z | apply In.s))) | (refine Sub.suf ?_; (repeat (first | exact Suf.z | apply Suf.s)))))))
  apply exI
  ·
   intro h15
   refine lwant rfl rfl rfl rfl (op (p_fa fa111_1 rfl) rfl) ?_
   refine lwant rfl rfl rfl rfl (o_ld Tryz.isAgg9 rfl (by repeat (first | exact At.z | apply At.s)) (by repeat (first | exact At.z | apply At.s)) rfl) ?_
   refine lwant rfl rfl rfl rfl (op (p_fa fa111_1 rfl) rfl) ?_
   refine lwant rfl rfl rfl rfl (o_ld Tryz.isAgg9 rfl (by repeat (first | exact At.z | apply At.s)) (by repeat (first | exact At.z | apply At.s)) rfl) ?_
   refine lwant rfl rfl rfl rfl (op (p_seq rfl rfl) rfl) ?_
   refine ls (op (p_pickt rfl rfl) rfl) ?_
   refine ln (nmid (wk0 (by repeat (first | exact subσ.nil _ | refine subσ.cons rfl ?_)) (by repeat (first | exact Sub.d | (refine Sub.s ?_ ?_; (repeat (first | exact In.z | apply In.s))) | (refine Sub.suf ?_; (repeat (first | exact Suf.z | apply Suf.s)))))))
  ·
   refine ln ?_
   refine nthen ?_
   refine cc rfl ?_ ?_
   ·
    intro h21
    have h21' : p.kind = 0 ∧ q.kind = 0 ∧ p.name = q.name := by simpa [and_assoc] using h21
    refine cs ?_
    refine cs ?_
    refine cr ?_
    refine ls (op (p_fa fa111_3 rfl) rfl) ?_
    refine ls (o_ld Tryz.isAgg3 rfl (by repeat (first | exact At.z | apply At.s)) (by repeat (first | exact At.z | apply At.s)) rfl) ?_
    refine ls (op (p_fa fa111_3 rfl) rfl) ?_
    refine ls (o_ld Tryz.isAgg3 rfl (by repeat (first | exact At.z | apply At.s)) (by repeat (first | exact At.z | apply At.s)) rfl) ?_
    refine ls (op (p_fa fa111_5 rfl) rfl) ?_
    refine ls (o_ld Tryz.isAgg57 rfl (by repeat (first | exact At.z | apply At.s)) (by repeat (first | exact At.z | apply At.s)) rfl) ?_
    refine ls (op (p_lenl rfl Tryz.underlying57) rfl) ?_
    refine ls (op (p_add rfl rfl (by omega)) rfl) ?_
    refine ls (op (p_icmp rfl rfl rfl) rfl) ?_
    refine ln ?_
    refine nthen ?_
    refine cc rfl ?_ ?_
    ·
     intro h30
     try simp only [decide_eq_true_eq, decide_eq_false_iff_not, Bool.not_eq_true', Bool.not_eq_false', Int.not_lt, Int.not_le, ge_iff_le, Bool.not_true, Bool.not_false] at h30
     refine cs ?_
     refine cd [11, 13, 14] [(0, b3, 0, _), (2, b3, 3, _), (4, b2, 5, _), (8, b2, 4, _), (12, b2, 0, _)] TryzX.mixed (TOk.t (isBoxS (by repeat (first | exact At.z | apply At.s)) (k := 6) (by repeat (first | exact Cut.d | apply Cut.t | apply Cut.s))) (TOk.t (isBoxS (by repeat (first | exact At.z | apply At.s)) (k := 1) (by repeat (first | exact Cut.d | apply Cut.t | apply Cut.s))) (TOk.t (isBoxS (by repeat (first | exact At.z | apply At.s)) (k := 1) (by repeat (first | exact Cut.d | apply Cut.t | apply Cut.s))) (TOk.t (isBoxS (by repeat (first | exact At.z | apply At.s)) (k := 1) (by repeat (first | exact Cut.d | apply Cut.t | apply Cut.s))) (TOk.t (isBoxS (by repeat (first | exact At.z | apply At.s)) (k := 6) (by repeat (first | exact Cut.d | apply Cut.t | apply Cut.s))) TOk.d))))) ?_
     refine tk 0 rfl (by kernel_rfl) (fun _ _ _ h => h) gnone (TTat (List.Mem.head _)) (p_lda Tryz.isAgg111 Tryz.sizeOf111 rfl rfl) rfl ?_
     refine tk 1 rfl (by kernel_rfl) (fun _ _ _ h => h) gnone (TTany _) (p_fa fa111_3 rfl) rfl ?_
     refine tk 2 rfl (by kernel_rfl) (fun _ _ _ h => h) gnone (TTat (List.Mem.tail _ (List.Mem.head _))) (p_ld Tryz.isAgg3 rfl) rfl ?_
     refine tk 3 rfl (by kernel_rfl) (fun _ _ _ h => h) gnone (TTany _) (p_fa fa111_5 rfl) rfl ?_
     refine tk 4 rfl (by kernel_rfl) (fun _ _ _ h => h) gnone (TTat (List.Mem.tail _ (List.Mem.tail _ (List.Mem.head _)))) (p_ld Tryz.isAgg57 rfl) rfl ?_
     refine tk 5 rfl (by kernel_rfl) (fun _ _ _ h => h) gnone (TTany _) (p_lenl rfl Tryz.underlying57) rfl ?_
     refine tk 6 rfl (by kernel_rfl) (fun _ _ _ h => h) gnone (TTany _) (p_sub rfl rfl (by omega)) rfl ?_
     refine tk 7 rfl (by kernel_rfl) (fun _ _ _ h => h) gnone (TTany _) (p_fa fa111_4 rfl) rfl ?_
     refine tk 8 rfl (by kernel_rfl) (fun _ _ _ h => h) gnone (TTat (List.Mem.tail _ (List.Mem.tail _ (List.Mem.tail _ (List.Mem.head _))))) (p_ld Tryz.isAgg57 rfl) rfl ?_
     refine tk 9 rfl (by kernel_rfl) (fun _ _ _ h => h) gnone (TTany _) (p_lenl rfl Tryz.underlying57) rfl ?_
     refine tk 10 rfl (by kernel_rfl) (fun _ _ _ h => h) gnone (TTany _) (p_add rfl rfl (by omega)) rfl ?_
     refine tk 12 rfl (by kernel_rfl) (fun _ _ _ h => h) gnone (TTat (List.Mem.tail _ (List.Mem.tail _ (List.Mem.tail _ (List.Mem.tail _ (List.Mem.head _)))))) (p_lda Tryz.isAgg111 Tryz.sizeOf111 rfl rfl) rfl ?_
     refine df 11 (by kernel_rfl) ?_
     refine doR rfl (o_call (is := []) Tryz.call110 (c_refAt q yq _) rfl rfl (by repeat (first | exact Sub.d | (refine Sub.s ?_ ?_; (repeat (first | exact In.z | apply In.s))) | (refine Sub.suf ?_; (repeat (first | exact Suf.z | apply Suf.s))))) rfl) (TOk.x (by kernel_rfl) (TOk.x (by kernel_rfl) (TOk.x (by kernel_rfl) (TOk.x (by kernel_rfl) (TOk.t (isBoxE fun _ => isBoxS (by repeat (first | exact At.z | apply At.s)) (k := 6) (by repeat (first | exact Cut.d | apply Cut.t | apply Cut.s))) TOk.d))))) ?_
     refine ea ?_; intro x42
     refine df 13 (by kernel_rfl) ?_
     refine doR rfl (o_st rfl Tryz.sizeOf111 rfl rfl rfl rfl rfl (by repeat (first | exact At.z | apply At.s)) (by repeat (first | exact Put.d | apply Put.t | apply Put.s)) (by repeat (first | exact SetAt.z | apply SetAt.s))) (TOk.x (by kernel_rfl) (TOk.x (by kernel_rfl) (TOk.x (by kernel_rfl) (TOk.x (by kernel_rfl) (TOk.t (isBoxS (by repeat (first | exact At.z | apply At.s)) (k := 6) (by repeat (first | exact Cut.d | apply Cut.t | apply Cut.s))) TOk.d))))) ?_
     refine df 14 (by kernel_rfl) ?_
     refine doR rfl (o_st rfl Tryz.sizeOf111 rfl rfl rfl rfl rfl (by repeat (first | exact At.z | apply At.s)) (by repeat (first | exact Put.d | apply Put.t | apply Put.s)) (by repeat (first | exact SetAt.z | apply SetAt.s))) (TOk.x (by kernel_rfl) (TOk.x (by kernel_rfl) (TOk.x (by kernel_rfl) (TOk.x (by kernel_rfl) (TOk.x (by kernel_rfl) TOk.d))))) ?_
     refine tk 15 rfl (by kernel_rfl) (fun _ _ _ h => h) gnone (TTany _) (p_asg rfl) rfl ?_
     refine dn (by kernel_rfl) ?_
     refine nthen ?_
     refine cret ?_
     refine xret (fun _ _ h => h) ?_
     refine rret (is := []) ⟨(({ q with pos := q.pos - (p.new.length : Int) + (p.old.length : Int) }, p, true), (yq, yp)), by rw [refTwo, if_pos h21', Sx.hunks, if_pos h30, show q.pos - ((p.new.length : Int) - p.old.length) = q.pos - (p.new.length : Int) + (p.old.length : Int) by omega]⟩ (Or.inl rfl) (Res.c rfl Tryz.isAgg111 Tryz.sizeOf111 (by repeat (first | exact At.z | apply At.s)) (by rfl) (Res.c rfl Tryz.isAgg111 Tryz.sizeOf111 (by repeat (first | exact At.z | apply At.s)) (by rfl) (Res.t rfl Res.d))) (rfl) rfl (by repeat (first | exact Sub.d | (refine Sub.s ?_ ?_; (repeat (first | exact In.z | apply In.s))) | (refine Sub.suf ?_; (repeat (first | exact Suf.z | apply Suf.s)))))
    ·
     intro h30
     try simp only [decide_eq_true_eq, decide_eq_false_iff_not, Bool.not_eq_true', Bool.not_eq_false', Int.not_lt, Int.not_le, ge_iff_le, Bool.not_true, Bool.not_false] at h30
     refine cskip ?_
     refine nthen ?_
     refine cs ?_
     refine cs ?_
     refine cr ?_
     refine ls (op (p_fa fa111_3 rfl) rfl) ?_
     refine ls (o_ld Tryz.isAgg3 rfl (by repeat (first | exact At.z | apply At.s)) (by repeat (first | exact At.z | apply At.s)) rfl) ?_
     refine ls (op (p_fa fa111_4 rfl) rfl) ?_
     refine ls (o_ld Tryz.isAgg57 rfl (by repeat (first | exact At.z | apply At.s)) (by repeat (first | exact At.z | apply At.s)) rfl) ?_
     refine ls (op (p_lenl rfl Tryz.underlying57) rfl) ?_
     refine ls (op (p_add rfl rfl (by omega)) rfl) ?_
     refine ls (op (p_fa fa111_3 rfl) rfl) ?_
     refine ls (o_ld Tryz.isAgg3 rfl (by repeat (first | exact At.z | apply At.s)) (by repeat (first | exact At.z | apply At.s)) rfl) ?_
     refine ls (op (p_icmp rfl rfl rfl) rfl) ?_
     refine ln ?_
     refine nthen ?_
     refine cc rfl ?_ ?_
     ·
      intro h52
      try simp only [decide_eq_true_eq, decide_eq_false_iff_not, Bool.not_eq_true', Bool.not_eq_false', Int.not_lt, Int.not_le, ge_iff_le, Bool.not_true, Bool.not_false] at h52
      refine cs ?_
      refine cd [12, 13, 14] [(0, b3, 0, _), (1, b2, 0, _), (3, b2, 3, _), (5, b3, 5, _), (9, b3, 4, _)] TryzX.mixed (TOk.t (isBoxS (by repeat (first | exact At.z | apply At.s)) (k := 6) (by repeat (first | exact Cut.d | apply Cut.t | apply Cut.s))) (TOk.t (isBoxS (by repeat (first | exact At.z | apply At.s)) (k := 6) (by repeat (first | exact Cut.d | apply Cut.t | apply Cut.s))) (TOk.t (isBoxS (by repeat (first | exact At.z | apply At.s)) (k := 1) (by repeat (first | exact Cut.d | apply Cut.t | apply Cut.s))) (TOk.t (isBoxS (by repeat (first | exact At.z | apply At.s)) (k := 1) (by repeat (first | exact Cut.d | apply Cut.t | apply Cut.s))) (TOk.t (isBoxS (by repeat (first | exact At.z | apply At.s)) (k := 1) (by repeat (first | exact Cut.d | apply Cut.t | apply Cut.s))) TOk.d))))) ?_
      refine tk 0 rfl (by kernel_rfl) (fun _ _ _ h => h) gnone (TTat (List.Mem.head _)) (p_lda Tryz.isAgg111 Tryz.sizeOf111 rfl rfl) rfl ?_
      refine tk 1 rfl (by kernel_rfl) (fun _ _ _ h => h) gnone (TTat (List.Mem.tail _ (List.Mem.head _))) (p_lda Tryz.isAgg111 Tryz.sizeOf111 rfl rfl) rfl ?_
      refine tk 2 rfl (by kernel_rfl) (fun _ _ _ h => h) gnone (TTany _) (p_fa fa111_3 rfl) rfl ?_
      refine tk 3 rfl (by kernel_rfl) (fun _ _ _ h => h) gnone (TTat (List.Mem.tail _ (List.Mem.tail _ (List.Mem.head _)))) (p_ld Tryz.isAgg3 rfl) rfl ?_
      refine tk 4 rfl (by kernel_rfl) (fun _ _ _ h => h) gnone (TTany _) (p_fa fa111_5 rfl) rfl ?_
      refine tk 5 rfl (by kernel_rfl) (fun _ _ _ h => h) gnone (TTat (List.Mem.tail _ (List.Mem.tail _ (List.Mem.tail _ (List.Mem.head _))))) (p_ld Tryz.isAgg57 rfl) rfl ?_
      refine tk 6 rfl (by kernel_rfl) (fun _ _ _ h => h) gnone (TTany _) (p_lenl rfl Tryz.underlying57) rfl ?_
      refine tk 7 rfl (by kernel_rfl) (fun _ _ _ h => h) gnone (TTany _) (p_add rfl rfl (by omega)) rfl ?_
      refine tk 8 rfl (by kernel_rfl) (fun _ _ _ h => h) gnone (TTany _) (p_fa fa111_4 rfl) rfl ?_
      refine tk 9 rfl (by kernel_rfl) (fun _ _ _ h => h) gnone (TTat (List.Mem.tail _ (List.Mem.tail _ (List.Mem.tail _ (List.Mem.tail _ (List.Mem.head _)))))) (p_ld Tryz.isAgg57 rfl) rfl ?_
      refine tk 10 rfl (by kernel_rfl) (fun _ _ _ h => h) gnone (TTany _) (p_lenl rfl Tryz.underlying57) rfl ?_
      refine tk 11 rfl (by kernel_rfl) (fun _ _ _ h => h) gnone (TTany _) (p_sub rfl rfl (by omega)) rfl ?_
      refine df 12 (by kernel_rfl) ?_
      refine doR rfl (o_call (is := []) Tryz.call110 (c_refAt p yp _) rfl rfl (by repeat (first | exact Sub.d | (refine Sub.s ?_ ?_; (repeat (first | exact In.z | apply In.s))) | (refine Sub.suf ?_; (repeat (first | exact Suf.z | apply Suf.s))))) rfl) (TOk.t (isBoxE fun _ => isBoxS (by repeat (first | exact At.z | apply At.s)) (k := 6) (by repeat (first | exact Cut.d | apply Cut.t | apply Cut.s))) (TOk.x (by kernel_rfl) (TOk.x (by kernel_rfl) (TOk.x (by kernel_rfl) (TOk.x (by kernel_rfl) TOk.d))))) ?_
      refine ea ?_; intro x65
      refine df 13 (by kernel_rfl) ?_
      refine doR rfl (o_st rfl Tryz.sizeOf111 rfl rfl rfl rfl rfl (by repeat (first | exact At.z | apply At.s)) (by repeat (first | exact Put.d | apply Put.t | apply Put.s)) (by repeat (first | exact SetAt.z | apply SetAt.s))) (TOk.x (by kernel_rfl) (TOk.x (by kernel_rfl) (TOk.x (by kernel_rfl) (TOk.x (by kernel_rfl) (TOk.x (by kernel_rfl) TOk.d))))) ?_
      refine df 14 (by kernel_rfl) ?_
      refine doR rfl (o_st rfl Tryz.sizeOf111 rfl rfl rfl rfl rfl (by repeat (first | exact At.z | apply At.s)) (by repeat (first | exact Put.d | apply Put.t | apply Put.s)) (by repeat (first | exact SetAt.z | apply SetAt.s))) (TOk.x (by kernel_rfl) (TOk.x (by kernel_rfl) (TOk.x (by kernel_rfl) (TOk.x (by kernel_rfl) (TOk.x (by kernel_rfl) TOk.d))))) ?_
      refine tk 15 rfl (by kernel_rfl) (fun _ _ _ h => h) gnone (TTany _) (p_asg rfl) rfl ?_
      refine dn (by kernel_rfl) ?_
      refine nthen ?_
      refine cret ?_
      refine xret (fun _ _ h => h) ?_
      refine rret (is := []) ⟨((q, { p with pos := p.pos + (q.new.length : Int) - (q.old.length : Int) }, true), (yq, yp)), by rw [refTwo, if_pos h21', Sx.hunks, if_neg (by omega), if_pos h52, show p.pos + ((q.new.length : Int) - q.old.length) = p.pos + (q.new.length : Int) - (q.old.length : Int) by omega]⟩ (Or.inl rfl) (Res.c rfl Tryz.isAgg111 Tryz.sizeOf111 (by repeat (first | exact At.z | apply At.s)) (by rfl) (Res.c rfl Tryz.isAgg111 Tryz.sizeOf111 (by repeat (first | exact At.z | apply At.s)) (by rfl) (Res.t rfl Res.d))) (rfl) rfl (by repeat (first | exact Sub.d | (refine Sub.s ?_ ?_; (repeat (first | exact In.z | apply In.s))) | (refine Sub.suf ?_; (repeat (first | exact Suf.z | apply Suf.s)))))
     ·
      intro h52
      try simp only [decide_eq_true_eq, decide_eq_false_iff_not, Bool.not_eq_true', Bool.not_eq_false', Int.not_lt, Int.not_le, ge_iff_le, Bool.not_true, Bool.not_false] at h52
      refine cskip ?_
      refine nthen ?_
      refine cs ?_
      refine cd [2, 3] [(0, b2, 0, _), (1, b3, 0, _)] TryzX.mixed (TOk.t (isBoxS (by repeat (first | exact At.z | apply At.s)) (k := 6) (by repeat (first | exact Cut.d | apply Cut.t | apply Cut.s))) (TOk.t (isBoxS (by repeat (first | exact At.z | apply At.s)) (k := 6) (by repeat (first | exact Cut.d | apply Cut.t | apply Cut.s))) TOk.d)) ?_
      refine tk 0 rfl (by kernel_rfl) (fun _ _ _ h => h) gnone (TTat (List.Mem.head _)) (p_lda Tryz.isAgg111 Tryz.sizeOf111 rfl rfl) rfl ?_
      refine tk 1 rfl (by kernel_rfl) (fun _ _ _ h => h) gnone (TTat (List.Mem.tail _ (List.Mem.head _))) (p_lda Tryz.isAgg111 Tryz.sizeOf111 rfl rfl) rfl ?_
      refine df 2 (by kernel_rfl) ?_
      refine doR rfl (o_st rfl Tryz.sizeOf111 rfl rfl rfl rfl rfl (by repeat (first | exact At.z | apply At.s)) (by repeat (first | exact Put.d | apply Put.t | apply Put.s)) (by repeat (first | exact SetAt.z | apply SetAt.s))) (TOk.x (by kernel_rfl) (TOk.t (isBoxS (by repeat (first | exact At.z | apply At.s)) (k := 6) (by repeat (first | exact Cut.d | apply Cut.t | apply Cut.s))) TOk.d)) ?_
      refine df 3 (by kernel_rfl) ?_
      refine doR rfl (o_st rfl Tryz.sizeOf111 rfl rfl rfl rfl rfl (by repeat (first | exact At.z | apply At.s)) (by repeat (first | exact Put.d | apply Put.t | apply Put.s)) (by repeat (first | exact SetAt.z | apply SetAt.s))) (TOk.x (by kernel_rfl) (TOk.x (by kernel_rfl) TOk.d)) ?_
      refine tk 4 rfl (by kernel_rfl) (fun _ _ _ h => h) gnone (TTany _) (p_asg rfl) rfl ?_
      refine dn (by kernel_rfl) ?_
      refine nthen ?_
      refine cret ?_
      refine xret (fun _ _ h => h) ?_
      refine rret (is := []) ⟨((p, q, false), (yp, yq)), by rw [refTwo, if_pos h21', Sx.hunks, if_neg (by omega), if_neg (by omega)]⟩ (Or.inl rfl) (Res.c rfl Tryz.isAgg111 Tryz.sizeOf111 (by repeat (first | exact At.z | apply At.s)) (by rfl) (Res.c rfl Tryz.isAgg111 Tryz.sizeOf111 (by repeat (first | exact At.z | apply At.s)) (by rfl) (Res.t rfl Res.d))) (rfl) rfl (by repeat (first | exact Sub.d | (refine Sub.s ?_ ?_; (repeat (first | exact In.z | apply In.s))) | (refine Sub.suf ?_; (repeat (first | exact Suf.z | apply Suf.s)))))
   ·
    intro h21
    have h21' : ¬ (p.kind = 0 ∧ q.kind = 0 ∧ p.name = q.name) := by intro e; obtain ⟨e1, e2, e3⟩ := e; rw [e1, e2, e3] at h21; simp at h21
    refine cskip ?_
    refine nthen ?_
    refine cs ?_
    refine cs ?_
    refine cr ?_
    refine ls (op (p_fa fa111_0 rfl) rfl) ?_
    refine ls (o_ld Tryz.isAgg3 rfl (by repeat (first | exact At.z | apply At.s)) (by repeat (first | exact At.z | apply At.s)) rfl) ?_
    refine ls (op (p_icmp rfl rfl rfl) rfl) ?_
    refine ls (op (p_move rfl) rfl) ?_
    refine andX 4 71 75 rfl (subσ.cons (t := 0) rfl (subσ.cons (t := 1) rfl (subσ.cons (t := 2) rfl (subσ.cons (t := 3) rfl (subσ.cons (t := 4) rfl (subσ.cons (t := 5) rfl (subσ.cons (t := 6) rfl (subσ.cons (t := 21) rfl (subσ.nil _))))))))) ?_ ?_
    ·
     intro h71
     refine lskip rfl rfl rfl rfl rfl ?_
     refine lskip rfl rfl rfl rfl rfl ?_
     refine lskip rfl rfl rfl rfl rfl ?_
     refine ls (op (p_pickf rfl rfl) rfl) ?_
     refine ln (nmid (wk0 (by repeat (first | exact subσ.nil _ | refine subσ.cons rfl ?_)) (by repeat (first | exact Sub.d | (refine Sub.s ?_ ?_; (repeat (first | exact In.z | apply In.s))) | (refine Sub.suf ?_; (repeat (first | exact Suf.z | apply Suf.s)))))))
    apply exI
    ·
     intro h71
     refine lwant rfl rfl rfl rfl (op (p_fa fa111_0 rfl) rfl) ?_
     refine lwant rfl rfl rfl rfl (o_ld Tryz.isAgg3 rfl (by repeat (first | exact At.z | apply At.s)) (by repeat (first | exact At.z | apply At.s)) rfl) ?_
     refine lwant rfl rfl rfl rfl (op (p_icmp rfl rfl rfl) rfl) ?_
     refine ls (op (p_pickt rfl rfl) rfl) ?_
     refine ln (nmid (wk0 (by repeat (first | exact subσ.nil _ | refine subσ.cons rfl ?_)) (by repeat (first | exact Sub.d | (refine Sub.s ?_ ?_; (repeat (first | exact In.z | apply In.s))) | (refine Sub.suf ?_; (repeat (first | exact Suf.z | apply Suf.s)))))))
    ·
     refine ls (op (p_move rfl) rfl) ?_
     refine andX 6 76 82 rfl (subσ.cons (t := 0) rfl (subσ.cons (t := 1) rfl (subσ.cons (t := 2) rfl (subσ.cons (t := 3) rfl (subσ.cons (t := 4) rfl (subσ.cons (t := 5) rfl (subσ.cons (t := 6) rfl (subσ.cons (t := 21) rfl (subσ.nil _))))))))) ?_ ?_
     ·
      intro h76
      refine lskip rfl rfl rfl rfl rfl ?_
      refine lskip rfl rfl rfl rfl rfl ?_
      refine lskip rfl rfl rfl rfl rfl ?_
      refine lskip rfl rfl rfl rfl rfl ?_
      refine lskip rfl rfl rfl rfl rfl ?_
      refine ls (op (p_pickf rfl rfl) rfl) ?_
      refine ln (nmid (wk0 (by repeat (first | exact subσ.nil _ | refine subσ.cons rfl ?_)) (by repeat (first | exact Sub.d | (refine Sub.s ?_ ?_; (repeat (first | exact In.z | apply In.s))) | (refine Sub.suf ?_; (repeat (first | exact Suf.z | apply Suf.s)))))))
     apply exI
     ·
      intro h76
      refine lwant rfl rfl rfl rfl (op (p_fa fa111_1 rfl) rfl) ?_
      refine lwant rfl rfl rfl rfl (o_ld Tryz.isAgg9 rfl (by repeat (first | exact At.z | apply At.s)) (by repeat (first | exact At.z | apply At.s)) rfl) ?_
      refine lwant rfl rfl rfl rfl (op (p_fa fa111_1 rfl) rfl) ?_
      refine lwant rfl rfl rfl rfl (o_ld Tryz.isAgg9 rfl (by repeat (first | exact At.z | apply At.s)) (by repeat (first | exact At.z | apply At.s)) rfl) ?_
      refine lwant rfl rfl rfl rfl (op (p_seq rfl rfl) rfl) ?_
      refine ls (op (p_pickt rfl rfl) rfl) ?_
      refine ln (nmid (wk0 (by repeat (first | exact subσ.nil _ | refine subσ.cons rfl ?_)) (by repeat (first | exact Sub.d | (refine Sub.s ?_ ?_; (repeat (first | exact In.z | apply In.s))) | (refine Sub.suf ?_; (repeat (first | exact Suf.z | apply Suf.s)))))))
     ·
      refine ln ?_
      refine nthen ?_
      refine cc rfl ?_ ?_
      ·
       intro h82
       have h82' : p.kind = 0 ∧ q.kind = 3 ∧ p.name = q.name := by simpa [and_assoc] using h82
       refine cs ?_
       refine cd [4, 5, 6] [(0, b3, 0, _), (1, b2, 0, _), (3, b3, 2, _)] TryzX.mixed (TOk.t (isBoxS (by repeat (first | exact At.z | apply At.s)) (k := 6) (by repeat (first | exact Cut.d | apply Cut.t | apply Cut.s))) (TOk.t (isBoxS (by repeat (first | exact At.z | apply At.s)) (k := 6) (by repeat (first | exact Cut.d | apply Cut.t | apply Cut.s))) (TOk.t (isBoxS (by repeat (first | exact At.z | apply At.s)) (k := 1) (by repeat (first | exact Cut.d | apply Cut.t | apply Cut.s))) TOk.d))) ?_
       refine tk 0 rfl (by kernel_rfl) (fun _ _ _ h => h) gnone (TTat (List.Mem.head _)) (p_lda Tryz.isAgg111 Tryz.sizeOf111 rfl rfl) rfl ?_
       refine tk 1 rfl (by kernel_rfl) (fun _ _ _ h => h) gnone (TTat (List.Mem.tail _ (List.Mem.head _))) (p_lda Tryz.isAgg111 Tryz.sizeOf111 rfl rfl) rfl ?_
       refine tk 2 rfl (by kernel_rfl) (fun _ _ _ h => h) gnone (TTany _) (p_fa fa111_2 rfl) rfl ?_
       refine tk 3 rfl (by kernel_rfl) (fun _ _ _ h => h) gnone (TTat (List.Mem.tail _ (List.Mem.tail _ (List.Mem.head _)))) (p_ld Tryz.isAgg9 rfl) rfl ?_
       refine df 4 (by kernel_rfl) ?_
       refine doR rfl (o_call (is := []) Tryz.call111 (c_refIn p yp _) rfl rfl (by repeat (first | exact Sub.d | (refine Sub.s ?_ ?_; (repeat (first | exact In.z | apply In.s))) | (refine Sub.suf ?_; (repeat (first | exact Suf.z | apply Suf.s))))) rfl) (TOk.t (isBoxE fun _ => isBoxS (by repeat (first | exact At.z | apply At.s)) (k := 6) (by repeat (first | exact Cut.d | apply Cut.t | apply Cut.s))) (TOk.x (by kernel_rfl) (TOk.x (by kernel_rfl) TOk.d))) ?_
       refine ea ?_; intro x87
       refine df 5 (by kernel_rfl) ?_
       refine doR rfl (o_st rfl Tryz.sizeOf111 rfl rfl rfl rfl rfl (by repeat (first | exact At.z | apply At.s)) (by repeat (first | exact Put.d | apply Put.t | apply Put.s)) (by repeat (first | exact SetAt.z | apply SetAt.s))) (TOk.x (by kernel_rfl) (TOk.x (by kernel_rfl) (TOk.x (by kernel_rfl) TOk.d))) ?_
       refine df 6 (by kernel_rfl) ?_
       refine doR rfl (o_st rfl Tryz.sizeOf111 rfl rfl rfl rfl rfl (by repeat (first | exact At.z | apply At.s)) (by repeat (first | exact Put.d | apply Put.t | apply Put.s)) (by repeat (first | exact SetAt.z | apply SetAt.s))) (TOk.x (by kernel_rfl) (TOk.x (by kernel_rfl) (TOk.x (by kernel_rfl) TOk.d))) ?_
       refine tk 7 rfl (by kernel_rfl) (fun _ _ _ h => h) gnone (TTany _) (p_asg rfl) rfl ?_
       refine dn (by kernel_rfl) ?_
       refine nthen ?_
       refine cret ?_
       refine xret (fun _ _ h => h) ?_
       refine rret (is := []) ⟨((q, { p with name := q.to }, true), (yq, yp)), by rw [refTwo, if_neg h21', if_pos h82']⟩ (Or.inl rfl) (Res.c rfl Tryz.isAgg111 Tryz.sizeOf111 (by repeat (first | exact At.z | apply At.s)) (by rfl) (Res.c rfl Tryz.isAgg111 Tryz.sizeOf111 (by repeat (first | exact At.z | apply At.s)) (by rfl) (Res.t rfl Res.d))) (rfl) rfl (by repeat (first | exact Sub.d | (refine Sub.s ?_ ?_; (repeat (first | exact In.z | apply In.s))) | (refine Sub.suf ?_; (repeat (first | exact Suf.z | apply Suf.s)))))
      ·
       intro h82
       have h82' : ¬ (p.kind = 0 ∧ q.kind = 3 ∧ p.name = q.name) := by intro e; obtain ⟨e1, e2, e3⟩ := e; rw [e1, e2, e3] at h82; simp at h82
       refine cskip ?_
       refine nthen ?_
       refine cs ?_
       refine cs ?_
       refine cr ?_
       refine ls (op (p_fa fa111_0 rfl) rfl) ?_
       refine ls (o_ld Tryz.isAgg3 rfl (by repeat (first | exact At.z | apply At.s)) (by repeat (first | exact At.z | apply At.s)) rfl) ?_
       refine ls (op (p_icmp rfl rfl rfl) rfl) ?_
       refine ls (op (p_move rfl) rfl) ?_
       refine andX 4 91 95 rfl (subσ.cons (t := 0) rfl (subσ.cons (t := 1) rfl (subσ.cons (t := 2) rfl (subσ.cons (t := 3) rfl (subσ.cons (t := 4) rfl (subσ.cons (t := 5) rfl (subσ.cons (t := 6) rfl (subσ.cons (t := 21) rfl (subσ.cons (t := 82) rfl (subσ.nil _)))))))))) ?_ ?_
       ·
        intro h91
        refine lskip rfl rfl rfl rfl rfl ?_
        refine lskip rfl rfl rfl rfl rfl ?_
        refine lskip rfl rfl rfl rfl rfl ?_
        refine ls (op (p_pickf rfl rfl) rfl) ?_
        refine ln (nmid (wk0 (by repeat (first | exact subσ.nil _ | refine subσ.cons rfl ?_)) (by repeat (first | exact Sub.d | (refine Sub.s ?_ ?_; (repeat (first | exact In.z | apply In.s))) | (refine Sub.suf ?_; (repeat (first | exact Suf.z | apply Suf.s)))))))
       apply exI
       ·
        intro h91
        refine lwant rfl rfl rfl rfl (op (p_fa fa111_0 rfl) rfl) ?_
        refine lwant rfl rfl rfl rfl (o_ld Tryz.isAgg3 rfl (by repeat (first | exact At.z | apply At.s)) (by repeat (first | exact At.z | apply At.s)) rfl) ?_
        refine lwant rfl rfl rfl rfl (op (p_icmp rfl rfl rfl) rfl) ?_
        refine ls (op (p_pickt rfl rfl) rfl) ?_
        refine ln (nmid (wk0 (by repeat (first | exact subσ.nil _ | refine subσ.cons rfl ?_)) (by repeat (first | exact Sub.d | (refine Sub.s ?_ ?_; (repeat (first | exact In.z | apply In.s))) | (refine Sub.suf ?_; (repeat (first | exact Suf.z | apply Suf.s)))))))
       ·
        refine ls (op (p_move rfl) rfl) ?_
        refine andX 6 96 102 rfl (subσ.cons (t := 0) rfl (subσ.cons (t := 1) rfl (subσ.cons (t := 2) rfl (subσ.cons (t := 3) rfl (subσ.cons (t := 4) rfl (subσ.cons (t := 5) rfl (subσ.cons (t := 6) rfl (subσ.cons (t := 21) rfl (subσ.cons (t := 82) rfl (subσ.nil _)))))))))) ?_ ?_
        ·
         intro h96
         refine lskip rfl rfl rfl rfl rfl ?_
         refine lskip rfl rfl rfl rfl rfl ?_
         refine lskip rfl rfl rfl rfl rfl ?_
         refine lskip rfl rfl rfl rfl rfl ?_
         refine lskip rfl rfl rfl rfl rfl ?_
         refine ls (op (p_pickf rfl rfl) rfl) ?_
         refine ln (nmid (wk0 (by repeat (first | exact subσ.nil _ | refine subσ.cons rfl ?_)) (by repeat (first | exact Sub.d | (refine Sub.s ?_ ?_; (repeat (first | exact In.z | apply In.s))) | (refine Sub.suf ?_; (repeat (first | exact Suf.z | apply Suf.s)))))))
        apply exI
        ·
         intro h96
         refine lwant rfl rfl rfl rfl (op (p_fa fa111_2 rfl) rfl) ?_
         refine lwant rfl rfl rfl rfl (o_ld Tryz.isAgg9 rfl (by repeat (first | exact At.z | apply At.s)) (by repeat (first | exact At.z | apply At.s)) rfl) ?_
         refine lwant rfl rfl rfl rfl (op (p_fa fa111_1 rfl) rfl) ?_
         refine lwant rfl rfl rfl rfl (o_ld Tryz.isAgg9 rfl (by repeat (first | exact At.z | apply At.s)) (by repeat (first | exact At.z | apply At.s)) rfl) ?_
         refine lwant rfl rfl rfl rfl (op (p_seq rfl rfl) rfl) ?_
         refine ls (op (p_pickt rfl rfl) rfl) ?_
         refine ln (nmid (wk0 (by repeat (first | exact subσ.nil _ | refine subσ.cons rfl ?_)) (by repeat (first | exact Sub.d | (refine Sub.s ?_ ?_; (repeat (first | exact In.z | apply In.s))) | (refine Sub.suf ?_; (repeat (first | exact Suf.z | apply Suf.s)))))))
        ·
         refine ln ?_
         refine nthen ?_
         refine cc rfl ?_ ?_
         ·
          intro h102
          have h102' : p.kind = 3 ∧ q.kind = 0 ∧ p.to = q.name := by simpa [and_assoc] using h102
          refine cs ?_
          refine cd [3, 5, 6] [(0, b3, 0, _), (2, b2, 1, _), (4, b2, 0, _)] TryzX.mixed (TOk.t (isBoxS (by repeat (first | exact At.z | apply At.s)) (k := 6) (by repeat (first | exact Cut.d | apply Cut.t | apply Cut.s))) (TOk.t (isBoxS (by repeat (first | exact At.z | apply At.s)) (k := 1) (by repeat (first | exact Cut.d | apply Cut.t | apply Cut.s))) (TOk.t (isBoxS (by repeat (first | exact At.z | apply At.s)) (k := 6) (by repeat (first | exact Cut.d | apply Cut.t | apply Cut.s))) TOk.d))) ?_
          refine tk 0 rfl (by kernel_rfl) (fun _ _ _ h => h) gnone (TTat (List.Mem.head _)) (p_lda Tryz.isAgg111 Tryz.sizeOf111 rfl rfl) rfl ?_
          refine tk 1 rfl (by kernel_rfl) (fun _ _ _ h => h) gnone (TTany _) (p_fa fa111_1 rfl) rfl ?_
          refine tk 2 rfl (by kernel_rfl) (fun _ _ _ h => h) gnone (TTat (List.Mem.tail _ (List.Mem.head _))) (p_ld Tryz.isAgg9 rfl) rfl ?_
          refine tk 4 rfl (by kernel_rfl) (fun _ _ _ h => h) gnone (TTat (List.Mem.tail _ (List.Mem.tail _ (List.Mem.head _)))) (p_lda Tryz.isAgg111 Tryz.sizeOf111 rfl rfl) rfl ?_
          refine df 3 (by kernel_rfl) ?_
          refine doR rfl (o_call (is := []) Tryz.call111 (c_refIn q yq _) rfl rfl (by repeat (first | exact Sub.d | (refine Sub.s ?_ ?_; (repeat (first | exact In.z | apply In.s))) | (refine Sub.suf ?_; (repeat (first | exact Suf.z | apply Suf.s))))) rfl) (TOk.x (by kernel_rfl) (TOk.x (by kernel_rfl) (TOk.t (isBoxE fun _ => isBoxS (by repeat (first | exact At.z | apply At.s)) (k := 6) (by repeat (first | exact Cut.d | apply Cut.t | apply Cut.s))) TOk.d))) ?_
          refine ea ?_; intro x106
          refine df 5 (by kernel_rfl) ?_
          refine doR rfl (o_st rfl Tryz.sizeOf111 rfl rfl rfl rfl rfl (by repeat (first | exact At.z | apply At.s)) (by repeat (first | exact Put.d | apply Put.t | apply Put.s)) (by repeat (first | exact SetAt.z | apply SetAt.s))) (TOk.x (by kernel_rfl) (TOk.x (by kernel_rfl) (TOk.t (isBoxS (by repeat (first | exact At.z | apply At.s)) (k := 6) (by repeat (first | exact Cut.d | apply Cut.t | apply Cut.s))) TOk.d))) ?_
          refine df 6 (by kernel_rfl) ?_
          refine doR rfl (o_st rfl Tryz.sizeOf111 rfl rfl rfl rfl rfl (by repeat (first | exact At.z | apply At.s)) (by repeat (first | exact Put.d | apply Put.t | apply Put.s)) (by repeat (first | exact SetAt.z | apply SetAt.s))) (TOk.x (by kernel_rfl) (TOk.x (by kernel_rfl) (TOk.x (by kernel_rfl) TOk.d))) ?_
          refine tk 7 rfl (by kernel_rfl) (fun _ _ _ h => h) gnone (TTany _) (p_asg rfl) rfl ?_
          refine dn (by kernel_rfl) ?_
          refine nthen ?_
          refine cret ?_
          refine xret (fun _ _ h => h) ?_
          refine rret (is := []) ⟨(({ q with name := p.name }, p, true), (yq, yp)), by rw [refTwo, if_neg h21', if_neg h82', if_pos h102']⟩ (Or.inl rfl) (Res.c rfl Tryz.isAgg111 Tryz.sizeOf111 (by repeat (first | exact At.z | apply At.s)) (by rfl) (Res.c rfl Tryz.isAgg111 Tryz.sizeOf111 (by repeat (first | exact At.z | apply At.s)) (by rfl) (Res.t rfl Res.d))) (rfl) rfl (by repeat (first | exact Sub.d | (refine Sub.s ?_ ?_; (repeat (first | exact In.z | apply In.s))) | (refine Sub.suf ?_; (repeat (first | exact Suf.z | apply Suf.s)))))
         ·
          intro h102
          have h102' : ¬ (p.kind = 3 ∧ q.kind = 0 ∧ p.to = q.name) := by intro e; obtain ⟨e1, e2, e3⟩ := e; rw [e1, e2, e3] at h102; simp at h102
          refine cskip ?_
          refine nthen ?_
          refine cs ?_
          refine cs ?_
          refine cr ?_
          refine ls (op (p_fa fa111_0 rfl) rfl) ?_
          refine ls (o_ld Tryz.isAgg3 rfl (by repeat (first | exact At.z | apply At.s)) (by repeat (first | exact At.z | apply At.s)) rfl) ?_
          refine ls (op (p_icmp rfl rfl rfl) rfl) ?_
          refine ls (op (p_move rfl) rfl) ?_
          refine andX 4 111 115 rfl (subσ.cons (t := 0) rfl (subσ.cons (t := 1) rfl (subσ.cons (t := 2) rfl (subσ.cons (t := 3) rfl (subσ.cons (t := 4) rfl (subσ.cons (t := 5) rfl (subσ.cons (t := 6) rfl (subσ.cons (t := 21) rfl (subσ.cons (t := 82) rfl (subσ.cons (t := 102) rfl (subσ.nil _))))))))))) ?_ ?_
          ·
           intro h111
           refine lskip rfl rfl rfl rfl rfl ?_
           refine lskip rfl rfl rfl rfl rfl ?_
           refine lskip rfl rfl rfl rfl rfl ?_
           refine ls (op (p_pickf rfl rfl) rfl) ?_
           refine ln (nmid (wk0 (by repeat (first | exact subσ.nil _ | refine subσ.cons rfl ?_)) (by repeat (first | exact Sub.d | (refine Sub.s ?_ ?_; (repeat (first | exact In.z | apply In.s))) | (refine Sub.suf ?_; (repeat (first | exact Suf.z | apply Suf.s)))))))
          apply exI
          ·
           intro h111
           refine lwant rfl rfl rfl rfl (op (p_fa fa111_0 rfl) rfl) ?_
           refine lwant rfl rfl rfl rfl (o_ld Tryz.isAgg3 rfl (by repeat (first | exact At.z | apply At.s)) (by repeat (first | exact At.z | apply At.s)) rfl) ?_
           refine lwant rfl rfl rfl rfl (op (p_icmp rfl rfl rfl) rfl) ?_
           refine ls (op (p_pickt rfl rfl) rfl) ?_
           refine ln (nmid (wk0 (by repeat (first | exact subσ.nil _ | refine subσ.cons rfl ?_)) (by repeat (first | exact Sub.d | (refine Sub.s ?_ ?_; (repeat (first | exact In.z | apply In.s))) | (refine Sub.suf ?_; (repeat (first | exact Suf.z | apply Suf.s)))))))
          ·
           refine ln ?_
           refine nthen ?_
           refine cc rfl ?_ ?_
           ·
            intro h115
            have h115' : p.kind = 0 ∧ q.kind = 0 := by simpa using h115
            refine cs ?_
            refine cd [2, 3] [(0, b3, 0, _), (1, b2, 0, _)] TryzX.mixed (TOk.t (isBoxS (by repeat (first | exact At.z | apply At.s)) (k := 6) (by repeat (first | exact Cut.d | apply Cut.t | apply Cut.s))) (TOk.t (isBoxS (by repeat (first | exact At.z | apply At.s)) (k := 6) (by repeat (first | exact Cut.d | apply Cut.t | apply Cut.s))) TOk.d)) ?_
            refine tk 0 rfl (by kernel_rfl) (fun _ _ _ h => h) gnone (TTat (List.Mem.head _)) (p_lda Tryz.isAgg111 Tryz.sizeOf111 rfl rfl) rfl ?_
            refine tk 1 rfl (by kernel_rfl) (fun _ _ _ h => h) gnone (TTat (List.Mem.tail _ (List.Mem.head _))) (p_lda Tryz.isAgg111 Tryz.sizeOf111 rfl rfl) rfl ?_
            refine df 2 (by kernel_rfl) ?_
            refine doR rfl (o_st rfl Tryz.sizeOf111 rfl rfl rfl rfl rfl (by repeat (first | exact At.z | apply At.s)) (by repeat (first | exact Put.d | apply Put.t | apply Put.s)) (by repeat (first | exact SetAt.z | apply SetAt.s))) (TOk.x (by kernel_rfl) (TOk.t (isBoxS (by repeat (first | exact At.z | apply At.s)) (k := 6) (by repeat (first | exact Cut.d | apply Cut.t | apply Cut.s))) TOk.d)) ?_
            refine df 3 (by kernel_rfl) ?_
            refine doR rfl (o_st rfl Tryz.sizeOf111 rfl rfl rfl rfl rfl (by repeat (first | exact At.z | apply At.s)) (by repeat (first | exact Put.d | apply Put.t | apply Put.s)) (by repeat (first | exact SetAt.z | apply SetAt.s))) (TOk.x (by kernel_rfl) (TOk.x (by kernel_rfl) TOk.d)) ?_
            refine tk 4 rfl (by kernel_rfl) (fun _ _ _ h => h) gnone (TTany _) (p_asg rfl) rfl ?_
            refine dn (by kernel_rfl) ?_
            refine nthen ?_
            refine cret ?_
            refine xret (fun _ _ h => h) ?_
            refine rret (is := []) ⟨((q, p, true), (yq, yp)), by rw [refTwo, if_neg h21', if_neg h82', if_neg h102', if_pos h115']⟩ (Or.inl rfl) (Res.c rfl Tryz.isAgg111 Tryz.sizeOf111 (by repeat (first | exact At.z | apply At.s)) (by rfl) (Res.c rfl Tryz.isAgg111 Tryz.sizeOf111 (by repeat (first | exact At.z | apply At.s)) (by rfl) (Res.t rfl Res.d))) (rfl) rfl (by repeat (first | exact Sub.d | (refine Sub.s ?_ ?_; (repeat (first | exact In.z | apply In.s))) | (refine Sub.suf ?_; (repeat (first | exact Suf.z | apply Suf.s)))))
           ·
            intro h115
            have h115' : ¬ (p.kind = 0 ∧ q.kind = 0) := by intro e; rw [e.1, e.2] at h115; simp at h115
            refine cskip ?_
            refine nthen ?_
            refine cs ?_
            refine cd [4, 6, 7] [(0, b3, 0, _), (1, b2, 0, _), (2, b2, 0, _), (3, b3, 0, _)] TryzX.mixed (TOk.t (isBoxS (by repeat (first | exact At.z | apply At.s)) (k := 6) (by repeat (first | exact Cut.d | apply Cut.t | apply Cut.s))) (TOk.t (isBoxS (by repeat (first | exact At.z | apply At.s)) (k := 6) (by repeat (first | exact Cut.d | apply Cut.t | apply Cut.s))) (TOk.t (isBoxS (by repeat (first | exact At.z | apply At.s)) (k := 6) (by repeat (first | exact Cut.d | apply Cut.t | apply Cut.s))) (TOk.t (isBoxS (by repeat (first | exact At.z | apply At.s)) (k := 6) (by repeat (first | exact Cut.d | apply Cut.t | apply Cut.s))) TOk.d)))) ?_
            refine tk 0 rfl (by kernel_rfl) (fun _ _ _ h => h) gnone (TTat (List.Mem.head _)) (p_lda Tryz.isAgg111 Tryz.sizeOf111 rfl rfl) rfl ?_
            refine tk 1 rfl (by kernel_rfl) (fun _ _ _ h => h) gnone (TTat (List.Mem.tail _ (List.Mem.head _))) (p_lda Tryz.isAgg111 Tryz.sizeOf111 rfl rfl) rfl ?_
            refine tk 2 rfl (by kernel_rfl) (fun _ _ _ h => h) gnone (TTat (List.Mem.tail _ (List.Mem.tail _ (List.Mem.head _)))) (p_lda Tryz.isAgg111 Tryz.sizeOf111 rfl rfl) rfl ?_
            refine tk 3 rfl (by kernel_rfl) (fun _ _ _ h => h) gnone (TTat (List.Mem.tail _ (List.Mem.tail _ (List.Mem.tail _ (List.Mem.head _))))) (p_lda Tryz.isAgg111 Tryz.sizeOf111 rfl rfl) rfl ?_
            refine df 4 (by kernel_rfl) ?_
            refine doR rfl (o_call (is := []) Tryz.call112 (c_refCommon p q yp yq) rfl rfl (by repeat (first | exact Sub.d | (refine Sub.s ?_ ?_; (repeat (first | exact In.z | apply In.s))) | (refine Sub.suf ?_; (repeat (first | exact Suf.z | apply Suf.s))))) rfl) (TOk.t (isBoxE fun _ => isBoxS (by repeat (first | exact At.z | apply At.s)) (k := 6) (by repeat (first | exact Cut.d | apply Cut.t | apply Cut.s))) (TOk.t (isBoxE fun _ => isBoxS (by repeat (first | exact At.z | apply At.s)) (k := 6) (by repeat (first | exact Cut.d | apply Cut.t | apply Cut.s))) (TOk.x (by kernel_rfl) (TOk.x (by kernel_rfl) TOk.d)))) ?_
            refine ea ?_; intro x122
            refine tk 5 rfl (by kernel_rfl) (fun _ _ _ h => h) gnone (TTany _) (p_not rfl) rfl ?_
            refine df 6 (by kernel_rfl) ?_
            refine doR rfl (o_st rfl Tryz.sizeOf111 rfl rfl rfl rfl rfl (by repeat (first | exact At.z | apply At.s)) (by repeat (first | exact Put.d | apply Put.t | apply Put.s)) (by repeat (first | exact SetAt.z | apply SetAt.s))) (TOk.x (by kernel_rfl) (TOk.t (isBoxS (by repeat (first | exact At.z | apply At.s)) (k := 6) (by repeat (first | exact Cut.d | apply Cut.t | apply Cut.s))) (TOk.x (by kernel_rfl) (TOk.x (by kernel_rfl) TOk.d)))) ?_
            refine df 7 (by kernel_rfl) ?_
            refine doR rfl (o_st rfl Tryz.sizeOf111 rfl rfl rfl rfl rfl (by repeat (first | exact At.z | apply At.s)) (by repeat (first | exact Put.d | apply Put.t | apply Put.s)) (by repeat (first | exact SetAt.z | apply SetAt.s))) (TOk.x (by kernel_rfl) (TOk.x (by kernel_rfl) (TOk.x (by kernel_rfl) (TOk.x (by kernel_rfl) TOk.d)))) ?_
            refine tk 8 rfl (by kernel_rfl) (fun _ _ _ h => h) gnone (TTany _) (p_asg rfl) rfl ?_
            refine dn (by kernel_rfl) ?_
            refine nthen ?_
            refine cret ?_
            refine xret (fun _ _ h => h) ?_
            refine rret (is := []) ⟨((q, p, !p.meets q), (yq, yp)), by rw [refTwo, if_neg h21', if_neg h82', if_neg h102', if_neg h115']⟩ (Or.inl rfl) (Res.c rfl Tryz.isAgg111 Tryz.sizeOf111 (by repeat (first | exact At.z | apply At.s)) (by rfl) (Res.c rfl Tryz.isAgg111 Tryz.sizeOf111 (by repeat (first | exact At.z | apply At.s)) (by rfl) (Res.t rfl Res.d))) (rfl) rfl (by repeat (first | exact Sub.d | (refine Sub.s ?_ ?_; (repeat (first | exact In.z | apply In.s))) | (refine Sub.suf ?_; (repeat (first | exact Suf.z | apply Suf.s)))))

set_option maxRecDepth 100000 in
theorem c_refSwap (p q : Prim) (yp yq : Rp.Lay Prim) (hp : p.fit) (hq : q.fit) : Con Tryz.prog 73 [sv p yp, sv q yq] [] (Rp.asn p yp ++ Rp.asn q yq) (Two (refSwap p q)) (fun x => x.v) (fun _ => []) (fun x => x.g) := by
 refine con Tryz.func73 rfl Tryz.ntmps73 rfl ?_
 intro M0 F0 w0
 refine cs ?_
 refine cr ?_
 refine ls (o_box rfl rfl rfl) ?_
 refine le ?_; intro b2
 refine ls (o_box rfl rfl rfl) ?_
 refine le ?_; intro b3
 refine ls (o_alloc Tryz.zeroValue111 rfl rfl) ?_
 refine le ?_; intro b4
 refine ls (o_alloc Tryz.zeroValue111 rfl rfl) ?_
 refine le ?_; intro b5
 refine ls (op (p_asg rfl) rfl) ?_
 refine ln ?_
 refine nthen ?_
 refine cs ?_
 refine cr ?_
 refine ls (op (p_bld sb111 rfl Fill.d) rfl) ?_
 refine ls (o_alloc Tryz.zeroValue111 rfl rfl) ?_
 refine le ?_; intro b7
 refine ls (o_st rfl Tryz.sizeOf111 rfl rfl rfl rfl rfl (by repeat (first | exact At.z | apply At.s)) (by repeat (first | exact Put.d | apply Put.t | apply Put.s)) (by repeat (first | exact SetAt.z | apply SetAt.s))) ?_
 refine ln ?_
 refine nthen ?_
 refine cs ?_
 refine cs ?_
 refine cmono (fun a w h => nilSl (α := ByteArray) h) ?_
 refine cr ?_
 refine ls (o_ldw Tryz.isAgg111 Tryz.sizeOf111 rfl (by repeat (first | exact At.z | apply At.s)) (by rfl) rfl) ?_
 refine ls (o_call (is := []) Tryz.call64 (c_refRight p yp hp) rfl rfl (by repeat (first | exact Sub.d | (refine Sub.s ?_ ?_; (repeat (first | exact In.z | apply In.s))) | (refine Sub.suf ?_; (repeat (first | exact Suf.z | apply Suf.s))))) rfl) ?_
 refine le ?_; intro x13
 refine ls (op (p_not rfl) rfl) ?_
 refine ls (op (p_move rfl) rfl) ?_
 refine orX 4 15 19 rfl (subσ.cons (t := 0) rfl (subσ.cons (t := 1) rfl (subσ.cons (t := 2) rfl (subσ.cons (t := 3) rfl (subσ.cons (t := 4) rfl (subσ.cons (t := 5) rfl (subσ.cons (t := 6) rfl (subσ.cons (t := 11) rfl (subσ.cons (t := 7) rfl (subσ.nil _)))))))))) ?_ ?_
 ·
  intro h15
  refine lskip rfl rfl rfl rfl rfl ?_
  refine lskip rfl rfl rfl rfl rfl ?_
  refine lskip rfl rfl rfl rfl rfl ?_
  refine ls (op (p_pickt rfl rfl) rfl) ?_
  refine ln (nmid (wk0 (by repeat (first | exact subσ.nil _ | refine subσ.cons rfl ?_)) (by repeat (first | exact Sub.d | (refine Sub.s ?_ ?_; (repeat (first | exact In.z | apply In.s))) | (refine Sub.suf ?_; (repeat (first | exact Suf.z | apply Suf.s)))))))
 apply exI
 ·
  intro h15
  refine lwant rfl rfl rfl rfl (o_ldw Tryz.isAgg111 Tryz.sizeOf111 rfl (by repeat (first | exact At.z | apply At.s)) (by rfl) rfl) ?_
  refine lwant rfl rfl rfl rfl (o_call (is := []) Tryz.call64 (c_refRight q yq hq) rfl rfl (by repeat (first | exact Sub.d | (refine Sub.s ?_ ?_; (repeat (first | exact In.z | apply In.s))) | (refine Sub.suf ?_; (repeat (first | exact Suf.z | apply Suf.s))))) rfl) ?_
  refine le ?_; intro x17
  refine lwant rfl rfl rfl rfl (op (p_not rfl) rfl) ?_
  refine ls (op (p_pickf rfl rfl) rfl) ?_
  refine ln (nmid (wk0 (by repeat (first | exact subσ.nil _ | refine subσ.cons rfl ?_)) (by repeat (first | exact Sub.d | (refine Sub.s ?_ ?_; (repeat (first | exact In.z | apply In.s))) | (refine Sub.suf ?_; (repeat (first | exact Suf.z | apply Suf.s)))))))
 ·
  refine ln ?_
  refine nthen ?_
  refine cc rfl ?_ ?_
  ·
   intro h19
   have h19' : (p.right && q.right) = false := by rw [Bool.eq_false_iff]; intro e; simp only [Bool.and_eq_true] at e; rw [e.1, e.2] at h19; simp at h19
   refine cs ?_
   refine cd [2, 3] [(0, b7, 0, _), (1, b7, 0, _)] TryzX.mixed (TOk.t (isBoxS (by repeat (first | exact At.z | apply At.s)) (k := 6) (by repeat (first | exact Cut.d | apply Cut.t | apply Cut.s))) (TOk.t (isBoxS (by repeat (first | exact At.z | apply At.s)) (k := 6) (by repeat (first | exact Cut.d | apply Cut.t | apply Cut.s))) TOk.d)) ?_
   refine tk 0 rfl (by kernel_rfl) (fun _ _ _ h => h) gnone (TTat (List.Mem.head _)) (p_lda Tryz.isAgg111 Tryz.sizeOf111 rfl rfl) rfl ?_
   refine tk 1 rfl (by kernel_rfl) (fun _ _ _ h => h) gnone (TTat (List.Mem.tail _ (List.Mem.head _))) (p_lda Tryz.isAgg111 Tryz.sizeOf111 rfl rfl) rfl ?_
   refine df 2 (by kernel_rfl) ?_
   refine doR rfl (o_st rfl Tryz.sizeOf111 rfl rfl rfl rfl rfl (by repeat (first | exact At.z | apply At.s)) (by repeat (first | exact Put.d | apply Put.t | apply Put.s)) (by repeat (first | exact SetAt.z | apply SetAt.s))) (TOk.x (by kernel_rfl) (TOk.t (isBoxS (by repeat (first | exact At.z | apply At.s)) (k := 6) (by repeat (first | exact Cut.d | apply Cut.t | apply Cut.s))) TOk.d)) ?_
   refine df 3 (by kernel_rfl) ?_
   refine doR rfl (o_st rfl Tryz.sizeOf111 rfl rfl rfl rfl rfl (by repeat (first | exact At.z | apply At.s)) (by repeat (first | exact Put.d | apply Put.t | apply Put.s)) (by repeat (first | exact SetAt.z | apply SetAt.s))) (TOk.x (by kernel_rfl) (TOk.x (by kernel_rfl) TOk.d)) ?_
   refine tk 4 rfl (by kernel_rfl) (fun _ _ _ h => h) gnone (TTany _) (p_asg rfl) rfl ?_
   refine dn (by kernel_rfl) ?_
   refine nthen ?_
   refine cret ?_
   refine xret (fun _ _ h => h) ?_
   refine rret (is := []) ⟨((Prim.zero, Prim.zero, false), (((none, 0), (none, 0)), ((none, 0), (none, 0)))), by rw [Sx.refSwap, h19']; rfl⟩ (Or.inl rfl) (Res.c rfl Tryz.isAgg111 Tryz.sizeOf111 (by repeat (first | exact At.z | apply At.s)) (by rfl) (Res.c rfl Tryz.isAgg111 Tryz.sizeOf111 (by repeat (first | exact At.z | apply At.s)) (by rfl) (Res.t rfl Res.d))) (rfl) rfl (by repeat (first | exact Sub.d | (refine Sub.s ?_ ?_; (repeat (first | exact In.z | apply In.s))) | (refine Sub.suf ?_; (repeat (first | exact Suf.z | apply Suf.s)))))
  ·
   intro h19
   have h19' : p.right = true ∧ q.right = true := by simpa using h19
   refine cskip ?_
   refine nthen ?_
   refine cs ?_
   refine cr ?_
   refine ls (o_ldw Tryz.isAgg111 Tryz.sizeOf111 rfl (by repeat (first | exact At.z | apply At.s)) (by rfl) rfl) ?_
   refine ls (o_ldw Tryz.isAgg111 Tryz.sizeOf111 rfl (by repeat (first | exact At.z | apply At.s)) (by rfl) rfl) ?_
   refine ls (o_call (is := []) Tryz.call97 (c_refTwo p q yp yq hp hq h19'.1 h19'.2) rfl rfl (by repeat (first | exact Sub.d | (refine Sub.s ?_ ?_; (repeat (first | exact In.z | apply In.s))) | (refine Sub.suf ?_; (repeat (first | exact Suf.z | apply Suf.s))))) rfl) ?_
   refine le ?_; rintro ⟨⟨⟨r1, r2, r3⟩, z1, z2⟩, hr⟩
   obtain ⟨hf1, hf2⟩ := two_fit hp hq; rw [← hr] at hf1 hf2; dsimp only at hr hf1 hf2
   refine ls (op (p_move rfl) rfl) ?_
   refine ls (op (p_ext rfl (by repeat (first | exact At.z | apply At.s))) rfl) ?_
   refine ls (op (p_ext rfl (by repeat (first | exact At.z | apply At.s))) rfl) ?_
   refine ls (op (p_ext rfl (by repeat (first | exact At.z | apply At.s))) rfl) ?_
   refine ls (o_alloc Tryz.zeroValue111 rfl rfl) ?_
   refine le ?_; intro b8
   refine ls (o_alloc Tryz.zeroValue111 rfl rfl) ?_
   refine le ?_; intro b9
   refine ls (o_st rfl Tryz.sizeOf111 rfl rfl rfl rfl rfl (by repeat (first | exact At.z | apply At.s)) (by repeat (first | exact Put.d | apply Put.t | apply Put.s)) (by repeat (first | exact SetAt.z | apply SetAt.s))) ?_
   refine ls (o_st rfl Tryz.sizeOf111 rfl rfl rfl rfl rfl (by repeat (first | exact At.z | apply At.s)) (by repeat (first | exact Put.d | apply Put.t | apply Put.s)) (by repeat (first | exact SetAt.z | apply SetAt.s))) ?_
   refine ls (op (p_asg rfl) rfl) ?_
   refine ln ?_
   refine nthen ?_
   refine cs ?_
   refine cs ?_
   refine cr ?_
   refine ls (op (p_move rfl) rfl) ?_
   refine ls (op (p_not rfl) rfl) ?_
   refine ls (op (p_move rfl) rfl) ?_
   refine orX 4 31 35 rfl (subσ.cons (t := 0) rfl (subσ.cons (t := 1) rfl (subσ.cons (t := 2) rfl (subσ.cons (t := 3) rfl (subσ.cons (t := 4) rfl (subσ.cons (t := 5) rfl (subσ.cons (t := 6) rfl (subσ.cons (t := 11) rfl (subσ.cons (t := 7) rfl (subσ.cons (t := 19) rfl (subσ.cons (t := 23) rfl (subσ.cons (t := 24) rfl (subσ.cons (t := 25) rfl (subσ.cons (t := 22) rfl (subσ.cons (t := 26) rfl (subσ.cons (t := 27) rfl (subσ.cons (t := 28) rfl (subσ.cons (t := 8) rfl (subσ.cons (t := 9) rfl (subσ.nil _)))))))))))))))))))) ?_ ?_
   ·
    intro h31
    refine lskip rfl rfl rfl rfl rfl ?_
    refine lskip rfl rfl rfl rfl rfl ?_
    refine lskip rfl rfl rfl rfl rfl ?_
    refine ls (op (p_pickt rfl rfl) rfl) ?_
    refine ln (nmid (wk0 (by repeat (first | exact subσ.nil _ | refine subσ.cons rfl ?_)) (by repeat (first | exact Sub.d | (refine Sub.s ?_ ?_; (repeat (first | exact In.z | apply In.s))) | (refine Sub.suf ?_; (repeat (first | exact Suf.z | apply Suf.s)))))))
   apply exI
   ·
    intro h31
    refine lwant rfl rfl rfl rfl (o_ldw Tryz.isAgg111 Tryz.sizeOf111 rfl (by repeat (first | exact At.z | apply At.s)) (by rfl) rfl) ?_
    refine lwant rfl rfl rfl rfl (o_call (is := []) Tryz.call64 (c_refRight r1 z1 hf1) rfl rfl (by repeat (first | exact Sub.d | (refine Sub.s ?_ ?_; (repeat (first | exact In.z | apply In.s))) | (refine Sub.suf ?_; (repeat (first | exact Suf.z | apply Suf.s))))) rfl) ?_
    refine le ?_; intro x33
    refine lwant rfl rfl rfl rfl (op (p_not rfl) rfl) ?_
    refine ls (op (p_pickf rfl rfl) rfl) ?_
    refine ln (nmid (wk0 (by repeat (first | exact subσ.nil _ | refine subσ.cons rfl ?_)) (by repeat (first | exact Sub.d | (refine Sub.s ?_ ?_; (repeat (first | exact In.z | apply In.s))) | (refine Sub.suf ?_; (repeat (first | exact Suf.z | apply Suf.s)))))))
   ·
    refine ls (op (p_move rfl) rfl) ?_
    refine orX 4 36 40 rfl (subσ.cons (t := 0) rfl (subσ.cons (t := 1) rfl (subσ.cons (t := 2) rfl (subσ.cons (t := 3) rfl (subσ.cons (t := 4) rfl (subσ.cons (t := 5) rfl (subσ.cons (t := 6) rfl (subσ.cons (t := 11) rfl (subσ.cons (t := 7) rfl (subσ.cons (t := 19) rfl (subσ.cons (t := 23) rfl (subσ.cons (t := 24) rfl (subσ.cons (t := 25) rfl (subσ.cons (t := 22) rfl (subσ.cons (t := 26) rfl (subσ.cons (t := 27) rfl (subσ.cons (t := 28) rfl (subσ.cons (t := 8) rfl (subσ.cons (t := 9) rfl (subσ.nil _)))))))))))))))))))) ?_ ?_
    ·
     intro h36
     refine lskip rfl rfl rfl rfl rfl ?_
     refine lskip rfl rfl rfl rfl rfl ?_
     refine lskip rfl rfl rfl rfl rfl ?_
     refine ls (op (p_pickt rfl rfl) rfl) ?_
     refine ln (nmid (wk0 (by repeat (first | exact subσ.nil _ | refine subσ.cons rfl ?_)) (by repeat (first | exact Sub.d | (refine Sub.s ?_ ?_; (repeat (first | exact In.z | apply In.s))) | (refine Sub.suf ?_; (repeat (first | exact Suf.z | apply Suf.s)))))))
    apply exI
    ·
     intro h36
     refine lwant rfl rfl rfl rfl (o_ldw Tryz.isAgg111 Tryz.sizeOf111 rfl (by repeat (first | exact At.z | apply At.s)) (by rfl) rfl) ?_
     refine lwant rfl rfl rfl rfl (o_call (is := []) Tryz.call64 (c_refRight r2 z2 hf2) rfl rfl (by repeat (first | exact Sub.d | (refine Sub.s ?_ ?_; (repeat (first | exact In.z | apply In.s))) | (refine Sub.suf ?_; (repeat (first | exact Suf.z | apply Suf.s))))) rfl) ?_
     refine le ?_; intro x38
     refine lwant rfl rfl rfl rfl (op (p_not rfl) rfl) ?_
     refine ls (op (p_pickf rfl rfl) rfl) ?_
     refine ln (nmid (wk0 (by repeat (first | exact subσ.nil _ | refine subσ.cons rfl ?_)) (by repeat (first | exact Sub.d | (refine Sub.s ?_ ?_; (repeat (first | exact In.z | apply In.s))) | (refine Sub.suf ?_; (repeat (first | exact Suf.z | apply Suf.s)))))))
    ·
     refine ln ?_
     refine nthen ?_
     refine cc rfl ?_ ?_
     ·
      intro h40
      dsimp only at h40
      refine cs ?_
      refine cd [2, 3] [(0, b7, 0, _), (1, b7, 0, _)] TryzX.mixed (TOk.t (isBoxS (by repeat (first | exact At.z | apply At.s)) (k := 6) (by repeat (first | exact Cut.d | apply Cut.t | apply Cut.s))) (TOk.t (isBoxS (by repeat (first | exact At.z | apply At.s)) (k := 6) (by repeat (first | exact Cut.d | apply Cut.t | apply Cut.s))) TOk.d)) ?_
      refine tk 0 rfl (by kernel_rfl) (fun _ _ _ h => h) gnone (TTat (List.Mem.head _)) (p_lda Tryz.isAgg111 Tryz.sizeOf111 rfl rfl) rfl ?_
      refine tk 1 rfl (by kernel_rfl) (fun _ _ _ h => h) gnone (TTat (List.Mem.tail _ (List.Mem.head _))) (p_lda Tryz.isAgg111 Tryz.sizeOf111 rfl rfl) rfl ?_
      refine df 2 (by kernel_rfl) ?_
      refine doR rfl (o_st rfl Tryz.sizeOf111 rfl rfl rfl rfl rfl (by repeat (first | exact At.z | apply At.s)) (by repeat (first | exact Put.d | apply Put.t | apply Put.s)) (by repeat (first | exact SetAt.z | apply SetAt.s))) (TOk.x (by kernel_rfl) (TOk.t (isBoxS (by repeat (first | exact At.z | apply At.s)) (k := 6) (by repeat (first | exact Cut.d | apply Cut.t | apply Cut.s))) TOk.d)) ?_
      refine df 3 (by kernel_rfl) ?_
      refine doR rfl (o_st rfl Tryz.sizeOf111 rfl rfl rfl rfl rfl (by repeat (first | exact At.z | apply At.s)) (by repeat (first | exact Put.d | apply Put.t | apply Put.s)) (by repeat (first | exact SetAt.z | apply SetAt.s))) (TOk.x (by kernel_rfl) (TOk.x (by kernel_rfl) TOk.d)) ?_
      refine tk 4 rfl (by kernel_rfl) (fun _ _ _ h => h) gnone (TTany _) (p_asg rfl) rfl ?_
      refine dn (by kernel_rfl) ?_
      refine nthen ?_
      refine cret ?_
      refine xret (fun _ _ h => h) ?_
      refine rret (is := []) ⟨((Prim.zero, Prim.zero, false), (((none, 0), (none, 0)), ((none, 0), (none, 0)))), by rw [Sx.refSwap, ← hr]; cases r3 <;> cases e1 : r1.right <;> cases e2 : r2.right <;> simp_all⟩ (Or.inl rfl) (Res.c rfl Tryz.isAgg111 Tryz.sizeOf111 (by repeat (first | exact At.z | apply At.s)) (by rfl) (Res.c rfl Tryz.isAgg111 Tryz.sizeOf111 (by repeat (first | exact At.z | apply At.s)) (by rfl) (Res.t rfl Res.d))) (rfl) rfl (by repeat (first | exact Sub.d | (refine Sub.s ?_ ?_; (repeat (first | exact In.z | apply In.s))) | (refine Sub.suf ?_; (repeat (first | exact Suf.z | apply Suf.s)))))
     ·
      intro h40
      dsimp only at h40
      refine cskip ?_
      refine nthen ?_
      refine cs ?_
      refine cd [2, 3] [(0, b8, 0, _), (1, b9, 0, _)] TryzX.mixed (TOk.t (isBoxS (by repeat (first | exact At.z | apply At.s)) (k := 6) (by repeat (first | exact Cut.d | apply Cut.t | apply Cut.s))) (TOk.t (isBoxS (by repeat (first | exact At.z | apply At.s)) (k := 6) (by repeat (first | exact Cut.d | apply Cut.t | apply Cut.s))) TOk.d)) ?_
      refine tk 0 rfl (by kernel_rfl) (fun _ _ _ h => h) gnone (TTat (List.Mem.head _)) (p_lda Tryz.isAgg111 Tryz.sizeOf111 rfl rfl) rfl ?_
      refine tk 1 rfl (by kernel_rfl) (fun _ _ _ h => h) gnone (TTat (List.Mem.tail _ (List.Mem.head _))) (p_lda Tryz.isAgg111 Tryz.sizeOf111 rfl rfl) rfl ?_
      refine df 2 (by kernel_rfl) ?_
      refine doR rfl (o_st rfl Tryz.sizeOf111 rfl rfl rfl rfl rfl (by repeat (first | exact At.z | apply At.s)) (by repeat (first | exact Put.d | apply Put.t | apply Put.s)) (by repeat (first | exact SetAt.z | apply SetAt.s))) (TOk.x (by kernel_rfl) (TOk.t (isBoxS (by repeat (first | exact At.z | apply At.s)) (k := 6) (by repeat (first | exact Cut.d | apply Cut.t | apply Cut.s))) TOk.d)) ?_
      refine df 3 (by kernel_rfl) ?_
      refine doR rfl (o_st rfl Tryz.sizeOf111 rfl rfl rfl rfl rfl (by repeat (first | exact At.z | apply At.s)) (by repeat (first | exact Put.d | apply Put.t | apply Put.s)) (by repeat (first | exact SetAt.z | apply SetAt.s))) (TOk.x (by kernel_rfl) (TOk.x (by kernel_rfl) TOk.d)) ?_
      refine tk 4 rfl (by kernel_rfl) (fun _ _ _ h => h) gnone (TTany _) (p_asg rfl) rfl ?_
      refine dn (by kernel_rfl) ?_
      refine nthen ?_
      refine cret ?_
      refine xret (fun _ _ h => h) ?_
      refine rret (is := []) ⟨((r1, r2, true), (z1, z2)), by rw [Sx.refSwap, ← hr]; cases r3 <;> cases e1 : r1.right <;> cases e2 : r2.right <;> simp_all⟩ (Or.inl rfl) (Res.c rfl Tryz.isAgg111 Tryz.sizeOf111 (by repeat (first | exact At.z | apply At.s)) (by rfl) (Res.c rfl Tryz.isAgg111 Tryz.sizeOf111 (by repeat (first | exact At.z | apply At.s)) (by rfl) (Res.t rfl Res.d))) (rfl) rfl (by repeat (first | exact Sub.d | (refine Sub.s ?_ ?_; (repeat (first | exact In.z | apply In.s))) | (refine Sub.suf ?_; (repeat (first | exact Suf.z | apply Suf.s)))))

set_option maxRecDepth 100000 in
theorem c_refSame (p q : Prim) (yp yq : Rp.Lay Prim) (hp : p.fit) : Con Tryz.prog 67 [sv p yp, sv q yq] [] (Rp.asn p yp ++ Rp.asn q yq) Unit (fun _ => .bool (decide (p = q))) (fun _ => []) (fun _ => []) := by
 refine con Tryz.func67 rfl Tryz.ntmps67 rfl ?_
 intro M0 F0 w0
 refine cs ?_
 refine cr ?_
 refine ls (o_box rfl rfl rfl) ?_
 refine le ?_; intro b2
 refine ls (o_box rfl rfl rfl) ?_
 refine le ?_; intro b3
 refine ls (op (p_asg rfl) rfl) ?_
 refine ln ?_
 refine nthen ?_
 refine cs ?_
 refine cr ?_
 refine ls (op (p_fa fa111_0 rfl) rfl) ?_
 refine ls (o_ld Tryz.isAgg3 rfl (by repeat (first | exact At.z | apply At.s)) (by repeat (first | exact At.z | apply At.s)) rfl) ?_
 refine ls (op (p_fa fa111_0 rfl) rfl) ?_
 refine ls (o_ld Tryz.isAgg3 rfl (by repeat (first | exact At.z | apply At.s)) (by repeat (first | exact At.z | apply At.s)) rfl) ?_
 refine ls (op (p_icmp rfl rfl rfl) rfl) ?_
 refine ls (op (p_move rfl) rfl) ?_
 refine andX 6 10 16 rfl (subσ.cons (t := 0) rfl (subσ.cons (t := 1) rfl (subσ.cons (t := 2) rfl (subσ.cons (t := 3) rfl (subσ.cons (t := 4) rfl (subσ.nil _)))))) ?_ ?_
 ·
  intro h10
  refine lskip rfl rfl rfl rfl rfl ?_
  refine lskip rfl rfl rfl rfl rfl ?_
  refine lskip rfl rfl rfl rfl rfl ?_
  refine lskip rfl rfl rfl rfl rfl ?_
  refine lskip rfl rfl rfl rfl rfl ?_
  refine ls (op (p_pickf rfl rfl) rfl) ?_
  refine ln (nmid (wk0 (by repeat (first | exact subσ.nil _ | refine subσ.cons rfl ?_)) (by repeat (first | exact Sub.d | (refine Sub.s ?_ ?_; (repeat (first | exact In.z | apply In.s))) | (refine Sub.suf ?_; (repeat (first | exact Suf.z | apply Suf.s)))))))
 apply exI
 ·
  intro h10
  refine lwant rfl rfl rfl rfl (op (p_fa fa111_1 rfl) rfl) ?_
  refine lwant rfl rfl rfl rfl (o_ld Tryz.isAgg9 rfl (by repeat (first | exact At.z | apply At.s)) (by repeat (first | exact At.z | apply At.s)) rfl) ?_
  refine lwant rfl rfl rfl rfl (op (p_fa fa111_1 rfl) rfl) ?_
  refine lwant rfl rfl rfl rfl (o_ld Tryz.isAgg9 rfl (by repeat (first | exact At.z | apply At.s)) (by repeat (first | exact At.z | apply At.s)) rfl) ?_
  refine lwant rfl rfl rfl rfl (op (p_seq rfl rfl) rfl) ?_
  refine ls (op (p_pickt rfl rfl) rfl) ?_
  refine ln (nmid (wk0 (by repeat (first | exact subσ.nil _ | refine subσ.cons rfl ?_)) (by repeat (first | exact Sub.d | (refine Sub.s ?_ ?_; (repeat (first | exact In.z | apply In.s))) | (refine Sub.suf ?_; (repeat (first | exact Suf.z | apply Suf.s)))))))
 ·
  refine ls (op (p_move rfl) rfl) ?_
  refine andX 6 17 23 rfl (subσ.cons (t := 0) rfl (subσ.cons (t := 1) rfl (subσ.cons (t := 2) rfl (subσ.cons (t := 3) rfl (subσ.cons (t := 4) rfl (subσ.nil _)))))) ?_ ?_
  ·
   intro h17
   refine lskip rfl rfl rfl rfl rfl ?_
   refine lskip rfl rfl rfl rfl rfl ?_
   refine lskip rfl rfl rfl rfl rfl ?_
   refine lskip rfl rfl rfl rfl rfl ?_
   refine lskip rfl rfl rfl rfl rfl ?_
   refine ls (op (p_pickf rfl rfl) rfl) ?_
   refine ln (nmid (wk0 (by repeat (first | exact subσ.nil _ | refine subσ.cons rfl ?_)) (by repeat (first | exact Sub.d | (refine Sub.s ?_ ?_; (repeat (first | exact In.z | apply In.s))) | (refine Sub.suf ?_; (repeat (first | exact Suf.z | apply Suf.s)))))))
  apply exI
  ·
   intro h17
   refine lwant rfl rfl rfl rfl (op (p_fa fa111_2 rfl) rfl) ?_
   refine lwant rfl rfl rfl rfl (o_ld Tryz.isAgg9 rfl (by repeat (first | exact At.z | apply At.s)) (by repeat (first | exact At.z | apply At.s)) rfl) ?_
   refine lwant rfl rfl rfl rfl (op (p_fa fa111_2 rfl) rfl) ?_
   refine lwant rfl rfl rfl rfl (o_ld Tryz.isAgg9 rfl (by repeat (first | exact At.z | apply At.s)) (by repeat (first | exact At.z | apply At.s)) rfl) ?_
   refine lwant rfl rfl rfl rfl (op (p_seq rfl rfl) rfl) ?_
   refine ls (op (p_pickt rfl rfl) rfl) ?_
   refine ln (nmid (wk0 (by repeat (first | exact subσ.nil _ | refine subσ.cons rfl ?_)) (by repeat (first | exact Sub.d | (refine Sub.s ?_ ?_; (repeat (first | exact In.z | apply In.s))) | (refine Sub.suf ?_; (repeat (first | exact Suf.z | apply Suf.s)))))))
  ·
   refine ls (op (p_move rfl) rfl) ?_
   refine andX 6 24 30 rfl (subσ.cons (t := 0) rfl (subσ.cons (t := 1) rfl (subσ.cons (t := 2) rfl (subσ.cons (t := 3) rfl (subσ.cons (t := 4) rfl (subσ.nil _)))))) ?_ ?_
   ·
    intro h24
    refine lskip rfl rfl rfl rfl rfl ?_
    refine lskip rfl rfl rfl rfl rfl ?_
    refine lskip rfl rfl rfl rfl rfl ?_
    refine lskip rfl rfl rfl rfl rfl ?_
    refine lskip rfl rfl rfl rfl rfl ?_
    refine ls (op (p_pickf rfl rfl) rfl) ?_
    refine ln (nmid (wk0 (by repeat (first | exact subσ.nil _ | refine subσ.cons rfl ?_)) (by repeat (first | exact Sub.d | (refine Sub.s ?_ ?_; (repeat (first | exact In.z | apply In.s))) | (refine Sub.suf ?_; (repeat (first | exact Suf.z | apply Suf.s)))))))
   apply exI
   ·
    intro h24
    refine lwant rfl rfl rfl rfl (op (p_fa fa111_3 rfl) rfl) ?_
    refine lwant rfl rfl rfl rfl (o_ld Tryz.isAgg3 rfl (by repeat (first | exact At.z | apply At.s)) (by repeat (first | exact At.z | apply At.s)) rfl) ?_
    refine lwant rfl rfl rfl rfl (op (p_fa fa111_3 rfl) rfl) ?_
    refine lwant rfl rfl rfl rfl (o_ld Tryz.isAgg3 rfl (by repeat (first | exact At.z | apply At.s)) (by repeat (first | exact At.z | apply At.s)) rfl) ?_
    refine lwant rfl rfl rfl rfl (op (p_icmp rfl rfl rfl) rfl) ?_
    refine ls (op (p_pickt rfl rfl) rfl) ?_
    refine ln (nmid (wk0 (by repeat (first | exact subσ.nil _ | refine subσ.cons rfl ?_)) (by repeat (first | exact Sub.d | (refine Sub.s ?_ ?_; (repeat (first | exact In.z | apply In.s))) | (refine Sub.suf ?_; (repeat (first | exact Suf.z | apply Suf.s)))))))
   ·
    refine ls (op (p_move rfl) rfl) ?_
    refine andX 6 31 37 rfl (subσ.cons (t := 0) rfl (subσ.cons (t := 1) rfl (subσ.cons (t := 2) rfl (subσ.cons (t := 3) rfl (subσ.cons (t := 4) rfl (subσ.nil _)))))) ?_ ?_
    ·
     intro h31
     refine lskip rfl rfl rfl rfl rfl ?_
     refine lskip rfl rfl rfl rfl rfl ?_
     refine lskip rfl rfl rfl rfl rfl ?_
     refine lskip rfl rfl rfl rfl rfl ?_
     refine lskip rfl rfl rfl rfl rfl ?_
     refine ls (op (p_pickf rfl rfl) rfl) ?_
     refine ln (nmid (wk0 (by repeat (first | exact subσ.nil _ | refine subσ.cons rfl ?_)) (by repeat (first | exact Sub.d | (refine Sub.s ?_ ?_; (repeat (first | exact In.z | apply In.s))) | (refine Sub.suf ?_; (repeat (first | exact Suf.z | apply Suf.s)))))))
    apply exI
    ·
     intro h31
     refine lwant rfl rfl rfl rfl (op (p_fa fa111_4 rfl) rfl) ?_
     refine lwant rfl rfl rfl rfl (o_ld Tryz.isAgg57 rfl (by repeat (first | exact At.z | apply At.s)) (by repeat (first | exact At.z | apply At.s)) rfl) ?_
     refine lwant rfl rfl rfl rfl (op (p_fa fa111_4 rfl) rfl) ?_
     refine lwant rfl rfl rfl rfl (o_ld Tryz.isAgg57 rfl (by repeat (first | exact At.z | apply At.s)) (by repeat (first | exact At.z | apply At.s)) rfl) ?_
     refine lwant rfl rfl rfl rfl (o_call (is := []) Tryz.call93 (c_refSame1 p.old q.old _ _ _ _ hp.o) rfl rfl (by repeat (first | exact Sub.d | (refine Sub.s ?_ ?_; (repeat (first | exact In.z | apply In.s))) | (refine Sub.suf ?_; (repeat (first | exact Suf.z | apply Suf.s))))) rfl) ?_
     refine le ?_; intro x36
     refine ls (op (p_pickt rfl rfl) rfl) ?_
     refine ln (nmid (wk0 (by repeat (first | exact subσ.nil _ | refine subσ.cons rfl ?_)) (by repeat (first | exact Sub.d | (refine Sub.s ?_ ?_; (repeat (first | exact In.z | apply In.s))) | (refine Sub.suf ?_; (repeat (first | exact Suf.z | apply Suf.s)))))))
    ·
     refine ls (op (p_move rfl) rfl) ?_
     refine andX 6 38 44 rfl (subσ.cons (t := 0) rfl (subσ.cons (t := 1) rfl (subσ.cons (t := 4) rfl (subσ.nil _)))) ?_ ?_
     ·
      intro h38
      refine lskip rfl rfl rfl rfl rfl ?_
      refine lskip rfl rfl rfl rfl rfl ?_
      refine lskip rfl rfl rfl rfl rfl ?_
      refine lskip rfl rfl rfl rfl rfl ?_
      refine lskip rfl rfl rfl rfl rfl ?_
      refine ls (op (p_pickf rfl rfl) rfl) ?_
      refine ln (nmid (wk0 (by repeat (first | exact subσ.nil _ | refine subσ.cons rfl ?_)) (by repeat (first | exact Sub.d | (refine Sub.s ?_ ?_; (repeat (first | exact In.z | apply In.s))) | (refine Sub.suf ?_; (repeat (first | exact Suf.z | apply Suf.s)))))))
     apply exI
     ·
      intro h38
      refine lwant rfl rfl rfl rfl (op (p_fa fa111_5 rfl) rfl) ?_
      refine lwant rfl rfl rfl rfl (o_ld Tryz.isAgg57 rfl (by repeat (first | exact At.z | apply At.s)) (by repeat (first | exact At.z | apply At.s)) rfl) ?_
      refine lwant rfl rfl rfl rfl (op (p_fa fa111_5 rfl) rfl) ?_
      refine lwant rfl rfl rfl rfl (o_ld Tryz.isAgg57 rfl (by repeat (first | exact At.z | apply At.s)) (by repeat (first | exact At.z | apply At.s)) rfl) ?_
      refine lwant rfl rfl rfl rfl (o_call (is := []) Tryz.call93 (c_refSame1 p.new q.new _ _ _ _ hp.n) rfl rfl (by repeat (first | exact Sub.d | (refine Sub.s ?_ ?_; (repeat (first | exact In.z | apply In.s))) | (refine Sub.suf ?_; (repeat (first | exact Suf.z | apply Suf.s))))) rfl) ?_
      refine le ?_; intro x43
      refine ls (op (p_pickt rfl rfl) rfl) ?_
      refine ln (nmid (wk0 (by repeat (first | exact subσ.nil _ | refine subσ.cons rfl ?_)) (by repeat (first | exact Sub.d | (refine Sub.s ?_ ?_; (repeat (first | exact In.z | apply In.s))) | (refine Sub.suf ?_; (repeat (first | exact Suf.z | apply Suf.s)))))))
     ·
      refine ls (op (p_asg rfl) rfl) ?_
      refine ln ?_
      refine nthen ?_
      refine cret ?_
      refine xret (fun _ _ h => h) ?_
      refine rret (is := []) () (Or.inl rfl) (Res.t rfl Res.d) ?_ rfl (by repeat (first | exact Sub.d | (refine Sub.s ?_ ?_; (repeat (first | exact In.z | apply In.s))) | (refine Sub.suf ?_; (repeat (first | exact Suf.z | apply Suf.s)))))
      simp only [packV, dec_prim]

end Go.Proofs.YtogcgfdfabnjhaaGreatDoor.X

end
section
set_option linter.unusedVariables false
set_option linter.unusedSimpArgs false
namespace Go.Proofs.YtogcgfdfabnjhaaGreatDoor.X
open Go Go.RowKit Go.Proofs Go.Sx
attribute [local irreducible] slA isA box row

def pre (l : List Prim) (k : Nat) : Nat := ((l.take k).map Prim.many).sum
theorem pre_succ {l : List Prim} {k : Nat} (h : k < l.length) : pre l (k + 1) = pre l k + l[k].many := by
 unfold pre
 rw [List.take_succ_eq_append_getElem h, List.map_append, List.sum_append]
 simp only [List.map_cons, List.map_nil, List.sum_cons, List.sum_nil, Nat.add_zero]
theorem pre_all (l : List Prim) : l.length + pre l l.length = many l := by
 unfold pre many
 rw [List.take_length]
theorem sum_take (l : List Nat) (k : Nat) : (l.take k).sum ≤ l.sum := by
 have h := congrArg List.sum (List.take_append_drop k l)
 rw [List.sum_append] at h
 omega
theorem pre_le (l : List Prim) (k : Nat) : l.length + pre l k ≤ many l := by
 unfold pre many
 have := sum_take (l.map Prim.many) k
 rw [← List.map_take] at this
 omega
theorem sizes_succ {l : List ByteArray} {k : Nat} (h : k < l.length) : sizes (l.take (k + 1)) = sizes (l.take k) + l[k].size := by
 unfold sizes
 rw [List.take_succ_eq_append_getElem h, List.map_append, List.sum_append]
 simp only [List.map_cons, List.map_nil, List.sum_cons, List.sum_nil, Nat.add_zero]
theorem sizes_le (l : List ByteArray) (k : Nat) : sizes (l.take k) ≤ sizes l := by
 unfold sizes
 have := sum_take (l.map ByteArray.size) k
 rw [← List.map_take] at this
 exact this


set_option maxRecDepth 100000 in
theorem c_Many (l : List Prim) (A : Option Addr) (c : Nat) (hl : l.length ≤ 2000000) (hM : many l ≤ 1000000000000) : Con Tryz.prog 58 [.slice A l.length c] [] [slA A l] Unit (fun _ => .int .i64 (many l : Int)) (fun _ => []) (fun _ => []) := by
 refine con Tryz.func58 rfl Tryz.ntmps58 rfl ?_
 intro M0 F0 w0
 refine cs ?_
 refine cr ?_
 refine ls (op (p_asg rfl) rfl) ?_
 refine ln ?_
 refine nthen ?_
 refine cs ?_
 refine cr ?_
 refine ls (op (p_move rfl) rfl) ?_
 refine ls (op (p_lenl rfl Tryz.underlying23) rfl) ?_
 refine ls (op (p_asg rfl) rfl) ?_
 refine ln ?_
 refine nthen ?_
 refine cs ?_
 refine cs ?_
 refine cr ?_
 refine ls (op (p_move rfl) rfl) ?_
 refine ls (op (p_lenl rfl Tryz.underlying23) rfl) ?_
 refine ls (op (p_move rfl) rfl) ?_
 refine ln ?_
 refine nthen ?_
 refine cb ?_
 refine cl (ι := {q : Nat × Int // q.1 ≤ l.length ∧ q.2 = ((l.length + pre l q.1 : Nat) : Int)}) (fun i => St M0 F0 w0 61 [(12, .slice A l.length c), (13, .int .i64 (l.length : Int)), (14, .int .i64 (i.1.1 : Int)), (3, .int .i64 i.1.2)] [] [slA A l]) (fun i => l.length - i.1.1) ⟨(0, (l.length : Int)), by simp [pre]⟩ (wk0 (by repeat (first | exact subσ.nil _ | refine subσ.cons rfl ?_)) (by repeat (first | exact Sub.d | (refine Sub.s ?_ ?_; (repeat (first | exact In.z | apply In.s))) | (refine Sub.suf ?_; (repeat (first | exact Suf.z | apply Suf.s)))))) ?_
 rintro ⟨⟨k, n⟩, hk, hn⟩
 refine cmono (S' := St M0 F0 w0 61 [(12, .slice A l.length c), (13, .int .i64 (l.length : Int)), (14, .int .i64 (k : Int)), (3, .int .i64 n)] [] [slA A l]) (fun _ _ h => h) ?_
 refine cs ?_
 refine cr ?_
 refine ls (op (p_icmp rfl rfl rfl) rfl) ?_
 refine ln ?_
 refine nthen ?_
 refine cs ?_
 refine cc rfl ?_ ?_
 ·
  intro h15
  dsimp only at hk hn
  try simp only [decide_eq_true_eq, decide_eq_false_iff_not, Bool.not_eq_true', Bool.not_eq_false', Int.not_lt, Int.not_le, ge_iff_le, Bool.not_true, Bool.not_false] at h15
  have hk1 : k < l.length := by omega
  have hs := pre_succ hk1
  have ht := pre_le l (k + 1)
  have hu : l[k].many = l[k].name.size + l[k].to.size + l[k].old.length + l[k].new.length + sizes l[k].old + sizes l[k].new := rfl
  refine cskip ?_
  refine nthen ?_
  refine cs ?_
  refine cb ?_
  refine cs ?_
  refine elC (by repeat (first | exact At.z | apply At.s)) k (List.getElem?_eq_getElem (l := l) hk1) ?_; rintro zbp zop zyp hAp
  refine cr ?_
  refine ls (op (p_ia k hAp hk1 rfl Tryz.underlying23 Tryz.sizeOf111 rfl rfl) rfl) ?_
  refine ls (o_ldj Tryz.isAgg111 Tryz.sizeOf111 rfl (by repeat (first | exact At.z | apply At.s)) 0 rfl (by repeat (first | exact Cut.d | apply Cut.t | apply Cut.s)) rfl) ?_
  refine ls (o_alloc Tryz.zeroValue111 rfl rfl) ?_
  refine le ?_; intro b5
  refine ls (o_st rfl Tryz.sizeOf111 rfl rfl rfl rfl rfl (by repeat (first | exact At.z | apply At.s)) (by repeat (first | exact Put.d | apply Put.t | apply Put.s)) (by repeat (first | exact SetAt.z | apply SetAt.s))) ?_
  refine ln ?_
  refine nthen ?_
  refine cs ?_
  refine cr ?_
  refine ls (op (p_move rfl) rfl) ?_
  refine ls (op (p_fa fa111_1 rfl) rfl) ?_
  refine ls (o_ld Tryz.isAgg9 rfl (by repeat (first | exact At.z | apply At.s)) (by repeat (first | exact At.z | apply At.s)) rfl) ?_
  refine ls (op (p_lens rfl Tryz.underlying9) rfl) ?_
  refine ls (op (p_fa fa111_2 rfl) rfl) ?_
  refine ls (o_ld Tryz.isAgg9 rfl (by repeat (first | exact At.z | apply At.s)) (by repeat (first | exact At.z | apply At.s)) rfl) ?_
  refine ls (op (p_lens rfl Tryz.underlying9) rfl) ?_
  refine ls (op (p_add rfl rfl (by omega)) rfl) ?_
  refine ls (op (p_fa fa111_4 rfl) rfl) ?_
  refine ls (o_ld Tryz.isAgg57 rfl (by repeat (first | exact At.z | apply At.s)) (by repeat (first | exact At.z | apply At.s)) rfl) ?_
  refine ls (op (p_lenl rfl Tryz.underlying57) rfl) ?_
  refine ls (op (p_add rfl rfl (by omega)) rfl) ?_
  refine ls (op (p_fa fa111_5 rfl) rfl) ?_
  refine ls (o_ld Tryz.isAgg57 rfl (by repeat (first | exact At.z | apply At.s)) (by repeat (first | exact At.z | apply At.s)) rfl) ?_
  refine ls (op (p_lenl rfl Tryz.underlying57) rfl) ?_
  refine ls (op (p_add rfl rfl (by omega)) rfl) ?_
  refine ls (op (p_add rfl rfl (by omega)) rfl) ?_
  refine ls (op (p_asg rfl) rfl) ?_
  refine ln ?_
  refine nthen ?_
  refine cs ?_
  refine cs ?_
  refine cr ?_
  refine ls (op (p_fa fa111_4 rfl) rfl) ?_
  refine ls (o_ld Tryz.isAgg57 rfl (by repeat (first | exact At.z | apply At.s)) (by repeat (first | exact At.z | apply At.s)) rfl) ?_
  refine ls (op (p_lenl rfl Tryz.underlying57) rfl) ?_
  refine ls (op (p_move rfl) rfl) ?_
  refine ln ?_
  refine nthen ?_
  refine cb ?_
  refine cl (ι := {q : Nat × Int // q.1 ≤ l[k].old.length ∧ q.2 = (n + ((((l[k].name.size : Int) + l[k].to.size) + l[k].old.length) + l[k].new.length)) + sizes (l[k].old.take q.1)}) (fun i => St M0 F0 w0 61 [(12, .slice A l.length c), (13, .int .i64 (l.length : Int)), (14, .int .i64 (k : Int)), (5, .pointer (some ⟨b5, 0, none⟩)), (36, .slice zyp.1.1 l[k].old.length zyp.1.2), (37, .int .i64 (l[k].old.length : Int)), (38, .int .i64 (i.1.1 : Int)), (3, .int .i64 i.1.2)] [box b5 111 (Rp.enc l[k] zyp)] [slA A l, slA zyp.1.1 l[k].old, slA zyp.2.1 l[k].new]) (fun i => l[k].old.length - i.1.1) ⟨(0, (n + ((((l[k].name.size : Int) + l[k].to.size) + l[k].old.length) + l[k].new.length))), by simp [sizes]⟩ (wk0 (by repeat (first | exact subσ.nil _ | refine subσ.cons rfl ?_)) (by repeat (first | exact Sub.d | (refine Sub.s ?_ ?_; (repeat (first | exact In.z | apply In.s))) | (refine Sub.suf ?_; (repeat (first | exact Suf.z | apply Suf.s)))))) ?_
  rintro ⟨⟨j, x⟩, hj, hx⟩
  refine cmono (S' := St M0 F0 w0 61 [(12, .slice A l.length c), (13, .int .i64 (l.length : Int)), (14, .int .i64 (k : Int)), (5, .pointer (some ⟨b5, 0, none⟩)), (36, .slice zyp.1.1 l[k].old.length zyp.1.2), (37, .int .i64 (l[k].old.length : Int)), (38, .int .i64 (j : Int)), (3, .int .i64 x)] [box b5 111 (Rp.enc l[k] zyp)] [slA A l, slA zyp.1.1 l[k].old, slA zyp.2.1 l[k].new]) (fun _ _ h => h) ?_
  refine cs ?_
  refine cr ?_
  refine ls (op (p_icmp rfl rfl rfl) rfl) ?_
  refine ln ?_
  refine nthen ?_
  refine cs ?_
  refine cc rfl ?_ ?_
  ·
   intro h39
   dsimp only at hj hx
   try simp only [decide_eq_true_eq, decide_eq_false_iff_not, Bool.not_eq_true', Bool.not_eq_false', Int.not_lt, Int.not_le, ge_iff_le, Bool.not_true, Bool.not_false] at h39
   have hj1 : j < l[k].old.length := by omega
   have ej1 := sizes_succ hj1
   have ej2 := sizes_le l[k].old (j + 1)
   refine cskip ?_
   refine nthen ?_
   refine cs ?_
   refine cb ?_
   refine cs ?_
   refine elC (by repeat (first | exact At.z | apply At.s)) j (List.getElem?_eq_getElem (l := l[k].old) hj1) ?_; rintro zbq zoq zyq hAq
   refine cr ?_
   refine ls (op (p_ia j hAq hj1 rfl Tryz.underlying57 Tryz.sizeOf9 rfl rfl) rfl) ?_
   refine ls (o_ldi Tryz.isAgg9 rfl (by repeat (first | exact At.z | apply At.s)) 0 rfl (by repeat (first | exact Cut.d | apply Cut.t | apply Cut.s)) rfl) ?_
   refine ls (op (p_asg rfl) rfl) ?_
   refine ln ?_
   refine nthen ?_
   refine cr ?_
   refine ls (op (p_move rfl) rfl) ?_
   refine ls (op (p_move rfl) rfl) ?_
   refine ls (op (p_lens rfl Tryz.underlying9) rfl) ?_
   refine ls (op (p_add rfl rfl (by omega)) rfl) ?_
   refine ls (op (p_asg rfl) rfl) ?_
   refine ln ?_
   refine nblock ?_
   refine nthen ?_
   refine cr ?_
   refine ls (op (p_add rfl rfl (by omega)) rfl) ?_
   refine ls (op (p_move rfl) rfl) ?_
   refine ln ?_
   refine nnext ⟨(j + 1, x + (l[k].old[j].size : Int)), hj1, by dsimp only; omega⟩ (by dsimp only; omega) (wk0 (by repeat (first | exact subσ.nil _ | refine subσ.cons rfl ?_)) (by repeat (first | exact Sub.d | (refine Sub.s ?_ ?_; (repeat (first | exact In.z | apply In.s))) | (refine Sub.suf ?_; (repeat (first | exact Suf.z | apply Suf.s))))))
  ·
   intro h39
   dsimp only at hj hx
   try simp only [decide_eq_true_eq, decide_eq_false_iff_not, Bool.not_eq_true', Bool.not_eq_false', Int.not_lt, Int.not_le, ge_iff_le, Bool.not_true, Bool.not_false] at h39
   rw [List.take_of_length_le (by omega)] at hx
   refine cexit ?_
   refine xthen ?_
   refine xthen ?_
   refine xblock ?_
   refine nthen ?_
   refine cs ?_
   refine cr ?_
   refine ls (op (p_fa fa111_5 rfl) rfl) ?_
   refine ls (o_ld Tryz.isAgg57 rfl (by repeat (first | exact At.z | apply At.s)) (by repeat (first | exact At.z | apply At.s)) rfl) ?_
   refine ls (op (p_lenl rfl Tryz.underlying57) rfl) ?_
   refine ls (op (p_move rfl) rfl) ?_
   refine ln ?_
   refine nthen ?_
   refine cb ?_
   refine cl (ι := {q : Nat × Int // q.1 ≤ l[k].new.length ∧ q.2 = x + sizes (l[k].new.take q.1)}) (fun i => St M0 F0 w0 61 [(12, .slice A l.length c), (13, .int .i64 (l.length : Int)), (14, .int .i64 (k : Int)), (5, .pointer (some ⟨b5, 0, none⟩)), (48, .slice zyp.2.1 l[k].new.length zyp.2.2), (49, .int .i64 (l[k].new.length : Int)), (50, .int .i64 (i.1.1 : Int)), (3, .int .i64 i.1.2)] [box b5 111 (Rp.enc l[k] zyp)] [slA A l, slA zyp.1.1 l[k].old, slA zyp.2.1 l[k].new]) (fun i => l[k].new.length - i.1.1) ⟨(0, x), by simp [sizes]⟩ (wk0 (by repeat (first | exact subσ.nil _ | refine subσ.cons rfl ?_)) (by repeat (first | exact Sub.d | (refine Sub.s ?_ ?_; (repeat (first | exact In.z | apply In.s))) | (refine Sub.suf ?_; (repeat (first | exact Suf.z | apply Suf.s)))))) ?_
   rintro ⟨⟨g, y⟩, hg, hy⟩
   refine cmono (S' := St M0 F0 w0 61 [(12, .slice A l.length c), (13, .int .i64 (l.length : Int)), (14, .int .i64 (k : Int)), (5, .pointer (some ⟨b5, 0, none⟩)), (48, .slice zyp.2.1 l[k].new.length zyp.2.2), (49, .int .i64 (l[k].new.length : Int)), (50, .int .i64 (g : Int)), (3, .int .i64 y)] [box b5 111 (Rp.enc l[k] zyp)] [slA A l, slA zyp.1.1 l[k].old, slA zyp.2.1 l[k].new]) (fun _ _ h => h) ?_
   refine cs ?_
   refine cr ?_
   refine ls (op (p_icmp rfl rfl rfl) rfl) ?_
   refine ln ?_
   refine nthen ?_
   refine cs ?_
   refine cc rfl ?_ ?_
   ·
    intro h51
    dsimp only at hg hy
    try simp only [decide_eq_true_eq, decide_eq_false_iff_not, Bool.not_eq_true', Bool.not_eq_false', Int.not_lt, Int.not_le, ge_iff_le, Bool.not_true, Bool.not_false] at h51
    have hg1 : g < l[k].new.length := by omega
    have eg1 := sizes_succ hg1
    have eg2 := sizes_le l[k].new (g + 1)
    refine cskip ?_
    refine nthen ?_
    refine cs ?_
    refine cb ?_
    refine cs ?_
    refine elC (by repeat (first | exact At.z | apply At.s)) g (List.getElem?_eq_getElem (l := l[k].new) hg1) ?_; rintro zbr zor zyr hAr
    refine cr ?_
    refine ls (op (p_ia g hAr hg1 rfl Tryz.underlying57 Tryz.sizeOf9 rfl rfl) rfl) ?_
    refine ls (o_ldi Tryz.isAgg9 rfl (by repeat (first | exact At.z | apply At.s)) 0 rfl (by repeat (first | exact Cut.d | apply Cut.t | apply Cut.s)) rfl) ?_
    refine ls (op (p_asg rfl) rfl) ?_
    refine ln ?_
    refine nthen ?_
    refine cr ?_
    refine ls (op (p_move rfl) rfl) ?_
    refine ls (op (p_move rfl) rfl) ?_
    refine ls (op (p_lens rfl Tryz.underlying9) rfl) ?_
    refine ls (op (p_add rfl rfl (by omega)) rfl) ?_
    refine ls (op (p_asg rfl) rfl) ?_
    refine ln ?_
    refine nblock ?_
    refine nthen ?_
    refine cr ?_
    refine ls (op (p_add rfl rfl (by omega)) rfl) ?_
    refine ls (op (p_move rfl) rfl) ?_
    refine ln ?_
    refine nnext ⟨(g + 1, y + (l[k].new[g].size : Int)), hg1, by dsimp only; omega⟩ (by dsimp only; omega) (wk0 (by repeat (first | exact subσ.nil _ | refine subσ.cons rfl ?_)) (by repeat (first | exact Sub.d | (refine Sub.s ?_ ?_; (repeat (first | exact In.z | apply In.s))) | (refine Sub.suf ?_; (repeat (first | exact Suf.z | apply Suf.s))))))
   ·
    intro h51
    dsimp only at hg hy
    try simp only [decide_eq_true_eq, decide_eq_false_iff_not, Bool.not_eq_true', Bool.not_eq_false', Int.not_lt, Int.not_le, ge_iff_le, Bool.not_true, Bool.not_false] at h51
    rw [List.take_of_length_le (by omega)] at hy
    refine cexit ?_
    refine xthen ?_
    refine xthen ?_
    refine xblock ?_
    refine nblock ?_
    refine nthen ?_
    refine cr ?_
    refine ls (op (p_add rfl rfl (by omega)) rfl) ?_
    refine ls (op (p_move rfl) rfl) ?_
    refine ln ?_
    refine nnext ⟨(k + 1, y), hk1, by dsimp only; omega⟩ (by dsimp only; omega) (wk (is := []) (by repeat (first | exact subσ.nil _ | refine subσ.cons rfl ?_)) rfl (by repeat (first | exact Sub.d | (refine Sub.s ?_ ?_; (repeat (first | exact In.z | apply In.s))) | (refine Sub.suf ?_; (repeat (first | exact Suf.z | apply Suf.s))))))
 ·
  intro h15
  dsimp only at hk hn
  try simp only [decide_eq_true_eq, decide_eq_false_iff_not, Bool.not_eq_true', Bool.not_eq_false', Int.not_lt, Int.not_le, ge_iff_le, Bool.not_true, Bool.not_false] at h15
  refine cexit ?_
  refine xthen ?_
  refine xthen ?_
  refine xblock ?_
  refine nthen ?_
  refine cs ?_
  refine cr ?_
  refine ls (op (p_move rfl) rfl) ?_
  refine ls (op (p_asg rfl) rfl) ?_
  refine ln ?_
  refine nthen ?_
  refine cret ?_
  refine xret (fun _ _ h => h) ?_
  refine rret (is := []) () (Or.inl rfl) (Res.t rfl Res.d) ?_ rfl (by repeat (first | exact Sub.d | (refine Sub.s ?_ ?_; (repeat (first | exact In.z | apply In.s))) | (refine Sub.suf ?_; (repeat (first | exact Suf.z | apply Suf.s)))))
  have e := pre_all l; rw [show k = l.length by omega] at hn; rw [hn]; simp only [packV]; rw [e]

end Go.Proofs.YtogcgfdfabnjhaaGreatDoor.X

end
section
set_option linter.unusedVariables false
namespace Go.Proofs.YtogcgfdfabnjhaaGreatDoor.X
open Go Go.RowKit Go.Proofs Go.Sx
theorem past1_ok : ∀ {m : List Prim} {p q : Prim} {f : List Prim}, past1 p m = some (f, q) → p.fit → (∀ x ∈ m, x.fit) → f.length = m.length ∧ q.fit ∧ ∀ x ∈ f, x.fit
  | [], p, q, f, h, hp, _ => by
    simp only [past1, Option.some.injEq, Prod.mk.injEq] at h
    obtain ⟨rfl, rfl⟩ := h
    exact ⟨rfl, hp, by simp⟩
  | x :: m, p, q, f, h, hp, hm => by
    rw [past1] at h
    split at h
    · rw [Option.map_eq_some_iff] at h
      obtain ⟨⟨r1, r2⟩, h1, h2⟩ := h
      simp only [Prod.mk.injEq] at h2
      obtain ⟨rfl, rfl⟩ := h2
      obtain ⟨e1, e2⟩ := swap_fit hp (hm x (by simp))
      obtain ⟨k1, k2, k3⟩ := past1_ok h1 e2 (fun y hy => hm y (by simp [hy]))
      refine ⟨by simp [k1], k2, fun y hy => ?_⟩
      rcases List.mem_cons.1 hy with rfl | hy
      · exact e1
      · exact k3 y hy
    · cases h
theorem pastT_true {p q : Prim} {m f : List Prim} (h : (f, q, true) = pastT p m) : past1 p m = some (f, q) := by
  unfold pastT at h
  cases hh : past1 p m with
  | none => rw [hh] at h; simp at h
  | some r => rw [hh] at h; simp only [Prod.mk.injEq, and_true] at h; rw [h.1, h.2]
theorem pastT_false {p q : Prim} {m f : List Prim} (h : (f, q, false) = pastT p m) : past1 p m = none := by
  unfold pastT at h
  cases hh : past1 p m with
  | none => rfl
  | some r => rw [hh] at h; simp at h
def swT (l m : List Prim) : List Prim × List Prim × Bool := match swapL l m with
  | some r => (r.1, r.2, true)
  | none => ([], [], false)
/-- j of l, from behind, are through; what is ahead is f, what is behind is s -/
structure SI (l m : List Prim) (j : Nat) (f s : List Prim) : Prop where
  eq : swapL l m = swapR (l.reverse.drop j) f s
  fl : f.length = m.length
  sl : s.length = j
  ff : ∀ x ∈ f, x.fit
  fs : ∀ x ∈ s, x.fit
theorem SI.start {l m : List Prim} (h : ∀ x ∈ m, x.fit) : SI l m 0 m [] := ⟨rfl, rfl, rfl, h, by simp⟩
theorem rev_drop {α : Type} {l : List α} {j k : Nat} (h : k + j + 1 = l.length) : l.reverse.drop j = l[k] :: l.reverse.drop (j + 1) := by
  have hj : j < l.reverse.length := by simp; omega
  rw [List.drop_eq_getElem_cons hj, List.getElem_reverse]
  congr 2
  omega
theorem SI.step {l m f s f' : List Prim} {j k : Nat} {q : Prim} (h : SI l m j f s) (hk : k + j + 1 = l.length) (hl : ∀ x ∈ l, x.fit) (hp : (f', q, true) = pastT l[k] f) : SI l m (j + 1) f' (q :: s) := by
  have h1 := pastT_true hp
  obtain ⟨k1, k2, k3⟩ := past1_ok h1 (hl _ (List.getElem_mem _)) h.ff
  refine ⟨?_, k1.trans h.fl, by simp [h.sl], k3, fun y hy => ?_⟩
  · rw [h.eq, rev_drop hk, swapR, h1]; rfl
  · rcases List.mem_cons.1 hy with rfl | hy
    · exact k2
    · exact h.fs y hy
theorem SI.stop {l m f s f' : List Prim} {j k : Nat} {q : Prim} (h : SI l m j f s) (hk : k + j + 1 = l.length) (hp : (f', q, false) = pastT l[k] f) : swT l m = ([], [], false) := by
  unfold swT
  rw [h.eq, rev_drop hk, swapR, pastT_false hp]; rfl
theorem SI.done {l m f s : List Prim} {j : Nat} (h : SI l m j f s) (hj : j = l.length) : swT l m = (f, s, true) := by
  unfold swT
  rw [h.eq, List.drop_eq_nil_of_le (by simp; omega), swapR]
theorem mid_get1 {α : Type} {T d r : List α} {p : α} {k : Nat} (hk : k = T.length + d.length) : (T ++ (d ++ p :: r))[k]? = some p := by
  subst hk; simp
theorem mid_get2 {α : Type} {T d r : List α} {p q : α} {k : Nat} (hk : k = T.length + d.length + 1) : (T ++ (d ++ p :: q :: r))[k]? = some q := by
  subst hk
  rw [List.getElem?_append_right (by omega), List.getElem?_append_right (by omega)]
  have : T.length + d.length + 1 - T.length - d.length = 1 := by omega
  rw [this]; rfl
theorem mid_set {α : Type} {T d r : List α} {p q a b : α} {k : Nat} (hk : k = T.length + d.length) : ((T ++ (d ++ p :: q :: r)).set k a).set (k + 1) b = T ++ ((d ++ [a]) ++ (b :: r)) := by
  subst hk
  apply List.ext_getElem?
  intro i
  simp only [List.getElem?_set, List.getElem?_append, List.length_append, List.length_cons, List.length_set, List.length_nil, List.getElem?_cons]
  grind
end Go.Proofs.YtogcgfdfabnjhaaGreatDoor.X

end
section
set_option linter.unusedVariables false
namespace Go.Proofs.YtogcgfdfabnjhaaGreatDoor.X
open Go Go.RowKit Go.Proofs Go.Sx
structure Patch where
  id : Int
  note : ByteArray
  deps : List Int
  l : List Prim
  deriving DecidableEq
instance instRpPatch : Rp Patch where
  Lay := (Option Addr × Nat) × (Option Addr × Nat)
  size := 4
  enc p y := [.int .i64 p.id, .string p.note, .slice y.1.1 p.deps.length y.1.2, .slice y.2.1 p.l.length y.2.2]
  len _ _ := rfl
  one _ _ v hv := by
    simp only [List.mem_cons, List.mem_nil_iff, or_false] at hv
    rcases hv with rfl | rfl | rfl | rfl <;> rfl
  asn p y := [slA y.1.1 p.deps, slA y.2.1 p.l]
def Patch.zero : Patch := ⟨0, ⟨#[]⟩, [], []⟩
structure Patch.fit (p : Patch) : Prop where
  nb : p.note.size ≤ 2000000
  dl : p.deps.length ≤ 2000000
  ll : p.l.length ≤ 2000000
  lf : ∀ x ∈ p.l, x.fit
theorem pzero_fit : Patch.zero.fit := ⟨by decide, by decide, by decide, fun x h => by cases h⟩
theorem slA_none {α : Type} [Rp α] (M : Nat → Prop) (w : World) : (slA none ([] : List α)).p M w := by intro j x hj; simp at hj
def depsOk (id : Int) : Int → List Int → Bool
  | _, [] => true
  | last, n :: r => !(decide (n ≤ last) || decide (1000000000 < n) || decide (n = id)) && depsOk id n r
def Patch.right (p : Patch) : Bool := decide (1 ≤ p.id) && decide (p.id ≤ 1000000000) && lineOk p.note && decide (p.deps.length ≤ 8) && depsOk p.id 0 p.deps && decide (1 ≤ p.l.length) && decide (p.l.length ≤ 24) && p.l.all Prim.right
def pmay (p q : Patch) : Bool := p.right && q.right && !decide (p.id = q.id) && !(q.deps.any fun n => decide (n = p.id)) && !(p.deps.any fun n => decide (n = q.id))
def pswap (p q : Patch) : Patch × Patch × Bool := if (pmay p q && (swT p.l q.l).2.2) = true then ({ q with l := (swT p.l q.l).1 }, { p with l := (swT p.l q.l).2.1 }, true) else (Patch.zero, Patch.zero, false)
theorem swT_ok {l m f s : List Prim} (h : (f, s, true) = swT l m) (hl : ∀ x ∈ l, x.fit) (hm : ∀ x ∈ m, x.fit) : f.length = m.length ∧ s.length = l.length ∧ (∀ x ∈ f, x.fit) ∧ ∀ x ∈ s, x.fit := by
  have key : ∀ (j : Nat) (f1 s1 : List Prim), j ≤ l.length → SI l m j f1 s1 → SI l m l.length f s := by
    intro j
    induction hn : l.length - j generalizing j with
    | zero =>
      intro f1 s1 hj hI
      have hjl : j = l.length := by omega
      have := hI.done hjl
      rw [this] at h
      simp only [Prod.mk.injEq, and_true] at h
      obtain ⟨rfl, rfl⟩ := h
      rw [← hjl]; exact hI
    | succ n ih =>
      intro f1 s1 hj hI
      have hk : (l.length - 1 - j) + j + 1 = l.length := by omega
      have hlt : l.length - 1 - j < l.length := by omega
      cases hp : pastT (l[l.length - 1 - j]) f1 with
      | mk f2 r =>
        obtain ⟨q, b⟩ := r
        cases b with
        | true => exact ih (j + 1) (by omega) f2 (q :: s1) (by omega) (hI.step hk hl hp.symm)
        | false =>
          have := hI.stop hk hp.symm
          rw [this] at h
          simp at h
  have hI := key 0 m [] (Nat.zero_le _) (SI.start hm)
  exact ⟨hI.fl, hI.sl, hI.ff, hI.fs⟩
theorem pswap_fit {p q : Patch} (hp : p.fit) (hq : q.fit) : (pswap p q).1.fit ∧ (pswap p q).2.1.fit := by
  unfold pswap
  split
  · rename_i h
    simp only [Bool.and_eq_true] at h
    have hs : ((swT p.l q.l).1, (swT p.l q.l).2.1, true) = swT p.l q.l := by rw [← h.2]
    obtain ⟨h1, h2, h3, h4⟩ := swT_ok hs hp.lf hq.lf
    exact ⟨⟨hq.nb, hq.dl, by dsimp only; rw [h1]; exact hq.ll, h3⟩, ⟨hp.nb, hp.dl, by dsimp only; rw [h2]; exact hp.ll, h4⟩⟩
  · exact ⟨pzero_fit, pzero_fit⟩
def ppastR : List Patch → Patch → List Patch → Option (Patch × List Patch)
  | [], q, rest => some (q, rest)
  | x :: r, q, rest => if (pswap x q).2.2 = true then ppastR r (pswap x q).1 ((pswap x q).2.1 :: rest) else none
def ppast (l : List Patch) (q : Patch) : Patch × List Patch × Bool := match ppastR l.reverse q [] with
  | some r => (r.1, r.2, true)
  | none => (Patch.zero, [], false)
def groupF : List Patch → List Patch → List Patch → List Patch × List Patch
  | [], g, r => (g, r)
  | q :: l, g, r => if (ppast g q).2.2 = true then groupF l (ppast g q).2.1 (r ++ [(ppast g q).1]) else groupF l (g ++ [q]) r
def group : List Patch → List Patch × List Patch
  | [] => ([], [])
  | p :: l => groupF l [p] []
/-- j of l, from behind, are past; q has come ahead of them, and they are rest -/
structure PP (l : List Patch) (q0 : Patch) (j : Nat) (q : Patch) (rest : List Patch) : Prop where
  eq : ppastR l.reverse q0 [] = ppastR (l.reverse.drop j) q rest
  len : rest.length = j
  fq : q.fit
  fr : ∀ x ∈ rest, x.fit
theorem PP.start {l : List Patch} {q : Patch} (h : q.fit) : PP l q 0 q [] := ⟨rfl, rfl, h, by simp⟩
theorem PP.step {l rest : List Patch} {q0 q a b : Patch} {j k : Nat} (h : PP l q0 j q rest) (hk : k + j + 1 = l.length) (hl : ∀ x ∈ l, x.fit) (hp : (a, b, true) = pswap l[k] q) : PP l q0 (j + 1) a (b :: rest) := by
  have hf := pswap_fit (hl _ (List.getElem_mem (show k < l.length by omega))) h.fq
  rw [← hp] at hf
  refine ⟨?_, by simp [h.len], hf.1, fun x hx => ?_⟩
  · rw [h.eq, rev_drop hk, ppastR, ← hp]; rfl
  · rcases List.mem_cons.1 hx with rfl | hx
    · exact hf.2
    · exact h.fr x hx
theorem PP.stop {l rest : List Patch} {q0 q a b : Patch} {j k : Nat} (h : PP l q0 j q rest) (hk : k + j + 1 = l.length) (hp : (a, b, false) = pswap l[k] q) : ppast l q0 = (Patch.zero, [], false) := by
  unfold ppast
  rw [h.eq, rev_drop hk, ppastR, ← hp]; rfl
theorem PP.done {l rest : List Patch} {q0 q : Patch} {j : Nat} (h : PP l q0 j q rest) (hj : j = l.length) : ppast l q0 = (q, rest, true) := by
  unfold ppast
  rw [h.eq, List.drop_eq_nil_of_le (by simp; omega), ppastR]
theorem ppast_ok {l rest : List Patch} {q0 q : Patch} (h : (q, rest, true) = ppast l q0) (hl : ∀ x ∈ l, x.fit) (hq : q0.fit) : rest.length = l.length ∧ q.fit ∧ ∀ x ∈ rest, x.fit := by
  have key : ∀ (j : Nat) (q1 : Patch) (r1 : List Patch), j ≤ l.length → PP l q0 j q1 r1 → PP l q0 l.length q rest := by
    intro j
    induction hn : l.length - j generalizing j with
    | zero =>
      intro f1 s1 hj hI
      have hjl : j = l.length := by omega
      have := hI.done hjl
      rw [this] at h
      simp only [Prod.mk.injEq, and_true] at h
      obtain ⟨rfl, rfl⟩ := h
      rw [← hjl]; exact hI
    | succ n ih =>
      intro f1 s1 hj hI
      have hk : (l.length - 1 - j) + j + 1 = l.length := by omega
      have hlt : l.length - 1 - j < l.length := by omega
      cases hp : pswap (l[l.length - 1 - j]) f1 with
      | mk f2 r =>
        obtain ⟨q, b⟩ := r
        cases b with
        | true => exact ih (j + 1) (by omega) f2 (q :: s1) (by omega) (hI.step hk hl hp.symm)
        | false =>
          have := hI.stop hk hp.symm
          rw [this] at h
          simp at h
  have hI := key 0 q0 [] (Nat.zero_le _) (PP.start hq)
  exact ⟨hI.len, hI.fq, hI.fr⟩
/-- k of l have been looked at -/
structure GI (l : List Patch) (k : Nat) (g r : List Patch) : Prop where
  eq : group l = if k = 0 then group l else groupF (l.drop k) g r
  zero : k = 0 → g = [] ∧ r = []
  len : g.length + r.length = k
  fg : ∀ x ∈ g, x.fit
  fr : ∀ x ∈ r, x.fit
theorem GI.start (l : List Patch) : GI l 0 [] [] := ⟨by simp, fun _ => ⟨rfl, rfl⟩, rfl, by simp, by simp⟩
theorem GI.first {l : List Patch} (h0 : 0 < l.length) (hl : ∀ x ∈ l, x.fit) : GI l 1 [l[0]] [] := by
  refine ⟨?_, fun h => by omega, rfl, fun x hx => ?_, by simp⟩
  · match l, h0 with
    | p :: l, _ => simp [group]
  · simp at hx; subst hx; exact hl _ (List.getElem_mem _)
theorem GI.yes {l g r rest : List Patch} {q : Patch} {k : Nat} (h : GI l k g r) (hk : k < l.length) (h0 : k ≠ 0) (hl : ∀ x ∈ l, x.fit) (hp : (q, rest, true) = ppast g l[k]) : GI l (k + 1) rest (r ++ [q]) := by
  obtain ⟨h1, h2, h3⟩ := ppast_ok hp h.fg (hl _ (List.getElem_mem hk))
  refine ⟨?_, fun h => by omega, by simp [h1]; have := h.len; omega, h3, fun x hx => ?_⟩
  · have := h.eq
    rw [if_neg h0, List.drop_eq_getElem_cons hk, groupF, ← hp] at this
    simpa using this
  · rcases List.mem_append.1 hx with hx | hx
    · exact h.fr x hx
    · simp at hx; subst hx; exact h2
theorem GI.no {l g r rest : List Patch} {q : Patch} {k : Nat} (h : GI l k g r) (hk : k < l.length) (hl : ∀ x ∈ l, x.fit) (hp : k = 0 ∨ (q, rest, false) = ppast g l[k]) : GI l (k + 1) (g ++ [l[k]]) r := by
  by_cases h0 : k = 0
  · subst h0
    obtain ⟨rfl, rfl⟩ := h.zero rfl
    exact GI.first hk hl
  · have hp := hp.resolve_left h0
    refine ⟨?_, fun h => by omega, by simp; have := h.len; omega, fun x hx => ?_, h.fr⟩
    · have := h.eq
      rw [if_neg h0, List.drop_eq_getElem_cons hk, groupF, ← hp] at this
      simpa using this
    · rcases List.mem_append.1 hx with hx | hx
      · exact h.fg x hx
      · simp at hx; subst hx; exact hl _ (List.getElem_mem _)
theorem GI.done {l g r : List Patch} {k : Nat} (h : GI l k g r) (hk : ¬ k < l.length) : group l = (g, r) := by
  by_cases h0 : k = 0
  · subst h0
    have : l = [] := List.eq_nil_of_length_eq_zero (by omega)
    obtain ⟨rfl, rfl⟩ := h.zero rfl
    rw [this]; rfl
  · have := h.eq
    rw [if_neg h0, List.drop_eq_nil_of_le (by omega), groupF] at this
    exact this
end Go.Proofs.YtogcgfdfabnjhaaGreatDoor.X

end
section
set_option linter.unusedVariables false
namespace Go.Proofs.YtogcgfdfabnjhaaGreatDoor.X
open Go Go.RowKit Go.Proofs Go.Sx
/-! Swapped again, both rows are as they were: a grid read by columns. -/
theorem grid_nil {l f s : List Prim} (h : Grid l [] f s) : f = [] ∧ s = l := by
  generalize hm : ([] : List Prim) = m at h
  induction h with
  | nil => subst hm; exact ⟨rfl, rfl⟩
  | @row l p m n q f s hp hg ih =>
    subst hm
    obtain ⟨rfl, rfl⟩ := pas_nil.1 hp
    obtain ⟨rfl, rfl⟩ := ih rfl
    exact ⟨rfl, rfl⟩
theorem grid_col {l M F s : List Prim} (h : Grid l M F s) : ∀ {m : List Prim} {q : Prim}, M = m ++ [q] → ∃ f x t, F = f ++ [x] ∧ Grid l m f t ∧ Pas x s t q := by
  induction h with
  | @nil M =>
    intro m q hM
    subst hM
    exact ⟨m, q, [], rfl, .nil, pas_nil.2 ⟨rfl, rfl⟩⟩
  | @row l p M N z F s hp hg ih =>
    intro m q hM
    subst hM
    obtain ⟨n, N2, b, h1, h2, rfl⟩ := pas_app.1 hp
    obtain ⟨q', b', f', h3, h4, rfl⟩ := pas_cons.1 h2
    obtain ⟨rfl, rfl⟩ := pas_nil.1 h4
    obtain ⟨f, x, t, rfl, h5, h6⟩ := ih rfl
    exact ⟨f, x, t ++ [b], rfl, .row h1 h5, pas_app.2 ⟨t, [b], q', h6, pas_cons.2 ⟨b, q, [], swap_back h3, pas_nil.2 ⟨rfl, rfl⟩, rfl⟩, rfl⟩⟩
theorem grid_turn : ∀ (n : Nat) {l m f s : List Prim}, m.length = n → Grid l m f s → Grid f s l m
  | 0, l, m, f, s, hn, h => by
    have : m = [] := List.eq_nil_of_length_eq_zero hn
    subst this
    obtain ⟨rfl, rfl⟩ := grid_nil h
    exact .nil
  | n + 1, l, M, F, s, hn, h => by
    obtain ⟨m, q, rfl⟩ : ∃ m q, M = m ++ [q] := ⟨M.dropLast, M.getLast (by intro e; rw [e] at hn; simp at hn), (List.dropLast_concat_getLast _).symm⟩
    obtain ⟨f, x, t, rfl, h1, h2⟩ := grid_col h rfl
    exact .row h2 (grid_turn n (by simpa using hn) h1)
theorem swapR_grid : ∀ (r : List Prim) {m f S second : List Prim}, swapR r m second = some (f, S) ↔ ∃ s, Grid r.reverse m f s ∧ S = s ++ second
  | [], m, f, S, second => by
    simp only [swapR, Option.some.injEq, Prod.mk.injEq, List.reverse_nil]
    constructor
    · rintro ⟨rfl, rfl⟩; exact ⟨[], .nil, rfl⟩
    · rintro ⟨s, h, rfl⟩
      generalize hl : ([] : List Prim) = l at h
      cases h with
      | nil => exact ⟨rfl, rfl⟩
      | @row l' p m n q f s hp hg => simp at hl
  | p :: r, m, f, S, second => by
    rw [swapR, Option.bind_eq_some_iff]
    constructor
    · rintro ⟨⟨n, q⟩, h1, h2⟩
      obtain ⟨s, h3, rfl⟩ := (swapR_grid r).1 h2
      refine ⟨s ++ [q], ?_, by simp⟩
      rw [List.reverse_cons]
      exact .row h1 h3
    · rintro ⟨s, h, rfl⟩
      rw [List.reverse_cons] at h
      generalize hl : r.reverse ++ [p] = l at h
      cases h with
      | nil => simp at hl
      | @row l' p' m n q f s' hp hg =>
        obtain ⟨rfl, h5⟩ := List.append_inj' hl rfl
        obtain rfl : p = p' := by simpa using h5
        exact ⟨(n, q), hp, (swapR_grid r).2 ⟨s', hg, by simp⟩⟩
theorem swapL_grid {l m f s : List Prim} : swapL l m = some (f, s) ↔ Grid l m f s := by
  unfold swapL
  rw [swapR_grid]
  simp only [List.reverse_reverse, List.append_nil]
  constructor
  · rintro ⟨s', h, rfl⟩; exact h
  · intro h; exact ⟨s, h, rfl⟩
theorem swT_true {l m f s : List Prim} : (f, s, true) = swT l m ↔ swapL l m = some (f, s) := by
  unfold swT
  cases h : swapL l m with
  | none => simp
  | some r => obtain ⟨r1, r2⟩ := r; simp [eq_comm]
theorem swT_back {l m f s : List Prim} (h : (f, s, true) = swT l m) : (l, m, true) = swT f s :=
  swT_true.2 (swapL_grid.2 (grid_turn _ rfl (swapL_grid.1 (swT_true.1 h))))
/-- who has passed, or been passed, is right -/
theorem pas_right : ∀ {m : List Prim} {p q : Prim} {f : List Prim}, Pas p m f q → p.right = true → q.right = true ∧ f.all Prim.right = true
  | [], p, q, f, h, hp => by
    obtain ⟨rfl, rfl⟩ := pas_nil.1 h
    exact ⟨hp, rfl⟩
  | x :: m, p, q, f, h, hp => by
    obtain ⟨a, b, f', h1, h2, rfl⟩ := pas_cons.1 h
    obtain ⟨_, _, _, h3, h4⟩ := swap_true h1
    obtain ⟨h5, h6⟩ := pas_right h2 h4
    exact ⟨h5, by simp [h3, h6]⟩
theorem grid_right {l m f s : List Prim} (h : Grid l m f s) : l.all Prim.right = true → m.all Prim.right = true → f.all Prim.right = true ∧ s.all Prim.right = true := by
  induction h with
  | nil => exact fun _ h => ⟨h, rfl⟩
  | @row l p m n q f s hp hg ih =>
    intro hl hm
    rw [List.all_append, Bool.and_eq_true] at hl
    have hp1 : p.right = true := by simpa using hl.2
    obtain ⟨h1, h2⟩ := pas_right hp hp1
    obtain ⟨h3, h4⟩ := ih hl.1 h2
    exact ⟨h3, by rw [List.all_append, h4]; simp [h1]⟩
theorem grid_len {l m f s : List Prim} (h : Grid l m f s) : f.length = m.length ∧ s.length = l.length := by
  induction h with
  | nil => exact ⟨rfl, rfl⟩
  | @row l p m n q f s hp hg ih =>
    have hpl : ∀ {m : List Prim} {p q : Prim} {f : List Prim}, Pas p m f q → f.length = m.length := by
      intro m
      induction m with
      | nil => intro p q f h; obtain ⟨rfl, _⟩ := pas_nil.1 h; rfl
      | cons x m ih2 =>
        intro p q f h
        obtain ⟨a, b, f', h1, h2, rfl⟩ := pas_cons.1 h
        simp [ih2 h2]
    exact ⟨ih.1.trans (hpl hp), by simp [ih.2]⟩
theorem right_parts {p : Patch} (h : p.right = true) : (1 ≤ p.l.length ∧ p.l.length ≤ 24) ∧ p.l.all Prim.right = true := by
  unfold Patch.right at h
  simp only [Bool.and_eq_true, decide_eq_true_eq] at h
  exact ⟨⟨h.1.1.2, h.1.2⟩, h.2⟩
theorem right_with {p : Patch} {l : List Prim} (h : p.right = true) (hl : l.length = p.l.length) (hr : l.all Prim.right = true) : ({ p with l := l } : Patch).right = true := by
  unfold Patch.right at h ⊢
  simp only [Bool.and_eq_true, decide_eq_true_eq] at h ⊢
  refine ⟨⟨⟨h.1.1.1, ?_⟩, ?_⟩, hr⟩
  · rw [hl]; exact h.1.1.2
  · rw [hl]; exact h.1.2
theorem pswap_true {p q a b : Patch} (h : (a, b, true) = pswap p q) : ∃ f s, pmay p q = true ∧ (f, s, true) = swT p.l q.l ∧ a = { q with l := f } ∧ b = { p with l := s } := by
  unfold pswap at h
  split at h
  · rename_i hc
    simp only [Bool.and_eq_true] at hc
    simp only [Prod.mk.injEq, and_true] at h
    exact ⟨_, _, hc.1, by rw [← hc.2], h.1, h.2⟩
  · simp at h
theorem pswap_back {p q a b : Patch} (h : (a, b, true) = pswap p q) : (p, q, true) = pswap a b := by
  obtain ⟨f, s, hm, hs, rfl, rfl⟩ := pswap_true h
  have hg := swapL_grid.1 (swT_true.1 hs)
  have hl := grid_len hg
  unfold pmay at hm
  simp only [Bool.and_eq_true, Bool.not_eq_true'] at hm
  obtain ⟨⟨⟨⟨e1, e2⟩, e3⟩, e4⟩, e5⟩ := hm
  have hr := grid_right hg (right_parts e1).2 (right_parts e2).2
  have hb := swT_back hs
  unfold pswap
  have hmay : pmay { q with l := f } { p with l := s } = true := by
    unfold pmay
    rw [right_with e2 hl.1 hr.1, right_with e1 hl.2 hr.2]
    dsimp only
    rw [e4, e5, show decide (q.id = p.id) = false by rw [← e3]; exact decide_eq_decide.2 eq_comm]
    rfl
  rw [hmay]
  dsimp only
  rw [← hb]
  rfl
end Go.Proofs.YtogcgfdfabnjhaaGreatDoor.X

end
