/- OWN WORK: a part of the proof of a law of the seat YtaojmjfgopbgcaaDoor: the walk through functions of the program. -/
import Derived.Test.YtaojmjfgopbgcaaDoorProg
import Derived.Test.YtaojmjfgopbgcaaDoorXA5
set_option linter.unusedVariables false
set_option linter.unusedSimpArgs false
namespace Go.Proofs.YtaojmjfgopbgcaaDoor.X
open Go Go.RowKit Go.Proofs Go.Sx
attribute [local irreducible] slA isA box row

theorem zero_fit : Prim.zero.fit := ⟨by decide, by decide, by decide, by decide, (fun s h => by cases h), (fun s h => by cases h)⟩
theorem swap_fit {p q : Prim} (hp : p.fit) (hq : q.fit) : (swap p q).1.fit ∧ (swap p q).2.1.fit := by
  unfold swap
  split
  · exact swapped_fit hp hq
  · exact ⟨zero_fit, zero_fit⟩

theorem sb27 : SB Tryd.prog 27 [(0, 1), (1, 1), (2, 1), (3, 1), (4, 1), (5, 1)] [.int .i64 0, .string ⟨#[]⟩, .string ⟨#[]⟩, .int .i64 0, .slice none 0 0, .slice none 0 0] := SB.struct Tryd.zeroValue27 rfl Tryd.underlying27 (fun w => by kernel_rfl)
theorem sb49 : SB Tryd.prog 49 [(0, 1), (1, 1)] [.int .i64 0, .int .i64 0] := SB.array Tryd.zeroValue49 rfl Tryd.underlying49 Tryd.sizeOf3 (fun i x h => by rcases i with _ | _ |  i <;> simp_all)
theorem c_swapped (p q : Prim) (yp yq : Rp.Lay Prim) (hp : p.fit) (hq : q.fit) (hpr : p.right = true) (hqr : q.right = true) : Con Tryd.prog 22 [sv p yp, sv q yq] [] (Rp.asn p yp ++ Rp.asn q yq) (Two (swapped p q)) (fun x => x.v) (fun _ => []) (fun x => x.g) := by
  refine con Tryd.func22 rfl Tryd.ntmps22 rfl ?_
  intro M0 F0 w0
  refine cs ?_
  refine cr ?_
  refine ls (o_box rfl rfl rfl) ?_
  refine le ?_; intro b2
  refine ls (o_box rfl rfl rfl) ?_
  refine le ?_; intro b3
  refine ls (o_alloc Tryd.zeroValue27 rfl rfl) ?_
  refine le ?_; intro b4
  refine ls (o_alloc Tryd.zeroValue27 rfl rfl) ?_
  refine le ?_; intro b5
  refine ls (op (p_asg rfl) rfl) ?_
  refine ln ?_
  refine nthen ?_
  refine cs ?_
  refine cr ?_
  refine ls (op (p_fa fa27_0 rfl) rfl) ?_
  refine ls (o_ld Tryd.isAgg3 rfl (by repeat (first | exact At.z | apply At.s)) (by repeat (first | exact At.z | apply At.s)) rfl) ?_
  refine ls (op (p_fa fa27_0 rfl) rfl) ?_
  refine ls (o_ld Tryd.isAgg3 rfl (by repeat (first | exact At.z | apply At.s)) (by repeat (first | exact At.z | apply At.s)) rfl) ?_
  refine ls (op (p_bld sb49 rfl (Fill.t (by repeat (first | exact At.z | apply At.s)) rfl rfl (by repeat (first | exact Put.d | apply Put.t | apply Put.s)) (Fill.t (by repeat (first | exact At.z | apply At.s)) rfl rfl (by repeat (first | exact Put.d | apply Put.t | apply Put.s)) Fill.d))) rfl) ?_
  refine ls (o_alloc Tryd.zeroValue49 rfl rfl) ?_
  refine le ?_; intro b7
  refine ls (o_st rfl Tryd.sizeOf49 rfl rfl rfl rfl rfl (by repeat (first | exact At.z | apply At.s)) (by repeat (first | exact Put.d | apply Put.t | apply Put.s)) (by repeat (first | exact SetAt.z | apply SetAt.s))) ?_
  refine ln ?_
  refine nthen ?_
  refine cs ?_
  refine cb ?_
  refine cs ?_
  refine cr ?_
  refine ls (o_ldw Tryd.isAgg49 Tryd.sizeOf49 rfl (by repeat (first | exact At.z | apply At.s)) (by rfl) rfl) ?_
  refine ls (op (p_bld sb49 rfl (Fill.t (by repeat (first | exact At.z | apply At.s)) rfl rfl (by repeat (first | exact Put.d | apply Put.t | apply Put.s)) (Fill.t (by repeat (first | exact At.z | apply At.s)) rfl rfl (by repeat (first | exact Put.d | apply Put.t | apply Put.s)) Fill.d))) rfl) ?_
  refine ls (op (p_aeq2 Tryd.underlying49 Tryd.underlying3 (by kernel_rfl) (by kernel_rfl) Tryd.isAgg3 (by kernel_rfl) rfl rfl) rfl) ?_
  refine ls (op (p_asg rfl) rfl) ?_
  refine ln ?_
  refine nthen ?_
  refine cc rfl ?_ ?_
  · intro h13
    have h13' := h13; simp only [Bool.and_eq_true, decide_eq_true_eq] at h13'
    refine cs ?_
    refine cs ?_
    refine cr ?_
    refine ls (op (p_fa fa27_1 rfl) rfl) ?_
    refine ls (o_ld Tryd.isAgg9 rfl (by repeat (first | exact At.z | apply At.s)) (by repeat (first | exact At.z | apply At.s)) rfl) ?_
    refine ls (op (p_fa fa27_1 rfl) rfl) ?_
    refine ls (o_ld Tryd.isAgg9 rfl (by repeat (first | exact At.z | apply At.s)) (by repeat (first | exact At.z | apply At.s)) rfl) ?_
    refine ls (op (p_seq rfl rfl) rfl) ?_
    refine ln ?_
    refine nthen ?_
    refine cc rfl ?_ ?_
    · intro h21
      try simp only [decide_eq_true_eq, decide_eq_false_iff_not, Bool.not_eq_true', Bool.not_eq_false', Int.not_lt, Int.not_le, ge_iff_le, Bool.not_true, Bool.not_false] at h21
      refine cs ?_
      refine cr ?_
      refine ls (o_ldw Tryd.isAgg27 Tryd.sizeOf27 rfl (by repeat (first | exact At.z | apply At.s)) (by rfl) rfl) ?_
      refine ls (o_ldw Tryd.isAgg27 Tryd.sizeOf27 rfl (by repeat (first | exact At.z | apply At.s)) (by rfl) rfl) ?_
      refine ls (o_call (is := []) Tryd.call30 (c_hunks p q yp yq hp hq (right_pos hpr) (right_pos hqr)) rfl rfl (by repeat (first | exact Sub.d | (refine Sub.s ?_ ?_; (repeat (first | exact In.z | apply In.s))) | (refine Sub.suf ?_; (repeat (first | exact Suf.z | apply Suf.s))))) rfl) ?_
      refine le ?_; rintro ⟨⟨⟨r1, r2, r3⟩, z1, z2⟩, hr⟩
      refine ls (op (p_ext rfl (by repeat (first | exact At.z | apply At.s))) rfl) ?_
      refine ls (op (p_ext rfl (by repeat (first | exact At.z | apply At.s))) rfl) ?_
      refine ls (op (p_ext rfl (by repeat (first | exact At.z | apply At.s))) rfl) ?_
      refine ls (o_st rfl Tryd.sizeOf27 rfl rfl rfl rfl rfl (by repeat (first | exact At.z | apply At.s)) (by repeat (first | exact Put.d | apply Put.t | apply Put.s)) (by repeat (first | exact SetAt.z | apply SetAt.s))) ?_
      refine ls (o_st rfl Tryd.sizeOf27 rfl rfl rfl rfl rfl (by repeat (first | exact At.z | apply At.s)) (by repeat (first | exact Put.d | apply Put.t | apply Put.s)) (by repeat (first | exact SetAt.z | apply SetAt.s))) ?_
      refine ls (op (p_asg rfl) rfl) ?_
      refine ln ?_
      refine nthen ?_
      refine cret ?_
      refine xret (fun _ _ h => h) ?_
      refine rret (is := []) ⟨((r1, r2, r3), (z1, z2)), by rw [swapped, if_pos h13', if_pos h21]; exact hr⟩ (Or.inl rfl) (Res.c rfl Tryd.isAgg27 Tryd.sizeOf27 (by repeat (first | exact At.z | apply At.s)) (by rfl) (Res.c rfl Tryd.isAgg27 Tryd.sizeOf27 (by repeat (first | exact At.z | apply At.s)) (by rfl) (Res.t rfl Res.d))) (rfl) rfl (by repeat (first | exact Sub.d | (refine Sub.s ?_ ?_; (repeat (first | exact In.z | apply In.s))) | (refine Sub.suf ?_; (repeat (first | exact Suf.z | apply Suf.s)))))
    · intro h21
      try simp only [decide_eq_true_eq, decide_eq_false_iff_not, Bool.not_eq_true', Bool.not_eq_false', Int.not_lt, Int.not_le, ge_iff_le, Bool.not_true, Bool.not_false] at h21
      refine cskip ?_
      refine nthen ?_
      refine cs ?_
      refine cd [2, 3] [(0, b3, 0, _), (1, b2, 0, _)] TrydX.mixed (TOk.t (isBoxS (by repeat (first | exact At.z | apply At.s)) (k := 6) (by repeat (first | exact Cut.d | apply Cut.t | apply Cut.s))) (TOk.t (isBoxS (by repeat (first | exact At.z | apply At.s)) (k := 6) (by repeat (first | exact Cut.d | apply Cut.t | apply Cut.s))) TOk.d)) ?_
      refine tk 0 rfl (by kernel_rfl) (fun _ _ _ h => h) gnone (TTat (List.Mem.head _)) (p_lda Tryd.isAgg27 Tryd.sizeOf27 rfl rfl) rfl ?_
      refine tk 1 rfl (by kernel_rfl) (fun _ _ _ h => h) gnone (TTat (List.Mem.tail _ (List.Mem.head _))) (p_lda Tryd.isAgg27 Tryd.sizeOf27 rfl rfl) rfl ?_
      refine df 2 (by kernel_rfl) ?_
      refine doR rfl (o_st rfl Tryd.sizeOf27 rfl rfl rfl rfl rfl (by repeat (first | exact At.z | apply At.s)) (by repeat (first | exact Put.d | apply Put.t | apply Put.s)) (by repeat (first | exact SetAt.z | apply SetAt.s))) (TOk.x (by kernel_rfl) (TOk.t (isBoxS (by repeat (first | exact At.z | apply At.s)) (k := 6) (by repeat (first | exact Cut.d | apply Cut.t | apply Cut.s))) TOk.d)) ?_
      refine df 3 (by kernel_rfl) ?_
      refine doR rfl (o_st rfl Tryd.sizeOf27 rfl rfl rfl rfl rfl (by repeat (first | exact At.z | apply At.s)) (by repeat (first | exact Put.d | apply Put.t | apply Put.s)) (by repeat (first | exact SetAt.z | apply SetAt.s))) (TOk.x (by kernel_rfl) (TOk.x (by kernel_rfl) TOk.d)) ?_
      refine tk 4 rfl (by kernel_rfl) (fun _ _ _ h => h) gnone (TTany _) (p_asg rfl) rfl ?_
      refine dn (by kernel_rfl) ?_
      refine nthen ?_
      refine cret ?_
      refine xret (fun _ _ h => h) ?_
      refine rret (is := []) ⟨((q, p, true), (yq, yp)), by rw [swapped, if_pos h13', if_neg h21]⟩ (Or.inl rfl) (Res.c rfl Tryd.isAgg27 Tryd.sizeOf27 (by repeat (first | exact At.z | apply At.s)) (by rfl) (Res.c rfl Tryd.isAgg27 Tryd.sizeOf27 (by repeat (first | exact At.z | apply At.s)) (by rfl) (Res.t rfl Res.d))) (rfl) rfl (by repeat (first | exact Sub.d | (refine Sub.s ?_ ?_; (repeat (first | exact In.z | apply In.s))) | (refine Sub.suf ?_; (repeat (first | exact Suf.z | apply Suf.s)))))
  · intro h13
    have h13' : ¬ (p.kind = 0 ∧ q.kind = 0) := by intro e; rw [e.1, e.2] at h13; exact absurd h13 (by decide)
    refine cs ?_
    refine cr ?_
    refine ls (o_ldw Tryd.isAgg49 Tryd.sizeOf49 rfl (by repeat (first | exact At.z | apply At.s)) (by rfl) rfl) ?_
    refine ls (op (p_bld sb49 rfl (Fill.t (by repeat (first | exact At.z | apply At.s)) rfl rfl (by repeat (first | exact Put.d | apply Put.t | apply Put.s)) (Fill.t (by repeat (first | exact At.z | apply At.s)) rfl rfl (by repeat (first | exact Put.d | apply Put.t | apply Put.s)) Fill.d))) rfl) ?_
    refine ls (op (p_aeq2 Tryd.underlying49 Tryd.underlying3 (by kernel_rfl) (by kernel_rfl) Tryd.isAgg3 (by kernel_rfl) rfl rfl) rfl) ?_
    refine ls (op (p_asg rfl) rfl) ?_
    refine ln ?_
    refine nthen ?_
    refine cc rfl ?_ ?_
    · intro h30
      have h30' := h30; simp only [Bool.and_eq_true, decide_eq_true_eq] at h30'
      refine cs ?_
      refine cs ?_
      refine cr ?_
      refine ls (op (p_fa fa27_1 rfl) rfl) ?_
      refine ls (o_ld Tryd.isAgg9 rfl (by repeat (first | exact At.z | apply At.s)) (by repeat (first | exact At.z | apply At.s)) rfl) ?_
      refine ls (op (p_fa fa27_1 rfl) rfl) ?_
      refine ls (o_ld Tryd.isAgg9 rfl (by repeat (first | exact At.z | apply At.s)) (by repeat (first | exact At.z | apply At.s)) rfl) ?_
      refine ls (op (p_seq rfl rfl) rfl) ?_
      refine ln ?_
      refine nthen ?_
      refine cc rfl ?_ ?_
      · intro h38
        try simp only [decide_eq_true_eq, decide_eq_false_iff_not, Bool.not_eq_true', Bool.not_eq_false', Int.not_lt, Int.not_le, ge_iff_le, Bool.not_true, Bool.not_false] at h38
        refine cs ?_
        refine cr ?_
        refine ls (op (p_fa fa27_2 rfl) rfl) ?_
        refine ls (o_ld Tryd.isAgg9 rfl (by repeat (first | exact At.z | apply At.s)) (by repeat (first | exact At.z | apply At.s)) rfl) ?_
        refine ls (op (p_fa fa27_1 rfl) rfl) ?_
        refine ls (o_st rfl Tryd.sizeOf9 rfl rfl rfl rfl rfl (by repeat (first | exact At.z | apply At.s)) (by repeat (first | exact Put.d | apply Put.t | apply Put.s)) (by repeat (first | exact SetAt.z | apply SetAt.s))) ?_
        refine ln ?_
        refine nthen ?_
        refine cs ?_
        refine cd [2, 3] [(0, b3, 0, _), (1, b2, 0, _)] TrydX.mixed (TOk.t (isBoxS (by repeat (first | exact At.z | apply At.s)) (k := 6) (by repeat (first | exact Cut.d | apply Cut.t | apply Cut.s))) (TOk.t (isBoxS (by repeat (first | exact At.z | apply At.s)) (k := 6) (by repeat (first | exact Cut.d | apply Cut.t | apply Cut.s))) TOk.d)) ?_
        refine tk 0 rfl (by kernel_rfl) (fun _ _ _ h => h) gnone (TTat (List.Mem.head _)) (p_lda Tryd.isAgg27 Tryd.sizeOf27 rfl rfl) rfl ?_
        refine tk 1 rfl (by kernel_rfl) (fun _ _ _ h => h) gnone (TTat (List.Mem.tail _ (List.Mem.head _))) (p_lda Tryd.isAgg27 Tryd.sizeOf27 rfl rfl) rfl ?_
        refine df 2 (by kernel_rfl) ?_
        refine doR rfl (o_st rfl Tryd.sizeOf27 rfl rfl rfl rfl rfl (by repeat (first | exact At.z | apply At.s)) (by repeat (first | exact Put.d | apply Put.t | apply Put.s)) (by repeat (first | exact SetAt.z | apply SetAt.s))) (TOk.x (by kernel_rfl) (TOk.t (isBoxS (by repeat (first | exact At.z | apply At.s)) (k := 6) (by repeat (first | exact Cut.d | apply Cut.t | apply Cut.s))) TOk.d)) ?_
        refine df 3 (by kernel_rfl) ?_
        refine doR rfl (o_st rfl Tryd.sizeOf27 rfl rfl rfl rfl rfl (by repeat (first | exact At.z | apply At.s)) (by repeat (first | exact Put.d | apply Put.t | apply Put.s)) (by repeat (first | exact SetAt.z | apply SetAt.s))) (TOk.x (by kernel_rfl) (TOk.x (by kernel_rfl) TOk.d)) ?_
        refine tk 4 rfl (by kernel_rfl) (fun _ _ _ h => h) gnone (TTany _) (p_asg rfl) rfl ?_
        refine dn (by kernel_rfl) ?_
        refine nthen ?_
        refine cret ?_
        refine xret (fun _ _ h => h) ?_
        refine rret (is := []) ⟨((q, { p with name := q.to }, true), (yq, yp)), by rw [swapped, if_neg h13', if_pos h30', if_pos h38]⟩ (Or.inl rfl) (Res.c rfl Tryd.isAgg27 Tryd.sizeOf27 (by repeat (first | exact At.z | apply At.s)) (by rfl) (Res.c rfl Tryd.isAgg27 Tryd.sizeOf27 (by repeat (first | exact At.z | apply At.s)) (by rfl) (Res.t rfl Res.d))) (rfl) rfl (by repeat (first | exact Sub.d | (refine Sub.s ?_ ?_; (repeat (first | exact In.z | apply In.s))) | (refine Sub.suf ?_; (repeat (first | exact Suf.z | apply Suf.s)))))
      · intro h38
        try simp only [decide_eq_true_eq, decide_eq_false_iff_not, Bool.not_eq_true', Bool.not_eq_false', Int.not_lt, Int.not_le, ge_iff_le, Bool.not_true, Bool.not_false] at h38
        refine cskip ?_
        refine nthen ?_
        refine cs ?_
        refine cd [7, 8] [(0, b3, 0, _), (1, b2, 0, _), (3, b2, 1, _), (5, b3, 2, _)] TrydX.mixed (TOk.t (isBoxS (by repeat (first | exact At.z | apply At.s)) (k := 6) (by repeat (first | exact Cut.d | apply Cut.t | apply Cut.s))) (TOk.t (isBoxS (by repeat (first | exact At.z | apply At.s)) (k := 6) (by repeat (first | exact Cut.d | apply Cut.t | apply Cut.s))) (TOk.t (isBoxS (by repeat (first | exact At.z | apply At.s)) (k := 1) (by repeat (first | exact Cut.d | apply Cut.t | apply Cut.s))) (TOk.t (isBoxS (by repeat (first | exact At.z | apply At.s)) (k := 1) (by repeat (first | exact Cut.d | apply Cut.t | apply Cut.s))) TOk.d)))) ?_
        refine tk 0 rfl (by kernel_rfl) (fun _ _ _ h => h) gnone (TTat (List.Mem.head _)) (p_lda Tryd.isAgg27 Tryd.sizeOf27 rfl rfl) rfl ?_
        refine tk 1 rfl (by kernel_rfl) (fun _ _ _ h => h) gnone (TTat (List.Mem.tail _ (List.Mem.head _))) (p_lda Tryd.isAgg27 Tryd.sizeOf27 rfl rfl) rfl ?_
        refine tk 2 rfl (by kernel_rfl) (fun _ _ _ h => h) gnone (TTany _) (p_fa fa27_1 rfl) rfl ?_
        refine tk 3 rfl (by kernel_rfl) (fun _ _ _ h => h) gnone (TTat (List.Mem.tail _ (List.Mem.tail _ (List.Mem.head _)))) (p_ld Tryd.isAgg9 rfl) rfl ?_
        refine tk 4 rfl (by kernel_rfl) (fun _ _ _ h => h) gnone (TTany _) (p_fa fa27_2 rfl) rfl ?_
        refine tk 5 rfl (by kernel_rfl) (fun _ _ _ h => h) gnone (TTat (List.Mem.tail _ (List.Mem.tail _ (List.Mem.tail _ (List.Mem.head _))))) (p_ld Tryd.isAgg9 rfl) rfl ?_
        refine tk 6 rfl (by kernel_rfl) (fun _ _ _ h => h) gnone (TTany _) (p_sne rfl rfl) rfl ?_
        refine df 7 (by kernel_rfl) ?_
        refine doR rfl (o_st rfl Tryd.sizeOf27 rfl rfl rfl rfl rfl (by repeat (first | exact At.z | apply At.s)) (by repeat (first | exact Put.d | apply Put.t | apply Put.s)) (by repeat (first | exact SetAt.z | apply SetAt.s))) (TOk.x (by kernel_rfl) (TOk.t (isBoxS (by repeat (first | exact At.z | apply At.s)) (k := 6) (by repeat (first | exact Cut.d | apply Cut.t | apply Cut.s))) (TOk.t (isBoxS (by repeat (first | exact At.z | apply At.s)) (k := 1) (by repeat (first | exact Cut.d | apply Cut.t | apply Cut.s))) (TOk.t (isBoxS (by repeat (first | exact At.z | apply At.s)) (k := 1) (by repeat (first | exact Cut.d | apply Cut.t | apply Cut.s))) TOk.d)))) ?_
        refine df 8 (by kernel_rfl) ?_
        refine doR rfl (o_st rfl Tryd.sizeOf27 rfl rfl rfl rfl rfl (by repeat (first | exact At.z | apply At.s)) (by repeat (first | exact Put.d | apply Put.t | apply Put.s)) (by repeat (first | exact SetAt.z | apply SetAt.s))) (TOk.x (by kernel_rfl) (TOk.x (by kernel_rfl) (TOk.t (isBoxS (by repeat (first | exact At.z | apply At.s)) (k := 1) (by repeat (first | exact Cut.d | apply Cut.t | apply Cut.s))) (TOk.t (isBoxS (by repeat (first | exact At.z | apply At.s)) (k := 1) (by repeat (first | exact Cut.d | apply Cut.t | apply Cut.s))) TOk.d)))) ?_
        refine tk 9 rfl (by kernel_rfl) (fun _ _ _ h => h) gnone (TTany _) (p_asg rfl) rfl ?_
        refine dn (by kernel_rfl) ?_
        refine nthen ?_
        refine cret ?_
        refine xret (fun _ _ h => h) ?_
        refine rret (is := []) ⟨((q, p, !decide (p.name = q.to)), (yq, yp)), by rw [swapped, if_neg h13', if_pos h30', if_neg h38]⟩ (Or.inl rfl) (Res.c rfl Tryd.isAgg27 Tryd.sizeOf27 (by repeat (first | exact At.z | apply At.s)) (by rfl) (Res.c rfl Tryd.isAgg27 Tryd.sizeOf27 (by repeat (first | exact At.z | apply At.s)) (by rfl) (Res.t rfl Res.d))) (rfl) rfl (by repeat (first | exact Sub.d | (refine Sub.s ?_ ?_; (repeat (first | exact In.z | apply In.s))) | (refine Sub.suf ?_; (repeat (first | exact Suf.z | apply Suf.s)))))
    · intro h30
      have h30' : ¬ (p.kind = 0 ∧ q.kind = 3) := by intro e; rw [e.1, e.2] at h30; exact absurd h30 (by decide)
      refine cs ?_
      refine cr ?_
      refine ls (o_ldw Tryd.isAgg49 Tryd.sizeOf49 rfl (by repeat (first | exact At.z | apply At.s)) (by rfl) rfl) ?_
      refine ls (op (p_bld sb49 rfl (Fill.t (by repeat (first | exact At.z | apply At.s)) rfl rfl (by repeat (first | exact Put.d | apply Put.t | apply Put.s)) (Fill.t (by repeat (first | exact At.z | apply At.s)) rfl rfl (by repeat (first | exact Put.d | apply Put.t | apply Put.s)) Fill.d))) rfl) ?_
      refine ls (op (p_aeq2 Tryd.underlying49 Tryd.underlying3 (by kernel_rfl) (by kernel_rfl) Tryd.isAgg3 (by kernel_rfl) rfl rfl) rfl) ?_
      refine ls (op (p_asg rfl) rfl) ?_
      refine ln ?_
      refine nthen ?_
      refine cc rfl ?_ ?_
      · intro h51
        have h51' := h51; simp only [Bool.and_eq_true, decide_eq_true_eq] at h51'
        refine cs ?_
        refine cs ?_
        refine cr ?_
        refine ls (op (p_fa fa27_2 rfl) rfl) ?_
        refine ls (o_ld Tryd.isAgg9 rfl (by repeat (first | exact At.z | apply At.s)) (by repeat (first | exact At.z | apply At.s)) rfl) ?_
        refine ls (op (p_fa fa27_1 rfl) rfl) ?_
        refine ls (o_ld Tryd.isAgg9 rfl (by repeat (first | exact At.z | apply At.s)) (by repeat (first | exact At.z | apply At.s)) rfl) ?_
        refine ls (op (p_seq rfl rfl) rfl) ?_
        refine ln ?_
        refine nthen ?_
        refine cc rfl ?_ ?_
        · intro h59
          try simp only [decide_eq_true_eq, decide_eq_false_iff_not, Bool.not_eq_true', Bool.not_eq_false', Int.not_lt, Int.not_le, ge_iff_le, Bool.not_true, Bool.not_false] at h59
          refine cs ?_
          refine cr ?_
          refine ls (op (p_fa fa27_1 rfl) rfl) ?_
          refine ls (o_ld Tryd.isAgg9 rfl (by repeat (first | exact At.z | apply At.s)) (by repeat (first | exact At.z | apply At.s)) rfl) ?_
          refine ls (op (p_fa fa27_1 rfl) rfl) ?_
          refine ls (o_st rfl Tryd.sizeOf9 rfl rfl rfl rfl rfl (by repeat (first | exact At.z | apply At.s)) (by repeat (first | exact Put.d | apply Put.t | apply Put.s)) (by repeat (first | exact SetAt.z | apply SetAt.s))) ?_
          refine ln ?_
          refine nthen ?_
          refine cs ?_
          refine cd [2, 3] [(0, b3, 0, _), (1, b2, 0, _)] TrydX.mixed (TOk.t (isBoxS (by repeat (first | exact At.z | apply At.s)) (k := 6) (by repeat (first | exact Cut.d | apply Cut.t | apply Cut.s))) (TOk.t (isBoxS (by repeat (first | exact At.z | apply At.s)) (k := 6) (by repeat (first | exact Cut.d | apply Cut.t | apply Cut.s))) TOk.d)) ?_
          refine tk 0 rfl (by kernel_rfl) (fun _ _ _ h => h) gnone (TTat (List.Mem.head _)) (p_lda Tryd.isAgg27 Tryd.sizeOf27 rfl rfl) rfl ?_
          refine tk 1 rfl (by kernel_rfl) (fun _ _ _ h => h) gnone (TTat (List.Mem.tail _ (List.Mem.head _))) (p_lda Tryd.isAgg27 Tryd.sizeOf27 rfl rfl) rfl ?_
          refine df 2 (by kernel_rfl) ?_
          refine doR rfl (o_st rfl Tryd.sizeOf27 rfl rfl rfl rfl rfl (by repeat (first | exact At.z | apply At.s)) (by repeat (first | exact Put.d | apply Put.t | apply Put.s)) (by repeat (first | exact SetAt.z | apply SetAt.s))) (TOk.x (by kernel_rfl) (TOk.t (isBoxS (by repeat (first | exact At.z | apply At.s)) (k := 6) (by repeat (first | exact Cut.d | apply Cut.t | apply Cut.s))) TOk.d)) ?_
          refine df 3 (by kernel_rfl) ?_
          refine doR rfl (o_st rfl Tryd.sizeOf27 rfl rfl rfl rfl rfl (by repeat (first | exact At.z | apply At.s)) (by repeat (first | exact Put.d | apply Put.t | apply Put.s)) (by repeat (first | exact SetAt.z | apply SetAt.s))) (TOk.x (by kernel_rfl) (TOk.x (by kernel_rfl) TOk.d)) ?_
          refine tk 4 rfl (by kernel_rfl) (fun _ _ _ h => h) gnone (TTany _) (p_asg rfl) rfl ?_
          refine dn (by kernel_rfl) ?_
          refine nthen ?_
          refine cret ?_
          refine xret (fun _ _ h => h) ?_
          refine rret (is := []) ⟨(({ q with name := p.name }, p, true), (yq, yp)), by rw [swapped, if_neg h13', if_neg h30', if_pos h51', if_pos h59]⟩ (Or.inl rfl) (Res.c rfl Tryd.isAgg27 Tryd.sizeOf27 (by repeat (first | exact At.z | apply At.s)) (by rfl) (Res.c rfl Tryd.isAgg27 Tryd.sizeOf27 (by repeat (first | exact At.z | apply At.s)) (by rfl) (Res.t rfl Res.d))) (rfl) rfl (by repeat (first | exact Sub.d | (refine Sub.s ?_ ?_; (repeat (first | exact In.z | apply In.s))) | (refine Sub.suf ?_; (repeat (first | exact Suf.z | apply Suf.s)))))
        · intro h59
          try simp only [decide_eq_true_eq, decide_eq_false_iff_not, Bool.not_eq_true', Bool.not_eq_false', Int.not_lt, Int.not_le, ge_iff_le, Bool.not_true, Bool.not_false] at h59
          refine cskip ?_
          refine nthen ?_
          refine cs ?_
          refine cd [7, 8] [(0, b3, 0, _), (1, b2, 0, _), (3, b2, 1, _), (5, b3, 1, _)] TrydX.mixed (TOk.t (isBoxS (by repeat (first | exact At.z | apply At.s)) (k := 6) (by repeat (first | exact Cut.d | apply Cut.t | apply Cut.s))) (TOk.t (isBoxS (by repeat (first | exact At.z | apply At.s)) (k := 6) (by repeat (first | exact Cut.d | apply Cut.t | apply Cut.s))) (TOk.t (isBoxS (by repeat (first | exact At.z | apply At.s)) (k := 1) (by repeat (first | exact Cut.d | apply Cut.t | apply Cut.s))) (TOk.t (isBoxS (by repeat (first | exact At.z | apply At.s)) (k := 1) (by repeat (first | exact Cut.d | apply Cut.t | apply Cut.s))) TOk.d)))) ?_
          refine tk 0 rfl (by kernel_rfl) (fun _ _ _ h => h) gnone (TTat (List.Mem.head _)) (p_lda Tryd.isAgg27 Tryd.sizeOf27 rfl rfl) rfl ?_
          refine tk 1 rfl (by kernel_rfl) (fun _ _ _ h => h) gnone (TTat (List.Mem.tail _ (List.Mem.head _))) (p_lda Tryd.isAgg27 Tryd.sizeOf27 rfl rfl) rfl ?_
          refine tk 2 rfl (by kernel_rfl) (fun _ _ _ h => h) gnone (TTany _) (p_fa fa27_1 rfl) rfl ?_
          refine tk 3 rfl (by kernel_rfl) (fun _ _ _ h => h) gnone (TTat (List.Mem.tail _ (List.Mem.tail _ (List.Mem.head _)))) (p_ld Tryd.isAgg9 rfl) rfl ?_
          refine tk 4 rfl (by kernel_rfl) (fun _ _ _ h => h) gnone (TTany _) (p_fa fa27_1 rfl) rfl ?_
          refine tk 5 rfl (by kernel_rfl) (fun _ _ _ h => h) gnone (TTat (List.Mem.tail _ (List.Mem.tail _ (List.Mem.tail _ (List.Mem.head _))))) (p_ld Tryd.isAgg9 rfl) rfl ?_
          refine tk 6 rfl (by kernel_rfl) (fun _ _ _ h => h) gnone (TTany _) (p_sne rfl rfl) rfl ?_
          refine df 7 (by kernel_rfl) ?_
          refine doR rfl (o_st rfl Tryd.sizeOf27 rfl rfl rfl rfl rfl (by repeat (first | exact At.z | apply At.s)) (by repeat (first | exact Put.d | apply Put.t | apply Put.s)) (by repeat (first | exact SetAt.z | apply SetAt.s))) (TOk.x (by kernel_rfl) (TOk.t (isBoxS (by repeat (first | exact At.z | apply At.s)) (k := 6) (by repeat (first | exact Cut.d | apply Cut.t | apply Cut.s))) (TOk.t (isBoxS (by repeat (first | exact At.z | apply At.s)) (k := 1) (by repeat (first | exact Cut.d | apply Cut.t | apply Cut.s))) (TOk.t (isBoxS (by repeat (first | exact At.z | apply At.s)) (k := 1) (by repeat (first | exact Cut.d | apply Cut.t | apply Cut.s))) TOk.d)))) ?_
          refine df 8 (by kernel_rfl) ?_
          refine doR rfl (o_st rfl Tryd.sizeOf27 rfl rfl rfl rfl rfl (by repeat (first | exact At.z | apply At.s)) (by repeat (first | exact Put.d | apply Put.t | apply Put.s)) (by repeat (first | exact SetAt.z | apply SetAt.s))) (TOk.x (by kernel_rfl) (TOk.x (by kernel_rfl) (TOk.t (isBoxS (by repeat (first | exact At.z | apply At.s)) (k := 1) (by repeat (first | exact Cut.d | apply Cut.t | apply Cut.s))) (TOk.t (isBoxS (by repeat (first | exact At.z | apply At.s)) (k := 1) (by repeat (first | exact Cut.d | apply Cut.t | apply Cut.s))) TOk.d)))) ?_
          refine tk 9 rfl (by kernel_rfl) (fun _ _ _ h => h) gnone (TTany _) (p_asg rfl) rfl ?_
          refine dn (by kernel_rfl) ?_
          refine nthen ?_
          refine cret ?_
          refine xret (fun _ _ h => h) ?_
          refine rret (is := []) ⟨((q, p, !decide (p.name = q.name)), (yq, yp)), by rw [swapped, if_neg h13', if_neg h30', if_pos h51', if_neg h59]⟩ (Or.inl rfl) (Res.c rfl Tryd.isAgg27 Tryd.sizeOf27 (by repeat (first | exact At.z | apply At.s)) (by rfl) (Res.c rfl Tryd.isAgg27 Tryd.sizeOf27 (by repeat (first | exact At.z | apply At.s)) (by rfl) (Res.t rfl Res.d))) (rfl) rfl (by repeat (first | exact Sub.d | (refine Sub.s ?_ ?_; (repeat (first | exact In.z | apply In.s))) | (refine Sub.suf ?_; (repeat (first | exact Suf.z | apply Suf.s)))))
      · intro h51
        have h51' : ¬ (p.kind = 3 ∧ q.kind = 0) := by intro e; rw [e.1, e.2] at h51; exact absurd h51 (by decide)
        refine cskip ?_
        refine nblock ?_
        refine nthen ?_
        refine cs ?_
        refine cd [4, 6, 7] [(0, b3, 0, _), (1, b2, 0, _), (2, b2, 0, _), (3, b3, 0, _)] TrydX.mixed (TOk.t (isBoxS (by repeat (first | exact At.z | apply At.s)) (k := 6) (by repeat (first | exact Cut.d | apply Cut.t | apply Cut.s))) (TOk.t (isBoxS (by repeat (first | exact At.z | apply At.s)) (k := 6) (by repeat (first | exact Cut.d | apply Cut.t | apply Cut.s))) (TOk.t (isBoxS (by repeat (first | exact At.z | apply At.s)) (k := 6) (by repeat (first | exact Cut.d | apply Cut.t | apply Cut.s))) (TOk.t (isBoxS (by repeat (first | exact At.z | apply At.s)) (k := 6) (by repeat (first | exact Cut.d | apply Cut.t | apply Cut.s))) TOk.d)))) ?_
        refine tk 0 rfl (by kernel_rfl) (fun _ _ _ h => h) gnone (TTat (List.Mem.head _)) (p_lda Tryd.isAgg27 Tryd.sizeOf27 rfl rfl) rfl ?_
        refine tk 1 rfl (by kernel_rfl) (fun _ _ _ h => h) gnone (TTat (List.Mem.tail _ (List.Mem.head _))) (p_lda Tryd.isAgg27 Tryd.sizeOf27 rfl rfl) rfl ?_
        refine tk 2 rfl (by kernel_rfl) (fun _ _ _ h => h) gnone (TTat (List.Mem.tail _ (List.Mem.tail _ (List.Mem.head _)))) (p_lda Tryd.isAgg27 Tryd.sizeOf27 rfl rfl) rfl ?_
        refine tk 3 rfl (by kernel_rfl) (fun _ _ _ h => h) gnone (TTat (List.Mem.tail _ (List.Mem.tail _ (List.Mem.tail _ (List.Mem.head _))))) (p_lda Tryd.isAgg27 Tryd.sizeOf27 rfl rfl) rfl ?_
        refine df 4 (by kernel_rfl) ?_
        refine doR rfl (o_call (is := []) Tryd.call31 (c_shares p q yp yq) rfl rfl (by repeat (first | exact Sub.d | (refine Sub.s ?_ ?_; (repeat (first | exact In.z | apply In.s))) | (refine Sub.suf ?_; (repeat (first | exact Suf.z | apply Suf.s))))) rfl) (TOk.t (isBoxE fun _ => isBoxS (by repeat (first | exact At.z | apply At.s)) (k := 6) (by repeat (first | exact Cut.d | apply Cut.t | apply Cut.s))) (TOk.t (isBoxE fun _ => isBoxS (by repeat (first | exact At.z | apply At.s)) (k := 6) (by repeat (first | exact Cut.d | apply Cut.t | apply Cut.s))) (TOk.x (by kernel_rfl) (TOk.x (by kernel_rfl) TOk.d)))) ?_
        refine ea ?_; intro x76
        refine tk 5 rfl (by kernel_rfl) (fun _ _ _ h => h) gnone (TTany _) (p_not rfl) rfl ?_
        refine df 6 (by kernel_rfl) ?_
        refine doR rfl (o_st rfl Tryd.sizeOf27 rfl rfl rfl rfl rfl (by repeat (first | exact At.z | apply At.s)) (by repeat (first | exact Put.d | apply Put.t | apply Put.s)) (by repeat (first | exact SetAt.z | apply SetAt.s))) (TOk.x (by kernel_rfl) (TOk.t (isBoxS (by repeat (first | exact At.z | apply At.s)) (k := 6) (by repeat (first | exact Cut.d | apply Cut.t | apply Cut.s))) (TOk.x (by kernel_rfl) (TOk.x (by kernel_rfl) TOk.d)))) ?_
        refine df 7 (by kernel_rfl) ?_
        refine doR rfl (o_st rfl Tryd.sizeOf27 rfl rfl rfl rfl rfl (by repeat (first | exact At.z | apply At.s)) (by repeat (first | exact Put.d | apply Put.t | apply Put.s)) (by repeat (first | exact SetAt.z | apply SetAt.s))) (TOk.x (by kernel_rfl) (TOk.x (by kernel_rfl) (TOk.x (by kernel_rfl) (TOk.x (by kernel_rfl) TOk.d)))) ?_
        refine tk 8 rfl (by kernel_rfl) (fun _ _ _ h => h) gnone (TTany _) (p_asg rfl) rfl ?_
        refine dn (by kernel_rfl) ?_
        refine nthen ?_
        refine cret ?_
        refine xret (fun _ _ h => h) ?_
        refine rret (is := []) ⟨((q, p, !p.meets q), (yq, yp)), by rw [swapped, if_neg h13', if_neg h30', if_neg h51']⟩ (Or.inl rfl) (Res.c rfl Tryd.isAgg27 Tryd.sizeOf27 (by repeat (first | exact At.z | apply At.s)) (by rfl) (Res.c rfl Tryd.isAgg27 Tryd.sizeOf27 (by repeat (first | exact At.z | apply At.s)) (by rfl) (Res.t rfl Res.d))) (rfl) rfl (by repeat (first | exact Sub.d | (refine Sub.s ?_ ?_; (repeat (first | exact In.z | apply In.s))) | (refine Sub.suf ?_; (repeat (first | exact Suf.z | apply Suf.s)))))

theorem c_Swap (p q : Prim) (yp yq : Rp.Lay Prim) (hp : p.fit) (hq : q.fit) : Con Tryd.prog 11 [sv p yp, sv q yq] [] (Rp.asn p yp ++ Rp.asn q yq) (Two (swap p q)) (fun x => x.v) (fun _ => []) (fun x => x.g) := by
  refine con Tryd.func11 rfl Tryd.ntmps11 rfl ?_
  intro M0 F0 w0
  refine cs ?_
  refine cr ?_
  refine ls (o_box rfl rfl rfl) ?_
  refine le ?_; intro b2
  refine ls (o_box rfl rfl rfl) ?_
  refine le ?_; intro b3
  refine ls (o_alloc Tryd.zeroValue27 rfl rfl) ?_
  refine le ?_; intro b4
  refine ls (o_alloc Tryd.zeroValue27 rfl rfl) ?_
  refine le ?_; intro b5
  refine ls (op (p_asg rfl) rfl) ?_
  refine ln ?_
  refine nthen ?_
  refine cs ?_
  refine cs ?_
  refine cr ?_
  refine ls (o_ldw Tryd.isAgg27 Tryd.sizeOf27 rfl (by repeat (first | exact At.z | apply At.s)) (by rfl) rfl) ?_
  refine ls (o_call (is := []) Tryd.call19 (c_primRight p yp hp) rfl rfl (by repeat (first | exact Sub.d | (refine Sub.s ?_ ?_; (repeat (first | exact In.z | apply In.s))) | (refine Sub.suf ?_; (repeat (first | exact Suf.z | apply Suf.s))))) rfl) ?_
  refine le ?_; intro x8
  refine ls (op (p_move rfl) rfl) ?_
  refine andX 3 9 12 rfl (subσ.cons (t := 0) rfl (subσ.cons (t := 1) rfl (subσ.cons (t := 2) rfl (subσ.cons (t := 3) rfl (subσ.cons (t := 4) rfl (subσ.cons (t := 5) rfl (subσ.cons (t := 6) rfl (subσ.nil _)))))))) ?_ ?_
  · intro h9
    refine lskip rfl rfl rfl rfl rfl ?_
    refine lskip rfl rfl rfl rfl rfl ?_
    refine ls (op (p_pickf rfl rfl) rfl) ?_
    refine ln (nmid (wk0 (by repeat (first | exact subσ.nil _ | refine subσ.cons rfl ?_)) (by repeat (first | exact Sub.d | (refine Sub.s ?_ ?_; (repeat (first | exact In.z | apply In.s))) | (refine Sub.suf ?_; (repeat (first | exact Suf.z | apply Suf.s)))))))
  apply exI
  · intro h9
    refine lwant rfl rfl rfl rfl (o_ldw Tryd.isAgg27 Tryd.sizeOf27 rfl (by repeat (first | exact At.z | apply At.s)) (by rfl) rfl) ?_
    refine lwant rfl rfl rfl rfl (o_call (is := []) Tryd.call19 (c_primRight q yq hq) rfl rfl (by repeat (first | exact Sub.d | (refine Sub.s ?_ ?_; (repeat (first | exact In.z | apply In.s))) | (refine Sub.suf ?_; (repeat (first | exact Suf.z | apply Suf.s))))) rfl) ?_
    refine le ?_; intro x11
    refine ls (op (p_pickt rfl rfl) rfl) ?_
    refine ln (nmid (wk0 (by repeat (first | exact subσ.nil _ | refine subσ.cons rfl ?_)) (by repeat (first | exact Sub.d | (refine Sub.s ?_ ?_; (repeat (first | exact In.z | apply In.s))) | (refine Sub.suf ?_; (repeat (first | exact Suf.z | apply Suf.s)))))))
  ·
    refine ln ?_
    refine nthen ?_
    refine cc rfl ?_ ?_
    · intro h12
      have h12' := h12; simp only [Bool.and_eq_true, decide_eq_true_eq] at h12'
      refine cr ?_
      refine ls (o_ldw Tryd.isAgg27 Tryd.sizeOf27 rfl (by repeat (first | exact At.z | apply At.s)) (by rfl) rfl) ?_
      refine ls (o_ldw Tryd.isAgg27 Tryd.sizeOf27 rfl (by repeat (first | exact At.z | apply At.s)) (by rfl) rfl) ?_
      refine ls (o_call (is := []) Tryd.call22 (c_swapped p q yp yq hp hq h12'.1 h12'.2) rfl rfl (by repeat (first | exact Sub.d | (refine Sub.s ?_ ?_; (repeat (first | exact In.z | apply In.s))) | (refine Sub.suf ?_; (repeat (first | exact Suf.z | apply Suf.s))))) rfl) ?_
      refine le ?_; rintro ⟨⟨⟨r1, r2, r3⟩, z1, z2⟩, hr⟩
      obtain ⟨hf1, hf2⟩ := swapped_fit hp hq; rw [← hr] at hf1 hf2; dsimp only at hr hf1 hf2
      refine ls (op (p_move rfl) rfl) ?_
      refine ls (op (p_ext rfl (by repeat (first | exact At.z | apply At.s))) rfl) ?_
      refine ls (op (p_ext rfl (by repeat (first | exact At.z | apply At.s))) rfl) ?_
      refine ls (op (p_ext rfl (by repeat (first | exact At.z | apply At.s))) rfl) ?_
      refine ls (o_st rfl Tryd.sizeOf27 rfl rfl rfl rfl rfl (by repeat (first | exact At.z | apply At.s)) (by repeat (first | exact Put.d | apply Put.t | apply Put.s)) (by repeat (first | exact SetAt.z | apply SetAt.s))) ?_
      refine ls (o_st rfl Tryd.sizeOf27 rfl rfl rfl rfl rfl (by repeat (first | exact At.z | apply At.s)) (by repeat (first | exact Put.d | apply Put.t | apply Put.s)) (by repeat (first | exact SetAt.z | apply SetAt.s))) ?_
      refine ls (op (p_asg rfl) rfl) ?_
      refine ln ?_
      refine nthen ?_
      refine cs ?_
      refine cs ?_
      refine cr ?_
      refine ls (op (p_move rfl) rfl) ?_
      refine ls (op (p_not rfl) rfl) ?_
      refine ls (op (p_move rfl) rfl) ?_
      refine orX 4 22 26 rfl (subσ.cons (t := 0) rfl (subσ.cons (t := 1) rfl (subσ.cons (t := 2) rfl (subσ.cons (t := 3) rfl (subσ.cons (t := 4) rfl (subσ.cons (t := 5) rfl (subσ.cons (t := 6) rfl (subσ.cons (t := 12) rfl (subσ.cons (t := 14) rfl (subσ.cons (t := 15) rfl (subσ.cons (t := 16) rfl (subσ.cons (t := 13) rfl (subσ.cons (t := 17) rfl (subσ.cons (t := 18) rfl (subσ.cons (t := 19) rfl (subσ.nil _)))))))))))))))) ?_ ?_
      · intro h22
        refine lskip rfl rfl rfl rfl rfl ?_
        refine lskip rfl rfl rfl rfl rfl ?_
        refine lskip rfl rfl rfl rfl rfl ?_
        refine ls (op (p_pickt rfl rfl) rfl) ?_
        refine ln (nmid (wk0 (by repeat (first | exact subσ.nil _ | refine subσ.cons rfl ?_)) (by repeat (first | exact Sub.d | (refine Sub.s ?_ ?_; (repeat (first | exact In.z | apply In.s))) | (refine Sub.suf ?_; (repeat (first | exact Suf.z | apply Suf.s)))))))
      apply exI
      · intro h22
        refine lwant rfl rfl rfl rfl (o_ldw Tryd.isAgg27 Tryd.sizeOf27 rfl (by repeat (first | exact At.z | apply At.s)) (by rfl) rfl) ?_
        refine lwant rfl rfl rfl rfl (o_call (is := []) Tryd.call19 (c_primRight r1 z1 hf1) rfl rfl (by repeat (first | exact Sub.d | (refine Sub.s ?_ ?_; (repeat (first | exact In.z | apply In.s))) | (refine Sub.suf ?_; (repeat (first | exact Suf.z | apply Suf.s))))) rfl) ?_
        refine le ?_; intro x24
        refine lwant rfl rfl rfl rfl (op (p_not rfl) rfl) ?_
        refine ls (op (p_pickf rfl rfl) rfl) ?_
        refine ln (nmid (wk0 (by repeat (first | exact subσ.nil _ | refine subσ.cons rfl ?_)) (by repeat (first | exact Sub.d | (refine Sub.s ?_ ?_; (repeat (first | exact In.z | apply In.s))) | (refine Sub.suf ?_; (repeat (first | exact Suf.z | apply Suf.s)))))))
      ·
        refine ls (op (p_move rfl) rfl) ?_
        refine orX 4 27 31 rfl (subσ.cons (t := 0) rfl (subσ.cons (t := 1) rfl (subσ.cons (t := 2) rfl (subσ.cons (t := 3) rfl (subσ.cons (t := 4) rfl (subσ.cons (t := 5) rfl (subσ.cons (t := 6) rfl (subσ.cons (t := 12) rfl (subσ.cons (t := 14) rfl (subσ.cons (t := 15) rfl (subσ.cons (t := 16) rfl (subσ.cons (t := 13) rfl (subσ.cons (t := 17) rfl (subσ.cons (t := 18) rfl (subσ.cons (t := 19) rfl (subσ.nil _)))))))))))))))) ?_ ?_
        · intro h27
          refine lskip rfl rfl rfl rfl rfl ?_
          refine lskip rfl rfl rfl rfl rfl ?_
          refine lskip rfl rfl rfl rfl rfl ?_
          refine ls (op (p_pickt rfl rfl) rfl) ?_
          refine ln (nmid (wk0 (by repeat (first | exact subσ.nil _ | refine subσ.cons rfl ?_)) (by repeat (first | exact Sub.d | (refine Sub.s ?_ ?_; (repeat (first | exact In.z | apply In.s))) | (refine Sub.suf ?_; (repeat (first | exact Suf.z | apply Suf.s)))))))
        apply exI
        · intro h27
          refine lwant rfl rfl rfl rfl (o_ldw Tryd.isAgg27 Tryd.sizeOf27 rfl (by repeat (first | exact At.z | apply At.s)) (by rfl) rfl) ?_
          refine lwant rfl rfl rfl rfl (o_call (is := []) Tryd.call19 (c_primRight r2 z2 hf2) rfl rfl (by repeat (first | exact Sub.d | (refine Sub.s ?_ ?_; (repeat (first | exact In.z | apply In.s))) | (refine Sub.suf ?_; (repeat (first | exact Suf.z | apply Suf.s))))) rfl) ?_
          refine le ?_; intro x29
          refine lwant rfl rfl rfl rfl (op (p_not rfl) rfl) ?_
          refine ls (op (p_pickf rfl rfl) rfl) ?_
          refine ln (nmid (wk0 (by repeat (first | exact subσ.nil _ | refine subσ.cons rfl ?_)) (by repeat (first | exact Sub.d | (refine Sub.s ?_ ?_; (repeat (first | exact In.z | apply In.s))) | (refine Sub.suf ?_; (repeat (first | exact Suf.z | apply Suf.s)))))))
        ·
          refine ln ?_
          refine nthen ?_
          refine cc rfl ?_ ?_
          · intro h31
            dsimp only at h31
            refine cs ?_
            refine cmono (fun a w h => nilSl (α := ByteArray) h) ?_
            refine cr ?_
            refine ls (op (p_bld sb27 rfl Fill.d) rfl) ?_
            refine ls (op (p_bld sb27 rfl Fill.d) rfl) ?_
            refine ls (o_st rfl Tryd.sizeOf27 rfl rfl rfl rfl rfl (by repeat (first | exact At.z | apply At.s)) (by repeat (first | exact Put.d | apply Put.t | apply Put.s)) (by repeat (first | exact SetAt.z | apply SetAt.s))) ?_
            refine ls (o_st rfl Tryd.sizeOf27 rfl rfl rfl rfl rfl (by repeat (first | exact At.z | apply At.s)) (by repeat (first | exact Put.d | apply Put.t | apply Put.s)) (by repeat (first | exact SetAt.z | apply SetAt.s))) ?_
            refine ls (op (p_asg rfl) rfl) ?_
            refine ln ?_
            refine nthen ?_
            refine cret ?_
            refine xret (fun _ _ h => h) ?_
            refine rret (is := []) ⟨((Prim.zero, Prim.zero, false), (((none, 0), (none, 0)), ((none, 0), (none, 0)))), by rw [swap, ← hr]; cases r3 <;> cases e1 : r1.right <;> cases e2 : r2.right <;> simp_all⟩ (Or.inl rfl) (Res.c rfl Tryd.isAgg27 Tryd.sizeOf27 (by repeat (first | exact At.z | apply At.s)) (by rfl) (Res.c rfl Tryd.isAgg27 Tryd.sizeOf27 (by repeat (first | exact At.z | apply At.s)) (by rfl) (Res.t rfl Res.d))) (rfl) rfl (by repeat (first | exact Sub.d | (refine Sub.s ?_ ?_; (repeat (first | exact In.z | apply In.s))) | (refine Sub.suf ?_; (repeat (first | exact Suf.z | apply Suf.s)))))
          · intro h31
            dsimp only at h31
            refine cskip ?_
            refine nthen ?_
            refine cs ?_
            refine cd [1, 3, 4, 5] [(0, b4, 0, _), (2, b5, 0, _)] TrydX.mixed (TOk.t (isBoxS (by repeat (first | exact At.z | apply At.s)) (k := 6) (by repeat (first | exact Cut.d | apply Cut.t | apply Cut.s))) (TOk.t (isBoxS (by repeat (first | exact At.z | apply At.s)) (k := 6) (by repeat (first | exact Cut.d | apply Cut.t | apply Cut.s))) TOk.d)) ?_
            refine tk 0 rfl (by kernel_rfl) (fun _ _ _ h => h) gnone (TTat (List.Mem.head _)) (p_lda Tryd.isAgg27 Tryd.sizeOf27 rfl rfl) rfl ?_
            refine tk 2 rfl (by kernel_rfl) (fun _ _ _ h => h) gnone (TTat (List.Mem.tail _ (List.Mem.head _))) (p_lda Tryd.isAgg27 Tryd.sizeOf27 rfl rfl) rfl ?_
            refine df 1 (by kernel_rfl) ?_
            refine doR rfl (o_call (is := []) Tryd.call23 (c_primClone r1 z1 hf1) rfl rfl (by repeat (first | exact Sub.d | (refine Sub.s ?_ ?_; (repeat (first | exact In.z | apply In.s))) | (refine Sub.suf ?_; (repeat (first | exact Suf.z | apply Suf.s))))) rfl) (TOk.x (by kernel_rfl) (TOk.t (isBoxE fun _ => isBoxS (by repeat (first | exact At.z | apply At.s)) (k := 6) (by repeat (first | exact Cut.d | apply Cut.t | apply Cut.s))) TOk.d)) ?_
            refine ea ?_; intro y1
            refine df 3 (by kernel_rfl) ?_
            refine doR rfl (o_call (is := []) Tryd.call23 (c_primClone r2 z2 hf2) rfl rfl (by repeat (first | exact Sub.d | (refine Sub.s ?_ ?_; (repeat (first | exact In.z | apply In.s))) | (refine Sub.suf ?_; (repeat (first | exact Suf.z | apply Suf.s))))) rfl) (TOk.x (by kernel_rfl) (TOk.x (by kernel_rfl) TOk.d)) ?_
            refine ea ?_; intro y2
            refine df 4 (by kernel_rfl) ?_
            refine doR rfl (o_st rfl Tryd.sizeOf27 rfl rfl rfl rfl rfl (by repeat (first | exact At.z | apply At.s)) (by repeat (first | exact Put.d | apply Put.t | apply Put.s)) (by repeat (first | exact SetAt.z | apply SetAt.s))) (TOk.x (by kernel_rfl) (TOk.x (by kernel_rfl) TOk.d)) ?_
            refine df 5 (by kernel_rfl) ?_
            refine doR rfl (o_st rfl Tryd.sizeOf27 rfl rfl rfl rfl rfl (by repeat (first | exact At.z | apply At.s)) (by repeat (first | exact Put.d | apply Put.t | apply Put.s)) (by repeat (first | exact SetAt.z | apply SetAt.s))) (TOk.x (by kernel_rfl) (TOk.x (by kernel_rfl) TOk.d)) ?_
            refine tk 6 rfl (by kernel_rfl) (fun _ _ _ h => h) gnone (TTany _) (p_asg rfl) rfl ?_
            refine dn (by kernel_rfl) ?_
            refine nthen ?_
            refine cret ?_
            refine xret (fun _ _ h => h) ?_
            refine rret (is := []) ⟨((r1, r2, true), (y1, y2)), by rw [swap, ← hr]; cases r3 <;> cases e1 : r1.right <;> cases e2 : r2.right <;> simp_all⟩ (Or.inl rfl) (Res.c rfl Tryd.isAgg27 Tryd.sizeOf27 (by repeat (first | exact At.z | apply At.s)) (by rfl) (Res.c rfl Tryd.isAgg27 Tryd.sizeOf27 (by repeat (first | exact At.z | apply At.s)) (by rfl) (Res.t rfl Res.d))) (rfl) rfl (by repeat (first | exact Sub.d | (refine Sub.s ?_ ?_; (repeat (first | exact In.z | apply In.s))) | (refine Sub.suf ?_; (repeat (first | exact Suf.z | apply Suf.s)))))
    · intro h12
      have h12' : (p.right && q.right) = false := h12
      refine cskip ?_
      refine nthen ?_
      refine cs ?_
      refine cs ?_
      refine cr ?_
      refine ls (op (p_move rfl) rfl) ?_
      refine ls (op (p_not rfl) rfl) ?_
      refine ls (op (p_move rfl) rfl) ?_
      refine lskip rfl rfl rfl rfl rfl ?_
      refine lskip rfl rfl rfl rfl rfl ?_
      refine lskip rfl rfl rfl rfl rfl ?_
      refine ls (op (p_pickt rfl rfl) rfl) ?_
      refine ls (op (p_move rfl) rfl) ?_
      refine lskip rfl rfl rfl rfl rfl ?_
      refine lskip rfl rfl rfl rfl rfl ?_
      refine lskip rfl rfl rfl rfl rfl ?_
      refine ls (op (p_pickt rfl rfl) rfl) ?_
      refine ln ?_
      refine nthen ?_
      refine cc rfl (fun h => ?_) (fun h => by cases h)
      refine cs ?_
      refine cmono (fun a w h => nilSl (α := ByteArray) h) ?_
      refine cr ?_
      refine ls (op (p_bld sb27 rfl Fill.d) rfl) ?_
      refine ls (op (p_bld sb27 rfl Fill.d) rfl) ?_
      refine ls (o_st rfl Tryd.sizeOf27 rfl rfl rfl rfl rfl (by repeat (first | exact At.z | apply At.s)) (by repeat (first | exact Put.d | apply Put.t | apply Put.s)) (by repeat (first | exact SetAt.z | apply SetAt.s))) ?_
      refine ls (o_st rfl Tryd.sizeOf27 rfl rfl rfl rfl rfl (by repeat (first | exact At.z | apply At.s)) (by repeat (first | exact Put.d | apply Put.t | apply Put.s)) (by repeat (first | exact SetAt.z | apply SetAt.s))) ?_
      refine ls (op (p_asg rfl) rfl) ?_
      refine ln ?_
      refine nthen ?_
      refine cret ?_
      refine xret (fun _ _ h => h) ?_
      refine rret (is := []) ⟨((Prim.zero, Prim.zero, false), (((none, 0), (none, 0)), ((none, 0), (none, 0)))), by rw [swap, h12']; rfl⟩ (Or.inl rfl) (Res.c rfl Tryd.isAgg27 Tryd.sizeOf27 (by repeat (first | exact At.z | apply At.s)) (by rfl) (Res.c rfl Tryd.isAgg27 Tryd.sizeOf27 (by repeat (first | exact At.z | apply At.s)) (by rfl) (Res.t rfl Res.d))) (rfl) rfl (by repeat (first | exact Sub.d | (refine Sub.s ?_ ?_; (repeat (first | exact In.z | apply In.s))) | (refine Sub.suf ?_; (repeat (first | exact Suf.z | apply Suf.s)))))

theorem c_Apart (p q : Prim) (yp yq : Rp.Lay Prim) (hp : p.fit) (hq : q.fit) : Con Tryd.prog 14 [sv p yp, sv q yq] [] (Rp.asn p yp ++ Rp.asn q yq) Unit (fun _ => .bool ((swap p q).2.2 && decide ((swap p q).1 = q) && decide ((swap p q).2.1 = p))) (fun _ => []) (fun _ => []) := by
  refine con Tryd.func14 rfl Tryd.ntmps14 rfl ?_
  intro M0 F0 w0
  refine cs ?_
  refine cr ?_
  refine ls (o_box rfl rfl rfl) ?_
  refine le ?_; intro b2
  refine ls (o_box rfl rfl rfl) ?_
  refine le ?_; intro b3
  refine ls (op (p_asg rfl) rfl) ?_
  refine ln ?_
  refine nthen ?_
  refine cs ?_
  refine cr ?_
  refine ls (o_ldw Tryd.isAgg27 Tryd.sizeOf27 rfl (by repeat (first | exact At.z | apply At.s)) (by rfl) rfl) ?_
  refine ls (o_ldw Tryd.isAgg27 Tryd.sizeOf27 rfl (by repeat (first | exact At.z | apply At.s)) (by rfl) rfl) ?_
  refine ls (o_call (is := []) Tryd.call11 (c_Swap p q yp yq hp hq) rfl rfl (by repeat (first | exact Sub.d | (refine Sub.s ?_ ?_; (repeat (first | exact In.z | apply In.s))) | (refine Sub.suf ?_; (repeat (first | exact Suf.z | apply Suf.s))))) rfl) ?_
  refine le ?_; rintro ⟨⟨⟨r1, r2, r3⟩, z1, z2⟩, hr⟩
  obtain ⟨e1, e2⟩ := swap_fit hp hq; rw [← hr] at e1 e2; dsimp only at hr e1 e2
  refine ls (op (p_move rfl) rfl) ?_
  refine ls (op (p_ext rfl (by repeat (first | exact At.z | apply At.s))) rfl) ?_
  refine ls (op (p_ext rfl (by repeat (first | exact At.z | apply At.s))) rfl) ?_
  refine ls (op (p_ext rfl (by repeat (first | exact At.z | apply At.s))) rfl) ?_
  refine ls (o_alloc Tryd.zeroValue27 rfl rfl) ?_
  refine le ?_; intro b5
  refine ls (o_alloc Tryd.zeroValue27 rfl rfl) ?_
  refine le ?_; intro b6
  refine ls (o_st rfl Tryd.sizeOf27 rfl rfl rfl rfl rfl (by repeat (first | exact At.z | apply At.s)) (by repeat (first | exact Put.d | apply Put.t | apply Put.s)) (by repeat (first | exact SetAt.z | apply SetAt.s))) ?_
  refine ls (o_st rfl Tryd.sizeOf27 rfl rfl rfl rfl rfl (by repeat (first | exact At.z | apply At.s)) (by repeat (first | exact Put.d | apply Put.t | apply Put.s)) (by repeat (first | exact SetAt.z | apply SetAt.s))) ?_
  refine ls (op (p_asg rfl) rfl) ?_
  refine ln ?_
  refine nthen ?_
  refine cs ?_
  refine cr ?_
  refine ls (op (p_move rfl) rfl) ?_
  refine ls (op (p_move rfl) rfl) ?_
  refine andX 4 16 20 rfl (subσ.cons (t := 0) rfl (subσ.cons (t := 1) rfl (subσ.cons (t := 2) rfl (subσ.cons (t := 3) rfl (subσ.cons (t := 4) rfl (subσ.cons (t := 9) rfl (subσ.cons (t := 10) rfl (subσ.cons (t := 11) rfl (subσ.cons (t := 8) rfl (subσ.cons (t := 12) rfl (subσ.cons (t := 13) rfl (subσ.cons (t := 14) rfl (subσ.cons (t := 5) rfl (subσ.cons (t := 6) rfl (subσ.nil _))))))))))))))) ?_ ?_
  · intro h16
    refine lskip rfl rfl rfl rfl rfl ?_
    refine lskip rfl rfl rfl rfl rfl ?_
    refine lskip rfl rfl rfl rfl rfl ?_
    refine ls (op (p_pickf rfl rfl) rfl) ?_
    refine ln (nmid (wk0 (by repeat (first | exact subσ.nil _ | refine subσ.cons rfl ?_)) (by repeat (first | exact Sub.d | (refine Sub.s ?_ ?_; (repeat (first | exact In.z | apply In.s))) | (refine Sub.suf ?_; (repeat (first | exact Suf.z | apply Suf.s)))))))
  apply exI
  · intro h16
    refine lwant rfl rfl rfl rfl (o_ldw Tryd.isAgg27 Tryd.sizeOf27 rfl (by repeat (first | exact At.z | apply At.s)) (by rfl) rfl) ?_
    refine lwant rfl rfl rfl rfl (o_ldw Tryd.isAgg27 Tryd.sizeOf27 rfl (by repeat (first | exact At.z | apply At.s)) (by rfl) rfl) ?_
    refine lwant rfl rfl rfl rfl (o_call (is := []) Tryd.call16 (c_primSame r1 q z1 yq e1) rfl rfl (by repeat (first | exact Sub.d | (refine Sub.s ?_ ?_; (repeat (first | exact In.z | apply In.s))) | (refine Sub.suf ?_; (repeat (first | exact Suf.z | apply Suf.s))))) rfl) ?_
    refine le ?_; intro x19
    refine ls (op (p_pickt rfl rfl) rfl) ?_
    refine ln (nmid (wk0 (by repeat (first | exact subσ.nil _ | refine subσ.cons rfl ?_)) (by repeat (first | exact Sub.d | (refine Sub.s ?_ ?_; (repeat (first | exact In.z | apply In.s))) | (refine Sub.suf ?_; (repeat (first | exact Suf.z | apply Suf.s)))))))
  ·
    refine ls (op (p_move rfl) rfl) ?_
    refine andX 4 21 25 rfl (subσ.cons (t := 0) rfl (subσ.cons (t := 1) rfl (subσ.cons (t := 2) rfl (subσ.cons (t := 3) rfl (subσ.cons (t := 4) rfl (subσ.cons (t := 9) rfl (subσ.cons (t := 10) rfl (subσ.cons (t := 11) rfl (subσ.cons (t := 8) rfl (subσ.cons (t := 12) rfl (subσ.cons (t := 13) rfl (subσ.cons (t := 14) rfl (subσ.cons (t := 5) rfl (subσ.cons (t := 6) rfl (subσ.nil _))))))))))))))) ?_ ?_
    · intro h21
      refine lskip rfl rfl rfl rfl rfl ?_
      refine lskip rfl rfl rfl rfl rfl ?_
      refine lskip rfl rfl rfl rfl rfl ?_
      refine ls (op (p_pickf rfl rfl) rfl) ?_
      refine ln (nmid (wk0 (by repeat (first | exact subσ.nil _ | refine subσ.cons rfl ?_)) (by repeat (first | exact Sub.d | (refine Sub.s ?_ ?_; (repeat (first | exact In.z | apply In.s))) | (refine Sub.suf ?_; (repeat (first | exact Suf.z | apply Suf.s)))))))
    apply exI
    · intro h21
      refine lwant rfl rfl rfl rfl (o_ldw Tryd.isAgg27 Tryd.sizeOf27 rfl (by repeat (first | exact At.z | apply At.s)) (by rfl) rfl) ?_
      refine lwant rfl rfl rfl rfl (o_ldw Tryd.isAgg27 Tryd.sizeOf27 rfl (by repeat (first | exact At.z | apply At.s)) (by rfl) rfl) ?_
      refine lwant rfl rfl rfl rfl (o_call (is := []) Tryd.call16 (c_primSame r2 p z2 yp e2) rfl rfl (by repeat (first | exact Sub.d | (refine Sub.s ?_ ?_; (repeat (first | exact In.z | apply In.s))) | (refine Sub.suf ?_; (repeat (first | exact Suf.z | apply Suf.s))))) rfl) ?_
      refine le ?_; intro x24
      refine ls (op (p_pickt rfl rfl) rfl) ?_
      refine ln (nmid (wk0 (by repeat (first | exact subσ.nil _ | refine subσ.cons rfl ?_)) (by repeat (first | exact Sub.d | (refine Sub.s ?_ ?_; (repeat (first | exact In.z | apply In.s))) | (refine Sub.suf ?_; (repeat (first | exact Suf.z | apply Suf.s)))))))
    ·
      refine ls (op (p_asg rfl) rfl) ?_
      refine ln ?_
      refine nthen ?_
      refine cret ?_
      refine xret (fun _ _ h => h) ?_
      refine rret (is := []) () (Or.inl rfl) (Res.t rfl Res.d) ?_ rfl (by repeat (first | exact Sub.d | (refine Sub.s ?_ ?_; (repeat (first | exact In.z | apply In.s))) | (refine Sub.suf ?_; (repeat (first | exact Suf.z | apply Suf.s)))))
      dsimp only [packV]; rw [← hr]

theorem c_Needs (p q : Prim) (yp yq : Rp.Lay Prim) (hp : p.fit) (hq : q.fit) : Con Tryd.prog 15 [sv p yp, sv q yq] [] (Rp.asn p yp ++ Rp.asn q yq) Unit (fun _ => .bool (!(swap p q).2.2)) (fun _ => []) (fun _ => []) := by
  refine con Tryd.func15 rfl Tryd.ntmps15 rfl ?_
  intro M0 F0 w0
  refine cs ?_
  refine cr ?_
  refine ls (o_box rfl rfl rfl) ?_
  refine le ?_; intro b2
  refine ls (o_box rfl rfl rfl) ?_
  refine le ?_; intro b3
  refine ls (op (p_asg rfl) rfl) ?_
  refine ln ?_
  refine nthen ?_
  refine cs ?_
  refine cr ?_
  refine ls (o_ldw Tryd.isAgg27 Tryd.sizeOf27 rfl (by repeat (first | exact At.z | apply At.s)) (by rfl) rfl) ?_
  refine ls (o_ldw Tryd.isAgg27 Tryd.sizeOf27 rfl (by repeat (first | exact At.z | apply At.s)) (by rfl) rfl) ?_
  refine ls (o_call (is := []) Tryd.call11 (c_Swap p q yp yq hp hq) rfl rfl (by repeat (first | exact Sub.d | (refine Sub.s ?_ ?_; (repeat (first | exact In.z | apply In.s))) | (refine Sub.suf ?_; (repeat (first | exact Suf.z | apply Suf.s))))) rfl) ?_
  refine le ?_; rintro ⟨⟨⟨r1, r2, r3⟩, z1, z2⟩, hr⟩
  obtain ⟨e1, e2⟩ := swap_fit hp hq; rw [← hr] at e1 e2; dsimp only at hr e1 e2
  refine ls (op (p_move rfl) rfl) ?_
  refine ls (op (p_ext rfl (by repeat (first | exact At.z | apply At.s))) rfl) ?_
  refine ls (op (p_ext rfl (by repeat (first | exact At.z | apply At.s))) rfl) ?_
  refine ls (op (p_ext rfl (by repeat (first | exact At.z | apply At.s))) rfl) ?_
  refine ls (o_alloc Tryd.zeroValue27 rfl rfl) ?_
  refine le ?_; intro b5
  refine ls (o_alloc Tryd.zeroValue27 rfl rfl) ?_
  refine le ?_; intro b6
  refine ls (o_st rfl Tryd.sizeOf27 rfl rfl rfl rfl rfl (by repeat (first | exact At.z | apply At.s)) (by repeat (first | exact Put.d | apply Put.t | apply Put.s)) (by repeat (first | exact SetAt.z | apply SetAt.s))) ?_
  refine ls (o_st rfl Tryd.sizeOf27 rfl rfl rfl rfl rfl (by repeat (first | exact At.z | apply At.s)) (by repeat (first | exact Put.d | apply Put.t | apply Put.s)) (by repeat (first | exact SetAt.z | apply SetAt.s))) ?_
  refine ls (op (p_asg rfl) rfl) ?_
  refine ln ?_
  refine nthen ?_
  refine cs ?_
  refine cr ?_
  refine ls (op (p_move rfl) rfl) ?_
  refine ls (op (p_not rfl) rfl) ?_
  refine ls (op (p_asg rfl) rfl) ?_
  refine ln ?_
  refine nthen ?_
  refine cret ?_
  refine xret (fun _ _ h => h) ?_
  refine rret (is := []) () (Or.inl rfl) (Res.t rfl Res.d) ?_ rfl (by repeat (first | exact Sub.d | (refine Sub.s ?_ ?_; (repeat (first | exact In.z | apply In.s))) | (refine Sub.suf ?_; (repeat (first | exact Suf.z | apply Suf.s)))))
  dsimp only [packV]; rw [← hr]

end Go.Proofs.YtaojmjfgopbgcaaDoor.X
