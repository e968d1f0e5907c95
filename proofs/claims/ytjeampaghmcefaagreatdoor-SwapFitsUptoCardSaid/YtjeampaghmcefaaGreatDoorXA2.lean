/- OWN WORK: a part of the proof of a law of the seat YtjeampaghmcefaaGreatDoor: the walk through functions of the program. -/
import Derived.Test.YtjeampaghmcefaaGreatDoorProg
import Derived.Test.YtjeampaghmcefaaGreatDoorXA1
import Derived.Test.YtjeampaghmcefaaGreatDoorXDef
import Derived.Test.YtjeampaghmcefaaGreatDoorXSx2
import Derived.Laws.Pointers
section
set_option linter.unusedVariables false
set_option linter.unusedSimpArgs false
namespace Go.Proofs.YtjeampaghmcefaaGreatDoor.X
open Go Go.RowKit Go.Proofs Go.Sx
attribute [local irreducible] slA isA box row

theorem zero_fit : Prim.zero.fit := ⟨by decide, by decide, by decide, by decide, (fun s h => by cases h), (fun s h => by cases h)⟩
theorem swap_fit {p q : Prim} (hp : p.fit) (hq : q.fit) : (swap p q).1.fit ∧ (swap p q).2.1.fit := by
 unfold swap
 split
 ·
  exact swapped_fit hp hq
 ·
  exact ⟨zero_fit, zero_fit⟩

theorem sb37 : SB Tryz.prog 37 [(0, 1), (1, 1), (2, 1), (3, 1), (4, 1), (5, 1)] [.int .i64 0, .string ⟨#[]⟩, .string ⟨#[]⟩, .int .i64 0, .slice none 0 0, .slice none 0 0] := SB.struct Tryz.zeroValue37 rfl Tryz.underlying37 (fun w => by kernel_rfl)
theorem sb129 : SB Tryz.prog 129 [(0, 1), (1, 1)] [.int .i64 0, .int .i64 0] := SB.array Tryz.zeroValue129 rfl Tryz.underlying129 Tryz.sizeOf3 (fun i x h => by rcases i with _ | _ |  i <;> simp_all)
set_option maxRecDepth 100000 in
theorem c_swapped (p q : Prim) (yp yq : Rp.Lay Prim) (hp : p.fit) (hq : q.fit) (hpr : p.right = true) (hqr : q.right = true) : Con Tryz.prog 39 [sv p yp, sv q yq] [] (Rp.asn p yp ++ Rp.asn q yq) (Two (swapped p q)) (fun x => x.v) (fun _ => []) (fun x => x.g) := by
 refine con Tryz.func39 rfl Tryz.ntmps39 rfl ?_
 intro M0 F0 w0
 refine cs ?_
 refine cr ?_
 refine ls (o_box rfl rfl rfl) ?_
 refine le ?_; intro b2
 refine ls (o_box rfl rfl rfl) ?_
 refine le ?_; intro b3
 refine ls (o_alloc Tryz.zeroValue37 rfl rfl) ?_
 refine le ?_; intro b4
 refine ls (o_alloc Tryz.zeroValue37 rfl rfl) ?_
 refine le ?_; intro b5
 refine ls (op (p_asg rfl) rfl) ?_
 refine ln ?_
 refine nthen ?_
 refine cs ?_
 refine cr ?_
 refine ls (op (p_fa fa37_0 rfl) rfl) ?_
 refine ls (o_ld Tryz.isAgg3 rfl (by repeat' constructor) (by repeat' constructor) rfl) ?_
 refine ls (op (p_fa fa37_0 rfl) rfl) ?_
 refine ls (o_ld Tryz.isAgg3 rfl (by repeat' constructor) (by repeat' constructor) rfl) ?_
 refine ls (op (p_bld sb129 rfl (Fill.t (by repeat' constructor) rfl rfl (by repeat' constructor) (Fill.t (by repeat' constructor) rfl rfl (by repeat' constructor) Fill.d))) rfl) ?_
 refine ls (o_alloc Tryz.zeroValue129 rfl rfl) ?_
 refine le ?_; intro b7
 refine ls (o_st rfl Tryz.sizeOf129 rfl rfl rfl rfl rfl (by repeat' constructor) (by repeat' constructor) (by repeat' constructor)) ?_
 refine ln ?_
 refine nthen ?_
 refine cs ?_
 refine cb ?_
 refine cs ?_
 refine cr ?_
 refine ls (o_ldw Tryz.isAgg129 Tryz.sizeOf129 rfl (by repeat' constructor) (by rfl) rfl) ?_
 refine ls (op (p_bld sb129 rfl (Fill.t (by repeat' constructor) rfl rfl (by repeat' constructor) (Fill.t (by repeat' constructor) rfl rfl (by repeat' constructor) Fill.d))) rfl) ?_
 refine ls (op (p_aeq2 Tryz.underlying129 Tryz.underlying3 (by kernel_rfl) (by kernel_rfl) Tryz.isAgg3 (by kernel_rfl) rfl rfl) rfl) ?_
 refine ls (op (p_asg rfl) rfl) ?_
 refine ln ?_
 refine nthen ?_
 refine cc rfl ?_ ?_
 ·
  intro h13
  have h13' := h13; simp only [Bool.and_eq_true, decide_eq_true_eq] at h13'
  refine cs ?_
  refine cs ?_
  refine cr ?_
  refine ls (op (p_fa fa37_1 rfl) rfl) ?_
  refine ls (o_ld Tryz.isAgg9 rfl (by repeat' constructor) (by repeat' constructor) rfl) ?_
  refine ls (op (p_fa fa37_1 rfl) rfl) ?_
  refine ls (o_ld Tryz.isAgg9 rfl (by repeat' constructor) (by repeat' constructor) rfl) ?_
  refine ls (op (p_seq rfl rfl) rfl) ?_
  refine ln ?_
  refine nthen ?_
  refine cc rfl ?_ ?_
  ·
   intro h21
   try simp only [decide_eq_true_eq, decide_eq_false_iff_not, Bool.not_eq_true', Bool.not_eq_false', Int.not_lt, Int.not_le, ge_iff_le, Bool.not_true, Bool.not_false] at h21
   refine cs ?_
   refine cr ?_
   refine ls (o_ldw Tryz.isAgg37 Tryz.sizeOf37 rfl (by repeat' constructor) (by rfl) rfl) ?_
   refine ls (o_ldw Tryz.isAgg37 Tryz.sizeOf37 rfl (by repeat' constructor) (by rfl) rfl) ?_
   refine ls (o_call (is := []) Tryz.call82 (c_hunks p q yp yq hp hq (right_pos hpr) (right_pos hqr)) rfl rfl (by repeat' (first | constructor | apply Sub.suf)) rfl) ?_
   refine le ?_; rintro ⟨⟨⟨r1, r2, r3⟩, z1, z2⟩, hr⟩
   refine ls (op (p_ext rfl (by repeat' constructor)) rfl) ?_
   refine ls (op (p_ext rfl (by repeat' constructor)) rfl) ?_
   refine ls (op (p_ext rfl (by repeat' constructor)) rfl) ?_
   refine ls (o_st rfl Tryz.sizeOf37 rfl rfl rfl rfl rfl (by repeat' constructor) (by repeat' constructor) (by repeat' constructor)) ?_
   refine ls (o_st rfl Tryz.sizeOf37 rfl rfl rfl rfl rfl (by repeat' constructor) (by repeat' constructor) (by repeat' constructor)) ?_
   refine ls (op (p_asg rfl) rfl) ?_
   refine ln ?_
   refine nthen ?_
   refine cret ?_
   refine xret (fun _ _ h => h) ?_
   refine rret (is := []) ⟨((r1, r2, r3), (z1, z2)), by rw [swapped, if_pos h13', if_pos h21]; exact hr⟩ (Or.inl rfl) (Res.c rfl Tryz.isAgg37 Tryz.sizeOf37 (by repeat' constructor) (by rfl) (Res.c rfl Tryz.isAgg37 Tryz.sizeOf37 (by repeat' constructor) (by rfl) (Res.t rfl Res.d))) (rfl) rfl (by repeat' (first | constructor | apply Sub.suf))
  ·
   intro h21
   try simp only [decide_eq_true_eq, decide_eq_false_iff_not, Bool.not_eq_true', Bool.not_eq_false', Int.not_lt, Int.not_le, ge_iff_le, Bool.not_true, Bool.not_false] at h21
   refine cskip ?_
   refine nthen ?_
   refine cs ?_
   refine cd [2, 3] [(0, b3, 0, _), (1, b2, 0, _)] TryzX.mixed (TOk.t (isBoxS (by repeat' constructor) (k := 6) (by repeat (first | exact Cut.d | apply Cut.t | apply Cut.s))) (TOk.t (isBoxS (by repeat' constructor) (k := 6) (by repeat (first | exact Cut.d | apply Cut.t | apply Cut.s))) TOk.d)) ?_
   refine tk 0 rfl (by kernel_rfl) (fun _ _ _ h => h) gnone (TTat (List.Mem.head _)) (p_lda Tryz.isAgg37 Tryz.sizeOf37 rfl rfl) rfl ?_
   refine tk 1 rfl (by kernel_rfl) (fun _ _ _ h => h) gnone (TTat (List.Mem.tail _ (List.Mem.head _))) (p_lda Tryz.isAgg37 Tryz.sizeOf37 rfl rfl) rfl ?_
   refine df 2 (by kernel_rfl) ?_
   refine doR rfl (o_st rfl Tryz.sizeOf37 rfl rfl rfl rfl rfl (by repeat' constructor) (by repeat' constructor) (by repeat' constructor)) (TOk.x (by kernel_rfl) (TOk.t (isBoxS (by repeat' constructor) (k := 6) (by repeat (first | exact Cut.d | apply Cut.t | apply Cut.s))) TOk.d)) ?_
   refine df 3 (by kernel_rfl) ?_
   refine doR rfl (o_st rfl Tryz.sizeOf37 rfl rfl rfl rfl rfl (by repeat' constructor) (by repeat' constructor) (by repeat' constructor)) (TOk.x (by kernel_rfl) (TOk.x (by kernel_rfl) TOk.d)) ?_
   refine tk 4 rfl (by kernel_rfl) (fun _ _ _ h => h) gnone (TTany _) (p_asg rfl) rfl ?_
   refine dn (by kernel_rfl) ?_
   refine nthen ?_
   refine cret ?_
   refine xret (fun _ _ h => h) ?_
   refine rret (is := []) ⟨((q, p, true), (yq, yp)), by rw [swapped, if_pos h13', if_neg h21]⟩ (Or.inl rfl) (Res.c rfl Tryz.isAgg37 Tryz.sizeOf37 (by repeat' constructor) (by rfl) (Res.c rfl Tryz.isAgg37 Tryz.sizeOf37 (by repeat' constructor) (by rfl) (Res.t rfl Res.d))) (rfl) rfl (by repeat' (first | constructor | apply Sub.suf))
 ·
  intro h13
  have h13' : ¬ (p.kind = 0 ∧ q.kind = 0) := by intro e; rw [e.1, e.2] at h13; exact absurd h13 (by decide)
  refine cs ?_
  refine cr ?_
  refine ls (o_ldw Tryz.isAgg129 Tryz.sizeOf129 rfl (by repeat' constructor) (by rfl) rfl) ?_
  refine ls (op (p_bld sb129 rfl (Fill.t (by repeat' constructor) rfl rfl (by repeat' constructor) (Fill.t (by repeat' constructor) rfl rfl (by repeat' constructor) Fill.d))) rfl) ?_
  refine ls (op (p_aeq2 Tryz.underlying129 Tryz.underlying3 (by kernel_rfl) (by kernel_rfl) Tryz.isAgg3 (by kernel_rfl) rfl rfl) rfl) ?_
  refine ls (op (p_asg rfl) rfl) ?_
  refine ln ?_
  refine nthen ?_
  refine cc rfl ?_ ?_
  ·
   intro h30
   have h30' := h30; simp only [Bool.and_eq_true, decide_eq_true_eq] at h30'
   refine cs ?_
   refine cs ?_
   refine cr ?_
   refine ls (op (p_fa fa37_1 rfl) rfl) ?_
   refine ls (o_ld Tryz.isAgg9 rfl (by repeat' constructor) (by repeat' constructor) rfl) ?_
   refine ls (op (p_fa fa37_1 rfl) rfl) ?_
   refine ls (o_ld Tryz.isAgg9 rfl (by repeat' constructor) (by repeat' constructor) rfl) ?_
   refine ls (op (p_seq rfl rfl) rfl) ?_
   refine ln ?_
   refine nthen ?_
   refine cc rfl ?_ ?_
   ·
    intro h38
    try simp only [decide_eq_true_eq, decide_eq_false_iff_not, Bool.not_eq_true', Bool.not_eq_false', Int.not_lt, Int.not_le, ge_iff_le, Bool.not_true, Bool.not_false] at h38
    refine cs ?_
    refine cr ?_
    refine ls (op (p_fa fa37_2 rfl) rfl) ?_
    refine ls (o_ld Tryz.isAgg9 rfl (by repeat' constructor) (by repeat' constructor) rfl) ?_
    refine ls (op (p_fa fa37_1 rfl) rfl) ?_
    refine ls (o_st rfl Tryz.sizeOf9 rfl rfl rfl rfl rfl (by repeat' constructor) (by repeat' constructor) (by repeat' constructor)) ?_
    refine ln ?_
    refine nthen ?_
    refine cs ?_
    refine cd [2, 3] [(0, b3, 0, _), (1, b2, 0, _)] TryzX.mixed (TOk.t (isBoxS (by repeat' constructor) (k := 6) (by repeat (first | exact Cut.d | apply Cut.t | apply Cut.s))) (TOk.t (isBoxS (by repeat' constructor) (k := 6) (by repeat (first | exact Cut.d | apply Cut.t | apply Cut.s))) TOk.d)) ?_
    refine tk 0 rfl (by kernel_rfl) (fun _ _ _ h => h) gnone (TTat (List.Mem.head _)) (p_lda Tryz.isAgg37 Tryz.sizeOf37 rfl rfl) rfl ?_
    refine tk 1 rfl (by kernel_rfl) (fun _ _ _ h => h) gnone (TTat (List.Mem.tail _ (List.Mem.head _))) (p_lda Tryz.isAgg37 Tryz.sizeOf37 rfl rfl) rfl ?_
    refine df 2 (by kernel_rfl) ?_
    refine doR rfl (o_st rfl Tryz.sizeOf37 rfl rfl rfl rfl rfl (by repeat' constructor) (by repeat' constructor) (by repeat' constructor)) (TOk.x (by kernel_rfl) (TOk.t (isBoxS (by repeat' constructor) (k := 6) (by repeat (first | exact Cut.d | apply Cut.t | apply Cut.s))) TOk.d)) ?_
    refine df 3 (by kernel_rfl) ?_
    refine doR rfl (o_st rfl Tryz.sizeOf37 rfl rfl rfl rfl rfl (by repeat' constructor) (by repeat' constructor) (by repeat' constructor)) (TOk.x (by kernel_rfl) (TOk.x (by kernel_rfl) TOk.d)) ?_
    refine tk 4 rfl (by kernel_rfl) (fun _ _ _ h => h) gnone (TTany _) (p_asg rfl) rfl ?_
    refine dn (by kernel_rfl) ?_
    refine nthen ?_
    refine cret ?_
    refine xret (fun _ _ h => h) ?_
    refine rret (is := []) ⟨((q, { p with name := q.to }, true), (yq, yp)), by rw [swapped, if_neg h13', if_pos h30', if_pos h38]⟩ (Or.inl rfl) (Res.c rfl Tryz.isAgg37 Tryz.sizeOf37 (by repeat' constructor) (by rfl) (Res.c rfl Tryz.isAgg37 Tryz.sizeOf37 (by repeat' constructor) (by rfl) (Res.t rfl Res.d))) (rfl) rfl (by repeat' (first | constructor | apply Sub.suf))
   ·
    intro h38
    try simp only [decide_eq_true_eq, decide_eq_false_iff_not, Bool.not_eq_true', Bool.not_eq_false', Int.not_lt, Int.not_le, ge_iff_le, Bool.not_true, Bool.not_false] at h38
    refine cskip ?_
    refine nthen ?_
    refine cs ?_
    refine cd [7, 8] [(0, b3, 0, _), (1, b2, 0, _), (3, b2, 1, _), (5, b3, 2, _)] TryzX.mixed (TOk.t (isBoxS (by repeat' constructor) (k := 6) (by repeat (first | exact Cut.d | apply Cut.t | apply Cut.s))) (TOk.t (isBoxS (by repeat' constructor) (k := 6) (by repeat (first | exact Cut.d | apply Cut.t | apply Cut.s))) (TOk.t (isBoxS (by repeat' constructor) (k := 1) (by repeat (first | exact Cut.d | apply Cut.t | apply Cut.s))) (TOk.t (isBoxS (by repeat' constructor) (k := 1) (by repeat (first | exact Cut.d | apply Cut.t | apply Cut.s))) TOk.d)))) ?_
    refine tk 0 rfl (by kernel_rfl) (fun _ _ _ h => h) gnone (TTat (List.Mem.head _)) (p_lda Tryz.isAgg37 Tryz.sizeOf37 rfl rfl) rfl ?_
    refine tk 1 rfl (by kernel_rfl) (fun _ _ _ h => h) gnone (TTat (List.Mem.tail _ (List.Mem.head _))) (p_lda Tryz.isAgg37 Tryz.sizeOf37 rfl rfl) rfl ?_
    refine tk 2 rfl (by kernel_rfl) (fun _ _ _ h => h) gnone (TTany _) (p_fa fa37_1 rfl) rfl ?_
    refine tk 3 rfl (by kernel_rfl) (fun _ _ _ h => h) gnone (TTat (List.Mem.tail _ (List.Mem.tail _ (List.Mem.head _)))) (p_ld Tryz.isAgg9 rfl) rfl ?_
    refine tk 4 rfl (by kernel_rfl) (fun _ _ _ h => h) gnone (TTany _) (p_fa fa37_2 rfl) rfl ?_
    refine tk 5 rfl (by kernel_rfl) (fun _ _ _ h => h) gnone (TTat (List.Mem.tail _ (List.Mem.tail _ (List.Mem.tail _ (List.Mem.head _))))) (p_ld Tryz.isAgg9 rfl) rfl ?_
    refine tk 6 rfl (by kernel_rfl) (fun _ _ _ h => h) gnone (TTany _) (p_sne rfl rfl) rfl ?_
    refine df 7 (by kernel_rfl) ?_
    refine doR rfl (o_st rfl Tryz.sizeOf37 rfl rfl rfl rfl rfl (by repeat' constructor) (by repeat' constructor) (by repeat' constructor)) (TOk.x (by kernel_rfl) (TOk.t (isBoxS (by repeat' constructor) (k := 6) (by repeat (first | exact Cut.d | apply Cut.t | apply Cut.s))) (TOk.t (isBoxS (by repeat' constructor) (k := 1) (by repeat (first | exact Cut.d | apply Cut.t | apply Cut.s))) (TOk.t (isBoxS (by repeat' constructor) (k := 1) (by repeat (first | exact Cut.d | apply Cut.t | apply Cut.s))) TOk.d)))) ?_
    refine df 8 (by kernel_rfl) ?_
    refine doR rfl (o_st rfl Tryz.sizeOf37 rfl rfl rfl rfl rfl (by repeat' constructor) (by repeat' constructor) (by repeat' constructor)) (TOk.x (by kernel_rfl) (TOk.x (by kernel_rfl) (TOk.t (isBoxS (by repeat' constructor) (k := 1) (by repeat (first | exact Cut.d | apply Cut.t | apply Cut.s))) (TOk.t (isBoxS (by repeat' constructor) (k := 1) (by repeat (first | exact Cut.d | apply Cut.t | apply Cut.s))) TOk.d)))) ?_
    refine tk 9 rfl (by kernel_rfl) (fun _ _ _ h => h) gnone (TTany _) (p_asg rfl) rfl ?_
    refine dn (by kernel_rfl) ?_
    refine nthen ?_
    refine cret ?_
    refine xret (fun _ _ h => h) ?_
    refine rret (is := []) ⟨((q, p, !decide (p.name = q.to)), (yq, yp)), by rw [swapped, if_neg h13', if_pos h30', if_neg h38]⟩ (Or.inl rfl) (Res.c rfl Tryz.isAgg37 Tryz.sizeOf37 (by repeat' constructor) (by rfl) (Res.c rfl Tryz.isAgg37 Tryz.sizeOf37 (by repeat' constructor) (by rfl) (Res.t rfl Res.d))) (rfl) rfl (by repeat' (first | constructor | apply Sub.suf))
  ·
   intro h30
   have h30' : ¬ (p.kind = 0 ∧ q.kind = 3) := by intro e; rw [e.1, e.2] at h30; exact absurd h30 (by decide)
   refine cs ?_
   refine cr ?_
   refine ls (o_ldw Tryz.isAgg129 Tryz.sizeOf129 rfl (by repeat' constructor) (by rfl) rfl) ?_
   refine ls (op (p_bld sb129 rfl (Fill.t (by repeat' constructor) rfl rfl (by repeat' constructor) (Fill.t (by repeat' constructor) rfl rfl (by repeat' constructor) Fill.d))) rfl) ?_
   refine ls (op (p_aeq2 Tryz.underlying129 Tryz.underlying3 (by kernel_rfl) (by kernel_rfl) Tryz.isAgg3 (by kernel_rfl) rfl rfl) rfl) ?_
   refine ls (op (p_asg rfl) rfl) ?_
   refine ln ?_
   refine nthen ?_
   refine cc rfl ?_ ?_
   ·
    intro h51
    have h51' := h51; simp only [Bool.and_eq_true, decide_eq_true_eq] at h51'
    refine cs ?_
    refine cs ?_
    refine cr ?_
    refine ls (op (p_fa fa37_2 rfl) rfl) ?_
    refine ls (o_ld Tryz.isAgg9 rfl (by repeat' constructor) (by repeat' constructor) rfl) ?_
    refine ls (op (p_fa fa37_1 rfl) rfl) ?_
    refine ls (o_ld Tryz.isAgg9 rfl (by repeat' constructor) (by repeat' constructor) rfl) ?_
    refine ls (op (p_seq rfl rfl) rfl) ?_
    refine ln ?_
    refine nthen ?_
    refine cc rfl ?_ ?_
    ·
     intro h59
     try simp only [decide_eq_true_eq, decide_eq_false_iff_not, Bool.not_eq_true', Bool.not_eq_false', Int.not_lt, Int.not_le, ge_iff_le, Bool.not_true, Bool.not_false] at h59
     refine cs ?_
     refine cr ?_
     refine ls (op (p_fa fa37_1 rfl) rfl) ?_
     refine ls (o_ld Tryz.isAgg9 rfl (by repeat' constructor) (by repeat' constructor) rfl) ?_
     refine ls (op (p_fa fa37_1 rfl) rfl) ?_
     refine ls (o_st rfl Tryz.sizeOf9 rfl rfl rfl rfl rfl (by repeat' constructor) (by repeat' constructor) (by repeat' constructor)) ?_
     refine ln ?_
     refine nthen ?_
     refine cs ?_
     refine cd [2, 3] [(0, b3, 0, _), (1, b2, 0, _)] TryzX.mixed (TOk.t (isBoxS (by repeat' constructor) (k := 6) (by repeat (first | exact Cut.d | apply Cut.t | apply Cut.s))) (TOk.t (isBoxS (by repeat' constructor) (k := 6) (by repeat (first | exact Cut.d | apply Cut.t | apply Cut.s))) TOk.d)) ?_
     refine tk 0 rfl (by kernel_rfl) (fun _ _ _ h => h) gnone (TTat (List.Mem.head _)) (p_lda Tryz.isAgg37 Tryz.sizeOf37 rfl rfl) rfl ?_
     refine tk 1 rfl (by kernel_rfl) (fun _ _ _ h => h) gnone (TTat (List.Mem.tail _ (List.Mem.head _))) (p_lda Tryz.isAgg37 Tryz.sizeOf37 rfl rfl) rfl ?_
     refine df 2 (by kernel_rfl) ?_
     refine doR rfl (o_st rfl Tryz.sizeOf37 rfl rfl rfl rfl rfl (by repeat' constructor) (by repeat' constructor) (by repeat' constructor)) (TOk.x (by kernel_rfl) (TOk.t (isBoxS (by repeat' constructor) (k := 6) (by repeat (first | exact Cut.d | apply Cut.t | apply Cut.s))) TOk.d)) ?_
     refine df 3 (by kernel_rfl) ?_
     refine doR rfl (o_st rfl Tryz.sizeOf37 rfl rfl rfl rfl rfl (by repeat' constructor) (by repeat' constructor) (by repeat' constructor)) (TOk.x (by kernel_rfl) (TOk.x (by kernel_rfl) TOk.d)) ?_
     refine tk 4 rfl (by kernel_rfl) (fun _ _ _ h => h) gnone (TTany _) (p_asg rfl) rfl ?_
     refine dn (by kernel_rfl) ?_
     refine nthen ?_
     refine cret ?_
     refine xret (fun _ _ h => h) ?_
     refine rret (is := []) ⟨(({ q with name := p.name }, p, true), (yq, yp)), by rw [swapped, if_neg h13', if_neg h30', if_pos h51', if_pos h59]⟩ (Or.inl rfl) (Res.c rfl Tryz.isAgg37 Tryz.sizeOf37 (by repeat' constructor) (by rfl) (Res.c rfl Tryz.isAgg37 Tryz.sizeOf37 (by repeat' constructor) (by rfl) (Res.t rfl Res.d))) (rfl) rfl (by repeat' (first | constructor | apply Sub.suf))
    ·
     intro h59
     try simp only [decide_eq_true_eq, decide_eq_false_iff_not, Bool.not_eq_true', Bool.not_eq_false', Int.not_lt, Int.not_le, ge_iff_le, Bool.not_true, Bool.not_false] at h59
     refine cskip ?_
     refine nthen ?_
     refine cs ?_
     refine cd [7, 8] [(0, b3, 0, _), (1, b2, 0, _), (3, b2, 1, _), (5, b3, 1, _)] TryzX.mixed (TOk.t (isBoxS (by repeat' constructor) (k := 6) (by repeat (first | exact Cut.d | apply Cut.t | apply Cut.s))) (TOk.t (isBoxS (by repeat' constructor) (k := 6) (by repeat (first | exact Cut.d | apply Cut.t | apply Cut.s))) (TOk.t (isBoxS (by repeat' constructor) (k := 1) (by repeat (first | exact Cut.d | apply Cut.t | apply Cut.s))) (TOk.t (isBoxS (by repeat' constructor) (k := 1) (by repeat (first | exact Cut.d | apply Cut.t | apply Cut.s))) TOk.d)))) ?_
     refine tk 0 rfl (by kernel_rfl) (fun _ _ _ h => h) gnone (TTat (List.Mem.head _)) (p_lda Tryz.isAgg37 Tryz.sizeOf37 rfl rfl) rfl ?_
     refine tk 1 rfl (by kernel_rfl) (fun _ _ _ h => h) gnone (TTat (List.Mem.tail _ (List.Mem.head _))) (p_lda Tryz.isAgg37 Tryz.sizeOf37 rfl rfl) rfl ?_
     refine tk 2 rfl (by kernel_rfl) (fun _ _ _ h => h) gnone (TTany _) (p_fa fa37_1 rfl) rfl ?_
     refine tk 3 rfl (by kernel_rfl) (fun _ _ _ h => h) gnone (TTat (List.Mem.tail _ (List.Mem.tail _ (List.Mem.head _)))) (p_ld Tryz.isAgg9 rfl) rfl ?_
     refine tk 4 rfl (by kernel_rfl) (fun _ _ _ h => h) gnone (TTany _) (p_fa fa37_1 rfl) rfl ?_
     refine tk 5 rfl (by kernel_rfl) (fun _ _ _ h => h) gnone (TTat (List.Mem.tail _ (List.Mem.tail _ (List.Mem.tail _ (List.Mem.head _))))) (p_ld Tryz.isAgg9 rfl) rfl ?_
     refine tk 6 rfl (by kernel_rfl) (fun _ _ _ h => h) gnone (TTany _) (p_sne rfl rfl) rfl ?_
     refine df 7 (by kernel_rfl) ?_
     refine doR rfl (o_st rfl Tryz.sizeOf37 rfl rfl rfl rfl rfl (by repeat' constructor) (by repeat' constructor) (by repeat' constructor)) (TOk.x (by kernel_rfl) (TOk.t (isBoxS (by repeat' constructor) (k := 6) (by repeat (first | exact Cut.d | apply Cut.t | apply Cut.s))) (TOk.t (isBoxS (by repeat' constructor) (k := 1) (by repeat (first | exact Cut.d | apply Cut.t | apply Cut.s))) (TOk.t (isBoxS (by repeat' constructor) (k := 1) (by repeat (first | exact Cut.d | apply Cut.t | apply Cut.s))) TOk.d)))) ?_
     refine df 8 (by kernel_rfl) ?_
     refine doR rfl (o_st rfl Tryz.sizeOf37 rfl rfl rfl rfl rfl (by repeat' constructor) (by repeat' constructor) (by repeat' constructor)) (TOk.x (by kernel_rfl) (TOk.x (by kernel_rfl) (TOk.t (isBoxS (by repeat' constructor) (k := 1) (by repeat (first | exact Cut.d | apply Cut.t | apply Cut.s))) (TOk.t (isBoxS (by repeat' constructor) (k := 1) (by repeat (first | exact Cut.d | apply Cut.t | apply Cut.s))) TOk.d)))) ?_
     refine tk 9 rfl (by kernel_rfl) (fun _ _ _ h => h) gnone (TTany _) (p_asg rfl) rfl ?_
     refine dn (by kernel_rfl) ?_
     refine nthen ?_
     refine cret ?_
     refine xret (fun _ _ h => h) ?_
     refine rret (is := []) ⟨((q, p, !decide (p.name = q.name)), (yq, yp)), by rw [swapped, if_neg h13', if_neg h30', if_pos h51', if_neg h59]⟩ (Or.inl rfl) (Res.c rfl Tryz.isAgg37 Tryz.sizeOf37 (by repeat' constructor) (by rfl) (Res.c rfl Tryz.isAgg37 Tryz.sizeOf37 (by repeat' constructor) (by rfl) (Res.t rfl Res.d))) (rfl) rfl (by repeat' (first | constructor | apply Sub.suf))
   ·
    intro h51
    have h51' : ¬ (p.kind = 3 ∧ q.kind = 0) := by intro e; rw [e.1, e.2] at h51; exact absurd h51 (by decide)
    refine cskip ?_
    refine nblock ?_
    refine nthen ?_
    refine cs ?_
    refine cd [4, 6, 7] [(0, b3, 0, _), (1, b2, 0, _), (2, b2, 0, _), (3, b3, 0, _)] TryzX.mixed (TOk.t (isBoxS (by repeat' constructor) (k := 6) (by repeat (first | exact Cut.d | apply Cut.t | apply Cut.s))) (TOk.t (isBoxS (by repeat' constructor) (k := 6) (by repeat (first | exact Cut.d | apply Cut.t | apply Cut.s))) (TOk.t (isBoxS (by repeat' constructor) (k := 6) (by repeat (first | exact Cut.d | apply Cut.t | apply Cut.s))) (TOk.t (isBoxS (by repeat' constructor) (k := 6) (by repeat (first | exact Cut.d | apply Cut.t | apply Cut.s))) TOk.d)))) ?_
    refine tk 0 rfl (by kernel_rfl) (fun _ _ _ h => h) gnone (TTat (List.Mem.head _)) (p_lda Tryz.isAgg37 Tryz.sizeOf37 rfl rfl) rfl ?_
    refine tk 1 rfl (by kernel_rfl) (fun _ _ _ h => h) gnone (TTat (List.Mem.tail _ (List.Mem.head _))) (p_lda Tryz.isAgg37 Tryz.sizeOf37 rfl rfl) rfl ?_
    refine tk 2 rfl (by kernel_rfl) (fun _ _ _ h => h) gnone (TTat (List.Mem.tail _ (List.Mem.tail _ (List.Mem.head _)))) (p_lda Tryz.isAgg37 Tryz.sizeOf37 rfl rfl) rfl ?_
    refine tk 3 rfl (by kernel_rfl) (fun _ _ _ h => h) gnone (TTat (List.Mem.tail _ (List.Mem.tail _ (List.Mem.tail _ (List.Mem.head _))))) (p_lda Tryz.isAgg37 Tryz.sizeOf37 rfl rfl) rfl ?_
    refine df 4 (by kernel_rfl) ?_
    refine doR rfl (o_call (is := []) Tryz.call83 (c_shares p q yp yq) rfl rfl (by repeat' (first | constructor | apply Sub.suf)) rfl) (TOk.t (isBoxE fun _ => isBoxS (by repeat' constructor) (k := 6) (by repeat (first | exact Cut.d | apply Cut.t | apply Cut.s))) (TOk.t (isBoxE fun _ => isBoxS (by repeat' constructor) (k := 6) (by repeat (first | exact Cut.d | apply Cut.t | apply Cut.s))) (TOk.x (by kernel_rfl) (TOk.x (by kernel_rfl) TOk.d)))) ?_
    refine ea ?_; intro x76
    refine tk 5 rfl (by kernel_rfl) (fun _ _ _ h => h) gnone (TTany _) (p_not rfl) rfl ?_
    refine df 6 (by kernel_rfl) ?_
    refine doR rfl (o_st rfl Tryz.sizeOf37 rfl rfl rfl rfl rfl (by repeat' constructor) (by repeat' constructor) (by repeat' constructor)) (TOk.x (by kernel_rfl) (TOk.t (isBoxS (by repeat' constructor) (k := 6) (by repeat (first | exact Cut.d | apply Cut.t | apply Cut.s))) (TOk.x (by kernel_rfl) (TOk.x (by kernel_rfl) TOk.d)))) ?_
    refine df 7 (by kernel_rfl) ?_
    refine doR rfl (o_st rfl Tryz.sizeOf37 rfl rfl rfl rfl rfl (by repeat' constructor) (by repeat' constructor) (by repeat' constructor)) (TOk.x (by kernel_rfl) (TOk.x (by kernel_rfl) (TOk.x (by kernel_rfl) (TOk.x (by kernel_rfl) TOk.d)))) ?_
    refine tk 8 rfl (by kernel_rfl) (fun _ _ _ h => h) gnone (TTany _) (p_asg rfl) rfl ?_
    refine dn (by kernel_rfl) ?_
    refine nthen ?_
    refine cret ?_
    refine xret (fun _ _ h => h) ?_
    refine rret (is := []) ⟨((q, p, !p.meets q), (yq, yp)), by rw [swapped, if_neg h13', if_neg h30', if_neg h51']⟩ (Or.inl rfl) (Res.c rfl Tryz.isAgg37 Tryz.sizeOf37 (by repeat' constructor) (by rfl) (Res.c rfl Tryz.isAgg37 Tryz.sizeOf37 (by repeat' constructor) (by rfl) (Res.t rfl Res.d))) (rfl) rfl (by repeat' (first | constructor | apply Sub.suf))

set_option maxRecDepth 100000 in
theorem c_Swap (p q : Prim) (yp yq : Rp.Lay Prim) (hp : p.fit) (hq : q.fit) : Con Tryz.prog 12 [sv p yp, sv q yq] [] (Rp.asn p yp ++ Rp.asn q yq) (Two (swap p q)) (fun x => x.v) (fun _ => []) (fun x => x.g) := by
 refine con Tryz.func12 rfl Tryz.ntmps12 rfl ?_
 intro M0 F0 w0
 refine cs ?_
 refine cr ?_
 refine ls (o_box rfl rfl rfl) ?_
 refine le ?_; intro b2
 refine ls (o_box rfl rfl rfl) ?_
 refine le ?_; intro b3
 refine ls (o_alloc Tryz.zeroValue37 rfl rfl) ?_
 refine le ?_; intro b4
 refine ls (o_alloc Tryz.zeroValue37 rfl rfl) ?_
 refine le ?_; intro b5
 refine ls (op (p_asg rfl) rfl) ?_
 refine ln ?_
 refine nthen ?_
 refine cs ?_
 refine cs ?_
 refine cr ?_
 refine ls (o_ldw Tryz.isAgg37 Tryz.sizeOf37 rfl (by repeat' constructor) (by rfl) rfl) ?_
 refine ls (o_call (is := []) Tryz.call34 (c_primRight p yp hp) rfl rfl (by repeat' (first | constructor | apply Sub.suf)) rfl) ?_
 refine le ?_; intro x8
 refine ls (op (p_move rfl) rfl) ?_
 refine andX 3 9 12 rfl (subσ.cons (t := 0) rfl (subσ.cons (t := 1) rfl (subσ.cons (t := 2) rfl (subσ.cons (t := 3) rfl (subσ.cons (t := 4) rfl (subσ.cons (t := 5) rfl (subσ.cons (t := 6) rfl (subσ.nil _)))))))) ?_ ?_
 ·
  intro h9
  refine lskip rfl rfl rfl rfl rfl ?_
  refine lskip rfl rfl rfl rfl rfl ?_
  refine ls (op (p_pickf rfl rfl) rfl) ?_
  refine ln (nmid (wk0 (by repeat (first | exact subσ.nil _ | refine subσ.cons rfl ?_)) (by repeat' (first | constructor | apply Sub.suf))))
 apply exI
 ·
  intro h9
  refine lwant rfl rfl rfl rfl (o_ldw Tryz.isAgg37 Tryz.sizeOf37 rfl (by repeat' constructor) (by rfl) rfl) ?_
  refine lwant rfl rfl rfl rfl (o_call (is := []) Tryz.call34 (c_primRight q yq hq) rfl rfl (by repeat' (first | constructor | apply Sub.suf)) rfl) ?_
  refine le ?_; intro x11
  refine ls (op (p_pickt rfl rfl) rfl) ?_
  refine ln (nmid (wk0 (by repeat (first | exact subσ.nil _ | refine subσ.cons rfl ?_)) (by repeat' (first | constructor | apply Sub.suf))))
 ·
  refine ln ?_
  refine nthen ?_
  refine cc rfl ?_ ?_
  ·
   intro h12
   have h12' := h12; simp only [Bool.and_eq_true, decide_eq_true_eq] at h12'
   refine cr ?_
   refine ls (o_ldw Tryz.isAgg37 Tryz.sizeOf37 rfl (by repeat' constructor) (by rfl) rfl) ?_
   refine ls (o_ldw Tryz.isAgg37 Tryz.sizeOf37 rfl (by repeat' constructor) (by rfl) rfl) ?_
   refine ls (o_call (is := []) Tryz.call39 (c_swapped p q yp yq hp hq h12'.1 h12'.2) rfl rfl (by repeat' (first | constructor | apply Sub.suf)) rfl) ?_
   refine le ?_; rintro ⟨⟨⟨r1, r2, r3⟩, z1, z2⟩, hr⟩
   obtain ⟨hf1, hf2⟩ := swapped_fit hp hq; rw [← hr] at hf1 hf2; dsimp only at hr hf1 hf2
   refine ls (op (p_move rfl) rfl) ?_
   refine ls (op (p_ext rfl (by repeat' constructor)) rfl) ?_
   refine ls (op (p_ext rfl (by repeat' constructor)) rfl) ?_
   refine ls (op (p_ext rfl (by repeat' constructor)) rfl) ?_
   refine ls (o_st rfl Tryz.sizeOf37 rfl rfl rfl rfl rfl (by repeat' constructor) (by repeat' constructor) (by repeat' constructor)) ?_
   refine ls (o_st rfl Tryz.sizeOf37 rfl rfl rfl rfl rfl (by repeat' constructor) (by repeat' constructor) (by repeat' constructor)) ?_
   refine ls (op (p_asg rfl) rfl) ?_
   refine ln ?_
   refine nthen ?_
   refine cs ?_
   refine cs ?_
   refine cr ?_
   refine ls (op (p_move rfl) rfl) ?_
   refine ls (op (p_not rfl) rfl) ?_
   refine ls (op (p_move rfl) rfl) ?_
   refine orX 4 22 26 rfl (subσ.cons (t := 0) rfl (subσ.cons (t := 1) rfl (subσ.cons (t := 2) rfl (subσ.cons (t := 3) rfl (subσ.cons (t := 4) rfl (subσ.cons (t := 5) rfl (subσ.cons (t := 6) rfl (subσ.cons (t := 12) rfl (subσ.cons (t := 14) rfl (subσ.cons (t := 15) rfl (subσ.cons (t := 16) rfl (subσ.cons (t := 13) rfl (subσ.cons (t := 17) rfl (subσ.cons (t := 18) rfl (subσ.cons (t := 19) rfl (subσ.nil _)))))))))))))))) ?_ ?_
   ·
    intro h22
    refine lskip rfl rfl rfl rfl rfl ?_
    refine lskip rfl rfl rfl rfl rfl ?_
    refine lskip rfl rfl rfl rfl rfl ?_
    refine ls (op (p_pickt rfl rfl) rfl) ?_
    refine ln (nmid (wk0 (by repeat (first | exact subσ.nil _ | refine subσ.cons rfl ?_)) (by repeat' (first | constructor | apply Sub.suf))))
   apply exI
   ·
    intro h22
    refine lwant rfl rfl rfl rfl (o_ldw Tryz.isAgg37 Tryz.sizeOf37 rfl (by repeat' constructor) (by rfl) rfl) ?_
    refine lwant rfl rfl rfl rfl (o_call (is := []) Tryz.call34 (c_primRight r1 z1 hf1) rfl rfl (by repeat' (first | constructor | apply Sub.suf)) rfl) ?_
    refine le ?_; intro x24
    refine lwant rfl rfl rfl rfl (op (p_not rfl) rfl) ?_
    refine ls (op (p_pickf rfl rfl) rfl) ?_
    refine ln (nmid (wk0 (by repeat (first | exact subσ.nil _ | refine subσ.cons rfl ?_)) (by repeat' (first | constructor | apply Sub.suf))))
   ·
    refine ls (op (p_move rfl) rfl) ?_
    refine orX 4 27 31 rfl (subσ.cons (t := 0) rfl (subσ.cons (t := 1) rfl (subσ.cons (t := 2) rfl (subσ.cons (t := 3) rfl (subσ.cons (t := 4) rfl (subσ.cons (t := 5) rfl (subσ.cons (t := 6) rfl (subσ.cons (t := 12) rfl (subσ.cons (t := 14) rfl (subσ.cons (t := 15) rfl (subσ.cons (t := 16) rfl (subσ.cons (t := 13) rfl (subσ.cons (t := 17) rfl (subσ.cons (t := 18) rfl (subσ.cons (t := 19) rfl (subσ.nil _)))))))))))))))) ?_ ?_
    ·
     intro h27
     refine lskip rfl rfl rfl rfl rfl ?_
     refine lskip rfl rfl rfl rfl rfl ?_
     refine lskip rfl rfl rfl rfl rfl ?_
     refine ls (op (p_pickt rfl rfl) rfl) ?_
     refine ln (nmid (wk0 (by repeat (first | exact subσ.nil _ | refine subσ.cons rfl ?_)) (by repeat' (first | constructor | apply Sub.suf))))
    apply exI
    ·
     intro h27
     refine lwant rfl rfl rfl rfl (o_ldw Tryz.isAgg37 Tryz.sizeOf37 rfl (by repeat' constructor) (by rfl) rfl) ?_
     refine lwant rfl rfl rfl rfl (o_call (is := []) Tryz.call34 (c_primRight r2 z2 hf2) rfl rfl (by repeat' (first | constructor | apply Sub.suf)) rfl) ?_
     refine le ?_; intro x29
     refine lwant rfl rfl rfl rfl (op (p_not rfl) rfl) ?_
     refine ls (op (p_pickf rfl rfl) rfl) ?_
     refine ln (nmid (wk0 (by repeat (first | exact subσ.nil _ | refine subσ.cons rfl ?_)) (by repeat' (first | constructor | apply Sub.suf))))
    ·
     refine ln ?_
     refine nthen ?_
     refine cc rfl ?_ ?_
     ·
      intro h31
      dsimp only at h31
      refine cs ?_
      refine cmono (fun a w h => nilSl (α := ByteArray) h) ?_
      refine cr ?_
      refine ls (op (p_bld sb37 rfl Fill.d) rfl) ?_
      refine ls (op (p_bld sb37 rfl Fill.d) rfl) ?_
      refine ls (o_st rfl Tryz.sizeOf37 rfl rfl rfl rfl rfl (by repeat' constructor) (by repeat' constructor) (by repeat' constructor)) ?_
      refine ls (o_st rfl Tryz.sizeOf37 rfl rfl rfl rfl rfl (by repeat' constructor) (by repeat' constructor) (by repeat' constructor)) ?_
      refine ls (op (p_asg rfl) rfl) ?_
      refine ln ?_
      refine nthen ?_
      refine cret ?_
      refine xret (fun _ _ h => h) ?_
      refine rret (is := []) ⟨((Prim.zero, Prim.zero, false), (((none, 0), (none, 0)), ((none, 0), (none, 0)))), by rw [swap, ← hr]; cases r3 <;> cases e1 : r1.right <;> cases e2 : r2.right <;> simp_all⟩ (Or.inl rfl) (Res.c rfl Tryz.isAgg37 Tryz.sizeOf37 (by repeat' constructor) (by rfl) (Res.c rfl Tryz.isAgg37 Tryz.sizeOf37 (by repeat' constructor) (by rfl) (Res.t rfl Res.d))) (rfl) rfl (by repeat' (first | constructor | apply Sub.suf))
     ·
      intro h31
      dsimp only at h31
      refine cskip ?_
      refine nthen ?_
      refine cs ?_
      refine cd [1, 3, 4, 5] [(0, b4, 0, _), (2, b5, 0, _)] TryzX.mixed (TOk.t (isBoxS (by repeat' constructor) (k := 6) (by repeat (first | exact Cut.d | apply Cut.t | apply Cut.s))) (TOk.t (isBoxS (by repeat' constructor) (k := 6) (by repeat (first | exact Cut.d | apply Cut.t | apply Cut.s))) TOk.d)) ?_
      refine tk 0 rfl (by kernel_rfl) (fun _ _ _ h => h) gnone (TTat (List.Mem.head _)) (p_lda Tryz.isAgg37 Tryz.sizeOf37 rfl rfl) rfl ?_
      refine tk 2 rfl (by kernel_rfl) (fun _ _ _ h => h) gnone (TTat (List.Mem.tail _ (List.Mem.head _))) (p_lda Tryz.isAgg37 Tryz.sizeOf37 rfl rfl) rfl ?_
      refine df 1 (by kernel_rfl) ?_
      refine doR rfl (o_call (is := []) Tryz.call40 (c_primClone r1 z1 hf1) rfl rfl (by repeat' (first | constructor | apply Sub.suf)) rfl) (TOk.x (by kernel_rfl) (TOk.t (isBoxE fun _ => isBoxS (by repeat' constructor) (k := 6) (by repeat (first | exact Cut.d | apply Cut.t | apply Cut.s))) TOk.d)) ?_
      refine ea ?_; intro y1
      refine df 3 (by kernel_rfl) ?_
      refine doR rfl (o_call (is := []) Tryz.call40 (c_primClone r2 z2 hf2) rfl rfl (by repeat' (first | constructor | apply Sub.suf)) rfl) (TOk.x (by kernel_rfl) (TOk.x (by kernel_rfl) TOk.d)) ?_
      refine ea ?_; intro y2
      refine df 4 (by kernel_rfl) ?_
      refine doR rfl (o_st rfl Tryz.sizeOf37 rfl rfl rfl rfl rfl (by repeat' constructor) (by repeat' constructor) (by repeat' constructor)) (TOk.x (by kernel_rfl) (TOk.x (by kernel_rfl) TOk.d)) ?_
      refine df 5 (by kernel_rfl) ?_
      refine doR rfl (o_st rfl Tryz.sizeOf37 rfl rfl rfl rfl rfl (by repeat' constructor) (by repeat' constructor) (by repeat' constructor)) (TOk.x (by kernel_rfl) (TOk.x (by kernel_rfl) TOk.d)) ?_
      refine tk 6 rfl (by kernel_rfl) (fun _ _ _ h => h) gnone (TTany _) (p_asg rfl) rfl ?_
      refine dn (by kernel_rfl) ?_
      refine nthen ?_
      refine cret ?_
      refine xret (fun _ _ h => h) ?_
      refine rret (is := []) ⟨((r1, r2, true), (y1, y2)), by rw [swap, ← hr]; cases r3 <;> cases e1 : r1.right <;> cases e2 : r2.right <;> simp_all⟩ (Or.inl rfl) (Res.c rfl Tryz.isAgg37 Tryz.sizeOf37 (by repeat' constructor) (by rfl) (Res.c rfl Tryz.isAgg37 Tryz.sizeOf37 (by repeat' constructor) (by rfl) (Res.t rfl Res.d))) (rfl) rfl (by repeat' (first | constructor | apply Sub.suf))
  ·
   intro h12
   have h12' : (p.right && q.right) = false := h12
   refine cskip ?_
   refine nthen ?_
   refine cs ?_
   refine cs ?_
   refine cr ?_
   refine ls (op (p_move rfl) rfl) ?_
   refine ls (op (p_not rfl) rfl) ?_
   refine ls (op (p_move rfl) rfl) ?_
   refine lskip rfl rfl rfl rfl rfl ?_
   refine lskip rfl rfl rfl rfl rfl ?_
   refine lskip rfl rfl rfl rfl rfl ?_
   refine ls (op (p_pickt rfl rfl) rfl) ?_
   refine ls (op (p_move rfl) rfl) ?_
   refine lskip rfl rfl rfl rfl rfl ?_
   refine lskip rfl rfl rfl rfl rfl ?_
   refine lskip rfl rfl rfl rfl rfl ?_
   refine ls (op (p_pickt rfl rfl) rfl) ?_
   refine ln ?_
   refine nthen ?_
   refine cc rfl (fun h => ?_) (fun h => by cases h)
   refine cs ?_
   refine cmono (fun a w h => nilSl (α := ByteArray) h) ?_
   refine cr ?_
   refine ls (op (p_bld sb37 rfl Fill.d) rfl) ?_
   refine ls (op (p_bld sb37 rfl Fill.d) rfl) ?_
   refine ls (o_st rfl Tryz.sizeOf37 rfl rfl rfl rfl rfl (by repeat' constructor) (by repeat' constructor) (by repeat' constructor)) ?_
   refine ls (o_st rfl Tryz.sizeOf37 rfl rfl rfl rfl rfl (by repeat' constructor) (by repeat' constructor) (by repeat' constructor)) ?_
   refine ls (op (p_asg rfl) rfl) ?_
   refine ln ?_
   refine nthen ?_
   refine cret ?_
   refine xret (fun _ _ h => h) ?_
   refine rret (is := []) ⟨((Prim.zero, Prim.zero, false), (((none, 0), (none, 0)), ((none, 0), (none, 0)))), by rw [swap, h12']; rfl⟩ (Or.inl rfl) (Res.c rfl Tryz.isAgg37 Tryz.sizeOf37 (by repeat' constructor) (by rfl) (Res.c rfl Tryz.isAgg37 Tryz.sizeOf37 (by repeat' constructor) (by rfl) (Res.t rfl Res.d))) (rfl) rfl (by repeat' (first | constructor | apply Sub.suf))

set_option maxRecDepth 100000 in
theorem c_Apart (p q : Prim) (yp yq : Rp.Lay Prim) (hp : p.fit) (hq : q.fit) : Con Tryz.prog 29 [sv p yp, sv q yq] [] (Rp.asn p yp ++ Rp.asn q yq) Unit (fun _ => .bool ((swap p q).2.2 && decide ((swap p q).1 = q) && decide ((swap p q).2.1 = p))) (fun _ => []) (fun _ => []) := by
 refine con Tryz.func29 rfl Tryz.ntmps29 rfl ?_
 intro M0 F0 w0
 refine cs ?_
 refine cr ?_
 refine ls (o_box rfl rfl rfl) ?_
 refine le ?_; intro b2
 refine ls (o_box rfl rfl rfl) ?_
 refine le ?_; intro b3
 refine ls (op (p_asg rfl) rfl) ?_
 refine ln ?_
 refine nthen ?_
 refine cs ?_
 refine cr ?_
 refine ls (o_ldw Tryz.isAgg37 Tryz.sizeOf37 rfl (by repeat' constructor) (by rfl) rfl) ?_
 refine ls (o_ldw Tryz.isAgg37 Tryz.sizeOf37 rfl (by repeat' constructor) (by rfl) rfl) ?_
 refine ls (o_call (is := []) Tryz.call12 (c_Swap p q yp yq hp hq) rfl rfl (by repeat' (first | constructor | apply Sub.suf)) rfl) ?_
 refine le ?_; rintro ⟨⟨⟨r1, r2, r3⟩, z1, z2⟩, hr⟩
 obtain ⟨e1, e2⟩ := swap_fit hp hq; rw [← hr] at e1 e2; dsimp only at hr e1 e2
 refine ls (op (p_move rfl) rfl) ?_
 refine ls (op (p_ext rfl (by repeat' constructor)) rfl) ?_
 refine ls (op (p_ext rfl (by repeat' constructor)) rfl) ?_
 refine ls (op (p_ext rfl (by repeat' constructor)) rfl) ?_
 refine ls (o_alloc Tryz.zeroValue37 rfl rfl) ?_
 refine le ?_; intro b5
 refine ls (o_alloc Tryz.zeroValue37 rfl rfl) ?_
 refine le ?_; intro b6
 refine ls (o_st rfl Tryz.sizeOf37 rfl rfl rfl rfl rfl (by repeat' constructor) (by repeat' constructor) (by repeat' constructor)) ?_
 refine ls (o_st rfl Tryz.sizeOf37 rfl rfl rfl rfl rfl (by repeat' constructor) (by repeat' constructor) (by repeat' constructor)) ?_
 refine ls (op (p_asg rfl) rfl) ?_
 refine ln ?_
 refine nthen ?_
 refine cs ?_
 refine cr ?_
 refine ls (op (p_move rfl) rfl) ?_
 refine ls (op (p_move rfl) rfl) ?_
 refine andX 4 16 20 rfl (subσ.cons (t := 0) rfl (subσ.cons (t := 1) rfl (subσ.cons (t := 2) rfl (subσ.cons (t := 3) rfl (subσ.cons (t := 4) rfl (subσ.cons (t := 9) rfl (subσ.cons (t := 10) rfl (subσ.cons (t := 11) rfl (subσ.cons (t := 8) rfl (subσ.cons (t := 12) rfl (subσ.cons (t := 13) rfl (subσ.cons (t := 14) rfl (subσ.cons (t := 5) rfl (subσ.cons (t := 6) rfl (subσ.nil _))))))))))))))) ?_ ?_
 ·
  intro h16
  refine lskip rfl rfl rfl rfl rfl ?_
  refine lskip rfl rfl rfl rfl rfl ?_
  refine lskip rfl rfl rfl rfl rfl ?_
  refine ls (op (p_pickf rfl rfl) rfl) ?_
  refine ln (nmid (wk0 (by repeat (first | exact subσ.nil _ | refine subσ.cons rfl ?_)) (by repeat' (first | constructor | apply Sub.suf))))
 apply exI
 ·
  intro h16
  refine lwant rfl rfl rfl rfl (o_ldw Tryz.isAgg37 Tryz.sizeOf37 rfl (by repeat' constructor) (by rfl) rfl) ?_
  refine lwant rfl rfl rfl rfl (o_ldw Tryz.isAgg37 Tryz.sizeOf37 rfl (by repeat' constructor) (by rfl) rfl) ?_
  refine lwant rfl rfl rfl rfl (o_call (is := []) Tryz.call27 (c_primSame r1 q z1 yq e1) rfl rfl (by repeat' (first | constructor | apply Sub.suf)) rfl) ?_
  refine le ?_; intro x19
  refine ls (op (p_pickt rfl rfl) rfl) ?_
  refine ln (nmid (wk0 (by repeat (first | exact subσ.nil _ | refine subσ.cons rfl ?_)) (by repeat' (first | constructor | apply Sub.suf))))
 ·
  refine ls (op (p_move rfl) rfl) ?_
  refine andX 4 21 25 rfl (subσ.cons (t := 0) rfl (subσ.cons (t := 1) rfl (subσ.cons (t := 2) rfl (subσ.cons (t := 3) rfl (subσ.cons (t := 4) rfl (subσ.cons (t := 9) rfl (subσ.cons (t := 10) rfl (subσ.cons (t := 11) rfl (subσ.cons (t := 8) rfl (subσ.cons (t := 12) rfl (subσ.cons (t := 13) rfl (subσ.cons (t := 14) rfl (subσ.cons (t := 5) rfl (subσ.cons (t := 6) rfl (subσ.nil _))))))))))))))) ?_ ?_
  ·
   intro h21
   refine lskip rfl rfl rfl rfl rfl ?_
   refine lskip rfl rfl rfl rfl rfl ?_
   refine lskip rfl rfl rfl rfl rfl ?_
   refine ls (op (p_pickf rfl rfl) rfl) ?_
   refine ln (nmid (wk0 (by repeat (first | exact subσ.nil _ | refine subσ.cons rfl ?_)) (by repeat' (first | constructor | apply Sub.suf))))
  apply exI
  ·
   intro h21
   refine lwant rfl rfl rfl rfl (o_ldw Tryz.isAgg37 Tryz.sizeOf37 rfl (by repeat' constructor) (by rfl) rfl) ?_
   refine lwant rfl rfl rfl rfl (o_ldw Tryz.isAgg37 Tryz.sizeOf37 rfl (by repeat' constructor) (by rfl) rfl) ?_
   refine lwant rfl rfl rfl rfl (o_call (is := []) Tryz.call27 (c_primSame r2 p z2 yp e2) rfl rfl (by repeat' (first | constructor | apply Sub.suf)) rfl) ?_
   refine le ?_; intro x24
   refine ls (op (p_pickt rfl rfl) rfl) ?_
   refine ln (nmid (wk0 (by repeat (first | exact subσ.nil _ | refine subσ.cons rfl ?_)) (by repeat' (first | constructor | apply Sub.suf))))
  ·
   refine ls (op (p_asg rfl) rfl) ?_
   refine ln ?_
   refine nthen ?_
   refine cret ?_
   refine xret (fun _ _ h => h) ?_
   refine rret (is := []) () (Or.inl rfl) (Res.t rfl Res.d) ?_ rfl (by repeat' (first | constructor | apply Sub.suf))
   dsimp only [packV]; rw [← hr]

set_option maxRecDepth 100000 in
theorem c_Needs (p q : Prim) (yp yq : Rp.Lay Prim) (hp : p.fit) (hq : q.fit) : Con Tryz.prog 28 [sv p yp, sv q yq] [] (Rp.asn p yp ++ Rp.asn q yq) Unit (fun _ => .bool (!(swap p q).2.2)) (fun _ => []) (fun _ => []) := by
 refine con Tryz.func28 rfl Tryz.ntmps28 rfl ?_
 intro M0 F0 w0
 refine cs ?_
 refine cr ?_
 refine ls (o_box rfl rfl rfl) ?_
 refine le ?_; intro b2
 refine ls (o_box rfl rfl rfl) ?_
 refine le ?_; intro b3
 refine ls (op (p_asg rfl) rfl) ?_
 refine ln ?_
 refine nthen ?_
 refine cs ?_
 refine cr ?_
 refine ls (o_ldw Tryz.isAgg37 Tryz.sizeOf37 rfl (by repeat' constructor) (by rfl) rfl) ?_
 refine ls (o_ldw Tryz.isAgg37 Tryz.sizeOf37 rfl (by repeat' constructor) (by rfl) rfl) ?_
 refine ls (o_call (is := []) Tryz.call12 (c_Swap p q yp yq hp hq) rfl rfl (by repeat' (first | constructor | apply Sub.suf)) rfl) ?_
 refine le ?_; rintro ⟨⟨⟨r1, r2, r3⟩, z1, z2⟩, hr⟩
 obtain ⟨e1, e2⟩ := swap_fit hp hq; rw [← hr] at e1 e2; dsimp only at hr e1 e2
 refine ls (op (p_move rfl) rfl) ?_
 refine ls (op (p_ext rfl (by repeat' constructor)) rfl) ?_
 refine ls (op (p_ext rfl (by repeat' constructor)) rfl) ?_
 refine ls (op (p_ext rfl (by repeat' constructor)) rfl) ?_
 refine ls (o_alloc Tryz.zeroValue37 rfl rfl) ?_
 refine le ?_; intro b5
 refine ls (o_alloc Tryz.zeroValue37 rfl rfl) ?_
 refine le ?_; intro b6
 refine ls (o_st rfl Tryz.sizeOf37 rfl rfl rfl rfl rfl (by repeat' constructor) (by repeat' constructor) (by repeat' constructor)) ?_
 refine ls (o_st rfl Tryz.sizeOf37 rfl rfl rfl rfl rfl (by repeat' constructor) (by repeat' constructor) (by repeat' constructor)) ?_
 refine ls (op (p_asg rfl) rfl) ?_
 refine ln ?_
 refine nthen ?_
 refine cs ?_
 refine cr ?_
 refine ls (op (p_move rfl) rfl) ?_
 refine ls (op (p_not rfl) rfl) ?_
 refine ls (op (p_asg rfl) rfl) ?_
 refine ln ?_
 refine nthen ?_
 refine cret ?_
 refine xret (fun _ _ h => h) ?_
 refine rret (is := []) () (Or.inl rfl) (Res.t rfl Res.d) ?_ rfl (by repeat' (first | constructor | apply Sub.suf))
 dsimp only [packV]; rw [← hr]

end Go.Proofs.YtjeampaghmcefaaGreatDoor.X

end
section
set_option linter.unusedVariables false
set_option linter.unusedSimpArgs false
namespace Go.Proofs.YtjeampaghmcefaaGreatDoor.X
open Go Go.RowKit Go.Proofs Go.Sx
attribute [local irreducible] slA isA box row

theorem byteAt_eq (s : ByteArray) (k : Nat) (h : k < (ofB s).length) : byteAt s k = ((ofB s)[k]).toNat := by
 unfold byteAt
 rw [List.getD_eq_getElem?_getD, List.getElem?_eq_getElem (show k < s.data.toList.length from h)]
 rfl
theorem take_no10 {l : List UInt8} {k : Nat} (hk : k < l.length) (h : (l.take k).contains 10 = false) (hn : ¬ l[k].toNat = 10) : (l.take (k + 1)).contains 10 = false := by
 rw [List.take_succ_eq_append_getElem hk]
 simp only [List.contains_eq_mem, List.mem_append, List.mem_singleton, decide_eq_false_iff_not, not_or] at h ⊢
 exact ⟨h, fun e => hn (by rw [← e]; rfl)⟩
theorem has10 {l : List UInt8} {k : Nat} (hk : k < l.length) (hn : l[k].toNat = 10) : l.contains 10 = true := by
 have e : l[k] = 10 := UInt8.toNat_inj.1 hn
 simp only [List.contains_eq_mem, decide_eq_true_eq]
 rw [← e]
 exact List.getElem_mem hk
theorem all_not {α : Type} {f : α → Bool} {l : List α} {x : α} (h : x ∈ l) (hf : f x = false) : l.all f = false := by
 rw [List.all_eq_false]
 exact ⟨x, h, by simp [hf]⟩
theorem named_byte {b : UInt8} {c : Nat} (h : c = b.toNat) : (!(decide ((97 : Int) ≤ (c : Int)) && decide ((c : Int) ≤ 122)) && !(decide ((48 : Int) ≤ (c : Int)) && decide ((c : Int) ≤ 57)) && !decide ((c : Int) = 46) && !decide ((c : Int) = 45) && !decide ((c : Int) = 95) && !decide ((c : Int) = 47)) = !nameB b := by
 subst h
 unfold nameB
 rw [Bool.eq_iff_iff]
 simp
 omega


set_option maxRecDepth 100000 in
theorem c_refLine (s : ByteArray) (hs : s.size ≤ 2000000) : Con Tryz.prog 64 [.string s] [] [] Unit (fun _ => .bool (lineOk s)) (fun _ => []) (fun _ => []) := by
 refine con Tryz.func64 rfl Tryz.ntmps64 rfl ?_
 intro M0 F0 w0
 refine cs ?_
 refine cr ?_
 refine ls (op (p_asg rfl) rfl) ?_
 refine ln ?_
 refine nthen ?_
 refine cs ?_
 refine cs ?_
 refine cr ?_
 refine ls (op (p_asg rfl) rfl) ?_
 refine ln ?_
 refine nthen ?_
 refine cb ?_
 refine cl (ι := {k : Nat // k ≤ s.size ∧ ((ofB s).take k).contains 10 = false}) (fun i => St M0 F0 w0 17 [(0, .string s), (3, .int .i64 (i.1 : Int))] [] []) (fun i => s.size - i.1) ⟨0, by simp⟩ (wk0 (by repeat (first | exact subσ.nil _ | refine subσ.cons rfl ?_)) (by repeat' (first | constructor | apply Sub.suf))) ?_
 rintro ⟨k, hk, hkk⟩
 refine cmono (S' := St M0 F0 w0 17 [(0, .string s), (3, .int .i64 (k : Int))] [] []) (fun _ _ h => h) ?_
 refine cs ?_
 refine cs ?_
 refine cr ?_
 refine ls (op (p_move rfl) rfl) ?_
 refine ls (op (p_move rfl) rfl) ?_
 refine ls (op (p_lens rfl Tryz.underlying9) rfl) ?_
 refine ls (op (p_icmp rfl rfl rfl) rfl) ?_
 refine ln ?_
 refine nthen ?_
 refine cc rfl ?_ ?_
 ·
  intro h7
  try simp only [decide_eq_true_eq, decide_eq_false_iff_not, Bool.not_eq_true', Bool.not_eq_false', Int.not_lt, Int.not_le, ge_iff_le, Bool.not_true, Bool.not_false] at h7
  have hk1 : k < s.size := by omega
  have hk2 : k < (ofB s).length := hk1
  have hb := byteAt_eq s k hk2
  refine cskip ?_
  refine nthen ?_
  refine cs ?_
  refine cb ?_
  refine cs ?_
  refine cr ?_
  refine ls (op (p_move rfl) rfl) ?_
  refine ls (op (p_move rfl) rfl) ?_
  refine ls (op (p_idxs k hk1 rfl Tryz.underlying9 rfl rfl) rfl) ?_
  refine ls (op (p_icmp rfl rfl rfl) rfl) ?_
  refine ln ?_
  refine nthen ?_
  refine cc rfl ?_ ?_
  ·
   intro h13
   try simp only [decide_eq_true_eq, decide_eq_false_iff_not, Bool.not_eq_true', Bool.not_eq_false', Int.not_lt, Int.not_le, ge_iff_le, Bool.not_true, Bool.not_false] at h13
   refine cs ?_
   refine cr ?_
   refine ls (op (p_asg rfl) rfl) ?_
   refine ln ?_
   refine nthen ?_
   refine cret ?_
   refine xret (fun _ _ h => h) ?_
   refine rret (is := []) () (Or.inl rfl) (Res.t rfl Res.d) ?_ rfl (by repeat' (first | constructor | apply Sub.suf))
   simp only [packV, lineOk]; rw [has10 hk2 (by omega)]; simp
  ·
   intro h13
   try simp only [decide_eq_true_eq, decide_eq_false_iff_not, Bool.not_eq_true', Bool.not_eq_false', Int.not_lt, Int.not_le, ge_iff_le, Bool.not_true, Bool.not_false] at h13
   refine cskip ?_
   refine nblock ?_
   refine nthen ?_
   refine cr ?_
   refine ls (op (p_move rfl) rfl) ?_
   refine ls (op (p_add rfl rfl (by omega)) rfl) ?_
   refine ls (op (p_asg rfl) rfl) ?_
   refine ln ?_
   refine nnext ⟨k + 1, hk1, take_no10 hk2 hkk (by omega)⟩ (by dsimp only; omega) (wk0 (by repeat (first | exact subσ.nil _ | refine subσ.cons rfl ?_)) (by repeat' (first | constructor | apply Sub.suf)))
 ·
  intro h7
  try simp only [decide_eq_true_eq, decide_eq_false_iff_not, Bool.not_eq_true', Bool.not_eq_false', Int.not_lt, Int.not_le, ge_iff_le, Bool.not_true, Bool.not_false] at h7
  refine cexit ?_
  refine xthen ?_
  refine xthen ?_
  refine xblock ?_
  refine nthen ?_
  refine cs ?_
  refine cr ?_
  refine ls (op (p_move rfl) rfl) ?_
  refine ls (op (p_lens rfl Tryz.underlying9) rfl) ?_
  refine ls (op (p_icmp rfl rfl rfl) rfl) ?_
  refine ls (op (p_asg rfl) rfl) ?_
  refine ln ?_
  refine nthen ?_
  refine cret ?_
  refine xret (fun _ _ h => h) ?_
  refine rret (is := []) () (Or.inl rfl) (Res.t rfl Res.d) ?_ rfl (by repeat' (first | constructor | apply Sub.suf))
  simp only [packV, lineOk]; rw [List.take_of_length_le (by show s.size ≤ k; omega)] at hkk; rw [hkk]; simp

set_option maxRecDepth 100000 in
theorem c_refAll (l : List ByteArray) (A : Option Addr) (c : Nat) (hl : l.length ≤ 2000000) (hs : ∀ s ∈ l, s.size ≤ 2000000) : Con Tryz.prog 71 [.slice A l.length c] [] [slA A l] Unit (fun _ => .bool (l.all lineOk)) (fun _ => []) (fun _ => []) := by
 refine con Tryz.func71 rfl Tryz.ntmps71 rfl ?_
 intro M0 F0 w0
 refine cs ?_
 refine cr ?_
 refine ls (op (p_asg rfl) rfl) ?_
 refine ln ?_
 refine nthen ?_
 refine cs ?_
 refine cs ?_
 refine cr ?_
 refine ls (op (p_asg rfl) rfl) ?_
 refine ln ?_
 refine nthen ?_
 refine cb ?_
 refine cl (ι := {k : Nat // k ≤ l.length ∧ (l.take k).all lineOk = true}) (fun i => St M0 F0 w0 16 [(0, .slice A l.length c), (3, .int .i64 (i.1 : Int))] [] [slA A l]) (fun i => l.length - i.1) ⟨0, by simp⟩ (wk0 (by repeat (first | exact subσ.nil _ | refine subσ.cons rfl ?_)) (by repeat' (first | constructor | apply Sub.suf))) ?_
 rintro ⟨k, hk, hkk⟩
 refine cmono (S' := St M0 F0 w0 16 [(0, .slice A l.length c), (3, .int .i64 (k : Int))] [] [slA A l]) (fun _ _ h => h) ?_
 refine cs ?_
 refine cs ?_
 refine cr ?_
 refine ls (op (p_move rfl) rfl) ?_
 refine ls (op (p_move rfl) rfl) ?_
 refine ls (op (p_lenl rfl Tryz.underlying23) rfl) ?_
 refine ls (op (p_icmp rfl rfl rfl) rfl) ?_
 refine ln ?_
 refine nthen ?_
 refine cc rfl ?_ ?_
 ·
  intro h7
  try simp only [decide_eq_true_eq, decide_eq_false_iff_not, Bool.not_eq_true', Bool.not_eq_false', Int.not_lt, Int.not_le, ge_iff_le, Bool.not_true, Bool.not_false] at h7
  have hk1 : k < l.length := by omega
  refine cskip ?_
  refine nthen ?_
  refine cs ?_
  refine cb ?_
  refine cs ?_
  refine elC (by repeat' constructor) k (List.getElem?_eq_getElem (l := l) hk1) ?_; rintro zbp zop zyp hAp
  refine cr ?_
  refine ls (op (p_move rfl) rfl) ?_
  refine ls (op (p_move rfl) rfl) ?_
  refine ls (op (p_ia k hAp hk1 rfl Tryz.underlying23 Tryz.sizeOf9 rfl rfl) rfl) ?_
  refine ls (o_ldi Tryz.isAgg9 rfl (by repeat' constructor) 0 rfl (by repeat (first | exact Cut.d | apply Cut.t | apply Cut.s)) rfl) ?_
  refine ls (o_call (is := []) Tryz.call64 (c_refLine _ (hs _ (List.getElem_mem hk1))) rfl rfl (by repeat' (first | constructor | apply Sub.suf)) rfl) ?_
  refine le ?_; intro x14
  refine ls (op (p_not rfl) rfl) ?_
  refine ln ?_
  refine nthen ?_
  refine cc rfl ?_ ?_
  ·
   intro h15
   try simp only [decide_eq_true_eq, decide_eq_false_iff_not, Bool.not_eq_true', Bool.not_eq_false', Int.not_lt, Int.not_le, ge_iff_le, Bool.not_true, Bool.not_false] at h15
   refine cs ?_
   refine cr ?_
   refine ls (op (p_asg rfl) rfl) ?_
   refine ln ?_
   refine nthen ?_
   refine cret ?_
   refine xret (fun _ _ h => h) ?_
   refine rret (is := []) () (Or.inl rfl) (Res.t rfl Res.d) ?_ rfl (by repeat' (first | constructor | apply Sub.suf))
   simp only [packV]; rw [all_not (List.getElem_mem hk1) h15]
  ·
   intro h15
   try simp only [decide_eq_true_eq, decide_eq_false_iff_not, Bool.not_eq_true', Bool.not_eq_false', Int.not_lt, Int.not_le, ge_iff_le, Bool.not_true, Bool.not_false] at h15
   refine cskip ?_
   refine nblock ?_
   refine nthen ?_
   refine cr ?_
   refine ls (op (p_move rfl) rfl) ?_
   refine ls (op (p_add rfl rfl (by omega)) rfl) ?_
   refine ls (op (p_asg rfl) rfl) ?_
   refine ln ?_
   refine nnext ⟨k + 1, hk1, by rw [List.take_succ_eq_append_getElem hk1, List.all_append, hkk]; simp [h15]⟩ (by dsimp only; omega) (wk0 (by repeat (first | exact subσ.nil _ | refine subσ.cons rfl ?_)) (by repeat' (first | constructor | apply Sub.suf)))
 ·
  intro h7
  try simp only [decide_eq_true_eq, decide_eq_false_iff_not, Bool.not_eq_true', Bool.not_eq_false', Int.not_lt, Int.not_le, ge_iff_le, Bool.not_true, Bool.not_false] at h7
  refine cexit ?_
  refine xthen ?_
  refine xthen ?_
  refine xblock ?_
  refine nthen ?_
  refine cs ?_
  refine cr ?_
  refine ls (op (p_asg rfl) rfl) ?_
  refine ln ?_
  refine nthen ?_
  refine cret ?_
  refine xret (fun _ _ h => h) ?_
  refine rret (is := []) () (Or.inl rfl) (Res.t rfl Res.d) ?_ rfl (by repeat' (first | constructor | apply Sub.suf))
  simp only [packV]; rw [List.take_of_length_le (by omega)] at hkk; rw [hkk]

set_option maxRecDepth 100000 in
theorem c_refSame1 (l m : List ByteArray) (A B : Option Addr) (c c' : Nat) (hl : l.length ≤ 2000000) : Con Tryz.prog 120 [.slice A l.length c, .slice B m.length c'] [] [slA A l, slA B m] Unit (fun _ => .bool (decide (l = m))) (fun _ => []) (fun _ => []) := by
 refine con Tryz.func120 rfl Tryz.ntmps120 rfl ?_
 intro M0 F0 w0
 refine cs ?_
 refine cr ?_
 refine ls (op (p_asg rfl) rfl) ?_
 refine ln ?_
 refine nthen ?_
 refine cs ?_
 refine cs ?_
 refine cr ?_
 refine ls (op (p_move rfl) rfl) ?_
 refine ls (op (p_lenl rfl Tryz.underlying23) rfl) ?_
 refine ls (op (p_move rfl) rfl) ?_
 refine ls (op (p_lenl rfl Tryz.underlying23) rfl) ?_
 refine ls (op (p_icmp rfl rfl rfl) rfl) ?_
 refine ln ?_
 refine nthen ?_
 refine cc rfl ?_ ?_
 ·
  intro h10
  try simp only [decide_eq_true_eq, decide_eq_false_iff_not, Bool.not_eq_true', Bool.not_eq_false', Int.not_lt, Int.not_le, ge_iff_le, Bool.not_true, Bool.not_false] at h10
  refine cs ?_
  refine cr ?_
  refine ls (op (p_asg rfl) rfl) ?_
  refine ln ?_
  refine nthen ?_
  refine cret ?_
  refine xret (fun _ _ h => h) ?_
  refine rret (is := []) () (Or.inl rfl) (Res.t rfl Res.d) ?_ rfl (by repeat' (first | constructor | apply Sub.suf))
  simp [packV]; intro e; rw [e] at h10; exact h10 rfl
 ·
  intro h10
  try simp only [decide_eq_true_eq, decide_eq_false_iff_not, Bool.not_eq_true', Bool.not_eq_false', Int.not_lt, Int.not_le, ge_iff_le, Bool.not_true, Bool.not_false] at h10
  refine cskip ?_
  refine nthen ?_
  refine cs ?_
  refine cs ?_
  refine cr ?_
  refine ls (op (p_asg rfl) rfl) ?_
  refine ln ?_
  refine nthen ?_
  refine cb ?_
  refine cl (ι := {k : Nat // k ≤ l.length ∧ l.take k = m.take k}) (fun i => St M0 F0 w0 26 [(0, .slice A l.length c), (1, .slice B m.length c'), (5, .int .i64 (i.1 : Int))] [] [slA A l, slA B m]) (fun i => l.length - i.1) ⟨0, by simp⟩ (wk0 (by repeat (first | exact subσ.nil _ | refine subσ.cons rfl ?_)) (by repeat' (first | constructor | apply Sub.suf))) ?_
  rintro ⟨k, hk, hkk⟩
  refine cmono (S' := St M0 F0 w0 26 [(0, .slice A l.length c), (1, .slice B m.length c'), (5, .int .i64 (k : Int))] [] [slA A l, slA B m]) (fun _ _ h => h) ?_
  refine cs ?_
  refine cs ?_
  refine cr ?_
  refine ls (op (p_move rfl) rfl) ?_
  refine ls (op (p_move rfl) rfl) ?_
  refine ls (op (p_lenl rfl Tryz.underlying23) rfl) ?_
  refine ls (op (p_icmp rfl rfl rfl) rfl) ?_
  refine ln ?_
  refine nthen ?_
  refine cc rfl ?_ ?_
  ·
   intro h14
   try simp only [decide_eq_true_eq, decide_eq_false_iff_not, Bool.not_eq_true', Bool.not_eq_false', Int.not_lt, Int.not_le, ge_iff_le, Bool.not_true, Bool.not_false] at h14
   have hk1 : k < l.length := by omega
   have hk2 : k < m.length := by omega
   refine cskip ?_
   refine nthen ?_
   refine cs ?_
   refine cb ?_
   refine cs ?_
   refine elC (by repeat' constructor) k (List.getElem?_eq_getElem (l := l) hk1) ?_; rintro zbp zop zyp hAp
   refine elC (by repeat' constructor) k (List.getElem?_eq_getElem (l := m) hk2) ?_; rintro zbq zoq zyq hAq
   refine cd [] [(3, zbp, zop + k * Rp.size ByteArray, _), (7, zbq, zoq + k * Rp.size ByteArray, _)] TryzX.mixed (TOk.t (isInS (by repeat' constructor) (k := 0) rfl (z := 1) (by repeat (first | exact Cut.d | apply Cut.t | apply Cut.s))) (TOk.t (isInS (by repeat' constructor) (k := 0) rfl (z := 1) (by repeat (first | exact Cut.d | apply Cut.t | apply Cut.s))) TOk.d)) ?_
   refine tk 0 rfl (by kernel_rfl) (fun _ _ _ h => h) gnone (TTany _) (p_move rfl) rfl ?_
   refine tk 1 rfl (by kernel_rfl) (fun _ _ _ h => h) gnone (TTany _) (p_move rfl) rfl ?_
   refine tk 2 rfl (by kernel_rfl) (fun _ _ _ h => h) gnone (TTany _) (p_ia k hAp hk1 rfl Tryz.underlying23 Tryz.sizeOf9 rfl rfl) rfl ?_
   refine tk 3 rfl (by kernel_rfl) (fun _ _ _ h => h) gnone (TTat (List.Mem.head _)) (p_ld Tryz.isAgg9 rfl) rfl ?_
   refine tk 4 rfl (by kernel_rfl) (fun _ _ _ h => h) gnone (TTany _) (p_move rfl) rfl ?_
   refine tk 5 rfl (by kernel_rfl) (fun _ _ _ h => h) gnone (TTany _) (p_move rfl) rfl ?_
   refine tk 6 rfl (by kernel_rfl) (fun _ _ _ h => h) gnone (TTany _) (p_ia k hAq hk2 rfl Tryz.underlying23 Tryz.sizeOf9 rfl rfl) rfl ?_
   refine tk 7 rfl (by kernel_rfl) (fun _ _ _ h => h) gnone (TTat (List.Mem.tail _ (List.Mem.head _))) (p_ld Tryz.isAgg9 rfl) rfl ?_
   refine tk 8 rfl (by kernel_rfl) (fun _ _ _ h => h) gnone (TTany _) (p_sne rfl rfl) rfl ?_
   refine dn (by kernel_rfl) ?_
   refine nthen ?_
   refine cc rfl ?_ ?_
   ·
    intro h25
    try simp only [decide_eq_true_eq, decide_eq_false_iff_not, Bool.not_eq_true', Bool.not_eq_false', Int.not_lt, Int.not_le, ge_iff_le, Bool.not_true, Bool.not_false] at h25
    refine cs ?_
    refine cr ?_
    refine ls (op (p_asg rfl) rfl) ?_
    refine ln ?_
    refine nthen ?_
    refine cret ?_
    refine xret (fun _ _ h => h) ?_
    refine rret (is := []) () (Or.inl rfl) (Res.t rfl Res.d) ?_ rfl (by repeat' (first | constructor | apply Sub.suf))
    simp [packV]; rintro rfl; exact h25 rfl
   ·
    intro h25
    try simp only [decide_eq_true_eq, decide_eq_false_iff_not, Bool.not_eq_true', Bool.not_eq_false', Int.not_lt, Int.not_le, ge_iff_le, Bool.not_true, Bool.not_false] at h25
    refine cskip ?_
    refine nblock ?_
    refine nthen ?_
    refine cr ?_
    refine ls (op (p_move rfl) rfl) ?_
    refine ls (op (p_add rfl rfl (by omega)) rfl) ?_
    refine ls (op (p_asg rfl) rfl) ?_
    refine ln ?_
    refine nnext ⟨k + 1, hk1, by rw [List.take_succ_eq_append_getElem hk1, List.take_succ_eq_append_getElem hk2, hkk, h25]⟩ (by dsimp only; omega) (wk0 (by repeat (first | exact subσ.nil _ | refine subσ.cons rfl ?_)) (by repeat' (first | constructor | apply Sub.suf)))
  ·
   intro h14
   try simp only [decide_eq_true_eq, decide_eq_false_iff_not, Bool.not_eq_true', Bool.not_eq_false', Int.not_lt, Int.not_le, ge_iff_le, Bool.not_true, Bool.not_false] at h14
   refine cexit ?_
   refine xthen ?_
   refine xthen ?_
   refine xblock ?_
   refine nthen ?_
   refine cs ?_
   refine cr ?_
   refine ls (op (p_asg rfl) rfl) ?_
   refine ln ?_
   refine nthen ?_
   refine cret ?_
   refine xret (fun _ _ h => h) ?_
   refine rret (is := []) () (Or.inl rfl) (Res.t rfl Res.d) ?_ rfl (by repeat' (first | constructor | apply Sub.suf))
   simp [packV]; have := List.take_of_length_le (l := l) (i := k) (by omega); have := List.take_of_length_le (l := m) (i := k) (by omega); simp_all

set_option maxRecDepth 100000 in
theorem c_refNamed (s : ByteArray) (hs : s.size ≤ 2000000) : Con Tryz.prog 68 [.string s] [] [] Unit (fun _ => .bool (nameOk s)) (fun _ => []) (fun _ => []) := by
 refine con Tryz.func68 rfl Tryz.ntmps68 rfl ?_
 intro M0 F0 w0
 refine cs ?_
 refine cr ?_
 refine ls (op (p_asg rfl) rfl) ?_
 refine ln ?_
 refine nthen ?_
 refine cs ?_
 refine cs ?_
 refine cr ?_
 refine ls (op (p_asg rfl) rfl) ?_
 refine ln ?_
 refine nthen ?_
 refine cb ?_
 refine cl (ι := {k : Nat // k ≤ s.size ∧ ((ofB s).take k).all nameB = true}) (fun i => St M0 F0 w0 54 [(0, .string s), (3, .int .i64 (i.1 : Int))] [] []) (fun i => s.size - i.1) ⟨0, by simp⟩ (wk0 (by repeat (first | exact subσ.nil _ | refine subσ.cons rfl ?_)) (by repeat' (first | constructor | apply Sub.suf))) ?_
 rintro ⟨k, hk, hkk⟩
 refine cmono (S' := St M0 F0 w0 54 [(0, .string s), (3, .int .i64 (k : Int))] [] []) (fun _ _ h => h) ?_
 refine cs ?_
 refine cs ?_
 refine cr ?_
 refine ls (op (p_move rfl) rfl) ?_
 refine ls (op (p_move rfl) rfl) ?_
 refine ls (op (p_lens rfl Tryz.underlying9) rfl) ?_
 refine ls (op (p_icmp rfl rfl rfl) rfl) ?_
 refine ln ?_
 refine nthen ?_
 refine cc rfl ?_ ?_
 ·
  intro h8
  try simp only [decide_eq_true_eq, decide_eq_false_iff_not, Bool.not_eq_true', Bool.not_eq_false', Int.not_lt, Int.not_le, ge_iff_le, Bool.not_true, Bool.not_false] at h8
  have hk1 : k < s.size := by omega
  have hk2 : k < (ofB s).length := hk1
  have hb := byteAt_eq s k hk2
  refine cskip ?_
  refine nthen ?_
  refine cs ?_
  refine cb ?_
  refine cs ?_
  refine cr ?_
  refine ls (op (p_move rfl) rfl) ?_
  refine ls (op (p_move rfl) rfl) ?_
  refine ls (op (p_idxs k hk1 rfl Tryz.underlying9 rfl rfl) rfl) ?_
  refine ls (op (p_asg rfl) rfl) ?_
  refine ln ?_
  refine nthen ?_
  refine cs ?_
  refine cr ?_
  refine ls (op (p_move rfl) rfl) ?_
  refine ls (op (p_icmp rfl rfl rfl) rfl) ?_
  refine ls (op (p_move rfl) rfl) ?_
  refine andX 3 16 19 rfl (subσ.cons (t := 0) rfl (subσ.cons (t := 3) rfl (subσ.cons (t := 5) rfl (subσ.cons (t := 6) rfl (subσ.cons (t := 7) rfl (subσ.cons (t := 8) rfl (subσ.cons (t := 11) rfl (subσ.cons (t := 12) rfl (subσ.cons (t := 13) rfl (subσ.cons (t := 4) rfl (subσ.nil _))))))))))) ?_ ?_
  ·
   intro h16
   refine lskip rfl rfl rfl rfl rfl ?_
   refine lskip rfl rfl rfl rfl rfl ?_
   refine ls (op (p_pickf rfl rfl) rfl) ?_
   refine ln (nmid (wk0 (by repeat (first | exact subσ.nil _ | refine subσ.cons rfl ?_)) (by repeat' (first | constructor | apply Sub.suf))))
  apply exI
  ·
   intro h16
   refine lwant rfl rfl rfl rfl (op (p_move rfl) rfl) ?_
   refine lwant rfl rfl rfl rfl (op (p_icmp rfl rfl rfl) rfl) ?_
   refine ls (op (p_pickt rfl rfl) rfl) ?_
   refine ln (nmid (wk0 (by repeat (first | exact subσ.nil _ | refine subσ.cons rfl ?_)) (by repeat' (first | constructor | apply Sub.suf))))
  ·
   refine ls (op (p_not rfl) rfl) ?_
   refine ls (op (p_move rfl) rfl) ?_
   refine andX 8 21 29 rfl (subσ.cons (t := 0) rfl (subσ.cons (t := 3) rfl (subσ.cons (t := 5) rfl (subσ.cons (t := 6) rfl (subσ.cons (t := 7) rfl (subσ.cons (t := 8) rfl (subσ.cons (t := 11) rfl (subσ.cons (t := 12) rfl (subσ.cons (t := 13) rfl (subσ.cons (t := 4) rfl (subσ.nil _))))))))))) ?_ ?_
   ·
    intro h21
    refine lskip rfl rfl rfl rfl rfl ?_
    refine lskip rfl rfl rfl rfl rfl ?_
    refine lskip rfl rfl rfl rfl rfl ?_
    refine lskipu rfl rfl rfl rfl ?_
    refine lskipu rfl rfl rfl rfl ?_
    refine lskip rfl rfl rfl rfl rfl ?_
    refine lskip rfl rfl rfl rfl rfl ?_
    refine ls (op (p_pickf rfl rfl) rfl) ?_
    refine ln (nmid (wk0 (by repeat (first | exact subσ.nil _ | refine subσ.cons rfl ?_)) (by repeat' (first | constructor | apply Sub.suf))))
   apply exI
   ·
    intro h21
    refine lwant rfl rfl rfl rfl (op (p_move rfl) rfl) ?_
    refine lwant rfl rfl rfl rfl (op (p_icmp rfl rfl rfl) rfl) ?_
    refine lwant rfl rfl rfl rfl (op (p_move rfl) rfl) ?_
    refine andX 3 24 27 rfl (subσ.cons (t := 0) rfl (subσ.cons (t := 3) rfl (subσ.cons (t := 5) rfl (subσ.cons (t := 6) rfl (subσ.cons (t := 7) rfl (subσ.cons (t := 8) rfl (subσ.cons (t := 11) rfl (subσ.cons (t := 12) rfl (subσ.cons (t := 13) rfl (subσ.cons (t := 4) rfl (subσ.cons (t := 21) rfl (subσ.nil _)))))))))))) ?_ ?_
    ·
     intro h24
     refine lskip rfl rfl rfl rfl rfl ?_
     refine lskip rfl rfl rfl rfl rfl ?_
     refine lwant rfl rfl rfl rfl (op (p_pickf rfl rfl) rfl) ?_
     refine ln (nmid (wk0 (by repeat (first | exact subσ.nil _ | refine subσ.cons rfl ?_)) (by repeat' (first | constructor | apply Sub.suf))))
    apply exI
    ·
     intro h24
     refine lwant rfl rfl rfl rfl (op (p_move rfl) rfl) ?_
     refine lwant rfl rfl rfl rfl (op (p_icmp rfl rfl rfl) rfl) ?_
     refine lwant rfl rfl rfl rfl (op (p_pickt rfl rfl) rfl) ?_
     refine ln (nmid (wk0 (by repeat (first | exact subσ.nil _ | refine subσ.cons rfl ?_)) (by repeat' (first | constructor | apply Sub.suf))))
    ·
     refine lwant rfl rfl rfl rfl (op (p_not rfl) rfl) ?_
     refine ls (op (p_pickt rfl rfl) rfl) ?_
     refine ln (nmid (wk0 (by repeat (first | exact subσ.nil _ | refine subσ.cons rfl ?_)) (by repeat' (first | constructor | apply Sub.suf))))
   ·
    refine ls (op (p_move rfl) rfl) ?_
    refine andX 3 30 33 rfl (subσ.cons (t := 0) rfl (subσ.cons (t := 3) rfl (subσ.cons (t := 5) rfl (subσ.cons (t := 6) rfl (subσ.cons (t := 7) rfl (subσ.cons (t := 8) rfl (subσ.cons (t := 11) rfl (subσ.cons (t := 12) rfl (subσ.cons (t := 13) rfl (subσ.cons (t := 4) rfl (subσ.nil _))))))))))) ?_ ?_
    ·
     intro h30
     refine lskip rfl rfl rfl rfl rfl ?_
     refine lskip rfl rfl rfl rfl rfl ?_
     refine ls (op (p_pickf rfl rfl) rfl) ?_
     refine ln (nmid (wk0 (by repeat (first | exact subσ.nil _ | refine subσ.cons rfl ?_)) (by repeat' (first | constructor | apply Sub.suf))))
    apply exI
    ·
     intro h30
     refine lwant rfl rfl rfl rfl (op (p_move rfl) rfl) ?_
     refine lwant rfl rfl rfl rfl (op (p_icmp rfl rfl rfl) rfl) ?_
     refine ls (op (p_pickt rfl rfl) rfl) ?_
     refine ln (nmid (wk0 (by repeat (first | exact subσ.nil _ | refine subσ.cons rfl ?_)) (by repeat' (first | constructor | apply Sub.suf))))
    ·
     refine ls (op (p_move rfl) rfl) ?_
     refine andX 3 34 37 rfl (subσ.cons (t := 0) rfl (subσ.cons (t := 3) rfl (subσ.cons (t := 5) rfl (subσ.cons (t := 6) rfl (subσ.cons (t := 7) rfl (subσ.cons (t := 8) rfl (subσ.cons (t := 11) rfl (subσ.cons (t := 12) rfl (subσ.cons (t := 13) rfl (subσ.cons (t := 4) rfl (subσ.nil _))))))))))) ?_ ?_
     ·
      intro h34
      refine lskip rfl rfl rfl rfl rfl ?_
      refine lskip rfl rfl rfl rfl rfl ?_
      refine ls (op (p_pickf rfl rfl) rfl) ?_
      refine ln (nmid (wk0 (by repeat (first | exact subσ.nil _ | refine subσ.cons rfl ?_)) (by repeat' (first | constructor | apply Sub.suf))))
     apply exI
     ·
      intro h34
      refine lwant rfl rfl rfl rfl (op (p_move rfl) rfl) ?_
      refine lwant rfl rfl rfl rfl (op (p_icmp rfl rfl rfl) rfl) ?_
      refine ls (op (p_pickt rfl rfl) rfl) ?_
      refine ln (nmid (wk0 (by repeat (first | exact subσ.nil _ | refine subσ.cons rfl ?_)) (by repeat' (first | constructor | apply Sub.suf))))
     ·
      refine ls (op (p_move rfl) rfl) ?_
      refine andX 3 38 41 rfl (subσ.cons (t := 0) rfl (subσ.cons (t := 3) rfl (subσ.cons (t := 5) rfl (subσ.cons (t := 6) rfl (subσ.cons (t := 7) rfl (subσ.cons (t := 8) rfl (subσ.cons (t := 11) rfl (subσ.cons (t := 12) rfl (subσ.cons (t := 13) rfl (subσ.cons (t := 4) rfl (subσ.nil _))))))))))) ?_ ?_
      ·
       intro h38
       refine lskip rfl rfl rfl rfl rfl ?_
       refine lskip rfl rfl rfl rfl rfl ?_
       refine ls (op (p_pickf rfl rfl) rfl) ?_
       refine ln (nmid (wk0 (by repeat (first | exact subσ.nil _ | refine subσ.cons rfl ?_)) (by repeat' (first | constructor | apply Sub.suf))))
      apply exI
      ·
       intro h38
       refine lwant rfl rfl rfl rfl (op (p_move rfl) rfl) ?_
       refine lwant rfl rfl rfl rfl (op (p_icmp rfl rfl rfl) rfl) ?_
       refine ls (op (p_pickt rfl rfl) rfl) ?_
       refine ln (nmid (wk0 (by repeat (first | exact subσ.nil _ | refine subσ.cons rfl ?_)) (by repeat' (first | constructor | apply Sub.suf))))
      ·
       refine ls (op (p_move rfl) rfl) ?_
       refine andX 3 42 45 rfl (subσ.cons (t := 0) rfl (subσ.cons (t := 3) rfl (subσ.cons (t := 5) rfl (subσ.cons (t := 6) rfl (subσ.cons (t := 7) rfl (subσ.cons (t := 8) rfl (subσ.cons (t := 11) rfl (subσ.cons (t := 12) rfl (subσ.cons (t := 13) rfl (subσ.nil _)))))))))) ?_ ?_
       ·
        intro h42
        refine lskip rfl rfl rfl rfl rfl ?_
        refine lskip rfl rfl rfl rfl rfl ?_
        refine ls (op (p_pickf rfl rfl) rfl) ?_
        refine ln (nmid (wk0 (by repeat (first | exact subσ.nil _ | refine subσ.cons rfl ?_)) (by repeat' (first | constructor | apply Sub.suf))))
       apply exI
       ·
        intro h42
        refine lwant rfl rfl rfl rfl (op (p_move rfl) rfl) ?_
        refine lwant rfl rfl rfl rfl (op (p_icmp rfl rfl rfl) rfl) ?_
        refine ls (op (p_pickt rfl rfl) rfl) ?_
        refine ln (nmid (wk0 (by repeat (first | exact subσ.nil _ | refine subσ.cons rfl ?_)) (by repeat' (first | constructor | apply Sub.suf))))
       ·
        refine ln ?_
        refine nthen ?_
        refine cc rfl ?_ ?_
        ·
         intro h45
         have h46 := named_byte hb ▸ h45
         refine cs ?_
         refine cr ?_
         refine ls (op (p_asg rfl) rfl) ?_
         refine ln ?_
         refine nthen ?_
         refine cret ?_
         refine xret (fun _ _ h => h) ?_
         refine rret (is := []) () (Or.inl rfl) (Res.t rfl Res.d) ?_ rfl (by repeat' (first | constructor | apply Sub.suf))
         simp only [packV, nameOk]; rw [all_not (List.getElem_mem hk2) (by simpa using h46)]; simp
        ·
         intro h45
         have h46 := named_byte hb ▸ h45
         refine cskip ?_
         refine nblock ?_
         refine nthen ?_
         refine cr ?_
         refine ls (op (p_move rfl) rfl) ?_
         refine ls (op (p_add rfl rfl (by omega)) rfl) ?_
         refine ls (op (p_asg rfl) rfl) ?_
         refine ln ?_
         refine nnext ⟨k + 1, hk1, by rw [List.take_succ_eq_append_getElem hk2, List.all_append, hkk]; simpa using h46⟩ (by dsimp only; omega) (wk0 (by repeat (first | exact subσ.nil _ | refine subσ.cons rfl ?_)) (by repeat' (first | constructor | apply Sub.suf)))
 ·
  intro h8
  try simp only [decide_eq_true_eq, decide_eq_false_iff_not, Bool.not_eq_true', Bool.not_eq_false', Int.not_lt, Int.not_le, ge_iff_le, Bool.not_true, Bool.not_false] at h8
  refine cexit ?_
  refine xthen ?_
  refine xthen ?_
  refine xblock ?_
  refine nthen ?_
  refine cs ?_
  refine cr ?_
  refine ls (op (p_move rfl) rfl) ?_
  refine ls (op (p_lens rfl Tryz.underlying9) rfl) ?_
  refine ls (op (p_icmp rfl rfl rfl) rfl) ?_
  refine ls (op (p_move rfl) rfl) ?_
  refine andX 4 49 53 rfl (subσ.cons (t := 0) rfl (subσ.cons (t := 3) rfl (subσ.cons (t := 5) rfl (subσ.cons (t := 6) rfl (subσ.cons (t := 7) rfl (subσ.cons (t := 8) rfl (subσ.nil _))))))) ?_ ?_
  ·
   intro h49
   refine lskip rfl rfl rfl rfl rfl ?_
   refine lskip rfl rfl rfl rfl rfl ?_
   refine lskip rfl rfl rfl rfl rfl ?_
   refine ls (op (p_pickf rfl rfl) rfl) ?_
   refine ln (nmid (wk0 (by repeat (first | exact subσ.nil _ | refine subσ.cons rfl ?_)) (by repeat' (first | constructor | apply Sub.suf))))
  apply exI
  ·
   intro h49
   refine lwant rfl rfl rfl rfl (op (p_move rfl) rfl) ?_
   refine lwant rfl rfl rfl rfl (op (p_lens rfl Tryz.underlying9) rfl) ?_
   refine lwant rfl rfl rfl rfl (op (p_icmp rfl rfl rfl) rfl) ?_
   refine ls (op (p_pickt rfl rfl) rfl) ?_
   refine ln (nmid (wk0 (by repeat (first | exact subσ.nil _ | refine subσ.cons rfl ?_)) (by repeat' (first | constructor | apply Sub.suf))))
  ·
   refine ls (op (p_asg rfl) rfl) ?_
   refine ln ?_
   refine nthen ?_
   refine cret ?_
   refine xret (fun _ _ h => h) ?_
   refine rret (is := []) () (Or.inl rfl) (Res.t rfl Res.d) ?_ rfl (by repeat' (first | constructor | apply Sub.suf))
   simp only [packV, nameOk]; rw [List.take_of_length_le (by show s.size ≤ k; omega)] at hkk; rw [hkk]; simp

end Go.Proofs.YtjeampaghmcefaaGreatDoor.X

end
section
set_option linter.unusedVariables false
set_option linter.unusedSimpArgs false
namespace Go.Proofs.YtjeampaghmcefaaGreatDoor.X
open Go Go.RowKit Go.Proofs Go.Sx
attribute [local irreducible] slA isA box row

theorem refNames_len (p : Prim) : (refNames p).length ≤ 2 := by
 unfold refNames
 by_cases h : p.kind = 3
 ·
  by_cases h' : Op.bytesLess p.name.toList p.to.toList = true <;> simp [h, h']
 ·
  simp [h]
theorem any_two {la lb : List ByteArray} {a b : ByteArray} (ha : a ∈ la) (hb : b ∈ lb) (h : a = b) : (la.any fun s => lb.any fun t => decide (s = t)) = true := by
 rw [List.any_eq_true]
 exact ⟨a, ha, by rw [List.any_eq_true]; exact ⟨b, hb, by simp [h]⟩⟩

theorem fa25_0 : FA Tryz.prog 25 0 0 := fun b o w => by kernel_rfl
theorem fa25_1 : FA Tryz.prog 25 1 1 := fun b o w => by kernel_rfl
theorem fa25_2 : FA Tryz.prog 25 2 2 := fun b o w => by kernel_rfl
theorem fa25_3 : FA Tryz.prog 25 3 3 := fun b o w => by kernel_rfl
theorem fa25_4 : FA Tryz.prog 25 4 4 := fun b o w => by kernel_rfl
theorem fa25_5 : FA Tryz.prog 25 5 5 := fun b o w => by kernel_rfl
set_option maxRecDepth 100000 in
theorem c_refRight (p : Prim) (y : Rp.Lay Prim) (hp : p.fit) : Con Tryz.prog 99 [sv p y] [] (Rp.asn p y) Unit (fun _ => .bool (p.right)) (fun _ => []) (fun _ => []) := by
 refine con Tryz.func99 rfl Tryz.ntmps99 rfl ?_
 intro M0 F0 w0
 refine cs ?_
 refine cr ?_
 refine ls (o_box rfl rfl rfl) ?_
 refine le ?_; intro b1
 refine ls (op (p_asg rfl) rfl) ?_
 refine ln ?_
 refine nthen ?_
 refine cs ?_
 refine cs ?_
 refine cr ?_
 refine ls (op (p_fa fa25_1 rfl) rfl) ?_
 refine ls (o_ld Tryz.isAgg9 rfl (by repeat' constructor) (by repeat' constructor) rfl) ?_
 refine ls (o_call (is := []) Tryz.call68 (c_refNamed _ hp.a) rfl rfl (by repeat' (first | constructor | apply Sub.suf)) rfl) ?_
 refine le ?_; intro x5
 refine ls (op (p_not rfl) rfl) ?_
 refine ls (op (p_move rfl) rfl) ?_
 refine orX 4 7 11 rfl (subσ.cons (t := 0) rfl (subσ.cons (t := 1) rfl (subσ.cons (t := 2) rfl (subσ.nil _)))) ?_ ?_
 ·
  intro h7
  refine lskip rfl rfl rfl rfl rfl ?_
  refine lskip rfl rfl rfl rfl rfl ?_
  refine lskip rfl rfl rfl rfl rfl ?_
  refine ls (op (p_pickt rfl rfl) rfl) ?_
  refine ln (nmid (wk0 (by repeat (first | exact subσ.nil _ | refine subσ.cons rfl ?_)) (by repeat' (first | constructor | apply Sub.suf))))
 apply exI
 ·
  intro h7
  refine lwant rfl rfl rfl rfl (op (p_fa fa25_0 rfl) rfl) ?_
  refine lwant rfl rfl rfl rfl (o_ld Tryz.isAgg3 rfl (by repeat' constructor) (by repeat' constructor) rfl) ?_
  refine lwant rfl rfl rfl rfl (op (p_icmp rfl rfl rfl) rfl) ?_
  refine ls (op (p_pickf rfl rfl) rfl) ?_
  refine ln (nmid (wk0 (by repeat (first | exact subσ.nil _ | refine subσ.cons rfl ?_)) (by repeat' (first | constructor | apply Sub.suf))))
 ·
  refine ls (op (p_move rfl) rfl) ?_
  refine orX 4 12 16 rfl (subσ.cons (t := 0) rfl (subσ.cons (t := 1) rfl (subσ.cons (t := 2) rfl (subσ.nil _)))) ?_ ?_
  ·
   intro h12
   refine lskip rfl rfl rfl rfl rfl ?_
   refine lskip rfl rfl rfl rfl rfl ?_
   refine lskip rfl rfl rfl rfl rfl ?_
   refine ls (op (p_pickt rfl rfl) rfl) ?_
   refine ln (nmid (wk0 (by repeat (first | exact subσ.nil _ | refine subσ.cons rfl ?_)) (by repeat' (first | constructor | apply Sub.suf))))
  apply exI
  ·
   intro h12
   refine lwant rfl rfl rfl rfl (op (p_fa fa25_0 rfl) rfl) ?_
   refine lwant rfl rfl rfl rfl (o_ld Tryz.isAgg3 rfl (by repeat' constructor) (by repeat' constructor) rfl) ?_
   refine lwant rfl rfl rfl rfl (op (p_icmp rfl rfl rfl) rfl) ?_
   refine ls (op (p_pickf rfl rfl) rfl) ?_
   refine ln (nmid (wk0 (by repeat (first | exact subσ.nil _ | refine subσ.cons rfl ?_)) (by repeat' (first | constructor | apply Sub.suf))))
  ·
   refine ln ?_
   refine nthen ?_
   refine cc rfl ?_ ?_
   ·
    intro h16
    skip
    refine cs ?_
    refine cr ?_
    refine ls (op (p_asg rfl) rfl) ?_
    refine ln ?_
    refine nthen ?_
    refine cret ?_
    refine xret (fun _ _ h => h) ?_
    refine rret (is := []) () (Or.inl rfl) (Res.t rfl Res.d) ?_ rfl (by repeat' (first | constructor | apply Sub.suf))
    rw [← refRight_eq, refRight, if_pos h16]; rfl
   ·
    intro h16
    have h16' := Bool.eq_false_iff.1 h16
    refine cskip ?_
    refine nthen ?_
    refine cs ?_
    refine cs ?_
    refine cr ?_
    refine ls (op (p_fa fa25_0 rfl) rfl) ?_
    refine ls (o_ld Tryz.isAgg3 rfl (by repeat' constructor) (by repeat' constructor) rfl) ?_
    refine ls (op (p_icmp rfl rfl rfl) rfl) ?_
    refine ln ?_
    refine nthen ?_
    refine cc rfl ?_ ?_
    ·
     intro h19
     try simp only [decide_eq_true_eq, decide_eq_false_iff_not, Bool.not_eq_true', Bool.not_eq_false', Int.not_lt, Int.not_le, ge_iff_le, Bool.not_true, Bool.not_false] at h19
     refine cs ?_
     refine cs ?_
     refine cr ?_
     refine ls (op (p_fa fa25_2 rfl) rfl) ?_
     refine ls (o_ld Tryz.isAgg9 rfl (by repeat' constructor) (by repeat' constructor) rfl) ?_
     refine ls (op (p_sne rfl rfl) rfl) ?_
     refine ls (op (p_move rfl) rfl) ?_
     refine orX 4 23 27 rfl (subσ.cons (t := 0) rfl (subσ.cons (t := 1) rfl (subσ.cons (t := 2) rfl (subσ.cons (t := 16) rfl (subσ.cons (t := 17) rfl (subσ.cons (t := 18) rfl (subσ.cons (t := 19) rfl (subσ.nil _)))))))) ?_ ?_
     ·
      intro h23
      refine lskip rfl rfl rfl rfl rfl ?_
      refine lskip rfl rfl rfl rfl rfl ?_
      refine lskip rfl rfl rfl rfl rfl ?_
      refine ls (op (p_pickt rfl rfl) rfl) ?_
      refine ln (nmid (wk0 (by repeat (first | exact subσ.nil _ | refine subσ.cons rfl ?_)) (by repeat' (first | constructor | apply Sub.suf))))
     apply exI
     ·
      intro h23
      refine lwant rfl rfl rfl rfl (op (p_fa fa25_3 rfl) rfl) ?_
      refine lwant rfl rfl rfl rfl (o_ld Tryz.isAgg3 rfl (by repeat' constructor) (by repeat' constructor) rfl) ?_
      refine lwant rfl rfl rfl rfl (op (p_icmp rfl rfl rfl) rfl) ?_
      refine ls (op (p_pickf rfl rfl) rfl) ?_
      refine ln (nmid (wk0 (by repeat (first | exact subσ.nil _ | refine subσ.cons rfl ?_)) (by repeat' (first | constructor | apply Sub.suf))))
     ·
      refine ls (op (p_move rfl) rfl) ?_
      refine orX 4 28 32 rfl (subσ.cons (t := 0) rfl (subσ.cons (t := 1) rfl (subσ.cons (t := 2) rfl (subσ.cons (t := 16) rfl (subσ.cons (t := 17) rfl (subσ.cons (t := 18) rfl (subσ.cons (t := 19) rfl (subσ.nil _)))))))) ?_ ?_
      ·
       intro h28
       refine lskip rfl rfl rfl rfl rfl ?_
       refine lskip rfl rfl rfl rfl rfl ?_
       refine lskip rfl rfl rfl rfl rfl ?_
       refine ls (op (p_pickt rfl rfl) rfl) ?_
       refine ln (nmid (wk0 (by repeat (first | exact subσ.nil _ | refine subσ.cons rfl ?_)) (by repeat' (first | constructor | apply Sub.suf))))
      apply exI
      ·
       intro h28
       refine lwant rfl rfl rfl rfl (op (p_fa fa25_3 rfl) rfl) ?_
       refine lwant rfl rfl rfl rfl (o_ld Tryz.isAgg3 rfl (by repeat' constructor) (by repeat' constructor) rfl) ?_
       refine lwant rfl rfl rfl rfl (op (p_icmp rfl rfl rfl) rfl) ?_
       refine ls (op (p_pickf rfl rfl) rfl) ?_
       refine ln (nmid (wk0 (by repeat (first | exact subσ.nil _ | refine subσ.cons rfl ?_)) (by repeat' (first | constructor | apply Sub.suf))))
      ·
       refine ln ?_
       refine nthen ?_
       refine cc rfl ?_ ?_
       ·
        intro h32
        skip
        refine cs ?_
        refine cr ?_
        refine ls (op (p_asg rfl) rfl) ?_
        refine ln ?_
        refine nthen ?_
        refine cret ?_
        refine xret (fun _ _ h => h) ?_
        refine rret (is := []) () (Or.inl rfl) (Res.t rfl Res.d) ?_ rfl (by repeat' (first | constructor | apply Sub.suf))
        rw [← refRight_eq, refRight, if_neg h16', if_pos h19, if_pos h32]; rfl
       ·
        intro h32
        have h32' := Bool.eq_false_iff.1 h32
        refine cskip ?_
        refine nthen ?_
        refine cs ?_
        refine cr ?_
        refine ls (op (p_fa fa25_4 rfl) rfl) ?_
        refine ls (o_ld Tryz.isAgg23 rfl (by repeat' constructor) (by repeat' constructor) rfl) ?_
        refine ls (o_call (is := []) Tryz.call71 (c_refAll p.old _ _ hp.o hp.os) rfl rfl (by repeat' (first | constructor | apply Sub.suf)) rfl) ?_
        refine le ?_; intro x35
        refine ls (op (p_move rfl) rfl) ?_
        refine andX 4 36 40 rfl (subσ.cons (t := 0) rfl (subσ.cons (t := 1) rfl (subσ.cons (t := 2) rfl (subσ.cons (t := 16) rfl (subσ.cons (t := 17) rfl (subσ.cons (t := 18) rfl (subσ.cons (t := 19) rfl (subσ.cons (t := 32) rfl (subσ.nil _))))))))) ?_ ?_
        ·
         intro h36
         refine lskip rfl rfl rfl rfl rfl ?_
         refine lskip rfl rfl rfl rfl rfl ?_
         refine lskip rfl rfl rfl rfl rfl ?_
         refine ls (op (p_pickf rfl rfl) rfl) ?_
         refine ln (nmid (wk0 (by repeat (first | exact subσ.nil _ | refine subσ.cons rfl ?_)) (by repeat' (first | constructor | apply Sub.suf))))
        apply exI
        ·
         intro h36
         refine lwant rfl rfl rfl rfl (op (p_fa fa25_5 rfl) rfl) ?_
         refine lwant rfl rfl rfl rfl (o_ld Tryz.isAgg23 rfl (by repeat' constructor) (by repeat' constructor) rfl) ?_
         refine lwant rfl rfl rfl rfl (o_call (is := []) Tryz.call71 (c_refAll p.new _ _ hp.n hp.ns) rfl rfl (by repeat' (first | constructor | apply Sub.suf)) rfl) ?_
         refine le ?_; intro x39
         refine ls (op (p_pickt rfl rfl) rfl) ?_
         refine ln (nmid (wk0 (by repeat (first | exact subσ.nil _ | refine subσ.cons rfl ?_)) (by repeat' (first | constructor | apply Sub.suf))))
        ·
         refine ls (op (p_move rfl) rfl) ?_
         refine andX 7 41 48 rfl (subσ.cons (t := 0) rfl (subσ.cons (t := 1) rfl (subσ.cons (t := 2) rfl (subσ.cons (t := 16) rfl (subσ.cons (t := 17) rfl (subσ.cons (t := 18) rfl (subσ.cons (t := 19) rfl (subσ.cons (t := 32) rfl (subσ.nil _))))))))) ?_ ?_
         ·
          intro h41
          refine lskip rfl rfl rfl rfl rfl ?_
          refine lskip rfl rfl rfl rfl rfl ?_
          refine lskip rfl rfl rfl rfl rfl ?_
          refine lskip rfl rfl rfl rfl rfl ?_
          refine lskip rfl rfl rfl rfl rfl ?_
          refine lskip rfl rfl rfl rfl rfl ?_
          refine ls (op (p_pickf rfl rfl) rfl) ?_
          refine ln (nmid (wk0 (by repeat (first | exact subσ.nil _ | refine subσ.cons rfl ?_)) (by repeat' (first | constructor | apply Sub.suf))))
         apply exI
         ·
          intro h41
          refine lwant rfl rfl rfl rfl (op (p_fa fa25_4 rfl) rfl) ?_
          refine lwant rfl rfl rfl rfl (o_ld Tryz.isAgg23 rfl (by repeat' constructor) (by repeat' constructor) rfl) ?_
          refine lwant rfl rfl rfl rfl (op (p_fa fa25_5 rfl) rfl) ?_
          refine lwant rfl rfl rfl rfl (o_ld Tryz.isAgg23 rfl (by repeat' constructor) (by repeat' constructor) rfl) ?_
          refine lwant rfl rfl rfl rfl (o_call (is := []) Tryz.call120 (c_refSame1 p.old p.new _ _ _ _ hp.o) rfl rfl (by repeat' (first | constructor | apply Sub.suf)) rfl) ?_
          refine le ?_; intro x46
          refine lwant rfl rfl rfl rfl (op (p_not rfl) rfl) ?_
          refine ls (op (p_pickt rfl rfl) rfl) ?_
          refine ln (nmid (wk0 (by repeat (first | exact subσ.nil _ | refine subσ.cons rfl ?_)) (by repeat' (first | constructor | apply Sub.suf))))
         ·
          refine ls (op (p_asg rfl) rfl) ?_
          refine ln ?_
          refine nthen ?_
          refine cret ?_
          refine xret (fun _ _ h => h) ?_
          refine rret (is := []) () (Or.inl rfl) (Res.t rfl Res.d) ?_ rfl (by repeat' (first | constructor | apply Sub.suf))
          rw [← refRight_eq, refRight, if_neg h16', if_pos h19, if_neg h32']; rfl
    ·
     intro h19
     try simp only [decide_eq_true_eq, decide_eq_false_iff_not, Bool.not_eq_true', Bool.not_eq_false', Int.not_lt, Int.not_le, ge_iff_le, Bool.not_true, Bool.not_false] at h19
     refine cskip ?_
     refine nthen ?_
     refine cs ?_
     refine cs ?_
     refine cr ?_
     refine ls (op (p_fa fa25_3 rfl) rfl) ?_
     refine ls (o_ld Tryz.isAgg3 rfl (by repeat' constructor) (by repeat' constructor) rfl) ?_
     refine ls (op (p_icmp rfl rfl rfl) rfl) ?_
     refine ls (op (p_move rfl) rfl) ?_
     refine orX 5 52 57 rfl (subσ.cons (t := 0) rfl (subσ.cons (t := 1) rfl (subσ.cons (t := 2) rfl (subσ.cons (t := 16) rfl (subσ.cons (t := 17) rfl (subσ.cons (t := 18) rfl (subσ.cons (t := 19) rfl (subσ.nil _)))))))) ?_ ?_
     ·
      intro h52
      refine lskip rfl rfl rfl rfl rfl ?_
      refine lskip rfl rfl rfl rfl rfl ?_
      refine lskip rfl rfl rfl rfl rfl ?_
      refine lskip rfl rfl rfl rfl rfl ?_
      refine ls (op (p_pickt rfl rfl) rfl) ?_
      refine ln (nmid (wk0 (by repeat (first | exact subσ.nil _ | refine subσ.cons rfl ?_)) (by repeat' (first | constructor | apply Sub.suf))))
     apply exI
     ·
      intro h52
      refine lwant rfl rfl rfl rfl (op (p_fa fa25_4 rfl) rfl) ?_
      refine lwant rfl rfl rfl rfl (o_ld Tryz.isAgg23 rfl (by repeat' constructor) (by repeat' constructor) rfl) ?_
      refine lwant rfl rfl rfl rfl (op (p_lenl rfl Tryz.underlying23) rfl) ?_
      refine lwant rfl rfl rfl rfl (op (p_icmp rfl rfl rfl) rfl) ?_
      refine ls (op (p_pickf rfl rfl) rfl) ?_
      refine ln (nmid (wk0 (by repeat (first | exact subσ.nil _ | refine subσ.cons rfl ?_)) (by repeat' (first | constructor | apply Sub.suf))))
     ·
      refine ls (op (p_move rfl) rfl) ?_
      refine orX 5 58 63 rfl (subσ.cons (t := 0) rfl (subσ.cons (t := 1) rfl (subσ.cons (t := 2) rfl (subσ.cons (t := 16) rfl (subσ.cons (t := 17) rfl (subσ.cons (t := 18) rfl (subσ.cons (t := 19) rfl (subσ.nil _)))))))) ?_ ?_
      ·
       intro h58
       refine lskip rfl rfl rfl rfl rfl ?_
       refine lskip rfl rfl rfl rfl rfl ?_
       refine lskip rfl rfl rfl rfl rfl ?_
       refine lskip rfl rfl rfl rfl rfl ?_
       refine ls (op (p_pickt rfl rfl) rfl) ?_
       refine ln (nmid (wk0 (by repeat (first | exact subσ.nil _ | refine subσ.cons rfl ?_)) (by repeat' (first | constructor | apply Sub.suf))))
      apply exI
      ·
       intro h58
       refine lwant rfl rfl rfl rfl (op (p_fa fa25_5 rfl) rfl) ?_
       refine lwant rfl rfl rfl rfl (o_ld Tryz.isAgg23 rfl (by repeat' constructor) (by repeat' constructor) rfl) ?_
       refine lwant rfl rfl rfl rfl (op (p_lenl rfl Tryz.underlying23) rfl) ?_
       refine lwant rfl rfl rfl rfl (op (p_icmp rfl rfl rfl) rfl) ?_
       refine ls (op (p_pickf rfl rfl) rfl) ?_
       refine ln (nmid (wk0 (by repeat (first | exact subσ.nil _ | refine subσ.cons rfl ?_)) (by repeat' (first | constructor | apply Sub.suf))))
      ·
       refine ln ?_
       refine nthen ?_
       refine cc rfl ?_ ?_
       ·
        intro h63
        skip
        refine cs ?_
        refine cr ?_
        refine ls (op (p_asg rfl) rfl) ?_
        refine ln ?_
        refine nthen ?_
        refine cret ?_
        refine xret (fun _ _ h => h) ?_
        refine rret (is := []) () (Or.inl rfl) (Res.t rfl Res.d) ?_ rfl (by repeat' (first | constructor | apply Sub.suf))
        rw [← refRight_eq, refRight, if_neg h16', if_neg h19, if_pos h63]; rfl
       ·
        intro h63
        have h63' := Bool.eq_false_iff.1 h63
        refine cskip ?_
        refine nthen ?_
        refine cs ?_
        refine cs ?_
        refine cr ?_
        refine ls (op (p_fa fa25_0 rfl) rfl) ?_
        refine ls (o_ld Tryz.isAgg3 rfl (by repeat' constructor) (by repeat' constructor) rfl) ?_
        refine ls (op (p_icmp rfl rfl rfl) rfl) ?_
        refine ln ?_
        refine nthen ?_
        refine cc rfl ?_ ?_
        ·
         intro h66
         try simp only [decide_eq_true_eq, decide_eq_false_iff_not, Bool.not_eq_true', Bool.not_eq_false', Int.not_lt, Int.not_le, ge_iff_le, Bool.not_true, Bool.not_false] at h66
         refine cs ?_
         refine cr ?_
         refine ls (op (p_fa fa25_2 rfl) rfl) ?_
         refine ls (o_ld Tryz.isAgg9 rfl (by repeat' constructor) (by repeat' constructor) rfl) ?_
         refine ls (o_call (is := []) Tryz.call68 (c_refNamed _ hp.b) rfl rfl (by repeat' (first | constructor | apply Sub.suf)) rfl) ?_
         refine le ?_; intro x69
         refine ls (op (p_move rfl) rfl) ?_
         refine andX 6 70 76 rfl (subσ.cons (t := 0) rfl (subσ.cons (t := 1) rfl (subσ.cons (t := 2) rfl (subσ.cons (t := 16) rfl (subσ.cons (t := 17) rfl (subσ.cons (t := 18) rfl (subσ.cons (t := 19) rfl (subσ.cons (t := 63) rfl (subσ.cons (t := 64) rfl (subσ.cons (t := 65) rfl (subσ.cons (t := 66) rfl (subσ.nil _)))))))))))) ?_ ?_
         ·
          intro h70
          refine lskip rfl rfl rfl rfl rfl ?_
          refine lskip rfl rfl rfl rfl rfl ?_
          refine lskip rfl rfl rfl rfl rfl ?_
          refine lskip rfl rfl rfl rfl rfl ?_
          refine lskip rfl rfl rfl rfl rfl ?_
          refine ls (op (p_pickf rfl rfl) rfl) ?_
          refine ln (nmid (wk0 (by repeat (first | exact subσ.nil _ | refine subσ.cons rfl ?_)) (by repeat' (first | constructor | apply Sub.suf))))
         apply exI
         ·
          intro h70
          refine lwant rfl rfl rfl rfl (op (p_fa fa25_2 rfl) rfl) ?_
          refine lwant rfl rfl rfl rfl (o_ld Tryz.isAgg9 rfl (by repeat' constructor) (by repeat' constructor) rfl) ?_
          refine lwant rfl rfl rfl rfl (op (p_fa fa25_1 rfl) rfl) ?_
          refine lwant rfl rfl rfl rfl (o_ld Tryz.isAgg9 rfl (by repeat' constructor) (by repeat' constructor) rfl) ?_
          refine lwant rfl rfl rfl rfl (op (p_sne rfl rfl) rfl) ?_
          refine ls (op (p_pickt rfl rfl) rfl) ?_
          refine ln (nmid (wk0 (by repeat (first | exact subσ.nil _ | refine subσ.cons rfl ?_)) (by repeat' (first | constructor | apply Sub.suf))))
         ·
          refine ls (op (p_asg rfl) rfl) ?_
          refine ln ?_
          refine nthen ?_
          refine cret ?_
          refine xret (fun _ _ h => h) ?_
          refine rret (is := []) () (Or.inl rfl) (Res.t rfl Res.d) ?_ rfl (by repeat' (first | constructor | apply Sub.suf))
          rw [← refRight_eq, refRight, if_neg h16', if_neg h19, if_neg h63', if_pos h66]; rfl
        ·
         intro h66
         try simp only [decide_eq_true_eq, decide_eq_false_iff_not, Bool.not_eq_true', Bool.not_eq_false', Int.not_lt, Int.not_le, ge_iff_le, Bool.not_true, Bool.not_false] at h66
         refine cskip ?_
         refine nthen ?_
         refine cs ?_
         refine cr ?_
         refine ls (op (p_fa fa25_2 rfl) rfl) ?_
         refine ls (o_ld Tryz.isAgg9 rfl (by repeat' constructor) (by repeat' constructor) rfl) ?_
         refine ls (op (p_seq rfl rfl) rfl) ?_
         refine ls (op (p_asg rfl) rfl) ?_
         refine ln ?_
         refine nthen ?_
         refine cret ?_
         refine xret (fun _ _ h => h) ?_
         refine rret (is := []) () (Or.inl rfl) (Res.t rfl Res.d) ?_ rfl (by repeat' (first | constructor | apply Sub.suf))
         rw [← refRight_eq, refRight, if_neg h16', if_neg h19, if_neg h63', if_neg h66]; rfl

end Go.Proofs.YtjeampaghmcefaaGreatDoor.X

end
section
set_option linter.unusedVariables false
set_option linter.unusedSimpArgs false
namespace Go.Proofs.YtjeampaghmcefaaGreatDoor.X
open Go Go.RowKit Go.Proofs Go.Sx
attribute [local irreducible] slA isA box row

theorem two_fit {p q : Prim} (hp : p.fit) (hq : q.fit) : (Sx.refTwo p q).1.fit ∧ (Sx.refTwo p q).2.1.fit := by
 obtain ⟨p1, p2, p3, p4, p5, p6⟩ := hp
 obtain ⟨q1, q2, q3, q4, q5, q6⟩ := hq
 unfold Sx.refTwo Sx.hunks
 refine ⟨?_, ?_⟩ <;> (repeat' split) <;> constructor <;> assumption



end Go.Proofs.YtjeampaghmcefaaGreatDoor.X

end
section
set_option linter.unusedVariables false
set_option linter.unusedSimpArgs false
namespace Go.Proofs.YtjeampaghmcefaaGreatDoor.X
open Go Go.RowKit Go.Proofs Go.Sx
attribute [local irreducible] slA isA box row

def pre (l : List Prim) (k : Nat) : Nat := ((l.take k).map Prim.many).sum
theorem pre_succ {l : List Prim} {k : Nat} (h : k < l.length) : pre l (k + 1) = pre l k + l[k].many := by
 unfold pre
 rw [List.take_succ_eq_append_getElem h, List.map_append, List.sum_append]
 simp only [List.map_cons, List.map_nil, List.sum_cons, List.sum_nil, Nat.add_zero]
theorem pre_all (l : List Prim) : l.length + pre l l.length = many l := by
 unfold pre many
 rw [List.take_length]
theorem sum_take (l : List Nat) (k : Nat) : (l.take k).sum ≤ l.sum := by
 have h := congrArg List.sum (List.take_append_drop k l)
 rw [List.sum_append] at h
 omega
theorem pre_le (l : List Prim) (k : Nat) : l.length + pre l k ≤ many l := by
 unfold pre many
 have := sum_take (l.map Prim.many) k
 rw [← List.map_take] at this
 omega
theorem sizes_succ {l : List ByteArray} {k : Nat} (h : k < l.length) : sizes (l.take (k + 1)) = sizes (l.take k) + l[k].size := by
 unfold sizes
 rw [List.take_succ_eq_append_getElem h, List.map_append, List.sum_append]
 simp only [List.map_cons, List.map_nil, List.sum_cons, List.sum_nil, Nat.add_zero]
theorem sizes_le (l : List ByteArray) (k : Nat) : sizes (l.take k) ≤ sizes l := by
 unfold sizes
 have := sum_take (l.map ByteArray.size) k
 rw [← List.map_take] at this
 exact this


set_option maxRecDepth 100000 in
theorem c_Many (l : List Prim) (A : Option Addr) (c : Nat) (hl : l.length ≤ 2000000) (hM : many l ≤ 1000000000000) : Con Tryz.prog 26 [.slice A l.length c] [] [slA A l] Unit (fun _ => .int .i64 (many l : Int)) (fun _ => []) (fun _ => []) := by
 refine con Tryz.func26 rfl Tryz.ntmps26 rfl ?_
 intro M0 F0 w0
 refine cs ?_
 refine cr ?_
 refine ls (op (p_asg rfl) rfl) ?_
 refine ln ?_
 refine nthen ?_
 refine cs ?_
 refine cr ?_
 refine ls (op (p_move rfl) rfl) ?_
 refine ls (op (p_lenl rfl Tryz.underlying43) rfl) ?_
 refine ls (op (p_asg rfl) rfl) ?_
 refine ln ?_
 refine nthen ?_
 refine cs ?_
 refine cs ?_
 refine cr ?_
 refine ls (op (p_move rfl) rfl) ?_
 refine ls (op (p_lenl rfl Tryz.underlying43) rfl) ?_
 refine ls (op (p_move rfl) rfl) ?_
 refine ln ?_
 refine nthen ?_
 refine cb ?_
 refine cl (ι := {q : Nat × Int // q.1 ≤ l.length ∧ q.2 = ((l.length + pre l q.1 : Nat) : Int)}) (fun i => St M0 F0 w0 61 [(12, .slice A l.length c), (13, .int .i64 (l.length : Int)), (14, .int .i64 (i.1.1 : Int)), (3, .int .i64 i.1.2)] [] [slA A l]) (fun i => l.length - i.1.1) ⟨(0, (l.length : Int)), by simp [pre]⟩ (wk0 (by repeat (first | exact subσ.nil _ | refine subσ.cons rfl ?_)) (by repeat' (first | constructor | apply Sub.suf))) ?_
 rintro ⟨⟨k, n⟩, hk, hn⟩
 refine cmono (S' := St M0 F0 w0 61 [(12, .slice A l.length c), (13, .int .i64 (l.length : Int)), (14, .int .i64 (k : Int)), (3, .int .i64 n)] [] [slA A l]) (fun _ _ h => h) ?_
 refine cs ?_
 refine cr ?_
 refine ls (op (p_icmp rfl rfl rfl) rfl) ?_
 refine ln ?_
 refine nthen ?_
 refine cs ?_
 refine cc rfl ?_ ?_
 ·
  intro h15
  dsimp only at hk hn
  try simp only [decide_eq_true_eq, decide_eq_false_iff_not, Bool.not_eq_true', Bool.not_eq_false', Int.not_lt, Int.not_le, ge_iff_le, Bool.not_true, Bool.not_false] at h15
  have hk1 : k < l.length := by omega
  have hs := pre_succ hk1
  have ht := pre_le l (k + 1)
  have hu : l[k].many = l[k].name.size + l[k].to.size + l[k].old.length + l[k].new.length + sizes l[k].old + sizes l[k].new := rfl
  refine cskip ?_
  refine nthen ?_
  refine cs ?_
  refine cb ?_
  refine cs ?_
  refine elC (by repeat' constructor) k (List.getElem?_eq_getElem (l := l) hk1) ?_; rintro zbp zop zyp hAp
  refine cr ?_
  refine ls (op (p_ia k hAp hk1 rfl Tryz.underlying43 Tryz.sizeOf25 rfl rfl) rfl) ?_
  refine ls (o_ldj Tryz.isAgg25 Tryz.sizeOf25 rfl (by repeat' constructor) 0 rfl (by repeat (first | exact Cut.d | apply Cut.t | apply Cut.s)) rfl) ?_
  refine ls (o_alloc Tryz.zeroValue25 rfl rfl) ?_
  refine le ?_; intro b5
  refine ls (o_st rfl Tryz.sizeOf25 rfl rfl rfl rfl rfl (by repeat' constructor) (by repeat' constructor) (by repeat' constructor)) ?_
  refine ln ?_
  refine nthen ?_
  refine cs ?_
  refine cr ?_
  refine ls (op (p_move rfl) rfl) ?_
  refine ls (op (p_fa fa25_1 rfl) rfl) ?_
  refine ls (o_ld Tryz.isAgg9 rfl (by repeat' constructor) (by repeat' constructor) rfl) ?_
  refine ls (op (p_lens rfl Tryz.underlying9) rfl) ?_
  refine ls (op (p_fa fa25_2 rfl) rfl) ?_
  refine ls (o_ld Tryz.isAgg9 rfl (by repeat' constructor) (by repeat' constructor) rfl) ?_
  refine ls (op (p_lens rfl Tryz.underlying9) rfl) ?_
  refine ls (op (p_add rfl rfl (by omega)) rfl) ?_
  refine ls (op (p_fa fa25_4 rfl) rfl) ?_
  refine ls (o_ld Tryz.isAgg23 rfl (by repeat' constructor) (by repeat' constructor) rfl) ?_
  refine ls (op (p_lenl rfl Tryz.underlying23) rfl) ?_
  refine ls (op (p_add rfl rfl (by omega)) rfl) ?_
  refine ls (op (p_fa fa25_5 rfl) rfl) ?_
  refine ls (o_ld Tryz.isAgg23 rfl (by repeat' constructor) (by repeat' constructor) rfl) ?_
  refine ls (op (p_lenl rfl Tryz.underlying23) rfl) ?_
  refine ls (op (p_add rfl rfl (by omega)) rfl) ?_
  refine ls (op (p_add rfl rfl (by omega)) rfl) ?_
  refine ls (op (p_asg rfl) rfl) ?_
  refine ln ?_
  refine nthen ?_
  refine cs ?_
  refine cs ?_
  refine cr ?_
  refine ls (op (p_fa fa25_4 rfl) rfl) ?_
  refine ls (o_ld Tryz.isAgg23 rfl (by repeat' constructor) (by repeat' constructor) rfl) ?_
  refine ls (op (p_lenl rfl Tryz.underlying23) rfl) ?_
  refine ls (op (p_move rfl) rfl) ?_
  refine ln ?_
  refine nthen ?_
  refine cb ?_
  refine cl (ι := {q : Nat × Int // q.1 ≤ l[k].old.length ∧ q.2 = (n + ((((l[k].name.size : Int) + l[k].to.size) + l[k].old.length) + l[k].new.length)) + sizes (l[k].old.take q.1)}) (fun i => St M0 F0 w0 61 [(12, .slice A l.length c), (13, .int .i64 (l.length : Int)), (14, .int .i64 (k : Int)), (5, .pointer (some ⟨b5, 0, none⟩)), (36, .slice zyp.1.1 l[k].old.length zyp.1.2), (37, .int .i64 (l[k].old.length : Int)), (38, .int .i64 (i.1.1 : Int)), (3, .int .i64 i.1.2)] [box b5 25 (Rp.enc l[k] zyp)] [slA A l, slA zyp.1.1 l[k].old, slA zyp.2.1 l[k].new]) (fun i => l[k].old.length - i.1.1) ⟨(0, (n + ((((l[k].name.size : Int) + l[k].to.size) + l[k].old.length) + l[k].new.length))), by simp [sizes]⟩ (wk0 (by repeat (first | exact subσ.nil _ | refine subσ.cons rfl ?_)) (by repeat' (first | constructor | apply Sub.suf))) ?_
  rintro ⟨⟨j, x⟩, hj, hx⟩
  refine cmono (S' := St M0 F0 w0 61 [(12, .slice A l.length c), (13, .int .i64 (l.length : Int)), (14, .int .i64 (k : Int)), (5, .pointer (some ⟨b5, 0, none⟩)), (36, .slice zyp.1.1 l[k].old.length zyp.1.2), (37, .int .i64 (l[k].old.length : Int)), (38, .int .i64 (j : Int)), (3, .int .i64 x)] [box b5 25 (Rp.enc l[k] zyp)] [slA A l, slA zyp.1.1 l[k].old, slA zyp.2.1 l[k].new]) (fun _ _ h => h) ?_
  refine cs ?_
  refine cr ?_
  refine ls (op (p_icmp rfl rfl rfl) rfl) ?_
  refine ln ?_
  refine nthen ?_
  refine cs ?_
  refine cc rfl ?_ ?_
  ·
   intro h39
   dsimp only at hj hx
   try simp only [decide_eq_true_eq, decide_eq_false_iff_not, Bool.not_eq_true', Bool.not_eq_false', Int.not_lt, Int.not_le, ge_iff_le, Bool.not_true, Bool.not_false] at h39
   have hj1 : j < l[k].old.length := by omega
   have ej1 := sizes_succ hj1
   have ej2 := sizes_le l[k].old (j + 1)
   refine cskip ?_
   refine nthen ?_
   refine cs ?_
   refine cb ?_
   refine cs ?_
   refine elC (by repeat' constructor) j (List.getElem?_eq_getElem (l := l[k].old) hj1) ?_; rintro zbq zoq zyq hAq
   refine cr ?_
   refine ls (op (p_ia j hAq hj1 rfl Tryz.underlying23 Tryz.sizeOf9 rfl rfl) rfl) ?_
   refine ls (o_ldi Tryz.isAgg9 rfl (by repeat' constructor) 0 rfl (by repeat (first | exact Cut.d | apply Cut.t | apply Cut.s)) rfl) ?_
   refine ls (op (p_asg rfl) rfl) ?_
   refine ln ?_
   refine nthen ?_
   refine cr ?_
   refine ls (op (p_move rfl) rfl) ?_
   refine ls (op (p_move rfl) rfl) ?_
   refine ls (op (p_lens rfl Tryz.underlying9) rfl) ?_
   refine ls (op (p_add rfl rfl (by omega)) rfl) ?_
   refine ls (op (p_asg rfl) rfl) ?_
   refine ln ?_
   refine nblock ?_
   refine nthen ?_
   refine cr ?_
   refine ls (op (p_add rfl rfl (by omega)) rfl) ?_
   refine ls (op (p_move rfl) rfl) ?_
   refine ln ?_
   refine nnext ⟨(j + 1, x + (l[k].old[j].size : Int)), hj1, by dsimp only; omega⟩ (by dsimp only; omega) (wk0 (by repeat (first | exact subσ.nil _ | refine subσ.cons rfl ?_)) (by repeat' (first | constructor | apply Sub.suf)))
  ·
   intro h39
   dsimp only at hj hx
   try simp only [decide_eq_true_eq, decide_eq_false_iff_not, Bool.not_eq_true', Bool.not_eq_false', Int.not_lt, Int.not_le, ge_iff_le, Bool.not_true, Bool.not_false] at h39
   rw [List.take_of_length_le (by omega)] at hx
   refine cexit ?_
   refine xthen ?_
   refine xthen ?_
   refine xblock ?_
   refine nthen ?_
   refine cs ?_
   refine cr ?_
   refine ls (op (p_fa fa25_5 rfl) rfl) ?_
   refine ls (o_ld Tryz.isAgg23 rfl (by repeat' constructor) (by repeat' constructor) rfl) ?_
   refine ls (op (p_lenl rfl Tryz.underlying23) rfl) ?_
   refine ls (op (p_move rfl) rfl) ?_
   refine ln ?_
   refine nthen ?_
   refine cb ?_
   refine cl (ι := {q : Nat × Int // q.1 ≤ l[k].new.length ∧ q.2 = x + sizes (l[k].new.take q.1)}) (fun i => St M0 F0 w0 61 [(12, .slice A l.length c), (13, .int .i64 (l.length : Int)), (14, .int .i64 (k : Int)), (5, .pointer (some ⟨b5, 0, none⟩)), (48, .slice zyp.2.1 l[k].new.length zyp.2.2), (49, .int .i64 (l[k].new.length : Int)), (50, .int .i64 (i.1.1 : Int)), (3, .int .i64 i.1.2)] [box b5 25 (Rp.enc l[k] zyp)] [slA A l, slA zyp.1.1 l[k].old, slA zyp.2.1 l[k].new]) (fun i => l[k].new.length - i.1.1) ⟨(0, x), by simp [sizes]⟩ (wk0 (by repeat (first | exact subσ.nil _ | refine subσ.cons rfl ?_)) (by repeat' (first | constructor | apply Sub.suf))) ?_
   rintro ⟨⟨g, y⟩, hg, hy⟩
   refine cmono (S' := St M0 F0 w0 61 [(12, .slice A l.length c), (13, .int .i64 (l.length : Int)), (14, .int .i64 (k : Int)), (5, .pointer (some ⟨b5, 0, none⟩)), (48, .slice zyp.2.1 l[k].new.length zyp.2.2), (49, .int .i64 (l[k].new.length : Int)), (50, .int .i64 (g : Int)), (3, .int .i64 y)] [box b5 25 (Rp.enc l[k] zyp)] [slA A l, slA zyp.1.1 l[k].old, slA zyp.2.1 l[k].new]) (fun _ _ h => h) ?_
   refine cs ?_
   refine cr ?_
   refine ls (op (p_icmp rfl rfl rfl) rfl) ?_
   refine ln ?_
   refine nthen ?_
   refine cs ?_
   refine cc rfl ?_ ?_
   ·
    intro h51
    dsimp only at hg hy
    try simp only [decide_eq_true_eq, decide_eq_false_iff_not, Bool.not_eq_true', Bool.not_eq_false', Int.not_lt, Int.not_le, ge_iff_le, Bool.not_true, Bool.not_false] at h51
    have hg1 : g < l[k].new.length := by omega
    have eg1 := sizes_succ hg1
    have eg2 := sizes_le l[k].new (g + 1)
    refine cskip ?_
    refine nthen ?_
    refine cs ?_
    refine cb ?_
    refine cs ?_
    refine elC (by repeat' constructor) g (List.getElem?_eq_getElem (l := l[k].new) hg1) ?_; rintro zbr zor zyr hAr
    refine cr ?_
    refine ls (op (p_ia g hAr hg1 rfl Tryz.underlying23 Tryz.sizeOf9 rfl rfl) rfl) ?_
    refine ls (o_ldi Tryz.isAgg9 rfl (by repeat' constructor) 0 rfl (by repeat (first | exact Cut.d | apply Cut.t | apply Cut.s)) rfl) ?_
    refine ls (op (p_asg rfl) rfl) ?_
    refine ln ?_
    refine nthen ?_
    refine cr ?_
    refine ls (op (p_move rfl) rfl) ?_
    refine ls (op (p_move rfl) rfl) ?_
    refine ls (op (p_lens rfl Tryz.underlying9) rfl) ?_
    refine ls (op (p_add rfl rfl (by omega)) rfl) ?_
    refine ls (op (p_asg rfl) rfl) ?_
    refine ln ?_
    refine nblock ?_
    refine nthen ?_
    refine cr ?_
    refine ls (op (p_add rfl rfl (by omega)) rfl) ?_
    refine ls (op (p_move rfl) rfl) ?_
    refine ln ?_
    refine nnext ⟨(g + 1, y + (l[k].new[g].size : Int)), hg1, by dsimp only; omega⟩ (by dsimp only; omega) (wk0 (by repeat (first | exact subσ.nil _ | refine subσ.cons rfl ?_)) (by repeat' (first | constructor | apply Sub.suf)))
   ·
    intro h51
    dsimp only at hg hy
    try simp only [decide_eq_true_eq, decide_eq_false_iff_not, Bool.not_eq_true', Bool.not_eq_false', Int.not_lt, Int.not_le, ge_iff_le, Bool.not_true, Bool.not_false] at h51
    rw [List.take_of_length_le (by omega)] at hy
    refine cexit ?_
    refine xthen ?_
    refine xthen ?_
    refine xblock ?_
    refine nblock ?_
    refine nthen ?_
    refine cr ?_
    refine ls (op (p_add rfl rfl (by omega)) rfl) ?_
    refine ls (op (p_move rfl) rfl) ?_
    refine ln ?_
    refine nnext ⟨(k + 1, y), hk1, by dsimp only; omega⟩ (by dsimp only; omega) (wk (is := []) (by repeat (first | exact subσ.nil _ | refine subσ.cons rfl ?_)) rfl (by repeat' (first | constructor | apply Sub.suf)))
 ·
  intro h15
  dsimp only at hk hn
  try simp only [decide_eq_true_eq, decide_eq_false_iff_not, Bool.not_eq_true', Bool.not_eq_false', Int.not_lt, Int.not_le, ge_iff_le, Bool.not_true, Bool.not_false] at h15
  refine cexit ?_
  refine xthen ?_
  refine xthen ?_
  refine xblock ?_
  refine nthen ?_
  refine cs ?_
  refine cr ?_
  refine ls (op (p_move rfl) rfl) ?_
  refine ls (op (p_asg rfl) rfl) ?_
  refine ln ?_
  refine nthen ?_
  refine cret ?_
  refine xret (fun _ _ h => h) ?_
  refine rret (is := []) () (Or.inl rfl) (Res.t rfl Res.d) ?_ rfl (by repeat' (first | constructor | apply Sub.suf))
  have e := pre_all l; rw [show k = l.length by omega] at hn; rw [hn]; simp only [packV]; rw [e]

set_option maxRecDepth 100000 in
theorem c_small (l : List Prim) (A : Option Addr) (c : Nat) (hl : l.length ≤ 2000000) (hM : many l ≤ 1000000000000) : Con Tryz.prog 7 [.slice A l.length c] [] [slA A l] Unit (fun _ => .bool (decide ((many l : Int) ≤ 5000))) (fun _ => []) (fun _ => []) := by
 refine con Tryz.func7 rfl Tryz.ntmps7 rfl ?_
 intro M0 F0 w0
 refine cs ?_
 refine cr ?_
 refine ls (op (p_asg rfl) rfl) ?_
 refine ln ?_
 refine nthen ?_
 refine cs ?_
 refine cr ?_
 refine ls (op (p_move rfl) rfl) ?_
 refine ls (o_call (is := []) Tryz.call26 (c_Many l A c hl hM) rfl rfl (by repeat' (first | constructor | apply Sub.suf)) rfl) ?_
 refine le ?_; intro x4
 refine ls (op (p_icmp rfl rfl rfl) rfl) ?_
 refine ls (op (p_asg rfl) rfl) ?_
 refine ln ?_
 refine nthen ?_
 refine cret ?_
 refine xret (fun _ _ h => h) ?_
 refine rret (is := []) () (Or.inl rfl) (Res.t rfl Res.d) (rfl) rfl (by repeat' (first | constructor | apply Sub.suf))

end Go.Proofs.YtjeampaghmcefaaGreatDoor.X

end
section
set_option linter.unusedVariables false
namespace Go.Proofs.YtjeampaghmcefaaGreatDoor.X
open Go Go.RowKit Go.Proofs Go.Sx
theorem past1_ok : ∀ {m : List Prim} {p q : Prim} {f : List Prim}, past1 p m = some (f, q) → p.fit → (∀ x ∈ m, x.fit) → f.length = m.length ∧ q.fit ∧ ∀ x ∈ f, x.fit
  | [], p, q, f, h, hp, _ => by
    simp only [past1, Option.some.injEq, Prod.mk.injEq] at h
    obtain ⟨rfl, rfl⟩ := h
    exact ⟨rfl, hp, by simp⟩
  | x :: m, p, q, f, h, hp, hm => by
    rw [past1] at h
    split at h
    · rw [Option.map_eq_some_iff] at h
      obtain ⟨⟨r1, r2⟩, h1, h2⟩ := h
      simp only [Prod.mk.injEq] at h2
      obtain ⟨rfl, rfl⟩ := h2
      obtain ⟨e1, e2⟩ := swap_fit hp (hm x (by simp))
      obtain ⟨k1, k2, k3⟩ := past1_ok h1 e2 (fun y hy => hm y (by simp [hy]))
      refine ⟨by simp [k1], k2, fun y hy => ?_⟩
      rcases List.mem_cons.1 hy with rfl | hy
      · exact e1
      · exact k3 y hy
    · cases h
theorem pastT_true {p q : Prim} {m f : List Prim} (h : (f, q, true) = pastT p m) : past1 p m = some (f, q) := by
  unfold pastT at h
  cases hh : past1 p m with
  | none => rw [hh] at h; simp at h
  | some r => rw [hh] at h; simp only [Prod.mk.injEq, and_true] at h; rw [h.1, h.2]
theorem pastT_false {p q : Prim} {m f : List Prim} (h : (f, q, false) = pastT p m) : past1 p m = none := by
  unfold pastT at h
  cases hh : past1 p m with
  | none => rfl
  | some r => rw [hh] at h; simp at h
def swT (l m : List Prim) : List Prim × List Prim × Bool := match swapL l m with
  | some r => (r.1, r.2, true)
  | none => ([], [], false)
structure SI (l m : List Prim) (j : Nat) (f s : List Prim) : Prop where
  eq : swapL l m = swapR (l.reverse.drop j) f s
  fl : f.length = m.length
  sl : s.length = j
  ff : ∀ x ∈ f, x.fit
  fs : ∀ x ∈ s, x.fit
theorem SI.start {l m : List Prim} (h : ∀ x ∈ m, x.fit) : SI l m 0 m [] := ⟨rfl, rfl, rfl, h, by simp⟩
theorem rev_drop {α : Type} {l : List α} {j k : Nat} (h : k + j + 1 = l.length) : l.reverse.drop j = l[k] :: l.reverse.drop (j + 1) := by
  have hj : j < l.reverse.length := by simp; omega
  rw [List.drop_eq_getElem_cons hj, List.getElem_reverse]
  congr 2
  omega
theorem SI.step {l m f s f' : List Prim} {j k : Nat} {q : Prim} (h : SI l m j f s) (hk : k + j + 1 = l.length) (hl : ∀ x ∈ l, x.fit) (hp : (f', q, true) = pastT l[k] f) : SI l m (j + 1) f' (q :: s) := by
  have h1 := pastT_true hp
  obtain ⟨k1, k2, k3⟩ := past1_ok h1 (hl _ (List.getElem_mem _)) h.ff
  refine ⟨?_, k1.trans h.fl, by simp [h.sl], k3, fun y hy => ?_⟩
  · rw [h.eq, rev_drop hk, swapR, h1]; rfl
  · rcases List.mem_cons.1 hy with rfl | hy
    · exact k2
    · exact h.fs y hy
theorem SI.stop {l m f s f' : List Prim} {j k : Nat} {q : Prim} (h : SI l m j f s) (hk : k + j + 1 = l.length) (hp : (f', q, false) = pastT l[k] f) : swT l m = ([], [], false) := by
  unfold swT
  rw [h.eq, rev_drop hk, swapR, pastT_false hp]; rfl
theorem SI.done {l m f s : List Prim} {j : Nat} (h : SI l m j f s) (hj : j = l.length) : swT l m = (f, s, true) := by
  unfold swT
  rw [h.eq, List.drop_eq_nil_of_le (by simp; omega), swapR]
theorem mid_get1 {α : Type} {T d r : List α} {p : α} {k : Nat} (hk : k = T.length + d.length) : (T ++ (d ++ p :: r))[k]? = some p := by
  subst hk; simp
theorem mid_get2 {α : Type} {T d r : List α} {p q : α} {k : Nat} (hk : k = T.length + d.length + 1) : (T ++ (d ++ p :: q :: r))[k]? = some q := by
  subst hk
  rw [List.getElem?_append_right (by omega), List.getElem?_append_right (by omega)]
  have : T.length + d.length + 1 - T.length - d.length = 1 := by omega
  rw [this]; rfl
theorem mid_set {α : Type} {T d r : List α} {p q a b : α} {k : Nat} (hk : k = T.length + d.length) : ((T ++ (d ++ p :: q :: r)).set k a).set (k + 1) b = T ++ ((d ++ [a]) ++ (b :: r)) := by
  subst hk
  apply List.ext_getElem?
  intro i
  simp only [List.getElem?_set, List.getElem?_append, List.length_append, List.length_cons, List.length_set, List.length_nil, List.getElem?_cons]
  grind
end Go.Proofs.YtjeampaghmcefaaGreatDoor.X

end
section
set_option linter.unusedVariables false
set_option linter.unusedSimpArgs false
namespace Go.Sx
open Go Go.RowKit Go.Proofs.YtjeampaghmcefaaGreatDoor.X
def invL (l : List Prim) : List Prim := l.reverse.map Prim.flip
theorem swapR_app : ∀ (a : List Prim) {b m s : List Prim}, swapR (a ++ b) m s = (swapR a m s).bind fun r => swapR b r.1 r.2
  | [], b, m, s => rfl
  | p :: a, b, m, s => by
    rw [List.cons_append, swapR, swapR]
    cases past1 p m with
    | none => rfl
    | some r => simp only [Option.bind_some]; exact swapR_app a
theorem swapR_fst : ∀ (a : List Prim) {m s s' : List Prim}, (swapR a m s).map (·.1) = (swapR a m s').map (·.1)
  | [], m, s, s' => rfl
  | p :: a, m, s, s' => by
    rw [swapR, swapR]
    cases past1 p m with
    | none => rfl
    | some r => simp only [Option.bind_some]; exact swapR_fst a
def reb (l m : List Prim) : Option (List Prim) := (swapL (invL l) m).map (·.1)
theorem reb_eq (l m : List Prim) : reb l m = (swapR (l.map Prim.flip) m []).map (·.1) := by
  unfold reb swapL invL
  rw [← List.map_reverse, List.reverse_reverse]
theorem reb_nil (m : List Prim) : reb [] m = some m := by rw [reb_eq]; rfl
theorem reb_app (a b m : List Prim) : reb (a ++ b) m = (reb a m).bind (reb b) := by
  rw [reb_eq, reb_eq, List.map_append, swapR_app]
  cases h : swapR (a.map Prim.flip) m [] with
  | none => rfl
  | some r =>
    simp only [Option.bind_some, Option.map_some]
    rw [reb_eq]
    exact swapR_fst _
def rebT (l m : List Prim) : List Prim × Bool := match reb l m with
  | some r => (r, true)
  | none => ([], false)
theorem swT_reb {l m f s : List Prim} {b : Bool} (h : (f, s, b) = swT (invL l) m) : (f, b) = rebT l m := by
  unfold swT at h
  unfold rebT reb
  split at h <;> rename_i e <;> rw [e] <;> cases h <;> rfl
theorem rebT_true {l m r : List Prim} (h : (r, true) = rebT l m) : reb l m = some r := by
  unfold rebT at h
  split at h
  · rename_i e; cases h; exact e
  · cases h
theorem rebT_false {l m r : List Prim} (h : (r, false) = rebT l m) : reb l m = none ∧ r = [] := by
  unfold rebT at h
  split at h
  · cases h
  · rename_i e; cases h; exact ⟨e, rfl⟩
theorem flipFit {p : Prim} (h : p.fit) : p.flip.fit := by
  obtain ⟨h1, h2, h3, h4, h5, h6⟩ := h
  unfold Prim.flip
  split
  · exact ⟨h2, h1, h3, h4, h6, h5⟩
  · split
    · exact ⟨h1, h2, h3, h4, h5, h6⟩
    · split <;> first | exact ⟨h1, h2, h4, h3, h5, h6⟩ | exact ⟨h1, h2, h3, h4, h5, h6⟩
theorem invL_fit {l : List Prim} (h : ∀ x ∈ l, x.fit) : ∀ x ∈ invL l, x.fit := by
  intro x hx
  unfold invL at hx
  rw [List.mem_map] at hx
  obtain ⟨y, hy, rfl⟩ := hx
  exact flipFit (h y (List.mem_reverse.1 hy))
theorem invL_len (l : List Prim) : (invL l).length = l.length := by simp [invL]
def invP (l : List Prim) (k : Nat) : List Prim := (l.reverse.take k).map Prim.flip
theorem invP_len (l : List Prim) {k : Nat} (h : k ≤ l.length) : (invP l k).length = k := by simp [invP]; omega
theorem invP_all (l : List Prim) : invP l l.length = invL l := by
  unfold invP invL
  rw [List.take_of_length_le (by simp)]
theorem invP_step {l : List Prim} {u j : Nat} (h : u + j + 1 = l.length) : invP l (j + 1) = invP l j ++ [(l[u]'(by omega)).flip] := by
  unfold invP
  have hj : j < l.reverse.length := by simp; omega
  rw [List.take_succ_eq_append_getElem hj, List.map_append, List.getElem_reverse]
  congr 3
  simp only [List.map_cons, List.map_nil, List.cons.injEq, and_true]
  congr 2
  omega
/-! ### rows in a ring -/
abbrev Ent := List Prim × Option Addr × Nat
def Ent.v (e : Ent) : Value := .slice e.2.1 e.1.length e.2.2
structure Ring where
  ver : Int
  many : Int
  rg : List Ent
def Ring.cells (r : Ring) : List Value := .int .i64 r.ver :: .int .i64 r.many :: r.rg.map Ent.v
def ringA (l : List Ent) : Asn where
  p M w := ∀ e ∈ l, (slA e.2.1 e.1).p M w
  st := fun M M' w w' h hb hm hs e he => (slA e.2.1 e.1).st M M' w w' (h e he) hb hm hs
def least (V n : Nat) : Nat := V + (n - 64)
structure RI (V : Nat) (rows : List (List Prim)) (r : Ring) : Prop where
  ver : r.ver = ((V + rows.length : Nat) : Int)
  many : r.many = ((min rows.length 64 : Nat) : Int)
  len : r.rg.length = 64
  row : ∀ i, (hi : i < rows.length) → rows.length ≤ i + 64 → ∃ A c, r.rg[(V + i + 1) % 64]? = some (rows[i], A, c)
  sm : ∀ e ∈ r.rg, e.1.length ≤ 2000000 ∧ ∀ x ∈ e.1, x.fit
def Ring.zero (V : Nat) : Ring := ⟨V, 0, List.replicate 64 ([], none, 0)⟩
theorem RI.zero (V : Nat) : RI V [] (Ring.zero V) := by
  refine ⟨rfl, rfl, rfl, fun i hi => by simp at hi, fun e he => ?_⟩
  have := List.eq_of_mem_replicate he
  subst this
  simp
def Ring.add (r : Ring) (j : Nat) (e : Ent) : Ring := ⟨r.ver + 1, min (r.many + 1) 64, r.rg.set j e⟩
theorem RI.add {V : Nat} {rows : List (List Prim)} {r : Ring} (h : RI V rows r) {l : List Prim} {A : Option Addr} {c : Nat} (hl : l.length ≤ 2000000) (hf : ∀ x ∈ l, x.fit) :
    RI V (rows ++ [l]) (r.add ((V + rows.length + 1) % 64) (l, A, c)) := by
  have h64 := h.len
  refine ⟨?_, ?_, ?_, ?_, ?_⟩
  · simp only [Ring.add, h.ver, List.length_append, List.length_singleton]; omega
  · simp only [Ring.add, h.many, List.length_append, List.length_singleton]; omega
  · simp only [Ring.add, List.length_set, h64]
  · intro i hi hle
    rw [List.length_append, List.length_singleton] at hi hle
    simp only [Ring.add]
    rcases Nat.lt_or_eq_of_le (Nat.le_of_lt_succ hi) with hlt | rfl
    · obtain ⟨A', c', e⟩ := h.row i hlt (by omega)
      refine ⟨A', c', ?_⟩
      rw [List.getElem?_set_ne (by omega), e, List.getElem_append_left hlt]
    · refine ⟨A, c, ?_⟩
      rw [List.getElem?_set_self (by omega), List.getElem_append_right (Nat.le_refl _)]
      simp
  · intro e he
    rcases List.mem_or_eq_of_mem_set he with he | rfl
    · exact h.sm e he
    · exact ⟨hl, hf⟩
def known (V n : Nat) (z : Int) : Bool := decide (((least V n : Nat) : Int) ≤ z) && decide (z ≤ ((V + n : Nat) : Int))
theorem known_yes {V n : Nat} {z : Int} (h : known V n z = true) : ∃ q, z = ((V + q : Nat) : Int) ∧ q ≤ n ∧ n ≤ q + 64 := by
  unfold known least at h
  simp only [Bool.and_eq_true, decide_eq_true_eq] at h
  exact ⟨z.toNat - V, by omega, by omega, by omega⟩
def atP (V : Nat) (rows : List (List Prim)) (z : Int) : List Prim × Bool := if ((least V rows.length : Nat) : Int) < z ∧ z ≤ ((V + rows.length : Nat) : Int) then (rows.getD (z.toNat - V - 1) [], true) else ([], false)
theorem atP_no {V : Nat} {rows : List (List Prim)} {z : Int} (h : (decide (z ≤ ((least V rows.length : Nat) : Int)) || decide (((V + rows.length : Nat) : Int) < z)) = true) : atP V rows z = ([], false) := by
  simp only [Bool.or_eq_true, decide_eq_true_eq] at h
  unfold atP
  rw [if_neg (by omega)]
theorem atP_yes {V : Nat} {rows : List (List Prim)} {z : Int} (h : (decide (z ≤ ((least V rows.length : Nat) : Int)) || decide (((V + rows.length : Nat) : Int) < z)) = false) :
    ∃ i, z = ((V + i + 1 : Nat) : Int) ∧ ∃ (hi : i < rows.length), rows.length ≤ i + 64 ∧ atP V rows z = (rows[i], true) := by
  simp only [Bool.or_eq_false_iff, decide_eq_false_iff_not] at h
  have hl : V ≤ least V rows.length := by unfold least; omega
  have hl2 : V + rows.length ≤ least V rows.length + 64 := by unfold least; omega
  refine ⟨z.toNat - V - 1, by omega, by omega, by omega, ?_⟩
  unfold atP
  rw [if_pos (by omega), ← List.getElem_eq_getD]
def outP (rows : List (List Prim)) (q j : Nat) : List Prim := ((rows.drop q).take j).flatten
theorem outP_step {rows : List (List Prim)} {q j : Nat} (h : q + j < rows.length) : outP rows q (j + 1) = outP rows q j ++ rows[q + j] := by
  unfold outP
  have hj : j < (rows.drop q).length := by simp; omega
  rw [List.take_succ_eq_append_getElem hj, List.flatten_append, List.getElem_drop]
  simp
theorem outP_all {rows : List (List Prim)} {q j : Nat} (h : rows.length ≤ q + j) : outP rows q j = (rows.drop q).flatten := by
  unfold outP
  rw [List.take_of_length_le (by simp; omega)]
theorem outP_le (rows : List (List Prim)) (q j : Nat) : (outP rows q j).length ≤ rows.flatten.length := by
  unfold outP
  have h : rows.flatten = (rows.take q).flatten ++ (((rows.drop q).take j).flatten ++ ((rows.drop q).drop j).flatten) := by
    rw [← List.flatten_append, List.take_append_drop, ← List.flatten_append, List.take_append_drop]
  rw [h, List.length_append, List.length_append]
  omega
def sinceT (V : Nat) (rows : List (List Prim)) (z : Int) : List Prim × Int := if known V rows.length z = true then ((rows.drop (z.toNat - V)).flatten, 0) else ([], 150)
theorem sinceT_no {V : Nat} {rows : List (List Prim)} {z : Int} (h : known V rows.length z = false) : sinceT V rows z = ([], 150) := by unfold sinceT; rw [h]; rfl
theorem sinceT_yes {V q : Nat} {rows : List (List Prim)} (h : known V rows.length ((V + q : Nat) : Int) = true) : sinceT V rows ((V + q : Nat) : Int) = ((rows.drop q).flatten, 0) := by
  unfold sinceT
  rw [if_pos h, Int.toNat_natCast, show V + q - V = q by omega]
def prebT (V : Nat) (rows : List (List Prim)) (z : Int) (m : List Prim) : List Prim × Int :=
  if known V rows.length z = true then (match reb (rows.drop (z.toNat - V)).flatten m with | some r => (r, 0) | none => ([], 151)) else ([], 150)
theorem prebT_no {V : Nat} {rows : List (List Prim)} {z : Int} {m : List Prim} (h : known V rows.length z = false) : prebT V rows z m = ([], 150) := by unfold prebT; rw [h]; rfl
theorem prebT_yes {V q : Nat} {rows : List (List Prim)} {m : List Prim} (h : known V rows.length ((V + q : Nat) : Int) = true) : prebT V rows ((V + q : Nat) : Int) m = match reb (rows.drop q).flatten m with | some r => (r, 0) | none => ([], 151) := by
  unfold prebT
  rw [if_pos h, Int.toNat_natCast, show V + q - V = q by omega]
theorem swapR_ok : ∀ (a : List Prim) {m s f t : List Prim}, swapR a m s = some (f, t) → (∀ x ∈ a, x.fit) → (∀ x ∈ m, x.fit) → f.length = m.length ∧ ∀ x ∈ f, x.fit
  | [], m, s, f, t, h, _, hm => by
    rw [swapR] at h; cases h; exact ⟨rfl, hm⟩
  | p :: a, m, s, f, t, h, ha, hm => by
    rw [swapR, Option.bind_eq_some_iff] at h
    obtain ⟨⟨f1, q⟩, h1, h2⟩ := h
    obtain ⟨k1, k2, k3⟩ := past1_ok h1 (ha p List.mem_cons_self) hm
    obtain ⟨k4, k5⟩ := swapR_ok a h2 (fun x hx => ha x (List.mem_cons_of_mem _ hx)) k3
    exact ⟨k4.trans k1, k5⟩
theorem reb_ok {l m f : List Prim} (h : reb l m = some f) (hl : ∀ x ∈ l, x.fit) (hm : ∀ x ∈ m, x.fit) : f.length = m.length ∧ ∀ x ∈ f, x.fit := by
  rw [reb_eq, Option.map_eq_some_iff] at h
  obtain ⟨⟨f', t⟩, h1, rfl⟩ := h
  refine swapR_ok _ h1 (fun x hx => ?_) hm
  rw [List.mem_map] at hx
  obtain ⟨y, hy, rfl⟩ := hx
  exact flipFit (hl y hy)
structure RbI (rows : List (List Prim)) (q j : Nat) (m f : List Prim) : Prop where
  eq : reb (rows.drop q).flatten m = reb (rows.drop (q + j)).flatten f
  len : f.length = m.length
  fit : ∀ x ∈ f, x.fit
theorem RbI.start {rows : List (List Prim)} {q : Nat} {m : List Prim} (hm : ∀ x ∈ m, x.fit) : RbI rows q 0 m m := ⟨rfl, rfl, hm⟩
theorem RbI.split {rows : List (List Prim)} {q j : Nat} {m f : List Prim} (h : RbI rows q j m f) (hk : q + j < rows.length) : reb (rows.drop q).flatten m = (reb rows[q + j] f).bind (reb (rows.drop (q + (j + 1))).flatten) := by
  rw [h.eq, List.drop_eq_getElem_cons hk, List.flatten_cons, reb_app]
  rfl
theorem RbI.step {rows : List (List Prim)} {q j : Nat} {m f g : List Prim} (h : RbI rows q j m f) (hk : q + j < rows.length) (hf : ∀ x ∈ rows[q + j], x.fit) (hr : (g, true) = rebT rows[q + j] f) : RbI rows q (j + 1) m g := by
  have h1 := rebT_true hr
  obtain ⟨k1, k2⟩ := reb_ok h1 hf h.fit
  exact ⟨by rw [h.split hk, h1]; rfl, k1.trans h.len, k2⟩
theorem RbI.stop {rows : List (List Prim)} {q j : Nat} {m f g : List Prim} (h : RbI rows q j m f) (hk : q + j < rows.length) (hr : (g, false) = rebT rows[q + j] f) : reb (rows.drop q).flatten m = none := by
  rw [h.split hk, (rebT_false hr).1]; rfl
theorem RbI.done {rows : List (List Prim)} {q j : Nat} {m f : List Prim} (h : RbI rows q j m f) (hk : rows.length ≤ q + j) : reb (rows.drop q).flatten m = some f := by
  rw [h.eq, List.drop_eq_nil_of_le hk]; exact reb_nil f
theorem ring_one (r : Ring) : r.cells.all Value.oneCell' = true := by
  simp [Ring.cells, Ent.v, Value.oneCell']
/-! ### the reference -/
def rowsT (V : Nat) (rows : List (List Prim)) (z : Int) : List (List Prim) × Bool := if known V rows.length z = true then (rows.drop (z.toNat - V), true) else ([], false)
theorem known_no' {V n : Nat} {z : Int} (h : (decide (z < ((least V n : Nat) : Int)) || decide (((V + n : Nat) : Int) < z)) = true) : known V n z = false := by
  simp only [Bool.or_eq_true, decide_eq_true_eq] at h
  unfold known
  rw [Bool.and_eq_false_iff, decide_eq_false_iff_not, decide_eq_false_iff_not]
  omega
theorem known_yes' {V n : Nat} {z : Int} (h : (decide (z < ((least V n : Nat) : Int)) || decide (((V + n : Nat) : Int) < z)) = false) : known V n z = true := by
  simp only [Bool.or_eq_false_iff, decide_eq_false_iff_not] at h
  unfold known
  rw [Bool.and_eq_true, decide_eq_true_eq, decide_eq_true_eq]
  omega
theorem rowsT_no {V : Nat} {rows : List (List Prim)} {z : Int} (h : known V rows.length z = false) : rowsT V rows z = ([], false) := by unfold rowsT; rw [h]; rfl
theorem rowsT_yes {V q : Nat} {rows : List (List Prim)} (h : known V rows.length ((V + q : Nat) : Int) = true) : rowsT V rows ((V + q : Nat) : Int) = (rows.drop q, true) := by
  unfold rowsT
  rw [if_pos h, Int.toNat_natCast, show V + q - V = q by omega]
theorem rowsT_false {V : Nat} {rows rr : List (List Prim)} {z : Int} (h : (rr, false) = rowsT V rows z) : known V rows.length z = false := by
  cases hk : known V rows.length z with
  | false => rfl
  | true => unfold rowsT at h; rw [if_pos hk] at h; cases h
theorem rowsT_true {V : Nat} {rows rr : List (List Prim)} {z : Int} (h : (rr, true) = rowsT V rows z) : ∃ q, z = ((V + q : Nat) : Int) ∧ q ≤ rows.length ∧ rr = rows.drop q ∧ known V rows.length z = true := by
  cases hk : known V rows.length z with
  | false => rw [rowsT_no hk] at h; cases h
  | true =>
    obtain ⟨q, rfl, h1, h2⟩ := known_yes hk
    rw [rowsT_yes hk] at h
    cases h
    exact ⟨q, rfl, h1, rfl, rfl⟩
theorem sinceT_err {V : Nat} {rows : List (List Prim)} {l : List Prim} {e z : Int} (h : (l, e) = sinceT V rows z) (he : ¬ e = 0) : known V rows.length z = false ∧ e = 150 := by
  cases hk : known V rows.length z with
  | false => rw [sinceT_no hk] at h; cases h; exact ⟨rfl, rfl⟩
  | true => unfold sinceT at h; rw [if_pos hk] at h; cases h; exact absurd rfl he
theorem sinceT_ok {V : Nat} {rows : List (List Prim)} {l : List Prim} {z : Int} (h : (l, 0) = sinceT V rows z) : ∃ q, z = ((V + q : Nat) : Int) ∧ l = (rows.drop q).flatten ∧ known V rows.length z = true := by
  cases hk : known V rows.length z with
  | false => rw [sinceT_no hk] at h; cases h
  | true =>
    obtain ⟨q, rfl, h1, h2⟩ := known_yes hk
    rw [sinceT_yes hk] at h
    cases h
    exact ⟨q, rfl, rfl, rfl⟩
theorem prebT_reb {V q : Nat} {rows : List (List Prim)} {m g : List Prim} {b : Bool} (h : known V rows.length ((V + q : Nat) : Int) = true) (hr : (g, b) = rebT (rows.drop q).flatten m) :
    prebT V rows ((V + q : Nat) : Int) m = if b = true then (g, 0) else ([], 151) := by
  rw [prebT_yes h]
  cases b with
  | true => rw [rebT_true hr]; rfl
  | false => rw [(rebT_false hr).1]; rfl
theorem flat_fit {rows : List (List Prim)} (h : ∀ l ∈ rows, l.length ≤ 2000000 ∧ ∀ x ∈ l, x.fit) (q : Nat) : ∀ x ∈ (rows.drop q).flatten, x.fit := by
  intro x hx
  rw [List.mem_flatten] at hx
  obtain ⟨l, hl, hx⟩ := hx
  exact (h l (List.mem_of_mem_drop hl)).2 x hx
theorem flat_len (rows : List (List Prim)) (q : Nat) : (rows.drop q).flatten.length ≤ rows.flatten.length := by
  have := outP_le rows q rows.length
  rwa [outP_all (by omega)] at this
def fewT (rows : List (List Prim)) (l : List Prim) : Bool := (decide (((many l + (rows.map many).sum : Nat) : Int) ≤ 6000) && decide (((l.length + (rows.map List.length).sum : Nat) : Int) ≤ 60)) && decide ((rows.length : Int) ≤ 100)
theorem fewT_yes {rows : List (List Prim)} {l : List Prim} (h : fewT rows l = true) : many l + (rows.map many).sum ≤ 6000 ∧ l.length + (rows.map List.length).sum ≤ 60 ∧ rows.length ≤ 100 := by
  unfold fewT at h
  simp only [Bool.and_eq_true, decide_eq_true_eq] at h
  omega
theorem sum_take_succ {α : Type} {f : α → Nat} {l : List α} {k : Nat} (h : k < l.length) : ((l.take (k + 1)).map f).sum = ((l.take k).map f).sum + f l[k] := by
  rw [List.take_succ_eq_append_getElem h, List.map_append, List.sum_append]
  simp only [List.map_cons, List.map_nil, List.sum_cons, List.sum_nil, Nat.add_zero]
theorem sum_take_le {α : Type} (f : α → Nat) (l : List α) (k : Nat) : ((l.take k).map f).sum ≤ (l.map f).sum := by
  have h : l.map f = (l.take k).map f ++ (l.drop k).map f := by rw [← List.map_append, List.take_append_drop]
  rw [h, List.sum_append]
  omega
theorem atP_case {V : Nat} {rows : List (List Prim)} {z : Int} {l : List Prim} {e : Bool} (h : atP V rows z = (l, e)) :
    ((decide (((least V rows.length : Nat) : Int) < z) && decide (z ≤ ((V + rows.length : Nat) : Int))) = false ∧ l = [] ∧ e = false) ∨
    ((decide (((least V rows.length : Nat) : Int) < z) && decide (z ≤ ((V + rows.length : Nat) : Int))) = true ∧ e = true ∧ ∃ (i : Nat) (hi : i < rows.length), z = ((V + i + 1 : Nat) : Int) ∧ l = rows[i]) := by
  unfold atP at h
  split at h
  · rename_i hc
    right
    have hl : V ≤ least V rows.length := by unfold least; omega
    cases h
    refine ⟨by rw [Bool.and_eq_true, decide_eq_true_eq, decide_eq_true_eq]; exact hc, rfl, z.toNat - V - 1, by omega, by omega, ?_⟩
    exact (List.getElem_eq_getD []).symm
  · rename_i hc
    left
    cases h
    refine ⟨?_, rfl, rfl⟩
    rw [Bool.and_eq_false_iff, decide_eq_false_iff_not, decide_eq_false_iff_not]
    omega
end Go.Sx

end
section
set_option linter.unusedVariables false
set_option linter.unusedSimpArgs false
namespace Go.Sx
open Go Go.RowKit Go.Proofs
section
variable {ro : Option Nat} {P : Program} {M0 F0 : Nat → Prop} {w0 : World} {n : Nm} {σ : List (Nat × Value)} {Ξ : List Xsn} {Γ : List Asn} {d : Nat} {ty : TypeId} {pos : String} {af : Array Edge}
variable {ops : Array Oper} {Q : Exit → Act → World → Prop} {S S' : Act → World → Prop}
theorem p_remn {T : World → Prop} {x y : Operand} {t t' : TypeId} {k b : Int} (u v : Nat) (hu : k = (u : Int)) (hv : b = ((v + 1 : Nat) : Int)) (hx : ev σ x = some (.int .i64 k)) (hy : ev σ y = some (.int .i64 b)) :
    Pu P n σ T ⟨some d, .binOp .rem t x y t', ty, pos, af, none⟩ (.int .i64 ((u % (v + 1) : Nat) : Int)) :=
  fun a hs w _ => by
    subst hu hv
    have e : (u : Int).tmod ((v + 1 : Nat) : Int) = ((u % (v + 1) : Nat) : Int) := by
      rw [Int.tmod_eq_emod_of_nonneg (by omega)]; norm_cast
    have h0 : ¬ ((v + 1 : Nat) : Int) = 0 := by omega
    have h : Op.intDiv .rem .i64 (u : Int) ((v + 1 : Nat) : Int) = pure (.int .i64 ((u % (v + 1) : Nat) : Int)) := by
      unfold Op.intDiv
      rw [if_neg h0, e]
    simp [-Int.natCast_add, execOp, hs.ev hx, hs.ev hy, eqGuard_rem, binOp_rem, h]
theorem p_max {T : World → Prop} {x y : Operand} {t t' : TypeId} {k b : Int} (hx : ev σ x = some (.int .i64 k)) (hy : ev σ y = some (.int .i64 b)) :
    Pu P n σ T ⟨some d, .call ⟨.builtin .max, #[x, y], #[t, t']⟩, ty, pos, af, none⟩ (.int .i64 (max k b)) :=
  fun a hs w _ => by
    simp only [execOp, resolve, invoke, builtin, hs.ev hx, hs.ev hy, Builtin.max_, Builtin.max2]
    simp [hs.ev hx, hs.ev hy, Builtin.max2]
    split <;> omega
theorem p_min {T : World → Prop} {x y : Operand} {t t' : TypeId} {k b : Int} (hx : ev σ x = some (.int .i64 k)) (hy : ev σ y = some (.int .i64 b)) :
    Pu P n σ T ⟨some d, .call ⟨.builtin .min, #[x, y], #[t, t']⟩, ty, pos, af, none⟩ (.int .i64 (min k b)) :=
  fun a hs w _ => by
    simp only [execOp, resolve, invoke, builtin, hs.ev hx, hs.ev hy, Builtin.min_, Builtin.min2]
    simp [hs.ev hx, hs.ev hy, Builtin.min2]
    split <;> omega
theorem nilP {y : Option Addr × Nat} {i : Nat} {c : Code} (hi : At (nilA y) i Γ) (k : (y.1 = none → y.2 = 0) → TrC ro P Q (St M0 F0 w0 n σ Ξ Γ) c) : TrC ro P Q (St M0 F0 w0 n σ Ξ Γ) c := fun a w hS => by
  obtain ⟨hs, Fs, hh⟩ := hS
  exact k (hh.ga _ (List.mem_of_getElem? hi.get)) a w ⟨hs, Fs, hh⟩
theorem nilQ {y : Option Addr × Nat} (h : y.1 = none → y.2 = 0) {a : Act} {w : World} (hS : St M0 F0 w0 n σ Ξ Γ a w) : St M0 F0 w0 n σ Ξ (nilA y :: Γ) a w := by
  obtain ⟨hs, Fs, hh⟩ := hS
  refine ⟨hs, Fs, { hh with ga := fun p hp => ?_ }⟩
  rcases List.mem_cons.1 hp with rfl | hp
  · exact h
  · exact hh.ga p hp
theorem p_ptrnil {T : World → Prop} {x y : Operand} {t e t' : TypeId} {a : Addr} (ht : P.underlying t = some (.pointer e)) (hx : ev σ x = some (.pointer (some a))) (hy : ev σ y = some (.pointer none)) :
    Pu P n σ T ⟨some d, .binOp .eql t x y t', ty, pos, af, none⟩ (.bool false) := fun b hs w _ => by
  have h1 : (binOp .eql t (.pointer (some a)) (.pointer none)).run P w = .ok (.bool false) w := by
    have h0 : P.pointee t = e := by unfold Program.pointee; rw [ht]
    simp [binOp, run_equal_pointer_nil w t (some a) (by rw [h0]; exact ht)]
  simp [execOp, hs.ev hx, hs.ev hy, eqGuard_at_pointer, h1]
theorem p_ptrnn {T : World → Prop} {x y : Operand} {t e t' : TypeId} {a : Addr} (ht : P.underlying t = some (.pointer e)) (hx : ev σ x = some (.pointer (some a))) (hy : ev σ y = some (.pointer none)) :
    Pu P n σ T ⟨some d, .binOp .neq t x y t', ty, pos, af, none⟩ (.bool true) := fun b hs w _ => by
  have h1 : (binOp .neq t (.pointer (some a)) (.pointer none)).run P w = .ok (.bool true) w := by
    have h0 : P.pointee t = e := by unfold Program.pointee; rw [ht]
    simp [binOp, run_equal_pointer_nil w t (some a) (by rw [h0]; exact ht)]
  simp [execOp, hs.ev hx, hs.ev hy, eqGuard_at_pointer, h1]
/-! rings -/
theorem at_ring {r : Ring} {j : Nat} {e : Ent} (h : r.rg[j]? = some e) : At (Ent.v e) (0 + 2 + j * 1) r.cells := by
  refine At.of_get ?_
  rw [show 0 + 2 + j * 1 = j + 1 + 1 by omega]
  unfold Ring.cells
  simp [h]
theorem put_all {α : Type} : ∀ {vs l : List α}, vs.length = l.length → Put 0 vs l vs
  | [], [], _ => .d
  | v :: vs, x :: l, h => .t (put_all (by simpa using h))
  | [], _ :: _, h => by simp at h
  | _ :: _, [], h => by simp at h
theorem put_set {α : Type} {v : α} : ∀ {l : List α} {j : Nat}, j < l.length → Put j [v] l (l.set j v)
  | [], _, h => by simp at h
  | x :: l, 0, _ => .t .d
  | x :: l, j + 1, h => .s (put_set (by simpa using h))
theorem put_ring {r : Ring} {j : Nat} {e : Ent} (h : j < r.rg.length) : Put (0 + 2 + j * 1) [Ent.v e] r.cells (Ring.cells ⟨r.ver, r.many, r.rg.set j e⟩) := by
  rw [show 0 + 2 + j * 1 = j + 1 + 1 by omega]
  unfold Ring.cells
  simp only [List.map_set]
  exact .s (.s (put_set (by simpa using h)))
theorem Hp.wk1 {Fs : List (Nat → Prop)} {w : World} {Γ' : List Asn} (hh : Hp M0 F0 w0 Ξ Γ Fs w) (h : ∀ p ∈ Γ', p.p (fun b => M0 b ∨ own Fs b) w) : Hp M0 F0 w0 Ξ Γ' Fs w := { hh with ga := h }
theorem ringGet {rg : List Ent} {i j : Nat} {e : Ent} {a : Act} {w : World} (hi : At (ringA rg) i Γ) (hj : rg[j]? = some e) (h : St M0 F0 w0 n σ Ξ Γ a w) : St M0 F0 w0 n σ Ξ (slA e.2.1 e.1 :: Γ) a w := by
  obtain ⟨hs, Fs, hh⟩ := h
  refine ⟨hs, Fs, hh.wk1 fun p hp => ?_⟩
  rcases List.mem_cons.1 hp with rfl | hp
  · exact hh.ga _ (List.mem_of_getElem? hi.get) e (List.mem_of_getElem? hj)
  · exact hh.ga p hp
theorem ringSet {rg : List Ent} {i k j : Nat} {e : Ent} {a : Act} {w : World} (hi : At (ringA rg) i Γ) (hk : At (slA e.2.1 e.1) k Γ) (h : St M0 F0 w0 n σ Ξ Γ a w) : St M0 F0 w0 n σ Ξ (ringA (rg.set j e) :: Γ) a w := by
  obtain ⟨hs, Fs, hh⟩ := h
  refine ⟨hs, Fs, hh.wk1 fun p hp => ?_⟩
  rcases List.mem_cons.1 hp with rfl | hp
  · intro x hx
    rcases List.mem_or_eq_of_mem_set hx with hx | rfl
    · exact hh.ga _ (List.mem_of_getElem? hi.get) x hx
    · exact hh.ga _ (List.mem_of_getElem? hk.get)
  · exact hh.ga p hp
theorem ringNil {V : Nat} {a : Act} {w : World} (h : St M0 F0 w0 n σ Ξ Γ a w) : St M0 F0 w0 n σ Ξ (ringA (Ring.zero V).rg :: Γ) a w := by
  have h := nilSl (α := Prim) h
  obtain ⟨hs, Fs, hh⟩ := h
  refine ⟨hs, Fs, hh.wk1 fun p hp => ?_⟩
  rcases List.mem_cons.1 hp with rfl | hp
  · intro x hx
    have := List.eq_of_mem_replicate hx
    subst this
    exact hh.ga _ (List.mem_cons_self ..)
  · exact hh.ga p (List.mem_cons_of_mem _ hp)
end
end Go.Sx

end
