/- OWN WORK: a part of the proof of a law of the seat YtaojmjfgopbgcaaDoor: the walk through functions of the program. -/
import Derived.Test.YtaojmjfgopbgcaaDoorProg
import Derived.Test.YtaojmjfgopbgcaaDoorXA8
set_option linter.unusedVariables false
set_option linter.unusedSimpArgs false
namespace Go.Proofs.YtaojmjfgopbgcaaDoor.X
open Go Go.RowKit Go.Proofs Go.Sx
attribute [local irreducible] slA isA box row

theorem two_fit {p q : Prim} (hp : p.fit) (hq : q.fit) : (Sx.refTwo p q).1.fit ∧ (Sx.refTwo p q).2.1.fit := by
  obtain ⟨p1, p2, p3, p4, p5, p6⟩ := hp
  obtain ⟨q1, q2, q3, q4, q5, q6⟩ := hq
  unfold Sx.refTwo Sx.hunks
  refine ⟨?_, ?_⟩ <;> (repeat' split) <;> constructor <;> assumption

theorem sb24 : SB Tryd.prog 24 [(0, 1), (1, 1), (2, 1), (3, 1), (4, 1), (5, 1)] [.int .i64 0, .string ⟨#[]⟩, .string ⟨#[]⟩, .int .i64 0, .slice none 0 0, .slice none 0 0] := SB.struct Tryd.zeroValue24 rfl Tryd.underlying24 (fun w => by kernel_rfl)
theorem c_refTwo (p q : Prim) (yp yq : Rp.Lay Prim) (hp : p.fit) (hq : q.fit) (hpr : p.right = true) (hqr : q.right = true) : Con Tryd.prog 25 [sv p yp, sv q yq] [] (Rp.asn p yp ++ Rp.asn q yq) (Two (refTwo p q)) (fun x => x.v) (fun _ => []) (fun x => x.g) := by
  refine con Tryd.func25 rfl Tryd.ntmps25 rfl ?_
  intro M0 F0 w0
  refine cs ?_
  refine cr ?_
  refine ls (o_box rfl rfl rfl) ?_
  refine le ?_; intro b2
  refine ls (o_box rfl rfl rfl) ?_
  refine le ?_; intro b3
  refine ls (o_alloc Tryd.zeroValue24 rfl rfl) ?_
  refine le ?_; intro b4
  refine ls (o_alloc Tryd.zeroValue24 rfl rfl) ?_
  refine le ?_; intro b5
  refine ls (op (p_asg rfl) rfl) ?_
  refine ln ?_
  refine nthen ?_
  refine cs ?_
  refine cs ?_
  have hp1 := hp.o; have hp2 := hp.n; have hq1 := hq.o; have hq2 := hq.n; have hpa := right_pos hpr; have hqa := right_pos hqr
  refine cr ?_
  refine ls (op (p_fa fa24_0 rfl) rfl) ?_
  refine ls (o_ld Tryd.isAgg3 rfl (by repeat (first | exact At.z | apply At.s)) (by repeat (first | exact At.z | apply At.s)) rfl) ?_
  refine ls (op (p_icmp rfl rfl rfl) rfl) ?_
  refine ls (op (p_move rfl) rfl) ?_
  refine andX 4 10 14 rfl (subσ.cons (t := 0) rfl (subσ.cons (t := 1) rfl (subσ.cons (t := 2) rfl (subσ.cons (t := 3) rfl (subσ.cons (t := 4) rfl (subσ.cons (t := 5) rfl (subσ.cons (t := 6) rfl (subσ.nil _)))))))) ?_ ?_
  · intro h10
    refine lskip rfl rfl rfl rfl rfl ?_
    refine lskip rfl rfl rfl rfl rfl ?_
    refine lskip rfl rfl rfl rfl rfl ?_
    refine ls (op (p_pickf rfl rfl) rfl) ?_
    refine ln (nmid (wk0 (by repeat (first | exact subσ.nil _ | refine subσ.cons rfl ?_)) (by repeat (first | exact Sub.d | (refine Sub.s ?_ ?_; (repeat (first | exact In.z | apply In.s))) | (refine Sub.suf ?_; (repeat (first | exact Suf.z | apply Suf.s)))))))
  apply exI
  · intro h10
    refine lwant rfl rfl rfl rfl (op (p_fa fa24_0 rfl) rfl) ?_
    refine lwant rfl rfl rfl rfl (o_ld Tryd.isAgg3 rfl (by repeat (first | exact At.z | apply At.s)) (by repeat (first | exact At.z | apply At.s)) rfl) ?_
    refine lwant rfl rfl rfl rfl (op (p_icmp rfl rfl rfl) rfl) ?_
    refine ls (op (p_pickt rfl rfl) rfl) ?_
    refine ln (nmid (wk0 (by repeat (first | exact subσ.nil _ | refine subσ.cons rfl ?_)) (by repeat (first | exact Sub.d | (refine Sub.s ?_ ?_; (repeat (first | exact In.z | apply In.s))) | (refine Sub.suf ?_; (repeat (first | exact Suf.z | apply Suf.s)))))))
  ·
    refine ls (op (p_move rfl) rfl) ?_
    refine andX 6 15 21 rfl (subσ.cons (t := 0) rfl (subσ.cons (t := 1) rfl (subσ.cons (t := 2) rfl (subσ.cons (t := 3) rfl (subσ.cons (t := 4) rfl (subσ.cons (t := 5) rfl (subσ.cons (t := 6) rfl (subσ.nil _)))))))) ?_ ?_
    · intro h15
      refine lskip rfl rfl rfl rfl rfl ?_
      refine lskip rfl rfl rfl rfl rfl ?_
      refine lskip rfl rfl rfl rfl rfl ?_
      refine lskip rfl rfl rfl rfl rfl ?_
      refine lskip rfl rfl rfl rfl rfl ?_
      refine ls (op (p_pickf rfl rfl) rfl) ?_
      refine ln (nmid (wk0 (by repeat (first | exact subσ.nil _ | refine subσ.cons rfl ?_)) (by repeat (first | exact Sub.d | (refine Sub.s ?_ ?_; (repeat (first | exact In.z | apply In.s))) | (refine Sub.suf ?_; (repeat (first | exact Suf.z | apply Suf.s)))))))
    apply exI
    · intro h15
      refine lwant rfl rfl rfl rfl (op (p_fa fa24_1 rfl) rfl) ?_
      refine lwant rfl rfl rfl rfl (o_ld Tryd.isAgg9 rfl (by repeat (first | exact At.z | apply At.s)) (by repeat (first | exact At.z | apply At.s)) rfl) ?_
      refine lwant rfl rfl rfl rfl (op (p_fa fa24_1 rfl) rfl) ?_
      refine lwant rfl rfl rfl rfl (o_ld Tryd.isAgg9 rfl (by repeat (first | exact At.z | apply At.s)) (by repeat (first | exact At.z | apply At.s)) rfl) ?_
      refine lwant rfl rfl rfl rfl (op (p_seq rfl rfl) rfl) ?_
      refine ls (op (p_pickt rfl rfl) rfl) ?_
      refine ln (nmid (wk0 (by repeat (first | exact subσ.nil _ | refine subσ.cons rfl ?_)) (by repeat (first | exact Sub.d | (refine Sub.s ?_ ?_; (repeat (first | exact In.z | apply In.s))) | (refine Sub.suf ?_; (repeat (first | exact Suf.z | apply Suf.s)))))))
    ·
      refine ln ?_
      refine nthen ?_
      refine cc rfl ?_ ?_
      · intro h21
        have h21' : p.kind = 0 ∧ q.kind = 0 ∧ p.name = q.name := by simpa [and_assoc] using h21
        refine cs ?_
        refine cs ?_
        refine cr ?_
        refine ls (op (p_fa fa24_3 rfl) rfl) ?_
        refine ls (o_ld Tryd.isAgg3 rfl (by repeat (first | exact At.z | apply At.s)) (by repeat (first | exact At.z | apply At.s)) rfl) ?_
        refine ls (op (p_fa fa24_3 rfl) rfl) ?_
        refine ls (o_ld Tryd.isAgg3 rfl (by repeat (first | exact At.z | apply At.s)) (by repeat (first | exact At.z | apply At.s)) rfl) ?_
        refine ls (op (p_fa fa24_5 rfl) rfl) ?_
        refine ls (o_ld Tryd.isAgg22 rfl (by repeat (first | exact At.z | apply At.s)) (by repeat (first | exact At.z | apply At.s)) rfl) ?_
        refine ls (op (p_lenl rfl Tryd.underlying22) rfl) ?_
        refine ls (op (p_add rfl rfl (by omega)) rfl) ?_
        refine ls (op (p_icmp rfl rfl rfl) rfl) ?_
        refine ln ?_
        refine nthen ?_
        refine cc rfl ?_ ?_
        · intro h30
          try simp only [decide_eq_true_eq, decide_eq_false_iff_not, Bool.not_eq_true', Bool.not_eq_false', Int.not_lt, Int.not_le, ge_iff_le, Bool.not_true, Bool.not_false] at h30
          refine cs ?_
          refine cd [11, 13, 14] [(0, b3, 0, _), (2, b3, 3, _), (4, b2, 5, _), (8, b2, 4, _), (12, b2, 0, _)] TrydX.mixed (TOk.t (isBoxS (by repeat (first | exact At.z | apply At.s)) (k := 6) (by repeat (first | exact Cut.d | apply Cut.t | apply Cut.s))) (TOk.t (isBoxS (by repeat (first | exact At.z | apply At.s)) (k := 1) (by repeat (first | exact Cut.d | apply Cut.t | apply Cut.s))) (TOk.t (isBoxS (by repeat (first | exact At.z | apply At.s)) (k := 1) (by repeat (first | exact Cut.d | apply Cut.t | apply Cut.s))) (TOk.t (isBoxS (by repeat (first | exact At.z | apply At.s)) (k := 1) (by repeat (first | exact Cut.d | apply Cut.t | apply Cut.s))) (TOk.t (isBoxS (by repeat (first | exact At.z | apply At.s)) (k := 6) (by repeat (first | exact Cut.d | apply Cut.t | apply Cut.s))) TOk.d))))) ?_
          refine tk 0 rfl (by kernel_rfl) (fun _ _ _ h => h) gnone (TTat (List.Mem.head _)) (p_lda Tryd.isAgg24 Tryd.sizeOf24 rfl rfl) rfl ?_
          refine tk 1 rfl (by kernel_rfl) (fun _ _ _ h => h) gnone (TTany _) (p_fa fa24_3 rfl) rfl ?_
          refine tk 2 rfl (by kernel_rfl) (fun _ _ _ h => h) gnone (TTat (List.Mem.tail _ (List.Mem.head _))) (p_ld Tryd.isAgg3 rfl) rfl ?_
          refine tk 3 rfl (by kernel_rfl) (fun _ _ _ h => h) gnone (TTany _) (p_fa fa24_5 rfl) rfl ?_
          refine tk 4 rfl (by kernel_rfl) (fun _ _ _ h => h) gnone (TTat (List.Mem.tail _ (List.Mem.tail _ (List.Mem.head _)))) (p_ld Tryd.isAgg22 rfl) rfl ?_
          refine tk 5 rfl (by kernel_rfl) (fun _ _ _ h => h) gnone (TTany _) (p_lenl rfl Tryd.underlying22) rfl ?_
          refine tk 6 rfl (by kernel_rfl) (fun _ _ _ h => h) gnone (TTany _) (p_sub rfl rfl (by omega)) rfl ?_
          refine tk 7 rfl (by kernel_rfl) (fun _ _ _ h => h) gnone (TTany _) (p_fa fa24_4 rfl) rfl ?_
          refine tk 8 rfl (by kernel_rfl) (fun _ _ _ h => h) gnone (TTat (List.Mem.tail _ (List.Mem.tail _ (List.Mem.tail _ (List.Mem.head _))))) (p_ld Tryd.isAgg22 rfl) rfl ?_
          refine tk 9 rfl (by kernel_rfl) (fun _ _ _ h => h) gnone (TTany _) (p_lenl rfl Tryd.underlying22) rfl ?_
          refine tk 10 rfl (by kernel_rfl) (fun _ _ _ h => h) gnone (TTany _) (p_add rfl rfl (by omega)) rfl ?_
          refine tk 12 rfl (by kernel_rfl) (fun _ _ _ h => h) gnone (TTat (List.Mem.tail _ (List.Mem.tail _ (List.Mem.tail _ (List.Mem.tail _ (List.Mem.head _)))))) (p_lda Tryd.isAgg24 Tryd.sizeOf24 rfl rfl) rfl ?_
          refine df 11 (by kernel_rfl) ?_
          refine doR rfl (o_call (is := []) Tryd.call35 (c_refAt q yq _) rfl rfl (by repeat (first | exact Sub.d | (refine Sub.s ?_ ?_; (repeat (first | exact In.z | apply In.s))) | (refine Sub.suf ?_; (repeat (first | exact Suf.z | apply Suf.s))))) rfl) (TOk.x (by kernel_rfl) (TOk.x (by kernel_rfl) (TOk.x (by kernel_rfl) (TOk.x (by kernel_rfl) (TOk.t (isBoxE fun _ => isBoxS (by repeat (first | exact At.z | apply At.s)) (k := 6) (by repeat (first | exact Cut.d | apply Cut.t | apply Cut.s))) TOk.d))))) ?_
          refine ea ?_; intro x42
          refine df 13 (by kernel_rfl) ?_
          refine doR rfl (o_st rfl Tryd.sizeOf24 rfl rfl rfl rfl rfl (by repeat (first | exact At.z | apply At.s)) (by repeat (first | exact Put.d | apply Put.t | apply Put.s)) (by repeat (first | exact SetAt.z | apply SetAt.s))) (TOk.x (by kernel_rfl) (TOk.x (by kernel_rfl) (TOk.x (by kernel_rfl) (TOk.x (by kernel_rfl) (TOk.t (isBoxS (by repeat (first | exact At.z | apply At.s)) (k := 6) (by repeat (first | exact Cut.d | apply Cut.t | apply Cut.s))) TOk.d))))) ?_
          refine df 14 (by kernel_rfl) ?_
          refine doR rfl (o_st rfl Tryd.sizeOf24 rfl rfl rfl rfl rfl (by repeat (first | exact At.z | apply At.s)) (by repeat (first | exact Put.d | apply Put.t | apply Put.s)) (by repeat (first | exact SetAt.z | apply SetAt.s))) (TOk.x (by kernel_rfl) (TOk.x (by kernel_rfl) (TOk.x (by kernel_rfl) (TOk.x (by kernel_rfl) (TOk.x (by kernel_rfl) TOk.d))))) ?_
          refine tk 15 rfl (by kernel_rfl) (fun _ _ _ h => h) gnone (TTany _) (p_asg rfl) rfl ?_
          refine dn (by kernel_rfl) ?_
          refine nthen ?_
          refine cret ?_
          refine xret (fun _ _ h => h) ?_
          refine rret (is := []) ⟨(({ q with pos := q.pos - (p.new.length : Int) + (p.old.length : Int) }, p, true), (yq, yp)), by rw [refTwo, if_pos h21', Sx.hunks, if_pos h30, show q.pos - ((p.new.length : Int) - p.old.length) = q.pos - (p.new.length : Int) + (p.old.length : Int) by omega]⟩ (Or.inl rfl) (Res.c rfl Tryd.isAgg24 Tryd.sizeOf24 (by repeat (first | exact At.z | apply At.s)) (by rfl) (Res.c rfl Tryd.isAgg24 Tryd.sizeOf24 (by repeat (first | exact At.z | apply At.s)) (by rfl) (Res.t rfl Res.d))) (rfl) rfl (by repeat (first | exact Sub.d | (refine Sub.s ?_ ?_; (repeat (first | exact In.z | apply In.s))) | (refine Sub.suf ?_; (repeat (first | exact Suf.z | apply Suf.s)))))
        · intro h30
          try simp only [decide_eq_true_eq, decide_eq_false_iff_not, Bool.not_eq_true', Bool.not_eq_false', Int.not_lt, Int.not_le, ge_iff_le, Bool.not_true, Bool.not_false] at h30
          refine cskip ?_
          refine nthen ?_
          refine cs ?_
          refine cs ?_
          refine cr ?_
          refine ls (op (p_fa fa24_3 rfl) rfl) ?_
          refine ls (o_ld Tryd.isAgg3 rfl (by repeat (first | exact At.z | apply At.s)) (by repeat (first | exact At.z | apply At.s)) rfl) ?_
          refine ls (op (p_fa fa24_4 rfl) rfl) ?_
          refine ls (o_ld Tryd.isAgg22 rfl (by repeat (first | exact At.z | apply At.s)) (by repeat (first | exact At.z | apply At.s)) rfl) ?_
          refine ls (op (p_lenl rfl Tryd.underlying22) rfl) ?_
          refine ls (op (p_add rfl rfl (by omega)) rfl) ?_
          refine ls (op (p_fa fa24_3 rfl) rfl) ?_
          refine ls (o_ld Tryd.isAgg3 rfl (by repeat (first | exact At.z | apply At.s)) (by repeat (first | exact At.z | apply At.s)) rfl) ?_
          refine ls (op (p_icmp rfl rfl rfl) rfl) ?_
          refine ln ?_
          refine nthen ?_
          refine cc rfl ?_ ?_
          · intro h52
            try simp only [decide_eq_true_eq, decide_eq_false_iff_not, Bool.not_eq_true', Bool.not_eq_false', Int.not_lt, Int.not_le, ge_iff_le, Bool.not_true, Bool.not_false] at h52
            refine cs ?_
            refine cd [12, 13, 14] [(0, b3, 0, _), (1, b2, 0, _), (3, b2, 3, _), (5, b3, 5, _), (9, b3, 4, _)] TrydX.mixed (TOk.t (isBoxS (by repeat (first | exact At.z | apply At.s)) (k := 6) (by repeat (first | exact Cut.d | apply Cut.t | apply Cut.s))) (TOk.t (isBoxS (by repeat (first | exact At.z | apply At.s)) (k := 6) (by repeat (first | exact Cut.d | apply Cut.t | apply Cut.s))) (TOk.t (isBoxS (by repeat (first | exact At.z | apply At.s)) (k := 1) (by repeat (first | exact Cut.d | apply Cut.t | apply Cut.s))) (TOk.t (isBoxS (by repeat (first | exact At.z | apply At.s)) (k := 1) (by repeat (first | exact Cut.d | apply Cut.t | apply Cut.s))) (TOk.t (isBoxS (by repeat (first | exact At.z | apply At.s)) (k := 1) (by repeat (first | exact Cut.d | apply Cut.t | apply Cut.s))) TOk.d))))) ?_
            refine tk 0 rfl (by kernel_rfl) (fun _ _ _ h => h) gnone (TTat (List.Mem.head _)) (p_lda Tryd.isAgg24 Tryd.sizeOf24 rfl rfl) rfl ?_
            refine tk 1 rfl (by kernel_rfl) (fun _ _ _ h => h) gnone (TTat (List.Mem.tail _ (List.Mem.head _))) (p_lda Tryd.isAgg24 Tryd.sizeOf24 rfl rfl) rfl ?_
            refine tk 2 rfl (by kernel_rfl) (fun _ _ _ h => h) gnone (TTany _) (p_fa fa24_3 rfl) rfl ?_
            refine tk 3 rfl (by kernel_rfl) (fun _ _ _ h => h) gnone (TTat (List.Mem.tail _ (List.Mem.tail _ (List.Mem.head _)))) (p_ld Tryd.isAgg3 rfl) rfl ?_
            refine tk 4 rfl (by kernel_rfl) (fun _ _ _ h => h) gnone (TTany _) (p_fa fa24_5 rfl) rfl ?_
            refine tk 5 rfl (by kernel_rfl) (fun _ _ _ h => h) gnone (TTat (List.Mem.tail _ (List.Mem.tail _ (List.Mem.tail _ (List.Mem.head _))))) (p_ld Tryd.isAgg22 rfl) rfl ?_
            refine tk 6 rfl (by kernel_rfl) (fun _ _ _ h => h) gnone (TTany _) (p_lenl rfl Tryd.underlying22) rfl ?_
            refine tk 7 rfl (by kernel_rfl) (fun _ _ _ h => h) gnone (TTany _) (p_add rfl rfl (by omega)) rfl ?_
            refine tk 8 rfl (by kernel_rfl) (fun _ _ _ h => h) gnone (TTany _) (p_fa fa24_4 rfl) rfl ?_
            refine tk 9 rfl (by kernel_rfl) (fun _ _ _ h => h) gnone (TTat (List.Mem.tail _ (List.Mem.tail _ (List.Mem.tail _ (List.Mem.tail _ (List.Mem.head _)))))) (p_ld Tryd.isAgg22 rfl) rfl ?_
            refine tk 10 rfl (by kernel_rfl) (fun _ _ _ h => h) gnone (TTany _) (p_lenl rfl Tryd.underlying22) rfl ?_
            refine tk 11 rfl (by kernel_rfl) (fun _ _ _ h => h) gnone (TTany _) (p_sub rfl rfl (by omega)) rfl ?_
            refine df 12 (by kernel_rfl) ?_
            refine doR rfl (o_call (is := []) Tryd.call35 (c_refAt p yp _) rfl rfl (by repeat (first | exact Sub.d | (refine Sub.s ?_ ?_; (repeat (first | exact In.z | apply In.s))) | (refine Sub.suf ?_; (repeat (first | exact Suf.z | apply Suf.s))))) rfl) (TOk.t (isBoxE fun _ => isBoxS (by repeat (first | exact At.z | apply At.s)) (k := 6) (by repeat (first | exact Cut.d | apply Cut.t | apply Cut.s))) (TOk.x (by kernel_rfl) (TOk.x (by kernel_rfl) (TOk.x (by kernel_rfl) (TOk.x (by kernel_rfl) TOk.d))))) ?_
            refine ea ?_; intro x65
            refine df 13 (by kernel_rfl) ?_
            refine doR rfl (o_st rfl Tryd.sizeOf24 rfl rfl rfl rfl rfl (by repeat (first | exact At.z | apply At.s)) (by repeat (first | exact Put.d | apply Put.t | apply Put.s)) (by repeat (first | exact SetAt.z | apply SetAt.s))) (TOk.x (by kernel_rfl) (TOk.x (by kernel_rfl) (TOk.x (by kernel_rfl) (TOk.x (by kernel_rfl) (TOk.x (by kernel_rfl) TOk.d))))) ?_
            refine df 14 (by kernel_rfl) ?_
            refine doR rfl (o_st rfl Tryd.sizeOf24 rfl rfl rfl rfl rfl (by repeat (first | exact At.z | apply At.s)) (by repeat (first | exact Put.d | apply Put.t | apply Put.s)) (by repeat (first | exact SetAt.z | apply SetAt.s))) (TOk.x (by kernel_rfl) (TOk.x (by kernel_rfl) (TOk.x (by kernel_rfl) (TOk.x (by kernel_rfl) (TOk.x (by kernel_rfl) TOk.d))))) ?_
            refine tk 15 rfl (by kernel_rfl) (fun _ _ _ h => h) gnone (TTany _) (p_asg rfl) rfl ?_
            refine dn (by kernel_rfl) ?_
            refine nthen ?_
            refine cret ?_
            refine xret (fun _ _ h => h) ?_
            refine rret (is := []) ⟨((q, { p with pos := p.pos + (q.new.length : Int) - (q.old.length : Int) }, true), (yq, yp)), by rw [refTwo, if_pos h21', Sx.hunks, if_neg (by omega), if_pos h52, show p.pos + ((q.new.length : Int) - q.old.length) = p.pos + (q.new.length : Int) - (q.old.length : Int) by omega]⟩ (Or.inl rfl) (Res.c rfl Tryd.isAgg24 Tryd.sizeOf24 (by repeat (first | exact At.z | apply At.s)) (by rfl) (Res.c rfl Tryd.isAgg24 Tryd.sizeOf24 (by repeat (first | exact At.z | apply At.s)) (by rfl) (Res.t rfl Res.d))) (rfl) rfl (by repeat (first | exact Sub.d | (refine Sub.s ?_ ?_; (repeat (first | exact In.z | apply In.s))) | (refine Sub.suf ?_; (repeat (first | exact Suf.z | apply Suf.s)))))
          · intro h52
            try simp only [decide_eq_true_eq, decide_eq_false_iff_not, Bool.not_eq_true', Bool.not_eq_false', Int.not_lt, Int.not_le, ge_iff_le, Bool.not_true, Bool.not_false] at h52
            refine cskip ?_
            refine nthen ?_
            refine cs ?_
            refine cd [2, 3] [(0, b2, 0, _), (1, b3, 0, _)] TrydX.mixed (TOk.t (isBoxS (by repeat (first | exact At.z | apply At.s)) (k := 6) (by repeat (first | exact Cut.d | apply Cut.t | apply Cut.s))) (TOk.t (isBoxS (by repeat (first | exact At.z | apply At.s)) (k := 6) (by repeat (first | exact Cut.d | apply Cut.t | apply Cut.s))) TOk.d)) ?_
            refine tk 0 rfl (by kernel_rfl) (fun _ _ _ h => h) gnone (TTat (List.Mem.head _)) (p_lda Tryd.isAgg24 Tryd.sizeOf24 rfl rfl) rfl ?_
            refine tk 1 rfl (by kernel_rfl) (fun _ _ _ h => h) gnone (TTat (List.Mem.tail _ (List.Mem.head _))) (p_lda Tryd.isAgg24 Tryd.sizeOf24 rfl rfl) rfl ?_
            refine df 2 (by kernel_rfl) ?_
            refine doR rfl (o_st rfl Tryd.sizeOf24 rfl rfl rfl rfl rfl (by repeat (first | exact At.z | apply At.s)) (by repeat (first | exact Put.d | apply Put.t | apply Put.s)) (by repeat (first | exact SetAt.z | apply SetAt.s))) (TOk.x (by kernel_rfl) (TOk.t (isBoxS (by repeat (first | exact At.z | apply At.s)) (k := 6) (by repeat (first | exact Cut.d | apply Cut.t | apply Cut.s))) TOk.d)) ?_
            refine df 3 (by kernel_rfl) ?_
            refine doR rfl (o_st rfl Tryd.sizeOf24 rfl rfl rfl rfl rfl (by repeat (first | exact At.z | apply At.s)) (by repeat (first | exact Put.d | apply Put.t | apply Put.s)) (by repeat (first | exact SetAt.z | apply SetAt.s))) (TOk.x (by kernel_rfl) (TOk.x (by kernel_rfl) TOk.d)) ?_
            refine tk 4 rfl (by kernel_rfl) (fun _ _ _ h => h) gnone (TTany _) (p_asg rfl) rfl ?_
            refine dn (by kernel_rfl) ?_
            refine nthen ?_
            refine cret ?_
            refine xret (fun _ _ h => h) ?_
            refine rret (is := []) ⟨((p, q, false), (yp, yq)), by rw [refTwo, if_pos h21', Sx.hunks, if_neg (by omega), if_neg (by omega)]⟩ (Or.inl rfl) (Res.c rfl Tryd.isAgg24 Tryd.sizeOf24 (by repeat (first | exact At.z | apply At.s)) (by rfl) (Res.c rfl Tryd.isAgg24 Tryd.sizeOf24 (by repeat (first | exact At.z | apply At.s)) (by rfl) (Res.t rfl Res.d))) (rfl) rfl (by repeat (first | exact Sub.d | (refine Sub.s ?_ ?_; (repeat (first | exact In.z | apply In.s))) | (refine Sub.suf ?_; (repeat (first | exact Suf.z | apply Suf.s)))))
      · intro h21
        have h21' : ¬ (p.kind = 0 ∧ q.kind = 0 ∧ p.name = q.name) := by intro e; obtain ⟨e1, e2, e3⟩ := e; rw [e1, e2, e3] at h21; simp at h21
        refine cskip ?_
        refine nthen ?_
        refine cs ?_
        refine cs ?_
        refine cr ?_
        refine ls (op (p_fa fa24_0 rfl) rfl) ?_
        refine ls (o_ld Tryd.isAgg3 rfl (by repeat (first | exact At.z | apply At.s)) (by repeat (first | exact At.z | apply At.s)) rfl) ?_
        refine ls (op (p_icmp rfl rfl rfl) rfl) ?_
        refine ls (op (p_move rfl) rfl) ?_
        refine andX 4 71 75 rfl (subσ.cons (t := 0) rfl (subσ.cons (t := 1) rfl (subσ.cons (t := 2) rfl (subσ.cons (t := 3) rfl (subσ.cons (t := 4) rfl (subσ.cons (t := 5) rfl (subσ.cons (t := 6) rfl (subσ.cons (t := 21) rfl (subσ.nil _))))))))) ?_ ?_
        · intro h71
          refine lskip rfl rfl rfl rfl rfl ?_
          refine lskip rfl rfl rfl rfl rfl ?_
          refine lskip rfl rfl rfl rfl rfl ?_
          refine ls (op (p_pickf rfl rfl) rfl) ?_
          refine ln (nmid (wk0 (by repeat (first | exact subσ.nil _ | refine subσ.cons rfl ?_)) (by repeat (first | exact Sub.d | (refine Sub.s ?_ ?_; (repeat (first | exact In.z | apply In.s))) | (refine Sub.suf ?_; (repeat (first | exact Suf.z | apply Suf.s)))))))
        apply exI
        · intro h71
          refine lwant rfl rfl rfl rfl (op (p_fa fa24_0 rfl) rfl) ?_
          refine lwant rfl rfl rfl rfl (o_ld Tryd.isAgg3 rfl (by repeat (first | exact At.z | apply At.s)) (by repeat (first | exact At.z | apply At.s)) rfl) ?_
          refine lwant rfl rfl rfl rfl (op (p_icmp rfl rfl rfl) rfl) ?_
          refine ls (op (p_pickt rfl rfl) rfl) ?_
          refine ln (nmid (wk0 (by repeat (first | exact subσ.nil _ | refine subσ.cons rfl ?_)) (by repeat (first | exact Sub.d | (refine Sub.s ?_ ?_; (repeat (first | exact In.z | apply In.s))) | (refine Sub.suf ?_; (repeat (first | exact Suf.z | apply Suf.s)))))))
        ·
          refine ls (op (p_move rfl) rfl) ?_
          refine andX 6 76 82 rfl (subσ.cons (t := 0) rfl (subσ.cons (t := 1) rfl (subσ.cons (t := 2) rfl (subσ.cons (t := 3) rfl (subσ.cons (t := 4) rfl (subσ.cons (t := 5) rfl (subσ.cons (t := 6) rfl (subσ.cons (t := 21) rfl (subσ.nil _))))))))) ?_ ?_
          · intro h76
            refine lskip rfl rfl rfl rfl rfl ?_
            refine lskip rfl rfl rfl rfl rfl ?_
            refine lskip rfl rfl rfl rfl rfl ?_
            refine lskip rfl rfl rfl rfl rfl ?_
            refine lskip rfl rfl rfl rfl rfl ?_
            refine ls (op (p_pickf rfl rfl) rfl) ?_
            refine ln (nmid (wk0 (by repeat (first | exact subσ.nil _ | refine subσ.cons rfl ?_)) (by repeat (first | exact Sub.d | (refine Sub.s ?_ ?_; (repeat (first | exact In.z | apply In.s))) | (refine Sub.suf ?_; (repeat (first | exact Suf.z | apply Suf.s)))))))
          apply exI
          · intro h76
            refine lwant rfl rfl rfl rfl (op (p_fa fa24_1 rfl) rfl) ?_
            refine lwant rfl rfl rfl rfl (o_ld Tryd.isAgg9 rfl (by repeat (first | exact At.z | apply At.s)) (by repeat (first | exact At.z | apply At.s)) rfl) ?_
            refine lwant rfl rfl rfl rfl (op (p_fa fa24_1 rfl) rfl) ?_
            refine lwant rfl rfl rfl rfl (o_ld Tryd.isAgg9 rfl (by repeat (first | exact At.z | apply At.s)) (by repeat (first | exact At.z | apply At.s)) rfl) ?_
            refine lwant rfl rfl rfl rfl (op (p_seq rfl rfl) rfl) ?_
            refine ls (op (p_pickt rfl rfl) rfl) ?_
            refine ln (nmid (wk0 (by repeat (first | exact subσ.nil _ | refine subσ.cons rfl ?_)) (by repeat (first | exact Sub.d | (refine Sub.s ?_ ?_; (repeat (first | exact In.z | apply In.s))) | (refine Sub.suf ?_; (repeat (first | exact Suf.z | apply Suf.s)))))))
          ·
            refine ln ?_
            refine nthen ?_
            refine cc rfl ?_ ?_
            · intro h82
              have h82' : p.kind = 0 ∧ q.kind = 3 ∧ p.name = q.name := by simpa [and_assoc] using h82
              refine cs ?_
              refine cd [4, 5, 6] [(0, b3, 0, _), (1, b2, 0, _), (3, b3, 2, _)] TrydX.mixed (TOk.t (isBoxS (by repeat (first | exact At.z | apply At.s)) (k := 6) (by repeat (first | exact Cut.d | apply Cut.t | apply Cut.s))) (TOk.t (isBoxS (by repeat (first | exact At.z | apply At.s)) (k := 6) (by repeat (first | exact Cut.d | apply Cut.t | apply Cut.s))) (TOk.t (isBoxS (by repeat (first | exact At.z | apply At.s)) (k := 1) (by repeat (first | exact Cut.d | apply Cut.t | apply Cut.s))) TOk.d))) ?_
              refine tk 0 rfl (by kernel_rfl) (fun _ _ _ h => h) gnone (TTat (List.Mem.head _)) (p_lda Tryd.isAgg24 Tryd.sizeOf24 rfl rfl) rfl ?_
              refine tk 1 rfl (by kernel_rfl) (fun _ _ _ h => h) gnone (TTat (List.Mem.tail _ (List.Mem.head _))) (p_lda Tryd.isAgg24 Tryd.sizeOf24 rfl rfl) rfl ?_
              refine tk 2 rfl (by kernel_rfl) (fun _ _ _ h => h) gnone (TTany _) (p_fa fa24_2 rfl) rfl ?_
              refine tk 3 rfl (by kernel_rfl) (fun _ _ _ h => h) gnone (TTat (List.Mem.tail _ (List.Mem.tail _ (List.Mem.head _)))) (p_ld Tryd.isAgg9 rfl) rfl ?_
              refine df 4 (by kernel_rfl) ?_
              refine doR rfl (o_call (is := []) Tryd.call36 (c_refIn p yp _) rfl rfl (by repeat (first | exact Sub.d | (refine Sub.s ?_ ?_; (repeat (first | exact In.z | apply In.s))) | (refine Sub.suf ?_; (repeat (first | exact Suf.z | apply Suf.s))))) rfl) (TOk.t (isBoxE fun _ => isBoxS (by repeat (first | exact At.z | apply At.s)) (k := 6) (by repeat (first | exact Cut.d | apply Cut.t | apply Cut.s))) (TOk.x (by kernel_rfl) (TOk.x (by kernel_rfl) TOk.d))) ?_
              refine ea ?_; intro x87
              refine df 5 (by kernel_rfl) ?_
              refine doR rfl (o_st rfl Tryd.sizeOf24 rfl rfl rfl rfl rfl (by repeat (first | exact At.z | apply At.s)) (by repeat (first | exact Put.d | apply Put.t | apply Put.s)) (by repeat (first | exact SetAt.z | apply SetAt.s))) (TOk.x (by kernel_rfl) (TOk.x (by kernel_rfl) (TOk.x (by kernel_rfl) TOk.d))) ?_
              refine df 6 (by kernel_rfl) ?_
              refine doR rfl (o_st rfl Tryd.sizeOf24 rfl rfl rfl rfl rfl (by repeat (first | exact At.z | apply At.s)) (by repeat (first | exact Put.d | apply Put.t | apply Put.s)) (by repeat (first | exact SetAt.z | apply SetAt.s))) (TOk.x (by kernel_rfl) (TOk.x (by kernel_rfl) (TOk.x (by kernel_rfl) TOk.d))) ?_
              refine tk 7 rfl (by kernel_rfl) (fun _ _ _ h => h) gnone (TTany _) (p_asg rfl) rfl ?_
              refine dn (by kernel_rfl) ?_
              refine nthen ?_
              refine cret ?_
              refine xret (fun _ _ h => h) ?_
              refine rret (is := []) ⟨((q, { p with name := q.to }, true), (yq, yp)), by rw [refTwo, if_neg h21', if_pos h82']⟩ (Or.inl rfl) (Res.c rfl Tryd.isAgg24 Tryd.sizeOf24 (by repeat (first | exact At.z | apply At.s)) (by rfl) (Res.c rfl Tryd.isAgg24 Tryd.sizeOf24 (by repeat (first | exact At.z | apply At.s)) (by rfl) (Res.t rfl Res.d))) (rfl) rfl (by repeat (first | exact Sub.d | (refine Sub.s ?_ ?_; (repeat (first | exact In.z | apply In.s))) | (refine Sub.suf ?_; (repeat (first | exact Suf.z | apply Suf.s)))))
            · intro h82
              have h82' : ¬ (p.kind = 0 ∧ q.kind = 3 ∧ p.name = q.name) := by intro e; obtain ⟨e1, e2, e3⟩ := e; rw [e1, e2, e3] at h82; simp at h82
              refine cskip ?_
              refine nthen ?_
              refine cs ?_
              refine cs ?_
              refine cr ?_
              refine ls (op (p_fa fa24_0 rfl) rfl) ?_
              refine ls (o_ld Tryd.isAgg3 rfl (by repeat (first | exact At.z | apply At.s)) (by repeat (first | exact At.z | apply At.s)) rfl) ?_
              refine ls (op (p_icmp rfl rfl rfl) rfl) ?_
              refine ls (op (p_move rfl) rfl) ?_
              refine andX 4 91 95 rfl (subσ.cons (t := 0) rfl (subσ.cons (t := 1) rfl (subσ.cons (t := 2) rfl (subσ.cons (t := 3) rfl (subσ.cons (t := 4) rfl (subσ.cons (t := 5) rfl (subσ.cons (t := 6) rfl (subσ.cons (t := 21) rfl (subσ.cons (t := 82) rfl (subσ.nil _)))))))))) ?_ ?_
              · intro h91
                refine lskip rfl rfl rfl rfl rfl ?_
                refine lskip rfl rfl rfl rfl rfl ?_
                refine lskip rfl rfl rfl rfl rfl ?_
                refine ls (op (p_pickf rfl rfl) rfl) ?_
                refine ln (nmid (wk0 (by repeat (first | exact subσ.nil _ | refine subσ.cons rfl ?_)) (by repeat (first | exact Sub.d | (refine Sub.s ?_ ?_; (repeat (first | exact In.z | apply In.s))) | (refine Sub.suf ?_; (repeat (first | exact Suf.z | apply Suf.s)))))))
              apply exI
              · intro h91
                refine lwant rfl rfl rfl rfl (op (p_fa fa24_0 rfl) rfl) ?_
                refine lwant rfl rfl rfl rfl (o_ld Tryd.isAgg3 rfl (by repeat (first | exact At.z | apply At.s)) (by repeat (first | exact At.z | apply At.s)) rfl) ?_
                refine lwant rfl rfl rfl rfl (op (p_icmp rfl rfl rfl) rfl) ?_
                refine ls (op (p_pickt rfl rfl) rfl) ?_
                refine ln (nmid (wk0 (by repeat (first | exact subσ.nil _ | refine subσ.cons rfl ?_)) (by repeat (first | exact Sub.d | (refine Sub.s ?_ ?_; (repeat (first | exact In.z | apply In.s))) | (refine Sub.suf ?_; (repeat (first | exact Suf.z | apply Suf.s)))))))
              ·
                refine ls (op (p_move rfl) rfl) ?_
                refine andX 6 96 102 rfl (subσ.cons (t := 0) rfl (subσ.cons (t := 1) rfl (subσ.cons (t := 2) rfl (subσ.cons (t := 3) rfl (subσ.cons (t := 4) rfl (subσ.cons (t := 5) rfl (subσ.cons (t := 6) rfl (subσ.cons (t := 21) rfl (subσ.cons (t := 82) rfl (subσ.nil _)))))))))) ?_ ?_
                · intro h96
                  refine lskip rfl rfl rfl rfl rfl ?_
                  refine lskip rfl rfl rfl rfl rfl ?_
                  refine lskip rfl rfl rfl rfl rfl ?_
                  refine lskip rfl rfl rfl rfl rfl ?_
                  refine lskip rfl rfl rfl rfl rfl ?_
                  refine ls (op (p_pickf rfl rfl) rfl) ?_
                  refine ln (nmid (wk0 (by repeat (first | exact subσ.nil _ | refine subσ.cons rfl ?_)) (by repeat (first | exact Sub.d | (refine Sub.s ?_ ?_; (repeat (first | exact In.z | apply In.s))) | (refine Sub.suf ?_; (repeat (first | exact Suf.z | apply Suf.s)))))))
                apply exI
                · intro h96
                  refine lwant rfl rfl rfl rfl (op (p_fa fa24_2 rfl) rfl) ?_
                  refine lwant rfl rfl rfl rfl (o_ld Tryd.isAgg9 rfl (by repeat (first | exact At.z | apply At.s)) (by repeat (first | exact At.z | apply At.s)) rfl) ?_
                  refine lwant rfl rfl rfl rfl (op (p_fa fa24_1 rfl) rfl) ?_
                  refine lwant rfl rfl rfl rfl (o_ld Tryd.isAgg9 rfl (by repeat (first | exact At.z | apply At.s)) (by repeat (first | exact At.z | apply At.s)) rfl) ?_
                  refine lwant rfl rfl rfl rfl (op (p_seq rfl rfl) rfl) ?_
                  refine ls (op (p_pickt rfl rfl) rfl) ?_
                  refine ln (nmid (wk0 (by repeat (first | exact subσ.nil _ | refine subσ.cons rfl ?_)) (by repeat (first | exact Sub.d | (refine Sub.s ?_ ?_; (repeat (first | exact In.z | apply In.s))) | (refine Sub.suf ?_; (repeat (first | exact Suf.z | apply Suf.s)))))))
                ·
                  refine ln ?_
                  refine nthen ?_
                  refine cc rfl ?_ ?_
                  · intro h102
                    have h102' : p.kind = 3 ∧ q.kind = 0 ∧ p.to = q.name := by simpa [and_assoc] using h102
                    refine cs ?_
                    refine cd [3, 5, 6] [(0, b3, 0, _), (2, b2, 1, _), (4, b2, 0, _)] TrydX.mixed (TOk.t (isBoxS (by repeat (first | exact At.z | apply At.s)) (k := 6) (by repeat (first | exact Cut.d | apply Cut.t | apply Cut.s))) (TOk.t (isBoxS (by repeat (first | exact At.z | apply At.s)) (k := 1) (by repeat (first | exact Cut.d | apply Cut.t | apply Cut.s))) (TOk.t (isBoxS (by repeat (first | exact At.z | apply At.s)) (k := 6) (by repeat (first | exact Cut.d | apply Cut.t | apply Cut.s))) TOk.d))) ?_
                    refine tk 0 rfl (by kernel_rfl) (fun _ _ _ h => h) gnone (TTat (List.Mem.head _)) (p_lda Tryd.isAgg24 Tryd.sizeOf24 rfl rfl) rfl ?_
                    refine tk 1 rfl (by kernel_rfl) (fun _ _ _ h => h) gnone (TTany _) (p_fa fa24_1 rfl) rfl ?_
                    refine tk 2 rfl (by kernel_rfl) (fun _ _ _ h => h) gnone (TTat (List.Mem.tail _ (List.Mem.head _))) (p_ld Tryd.isAgg9 rfl) rfl ?_
                    refine tk 4 rfl (by kernel_rfl) (fun _ _ _ h => h) gnone (TTat (List.Mem.tail _ (List.Mem.tail _ (List.Mem.head _)))) (p_lda Tryd.isAgg24 Tryd.sizeOf24 rfl rfl) rfl ?_
                    refine df 3 (by kernel_rfl) ?_
                    refine doR rfl (o_call (is := []) Tryd.call36 (c_refIn q yq _) rfl rfl (by repeat (first | exact Sub.d | (refine Sub.s ?_ ?_; (repeat (first | exact In.z | apply In.s))) | (refine Sub.suf ?_; (repeat (first | exact Suf.z | apply Suf.s))))) rfl) (TOk.x (by kernel_rfl) (TOk.x (by kernel_rfl) (TOk.t (isBoxE fun _ => isBoxS (by repeat (first | exact At.z | apply At.s)) (k := 6) (by repeat (first | exact Cut.d | apply Cut.t | apply Cut.s))) TOk.d))) ?_
                    refine ea ?_; intro x106
                    refine df 5 (by kernel_rfl) ?_
                    refine doR rfl (o_st rfl Tryd.sizeOf24 rfl rfl rfl rfl rfl (by repeat (first | exact At.z | apply At.s)) (by repeat (first | exact Put.d | apply Put.t | apply Put.s)) (by repeat (first | exact SetAt.z | apply SetAt.s))) (TOk.x (by kernel_rfl) (TOk.x (by kernel_rfl) (TOk.t (isBoxS (by repeat (first | exact At.z | apply At.s)) (k := 6) (by repeat (first | exact Cut.d | apply Cut.t | apply Cut.s))) TOk.d))) ?_
                    refine df 6 (by kernel_rfl) ?_
                    refine doR rfl (o_st rfl Tryd.sizeOf24 rfl rfl rfl rfl rfl (by repeat (first | exact At.z | apply At.s)) (by repeat (first | exact Put.d | apply Put.t | apply Put.s)) (by repeat (first | exact SetAt.z | apply SetAt.s))) (TOk.x (by kernel_rfl) (TOk.x (by kernel_rfl) (TOk.x (by kernel_rfl) TOk.d))) ?_
                    refine tk 7 rfl (by kernel_rfl) (fun _ _ _ h => h) gnone (TTany _) (p_asg rfl) rfl ?_
                    refine dn (by kernel_rfl) ?_
                    refine nthen ?_
                    refine cret ?_
                    refine xret (fun _ _ h => h) ?_
                    refine rret (is := []) ⟨(({ q with name := p.name }, p, true), (yq, yp)), by rw [refTwo, if_neg h21', if_neg h82', if_pos h102']⟩ (Or.inl rfl) (Res.c rfl Tryd.isAgg24 Tryd.sizeOf24 (by repeat (first | exact At.z | apply At.s)) (by rfl) (Res.c rfl Tryd.isAgg24 Tryd.sizeOf24 (by repeat (first | exact At.z | apply At.s)) (by rfl) (Res.t rfl Res.d))) (rfl) rfl (by repeat (first | exact Sub.d | (refine Sub.s ?_ ?_; (repeat (first | exact In.z | apply In.s))) | (refine Sub.suf ?_; (repeat (first | exact Suf.z | apply Suf.s)))))
                  · intro h102
                    have h102' : ¬ (p.kind = 3 ∧ q.kind = 0 ∧ p.to = q.name) := by intro e; obtain ⟨e1, e2, e3⟩ := e; rw [e1, e2, e3] at h102; simp at h102
                    refine cskip ?_
                    refine nthen ?_
                    refine cs ?_
                    refine cs ?_
                    refine cr ?_
                    refine ls (op (p_fa fa24_0 rfl) rfl) ?_
                    refine ls (o_ld Tryd.isAgg3 rfl (by repeat (first | exact At.z | apply At.s)) (by repeat (first | exact At.z | apply At.s)) rfl) ?_
                    refine ls (op (p_icmp rfl rfl rfl) rfl) ?_
                    refine ls (op (p_move rfl) rfl) ?_
                    refine andX 4 111 115 rfl (subσ.cons (t := 0) rfl (subσ.cons (t := 1) rfl (subσ.cons (t := 2) rfl (subσ.cons (t := 3) rfl (subσ.cons (t := 4) rfl (subσ.cons (t := 5) rfl (subσ.cons (t := 6) rfl (subσ.cons (t := 21) rfl (subσ.cons (t := 82) rfl (subσ.cons (t := 102) rfl (subσ.nil _))))))))))) ?_ ?_
                    · intro h111
                      refine lskip rfl rfl rfl rfl rfl ?_
                      refine lskip rfl rfl rfl rfl rfl ?_
                      refine lskip rfl rfl rfl rfl rfl ?_
                      refine ls (op (p_pickf rfl rfl) rfl) ?_
                      refine ln (nmid (wk0 (by repeat (first | exact subσ.nil _ | refine subσ.cons rfl ?_)) (by repeat (first | exact Sub.d | (refine Sub.s ?_ ?_; (repeat (first | exact In.z | apply In.s))) | (refine Sub.suf ?_; (repeat (first | exact Suf.z | apply Suf.s)))))))
                    apply exI
                    · intro h111
                      refine lwant rfl rfl rfl rfl (op (p_fa fa24_0 rfl) rfl) ?_
                      refine lwant rfl rfl rfl rfl (o_ld Tryd.isAgg3 rfl (by repeat (first | exact At.z | apply At.s)) (by repeat (first | exact At.z | apply At.s)) rfl) ?_
                      refine lwant rfl rfl rfl rfl (op (p_icmp rfl rfl rfl) rfl) ?_
                      refine ls (op (p_pickt rfl rfl) rfl) ?_
                      refine ln (nmid (wk0 (by repeat (first | exact subσ.nil _ | refine subσ.cons rfl ?_)) (by repeat (first | exact Sub.d | (refine Sub.s ?_ ?_; (repeat (first | exact In.z | apply In.s))) | (refine Sub.suf ?_; (repeat (first | exact Suf.z | apply Suf.s)))))))
                    ·
                      refine ln ?_
                      refine nthen ?_
                      refine cc rfl ?_ ?_
                      · intro h115
                        have h115' : p.kind = 0 ∧ q.kind = 0 := by simpa using h115
                        refine cs ?_
                        refine cd [2, 3] [(0, b3, 0, _), (1, b2, 0, _)] TrydX.mixed (TOk.t (isBoxS (by repeat (first | exact At.z | apply At.s)) (k := 6) (by repeat (first | exact Cut.d | apply Cut.t | apply Cut.s))) (TOk.t (isBoxS (by repeat (first | exact At.z | apply At.s)) (k := 6) (by repeat (first | exact Cut.d | apply Cut.t | apply Cut.s))) TOk.d)) ?_
                        refine tk 0 rfl (by kernel_rfl) (fun _ _ _ h => h) gnone (TTat (List.Mem.head _)) (p_lda Tryd.isAgg24 Tryd.sizeOf24 rfl rfl) rfl ?_
                        refine tk 1 rfl (by kernel_rfl) (fun _ _ _ h => h) gnone (TTat (List.Mem.tail _ (List.Mem.head _))) (p_lda Tryd.isAgg24 Tryd.sizeOf24 rfl rfl) rfl ?_
                        refine df 2 (by kernel_rfl) ?_
                        refine doR rfl (o_st rfl Tryd.sizeOf24 rfl rfl rfl rfl rfl (by repeat (first | exact At.z | apply At.s)) (by repeat (first | exact Put.d | apply Put.t | apply Put.s)) (by repeat (first | exact SetAt.z | apply SetAt.s))) (TOk.x (by kernel_rfl) (TOk.t (isBoxS (by repeat (first | exact At.z | apply At.s)) (k := 6) (by repeat (first | exact Cut.d | apply Cut.t | apply Cut.s))) TOk.d)) ?_
                        refine df 3 (by kernel_rfl) ?_
                        refine doR rfl (o_st rfl Tryd.sizeOf24 rfl rfl rfl rfl rfl (by repeat (first | exact At.z | apply At.s)) (by repeat (first | exact Put.d | apply Put.t | apply Put.s)) (by repeat (first | exact SetAt.z | apply SetAt.s))) (TOk.x (by kernel_rfl) (TOk.x (by kernel_rfl) TOk.d)) ?_
                        refine tk 4 rfl (by kernel_rfl) (fun _ _ _ h => h) gnone (TTany _) (p_asg rfl) rfl ?_
                        refine dn (by kernel_rfl) ?_
                        refine nthen ?_
                        refine cret ?_
                        refine xret (fun _ _ h => h) ?_
                        refine rret (is := []) ⟨((q, p, true), (yq, yp)), by rw [refTwo, if_neg h21', if_neg h82', if_neg h102', if_pos h115']⟩ (Or.inl rfl) (Res.c rfl Tryd.isAgg24 Tryd.sizeOf24 (by repeat (first | exact At.z | apply At.s)) (by rfl) (Res.c rfl Tryd.isAgg24 Tryd.sizeOf24 (by repeat (first | exact At.z | apply At.s)) (by rfl) (Res.t rfl Res.d))) (rfl) rfl (by repeat (first | exact Sub.d | (refine Sub.s ?_ ?_; (repeat (first | exact In.z | apply In.s))) | (refine Sub.suf ?_; (repeat (first | exact Suf.z | apply Suf.s)))))
                      · intro h115
                        have h115' : ¬ (p.kind = 0 ∧ q.kind = 0) := by intro e; rw [e.1, e.2] at h115; simp at h115
                        refine cskip ?_
                        refine nthen ?_
                        refine cs ?_
                        refine cd [4, 6, 7] [(0, b3, 0, _), (1, b2, 0, _), (2, b2, 0, _), (3, b3, 0, _)] TrydX.mixed (TOk.t (isBoxS (by repeat (first | exact At.z | apply At.s)) (k := 6) (by repeat (first | exact Cut.d | apply Cut.t | apply Cut.s))) (TOk.t (isBoxS (by repeat (first | exact At.z | apply At.s)) (k := 6) (by repeat (first | exact Cut.d | apply Cut.t | apply Cut.s))) (TOk.t (isBoxS (by repeat (first | exact At.z | apply At.s)) (k := 6) (by repeat (first | exact Cut.d | apply Cut.t | apply Cut.s))) (TOk.t (isBoxS (by repeat (first | exact At.z | apply At.s)) (k := 6) (by repeat (first | exact Cut.d | apply Cut.t | apply Cut.s))) TOk.d)))) ?_
                        refine tk 0 rfl (by kernel_rfl) (fun _ _ _ h => h) gnone (TTat (List.Mem.head _)) (p_lda Tryd.isAgg24 Tryd.sizeOf24 rfl rfl) rfl ?_
                        refine tk 1 rfl (by kernel_rfl) (fun _ _ _ h => h) gnone (TTat (List.Mem.tail _ (List.Mem.head _))) (p_lda Tryd.isAgg24 Tryd.sizeOf24 rfl rfl) rfl ?_
                        refine tk 2 rfl (by kernel_rfl) (fun _ _ _ h => h) gnone (TTat (List.Mem.tail _ (List.Mem.tail _ (List.Mem.head _)))) (p_lda Tryd.isAgg24 Tryd.sizeOf24 rfl rfl) rfl ?_
                        refine tk 3 rfl (by kernel_rfl) (fun _ _ _ h => h) gnone (TTat (List.Mem.tail _ (List.Mem.tail _ (List.Mem.tail _ (List.Mem.head _))))) (p_lda Tryd.isAgg24 Tryd.sizeOf24 rfl rfl) rfl ?_
                        refine df 4 (by kernel_rfl) ?_
                        refine doR rfl (o_call (is := []) Tryd.call37 (c_refCommon p q yp yq) rfl rfl (by repeat (first | exact Sub.d | (refine Sub.s ?_ ?_; (repeat (first | exact In.z | apply In.s))) | (refine Sub.suf ?_; (repeat (first | exact Suf.z | apply Suf.s))))) rfl) (TOk.t (isBoxE fun _ => isBoxS (by repeat (first | exact At.z | apply At.s)) (k := 6) (by repeat (first | exact Cut.d | apply Cut.t | apply Cut.s))) (TOk.t (isBoxE fun _ => isBoxS (by repeat (first | exact At.z | apply At.s)) (k := 6) (by repeat (first | exact Cut.d | apply Cut.t | apply Cut.s))) (TOk.x (by kernel_rfl) (TOk.x (by kernel_rfl) TOk.d)))) ?_
                        refine ea ?_; intro x122
                        refine tk 5 rfl (by kernel_rfl) (fun _ _ _ h => h) gnone (TTany _) (p_not rfl) rfl ?_
                        refine df 6 (by kernel_rfl) ?_
                        refine doR rfl (o_st rfl Tryd.sizeOf24 rfl rfl rfl rfl rfl (by repeat (first | exact At.z | apply At.s)) (by repeat (first | exact Put.d | apply Put.t | apply Put.s)) (by repeat (first | exact SetAt.z | apply SetAt.s))) (TOk.x (by kernel_rfl) (TOk.t (isBoxS (by repeat (first | exact At.z | apply At.s)) (k := 6) (by repeat (first | exact Cut.d | apply Cut.t | apply Cut.s))) (TOk.x (by kernel_rfl) (TOk.x (by kernel_rfl) TOk.d)))) ?_
                        refine df 7 (by kernel_rfl) ?_
                        refine doR rfl (o_st rfl Tryd.sizeOf24 rfl rfl rfl rfl rfl (by repeat (first | exact At.z | apply At.s)) (by repeat (first | exact Put.d | apply Put.t | apply Put.s)) (by repeat (first | exact SetAt.z | apply SetAt.s))) (TOk.x (by kernel_rfl) (TOk.x (by kernel_rfl) (TOk.x (by kernel_rfl) (TOk.x (by kernel_rfl) TOk.d)))) ?_
                        refine tk 8 rfl (by kernel_rfl) (fun _ _ _ h => h) gnone (TTany _) (p_asg rfl) rfl ?_
                        refine dn (by kernel_rfl) ?_
                        refine nthen ?_
                        refine cret ?_
                        refine xret (fun _ _ h => h) ?_
                        refine rret (is := []) ⟨((q, p, !p.meets q), (yq, yp)), by rw [refTwo, if_neg h21', if_neg h82', if_neg h102', if_neg h115']⟩ (Or.inl rfl) (Res.c rfl Tryd.isAgg24 Tryd.sizeOf24 (by repeat (first | exact At.z | apply At.s)) (by rfl) (Res.c rfl Tryd.isAgg24 Tryd.sizeOf24 (by repeat (first | exact At.z | apply At.s)) (by rfl) (Res.t rfl Res.d))) (rfl) rfl (by repeat (first | exact Sub.d | (refine Sub.s ?_ ?_; (repeat (first | exact In.z | apply In.s))) | (refine Sub.suf ?_; (repeat (first | exact Suf.z | apply Suf.s)))))

theorem c_refSwap (p q : Prim) (yp yq : Rp.Lay Prim) (hp : p.fit) (hq : q.fit) : Con Tryd.prog 12 [sv p yp, sv q yq] [] (Rp.asn p yp ++ Rp.asn q yq) (Two (refSwap p q)) (fun x => x.v) (fun _ => []) (fun x => x.g) := by
  refine con Tryd.func12 rfl Tryd.ntmps12 rfl ?_
  intro M0 F0 w0
  refine cs ?_
  refine cr ?_
  refine ls (o_box rfl rfl rfl) ?_
  refine le ?_; intro b2
  refine ls (o_box rfl rfl rfl) ?_
  refine le ?_; intro b3
  refine ls (o_alloc Tryd.zeroValue24 rfl rfl) ?_
  refine le ?_; intro b4
  refine ls (o_alloc Tryd.zeroValue24 rfl rfl) ?_
  refine le ?_; intro b5
  refine ls (op (p_asg rfl) rfl) ?_
  refine ln ?_
  refine nthen ?_
  refine cs ?_
  refine cr ?_
  refine ls (op (p_bld sb24 rfl Fill.d) rfl) ?_
  refine ls (o_alloc Tryd.zeroValue24 rfl rfl) ?_
  refine le ?_; intro b7
  refine ls (o_st rfl Tryd.sizeOf24 rfl rfl rfl rfl rfl (by repeat (first | exact At.z | apply At.s)) (by repeat (first | exact Put.d | apply Put.t | apply Put.s)) (by repeat (first | exact SetAt.z | apply SetAt.s))) ?_
  refine ln ?_
  refine nthen ?_
  refine cs ?_
  refine cs ?_
  refine cmono (fun a w h => nilSl (α := ByteArray) h) ?_
  refine cr ?_
  refine ls (o_ldw Tryd.isAgg24 Tryd.sizeOf24 rfl (by repeat (first | exact At.z | apply At.s)) (by rfl) rfl) ?_
  refine ls (o_call (is := []) Tryd.call24 (c_refRight p yp hp) rfl rfl (by repeat (first | exact Sub.d | (refine Sub.s ?_ ?_; (repeat (first | exact In.z | apply In.s))) | (refine Sub.suf ?_; (repeat (first | exact Suf.z | apply Suf.s))))) rfl) ?_
  refine le ?_; intro x13
  refine ls (op (p_not rfl) rfl) ?_
  refine ls (op (p_move rfl) rfl) ?_
  refine orX 4 15 19 rfl (subσ.cons (t := 0) rfl (subσ.cons (t := 1) rfl (subσ.cons (t := 2) rfl (subσ.cons (t := 3) rfl (subσ.cons (t := 4) rfl (subσ.cons (t := 5) rfl (subσ.cons (t := 6) rfl (subσ.cons (t := 11) rfl (subσ.cons (t := 7) rfl (subσ.nil _)))))))))) ?_ ?_
  · intro h15
    refine lskip rfl rfl rfl rfl rfl ?_
    refine lskip rfl rfl rfl rfl rfl ?_
    refine lskip rfl rfl rfl rfl rfl ?_
    refine ls (op (p_pickt rfl rfl) rfl) ?_
    refine ln (nmid (wk0 (by repeat (first | exact subσ.nil _ | refine subσ.cons rfl ?_)) (by repeat (first | exact Sub.d | (refine Sub.s ?_ ?_; (repeat (first | exact In.z | apply In.s))) | (refine Sub.suf ?_; (repeat (first | exact Suf.z | apply Suf.s)))))))
  apply exI
  · intro h15
    refine lwant rfl rfl rfl rfl (o_ldw Tryd.isAgg24 Tryd.sizeOf24 rfl (by repeat (first | exact At.z | apply At.s)) (by rfl) rfl) ?_
    refine lwant rfl rfl rfl rfl (o_call (is := []) Tryd.call24 (c_refRight q yq hq) rfl rfl (by repeat (first | exact Sub.d | (refine Sub.s ?_ ?_; (repeat (first | exact In.z | apply In.s))) | (refine Sub.suf ?_; (repeat (first | exact Suf.z | apply Suf.s))))) rfl) ?_
    refine le ?_; intro x17
    refine lwant rfl rfl rfl rfl (op (p_not rfl) rfl) ?_
    refine ls (op (p_pickf rfl rfl) rfl) ?_
    refine ln (nmid (wk0 (by repeat (first | exact subσ.nil _ | refine subσ.cons rfl ?_)) (by repeat (first | exact Sub.d | (refine Sub.s ?_ ?_; (repeat (first | exact In.z | apply In.s))) | (refine Sub.suf ?_; (repeat (first | exact Suf.z | apply Suf.s)))))))
  ·
    refine ln ?_
    refine nthen ?_
    refine cc rfl ?_ ?_
    · intro h19
      have h19' : (p.right && q.right) = false := by rw [Bool.eq_false_iff]; intro e; simp only [Bool.and_eq_true] at e; rw [e.1, e.2] at h19; simp at h19
      refine cs ?_
      refine cd [2, 3] [(0, b7, 0, _), (1, b7, 0, _)] TrydX.mixed (TOk.t (isBoxS (by repeat (first | exact At.z | apply At.s)) (k := 6) (by repeat (first | exact Cut.d | apply Cut.t | apply Cut.s))) (TOk.t (isBoxS (by repeat (first | exact At.z | apply At.s)) (k := 6) (by repeat (first | exact Cut.d | apply Cut.t | apply Cut.s))) TOk.d)) ?_
      refine tk 0 rfl (by kernel_rfl) (fun _ _ _ h => h) gnone (TTat (List.Mem.head _)) (p_lda Tryd.isAgg24 Tryd.sizeOf24 rfl rfl) rfl ?_
      refine tk 1 rfl (by kernel_rfl) (fun _ _ _ h => h) gnone (TTat (List.Mem.tail _ (List.Mem.head _))) (p_lda Tryd.isAgg24 Tryd.sizeOf24 rfl rfl) rfl ?_
      refine df 2 (by kernel_rfl) ?_
      refine doR rfl (o_st rfl Tryd.sizeOf24 rfl rfl rfl rfl rfl (by repeat (first | exact At.z | apply At.s)) (by repeat (first | exact Put.d | apply Put.t | apply Put.s)) (by repeat (first | exact SetAt.z | apply SetAt.s))) (TOk.x (by kernel_rfl) (TOk.t (isBoxS (by repeat (first | exact At.z | apply At.s)) (k := 6) (by repeat (first | exact Cut.d | apply Cut.t | apply Cut.s))) TOk.d)) ?_
      refine df 3 (by kernel_rfl) ?_
      refine doR rfl (o_st rfl Tryd.sizeOf24 rfl rfl rfl rfl rfl (by repeat (first | exact At.z | apply At.s)) (by repeat (first | exact Put.d | apply Put.t | apply Put.s)) (by repeat (first | exact SetAt.z | apply SetAt.s))) (TOk.x (by kernel_rfl) (TOk.x (by kernel_rfl) TOk.d)) ?_
      refine tk 4 rfl (by kernel_rfl) (fun _ _ _ h => h) gnone (TTany _) (p_asg rfl) rfl ?_
      refine dn (by kernel_rfl) ?_
      refine nthen ?_
      refine cret ?_
      refine xret (fun _ _ h => h) ?_
      refine rret (is := []) ⟨((Prim.zero, Prim.zero, false), (((none, 0), (none, 0)), ((none, 0), (none, 0)))), by rw [Sx.refSwap, h19']; rfl⟩ (Or.inl rfl) (Res.c rfl Tryd.isAgg24 Tryd.sizeOf24 (by repeat (first | exact At.z | apply At.s)) (by rfl) (Res.c rfl Tryd.isAgg24 Tryd.sizeOf24 (by repeat (first | exact At.z | apply At.s)) (by rfl) (Res.t rfl Res.d))) (rfl) rfl (by repeat (first | exact Sub.d | (refine Sub.s ?_ ?_; (repeat (first | exact In.z | apply In.s))) | (refine Sub.suf ?_; (repeat (first | exact Suf.z | apply Suf.s)))))
    · intro h19
      have h19' : p.right = true ∧ q.right = true := by simpa using h19
      refine cskip ?_
      refine nthen ?_
      refine cs ?_
      refine cr ?_
      refine ls (o_ldw Tryd.isAgg24 Tryd.sizeOf24 rfl (by repeat (first | exact At.z | apply At.s)) (by rfl) rfl) ?_
      refine ls (o_ldw Tryd.isAgg24 Tryd.sizeOf24 rfl (by repeat (first | exact At.z | apply At.s)) (by rfl) rfl) ?_
      refine ls (o_call (is := []) Tryd.call25 (c_refTwo p q yp yq hp hq h19'.1 h19'.2) rfl rfl (by repeat (first | exact Sub.d | (refine Sub.s ?_ ?_; (repeat (first | exact In.z | apply In.s))) | (refine Sub.suf ?_; (repeat (first | exact Suf.z | apply Suf.s))))) rfl) ?_
      refine le ?_; rintro ⟨⟨⟨r1, r2, r3⟩, z1, z2⟩, hr⟩
      obtain ⟨hf1, hf2⟩ := two_fit hp hq; rw [← hr] at hf1 hf2; dsimp only at hr hf1 hf2
      refine ls (op (p_move rfl) rfl) ?_
      refine ls (op (p_ext rfl (by repeat (first | exact At.z | apply At.s))) rfl) ?_
      refine ls (op (p_ext rfl (by repeat (first | exact At.z | apply At.s))) rfl) ?_
      refine ls (op (p_ext rfl (by repeat (first | exact At.z | apply At.s))) rfl) ?_
      refine ls (o_alloc Tryd.zeroValue24 rfl rfl) ?_
      refine le ?_; intro b8
      refine ls (o_alloc Tryd.zeroValue24 rfl rfl) ?_
      refine le ?_; intro b9
      refine ls (o_st rfl Tryd.sizeOf24 rfl rfl rfl rfl rfl (by repeat (first | exact At.z | apply At.s)) (by repeat (first | exact Put.d | apply Put.t | apply Put.s)) (by repeat (first | exact SetAt.z | apply SetAt.s))) ?_
      refine ls (o_st rfl Tryd.sizeOf24 rfl rfl rfl rfl rfl (by repeat (first | exact At.z | apply At.s)) (by repeat (first | exact Put.d | apply Put.t | apply Put.s)) (by repeat (first | exact SetAt.z | apply SetAt.s))) ?_
      refine ls (op (p_asg rfl) rfl) ?_
      refine ln ?_
      refine nthen ?_
      refine cs ?_
      refine cs ?_
      refine cr ?_
      refine ls (op (p_move rfl) rfl) ?_
      refine ls (op (p_not rfl) rfl) ?_
      refine ls (op (p_move rfl) rfl) ?_
      refine orX 4 31 35 rfl (subσ.cons (t := 0) rfl (subσ.cons (t := 1) rfl (subσ.cons (t := 2) rfl (subσ.cons (t := 3) rfl (subσ.cons (t := 4) rfl (subσ.cons (t := 5) rfl (subσ.cons (t := 6) rfl (subσ.cons (t := 11) rfl (subσ.cons (t := 7) rfl (subσ.cons (t := 19) rfl (subσ.cons (t := 23) rfl (subσ.cons (t := 24) rfl (subσ.cons (t := 25) rfl (subσ.cons (t := 22) rfl (subσ.cons (t := 26) rfl (subσ.cons (t := 27) rfl (subσ.cons (t := 28) rfl (subσ.cons (t := 8) rfl (subσ.cons (t := 9) rfl (subσ.nil _)))))))))))))))))))) ?_ ?_
      · intro h31
        refine lskip rfl rfl rfl rfl rfl ?_
        refine lskip rfl rfl rfl rfl rfl ?_
        refine lskip rfl rfl rfl rfl rfl ?_
        refine ls (op (p_pickt rfl rfl) rfl) ?_
        refine ln (nmid (wk0 (by repeat (first | exact subσ.nil _ | refine subσ.cons rfl ?_)) (by repeat (first | exact Sub.d | (refine Sub.s ?_ ?_; (repeat (first | exact In.z | apply In.s))) | (refine Sub.suf ?_; (repeat (first | exact Suf.z | apply Suf.s)))))))
      apply exI
      · intro h31
        refine lwant rfl rfl rfl rfl (o_ldw Tryd.isAgg24 Tryd.sizeOf24 rfl (by repeat (first | exact At.z | apply At.s)) (by rfl) rfl) ?_
        refine lwant rfl rfl rfl rfl (o_call (is := []) Tryd.call24 (c_refRight r1 z1 hf1) rfl rfl (by repeat (first | exact Sub.d | (refine Sub.s ?_ ?_; (repeat (first | exact In.z | apply In.s))) | (refine Sub.suf ?_; (repeat (first | exact Suf.z | apply Suf.s))))) rfl) ?_
        refine le ?_; intro x33
        refine lwant rfl rfl rfl rfl (op (p_not rfl) rfl) ?_
        refine ls (op (p_pickf rfl rfl) rfl) ?_
        refine ln (nmid (wk0 (by repeat (first | exact subσ.nil _ | refine subσ.cons rfl ?_)) (by repeat (first | exact Sub.d | (refine Sub.s ?_ ?_; (repeat (first | exact In.z | apply In.s))) | (refine Sub.suf ?_; (repeat (first | exact Suf.z | apply Suf.s)))))))
      ·
        refine ls (op (p_move rfl) rfl) ?_
        refine orX 4 36 40 rfl (subσ.cons (t := 0) rfl (subσ.cons (t := 1) rfl (subσ.cons (t := 2) rfl (subσ.cons (t := 3) rfl (subσ.cons (t := 4) rfl (subσ.cons (t := 5) rfl (subσ.cons (t := 6) rfl (subσ.cons (t := 11) rfl (subσ.cons (t := 7) rfl (subσ.cons (t := 19) rfl (subσ.cons (t := 23) rfl (subσ.cons (t := 24) rfl (subσ.cons (t := 25) rfl (subσ.cons (t := 22) rfl (subσ.cons (t := 26) rfl (subσ.cons (t := 27) rfl (subσ.cons (t := 28) rfl (subσ.cons (t := 8) rfl (subσ.cons (t := 9) rfl (subσ.nil _)))))))))))))))))))) ?_ ?_
        · intro h36
          refine lskip rfl rfl rfl rfl rfl ?_
          refine lskip rfl rfl rfl rfl rfl ?_
          refine lskip rfl rfl rfl rfl rfl ?_
          refine ls (op (p_pickt rfl rfl) rfl) ?_
          refine ln (nmid (wk0 (by repeat (first | exact subσ.nil _ | refine subσ.cons rfl ?_)) (by repeat (first | exact Sub.d | (refine Sub.s ?_ ?_; (repeat (first | exact In.z | apply In.s))) | (refine Sub.suf ?_; (repeat (first | exact Suf.z | apply Suf.s)))))))
        apply exI
        · intro h36
          refine lwant rfl rfl rfl rfl (o_ldw Tryd.isAgg24 Tryd.sizeOf24 rfl (by repeat (first | exact At.z | apply At.s)) (by rfl) rfl) ?_
          refine lwant rfl rfl rfl rfl (o_call (is := []) Tryd.call24 (c_refRight r2 z2 hf2) rfl rfl (by repeat (first | exact Sub.d | (refine Sub.s ?_ ?_; (repeat (first | exact In.z | apply In.s))) | (refine Sub.suf ?_; (repeat (first | exact Suf.z | apply Suf.s))))) rfl) ?_
          refine le ?_; intro x38
          refine lwant rfl rfl rfl rfl (op (p_not rfl) rfl) ?_
          refine ls (op (p_pickf rfl rfl) rfl) ?_
          refine ln (nmid (wk0 (by repeat (first | exact subσ.nil _ | refine subσ.cons rfl ?_)) (by repeat (first | exact Sub.d | (refine Sub.s ?_ ?_; (repeat (first | exact In.z | apply In.s))) | (refine Sub.suf ?_; (repeat (first | exact Suf.z | apply Suf.s)))))))
        ·
          refine ln ?_
          refine nthen ?_
          refine cc rfl ?_ ?_
          · intro h40
            dsimp only at h40
            refine cs ?_
            refine cd [2, 3] [(0, b7, 0, _), (1, b7, 0, _)] TrydX.mixed (TOk.t (isBoxS (by repeat (first | exact At.z | apply At.s)) (k := 6) (by repeat (first | exact Cut.d | apply Cut.t | apply Cut.s))) (TOk.t (isBoxS (by repeat (first | exact At.z | apply At.s)) (k := 6) (by repeat (first | exact Cut.d | apply Cut.t | apply Cut.s))) TOk.d)) ?_
            refine tk 0 rfl (by kernel_rfl) (fun _ _ _ h => h) gnone (TTat (List.Mem.head _)) (p_lda Tryd.isAgg24 Tryd.sizeOf24 rfl rfl) rfl ?_
            refine tk 1 rfl (by kernel_rfl) (fun _ _ _ h => h) gnone (TTat (List.Mem.tail _ (List.Mem.head _))) (p_lda Tryd.isAgg24 Tryd.sizeOf24 rfl rfl) rfl ?_
            refine df 2 (by kernel_rfl) ?_
            refine doR rfl (o_st rfl Tryd.sizeOf24 rfl rfl rfl rfl rfl (by repeat (first | exact At.z | apply At.s)) (by repeat (first | exact Put.d | apply Put.t | apply Put.s)) (by repeat (first | exact SetAt.z | apply SetAt.s))) (TOk.x (by kernel_rfl) (TOk.t (isBoxS (by repeat (first | exact At.z | apply At.s)) (k := 6) (by repeat (first | exact Cut.d | apply Cut.t | apply Cut.s))) TOk.d)) ?_
            refine df 3 (by kernel_rfl) ?_
            refine doR rfl (o_st rfl Tryd.sizeOf24 rfl rfl rfl rfl rfl (by repeat (first | exact At.z | apply At.s)) (by repeat (first | exact Put.d | apply Put.t | apply Put.s)) (by repeat (first | exact SetAt.z | apply SetAt.s))) (TOk.x (by kernel_rfl) (TOk.x (by kernel_rfl) TOk.d)) ?_
            refine tk 4 rfl (by kernel_rfl) (fun _ _ _ h => h) gnone (TTany _) (p_asg rfl) rfl ?_
            refine dn (by kernel_rfl) ?_
            refine nthen ?_
            refine cret ?_
            refine xret (fun _ _ h => h) ?_
            refine rret (is := []) ⟨((Prim.zero, Prim.zero, false), (((none, 0), (none, 0)), ((none, 0), (none, 0)))), by rw [Sx.refSwap, ← hr]; cases r3 <;> cases e1 : r1.right <;> cases e2 : r2.right <;> simp_all⟩ (Or.inl rfl) (Res.c rfl Tryd.isAgg24 Tryd.sizeOf24 (by repeat (first | exact At.z | apply At.s)) (by rfl) (Res.c rfl Tryd.isAgg24 Tryd.sizeOf24 (by repeat (first | exact At.z | apply At.s)) (by rfl) (Res.t rfl Res.d))) (rfl) rfl (by repeat (first | exact Sub.d | (refine Sub.s ?_ ?_; (repeat (first | exact In.z | apply In.s))) | (refine Sub.suf ?_; (repeat (first | exact Suf.z | apply Suf.s)))))
          · intro h40
            dsimp only at h40
            refine cskip ?_
            refine nthen ?_
            refine cs ?_
            refine cd [2, 3] [(0, b8, 0, _), (1, b9, 0, _)] TrydX.mixed (TOk.t (isBoxS (by repeat (first | exact At.z | apply At.s)) (k := 6) (by repeat (first | exact Cut.d | apply Cut.t | apply Cut.s))) (TOk.t (isBoxS (by repeat (first | exact At.z | apply At.s)) (k := 6) (by repeat (first | exact Cut.d | apply Cut.t | apply Cut.s))) TOk.d)) ?_
            refine tk 0 rfl (by kernel_rfl) (fun _ _ _ h => h) gnone (TTat (List.Mem.head _)) (p_lda Tryd.isAgg24 Tryd.sizeOf24 rfl rfl) rfl ?_
            refine tk 1 rfl (by kernel_rfl) (fun _ _ _ h => h) gnone (TTat (List.Mem.tail _ (List.Mem.head _))) (p_lda Tryd.isAgg24 Tryd.sizeOf24 rfl rfl) rfl ?_
            refine df 2 (by kernel_rfl) ?_
            refine doR rfl (o_st rfl Tryd.sizeOf24 rfl rfl rfl rfl rfl (by repeat (first | exact At.z | apply At.s)) (by repeat (first | exact Put.d | apply Put.t | apply Put.s)) (by repeat (first | exact SetAt.z | apply SetAt.s))) (TOk.x (by kernel_rfl) (TOk.t (isBoxS (by repeat (first | exact At.z | apply At.s)) (k := 6) (by repeat (first | exact Cut.d | apply Cut.t | apply Cut.s))) TOk.d)) ?_
            refine df 3 (by kernel_rfl) ?_
            refine doR rfl (o_st rfl Tryd.sizeOf24 rfl rfl rfl rfl rfl (by repeat (first | exact At.z | apply At.s)) (by repeat (first | exact Put.d | apply Put.t | apply Put.s)) (by repeat (first | exact SetAt.z | apply SetAt.s))) (TOk.x (by kernel_rfl) (TOk.x (by kernel_rfl) TOk.d)) ?_
            refine tk 4 rfl (by kernel_rfl) (fun _ _ _ h => h) gnone (TTany _) (p_asg rfl) rfl ?_
            refine dn (by kernel_rfl) ?_
            refine nthen ?_
            refine cret ?_
            refine xret (fun _ _ h => h) ?_
            refine rret (is := []) ⟨((r1, r2, true), (z1, z2)), by rw [Sx.refSwap, ← hr]; cases r3 <;> cases e1 : r1.right <;> cases e2 : r2.right <;> simp_all⟩ (Or.inl rfl) (Res.c rfl Tryd.isAgg24 Tryd.sizeOf24 (by repeat (first | exact At.z | apply At.s)) (by rfl) (Res.c rfl Tryd.isAgg24 Tryd.sizeOf24 (by repeat (first | exact At.z | apply At.s)) (by rfl) (Res.t rfl Res.d))) (rfl) rfl (by repeat (first | exact Sub.d | (refine Sub.s ?_ ?_; (repeat (first | exact In.z | apply In.s))) | (refine Sub.suf ?_; (repeat (first | exact Suf.z | apply Suf.s)))))

theorem c_refSame (p q : Prim) (yp yq : Rp.Lay Prim) (hp : p.fit) : Con Tryd.prog 13 [sv p yp, sv q yq] [] (Rp.asn p yp ++ Rp.asn q yq) Unit (fun _ => .bool (decide (p = q))) (fun _ => []) (fun _ => []) := by
  refine con Tryd.func13 rfl Tryd.ntmps13 rfl ?_
  intro M0 F0 w0
  refine cs ?_
  refine cr ?_
  refine ls (o_box rfl rfl rfl) ?_
  refine le ?_; intro b2
  refine ls (o_box rfl rfl rfl) ?_
  refine le ?_; intro b3
  refine ls (op (p_asg rfl) rfl) ?_
  refine ln ?_
  refine nthen ?_
  refine cs ?_
  refine cr ?_
  refine ls (op (p_fa fa24_0 rfl) rfl) ?_
  refine ls (o_ld Tryd.isAgg3 rfl (by repeat (first | exact At.z | apply At.s)) (by repeat (first | exact At.z | apply At.s)) rfl) ?_
  refine ls (op (p_fa fa24_0 rfl) rfl) ?_
  refine ls (o_ld Tryd.isAgg3 rfl (by repeat (first | exact At.z | apply At.s)) (by repeat (first | exact At.z | apply At.s)) rfl) ?_
  refine ls (op (p_icmp rfl rfl rfl) rfl) ?_
  refine ls (op (p_move rfl) rfl) ?_
  refine andX 6 10 16 rfl (subσ.cons (t := 0) rfl (subσ.cons (t := 1) rfl (subσ.cons (t := 2) rfl (subσ.cons (t := 3) rfl (subσ.cons (t := 4) rfl (subσ.nil _)))))) ?_ ?_
  · intro h10
    refine lskip rfl rfl rfl rfl rfl ?_
    refine lskip rfl rfl rfl rfl rfl ?_
    refine lskip rfl rfl rfl rfl rfl ?_
    refine lskip rfl rfl rfl rfl rfl ?_
    refine lskip rfl rfl rfl rfl rfl ?_
    refine ls (op (p_pickf rfl rfl) rfl) ?_
    refine ln (nmid (wk0 (by repeat (first | exact subσ.nil _ | refine subσ.cons rfl ?_)) (by repeat (first | exact Sub.d | (refine Sub.s ?_ ?_; (repeat (first | exact In.z | apply In.s))) | (refine Sub.suf ?_; (repeat (first | exact Suf.z | apply Suf.s)))))))
  apply exI
  · intro h10
    refine lwant rfl rfl rfl rfl (op (p_fa fa24_1 rfl) rfl) ?_
    refine lwant rfl rfl rfl rfl (o_ld Tryd.isAgg9 rfl (by repeat (first | exact At.z | apply At.s)) (by repeat (first | exact At.z | apply At.s)) rfl) ?_
    refine lwant rfl rfl rfl rfl (op (p_fa fa24_1 rfl) rfl) ?_
    refine lwant rfl rfl rfl rfl (o_ld Tryd.isAgg9 rfl (by repeat (first | exact At.z | apply At.s)) (by repeat (first | exact At.z | apply At.s)) rfl) ?_
    refine lwant rfl rfl rfl rfl (op (p_seq rfl rfl) rfl) ?_
    refine ls (op (p_pickt rfl rfl) rfl) ?_
    refine ln (nmid (wk0 (by repeat (first | exact subσ.nil _ | refine subσ.cons rfl ?_)) (by repeat (first | exact Sub.d | (refine Sub.s ?_ ?_; (repeat (first | exact In.z | apply In.s))) | (refine Sub.suf ?_; (repeat (first | exact Suf.z | apply Suf.s)))))))
  ·
    refine ls (op (p_move rfl) rfl) ?_
    refine andX 6 17 23 rfl (subσ.cons (t := 0) rfl (subσ.cons (t := 1) rfl (subσ.cons (t := 2) rfl (subσ.cons (t := 3) rfl (subσ.cons (t := 4) rfl (subσ.nil _)))))) ?_ ?_
    · intro h17
      refine lskip rfl rfl rfl rfl rfl ?_
      refine lskip rfl rfl rfl rfl rfl ?_
      refine lskip rfl rfl rfl rfl rfl ?_
      refine lskip rfl rfl rfl rfl rfl ?_
      refine lskip rfl rfl rfl rfl rfl ?_
      refine ls (op (p_pickf rfl rfl) rfl) ?_
      refine ln (nmid (wk0 (by repeat (first | exact subσ.nil _ | refine subσ.cons rfl ?_)) (by repeat (first | exact Sub.d | (refine Sub.s ?_ ?_; (repeat (first | exact In.z | apply In.s))) | (refine Sub.suf ?_; (repeat (first | exact Suf.z | apply Suf.s)))))))
    apply exI
    · intro h17
      refine lwant rfl rfl rfl rfl (op (p_fa fa24_2 rfl) rfl) ?_
      refine lwant rfl rfl rfl rfl (o_ld Tryd.isAgg9 rfl (by repeat (first | exact At.z | apply At.s)) (by repeat (first | exact At.z | apply At.s)) rfl) ?_
      refine lwant rfl rfl rfl rfl (op (p_fa fa24_2 rfl) rfl) ?_
      refine lwant rfl rfl rfl rfl (o_ld Tryd.isAgg9 rfl (by repeat (first | exact At.z | apply At.s)) (by repeat (first | exact At.z | apply At.s)) rfl) ?_
      refine lwant rfl rfl rfl rfl (op (p_seq rfl rfl) rfl) ?_
      refine ls (op (p_pickt rfl rfl) rfl) ?_
      refine ln (nmid (wk0 (by repeat (first | exact subσ.nil _ | refine subσ.cons rfl ?_)) (by repeat (first | exact Sub.d | (refine Sub.s ?_ ?_; (repeat (first | exact In.z | apply In.s))) | (refine Sub.suf ?_; (repeat (first | exact Suf.z | apply Suf.s)))))))
    ·
      refine ls (op (p_move rfl) rfl) ?_
      refine andX 6 24 30 rfl (subσ.cons (t := 0) rfl (subσ.cons (t := 1) rfl (subσ.cons (t := 2) rfl (subσ.cons (t := 3) rfl (subσ.cons (t := 4) rfl (subσ.nil _)))))) ?_ ?_
      · intro h24
        refine lskip rfl rfl rfl rfl rfl ?_
        refine lskip rfl rfl rfl rfl rfl ?_
        refine lskip rfl rfl rfl rfl rfl ?_
        refine lskip rfl rfl rfl rfl rfl ?_
        refine lskip rfl rfl rfl rfl rfl ?_
        refine ls (op (p_pickf rfl rfl) rfl) ?_
        refine ln (nmid (wk0 (by repeat (first | exact subσ.nil _ | refine subσ.cons rfl ?_)) (by repeat (first | exact Sub.d | (refine Sub.s ?_ ?_; (repeat (first | exact In.z | apply In.s))) | (refine Sub.suf ?_; (repeat (first | exact Suf.z | apply Suf.s)))))))
      apply exI
      · intro h24
        refine lwant rfl rfl rfl rfl (op (p_fa fa24_3 rfl) rfl) ?_
        refine lwant rfl rfl rfl rfl (o_ld Tryd.isAgg3 rfl (by repeat (first | exact At.z | apply At.s)) (by repeat (first | exact At.z | apply At.s)) rfl) ?_
        refine lwant rfl rfl rfl rfl (op (p_fa fa24_3 rfl) rfl) ?_
        refine lwant rfl rfl rfl rfl (o_ld Tryd.isAgg3 rfl (by repeat (first | exact At.z | apply At.s)) (by repeat (first | exact At.z | apply At.s)) rfl) ?_
        refine lwant rfl rfl rfl rfl (op (p_icmp rfl rfl rfl) rfl) ?_
        refine ls (op (p_pickt rfl rfl) rfl) ?_
        refine ln (nmid (wk0 (by repeat (first | exact subσ.nil _ | refine subσ.cons rfl ?_)) (by repeat (first | exact Sub.d | (refine Sub.s ?_ ?_; (repeat (first | exact In.z | apply In.s))) | (refine Sub.suf ?_; (repeat (first | exact Suf.z | apply Suf.s)))))))
      ·
        refine ls (op (p_move rfl) rfl) ?_
        refine andX 6 31 37 rfl (subσ.cons (t := 0) rfl (subσ.cons (t := 1) rfl (subσ.cons (t := 2) rfl (subσ.cons (t := 3) rfl (subσ.cons (t := 4) rfl (subσ.nil _)))))) ?_ ?_
        · intro h31
          refine lskip rfl rfl rfl rfl rfl ?_
          refine lskip rfl rfl rfl rfl rfl ?_
          refine lskip rfl rfl rfl rfl rfl ?_
          refine lskip rfl rfl rfl rfl rfl ?_
          refine lskip rfl rfl rfl rfl rfl ?_
          refine ls (op (p_pickf rfl rfl) rfl) ?_
          refine ln (nmid (wk0 (by repeat (first | exact subσ.nil _ | refine subσ.cons rfl ?_)) (by repeat (first | exact Sub.d | (refine Sub.s ?_ ?_; (repeat (first | exact In.z | apply In.s))) | (refine Sub.suf ?_; (repeat (first | exact Suf.z | apply Suf.s)))))))
        apply exI
        · intro h31
          refine lwant rfl rfl rfl rfl (op (p_fa fa24_4 rfl) rfl) ?_
          refine lwant rfl rfl rfl rfl (o_ld Tryd.isAgg22 rfl (by repeat (first | exact At.z | apply At.s)) (by repeat (first | exact At.z | apply At.s)) rfl) ?_
          refine lwant rfl rfl rfl rfl (op (p_fa fa24_4 rfl) rfl) ?_
          refine lwant rfl rfl rfl rfl (o_ld Tryd.isAgg22 rfl (by repeat (first | exact At.z | apply At.s)) (by repeat (first | exact At.z | apply At.s)) rfl) ?_
          refine lwant rfl rfl rfl rfl (o_call (is := []) Tryd.call26 (c_refSame1 p.old q.old _ _ _ _ hp.o) rfl rfl (by repeat (first | exact Sub.d | (refine Sub.s ?_ ?_; (repeat (first | exact In.z | apply In.s))) | (refine Sub.suf ?_; (repeat (first | exact Suf.z | apply Suf.s))))) rfl) ?_
          refine le ?_; intro x36
          refine ls (op (p_pickt rfl rfl) rfl) ?_
          refine ln (nmid (wk0 (by repeat (first | exact subσ.nil _ | refine subσ.cons rfl ?_)) (by repeat (first | exact Sub.d | (refine Sub.s ?_ ?_; (repeat (first | exact In.z | apply In.s))) | (refine Sub.suf ?_; (repeat (first | exact Suf.z | apply Suf.s)))))))
        ·
          refine ls (op (p_move rfl) rfl) ?_
          refine andX 6 38 44 rfl (subσ.cons (t := 0) rfl (subσ.cons (t := 1) rfl (subσ.cons (t := 4) rfl (subσ.nil _)))) ?_ ?_
          · intro h38
            refine lskip rfl rfl rfl rfl rfl ?_
            refine lskip rfl rfl rfl rfl rfl ?_
            refine lskip rfl rfl rfl rfl rfl ?_
            refine lskip rfl rfl rfl rfl rfl ?_
            refine lskip rfl rfl rfl rfl rfl ?_
            refine ls (op (p_pickf rfl rfl) rfl) ?_
            refine ln (nmid (wk0 (by repeat (first | exact subσ.nil _ | refine subσ.cons rfl ?_)) (by repeat (first | exact Sub.d | (refine Sub.s ?_ ?_; (repeat (first | exact In.z | apply In.s))) | (refine Sub.suf ?_; (repeat (first | exact Suf.z | apply Suf.s)))))))
          apply exI
          · intro h38
            refine lwant rfl rfl rfl rfl (op (p_fa fa24_5 rfl) rfl) ?_
            refine lwant rfl rfl rfl rfl (o_ld Tryd.isAgg22 rfl (by repeat (first | exact At.z | apply At.s)) (by repeat (first | exact At.z | apply At.s)) rfl) ?_
            refine lwant rfl rfl rfl rfl (op (p_fa fa24_5 rfl) rfl) ?_
            refine lwant rfl rfl rfl rfl (o_ld Tryd.isAgg22 rfl (by repeat (first | exact At.z | apply At.s)) (by repeat (first | exact At.z | apply At.s)) rfl) ?_
            refine lwant rfl rfl rfl rfl (o_call (is := []) Tryd.call26 (c_refSame1 p.new q.new _ _ _ _ hp.n) rfl rfl (by repeat (first | exact Sub.d | (refine Sub.s ?_ ?_; (repeat (first | exact In.z | apply In.s))) | (refine Sub.suf ?_; (repeat (first | exact Suf.z | apply Suf.s))))) rfl) ?_
            refine le ?_; intro x43
            refine ls (op (p_pickt rfl rfl) rfl) ?_
            refine ln (nmid (wk0 (by repeat (first | exact subσ.nil _ | refine subσ.cons rfl ?_)) (by repeat (first | exact Sub.d | (refine Sub.s ?_ ?_; (repeat (first | exact In.z | apply In.s))) | (refine Sub.suf ?_; (repeat (first | exact Suf.z | apply Suf.s)))))))
          ·
            refine ls (op (p_asg rfl) rfl) ?_
            refine ln ?_
            refine nthen ?_
            refine cret ?_
            refine xret (fun _ _ h => h) ?_
            refine rret (is := []) () (Or.inl rfl) (Res.t rfl Res.d) ?_ rfl (by repeat (first | exact Sub.d | (refine Sub.s ?_ ?_; (repeat (first | exact In.z | apply In.s))) | (refine Sub.suf ?_; (repeat (first | exact Suf.z | apply Suf.s)))))
            simp only [packV, dec_prim]

end Go.Proofs.YtaojmjfgopbgcaaDoor.X
