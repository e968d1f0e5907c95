/- OWN WORK: a part of the proof of a law of the seat YtdbiillompeclaaGreatDoor: contracts. -/
import Derived.Test.YtdbiillompeclaaGreatDoorProg
import Derived.Test.YtdbiillompeclaaGreatDoorXGB
import Derived.Lib.AppendStr
import Derived.Lib.UnsafeStr
import Derived.Lib.Builder
import Derived.Lib.ItoaNum
import Derived.Test.YtdbiillompeclaaGreatDoorXGA
section
set_option linter.unusedVariables false
set_option linter.unusedSimpArgs false
namespace Go.Proofs.YtdbiillompeclaaGreatDoor.X
open Go Go.RowKit Go.Proofs Go.Sx
attribute [local irreducible] slA isA box row

theorem refNames_len (p : Prim) : (refNames p).length ≤ 2 := by
 unfold refNames
 by_cases h : p.kind = 3
 ·
  by_cases h' : Op.bytesLess p.name.toList p.to.toList = true <;> simp [h, h']
 ·
  simp [h]
theorem any_two {la lb : List ByteArray} {a b : ByteArray} (ha : a ∈ la) (hb : b ∈ lb) (h : a = b) : (la.any fun s => lb.any fun t => decide (s = t)) = true := by
 rw [List.any_eq_true]
 exact ⟨a, ha, by rw [List.any_eq_true]; exact ⟨b, hb, by simp [h]⟩⟩

theorem fa83_0 : FA Tryz.prog 83 0 0 := fun b o w => by kernel_rfl
theorem fa83_1 : FA Tryz.prog 83 1 1 := fun b o w => by kernel_rfl
theorem fa83_2 : FA Tryz.prog 83 2 2 := fun b o w => by kernel_rfl
theorem fa83_3 : FA Tryz.prog 83 3 3 := fun b o w => by kernel_rfl
theorem fa83_4 : FA Tryz.prog 83 4 4 := fun b o w => by kernel_rfl
theorem fa83_5 : FA Tryz.prog 83 5 5 := fun b o w => by kernel_rfl
set_option maxRecDepth 100000 in
theorem c_refRight (p : Prim) (y : Rp.Lay Prim) (hp : p.fit) : Con Tryz.prog 46 [sv p y] [] (Rp.asn p y) Unit (fun _ => .bool (p.right)) (fun _ => []) (fun _ => []) := by
 refine con Tryz.func46 rfl Tryz.ntmps46 rfl ?_
 intro M0 F0 w0
 refine cs ?_
 refine cr ?_
 refine ls (o_box rfl rfl rfl) ?_
 refine le ?_; intro b1
 refine ls (op (p_asg rfl) rfl) ?_
 refine ln ?_
 refine nthen ?_
 refine cs ?_
 refine cs ?_
 refine cr ?_
 refine ls (op (p_fa fa83_1 rfl) rfl) ?_
 refine ls (o_ld Tryz.isAgg9 rfl (by repeat' constructor) (by repeat' constructor) rfl) ?_
 refine ls (o_call (is := []) Tryz.call98 (c_refNamed _ hp.a) rfl rfl (by repeat' (first | constructor | apply Sub.suf)) rfl) ?_
 refine le ?_; intro x5
 refine ls (op (p_not rfl) rfl) ?_
 refine ls (op (p_move rfl) rfl) ?_
 refine orX 4 7 11 rfl (subσ.cons (t := 0) rfl (subσ.cons (t := 1) rfl (subσ.cons (t := 2) rfl (subσ.nil _)))) ?_ ?_
 ·
  intro h7
  refine lskip rfl rfl rfl rfl rfl ?_
  refine lskip rfl rfl rfl rfl rfl ?_
  refine lskip rfl rfl rfl rfl rfl ?_
  refine ls (op (p_pickt rfl rfl) rfl) ?_
  refine ln (nmid (wk0 (by repeat (first | exact subσ.nil _ | refine subσ.cons rfl ?_)) (by repeat' (first | constructor | apply Sub.suf))))
 apply exI
 ·
  intro h7
  refine lwant rfl rfl rfl rfl (op (p_fa fa83_0 rfl) rfl) ?_
  refine lwant rfl rfl rfl rfl (o_ld Tryz.isAgg3 rfl (by repeat' constructor) (by repeat' constructor) rfl) ?_
  refine lwant rfl rfl rfl rfl (op (p_icmp rfl rfl rfl) rfl) ?_
  refine ls (op (p_pickf rfl rfl) rfl) ?_
  refine ln (nmid (wk0 (by repeat (first | exact subσ.nil _ | refine subσ.cons rfl ?_)) (by repeat' (first | constructor | apply Sub.suf))))
 ·
  refine ls (op (p_move rfl) rfl) ?_
  refine orX 4 12 16 rfl (subσ.cons (t := 0) rfl (subσ.cons (t := 1) rfl (subσ.cons (t := 2) rfl (subσ.nil _)))) ?_ ?_
  ·
   intro h12
   refine lskip rfl rfl rfl rfl rfl ?_
   refine lskip rfl rfl rfl rfl rfl ?_
   refine lskip rfl rfl rfl rfl rfl ?_
   refine ls (op (p_pickt rfl rfl) rfl) ?_
   refine ln (nmid (wk0 (by repeat (first | exact subσ.nil _ | refine subσ.cons rfl ?_)) (by repeat' (first | constructor | apply Sub.suf))))
  apply exI
  ·
   intro h12
   refine lwant rfl rfl rfl rfl (op (p_fa fa83_0 rfl) rfl) ?_
   refine lwant rfl rfl rfl rfl (o_ld Tryz.isAgg3 rfl (by repeat' constructor) (by repeat' constructor) rfl) ?_
   refine lwant rfl rfl rfl rfl (op (p_icmp rfl rfl rfl) rfl) ?_
   refine ls (op (p_pickf rfl rfl) rfl) ?_
   refine ln (nmid (wk0 (by repeat (first | exact subσ.nil _ | refine subσ.cons rfl ?_)) (by repeat' (first | constructor | apply Sub.suf))))
  ·
   refine ln ?_
   refine nthen ?_
   refine cc rfl ?_ ?_
   ·
    intro h16
    skip
    refine cs ?_
    refine cr ?_
    refine ls (op (p_asg rfl) rfl) ?_
    refine ln ?_
    refine nthen ?_
    refine cret ?_
    refine xret (fun _ _ h => h) ?_
    refine rret (is := []) () (Or.inl rfl) (Res.t rfl Res.d) ?_ rfl (by repeat' (first | constructor | apply Sub.suf))
    rw [← refRight_eq, refRight, if_pos h16]; rfl
   ·
    intro h16
    have h16' := Bool.eq_false_iff.1 h16
    refine cskip ?_
    refine nthen ?_
    refine cs ?_
    refine cs ?_
    refine cr ?_
    refine ls (op (p_fa fa83_0 rfl) rfl) ?_
    refine ls (o_ld Tryz.isAgg3 rfl (by repeat' constructor) (by repeat' constructor) rfl) ?_
    refine ls (op (p_icmp rfl rfl rfl) rfl) ?_
    refine ln ?_
    refine nthen ?_
    refine cc rfl ?_ ?_
    ·
     intro h19
     try simp only [decide_eq_true_eq, decide_eq_false_iff_not, Bool.not_eq_true', Bool.not_eq_false', Int.not_lt, Int.not_le, ge_iff_le, Bool.not_true, Bool.not_false] at h19
     refine cs ?_
     refine cs ?_
     refine cr ?_
     refine ls (op (p_fa fa83_2 rfl) rfl) ?_
     refine ls (o_ld Tryz.isAgg9 rfl (by repeat' constructor) (by repeat' constructor) rfl) ?_
     refine ls (op (p_sne rfl rfl) rfl) ?_
     refine ls (op (p_move rfl) rfl) ?_
     refine orX 4 23 27 rfl (subσ.cons (t := 0) rfl (subσ.cons (t := 1) rfl (subσ.cons (t := 2) rfl (subσ.cons (t := 16) rfl (subσ.cons (t := 17) rfl (subσ.cons (t := 18) rfl (subσ.cons (t := 19) rfl (subσ.nil _)))))))) ?_ ?_
     ·
      intro h23
      refine lskip rfl rfl rfl rfl rfl ?_
      refine lskip rfl rfl rfl rfl rfl ?_
      refine lskip rfl rfl rfl rfl rfl ?_
      refine ls (op (p_pickt rfl rfl) rfl) ?_
      refine ln (nmid (wk0 (by repeat (first | exact subσ.nil _ | refine subσ.cons rfl ?_)) (by repeat' (first | constructor | apply Sub.suf))))
     apply exI
     ·
      intro h23
      refine lwant rfl rfl rfl rfl (op (p_fa fa83_3 rfl) rfl) ?_
      refine lwant rfl rfl rfl rfl (o_ld Tryz.isAgg3 rfl (by repeat' constructor) (by repeat' constructor) rfl) ?_
      refine lwant rfl rfl rfl rfl (op (p_icmp rfl rfl rfl) rfl) ?_
      refine ls (op (p_pickf rfl rfl) rfl) ?_
      refine ln (nmid (wk0 (by repeat (first | exact subσ.nil _ | refine subσ.cons rfl ?_)) (by repeat' (first | constructor | apply Sub.suf))))
     ·
      refine ls (op (p_move rfl) rfl) ?_
      refine orX 4 28 32 rfl (subσ.cons (t := 0) rfl (subσ.cons (t := 1) rfl (subσ.cons (t := 2) rfl (subσ.cons (t := 16) rfl (subσ.cons (t := 17) rfl (subσ.cons (t := 18) rfl (subσ.cons (t := 19) rfl (subσ.nil _)))))))) ?_ ?_
      ·
       intro h28
       refine lskip rfl rfl rfl rfl rfl ?_
       refine lskip rfl rfl rfl rfl rfl ?_
       refine lskip rfl rfl rfl rfl rfl ?_
       refine ls (op (p_pickt rfl rfl) rfl) ?_
       refine ln (nmid (wk0 (by repeat (first | exact subσ.nil _ | refine subσ.cons rfl ?_)) (by repeat' (first | constructor | apply Sub.suf))))
      apply exI
      ·
       intro h28
       refine lwant rfl rfl rfl rfl (op (p_fa fa83_3 rfl) rfl) ?_
       refine lwant rfl rfl rfl rfl (o_ld Tryz.isAgg3 rfl (by repeat' constructor) (by repeat' constructor) rfl) ?_
       refine lwant rfl rfl rfl rfl (op (p_icmp rfl rfl rfl) rfl) ?_
       refine ls (op (p_pickf rfl rfl) rfl) ?_
       refine ln (nmid (wk0 (by repeat (first | exact subσ.nil _ | refine subσ.cons rfl ?_)) (by repeat' (first | constructor | apply Sub.suf))))
      ·
       refine ln ?_
       refine nthen ?_
       refine cc rfl ?_ ?_
       ·
        intro h32
        skip
        refine cs ?_
        refine cr ?_
        refine ls (op (p_asg rfl) rfl) ?_
        refine ln ?_
        refine nthen ?_
        refine cret ?_
        refine xret (fun _ _ h => h) ?_
        refine rret (is := []) () (Or.inl rfl) (Res.t rfl Res.d) ?_ rfl (by repeat' (first | constructor | apply Sub.suf))
        rw [← refRight_eq, refRight, if_neg h16', if_pos h19, if_pos h32]; rfl
       ·
        intro h32
        have h32' := Bool.eq_false_iff.1 h32
        refine cskip ?_
        refine nthen ?_
        refine cs ?_
        refine cr ?_
        refine ls (op (p_fa fa83_4 rfl) rfl) ?_
        refine ls (o_ld Tryz.isAgg37 rfl (by repeat' constructor) (by repeat' constructor) rfl) ?_
        refine ls (o_call (is := []) Tryz.call24 (c_refAll p.old _ _ hp.o hp.os) rfl rfl (by repeat' (first | constructor | apply Sub.suf)) rfl) ?_
        refine le ?_; intro x35
        refine ls (op (p_move rfl) rfl) ?_
        refine andX 4 36 40 rfl (subσ.cons (t := 0) rfl (subσ.cons (t := 1) rfl (subσ.cons (t := 2) rfl (subσ.cons (t := 16) rfl (subσ.cons (t := 17) rfl (subσ.cons (t := 18) rfl (subσ.cons (t := 19) rfl (subσ.cons (t := 32) rfl (subσ.nil _))))))))) ?_ ?_
        ·
         intro h36
         refine lskip rfl rfl rfl rfl rfl ?_
         refine lskip rfl rfl rfl rfl rfl ?_
         refine lskip rfl rfl rfl rfl rfl ?_
         refine ls (op (p_pickf rfl rfl) rfl) ?_
         refine ln (nmid (wk0 (by repeat (first | exact subσ.nil _ | refine subσ.cons rfl ?_)) (by repeat' (first | constructor | apply Sub.suf))))
        apply exI
        ·
         intro h36
         refine lwant rfl rfl rfl rfl (op (p_fa fa83_5 rfl) rfl) ?_
         refine lwant rfl rfl rfl rfl (o_ld Tryz.isAgg37 rfl (by repeat' constructor) (by repeat' constructor) rfl) ?_
         refine lwant rfl rfl rfl rfl (o_call (is := []) Tryz.call24 (c_refAll p.new _ _ hp.n hp.ns) rfl rfl (by repeat' (first | constructor | apply Sub.suf)) rfl) ?_
         refine le ?_; intro x39
         refine ls (op (p_pickt rfl rfl) rfl) ?_
         refine ln (nmid (wk0 (by repeat (first | exact subσ.nil _ | refine subσ.cons rfl ?_)) (by repeat' (first | constructor | apply Sub.suf))))
        ·
         refine ls (op (p_move rfl) rfl) ?_
         refine andX 7 41 48 rfl (subσ.cons (t := 0) rfl (subσ.cons (t := 1) rfl (subσ.cons (t := 2) rfl (subσ.cons (t := 16) rfl (subσ.cons (t := 17) rfl (subσ.cons (t := 18) rfl (subσ.cons (t := 19) rfl (subσ.cons (t := 32) rfl (subσ.nil _))))))))) ?_ ?_
         ·
          intro h41
          refine lskip rfl rfl rfl rfl rfl ?_
          refine lskip rfl rfl rfl rfl rfl ?_
          refine lskip rfl rfl rfl rfl rfl ?_
          refine lskip rfl rfl rfl rfl rfl ?_
          refine lskip rfl rfl rfl rfl rfl ?_
          refine lskip rfl rfl rfl rfl rfl ?_
          refine ls (op (p_pickf rfl rfl) rfl) ?_
          refine ln (nmid (wk0 (by repeat (first | exact subσ.nil _ | refine subσ.cons rfl ?_)) (by repeat' (first | constructor | apply Sub.suf))))
         apply exI
         ·
          intro h41
          refine lwant rfl rfl rfl rfl (op (p_fa fa83_4 rfl) rfl) ?_
          refine lwant rfl rfl rfl rfl (o_ld Tryz.isAgg37 rfl (by repeat' constructor) (by repeat' constructor) rfl) ?_
          refine lwant rfl rfl rfl rfl (op (p_fa fa83_5 rfl) rfl) ?_
          refine lwant rfl rfl rfl rfl (o_ld Tryz.isAgg37 rfl (by repeat' constructor) (by repeat' constructor) rfl) ?_
          refine lwant rfl rfl rfl rfl (o_call (is := []) Tryz.call29 (c_refSame1 p.old p.new _ _ _ _ hp.o) rfl rfl (by repeat' (first | constructor | apply Sub.suf)) rfl) ?_
          refine le ?_; intro x46
          refine lwant rfl rfl rfl rfl (op (p_not rfl) rfl) ?_
          refine ls (op (p_pickt rfl rfl) rfl) ?_
          refine ln (nmid (wk0 (by repeat (first | exact subσ.nil _ | refine subσ.cons rfl ?_)) (by repeat' (first | constructor | apply Sub.suf))))
         ·
          refine ls (op (p_asg rfl) rfl) ?_
          refine ln ?_
          refine nthen ?_
          refine cret ?_
          refine xret (fun _ _ h => h) ?_
          refine rret (is := []) () (Or.inl rfl) (Res.t rfl Res.d) ?_ rfl (by repeat' (first | constructor | apply Sub.suf))
          rw [← refRight_eq, refRight, if_neg h16', if_pos h19, if_neg h32']; rfl
    ·
     intro h19
     try simp only [decide_eq_true_eq, decide_eq_false_iff_not, Bool.not_eq_true', Bool.not_eq_false', Int.not_lt, Int.not_le, ge_iff_le, Bool.not_true, Bool.not_false] at h19
     refine cskip ?_
     refine nthen ?_
     refine cs ?_
     refine cs ?_
     refine cr ?_
     refine ls (op (p_fa fa83_3 rfl) rfl) ?_
     refine ls (o_ld Tryz.isAgg3 rfl (by repeat' constructor) (by repeat' constructor) rfl) ?_
     refine ls (op (p_icmp rfl rfl rfl) rfl) ?_
     refine ls (op (p_move rfl) rfl) ?_
     refine orX 5 52 57 rfl (subσ.cons (t := 0) rfl (subσ.cons (t := 1) rfl (subσ.cons (t := 2) rfl (subσ.cons (t := 16) rfl (subσ.cons (t := 17) rfl (subσ.cons (t := 18) rfl (subσ.cons (t := 19) rfl (subσ.nil _)))))))) ?_ ?_
     ·
      intro h52
      refine lskip rfl rfl rfl rfl rfl ?_
      refine lskip rfl rfl rfl rfl rfl ?_
      refine lskip rfl rfl rfl rfl rfl ?_
      refine lskip rfl rfl rfl rfl rfl ?_
      refine ls (op (p_pickt rfl rfl) rfl) ?_
      refine ln (nmid (wk0 (by repeat (first | exact subσ.nil _ | refine subσ.cons rfl ?_)) (by repeat' (first | constructor | apply Sub.suf))))
     apply exI
     ·
      intro h52
      refine lwant rfl rfl rfl rfl (op (p_fa fa83_4 rfl) rfl) ?_
      refine lwant rfl rfl rfl rfl (o_ld Tryz.isAgg37 rfl (by repeat' constructor) (by repeat' constructor) rfl) ?_
      refine lwant rfl rfl rfl rfl (op (p_lenl rfl Tryz.underlying37) rfl) ?_
      refine lwant rfl rfl rfl rfl (op (p_icmp rfl rfl rfl) rfl) ?_
      refine ls (op (p_pickf rfl rfl) rfl) ?_
      refine ln (nmid (wk0 (by repeat (first | exact subσ.nil _ | refine subσ.cons rfl ?_)) (by repeat' (first | constructor | apply Sub.suf))))
     ·
      refine ls (op (p_move rfl) rfl) ?_
      refine orX 5 58 63 rfl (subσ.cons (t := 0) rfl (subσ.cons (t := 1) rfl (subσ.cons (t := 2) rfl (subσ.cons (t := 16) rfl (subσ.cons (t := 17) rfl (subσ.cons (t := 18) rfl (subσ.cons (t := 19) rfl (subσ.nil _)))))))) ?_ ?_
      ·
       intro h58
       refine lskip rfl rfl rfl rfl rfl ?_
       refine lskip rfl rfl rfl rfl rfl ?_
       refine lskip rfl rfl rfl rfl rfl ?_
       refine lskip rfl rfl rfl rfl rfl ?_
       refine ls (op (p_pickt rfl rfl) rfl) ?_
       refine ln (nmid (wk0 (by repeat (first | exact subσ.nil _ | refine subσ.cons rfl ?_)) (by repeat' (first | constructor | apply Sub.suf))))
      apply exI
      ·
       intro h58
       refine lwant rfl rfl rfl rfl (op (p_fa fa83_5 rfl) rfl) ?_
       refine lwant rfl rfl rfl rfl (o_ld Tryz.isAgg37 rfl (by repeat' constructor) (by repeat' constructor) rfl) ?_
       refine lwant rfl rfl rfl rfl (op (p_lenl rfl Tryz.underlying37) rfl) ?_
       refine lwant rfl rfl rfl rfl (op (p_icmp rfl rfl rfl) rfl) ?_
       refine ls (op (p_pickf rfl rfl) rfl) ?_
       refine ln (nmid (wk0 (by repeat (first | exact subσ.nil _ | refine subσ.cons rfl ?_)) (by repeat' (first | constructor | apply Sub.suf))))
      ·
       refine ln ?_
       refine nthen ?_
       refine cc rfl ?_ ?_
       ·
        intro h63
        skip
        refine cs ?_
        refine cr ?_
        refine ls (op (p_asg rfl) rfl) ?_
        refine ln ?_
        refine nthen ?_
        refine cret ?_
        refine xret (fun _ _ h => h) ?_
        refine rret (is := []) () (Or.inl rfl) (Res.t rfl Res.d) ?_ rfl (by repeat' (first | constructor | apply Sub.suf))
        rw [← refRight_eq, refRight, if_neg h16', if_neg h19, if_pos h63]; rfl
       ·
        intro h63
        have h63' := Bool.eq_false_iff.1 h63
        refine cskip ?_
        refine nthen ?_
        refine cs ?_
        refine cs ?_
        refine cr ?_
        refine ls (op (p_fa fa83_0 rfl) rfl) ?_
        refine ls (o_ld Tryz.isAgg3 rfl (by repeat' constructor) (by repeat' constructor) rfl) ?_
        refine ls (op (p_icmp rfl rfl rfl) rfl) ?_
        refine ln ?_
        refine nthen ?_
        refine cc rfl ?_ ?_
        ·
         intro h66
         try simp only [decide_eq_true_eq, decide_eq_false_iff_not, Bool.not_eq_true', Bool.not_eq_false', Int.not_lt, Int.not_le, ge_iff_le, Bool.not_true, Bool.not_false] at h66
         refine cs ?_
         refine cr ?_
         refine ls (op (p_fa fa83_2 rfl) rfl) ?_
         refine ls (o_ld Tryz.isAgg9 rfl (by repeat' constructor) (by repeat' constructor) rfl) ?_
         refine ls (o_call (is := []) Tryz.call98 (c_refNamed _ hp.b) rfl rfl (by repeat' (first | constructor | apply Sub.suf)) rfl) ?_
         refine le ?_; intro x69
         refine ls (op (p_move rfl) rfl) ?_
         refine andX 6 70 76 rfl (subσ.cons (t := 0) rfl (subσ.cons (t := 1) rfl (subσ.cons (t := 2) rfl (subσ.cons (t := 16) rfl (subσ.cons (t := 17) rfl (subσ.cons (t := 18) rfl (subσ.cons (t := 19) rfl (subσ.cons (t := 63) rfl (subσ.cons (t := 64) rfl (subσ.cons (t := 65) rfl (subσ.cons (t := 66) rfl (subσ.nil _)))))))))))) ?_ ?_
         ·
          intro h70
          refine lskip rfl rfl rfl rfl rfl ?_
          refine lskip rfl rfl rfl rfl rfl ?_
          refine lskip rfl rfl rfl rfl rfl ?_
          refine lskip rfl rfl rfl rfl rfl ?_
          refine lskip rfl rfl rfl rfl rfl ?_
          refine ls (op (p_pickf rfl rfl) rfl) ?_
          refine ln (nmid (wk0 (by repeat (first | exact subσ.nil _ | refine subσ.cons rfl ?_)) (by repeat' (first | constructor | apply Sub.suf))))
         apply exI
         ·
          intro h70
          refine lwant rfl rfl rfl rfl (op (p_fa fa83_2 rfl) rfl) ?_
          refine lwant rfl rfl rfl rfl (o_ld Tryz.isAgg9 rfl (by repeat' constructor) (by repeat' constructor) rfl) ?_
          refine lwant rfl rfl rfl rfl (op (p_fa fa83_1 rfl) rfl) ?_
          refine lwant rfl rfl rfl rfl (o_ld Tryz.isAgg9 rfl (by repeat' constructor) (by repeat' constructor) rfl) ?_
          refine lwant rfl rfl rfl rfl (op (p_sne rfl rfl) rfl) ?_
          refine ls (op (p_pickt rfl rfl) rfl) ?_
          refine ln (nmid (wk0 (by repeat (first | exact subσ.nil _ | refine subσ.cons rfl ?_)) (by repeat' (first | constructor | apply Sub.suf))))
         ·
          refine ls (op (p_asg rfl) rfl) ?_
          refine ln ?_
          refine nthen ?_
          refine cret ?_
          refine xret (fun _ _ h => h) ?_
          refine rret (is := []) () (Or.inl rfl) (Res.t rfl Res.d) ?_ rfl (by repeat' (first | constructor | apply Sub.suf))
          rw [← refRight_eq, refRight, if_neg h16', if_neg h19, if_neg h63', if_pos h66]; rfl
        ·
         intro h66
         try simp only [decide_eq_true_eq, decide_eq_false_iff_not, Bool.not_eq_true', Bool.not_eq_false', Int.not_lt, Int.not_le, ge_iff_le, Bool.not_true, Bool.not_false] at h66
         refine cskip ?_
         refine nthen ?_
         refine cs ?_
         refine cr ?_
         refine ls (op (p_fa fa83_2 rfl) rfl) ?_
         refine ls (o_ld Tryz.isAgg9 rfl (by repeat' constructor) (by repeat' constructor) rfl) ?_
         refine ls (op (p_seq rfl rfl) rfl) ?_
         refine ls (op (p_asg rfl) rfl) ?_
         refine ln ?_
         refine nthen ?_
         refine cret ?_
         refine xret (fun _ _ h => h) ?_
         refine rret (is := []) () (Or.inl rfl) (Res.t rfl Res.d) ?_ rfl (by repeat' (first | constructor | apply Sub.suf))
         rw [← refRight_eq, refRight, if_neg h16', if_neg h19, if_neg h63', if_neg h66]; rfl

end Go.Proofs.YtdbiillompeclaaGreatDoor.X

end
section
set_option linter.unusedVariables false
set_option linter.unusedSimpArgs false
namespace Go.Proofs.YtdbiillompeclaaGreatDoor.X
open Go Go.RowKit Go.Proofs Go.Sx
attribute [local irreducible] slA isA box row

theorem two_fit {p q : Prim} (hp : p.fit) (hq : q.fit) : (Sx.refTwo p q).1.fit ∧ (Sx.refTwo p q).2.1.fit := by
 obtain ⟨p1, p2, p3, p4, p5, p6⟩ := hp
 obtain ⟨q1, q2, q3, q4, q5, q6⟩ := hq
 unfold Sx.refTwo Sx.hunks
 refine ⟨?_, ?_⟩ <;> (repeat' split) <;> constructor <;> assumption


set_option maxRecDepth 100000 in
theorem c_refSame (p q : Prim) (yp yq : Rp.Lay Prim) (hp : p.fit) : Con Tryz.prog 50 [sv p yp, sv q yq] [] (Rp.asn p yp ++ Rp.asn q yq) Unit (fun _ => .bool (decide (p = q))) (fun _ => []) (fun _ => []) := by
 refine con Tryz.func50 rfl Tryz.ntmps50 rfl ?_
 intro M0 F0 w0
 refine cs ?_
 refine cr ?_
 refine ls (o_box rfl rfl rfl) ?_
 refine le ?_; intro b2
 refine ls (o_box rfl rfl rfl) ?_
 refine le ?_; intro b3
 refine ls (op (p_asg rfl) rfl) ?_
 refine ln ?_
 refine nthen ?_
 refine cs ?_
 refine cr ?_
 refine ls (op (p_fa fa83_0 rfl) rfl) ?_
 refine ls (o_ld Tryz.isAgg3 rfl (by repeat' constructor) (by repeat' constructor) rfl) ?_
 refine ls (op (p_fa fa83_0 rfl) rfl) ?_
 refine ls (o_ld Tryz.isAgg3 rfl (by repeat' constructor) (by repeat' constructor) rfl) ?_
 refine ls (op (p_icmp rfl rfl rfl) rfl) ?_
 refine ls (op (p_move rfl) rfl) ?_
 refine andX 6 10 16 rfl (subσ.cons (t := 0) rfl (subσ.cons (t := 1) rfl (subσ.cons (t := 2) rfl (subσ.cons (t := 3) rfl (subσ.cons (t := 4) rfl (subσ.nil _)))))) ?_ ?_
 ·
  intro h10
  refine lskip rfl rfl rfl rfl rfl ?_
  refine lskip rfl rfl rfl rfl rfl ?_
  refine lskip rfl rfl rfl rfl rfl ?_
  refine lskip rfl rfl rfl rfl rfl ?_
  refine lskip rfl rfl rfl rfl rfl ?_
  refine ls (op (p_pickf rfl rfl) rfl) ?_
  refine ln (nmid (wk0 (by repeat (first | exact subσ.nil _ | refine subσ.cons rfl ?_)) (by repeat' (first | constructor | apply Sub.suf))))
 apply exI
 ·
  intro h10
  refine lwant rfl rfl rfl rfl (op (p_fa fa83_1 rfl) rfl) ?_
  refine lwant rfl rfl rfl rfl (o_ld Tryz.isAgg9 rfl (by repeat' constructor) (by repeat' constructor) rfl) ?_
  refine lwant rfl rfl rfl rfl (op (p_fa fa83_1 rfl) rfl) ?_
  refine lwant rfl rfl rfl rfl (o_ld Tryz.isAgg9 rfl (by repeat' constructor) (by repeat' constructor) rfl) ?_
  refine lwant rfl rfl rfl rfl (op (p_seq rfl rfl) rfl) ?_
  refine ls (op (p_pickt rfl rfl) rfl) ?_
  refine ln (nmid (wk0 (by repeat (first | exact subσ.nil _ | refine subσ.cons rfl ?_)) (by repeat' (first | constructor | apply Sub.suf))))
 ·
  refine ls (op (p_move rfl) rfl) ?_
  refine andX 6 17 23 rfl (subσ.cons (t := 0) rfl (subσ.cons (t := 1) rfl (subσ.cons (t := 2) rfl (subσ.cons (t := 3) rfl (subσ.cons (t := 4) rfl (subσ.nil _)))))) ?_ ?_
  ·
   intro h17
   refine lskip rfl rfl rfl rfl rfl ?_
   refine lskip rfl rfl rfl rfl rfl ?_
   refine lskip rfl rfl rfl rfl rfl ?_
   refine lskip rfl rfl rfl rfl rfl ?_
   refine lskip rfl rfl rfl rfl rfl ?_
   refine ls (op (p_pickf rfl rfl) rfl) ?_
   refine ln (nmid (wk0 (by repeat (first | exact subσ.nil _ | refine subσ.cons rfl ?_)) (by repeat' (first | constructor | apply Sub.suf))))
  apply exI
  ·
   intro h17
   refine lwant rfl rfl rfl rfl (op (p_fa fa83_2 rfl) rfl) ?_
   refine lwant rfl rfl rfl rfl (o_ld Tryz.isAgg9 rfl (by repeat' constructor) (by repeat' constructor) rfl) ?_
   refine lwant rfl rfl rfl rfl (op (p_fa fa83_2 rfl) rfl) ?_
   refine lwant rfl rfl rfl rfl (o_ld Tryz.isAgg9 rfl (by repeat' constructor) (by repeat' constructor) rfl) ?_
   refine lwant rfl rfl rfl rfl (op (p_seq rfl rfl) rfl) ?_
   refine ls (op (p_pickt rfl rfl) rfl) ?_
   refine ln (nmid (wk0 (by repeat (first | exact subσ.nil _ | refine subσ.cons rfl ?_)) (by repeat' (first | constructor | apply Sub.suf))))
  ·
   refine ls (op (p_move rfl) rfl) ?_
   refine andX 6 24 30 rfl (subσ.cons (t := 0) rfl (subσ.cons (t := 1) rfl (subσ.cons (t := 2) rfl (subσ.cons (t := 3) rfl (subσ.cons (t := 4) rfl (subσ.nil _)))))) ?_ ?_
   ·
    intro h24
    refine lskip rfl rfl rfl rfl rfl ?_
    refine lskip rfl rfl rfl rfl rfl ?_
    refine lskip rfl rfl rfl rfl rfl ?_
    refine lskip rfl rfl rfl rfl rfl ?_
    refine lskip rfl rfl rfl rfl rfl ?_
    refine ls (op (p_pickf rfl rfl) rfl) ?_
    refine ln (nmid (wk0 (by repeat (first | exact subσ.nil _ | refine subσ.cons rfl ?_)) (by repeat' (first | constructor | apply Sub.suf))))
   apply exI
   ·
    intro h24
    refine lwant rfl rfl rfl rfl (op (p_fa fa83_3 rfl) rfl) ?_
    refine lwant rfl rfl rfl rfl (o_ld Tryz.isAgg3 rfl (by repeat' constructor) (by repeat' constructor) rfl) ?_
    refine lwant rfl rfl rfl rfl (op (p_fa fa83_3 rfl) rfl) ?_
    refine lwant rfl rfl rfl rfl (o_ld Tryz.isAgg3 rfl (by repeat' constructor) (by repeat' constructor) rfl) ?_
    refine lwant rfl rfl rfl rfl (op (p_icmp rfl rfl rfl) rfl) ?_
    refine ls (op (p_pickt rfl rfl) rfl) ?_
    refine ln (nmid (wk0 (by repeat (first | exact subσ.nil _ | refine subσ.cons rfl ?_)) (by repeat' (first | constructor | apply Sub.suf))))
   ·
    refine ls (op (p_move rfl) rfl) ?_
    refine andX 6 31 37 rfl (subσ.cons (t := 0) rfl (subσ.cons (t := 1) rfl (subσ.cons (t := 2) rfl (subσ.cons (t := 3) rfl (subσ.cons (t := 4) rfl (subσ.nil _)))))) ?_ ?_
    ·
     intro h31
     refine lskip rfl rfl rfl rfl rfl ?_
     refine lskip rfl rfl rfl rfl rfl ?_
     refine lskip rfl rfl rfl rfl rfl ?_
     refine lskip rfl rfl rfl rfl rfl ?_
     refine lskip rfl rfl rfl rfl rfl ?_
     refine ls (op (p_pickf rfl rfl) rfl) ?_
     refine ln (nmid (wk0 (by repeat (first | exact subσ.nil _ | refine subσ.cons rfl ?_)) (by repeat' (first | constructor | apply Sub.suf))))
    apply exI
    ·
     intro h31
     refine lwant rfl rfl rfl rfl (op (p_fa fa83_4 rfl) rfl) ?_
     refine lwant rfl rfl rfl rfl (o_ld Tryz.isAgg37 rfl (by repeat' constructor) (by repeat' constructor) rfl) ?_
     refine lwant rfl rfl rfl rfl (op (p_fa fa83_4 rfl) rfl) ?_
     refine lwant rfl rfl rfl rfl (o_ld Tryz.isAgg37 rfl (by repeat' constructor) (by repeat' constructor) rfl) ?_
     refine lwant rfl rfl rfl rfl (o_call (is := []) Tryz.call29 (c_refSame1 p.old q.old _ _ _ _ hp.o) rfl rfl (by repeat' (first | constructor | apply Sub.suf)) rfl) ?_
     refine le ?_; intro x36
     refine ls (op (p_pickt rfl rfl) rfl) ?_
     refine ln (nmid (wk0 (by repeat (first | exact subσ.nil _ | refine subσ.cons rfl ?_)) (by repeat' (first | constructor | apply Sub.suf))))
    ·
     refine ls (op (p_move rfl) rfl) ?_
     refine andX 6 38 44 rfl (subσ.cons (t := 0) rfl (subσ.cons (t := 1) rfl (subσ.cons (t := 4) rfl (subσ.nil _)))) ?_ ?_
     ·
      intro h38
      refine lskip rfl rfl rfl rfl rfl ?_
      refine lskip rfl rfl rfl rfl rfl ?_
      refine lskip rfl rfl rfl rfl rfl ?_
      refine lskip rfl rfl rfl rfl rfl ?_
      refine lskip rfl rfl rfl rfl rfl ?_
      refine ls (op (p_pickf rfl rfl) rfl) ?_
      refine ln (nmid (wk0 (by repeat (first | exact subσ.nil _ | refine subσ.cons rfl ?_)) (by repeat' (first | constructor | apply Sub.suf))))
     apply exI
     ·
      intro h38
      refine lwant rfl rfl rfl rfl (op (p_fa fa83_5 rfl) rfl) ?_
      refine lwant rfl rfl rfl rfl (o_ld Tryz.isAgg37 rfl (by repeat' constructor) (by repeat' constructor) rfl) ?_
      refine lwant rfl rfl rfl rfl (op (p_fa fa83_5 rfl) rfl) ?_
      refine lwant rfl rfl rfl rfl (o_ld Tryz.isAgg37 rfl (by repeat' constructor) (by repeat' constructor) rfl) ?_
      refine lwant rfl rfl rfl rfl (o_call (is := []) Tryz.call29 (c_refSame1 p.new q.new _ _ _ _ hp.n) rfl rfl (by repeat' (first | constructor | apply Sub.suf)) rfl) ?_
      refine le ?_; intro x43
      refine ls (op (p_pickt rfl rfl) rfl) ?_
      refine ln (nmid (wk0 (by repeat (first | exact subσ.nil _ | refine subσ.cons rfl ?_)) (by repeat' (first | constructor | apply Sub.suf))))
     ·
      refine ls (op (p_asg rfl) rfl) ?_
      refine ln ?_
      refine nthen ?_
      refine cret ?_
      refine xret (fun _ _ h => h) ?_
      refine rret (is := []) () (Or.inl rfl) (Res.t rfl Res.d) ?_ rfl (by repeat' (first | constructor | apply Sub.suf))
      simp only [packV, dec_prim]

end Go.Proofs.YtdbiillompeclaaGreatDoor.X

end
section
set_option linter.unusedVariables false
set_option linter.unusedSimpArgs false
namespace Go.Proofs.YtdbiillompeclaaGreatDoor.X
open Go Go.RowKit Go.Proofs Go.Sx
attribute [local irreducible] slA isA box row

def pre (l : List Prim) (k : Nat) : Nat := ((l.take k).map Prim.many).sum
theorem pre_succ {l : List Prim} {k : Nat} (h : k < l.length) : pre l (k + 1) = pre l k + l[k].many := by
 unfold pre
 rw [List.take_succ_eq_append_getElem h, List.map_append, List.sum_append]
 simp only [List.map_cons, List.map_nil, List.sum_cons, List.sum_nil, Nat.add_zero]
theorem pre_all (l : List Prim) : l.length + pre l l.length = many l := by
 unfold pre many
 rw [List.take_length]
theorem sum_take (l : List Nat) (k : Nat) : (l.take k).sum ≤ l.sum := by
 have h := congrArg List.sum (List.take_append_drop k l)
 rw [List.sum_append] at h
 omega
theorem pre_le (l : List Prim) (k : Nat) : l.length + pre l k ≤ many l := by
 unfold pre many
 have := sum_take (l.map Prim.many) k
 rw [← List.map_take] at this
 omega
theorem sizes_succ {l : List ByteArray} {k : Nat} (h : k < l.length) : sizes (l.take (k + 1)) = sizes (l.take k) + l[k].size := by
 unfold sizes
 rw [List.take_succ_eq_append_getElem h, List.map_append, List.sum_append]
 simp only [List.map_cons, List.map_nil, List.sum_cons, List.sum_nil, Nat.add_zero]
theorem sizes_le (l : List ByteArray) (k : Nat) : sizes (l.take k) ≤ sizes l := by
 unfold sizes
 have := sum_take (l.map ByteArray.size) k
 rw [← List.map_take] at this
 exact this


set_option maxRecDepth 100000 in
theorem c_Many (l : List Prim) (A : Option Addr) (c : Nat) (hl : l.length ≤ 2000000) (hM : many l ≤ 1000000000000) : Con Tryz.prog 45 [.slice A l.length c] [] [slA A l] Unit (fun _ => .int .i64 (many l : Int)) (fun _ => []) (fun _ => []) := by
 refine con Tryz.func45 rfl Tryz.ntmps45 rfl ?_
 intro M0 F0 w0
 refine cs ?_
 refine cr ?_
 refine ls (op (p_asg rfl) rfl) ?_
 refine ln ?_
 refine nthen ?_
 refine cs ?_
 refine cr ?_
 refine ls (op (p_move rfl) rfl) ?_
 refine ls (op (p_lenl rfl Tryz.underlying23) rfl) ?_
 refine ls (op (p_asg rfl) rfl) ?_
 refine ln ?_
 refine nthen ?_
 refine cs ?_
 refine cs ?_
 refine cr ?_
 refine ls (op (p_move rfl) rfl) ?_
 refine ls (op (p_lenl rfl Tryz.underlying23) rfl) ?_
 refine ls (op (p_move rfl) rfl) ?_
 refine ln ?_
 refine nthen ?_
 refine cb ?_
 refine cl (ι := {q : Nat × Int // q.1 ≤ l.length ∧ q.2 = ((l.length + pre l q.1 : Nat) : Int)}) (fun i => St M0 F0 w0 61 [(12, .slice A l.length c), (13, .int .i64 (l.length : Int)), (14, .int .i64 (i.1.1 : Int)), (3, .int .i64 i.1.2)] [] [slA A l]) (fun i => l.length - i.1.1) ⟨(0, (l.length : Int)), by simp [pre]⟩ (wk0 (by repeat (first | exact subσ.nil _ | refine subσ.cons rfl ?_)) (by repeat' (first | constructor | apply Sub.suf))) ?_
 rintro ⟨⟨k, n⟩, hk, hn⟩
 refine cmono (S' := St M0 F0 w0 61 [(12, .slice A l.length c), (13, .int .i64 (l.length : Int)), (14, .int .i64 (k : Int)), (3, .int .i64 n)] [] [slA A l]) (fun _ _ h => h) ?_
 refine cs ?_
 refine cr ?_
 refine ls (op (p_icmp rfl rfl rfl) rfl) ?_
 refine ln ?_
 refine nthen ?_
 refine cs ?_
 refine cc rfl ?_ ?_
 ·
  intro h15
  dsimp only at hk hn
  try simp only [decide_eq_true_eq, decide_eq_false_iff_not, Bool.not_eq_true', Bool.not_eq_false', Int.not_lt, Int.not_le, ge_iff_le, Bool.not_true, Bool.not_false] at h15
  have hk1 : k < l.length := by omega
  have hs := pre_succ hk1
  have ht := pre_le l (k + 1)
  have hu : l[k].many = l[k].name.size + l[k].to.size + l[k].old.length + l[k].new.length + sizes l[k].old + sizes l[k].new := rfl
  refine cskip ?_
  refine nthen ?_
  refine cs ?_
  refine cb ?_
  refine cs ?_
  refine elC (by repeat' constructor) k (List.getElem?_eq_getElem (l := l) hk1) ?_; rintro zbp zop zyp hAp
  refine cr ?_
  refine ls (op (p_ia k hAp hk1 rfl Tryz.underlying23 Tryz.sizeOf83 rfl rfl) rfl) ?_
  refine ls (o_ldj Tryz.isAgg83 Tryz.sizeOf83 rfl (by repeat' constructor) 0 rfl (by repeat (first | exact Cut.d | apply Cut.t | apply Cut.s)) rfl) ?_
  refine ls (o_alloc Tryz.zeroValue83 rfl rfl) ?_
  refine le ?_; intro b5
  refine ls (o_st rfl Tryz.sizeOf83 rfl rfl rfl rfl rfl (by repeat' constructor) (by repeat' constructor) (by repeat' constructor)) ?_
  refine ln ?_
  refine nthen ?_
  refine cs ?_
  refine cr ?_
  refine ls (op (p_move rfl) rfl) ?_
  refine ls (op (p_fa fa83_1 rfl) rfl) ?_
  refine ls (o_ld Tryz.isAgg9 rfl (by repeat' constructor) (by repeat' constructor) rfl) ?_
  refine ls (op (p_lens rfl Tryz.underlying9) rfl) ?_
  refine ls (op (p_fa fa83_2 rfl) rfl) ?_
  refine ls (o_ld Tryz.isAgg9 rfl (by repeat' constructor) (by repeat' constructor) rfl) ?_
  refine ls (op (p_lens rfl Tryz.underlying9) rfl) ?_
  refine ls (op (p_add rfl rfl (by omega)) rfl) ?_
  refine ls (op (p_fa fa83_4 rfl) rfl) ?_
  refine ls (o_ld Tryz.isAgg37 rfl (by repeat' constructor) (by repeat' constructor) rfl) ?_
  refine ls (op (p_lenl rfl Tryz.underlying37) rfl) ?_
  refine ls (op (p_add rfl rfl (by omega)) rfl) ?_
  refine ls (op (p_fa fa83_5 rfl) rfl) ?_
  refine ls (o_ld Tryz.isAgg37 rfl (by repeat' constructor) (by repeat' constructor) rfl) ?_
  refine ls (op (p_lenl rfl Tryz.underlying37) rfl) ?_
  refine ls (op (p_add rfl rfl (by omega)) rfl) ?_
  refine ls (op (p_add rfl rfl (by omega)) rfl) ?_
  refine ls (op (p_asg rfl) rfl) ?_
  refine ln ?_
  refine nthen ?_
  refine cs ?_
  refine cs ?_
  refine cr ?_
  refine ls (op (p_fa fa83_4 rfl) rfl) ?_
  refine ls (o_ld Tryz.isAgg37 rfl (by repeat' constructor) (by repeat' constructor) rfl) ?_
  refine ls (op (p_lenl rfl Tryz.underlying37) rfl) ?_
  refine ls (op (p_move rfl) rfl) ?_
  refine ln ?_
  refine nthen ?_
  refine cb ?_
  refine cl (ι := {q : Nat × Int // q.1 ≤ l[k].old.length ∧ q.2 = (n + ((((l[k].name.size : Int) + l[k].to.size) + l[k].old.length) + l[k].new.length)) + sizes (l[k].old.take q.1)}) (fun i => St M0 F0 w0 61 [(12, .slice A l.length c), (13, .int .i64 (l.length : Int)), (14, .int .i64 (k : Int)), (5, .pointer (some ⟨b5, 0, none⟩)), (36, .slice zyp.1.1 l[k].old.length zyp.1.2), (37, .int .i64 (l[k].old.length : Int)), (38, .int .i64 (i.1.1 : Int)), (3, .int .i64 i.1.2)] [box b5 83 (Rp.enc l[k] zyp)] [slA A l, slA zyp.1.1 l[k].old, slA zyp.2.1 l[k].new]) (fun i => l[k].old.length - i.1.1) ⟨(0, (n + ((((l[k].name.size : Int) + l[k].to.size) + l[k].old.length) + l[k].new.length))), by simp [sizes]⟩ (wk0 (by repeat (first | exact subσ.nil _ | refine subσ.cons rfl ?_)) (by repeat' (first | constructor | apply Sub.suf))) ?_
  rintro ⟨⟨j, x⟩, hj, hx⟩
  refine cmono (S' := St M0 F0 w0 61 [(12, .slice A l.length c), (13, .int .i64 (l.length : Int)), (14, .int .i64 (k : Int)), (5, .pointer (some ⟨b5, 0, none⟩)), (36, .slice zyp.1.1 l[k].old.length zyp.1.2), (37, .int .i64 (l[k].old.length : Int)), (38, .int .i64 (j : Int)), (3, .int .i64 x)] [box b5 83 (Rp.enc l[k] zyp)] [slA A l, slA zyp.1.1 l[k].old, slA zyp.2.1 l[k].new]) (fun _ _ h => h) ?_
  refine cs ?_
  refine cr ?_
  refine ls (op (p_icmp rfl rfl rfl) rfl) ?_
  refine ln ?_
  refine nthen ?_
  refine cs ?_
  refine cc rfl ?_ ?_
  ·
   intro h39
   dsimp only at hj hx
   try simp only [decide_eq_true_eq, decide_eq_false_iff_not, Bool.not_eq_true', Bool.not_eq_false', Int.not_lt, Int.not_le, ge_iff_le, Bool.not_true, Bool.not_false] at h39
   have hj1 : j < l[k].old.length := by omega
   have ej1 := sizes_succ hj1
   have ej2 := sizes_le l[k].old (j + 1)
   refine cskip ?_
   refine nthen ?_
   refine cs ?_
   refine cb ?_
   refine cs ?_
   refine elC (by repeat' constructor) j (List.getElem?_eq_getElem (l := l[k].old) hj1) ?_; rintro zbq zoq zyq hAq
   refine cr ?_
   refine ls (op (p_ia j hAq hj1 rfl Tryz.underlying37 Tryz.sizeOf9 rfl rfl) rfl) ?_
   refine ls (o_ldi Tryz.isAgg9 rfl (by repeat' constructor) 0 rfl (by repeat (first | exact Cut.d | apply Cut.t | apply Cut.s)) rfl) ?_
   refine ls (op (p_asg rfl) rfl) ?_
   refine ln ?_
   refine nthen ?_
   refine cr ?_
   refine ls (op (p_move rfl) rfl) ?_
   refine ls (op (p_move rfl) rfl) ?_
   refine ls (op (p_lens rfl Tryz.underlying9) rfl) ?_
   refine ls (op (p_add rfl rfl (by omega)) rfl) ?_
   refine ls (op (p_asg rfl) rfl) ?_
   refine ln ?_
   refine nblock ?_
   refine nthen ?_
   refine cr ?_
   refine ls (op (p_add rfl rfl (by omega)) rfl) ?_
   refine ls (op (p_move rfl) rfl) ?_
   refine ln ?_
   refine nnext ⟨(j + 1, x + (l[k].old[j].size : Int)), hj1, by dsimp only; omega⟩ (by dsimp only; omega) (wk0 (by repeat (first | exact subσ.nil _ | refine subσ.cons rfl ?_)) (by repeat' (first | constructor | apply Sub.suf)))
  ·
   intro h39
   dsimp only at hj hx
   try simp only [decide_eq_true_eq, decide_eq_false_iff_not, Bool.not_eq_true', Bool.not_eq_false', Int.not_lt, Int.not_le, ge_iff_le, Bool.not_true, Bool.not_false] at h39
   rw [List.take_of_length_le (by omega)] at hx
   refine cexit ?_
   refine xthen ?_
   refine xthen ?_
   refine xblock ?_
   refine nthen ?_
   refine cs ?_
   refine cr ?_
   refine ls (op (p_fa fa83_5 rfl) rfl) ?_
   refine ls (o_ld Tryz.isAgg37 rfl (by repeat' constructor) (by repeat' constructor) rfl) ?_
   refine ls (op (p_lenl rfl Tryz.underlying37) rfl) ?_
   refine ls (op (p_move rfl) rfl) ?_
   refine ln ?_
   refine nthen ?_
   refine cb ?_
   refine cl (ι := {q : Nat × Int // q.1 ≤ l[k].new.length ∧ q.2 = x + sizes (l[k].new.take q.1)}) (fun i => St M0 F0 w0 61 [(12, .slice A l.length c), (13, .int .i64 (l.length : Int)), (14, .int .i64 (k : Int)), (5, .pointer (some ⟨b5, 0, none⟩)), (48, .slice zyp.2.1 l[k].new.length zyp.2.2), (49, .int .i64 (l[k].new.length : Int)), (50, .int .i64 (i.1.1 : Int)), (3, .int .i64 i.1.2)] [box b5 83 (Rp.enc l[k] zyp)] [slA A l, slA zyp.1.1 l[k].old, slA zyp.2.1 l[k].new]) (fun i => l[k].new.length - i.1.1) ⟨(0, x), by simp [sizes]⟩ (wk0 (by repeat (first | exact subσ.nil _ | refine subσ.cons rfl ?_)) (by repeat' (first | constructor | apply Sub.suf))) ?_
   rintro ⟨⟨g, y⟩, hg, hy⟩
   refine cmono (S' := St M0 F0 w0 61 [(12, .slice A l.length c), (13, .int .i64 (l.length : Int)), (14, .int .i64 (k : Int)), (5, .pointer (some ⟨b5, 0, none⟩)), (48, .slice zyp.2.1 l[k].new.length zyp.2.2), (49, .int .i64 (l[k].new.length : Int)), (50, .int .i64 (g : Int)), (3, .int .i64 y)] [box b5 83 (Rp.enc l[k] zyp)] [slA A l, slA zyp.1.1 l[k].old, slA zyp.2.1 l[k].new]) (fun _ _ h => h) ?_
   refine cs ?_
   refine cr ?_
   refine ls (op (p_icmp rfl rfl rfl) rfl) ?_
   refine ln ?_
   refine nthen ?_
   refine cs ?_
   refine cc rfl ?_ ?_
   ·
    intro h51
    dsimp only at hg hy
    try simp only [decide_eq_true_eq, decide_eq_false_iff_not, Bool.not_eq_true', Bool.not_eq_false', Int.not_lt, Int.not_le, ge_iff_le, Bool.not_true, Bool.not_false] at h51
    have hg1 : g < l[k].new.length := by omega
    have eg1 := sizes_succ hg1
    have eg2 := sizes_le l[k].new (g + 1)
    refine cskip ?_
    refine nthen ?_
    refine cs ?_
    refine cb ?_
    refine cs ?_
    refine elC (by repeat' constructor) g (List.getElem?_eq_getElem (l := l[k].new) hg1) ?_; rintro zbr zor zyr hAr
    refine cr ?_
    refine ls (op (p_ia g hAr hg1 rfl Tryz.underlying37 Tryz.sizeOf9 rfl rfl) rfl) ?_
    refine ls (o_ldi Tryz.isAgg9 rfl (by repeat' constructor) 0 rfl (by repeat (first | exact Cut.d | apply Cut.t | apply Cut.s)) rfl) ?_
    refine ls (op (p_asg rfl) rfl) ?_
    refine ln ?_
    refine nthen ?_
    refine cr ?_
    refine ls (op (p_move rfl) rfl) ?_
    refine ls (op (p_move rfl) rfl) ?_
    refine ls (op (p_lens rfl Tryz.underlying9) rfl) ?_
    refine ls (op (p_add rfl rfl (by omega)) rfl) ?_
    refine ls (op (p_asg rfl) rfl) ?_
    refine ln ?_
    refine nblock ?_
    refine nthen ?_
    refine cr ?_
    refine ls (op (p_add rfl rfl (by omega)) rfl) ?_
    refine ls (op (p_move rfl) rfl) ?_
    refine ln ?_
    refine nnext ⟨(g + 1, y + (l[k].new[g].size : Int)), hg1, by dsimp only; omega⟩ (by dsimp only; omega) (wk0 (by repeat (first | exact subσ.nil _ | refine subσ.cons rfl ?_)) (by repeat' (first | constructor | apply Sub.suf)))
   ·
    intro h51
    dsimp only at hg hy
    try simp only [decide_eq_true_eq, decide_eq_false_iff_not, Bool.not_eq_true', Bool.not_eq_false', Int.not_lt, Int.not_le, ge_iff_le, Bool.not_true, Bool.not_false] at h51
    rw [List.take_of_length_le (by omega)] at hy
    refine cexit ?_
    refine xthen ?_
    refine xthen ?_
    refine xblock ?_
    refine nblock ?_
    refine nthen ?_
    refine cr ?_
    refine ls (op (p_add rfl rfl (by omega)) rfl) ?_
    refine ls (op (p_move rfl) rfl) ?_
    refine ln ?_
    refine nnext ⟨(k + 1, y), hk1, by dsimp only; omega⟩ (by dsimp only; omega) (wk (is := []) (by repeat (first | exact subσ.nil _ | refine subσ.cons rfl ?_)) rfl (by repeat' (first | constructor | apply Sub.suf)))
 ·
  intro h15
  dsimp only at hk hn
  try simp only [decide_eq_true_eq, decide_eq_false_iff_not, Bool.not_eq_true', Bool.not_eq_false', Int.not_lt, Int.not_le, ge_iff_le, Bool.not_true, Bool.not_false] at h15
  refine cexit ?_
  refine xthen ?_
  refine xthen ?_
  refine xblock ?_
  refine nthen ?_
  refine cs ?_
  refine cr ?_
  refine ls (op (p_move rfl) rfl) ?_
  refine ls (op (p_asg rfl) rfl) ?_
  refine ln ?_
  refine nthen ?_
  refine cret ?_
  refine xret (fun _ _ h => h) ?_
  refine rret (is := []) () (Or.inl rfl) (Res.t rfl Res.d) ?_ rfl (by repeat' (first | constructor | apply Sub.suf))
  have e := pre_all l; rw [show k = l.length by omega] at hn; rw [hn]; simp only [packV]; rw [e]

end Go.Proofs.YtdbiillompeclaaGreatDoor.X

end
section
set_option linter.unusedVariables false
set_option linter.unusedSimpArgs false
namespace Go.Proofs.YtdbiillompeclaaGreatDoor.X
open Go Go.RowKit Go.Proofs Go.Sx
attribute [local irreducible] slA isA box row

def Tfit (T : List File) : Prop := ∀ x ∈ T, x.2.length ≤ 2000000
theorem Tfit.get {T : List File} (h : Tfit T) (k : ByteArray) : (getL T k).length ≤ 2000000 := by
 unfold getL getT
 cases e : T.find? (fun x => decide (x.1 = k)) with
 | none => simp
 | some x => simpa using h x (List.mem_of_find?_eq_some e)

theorem fa120_0 : FA Tryz.prog 120 0 0 := fun b o w => by kernel_rfl
theorem sb120 : SB Tryz.prog 120 [(0, 1)] [.map none] := SB.struct Tryz.zeroValue120 rfl Tryz.underlying120 (fun w => by kernel_rfl)
set_option maxRecDepth 100000 in
theorem c_sCloneR (l : List ByteArray) (A : Option Addr) (c : Nat) (hl : l.length ≤ 2000000) : Con Tryz.prog 74 [.slice A l.length c] [] [slA A l] (Option Addr × Nat) (fun y => .slice y.1 l.length y.2) (fun y => [row 9 y.1 y.2 l]) (fun _ => []) := by
 refine con Tryz.func74 rfl Tryz.ntmps74 rfl ?_
 intro M0 F0 w0
 refine cs ?_
 refine cr ?_
 refine ls (op (p_asg rfl) rfl) ?_
 refine ln ?_
 refine nthen ?_
 refine cs ?_
 refine cs ?_
 refine cr ?_
 refine ls (op (p_move rfl) rfl) ?_
 refine ls (op (p_slnil Tryz.underlying37 rfl rfl) rfl) ?_
 refine ln ?_
 refine nthen ?_
 refine cc rfl ?_ ?_
 ·
  intro h4
  have h5 : A = none := by simpa using h4
  refine cs ?_
  subst h5
  refine cmono (fun a w h => nil_len (l := l) (i := 0) At.z h) ?_
  refine cf ?_; rintro rfl
  refine cmono (fun a w h => nilRow (α := ByteArray) 9 h) ?_
  refine cr ?_
  refine ls (op (p_asg rfl) rfl) ?_
  refine ln ?_
  refine nthen ?_
  refine cret ?_
  refine xret (fun _ _ h => h) ?_
  refine rret (is := [0]) (none, 0) (Or.inl rfl) (Res.t rfl Res.d) (rfl) rfl (by repeat' (first | constructor | apply Sub.suf))
 ·
  intro h4
  have h5 : ¬ A = none := by intro e; rw [e] at h4; cases h4
  refine cskip ?_
  refine nthen ?_
  refine cs ?_
  refine cr ?_
  refine ls (o_bsl ([] : List ByteArray) Tryz.underlying37 Tryz.sizeOf9 Tryz.zeroValue9 rfl Enum.d RV.d rfl (by decide) (by decide) rfl) ?_
  refine le ?_; intro b5
  refine ls (op (p_move rfl) rfl) ?_
  refine ls (o_app (is := [0]) Tryz.underlying37 inf9 rfl (by decide) (by decide) rfl rfl (by simp; omega) (fun _ h => absurd h h5) rfl (by repeat' (first | constructor | apply Sub.suf)) rfl) ?_
  refine le ?_; rintro ⟨A', c2⟩
  rw [List.nil_append]
  refine ls (op (p_asg rfl) rfl) ?_
  refine ln ?_
  refine nthen ?_
  refine cret ?_
  refine xret (fun _ _ h => h) ?_
  refine rret (is := [0]) (A', c2) (Or.inl rfl) (Res.t rfl Res.d) (rfl) rfl (by repeat' (first | constructor | apply Sub.suf))

set_option maxRecDepth 100000 in
theorem c_tNew : Con Tryz.prog 23 [] [] [] (Nat × Nat) (fun y => .pointer (some ⟨y.1, 0, none⟩)) (fun y => [box y.1 120 [.map (some y.2)], tr y.2 []]) (fun _ => []) := by
 refine con Tryz.func23 rfl Tryz.ntmps23 rfl ?_
 intro M0 F0 w0
 refine cs ?_
 refine cr ?_
 refine ls (op (p_asg rfl) rfl) ?_
 refine ln ?_
 refine nthen ?_
 refine cs ?_
 refine cr ?_
 refine ls (o_mmk rfl) ?_
 refine le ?_; intro m1
 refine ls (op (p_bld sb120 rfl (Fill.t (by repeat' constructor) rfl rfl (by repeat' constructor) Fill.d)) rfl) ?_
 refine ls (o_box rfl rfl rfl) ?_
 refine le ?_; intro b3
 refine ls (op (p_asg rfl) rfl) ?_
 refine ln ?_
 refine nthen ?_
 refine cret ?_
 refine xret (fun _ _ h => h) ?_
 refine rret (is := [0, 0]) (b3, m1) (Or.inl rfl) (Res.t rfl Res.d) (rfl) rfl (by repeat' (first | constructor | apply Sub.suf))

set_option maxRecDepth 100000 in
theorem c_tHas (p b : Nat) (T : List File) (k : ByteArray) : Con Tryz.prog 72 [.pointer (some ⟨p, 0, none⟩), .string k] [box p 120 [.map (some b)], tr b T] [] Unit (fun _ => .bool (hasT T k)) (fun _ => [box p 120 [.map (some b)], tr b T]) (fun _ => []) := by
 refine con Tryz.func72 rfl Tryz.ntmps72 rfl ?_
 intro M0 F0 w0
 refine cs ?_
 refine cr ?_
 refine ls (op (p_asg rfl) rfl) ?_
 refine ln ?_
 refine nthen ?_
 refine cs ?_
 refine cr ?_
 refine ls (op (p_move rfl) rfl) ?_
 refine ls (op (p_nilck rfl) rfl) ?_
 refine ls (op (p_fa fa120_0 rfl) rfl) ?_
 refine ls (o_ld Tryz.isAgg118 rfl (by repeat' constructor) (by repeat' constructor) rfl) ?_
 refine ls (op (p_move rfl) rfl) ?_
 refine ls (o_look Tryz.underlying118 Tryz.underlying9 Tryz.zeroValue37 rfl rfl (by repeat' constructor) rfl) ?_
 refine le ?_; rintro y13
 refine ls (op (p_move rfl) rfl) ?_
 refine ls (op (p_ext rfl (by repeat' constructor)) rfl) ?_
 refine ls (op (p_ext rfl (by repeat' constructor)) rfl) ?_
 refine ls (op (p_asg rfl) rfl) ?_
 refine ls (op (p_asg rfl) rfl) ?_
 refine ln ?_
 refine nthen ?_
 refine cs ?_
 refine cr ?_
 refine ls (op (p_move rfl) rfl) ?_
 refine ls (op (p_asg rfl) rfl) ?_
 refine ln ?_
 refine nthen ?_
 refine cret ?_
 refine xret (fun _ _ h => h) ?_
 refine rret (is := [0, 0]) () (Or.inl rfl) (Res.t rfl Res.d) (rfl) rfl (by repeat' (first | constructor | apply Sub.suf))

set_option maxRecDepth 100000 in
theorem c_tAdd (p b : Nat) (T : List File) (k : ByteArray) : Con Tryz.prog 25 [.pointer (some ⟨p, 0, none⟩), .string k] [box p 120 [.map (some b)], tr b T] [] {q : List File × Int // q = tAdd T k} (fun q => .int .i64 q.1.2) (fun q => [box p 120 [.map (some b)], tr b q.1.1]) (fun _ => []) := by
 refine con Tryz.func25 rfl Tryz.ntmps25 rfl ?_
 intro M0 F0 w0
 refine cs ?_
 refine cr ?_
 refine ls (op (p_asg rfl) rfl) ?_
 refine ln ?_
 refine nthen ?_
 refine cs ?_
 refine cb ?_
 refine cs ?_
 refine cr ?_
 refine ls (op (p_move rfl) rfl) ?_
 refine ls (o_call (is := []) Tryz.call71 (c_treeNamed k) rfl rfl (by repeat' (first | constructor | apply Sub.suf)) rfl) ?_
 refine le ?_; intro x7
 refine ls (op (p_not rfl) rfl) ?_
 refine ls (op (p_asg rfl) rfl) ?_
 refine ln ?_
 refine nthen ?_
 refine cc rfl ?_ ?_
 ·
  intro h5
  refine cs ?_
  refine cr ?_
  refine ls (op (p_asg rfl) rfl) ?_
  refine ln ?_
  refine nthen ?_
  refine cret ?_
  refine xret (fun _ _ h => h) ?_
  refine rret (is := [0, 0]) ⟨(T, 20), by simp only [Bool.not_eq_true'] at h5; simp [tAdd, h5]⟩ (Or.inl rfl) (Res.t rfl Res.d) (rfl) rfl (by repeat' (first | constructor | apply Sub.suf))
 ·
  intro h5
  refine cs ?_
  refine cr ?_
  refine ls (op (p_move rfl) rfl) ?_
  refine ls (op (p_move rfl) rfl) ?_
  refine ls (o_call (is := [0, 0]) Tryz.call72 (c_tHas p b T k) rfl rfl (by repeat' (first | constructor | apply Sub.suf)) rfl) ?_
  refine le ?_; intro x12
  refine ls (op (p_asg rfl) rfl) ?_
  refine ln ?_
  refine nthen ?_
  refine cc rfl ?_ ?_
  ·
   intro h9
   refine cs ?_
   refine cr ?_
   refine ls (op (p_asg rfl) rfl) ?_
   refine ln ?_
   refine nthen ?_
   refine cret ?_
   refine xret (fun _ _ h => h) ?_
   refine rret (is := [0, 0]) ⟨(T, 21), by simp only [Bool.not_eq_false'] at h5; simp [tAdd, h5, h9]⟩ (Or.inl rfl) (Res.t rfl Res.d) (rfl) rfl (by repeat' (first | constructor | apply Sub.suf))
  ·
   intro h9
   refine cskip ?_
   refine nblock ?_
   refine nthen ?_
   refine cs ?_
   refine cr ?_
   refine ls (op (p_move rfl) rfl) ?_
   refine ls (op (p_nilck rfl) rfl) ?_
   refine ls (op (p_fa fa120_0 rfl) rfl) ?_
   refine ls (o_ld Tryz.isAgg118 rfl (by repeat' constructor) (by repeat' constructor) rfl) ?_
   refine ls (op (p_move rfl) rfl) ?_
   refine ls (o_mupdN (i := 1) Tryz.underlying118 Tryz.underlying9 rfl rfl rfl rfl) ?_
   refine ln ?_
   refine nthen ?_
   refine cs ?_
   refine cr ?_
   refine ls (op (p_asg rfl) rfl) ?_
   refine ln ?_
   refine nthen ?_
   refine cret ?_
   refine xret (fun _ _ h => h) ?_
   refine rret (is := [1, 0]) ⟨(putT T k [], 0), by simp only [Bool.not_eq_false'] at h5; simp [tAdd, h5, h9]⟩ (Or.inl rfl) (Res.t rfl Res.d) (rfl) rfl (by repeat' (first | constructor | apply Sub.suf))

set_option maxRecDepth 100000 in
theorem c_tRem (p b : Nat) (T : List File) (k : ByteArray) : Con Tryz.prog 129 [.pointer (some ⟨p, 0, none⟩), .string k] [box p 120 [.map (some b)], tr b T] [] {q : List File × Int // q = tRem T k} (fun q => .int .i64 q.1.2) (fun q => [box p 120 [.map (some b)], tr b q.1.1]) (fun _ => []) := by
 refine con Tryz.func129 rfl Tryz.ntmps129 rfl ?_
 intro M0 F0 w0
 refine cs ?_
 refine cr ?_
 refine ls (op (p_asg rfl) rfl) ?_
 refine ln ?_
 refine nthen ?_
 refine cs ?_
 refine cb ?_
 refine cs ?_
 refine cr ?_
 refine ls (op (p_move rfl) rfl) ?_
 refine ls (op (p_move rfl) rfl) ?_
 refine ls (o_call (is := [0, 0]) Tryz.call72 (c_tHas p b T k) rfl rfl (by repeat' (first | constructor | apply Sub.suf)) rfl) ?_
 refine le ?_; intro x8
 refine ls (op (p_not rfl) rfl) ?_
 refine ls (op (p_asg rfl) rfl) ?_
 refine ln ?_
 refine nthen ?_
 refine cc rfl ?_ ?_
 ·
  intro h5
  refine cs ?_
  refine cr ?_
  refine ls (op (p_asg rfl) rfl) ?_
  refine ln ?_
  refine nthen ?_
  refine cret ?_
  refine xret (fun _ _ h => h) ?_
  refine rret (is := [0, 0]) ⟨(T, 20), by simp only [Bool.not_eq_true'] at h5; simp [tRem, h5]⟩ (Or.inl rfl) (Res.t rfl Res.d) (rfl) rfl (by repeat' (first | constructor | apply Sub.suf))
 ·
  intro h5
  refine cs ?_
  refine cr ?_
  refine ls (op (p_move rfl) rfl) ?_
  refine ls (op (p_nilck rfl) rfl) ?_
  refine ls (op (p_fa fa120_0 rfl) rfl) ?_
  refine ls (o_ld Tryz.isAgg118 rfl (by repeat' constructor) (by repeat' constructor) rfl) ?_
  refine ls (op (p_move rfl) rfl) ?_
  refine ls (o_look1 Tryz.underlying118 Tryz.underlying9 Tryz.zeroValue37 rfl rfl (by repeat' constructor) rfl) ?_
  refine le ?_; rintro y16
  refine ls (op (p_lenl rfl Tryz.underlying37) rfl) ?_
  refine ls (op (p_icmp rfl rfl rfl) rfl) ?_
  refine ls (op (p_asg rfl) rfl) ?_
  refine ln ?_
  refine nthen ?_
  refine cc rfl ?_ ?_
  ·
   intro h10
   refine cs ?_
   refine cr ?_
   refine ls (op (p_asg rfl) rfl) ?_
   refine ln ?_
   refine nthen ?_
   refine cret ?_
   refine xret (fun _ _ h => h) ?_
   refine rret (is := [0, 0]) ⟨(T, 22), by simp only [Bool.not_eq_false'] at h5; have h : 0 < (getL T k).length := (by simp at h10; omega); simp [tRem, h5, h]⟩ (Or.inl rfl) (Res.t rfl Res.d) (rfl) rfl (by repeat' (first | constructor | apply Sub.suf))
  ·
   intro h10
   refine cskip ?_
   refine nblock ?_
   refine nthen ?_
   refine cs ?_
   refine cr ?_
   refine ls (op (p_move rfl) rfl) ?_
   refine ls (op (p_nilck rfl) rfl) ?_
   refine ls (op (p_fa fa120_0 rfl) rfl) ?_
   refine ls (o_ld Tryz.isAgg118 rfl (by repeat' constructor) (by repeat' constructor) rfl) ?_
   refine ls (op (p_move rfl) rfl) ?_
   refine ls (o_mdel0 (i := 1) Tryz.underlying118 Tryz.underlying9 rfl rfl rfl) ?_
   refine ln ?_
   refine nthen ?_
   refine cs ?_
   refine cr ?_
   refine ls (op (p_asg rfl) rfl) ?_
   refine ln ?_
   refine nthen ?_
   refine cret ?_
   refine xret (fun _ _ h => h) ?_
   refine rret (is := [1, 0]) ⟨(delT T k, 0), by simp only [Bool.not_eq_false'] at h5; have h : ¬ 0 < (getL T k).length := (by simp at h10; simp [h10]); simp [tRem, h5, h]⟩ (Or.inl rfl) (Res.t rfl Res.d) (rfl) rfl (by repeat' (first | constructor | apply Sub.suf))

set_option maxRecDepth 100000 in
theorem c_tMove (p b : Nat) (T : List File) (k u : ByteArray) : Con Tryz.prog 104 [.pointer (some ⟨p, 0, none⟩), .string k, .string u] [box p 120 [.map (some b)], tr b T] [] {q : List File × Int // q = tMove T k u} (fun q => .int .i64 q.1.2) (fun q => [box p 120 [.map (some b)], tr b q.1.1]) (fun _ => []) := by
 refine con Tryz.func104 rfl Tryz.ntmps104 rfl ?_
 intro M0 F0 w0
 refine cs ?_
 refine cr ?_
 refine ls (op (p_asg rfl) rfl) ?_
 refine ln ?_
 refine nthen ?_
 refine cs ?_
 refine cb ?_
 refine cs ?_
 refine cr ?_
 refine ls (op (p_move rfl) rfl) ?_
 refine ls (op (p_move rfl) rfl) ?_
 refine ls (o_call (is := [0, 0]) Tryz.call72 (c_tHas p b T k) rfl rfl (by repeat' (first | constructor | apply Sub.suf)) rfl) ?_
 refine le ?_; intro x10
 refine ls (op (p_not rfl) rfl) ?_
 refine ls (op (p_move rfl) rfl) ?_
 refine orX 4 12 16 rfl (subσ.cons (t := 0) rfl (subσ.cons (t := 1) rfl (subσ.cons (t := 2) rfl (subσ.cons (t := 6) rfl (subσ.nil _))))) ?_ ?_
 ·
  intro h12
  refine lskip rfl rfl rfl rfl rfl ?_
  refine lskip rfl rfl rfl rfl rfl ?_
  refine lskip rfl rfl rfl rfl rfl ?_
  refine ls (op (p_pickt rfl rfl) rfl) ?_
  refine ln (nmid (wk0 (by repeat (first | exact subσ.nil _ | refine subσ.cons rfl ?_)) (by repeat' (first | constructor | apply Sub.suf))))
 apply exI
 ·
  intro h12
  refine lwant rfl rfl rfl rfl (op (p_move rfl) rfl) ?_
  refine lwant rfl rfl rfl rfl (o_call (is := []) Tryz.call71 (c_treeNamed u) rfl rfl (by repeat' (first | constructor | apply Sub.suf)) rfl) ?_
  refine le ?_; intro x14
  refine lwant rfl rfl rfl rfl (op (p_not rfl) rfl) ?_
  refine ls (op (p_pickf rfl rfl) rfl) ?_
  refine ln (nmid (wk0 (by repeat (first | exact subσ.nil _ | refine subσ.cons rfl ?_)) (by repeat' (first | constructor | apply Sub.suf))))
 ·
  refine ls (op (p_asg rfl) rfl) ?_
  refine ln ?_
  refine nthen ?_
  refine cc rfl ?_ ?_
  ·
   intro h7
   refine cs ?_
   refine cr ?_
   refine ls (op (p_asg rfl) rfl) ?_
   refine ln ?_
   refine nthen ?_
   refine cret ?_
   refine xret (fun _ _ h => h) ?_
   refine rret (is := [0, 0]) ⟨(T, 20), by simp at h7; simp [tMove, h7]⟩ (Or.inl rfl) (Res.t rfl Res.d) (rfl) rfl (by repeat' (first | constructor | apply Sub.suf))
  ·
   intro h7
   refine cs ?_
   refine cr ?_
   refine ls (op (p_move rfl) rfl) ?_
   refine ls (op (p_move rfl) rfl) ?_
   refine ls (o_call (is := [0, 0]) Tryz.call72 (c_tHas p b T u) rfl rfl (by repeat' (first | constructor | apply Sub.suf)) rfl) ?_
   refine le ?_; intro x20
   refine ls (op (p_asg rfl) rfl) ?_
   refine ln ?_
   refine nthen ?_
   refine cc rfl ?_ ?_
   ·
    intro h17
    refine cs ?_
    refine cr ?_
    refine ls (op (p_asg rfl) rfl) ?_
    refine ln ?_
    refine nthen ?_
    refine cret ?_
    refine xret (fun _ _ h => h) ?_
    refine rret (is := [0, 0]) ⟨(T, 21), by simp at h7; simp [tMove, h7, h17]⟩ (Or.inl rfl) (Res.t rfl Res.d) (rfl) rfl (by repeat' (first | constructor | apply Sub.suf))
   ·
    intro h17
    refine cskip ?_
    refine nblock ?_
    refine nthen ?_
    refine cs ?_
    refine cd [10, 11] [(3, p, 0, _), (8, p, 0, _)] TryzX.mixed (TOk.t (isBoxS (by repeat' constructor) (k := 1) (by repeat (first | exact Cut.d | apply Cut.t | apply Cut.s))) (TOk.t (isBoxS (by repeat' constructor) (k := 1) (by repeat (first | exact Cut.d | apply Cut.t | apply Cut.s))) TOk.d)) ?_
    refine tk 0 rfl (by kernel_rfl) (fun _ _ _ h => h) gnone (TTany _) (p_move rfl) rfl ?_
    refine tk 1 rfl (by kernel_rfl) (fun _ _ _ h => h) gnone (TTany _) (p_nilck rfl) rfl ?_
    refine tk 2 rfl (by kernel_rfl) (fun _ _ _ h => h) gnone (TTany _) (p_fa fa120_0 rfl) rfl ?_
    refine tk 3 rfl (by kernel_rfl) (fun _ _ _ h => h) gnone (TTat (List.Mem.head _)) (p_ld Tryz.isAgg118 rfl) rfl ?_
    refine tk 4 rfl (by kernel_rfl) (fun _ _ _ h => h) gnone (TTany _) (p_move rfl) rfl ?_
    refine tk 5 rfl (by kernel_rfl) (fun _ _ _ h => h) gnone (TTany _) (p_move rfl) rfl ?_
    refine tk 6 rfl (by kernel_rfl) (fun _ _ _ h => h) gnone (TTany _) (p_nilck rfl) rfl ?_
    refine tk 7 rfl (by kernel_rfl) (fun _ _ _ h => h) gnone (TTany _) (p_fa fa120_0 rfl) rfl ?_
    refine tk 8 rfl (by kernel_rfl) (fun _ _ _ h => h) gnone (TTat (List.Mem.tail _ (List.Mem.head _))) (p_ld Tryz.isAgg118 rfl) rfl ?_
    refine tk 9 rfl (by kernel_rfl) (fun _ _ _ h => h) gnone (TTany _) (p_move rfl) rfl ?_
    refine df 10 (by kernel_rfl) ?_
    refine doR rfl (o_look1 Tryz.underlying118 Tryz.underlying9 Tryz.zeroValue37 rfl rfl (by repeat' constructor) rfl) (TOk.t (isBoxE fun _ => isBoxS (by repeat' constructor) (k := 1) (by repeat (first | exact Cut.d | apply Cut.t | apply Cut.s))) (TOk.x (by kernel_rfl) TOk.d)) ?_
    refine ea ?_; rintro y31
    refine df 11 (by kernel_rfl) ?_
    refine doR rfl (o_mupd (i := 1) Tryz.underlying118 Tryz.underlying9 rfl rfl rfl rfl (by repeat' (first | constructor | apply Sub.suf))) (TOk.x (by kernel_rfl) (TOk.x (by kernel_rfl) TOk.d)) ?_
    refine dn (by kernel_rfl) ?_
    refine nthen ?_
    refine cs ?_
    refine cr ?_
    refine ls (op (p_move rfl) rfl) ?_
    refine ls (op (p_nilck rfl) rfl) ?_
    refine ls (op (p_fa fa120_0 rfl) rfl) ?_
    refine ls (o_ld Tryz.isAgg118 rfl (by repeat' constructor) (by repeat' constructor) rfl) ?_
    refine ls (op (p_move rfl) rfl) ?_
    refine ls (o_mdel0 (i := 0) Tryz.underlying118 Tryz.underlying9 rfl rfl rfl) ?_
    refine ln ?_
    refine nthen ?_
    refine cs ?_
    refine cr ?_
    refine ls (op (p_asg rfl) rfl) ?_
    refine ln ?_
    refine nthen ?_
    refine cret ?_
    refine xret (fun _ _ h => h) ?_
    refine rret (is := [1, 0]) ⟨(delT (putT T u (getL T k)) k, 0), by simp at h7; simp [tMove, h7, h17]⟩ (Or.inl rfl) (Res.t rfl Res.d) (rfl) rfl (by repeat' (first | constructor | apply Sub.suf))

set_option maxRecDepth 100000 in
theorem c_tPut (p b : Nat) (T : List File) (k : ByteArray) (l : List ByteArray) (A : Option Addr) (c : Nat) (hl : l.length ≤ 2000000) : Con Tryz.prog 26 [.pointer (some ⟨p, 0, none⟩), .string k, .slice A l.length c] [box p 120 [.map (some b)], tr b T] [slA A l] {q : List File × Int // q = tPut T k l} (fun q => .int .i64 q.1.2) (fun q => [box p 120 [.map (some b)], tr b q.1.1]) (fun _ => []) := by
 refine con Tryz.func26 rfl Tryz.ntmps26 rfl ?_
 intro M0 F0 w0
 refine cs ?_
 refine cr ?_
 refine ls (op (p_asg rfl) rfl) ?_
 refine ln ?_
 refine nthen ?_
 refine cs ?_
 refine cb ?_
 refine cs ?_
 refine cr ?_
 refine ls (op (p_move rfl) rfl) ?_
 refine ls (op (p_move rfl) rfl) ?_
 refine ls (o_call (is := [0, 0]) Tryz.call72 (c_tHas p b T k) rfl rfl (by repeat' (first | constructor | apply Sub.suf)) rfl) ?_
 refine le ?_; intro x10
 refine ls (op (p_not rfl) rfl) ?_
 refine ls (op (p_asg rfl) rfl) ?_
 refine ln ?_
 refine nthen ?_
 refine cc rfl ?_ ?_
 ·
  intro h7
  refine cs ?_
  refine cr ?_
  refine ls (op (p_asg rfl) rfl) ?_
  refine ln ?_
  refine nthen ?_
  refine cret ?_
  refine xret (fun _ _ h => h) ?_
  refine rret (is := [0, 0]) ⟨(T, 20), by simp only [Bool.not_eq_true'] at h7; simp [tPut, h7]⟩ (Or.inl rfl) (Res.t rfl Res.d) (rfl) rfl (by repeat' (first | constructor | apply Sub.suf))
 ·
  intro h7
  refine cs ?_
  refine cr ?_
  refine ls (op (p_move rfl) rfl) ?_
  refine ls (o_call (is := []) Tryz.call73 (c_lineAll l A c hl) rfl rfl (by repeat' (first | constructor | apply Sub.suf)) rfl) ?_
  refine le ?_; intro x14
  refine ls (op (p_not rfl) rfl) ?_
  refine ls (op (p_asg rfl) rfl) ?_
  refine ln ?_
  refine nthen ?_
  refine cc rfl ?_ ?_
  ·
   intro h12
   refine cs ?_
   refine cr ?_
   refine ls (op (p_asg rfl) rfl) ?_
   refine ln ?_
   refine nthen ?_
   refine cret ?_
   refine xret (fun _ _ h => h) ?_
   refine rret (is := [0, 0]) ⟨(T, 1), by simp only [Bool.not_eq_false'] at h7; simp only [Bool.not_eq_true'] at h12; simp [tPut, h7, h12]⟩ (Or.inl rfl) (Res.t rfl Res.d) (rfl) rfl (by repeat' (first | constructor | apply Sub.suf))
  ·
   intro h12
   refine cskip ?_
   refine nblock ?_
   refine nthen ?_
   refine cs ?_
   refine cd [6, 7] [(3, p, 0, _)] TryzX.mixed (TOk.t (isBoxS (by repeat' constructor) (k := 1) (by repeat (first | exact Cut.d | apply Cut.t | apply Cut.s))) TOk.d) ?_
   refine tk 0 rfl (by kernel_rfl) (fun _ _ _ h => h) gnone (TTany _) (p_move rfl) rfl ?_
   refine tk 1 rfl (by kernel_rfl) (fun _ _ _ h => h) gnone (TTany _) (p_nilck rfl) rfl ?_
   refine tk 2 rfl (by kernel_rfl) (fun _ _ _ h => h) gnone (TTany _) (p_fa fa120_0 rfl) rfl ?_
   refine tk 3 rfl (by kernel_rfl) (fun _ _ _ h => h) gnone (TTat (List.Mem.head _)) (p_ld Tryz.isAgg118 rfl) rfl ?_
   refine tk 4 rfl (by kernel_rfl) (fun _ _ _ h => h) gnone (TTany _) (p_move rfl) rfl ?_
   refine tk 5 rfl (by kernel_rfl) (fun _ _ _ h => h) gnone (TTany _) (p_move rfl) rfl ?_
   refine df 6 (by kernel_rfl) ?_
   refine doR rfl (o_call (is := []) Tryz.call74 (c_sCloneR l A c hl) rfl rfl (by repeat' (first | constructor | apply Sub.suf)) rfl) (TOk.t (isBoxE fun _ => isBoxS (by repeat' constructor) (k := 1) (by repeat (first | exact Cut.d | apply Cut.t | apply Cut.s))) TOk.d) ?_
   refine ea ?_; rintro ⟨A2, c2⟩
   refine amono (fun a w h => freezeN (i := 0) rfl h) ?_
   refine df 7 (by kernel_rfl) ?_
   refine doR rfl (o_mupd (i := 1) Tryz.underlying118 Tryz.underlying9 rfl rfl rfl rfl (by repeat' (first | constructor | apply Sub.suf))) (TOk.x (by kernel_rfl) TOk.d) ?_
   refine dn (by kernel_rfl) ?_
   refine nthen ?_
   refine cs ?_
   refine cr ?_
   refine ls (op (p_asg rfl) rfl) ?_
   refine ln ?_
   refine nthen ?_
   refine cret ?_
   refine xret (fun _ _ h => h) ?_
   refine rret (is := [1, 0]) ⟨(putT T k l, 0), by simp only [Bool.not_eq_false'] at h7 h12; simp [tPut, h7, h12]⟩ (Or.inl rfl) (Res.t rfl Res.d) (rfl) rfl (by repeat' (first | constructor | apply Sub.suf))

set_option maxRecDepth 100000 in
theorem c_tGet (p b : Nat) (T : List File) (hT : Tfit T) (k : ByteArray) : Con Tryz.prog 28 [.pointer (some ⟨p, 0, none⟩), .string k] [box p 120 [.map (some b)], tr b T] [] (Option Addr × Nat) (fun y => .tuple #[.slice y.1 (getL T k).length y.2, .bool (hasT T k)]) (fun y => [row 9 y.1 y.2 (getL T k), box p 120 [.map (some b)], tr b T]) (fun _ => []) := by
 refine con Tryz.func28 rfl Tryz.ntmps28 rfl ?_
 intro M0 F0 w0
 refine cs ?_
 refine cr ?_
 refine ls (op (p_asg rfl) rfl) ?_
 refine ls (op (p_asg rfl) rfl) ?_
 refine ln ?_
 refine nthen ?_
 refine cs ?_
 refine cr ?_
 refine ls (op (p_move rfl) rfl) ?_
 refine ls (op (p_nilck rfl) rfl) ?_
 refine ls (op (p_fa fa120_0 rfl) rfl) ?_
 refine ls (o_ld Tryz.isAgg118 rfl (by repeat' constructor) (by repeat' constructor) rfl) ?_
 refine ls (op (p_move rfl) rfl) ?_
 refine ls (o_look Tryz.underlying118 Tryz.underlying9 Tryz.zeroValue37 rfl rfl (by repeat' constructor) rfl) ?_
 refine le ?_; rintro y14
 refine ls (op (p_move rfl) rfl) ?_
 refine ls (op (p_ext rfl (by repeat' constructor)) rfl) ?_
 refine ls (op (p_ext rfl (by repeat' constructor)) rfl) ?_
 refine ls (op (p_asg rfl) rfl) ?_
 refine ls (op (p_asg rfl) rfl) ?_
 refine ln ?_
 refine nthen ?_
 refine cs ?_
 refine cr ?_
 refine ls (op (p_move rfl) rfl) ?_
 refine ls (o_call (is := []) Tryz.call74 (c_sCloneR (getL T k) y14.1 y14.2 (hT.get k)) rfl rfl (by repeat' (first | constructor | apply Sub.suf)) rfl) ?_
 refine le ?_; intro y18
 refine ls (op (p_move rfl) rfl) ?_
 refine ls (op (p_asg rfl) rfl) ?_
 refine ls (op (p_asg rfl) rfl) ?_
 refine ln ?_
 refine nthen ?_
 refine cret ?_
 refine xret (fun _ _ h => h) ?_
 refine rret (is := [0, 0, 0]) y18 (Or.inl rfl) (Res.t rfl (Res.t rfl Res.d)) (rfl) rfl (by repeat' (first | constructor | apply Sub.suf))

end Go.Proofs.YtdbiillompeclaaGreatDoor.X

end
section
set_option linter.unusedVariables false
set_option linter.unusedSimpArgs false
namespace Go.Proofs.YtdbiillompeclaaGreatDoor.X
open Go Go.RowKit Go.Proofs Go.Sx
attribute [local irreducible] slA isA box row
theorem mapk (pre : List File) (k : ByteArray) (l : List ByteArray) : (pre ++ [(k, l)]).map (·.1) = pre.map (·.1) ++ [k] := by simp

set_option maxRecDepth 100000 in
theorem c_mKeys (b : Nat) : Con Tryz.prog 136 [.map (some b)] [] [] Nat (fun q => .func (.func 158) #[] #[.pointer (some ⟨q, 0, none⟩)]) (fun q => [box q 118 [.map (some b)]]) (fun _ => []) := by
 refine con Tryz.func136 rfl Tryz.ntmps136 rfl ?_
 intro M0 F0 w0
 refine cs ?_
 refine cr ?_
 refine ls (o_box rfl rfl rfl) ?_
 refine le ?_; intro b1
 refine ls (op (p_asg rfl) rfl) ?_
 refine ln ?_
 refine nthen ?_
 refine cs ?_
 refine cr ?_
 refine ls (op (p_mkf rfl) rfl) ?_
 refine ls (op (p_asg rfl) rfl) ?_
 refine ln ?_
 refine nthen ?_
 refine cret ?_
 refine xret (fun _ _ h => h) ?_
 refine rret (is := [0]) b1 (Or.inl rfl) (Res.t rfl Res.d) (rfl) rfl (by repeat' (first | constructor | apply Sub.suf))

set_option maxRecDepth 100000 in
theorem c_mKeys1 (b : Nat) (T : List File) (q : Nat) : Iter Tryz.prog 158 [.pointer (some ⟨q, 0, none⟩)] (fun x : File => [.string x.1]) (fun _ => []) (fun pre x => x ∈ T ∧ x ∉ pre ∧ pre.length < T.length) (fun xs => xs.Perm T) [box q 118 [.map (some b)], tr b T] [] := by
 intro lp J Jx hY
 refine con Tryz.func158 rfl Tryz.ntmps158 rfl ?_
 intro M0 F0 w0
 refine cs ?_
 refine cr ?_
 refine ls (o_ld Tryz.isAgg118 rfl (by repeat' constructor) (by repeat' constructor) rfl) ?_
 refine ls (o_mrange (i := 2) Tryz.underlying118 rfl rfl rfl) ?_
 refine le ?_; intro r5
 refine ln ?_
 refine nthen ?_
 refine cb ?_
 refine cl (ι := List File) (fun i => St M0 F0 w0 14 [(0, .func (.yield lp) #[] #[]), (1, .pointer (some ⟨q, 0, none⟩)), (5, .pointer (some ⟨r5, 0, none⟩))] [mit b r5 T i, J i, box q 118 [.map (some b)]] []) (fun i => T.length - (i).length) [] (wk (is := [0, 0, 0]) (by repeat (first | exact subσ.nil _ | refine subσ.cons rfl ?_)) rfl (by repeat' (first | constructor | apply Sub.suf))) ?_
 rintro K
 refine cmono (S' := St M0 F0 w0 14 [(0, .func (.yield lp) #[] #[]), (1, .pointer (some ⟨q, 0, none⟩)), (5, .pointer (some ⟨r5, 0, none⟩))] [mit b r5 T K, J K, box q 118 [.map (some b)]] []) (fun _ _ h => h) ?_
 refine cs ?_
 refine cpure (St.mit (by repeat' constructor)) ?_
 rintro ⟨hso, hKn, hKT⟩
 rcases Classical.em (∃ x ∈ T, x ∉ K) with hK | hK
 ·
  have hlt := nodup_lt hKn hKT hK
  refine cr ?_
  refine ls (o_mnextS (i := 0) rfl rfl hK rfl) ?_
  refine le ?_; rintro ⟨⟨⟨k, l⟩, y⟩, hxT, hxK⟩
  refine ls (op (p_ext rfl (by repeat' constructor)) rfl) ?_
  refine ln ?_
  refine nthen ?_
  refine cs ?_
  refine cc rfl (fun h => ?_) (fun h => by cases h)
  refine cskip ?_
  refine nthen ?_
  refine cb ?_
  refine cs ?_
  refine cr ?_
  refine ls (o_mentry rfl (by repeat' constructor) rfl) ?_
  refine le ?_; rintro y8
  refine ls (op (p_ext rfl (by repeat' constructor)) rfl) ?_
  refine ls (op (p_asg rfl) rfl) ?_
  refine ln ?_
  refine nthen ?_
  refine cs ?_
  refine cr ?_
  refine ls (op (p_move rfl) rfl) ?_
  refine ls (op (p_move rfl) rfl) ?_
  refine ls (o_yield (i := 1) rfl (hY K (k, l) ⟨hxT, hxK, hlt⟩) rfl rfl (by repeat' (first | constructor | apply Sub.suf)) rfl) ?_
  refine le ?_; intro bb
  refine ls (op (p_not rfl) rfl) ?_
  refine ln ?_
  refine nthen ?_
  refine cc rfl ?_ ?_
  ·
   intro h13
   obtain rfl : false = bb := by cases bb <;> first | rfl | (simp at h13)
   refine cret ?_
   refine xret (fun _ _ h => h) ?_
   refine nmono (conv (i := 1) rfl mit_tr) ?_
   refine rret (is := [1, 1, 0]) ⟨none, fun _ h => by cases h⟩ (Or.inl rfl) Res.d (rfl) rfl (by repeat' (first | constructor | apply Sub.suf))
  ·
   intro h13
   obtain rfl : true = bb := by cases bb <;> first | rfl | (simp at h13)
   refine cskip ?_
   refine nblock ?_
   refine nnext (K ++ [(k, l)]) (by simp; omega) (wk (is := [1, 0, 0]) (by repeat (first | exact subσ.nil _ | refine subσ.cons rfl ?_)) rfl (by repeat' (first | constructor | apply Sub.suf)))
 ·
  refine cr ?_
  refine ls (o_mnextN rfl (by repeat' constructor) hK rfl) ?_
  refine ls (op (p_ext rfl (by repeat' constructor)) rfl) ?_
  refine ln ?_
  refine nthen ?_
  refine cs ?_
  refine cc rfl (fun h => by cases h) (fun h => ?_)
  refine cexit ?_
  refine xthen ?_
  refine xthen ?_
  refine xblock ?_
  refine nmono (conv (i := 0) rfl mit_tr) ?_
  refine rret (is := [1, 1, 0]) ⟨some K, fun xs h => by cases h; exact perm_of_all hso hKn hKT hK⟩ (Or.inr rfl) Res.d (rfl) rfl (by repeat' (first | constructor | apply Sub.suf))

set_option maxRecDepth 100000 in
theorem c_appSeq (b q : Nat) (T : List File) (hn : T.length ≤ 2000000) : Con Tryz.prog 171 [.slice none 0 0, .func (.func 158) #[] #[.pointer (some ⟨q, 0, none⟩)]] [box q 118 [.map (some b)], tr b T] [] {y : (Option Addr × Nat) × List ByteArray // y.2.Perm (T.map (·.1))} (fun y => .slice y.1.1.1 y.1.2.length y.1.1.2) (fun y => [row 9 y.1.1.1 y.1.1.2 y.1.2, box q 118 [.map (some b)], tr b T]) (fun _ => []) := by
 refine con Tryz.func171 rfl Tryz.ntmps171 rfl ?_
 intro M0 F0 w0
 refine cs ?_
 refine cr ?_
 refine ls (o_box rfl rfl rfl) ?_
 refine le ?_; intro b2
 refine ls (op (p_asg rfl) rfl) ?_
 refine ln ?_
 refine nthen ?_
 refine cs ?_
 refine cs ?_
 refine cmono (fun a w h => nilRow (α := ByteArray) 9 h) ?_
 refine cr ?_
 refine ls (op (p_move rfl) rfl) ?_
 refine ln ?_
 refine nthen ?_
 refine cb ?_
 refine crng (ι := fun _ => Option Addr × Nat) rfl Tryz.call158 (c_mKeys1 b T q) (fun _ => rfl) rfl (fun pre i => [box b2 37 [.slice i.1 (pre.map (·.1)).length i.2], row 9 i.1 i.2 (pre.map (·.1))]) (fun _ _ => []) ((none, 0)) (Y := Empty) (fun _ => []) (fun _ => []) (is := [1, 0, 0, 0]) rfl (by repeat' (first | constructor | apply Sub.suf)) (by repeat' (first | constructor | apply Sub.suf)) ?_ ?_ ?_
 ·
  rintro M0 F0 w0 lp κ pre ⟨k, l⟩ ⟨hxT, hxn, hlt⟩ ⟨A, c⟩
  refine cmono (S' := St M0 F0 w0 ⟨13, []⟩ [(2, .pointer (some ⟨b2, 0, none⟩)), (7, .string k)] [lrec lp κ .ready none, box b2 37 [.slice A (pre.map (·.1)).length c], row 9 A c (pre.map (·.1))] []) (wk0 (by repeat (first | exact subσ.nil _ | refine subσ.cons rfl ?_)) (by repeat' (first | constructor | apply Sub.suf))) ?_
  refine cr ?_
  refine ls (op (p_asg rfl) rfl) ?_
  refine ln ?_
  refine nbegin (i := 0) rfl ?_
  refine cb ?_
  refine cr ?_
  refine ls (o_ld Tryz.isAgg37 rfl (by repeat' constructor) (by repeat' constructor) rfl) ?_
  refine ls (op (p_move rfl) rfl) ?_
  refine ls (o_bsl [k] Tryz.underlying37 Tryz.sizeOf9 Tryz.zeroValue9 rfl (Enum.t Enum.d) (RV.t () rfl Sub.d RV.d) rfl (by decide) (by decide) rfl) ?_
  refine le ?_; intro b10
  refine lmono (fun a w h => Go.Sx.freeze (i := 0) rfl h) ?_
  refine ls (o_app (is := [2]) Tryz.underlying37 inf9 rfl (by decide) (by decide) rfl rfl (by simp only [List.length_map, List.length_cons, List.length_nil]; omega) (fun h => by cases h) rfl (by repeat' (first | constructor | apply Sub.suf)) rfl) ?_
  refine le ?_; rintro ⟨A2, c2⟩
  refine ls (o_st rfl Tryz.sizeOf37 rfl rfl rfl rfl rfl (by repeat' constructor) (by repeat' constructor) (by repeat' constructor)) ?_
  refine ln ?_
  refine nblock ?_
  refine nmono (fun a w h => by rw [← mapk pre k l] at h; exact h) ?_
  exact nround (A2, c2) (is := [1, 1, 0]) rfl (by repeat' (first | constructor | apply Sub.suf))
 ·
  rintro D xs hC ⟨A, c⟩
  refine nblock ?_
  refine nthen ?_
  refine cs ?_
  refine cr ?_
  refine ls (o_ld Tryz.isAgg37 rfl (by repeat' constructor) (by repeat' constructor) rfl) ?_
  refine ls (op (p_asg rfl) rfl) ?_
  refine ln ?_
  refine nthen ?_
  refine cret ?_
  refine xret (fun _ _ h => h) ?_
  refine rretm (Dfr.c (i := 4) rfl Dfr.d) (is := [1, 1, 1]) ⟨((A, c), xs.map (·.1)), hC.map _⟩ (Or.inl rfl) (Res.t rfl Res.d) (rfl) rfl (by repeat' (first | constructor | apply Sub.suf))
 ·
  intro D y
  exact y.elim

set_option maxRecDepth 100000 in
theorem c_tCollect (b q : Nat) (T : List File) (hn : T.length ≤ 2000000) : Con Tryz.prog 157 [.func (.func 158) #[] #[.pointer (some ⟨q, 0, none⟩)]] [box q 118 [.map (some b)], tr b T] [] {y : (Option Addr × Nat) × List ByteArray // y.2.Perm (T.map (·.1))} (fun y => .slice y.1.1.1 y.1.2.length y.1.1.2) (fun y => [row 9 y.1.1.1 y.1.1.2 y.1.2, box q 118 [.map (some b)], tr b T]) (fun _ => []) := by
 refine con Tryz.func157 rfl Tryz.ntmps157 rfl ?_
 intro M0 F0 w0
 refine cs ?_
 refine cr ?_
 refine ls (op (p_asg rfl) rfl) ?_
 refine ln ?_
 refine nthen ?_
 refine cs ?_
 refine cr ?_
 refine ls (op (p_move rfl) rfl) ?_
 refine ls (o_call (is := [0, 0]) Tryz.call171 (c_appSeq b q T hn) rfl rfl (by repeat' (first | constructor | apply Sub.suf)) rfl) ?_
 refine le ?_; intro x4
 refine ls (op (p_asg rfl) rfl) ?_
 refine ln ?_
 refine nthen ?_
 refine cret ?_
 refine xret (fun _ _ h => h) ?_
 refine rret (is := [0, 0, 0]) x4 (Or.inl rfl) (Res.t rfl Res.d) (rfl) rfl (by repeat' (first | constructor | apply Sub.suf))

set_option maxRecDepth 100000 in
theorem c_tSorted (b q : Nat) (T : List File) (hn : T.length ≤ 2000000) : Con Tryz.prog 135 [.func (.func 158) #[] #[.pointer (some ⟨q, 0, none⟩)]] [box q 118 [.map (some b)], tr b T] [] (Option Addr × Nat) (fun y => .slice y.1 T.length y.2) (fun y => [row 9 y.1 y.2 (T.map (·.1)), box q 118 [.map (some b)], tr b T]) (fun _ => []) := by
 refine con Tryz.func135 rfl Tryz.ntmps135 rfl ?_
 intro M0 F0 w0
 refine cs ?_
 refine cr ?_
 refine ls (op (p_asg rfl) rfl) ?_
 refine ln ?_
 refine nthen ?_
 refine cs ?_
 refine cr ?_
 refine ls (op (p_move rfl) rfl) ?_
 refine ls (o_call (is := [0, 0]) Tryz.call157 (c_tCollect b q T hn) rfl rfl (by repeat' (first | constructor | apply Sub.suf)) rfl) ?_
 refine le ?_; rintro ⟨⟨⟨A5, c5⟩, ks⟩, hks⟩
 refine ls (op (p_asg rfl) rfl) ?_
 refine ln ?_
 refine nthen ?_
 refine cs ?_
 dsimp only at hks
 refine cpure (St.tr (b := b) (by repeat' constructor)) ?_
 intro hso
 have hlen : ks.length = T.length := by have := hks.length_eq; simpa using this
 have hsb := sortB_keys hso hks
 refine cr ?_
 refine ls (op (p_move rfl) rfl) ?_
 refine ls (o_call (is := [0]) Tryz.call138 (l_Sort 9 A5 c5 ks (by omega)) rfl rfl (by repeat' (first | constructor | apply Sub.suf)) rfl) ?_
 refine le ?_; intro u7
 refine ln ?_
 refine nthen ?_
 refine cs ?_
 rw [hsb]
 refine cr ?_
 refine ls (op (p_move rfl) rfl) ?_
 refine ls (op (p_asg rfl) rfl) ?_
 refine ln ?_
 refine nthen ?_
 refine cret ?_
 refine xret (fun _ _ h => h) ?_
 refine rret (is := [0, 0, 0]) (A5, c5) (Or.inl rfl) (Res.t rfl Res.d) ?_ rfl (by repeat' (first | constructor | apply Sub.suf))
 simp [packV, hlen]

set_option maxRecDepth 100000 in
theorem c_tNames (p b : Nat) (T : List File) (hn : T.length ≤ 2000000) : Con Tryz.prog 84 [.pointer (some ⟨p, 0, none⟩)] [box p 120 [.map (some b)], tr b T] [] (Option Addr × Nat) (fun y => .slice y.1 T.length y.2) (fun y => [row 9 y.1 y.2 (T.map (·.1)), box p 120 [.map (some b)], tr b T]) (fun _ => []) := by
 refine con Tryz.func84 rfl Tryz.ntmps84 rfl ?_
 intro M0 F0 w0
 refine cs ?_
 refine cr ?_
 refine ls (op (p_asg rfl) rfl) ?_
 refine ln ?_
 refine nthen ?_
 refine cs ?_
 refine cr ?_
 refine ls (op (p_move rfl) rfl) ?_
 refine ls (op (p_nilck rfl) rfl) ?_
 refine ls (op (p_fa fa120_0 rfl) rfl) ?_
 refine ls (o_ld Tryz.isAgg118 rfl (by repeat' constructor) (by repeat' constructor) rfl) ?_
 refine ls (o_call (is := []) Tryz.call136 (c_mKeys b) rfl rfl (by repeat' (first | constructor | apply Sub.suf)) rfl) ?_
 refine le ?_; intro b7
 refine ls (o_call (is := [0, 1]) Tryz.call135 (c_tSorted b b7 T hn) rfl rfl (by repeat' (first | constructor | apply Sub.suf)) rfl) ?_
 refine le ?_; rintro ⟨A8, c8⟩
 refine ls (op (p_asg rfl) rfl) ?_
 refine ln ?_
 refine nthen ?_
 refine cret ?_
 refine xret (fun _ _ h => h) ?_
 refine rret (is := [0, 2, 1]) (A8, c8) (Or.inl rfl) (Res.t rfl Res.d) (rfl) rfl (by repeat' (first | constructor | apply Sub.suf))

end Go.Proofs.YtdbiillompeclaaGreatDoor.X

end
section
set_option linter.unusedVariables false
set_option linter.unusedSimpArgs false
namespace Go.Proofs.YtdbiillompeclaaGreatDoor.X
open Go Go.RowKit Go.Proofs Go.Sx
attribute [local irreducible] slA isA box row
theorem app3 {α : Type} (a : List α) (b : α) (d e : List α) : (a ++ b :: d) ++ e = a ++ b :: (d ++ e) := by simp
theorem app_len3 {a d : List File} {x y : File} {m k : Nat} (h1 : a.length ≤ m) (h2 : d.length ≤ m) (hm : m ≤ 2000000) (hk : k ≤ 100) : ((a ++ x :: d).length + [y].length) * k ≤ 140737488355328 := by
 refine Nat.le_trans (Nat.mul_le_mul (n₂ := 4000002) ?_ hk) (by decide)
 rw [List.length_append, List.length_cons, List.length_singleton]
 omega
theorem fa126_0 : FA Tryz.prog 126 0 0 := fun b o w => by kernel_rfl
theorem fa126_1 : FA Tryz.prog 126 1 1 := fun b o w => by kernel_rfl
theorem fa126_2 : FA Tryz.prog 126 2 2 := fun b o w => by kernel_rfl
theorem fa126_3 : FA Tryz.prog 126 3 3 := fun b o w => by kernel_rfl
theorem fa132_0 : FA Tryz.prog 132 0 0 := fun b o w => by kernel_rfl
theorem fa132_1 : FA Tryz.prog 132 1 1 := fun b o w => by kernel_rfl
theorem inf132 : (Tryz.prog.info? 132).map (fun i => (i.zero, i.size, i.bytes)) = some (some (.agg #[.string ⟨#[]⟩, .slice none 0 0]), 2, 40) := by kernel_rfl
theorem sb132 : SB Tryz.prog 132 [(0, 1), (1, 1)] [.string ⟨#[]⟩, .slice none 0 0] := SB.struct Tryz.zeroValue132 rfl Tryz.underlying132 (fun w => by kernel_rfl)
end Go.Proofs.YtdbiillompeclaaGreatDoor.X

end
section
set_option linter.unusedVariables false
set_option linter.unusedSimpArgs false
namespace Go.Proofs.YtdbiillompeclaaGreatDoor.X
open Go Go.RowKit Go.Proofs Go.Sx
attribute [local irreducible] slA isA box row


end Go.Proofs.YtdbiillompeclaaGreatDoor.X

end
section
set_option linter.unusedVariables false
set_option linter.unusedSimpArgs false
namespace Go.Sx
open Go Go.RowKit

/-! Texts that are built of pieces. -/
instance instRpByte : Rp UInt8 where
  Lay := Unit
  size := 1
  enc x _ := [.int .u8 (x.toNat : Int)]
  len _ _ := rfl
  one _ _ v hv := by
    simp only [List.mem_cons, List.mem_nil_iff, or_false] at hv
    subst hv; rfl
  asn _ _ := []
theorem rowE_bytes {M : Nat → Prop} {w : World} : ∀ {l : List UInt8} {xs : List Value}, RowE M w l xs → xs = Lib.byteCells l
  | _, _, .nil => rfl
  | _, _, .snoc y h _ => by
    rw [rowE_bytes h]; simp [Rp.enc, Lib.byteCells]
theorem bytes_rowE {M : Nat → Prop} {w : World} (l : List UInt8) : RowE M w l (Lib.byteCells l) := by
  have : ∀ (r : List UInt8), RowE M w r.reverse (Lib.byteCells r.reverse) := by
    intro r
    induction r with
    | nil => exact .nil
    | cons x r ih =>
      simp only [List.reverse_cons, Lib.byteCells, List.map_append, List.map_cons, List.map_nil]
      exact .snoc () ih (fun p hp => by cases hp)
  simpa using this l.reverse
theorem strCells_ofB (s : ByteArray) : Lib.strCells s = Lib.byteCells (ofB s) := rfl
theorem ofB_length (s : ByteArray) : (ofB s).length = s.size := Array.length_toList
section
variable {ro : Option Nat} {P : Program} {M0 F0 : Nat → Prop} {w0 : World} {n : Nm} {σ : List (Nat × Value)} {Ξ : List Xsn} {Γ : List Asn} {d : Nat} {ty : TypeId} {pos : String} {af : Array Edge}
variable {ops : Array Oper} {Q : Exit → Act → World → Prop} {S S' : Act → World → Prop}
theorem p_cat {T : World → Prop} {x y : Operand} {t t' : TypeId} {s u : ByteArray} (hx : ev σ x = some (.string s)) (hy : ev σ y = some (.string u)) (hb : s.size + u.size ≤ 9223372036854775807) : Pu P n σ T ⟨some d, .binOp .add t x y t', ty, pos, af, none⟩ (.string (s ++ u)) :=
  fun a hs w _ => by
    have h1 : ¬ ((s.size + u.size : Nat) : Int) > IntKind.i64.max := by
      have : IntKind.i64.max = 9223372036854775807 := rfl
      omega
    simp only [execOp, hs.ev hx, hs.ev hy, eqGuard_add, binOp, Op.stringOp, Sem.run_bind, Sem.run_pure, Result.andThen_ok]
    rw [if_neg h1]
    rfl
theorem loc_appS {t u e ty' : TypeId} (ht : P.underlying t = some (.slice e)) (hu : P.underlying u = some .string) (hinfo : (P.info? e).map (fun i => (i.zero, i.size, i.bytes)) = some (some (.int .u8 0), 1, 1))
    (A : Option Addr) (c : Nat) (l : List UInt8) (s : ByteArray) (hl : l.length + s.size ≤ 140737488355328) :
    Loc P (fun w => (Builtin.append_ #[t, u] ty' #[.slice A l.length c, .string s]).run P w) [row e A c l] [] {y : Option Addr × Nat // (l ++ ofB s = [] → A = none → y.1 = none)} (fun y => .slice y.1.1 (l ++ ofB s).length y.1.2) (fun y => [row e y.1.1 y.1.2 (l ++ ofB s)]) (fun _ => []) := by
  obtain ⟨i0, hi, hz0, hz1, hz2⟩ := info_parts hinfo
  intro M0 Fs w hh
  obtain ⟨F, rfl, xs, ho, hF, hr⟩ := hh.one_of
  have hxs := rowE_bytes hr
  subst hxs
  obtain ⟨v', w', h1, h2, h3, h5⟩ := Lib.run_append_own_string (P := P) w 0 t u ty' e i0 ht hu hi hz0 hz1 hz2 _ l.length _ ho s (by simp only [maxLen]; omega) hl (Nat.zero_le _)
  have hlen : (l ++ ofB s).length = l.length + s.size := by rw [List.length_append, ofB_length]
  obtain ⟨A', c2, rfl⟩ : ∃ A' c2, v' = .slice A' (l.length + s.size) c2 := by
    rcases h2.2 with ⟨rfl, h0⟩ | ⟨g, cap, cur, rfl, _⟩
    · exact ⟨none, 0, by rw [h0]⟩
    · exact ⟨_, cap, rfl⟩
  have h4 : (Value.slice A' (l.length + s.size) c2).ownBlock = (Value.slice A l.length c).ownBlock ∨ (Value.slice A' (l.length + s.size) c2).ownBlock = some w.heap.size := by
    rcases ho.2 with ⟨hv, hl0⟩ | ⟨g, cap, cur, hv, hbg, hg, hnc, hcm, hcs, htake⟩
    · rw [hv] at h1 h5 ⊢
      by_cases hm : s.size = 0
      · have := h5.2 ⟨rfl, hm⟩
        rw [this]; exact .inl rfl
      · have hr' := run_append_nil_string (P := P) w t u ty' e i0 (.int .u8 0) ht hu hi hz0 s (by omega) (by omega) (by rw [hz2]; omega)
        rw [h1] at hr'
        injection hr' with hr' _
        rw [hr']; exact .inr rfl
    · rw [hv] at h1 ⊢
      by_cases hroom : l.length + s.size ≤ cap
      · have hcs' : cur.size = cap := by have h1 : Rp.size UInt8 = 1 := rfl; rw [h1] at hcs; simpa using hcs
        have hr' := Lib.run_append_room_string (P := P) w t u ty' e i0 ht hu hi hz1 g l.length cap cur hg s hroom (by omega)
        rw [h1] at hr'
        injection hr' with hr' _
        rw [hr']; exact .inl rfl
      · have holds : ∀ j u, (Lib.byteCells l)[j]? = some u → w.cell? ((⟨g, 0, none⟩ : Addr).add j) = some u := ho.cells (g := g) (by rw [hv]; rfl)
        have hxl : (Lib.byteCells l).length = l.length := Lib.byteCells_length l
        have hr' := Lib.run_append_grow_string (P := P) w t u ty' e i0 (.int .u8 0) ht hu hi hz0 ⟨g, 0, none⟩ l.length cap (Lib.byteCells l) (by rw [hz1]; simpa using hxl) holds s (by omega) (by omega) (by rw [hz2]; exact growslice_fits (by omega) (by omega))
        rw [h1] at hr'
        injection hr' with hr' _
        rw [hr']; exact .inr rfl
  have hown : ∀ b, own [F] b ↔ F b := fun b => by simp [own]
  have hup : Upd F w w' := ⟨h3.os, h3.tape, h3.output, h3.size, fun b hb hn => h3.block b hb (fun e' => hn ((hF b).2 e'.symm))⟩
  have hF' : ∀ b, (Value.slice A' (l.length + s.size) c2).ownBlock = some b → F b ∨ w.heap.size ≤ b := by
    intro b hb
    rcases h4 with h | h
    · rw [h] at hb; exact .inl ((hF b).2 hb)
    · rw [h] at hb; cases hb; exact .inr (Nat.le_refl _)
  have hlt' : ∀ b, (Value.slice A' (l.length + s.size) c2).ownBlock = some b → b < w'.heap.size := by
    intro b hb
    rcases h2.2 with ⟨h, _⟩ | ⟨g, cap, cur, h, _, hg, _⟩
    · rw [h] at hb; simp [Value.ownBlock] at hb
    · rw [h] at hb; simp [Value.ownBlock] at hb; subst hb; exact (Array.getElem?_eq_some_iff.1 hg).1
  have hnil : l ++ ofB s = [] → A = none → A' = none := by
    intro e1 e2
    have hl1 := congrArg List.length e1
    rw [hlen, List.length_nil] at hl1
    have hl0 : l.length = 0 := by omega
    have hs0 : s.size = 0 := by omega
    have hc0 : c = 0 := by
      rcases ho.2 with ⟨hv, _⟩ | ⟨g, cap, cur, hv, _⟩
      · injection hv
      · rw [e2] at hv; injection hv with hv; cases hv
    have := h5.2 ⟨by rw [e2, hl0, hc0], hs0⟩
    injection this
  refine ⟨⟨(A', c2), hnil⟩, [fun b => (Value.slice A' (l.length + s.size) c2).ownBlock = some b], w', ?_, hh.one hup hF' hlt' ⟨Lib.byteCells l ++ Lib.strCells s, ?_, ?_, ?_⟩⟩
  · show (Builtin.append_ #[t, u] ty' #[.slice A l.length c, .string s]).run P w = _
    rw [h1, hlen]
  · rw [hlen]; exact h2
  · intro x; rw [hlen]
  · rw [strCells_ofB, show Lib.byteCells l ++ Lib.byteCells (ofB s) = Lib.byteCells (l ++ ofB s) by simp [Lib.byteCells]]
    exact bytes_rowE _
theorem o_appS {x y : Operand} {t u e : TypeId} {A : Option Addr} {c : Nat} {l : List UInt8} {s : ByteArray} {i : Nat} {Ξ' : List Xsn} (ht : P.underlying t = some (.slice e)) (hu : P.underlying u = some .string) (hinfo : (P.info? e).map (fun i => (i.zero, i.size, i.bytes)) = some (some (.int .u8 0), 1, 1))
    (hx : ev σ x = some (.slice A l.length c)) (hy : ev σ y = some (.string s)) (hl : l.length + s.size ≤ 140737488355328) (hs : takeAll [i] Ξ = some ([row e A c l], Ξ')) (hd : Nat.blt d n.n = true) :
    OpR P ⟨some d, .call ⟨.builtin .append, #[x, y], #[t, u]⟩, ty, pos, af, none⟩ (St M0 F0 w0 n σ Ξ Γ) (fun a w => ∃ q : {y : Option Addr × Nat // (l ++ ofB s = [] → A = none → y.1 = none)}, St M0 F0 w0 n ((d, .slice q.1.1 (l ++ ofB s).length q.1.2) :: σ) (row e q.1.1 q.1.2 (l ++ ofB s) :: Ξ') Γ a w) := by
  refine (o_loc (Γi := []) (loc_appS (P := P) (ty' := ty) ht hu hinfo A c l s hl) ?_ hs .d hd).mono fun a w h => h
  intro a hsl w v w' hr
  have h1 := hsl.ev hx
  have h2 := hsl.ev hy
  have hm : (#[x, y] : Array Operand).map a.eval = #[.slice A l.length c, .string s] := by simp [h1, h2]
  simp only [execOp, resolve, invoke, builtin, hm]
  simp [hr]
theorem loc_ustr {pt it ty' e : TypeId} (hp : P.underlying pt = some (.pointer e)) (hc : P.cellsOf e = 1) (g c : Nat) (l : List UInt8) (h0 : l ≠ []) (hl : l.length ≤ 140737488355328) :
    Loc P (fun w => (Builtin.unsafeString_ #[pt, it] ty' #[.pointer (some ⟨g, 0, none⟩), .int .i64 l.length]).run P w) [row e (some ⟨g, 0, none⟩) c l] [] Unit (fun _ => .string (toB l)) (fun _ => []) (fun _ => []) := by
  intro M0 Fs w hh
  obtain ⟨F, rfl, xs, ho, hF, hr⟩ := hh.one_of
  have hxs := rowE_bytes hr
  subst hxs
  rcases ho.2 with ⟨hv, _⟩ | ⟨g', cap, cur, hv, hbg, hg, hnc, hcm, hcs, htake⟩
  · injection hv with hv; cases hv
  · injection hv with hv _ _
    injection hv with hv
    injection hv with hv _ _
    subst hv
    have hcs' : cur.size = cap := by
      have h1 : Rp.size UInt8 = 1 := rfl
      rw [h1] at hcs; simpa using hcs
    have hrun := Lib.run_unsafeString_row w pt it ty' e hp hc g cur.size (by simp [World.shape?, hg]) l h0 (by omega) (by omega) (fun j x hx => ho.cells (g := g) rfl j (.int .u8 x.toNat) (by simp [Lib.byteCells, hx]))
    have hl0 : l.length ≠ 0 := by simpa using h0
    have hfr : ∀ k, k ≠ g → (w.freeze ⟨g, 0, none⟩ l.length).heap[k]? = w.heap[k]? := fun k hk => by
      unfold World.freeze
      rw [if_neg hl0]
      simp only [Array.getElem?_modify]
      rw [if_neg (fun e => hk e.symm)]
    have hsz : (w.freeze ⟨g, 0, none⟩ l.length).heap.size = w.heap.size := by
      unfold World.freeze
      rw [if_neg hl0]; simp
    have hos : (w.freeze ⟨g, 0, none⟩ l.length).os = w.os ∧ (w.freeze ⟨g, 0, none⟩ l.length).tape = w.tape ∧ (w.freeze ⟨g, 0, none⟩ l.length).output = w.output := by
      unfold World.freeze
      rw [if_neg hl0]; exact ⟨rfl, rfl, rfl⟩
    refine ⟨(), [], w.freeze ⟨g, 0, none⟩ l.length, hrun, trivial, .nil, fun b hb => absurd hb (own_nil b), fun b hb => absurd hb (own_nil b), fun b hb => absurd hb (own_nil b), (fun p hp => by cases hp), ⟨hos.1, hos.2.1, hos.2.2, Nat.le_of_eq hsz.symm, fun k _ hk => hfr k fun e => hk ?_⟩, hh.m0, hh.f0⟩
    subst e
    exact ⟨F, by simp, (hF k).2 rfl⟩
end
end Go.Sx

end
section
set_option linter.unusedVariables false
set_option linter.unusedSimpArgs false
namespace Go.Sx
open Go Go.RowKit
section
variable {ro : Option Nat} {P : Program} {M0 F0 : Nat → Prop} {w0 : World} {n : Nm} {σ : List (Nat × Value)} {Ξ : List Xsn} {Γ : List Asn} {d : Nat} {ty : TypeId} {pos : String} {af : Array Edge}
variable {ops : Array Oper} {Q : Exit → Act → World → Prop} {S S' : Act → World → Prop}
theorem p_ptrnil0 {T : World → Prop} {x y : Operand} {t e t' : TypeId} (ht : P.underlying t = some (.pointer e)) (hx : ev σ x = some (.pointer none)) (hy : ev σ y = some (.pointer none)) :
    Pu P n σ T ⟨some d, .binOp .eql t x y t', ty, pos, af, none⟩ (.bool true) := fun b hs w _ => by
  have h1 : ∀ k : Nat, (Op.equalIn (k + 1) t (.pointer none) (.pointer none)).run P w = .ok true w := fun k => by
    simp [Op.equalIn, run_underlying ht]
  have h2 : (Op.equal t (.pointer none) (.pointer none)).run P w = .ok true w := h1 9999
  simp [execOp, hs.ev hx, hs.ev hy, eqGuard_at_pointer, binOp, h2]
theorem p_ptrneS {T : World → Prop} {x y : Operand} {t e t' : TypeId} {j : TypeInfo} {a : Addr} (ht : P.underlying t = some (.pointer e)) (he : P.info? e = some j) (hx : ev σ x = some (.pointer (some a))) (hy : ev σ y = some (.pointer (some a))) :
    Pu P n σ T ⟨some d, .binOp .neq t x y t', ty, pos, af, none⟩ (.bool false) := fun b hs w _ => by
  simp [execOp, hs.ev hx, hs.ev hy, eqGuard_at_pointer, Lib.run_neq_ptr_same w a ht he]
theorem o_tou {x : Operand} {src dst t bt : TypeId} {j : TypeInfo} {i b : Nat} {cs : List Value} (hs : P.underlying src = some (.pointer t)) (hdt : P.underlying dst = some .unsafePointer) (ht : P.info? t = some j) (hj : j.size ≠ 0)
    (hx : ev σ x = some (.pointer (some ⟨b, 0, none⟩))) (hi : At (box b bt cs) i Ξ) (hl : 0 < cs.length) (hd : Nat.blt d n.n = true) :
    OpR P ⟨some d, .convert src dst x, ty, pos, af, none⟩ (St M0 F0 w0 n σ Ξ Γ) (St M0 F0 w0 n ((d, .pointer (some ⟨b, 0, none⟩)) :: σ) Ξ Γ) :=
  OpR.of_run rfl fun a w ⟨hsl, Fs, hh⟩ => by
    have hb := hh.cell hi.get
    have := Lib.run_to_unsafe (P := P) w (src := src) (dst := dst) (e := bt) (cells := cs.length) ⟨b, 0, none⟩ hs hdt ht hj (by simp [World.shape?, hb]) hl
    exact ⟨_, w, by simp [execOp, hsl.ev hx, this], hsl.put hd, Fs, hh⟩
theorem o_fromu {x : Operand} {src dst u bt : TypeId} {j : TypeInfo} {i b : Nat} {cs : List Value} (hs : P.underlying src = some .unsafePointer) (hdt : P.underlying dst = some (.pointer u)) (hu : P.info? u = some j)
    (hx : ev σ x = some (.pointer (some ⟨b, 0, none⟩))) (hi : At (box b bt cs) i Ξ) (hl : liesAt P P.depth bt (cs.length / P.cellsOf bt) 0 u 1 = true) (hd : Nat.blt d n.n = true) :
    OpR P ⟨some d, .convert src dst x, ty, pos, af, none⟩ (St M0 F0 w0 n σ Ξ Γ) (St M0 F0 w0 n ((d, .pointer (some ⟨b, 0, none⟩)) :: σ) Ξ Γ) :=
  OpR.of_run rfl fun a w ⟨hsl, Fs, hh⟩ => by
    have hb := hh.cell hi.get
    have := Lib.run_from_unsafe (P := P) w (src := src) (dst := dst) (e := bt) (cells := cs.length) ⟨b, 0, none⟩ hs hdt hu (by simp [World.shape?, hb]) hl
    exact ⟨_, w, by simp [execOp, hsl.ev hx, this], hsl.put hd, Fs, hh⟩
theorem p_noesc {T : World → Prop} {x : Operand} {f : FuncId} {fn : Func} {tys : Array TypeId} {v : Value} (hf : P.funcs[f]? = some fn) (hname : (fn.name == "runtime.NumGoroutine") = false)
    (hbd : fn.body.isNone = true) (hn : Extern.findNext fn = none) (he : Extern.find fn = some Extern.AbiNoEscape.same) (hx : ev σ x = some v) : Pu P n σ T ⟨some d, .call ⟨.value (.func f), #[x], tys⟩, ty, pos, af, none⟩ v :=
  fun a hs w _ => by
    have e2 := run_callFunc_extern hf hname hbd hn he #[v] w
    rw [Lib.run_noEscape] at e2
    simp only [Result.andThen] at e2
    simp only [execOp, resolve, Deferred.ofValue, Act.eval, invoke]
    simp [hs.ev hx, e2]
theorem p_usd {T : World → Prop} {x : Operand} {t : TypeId} {A : Addr} {l c : Nat} (hc : c ≠ 0) (hx : ev σ x = some (.slice (some A) l c)) : Pu P n σ T ⟨some d, .call ⟨.builtin .unsafeSliceData, #[x], #[t]⟩, ty, pos, af, none⟩ (.pointer (some A)) :=
  fun a hs w _ => by simp [execOp, resolve, invoke, builtin, hs.ev hx, Lib.run_unsafeSliceData_row w #[t] ty A l c hc]
theorem p_usdn {T : World → Prop} {x : Operand} {t : TypeId} {l c : Nat} (hx : ev σ x = some (.slice none l c)) : Pu P n σ T ⟨some d, .call ⟨.builtin .unsafeSliceData, #[x], #[t]⟩, ty, pos, af, none⟩ (.pointer none) :=
  fun a hs w _ => by simp [execOp, resolve, invoke, builtin, hs.ev hx, Lib.run_unsafeSliceData_nil w #[t] ty l c]
theorem p_usn {T : World → Prop} {x y : Operand} {t u : TypeId} {p : Option Addr} (hx : ev σ x = some (.pointer p)) (hy : ev σ y = some (.int .i64 0)) : Pu P n σ T ⟨some d, .call ⟨.builtin .unsafeString, #[x, y], #[t, u]⟩, ty, pos, af, none⟩ (.string .empty) :=
  fun a hs w _ => by simp [execOp, resolve, invoke, builtin, hs.ev hx, hs.ev hy, Lib.run_unsafeString_none w t u ty p]
theorem o_ustr {x y : Operand} {pt it e : TypeId} {g c i : Nat} {l : List UInt8} {Ξ' : List Xsn} (hp : P.underlying pt = some (.pointer e)) (hc : P.cellsOf e = 1) (h0 : l ≠ []) (hl : l.length ≤ 140737488355328)
    (hx : ev σ x = some (.pointer (some ⟨g, 0, none⟩))) (hy : ev σ y = some (.int .i64 (l.length : Int))) (hs : takeAll [i] Ξ = some ([row e (some ⟨g, 0, none⟩) c l], Ξ')) (hd : Nat.blt d n.n = true) :
    OpR P ⟨some d, .call ⟨.builtin .unsafeString, #[x, y], #[pt, it]⟩, ty, pos, af, none⟩ (St M0 F0 w0 n σ Ξ Γ) (St M0 F0 w0 n ((d, .string (toB l)) :: σ) Ξ' Γ) :=
  (o_loc (Γi := []) (loc_ustr (P := P) (ty' := ty) (it := it) hp hc g c l h0 hl) (fun a hsl w v w' hr => by
    have h1 := hsl.ev hx
    have h2 := hsl.ev hy
    have hm : (#[x, y] : Array Operand).map a.eval = #[.pointer (some ⟨g, 0, none⟩), .int .i64 l.length] := by simp [h1, h2]
    simp only [execOp, resolve, invoke, builtin, hm]
    simp [hr]) hs .d hd).mono fun a w ⟨_, h⟩ => h
theorem St.rowcap {α : Type} [Rp α] {e : TypeId} {A : Option Addr} {c : Nat} {l : List α} {i : Nat} (hi : At (row e A c l) i Ξ) : ∀ a w, St M0 F0 w0 n σ Ξ Γ a w → l.length ≤ c := by
  rintro a w ⟨hs, Fs, hh⟩
  obtain ⟨F, hF, xs, ho, _, _⟩ := hh.ex.at hi.get
  rcases ho.2 with ⟨hv, h0⟩ | ⟨g, cap, cur, hv, _, _, h2, _⟩
  · omega
  · injection hv with _ _ h; omega
end
/-! what a tree's text is -/
def lineT (l : List ByteArray) : List UInt8 := l.flatMap fun s => ofB s ++ [10]
def fileT (x : File) : List UInt8 := ofB x.1 ++ [32] ++ Lib.decDigits x.2.length ++ [10] ++ lineT x.2
def textT (T : List File) : List UInt8 := T.flatMap fileT
theorem ofB_append (a b : ByteArray) : ofB (a ++ b) = ofB a ++ ofB b := by
  unfold ofB
  rw [ByteArray.data_append, Array.toList_append]
theorem ofB_toB (l : List UInt8) : ofB (toB l) = l := rfl
theorem flat_succ {α : Type} (f : α → List UInt8) {l : List α} {k : Nat} (h : k < l.length) : (l.take (k + 1)).flatMap f = (l.take k).flatMap f ++ f l[k] := by
  rw [List.take_succ_eq_append_getElem h, List.flatMap_append]; simp
theorem flat_le {α : Type} (f : α → List UInt8) (l : List α) (k : Nat) : ((l.take k).flatMap f).length ≤ (l.flatMap f).length := by
  have e : l.flatMap f = (l.take k).flatMap f ++ (l.drop k).flatMap f := by rw [← List.flatMap_append, List.take_append_drop]
  rw [e, List.length_append]; omega
end Go.Sx

end
section
set_option linter.unusedVariables false
set_option linter.unusedSimpArgs false
namespace Go.Proofs.YtdbiillompeclaaGreatDoor.X
open Go Go.RowKit Go.Proofs Go.Sx
attribute [local irreducible] slA isA box row
theorem bldI : ∃ j, Tryz.prog.info? 162 = some j ∧ j.size ≠ 0 := by
 obtain ⟨j, h1, h2⟩ := Option.map_eq_some_iff.1 (show (Tryz.prog.info? 162).map (fun i => i.size) = some 2 by kernel_rfl)
 exact ⟨j, h1, by omega⟩
theorem bldH : Tryz.prog.info? 162 = some (Classical.choose bldI) ∧ (Classical.choose bldI).size ≠ 0 := Classical.choose_spec bldI
theorem bldL : liesAt Tryz.prog Tryz.prog.depth 162 (2 / Tryz.prog.cellsOf 162) 0 162 1 = true := by kernel_rfl
theorem toB_size (l : List UInt8) : (toB l).size = l.length := by simp [toB, ByteArray.size]
theorem l_Itoa (i : Nat) (hi : i < 100) : Con Tryz.prog 107 [.int .i64 (i : Int)] [] [] Unit (fun _ => .string (toB (Lib.decDigits i))) (fun _ => []) (fun _ => []) := con_same (fun w => Tryz.strconv_Itoa_small i hi w)

theorem fa162_0 : FA Tryz.prog 162 0 0 := fun b o w => by kernel_rfl
theorem fa162_1 : FA Tryz.prog 162 1 1 := fun b o w => by kernel_rfl
theorem inf5 : (Tryz.prog.info? 5).map (fun i => (i.zero, i.size, i.bytes)) = some (some (.int .u8 0), 1, 1) := by kernel_rfl
set_option maxRecDepth 100000 in
theorem c_bCheck0 (b : Nat) (v : Value) : Con Tryz.prog 140 [.pointer (some ⟨b, 0, none⟩)] [box b 162 [.pointer none, v]] [] Unit (fun _ => .tuple #[]) (fun _ => [box b 162 [.pointer (some ⟨b, 0, none⟩), v]]) (fun _ => []) := by
 refine con Tryz.func140 rfl Tryz.ntmps140 rfl ?_
 intro M0 F0 w0
 refine cs ?_
 refine cr ?_
 refine ls (op (p_move rfl) rfl) ?_
 refine ls (op (p_nilck rfl) rfl) ?_
 refine ls (op (p_fa fa162_0 rfl) rfl) ?_
 refine ls (o_ld Tryz.isAgg159 rfl (by repeat' constructor) (by repeat' constructor) rfl) ?_
 refine ls (op (p_ptrnil0 Tryz.underlying159 rfl rfl) rfl) ?_
 refine ln ?_
 refine nthen ?_
 refine cc rfl (fun h => ?_) (fun h => by cases h)
 refine cr ?_
 refine ls (op (p_move rfl) rfl) ?_
 refine ls (op (p_move rfl) rfl) ?_
 refine ls (o_tou Tryz.underlying159 Tryz.underlying218 bldH.1 bldH.2 rfl (by repeat' constructor) (by simp) rfl) ?_
 refine ls (op (p_noesc Tryz.func162 (by kernel_rfl) (by kernel_rfl) (by kernel_rfl) (by kernel_rfl) rfl) rfl) ?_
 refine ls (o_fromu Tryz.underlying218 Tryz.underlying159 bldH.1 rfl (by repeat' constructor) bldL rfl) ?_
 refine ls (op (p_nilck rfl) rfl) ?_
 refine ls (op (p_fa fa162_0 rfl) rfl) ?_
 refine ls (o_st rfl Tryz.sizeOf159 rfl rfl rfl rfl rfl (by repeat' constructor) (by repeat' constructor) (by repeat' constructor)) ?_
 refine ln ?_
 refine rret (is := [0]) () (Or.inr rfl) Res.d (rfl) rfl (by repeat' (first | constructor | apply Sub.suf))

set_option maxRecDepth 100000 in
theorem c_bCheck1 (b : Nat) (v : Value) : Con Tryz.prog 140 [.pointer (some ⟨b, 0, none⟩)] [box b 162 [.pointer (some ⟨b, 0, none⟩), v]] [] Unit (fun _ => .tuple #[]) (fun _ => [box b 162 [.pointer (some ⟨b, 0, none⟩), v]]) (fun _ => []) := by
 refine con Tryz.func140 rfl Tryz.ntmps140 rfl ?_
 intro M0 F0 w0
 refine cs ?_
 refine cr ?_
 refine ls (op (p_move rfl) rfl) ?_
 refine ls (op (p_nilck rfl) rfl) ?_
 refine ls (op (p_fa fa162_0 rfl) rfl) ?_
 refine ls (o_ld Tryz.isAgg159 rfl (by repeat' constructor) (by repeat' constructor) rfl) ?_
 refine ls (op (p_ptrnil Tryz.underlying159 rfl rfl) rfl) ?_
 refine ln ?_
 refine nthen ?_
 refine cc rfl (fun h => by cases h) (fun h => ?_)
 refine cs ?_
 refine cr ?_
 refine ls (op (p_move rfl) rfl) ?_
 refine ls (op (p_nilck rfl) rfl) ?_
 refine ls (op (p_fa fa162_0 rfl) rfl) ?_
 refine ls (o_ld Tryz.isAgg159 rfl (by repeat' constructor) (by repeat' constructor) rfl) ?_
 refine ls (op (p_move rfl) rfl) ?_
 refine ls (op (p_ptrneS Tryz.underlying159 bldH.1 rfl rfl) rfl) ?_
 refine ln ?_
 refine nthen ?_
 refine cc rfl (fun h => by cases h) (fun h => ?_)
 refine cskip ?_
 refine rret (is := [0]) () (Or.inr rfl) Res.d (rfl) rfl (by repeat' (first | constructor | apply Sub.suf))

theorem c_bCheck (u : Bool) (b : Nat) (v : Value) : Con Tryz.prog 140 [.pointer (some ⟨b, 0, none⟩)] [box b 162 [(.pointer (if u then some ⟨b, 0, none⟩ else none)), v]] [] Unit (fun _ => .tuple #[]) (fun _ => [box b 162 [.pointer (some ⟨b, 0, none⟩), v]]) (fun _ => []) := by
 cases u
 ·
  exact c_bCheck0 b v
 ·
  exact c_bCheck1 b v

set_option maxRecDepth 100000 in
theorem c_bWrite (u : Bool) (b : Nat) (A : Option Addr) (c : Nat) (l : List UInt8) (s : ByteArray) (l' : List UInt8) (hl' : l ++ ofB s = l') (hl : l.length + s.size ≤ 140737488355328) : Con Tryz.prog 106 [.pointer (some ⟨b, 0, none⟩), .string s] [box b 162 [(.pointer (if u then some ⟨b, 0, none⟩ else none)), .slice A l.length c], row 5 A c l] [] {q : Option Addr × Nat // l' = [] → A = none → q.1 = none} (fun _ => .tuple #[.int .i64 (s.size : Int), .nilIface]) (fun q => [box b 162 [.pointer (some ⟨b, 0, none⟩), .slice q.1.1 l'.length q.1.2], row 5 q.1.1 q.1.2 l']) (fun _ => []) := by
 subst hl'
 refine con Tryz.func106 rfl Tryz.ntmps106 rfl ?_
 intro M0 F0 w0
 refine cs ?_
 refine cr ?_
 refine ls (op (p_asg rfl) rfl) ?_
 refine ls (op (p_asg rfl) rfl) ?_
 refine ln ?_
 refine nthen ?_
 refine cs ?_
 refine cr ?_
 refine ls (op (p_move rfl) rfl) ?_
 refine ls (o_call (is := [0]) Tryz.call140 (c_bCheck u b (.slice A l.length c)) rfl rfl (by repeat' (first | constructor | apply Sub.suf)) rfl) ?_
 refine le ?_; intro x7
 refine ln ?_
 refine nthen ?_
 refine cs ?_
 refine cr ?_
 refine ls (op (p_move rfl) rfl) ?_
 refine ls (op (p_move rfl) rfl) ?_
 refine ls (op (p_nilck rfl) rfl) ?_
 refine ls (op (p_fa fa162_1 rfl) rfl) ?_
 refine ls (o_ld Tryz.isAgg160 rfl (by repeat' constructor) (by repeat' constructor) rfl) ?_
 refine ls (op (p_move rfl) rfl) ?_
 refine ls (o_appS (i := 1) Tryz.underlying160 Tryz.underlying9 inf5 rfl rfl hl rfl rfl) ?_
 refine le ?_; rintro ⟨⟨A2, c2⟩, hA2⟩
 refine ls (op (p_nilck rfl) rfl) ?_
 refine ls (op (p_fa fa162_1 rfl) rfl) ?_
 refine ls (o_st rfl Tryz.sizeOf160 rfl rfl rfl rfl rfl (by repeat' constructor) (by repeat' constructor) (by repeat' constructor)) ?_
 refine ln ?_
 refine nthen ?_
 refine cs ?_
 refine cr ?_
 refine ls (op (p_move rfl) rfl) ?_
 refine ls (op (p_lens rfl Tryz.underlying9) rfl) ?_
 refine ls (op (p_asg rfl) rfl) ?_
 refine ls (op (p_asg rfl) rfl) ?_
 refine ln ?_
 refine nthen ?_
 refine cret ?_
 refine xret (fun _ _ h => h) ?_
 refine rret (is := [1, 0]) ⟨(A2, c2), hA2⟩ (Or.inl rfl) (Res.t rfl (Res.t rfl Res.d)) (rfl) rfl (by repeat' (first | constructor | apply Sub.suf))

set_option maxRecDepth 100000 in
theorem c_bString (v : Value) (b : Nat) (A : Option Addr) (c : Nat) (l : List UInt8) (hA : l = [] → A = none) (hl : l.length ≤ 140737488355328) : Con Tryz.prog 109 [.pointer (some ⟨b, 0, none⟩)] [box b 162 [v, .slice A l.length c], row 5 A c l] [] Unit (fun _ => .string (toB l)) (fun _ => []) (fun _ => []) := by
 refine con Tryz.func109 rfl Tryz.ntmps109 rfl ?_
 intro M0 F0 w0
 refine cs ?_
 refine cr ?_
 refine ls (op (p_asg rfl) rfl) ?_
 refine ln ?_
 refine nthen ?_
 refine cs ?_
 rcases Classical.em (l = []) with he | he
 ·
  obtain rfl := hA he
  subst he
  refine cd [10] [(3, b, 1, _), (8, b, 1, _)] TryzX.mixed (TOk.t (isBoxS (by repeat' constructor) (k := 1) (by repeat (first | exact Cut.d | apply Cut.t | apply Cut.s))) (TOk.t (isBoxS (by repeat' constructor) (k := 1) (by repeat (first | exact Cut.d | apply Cut.t | apply Cut.s))) TOk.d)) ?_
  refine tk 0 rfl (by kernel_rfl) (fun _ _ _ h => h) gnone (TTany _) (p_move rfl) rfl ?_
  refine tk 1 rfl (by kernel_rfl) (fun _ _ _ h => h) gnone (TTany _) (p_nilck rfl) rfl ?_
  refine tk 2 rfl (by kernel_rfl) (fun _ _ _ h => h) gnone (TTany _) (p_fa fa162_1 rfl) rfl ?_
  refine tk 3 rfl (by kernel_rfl) (fun _ _ _ h => h) gnone (TTat (List.Mem.head _)) (p_ld Tryz.isAgg160 rfl) rfl ?_
  refine tk 4 rfl (by kernel_rfl) (fun _ _ _ h => h) gnone (TTany _) (p_usdn rfl) rfl ?_
  refine tk 5 rfl (by kernel_rfl) (fun _ _ _ h => h) gnone (TTany _) (p_move rfl) rfl ?_
  refine tk 6 rfl (by kernel_rfl) (fun _ _ _ h => h) gnone (TTany _) (p_nilck rfl) rfl ?_
  refine tk 7 rfl (by kernel_rfl) (fun _ _ _ h => h) gnone (TTany _) (p_fa fa162_1 rfl) rfl ?_
  refine tk 8 rfl (by kernel_rfl) (fun _ _ _ h => h) gnone (TTat (List.Mem.tail _ (List.Mem.head _))) (p_ld Tryz.isAgg160 rfl) rfl ?_
  refine tk 9 rfl (by kernel_rfl) (fun _ _ _ h => h) gnone (TTany _) (p_lenl rfl Tryz.underlying160) rfl ?_
  refine df 10 (by kernel_rfl) ?_
  refine doR rfl (op (p_usn rfl rfl) rfl) (TOk.x (by kernel_rfl) (TOk.x (by kernel_rfl) TOk.d)) ?_
  refine tk 11 rfl (by kernel_rfl) (fun _ _ _ h => h) gnone (TTany _) (p_asg rfl) rfl ?_
  refine dn (by kernel_rfl) ?_
  refine nthen ?_
  refine cret ?_
  refine xret (fun _ _ h => h) ?_
  refine rret (is := []) () (Or.inl rfl) (Res.t rfl Res.d) (rfl) rfl (by repeat' (first | constructor | apply Sub.suf))
 ·
  refine cpure (St.rowcap (α := UInt8) (e := 5) (by repeat' constructor)) ?_
  intro hcap
  have hc0 : c ≠ 0 := by have := List.length_pos_iff.2 he; omega
  refine rowC (α := UInt8) (e := 5) (by repeat' constructor) he fun g hg => ?_
  subst hg
  refine cd [10] [(3, b, 1, _), (8, b, 1, _)] TryzX.mixed (TOk.t (isBoxS (by repeat' constructor) (k := 1) (by repeat (first | exact Cut.d | apply Cut.t | apply Cut.s))) (TOk.t (isBoxS (by repeat' constructor) (k := 1) (by repeat (first | exact Cut.d | apply Cut.t | apply Cut.s))) TOk.d)) ?_
  refine tk 0 rfl (by kernel_rfl) (fun _ _ _ h => h) gnone (TTany _) (p_move rfl) rfl ?_
  refine tk 1 rfl (by kernel_rfl) (fun _ _ _ h => h) gnone (TTany _) (p_nilck rfl) rfl ?_
  refine tk 2 rfl (by kernel_rfl) (fun _ _ _ h => h) gnone (TTany _) (p_fa fa162_1 rfl) rfl ?_
  refine tk 3 rfl (by kernel_rfl) (fun _ _ _ h => h) gnone (TTat (List.Mem.head _)) (p_ld Tryz.isAgg160 rfl) rfl ?_
  refine tk 4 rfl (by kernel_rfl) (fun _ _ _ h => h) gnone (TTany _) (p_usd hc0 rfl) rfl ?_
  refine tk 5 rfl (by kernel_rfl) (fun _ _ _ h => h) gnone (TTany _) (p_move rfl) rfl ?_
  refine tk 6 rfl (by kernel_rfl) (fun _ _ _ h => h) gnone (TTany _) (p_nilck rfl) rfl ?_
  refine tk 7 rfl (by kernel_rfl) (fun _ _ _ h => h) gnone (TTany _) (p_fa fa162_1 rfl) rfl ?_
  refine tk 8 rfl (by kernel_rfl) (fun _ _ _ h => h) gnone (TTat (List.Mem.tail _ (List.Mem.head _))) (p_ld Tryz.isAgg160 rfl) rfl ?_
  refine tk 9 rfl (by kernel_rfl) (fun _ _ _ h => h) gnone (TTany _) (p_lenl rfl Tryz.underlying160) rfl ?_
  refine df 10 (by kernel_rfl) ?_
  refine doR rfl (o_ustr (i := 1) Tryz.underlying198 (by kernel_rfl) he hl rfl rfl rfl rfl) (TOk.x (by kernel_rfl) (TOk.x (by kernel_rfl) TOk.d)) ?_
  refine tk 11 rfl (by kernel_rfl) (fun _ _ _ h => h) gnone (TTany _) (p_asg rfl) rfl ?_
  refine dn (by kernel_rfl) ?_
  refine nthen ?_
  refine cret ?_
  refine xret (fun _ _ h => h) ?_
  refine rret (is := []) () (Or.inl rfl) (Res.t rfl Res.d) (rfl) rfl (by repeat' (first | constructor | apply Sub.suf))

set_option maxRecDepth 100000 in
theorem c_lineText (l : List ByteArray) (A : Option Addr) (c : Nat) (hl : l.length ≤ 2000000) (hB : (lineT l).length ≤ 100000000) : Con Tryz.prog 108 [.slice A l.length c] [] [slA A l] Unit (fun _ => .string (toB (lineT l))) (fun _ => []) (fun _ => []) := by
 refine con Tryz.func108 rfl Tryz.ntmps108 rfl ?_
 intro M0 F0 w0
 refine cs ?_
 refine cr ?_
 refine ls (op (p_asg rfl) rfl) ?_
 refine ln ?_
 refine nthen ?_
 refine cs ?_
 refine cr ?_
 refine ls (o_alloc Tryz.zeroValue162 rfl rfl) ?_
 refine le ?_; intro b3
 refine ln ?_
 refine nthen ?_
 refine cs ?_
 refine cs ?_
 refine cmono (fun a w h => nilRow (α := UInt8) 5 h) ?_
 refine cr ?_
 refine ls (op (p_move rfl) rfl) ?_
 refine ls (op (p_lenl rfl Tryz.underlying37) rfl) ?_
 refine ls (op (p_move rfl) rfl) ?_
 refine ln ?_
 refine nthen ?_
 refine cb ?_
 refine cl (ι := {q : Nat × Bool × (Option Addr × Nat) // q.1 ≤ l.length ∧ (lineT (l.take q.1) = [] → q.2.2.1 = none)}) (fun i => St M0 F0 w0 17 [(3, .pointer (some ⟨b3, 0, none⟩)), (6, .slice A l.length c), (7, .int .i64 (l.length : Int)), (8, .int .i64 (i.1.1 : Int))] [box b3 162 [(.pointer (if i.1.2.1 then some ⟨b3, 0, none⟩ else none)), .slice i.1.2.2.1 (lineT (l.take i.1.1)).length i.1.2.2.2], row 5 i.1.2.2.1 i.1.2.2.2 (lineT (l.take i.1.1))] [slA A l]) (fun i => l.length - i.1.1) ⟨(0, false, (none, 0)), Nat.zero_le _, fun _ => rfl⟩ (wk (is := [1, 0]) (by repeat (first | exact subσ.nil _ | refine subσ.cons rfl ?_)) rfl (by repeat' (first | constructor | apply Sub.suf))) ?_
 rintro ⟨⟨k, u, ⟨A2, c2⟩⟩, hk, hnil⟩
 refine cmono (S' := St M0 F0 w0 17 [(3, .pointer (some ⟨b3, 0, none⟩)), (6, .slice A l.length c), (7, .int .i64 (l.length : Int)), (8, .int .i64 (k : Int))] [box b3 162 [(.pointer (if u then some ⟨b3, 0, none⟩ else none)), .slice A2 (lineT (l.take k)).length c2], row 5 A2 c2 (lineT (l.take k))] [slA A l]) (fun _ _ h => h) ?_
 refine cs ?_
 refine cr ?_
 refine ls (op (p_icmp rfl rfl rfl) rfl) ?_
 refine ln ?_
 refine nthen ?_
 refine cs ?_
 refine cc rfl ?_ ?_
 ·
  intro h9
  dsimp only at hk hnil
  try simp only [decide_eq_true_eq, decide_eq_false_iff_not, Bool.not_eq_true', Bool.not_eq_false', Int.not_lt, Int.not_le, ge_iff_le, Bool.not_true, Bool.not_false] at h9
  have hk1 : k < l.length := by omega
  have hfs : lineT (l.take (k + 1)) = lineT (l.take k) ++ (ofB l[k] ++ [10]) := flat_succ (fun s => ofB s ++ [10]) hk1
  have hfl : (lineT (l.take (k + 1))).length ≤ (lineT l).length := flat_le _ l (k + 1)
  have hsz : (lineT (l.take k)).length + (l[k].size + 1) ≤ 100000000 := by rw [hfs, List.length_append, List.length_append, ofB_length, List.length_singleton] at hfl; omega
  have hst : lineT (l.take k) ++ ofB (l[k] ++ (⟨#[10]⟩ : ByteArray)) = lineT (l.take (k + 1)) := by rw [hfs, ofB_append]; rfl
  have hs1 : (⟨#[10]⟩ : ByteArray).size = 1 := rfl
  refine cskip ?_
  refine nthen ?_
  refine cs ?_
  refine cb ?_
  refine cs ?_
  refine elC (by repeat' constructor) k (List.getElem?_eq_getElem (l := l) hk1) ?_; rintro zbp zop zyp hAp
  refine cr ?_
  refine ls (op (p_ia k hAp hk1 rfl Tryz.underlying37 Tryz.sizeOf9 rfl rfl) rfl) ?_
  refine ls (o_ldi Tryz.isAgg9 rfl (by repeat' constructor) 0 rfl (by repeat (first | exact Cut.d | apply Cut.t | apply Cut.s)) rfl) ?_
  refine ls (op (p_asg rfl) rfl) ?_
  refine ln ?_
  refine nthen ?_
  refine cr ?_
  refine ls (op (p_move rfl) rfl) ?_
  refine ls (op (p_cat rfl rfl (by rw [hs1]; omega)) rfl) ?_
  refine ls (o_call (is := [0, 0]) Tryz.call106 (c_bWrite u b3 A2 c2 (lineT (l.take k)) (l[k] ++ (⟨#[10]⟩ : ByteArray)) _ hst (by rw [ByteArray.size_append, hs1]; omega)) rfl rfl (by repeat' (first | constructor | apply Sub.suf)) rfl) ?_
  refine le ?_; rintro ⟨⟨A3, c3⟩, hA3⟩
  dsimp only at hA3
  refine ln ?_
  refine nblock ?_
  refine nthen ?_
  refine cr ?_
  refine ls (op (p_add rfl rfl (by omega)) rfl) ?_
  refine ls (op (p_move rfl) rfl) ?_
  refine ln ?_
  refine nnext ⟨(k + 1, true, (A3, c3)), hk1, fun h => hA3 h (hnil (by rw [hfs] at h; exact (List.append_eq_nil_iff.1 h).1))⟩ (by dsimp only; omega) (wk (is := [0, 0]) (by repeat (first | exact subσ.nil _ | refine subσ.cons rfl ?_)) rfl (by repeat' (first | constructor | apply Sub.suf)))
 ·
  intro h9
  dsimp only at hk hnil
  try simp only [decide_eq_true_eq, decide_eq_false_iff_not, Bool.not_eq_true', Bool.not_eq_false', Int.not_lt, Int.not_le, ge_iff_le, Bool.not_true, Bool.not_false] at h9
  have htk : l.take k = l := List.take_of_length_le (by omega)
  refine cexit ?_
  refine xthen ?_
  refine xthen ?_
  refine xblock ?_
  refine nthen ?_
  refine cs ?_
  refine cr ?_
  refine ls (o_call (is := [0, 0]) Tryz.call109 (c_bString _ b3 A2 c2 (lineT (l.take k)) hnil (by rw [htk]; omega)) rfl rfl (by repeat' (first | constructor | apply Sub.suf)) rfl) ?_
  refine le ?_; intro x16
  refine ls (op (p_asg rfl) rfl) ?_
  refine ln ?_
  refine nthen ?_
  refine cret ?_
  refine xret (fun _ _ h => h) ?_
  refine rret (is := []) () (Or.inl rfl) (Res.t rfl Res.d) ?_ rfl (by repeat' (first | constructor | apply Sub.suf))
  simp only [packV, htk]

set_option maxRecDepth 100000 in
theorem c_tText (p b : Nat) (T : List File) (hn : T.length ≤ 2000000) (hf : Tfit T) (hB : (textT T).length ≤ 100000000) (Γt : List Asn) (hI : ∀ x ∈ T, Con Tryz.prog 107 [.int .i64 (x.2.length : Int)] [] Γt Unit (fun _ => .string (toB (Lib.decDigits x.2.length))) (fun _ => []) (fun _ => [])) : Con Tryz.prog 52 [.pointer (some ⟨p, 0, none⟩)] [box p 120 [.map (some b)], tr b T] Γt Unit (fun _ => .string (toB (textT T))) (fun _ => [box p 120 [.map (some b)], tr b T]) (fun _ => []) := by
 refine con Tryz.func52 rfl Tryz.ntmps52 rfl ?_
 intro M0 F0 w0
 refine cs ?_
 refine cr ?_
 refine ls (op (p_asg rfl) rfl) ?_
 refine ln ?_
 refine nthen ?_
 refine cs ?_
 refine cr ?_
 refine ls (o_alloc Tryz.zeroValue162 rfl rfl) ?_
 refine le ?_; intro b3
 refine ln ?_
 refine nthen ?_
 refine cs ?_
 refine cs ?_
 refine cpure (St.tr (b := b) (by repeat' constructor)) ?_
 intro hso
 refine cmono (fun a w h => nilRow (α := UInt8) 5 h) ?_
 refine cr ?_
 refine ls (op (p_move rfl) rfl) ?_
 refine ls (o_call (is := [2, 2]) Tryz.call84 (c_tNames p b T hn) rfl rfl (by repeat' (first | constructor | apply Sub.suf)) rfl) ?_
 refine le ?_; rintro ⟨A8, c8⟩
 refine lmono (fun a w h => Go.Sx.freeze (i := 0) rfl h) ?_
 refine ls (op (p_lenl rfl Tryz.underlying37) rfl) ?_
 refine ls (op (p_move rfl) rfl) ?_
 refine ln ?_
 refine nthen ?_
 refine cb ?_
 refine cl (ι := {q : Nat × Bool × (Option Addr × Nat) // q.1 ≤ T.length ∧ (textT (T.take q.1) = [] → q.2.2.1 = none)}) (fun i => St M0 F0 w0 33 [(0, .pointer (some ⟨p, 0, none⟩)), (3, .pointer (some ⟨b3, 0, none⟩)), (8, .slice A8 T.length c8), (9, .int .i64 (T.length : Int)), (10, .int .i64 (i.1.1 : Int))] [box b3 162 [(.pointer (if i.1.2.1 then some ⟨b3, 0, none⟩ else none)), .slice i.1.2.2.1 (textT (T.take i.1.1)).length i.1.2.2.2], row 5 i.1.2.2.1 i.1.2.2.2 (textT (T.take i.1.1)), box p 120 [.map (some b)], tr b T] (slA A8 (T.map (·.1)) :: Γt)) (fun i => T.length - i.1.1) ⟨(0, false, (none, 0)), Nat.zero_le _, fun _ => rfl⟩ (wk (is := [3, 2, 0, 0]) (by repeat (first | exact subσ.nil _ | refine subσ.cons rfl ?_)) rfl (by repeat' (first | constructor | apply Sub.suf))) ?_
 rintro ⟨⟨k, u, ⟨A2, c2⟩⟩, hk, hnil⟩
 refine cmono (S' := St M0 F0 w0 33 [(0, .pointer (some ⟨p, 0, none⟩)), (3, .pointer (some ⟨b3, 0, none⟩)), (8, .slice A8 T.length c8), (9, .int .i64 (T.length : Int)), (10, .int .i64 (k : Int))] [box b3 162 [(.pointer (if u then some ⟨b3, 0, none⟩ else none)), .slice A2 (textT (T.take k)).length c2], row 5 A2 c2 (textT (T.take k)), box p 120 [.map (some b)], tr b T] (slA A8 (T.map (·.1)) :: Γt)) (fun _ _ h => h) ?_
 refine cs ?_
 refine cr ?_
 refine ls (op (p_icmp rfl rfl rfl) rfl) ?_
 refine ln ?_
 refine nthen ?_
 refine cs ?_
 refine cc rfl ?_ ?_
 ·
  intro h11
  dsimp only at hk hnil
  try simp only [decide_eq_true_eq, decide_eq_false_iff_not, Bool.not_eq_true', Bool.not_eq_false', Int.not_lt, Int.not_le, ge_iff_le, Bool.not_true, Bool.not_false] at h11
  have hk1 : k < T.length := by omega
  have hk2 : k < (T.map (·.1)).length := by simpa using hk1
  have hnm : (T.map (·.1))[k] = T[k].1 := List.getElem_map ..
  have hmem : T[k] ∈ T := List.getElem_mem hk1
  have hgl : getL T T[k].1 = T[k].2 := by simp [getL, (getT_some (k := T[k].1) (l := T[k].2) hso).2 hmem]
  have hfs : textT (T.take (k + 1)) = textT (T.take k) ++ fileT T[k] := flat_succ fileT hk1
  have hfl : (textT (T.take (k + 1))).length ≤ (textT T).length := flat_le _ T (k + 1)
  have hfx : (fileT T[k]).length = T[k].1.size + 1 + (Lib.decDigits T[k].2.length).length + 1 + (lineT T[k].2).length := by simp only [fileT, List.length_append, ofB_length, List.length_singleton]
  have hsz : (textT (T.take k)).length + (T[k].1.size + 1 + (Lib.decDigits T[k].2.length).length + 1 + (lineT T[k].2).length) ≤ 100000000 := by rw [hfs, List.length_append, hfx] at hfl; omega
  have hs1 : (⟨#[10]⟩ : ByteArray).size = 1 := rfl
  have hs2 : (⟨#[32]⟩ : ByteArray).size = 1 := rfl
  have hst : textT (T.take k) ++ ofB ((((T[k].1 ++ (⟨#[32]⟩ : ByteArray)) ++ toB (Lib.decDigits T[k].2.length)) ++ (⟨#[10]⟩ : ByteArray)) ++ toB (lineT T[k].2)) = textT (T.take (k + 1)) := by rw [hfs, ofB_append, ofB_append, ofB_append, ofB_append]; rfl
  refine cskip ?_
  refine nthen ?_
  refine cs ?_
  refine cb ?_
  refine cs ?_
  refine elC (by repeat' constructor) k (List.getElem?_eq_getElem (l := (T.map (·.1))) hk2) ?_; rintro zbp zop zyp hAp
  refine cr ?_
  refine ls (op (p_ia k hAp hk1 rfl Tryz.underlying37 Tryz.sizeOf9 rfl rfl) rfl) ?_
  refine ls (o_ldi Tryz.isAgg9 rfl (by repeat' constructor) 0 rfl (by repeat (first | exact Cut.d | apply Cut.t | apply Cut.s)) rfl) ?_
  refine ls (op (p_asg rfl) rfl) ?_
  refine ln ?_
  refine nthen ?_
  refine cs ?_
  rw [hnm]
  refine cr ?_
  refine ls (op (p_move rfl) rfl) ?_
  refine ls (op (p_nilck rfl) rfl) ?_
  refine ls (op (p_fa fa120_0 rfl) rfl) ?_
  refine ls (o_ld Tryz.isAgg118 rfl (by repeat' constructor) (by repeat' constructor) rfl) ?_
  refine ls (op (p_move rfl) rfl) ?_
  refine ls (o_look1 Tryz.underlying118 Tryz.underlying9 Tryz.zeroValue37 rfl rfl (by repeat' constructor) rfl) ?_
  refine le ?_; rintro y19
  rw [hgl]
  refine ls (op (p_asg rfl) rfl) ?_
  refine ln ?_
  refine nthen ?_
  refine cr ?_
  refine ls (op (p_move rfl) rfl) ?_
  refine ls (op (p_cat rfl rfl (by rw [hs2]; omega)) rfl) ?_
  refine ls (op (p_move rfl) rfl) ?_
  refine ls (op (p_lenl rfl Tryz.underlying37) rfl) ?_
  refine ls (o_call (is := []) Tryz.call107 (hI T[k] hmem) rfl rfl (by repeat' (first | constructor | apply Sub.suf)) rfl) ?_
  refine le ?_; intro x24
  refine ls (op (p_cat rfl rfl (by rw [ByteArray.size_append, toB_size, hs2]; omega)) rfl) ?_
  refine ls (op (p_cat rfl rfl (by rw [ByteArray.size_append, ByteArray.size_append, toB_size, hs1, hs2]; omega)) rfl) ?_
  refine ls (op (p_move rfl) rfl) ?_
  refine ls (o_call (is := []) Tryz.call108 (c_lineText T[k].2 y19.1 y19.2 (hf _ hmem) (by omega)) rfl rfl (by repeat' (first | constructor | apply Sub.suf)) rfl) ?_
  refine le ?_; intro x28
  refine ls (op (p_cat rfl rfl (by rw [ByteArray.size_append, ByteArray.size_append, ByteArray.size_append, toB_size, toB_size, hs1, hs2]; omega)) rfl) ?_
  refine ls (o_call (is := [0, 0]) Tryz.call106 (c_bWrite u b3 A2 c2 (textT (T.take k)) _ _ hst (by rw [ByteArray.size_append, ByteArray.size_append, ByteArray.size_append, ByteArray.size_append, toB_size, toB_size, hs1, hs2]; omega)) rfl rfl (by repeat' (first | constructor | apply Sub.suf)) rfl) ?_
  refine le ?_; rintro ⟨⟨A3, c3⟩, hA3⟩
  dsimp only at hA3
  refine ln ?_
  refine nblock ?_
  refine nthen ?_
  refine cr ?_
  refine ls (op (p_add rfl rfl (by omega)) rfl) ?_
  refine ls (op (p_move rfl) rfl) ?_
  refine ln ?_
  refine nnext ⟨(k + 1, true, (A3, c3)), hk1, fun h => hA3 h (hnil (by rw [hfs] at h; exact (List.append_eq_nil_iff.1 h).1))⟩ (by dsimp only; omega) (wk (is := [0, 0, 0, 0]) (by repeat (first | exact subσ.nil _ | refine subσ.cons rfl ?_)) rfl (by repeat' (first | constructor | apply Sub.suf)))
 ·
  intro h11
  dsimp only at hk hnil
  try simp only [decide_eq_true_eq, decide_eq_false_iff_not, Bool.not_eq_true', Bool.not_eq_false', Int.not_lt, Int.not_le, ge_iff_le, Bool.not_true, Bool.not_false] at h11
  have htk : T.take k = T := List.take_of_length_le (by omega)
  refine cexit ?_
  refine xthen ?_
  refine xthen ?_
  refine xblock ?_
  refine nthen ?_
  refine cs ?_
  refine cr ?_
  refine ls (o_call (is := [0, 0]) Tryz.call109 (c_bString _ b3 A2 c2 (textT (T.take k)) hnil (by rw [htk]; omega)) rfl rfl (by repeat' (first | constructor | apply Sub.suf)) rfl) ?_
  refine le ?_; intro x32
  refine ls (op (p_asg rfl) rfl) ?_
  refine ln ?_
  refine nthen ?_
  refine cret ?_
  refine xret (fun _ _ h => h) ?_
  refine rret (is := [0, 0]) () (Or.inl rfl) (Res.t rfl Res.d) ?_ rfl (by repeat' (first | constructor | apply Sub.suf))
  simp only [packV, htk]

end Go.Proofs.YtdbiillompeclaaGreatDoor.X

end
section
set_option linter.unusedVariables false
set_option linter.unusedSimpArgs false
namespace Go.Proofs.YtdbiillompeclaaGreatDoor.X
open Go Go.RowKit Go.Proofs Go.Sx
attribute [local irreducible] slA isA box row
theorem al_add : tAdd [] (⟨#[97]⟩ : ByteArray) = ([((⟨#[97]⟩ : ByteArray), ([] : List ByteArray))], 0) := by kernel_rfl
theorem al_put : tPut [((⟨#[97]⟩ : ByteArray), ([] : List ByteArray))] (⟨#[97]⟩ : ByteArray) [(⟨#[120]⟩ : ByteArray), (⟨#[121]⟩ : ByteArray)] = ([((⟨#[97]⟩ : ByteArray), [(⟨#[120]⟩ : ByteArray), (⟨#[121]⟩ : ByteArray)])], 0) := by kernel_rfl
theorem al_move : tMove [((⟨#[97]⟩ : ByteArray), [(⟨#[120]⟩ : ByteArray), (⟨#[121]⟩ : ByteArray)])] (⟨#[97]⟩ : ByteArray) (⟨#[98]⟩ : ByteArray) = ([((⟨#[98]⟩ : ByteArray), [(⟨#[120]⟩ : ByteArray), (⟨#[121]⟩ : ByteArray)])], 0) := by kernel_rfl
theorem al_badd : tAdd [((⟨#[98]⟩ : ByteArray), [(⟨#[120]⟩ : ByteArray), (⟨#[121]⟩ : ByteArray)])] (⟨#[65]⟩ : ByteArray) = ([((⟨#[98]⟩ : ByteArray), [(⟨#[120]⟩ : ByteArray), (⟨#[121]⟩ : ByteArray)])], 20) := by kernel_rfl
theorem al_brem : tRem [((⟨#[98]⟩ : ByteArray), [(⟨#[120]⟩ : ByteArray), (⟨#[121]⟩ : ByteArray)])] (⟨#[98]⟩ : ByteArray) = ([((⟨#[98]⟩ : ByteArray), [(⟨#[120]⟩ : ByteArray), (⟨#[121]⟩ : ByteArray)])], 22) := by kernel_rfl
theorem al_l2 : (textT [((⟨#[97]⟩ : ByteArray), [(⟨#[120]⟩ : ByteArray), (⟨#[121]⟩ : ByteArray)])]).length = 8 := by kernel_rfl
theorem al_l3 : (textT [((⟨#[98]⟩ : ByteArray), [(⟨#[120]⟩ : ByteArray), (⟨#[121]⟩ : ByteArray)])]).length = 8 := by kernel_rfl
theorem al_f2 : Tfit [((⟨#[97]⟩ : ByteArray), [(⟨#[120]⟩ : ByteArray), (⟨#[121]⟩ : ByteArray)])] := fun x hx => by have : x = _ := List.mem_singleton.1 hx; subst this; decide
theorem al_f3 : Tfit [((⟨#[98]⟩ : ByteArray), [(⟨#[120]⟩ : ByteArray), (⟨#[121]⟩ : ByteArray)])] := fun x hx => by have : x = _ := List.mem_singleton.1 hx; subst this; decide
theorem al_named : nameOk (⟨#[97, 47, 98, 46, 99]⟩ : ByteArray) = true := by kernel_rfl
theorem al_ne : decide ([((⟨#[98]⟩ : ByteArray), [(⟨#[120]⟩ : ByteArray), (⟨#[121]⟩ : ByteArray)])] = [((⟨#[97]⟩ : ByteArray), [(⟨#[120]⟩ : ByteArray), (⟨#[121]⟩ : ByteArray)])]) = false := by kernel_rfl
theorem al_t1 : toB (textT [((⟨#[97]⟩ : ByteArray), [(⟨#[120]⟩ : ByteArray), (⟨#[121]⟩ : ByteArray)])]) = (⟨#[97, 32, 50, 10, 120, 10, 121, 10]⟩ : ByteArray) := by kernel_rfl
theorem al_t2 : toB (textT [((⟨#[98]⟩ : ByteArray), [(⟨#[120]⟩ : ByteArray), (⟨#[121]⟩ : ByteArray)])]) = (⟨#[98, 32, 50, 10, 120, 10, 121, 10]⟩ : ByteArray) := by kernel_rfl


end Go.Proofs.YtdbiillompeclaaGreatDoor.X

end
section
set_option linter.unusedVariables false
set_option linter.unusedSimpArgs false
namespace Go.Sx
open Go Go.RowKit

/-! Laws on trees, as they stand in memory and in the document. -/
theorem getT_put {T : List File} (h : Sor T) (k k' : ByteArray) (l : List ByteArray) : getT (putT T k l) k' = if k' = k then some l else getT T k' := by
  apply Option.ext
  intro v
  rw [getT_some (h.put k l), mem_putT]
  by_cases e : k' = k
  · subst e
    rw [if_pos rfl]
    constructor
    · rintro (h1 | ⟨_, h2⟩)
      · injection h1 with _ h1; rw [h1]
      · exact absurd rfl h2
    · intro h1; injection h1 with h1; subst h1; exact .inl rfl
  · rw [if_neg e, getT_some h]
    constructor
    · rintro (h1 | ⟨h1, _⟩)
      · injection h1 with h1 _; exact absurd h1 e
      · exact h1
    · exact fun h1 => .inr ⟨h1, e⟩
theorem getT_del {T : List File} (h : Sor T) (k k' : ByteArray) : getT (delT T k) k' = if k' = k then none else getT T k' := by
  apply Option.ext
  intro v
  rw [getT_some (h.del k), mem_delT]
  by_cases e : k' = k
  · subst e
    rw [if_pos rfl]
    constructor
    · rintro ⟨_, h2⟩; exact absurd rfl h2
    · intro h1; cases h1
  · rw [if_neg e, getT_some h]
    exact ⟨fun h1 => h1.1, fun h1 => ⟨h1, e⟩⟩
theorem getT_ext {T U : List File} (hT : Sor T) (hU : Sor U) (h : ∀ k, getT T k = getT U k) : T = U :=
  sor_ext hT hU fun x => by
    have := h x.1
    rw [← getT_some (k := x.1) (l := x.2) hT, ← getT_some (k := x.1) (l := x.2) hU, this]
theorem hasT_no {T : List File} {k : ByteArray} (h : hasT T k = false) : getT T k = none := by
  unfold hasT at h
  cases e : getT T k with
  | none => rfl
  | some v => rw [e] at h; cases h
theorem hasT_yes {T : List File} {k : ByteArray} (h : hasT T k = true) : getT T k = some (getL T k) := by
  unfold hasT at h
  unfold getL
  cases e : getT T k with
  | none => rw [e] at h; cases h
  | some v => rfl
theorem tAdd_ok {M T1 : List File} {k : ByteArray} (h : (T1, (0 : Int)) = tAdd M k) : nameOk k = true ∧ hasT M k = false ∧ T1 = putT M k [] := by
  unfold tAdd at h
  split at h
  · injection h with _ h; cases h
  · rename_i h1
    split at h
    · injection h with _ h; cases h
    · rename_i h2
      injection h with h _
      exact ⟨by simpa using h1, by simpa using h2, h⟩
theorem tAdd_no {M T1 : List File} {k : ByteArray} {e : Int} (h : (T1, e) = tAdd M k) (he : ¬ e = 0) : T1 = M := by
  unfold tAdd at h
  split at h
  · injection h
  · split at h
    · injection h
    · injection h with _ h; exact absurd h he
theorem tRem_add {M : List File} {k : ByteArray} (hM : Sor M) (hh : hasT M k = false) : tRem (putT M k []) k = (M, 0) := by
  have h1 : getT (putT M k []) k = some [] := by rw [getT_put hM, if_pos rfl]
  have h2 : delT (putT M k []) k = M := getT_ext ((hM.put _ _).del _) hM fun u => by
    rw [getT_del (hM.put _ _), getT_put hM]
    by_cases e : u = k
    · subst e; rw [if_pos rfl, hasT_no hh]
    · rw [if_neg e, if_neg e]
  unfold tRem
  rw [if_neg (by simp [hasT, h1]), if_neg (by simp [getL, h1]), h2]
theorem tMove_ok {M T3 : List File} {a b : ByteArray} (h : (T3, (0 : Int)) = tMove M a b) : hasT M a = true ∧ nameOk b = true ∧ hasT M b = false ∧ T3 = delT (putT M b (getL M a)) a := by
  unfold tMove at h
  split at h
  · injection h with _ h; cases h
  · rename_i h1
    split at h
    · injection h with _ h; cases h
    · rename_i h2
      injection h with h _
      refine ⟨?_, ?_, by simpa using h2, h⟩
      · cases e : hasT M a with
        | true => rfl
        | false => exact absurd (.inl e) h1
      · cases e : nameOk b with
        | true => rfl
        | false => exact absurd (.inr e) h1
theorem tMove_no {M T3 : List File} {a b : ByteArray} {e : Int} (h : (T3, e) = tMove M a b) (he : ¬ e = 0) : T3 = M := by
  unfold tMove at h
  split at h
  · injection h
  · split at h
    · injection h
    · injection h with _ h; exact absurd h he
theorem moved_get {M : List File} {a b : ByteArray} (hM : Sor M) (ha : hasT M a = true) (hb : hasT M b = false) (u : ByteArray) : getT (delT (putT M b (getL M a)) a) u = if u = a then none else if u = b then some (getL M a) else getT M u := by
  rw [getT_del (hM.put _ _), getT_put hM]
theorem moved_ne {M : List File} {a b : ByteArray} (ha : hasT M a = true) (hb : hasT M b = false) : ¬ b = a := fun e => by
  subst e; rw [ha] at hb; cases hb
theorem move_back {M : List File} {a b : ByteArray} (hM : Sor M) (hn : nameOk a = true) (ha : hasT M a = true) (hb : hasT M b = false) : tMove (delT (putT M b (getL M a)) a) b a = (M, 0) := by
  have hS : Sor (delT (putT M b (getL M a)) a) := (hM.put _ _).del _
  have hne := moved_ne ha hb
  have h1 : getT (delT (putT M b (getL M a)) a) b = some (getL M a) := by rw [moved_get hM ha hb, if_neg hne, if_pos rfl]
  have h2 : getT (delT (putT M b (getL M a)) a) a = none := by rw [moved_get hM ha hb, if_pos rfl]
  have h3 : getL (delT (putT M b (getL M a)) a) b = getL M a := by rw [getL, h1]; rfl
  unfold tMove
  rw [if_neg (by simp [hasT, h1, hn]), if_neg (by simp [hasT, h2]), h3]
  have : delT (putT (delT (putT M b (getL M a)) a) a (getL M a)) b = M := getT_ext ((hS.put _ _).del _) hM fun u => by
    rw [getT_del (hS.put _ _), getT_put hS, moved_get hM ha hb]
    by_cases e : u = b
    · subst e; rw [if_pos rfl, hasT_no hb]
    · rw [if_neg e]
      by_cases e2 : u = a
      · subst e2; rw [if_pos rfl, hasT_yes ha]
      · rw [if_neg e2, if_neg e2, if_neg e]
  rw [this]
theorem moved_without {M : List File} {a b : ByteArray} (hM : Sor M) (ha : hasT M a = true) (hb : hasT M b = false) : delT (delT (putT M b (getL M a)) a) b = delT M a :=
  getT_ext (((hM.put _ _).del _).del _) (hM.del _) fun u => by
    rw [getT_del ((hM.put _ _).del _), moved_get hM ha hb, getT_del hM]
    by_cases e : u = b
    · subst e; rw [if_pos rfl, if_neg (moved_ne ha hb), hasT_no hb]
    · rw [if_neg e]
      by_cases e2 : u = a
      · rw [if_pos e2, if_pos e2]
      · rw [if_neg e2, if_neg e2, if_neg e]
def Good (T : List File) : Prop := ∀ x ∈ T, nameOk x.1 = true ∧ x.2.all lineOk = true
theorem Good.get {T : List File} (h : Good T) (k : ByteArray) : (getL T k).all lineOk = true := by
  unfold getL getT
  cases e : T.find? (fun x => decide (x.1 = k)) with
  | none => rfl
  | some x => simpa using (h x (List.mem_of_find?_eq_some e)).2
theorem Good.name {T : List File} (h : Good T) {k : ByteArray} (hk : hasT T k = true) : nameOk k = true := by
  obtain ⟨x, hx, rfl⟩ := hasT_iff.1 hk
  exact (h x hx).1
theorem Good.put {T : List File} (h : Good T) {k : ByteArray} {l : List ByteArray} (hk : nameOk k = true) (hl : l.all lineOk = true) : Good (putT T k l) := fun x hx => by
  rcases mem_putT.1 hx with rfl | ⟨h1, _⟩
  · exact ⟨hk, hl⟩
  · exact h x h1
theorem Good.del {T : List File} (h : Good T) (k : ByteArray) : Good (delT T k) := fun x hx => h x (mem_delT.1 hx).1
theorem doT_good {T : List File} (h : Good T) (o : TOp) : Good (doT T o).1 := by
  unfold doT
  split
  · unfold tAdd; split
    · exact h
    · rename_i h1; split
      · exact h
      · exact h.put (by simpa using h1) rfl
  · split
    · unfold tRem; split; exact h; split; exact h; exact h.del _
    · split
      · unfold rMove; split
        · exact h
        · rename_i h1; split
          · exact h
          · exact (h.del _).put (by
              cases e : nameOk o.to with
              | true => rfl
              | false => exact absurd (.inr e) h1) (h.get _)
      · split
        · unfold tPut; split
          · exact h
          · rename_i h1; split
            · exact h
            · rename_i h2
              exact h.put (h.name (by simpa using h1)) (by simpa using h2)
        · exact h
theorem madeT_good (l : List TOp) : Good (madeT l) := by
  unfold madeT
  have : ∀ (l : List TOp) (T : List File), Good T → Good (l.foldl (fun T o => (doT T o).1) T) := by
    intro l
    induction l with
    | nil => exact fun T h => h
    | cons o l ih => exact fun T h => ih _ (doT_good h o)
  exact this l [] fun x hx => by cases hx
end Go.Sx

end
section
set_option linter.unusedVariables false
set_option linter.unusedSimpArgs false
namespace Go.Proofs.YtdbiillompeclaaGreatDoor.X
open Go Go.RowKit Go.Proofs Go.Sx
attribute [local irreducible] slA isA box row



end Go.Proofs.YtdbiillompeclaaGreatDoor.X

end
section
set_option linter.unusedVariables false
set_option linter.unusedSimpArgs false
namespace Go.Sx
open Go Go.RowKit
section
variable {ro : Option Nat} {P : Program} {M0 F0 : Nat → Prop} {w0 : World} {n : Nm} {σ : List (Nat × Value)} {Ξ : List Xsn} {Γ : List Asn} {d : Nat} {ty : TypeId} {pos : String} {af : Array Edge}
variable {ops : Array Oper} {Q : Exit → Act → World → Prop} {S S' : Act → World → Prop}
theorem slen {A : Option Addr} {m m' c : Nat} (h : m = m') : Value.slice A m c = Value.slice A m' c := by rw [h]
theorem run_app0 {w : World} {t e ty' : TypeId} {i0 : TypeInfo} {A B : Option Addr} {k c c' : Nat} (ht : P.underlying t = some (.slice e)) (hi : P.info? e = some i0) (hc : k ≤ c) :
    (Builtin.append_ #[t, t] ty' #[.slice A k c, .slice B 0 c']).run P w = .ok (.slice A k c) w := by
  cases A <;> cases B <;> simp [Builtin.append_, run_underlying ht, sizeOf, typeInfo, hi, Builtin.lenOf, Builtin.firstCells, hc, loadCells, loadCellsFrom, storeCells]
theorem p_app0 {T : World → Prop} {x y : Operand} {t e : TypeId} {A B : Option Addr} {k c c' : Nat} (ht : P.underlying t = some (.slice e)) (hi : ∃ i0, P.info? e = some i0) (hc : k ≤ c) (hx : ev σ x = some (.slice A k c)) (hy : ev σ y = some (.slice B 0 c')) :
    Pu P n σ T ⟨some d, .call ⟨.builtin .append, #[x, y], #[t, t]⟩, ty, pos, af, none⟩ (.slice A k c) := fun a hs w _ => by
  obtain ⟨i0, hi⟩ := hi
  have h1 := hs.ev hx
  have h2 := hs.ev hy
  have hm : (#[x, y] : Array Operand).map a.eval = #[.slice A k c, .slice B 0 c'] := by simp [h1, h2]
  simp only [execOp, resolve, invoke, builtin, hm]
  simp [run_app0 ht hi hc]
theorem o_appX {α : Type} [Rp α] {x y : Operand} {t e : TypeId} {z : Value} {bytes : Nat} {A B : Option Addr} {c c' : Nat} {l m : List α} {i : Nat} {Ξ' : List Xsn}
    (ht : P.underlying t = some (.slice e)) (hinfo : (P.info? e).map (fun i => (i.zero, i.size, i.bytes)) = some (some z, Rp.size α, bytes)) (hzs : z.cells.size = Rp.size α) (hsz : 0 < Rp.size α) (hb0 : 0 < bytes)
    (hx : ev σ x = some (.slice A l.length c)) (hy : ev σ y = some (.slice B m.length c')) (hl : (l.length + m.length) * bytes ≤ 140737488355328) (hs : takeAll [i] Ξ = some ([row e A c l], Ξ')) (hg : Sub [slA B m] Γ) (hd : Nat.blt d n.n = true) :
    OpR P ⟨some d, .call ⟨.builtin .append, #[x, y], #[t, t]⟩, ty, pos, af, none⟩ (St M0 F0 w0 n σ Ξ Γ) (fun a w => ∃ q : Option Addr × Nat, St M0 F0 w0 n ((d, .slice q.1 (l ++ m).length q.2) :: σ) (row e q.1 q.2 (l ++ m) :: Ξ') Γ a w) := by
  by_cases hm : m = []
  · subst hm
    obtain ⟨i0, hi, _⟩ := info_parts hinfo
    intro K Q a w hS hK
    obtain ⟨hsl, Fs, hh⟩ := hS
    obtain ⟨Gs, Hs, hp, h1, h2⟩ := hh.ex.takeAll hs
    have hh' : Hp M0 F0 w0 (row e A c l :: Ξ') Γ (Gs ++ Hs) w := hh.re (fun b => (own_perm hp b).symm) (perm_pairwise hp hh.dis) (h1.append h2) hh.ga
    have hle : l.length ≤ c := rowLe (i := 0) At.z (⟨hsl, _, hh'⟩ : St M0 F0 w0 n σ (row e A c l :: Ξ') Γ a w)
    have := op (M0 := M0) (F0 := F0) (w0 := w0) (Ξ := row e A c l :: Ξ') (Γ := Γ) (p_app0 (P := P) (n := n) (σ := σ) (T := Any) (d := d) (ty := ty) (pos := pos) (af := af) ht ⟨i0, hi⟩ hle hx hy) hd
    refine this K Q a w ⟨hsl, _, hh'⟩ fun a' w' h => hK a' w' ⟨(A, c), ?_⟩
    simpa using h
  · exact o_app ht hinfo hzs hsz hb0 hx hy hl (fun h => absurd h hm) hs hg hd
theorem o_appF {α : Type} [Rp α] {x y : Operand} {t e : TypeId} {z : Value} {bytes : Nat} {A B : Option Addr} {c c' : Nat} {l m : List α}
    (ht : P.underlying t = some (.slice e)) (hinfo : (P.info? e).map (fun i => (i.zero, i.size, i.bytes)) = some (some z, Rp.size α, bytes)) (hzs : z.cells.size = Rp.size α) (hsz : 0 < Rp.size α) (hb0 : 0 < bytes) (hc : c = l.length)
    (hx : ev σ x = some (.slice A l.length c)) (hy : ev σ y = some (.slice B m.length c')) (hl : (l.length + m.length) * bytes ≤ 140737488355328) (hm : m ≠ []) (hg : Sub [slA A l, slA B m] Γ) (hd : Nat.blt d n.n = true) :
    OpR P ⟨some d, .call ⟨.builtin .append, #[x, y], #[t, t]⟩, ty, pos, af, none⟩ (St M0 F0 w0 n σ Ξ Γ) (fun a w => ∃ q : Option Addr × Nat, St M0 F0 w0 n ((d, .slice q.1 (l ++ m).length q.2) :: σ) (row e q.1 q.2 (l ++ m) :: Ξ) Γ a w) := by
  cases A with
  | some A => exact o_appf ht hinfo hzs hsz hb0 hc hx hy hl (List.length_pos_iff.2 hm) hg hd
  | none =>
    intro K Q a w hS hK
    have hmem := hg.mem (slA none l) (by simp)
    have hl0 : l = [] := by
      obtain ⟨_, Fs, hh⟩ := hS
      have h1 := hh.ga _ hmem
      match l, h1 with
      | [], _ => rfl
      | x :: l, h1 =>
        obtain ⟨b, o, y, hA, _⟩ := h1 0 x rfl
        cases hA
    subst hl0
    subst hc
    have := o_app (M0 := M0) (F0 := F0) (w0 := w0) (n := n) (σ := σ) (Ξ := row (α := α) e none 0 [] :: Ξ) (Γ := Γ) (Ξ' := Ξ) (is := [0]) (ty := ty) (pos := pos) (af := af) (A := none) (c := 0) (l := []) (m := m) ht hinfo hzs hsz hb0 hx hy hl (fun h => absurd h hm) rfl (Sub.mk fun p hp => hg.mem p (by simp at hp; simp [hp])) hd
    exact this K Q a w (nilRow e hS) hK
end

theorem lpure {ro : Option Nat} {P : Program} {ops : Array Oper} {Q : Exit → Act → World → Prop} {S : Act → World → Prop} {l : List Oper} {φ : Prop} (h : ∀ a w, S a w → φ) (k : φ → TrL ro P ops Q S l) : TrL ro P ops Q S l := fun a w hS => k (h a w hS) a w hS
theorem take_eq_at {l m : List ByteArray} {k j : Nat} (hk : k + j < l.length) (hj : j < m.length) (h : (l.drop k).take m.length = m) : l[k + j] = m[j] := by
  have h1 : ((l.drop k).take m.length)[j]? = m[j]? := by rw [h]
  rw [List.getElem?_take_of_lt hj, List.getElem?_drop, List.getElem?_eq_getElem hk, List.getElem?_eq_getElem hj] at h1
  injection h1
theorem take_step {l m : List ByteArray} {k j : Nat} (hk : k + j < l.length) (hj : j < m.length) (h : (l.drop k).take j = m.take j) (e : l[k + j] = m[j]) : (l.drop k).take (j + 1) = m.take (j + 1) := by
  have hd : j < (l.drop k).length := by rw [List.length_drop]; omega
  rw [List.take_succ_eq_append_getElem hd, List.take_succ_eq_append_getElem hj, h, List.getElem_drop, e]
theorem slen2 {A : Option Addr} {m m' c c' : Nat} (h : m = m') (k : c = c') : Value.slice A m c = Value.slice A m' c' := by rw [h, k]
theorem emem (p q : Prop) : (p ∧ q) ∨ (p ∧ ¬ q) ∨ ¬ p := by
  by_cases p <;> by_cases q <;> simp [*]
theorem subP {α : Type} [Rp α] {M0 F0 : Nat → Prop} {w0 : World} {n : Nm} {σ : List (Nat × Value)} {Ξ : List Xsn} {Γ : List Asn} {A : Option Addr} {l : List α} {a : Act} {w : World} (k : Nat) (hg : In (slA A l) Γ) (hk : k ≤ l.length) (h : St M0 F0 w0 n σ Ξ Γ a w) :
    St M0 F0 w0 n σ Ξ (slA (if k = 0 then A else A.map (·.add (0 * Rp.size α))) (l.take k) :: Γ) a w := by
  obtain ⟨hs, Fs, hh⟩ := h
  refine ⟨hs, Fs, { hh with ga := fun p hp => ?_ }⟩
  rcases List.mem_cons.1 hp with rfl | hp
  · by_cases hk0 : k = 0
    · subst hk0
      intro j x hj
      simp at hj
    · have := slA_sub (c := l.length) (hh.ga _ hg.mem) (Nat.zero_le k) hk (Nat.le_refl _)
      rw [if_neg (by omega), List.drop_zero, Nat.sub_zero] at this
      rw [if_neg hk0]
      exact this
  · exact hh.ga p hp
/-! Prims and trees. -/
def standsB (l : List ByteArray) (z : Int) (part : List ByteArray) : Bool := decide (0 ≤ z) && decide (z ≤ (l.length : Int)) && decide ((part.length : Int) ≤ (l.length : Int) - z) && decide ((l.drop z.toNat).take part.length = part)
def splT (l : List ByteArray) (z : Int) (old new : List ByteArray) : List ByteArray := if standsB l z old = true then l.take z.toNat ++ new ++ l.drop (z.toNat + old.length) else []
def fitT (q : List File × Int) : List File × Int := (q.1, if q.2 = 0 then 0 else 31)
def hunkT (T : List File) (p : Prim) : List File × Int :=
  if hasT T p.name = false ∨ standsB (getL T p.name) p.pos p.old = false then (T, 31) else fitT (tPut T p.name (splT (getL T p.name) p.pos p.old p.new))
def applyT (T : List File) (p : Prim) : List File × Int :=
  if p.right = false then (T, 30) else if p.kind = 0 then hunkT T p else if p.kind = 3 then fitT (tMove T p.name p.to) else if p.kind = 1 then fitT (tAdd T p.name) else fitT (tRem T p.name)
def rApplyT (T : List File) (p : Prim) : List File × Int :=
  if p.right = false then (T, 30)
  else if p.kind = 0 then (if hasT T p.name = true ∧ standsB (getL T p.name) p.pos p.old = true then (putT T p.name (splT (getL T p.name) p.pos p.old p.new), 0) else (T, 31))
  else if p.kind = 1 then (if hasT T p.name = false then (putT T p.name [], 0) else (T, 31))
  else if p.kind = 2 then (if hasT T p.name = true ∧ (getL T p.name).length = 0 then (delT T p.name, 0) else (T, 31))
  else if p.kind = 3 then (if hasT T p.name = true ∧ hasT T p.to = false then (putT (delT T p.name) p.to (getL T p.name), 0) else (T, 31))
  else (T, 31)
theorem stands_cases (l : List ByteArray) (z : Int) (part : List ByteArray) : (¬ 0 ≤ z) ∨ (0 ≤ z ∧ ¬ z ≤ (l.length : Int)) ∨ (0 ≤ z ∧ z ≤ (l.length : Int) ∧ ¬ (part.length : Int) ≤ (l.length : Int) - z) ∨ ∃ k : Nat, z = (k : Int) ∧ k + part.length ≤ l.length := by
  by_cases h1 : 0 ≤ z
  · by_cases h2 : z ≤ (l.length : Int)
    · by_cases h3 : (part.length : Int) ≤ (l.length : Int) - z
      · exact .inr (.inr (.inr ⟨z.toNat, by omega, by omega⟩))
      · exact .inr (.inr (.inl ⟨h1, h2, h3⟩))
    · exact .inr (.inl ⟨h1, h2⟩)
  · exact .inl h1
theorem standsB_nat {l part : List ByteArray} {k : Nat} (h : k + part.length ≤ l.length) : standsB l (k : Int) part = decide ((l.drop k).take part.length = part) := by
  unfold standsB
  rw [decide_eq_true (by omega), decide_eq_true (by omega), decide_eq_true (by omega)]
  simp
theorem standsB_yes {l part : List ByteArray} {z : Int} (h : standsB l z part = true) : ∃ k : Nat, z = (k : Int) ∧ k + part.length ≤ l.length ∧ (l.drop k).take part.length = part := by
  unfold standsB at h
  simp only [Bool.and_eq_true, decide_eq_true_eq] at h
  obtain ⟨⟨⟨h1, h2⟩, h3⟩, h4⟩ := h
  exact ⟨z.toNat, by omega, by omega, h4⟩
theorem splT_len {l old new : List ByteArray} {z : Int} : (splT l z old new).length ≤ l.length + new.length := by
  unfold splT
  split
  · rename_i h
    obtain ⟨k, rfl, h1, _⟩ := standsB_yes h
    simp only [List.length_append, List.length_take, List.length_drop, Int.toNat_natCast]
    omega
  · simp
theorem right_kind {p : Prim} (h : p.right = true) : p.kind = 0 ∨ p.kind = 1 ∨ p.kind = 2 ∨ p.kind = 3 := by
  unfold Prim.right at h
  rw [Bool.and_eq_true] at h
  have h2 := h.2
  by_cases h0 : p.kind = 0
  · exact .inl h0
  · rw [if_neg h0] at h2
    by_cases h3 : p.kind = 3
    · exact .inr (.inr (.inr h3))
    · rw [if_neg h3] at h2
      simp only [Bool.and_eq_true, Bool.or_eq_true, decide_eq_true_eq] at h2
      rcases h2.2 with h | h
      · exact .inr (.inl h)
      · exact .inr (.inr (.inl h))
theorem right_name {p : Prim} (h : p.right = true) : nameOk p.name = true := by
  unfold Prim.right at h
  rw [Bool.and_eq_true] at h
  exact h.1
theorem right_new {p : Prim} (h : p.right = true) (h0 : p.kind = 0) : p.new.all lineOk = true := by
  unfold Prim.right at h
  rw [Bool.and_eq_true, if_pos h0] at h
  simp only [Bool.and_eq_true] at h
  exact h.2.1.2
theorem right_to {p : Prim} (h : p.right = true) (h0 : p.kind = 3) : nameOk p.to = true := by
  unfold Prim.right at h
  rw [Bool.and_eq_true, if_neg (by omega), if_pos h0] at h
  simp only [Bool.and_eq_true] at h
  exact h.2.1.2
theorem splT_ok {l old new : List ByteArray} {z : Int} (hl : l.all lineOk = true) (hn : new.all lineOk = true) : (splT l z old new).all lineOk = true := by
  unfold splT
  split
  · rw [List.all_eq_true] at hl hn ⊢
    intro x hx
    rcases List.mem_append.1 hx with hx | hx
    · rcases List.mem_append.1 hx with hx | hx
      · exact hl x (List.mem_of_mem_take hx)
      · exact hn x hx
    · exact hl x (List.mem_of_mem_drop hx)
  · rfl
theorem apply_eq {T : List File} (hS : Sor T) (hG : Good T) (p : Prim) : applyT T p = rApplyT T p := by
  unfold applyT rApplyT
  by_cases hr : p.right = false
  · rw [if_pos hr, if_pos hr]
  · have hr' : p.right = true := by simpa using hr
    rw [if_neg hr, if_neg hr]
    rcases right_kind hr' with h | h | h | h
    · rw [if_pos h, if_pos h]
      unfold hunkT
      by_cases h1 : hasT T p.name = true
      · by_cases h2 : standsB (getL T p.name) p.pos p.old = true
        · rw [if_neg (by simp [h1, h2]), if_pos ⟨h1, h2⟩]
          unfold tPut
          have h4 := splT_ok (z := p.pos) (old := p.old) (hG.get p.name) (right_new hr' h)
          rw [if_neg (by simp [h1]), if_neg (by simp only [h4]; simp)]
          rfl
        · rw [if_pos (.inr (by simpa using h2)), if_neg (by simp [h2])]
      · rw [if_pos (.inl (by simpa using h1)), if_neg (by simp [h1])]
    · rw [if_neg (by omega), if_neg (by omega), if_pos h, if_neg (by omega), if_pos h]
      unfold tAdd
      have hn := right_name hr'
      rw [if_neg (by simp [hn])]
      by_cases h1 : hasT T p.name = true
      · rw [if_pos h1, if_neg (by simp [h1])]; rfl
      · rw [if_neg h1, if_pos (by simpa using h1)]; rfl
    · rw [if_neg (by omega), if_neg (by omega), if_neg (by omega), if_neg (by omega), if_neg (by omega), if_pos h]
      unfold tRem
      by_cases h1 : hasT T p.name = true
      · rw [if_neg (by simp [h1])]
        by_cases h2 : 0 < (getL T p.name).length
        · rw [if_pos h2, if_neg (by omega)]; rfl
        · rw [if_neg h2, if_pos ⟨h1, by omega⟩]; rfl
      · rw [if_pos (by simpa using h1), if_neg (by simp [h1])]; rfl
    · rw [if_neg (by omega), if_pos h, if_neg (by omega), if_neg (by omega), if_neg (by omega), if_pos h, move_eq hS]
      unfold rMove
      have hn := right_to hr' h
      by_cases h1 : hasT T p.name = true
      · rw [if_neg (by simp [h1, hn])]
        by_cases h2 : hasT T p.to = true
        · rw [if_pos h2, if_neg (by simp [h2])]; rfl
        · rw [if_neg h2, if_pos ⟨h1, by simpa using h2⟩]; rfl
      · rw [if_pos (.inl (by simpa using h1)), if_neg (by simp [h1])]; rfl
theorem rApply_sor {T : List File} (hS : Sor T) (p : Prim) : Sor (rApplyT T p).1 := by
  unfold rApplyT
  repeat' split
  all_goals first | exact hS | exact hS.put _ _ | exact hS.del _ | exact (hS.del _).put _ _
theorem rApply_good {T : List File} (hG : Good T) (p : Prim) : Good (rApplyT T p).1 := by
  unfold rApplyT
  by_cases hr : p.right = false
  · rw [if_pos hr]; exact hG
  · have hr' : p.right = true := by simpa using hr
    have hn := right_name hr'
    rw [if_neg hr]
    split
    · rename_i h
      split
      · exact hG.put hn (splT_ok (hG.get _) (right_new hr' h))
      · exact hG
    · split
      · split
        · exact hG.put hn rfl
        · exact hG
      · split
        · split
          · exact hG.del _
          · exact hG
        · split
          · rename_i h
            split
            · exact (hG.del _).put (right_to hr' h) (hG.get _)
            · exact hG
          · exact hG
end Go.Sx

end
section
set_option linter.unusedVariables false
set_option linter.unusedSimpArgs false
namespace Go.Proofs.YtdbiillompeclaaGreatDoor.X
open Go Go.RowKit Go.Proofs Go.Sx
attribute [local irreducible] slA isA box row


theorem inf9x : ∃ i0, Tryz.prog.info? 9 = some i0 := by
 obtain ⟨i0, h, _⟩ := info_parts inf9
 exact ⟨i0, h⟩

set_option maxRecDepth 100000 in
theorem c_lineStands (l part : List ByteArray) (A B : Option Addr) (c c' : Nat) (z : Int) (hl : l.length ≤ 2000000) (hp : part.length ≤ 2000000) (hc : l.length ≤ c) : Con Tryz.prog 161 [.slice A l.length c, .int .i64 z, .slice B part.length c'] [] [slA A l, slA B part] Unit (fun _ => .bool (standsB l z part)) (fun _ => []) (fun _ => []) := by
 refine con Tryz.func161 rfl Tryz.ntmps161 rfl ?_
 intro M0 F0 w0
 refine cs ?_
 refine cr ?_
 refine ls (op (p_asg rfl) rfl) ?_
 refine ln ?_
 refine nthen ?_
 refine cs ?_
 rcases stands_cases l z part with h1 | ⟨h1, h2⟩ | ⟨h1, h2, h3⟩ | ⟨k, rfl, h4⟩
 ·
  refine cr ?_
  refine ls (op (p_move rfl) rfl) ?_
  refine ls (op (p_icmp rfl rfl rfl) rfl) ?_
  refine fixL (congrArg Value.bool (decide_eq_false h1)) ?_
  refine ls (op (p_move rfl) rfl) ?_
  refine lskip rfl rfl rfl rfl rfl ?_
  refine lskip rfl rfl rfl rfl rfl ?_
  refine lskip rfl rfl rfl rfl rfl ?_
  refine lskip rfl rfl rfl rfl rfl ?_
  refine ls (op (p_pickf rfl rfl) rfl) ?_
  refine ls (op (p_move rfl) rfl) ?_
  refine lskip rfl rfl rfl rfl rfl ?_
  refine lskip rfl rfl rfl rfl rfl ?_
  refine lskip rfl rfl rfl rfl rfl ?_
  refine lskip rfl rfl rfl rfl rfl ?_
  refine lskip rfl rfl rfl rfl rfl ?_
  refine lskip rfl rfl rfl rfl rfl ?_
  refine lskip rfl rfl rfl rfl rfl ?_
  refine ls (op (p_pickf rfl rfl) rfl) ?_
  refine ls (op (p_move rfl) rfl) ?_
  refine lskip rfl rfl rfl rfl rfl ?_
  refine lskip rfl rfl rfl rfl rfl ?_
  refine lskip rfl rfl rfl rfl rfl ?_
  refine lskip rfl rfl rfl rfl rfl ?_
  refine lskip rfl rfl rfl rfl rfl ?_
  refine lskip rfl rfl rfl rfl rfl ?_
  refine lskip rfl rfl rfl rfl rfl ?_
  refine lskip rfl rfl rfl rfl rfl ?_
  refine lskip rfl rfl rfl rfl rfl ?_
  refine ls (op (p_pickf rfl rfl) rfl) ?_
  refine ls (op (p_asg rfl) rfl) ?_
  refine ln ?_
  refine nthen ?_
  refine cret ?_
  refine xret (fun _ _ h => h) ?_
  refine rret (is := []) () (Or.inl rfl) (Res.t rfl Res.d) ?_ rfl (by repeat' (first | constructor | apply Sub.suf))
  simp [packV, standsB, h1]
 ·
  refine cr ?_
  refine ls (op (p_move rfl) rfl) ?_
  refine ls (op (p_icmp rfl rfl rfl) rfl) ?_
  refine fixL (congrArg Value.bool (decide_eq_true h1)) ?_
  refine ls (op (p_move rfl) rfl) ?_
  refine lwant rfl rfl rfl rfl (op (p_move rfl) rfl) ?_
  refine lwant rfl rfl rfl rfl (op (p_move rfl) rfl) ?_
  refine lwant rfl rfl rfl rfl (op (p_lenl rfl Tryz.underlying37) rfl) ?_
  refine lwant rfl rfl rfl rfl (op (p_icmp rfl rfl rfl) rfl) ?_
  refine fixL (congrArg Value.bool (decide_eq_false h2)) ?_
  refine ls (op (p_pickt rfl rfl) rfl) ?_
  refine ls (op (p_move rfl) rfl) ?_
  refine lskip rfl rfl rfl rfl rfl ?_
  refine lskip rfl rfl rfl rfl rfl ?_
  refine lskip rfl rfl rfl rfl rfl ?_
  refine lskip rfl rfl rfl rfl rfl ?_
  refine lskip rfl rfl rfl rfl rfl ?_
  refine lskip rfl rfl rfl rfl rfl ?_
  refine lskip rfl rfl rfl rfl rfl ?_
  refine ls (op (p_pickf rfl rfl) rfl) ?_
  refine ls (op (p_move rfl) rfl) ?_
  refine lskip rfl rfl rfl rfl rfl ?_
  refine lskip rfl rfl rfl rfl rfl ?_
  refine lskip rfl rfl rfl rfl rfl ?_
  refine lskip rfl rfl rfl rfl rfl ?_
  refine lskip rfl rfl rfl rfl rfl ?_
  refine lskip rfl rfl rfl rfl rfl ?_
  refine lskip rfl rfl rfl rfl rfl ?_
  refine lskip rfl rfl rfl rfl rfl ?_
  refine lskip rfl rfl rfl rfl rfl ?_
  refine ls (op (p_pickf rfl rfl) rfl) ?_
  refine ls (op (p_asg rfl) rfl) ?_
  refine ln ?_
  refine nthen ?_
  refine cret ?_
  refine xret (fun _ _ h => h) ?_
  refine rret (is := []) () (Or.inl rfl) (Res.t rfl Res.d) ?_ rfl (by repeat' (first | constructor | apply Sub.suf))
  simp [packV, standsB, h2]
 ·
  refine cr ?_
  refine ls (op (p_move rfl) rfl) ?_
  refine ls (op (p_icmp rfl rfl rfl) rfl) ?_
  refine fixL (congrArg Value.bool (decide_eq_true h1)) ?_
  refine ls (op (p_move rfl) rfl) ?_
  refine lwant rfl rfl rfl rfl (op (p_move rfl) rfl) ?_
  refine lwant rfl rfl rfl rfl (op (p_move rfl) rfl) ?_
  refine lwant rfl rfl rfl rfl (op (p_lenl rfl Tryz.underlying37) rfl) ?_
  refine lwant rfl rfl rfl rfl (op (p_icmp rfl rfl rfl) rfl) ?_
  refine fixL (congrArg Value.bool (decide_eq_true h2)) ?_
  refine ls (op (p_pickt rfl rfl) rfl) ?_
  refine ls (op (p_move rfl) rfl) ?_
  refine lwant rfl rfl rfl rfl (op (p_move rfl) rfl) ?_
  refine lwant rfl rfl rfl rfl (op (p_lenl rfl Tryz.underlying37) rfl) ?_
  refine lwant rfl rfl rfl rfl (op (p_move rfl) rfl) ?_
  refine lwant rfl rfl rfl rfl (op (p_lenl rfl Tryz.underlying37) rfl) ?_
  refine lwant rfl rfl rfl rfl (op (p_move rfl) rfl) ?_
  refine lwant rfl rfl rfl rfl (op (p_sub rfl rfl (by omega)) rfl) ?_
  refine lwant rfl rfl rfl rfl (op (p_icmp rfl rfl rfl) rfl) ?_
  refine fixL (congrArg Value.bool (decide_eq_false h3)) ?_
  refine ls (op (p_pickt rfl rfl) rfl) ?_
  refine ls (op (p_move rfl) rfl) ?_
  refine lskip rfl rfl rfl rfl rfl ?_
  refine lskip rfl rfl rfl rfl rfl ?_
  refine lskip rfl rfl rfl rfl rfl ?_
  refine lskip rfl rfl rfl rfl rfl ?_
  refine lskip rfl rfl rfl rfl rfl ?_
  refine lskip rfl rfl rfl rfl rfl ?_
  refine lskip rfl rfl rfl rfl rfl ?_
  refine lskip rfl rfl rfl rfl rfl ?_
  refine lskip rfl rfl rfl rfl rfl ?_
  refine ls (op (p_pickf rfl rfl) rfl) ?_
  refine ls (op (p_asg rfl) rfl) ?_
  refine ln ?_
  refine nthen ?_
  refine cret ?_
  refine xret (fun _ _ h => h) ?_
  refine rret (is := []) () (Or.inl rfl) (Res.t rfl Res.d) ?_ rfl (by repeat' (first | constructor | apply Sub.suf))
  simp only [packV, standsB]; rw [decide_eq_false h3]; simp
 ·
  refine cmono (fun a w h => subS (l' := (l.drop k).take part.length) (c := c) k (k + part.length) (by repeat (first | exact In.z | apply In.s)) (by omega) (by omega) hc (by simp) h) ?_
  refine cr ?_
  refine ls (op (p_move rfl) rfl) ?_
  refine ls (op (p_icmp rfl rfl rfl) rfl) ?_
  refine fixL (congrArg Value.bool (decide_eq_true (by omega))) ?_
  refine ls (op (p_move rfl) rfl) ?_
  refine lwant rfl rfl rfl rfl (op (p_move rfl) rfl) ?_
  refine lwant rfl rfl rfl rfl (op (p_move rfl) rfl) ?_
  refine lwant rfl rfl rfl rfl (op (p_lenl rfl Tryz.underlying37) rfl) ?_
  refine lwant rfl rfl rfl rfl (op (p_icmp rfl rfl rfl) rfl) ?_
  refine fixL (congrArg Value.bool (decide_eq_true (by omega))) ?_
  refine ls (op (p_pickt rfl rfl) rfl) ?_
  refine ls (op (p_move rfl) rfl) ?_
  refine lwant rfl rfl rfl rfl (op (p_move rfl) rfl) ?_
  refine lwant rfl rfl rfl rfl (op (p_lenl rfl Tryz.underlying37) rfl) ?_
  refine lwant rfl rfl rfl rfl (op (p_move rfl) rfl) ?_
  refine lwant rfl rfl rfl rfl (op (p_lenl rfl Tryz.underlying37) rfl) ?_
  refine lwant rfl rfl rfl rfl (op (p_move rfl) rfl) ?_
  refine lwant rfl rfl rfl rfl (op (p_sub rfl rfl (by omega)) rfl) ?_
  refine lwant rfl rfl rfl rfl (op (p_icmp rfl rfl rfl) rfl) ?_
  refine fixL (congrArg Value.bool (decide_eq_true (by omega))) ?_
  refine ls (op (p_pickt rfl rfl) rfl) ?_
  refine ls (op (p_move rfl) rfl) ?_
  refine lwant rfl rfl rfl rfl (op (p_move rfl) rfl) ?_
  refine lwant rfl rfl rfl rfl (op (p_move rfl) rfl) ?_
  refine lwant rfl rfl rfl rfl (op (p_move rfl) rfl) ?_
  refine lwant rfl rfl rfl rfl (op (p_move rfl) rfl) ?_
  refine lwant rfl rfl rfl rfl (op (p_lenl rfl Tryz.underlying37) rfl) ?_
  refine lwant rfl rfl rfl rfl (op (p_add rfl rfl (by omega)) rfl) ?_
  refine lwant rfl rfl rfl rfl (op (p_sl k (k + part.length) (by omega) (by omega) rfl (by omega) Tryz.underlying37 Tryz.sizeOf9 rfl rfl rfl) rfl) ?_
  refine fixL (slen (m' := ((l.drop k).take part.length).length) (by rw [List.length_take, List.length_drop]; omega)) ?_
  refine lwant rfl rfl rfl rfl (op (p_move rfl) rfl) ?_
  refine lwant rfl rfl rfl rfl (o_call (is := []) Tryz.call83 (c_lineSame ((l.drop k).take part.length) part _ _ _ _ (by rw [List.length_take]; omega)) rfl rfl (by repeat' (first | constructor | apply Sub.suf)) rfl) ?_
  refine le ?_; intro x33
  refine ls (op (p_pickt rfl rfl) rfl) ?_
  refine ls (op (p_asg rfl) rfl) ?_
  refine ln ?_
  refine nthen ?_
  refine cret ?_
  refine xret (fun _ _ h => h) ?_
  refine rret (is := []) () (Or.inl rfl) (Res.t rfl Res.d) ?_ rfl (by repeat' (first | constructor | apply Sub.suf))
  rw [standsB_nat h4]; rfl

set_option maxRecDepth 100000 in
theorem c_lineSplice (l old wi : List ByteArray) (A B C : Option Addr) (c c' c2 : Nat) (z : Int) (hl : l.length ≤ 2000000) (ho : old.length ≤ 2000000) (hw : l.length + wi.length ≤ 2000000) (hc : l.length ≤ c) : Con Tryz.prog 139 [.slice A l.length c, .int .i64 z, .slice B old.length c', .slice C wi.length c2] [] [slA A l, slA B old, slA C wi] (Option Addr × Nat) (fun y => .tuple #[.slice y.1 (splT l z old wi).length y.2, .bool (standsB l z old)]) (fun y => [row 9 y.1 y.2 (splT l z old wi)]) (fun _ => []) := by
 refine con Tryz.func139 rfl Tryz.ntmps139 rfl ?_
 intro M0 F0 w0
 refine cs ?_
 refine cr ?_
 refine ls (op (p_asg rfl) rfl) ?_
 refine ls (op (p_asg rfl) rfl) ?_
 refine ln ?_
 refine nthen ?_
 refine cs ?_
 refine cs ?_
 refine cr ?_
 refine ls (op (p_move rfl) rfl) ?_
 refine ls (op (p_move rfl) rfl) ?_
 refine ls (op (p_move rfl) rfl) ?_
 refine ls (o_call (is := []) Tryz.call161 (c_lineStands l old A B c c' z hl ho hc) rfl rfl (by repeat' (first | constructor | apply Sub.suf)) rfl) ?_
 refine le ?_; intro x13
 refine ls (op (p_not rfl) rfl) ?_
 refine ln ?_
 refine nthen ?_
 refine cc rfl ?_ ?_
 ·
  intro h14
  have hst : standsB l z old = false := by simpa using h14
  have hsp : splT l z old wi = [] := by simp [splT, hst]
  rw [hsp, hst]
  refine cmono (fun a w h => nilRow (α := ByteArray) 9 h) ?_
  refine cs ?_
  refine cr ?_
  refine ls (op (p_asg rfl) rfl) ?_
  refine ls (op (p_asg rfl) rfl) ?_
  refine ln ?_
  refine nthen ?_
  refine cret ?_
  refine xret (fun _ _ h => h) ?_
  refine rret (is := [0]) (none, 0) (Or.inl rfl) (Res.t rfl (Res.t rfl Res.d)) (rfl) rfl (by repeat' (first | constructor | apply Sub.suf))
 ·
  intro h14
  have hst : standsB l z old = true := by simpa using h14
  obtain ⟨k, rfl, hko, _⟩ := standsB_yes hst
  have hsp : splT l (k : Int) old wi = l.take k ++ wi ++ l.drop (k + old.length) := by unfold splT; rw [if_pos hst]; rfl
  rw [hsp, hst]
  have hlk : (l.take k).length = k := by rw [List.length_take]; omega
  have hld : (l.drop (k + old.length)).length = l.length - (k + old.length) := List.length_drop
  refine cskip ?_
  refine nthen ?_
  refine cs ?_
  refine cmono (fun a w h => subP (α := ByteArray) k (by repeat (first | exact In.z | apply In.s)) (by omega) h) ?_
  refine cmono (fun a w h => subS (l' := l.drop (k + old.length)) (c := c) (k + old.length) l.length (by repeat (first | exact In.z | apply In.s)) (by omega) (Nat.le_refl _) hc (by rw [List.take_of_length_le (by simp)]) h) ?_
  rcases emem (wi = []) (l.drop (k + old.length) = []) with ⟨hwi, hdr⟩ | ⟨hwi, hdr⟩ | hwi
  ·
   have hR : l.take k ++ wi ++ l.drop (k + old.length) = l.take k := by rw [hwi, hdr]; simp
   have hw0 : wi.length = 0 := by rw [hwi]; rfl
   have hd0 : l.length - (k + old.length) = 0 := by rw [← hld, hdr]; rfl
   refine cd [5, 12, 13] [] TryzX.mixed TOk.d ?_
   refine tk 0 rfl (by kernel_rfl) (fun _ _ _ h => h) gnone (TTany _) (p_move rfl) rfl ?_
   refine tk 1 rfl (by kernel_rfl) (fun _ _ _ h => h) gnone (TTany _) (p_move rfl) rfl ?_
   refine tk 2 rfl (by kernel_rfl) (fun _ _ _ h => h) gnone (TTany _) (p_move rfl) rfl ?_
   refine tk 3 rfl (by kernel_rfl) (fun _ _ _ h => h) gnone (TTany _) (p_slm k k (Nat.le_refl _) (by omega) rfl rfl Tryz.underlying37 Tryz.sizeOf9 rfl rfl rfl) rfl ?_
   refine fixA (slen2 (m' := (l.take k).length) (c' := (l.take k).length) (by omega) (by omega)) ?_
   refine tk 4 rfl (by kernel_rfl) (fun _ _ _ h => h) gnone (TTany _) (p_move rfl) rfl ?_
   refine fixA (slen (m' := 0) hw0) ?_
   refine tk 6 rfl (by kernel_rfl) (fun _ _ _ h => h) gnone (TTany _) (p_move rfl) rfl ?_
   refine tk 7 rfl (by kernel_rfl) (fun _ _ _ h => h) gnone (TTany _) (p_move rfl) rfl ?_
   refine tk 8 rfl (by kernel_rfl) (fun _ _ _ h => h) gnone (TTany _) (p_move rfl) rfl ?_
   refine tk 9 rfl (by kernel_rfl) (fun _ _ _ h => h) gnone (TTany _) (p_lenl rfl Tryz.underlying37) rfl ?_
   refine tk 10 rfl (by kernel_rfl) (fun _ _ _ h => h) gnone (TTany _) (p_add rfl rfl (by omega)) rfl ?_
   refine tk 11 rfl (by kernel_rfl) (fun _ _ _ h => h) gnone (TTany _) (p_sll (k + old.length) (by omega) (by omega) (by omega) Tryz.underlying37 Tryz.sizeOf9 rfl rfl) rfl ?_
   refine fixA (slen (m' := 0) (by omega)) ?_
   refine df 5 (by kernel_rfl) ?_
   refine doR rfl (op (p_app0 Tryz.underlying37 inf9x (Nat.le_refl _) rfl rfl) rfl) TOk.d ?_
   refine df 12 (by kernel_rfl) ?_
   refine doR rfl (op (p_app0 Tryz.underlying37 inf9x (Nat.le_refl _) rfl rfl) rfl) TOk.d ?_
   refine df 13 (by kernel_rfl) ?_
   refine doR rfl (o_call (is := []) Tryz.call74 (c_sCloneR (l.take k) _ _ (by omega)) rfl rfl (by repeat' (first | constructor | apply Sub.suf)) rfl) TOk.d ?_
   refine ea ?_; rintro ⟨A5, c5⟩
   refine tk 14 rfl (by kernel_rfl) (fun _ _ _ h => h) gnone (TTany _) (p_asg rfl) rfl ?_
   refine tk 15 rfl (by kernel_rfl) (fun _ _ _ h => h) gnone (TTany _) (p_asg rfl) rfl ?_
   refine dn (by kernel_rfl) ?_
   refine nthen ?_
   refine cret ?_
   refine xret (fun _ _ h => h) ?_
   rw [hR]
   refine rret (is := [0]) (A5, c5) (Or.inl rfl) (Res.t rfl (Res.t rfl Res.d)) (rfl) rfl (by repeat' (first | constructor | apply Sub.suf))
  ·
   have hR : l.take k ++ wi ++ l.drop (k + old.length) = l.take k ++ l.drop (k + old.length) := by rw [hwi]; simp
   have hw0 : wi.length = 0 := by rw [hwi]; rfl
   refine cd [5, 12, 13] [] TryzX.mixed TOk.d ?_
   refine tk 0 rfl (by kernel_rfl) (fun _ _ _ h => h) gnone (TTany _) (p_move rfl) rfl ?_
   refine tk 1 rfl (by kernel_rfl) (fun _ _ _ h => h) gnone (TTany _) (p_move rfl) rfl ?_
   refine tk 2 rfl (by kernel_rfl) (fun _ _ _ h => h) gnone (TTany _) (p_move rfl) rfl ?_
   refine tk 3 rfl (by kernel_rfl) (fun _ _ _ h => h) gnone (TTany _) (p_slm k k (Nat.le_refl _) (by omega) rfl rfl Tryz.underlying37 Tryz.sizeOf9 rfl rfl rfl) rfl ?_
   refine fixA (slen2 (m' := (l.take k).length) (c' := (l.take k).length) (by omega) (by omega)) ?_
   refine tk 4 rfl (by kernel_rfl) (fun _ _ _ h => h) gnone (TTany _) (p_move rfl) rfl ?_
   refine fixA (slen (m' := 0) hw0) ?_
   refine tk 6 rfl (by kernel_rfl) (fun _ _ _ h => h) gnone (TTany _) (p_move rfl) rfl ?_
   refine tk 7 rfl (by kernel_rfl) (fun _ _ _ h => h) gnone (TTany _) (p_move rfl) rfl ?_
   refine tk 8 rfl (by kernel_rfl) (fun _ _ _ h => h) gnone (TTany _) (p_move rfl) rfl ?_
   refine tk 9 rfl (by kernel_rfl) (fun _ _ _ h => h) gnone (TTany _) (p_lenl rfl Tryz.underlying37) rfl ?_
   refine tk 10 rfl (by kernel_rfl) (fun _ _ _ h => h) gnone (TTany _) (p_add rfl rfl (by omega)) rfl ?_
   refine tk 11 rfl (by kernel_rfl) (fun _ _ _ h => h) gnone (TTany _) (p_sll (k + old.length) (by omega) (by omega) (by omega) Tryz.underlying37 Tryz.sizeOf9 rfl rfl) rfl ?_
   refine fixA (slen (m' := (l.drop (k + old.length)).length) (by omega)) ?_
   refine df 5 (by kernel_rfl) ?_
   refine doR rfl (op (p_app0 Tryz.underlying37 inf9x (Nat.le_refl _) rfl rfl) rfl) TOk.d ?_
   refine df 12 (by kernel_rfl) ?_
   refine doR rfl (o_appF Tryz.underlying37 inf9 rfl (by decide) (by decide) rfl rfl rfl (by rw [hlk, hld]; omega) hdr (by repeat' (first | constructor | apply Sub.suf)) rfl) TOk.d ?_
   refine ea ?_; rintro ⟨A4, c4⟩
   refine amono (fun a w h => Go.Sx.freeze (i := 0) rfl h) ?_
   refine df 13 (by kernel_rfl) ?_
   refine doR rfl (o_call (is := []) Tryz.call74 (c_sCloneR (l.take k ++ l.drop (k + old.length)) A4 c4 (by rw [List.length_append]; omega)) rfl rfl (by repeat' (first | constructor | apply Sub.suf)) rfl) TOk.d ?_
   refine ea ?_; rintro ⟨A5, c5⟩
   refine tk 14 rfl (by kernel_rfl) (fun _ _ _ h => h) gnone (TTany _) (p_asg rfl) rfl ?_
   refine tk 15 rfl (by kernel_rfl) (fun _ _ _ h => h) gnone (TTany _) (p_asg rfl) rfl ?_
   refine dn (by kernel_rfl) ?_
   refine nthen ?_
   refine cret ?_
   refine xret (fun _ _ h => h) ?_
   rw [hR]
   refine rret (is := [0]) (A5, c5) (Or.inl rfl) (Res.t rfl (Res.t rfl Res.d)) (rfl) rfl (by repeat' (first | constructor | apply Sub.suf))
  ·
   have hR : l.take k ++ wi ++ l.drop (k + old.length) = l.take k ++ wi ++ l.drop (k + old.length) := rfl
   refine cd [5, 12, 13] [] TryzX.mixed TOk.d ?_
   refine tk 0 rfl (by kernel_rfl) (fun _ _ _ h => h) gnone (TTany _) (p_move rfl) rfl ?_
   refine tk 1 rfl (by kernel_rfl) (fun _ _ _ h => h) gnone (TTany _) (p_move rfl) rfl ?_
   refine tk 2 rfl (by kernel_rfl) (fun _ _ _ h => h) gnone (TTany _) (p_move rfl) rfl ?_
   refine tk 3 rfl (by kernel_rfl) (fun _ _ _ h => h) gnone (TTany _) (p_slm k k (Nat.le_refl _) (by omega) rfl rfl Tryz.underlying37 Tryz.sizeOf9 rfl rfl rfl) rfl ?_
   refine fixA (slen2 (m' := (l.take k).length) (c' := (l.take k).length) (by omega) (by omega)) ?_
   refine tk 4 rfl (by kernel_rfl) (fun _ _ _ h => h) gnone (TTany _) (p_move rfl) rfl ?_
   skip
   refine tk 6 rfl (by kernel_rfl) (fun _ _ _ h => h) gnone (TTany _) (p_move rfl) rfl ?_
   refine tk 7 rfl (by kernel_rfl) (fun _ _ _ h => h) gnone (TTany _) (p_move rfl) rfl ?_
   refine tk 8 rfl (by kernel_rfl) (fun _ _ _ h => h) gnone (TTany _) (p_move rfl) rfl ?_
   refine tk 9 rfl (by kernel_rfl) (fun _ _ _ h => h) gnone (TTany _) (p_lenl rfl Tryz.underlying37) rfl ?_
   refine tk 10 rfl (by kernel_rfl) (fun _ _ _ h => h) gnone (TTany _) (p_add rfl rfl (by omega)) rfl ?_
   refine tk 11 rfl (by kernel_rfl) (fun _ _ _ h => h) gnone (TTany _) (p_sll (k + old.length) (by omega) (by omega) (by omega) Tryz.underlying37 Tryz.sizeOf9 rfl rfl) rfl ?_
   refine fixA (slen (m' := (l.drop (k + old.length)).length) (by omega)) ?_
   refine df 5 (by kernel_rfl) ?_
   refine doR rfl (o_appF Tryz.underlying37 inf9 rfl (by decide) (by decide) rfl rfl rfl (by rw [hlk]; omega) hwi (by repeat' (first | constructor | apply Sub.suf)) rfl) TOk.d ?_
   refine ea ?_; rintro ⟨A3, c3⟩
   refine df 12 (by kernel_rfl) ?_
   refine doR rfl (o_appX (i := 0) Tryz.underlying37 inf9 rfl (by decide) (by decide) rfl rfl (by rw [List.length_append, hlk, hld]; omega) rfl (by repeat' (first | constructor | apply Sub.suf)) rfl) TOk.d ?_
   refine ea ?_; rintro ⟨A4, c4⟩
   refine amono (fun a w h => Go.Sx.freeze (i := 0) rfl h) ?_
   refine df 13 (by kernel_rfl) ?_
   refine doR rfl (o_call (is := []) Tryz.call74 (c_sCloneR (l.take k ++ wi ++ l.drop (k + old.length)) A4 c4 (by rw [List.length_append, List.length_append]; omega)) rfl rfl (by repeat' (first | constructor | apply Sub.suf)) rfl) TOk.d ?_
   refine ea ?_; rintro ⟨A5, c5⟩
   refine tk 14 rfl (by kernel_rfl) (fun _ _ _ h => h) gnone (TTany _) (p_asg rfl) rfl ?_
   refine tk 15 rfl (by kernel_rfl) (fun _ _ _ h => h) gnone (TTany _) (p_asg rfl) rfl ?_
   refine dn (by kernel_rfl) ?_
   refine nthen ?_
   refine cret ?_
   refine xret (fun _ _ h => h) ?_
   refine rret (is := [0]) (A5, c5) (Or.inl rfl) (Res.t rfl (Res.t rfl Res.d)) (rfl) rfl (by repeat' (first | constructor | apply Sub.suf))

set_option maxRecDepth 100000 in
theorem c_pFits (e : Int) : Con Tryz.prog 103 [.int .i64 e] [] [] Unit (fun _ => .int .i64 (if e = 0 then 0 else 31)) (fun _ => []) (fun _ => []) := by
 refine con Tryz.func103 rfl Tryz.ntmps103 rfl ?_
 intro M0 F0 w0
 refine cs ?_
 refine cr ?_
 refine ls (op (p_asg rfl) rfl) ?_
 refine ln ?_
 refine nthen ?_
 refine cs ?_
 refine cs ?_
 refine cr ?_
 refine ls (op (p_move rfl) rfl) ?_
 refine ls (op (p_icmp rfl rfl rfl) rfl) ?_
 refine ln ?_
 refine nthen ?_
 refine cc rfl ?_ ?_
 ·
  intro h4
  have he : ¬ e = 0 := by simpa using h4
  refine cs ?_
  refine cr ?_
  refine ls (op (p_asg rfl) rfl) ?_
  refine ln ?_
  refine nthen ?_
  refine cret ?_
  refine xret (fun _ _ h => h) ?_
  refine rret (is := []) () (Or.inl rfl) (Res.t rfl Res.d) ?_ rfl (by repeat' (first | constructor | apply Sub.suf))
  rw [if_neg he]; rfl
 ·
  intro h4
  have he : e = 0 := by simpa using h4
  refine cskip ?_
  refine nthen ?_
  refine cs ?_
  refine cr ?_
  refine ls (op (p_asg rfl) rfl) ?_
  refine ln ?_
  refine nthen ?_
  refine cret ?_
  refine xret (fun _ _ h => h) ?_
  refine rret (is := []) () (Or.inl rfl) (Res.t rfl Res.d) ?_ rfl (by repeat' (first | constructor | apply Sub.suf))
  rw [if_pos he]; rfl

set_option maxRecDepth 100000 in
theorem c_pCalls : Con Tryz.prog 105 [] [] [] Nat (fun b => .map (some b)) (fun b => [obj b (.map #[{ key := .int .i64 1, val := .func (.func 25) #[] #[], born := 0 }, { key := .int .i64 2, val := .func (.func 129) #[] #[], born := 1 }] 2)]) (fun _ => []) := by
 refine con Tryz.func105 rfl Tryz.ntmps105 rfl ?_
 intro M0 F0 w0
 refine cs ?_
 refine cr ?_
 refine ls (op (p_asg rfl) rfl) ?_
 refine ln ?_
 refine nthen ?_
 refine cs ?_
 refine cr ?_
 refine ls (o_mmkx rfl) ?_
 refine le ?_; intro m1
 refine ls (o_insx Tryz.underlying157 Tryz.underlying3 rfl rfl rfl rfl (by repeat' constructor) (by repeat' constructor)) ?_
 refine ls (o_insx Tryz.underlying157 Tryz.underlying3 rfl rfl rfl rfl (by repeat' constructor) (by repeat' constructor)) ?_
 refine ls (op (p_move rfl) rfl) ?_
 refine ls (op (p_asg rfl) rfl) ?_
 refine ln ?_
 refine nthen ?_
 refine cret ?_
 refine xret (fun _ _ h => h) ?_
 refine rret (is := [0]) m1 (Or.inl rfl) (Res.t rfl Res.d) (rfl) rfl (by repeat' (first | constructor | apply Sub.suf))

end Go.Proofs.YtdbiillompeclaaGreatDoor.X

end
section
set_option linter.unusedVariables false
set_option linter.unusedSimpArgs false
namespace Go.Proofs.YtdbiillompeclaaGreatDoor.X
open Go Go.RowKit Go.Proofs Go.Sx
attribute [local irreducible] slA isA box row


set_option maxRecDepth 100000 in
theorem c_pHunk (p b : Nat) (T : List File) (pr : Prim) (y : Rp.Lay Prim) (hp : pr.fit) (hT : Tfit T) (hb : ∀ u, (getL T u).length + pr.new.length ≤ 2000000) : Con Tryz.prog 102 [.pointer (some ⟨p, 0, none⟩), sv pr y] [box p 120 [.map (some b)], tr b T] (Rp.asn pr y) {q : List File × Int // q = hunkT T pr} (fun q => .int .i64 q.1.2) (fun q => [box p 120 [.map (some b)], tr b q.1.1]) (fun _ => []) := by
 refine con Tryz.func102 rfl Tryz.ntmps102 rfl ?_
 intro M0 F0 w0
 refine cs ?_
 refine cr ?_
 refine ls (o_box rfl rfl rfl) ?_
 refine le ?_; intro b3
 refine ls (op (p_asg rfl) rfl) ?_
 refine ln ?_
 refine nthen ?_
 refine cs ?_
 refine cr ?_
 refine ls (op (p_move rfl) rfl) ?_
 refine ls (op (p_fa fa39_1 rfl) rfl) ?_
 refine ls (o_ld Tryz.isAgg9 rfl (by repeat' constructor) (by repeat' constructor) rfl) ?_
 refine ls (o_call (is := [1, 1]) Tryz.call28 (c_tGet p b T hT pr.name) rfl rfl (by repeat' (first | constructor | apply Sub.suf)) rfl) ?_
 refine le ?_; rintro ⟨A1, c1⟩
 refine lpure (St.rowcap (α := ByteArray) (e := 9) (by repeat' constructor)) ?_
 intro hcap
 refine lmono (fun a w h => freezeN (i := 0) rfl h) ?_
 refine ls (op (p_move rfl) rfl) ?_
 refine ls (op (p_ext rfl (by repeat' constructor)) rfl) ?_
 refine ls (op (p_ext rfl (by repeat' constructor)) rfl) ?_
 refine ls (op (p_asg rfl) rfl) ?_
 refine ls (op (p_asg rfl) rfl) ?_
 refine ln ?_
 refine nthen ?_
 refine cs ?_
 refine cr ?_
 refine ls (op (p_move rfl) rfl) ?_
 refine ls (op (p_fa fa39_3 rfl) rfl) ?_
 refine ls (o_ld Tryz.isAgg3 rfl (by repeat' constructor) (by repeat' constructor) rfl) ?_
 refine ls (op (p_fa fa39_4 rfl) rfl) ?_
 refine ls (o_ld Tryz.isAgg37 rfl (by repeat' constructor) (by repeat' constructor) rfl) ?_
 refine ls (op (p_fa fa39_5 rfl) rfl) ?_
 refine ls (o_ld Tryz.isAgg37 rfl (by repeat' constructor) (by repeat' constructor) rfl) ?_
 refine ls (o_call (is := []) Tryz.call139 (c_lineSplice (getL T pr.name) pr.old pr.new A1 y.1.1 y.2.1 c1 y.1.2 y.2.2 pr.pos (hT.get _) hp.o (hb _) hcap) rfl rfl (by repeat' (first | constructor | apply Sub.suf)) rfl) ?_
 refine le ?_; rintro ⟨A2, c2⟩
 refine lmono (fun a w h => freezeN (i := 0) rfl h) ?_
 refine ls (op (p_move rfl) rfl) ?_
 refine ls (op (p_ext rfl (by repeat' constructor)) rfl) ?_
 refine ls (op (p_ext rfl (by repeat' constructor)) rfl) ?_
 refine ls (op (p_asg rfl) rfl) ?_
 refine ls (op (p_asg rfl) rfl) ?_
 refine ln ?_
 refine nthen ?_
 refine cs ?_
 refine cs ?_
 refine cr ?_
 refine ls (op (p_move rfl) rfl) ?_
 refine ls (op (p_not rfl) rfl) ?_
 refine ls (op (p_move rfl) rfl) ?_
 refine splitL 29 rfl ?_ ?_
 ·
  intro h29
  have hno : hasT T pr.name = false := by simpa using h29
  refine lskip rfl rfl rfl rfl rfl ?_
  refine lskip rfl rfl rfl rfl rfl ?_
  refine ls (op (p_pickt rfl rfl) rfl) ?_
  refine ln ?_
  refine nthen ?_
  refine cc rfl (fun h => ?_) (fun h => by cases h)
  refine cs ?_
  refine cr ?_
  refine ls (op (p_asg rfl) rfl) ?_
  refine ln ?_
  refine nthen ?_
  refine cret ?_
  refine xret (fun _ _ h => h) ?_
  refine rret (is := [0, 0]) ⟨(T, 31), by simp [hunkT, hno]⟩ (Or.inl rfl) (Res.t rfl Res.d) (rfl) rfl (by repeat' (first | constructor | apply Sub.suf))
 ·
  intro h29
  have hyes : hasT T pr.name = true := by simpa using h29
  refine lwant rfl rfl rfl rfl (op (p_move rfl) rfl) ?_
  refine lwant rfl rfl rfl rfl (op (p_not rfl) rfl) ?_
  refine ls (op (p_pickf rfl rfl) rfl) ?_
  refine ln ?_
  refine nthen ?_
  refine cc rfl ?_ ?_
  ·
   intro h32
   have hst : standsB (getL T pr.name) pr.pos pr.old = false := by simpa using h32
   refine cs ?_
   refine cr ?_
   refine ls (op (p_asg rfl) rfl) ?_
   refine ln ?_
   refine nthen ?_
   refine cret ?_
   refine xret (fun _ _ h => h) ?_
   refine rret (is := [0, 0]) ⟨(T, 31), by simp [hunkT, hst]⟩ (Or.inl rfl) (Res.t rfl Res.d) (rfl) rfl (by repeat' (first | constructor | apply Sub.suf))
  ·
   intro h32
   have hst : standsB (getL T pr.name) pr.pos pr.old = true := by simpa using h32
   refine cskip ?_
   refine nthen ?_
   refine cs ?_
   refine cr ?_
   refine ls (op (p_move rfl) rfl) ?_
   refine ls (op (p_fa fa39_1 rfl) rfl) ?_
   refine ls (o_ld Tryz.isAgg9 rfl (by repeat' constructor) (by repeat' constructor) rfl) ?_
   refine ls (op (p_move rfl) rfl) ?_
   refine ls (o_call (is := [0, 0]) Tryz.call26 (c_tPut p b T pr.name (splT (getL T pr.name) pr.pos pr.old pr.new) A2 c2 (Nat.le_trans splT_len (hb _))) rfl rfl (by repeat' (first | constructor | apply Sub.suf)) rfl) ?_
   refine le ?_; rintro ⟨⟨T1, e1⟩, hq⟩
   refine ls (o_call (is := []) Tryz.call103 (c_pFits e1) rfl rfl (by repeat' (first | constructor | apply Sub.suf)) rfl) ?_
   refine le ?_; intro x38
   refine ls (op (p_asg rfl) rfl) ?_
   refine ln ?_
   refine nthen ?_
   refine cret ?_
   refine xret (fun _ _ h => h) ?_
   refine rret (is := [0, 0]) ⟨(T1, if e1 = 0 then 0 else 31), by unfold hunkT; rw [if_neg (show ¬ (hasT T pr.name = false ∨ standsB (getL T pr.name) pr.pos pr.old = false) by simp [hyes, hst]), ← hq]; rfl⟩ (Or.inl rfl) (Res.t rfl Res.d) (rfl) rfl (by repeat' (first | constructor | apply Sub.suf))

set_option maxRecDepth 100000 in
theorem c_pApply (p b : Nat) (T : List File) (pr : Prim) (y : Rp.Lay Prim) (hp : pr.fit) (hT : Tfit T) (hb : ∀ u, (getL T u).length + pr.new.length ≤ 2000000) : Con Tryz.prog 51 [.pointer (some ⟨p, 0, none⟩), sv pr y] [box p 120 [.map (some b)], tr b T] (Rp.asn pr y) {q : List File × Int // q = applyT T pr} (fun q => .int .i64 q.1.2) (fun q => [box p 120 [.map (some b)], tr b q.1.1]) (fun _ => []) := by
 refine con Tryz.func51 rfl Tryz.ntmps51 rfl ?_
 intro M0 F0 w0
 refine cs ?_
 refine cr ?_
 refine ls (o_box rfl rfl rfl) ?_
 refine le ?_; intro b3
 refine ls (op (p_asg rfl) rfl) ?_
 refine ln ?_
 refine nthen ?_
 refine cs ?_
 refine cb ?_
 refine cs ?_
 refine cr ?_
 refine ls (o_ldw Tryz.isAgg39 Tryz.sizeOf39 rfl (by repeat' constructor) (by rfl) rfl) ?_
 refine ls (o_call (is := []) Tryz.call101 (c_primRight pr y hp) rfl rfl (by repeat' (first | constructor | apply Sub.suf)) rfl) ?_
 refine le ?_; intro x7
 refine ls (op (p_not rfl) rfl) ?_
 refine ls (op (p_asg rfl) rfl) ?_
 refine ln ?_
 refine nthen ?_
 refine cc rfl ?_ ?_
 ·
  intro h5
  have hr : pr.right = false := by simpa using h5
  refine cs ?_
  refine cr ?_
  refine ls (op (p_asg rfl) rfl) ?_
  refine ln ?_
  refine nthen ?_
  refine cret ?_
  refine xret (fun _ _ h => h) ?_
  refine rret (is := [1, 1]) ⟨(T, 30), by simp [applyT, hr]⟩ (Or.inl rfl) (Res.t rfl Res.d) (rfl) rfl (by repeat' (first | constructor | apply Sub.suf))
 ·
  intro h5
  have hr : pr.right = true := by simpa using h5
  have hr0 : ¬ pr.right = false := by rw [hr]; decide
  refine cs ?_
  refine cr ?_
  refine ls (op (p_fa fa39_0 rfl) rfl) ?_
  refine ls (o_ld Tryz.isAgg3 rfl (by repeat' constructor) (by repeat' constructor) rfl) ?_
  refine ls (op (p_icmp rfl rfl rfl) rfl) ?_
  refine ls (op (p_asg rfl) rfl) ?_
  refine ln ?_
  refine nthen ?_
  refine cc rfl ?_ ?_
  ·
   intro h9
   have k0 : pr.kind = 0 := by simpa using h9
   refine cs ?_
   refine cr ?_
   refine ls (op (p_move rfl) rfl) ?_
   refine ls (o_ldw Tryz.isAgg39 Tryz.sizeOf39 rfl (by repeat' constructor) (by rfl) rfl) ?_
   refine ls (o_call (is := [1, 1]) Tryz.call102 (c_pHunk p b T pr y hp hT hb) rfl rfl (by repeat' (first | constructor | apply Sub.suf)) rfl) ?_
   refine le ?_; rintro ⟨⟨T1, e1⟩, hq⟩
   refine ls (op (p_asg rfl) rfl) ?_
   refine ln ?_
   refine nthen ?_
   refine cret ?_
   refine xret (fun _ _ h => h) ?_
   refine rret (is := [0, 0]) ⟨(T1, e1), by unfold applyT; rw [if_neg hr0, if_pos k0]; exact hq⟩ (Or.inl rfl) (Res.t rfl Res.d) (rfl) rfl (by repeat' (first | constructor | apply Sub.suf))
  ·
   intro h9
   have k0 : ¬ pr.kind = 0 := by simpa using h9
   refine cs ?_
   refine cr ?_
   refine ls (op (p_fa fa39_0 rfl) rfl) ?_
   refine ls (o_ld Tryz.isAgg3 rfl (by repeat' constructor) (by repeat' constructor) rfl) ?_
   refine ls (op (p_icmp rfl rfl rfl) rfl) ?_
   refine ls (op (p_asg rfl) rfl) ?_
   refine ln ?_
   refine nthen ?_
   refine cc rfl ?_ ?_
   ·
    intro h16
    have k3 : pr.kind = 3 := by simpa using h16
    refine cs ?_
    refine cr ?_
    refine ls (op (p_move rfl) rfl) ?_
    refine ls (op (p_fa fa39_1 rfl) rfl) ?_
    refine ls (o_ld Tryz.isAgg9 rfl (by repeat' constructor) (by repeat' constructor) rfl) ?_
    refine ls (op (p_fa fa39_2 rfl) rfl) ?_
    refine ls (o_ld Tryz.isAgg9 rfl (by repeat' constructor) (by repeat' constructor) rfl) ?_
    refine ls (o_call (is := [1, 1]) Tryz.call104 (c_tMove p b T pr.name pr.to) rfl rfl (by repeat' (first | constructor | apply Sub.suf)) rfl) ?_
    refine le ?_; rintro ⟨⟨T1, e1⟩, hq⟩
    refine ls (o_call (is := []) Tryz.call103 (c_pFits e1) rfl rfl (by repeat' (first | constructor | apply Sub.suf)) rfl) ?_
    refine le ?_; intro x26
    refine ls (op (p_asg rfl) rfl) ?_
    refine ln ?_
    refine nthen ?_
    refine cret ?_
    refine xret (fun _ _ h => h) ?_
    refine rret (is := [0, 0]) ⟨(T1, if e1 = 0 then 0 else 31), by unfold applyT; rw [if_neg hr0, if_neg k0, if_pos k3, ← hq]; rfl⟩ (Or.inl rfl) (Res.t rfl Res.d) (rfl) rfl (by repeat' (first | constructor | apply Sub.suf))
   ·
    intro h16
    have k3 : ¬ pr.kind = 3 := by simpa using h16
    refine cskip ?_
    refine nblock ?_
    refine nthen ?_
    refine cs ?_
    have h12 : pr.kind = 1 ∨ pr.kind = 2 := by rcases right_kind hr with h | h | h | h; exact absurd h k0; exact .inl h; exact .inr h; exact absurd h k3
    rcases h12 with k1 | k1
    ·
     refine cd [0, 3, 7, 8] [(2, b3, 0, _), (6, b3, 1, _)] TryzX.mixed (TOk.t (isBoxS (by repeat' constructor) (k := 1) (by repeat (first | exact Cut.d | apply Cut.t | apply Cut.s))) (TOk.t (isBoxS (by repeat' constructor) (k := 1) (by repeat (first | exact Cut.d | apply Cut.t | apply Cut.s))) TOk.d)) ?_
     refine tk 1 rfl (by kernel_rfl) (fun _ _ _ h => h) gnone (TTany _) (p_fa fa39_0 rfl) rfl ?_
     refine tk 2 rfl (by kernel_rfl) (fun _ _ _ h => h) gnone (TTat (List.Mem.head _)) (p_ld Tryz.isAgg3 rfl) rfl ?_
     refine fixA (congrArg (Value.int .i64) k1) ?_
     refine tk 4 rfl (by kernel_rfl) (fun _ _ _ h => h) gnone (TTany _) (p_move rfl) rfl ?_
     refine tk 5 rfl (by kernel_rfl) (fun _ _ _ h => h) gnone (TTany _) (p_fa fa39_1 rfl) rfl ?_
     refine tk 6 rfl (by kernel_rfl) (fun _ _ _ h => h) gnone (TTat (List.Mem.tail _ (List.Mem.head _))) (p_ld Tryz.isAgg9 rfl) rfl ?_
     refine df 0 (by kernel_rfl) ?_
     refine doR rfl (o_call (is := []) Tryz.call105 (c_pCalls) rfl rfl (by repeat' (first | constructor | apply Sub.suf)) rfl) (TOk.t (isBoxE fun _ => isBoxS (by repeat' constructor) (k := 1) (by repeat (first | exact Cut.d | apply Cut.t | apply Cut.s))) (TOk.t (isBoxE fun _ => isBoxS (by repeat' constructor) (k := 1) (by repeat (first | exact Cut.d | apply Cut.t | apply Cut.s))) TOk.d)) ?_
     refine ea ?_; intro bm
     refine df 3 (by kernel_rfl) ?_
     refine doR rfl (o_lookx Tryz.underlying157 Tryz.underlying3 rfl rfl (by repeat' constructor) (rfl) rfl) (TOk.x (by kernel_rfl) (TOk.t (isBoxS (by repeat' constructor) (k := 1) (by repeat (first | exact Cut.d | apply Cut.t | apply Cut.s))) TOk.d)) ?_
     refine df 7 (by kernel_rfl) ?_
     refine doR rfl (o_callv (is := [2, 2]) rfl Tryz.call25 (c_tAdd p b T pr.name) rfl rfl rfl (by repeat' (first | constructor | apply Sub.suf)) rfl) (TOk.x (by kernel_rfl) (TOk.x (by kernel_rfl) TOk.d)) ?_
     refine ea ?_; rintro ⟨⟨T1, e1⟩, hq⟩
     refine df 8 (by kernel_rfl) ?_
     refine doR rfl (o_call (is := []) Tryz.call103 (c_pFits e1) rfl rfl (by repeat' (first | constructor | apply Sub.suf)) rfl) (TOk.x (by kernel_rfl) (TOk.x (by kernel_rfl) TOk.d)) ?_
     refine ea ?_; intro x35
     refine tk 9 rfl (by kernel_rfl) (fun _ _ _ h => h) gnone (TTany _) (p_asg rfl) rfl ?_
     refine dn (by kernel_rfl) ?_
     refine nthen ?_
     refine cret ?_
     refine xret (fun _ _ h => h) ?_
     refine rret (is := [0, 0]) ⟨(T1, if e1 = 0 then 0 else 31), by unfold applyT; rw [if_neg hr0, if_neg k0, if_neg k3, if_pos k1, ← hq]; rfl⟩ (Or.inl rfl) (Res.t rfl Res.d) (rfl) rfl (by repeat' (first | constructor | apply Sub.suf))
    ·
     refine cd [0, 3, 7, 8] [(2, b3, 0, _), (6, b3, 1, _)] TryzX.mixed (TOk.t (isBoxS (by repeat' constructor) (k := 1) (by repeat (first | exact Cut.d | apply Cut.t | apply Cut.s))) (TOk.t (isBoxS (by repeat' constructor) (k := 1) (by repeat (first | exact Cut.d | apply Cut.t | apply Cut.s))) TOk.d)) ?_
     refine tk 1 rfl (by kernel_rfl) (fun _ _ _ h => h) gnone (TTany _) (p_fa fa39_0 rfl) rfl ?_
     refine tk 2 rfl (by kernel_rfl) (fun _ _ _ h => h) gnone (TTat (List.Mem.head _)) (p_ld Tryz.isAgg3 rfl) rfl ?_
     refine fixA (congrArg (Value.int .i64) k1) ?_
     refine tk 4 rfl (by kernel_rfl) (fun _ _ _ h => h) gnone (TTany _) (p_move rfl) rfl ?_
     refine tk 5 rfl (by kernel_rfl) (fun _ _ _ h => h) gnone (TTany _) (p_fa fa39_1 rfl) rfl ?_
     refine tk 6 rfl (by kernel_rfl) (fun _ _ _ h => h) gnone (TTat (List.Mem.tail _ (List.Mem.head _))) (p_ld Tryz.isAgg9 rfl) rfl ?_
     refine df 0 (by kernel_rfl) ?_
     refine doR rfl (o_call (is := []) Tryz.call105 (c_pCalls) rfl rfl (by repeat' (first | constructor | apply Sub.suf)) rfl) (TOk.t (isBoxE fun _ => isBoxS (by repeat' constructor) (k := 1) (by repeat (first | exact Cut.d | apply Cut.t | apply Cut.s))) (TOk.t (isBoxE fun _ => isBoxS (by repeat' constructor) (k := 1) (by repeat (first | exact Cut.d | apply Cut.t | apply Cut.s))) TOk.d)) ?_
     refine ea ?_; intro bm
     refine df 3 (by kernel_rfl) ?_
     refine doR rfl (o_lookx Tryz.underlying157 Tryz.underlying3 rfl rfl (by repeat' constructor) (rfl) rfl) (TOk.x (by kernel_rfl) (TOk.t (isBoxS (by repeat' constructor) (k := 1) (by repeat (first | exact Cut.d | apply Cut.t | apply Cut.s))) TOk.d)) ?_
     refine df 7 (by kernel_rfl) ?_
     refine doR rfl (o_callv (is := [2, 2]) rfl Tryz.call129 (c_tRem p b T pr.name) rfl rfl rfl (by repeat' (first | constructor | apply Sub.suf)) rfl) (TOk.x (by kernel_rfl) (TOk.x (by kernel_rfl) TOk.d)) ?_
     refine ea ?_; rintro ⟨⟨T1, e1⟩, hq⟩
     refine df 8 (by kernel_rfl) ?_
     refine doR rfl (o_call (is := []) Tryz.call103 (c_pFits e1) rfl rfl (by repeat' (first | constructor | apply Sub.suf)) rfl) (TOk.x (by kernel_rfl) (TOk.x (by kernel_rfl) TOk.d)) ?_
     refine ea ?_; intro x35
     refine tk 9 rfl (by kernel_rfl) (fun _ _ _ h => h) gnone (TTany _) (p_asg rfl) rfl ?_
     refine dn (by kernel_rfl) ?_
     refine nthen ?_
     refine cret ?_
     refine xret (fun _ _ h => h) ?_
     refine rret (is := [0, 0]) ⟨(T1, if e1 = 0 then 0 else 31), by unfold applyT; rw [if_neg hr0, if_neg k0, if_neg k3, if_neg (show ¬ pr.kind = 1 by omega), ← hq]; rfl⟩ (Or.inl rfl) (Res.t rfl Res.d) (rfl) rfl (by repeat' (first | constructor | apply Sub.suf))

end Go.Proofs.YtdbiillompeclaaGreatDoor.X

end
section
set_option linter.unusedVariables false
set_option linter.unusedSimpArgs false
namespace Go.Sx
open Go Go.RowKit

/-! What undoes a prim, undoes it; how large trees grow. -/
theorem sortB_eq {l m : List ByteArray} (hp : l.Perm m) (hs : m.Pairwise fun a b => ofB a ≤ ofB b) : sortB l = m := by
  unfold sortB
  have e : (l.map ofB).mergeSort (fun x y => decide (x ≤ y)) = m.map ofB := by
    refine List.Perm.eq_of_pairwise (le := fun a b : List UInt8 => decide (a ≤ b) = true) (fun a b _ _ h1 h2 => List.le_antisymm (by simpa using h1) (by simpa using h2)) (List.pairwise_mergeSort ?_ ?_ _) ?_ ?_
    · intro a b c h1 h2
      simp only [decide_eq_true_eq] at *
      exact List.le_trans h1 h2
    · intro a b
      simp only [Bool.or_eq_true, decide_eq_true_eq]
      exact List.le_total a b
    · rw [List.pairwise_map]
      exact hs.imp fun {a b} hab => by simpa using hab
    · exact (List.mergeSort_perm _ _).trans (hp.map ofB)
  rw [e]
  simp [Function.comp_def, toB_ofB]
theorem sortB_names (p : Prim) : sortB p.names = refNames p := by
  refine sortB_eq (refNames_perm p).symm ?_
  unfold refNames
  split
  · split
    · rename_i h
      rw [less_kl] at h
      have h' : kl p.name p.to := by simpa using h
      simp only [List.pairwise_cons, List.mem_cons, List.mem_nil_iff, or_false, forall_eq, List.not_mem_nil, false_imp_iff, implies_true, List.Pairwise.nil, and_true]
      exact List.le_of_lt h'
    · rename_i h
      rw [less_kl] at h
      have h' : ¬ kl p.name p.to := by simpa using h
      simp only [List.pairwise_cons, List.mem_cons, List.mem_nil_iff, or_false, forall_eq, List.not_mem_nil, false_imp_iff, implies_true, List.Pairwise.nil, and_true]
      exact List.not_lt.1 h'
  · simp
theorem flip_fit' {p : Prim} (h : p.fit) : p.flip.fit := by
  obtain ⟨h1, h2, h3, h4, h5, h6⟩ := h
  unfold Prim.flip
  repeat' split
  all_goals exact ⟨by assumption, by assumption, by assumption, by assumption, by assumption, by assumption⟩
theorem fitP {p : Prim} (h : p.many ≤ 2000000) : p.fit := by
  unfold Prim.many at h
  exact ⟨by omega, by omega, by omega, by omega, fun s hs => by have := sizes_mem1 hs; omega, fun s hs => by have := sizes_mem1 hs; omega⟩
def Lmax (m : Nat) (T : List File) : Prop := ∀ x ∈ T, x.2.length ≤ m
theorem Lmax.get {m : Nat} {T : List File} (h : Lmax m T) (u : ByteArray) : (getL T u).length ≤ m := by
  unfold getL getT
  cases e : T.find? (fun x => decide (x.1 = u)) with
  | none => simp
  | some x => simpa using h x (List.mem_of_find?_eq_some e)
theorem Lmax.mono {m m' : Nat} {T : List File} (h : Lmax m T) (hm : m ≤ m') : Lmax m' T := fun x hx => Nat.le_trans (h x hx) hm
theorem Lmax.put {m : Nat} {T : List File} (h : Lmax m T) {k : ByteArray} {l : List ByteArray} (hl : l.length ≤ m) : Lmax m (putT T k l) := fun x hx => by
  rcases mem_putT.1 hx with rfl | ⟨h1, _⟩
  · exact hl
  · exact h x h1
theorem Lmax.del {m : Nat} {T : List File} (h : Lmax m T) (k : ByteArray) : Lmax m (delT T k) := fun x hx => h x (mem_delT.1 hx).1
theorem rApply_lmax {m : Nat} {T : List File} (h : Lmax m T) (p : Prim) : Lmax (m + p.new.length) (rApplyT T p).1 := by
  have h1 := h.mono (Nat.le_add_right m p.new.length)
  unfold rApplyT
  repeat' split
  all_goals first
    | exact h1
    | exact h1.del _
    | exact h1.put (Nat.le_trans splT_len (by have := h.get p.name; omega))
    | exact h1.put (by simp)
    | exact (h1.del _).put (by have := h.get p.name; omega)
theorem rApply_len (T : List File) (p : Prim) : (rApplyT T p).1.length ≤ T.length + 1 := by
  have hd : ∀ k, (delT T k).length ≤ T.length := fun k => List.length_filter_le _ _
  unfold rApplyT
  repeat' split
  all_goals first
    | exact Nat.le_succ _
    | exact putT_len _ _ _
    | exact Nat.le_trans (hd _) (Nat.le_succ _)
    | exact Nat.le_trans (putT_len _ _ _) (Nat.succ_le_succ (hd _))
theorem apply_err {T T1 : List File} {p : Prim} {e : Int} (h : (T1, e) = applyT T p) (he : ¬ e = 0) (hS : Sor T) (hG : Good T) : T1 = T := by
  rw [apply_eq hS hG] at h
  unfold rApplyT at h
  repeat' split at h
  all_goals first
    | (injection h with h _; done)
    | (injection h with h h2; first | exact h | exact absurd h2 he)
theorem tAdd_rem {M : List File} {k : ByteArray} (hM : Sor M) (hn : nameOk k = true) (hh : getT M k = some []) : tAdd (delT M k) k = (M, 0) := by
  have h1 : getT (delT M k) k = none := by rw [getT_del hM, if_pos rfl]
  unfold tAdd
  rw [if_neg (by simp [hn]), if_neg (by simp [hasT, h1])]
  have : putT (delT M k) k [] = M := getT_ext ((hM.del _).put _ _) hM fun u => by
    rw [getT_put (hM.del _), getT_del hM]
    by_cases e : u = k
    · subst e; rw [if_pos rfl, hh]
    · rw [if_neg e, if_neg e]
  rw [this]
theorem splT_yes {l old new : List ByteArray} {k : Nat} (h : standsB l (k : Int) old = true) : splT l (k : Int) old new = l.take k ++ new ++ l.drop (k + old.length) := by unfold splT; rw [if_pos h]; rfl
theorem spl_back {l old new : List ByteArray} {z : Int} (h : standsB l z old = true) : standsB (splT l z old new) z new = true ∧ splT (splT l z old new) z new old = l := by
  obtain ⟨k, rfl, h1, h2⟩ := standsB_yes h
  have e1 : splT l (k : Int) old new = l.take k ++ new ++ l.drop (k + old.length) := by unfold splT; rw [if_pos h]; rfl
  have hk : (l.take k).length = k := by rw [List.length_take]; omega
  have hlen : (l.take k ++ new ++ l.drop (k + old.length)).length = k + new.length + (l.length - (k + old.length)) := by rw [List.length_append, List.length_append, hk, List.length_drop]
  have e2 : (l.take k ++ new ++ l.drop (k + old.length)).drop k = new ++ l.drop (k + old.length) := by
    rw [List.append_assoc, List.drop_append, hk, List.drop_of_length_le (by omega), Nat.sub_self]; rfl
  have e3 : (l.take k ++ new ++ l.drop (k + old.length)).take k = l.take k := by
    rw [List.append_assoc, List.take_append, hk, List.take_of_length_le (by omega), Nat.sub_self]; simp
  have e4 : (l.take k ++ new ++ l.drop (k + old.length)).drop (k + new.length) = l.drop (k + old.length) := by
    rw [← List.drop_drop, e2, List.drop_append, List.drop_of_length_le (Nat.le_refl _), Nat.sub_self]; rfl
  have hs : standsB (splT l (k : Int) old new) (k : Int) new = true := by
    rw [e1, standsB_nat (by rw [hlen]; omega), e2]
    simp
  refine ⟨hs, ?_⟩
  have e5 := splT_yes (new := old) hs
  rw [e5, e1, e3, e4]
  have e6 : l = l.take k ++ ((l.drop k).take old.length ++ (l.drop k).drop old.length) := by rw [List.take_append_drop, List.take_append_drop]
  rw [h2, List.drop_drop] at e6
  rw [List.append_assoc]
  exact e6.symm
theorem put_put {T : List File} (h : Sor T) (k : ByteArray) (l m : List ByteArray) : putT (putT T k l) k m = putT T k m :=
  getT_ext ((h.put _ _).put _ _) (h.put _ _) fun u => by
    rw [getT_put (h.put _ _), getT_put h, getT_put h]
    by_cases e : u = k <;> simp [e]
theorem put_same {T : List File} (h : Sor T) {k : ByteArray} {l : List ByteArray} (hk : getT T k = some l) : putT T k l = T :=
  getT_ext (h.put _ _) h fun u => by
    rw [getT_put h]
    by_cases e : u = k
    · subst e; rw [if_pos rfl, hk]
    · rw [if_neg e]
theorem apply_back {T T1 : List File} {p : Prim} (hS : Sor T) (hG : Good T) (h : (T1, (0 : Int)) = applyT T p) : applyT T1 p.flip = (T, 0) := by
  rw [apply_eq hS hG] at h
  have hS1 : Sor T1 := by have := rApply_sor hS p; rw [← h] at this; exact this
  have hG1 : Good T1 := by have := rApply_good hG p; rw [← h] at this; exact this
  rw [apply_eq hS1 hG1]
  unfold rApplyT at h ⊢
  rw [flip_right]
  by_cases hr : p.right = false
  · rw [if_pos hr] at h; injection h with _ h; cases h
  · have hr' : p.right = true := by simpa using hr
    rw [if_neg hr] at h ⊢
    rcases right_kind hr' with k0 | k1 | k2 | k3
    · rw [if_pos k0] at h
      have hk : p.flip.kind = 0 := (flip_kind p).1.2 k0
      rw [if_pos hk]
      split at h
      · rename_i hj
        injection h with h _
        obtain ⟨hb1, hb2⟩ := spl_back (new := p.new) hj.2
        have hf := flip0 k0
        have hg : getT T1 p.name = some (splT (getL T p.name) p.pos p.old p.new) := by rw [h, getT_put hS, if_pos rfl]
        have hn : p.flip.name = p.name ∧ p.flip.pos = p.pos ∧ p.flip.old = p.new ∧ p.flip.new = p.old := by rw [hf]; exact ⟨rfl, rfl, rfl, rfl⟩
        rw [hn.1, hn.2.1, hn.2.2.1, hn.2.2.2, show getL T1 p.name = splT (getL T p.name) p.pos p.old p.new by rw [getL, hg]; rfl, if_pos ⟨by rw [hasT, hg]; rfl, hb1⟩, hb2, h, put_put hS, put_same hS (hasT_yes hj.1)]
      · injection h with _ h; cases h
    · rw [if_neg (by omega), if_pos k1] at h
      have hf : p.flip = { p with kind := 2 } := by rw [Prim.flip, if_neg (by omega), if_pos (.inl k1), k1]; rfl
      rw [hf]
      split at h
      · rename_i hj
        injection h with h _
        have hg : getT T1 p.name = some [] := by rw [h, getT_put hS, if_pos rfl]
        rw [if_neg (show ¬ (2 : Int) = 0 by decide), if_neg (show ¬ (2 : Int) = 1 by decide), if_pos rfl, if_pos ⟨by rw [hasT, hg]; rfl, by rw [getL, hg]; rfl⟩]
        have := tRem_add hS hj
        unfold tRem at this
        rw [← h, if_neg (by rw [hasT, hg]; simp), if_neg (by rw [getL, hg]; simp)] at this
        exact this
      · injection h with _ h; cases h
    · rw [if_neg (by omega), if_neg (by omega), if_pos k2] at h
      have hf : p.flip = { p with kind := 1 } := by rw [Prim.flip, if_neg (by omega), if_pos (.inr k2), k2]; rfl
      rw [hf]
      split at h
      · rename_i hj
        injection h with h _
        have h0 : getT T p.name = some [] := by rw [hasT_yes hj.1, List.eq_nil_of_length_eq_zero hj.2]
        have hg : getT T1 p.name = none := by rw [h, getT_del hS, if_pos rfl]
        rw [if_neg (show ¬ (1 : Int) = 0 by decide), if_pos rfl, if_pos (by rw [hasT, hg]; rfl)]
        have := tAdd_rem hS (right_name hr') h0
        unfold tAdd at this
        rw [← h, if_neg (by simp [right_name hr']), if_neg (by rw [hasT, hg]; simp)] at this
        exact this
      · injection h with _ h; cases h
    · rw [if_neg (by omega), if_neg (by omega), if_neg (by omega), if_pos k3] at h
      have hf := flip3 k3
      rw [hf]
      split at h
      · rename_i hj
        injection h with h _
        have hd : T1 = delT (putT T p.to (getL T p.name)) p.name := by
          have := move_eq hS p.name p.to
          unfold tMove rMove at this
          rw [if_neg (by simp [hj.1, right_to hr' k3]), if_neg (by simp [hj.2]), if_neg (by simp [hj.1, right_to hr' k3]), if_neg (by simp [hj.2])] at this
          injection this with this _
          rw [h, ← this]
        have hb := move_back hS (right_name hr') hj.1 hj.2
        rw [← hd, move_eq hS1] at hb
        unfold rMove at hb
        have hto : getT T1 p.to = some (getL T p.name) := by rw [hd, moved_get hS hj.1 hj.2, if_neg (moved_ne hj.1 hj.2), if_pos rfl]
        have hna : getT T1 p.name = none := by rw [hd, moved_get hS hj.1 hj.2, if_pos rfl]
        rw [if_neg (by simp [hasT, hto, right_name hr']), if_neg (by simp [hasT, hna])] at hb
        rw [if_neg (by show ¬ p.kind = 0; omega), if_neg (by show ¬ p.kind = 1; omega), if_neg (by show ¬ p.kind = 2; omega), if_pos (by exact k3), if_pos ⟨by rw [hasT, hto]; rfl, by rw [hasT, hna]; rfl⟩]
        exact hb
      · injection h with _ h; cases h
end Go.Sx

end
section
set_option linter.unusedVariables false
set_option linter.unusedSimpArgs false
namespace Go.Proofs.YtdbiillompeclaaGreatDoor.X
open Go Go.RowKit Go.Proofs Go.Sx
attribute [local irreducible] slA isA box row
def pH : Prim := ⟨0, (⟨#[97]⟩ : ByteArray), e0, 1, [(⟨#[121]⟩ : ByteArray)], [(⟨#[122]⟩ : ByteArray), (⟨#[122]⟩ : ByteArray)]⟩
def pA : Prim := ⟨1, (⟨#[97]⟩ : ByteArray), e0, 0, [], []⟩
def pM : Prim := ⟨3, (⟨#[97]⟩ : ByteArray), (⟨#[98]⟩ : ByteArray), 0, [], []⟩
def pN : Prim := ⟨3, (⟨#[98]⟩ : ByteArray), (⟨#[97]⟩ : ByteArray), 0, [], []⟩
theorem al3_fH : pH.fit := fitP (by decide)
theorem al3_fA : pA.fit := fitP (by decide)
theorem al3_fM : pM.fit := fitP (by decide)
theorem al3_fZ : Prim.zero.fit := fitP (by decide)
theorem al3_1 : applyT [] pA = ([((⟨#[97]⟩ : ByteArray), ([] : List ByteArray))], 0) := by kernel_rfl
theorem al3_2 : applyT [((⟨#[97]⟩ : ByteArray), [(⟨#[120]⟩ : ByteArray), (⟨#[121]⟩ : ByteArray)])] pH = ([((⟨#[97]⟩ : ByteArray), [(⟨#[120]⟩ : ByteArray), (⟨#[122]⟩ : ByteArray), (⟨#[122]⟩ : ByteArray)])], 0) := by kernel_rfl
theorem al3_3 : applyT [((⟨#[97]⟩ : ByteArray), [(⟨#[120]⟩ : ByteArray), (⟨#[122]⟩ : ByteArray), (⟨#[122]⟩ : ByteArray)])] pH.flip = ([((⟨#[97]⟩ : ByteArray), [(⟨#[120]⟩ : ByteArray), (⟨#[121]⟩ : ByteArray)])], 0) := by kernel_rfl
theorem al3_4 : applyT [((⟨#[97]⟩ : ByteArray), [(⟨#[120]⟩ : ByteArray), (⟨#[121]⟩ : ByteArray)])] pM = ([((⟨#[98]⟩ : ByteArray), [(⟨#[120]⟩ : ByteArray), (⟨#[121]⟩ : ByteArray)])], 0) := by kernel_rfl
theorem al3_5 : sortB pN.names = [(⟨#[97]⟩ : ByteArray), (⟨#[98]⟩ : ByteArray)] := (sortB_names pN).trans (by kernel_rfl)
theorem al3_6 : applyT [((⟨#[98]⟩ : ByteArray), [(⟨#[120]⟩ : ByteArray), (⟨#[121]⟩ : ByteArray)])] pH = ([((⟨#[98]⟩ : ByteArray), [(⟨#[120]⟩ : ByteArray), (⟨#[121]⟩ : ByteArray)])], 31) := by kernel_rfl
theorem al3_7 : applyT [((⟨#[98]⟩ : ByteArray), [(⟨#[120]⟩ : ByteArray), (⟨#[121]⟩ : ByteArray)])] Prim.zero = ([((⟨#[98]⟩ : ByteArray), [(⟨#[120]⟩ : ByteArray), (⟨#[121]⟩ : ByteArray)])], 30) := by kernel_rfl
theorem al3_8 : pH.right = true := by kernel_rfl
theorem al3_t : toB (textT [((⟨#[97]⟩ : ByteArray), [(⟨#[120]⟩ : ByteArray), (⟨#[122]⟩ : ByteArray), (⟨#[122]⟩ : ByteArray)])]) = (⟨#[97, 32, 51, 10, 120, 10, 122, 10, 122, 10]⟩ : ByteArray) := by kernel_rfl
theorem al3_l : (textT [((⟨#[97]⟩ : ByteArray), [(⟨#[120]⟩ : ByteArray), (⟨#[122]⟩ : ByteArray), (⟨#[122]⟩ : ByteArray)])]).length = 10 := by kernel_rfl
theorem al3_f4 : Tfit [((⟨#[97]⟩ : ByteArray), [(⟨#[120]⟩ : ByteArray), (⟨#[122]⟩ : ByteArray), (⟨#[122]⟩ : ByteArray)])] := fun x hx => by have : x = _ := List.mem_singleton.1 hx; subst this; decide
theorem al3_f1 : Tfit [((⟨#[97]⟩ : ByteArray), ([] : List ByteArray))] := fun x hx => by have : x = _ := List.mem_singleton.1 hx; subst this; decide
theorem al3_f0 : Tfit [] := fun x hx => by cases hx
theorem hb_of {T : List File} {p : Prim} (h : T.all (fun x => decide (x.2.length ≤ 100)) = true) (hp : p.new.length ≤ 100) (u : ByteArray) : (getL T u).length + p.new.length ≤ 2000000 := by
 have := Lmax.get (m := 100) (T := T) (fun x hx => by simpa using List.all_eq_true.1 h x hx) u
 omega
theorem c_tTextS (p b : Nat) (T : List File) (s : ByteArray) (hs : toB (textT T) = s) (hn : T.length ≤ 2000000) (hf : Tfit T) (hB : (textT T).length ≤ 100000000) (Γt : List Asn) (hI : ∀ x ∈ T, Con Tryz.prog 107 [.int .i64 (x.2.length : Int)] [] Γt Unit (fun _ => .string (toB (Lib.decDigits x.2.length))) (fun _ => []) (fun _ => [])) : Con Tryz.prog 52 [.pointer (some ⟨p, 0, none⟩)] [box p 120 [.map (some b)], tr b T] Γt Unit (fun _ => .string s) (fun _ => [box p 120 [.map (some b)], tr b T]) (fun _ => []) := hs ▸ c_tText p b T hn hf hB Γt hI


set_option maxRecDepth 100000 in
theorem c_primInvert (p : Prim) (y : Rp.Lay Prim) (hp : p.fit) : Con Tryz.prog 49 [sv p y] [] (Rp.asn p y) {x : Prim × Rp.Lay Prim // x.1 = p.flip} (fun x => sv x.1.1 x.1.2) (fun _ => []) (fun x => Rp.asn x.1.1 x.1.2) := by
 refine con Tryz.func49 rfl Tryz.ntmps49 rfl ?_
 intro M0 F0 w0
 refine cs ?_
 refine cr ?_
 refine ls (o_box rfl rfl rfl) ?_
 refine le ?_; intro b1
 refine ls (o_alloc Tryz.zeroValue39 rfl rfl) ?_
 refine le ?_; intro b2
 refine ln ?_
 refine nthen ?_
 refine cs ?_
 refine cr ?_
 refine ls (o_ldw Tryz.isAgg39 Tryz.sizeOf39 rfl (by repeat' constructor) (by rfl) rfl) ?_
 refine ls (o_call (is := []) Tryz.call48 (c_primClone p y hp) rfl rfl (by repeat' (first | constructor | apply Sub.suf)) rfl) ?_
 refine le ?_; intro y1
 refine ls (o_st rfl Tryz.sizeOf39 rfl rfl rfl rfl rfl (by repeat' constructor) (by repeat' constructor) (by repeat' constructor)) ?_
 refine ln ?_
 refine nthen ?_
 refine cs ?_
 refine cs ?_
 refine cr ?_
 refine ls (op (p_fa fa39_0 rfl) rfl) ?_
 refine ls (o_ld Tryz.isAgg3 rfl (by repeat' constructor) (by repeat' constructor) rfl) ?_
 refine ln ?_
 refine nthen ?_
 refine cb ?_
 refine cs ?_
 refine cr ?_
 refine ls (op (p_icmp rfl rfl rfl) rfl) ?_
 refine ls (op (p_asg rfl) rfl) ?_
 refine ln ?_
 refine nthen ?_
 refine cc rfl ?_ ?_
 ·
  intro h7
  try simp only [decide_eq_true_eq, decide_eq_false_iff_not, Bool.not_eq_true', Bool.not_eq_false', Int.not_lt, Int.not_le, ge_iff_le, Bool.not_true, Bool.not_false] at h7
  refine cr ?_
  refine ls (op (p_fa fa39_5 rfl) rfl) ?_
  refine ls (o_ld Tryz.isAgg37 rfl (by repeat' constructor) (by repeat' constructor) rfl) ?_
  refine ls (op (p_fa fa39_4 rfl) rfl) ?_
  refine ls (o_ld Tryz.isAgg37 rfl (by repeat' constructor) (by repeat' constructor) rfl) ?_
  refine ls (op (p_fa fa39_4 rfl) rfl) ?_
  refine ls (o_st rfl Tryz.sizeOf37 rfl rfl rfl rfl rfl (by repeat' constructor) (by repeat' constructor) (by repeat' constructor)) ?_
  refine ls (op (p_fa fa39_5 rfl) rfl) ?_
  refine ls (o_st rfl Tryz.sizeOf37 rfl rfl rfl rfl rfl (by repeat' constructor) (by repeat' constructor) (by repeat' constructor)) ?_
  refine ln ?_
  refine nblock ?_
  refine nthen ?_
  refine cs ?_
  refine cr ?_
  refine ls (o_ldw Tryz.isAgg39 Tryz.sizeOf39 rfl (by repeat' constructor) (by rfl) rfl) ?_
  refine ls (o_st rfl Tryz.sizeOf39 rfl rfl rfl rfl rfl (by repeat' constructor) (by repeat' constructor) (by repeat' constructor)) ?_
  refine ln ?_
  refine nthen ?_
  refine cret ?_
  refine xret (fun _ _ h => h) ?_
  refine rret (is := []) ⟨({ p with old := p.new, new := p.old }, (y1.2, y1.1)), by rw [flip0 h7]⟩ (Or.inl rfl) (Res.c rfl Tryz.isAgg39 Tryz.sizeOf39 (by repeat' constructor) (by rfl) Res.d) (rfl) rfl (by repeat' (first | constructor | apply Sub.suf))
 ·
  intro h7
  try simp only [decide_eq_true_eq, decide_eq_false_iff_not, Bool.not_eq_true', Bool.not_eq_false', Int.not_lt, Int.not_le, ge_iff_le, Bool.not_true, Bool.not_false] at h7
  refine cs ?_
  refine cs ?_
  refine cr ?_
  refine ls (op (p_icmp rfl rfl rfl) rfl) ?_
  refine ls (op (p_asg rfl) rfl) ?_
  refine ln ?_
  refine nthen ?_
  refine cc rfl ?_ ?_
  ·
   intro h15
   try simp only [decide_eq_true_eq, decide_eq_false_iff_not, Bool.not_eq_true', Bool.not_eq_false', Int.not_lt, Int.not_le, ge_iff_le, Bool.not_true, Bool.not_false] at h15
   refine cskip ?_
   refine nthen ?_
   refine cc rfl ?_ ?_
   ·
    intro h15b
    skip
    refine cr ?_
    refine ls (op (p_fa fa39_0 rfl) rfl) ?_
    refine ls (o_ld Tryz.isAgg3 rfl (by repeat' constructor) (by repeat' constructor) rfl) ?_
    refine ls (op (p_sub rfl rfl (by omega)) rfl) ?_
    refine ls (op (p_fa fa39_0 rfl) rfl) ?_
    refine ls (o_st rfl Tryz.sizeOf3 rfl rfl rfl rfl rfl (by repeat' constructor) (by repeat' constructor) (by repeat' constructor)) ?_
    refine ln ?_
    refine nblock ?_
    refine nthen ?_
    refine cs ?_
    refine cr ?_
    refine ls (o_ldw Tryz.isAgg39 Tryz.sizeOf39 rfl (by repeat' constructor) (by rfl) rfl) ?_
    refine ls (o_st rfl Tryz.sizeOf39 rfl rfl rfl rfl rfl (by repeat' constructor) (by repeat' constructor) (by repeat' constructor)) ?_
    refine ln ?_
    refine nthen ?_
    refine cret ?_
    refine xret (fun _ _ h => h) ?_
    refine rret (is := []) ⟨({ p with kind := 3 - p.kind }, y1), by rw [Prim.flip, if_neg h7, if_pos (Or.inl h15)]⟩ (Or.inl rfl) (Res.c rfl Tryz.isAgg39 Tryz.sizeOf39 (by repeat' constructor) (by rfl) Res.d) (rfl) rfl (by repeat' (first | constructor | apply Sub.suf))
   ·
    intro h15b
    simp only [decide_eq_false_iff_not] at h15b; exact absurd h15 h15b
  ·
   intro h15
   try simp only [decide_eq_true_eq, decide_eq_false_iff_not, Bool.not_eq_true', Bool.not_eq_false', Int.not_lt, Int.not_le, ge_iff_le, Bool.not_true, Bool.not_false] at h15
   refine cr ?_
   refine ls (op (p_icmp rfl rfl rfl) rfl) ?_
   refine ls (op (p_asg rfl) rfl) ?_
   refine ln ?_
   refine nthen ?_
   refine cc rfl ?_ ?_
   ·
    intro h15c
    simp only [decide_eq_true_eq] at h15c
    refine cr ?_
    refine ls (op (p_fa fa39_0 rfl) rfl) ?_
    refine ls (o_ld Tryz.isAgg3 rfl (by repeat' constructor) (by repeat' constructor) rfl) ?_
    refine ls (op (p_sub rfl rfl (by omega)) rfl) ?_
    refine ls (op (p_fa fa39_0 rfl) rfl) ?_
    refine ls (o_st rfl Tryz.sizeOf3 rfl rfl rfl rfl rfl (by repeat' constructor) (by repeat' constructor) (by repeat' constructor)) ?_
    refine ln ?_
    refine nblock ?_
    refine nthen ?_
    refine cs ?_
    refine cr ?_
    refine ls (o_ldw Tryz.isAgg39 Tryz.sizeOf39 rfl (by repeat' constructor) (by rfl) rfl) ?_
    refine ls (o_st rfl Tryz.sizeOf39 rfl rfl rfl rfl rfl (by repeat' constructor) (by repeat' constructor) (by repeat' constructor)) ?_
    refine ln ?_
    refine nthen ?_
    refine cret ?_
    refine xret (fun _ _ h => h) ?_
    refine rret (is := []) ⟨({ p with kind := 3 - p.kind }, y1), by rw [Prim.flip, if_neg h7, if_pos (Or.inr h15c)]⟩ (Or.inl rfl) (Res.c rfl Tryz.isAgg39 Tryz.sizeOf39 (by repeat' constructor) (by rfl) Res.d) (rfl) rfl (by repeat' (first | constructor | apply Sub.suf))
   ·
    intro h15c
    simp only [decide_eq_false_iff_not] at h15c
    refine cs ?_
    refine cr ?_
    refine ls (op (p_icmp rfl rfl rfl) rfl) ?_
    refine ls (op (p_asg rfl) rfl) ?_
    refine ln ?_
    refine nthen ?_
    refine cc rfl ?_ ?_
    ·
     intro h22
     try simp only [decide_eq_true_eq, decide_eq_false_iff_not, Bool.not_eq_true', Bool.not_eq_false', Int.not_lt, Int.not_le, ge_iff_le, Bool.not_true, Bool.not_false] at h22
     refine cr ?_
     refine ls (op (p_fa fa39_2 rfl) rfl) ?_
     refine ls (o_ld Tryz.isAgg9 rfl (by repeat' constructor) (by repeat' constructor) rfl) ?_
     refine ls (op (p_fa fa39_1 rfl) rfl) ?_
     refine ls (o_ld Tryz.isAgg9 rfl (by repeat' constructor) (by repeat' constructor) rfl) ?_
     refine ls (op (p_fa fa39_1 rfl) rfl) ?_
     refine ls (o_st rfl Tryz.sizeOf9 rfl rfl rfl rfl rfl (by repeat' constructor) (by repeat' constructor) (by repeat' constructor)) ?_
     refine ls (op (p_fa fa39_2 rfl) rfl) ?_
     refine ls (o_st rfl Tryz.sizeOf9 rfl rfl rfl rfl rfl (by repeat' constructor) (by repeat' constructor) (by repeat' constructor)) ?_
     refine ln ?_
     refine nblock ?_
     refine nthen ?_
     refine cs ?_
     refine cr ?_
     refine ls (o_ldw Tryz.isAgg39 Tryz.sizeOf39 rfl (by repeat' constructor) (by rfl) rfl) ?_
     refine ls (o_st rfl Tryz.sizeOf39 rfl rfl rfl rfl rfl (by repeat' constructor) (by repeat' constructor) (by repeat' constructor)) ?_
     refine ln ?_
     refine nthen ?_
     refine cret ?_
     refine xret (fun _ _ h => h) ?_
     refine rret (is := []) ⟨({ p with name := p.to, to := p.name }, y1), by rw [flip3 h22]⟩ (Or.inl rfl) (Res.c rfl Tryz.isAgg39 Tryz.sizeOf39 (by repeat' constructor) (by rfl) Res.d) (rfl) rfl (by repeat' (first | constructor | apply Sub.suf))
    ·
     intro h22
     try simp only [decide_eq_true_eq, decide_eq_false_iff_not, Bool.not_eq_true', Bool.not_eq_false', Int.not_lt, Int.not_le, ge_iff_le, Bool.not_true, Bool.not_false] at h22
     refine cskip ?_
     refine nblock ?_
     refine nthen ?_
     refine cs ?_
     refine cr ?_
     refine ls (o_ldw Tryz.isAgg39 Tryz.sizeOf39 rfl (by repeat' constructor) (by rfl) rfl) ?_
     refine ls (o_st rfl Tryz.sizeOf39 rfl rfl rfl rfl rfl (by repeat' constructor) (by repeat' constructor) (by repeat' constructor)) ?_
     refine ln ?_
     refine nthen ?_
     refine cret ?_
     refine xret (fun _ _ h => h) ?_
     refine rret (is := []) ⟨(p, y1), by rw [Prim.flip, if_neg h7, if_neg (by omega), if_neg h22]⟩ (Or.inl rfl) (Res.c rfl Tryz.isAgg39 Tryz.sizeOf39 (by repeat' constructor) (by rfl) Res.d) (rfl) rfl (by repeat' (first | constructor | apply Sub.suf))

set_option maxRecDepth 100000 in
theorem c_alive03 : Con Tryz.prog 47 [] [] [] Unit (fun _ => .bool true) (fun _ => []) (fun _ => []) := by
 refine con Tryz.func47 rfl Tryz.ntmps47 rfl ?_
 intro M0 F0 w0
 refine cs ?_
 refine cr ?_
 refine ls (op (p_asg rfl) rfl) ?_
 refine ln ?_
 refine nthen ?_
 refine cs ?_
 refine cr ?_
 refine ls (o_call (is := []) Tryz.call23 (c_tNew) rfl rfl (by repeat' (first | constructor | apply Sub.suf)) rfl) ?_
 refine le ?_; rintro ⟨p, b⟩
 refine ls (op (p_asg rfl) rfl) ?_
 refine ln ?_
 refine nthen ?_
 refine cs ?_
 refine cs ?_
 refine cr ?_
 refine ls (op (p_move rfl) rfl) ?_
 refine ls (op (p_ptrnil Tryz.underlying47 rfl rfl) rfl) ?_
 refine ln ?_
 refine nthen ?_
 refine cc rfl (fun h => by cases h) (fun h => ?_)
 refine cskip ?_
 refine nthen ?_
 refine cs ?_
 refine cr ?_
 refine ls (o_bsl [(⟨#[121]⟩ : ByteArray)] Tryz.underlying37 Tryz.sizeOf9 Tryz.zeroValue9 rfl (Enum.t Enum.d) (RV.t () rfl Sub.d RV.d) rfl (by decide) (by decide) rfl) ?_
 refine le ?_; intro b12
 refine lmono (fun a w h => Go.Sx.freeze (i := 0) rfl h) ?_
 refine ls (o_bsl [(⟨#[122]⟩ : ByteArray), (⟨#[122]⟩ : ByteArray)] Tryz.underlying37 Tryz.sizeOf9 Tryz.zeroValue9 rfl (Enum.t (Enum.t Enum.d)) (RV.t () rfl Sub.d (RV.t () rfl Sub.d RV.d)) rfl (by decide) (by decide) rfl) ?_
 refine le ?_; intro b13
 refine lmono (fun a w h => Go.Sx.freeze (i := 0) rfl h) ?_
 refine ls (op (p_bld sb39 rfl (Fill.t (by repeat' constructor) rfl rfl (by repeat' constructor) (Fill.t (by repeat' constructor) rfl rfl (by repeat' constructor) (Fill.t (by repeat' constructor) rfl rfl (by repeat' constructor) (Fill.t (by repeat' constructor) rfl rfl (by repeat' constructor) (Fill.t (by repeat' constructor) rfl rfl (by repeat' constructor) Fill.d)))))) rfl) ?_
 refine ls (o_alloc Tryz.zeroValue39 rfl rfl) ?_
 refine le ?_; intro b2
 refine ls (o_st rfl Tryz.sizeOf39 rfl rfl rfl rfl rfl (by repeat' constructor) (by repeat' constructor) (by repeat' constructor)) ?_
 refine ln ?_
 refine nthen ?_
 refine cs ?_
 refine cmono (fun a w h => nilSl (α := ByteArray) h) ?_
 refine cr ?_
 refine ls (op (p_move rfl) rfl) ?_
 refine ls (op (p_bld sb39 rfl (Fill.t (by repeat' constructor) rfl rfl (by repeat' constructor) (Fill.t (by repeat' constructor) rfl rfl (by repeat' constructor) Fill.d))) rfl) ?_
 refine ls (o_call (is := [1, 1]) Tryz.call51 (c_pApply p b [] pA ((none, 0), (none, 0)) al3_fA al3_f0 (hb_of (by decide) (by decide))) rfl rfl (by repeat' (first | constructor | apply Sub.suf)) rfl) ?_
 refine le ?_; rintro ⟨⟨T1, e1⟩, hq1⟩
 try dsimp only at hq1
 obtain ⟨rfl, rfl⟩ := Prod.mk.inj (hq1.trans al3_1)
 refine ls (op (p_asg rfl) rfl) ?_
 refine ln ?_
 refine nthen ?_
 refine cs ?_
 refine cr ?_
 refine ls (op (p_move rfl) rfl) ?_
 refine ls (o_bsl [(⟨#[120]⟩ : ByteArray), (⟨#[121]⟩ : ByteArray)] Tryz.underlying37 Tryz.sizeOf9 Tryz.zeroValue9 rfl (Enum.t (Enum.t Enum.d)) (RV.t () rfl Sub.d (RV.t () rfl Sub.d RV.d)) rfl (by decide) (by decide) rfl) ?_
 refine le ?_; intro b19
 refine lmono (fun a w h => Go.Sx.freeze (i := 0) rfl h) ?_
 refine ls (o_call (is := [0, 0]) Tryz.call26 (c_tPut p b [((⟨#[97]⟩ : ByteArray), ([] : List ByteArray))] (⟨#[97]⟩ : ByteArray) [(⟨#[120]⟩ : ByteArray), (⟨#[121]⟩ : ByteArray)] _ _ (by simp)) rfl rfl (by repeat' (first | constructor | apply Sub.suf)) rfl) ?_
 refine le ?_; rintro ⟨⟨T2, e2⟩, hq2⟩
 try dsimp only at hq2
 obtain ⟨rfl, rfl⟩ := Prod.mk.inj (hq2.trans al_put)
 refine ln ?_
 refine nthen ?_
 refine cs ?_
 refine cr ?_
 refine ls (op (p_move rfl) rfl) ?_
 refine ls (o_ldw Tryz.isAgg39 Tryz.sizeOf39 rfl (by repeat' constructor) (by rfl) rfl) ?_
 refine ls (o_call (is := [0, 0]) Tryz.call51 (c_pApply p b [((⟨#[97]⟩ : ByteArray), [(⟨#[120]⟩ : ByteArray), (⟨#[121]⟩ : ByteArray)])] pH ((some ⟨b12, 0, none⟩, 1), (some ⟨b13, 0, none⟩, 2)) al3_fH al_f2 (hb_of (by decide) (by decide))) rfl rfl (by repeat' (first | constructor | apply Sub.suf)) rfl) ?_
 refine le ?_; rintro ⟨⟨T3, e3⟩, hq3⟩
 try dsimp only at hq3
 obtain ⟨rfl, rfl⟩ := Prod.mk.inj (hq3.trans al3_2)
 refine ls (op (p_asg rfl) rfl) ?_
 refine ln ?_
 refine nthen ?_
 refine cs ?_
 refine cr ?_
 refine ls (op (p_move rfl) rfl) ?_
 refine ls (o_call (is := [0, 0]) Tryz.call52 (c_tTextS p b [((⟨#[97]⟩ : ByteArray), [(⟨#[120]⟩ : ByteArray), (⟨#[122]⟩ : ByteArray), (⟨#[122]⟩ : ByteArray)])] (⟨#[97, 32, 51, 10, 120, 10, 122, 10, 122, 10]⟩ : ByteArray) al3_t (by simp) al3_f4 (by rw [show (textT _).length = 10 from al3_l]; decide) [] (fun x hx => by have : x = _ := List.mem_singleton.1 hx; subst this; exact l_Itoa 3 (by decide))) rfl rfl (by repeat' (first | constructor | apply Sub.suf)) rfl) ?_
 refine le ?_; intro x25
 refine ls (op (p_asg rfl) rfl) ?_
 refine ln ?_
 refine nthen ?_
 refine cs ?_
 refine cr ?_
 refine ls (op (p_move rfl) rfl) ?_
 refine ls (o_ldw Tryz.isAgg39 Tryz.sizeOf39 rfl (by repeat' constructor) (by rfl) rfl) ?_
 refine ls (o_call (is := []) Tryz.call49 (c_primInvert pH ((some ⟨b12, 0, none⟩, 1), (some ⟨b13, 0, none⟩, 2)) al3_fH) rfl rfl (by repeat' (first | constructor | apply Sub.suf)) rfl) ?_
 refine le ?_; rintro ⟨⟨pI, yI⟩, hI⟩
 obtain rfl : pI = pH.flip := hI
 refine ls (o_call (is := [0, 0]) Tryz.call51 (c_pApply p b [((⟨#[97]⟩ : ByteArray), [(⟨#[120]⟩ : ByteArray), (⟨#[122]⟩ : ByteArray), (⟨#[122]⟩ : ByteArray)])] pH.flip yI (flip_fit' al3_fH) al3_f4 (hb_of (by decide) (by decide))) rfl rfl (by repeat' (first | constructor | apply Sub.suf)) rfl) ?_
 refine le ?_; rintro ⟨⟨T4, e4⟩, hq4⟩
 try dsimp only at hq4
 obtain ⟨rfl, rfl⟩ := Prod.mk.inj (hq4.trans al3_3)
 refine ls (op (p_asg rfl) rfl) ?_
 refine ln ?_
 refine nthen ?_
 refine cs ?_
 refine cr ?_
 refine ls (op (p_move rfl) rfl) ?_
 refine ls (op (p_bld sb39 rfl (Fill.t (by repeat' constructor) rfl rfl (by repeat' constructor) (Fill.t (by repeat' constructor) rfl rfl (by repeat' constructor) (Fill.t (by repeat' constructor) rfl rfl (by repeat' constructor) Fill.d)))) rfl) ?_
 refine ls (o_call (is := [0, 0]) Tryz.call51 (c_pApply p b [((⟨#[97]⟩ : ByteArray), [(⟨#[120]⟩ : ByteArray), (⟨#[121]⟩ : ByteArray)])] pM ((none, 0), (none, 0)) al3_fM al_f2 (hb_of (by decide) (by decide))) rfl rfl (by repeat' (first | constructor | apply Sub.suf)) rfl) ?_
 refine le ?_; rintro ⟨⟨T5, e5⟩, hq5⟩
 try dsimp only at hq5
 obtain ⟨rfl, rfl⟩ := Prod.mk.inj (hq5.trans al3_4)
 refine ls (op (p_asg rfl) rfl) ?_
 refine ln ?_
 refine nthen ?_
 refine cs ?_
 refine cr ?_
 refine ls (op (p_bld sb39 rfl (Fill.t (by repeat' constructor) rfl rfl (by repeat' constructor) (Fill.t (by repeat' constructor) rfl rfl (by repeat' constructor) (Fill.t (by repeat' constructor) rfl rfl (by repeat' constructor) Fill.d)))) rfl) ?_
 refine ls (o_call (is := []) Tryz.call99 (c_primNames pN ((none, 0), (none, 0))) rfl rfl (by repeat' (first | constructor | apply Sub.suf)) rfl) ?_
 refine le ?_; rintro ⟨⟨ns, ⟨A8, c8⟩⟩, hns⟩
 obtain rfl : ns = [(⟨#[97]⟩ : ByteArray), (⟨#[98]⟩ : ByteArray)] := hns.trans al3_5
 refine ls (op (p_asg rfl) rfl) ?_
 refine ln ?_
 refine nthen ?_
 refine cs ?_
 refine elC (by repeat' constructor) 0 ((show ([(⟨#[97]⟩ : ByteArray), (⟨#[98]⟩ : ByteArray)] : List ByteArray)[0]? = some (⟨#[97]⟩ : ByteArray) from rfl)) ?_; rintro zbp zop zyp hAp
 refine cdB [20, 26, 32, 49, 50, 54] [(25, b2, 0, _), (43, zbp, zop + 0 * Rp.size ByteArray, _), (47, b2, 0, _), (48, b2, 0, _), (53, b2, 0, _)] TryzX.mixed (by kernel_rfl) (by kernel_rfl) (TOk.t (isBoxS (by repeat' constructor) (k := 6) (by repeat (first | exact Cut.d | apply Cut.t | apply Cut.s))) (TOk.t (isInS (by repeat' constructor) (k := 0) rfl (z := 1) (by repeat (first | exact Cut.d | apply Cut.t | apply Cut.s))) (TOk.t (isBoxS (by repeat' constructor) (k := 6) (by repeat (first | exact Cut.d | apply Cut.t | apply Cut.s))) (TOk.t (isBoxS (by repeat' constructor) (k := 6) (by repeat (first | exact Cut.d | apply Cut.t | apply Cut.s))) (TOk.t (isBoxS (by repeat' constructor) (k := 6) (by repeat (first | exact Cut.d | apply Cut.t | apply Cut.s))) TOk.d))))) ?_
 refine tkB 0 rfl (by kernel_rfl) (fun _ _ _ h => h) gnone (TTany _) (p_move rfl) rfl ?_
 refine tkB 1 rfl (by kernel_rfl) (fun _ _ _ h => h) gnone (TTany _) (p_icmp rfl rfl rfl) rfl ?_
 refine tkB 2 rfl (by kernel_rfl) (fun _ _ _ h => h) gnone (TTany _) (p_move rfl) rfl ?_
 refine tkB 3 rfl (by kernel_rfl) (fun _ _ _ h => h) (gyes rfl rfl rfl rfl) (TTany _) (p_move rfl) rfl ?_
 refine tkB 4 rfl (by kernel_rfl) (fun _ _ _ h => h) (gyes rfl rfl rfl rfl) (TTany _) (p_icmp rfl rfl rfl) rfl ?_
 refine tkB 5 rfl (by kernel_rfl) (fun _ _ _ h => h) gnone (TTany _) (p_pickt rfl rfl) rfl ?_
 refine tkB 6 rfl (by kernel_rfl) (fun _ _ _ h => h) gnone (TTany _) (p_move rfl) rfl ?_
 refine tkB 7 rfl (by kernel_rfl) (fun _ _ _ h => h) (gyes rfl rfl rfl rfl) (TTany _) (p_move rfl) rfl ?_
 refine tkB 8 rfl (by kernel_rfl) (fun _ _ _ h => h) (gyes rfl rfl rfl rfl) (TTany _) (p_seq rfl rfl) rfl ?_
 refine fixB (congrArg Value.bool (decide_eq_true rfl)) ?_
 refine tkB 9 rfl (by kernel_rfl) (fun _ _ _ h => h) gnone (TTany _) (p_pickt rfl rfl) rfl ?_
 refine tkB 10 rfl (by kernel_rfl) (fun _ _ _ h => h) gnone (TTany _) (p_move rfl) rfl ?_
 refine tkB 11 rfl (by kernel_rfl) (fun _ _ _ h => h) (gyes rfl rfl rfl rfl) (TTany _) (p_move rfl) rfl ?_
 refine tkB 12 rfl (by kernel_rfl) (fun _ _ _ h => h) (gyes rfl rfl rfl rfl) (TTany _) (p_icmp rfl rfl rfl) rfl ?_
 refine tkB 13 rfl (by kernel_rfl) (fun _ _ _ h => h) gnone (TTany _) (p_pickt rfl rfl) rfl ?_
 refine tkB 14 rfl (by kernel_rfl) (fun _ _ _ h => h) gnone (TTany _) (p_move rfl) rfl ?_
 refine tkB 15 rfl (by kernel_rfl) (fun _ _ _ h => h) (gyes rfl rfl rfl rfl) (TTany _) (p_move rfl) rfl ?_
 refine tkB 16 rfl (by kernel_rfl) (fun _ _ _ h => h) (gyes rfl rfl rfl rfl) (TTany _) (p_icmp rfl rfl rfl) rfl ?_
 refine tkB 17 rfl (by kernel_rfl) (fun _ _ _ h => h) gnone (TTany _) (p_pickt rfl rfl) rfl ?_
 refine tkB 18 rfl (by kernel_rfl) (fun _ _ _ h => h) gnone (TTany _) (p_move rfl) rfl ?_
 refine tkB 19 rfl (by kernel_rfl) (fun _ _ _ h => h) (gyes rfl rfl rfl rfl) (TTany _) (p_move rfl) rfl ?_
 refine dfB 20 (by kernel_rfl) ?_
 refine doGB rfl rfl rfl rfl rfl (o_call (is := [0, 0]) Tryz.call52 (c_tTextS p b [((⟨#[98]⟩ : ByteArray), [(⟨#[120]⟩ : ByteArray), (⟨#[121]⟩ : ByteArray)])] (⟨#[98, 32, 50, 10, 120, 10, 121, 10]⟩ : ByteArray) al_t2 (by simp) al_f3 (by rw [show (textT _).length = 8 from al_l3]; decide) [] (fun x hx => by have : x = _ := List.mem_singleton.1 hx; subst this; exact l_Itoa 2 (by decide))) rfl rfl (by repeat' (first | constructor | apply Sub.suf)) rfl) (TOk.t (isBoxE fun _ => isBoxS (by repeat' constructor) (k := 6) (by repeat (first | exact Cut.d | apply Cut.t | apply Cut.s))) (TOk.t (isBoxE fun _ => isInS (by repeat' constructor) (k := 0) rfl (z := 1) (by repeat (first | exact Cut.d | apply Cut.t | apply Cut.s))) (TOk.t (isBoxE fun _ => isBoxS (by repeat' constructor) (k := 6) (by repeat (first | exact Cut.d | apply Cut.t | apply Cut.s))) (TOk.t (isBoxE fun _ => isBoxS (by repeat' constructor) (k := 6) (by repeat (first | exact Cut.d | apply Cut.t | apply Cut.s))) (TOk.t (isBoxE fun _ => isBoxS (by repeat' constructor) (k := 6) (by repeat (first | exact Cut.d | apply Cut.t | apply Cut.s))) TOk.d))))) ?_
 refine eaB ?_; intro x55
 refine tkB 21 rfl (by kernel_rfl) (fun _ _ _ h => h) (gyes rfl rfl rfl rfl) (TTany _) (p_seq rfl rfl) rfl ?_
 refine fixB (congrArg Value.bool (decide_eq_true rfl)) ?_
 refine tkB 22 rfl (by kernel_rfl) (fun _ _ _ h => h) gnone (TTany _) (p_pickt rfl rfl) rfl ?_
 refine tkB 23 rfl (by kernel_rfl) (fun _ _ _ h => h) gnone (TTany _) (p_move rfl) rfl ?_
 refine tkB 24 rfl (by kernel_rfl) (fun _ _ _ h => h) (gyes rfl rfl rfl rfl) (TTany _) (p_move rfl) rfl ?_
 refine tkB 25 rfl (by kernel_rfl) (fun _ _ _ h => h) (gyes rfl rfl rfl rfl) (TTat (List.Mem.head _)) (p_lda Tryz.isAgg39 Tryz.sizeOf39 rfl rfl) rfl ?_
 refine dfB 26 (by kernel_rfl) ?_
 refine doGB rfl rfl rfl rfl rfl (o_call (is := [0, 0]) Tryz.call51 (c_pApply p b [((⟨#[98]⟩ : ByteArray), [(⟨#[120]⟩ : ByteArray), (⟨#[121]⟩ : ByteArray)])] pH ((some ⟨b12, 0, none⟩, 1), (some ⟨b13, 0, none⟩, 2)) al3_fH al_f3 (hb_of (by decide) (by decide))) rfl rfl (by repeat' (first | constructor | apply Sub.suf)) rfl) (TOk.xP 26 [] (by kernel_rfl) (TOk.t (isBoxE fun _ => isInS (by repeat' constructor) (k := 0) rfl (z := 1) (by repeat (first | exact Cut.d | apply Cut.t | apply Cut.s))) (TOk.t (isBoxE fun _ => isBoxS (by repeat' constructor) (k := 6) (by repeat (first | exact Cut.d | apply Cut.t | apply Cut.s))) (TOk.t (isBoxE fun _ => isBoxS (by repeat' constructor) (k := 6) (by repeat (first | exact Cut.d | apply Cut.t | apply Cut.s))) (TOk.t (isBoxE fun _ => isBoxS (by repeat' constructor) (k := 6) (by repeat (first | exact Cut.d | apply Cut.t | apply Cut.s))) TOk.d))))) ?_
 refine eaB ?_; rintro ⟨⟨T6, e6⟩, hq6⟩
 try dsimp only at hq6
 obtain ⟨rfl, rfl⟩ := Prod.mk.inj (hq6.trans al3_6)
 refine tkB 27 rfl (by kernel_rfl) (fun _ _ _ h => h) (gyes rfl rfl rfl rfl) (TTany _) (p_icmp rfl rfl rfl) rfl ?_
 refine tkB 28 rfl (by kernel_rfl) (fun _ _ _ h => h) gnone (TTany _) (p_pickt rfl rfl) rfl ?_
 refine tkB 29 rfl (by kernel_rfl) (fun _ _ _ h => h) gnone (TTany _) (p_move rfl) rfl ?_
 refine tkB 30 rfl (by kernel_rfl) (fun _ _ _ h => h) (gyes rfl rfl rfl rfl) (TTany _) (p_move rfl) rfl ?_
 refine tkB 31 rfl (by kernel_rfl) (fun _ _ _ h => h) (gyes rfl rfl rfl rfl) (TTany _) (p_bld sb39 rfl Fill.d) rfl ?_
 refine dfB 32 (by kernel_rfl) ?_
 refine doGB rfl rfl rfl rfl rfl (o_call (is := [0, 0]) Tryz.call51 (c_pApply p b [((⟨#[98]⟩ : ByteArray), [(⟨#[120]⟩ : ByteArray), (⟨#[121]⟩ : ByteArray)])] Prim.zero ((none, 0), (none, 0)) al3_fZ al_f3 (hb_of (by decide) (by decide))) rfl rfl (by repeat' (first | constructor | apply Sub.suf)) rfl) (TOk.xP 26 [] (by kernel_rfl) (TOk.t (isBoxE fun _ => isInS (by repeat' constructor) (k := 0) rfl (z := 1) (by repeat (first | exact Cut.d | apply Cut.t | apply Cut.s))) (TOk.t (isBoxE fun _ => isBoxS (by repeat' constructor) (k := 6) (by repeat (first | exact Cut.d | apply Cut.t | apply Cut.s))) (TOk.t (isBoxE fun _ => isBoxS (by repeat' constructor) (k := 6) (by repeat (first | exact Cut.d | apply Cut.t | apply Cut.s))) (TOk.t (isBoxE fun _ => isBoxS (by repeat' constructor) (k := 6) (by repeat (first | exact Cut.d | apply Cut.t | apply Cut.s))) TOk.d))))) ?_
 refine eaB ?_; rintro ⟨⟨T7, e7⟩, hq7⟩
 try dsimp only at hq7
 obtain ⟨rfl, rfl⟩ := Prod.mk.inj (hq7.trans al3_7)
 refine tkB 33 rfl (by kernel_rfl) (fun _ _ _ h => h) (gyes rfl rfl rfl rfl) (TTany _) (p_icmp rfl rfl rfl) rfl ?_
 refine tkB 34 rfl (by kernel_rfl) (fun _ _ _ h => h) gnone (TTany _) (p_pickt rfl rfl) rfl ?_
 refine tkB 35 rfl (by kernel_rfl) (fun _ _ _ h => h) gnone (TTany _) (p_move rfl) rfl ?_
 refine tkB 36 rfl (by kernel_rfl) (fun _ _ _ h => h) (gyes rfl rfl rfl rfl) (TTany _) (p_move rfl) rfl ?_
 refine tkB 37 rfl (by kernel_rfl) (fun _ _ _ h => h) (gyes rfl rfl rfl rfl) (TTany _) (p_lenl rfl Tryz.underlying37) rfl ?_
 refine tkB 38 rfl (by kernel_rfl) (fun _ _ _ h => h) (gyes rfl rfl rfl rfl) (TTany _) (p_icmp rfl rfl rfl) rfl ?_
 refine tkB 39 rfl (by kernel_rfl) (fun _ _ _ h => h) gnone (TTany _) (p_pickt rfl rfl) rfl ?_
 refine tkB 40 rfl (by kernel_rfl) (fun _ _ _ h => h) gnone (TTany _) (p_move rfl) rfl ?_
 refine tkB 41 rfl (by kernel_rfl) (fun _ _ _ h => h) (gyes rfl rfl rfl rfl) (TTany _) (p_move rfl) rfl ?_
 refine tkB 42 rfl (by kernel_rfl) (fun _ _ _ h => h) (gyes rfl rfl rfl rfl) (TTany _) (p_ia 0 hAp Nat.zero_lt_two rfl Tryz.underlying37 Tryz.sizeOf9 rfl rfl) rfl ?_
 refine tkB 43 rfl (by kernel_rfl) (fun _ _ _ h => h) (gyes rfl rfl rfl rfl) (TTat (List.Mem.tail _ (List.Mem.head _))) (p_ld Tryz.isAgg9 rfl) rfl ?_
 refine tkB 44 rfl (by kernel_rfl) (fun _ _ _ h => h) (gyes rfl rfl rfl rfl) (TTany _) (p_seq rfl rfl) rfl ?_
 refine fixB (congrArg Value.bool (decide_eq_true rfl)) ?_
 refine tkB 45 rfl (by kernel_rfl) (fun _ _ _ h => h) gnone (TTany _) (p_pickt rfl rfl) rfl ?_
 refine tkB 46 rfl (by kernel_rfl) (fun _ _ _ h => h) gnone (TTany _) (p_move rfl) rfl ?_
 refine tkB 47 rfl (by kernel_rfl) (fun _ _ _ h => h) (gyes rfl rfl rfl rfl) (TTat (List.Mem.tail _ (List.Mem.tail _ (List.Mem.head _)))) (p_lda Tryz.isAgg39 Tryz.sizeOf39 rfl rfl) rfl ?_
 refine tkB 48 rfl (by kernel_rfl) (fun _ _ _ h => h) (gyes rfl rfl rfl rfl) (TTat (List.Mem.tail _ (List.Mem.tail _ (List.Mem.tail _ (List.Mem.head _))))) (p_lda Tryz.isAgg39 Tryz.sizeOf39 rfl rfl) rfl ?_
 refine dfB 49 (by kernel_rfl) ?_
 refine doGB rfl rfl rfl rfl rfl (o_call (is := []) Tryz.call48 (c_primClone pH ((some ⟨b12, 0, none⟩, 1), (some ⟨b13, 0, none⟩, 2)) al3_fH) rfl rfl (by repeat' (first | constructor | apply Sub.suf)) rfl) (TOk.xP 26 [] (by kernel_rfl) (TOk.xP 49 [46, 45, 44] (by kernel_rfl) (TOk.t (isBoxE fun _ => isBoxS (by repeat' constructor) (k := 6) (by repeat (first | exact Cut.d | apply Cut.t | apply Cut.s))) (TOk.xP 49 [] (by kernel_rfl) (TOk.t (isBoxE fun _ => isBoxS (by repeat' constructor) (k := 6) (by repeat (first | exact Cut.d | apply Cut.t | apply Cut.s))) TOk.d))))) ?_
 refine eaB ?_; intro z84
 refine dfB 50 (by kernel_rfl) ?_
 refine doGB rfl rfl rfl rfl rfl (o_call (is := []) Tryz.call100 (c_primSame pH pH ((some ⟨b12, 0, none⟩, 1), (some ⟨b13, 0, none⟩, 2)) z84 al3_fH) rfl rfl (by repeat' (first | constructor | apply Sub.suf)) rfl) (TOk.xP 26 [] (by kernel_rfl) (TOk.xP 49 [46, 45, 44] (by kernel_rfl) (TOk.xP 50 [] (by kernel_rfl) (TOk.xP 49 [] (by kernel_rfl) (TOk.t (isBoxE fun _ => isBoxS (by repeat' constructor) (k := 6) (by repeat (first | exact Cut.d | apply Cut.t | apply Cut.s))) TOk.d))))) ?_
 refine eaB ?_; intro x85
 refine fixB (congrArg Value.bool (decide_eq_true rfl)) ?_
 refine tkB 51 rfl (by kernel_rfl) (fun _ _ _ h => h) gnone (TTany _) (p_pickt rfl rfl) rfl ?_
 refine tkB 52 rfl (by kernel_rfl) (fun _ _ _ h => h) gnone (TTany _) (p_move rfl) rfl ?_
 refine tkB 53 rfl (by kernel_rfl) (fun _ _ _ h => h) (gyes rfl rfl rfl rfl) (TTat (List.Mem.tail _ (List.Mem.tail _ (List.Mem.tail _ (List.Mem.tail _ (List.Mem.head _)))))) (p_lda Tryz.isAgg39 Tryz.sizeOf39 rfl rfl) rfl ?_
 refine dfB 54 (by kernel_rfl) ?_
 refine doGB rfl rfl rfl rfl rfl (o_call (is := []) Tryz.call101 (c_primRight pH ((some ⟨b12, 0, none⟩, 1), (some ⟨b13, 0, none⟩, 2)) al3_fH) rfl rfl (by repeat' (first | constructor | apply Sub.suf)) rfl) (TOk.xP 26 [] (by kernel_rfl) (TOk.xP 49 [46, 45, 44] (by kernel_rfl) (TOk.xP 50 [] (by kernel_rfl) (TOk.xP 49 [] (by kernel_rfl) (TOk.xP 54 [] (by kernel_rfl) TOk.d))))) ?_
 refine eaB ?_; intro x89
 refine fixB (congrArg Value.bool al3_8) ?_
 refine tkB 55 rfl (by kernel_rfl) (fun _ _ _ h => h) gnone (TTany _) (p_pickt rfl rfl) rfl ?_
 refine tkB 56 rfl (by kernel_rfl) (fun _ _ _ h => h) gnone (TTany _) (p_asg rfl) rfl ?_
 refine dnB (by kernel_rfl) ?_
 refine nthen ?_
 refine cret ?_
 refine xret (fun _ _ h => h) ?_
 refine rret (is := []) () (Or.inl rfl) (Res.t rfl Res.d) (rfl) rfl (by repeat' (first | constructor | apply Sub.suf))

end Go.Proofs.YtdbiillompeclaaGreatDoor.X

end
section
set_option linter.unusedVariables false
set_option linter.unusedSimpArgs false
namespace Go.Sx
open Go Go.RowKit
theorem borrow {P : Program} {f : FuncId} {args : List Value} {α : Type} [Rp α] {e : TypeId} {A : Option Addr} {c : Nat} {l : List α} {Γi : List Asn} {X : Type} {rv : X → Value} {Ξo : X → List Xsn}
    (h : Con P f args [] (slA A l :: Γi) X rv Ξo (fun _ => [])) (hfree : ∀ x, ∀ z ∈ Ξo x, ∀ F M M' w, z.p F M w → z.p F M' w) :
    Con P f args [row e A c l] Γi X rv (fun x => row e A c l :: Ξo x) (fun _ => []) := by
  intro M0 Fs w hh
  obtain ⟨F, rfl, hrow⟩ := hh.one_of
  have ho : ∀ b, own [F] b ↔ F b := fun b => by simp [own]
  have hsl : Slots ⟨0, []⟩ [] { tmps := #[], defers := [] } := ⟨rfl, rfl, fun t v h => by cases h⟩
  obtain ⟨_, Fs', h1⟩ := freeze (i := 0) rfl (⟨hsl, [F], hh⟩ : St M0 (own [F]) w ⟨0, []⟩ [] [row e A c l] Γi { tmps := #[], defers := [] } w)
  have hnil : Fs' = [] := by
    cases Fs' with
    | nil => rfl
    | cons G Gs => exact h1.ex.elim
  subst hnil
  have hin : Hp M0 (own []) w [] (slA A l :: Γi) [] w := ⟨trivial, .nil, fun b hb => absurd hb (own_nil b), fun b hb => absurd hb (own_nil b), fun b hb => absurd hb (own_nil b), h1.ga, Upd.refl _ _, h1.m0, fun b hb => absurd hb (own_nil b)⟩
  refine (h M0 [] w hin).mono ?_
  rintro en w' ⟨x, Gs, rfl, hout⟩
  have hnew : ∀ b, own Gs b → ¬ b < w.heap.size := fun b hb hl => own_nil b (hout.old b hb hl)
  have hblk : ∀ b, b < w.heap.size → w'.heap[b]? = w.heap[b]? := fun b hb => hout.up.block b hb (own_nil b)
  refine ⟨x, F :: Gs, rfl, ⟨?_, ?_⟩, List.pairwise_cons.2 ⟨fun G hG b hf hg => hnew b ⟨G, hG, hg⟩ (hh.lt b ((ho b).2 hf)), hout.dis⟩, ?_, ?_, ?_, (fun p hp => by cases hp), ⟨hout.up.os, hout.up.tape, hout.up.output, hout.up.size, fun b hb _ => hblk b hb⟩, hh.m0, hh.f0⟩
  · refine (row e A c l).st _ _ _ _ _ hrow (fun b hb _ => hblk b hb) (fun b hb hM => ?_) hout.up.size
    rcases hM with hM | hM
    · exact .inl hM
    · rcases own_cons.1 hM with hM | hM
      · exact .inr ((ho b).2 hM)
      · exact absurd hb (hnew b hM)
  · have : ∀ {Ξ : List Xsn} {Gs : List (Nat → Prop)} {M M' : Nat → Prop}, (∀ z ∈ Ξ, ∀ F M M' w, z.p F M w → z.p F M' w) → all2 M w' Ξ Gs → all2 M' w' Ξ Gs := by
      intro Ξ
      induction Ξ with
      | nil =>
        intro Gs M M' _ h
        cases Gs with
        | nil => trivial
        | cons _ _ => exact h.elim
      | cons z Ξ ih =>
        intro Gs M M' hz h
        cases Gs with
        | nil => exact h.elim
        | cons G Gs => exact ⟨hz z (by simp) _ _ _ _ h.1, ih (fun z' h' => hz z' (by simp [h'])) h.2⟩
    exact this (hfree x) hout.ex
  · intro b hb
    rcases own_cons.1 hb with hb | hb
    · exact hh.dis0 b ((ho b).2 hb)
    · intro hm; exact hnew b hb (hh.m0 b hm)
  · intro b hb
    rcases own_cons.1 hb with hb | hb
    · exact Nat.lt_of_lt_of_le (hh.lt b ((ho b).2 hb)) hout.up.size
    · exact hout.lt b hb
  · intro b hb hl
    rcases own_cons.1 hb with hb | hb
    · exact (ho b).2 hb
    · exact absurd hl (hnew b hb)
theorem row_free {e : TypeId} {A : Option Addr} {c : Nat} {l : List ByteArray} : ∀ F M M' w, (row e A c l).p F M w → (row e A c l).p F M' w := by
  rintro F M M' w ⟨xs, h1, h2, h3⟩
  have := rowE_strs h3
  subst this
  exact ⟨_, h1, h2, strs_rowE l⟩
end Go.Sx

end
section
set_option linter.unusedVariables false
set_option linter.unusedSimpArgs false
namespace Go.Sx
open Go Go.RowKit
theorem borrowL {P : Program} {f : FuncId} {args : List Value} {Ξz : List Xsn} {Γi Γ' : List Asn} {X : Type} {rv : X → Value} {Ξo : X → List Xsn}
    (hfz : ∀ (M0 F0 : Nat → Prop) (w0 : World) (a : Act) (w : World), St M0 F0 w0 ⟨0, []⟩ [] Ξz Γi a w → St M0 F0 w0 ⟨0, []⟩ [] [] Γ' a w)
    (h : Con P f args [] Γ' X rv Ξo (fun _ => [])) (hfree : ∀ x, ∀ z ∈ Ξo x, ∀ F M M' w, z.p F M w → z.p F M' w) :
    Con P f args Ξz Γi X rv (fun x => Ξz ++ Ξo x) (fun _ => []) := by
  intro M0 Fs w hh
  have hsl : Slots ⟨0, []⟩ [] { tmps := #[], defers := [] } := ⟨rfl, rfl, fun t v h => by cases h⟩
  obtain ⟨_, Fs', h1⟩ := hfz M0 (own Fs) w _ w (⟨hsl, Fs, hh⟩ : St M0 (own Fs) w ⟨0, []⟩ [] Ξz Γi { tmps := #[], defers := [] } w)
  have hnil : Fs' = [] := by
    cases Fs' with
    | nil => rfl
    | cons G Gs => exact h1.ex.elim
  subst hnil
  have hin : Hp M0 (own []) w [] Γ' [] w := ⟨trivial, .nil, fun b hb => absurd hb (own_nil b), fun b hb => absurd hb (own_nil b), fun b hb => absurd hb (own_nil b), h1.ga, Upd.refl _ _, h1.m0, fun b hb => absurd hb (own_nil b)⟩
  refine (h M0 [] w hin).mono ?_
  rintro en w' ⟨x, Gs, rfl, hout⟩
  have hnew : ∀ b, own Gs b → ¬ b < w.heap.size := fun b hb hl => own_nil b (hout.old b hb hl)
  have hblk : ∀ b, b < w.heap.size → w'.heap[b]? = w.heap[b]? := fun b hb => hout.up.block b hb (own_nil b)
  refine ⟨x, Fs ++ Gs, rfl, ⟨all2.append ?_ ?_, List.pairwise_append.2 ⟨hh.dis, hout.dis, fun F hF G hG b hf hg => hnew b ⟨G, hG, hg⟩ (hh.lt b ⟨F, hF, hf⟩)⟩, ?_, ?_, ?_, (fun p hp => by cases hp), ⟨hout.up.os, hout.up.tape, hout.up.output, hout.up.size, fun b hb _ => hblk b hb⟩, hh.m0, hh.f0⟩⟩
  · refine hh.ex.st (fun b hb _ => hblk b hb) (fun b hb hM => ?_) hout.up.size
    rcases hM with hM | hM
    · exact .inl hM
    · rcases own_append.1 hM with hM | hM
      · exact .inr hM
      · exact absurd hb (hnew b hM)
  · have : ∀ {Ξ : List Xsn} {Gs : List (Nat → Prop)} {M M' : Nat → Prop}, (∀ z ∈ Ξ, ∀ F M M' w, z.p F M w → z.p F M' w) → all2 M w' Ξ Gs → all2 M' w' Ξ Gs := by
      intro Ξ
      induction Ξ with
      | nil =>
        intro Gs M M' _ h
        cases Gs with
        | nil => trivial
        | cons _ _ => exact h.elim
      | cons z Ξ ih =>
        intro Gs M M' hz h
        cases Gs with
        | nil => exact h.elim
        | cons G Gs => exact ⟨hz z (by simp) _ _ _ _ h.1, ih (fun z' h' => hz z' (by simp [h'])) h.2⟩
    exact this (hfree x) hout.ex
  · intro b hb
    rcases own_append.1 hb with hb | hb
    · exact hh.dis0 b hb
    · intro hm; exact hnew b hb (hh.m0 b hm)
  · intro b hb
    rcases own_append.1 hb with hb | hb
    · exact Nat.lt_of_lt_of_le (hh.lt b hb) hout.up.size
    · exact hout.lt b hb
  · intro b hb hl
    rcases own_append.1 hb with hb | hb
    · exact hb
    · exact absurd hl (hnew b hb)
theorem freeze2 {e : TypeId} {A B : Option Addr} {c c' : Nat} {l m : List ByteArray} {Γ Γ' : List Asn} (hs : Sub Γ' (slA A l :: slA B m :: Γ)) (M0 F0 : Nat → Prop) (w0 : World) (a : Act) (w : World)
    (h : St M0 F0 w0 ⟨0, []⟩ [] [row e A c l, row e B c' m] Γ a w) : St M0 F0 w0 ⟨0, []⟩ [] [] Γ' a w :=
  wk (is := []) (subσ.nil _) rfl hs a w (freeze (i := 0) rfl (freeze (i := 1) rfl h))
theorem rows_free {e : TypeId} {A B : Option Addr} {c c' : Nat} {l m : List ByteArray} : ∀ z ∈ [row e A c l, row e B c' m], ∀ F M M' w, z.p F M w → z.p F M' w := by
  intro z hz
  rcases List.mem_cons.1 hz with rfl | hz
  · exact row_free
  · rw [List.mem_singleton.1 hz]; exact row_free
end Go.Sx

end
