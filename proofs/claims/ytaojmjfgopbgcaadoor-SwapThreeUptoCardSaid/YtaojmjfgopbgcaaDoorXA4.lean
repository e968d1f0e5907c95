/- OWN WORK: a part of the proof of a law of the seat YtaojmjfgopbgcaaDoor: the walk through functions of the program. -/
import Derived.Test.YtaojmjfgopbgcaaDoorProg
import Derived.Test.YtaojmjfgopbgcaaDoorXSxK
import Derived.Test.YtaojmjfgopbgcaaDoorXA3
set_option linter.unusedVariables false
set_option linter.unusedSimpArgs false
namespace Go.Proofs.YtaojmjfgopbgcaaDoor.X
open Go Go.RowKit Go.Proofs Go.Sx
attribute [local irreducible] slA isA box row

theorem dec_prim (p q : Prim) : (decide (p.kind = q.kind) && decide (p.name = q.name) && decide (p.to = q.to) && decide (p.pos = q.pos) && decide (p.old = q.old) && decide (p.new = q.new)) = decide (p = q) := by
  rw [Bool.eq_iff_iff]
  cases p; cases q
  simp [and_assoc]

theorem inf9 : (Tryd.prog.info? 9).map (fun i => (i.zero, i.size, i.bytes)) = some (some (.string ⟨#[]⟩), 1, 16) := by kernel_rfl
theorem c_primSame (p q : Prim) (yp yq : Rp.Lay Prim) (hp : p.fit) : Con Tryd.prog 16 [sv p yp, sv q yq] [] (Rp.asn p yp ++ Rp.asn q yq) Unit (fun _ => .bool (decide (p = q))) (fun _ => []) (fun _ => []) := by
  refine con Tryd.func16 rfl Tryd.ntmps16 rfl ?_
  intro M0 F0 w0
  refine cs ?_
  refine cr ?_
  refine ls (o_box rfl rfl rfl) ?_
  refine le ?_; intro b2
  refine ls (o_box rfl rfl rfl) ?_
  refine le ?_; intro b3
  refine ls (op (p_asg rfl) rfl) ?_
  refine ln ?_
  refine nthen ?_
  refine cs ?_
  refine cr ?_
  refine ls (op (p_fa fa27_0 rfl) rfl) ?_
  refine ls (o_ld Tryd.isAgg3 rfl (by repeat (first | exact At.z | apply At.s)) (by repeat (first | exact At.z | apply At.s)) rfl) ?_
  refine ls (op (p_fa fa27_0 rfl) rfl) ?_
  refine ls (o_ld Tryd.isAgg3 rfl (by repeat (first | exact At.z | apply At.s)) (by repeat (first | exact At.z | apply At.s)) rfl) ?_
  refine ls (op (p_icmp rfl rfl rfl) rfl) ?_
  refine ls (op (p_move rfl) rfl) ?_
  refine andX 6 10 16 rfl (subσ.cons (t := 0) rfl (subσ.cons (t := 1) rfl (subσ.cons (t := 2) rfl (subσ.cons (t := 3) rfl (subσ.cons (t := 4) rfl (subσ.nil _)))))) ?_ ?_
  · intro h10
    refine lskip rfl rfl rfl rfl rfl ?_
    refine lskip rfl rfl rfl rfl rfl ?_
    refine lskip rfl rfl rfl rfl rfl ?_
    refine lskip rfl rfl rfl rfl rfl ?_
    refine lskip rfl rfl rfl rfl rfl ?_
    refine ls (op (p_pickf rfl rfl) rfl) ?_
    refine ln (nmid (wk0 (by repeat (first | exact subσ.nil _ | refine subσ.cons rfl ?_)) (by repeat (first | exact Sub.d | (refine Sub.s ?_ ?_; (repeat (first | exact In.z | apply In.s))) | (refine Sub.suf ?_; (repeat (first | exact Suf.z | apply Suf.s)))))))
  apply exI
  · intro h10
    refine lwant rfl rfl rfl rfl (op (p_fa fa27_1 rfl) rfl) ?_
    refine lwant rfl rfl rfl rfl (o_ld Tryd.isAgg9 rfl (by repeat (first | exact At.z | apply At.s)) (by repeat (first | exact At.z | apply At.s)) rfl) ?_
    refine lwant rfl rfl rfl rfl (op (p_fa fa27_1 rfl) rfl) ?_
    refine lwant rfl rfl rfl rfl (o_ld Tryd.isAgg9 rfl (by repeat (first | exact At.z | apply At.s)) (by repeat (first | exact At.z | apply At.s)) rfl) ?_
    refine lwant rfl rfl rfl rfl (op (p_seq rfl rfl) rfl) ?_
    refine ls (op (p_pickt rfl rfl) rfl) ?_
    refine ln (nmid (wk0 (by repeat (first | exact subσ.nil _ | refine subσ.cons rfl ?_)) (by repeat (first | exact Sub.d | (refine Sub.s ?_ ?_; (repeat (first | exact In.z | apply In.s))) | (refine Sub.suf ?_; (repeat (first | exact Suf.z | apply Suf.s)))))))
  ·
    refine ls (op (p_move rfl) rfl) ?_
    refine andX 6 17 23 rfl (subσ.cons (t := 0) rfl (subσ.cons (t := 1) rfl (subσ.cons (t := 2) rfl (subσ.cons (t := 3) rfl (subσ.cons (t := 4) rfl (subσ.nil _)))))) ?_ ?_
    · intro h17
      refine lskip rfl rfl rfl rfl rfl ?_
      refine lskip rfl rfl rfl rfl rfl ?_
      refine lskip rfl rfl rfl rfl rfl ?_
      refine lskip rfl rfl rfl rfl rfl ?_
      refine lskip rfl rfl rfl rfl rfl ?_
      refine ls (op (p_pickf rfl rfl) rfl) ?_
      refine ln (nmid (wk0 (by repeat (first | exact subσ.nil _ | refine subσ.cons rfl ?_)) (by repeat (first | exact Sub.d | (refine Sub.s ?_ ?_; (repeat (first | exact In.z | apply In.s))) | (refine Sub.suf ?_; (repeat (first | exact Suf.z | apply Suf.s)))))))
    apply exI
    · intro h17
      refine lwant rfl rfl rfl rfl (op (p_fa fa27_2 rfl) rfl) ?_
      refine lwant rfl rfl rfl rfl (o_ld Tryd.isAgg9 rfl (by repeat (first | exact At.z | apply At.s)) (by repeat (first | exact At.z | apply At.s)) rfl) ?_
      refine lwant rfl rfl rfl rfl (op (p_fa fa27_2 rfl) rfl) ?_
      refine lwant rfl rfl rfl rfl (o_ld Tryd.isAgg9 rfl (by repeat (first | exact At.z | apply At.s)) (by repeat (first | exact At.z | apply At.s)) rfl) ?_
      refine lwant rfl rfl rfl rfl (op (p_seq rfl rfl) rfl) ?_
      refine ls (op (p_pickt rfl rfl) rfl) ?_
      refine ln (nmid (wk0 (by repeat (first | exact subσ.nil _ | refine subσ.cons rfl ?_)) (by repeat (first | exact Sub.d | (refine Sub.s ?_ ?_; (repeat (first | exact In.z | apply In.s))) | (refine Sub.suf ?_; (repeat (first | exact Suf.z | apply Suf.s)))))))
    ·
      refine ls (op (p_move rfl) rfl) ?_
      refine andX 6 24 30 rfl (subσ.cons (t := 0) rfl (subσ.cons (t := 1) rfl (subσ.cons (t := 2) rfl (subσ.cons (t := 3) rfl (subσ.cons (t := 4) rfl (subσ.nil _)))))) ?_ ?_
      · intro h24
        refine lskip rfl rfl rfl rfl rfl ?_
        refine lskip rfl rfl rfl rfl rfl ?_
        refine lskip rfl rfl rfl rfl rfl ?_
        refine lskip rfl rfl rfl rfl rfl ?_
        refine lskip rfl rfl rfl rfl rfl ?_
        refine ls (op (p_pickf rfl rfl) rfl) ?_
        refine ln (nmid (wk0 (by repeat (first | exact subσ.nil _ | refine subσ.cons rfl ?_)) (by repeat (first | exact Sub.d | (refine Sub.s ?_ ?_; (repeat (first | exact In.z | apply In.s))) | (refine Sub.suf ?_; (repeat (first | exact Suf.z | apply Suf.s)))))))
      apply exI
      · intro h24
        refine lwant rfl rfl rfl rfl (op (p_fa fa27_3 rfl) rfl) ?_
        refine lwant rfl rfl rfl rfl (o_ld Tryd.isAgg3 rfl (by repeat (first | exact At.z | apply At.s)) (by repeat (first | exact At.z | apply At.s)) rfl) ?_
        refine lwant rfl rfl rfl rfl (op (p_fa fa27_3 rfl) rfl) ?_
        refine lwant rfl rfl rfl rfl (o_ld Tryd.isAgg3 rfl (by repeat (first | exact At.z | apply At.s)) (by repeat (first | exact At.z | apply At.s)) rfl) ?_
        refine lwant rfl rfl rfl rfl (op (p_icmp rfl rfl rfl) rfl) ?_
        refine ls (op (p_pickt rfl rfl) rfl) ?_
        refine ln (nmid (wk0 (by repeat (first | exact subσ.nil _ | refine subσ.cons rfl ?_)) (by repeat (first | exact Sub.d | (refine Sub.s ?_ ?_; (repeat (first | exact In.z | apply In.s))) | (refine Sub.suf ?_; (repeat (first | exact Suf.z | apply Suf.s)))))))
      ·
        refine ls (op (p_move rfl) rfl) ?_
        refine andX 6 31 37 rfl (subσ.cons (t := 0) rfl (subσ.cons (t := 1) rfl (subσ.cons (t := 2) rfl (subσ.cons (t := 3) rfl (subσ.cons (t := 4) rfl (subσ.nil _)))))) ?_ ?_
        · intro h31
          refine lskip rfl rfl rfl rfl rfl ?_
          refine lskip rfl rfl rfl rfl rfl ?_
          refine lskip rfl rfl rfl rfl rfl ?_
          refine lskip rfl rfl rfl rfl rfl ?_
          refine lskip rfl rfl rfl rfl rfl ?_
          refine ls (op (p_pickf rfl rfl) rfl) ?_
          refine ln (nmid (wk0 (by repeat (first | exact subσ.nil _ | refine subσ.cons rfl ?_)) (by repeat (first | exact Sub.d | (refine Sub.s ?_ ?_; (repeat (first | exact In.z | apply In.s))) | (refine Sub.suf ?_; (repeat (first | exact Suf.z | apply Suf.s)))))))
        apply exI
        · intro h31
          refine lwant rfl rfl rfl rfl (op (p_fa fa27_4 rfl) rfl) ?_
          refine lwant rfl rfl rfl rfl (o_ld Tryd.isAgg22 rfl (by repeat (first | exact At.z | apply At.s)) (by repeat (first | exact At.z | apply At.s)) rfl) ?_
          refine lwant rfl rfl rfl rfl (op (p_fa fa27_4 rfl) rfl) ?_
          refine lwant rfl rfl rfl rfl (o_ld Tryd.isAgg22 rfl (by repeat (first | exact At.z | apply At.s)) (by repeat (first | exact At.z | apply At.s)) rfl) ?_
          refine lwant rfl rfl rfl rfl (o_call (is := []) Tryd.call27 (c_lineSame p.old q.old _ _ _ _ hp.o) rfl rfl (by repeat (first | exact Sub.d | (refine Sub.s ?_ ?_; (repeat (first | exact In.z | apply In.s))) | (refine Sub.suf ?_; (repeat (first | exact Suf.z | apply Suf.s))))) rfl) ?_
          refine le ?_; intro x36
          refine ls (op (p_pickt rfl rfl) rfl) ?_
          refine ln (nmid (wk0 (by repeat (first | exact subσ.nil _ | refine subσ.cons rfl ?_)) (by repeat (first | exact Sub.d | (refine Sub.s ?_ ?_; (repeat (first | exact In.z | apply In.s))) | (refine Sub.suf ?_; (repeat (first | exact Suf.z | apply Suf.s)))))))
        ·
          refine ls (op (p_move rfl) rfl) ?_
          refine andX 6 38 44 rfl (subσ.cons (t := 0) rfl (subσ.cons (t := 1) rfl (subσ.cons (t := 4) rfl (subσ.nil _)))) ?_ ?_
          · intro h38
            refine lskip rfl rfl rfl rfl rfl ?_
            refine lskip rfl rfl rfl rfl rfl ?_
            refine lskip rfl rfl rfl rfl rfl ?_
            refine lskip rfl rfl rfl rfl rfl ?_
            refine lskip rfl rfl rfl rfl rfl ?_
            refine ls (op (p_pickf rfl rfl) rfl) ?_
            refine ln (nmid (wk0 (by repeat (first | exact subσ.nil _ | refine subσ.cons rfl ?_)) (by repeat (first | exact Sub.d | (refine Sub.s ?_ ?_; (repeat (first | exact In.z | apply In.s))) | (refine Sub.suf ?_; (repeat (first | exact Suf.z | apply Suf.s)))))))
          apply exI
          · intro h38
            refine lwant rfl rfl rfl rfl (op (p_fa fa27_5 rfl) rfl) ?_
            refine lwant rfl rfl rfl rfl (o_ld Tryd.isAgg22 rfl (by repeat (first | exact At.z | apply At.s)) (by repeat (first | exact At.z | apply At.s)) rfl) ?_
            refine lwant rfl rfl rfl rfl (op (p_fa fa27_5 rfl) rfl) ?_
            refine lwant rfl rfl rfl rfl (o_ld Tryd.isAgg22 rfl (by repeat (first | exact At.z | apply At.s)) (by repeat (first | exact At.z | apply At.s)) rfl) ?_
            refine lwant rfl rfl rfl rfl (o_call (is := []) Tryd.call27 (c_lineSame p.new q.new _ _ _ _ hp.n) rfl rfl (by repeat (first | exact Sub.d | (refine Sub.s ?_ ?_; (repeat (first | exact In.z | apply In.s))) | (refine Sub.suf ?_; (repeat (first | exact Suf.z | apply Suf.s))))) rfl) ?_
            refine le ?_; intro x43
            refine ls (op (p_pickt rfl rfl) rfl) ?_
            refine ln (nmid (wk0 (by repeat (first | exact subσ.nil _ | refine subσ.cons rfl ?_)) (by repeat (first | exact Sub.d | (refine Sub.s ?_ ?_; (repeat (first | exact In.z | apply In.s))) | (refine Sub.suf ?_; (repeat (first | exact Suf.z | apply Suf.s)))))))
          ·
            refine ls (op (p_asg rfl) rfl) ?_
            refine ln ?_
            refine nthen ?_
            refine cret ?_
            refine xret (fun _ _ h => h) ?_
            refine rret (is := []) () (Or.inl rfl) (Res.t rfl Res.d) ?_ rfl (by repeat (first | exact Sub.d | (refine Sub.s ?_ ?_; (repeat (first | exact In.z | apply In.s))) | (refine Sub.suf ?_; (repeat (first | exact Suf.z | apply Suf.s)))))
            simp only [packV, dec_prim]

theorem c_sClone (l : List ByteArray) (A : Option Addr) (c : Nat) (hl : l.length ≤ 2000000) : Con Tryd.prog 32 [.slice A l.length c] [] [slA A l] (Option Addr × Nat) (fun y => .slice y.1 l.length y.2) (fun _ => []) (fun y => [slA y.1 l]) := by
  refine con Tryd.func32 rfl Tryd.ntmps32 rfl ?_
  intro M0 F0 w0
  refine cs ?_
  refine cr ?_
  refine ls (op (p_asg rfl) rfl) ?_
  refine ln ?_
  refine nthen ?_
  refine cs ?_
  refine cs ?_
  refine cr ?_
  refine ls (op (p_move rfl) rfl) ?_
  refine ls (op (p_slnil Tryd.underlying22 rfl rfl) rfl) ?_
  refine ln ?_
  refine nthen ?_
  refine cc rfl ?_ ?_
  · intro h4
    have h5 : A = none := by simpa using h4
    refine cs ?_
    subst h5
    refine cmono (fun a w h => nil_len (l := l) (i := 0) At.z h) ?_
    refine cf ?_; rintro rfl
    refine cr ?_
    refine ls (op (p_asg rfl) rfl) ?_
    refine ln ?_
    refine nthen ?_
    refine cret ?_
    refine xret (fun _ _ h => h) ?_
    refine rret (is := []) (none, 0) (Or.inl rfl) (Res.t rfl Res.d) (rfl) rfl (by repeat (first | exact Sub.d | (refine Sub.s ?_ ?_; (repeat (first | exact In.z | apply In.s))) | (refine Sub.suf ?_; (repeat (first | exact Suf.z | apply Suf.s)))))
  · intro h4
    have h5 : ¬ A = none := by intro e; rw [e] at h4; cases h4
    refine cskip ?_
    refine nthen ?_
    refine cs ?_
    refine cr ?_
    refine ls (o_bsl ([] : List ByteArray) Tryd.underlying22 Tryd.sizeOf9 Tryd.zeroValue9 rfl Enum.d RV.d rfl (by decide) (by decide) rfl) ?_
    refine le ?_; intro b5
    refine ls (op (p_move rfl) rfl) ?_
    refine ls (o_app (is := [0]) Tryd.underlying22 inf9 rfl (by decide) (by decide) rfl rfl (by simp; omega) (fun _ h => absurd h h5) rfl (by repeat (first | exact Sub.d | (refine Sub.s ?_ ?_; (repeat (first | exact In.z | apply In.s))) | (refine Sub.suf ?_; (repeat (first | exact Suf.z | apply Suf.s))))) rfl) ?_
    refine le ?_; rintro ⟨A', c2⟩
    refine lmono (fun a w h => Go.Sx.freeze (i := 0) rfl h) ?_
    rw [List.nil_append]
    refine ls (op (p_asg rfl) rfl) ?_
    refine ln ?_
    refine nthen ?_
    refine cret ?_
    refine xret (fun _ _ h => h) ?_
    refine rret (is := []) (A', c2) (Or.inl rfl) (Res.t rfl Res.d) (rfl) rfl (by repeat (first | exact Sub.d | (refine Sub.s ?_ ?_; (repeat (first | exact In.z | apply In.s))) | (refine Sub.suf ?_; (repeat (first | exact Suf.z | apply Suf.s)))))

theorem c_primClone (p : Prim) (y : Rp.Lay Prim) (hp : p.fit) : Con Tryd.prog 23 [sv p y] [] (Rp.asn p y) (Rp.Lay Prim) (fun y' => sv p y') (fun _ => []) (fun y' => Rp.asn p y') := by
  refine con Tryd.func23 rfl Tryd.ntmps23 rfl ?_
  intro M0 F0 w0
  refine cs ?_
  refine cr ?_
  refine ls (o_box rfl rfl rfl) ?_
  refine le ?_; intro b1
  refine ls (o_alloc Tryd.zeroValue27 rfl rfl) ?_
  refine le ?_; intro b2
  refine ln ?_
  refine nthen ?_
  refine cs ?_
  refine cd [2, 5, 7, 9] [(1, b1, 4, _), (4, b1, 5, _)] TrydX.mixed (TOk.t (isBoxS (by repeat (first | exact At.z | apply At.s)) (k := 1) (by repeat (first | exact Cut.d | apply Cut.t | apply Cut.s))) (TOk.t (isBoxS (by repeat (first | exact At.z | apply At.s)) (k := 1) (by repeat (first | exact Cut.d | apply Cut.t | apply Cut.s))) TOk.d)) ?_
  refine tk 0 rfl (by kernel_rfl) (fun _ _ _ h => h) gnone (TTany _) (p_fa fa27_4 rfl) rfl ?_
  refine tk 1 rfl (by kernel_rfl) (fun _ _ _ h => h) gnone (TTat (List.Mem.head _)) (p_ld Tryd.isAgg22 rfl) rfl ?_
  refine tk 3 rfl (by kernel_rfl) (fun _ _ _ h => h) gnone (TTany _) (p_fa fa27_5 rfl) rfl ?_
  refine tk 4 rfl (by kernel_rfl) (fun _ _ _ h => h) gnone (TTat (List.Mem.tail _ (List.Mem.head _))) (p_ld Tryd.isAgg22 rfl) rfl ?_
  refine df 2 (by kernel_rfl) ?_
  refine doR rfl (o_call (is := []) Tryd.call32 (c_sClone p.old _ _ hp.o) rfl rfl (by repeat (first | exact Sub.d | (refine Sub.s ?_ ?_; (repeat (first | exact In.z | apply In.s))) | (refine Sub.suf ?_; (repeat (first | exact Suf.z | apply Suf.s))))) rfl) (TOk.x (by kernel_rfl) (TOk.t (isBoxE fun _ => isBoxS (by repeat (first | exact At.z | apply At.s)) (k := 1) (by repeat (first | exact Cut.d | apply Cut.t | apply Cut.s))) TOk.d)) ?_
  refine ea ?_; intro y1
  refine tk 6 rfl (by kernel_rfl) (fun _ _ _ h => h) gnone (TTany _) (p_fa fa27_4 rfl) rfl ?_
  refine df 5 (by kernel_rfl) ?_
  refine doR rfl (o_call (is := []) Tryd.call32 (c_sClone p.new _ _ hp.n) rfl rfl (by repeat (first | exact Sub.d | (refine Sub.s ?_ ?_; (repeat (first | exact In.z | apply In.s))) | (refine Sub.suf ?_; (repeat (first | exact Suf.z | apply Suf.s))))) rfl) (TOk.x (by kernel_rfl) (TOk.x (by kernel_rfl) TOk.d)) ?_
  refine ea ?_; intro y2
  refine df 7 (by kernel_rfl) ?_
  refine doR rfl (o_st rfl Tryd.sizeOf22 rfl rfl rfl rfl rfl (by repeat (first | exact At.z | apply At.s)) (by repeat (first | exact Put.d | apply Put.t | apply Put.s)) (by repeat (first | exact SetAt.z | apply SetAt.s))) (TOk.x (by kernel_rfl) (TOk.x (by kernel_rfl) TOk.d)) ?_
  refine tk 8 rfl (by kernel_rfl) (fun _ _ _ h => h) gnone (TTany _) (p_fa fa27_5 rfl) rfl ?_
  refine df 9 (by kernel_rfl) ?_
  refine doR rfl (o_st rfl Tryd.sizeOf22 rfl rfl rfl rfl rfl (by repeat (first | exact At.z | apply At.s)) (by repeat (first | exact Put.d | apply Put.t | apply Put.s)) (by repeat (first | exact SetAt.z | apply SetAt.s))) (TOk.x (by kernel_rfl) (TOk.x (by kernel_rfl) TOk.d)) ?_
  refine dn (by kernel_rfl) ?_
  refine nthen ?_
  refine cs ?_
  refine cr ?_
  refine ls (o_ldw Tryd.isAgg27 Tryd.sizeOf27 rfl (by repeat (first | exact At.z | apply At.s)) (by rfl) rfl) ?_
  refine ls (o_st rfl Tryd.sizeOf27 rfl rfl rfl rfl rfl (by repeat (first | exact At.z | apply At.s)) (by repeat (first | exact Put.d | apply Put.t | apply Put.s)) (by repeat (first | exact SetAt.z | apply SetAt.s))) ?_
  refine ln ?_
  refine nthen ?_
  refine cret ?_
  refine xret (fun _ _ h => h) ?_
  refine rret (is := []) (y1, y2) (Or.inl rfl) (Res.c rfl Tryd.isAgg27 Tryd.sizeOf27 (by repeat (first | exact At.z | apply At.s)) (by rfl) Res.d) (rfl) rfl (by repeat (first | exact Sub.d | (refine Sub.s ?_ ?_; (repeat (first | exact In.z | apply In.s))) | (refine Sub.suf ?_; (repeat (first | exact Suf.z | apply Suf.s)))))

end Go.Proofs.YtaojmjfgopbgcaaDoor.X
