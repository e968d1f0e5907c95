/- OWN WORK: a part of the proof of a law of the seat YtaojmjfgopbgcaaDoor: the walk through functions of the program. -/
import Derived.Test.YtaojmjfgopbgcaaDoorProg
import Derived.Test.YtaojmjfgopbgcaaDoorXA10
set_option linter.unusedVariables false
set_option linter.unusedSimpArgs false
namespace Go.Proofs.YtaojmjfgopbgcaaDoor.X
open Go Go.RowKit Go.Proofs Go.Sx
attribute [local irreducible] slA isA box row

def aP : Prim := ⟨0, ⟨#[97]⟩, ⟨#[]⟩, 0, [⟨#[120]⟩], []⟩
def aQ : Prim := ⟨0, ⟨#[97]⟩, ⟨#[]⟩, 5, [⟨#[121]⟩], [⟨#[122]⟩]⟩
def aA : Prim := ⟨0, ⟨#[97]⟩, ⟨#[]⟩, 6, [⟨#[121]⟩], [⟨#[122]⟩]⟩
def aM : Prim := ⟨3, ⟨#[97]⟩, ⟨#[98]⟩, 0, [], []⟩
def aC : Prim := ⟨1, ⟨#[99]⟩, ⟨#[]⟩, 0, [], []⟩
theorem fit_of {p : Prim} (h1 : p.old.length ≤ 2000000) (h2 : p.new.length ≤ 2000000) (h3 : p.name.size ≤ 2000000) (h4 : p.to.size ≤ 2000000) (h5 : p.old.all (fun s => decide (s.size ≤ 2000000)) = true) (h6 : p.new.all (fun s => decide (s.size ≤ 2000000)) = true) : p.fit :=
  ⟨h1, h2, h3, h4, (fun s h => by simpa using List.all_eq_true.1 h5 s h), (fun s h => by simpa using List.all_eq_true.1 h6 s h)⟩
theorem fitP : aP.fit := fit_of (by decide) (by decide) (by decide) (by decide) (by decide) (by decide)
theorem fitQ : aQ.fit := fit_of (by decide) (by decide) (by decide) (by decide) (by decide) (by decide)
theorem fitA : aA.fit := fit_of (by decide) (by decide) (by decide) (by decide) (by decide) (by decide)
theorem fitM : aM.fit := fit_of (by decide) (by decide) (by decide) (by decide) (by decide) (by decide)
theorem fitC : aC.fit := fit_of (by decide) (by decide) (by decide) (by decide) (by decide) (by decide)
theorem three_eq {a b c d : Prim} {e f : Bool} (h : (a, b, e) = (c, d, f)) : a = c ∧ b = d ∧ e = f := by simpa using h
theorem alive1 : swap aP aQ = (aA, aP, true) := by decide +kernel
theorem alive2 : swap aA aP = (aP, aQ, true) := by decide +kernel
theorem alive3 : swap aP aM = (aM, { aP with name := ⟨#[98]⟩ }, true) := by decide +kernel
theorem alive4 : swap aP aP = (.zero, .zero, false) := by decide +kernel
theorem alive5 : swap aP aC = (aC, aP, true) := by decide +kernel


theorem c_alive : Con Tryd.prog 10 [] [] [] Unit (fun _ => .bool true) (fun _ => []) (fun _ => []) := by
  refine con Tryd.func10 rfl Tryd.ntmps10 rfl ?_
  intro M0 F0 w0
  refine cs ?_
  refine cr ?_
  refine ls (op (p_asg rfl) rfl) ?_
  refine ln ?_
  refine nthen ?_
  refine cs ?_
  refine cmono (fun a w h => nilSl (α := ByteArray) h) ?_
  refine cr ?_
  refine ls (o_bsl ([⟨#[120]⟩] : List ByteArray) Tryd.underlying22 Tryd.sizeOf9 Tryd.zeroValue9 rfl (Enum.t Enum.d) (RV.t () rfl Sub.d RV.d) rfl (by decide) (by decide) rfl) ?_
  refine le ?_; intro b13
  refine lmono (fun a w h => Go.Sx.freeze (i := 0) rfl h) ?_
  refine ls (op (p_bld sb27 rfl (Fill.t (by repeat (first | exact At.z | apply At.s)) rfl rfl (by repeat (first | exact Put.d | apply Put.t | apply Put.s)) (Fill.t (by repeat (first | exact At.z | apply At.s)) rfl rfl (by repeat (first | exact Put.d | apply Put.t | apply Put.s)) (Fill.t (by repeat (first | exact At.z | apply At.s)) rfl rfl (by repeat (first | exact Put.d | apply Put.t | apply Put.s)) Fill.d)))) rfl) ?_
  refine ls (o_alloc Tryd.zeroValue27 rfl rfl) ?_
  refine le ?_; intro b1
  refine ls (o_st rfl Tryd.sizeOf27 rfl rfl rfl rfl rfl (by repeat (first | exact At.z | apply At.s)) (by repeat (first | exact Put.d | apply Put.t | apply Put.s)) (by repeat (first | exact SetAt.z | apply SetAt.s))) ?_
  refine ln ?_
  refine nthen ?_
  refine cs ?_
  refine cr ?_
  refine ls (o_bsl ([⟨#[121]⟩] : List ByteArray) Tryd.underlying22 Tryd.sizeOf9 Tryd.zeroValue9 rfl (Enum.t Enum.d) (RV.t () rfl Sub.d RV.d) rfl (by decide) (by decide) rfl) ?_
  refine le ?_; intro b15
  refine lmono (fun a w h => Go.Sx.freeze (i := 0) rfl h) ?_
  refine ls (o_bsl ([⟨#[122]⟩] : List ByteArray) Tryd.underlying22 Tryd.sizeOf9 Tryd.zeroValue9 rfl (Enum.t Enum.d) (RV.t () rfl Sub.d RV.d) rfl (by decide) (by decide) rfl) ?_
  refine le ?_; intro b16
  refine lmono (fun a w h => Go.Sx.freeze (i := 0) rfl h) ?_
  refine ls (op (p_bld sb27 rfl (Fill.t (by repeat (first | exact At.z | apply At.s)) rfl rfl (by repeat (first | exact Put.d | apply Put.t | apply Put.s)) (Fill.t (by repeat (first | exact At.z | apply At.s)) rfl rfl (by repeat (first | exact Put.d | apply Put.t | apply Put.s)) (Fill.t (by repeat (first | exact At.z | apply At.s)) rfl rfl (by repeat (first | exact Put.d | apply Put.t | apply Put.s)) (Fill.t (by repeat (first | exact At.z | apply At.s)) rfl rfl (by repeat (first | exact Put.d | apply Put.t | apply Put.s)) (Fill.t (by repeat (first | exact At.z | apply At.s)) rfl rfl (by repeat (first | exact Put.d | apply Put.t | apply Put.s)) Fill.d)))))) rfl) ?_
  refine ls (o_alloc Tryd.zeroValue27 rfl rfl) ?_
  refine le ?_; intro b2
  refine ls (o_st rfl Tryd.sizeOf27 rfl rfl rfl rfl rfl (by repeat (first | exact At.z | apply At.s)) (by repeat (first | exact Put.d | apply Put.t | apply Put.s)) (by repeat (first | exact SetAt.z | apply SetAt.s))) ?_
  refine ln ?_
  refine nthen ?_
  refine cs ?_
  refine cr ?_
  refine ls (o_ldw Tryd.isAgg27 Tryd.sizeOf27 rfl (by repeat (first | exact At.z | apply At.s)) (by rfl) rfl) ?_
  refine ls (o_ldw Tryd.isAgg27 Tryd.sizeOf27 rfl (by repeat (first | exact At.z | apply At.s)) (by rfl) rfl) ?_
  refine ls (o_call (is := []) Tryd.call11 (c_Swap aP aQ ((some ⟨b13, 0, none⟩, 1), (none, 0)) ((some ⟨b15, 0, none⟩, 1), (some ⟨b16, 0, none⟩, 1)) fitP fitQ) rfl rfl (by repeat (first | exact Sub.d | (refine Sub.s ?_ ?_; (repeat (first | exact In.z | apply In.s))) | (refine Sub.suf ?_; (repeat (first | exact Suf.z | apply Suf.s))))) rfl) ?_
  refine le ?_; rintro ⟨⟨⟨a1, a2, a3⟩, u1, u2⟩, ha⟩
  obtain ⟨rfl, rfl, rfl⟩ := three_eq (ha.trans alive1)
  refine ls (op (p_move rfl) rfl) ?_
  refine ls (op (p_ext rfl (by repeat (first | exact At.z | apply At.s))) rfl) ?_
  refine ls (op (p_ext rfl (by repeat (first | exact At.z | apply At.s))) rfl) ?_
  refine ls (op (p_ext rfl (by repeat (first | exact At.z | apply At.s))) rfl) ?_
  refine ls (o_alloc Tryd.zeroValue27 rfl rfl) ?_
  refine le ?_; intro b3
  refine ls (o_alloc Tryd.zeroValue27 rfl rfl) ?_
  refine le ?_; intro b4
  refine ls (o_st rfl Tryd.sizeOf27 rfl rfl rfl rfl rfl (by repeat (first | exact At.z | apply At.s)) (by repeat (first | exact Put.d | apply Put.t | apply Put.s)) (by repeat (first | exact SetAt.z | apply SetAt.s))) ?_
  refine ls (o_st rfl Tryd.sizeOf27 rfl rfl rfl rfl rfl (by repeat (first | exact At.z | apply At.s)) (by repeat (first | exact Put.d | apply Put.t | apply Put.s)) (by repeat (first | exact SetAt.z | apply SetAt.s))) ?_
  refine ls (op (p_asg rfl) rfl) ?_
  refine ln ?_
  refine nthen ?_
  refine cs ?_
  refine cr ?_
  refine ls (o_ldw Tryd.isAgg27 Tryd.sizeOf27 rfl (by repeat (first | exact At.z | apply At.s)) (by rfl) rfl) ?_
  refine ls (o_ldw Tryd.isAgg27 Tryd.sizeOf27 rfl (by repeat (first | exact At.z | apply At.s)) (by rfl) rfl) ?_
  refine ls (o_call (is := []) Tryd.call11 (c_Swap aA aP u1 u2 fitA fitP) rfl rfl (by repeat (first | exact Sub.d | (refine Sub.s ?_ ?_; (repeat (first | exact In.z | apply In.s))) | (refine Sub.suf ?_; (repeat (first | exact Suf.z | apply Suf.s))))) rfl) ?_
  refine le ?_; rintro ⟨⟨⟨c1, c2, c3⟩, u3, u4⟩, hc⟩
  obtain ⟨rfl, rfl, rfl⟩ := three_eq (hc.trans alive2)
  refine ls (op (p_move rfl) rfl) ?_
  refine ls (op (p_ext rfl (by repeat (first | exact At.z | apply At.s))) rfl) ?_
  refine ls (op (p_ext rfl (by repeat (first | exact At.z | apply At.s))) rfl) ?_
  refine ls (op (p_ext rfl (by repeat (first | exact At.z | apply At.s))) rfl) ?_
  refine ls (o_alloc Tryd.zeroValue27 rfl rfl) ?_
  refine le ?_; intro b6
  refine ls (o_alloc Tryd.zeroValue27 rfl rfl) ?_
  refine le ?_; intro b7
  refine ls (o_st rfl Tryd.sizeOf27 rfl rfl rfl rfl rfl (by repeat (first | exact At.z | apply At.s)) (by repeat (first | exact Put.d | apply Put.t | apply Put.s)) (by repeat (first | exact SetAt.z | apply SetAt.s))) ?_
  refine ls (o_st rfl Tryd.sizeOf27 rfl rfl rfl rfl rfl (by repeat (first | exact At.z | apply At.s)) (by repeat (first | exact Put.d | apply Put.t | apply Put.s)) (by repeat (first | exact SetAt.z | apply SetAt.s))) ?_
  refine ls (op (p_asg rfl) rfl) ?_
  refine ln ?_
  refine nthen ?_
  refine cs ?_
  refine cr ?_
  refine ls (op (p_bld sb27 rfl (Fill.t (by repeat (first | exact At.z | apply At.s)) rfl rfl (by repeat (first | exact Put.d | apply Put.t | apply Put.s)) (Fill.t (by repeat (first | exact At.z | apply At.s)) rfl rfl (by repeat (first | exact Put.d | apply Put.t | apply Put.s)) (Fill.t (by repeat (first | exact At.z | apply At.s)) rfl rfl (by repeat (first | exact Put.d | apply Put.t | apply Put.s)) Fill.d)))) rfl) ?_
  refine ls (o_alloc Tryd.zeroValue27 rfl rfl) ?_
  refine le ?_; intro b9
  refine ls (o_st rfl Tryd.sizeOf27 rfl rfl rfl rfl rfl (by repeat (first | exact At.z | apply At.s)) (by repeat (first | exact Put.d | apply Put.t | apply Put.s)) (by repeat (first | exact SetAt.z | apply SetAt.s))) ?_
  refine ln ?_
  refine nthen ?_
  refine cs ?_
  refine cr ?_
  refine ls (o_ldw Tryd.isAgg27 Tryd.sizeOf27 rfl (by repeat (first | exact At.z | apply At.s)) (by rfl) rfl) ?_
  refine ls (o_ldw Tryd.isAgg27 Tryd.sizeOf27 rfl (by repeat (first | exact At.z | apply At.s)) (by rfl) rfl) ?_
  refine ls (o_call (is := []) Tryd.call11 (c_Swap aP aM ((some ⟨b13, 0, none⟩, 1), (none, 0)) ((none, 0), (none, 0)) fitP fitM) rfl rfl (by repeat (first | exact Sub.d | (refine Sub.s ?_ ?_; (repeat (first | exact In.z | apply In.s))) | (refine Sub.suf ?_; (repeat (first | exact Suf.z | apply Suf.s))))) rfl) ?_
  refine le ?_; rintro ⟨⟨⟨f1, f2, f3⟩, u5, u6⟩, hf⟩
  obtain ⟨rfl, rfl, rfl⟩ := three_eq (hf.trans alive3)
  refine ls (op (p_move rfl) rfl) ?_
  refine ls (op (p_ext rfl (by repeat (first | exact At.z | apply At.s))) rfl) ?_
  refine ls (op (p_ext rfl (by repeat (first | exact At.z | apply At.s))) rfl) ?_
  refine ls (op (p_ext rfl (by repeat (first | exact At.z | apply At.s))) rfl) ?_
  refine ls (o_alloc Tryd.zeroValue27 rfl rfl) ?_
  refine le ?_; intro b10
  refine ls (o_alloc Tryd.zeroValue27 rfl rfl) ?_
  refine le ?_; intro b11
  refine ls (o_st rfl Tryd.sizeOf27 rfl rfl rfl rfl rfl (by repeat (first | exact At.z | apply At.s)) (by repeat (first | exact Put.d | apply Put.t | apply Put.s)) (by repeat (first | exact SetAt.z | apply SetAt.s))) ?_
  refine ls (o_st rfl Tryd.sizeOf27 rfl rfl rfl rfl rfl (by repeat (first | exact At.z | apply At.s)) (by repeat (first | exact Put.d | apply Put.t | apply Put.s)) (by repeat (first | exact SetAt.z | apply SetAt.s))) ?_
  refine ls (op (p_asg rfl) rfl) ?_
  refine ln ?_
  refine nthen ?_
  refine cs ?_
  refine cr ?_
  refine ls (op (p_move rfl) rfl) ?_
  refine ls (op (p_move rfl) rfl) ?_
  refine andX 4 41 45 rfl (subσ.cons (t := 0) rfl (subσ.cons (t := 13) rfl (subσ.cons (t := 14) rfl (subσ.cons (t := 1) rfl (subσ.cons (t := 15) rfl (subσ.cons (t := 16) rfl (subσ.cons (t := 17) rfl (subσ.cons (t := 2) rfl (subσ.cons (t := 19) rfl (subσ.cons (t := 20) rfl (subσ.cons (t := 21) rfl (subσ.cons (t := 18) rfl (subσ.cons (t := 22) rfl (subσ.cons (t := 23) rfl (subσ.cons (t := 24) rfl (subσ.cons (t := 3) rfl (subσ.cons (t := 4) rfl (subσ.cons (t := 26) rfl (subσ.cons (t := 27) rfl (subσ.cons (t := 28) rfl (subσ.cons (t := 25) rfl (subσ.cons (t := 29) rfl (subσ.cons (t := 30) rfl (subσ.cons (t := 31) rfl (subσ.cons (t := 6) rfl (subσ.cons (t := 7) rfl (subσ.cons (t := 8) rfl (subσ.cons (t := 32) rfl (subσ.cons (t := 9) rfl (subσ.cons (t := 34) rfl (subσ.cons (t := 35) rfl (subσ.cons (t := 36) rfl (subσ.cons (t := 33) rfl (subσ.cons (t := 37) rfl (subσ.cons (t := 38) rfl (subσ.cons (t := 39) rfl (subσ.cons (t := 10) rfl (subσ.cons (t := 11) rfl (subσ.cons (t := 12) rfl (subσ.nil _)))))))))))))))))))))))))))))))))))))))) ?_ ?_
  · intro h41
    refine lskip rfl rfl rfl rfl rfl ?_
    refine lskip rfl rfl rfl rfl rfl ?_
    refine lskip rfl rfl rfl rfl rfl ?_
    refine ls (op (p_pickf rfl rfl) rfl) ?_
    refine ln (nmid (wk0 (by repeat (first | exact subσ.nil _ | refine subσ.cons rfl ?_)) (by repeat (first | exact Sub.d | (refine Sub.s ?_ ?_; (repeat (first | exact In.z | apply In.s))) | (refine Sub.suf ?_; (repeat (first | exact Suf.z | apply Suf.s)))))))
  apply exI
  · intro h41
    refine lwant rfl rfl rfl rfl (op (p_fa fa27_3 rfl) rfl) ?_
    refine lwant rfl rfl rfl rfl (o_ld Tryd.isAgg3 rfl (by repeat (first | exact At.z | apply At.s)) (by repeat (first | exact At.z | apply At.s)) rfl) ?_
    refine lwant rfl rfl rfl rfl (op (p_icmp rfl rfl rfl) rfl) ?_
    refine ls (op (p_pickt rfl rfl) rfl) ?_
    refine ln (nmid (wk0 (by repeat (first | exact subσ.nil _ | refine subσ.cons rfl ?_)) (by repeat (first | exact Sub.d | (refine Sub.s ?_ ?_; (repeat (first | exact In.z | apply In.s))) | (refine Sub.suf ?_; (repeat (first | exact Suf.z | apply Suf.s)))))))
  ·
    refine ls (op (p_move rfl) rfl) ?_
    refine andX 4 46 50 rfl (subσ.cons (t := 0) rfl (subσ.cons (t := 13) rfl (subσ.cons (t := 14) rfl (subσ.cons (t := 1) rfl (subσ.cons (t := 15) rfl (subσ.cons (t := 16) rfl (subσ.cons (t := 17) rfl (subσ.cons (t := 2) rfl (subσ.cons (t := 19) rfl (subσ.cons (t := 20) rfl (subσ.cons (t := 21) rfl (subσ.cons (t := 18) rfl (subσ.cons (t := 22) rfl (subσ.cons (t := 23) rfl (subσ.cons (t := 24) rfl (subσ.cons (t := 3) rfl (subσ.cons (t := 4) rfl (subσ.cons (t := 26) rfl (subσ.cons (t := 27) rfl (subσ.cons (t := 28) rfl (subσ.cons (t := 25) rfl (subσ.cons (t := 29) rfl (subσ.cons (t := 30) rfl (subσ.cons (t := 31) rfl (subσ.cons (t := 6) rfl (subσ.cons (t := 7) rfl (subσ.cons (t := 8) rfl (subσ.cons (t := 32) rfl (subσ.cons (t := 9) rfl (subσ.cons (t := 34) rfl (subσ.cons (t := 35) rfl (subσ.cons (t := 36) rfl (subσ.cons (t := 33) rfl (subσ.cons (t := 37) rfl (subσ.cons (t := 38) rfl (subσ.cons (t := 39) rfl (subσ.cons (t := 10) rfl (subσ.cons (t := 11) rfl (subσ.cons (t := 12) rfl (subσ.nil _)))))))))))))))))))))))))))))))))))))))) ?_ ?_
    · intro h46
      refine lskip rfl rfl rfl rfl rfl ?_
      refine lskip rfl rfl rfl rfl rfl ?_
      refine lskip rfl rfl rfl rfl rfl ?_
      refine ls (op (p_pickf rfl rfl) rfl) ?_
      refine ln (nmid (wk0 (by repeat (first | exact subσ.nil _ | refine subσ.cons rfl ?_)) (by repeat (first | exact Sub.d | (refine Sub.s ?_ ?_; (repeat (first | exact In.z | apply In.s))) | (refine Sub.suf ?_; (repeat (first | exact Suf.z | apply Suf.s)))))))
    apply exI
    · intro h46
      refine lwant rfl rfl rfl rfl (o_ldw Tryd.isAgg27 Tryd.sizeOf27 rfl (by repeat (first | exact At.z | apply At.s)) (by rfl) rfl) ?_
      refine lwant rfl rfl rfl rfl (o_ldw Tryd.isAgg27 Tryd.sizeOf27 rfl (by repeat (first | exact At.z | apply At.s)) (by rfl) rfl) ?_
      refine lwant rfl rfl rfl rfl (o_call (is := []) Tryd.call16 (c_primSame aP aP u2 ((some ⟨b13, 0, none⟩, 1), (none, 0)) fitP) rfl rfl (by repeat (first | exact Sub.d | (refine Sub.s ?_ ?_; (repeat (first | exact In.z | apply In.s))) | (refine Sub.suf ?_; (repeat (first | exact Suf.z | apply Suf.s))))) rfl) ?_
      refine le ?_; intro x49
      refine ls (op (p_pickt rfl rfl) rfl) ?_
      refine ln (nmid (wk0 (by repeat (first | exact subσ.nil _ | refine subσ.cons rfl ?_)) (by repeat (first | exact Sub.d | (refine Sub.s ?_ ?_; (repeat (first | exact In.z | apply In.s))) | (refine Sub.suf ?_; (repeat (first | exact Suf.z | apply Suf.s)))))))
    ·
      refine ls (op (p_move rfl) rfl) ?_
      refine andX 2 51 53 rfl (subσ.cons (t := 0) rfl (subσ.cons (t := 13) rfl (subσ.cons (t := 14) rfl (subσ.cons (t := 1) rfl (subσ.cons (t := 15) rfl (subσ.cons (t := 16) rfl (subσ.cons (t := 17) rfl (subσ.cons (t := 2) rfl (subσ.cons (t := 19) rfl (subσ.cons (t := 20) rfl (subσ.cons (t := 21) rfl (subσ.cons (t := 18) rfl (subσ.cons (t := 22) rfl (subσ.cons (t := 23) rfl (subσ.cons (t := 24) rfl (subσ.cons (t := 3) rfl (subσ.cons (t := 4) rfl (subσ.cons (t := 26) rfl (subσ.cons (t := 27) rfl (subσ.cons (t := 28) rfl (subσ.cons (t := 25) rfl (subσ.cons (t := 29) rfl (subσ.cons (t := 30) rfl (subσ.cons (t := 31) rfl (subσ.cons (t := 6) rfl (subσ.cons (t := 7) rfl (subσ.cons (t := 32) rfl (subσ.cons (t := 9) rfl (subσ.cons (t := 34) rfl (subσ.cons (t := 35) rfl (subσ.cons (t := 36) rfl (subσ.cons (t := 33) rfl (subσ.cons (t := 37) rfl (subσ.cons (t := 38) rfl (subσ.cons (t := 39) rfl (subσ.cons (t := 10) rfl (subσ.cons (t := 11) rfl (subσ.cons (t := 12) rfl (subσ.nil _))))))))))))))))))))))))))))))))))))))) ?_ ?_
      · intro h51
        refine lskip rfl rfl rfl rfl rfl ?_
        refine ls (op (p_pickf rfl rfl) rfl) ?_
        refine ln (nmid (wk0 (by repeat (first | exact subσ.nil _ | refine subσ.cons rfl ?_)) (by repeat (first | exact Sub.d | (refine Sub.s ?_ ?_; (repeat (first | exact In.z | apply In.s))) | (refine Sub.suf ?_; (repeat (first | exact Suf.z | apply Suf.s)))))))
      apply exI
      · intro h51
        refine lwant rfl rfl rfl rfl (op (p_move rfl) rfl) ?_
        refine ls (op (p_pickt rfl rfl) rfl) ?_
        refine ln (nmid (wk0 (by repeat (first | exact subσ.nil _ | refine subσ.cons rfl ?_)) (by repeat (first | exact Sub.d | (refine Sub.s ?_ ?_; (repeat (first | exact In.z | apply In.s))) | (refine Sub.suf ?_; (repeat (first | exact Suf.z | apply Suf.s)))))))
      ·
        refine ls (op (p_move rfl) rfl) ?_
        refine andX 4 54 58 rfl (subσ.cons (t := 0) rfl (subσ.cons (t := 13) rfl (subσ.cons (t := 14) rfl (subσ.cons (t := 1) rfl (subσ.cons (t := 15) rfl (subσ.cons (t := 16) rfl (subσ.cons (t := 17) rfl (subσ.cons (t := 2) rfl (subσ.cons (t := 19) rfl (subσ.cons (t := 20) rfl (subσ.cons (t := 21) rfl (subσ.cons (t := 18) rfl (subσ.cons (t := 22) rfl (subσ.cons (t := 23) rfl (subσ.cons (t := 24) rfl (subσ.cons (t := 3) rfl (subσ.cons (t := 4) rfl (subσ.cons (t := 26) rfl (subσ.cons (t := 27) rfl (subσ.cons (t := 28) rfl (subσ.cons (t := 25) rfl (subσ.cons (t := 29) rfl (subσ.cons (t := 30) rfl (subσ.cons (t := 31) rfl (subσ.cons (t := 6) rfl (subσ.cons (t := 7) rfl (subσ.cons (t := 32) rfl (subσ.cons (t := 9) rfl (subσ.cons (t := 34) rfl (subσ.cons (t := 35) rfl (subσ.cons (t := 36) rfl (subσ.cons (t := 33) rfl (subσ.cons (t := 37) rfl (subσ.cons (t := 38) rfl (subσ.cons (t := 39) rfl (subσ.cons (t := 10) rfl (subσ.cons (t := 11) rfl (subσ.cons (t := 12) rfl (subσ.nil _))))))))))))))))))))))))))))))))))))))) ?_ ?_
        · intro h54
          refine lskip rfl rfl rfl rfl rfl ?_
          refine lskip rfl rfl rfl rfl rfl ?_
          refine lskip rfl rfl rfl rfl rfl ?_
          refine ls (op (p_pickf rfl rfl) rfl) ?_
          refine ln (nmid (wk0 (by repeat (first | exact subσ.nil _ | refine subσ.cons rfl ?_)) (by repeat (first | exact Sub.d | (refine Sub.s ?_ ?_; (repeat (first | exact In.z | apply In.s))) | (refine Sub.suf ?_; (repeat (first | exact Suf.z | apply Suf.s)))))))
        apply exI
        · intro h54
          refine lwant rfl rfl rfl rfl (o_ldw Tryd.isAgg27 Tryd.sizeOf27 rfl (by repeat (first | exact At.z | apply At.s)) (by rfl) rfl) ?_
          refine lwant rfl rfl rfl rfl (o_ldw Tryd.isAgg27 Tryd.sizeOf27 rfl (by repeat (first | exact At.z | apply At.s)) (by rfl) rfl) ?_
          refine lwant rfl rfl rfl rfl (o_call (is := []) Tryd.call16 (c_primSame aP aP u3 ((some ⟨b13, 0, none⟩, 1), (none, 0)) fitP) rfl rfl (by repeat (first | exact Sub.d | (refine Sub.s ?_ ?_; (repeat (first | exact In.z | apply In.s))) | (refine Sub.suf ?_; (repeat (first | exact Suf.z | apply Suf.s))))) rfl) ?_
          refine le ?_; intro x57
          refine ls (op (p_pickt rfl rfl) rfl) ?_
          refine ln (nmid (wk0 (by repeat (first | exact subσ.nil _ | refine subσ.cons rfl ?_)) (by repeat (first | exact Sub.d | (refine Sub.s ?_ ?_; (repeat (first | exact In.z | apply In.s))) | (refine Sub.suf ?_; (repeat (first | exact Suf.z | apply Suf.s)))))))
        ·
          refine ls (op (p_move rfl) rfl) ?_
          refine andX 4 59 63 rfl (subσ.cons (t := 0) rfl (subσ.cons (t := 13) rfl (subσ.cons (t := 14) rfl (subσ.cons (t := 1) rfl (subσ.cons (t := 15) rfl (subσ.cons (t := 16) rfl (subσ.cons (t := 17) rfl (subσ.cons (t := 2) rfl (subσ.cons (t := 19) rfl (subσ.cons (t := 20) rfl (subσ.cons (t := 21) rfl (subσ.cons (t := 18) rfl (subσ.cons (t := 22) rfl (subσ.cons (t := 23) rfl (subσ.cons (t := 24) rfl (subσ.cons (t := 3) rfl (subσ.cons (t := 4) rfl (subσ.cons (t := 26) rfl (subσ.cons (t := 27) rfl (subσ.cons (t := 28) rfl (subσ.cons (t := 25) rfl (subσ.cons (t := 29) rfl (subσ.cons (t := 30) rfl (subσ.cons (t := 31) rfl (subσ.cons (t := 6) rfl (subσ.cons (t := 7) rfl (subσ.cons (t := 32) rfl (subσ.cons (t := 9) rfl (subσ.cons (t := 34) rfl (subσ.cons (t := 35) rfl (subσ.cons (t := 36) rfl (subσ.cons (t := 33) rfl (subσ.cons (t := 37) rfl (subσ.cons (t := 38) rfl (subσ.cons (t := 39) rfl (subσ.cons (t := 10) rfl (subσ.cons (t := 11) rfl (subσ.cons (t := 12) rfl (subσ.nil _))))))))))))))))))))))))))))))))))))))) ?_ ?_
          · intro h59
            refine lskip rfl rfl rfl rfl rfl ?_
            refine lskip rfl rfl rfl rfl rfl ?_
            refine lskip rfl rfl rfl rfl rfl ?_
            refine ls (op (p_pickf rfl rfl) rfl) ?_
            refine ln (nmid (wk0 (by repeat (first | exact subσ.nil _ | refine subσ.cons rfl ?_)) (by repeat (first | exact Sub.d | (refine Sub.s ?_ ?_; (repeat (first | exact In.z | apply In.s))) | (refine Sub.suf ?_; (repeat (first | exact Suf.z | apply Suf.s)))))))
          apply exI
          · intro h59
            refine lwant rfl rfl rfl rfl (o_ldw Tryd.isAgg27 Tryd.sizeOf27 rfl (by repeat (first | exact At.z | apply At.s)) (by rfl) rfl) ?_
            refine lwant rfl rfl rfl rfl (o_ldw Tryd.isAgg27 Tryd.sizeOf27 rfl (by repeat (first | exact At.z | apply At.s)) (by rfl) rfl) ?_
            refine lwant rfl rfl rfl rfl (o_call (is := []) Tryd.call16 (c_primSame aQ aQ u4 ((some ⟨b15, 0, none⟩, 1), (some ⟨b16, 0, none⟩, 1)) fitQ) rfl rfl (by repeat (first | exact Sub.d | (refine Sub.s ?_ ?_; (repeat (first | exact In.z | apply In.s))) | (refine Sub.suf ?_; (repeat (first | exact Suf.z | apply Suf.s))))) rfl) ?_
            refine le ?_; intro x62
            refine ls (op (p_pickt rfl rfl) rfl) ?_
            refine ln (nmid (wk0 (by repeat (first | exact subσ.nil _ | refine subσ.cons rfl ?_)) (by repeat (first | exact Sub.d | (refine Sub.s ?_ ?_; (repeat (first | exact In.z | apply In.s))) | (refine Sub.suf ?_; (repeat (first | exact Suf.z | apply Suf.s)))))))
          ·
            refine ls (op (p_move rfl) rfl) ?_
            refine andX 2 64 66 rfl (subσ.cons (t := 0) rfl (subσ.cons (t := 13) rfl (subσ.cons (t := 14) rfl (subσ.cons (t := 1) rfl (subσ.cons (t := 15) rfl (subσ.cons (t := 16) rfl (subσ.cons (t := 17) rfl (subσ.cons (t := 2) rfl (subσ.cons (t := 19) rfl (subσ.cons (t := 20) rfl (subσ.cons (t := 21) rfl (subσ.cons (t := 18) rfl (subσ.cons (t := 22) rfl (subσ.cons (t := 23) rfl (subσ.cons (t := 24) rfl (subσ.cons (t := 3) rfl (subσ.cons (t := 4) rfl (subσ.cons (t := 26) rfl (subσ.cons (t := 27) rfl (subσ.cons (t := 28) rfl (subσ.cons (t := 25) rfl (subσ.cons (t := 29) rfl (subσ.cons (t := 30) rfl (subσ.cons (t := 31) rfl (subσ.cons (t := 6) rfl (subσ.cons (t := 7) rfl (subσ.cons (t := 32) rfl (subσ.cons (t := 9) rfl (subσ.cons (t := 34) rfl (subσ.cons (t := 35) rfl (subσ.cons (t := 36) rfl (subσ.cons (t := 33) rfl (subσ.cons (t := 37) rfl (subσ.cons (t := 38) rfl (subσ.cons (t := 39) rfl (subσ.cons (t := 10) rfl (subσ.cons (t := 11) rfl (subσ.nil _)))))))))))))))))))))))))))))))))))))) ?_ ?_
            · intro h64
              refine lskip rfl rfl rfl rfl rfl ?_
              refine ls (op (p_pickf rfl rfl) rfl) ?_
              refine ln (nmid (wk0 (by repeat (first | exact subσ.nil _ | refine subσ.cons rfl ?_)) (by repeat (first | exact Sub.d | (refine Sub.s ?_ ?_; (repeat (first | exact In.z | apply In.s))) | (refine Sub.suf ?_; (repeat (first | exact Suf.z | apply Suf.s)))))))
            apply exI
            · intro h64
              refine lwant rfl rfl rfl rfl (op (p_move rfl) rfl) ?_
              refine ls (op (p_pickt rfl rfl) rfl) ?_
              refine ln (nmid (wk0 (by repeat (first | exact subσ.nil _ | refine subσ.cons rfl ?_)) (by repeat (first | exact Sub.d | (refine Sub.s ?_ ?_; (repeat (first | exact In.z | apply In.s))) | (refine Sub.suf ?_; (repeat (first | exact Suf.z | apply Suf.s)))))))
            ·
              refine ls (op (p_move rfl) rfl) ?_
              refine andX 4 67 71 rfl (subσ.cons (t := 0) rfl (subσ.cons (t := 13) rfl (subσ.cons (t := 14) rfl (subσ.cons (t := 1) rfl (subσ.cons (t := 15) rfl (subσ.cons (t := 16) rfl (subσ.cons (t := 17) rfl (subσ.cons (t := 2) rfl (subσ.cons (t := 19) rfl (subσ.cons (t := 20) rfl (subσ.cons (t := 21) rfl (subσ.cons (t := 18) rfl (subσ.cons (t := 22) rfl (subσ.cons (t := 23) rfl (subσ.cons (t := 24) rfl (subσ.cons (t := 3) rfl (subσ.cons (t := 4) rfl (subσ.cons (t := 26) rfl (subσ.cons (t := 27) rfl (subσ.cons (t := 28) rfl (subσ.cons (t := 25) rfl (subσ.cons (t := 29) rfl (subσ.cons (t := 30) rfl (subσ.cons (t := 31) rfl (subσ.cons (t := 6) rfl (subσ.cons (t := 7) rfl (subσ.cons (t := 32) rfl (subσ.cons (t := 9) rfl (subσ.cons (t := 34) rfl (subσ.cons (t := 35) rfl (subσ.cons (t := 36) rfl (subσ.cons (t := 33) rfl (subσ.cons (t := 37) rfl (subσ.cons (t := 38) rfl (subσ.cons (t := 39) rfl (subσ.cons (t := 10) rfl (subσ.cons (t := 11) rfl (subσ.nil _)))))))))))))))))))))))))))))))))))))) ?_ ?_
              · intro h67
                refine lskip rfl rfl rfl rfl rfl ?_
                refine lskip rfl rfl rfl rfl rfl ?_
                refine lskip rfl rfl rfl rfl rfl ?_
                refine ls (op (p_pickf rfl rfl) rfl) ?_
                refine ln (nmid (wk0 (by repeat (first | exact subσ.nil _ | refine subσ.cons rfl ?_)) (by repeat (first | exact Sub.d | (refine Sub.s ?_ ?_; (repeat (first | exact In.z | apply In.s))) | (refine Sub.suf ?_; (repeat (first | exact Suf.z | apply Suf.s)))))))
              apply exI
              · intro h67
                refine lwant rfl rfl rfl rfl (o_ldw Tryd.isAgg27 Tryd.sizeOf27 rfl (by repeat (first | exact At.z | apply At.s)) (by rfl) rfl) ?_
                refine lwant rfl rfl rfl rfl (o_ldw Tryd.isAgg27 Tryd.sizeOf27 rfl (by repeat (first | exact At.z | apply At.s)) (by rfl) rfl) ?_
                refine lwant rfl rfl rfl rfl (o_call (is := []) Tryd.call16 (c_primSame aM aM u5 ((none, 0), (none, 0)) fitM) rfl rfl (by repeat (first | exact Sub.d | (refine Sub.s ?_ ?_; (repeat (first | exact In.z | apply In.s))) | (refine Sub.suf ?_; (repeat (first | exact Suf.z | apply Suf.s))))) rfl) ?_
                refine le ?_; intro x70
                refine ls (op (p_pickt rfl rfl) rfl) ?_
                refine ln (nmid (wk0 (by repeat (first | exact subσ.nil _ | refine subσ.cons rfl ?_)) (by repeat (first | exact Sub.d | (refine Sub.s ?_ ?_; (repeat (first | exact In.z | apply In.s))) | (refine Sub.suf ?_; (repeat (first | exact Suf.z | apply Suf.s)))))))
              ·
                refine ls (op (p_move rfl) rfl) ?_
                refine andX 4 72 76 rfl (subσ.cons (t := 0) rfl (subσ.cons (t := 13) rfl (subσ.cons (t := 14) rfl (subσ.cons (t := 1) rfl (subσ.cons (t := 15) rfl (subσ.cons (t := 16) rfl (subσ.cons (t := 17) rfl (subσ.cons (t := 2) rfl (subσ.cons (t := 19) rfl (subσ.cons (t := 20) rfl (subσ.cons (t := 21) rfl (subσ.cons (t := 18) rfl (subσ.cons (t := 22) rfl (subσ.cons (t := 23) rfl (subσ.cons (t := 24) rfl (subσ.cons (t := 3) rfl (subσ.cons (t := 4) rfl (subσ.cons (t := 26) rfl (subσ.cons (t := 27) rfl (subσ.cons (t := 28) rfl (subσ.cons (t := 25) rfl (subσ.cons (t := 29) rfl (subσ.cons (t := 30) rfl (subσ.cons (t := 31) rfl (subσ.cons (t := 6) rfl (subσ.cons (t := 7) rfl (subσ.cons (t := 32) rfl (subσ.cons (t := 9) rfl (subσ.cons (t := 34) rfl (subσ.cons (t := 35) rfl (subσ.cons (t := 36) rfl (subσ.cons (t := 33) rfl (subσ.cons (t := 37) rfl (subσ.cons (t := 38) rfl (subσ.cons (t := 39) rfl (subσ.cons (t := 10) rfl (subσ.cons (t := 11) rfl (subσ.nil _)))))))))))))))))))))))))))))))))))))) ?_ ?_
                · intro h72
                  refine lskip rfl rfl rfl rfl rfl ?_
                  refine lskip rfl rfl rfl rfl rfl ?_
                  refine lskip rfl rfl rfl rfl rfl ?_
                  refine ls (op (p_pickf rfl rfl) rfl) ?_
                  refine ln (nmid (wk0 (by repeat (first | exact subσ.nil _ | refine subσ.cons rfl ?_)) (by repeat (first | exact Sub.d | (refine Sub.s ?_ ?_; (repeat (first | exact In.z | apply In.s))) | (refine Sub.suf ?_; (repeat (first | exact Suf.z | apply Suf.s)))))))
                apply exI
                · intro h72
                  refine lwant rfl rfl rfl rfl (op (p_fa fa27_1 rfl) rfl) ?_
                  refine lwant rfl rfl rfl rfl (o_ld Tryd.isAgg9 rfl (by repeat (first | exact At.z | apply At.s)) (by repeat (first | exact At.z | apply At.s)) rfl) ?_
                  refine lwant rfl rfl rfl rfl (op (p_seq rfl rfl) rfl) ?_
                  refine ls (op (p_pickt rfl rfl) rfl) ?_
                  refine ln (nmid (wk0 (by repeat (first | exact subσ.nil _ | refine subσ.cons rfl ?_)) (by repeat (first | exact Sub.d | (refine Sub.s ?_ ?_; (repeat (first | exact In.z | apply In.s))) | (refine Sub.suf ?_; (repeat (first | exact Suf.z | apply Suf.s)))))))
                ·
                  refine ls (op (p_move rfl) rfl) ?_
                  refine andX 4 77 81 rfl (subσ.cons (t := 0) rfl (subσ.cons (t := 13) rfl (subσ.cons (t := 14) rfl (subσ.cons (t := 1) rfl (subσ.cons (t := 15) rfl (subσ.cons (t := 16) rfl (subσ.cons (t := 17) rfl (subσ.cons (t := 2) rfl (subσ.cons (t := 19) rfl (subσ.cons (t := 20) rfl (subσ.cons (t := 21) rfl (subσ.cons (t := 18) rfl (subσ.cons (t := 22) rfl (subσ.cons (t := 23) rfl (subσ.cons (t := 24) rfl (subσ.cons (t := 3) rfl (subσ.cons (t := 4) rfl (subσ.cons (t := 26) rfl (subσ.cons (t := 27) rfl (subσ.cons (t := 28) rfl (subσ.cons (t := 25) rfl (subσ.cons (t := 29) rfl (subσ.cons (t := 30) rfl (subσ.cons (t := 31) rfl (subσ.cons (t := 6) rfl (subσ.cons (t := 7) rfl (subσ.cons (t := 32) rfl (subσ.cons (t := 9) rfl (subσ.cons (t := 34) rfl (subσ.cons (t := 35) rfl (subσ.cons (t := 36) rfl (subσ.cons (t := 33) rfl (subσ.cons (t := 37) rfl (subσ.cons (t := 38) rfl (subσ.cons (t := 39) rfl (subσ.cons (t := 10) rfl (subσ.cons (t := 11) rfl (subσ.nil _)))))))))))))))))))))))))))))))))))))) ?_ ?_
                  · intro h77
                    refine lskip rfl rfl rfl rfl rfl ?_
                    refine lskip rfl rfl rfl rfl rfl ?_
                    refine lskip rfl rfl rfl rfl rfl ?_
                    refine ls (op (p_pickf rfl rfl) rfl) ?_
                    refine ln (nmid (wk0 (by repeat (first | exact subσ.nil _ | refine subσ.cons rfl ?_)) (by repeat (first | exact Sub.d | (refine Sub.s ?_ ?_; (repeat (first | exact In.z | apply In.s))) | (refine Sub.suf ?_; (repeat (first | exact Suf.z | apply Suf.s)))))))
                  apply exI
                  · intro h77
                    refine lwant rfl rfl rfl rfl (o_ldw Tryd.isAgg27 Tryd.sizeOf27 rfl (by repeat (first | exact At.z | apply At.s)) (by rfl) rfl) ?_
                    refine lwant rfl rfl rfl rfl (o_ldw Tryd.isAgg27 Tryd.sizeOf27 rfl (by repeat (first | exact At.z | apply At.s)) (by rfl) rfl) ?_
                    refine lwant rfl rfl rfl rfl (o_call (is := []) Tryd.call15 (c_Needs aP aP ((some ⟨b13, 0, none⟩, 1), (none, 0)) ((some ⟨b13, 0, none⟩, 1), (none, 0)) fitP fitP) rfl rfl (by repeat (first | exact Sub.d | (refine Sub.s ?_ ?_; (repeat (first | exact In.z | apply In.s))) | (refine Sub.suf ?_; (repeat (first | exact Suf.z | apply Suf.s))))) rfl) ?_
                    refine le ?_; intro x80
                    refine ls (op (p_pickt rfl rfl) rfl) ?_
                    refine ln (nmid (wk0 (by repeat (first | exact subσ.nil _ | refine subσ.cons rfl ?_)) (by repeat (first | exact Sub.d | (refine Sub.s ?_ ?_; (repeat (first | exact In.z | apply In.s))) | (refine Sub.suf ?_; (repeat (first | exact Suf.z | apply Suf.s)))))))
                  ·
                    refine ls (op (p_move rfl) rfl) ?_
                    refine andX 4 82 86 rfl (subσ.cons (t := 0) rfl (subσ.cons (t := 13) rfl (subσ.cons (t := 14) rfl (subσ.cons (t := 1) rfl (subσ.cons (t := 15) rfl (subσ.cons (t := 16) rfl (subσ.cons (t := 17) rfl (subσ.cons (t := 2) rfl (subσ.cons (t := 19) rfl (subσ.cons (t := 20) rfl (subσ.cons (t := 21) rfl (subσ.cons (t := 18) rfl (subσ.cons (t := 22) rfl (subσ.cons (t := 23) rfl (subσ.cons (t := 24) rfl (subσ.cons (t := 3) rfl (subσ.cons (t := 4) rfl (subσ.cons (t := 26) rfl (subσ.cons (t := 27) rfl (subσ.cons (t := 28) rfl (subσ.cons (t := 25) rfl (subσ.cons (t := 29) rfl (subσ.cons (t := 30) rfl (subσ.cons (t := 31) rfl (subσ.cons (t := 6) rfl (subσ.cons (t := 7) rfl (subσ.cons (t := 32) rfl (subσ.cons (t := 9) rfl (subσ.cons (t := 34) rfl (subσ.cons (t := 35) rfl (subσ.cons (t := 36) rfl (subσ.cons (t := 33) rfl (subσ.cons (t := 37) rfl (subσ.cons (t := 38) rfl (subσ.cons (t := 39) rfl (subσ.cons (t := 10) rfl (subσ.cons (t := 11) rfl (subσ.nil _)))))))))))))))))))))))))))))))))))))) ?_ ?_
                    · intro h82
                      refine lskip rfl rfl rfl rfl rfl ?_
                      refine lskip rfl rfl rfl rfl rfl ?_
                      refine lskip rfl rfl rfl rfl rfl ?_
                      refine ls (op (p_pickf rfl rfl) rfl) ?_
                      refine ln (nmid (wk0 (by repeat (first | exact subσ.nil _ | refine subσ.cons rfl ?_)) (by repeat (first | exact Sub.d | (refine Sub.s ?_ ?_; (repeat (first | exact In.z | apply In.s))) | (refine Sub.suf ?_; (repeat (first | exact Suf.z | apply Suf.s)))))))
                    apply exI
                    · intro h82
                      refine lwant rfl rfl rfl rfl (o_ldw Tryd.isAgg27 Tryd.sizeOf27 rfl (by repeat (first | exact At.z | apply At.s)) (by rfl) rfl) ?_
                      refine lwant rfl rfl rfl rfl (op (p_bld sb27 rfl (Fill.t (by repeat (first | exact At.z | apply At.s)) rfl rfl (by repeat (first | exact Put.d | apply Put.t | apply Put.s)) (Fill.t (by repeat (first | exact At.z | apply At.s)) rfl rfl (by repeat (first | exact Put.d | apply Put.t | apply Put.s)) Fill.d))) rfl) ?_
                      refine lwant rfl rfl rfl rfl (o_call (is := []) Tryd.call14 (c_Apart aP aC ((some ⟨b13, 0, none⟩, 1), (none, 0)) ((none, 0), (none, 0)) fitP fitC) rfl rfl (by repeat (first | exact Sub.d | (refine Sub.s ?_ ?_; (repeat (first | exact In.z | apply In.s))) | (refine Sub.suf ?_; (repeat (first | exact Suf.z | apply Suf.s))))) rfl) ?_
                      refine le ?_; intro x85
                      refine ls (op (p_pickt rfl rfl) rfl) ?_
                      refine ln (nmid (wk0 (by repeat (first | exact subσ.nil _ | refine subσ.cons rfl ?_)) (by repeat (first | exact Sub.d | (refine Sub.s ?_ ?_; (repeat (first | exact In.z | apply In.s))) | (refine Sub.suf ?_; (repeat (first | exact Suf.z | apply Suf.s)))))))
                    ·
                      refine ls (op (p_asg rfl) rfl) ?_
                      refine ln ?_
                      refine nthen ?_
                      refine cret ?_
                      refine xret (fun _ _ h => h) ?_
                      refine rret (is := []) () (Or.inl rfl) (Res.t rfl Res.d) ?_ rfl (by repeat (first | exact Sub.d | (refine Sub.s ?_ ?_; (repeat (first | exact In.z | apply In.s))) | (refine Sub.suf ?_; (repeat (first | exact Suf.z | apply Suf.s)))))
                      dsimp only [packV]; rw [alive4, alive5]; rfl

theorem c_SwapTells (p q : Prim) (yp yq : Rp.Lay Prim) (hp : p.fit) (hq : q.fit) (hM : many [p, q] ≤ 1000000000000) : Con Tryd.prog 3 [sv p yp, sv q yq] [] (Rp.asn p yp ++ Rp.asn q yq) Unit (fun _ => .bool (true)) (fun _ => []) (fun _ => []) := by
  refine con Tryd.func3 rfl Tryd.ntmps3 rfl ?_
  intro M0 F0 w0
  refine cs ?_
  refine cr ?_
  refine ls (o_box rfl rfl rfl) ?_
  refine le ?_; intro b2
  refine ls (o_box rfl rfl rfl) ?_
  refine le ?_; intro b3
  refine ls (op (p_asg rfl) rfl) ?_
  refine ln ?_
  refine nthen ?_
  refine cs ?_
  refine cs ?_
  refine cr ?_
  refine ls (o_ldw Tryd.isAgg24 Tryd.sizeOf24 rfl (by repeat (first | exact At.z | apply At.s)) (by rfl) rfl) ?_
  refine ls (o_ldw Tryd.isAgg24 Tryd.sizeOf24 rfl (by repeat (first | exact At.z | apply At.s)) (by rfl) rfl) ?_
  refine ls (o_bsl [p, q] Tryd.underlying42 Tryd.sizeOf24 Tryd.zeroValue24 rfl (Enum.t (Enum.t Enum.d)) (RV.t yp rfl (by repeat (first | exact Sub.d | (refine Sub.s ?_ ?_; (repeat (first | exact In.z | apply In.s))) | (refine Sub.suf ?_; (repeat (first | exact Suf.z | apply Suf.s))))) (RV.t yq rfl (by repeat (first | exact Sub.d | (refine Sub.s ?_ ?_; (repeat (first | exact In.z | apply In.s))) | (refine Sub.suf ?_; (repeat (first | exact Suf.z | apply Suf.s))))) RV.d)) rfl (by decide) (by decide) rfl) ?_
  refine le ?_; intro b14
  refine lmono (fun a w h => Go.Sx.freeze (i := 0) rfl h) ?_
  refine ls (o_call (is := []) Tryd.call9 (c_small [p, q] _ _ (by simp) hM) rfl rfl (by repeat (first | exact Sub.d | (refine Sub.s ?_ ?_; (repeat (first | exact In.z | apply In.s))) | (refine Sub.suf ?_; (repeat (first | exact Suf.z | apply Suf.s))))) rfl) ?_
  refine le ?_; intro x15
  refine ls (op (p_not rfl) rfl) ?_
  refine ln ?_
  refine nthen ?_
  refine cc rfl ?_ ?_
  · intro h16
    try simp only [decide_eq_true_eq, decide_eq_false_iff_not, Bool.not_eq_true', Bool.not_eq_false', Int.not_lt, Int.not_le, ge_iff_le, Bool.not_true, Bool.not_false] at h16
    refine cs ?_
    refine cr ?_
    refine ls (o_call (is := []) Tryd.call10 (c_alive) rfl rfl (by repeat (first | exact Sub.d | (refine Sub.s ?_ ?_; (repeat (first | exact In.z | apply In.s))) | (refine Sub.suf ?_; (repeat (first | exact Suf.z | apply Suf.s))))) rfl) ?_
    refine le ?_; intro x17
    refine ls (op (p_asg rfl) rfl) ?_
    refine ln ?_
    refine nthen ?_
    refine cret ?_
    refine xret (fun _ _ h => h) ?_
    refine rret (is := []) () (Or.inl rfl) (Res.t rfl Res.d) (rfl) rfl (by repeat (first | exact Sub.d | (refine Sub.s ?_ ?_; (repeat (first | exact In.z | apply In.s))) | (refine Sub.suf ?_; (repeat (first | exact Suf.z | apply Suf.s)))))
  · intro h16
    try simp only [decide_eq_true_eq, decide_eq_false_iff_not, Bool.not_eq_true', Bool.not_eq_false', Int.not_lt, Int.not_le, ge_iff_le, Bool.not_true, Bool.not_false] at h16
    refine cskip ?_
    refine nthen ?_
    refine cs ?_
    refine cr ?_
    refine ls (o_ldw Tryd.isAgg24 Tryd.sizeOf24 rfl (by repeat (first | exact At.z | apply At.s)) (by rfl) rfl) ?_
    refine ls (o_ldw Tryd.isAgg24 Tryd.sizeOf24 rfl (by repeat (first | exact At.z | apply At.s)) (by rfl) rfl) ?_
    refine ls (o_call (is := []) Tryd.call11 (c_Swap p q yp yq hp hq) rfl rfl (by repeat (first | exact Sub.d | (refine Sub.s ?_ ?_; (repeat (first | exact In.z | apply In.s))) | (refine Sub.suf ?_; (repeat (first | exact Suf.z | apply Suf.s))))) rfl) ?_
    refine le ?_; rintro ⟨⟨⟨r1, r2, r3⟩, z1, z2⟩, hr⟩
    obtain ⟨e1, e2⟩ := swap_fit hp hq; rw [← hr] at e1 e2; dsimp only at hr e1 e2
    refine ls (op (p_move rfl) rfl) ?_
    refine ls (op (p_ext rfl (by repeat (first | exact At.z | apply At.s))) rfl) ?_
    refine ls (op (p_ext rfl (by repeat (first | exact At.z | apply At.s))) rfl) ?_
    refine ls (op (p_ext rfl (by repeat (first | exact At.z | apply At.s))) rfl) ?_
    refine ls (o_alloc Tryd.zeroValue27 rfl rfl) ?_
    refine le ?_; intro b5
    refine ls (o_alloc Tryd.zeroValue27 rfl rfl) ?_
    refine le ?_; intro b6
    refine ls (o_st rfl Tryd.sizeOf27 rfl rfl rfl rfl rfl (by repeat (first | exact At.z | apply At.s)) (by repeat (first | exact Put.d | apply Put.t | apply Put.s)) (by repeat (first | exact SetAt.z | apply SetAt.s))) ?_
    refine ls (o_st rfl Tryd.sizeOf27 rfl rfl rfl rfl rfl (by repeat (first | exact At.z | apply At.s)) (by repeat (first | exact Put.d | apply Put.t | apply Put.s)) (by repeat (first | exact SetAt.z | apply SetAt.s))) ?_
    refine ls (op (p_asg rfl) rfl) ?_
    refine ln ?_
    refine nthen ?_
    refine cs ?_
    refine cr ?_
    refine ls (o_ldw Tryd.isAgg24 Tryd.sizeOf24 rfl (by repeat (first | exact At.z | apply At.s)) (by rfl) rfl) ?_
    refine ls (o_ldw Tryd.isAgg24 Tryd.sizeOf24 rfl (by repeat (first | exact At.z | apply At.s)) (by rfl) rfl) ?_
    refine ls (o_call (is := []) Tryd.call12 (c_refSwap p q yp yq hp hq) rfl rfl (by repeat (first | exact Sub.d | (refine Sub.s ?_ ?_; (repeat (first | exact In.z | apply In.s))) | (refine Sub.suf ?_; (repeat (first | exact Suf.z | apply Suf.s))))) rfl) ?_
    refine le ?_; rintro ⟨⟨⟨s1, s2, s3⟩, v1, v2⟩, hs⟩
    obtain ⟨rfl, rfl, rfl⟩ := three_eq (hs.trans ((swap_eq p q).trans hr.symm))
    refine ls (op (p_move rfl) rfl) ?_
    refine ls (op (p_ext rfl (by repeat (first | exact At.z | apply At.s))) rfl) ?_
    refine ls (op (p_ext rfl (by repeat (first | exact At.z | apply At.s))) rfl) ?_
    refine ls (op (p_ext rfl (by repeat (first | exact At.z | apply At.s))) rfl) ?_
    refine ls (o_alloc Tryd.zeroValue24 rfl rfl) ?_
    refine le ?_; intro b8
    refine ls (o_alloc Tryd.zeroValue24 rfl rfl) ?_
    refine le ?_; intro b9
    refine ls (o_st rfl Tryd.sizeOf24 rfl rfl rfl rfl rfl (by repeat (first | exact At.z | apply At.s)) (by repeat (first | exact Put.d | apply Put.t | apply Put.s)) (by repeat (first | exact SetAt.z | apply SetAt.s))) ?_
    refine ls (o_st rfl Tryd.sizeOf24 rfl rfl rfl rfl rfl (by repeat (first | exact At.z | apply At.s)) (by repeat (first | exact Put.d | apply Put.t | apply Put.s)) (by repeat (first | exact SetAt.z | apply SetAt.s))) ?_
    refine ls (op (p_asg rfl) rfl) ?_
    refine ln ?_
    refine nthen ?_
    refine cs ?_
    refine cr ?_
    refine ls (op (p_move rfl) rfl) ?_
    refine ls (op (p_move rfl) rfl) ?_
    refine andX 4 33 37 rfl (subσ.cons (t := 0) rfl (subσ.cons (t := 1) rfl (subσ.cons (t := 2) rfl (subσ.cons (t := 3) rfl (subσ.cons (t := 4) rfl (subσ.cons (t := 12) rfl (subσ.cons (t := 13) rfl (subσ.cons (t := 14) rfl (subσ.cons (t := 15) rfl (subσ.cons (t := 16) rfl (subσ.cons (t := 19) rfl (subσ.cons (t := 20) rfl (subσ.cons (t := 21) rfl (subσ.cons (t := 18) rfl (subσ.cons (t := 22) rfl (subσ.cons (t := 23) rfl (subσ.cons (t := 24) rfl (subσ.cons (t := 5) rfl (subσ.cons (t := 6) rfl (subσ.cons (t := 7) rfl (subσ.cons (t := 26) rfl (subσ.cons (t := 27) rfl (subσ.cons (t := 28) rfl (subσ.cons (t := 25) rfl (subσ.cons (t := 29) rfl (subσ.cons (t := 30) rfl (subσ.cons (t := 31) rfl (subσ.cons (t := 8) rfl (subσ.cons (t := 9) rfl (subσ.cons (t := 10) rfl (subσ.nil _))))))))))))))))))))))))))))))) ?_ ?_
    · intro h33
      refine lskip rfl rfl rfl rfl rfl ?_
      refine lskip rfl rfl rfl rfl rfl ?_
      refine lskip rfl rfl rfl rfl rfl ?_
      refine ls (op (p_pickf rfl rfl) rfl) ?_
      refine ln (nmid (wk0 (by repeat (first | exact subσ.nil _ | refine subσ.cons rfl ?_)) (by repeat (first | exact Sub.d | (refine Sub.s ?_ ?_; (repeat (first | exact In.z | apply In.s))) | (refine Sub.suf ?_; (repeat (first | exact Suf.z | apply Suf.s)))))))
    apply exI
    · intro h33
      refine lwant rfl rfl rfl rfl (o_ldw Tryd.isAgg24 Tryd.sizeOf24 rfl (by repeat (first | exact At.z | apply At.s)) (by rfl) rfl) ?_
      refine lwant rfl rfl rfl rfl (o_ldw Tryd.isAgg24 Tryd.sizeOf24 rfl (by repeat (first | exact At.z | apply At.s)) (by rfl) rfl) ?_
      refine lwant rfl rfl rfl rfl (o_call (is := []) Tryd.call13 (c_refSame _ q v1 yq e1) rfl rfl (by repeat (first | exact Sub.d | (refine Sub.s ?_ ?_; (repeat (first | exact In.z | apply In.s))) | (refine Sub.suf ?_; (repeat (first | exact Suf.z | apply Suf.s))))) rfl) ?_
      refine le ?_; intro x36
      refine ls (op (p_pickt rfl rfl) rfl) ?_
      refine ln (nmid (wk0 (by repeat (first | exact subσ.nil _ | refine subσ.cons rfl ?_)) (by repeat (first | exact Sub.d | (refine Sub.s ?_ ?_; (repeat (first | exact In.z | apply In.s))) | (refine Sub.suf ?_; (repeat (first | exact Suf.z | apply Suf.s)))))))
    ·
      refine ls (op (p_move rfl) rfl) ?_
      refine andX 4 38 42 rfl (subσ.cons (t := 0) rfl (subσ.cons (t := 1) rfl (subσ.cons (t := 2) rfl (subσ.cons (t := 3) rfl (subσ.cons (t := 4) rfl (subσ.cons (t := 12) rfl (subσ.cons (t := 13) rfl (subσ.cons (t := 14) rfl (subσ.cons (t := 15) rfl (subσ.cons (t := 16) rfl (subσ.cons (t := 19) rfl (subσ.cons (t := 20) rfl (subσ.cons (t := 21) rfl (subσ.cons (t := 18) rfl (subσ.cons (t := 22) rfl (subσ.cons (t := 23) rfl (subσ.cons (t := 24) rfl (subσ.cons (t := 5) rfl (subσ.cons (t := 6) rfl (subσ.cons (t := 7) rfl (subσ.cons (t := 26) rfl (subσ.cons (t := 27) rfl (subσ.cons (t := 28) rfl (subσ.cons (t := 25) rfl (subσ.cons (t := 29) rfl (subσ.cons (t := 30) rfl (subσ.cons (t := 31) rfl (subσ.cons (t := 8) rfl (subσ.cons (t := 9) rfl (subσ.cons (t := 10) rfl (subσ.nil _))))))))))))))))))))))))))))))) ?_ ?_
      · intro h38
        refine lskip rfl rfl rfl rfl rfl ?_
        refine lskip rfl rfl rfl rfl rfl ?_
        refine lskip rfl rfl rfl rfl rfl ?_
        refine ls (op (p_pickf rfl rfl) rfl) ?_
        refine ln (nmid (wk0 (by repeat (first | exact subσ.nil _ | refine subσ.cons rfl ?_)) (by repeat (first | exact Sub.d | (refine Sub.s ?_ ?_; (repeat (first | exact In.z | apply In.s))) | (refine Sub.suf ?_; (repeat (first | exact Suf.z | apply Suf.s)))))))
      apply exI
      · intro h38
        refine lwant rfl rfl rfl rfl (o_ldw Tryd.isAgg24 Tryd.sizeOf24 rfl (by repeat (first | exact At.z | apply At.s)) (by rfl) rfl) ?_
        refine lwant rfl rfl rfl rfl (o_ldw Tryd.isAgg24 Tryd.sizeOf24 rfl (by repeat (first | exact At.z | apply At.s)) (by rfl) rfl) ?_
        refine lwant rfl rfl rfl rfl (o_call (is := []) Tryd.call13 (c_refSame _ p v2 yp e2) rfl rfl (by repeat (first | exact Sub.d | (refine Sub.s ?_ ?_; (repeat (first | exact In.z | apply In.s))) | (refine Sub.suf ?_; (repeat (first | exact Suf.z | apply Suf.s))))) rfl) ?_
        refine le ?_; intro x41
        refine ls (op (p_pickt rfl rfl) rfl) ?_
        refine ln (nmid (wk0 (by repeat (first | exact subσ.nil _ | refine subσ.cons rfl ?_)) (by repeat (first | exact Sub.d | (refine Sub.s ?_ ?_; (repeat (first | exact In.z | apply In.s))) | (refine Sub.suf ?_; (repeat (first | exact Suf.z | apply Suf.s)))))))
      ·
        refine ls (op (p_asg rfl) rfl) ?_
        refine ln ?_
        refine nthen ?_
        refine cs ?_
        refine cr ?_
        refine ls (o_call (is := []) Tryd.call10 (c_alive) rfl rfl (by repeat (first | exact Sub.d | (refine Sub.s ?_ ?_; (repeat (first | exact In.z | apply In.s))) | (refine Sub.suf ?_; (repeat (first | exact Suf.z | apply Suf.s))))) rfl) ?_
        refine le ?_; intro x43
        refine ls (op (p_move rfl) rfl) ?_
        refine andX 4 44 48 rfl (subσ.cons (t := 0) rfl (subσ.cons (t := 1) rfl (subσ.cons (t := 2) rfl (subσ.cons (t := 3) rfl (subσ.cons (t := 4) rfl (subσ.cons (t := 12) rfl (subσ.cons (t := 13) rfl (subσ.cons (t := 14) rfl (subσ.cons (t := 15) rfl (subσ.cons (t := 16) rfl (subσ.cons (t := 19) rfl (subσ.cons (t := 20) rfl (subσ.cons (t := 21) rfl (subσ.cons (t := 18) rfl (subσ.cons (t := 22) rfl (subσ.cons (t := 23) rfl (subσ.cons (t := 24) rfl (subσ.cons (t := 5) rfl (subσ.cons (t := 6) rfl (subσ.cons (t := 26) rfl (subσ.cons (t := 27) rfl (subσ.cons (t := 28) rfl (subσ.cons (t := 25) rfl (subσ.cons (t := 29) rfl (subσ.cons (t := 30) rfl (subσ.cons (t := 31) rfl (subσ.cons (t := 8) rfl (subσ.cons (t := 9) rfl (subσ.cons (t := 10) rfl (subσ.cons (t := 42) rfl (subσ.cons (t := 11) rfl (subσ.nil _)))))))))))))))))))))))))))))))) ?_ ?_
        · intro h44
          refine lskip rfl rfl rfl rfl rfl ?_
          refine lskip rfl rfl rfl rfl rfl ?_
          refine lskip rfl rfl rfl rfl rfl ?_
          refine ls (op (p_pickf rfl rfl) rfl) ?_
          refine ln (nmid (wk0 (by repeat (first | exact subσ.nil _ | refine subσ.cons rfl ?_)) (by repeat (first | exact Sub.d | (refine Sub.s ?_ ?_; (repeat (first | exact In.z | apply In.s))) | (refine Sub.suf ?_; (repeat (first | exact Suf.z | apply Suf.s)))))))
        apply exI
        · intro h44
          refine lwant rfl rfl rfl rfl (op (p_move rfl) rfl) ?_
          refine lwant rfl rfl rfl rfl (op (p_move rfl) rfl) ?_
          refine lwant rfl rfl rfl rfl (op (p_beq Tryd.underlying4 rfl rfl) rfl) ?_
          refine ls (op (p_pickt rfl rfl) rfl) ?_
          refine ln (nmid (wk0 (by repeat (first | exact subσ.nil _ | refine subσ.cons rfl ?_)) (by repeat (first | exact Sub.d | (refine Sub.s ?_ ?_; (repeat (first | exact In.z | apply In.s))) | (refine Sub.suf ?_; (repeat (first | exact Suf.z | apply Suf.s)))))))
        ·
          refine ls (op (p_move rfl) rfl) ?_
          refine andX 4 49 53 rfl (subσ.cons (t := 0) rfl (subσ.cons (t := 1) rfl (subσ.cons (t := 2) rfl (subσ.cons (t := 3) rfl (subσ.cons (t := 4) rfl (subσ.cons (t := 12) rfl (subσ.cons (t := 13) rfl (subσ.cons (t := 14) rfl (subσ.cons (t := 15) rfl (subσ.cons (t := 16) rfl (subσ.cons (t := 19) rfl (subσ.cons (t := 20) rfl (subσ.cons (t := 21) rfl (subσ.cons (t := 18) rfl (subσ.cons (t := 22) rfl (subσ.cons (t := 23) rfl (subσ.cons (t := 24) rfl (subσ.cons (t := 5) rfl (subσ.cons (t := 6) rfl (subσ.cons (t := 26) rfl (subσ.cons (t := 27) rfl (subσ.cons (t := 28) rfl (subσ.cons (t := 25) rfl (subσ.cons (t := 29) rfl (subσ.cons (t := 30) rfl (subσ.cons (t := 31) rfl (subσ.cons (t := 8) rfl (subσ.cons (t := 9) rfl (subσ.cons (t := 10) rfl (subσ.cons (t := 42) rfl (subσ.cons (t := 11) rfl (subσ.nil _)))))))))))))))))))))))))))))))) ?_ ?_
          · intro h49
            refine lskip rfl rfl rfl rfl rfl ?_
            refine lskip rfl rfl rfl rfl rfl ?_
            refine lskip rfl rfl rfl rfl rfl ?_
            refine ls (op (p_pickf rfl rfl) rfl) ?_
            refine ln (nmid (wk0 (by repeat (first | exact subσ.nil _ | refine subσ.cons rfl ?_)) (by repeat (first | exact Sub.d | (refine Sub.s ?_ ?_; (repeat (first | exact In.z | apply In.s))) | (refine Sub.suf ?_; (repeat (first | exact Suf.z | apply Suf.s)))))))
          apply exI
          · intro h49
            refine lwant rfl rfl rfl rfl (o_ldw Tryd.isAgg27 Tryd.sizeOf27 rfl (by repeat (first | exact At.z | apply At.s)) (by rfl) rfl) ?_
            refine lwant rfl rfl rfl rfl (o_ldw Tryd.isAgg24 Tryd.sizeOf24 rfl (by repeat (first | exact At.z | apply At.s)) (by rfl) rfl) ?_
            refine lwant rfl rfl rfl rfl (o_call (is := []) Tryd.call13 (c_refSame _ _ z1 v1 e1) rfl rfl (by repeat (first | exact Sub.d | (refine Sub.s ?_ ?_; (repeat (first | exact In.z | apply In.s))) | (refine Sub.suf ?_; (repeat (first | exact Suf.z | apply Suf.s))))) rfl) ?_
            refine le ?_; intro x52
            refine ls (op (p_pickt rfl rfl) rfl) ?_
            refine ln (nmid (wk0 (by repeat (first | exact subσ.nil _ | refine subσ.cons rfl ?_)) (by repeat (first | exact Sub.d | (refine Sub.s ?_ ?_; (repeat (first | exact In.z | apply In.s))) | (refine Sub.suf ?_; (repeat (first | exact Suf.z | apply Suf.s)))))))
          ·
            refine ls (op (p_move rfl) rfl) ?_
            refine andX 4 54 58 rfl (subσ.cons (t := 0) rfl (subσ.cons (t := 1) rfl (subσ.cons (t := 2) rfl (subσ.cons (t := 3) rfl (subσ.cons (t := 4) rfl (subσ.cons (t := 12) rfl (subσ.cons (t := 13) rfl (subσ.cons (t := 14) rfl (subσ.cons (t := 15) rfl (subσ.cons (t := 16) rfl (subσ.cons (t := 19) rfl (subσ.cons (t := 20) rfl (subσ.cons (t := 21) rfl (subσ.cons (t := 18) rfl (subσ.cons (t := 22) rfl (subσ.cons (t := 23) rfl (subσ.cons (t := 24) rfl (subσ.cons (t := 5) rfl (subσ.cons (t := 6) rfl (subσ.cons (t := 26) rfl (subσ.cons (t := 27) rfl (subσ.cons (t := 28) rfl (subσ.cons (t := 25) rfl (subσ.cons (t := 29) rfl (subσ.cons (t := 30) rfl (subσ.cons (t := 31) rfl (subσ.cons (t := 8) rfl (subσ.cons (t := 9) rfl (subσ.cons (t := 10) rfl (subσ.cons (t := 42) rfl (subσ.cons (t := 11) rfl (subσ.nil _)))))))))))))))))))))))))))))))) ?_ ?_
            · intro h54
              refine lskip rfl rfl rfl rfl rfl ?_
              refine lskip rfl rfl rfl rfl rfl ?_
              refine lskip rfl rfl rfl rfl rfl ?_
              refine ls (op (p_pickf rfl rfl) rfl) ?_
              refine ln (nmid (wk0 (by repeat (first | exact subσ.nil _ | refine subσ.cons rfl ?_)) (by repeat (first | exact Sub.d | (refine Sub.s ?_ ?_; (repeat (first | exact In.z | apply In.s))) | (refine Sub.suf ?_; (repeat (first | exact Suf.z | apply Suf.s)))))))
            apply exI
            · intro h54
              refine lwant rfl rfl rfl rfl (o_ldw Tryd.isAgg27 Tryd.sizeOf27 rfl (by repeat (first | exact At.z | apply At.s)) (by rfl) rfl) ?_
              refine lwant rfl rfl rfl rfl (o_ldw Tryd.isAgg24 Tryd.sizeOf24 rfl (by repeat (first | exact At.z | apply At.s)) (by rfl) rfl) ?_
              refine lwant rfl rfl rfl rfl (o_call (is := []) Tryd.call13 (c_refSame _ _ z2 v2 e2) rfl rfl (by repeat (first | exact Sub.d | (refine Sub.s ?_ ?_; (repeat (first | exact In.z | apply In.s))) | (refine Sub.suf ?_; (repeat (first | exact Suf.z | apply Suf.s))))) rfl) ?_
              refine le ?_; intro x57
              refine ls (op (p_pickt rfl rfl) rfl) ?_
              refine ln (nmid (wk0 (by repeat (first | exact subσ.nil _ | refine subσ.cons rfl ?_)) (by repeat (first | exact Sub.d | (refine Sub.s ?_ ?_; (repeat (first | exact In.z | apply In.s))) | (refine Sub.suf ?_; (repeat (first | exact Suf.z | apply Suf.s)))))))
            ·
              refine ls (op (p_move rfl) rfl) ?_
              refine andX 6 59 65 rfl (subσ.cons (t := 0) rfl (subσ.cons (t := 1) rfl (subσ.cons (t := 2) rfl (subσ.cons (t := 3) rfl (subσ.cons (t := 4) rfl (subσ.cons (t := 12) rfl (subσ.cons (t := 13) rfl (subσ.cons (t := 14) rfl (subσ.cons (t := 15) rfl (subσ.cons (t := 16) rfl (subσ.cons (t := 19) rfl (subσ.cons (t := 20) rfl (subσ.cons (t := 21) rfl (subσ.cons (t := 18) rfl (subσ.cons (t := 22) rfl (subσ.cons (t := 23) rfl (subσ.cons (t := 24) rfl (subσ.cons (t := 5) rfl (subσ.cons (t := 6) rfl (subσ.cons (t := 26) rfl (subσ.cons (t := 27) rfl (subσ.cons (t := 28) rfl (subσ.cons (t := 25) rfl (subσ.cons (t := 29) rfl (subσ.cons (t := 30) rfl (subσ.cons (t := 31) rfl (subσ.cons (t := 8) rfl (subσ.cons (t := 9) rfl (subσ.cons (t := 10) rfl (subσ.cons (t := 42) rfl (subσ.nil _))))))))))))))))))))))))))))))) ?_ ?_
              · intro h59
                refine lskip rfl rfl rfl rfl rfl ?_
                refine lskip rfl rfl rfl rfl rfl ?_
                refine lskip rfl rfl rfl rfl rfl ?_
                refine lskip rfl rfl rfl rfl rfl ?_
                refine lskip rfl rfl rfl rfl rfl ?_
                refine ls (op (p_pickf rfl rfl) rfl) ?_
                refine ln (nmid (wk0 (by repeat (first | exact subσ.nil _ | refine subσ.cons rfl ?_)) (by repeat (first | exact Sub.d | (refine Sub.s ?_ ?_; (repeat (first | exact In.z | apply In.s))) | (refine Sub.suf ?_; (repeat (first | exact Suf.z | apply Suf.s)))))))
              apply exI
              · intro h59
                refine lwant rfl rfl rfl rfl (o_ldw Tryd.isAgg24 Tryd.sizeOf24 rfl (by repeat (first | exact At.z | apply At.s)) (by rfl) rfl) ?_
                refine lwant rfl rfl rfl rfl (o_ldw Tryd.isAgg24 Tryd.sizeOf24 rfl (by repeat (first | exact At.z | apply At.s)) (by rfl) rfl) ?_
                refine lwant rfl rfl rfl rfl (o_call (is := []) Tryd.call14 (c_Apart p q yp yq hp hq) rfl rfl (by repeat (first | exact Sub.d | (refine Sub.s ?_ ?_; (repeat (first | exact In.z | apply In.s))) | (refine Sub.suf ?_; (repeat (first | exact Suf.z | apply Suf.s))))) rfl) ?_
                refine le ?_; intro x62
                refine lwant rfl rfl rfl rfl (op (p_move rfl) rfl) ?_
                refine lwant rfl rfl rfl rfl (op (p_beq Tryd.underlying4 rfl rfl) rfl) ?_
                refine ls (op (p_pickt rfl rfl) rfl) ?_
                refine ln (nmid (wk0 (by repeat (first | exact subσ.nil _ | refine subσ.cons rfl ?_)) (by repeat (first | exact Sub.d | (refine Sub.s ?_ ?_; (repeat (first | exact In.z | apply In.s))) | (refine Sub.suf ?_; (repeat (first | exact Suf.z | apply Suf.s)))))))
              ·
                refine ls (op (p_move rfl) rfl) ?_
                refine andX 7 66 73 rfl (subσ.cons (t := 0) rfl (subσ.cons (t := 1) rfl (subσ.cons (t := 2) rfl (subσ.cons (t := 3) rfl (subσ.cons (t := 4) rfl (subσ.cons (t := 12) rfl (subσ.cons (t := 13) rfl (subσ.cons (t := 14) rfl (subσ.cons (t := 15) rfl (subσ.cons (t := 16) rfl (subσ.cons (t := 19) rfl (subσ.cons (t := 20) rfl (subσ.cons (t := 21) rfl (subσ.cons (t := 18) rfl (subσ.cons (t := 22) rfl (subσ.cons (t := 23) rfl (subσ.cons (t := 24) rfl (subσ.cons (t := 5) rfl (subσ.cons (t := 6) rfl (subσ.cons (t := 26) rfl (subσ.cons (t := 27) rfl (subσ.cons (t := 28) rfl (subσ.cons (t := 25) rfl (subσ.cons (t := 29) rfl (subσ.cons (t := 30) rfl (subσ.cons (t := 31) rfl (subσ.cons (t := 8) rfl (subσ.cons (t := 9) rfl (subσ.cons (t := 10) rfl (subσ.cons (t := 42) rfl (subσ.nil _))))))))))))))))))))))))))))))) ?_ ?_
                · intro h66
                  refine lskip rfl rfl rfl rfl rfl ?_
                  refine lskip rfl rfl rfl rfl rfl ?_
                  refine lskip rfl rfl rfl rfl rfl ?_
                  refine lskip rfl rfl rfl rfl rfl ?_
                  refine lskip rfl rfl rfl rfl rfl ?_
                  refine lskip rfl rfl rfl rfl rfl ?_
                  refine ls (op (p_pickf rfl rfl) rfl) ?_
                  refine ln (nmid (wk0 (by repeat (first | exact subσ.nil _ | refine subσ.cons rfl ?_)) (by repeat (first | exact Sub.d | (refine Sub.s ?_ ?_; (repeat (first | exact In.z | apply In.s))) | (refine Sub.suf ?_; (repeat (first | exact Suf.z | apply Suf.s)))))))
                apply exI
                · intro h66
                  refine lwant rfl rfl rfl rfl (o_ldw Tryd.isAgg24 Tryd.sizeOf24 rfl (by repeat (first | exact At.z | apply At.s)) (by rfl) rfl) ?_
                  refine lwant rfl rfl rfl rfl (o_ldw Tryd.isAgg24 Tryd.sizeOf24 rfl (by repeat (first | exact At.z | apply At.s)) (by rfl) rfl) ?_
                  refine lwant rfl rfl rfl rfl (o_call (is := []) Tryd.call15 (c_Needs p q yp yq hp hq) rfl rfl (by repeat (first | exact Sub.d | (refine Sub.s ?_ ?_; (repeat (first | exact In.z | apply In.s))) | (refine Sub.suf ?_; (repeat (first | exact Suf.z | apply Suf.s))))) rfl) ?_
                  refine le ?_; intro x69
                  refine lwant rfl rfl rfl rfl (op (p_move rfl) rfl) ?_
                  refine lwant rfl rfl rfl rfl (op (p_not rfl) rfl) ?_
                  refine lwant rfl rfl rfl rfl (op (p_beq Tryd.underlying4 rfl rfl) rfl) ?_
                  refine ls (op (p_pickt rfl rfl) rfl) ?_
                  refine ln (nmid (wk0 (by repeat (first | exact subσ.nil _ | refine subσ.cons rfl ?_)) (by repeat (first | exact Sub.d | (refine Sub.s ?_ ?_; (repeat (first | exact In.z | apply In.s))) | (refine Sub.suf ?_; (repeat (first | exact Suf.z | apply Suf.s)))))))
                ·
                  refine ls (op (p_asg rfl) rfl) ?_
                  refine ln ?_
                  refine nthen ?_
                  refine cret ?_
                  refine xret (fun _ _ h => h) ?_
                  refine rret (is := []) () (Or.inl rfl) (Res.t rfl Res.d) ?_ rfl (by repeat (first | exact Sub.d | (refine Sub.s ?_ ?_; (repeat (first | exact In.z | apply In.s))) | (refine Sub.suf ?_; (repeat (first | exact Suf.z | apply Suf.s)))))
                  dsimp only [packV]; rw [← hr]; simp

end Go.Proofs.YtaojmjfgopbgcaaDoor.X
