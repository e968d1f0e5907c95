/- OWN WORK: a part of the proof of a law of the seat YtjeampaghmcefaaGreatDoor: the walk through functions of the program. -/
import Derived.Test.YtjeampaghmcefaaGreatDoorProg
import Derived.Test.YtjeampaghmcefaaGreatDoorXA2
set_option linter.unusedVariables false
set_option linter.unusedSimpArgs false
namespace Go.Proofs.YtjeampaghmcefaaGreatDoor.X
open Go Go.RowKit Go.Proofs Go.Sx
attribute [local irreducible] slA isA box row

def aP : Prim := ⟨0, ⟨#[97]⟩, ⟨#[]⟩, 0, [⟨#[120]⟩], []⟩
def aQ : Prim := ⟨0, ⟨#[97]⟩, ⟨#[]⟩, 5, [⟨#[121]⟩], [⟨#[122]⟩]⟩
def aA : Prim := ⟨0, ⟨#[97]⟩, ⟨#[]⟩, 6, [⟨#[121]⟩], [⟨#[122]⟩]⟩
def aM : Prim := ⟨3, ⟨#[97]⟩, ⟨#[98]⟩, 0, [], []⟩
def aC : Prim := ⟨1, ⟨#[99]⟩, ⟨#[]⟩, 0, [], []⟩
theorem fit_of {p : Prim} (h1 : p.old.length ≤ 2000000) (h2 : p.new.length ≤ 2000000) (h3 : p.name.size ≤ 2000000) (h4 : p.to.size ≤ 2000000) (h5 : p.old.all (fun s => decide (s.size ≤ 2000000)) = true) (h6 : p.new.all (fun s => decide (s.size ≤ 2000000)) = true) : p.fit :=
 ⟨h1, h2, h3, h4, (fun s h => by simpa using List.all_eq_true.1 h5 s h), (fun s h => by simpa using List.all_eq_true.1 h6 s h)⟩
theorem fitP : aP.fit := fit_of (by decide) (by decide) (by decide) (by decide) (by decide) (by decide)
theorem fitQ : aQ.fit := fit_of (by decide) (by decide) (by decide) (by decide) (by decide) (by decide)
theorem fitA : aA.fit := fit_of (by decide) (by decide) (by decide) (by decide) (by decide) (by decide)
theorem fitM : aM.fit := fit_of (by decide) (by decide) (by decide) (by decide) (by decide) (by decide)
theorem fitC : aC.fit := fit_of (by decide) (by decide) (by decide) (by decide) (by decide) (by decide)
theorem three_eq {a b c d : Prim} {e f : Bool} (h : (a, b, e) = (c, d, f)) : a = c ∧ b = d ∧ e = f := by simpa using h
theorem alive1 : swap aP aQ = (aA, aP, true) := by decide +kernel
theorem alive2 : swap aA aP = (aP, aQ, true) := by decide +kernel
theorem alive3 : swap aP aM = (aM, { aP with name := ⟨#[98]⟩ }, true) := by decide +kernel
theorem alive4 : swap aP aP = (.zero, .zero, false) := by decide +kernel
theorem alive5 : swap aP aC = (aC, aP, true) := by decide +kernel


set_option maxRecDepth 100000 in
theorem c_alive : Con Tryz.prog 8 [] [] [] Unit (fun _ => .bool true) (fun _ => []) (fun _ => []) := by
 refine con Tryz.func8 rfl Tryz.ntmps8 rfl ?_
 intro M0 F0 w0
 refine cs ?_
 refine cr ?_
 refine ls (op (p_asg rfl) rfl) ?_
 refine ln ?_
 refine nthen ?_
 refine cs ?_
 refine cmono (fun a w h => nilSl (α := ByteArray) h) ?_
 refine cr ?_
 refine ls (o_bsl ([⟨#[120]⟩] : List ByteArray) Tryz.underlying23 Tryz.sizeOf9 Tryz.zeroValue9 rfl (Enum.t Enum.d) (RV.t () rfl Sub.d RV.d) rfl (by decide) (by decide) rfl) ?_
 refine le ?_; intro b13
 refine lmono (fun a w h => Go.Sx.freeze (i := 0) rfl h) ?_
 refine ls (op (p_bld sb37 rfl (Fill.t (by repeat' constructor) rfl rfl (by repeat' constructor) (Fill.t (by repeat' constructor) rfl rfl (by repeat' constructor) (Fill.t (by repeat' constructor) rfl rfl (by repeat' constructor) Fill.d)))) rfl) ?_
 refine ls (o_alloc Tryz.zeroValue37 rfl rfl) ?_
 refine le ?_; intro b1
 refine ls (o_st rfl Tryz.sizeOf37 rfl rfl rfl rfl rfl (by repeat' constructor) (by repeat' constructor) (by repeat' constructor)) ?_
 refine ln ?_
 refine nthen ?_
 refine cs ?_
 refine cr ?_
 refine ls (o_bsl ([⟨#[121]⟩] : List ByteArray) Tryz.underlying23 Tryz.sizeOf9 Tryz.zeroValue9 rfl (Enum.t Enum.d) (RV.t () rfl Sub.d RV.d) rfl (by decide) (by decide) rfl) ?_
 refine le ?_; intro b15
 refine lmono (fun a w h => Go.Sx.freeze (i := 0) rfl h) ?_
 refine ls (o_bsl ([⟨#[122]⟩] : List ByteArray) Tryz.underlying23 Tryz.sizeOf9 Tryz.zeroValue9 rfl (Enum.t Enum.d) (RV.t () rfl Sub.d RV.d) rfl (by decide) (by decide) rfl) ?_
 refine le ?_; intro b16
 refine lmono (fun a w h => Go.Sx.freeze (i := 0) rfl h) ?_
 refine ls (op (p_bld sb37 rfl (Fill.t (by repeat' constructor) rfl rfl (by repeat' constructor) (Fill.t (by repeat' constructor) rfl rfl (by repeat' constructor) (Fill.t (by repeat' constructor) rfl rfl (by repeat' constructor) (Fill.t (by repeat' constructor) rfl rfl (by repeat' constructor) (Fill.t (by repeat' constructor) rfl rfl (by repeat' constructor) Fill.d)))))) rfl) ?_
 refine ls (o_alloc Tryz.zeroValue37 rfl rfl) ?_
 refine le ?_; intro b2
 refine ls (o_st rfl Tryz.sizeOf37 rfl rfl rfl rfl rfl (by repeat' constructor) (by repeat' constructor) (by repeat' constructor)) ?_
 refine ln ?_
 refine nthen ?_
 refine cs ?_
 refine cr ?_
 refine ls (o_ldw Tryz.isAgg37 Tryz.sizeOf37 rfl (by repeat' constructor) (by rfl) rfl) ?_
 refine ls (o_ldw Tryz.isAgg37 Tryz.sizeOf37 rfl (by repeat' constructor) (by rfl) rfl) ?_
 refine ls (o_call (is := []) Tryz.call12 (c_Swap aP aQ ((some ⟨b13, 0, none⟩, 1), (none, 0)) ((some ⟨b15, 0, none⟩, 1), (some ⟨b16, 0, none⟩, 1)) fitP fitQ) rfl rfl (by repeat' (first | constructor | apply Sub.suf)) rfl) ?_
 refine le ?_; rintro ⟨⟨⟨a1, a2, a3⟩, u1, u2⟩, ha⟩
 obtain ⟨rfl, rfl, rfl⟩ := three_eq (ha.trans alive1)
 refine ls (op (p_move rfl) rfl) ?_
 refine ls (op (p_ext rfl (by repeat' constructor)) rfl) ?_
 refine ls (op (p_ext rfl (by repeat' constructor)) rfl) ?_
 refine ls (op (p_ext rfl (by repeat' constructor)) rfl) ?_
 refine ls (o_alloc Tryz.zeroValue37 rfl rfl) ?_
 refine le ?_; intro b3
 refine ls (o_alloc Tryz.zeroValue37 rfl rfl) ?_
 refine le ?_; intro b4
 refine ls (o_st rfl Tryz.sizeOf37 rfl rfl rfl rfl rfl (by repeat' constructor) (by repeat' constructor) (by repeat' constructor)) ?_
 refine ls (o_st rfl Tryz.sizeOf37 rfl rfl rfl rfl rfl (by repeat' constructor) (by repeat' constructor) (by repeat' constructor)) ?_
 refine ls (op (p_asg rfl) rfl) ?_
 refine ln ?_
 refine nthen ?_
 refine cs ?_
 refine cr ?_
 refine ls (o_ldw Tryz.isAgg37 Tryz.sizeOf37 rfl (by repeat' constructor) (by rfl) rfl) ?_
 refine ls (o_ldw Tryz.isAgg37 Tryz.sizeOf37 rfl (by repeat' constructor) (by rfl) rfl) ?_
 refine ls (o_call (is := []) Tryz.call12 (c_Swap aA aP u1 u2 fitA fitP) rfl rfl (by repeat' (first | constructor | apply Sub.suf)) rfl) ?_
 refine le ?_; rintro ⟨⟨⟨c1, c2, c3⟩, u3, u4⟩, hc⟩
 obtain ⟨rfl, rfl, rfl⟩ := three_eq (hc.trans alive2)
 refine ls (op (p_move rfl) rfl) ?_
 refine ls (op (p_ext rfl (by repeat' constructor)) rfl) ?_
 refine ls (op (p_ext rfl (by repeat' constructor)) rfl) ?_
 refine ls (op (p_ext rfl (by repeat' constructor)) rfl) ?_
 refine ls (o_alloc Tryz.zeroValue37 rfl rfl) ?_
 refine le ?_; intro b6
 refine ls (o_alloc Tryz.zeroValue37 rfl rfl) ?_
 refine le ?_; intro b7
 refine ls (o_st rfl Tryz.sizeOf37 rfl rfl rfl rfl rfl (by repeat' constructor) (by repeat' constructor) (by repeat' constructor)) ?_
 refine ls (o_st rfl Tryz.sizeOf37 rfl rfl rfl rfl rfl (by repeat' constructor) (by repeat' constructor) (by repeat' constructor)) ?_
 refine ls (op (p_asg rfl) rfl) ?_
 refine ln ?_
 refine nthen ?_
 refine cs ?_
 refine cr ?_
 refine ls (op (p_bld sb37 rfl (Fill.t (by repeat' constructor) rfl rfl (by repeat' constructor) (Fill.t (by repeat' constructor) rfl rfl (by repeat' constructor) (Fill.t (by repeat' constructor) rfl rfl (by repeat' constructor) Fill.d)))) rfl) ?_
 refine ls (o_alloc Tryz.zeroValue37 rfl rfl) ?_
 refine le ?_; intro b9
 refine ls (o_st rfl Tryz.sizeOf37 rfl rfl rfl rfl rfl (by repeat' constructor) (by repeat' constructor) (by repeat' constructor)) ?_
 refine ln ?_
 refine nthen ?_
 refine cs ?_
 refine cr ?_
 refine ls (o_ldw Tryz.isAgg37 Tryz.sizeOf37 rfl (by repeat' constructor) (by rfl) rfl) ?_
 refine ls (o_ldw Tryz.isAgg37 Tryz.sizeOf37 rfl (by repeat' constructor) (by rfl) rfl) ?_
 refine ls (o_call (is := []) Tryz.call12 (c_Swap aP aM ((some ⟨b13, 0, none⟩, 1), (none, 0)) ((none, 0), (none, 0)) fitP fitM) rfl rfl (by repeat' (first | constructor | apply Sub.suf)) rfl) ?_
 refine le ?_; rintro ⟨⟨⟨f1, f2, f3⟩, u5, u6⟩, hf⟩
 obtain ⟨rfl, rfl, rfl⟩ := three_eq (hf.trans alive3)
 refine ls (op (p_move rfl) rfl) ?_
 refine ls (op (p_ext rfl (by repeat' constructor)) rfl) ?_
 refine ls (op (p_ext rfl (by repeat' constructor)) rfl) ?_
 refine ls (op (p_ext rfl (by repeat' constructor)) rfl) ?_
 refine ls (o_alloc Tryz.zeroValue37 rfl rfl) ?_
 refine le ?_; intro b10
 refine ls (o_alloc Tryz.zeroValue37 rfl rfl) ?_
 refine le ?_; intro b11
 refine ls (o_st rfl Tryz.sizeOf37 rfl rfl rfl rfl rfl (by repeat' constructor) (by repeat' constructor) (by repeat' constructor)) ?_
 refine ls (o_st rfl Tryz.sizeOf37 rfl rfl rfl rfl rfl (by repeat' constructor) (by repeat' constructor) (by repeat' constructor)) ?_
 refine ls (op (p_asg rfl) rfl) ?_
 refine ln ?_
 refine nthen ?_
 refine cs ?_
 refine cr ?_
 refine ls (op (p_move rfl) rfl) ?_
 refine ls (op (p_move rfl) rfl) ?_
 refine andX 4 41 45 rfl (subσ.cons (t := 0) rfl (subσ.cons (t := 13) rfl (subσ.cons (t := 14) rfl (subσ.cons (t := 1) rfl (subσ.cons (t := 15) rfl (subσ.cons (t := 16) rfl (subσ.cons (t := 17) rfl (subσ.cons (t := 2) rfl (subσ.cons (t := 19) rfl (subσ.cons (t := 20) rfl (subσ.cons (t := 21) rfl (subσ.cons (t := 18) rfl (subσ.cons (t := 22) rfl (subσ.cons (t := 23) rfl (subσ.cons (t := 24) rfl (subσ.cons (t := 3) rfl (subσ.cons (t := 4) rfl (subσ.cons (t := 26) rfl (subσ.cons (t := 27) rfl (subσ.cons (t := 28) rfl (subσ.cons (t := 25) rfl (subσ.cons (t := 29) rfl (subσ.cons (t := 30) rfl (subσ.cons (t := 31) rfl (subσ.cons (t := 6) rfl (subσ.cons (t := 7) rfl (subσ.cons (t := 8) rfl (subσ.cons (t := 32) rfl (subσ.cons (t := 9) rfl (subσ.cons (t := 34) rfl (subσ.cons (t := 35) rfl (subσ.cons (t := 36) rfl (subσ.cons (t := 33) rfl (subσ.cons (t := 37) rfl (subσ.cons (t := 38) rfl (subσ.cons (t := 39) rfl (subσ.cons (t := 10) rfl (subσ.cons (t := 11) rfl (subσ.cons (t := 12) rfl (subσ.nil _)))))))))))))))))))))))))))))))))))))))) ?_ ?_
 ·
  intro h41
  refine lskip rfl rfl rfl rfl rfl ?_
  refine lskip rfl rfl rfl rfl rfl ?_
  refine lskip rfl rfl rfl rfl rfl ?_
  refine ls (op (p_pickf rfl rfl) rfl) ?_
  refine ln (nmid (wk0 (by repeat (first | exact subσ.nil _ | refine subσ.cons rfl ?_)) (by repeat' (first | constructor | apply Sub.suf))))
 apply exI
 ·
  intro h41
  refine lwant rfl rfl rfl rfl (op (p_fa fa37_3 rfl) rfl) ?_
  refine lwant rfl rfl rfl rfl (o_ld Tryz.isAgg3 rfl (by repeat' constructor) (by repeat' constructor) rfl) ?_
  refine lwant rfl rfl rfl rfl (op (p_icmp rfl rfl rfl) rfl) ?_
  refine ls (op (p_pickt rfl rfl) rfl) ?_
  refine ln (nmid (wk0 (by repeat (first | exact subσ.nil _ | refine subσ.cons rfl ?_)) (by repeat' (first | constructor | apply Sub.suf))))
 ·
  refine ls (op (p_move rfl) rfl) ?_
  refine andX 4 46 50 rfl (subσ.cons (t := 0) rfl (subσ.cons (t := 13) rfl (subσ.cons (t := 14) rfl (subσ.cons (t := 1) rfl (subσ.cons (t := 15) rfl (subσ.cons (t := 16) rfl (subσ.cons (t := 17) rfl (subσ.cons (t := 2) rfl (subσ.cons (t := 19) rfl (subσ.cons (t := 20) rfl (subσ.cons (t := 21) rfl (subσ.cons (t := 18) rfl (subσ.cons (t := 22) rfl (subσ.cons (t := 23) rfl (subσ.cons (t := 24) rfl (subσ.cons (t := 3) rfl (subσ.cons (t := 4) rfl (subσ.cons (t := 26) rfl (subσ.cons (t := 27) rfl (subσ.cons (t := 28) rfl (subσ.cons (t := 25) rfl (subσ.cons (t := 29) rfl (subσ.cons (t := 30) rfl (subσ.cons (t := 31) rfl (subσ.cons (t := 6) rfl (subσ.cons (t := 7) rfl (subσ.cons (t := 8) rfl (subσ.cons (t := 32) rfl (subσ.cons (t := 9) rfl (subσ.cons (t := 34) rfl (subσ.cons (t := 35) rfl (subσ.cons (t := 36) rfl (subσ.cons (t := 33) rfl (subσ.cons (t := 37) rfl (subσ.cons (t := 38) rfl (subσ.cons (t := 39) rfl (subσ.cons (t := 10) rfl (subσ.cons (t := 11) rfl (subσ.cons (t := 12) rfl (subσ.nil _)))))))))))))))))))))))))))))))))))))))) ?_ ?_
  ·
   intro h46
   refine lskip rfl rfl rfl rfl rfl ?_
   refine lskip rfl rfl rfl rfl rfl ?_
   refine lskip rfl rfl rfl rfl rfl ?_
   refine ls (op (p_pickf rfl rfl) rfl) ?_
   refine ln (nmid (wk0 (by repeat (first | exact subσ.nil _ | refine subσ.cons rfl ?_)) (by repeat' (first | constructor | apply Sub.suf))))
  apply exI
  ·
   intro h46
   refine lwant rfl rfl rfl rfl (o_ldw Tryz.isAgg37 Tryz.sizeOf37 rfl (by repeat' constructor) (by rfl) rfl) ?_
   refine lwant rfl rfl rfl rfl (o_ldw Tryz.isAgg37 Tryz.sizeOf37 rfl (by repeat' constructor) (by rfl) rfl) ?_
   refine lwant rfl rfl rfl rfl (o_call (is := []) Tryz.call27 (c_primSame aP aP u2 ((some ⟨b13, 0, none⟩, 1), (none, 0)) fitP) rfl rfl (by repeat' (first | constructor | apply Sub.suf)) rfl) ?_
   refine le ?_; intro x49
   refine ls (op (p_pickt rfl rfl) rfl) ?_
   refine ln (nmid (wk0 (by repeat (first | exact subσ.nil _ | refine subσ.cons rfl ?_)) (by repeat' (first | constructor | apply Sub.suf))))
  ·
   refine ls (op (p_move rfl) rfl) ?_
   refine andX 2 51 53 rfl (subσ.cons (t := 0) rfl (subσ.cons (t := 13) rfl (subσ.cons (t := 14) rfl (subσ.cons (t := 1) rfl (subσ.cons (t := 15) rfl (subσ.cons (t := 16) rfl (subσ.cons (t := 17) rfl (subσ.cons (t := 2) rfl (subσ.cons (t := 19) rfl (subσ.cons (t := 20) rfl (subσ.cons (t := 21) rfl (subσ.cons (t := 18) rfl (subσ.cons (t := 22) rfl (subσ.cons (t := 23) rfl (subσ.cons (t := 24) rfl (subσ.cons (t := 3) rfl (subσ.cons (t := 4) rfl (subσ.cons (t := 26) rfl (subσ.cons (t := 27) rfl (subσ.cons (t := 28) rfl (subσ.cons (t := 25) rfl (subσ.cons (t := 29) rfl (subσ.cons (t := 30) rfl (subσ.cons (t := 31) rfl (subσ.cons (t := 6) rfl (subσ.cons (t := 7) rfl (subσ.cons (t := 32) rfl (subσ.cons (t := 9) rfl (subσ.cons (t := 34) rfl (subσ.cons (t := 35) rfl (subσ.cons (t := 36) rfl (subσ.cons (t := 33) rfl (subσ.cons (t := 37) rfl (subσ.cons (t := 38) rfl (subσ.cons (t := 39) rfl (subσ.cons (t := 10) rfl (subσ.cons (t := 11) rfl (subσ.cons (t := 12) rfl (subσ.nil _))))))))))))))))))))))))))))))))))))))) ?_ ?_
   ·
    intro h51
    refine lskip rfl rfl rfl rfl rfl ?_
    refine ls (op (p_pickf rfl rfl) rfl) ?_
    refine ln (nmid (wk0 (by repeat (first | exact subσ.nil _ | refine subσ.cons rfl ?_)) (by repeat' (first | constructor | apply Sub.suf))))
   apply exI
   ·
    intro h51
    refine lwant rfl rfl rfl rfl (op (p_move rfl) rfl) ?_
    refine ls (op (p_pickt rfl rfl) rfl) ?_
    refine ln (nmid (wk0 (by repeat (first | exact subσ.nil _ | refine subσ.cons rfl ?_)) (by repeat' (first | constructor | apply Sub.suf))))
   ·
    refine ls (op (p_move rfl) rfl) ?_
    refine andX 4 54 58 rfl (subσ.cons (t := 0) rfl (subσ.cons (t := 13) rfl (subσ.cons (t := 14) rfl (subσ.cons (t := 1) rfl (subσ.cons (t := 15) rfl (subσ.cons (t := 16) rfl (subσ.cons (t := 17) rfl (subσ.cons (t := 2) rfl (subσ.cons (t := 19) rfl (subσ.cons (t := 20) rfl (subσ.cons (t := 21) rfl (subσ.cons (t := 18) rfl (subσ.cons (t := 22) rfl (subσ.cons (t := 23) rfl (subσ.cons (t := 24) rfl (subσ.cons (t := 3) rfl (subσ.cons (t := 4) rfl (subσ.cons (t := 26) rfl (subσ.cons (t := 27) rfl (subσ.cons (t := 28) rfl (subσ.cons (t := 25) rfl (subσ.cons (t := 29) rfl (subσ.cons (t := 30) rfl (subσ.cons (t := 31) rfl (subσ.cons (t := 6) rfl (subσ.cons (t := 7) rfl (subσ.cons (t := 32) rfl (subσ.cons (t := 9) rfl (subσ.cons (t := 34) rfl (subσ.cons (t := 35) rfl (subσ.cons (t := 36) rfl (subσ.cons (t := 33) rfl (subσ.cons (t := 37) rfl (subσ.cons (t := 38) rfl (subσ.cons (t := 39) rfl (subσ.cons (t := 10) rfl (subσ.cons (t := 11) rfl (subσ.cons (t := 12) rfl (subσ.nil _))))))))))))))))))))))))))))))))))))))) ?_ ?_
    ·
     intro h54
     refine lskip rfl rfl rfl rfl rfl ?_
     refine lskip rfl rfl rfl rfl rfl ?_
     refine lskip rfl rfl rfl rfl rfl ?_
     refine ls (op (p_pickf rfl rfl) rfl) ?_
     refine ln (nmid (wk0 (by repeat (first | exact subσ.nil _ | refine subσ.cons rfl ?_)) (by repeat' (first | constructor | apply Sub.suf))))
    apply exI
    ·
     intro h54
     refine lwant rfl rfl rfl rfl (o_ldw Tryz.isAgg37 Tryz.sizeOf37 rfl (by repeat' constructor) (by rfl) rfl) ?_
     refine lwant rfl rfl rfl rfl (o_ldw Tryz.isAgg37 Tryz.sizeOf37 rfl (by repeat' constructor) (by rfl) rfl) ?_
     refine lwant rfl rfl rfl rfl (o_call (is := []) Tryz.call27 (c_primSame aP aP u3 ((some ⟨b13, 0, none⟩, 1), (none, 0)) fitP) rfl rfl (by repeat' (first | constructor | apply Sub.suf)) rfl) ?_
     refine le ?_; intro x57
     refine ls (op (p_pickt rfl rfl) rfl) ?_
     refine ln (nmid (wk0 (by repeat (first | exact subσ.nil _ | refine subσ.cons rfl ?_)) (by repeat' (first | constructor | apply Sub.suf))))
    ·
     refine ls (op (p_move rfl) rfl) ?_
     refine andX 4 59 63 rfl (subσ.cons (t := 0) rfl (subσ.cons (t := 13) rfl (subσ.cons (t := 14) rfl (subσ.cons (t := 1) rfl (subσ.cons (t := 15) rfl (subσ.cons (t := 16) rfl (subσ.cons (t := 17) rfl (subσ.cons (t := 2) rfl (subσ.cons (t := 19) rfl (subσ.cons (t := 20) rfl (subσ.cons (t := 21) rfl (subσ.cons (t := 18) rfl (subσ.cons (t := 22) rfl (subσ.cons (t := 23) rfl (subσ.cons (t := 24) rfl (subσ.cons (t := 3) rfl (subσ.cons (t := 4) rfl (subσ.cons (t := 26) rfl (subσ.cons (t := 27) rfl (subσ.cons (t := 28) rfl (subσ.cons (t := 25) rfl (subσ.cons (t := 29) rfl (subσ.cons (t := 30) rfl (subσ.cons (t := 31) rfl (subσ.cons (t := 6) rfl (subσ.cons (t := 7) rfl (subσ.cons (t := 32) rfl (subσ.cons (t := 9) rfl (subσ.cons (t := 34) rfl (subσ.cons (t := 35) rfl (subσ.cons (t := 36) rfl (subσ.cons (t := 33) rfl (subσ.cons (t := 37) rfl (subσ.cons (t := 38) rfl (subσ.cons (t := 39) rfl (subσ.cons (t := 10) rfl (subσ.cons (t := 11) rfl (subσ.cons (t := 12) rfl (subσ.nil _))))))))))))))))))))))))))))))))))))))) ?_ ?_
     ·
      intro h59
      refine lskip rfl rfl rfl rfl rfl ?_
      refine lskip rfl rfl rfl rfl rfl ?_
      refine lskip rfl rfl rfl rfl rfl ?_
      refine ls (op (p_pickf rfl rfl) rfl) ?_
      refine ln (nmid (wk0 (by repeat (first | exact subσ.nil _ | refine subσ.cons rfl ?_)) (by repeat' (first | constructor | apply Sub.suf))))
     apply exI
     ·
      intro h59
      refine lwant rfl rfl rfl rfl (o_ldw Tryz.isAgg37 Tryz.sizeOf37 rfl (by repeat' constructor) (by rfl) rfl) ?_
      refine lwant rfl rfl rfl rfl (o_ldw Tryz.isAgg37 Tryz.sizeOf37 rfl (by repeat' constructor) (by rfl) rfl) ?_
      refine lwant rfl rfl rfl rfl (o_call (is := []) Tryz.call27 (c_primSame aQ aQ u4 ((some ⟨b15, 0, none⟩, 1), (some ⟨b16, 0, none⟩, 1)) fitQ) rfl rfl (by repeat' (first | constructor | apply Sub.suf)) rfl) ?_
      refine le ?_; intro x62
      refine ls (op (p_pickt rfl rfl) rfl) ?_
      refine ln (nmid (wk0 (by repeat (first | exact subσ.nil _ | refine subσ.cons rfl ?_)) (by repeat' (first | constructor | apply Sub.suf))))
     ·
      refine ls (op (p_move rfl) rfl) ?_
      refine andX 2 64 66 rfl (subσ.cons (t := 0) rfl (subσ.cons (t := 13) rfl (subσ.cons (t := 14) rfl (subσ.cons (t := 1) rfl (subσ.cons (t := 15) rfl (subσ.cons (t := 16) rfl (subσ.cons (t := 17) rfl (subσ.cons (t := 2) rfl (subσ.cons (t := 19) rfl (subσ.cons (t := 20) rfl (subσ.cons (t := 21) rfl (subσ.cons (t := 18) rfl (subσ.cons (t := 22) rfl (subσ.cons (t := 23) rfl (subσ.cons (t := 24) rfl (subσ.cons (t := 3) rfl (subσ.cons (t := 4) rfl (subσ.cons (t := 26) rfl (subσ.cons (t := 27) rfl (subσ.cons (t := 28) rfl (subσ.cons (t := 25) rfl (subσ.cons (t := 29) rfl (subσ.cons (t := 30) rfl (subσ.cons (t := 31) rfl (subσ.cons (t := 6) rfl (subσ.cons (t := 7) rfl (subσ.cons (t := 32) rfl (subσ.cons (t := 9) rfl (subσ.cons (t := 34) rfl (subσ.cons (t := 35) rfl (subσ.cons (t := 36) rfl (subσ.cons (t := 33) rfl (subσ.cons (t := 37) rfl (subσ.cons (t := 38) rfl (subσ.cons (t := 39) rfl (subσ.cons (t := 10) rfl (subσ.cons (t := 11) rfl (subσ.nil _)))))))))))))))))))))))))))))))))))))) ?_ ?_
      ·
       intro h64
       refine lskip rfl rfl rfl rfl rfl ?_
       refine ls (op (p_pickf rfl rfl) rfl) ?_
       refine ln (nmid (wk0 (by repeat (first | exact subσ.nil _ | refine subσ.cons rfl ?_)) (by repeat' (first | constructor | apply Sub.suf))))
      apply exI
      ·
       intro h64
       refine lwant rfl rfl rfl rfl (op (p_move rfl) rfl) ?_
       refine ls (op (p_pickt rfl rfl) rfl) ?_
       refine ln (nmid (wk0 (by repeat (first | exact subσ.nil _ | refine subσ.cons rfl ?_)) (by repeat' (first | constructor | apply Sub.suf))))
      ·
       refine ls (op (p_move rfl) rfl) ?_
       refine andX 4 67 71 rfl (subσ.cons (t := 0) rfl (subσ.cons (t := 13) rfl (subσ.cons (t := 14) rfl (subσ.cons (t := 1) rfl (subσ.cons (t := 15) rfl (subσ.cons (t := 16) rfl (subσ.cons (t := 17) rfl (subσ.cons (t := 2) rfl (subσ.cons (t := 19) rfl (subσ.cons (t := 20) rfl (subσ.cons (t := 21) rfl (subσ.cons (t := 18) rfl (subσ.cons (t := 22) rfl (subσ.cons (t := 23) rfl (subσ.cons (t := 24) rfl (subσ.cons (t := 3) rfl (subσ.cons (t := 4) rfl (subσ.cons (t := 26) rfl (subσ.cons (t := 27) rfl (subσ.cons (t := 28) rfl (subσ.cons (t := 25) rfl (subσ.cons (t := 29) rfl (subσ.cons (t := 30) rfl (subσ.cons (t := 31) rfl (subσ.cons (t := 6) rfl (subσ.cons (t := 7) rfl (subσ.cons (t := 32) rfl (subσ.cons (t := 9) rfl (subσ.cons (t := 34) rfl (subσ.cons (t := 35) rfl (subσ.cons (t := 36) rfl (subσ.cons (t := 33) rfl (subσ.cons (t := 37) rfl (subσ.cons (t := 38) rfl (subσ.cons (t := 39) rfl (subσ.cons (t := 10) rfl (subσ.cons (t := 11) rfl (subσ.nil _)))))))))))))))))))))))))))))))))))))) ?_ ?_
       ·
        intro h67
        refine lskip rfl rfl rfl rfl rfl ?_
        refine lskip rfl rfl rfl rfl rfl ?_
        refine lskip rfl rfl rfl rfl rfl ?_
        refine ls (op (p_pickf rfl rfl) rfl) ?_
        refine ln (nmid (wk0 (by repeat (first | exact subσ.nil _ | refine subσ.cons rfl ?_)) (by repeat' (first | constructor | apply Sub.suf))))
       apply exI
       ·
        intro h67
        refine lwant rfl rfl rfl rfl (o_ldw Tryz.isAgg37 Tryz.sizeOf37 rfl (by repeat' constructor) (by rfl) rfl) ?_
        refine lwant rfl rfl rfl rfl (o_ldw Tryz.isAgg37 Tryz.sizeOf37 rfl (by repeat' constructor) (by rfl) rfl) ?_
        refine lwant rfl rfl rfl rfl (o_call (is := []) Tryz.call27 (c_primSame aM aM u5 ((none, 0), (none, 0)) fitM) rfl rfl (by repeat' (first | constructor | apply Sub.suf)) rfl) ?_
        refine le ?_; intro x70
        refine ls (op (p_pickt rfl rfl) rfl) ?_
        refine ln (nmid (wk0 (by repeat (first | exact subσ.nil _ | refine subσ.cons rfl ?_)) (by repeat' (first | constructor | apply Sub.suf))))
       ·
        refine ls (op (p_move rfl) rfl) ?_
        refine andX 4 72 76 rfl (subσ.cons (t := 0) rfl (subσ.cons (t := 13) rfl (subσ.cons (t := 14) rfl (subσ.cons (t := 1) rfl (subσ.cons (t := 15) rfl (subσ.cons (t := 16) rfl (subσ.cons (t := 17) rfl (subσ.cons (t := 2) rfl (subσ.cons (t := 19) rfl (subσ.cons (t := 20) rfl (subσ.cons (t := 21) rfl (subσ.cons (t := 18) rfl (subσ.cons (t := 22) rfl (subσ.cons (t := 23) rfl (subσ.cons (t := 24) rfl (subσ.cons (t := 3) rfl (subσ.cons (t := 4) rfl (subσ.cons (t := 26) rfl (subσ.cons (t := 27) rfl (subσ.cons (t := 28) rfl (subσ.cons (t := 25) rfl (subσ.cons (t := 29) rfl (subσ.cons (t := 30) rfl (subσ.cons (t := 31) rfl (subσ.cons (t := 6) rfl (subσ.cons (t := 7) rfl (subσ.cons (t := 32) rfl (subσ.cons (t := 9) rfl (subσ.cons (t := 34) rfl (subσ.cons (t := 35) rfl (subσ.cons (t := 36) rfl (subσ.cons (t := 33) rfl (subσ.cons (t := 37) rfl (subσ.cons (t := 38) rfl (subσ.cons (t := 39) rfl (subσ.cons (t := 10) rfl (subσ.cons (t := 11) rfl (subσ.nil _)))))))))))))))))))))))))))))))))))))) ?_ ?_
        ·
         intro h72
         refine lskip rfl rfl rfl rfl rfl ?_
         refine lskip rfl rfl rfl rfl rfl ?_
         refine lskip rfl rfl rfl rfl rfl ?_
         refine ls (op (p_pickf rfl rfl) rfl) ?_
         refine ln (nmid (wk0 (by repeat (first | exact subσ.nil _ | refine subσ.cons rfl ?_)) (by repeat' (first | constructor | apply Sub.suf))))
        apply exI
        ·
         intro h72
         refine lwant rfl rfl rfl rfl (op (p_fa fa37_1 rfl) rfl) ?_
         refine lwant rfl rfl rfl rfl (o_ld Tryz.isAgg9 rfl (by repeat' constructor) (by repeat' constructor) rfl) ?_
         refine lwant rfl rfl rfl rfl (op (p_seq rfl rfl) rfl) ?_
         refine ls (op (p_pickt rfl rfl) rfl) ?_
         refine ln (nmid (wk0 (by repeat (first | exact subσ.nil _ | refine subσ.cons rfl ?_)) (by repeat' (first | constructor | apply Sub.suf))))
        ·
         refine ls (op (p_move rfl) rfl) ?_
         refine andX 4 77 81 rfl (subσ.cons (t := 0) rfl (subσ.cons (t := 13) rfl (subσ.cons (t := 14) rfl (subσ.cons (t := 1) rfl (subσ.cons (t := 15) rfl (subσ.cons (t := 16) rfl (subσ.cons (t := 17) rfl (subσ.cons (t := 2) rfl (subσ.cons (t := 19) rfl (subσ.cons (t := 20) rfl (subσ.cons (t := 21) rfl (subσ.cons (t := 18) rfl (subσ.cons (t := 22) rfl (subσ.cons (t := 23) rfl (subσ.cons (t := 24) rfl (subσ.cons (t := 3) rfl (subσ.cons (t := 4) rfl (subσ.cons (t := 26) rfl (subσ.cons (t := 27) rfl (subσ.cons (t := 28) rfl (subσ.cons (t := 25) rfl (subσ.cons (t := 29) rfl (subσ.cons (t := 30) rfl (subσ.cons (t := 31) rfl (subσ.cons (t := 6) rfl (subσ.cons (t := 7) rfl (subσ.cons (t := 32) rfl (subσ.cons (t := 9) rfl (subσ.cons (t := 34) rfl (subσ.cons (t := 35) rfl (subσ.cons (t := 36) rfl (subσ.cons (t := 33) rfl (subσ.cons (t := 37) rfl (subσ.cons (t := 38) rfl (subσ.cons (t := 39) rfl (subσ.cons (t := 10) rfl (subσ.cons (t := 11) rfl (subσ.nil _)))))))))))))))))))))))))))))))))))))) ?_ ?_
         ·
          intro h77
          refine lskip rfl rfl rfl rfl rfl ?_
          refine lskip rfl rfl rfl rfl rfl ?_
          refine lskip rfl rfl rfl rfl rfl ?_
          refine ls (op (p_pickf rfl rfl) rfl) ?_
          refine ln (nmid (wk0 (by repeat (first | exact subσ.nil _ | refine subσ.cons rfl ?_)) (by repeat' (first | constructor | apply Sub.suf))))
         apply exI
         ·
          intro h77
          refine lwant rfl rfl rfl rfl (o_ldw Tryz.isAgg37 Tryz.sizeOf37 rfl (by repeat' constructor) (by rfl) rfl) ?_
          refine lwant rfl rfl rfl rfl (o_ldw Tryz.isAgg37 Tryz.sizeOf37 rfl (by repeat' constructor) (by rfl) rfl) ?_
          refine lwant rfl rfl rfl rfl (o_call (is := []) Tryz.call28 (c_Needs aP aP ((some ⟨b13, 0, none⟩, 1), (none, 0)) ((some ⟨b13, 0, none⟩, 1), (none, 0)) fitP fitP) rfl rfl (by repeat' (first | constructor | apply Sub.suf)) rfl) ?_
          refine le ?_; intro x80
          refine ls (op (p_pickt rfl rfl) rfl) ?_
          refine ln (nmid (wk0 (by repeat (first | exact subσ.nil _ | refine subσ.cons rfl ?_)) (by repeat' (first | constructor | apply Sub.suf))))
         ·
          refine ls (op (p_move rfl) rfl) ?_
          refine andX 4 82 86 rfl (subσ.cons (t := 0) rfl (subσ.cons (t := 13) rfl (subσ.cons (t := 14) rfl (subσ.cons (t := 1) rfl (subσ.cons (t := 15) rfl (subσ.cons (t := 16) rfl (subσ.cons (t := 17) rfl (subσ.cons (t := 2) rfl (subσ.cons (t := 19) rfl (subσ.cons (t := 20) rfl (subσ.cons (t := 21) rfl (subσ.cons (t := 18) rfl (subσ.cons (t := 22) rfl (subσ.cons (t := 23) rfl (subσ.cons (t := 24) rfl (subσ.cons (t := 3) rfl (subσ.cons (t := 4) rfl (subσ.cons (t := 26) rfl (subσ.cons (t := 27) rfl (subσ.cons (t := 28) rfl (subσ.cons (t := 25) rfl (subσ.cons (t := 29) rfl (subσ.cons (t := 30) rfl (subσ.cons (t := 31) rfl (subσ.cons (t := 6) rfl (subσ.cons (t := 7) rfl (subσ.cons (t := 32) rfl (subσ.cons (t := 9) rfl (subσ.cons (t := 34) rfl (subσ.cons (t := 35) rfl (subσ.cons (t := 36) rfl (subσ.cons (t := 33) rfl (subσ.cons (t := 37) rfl (subσ.cons (t := 38) rfl (subσ.cons (t := 39) rfl (subσ.cons (t := 10) rfl (subσ.cons (t := 11) rfl (subσ.nil _)))))))))))))))))))))))))))))))))))))) ?_ ?_
          ·
           intro h82
           refine lskip rfl rfl rfl rfl rfl ?_
           refine lskip rfl rfl rfl rfl rfl ?_
           refine lskip rfl rfl rfl rfl rfl ?_
           refine ls (op (p_pickf rfl rfl) rfl) ?_
           refine ln (nmid (wk0 (by repeat (first | exact subσ.nil _ | refine subσ.cons rfl ?_)) (by repeat' (first | constructor | apply Sub.suf))))
          apply exI
          ·
           intro h82
           refine lwant rfl rfl rfl rfl (o_ldw Tryz.isAgg37 Tryz.sizeOf37 rfl (by repeat' constructor) (by rfl) rfl) ?_
           refine lwant rfl rfl rfl rfl (op (p_bld sb37 rfl (Fill.t (by repeat' constructor) rfl rfl (by repeat' constructor) (Fill.t (by repeat' constructor) rfl rfl (by repeat' constructor) Fill.d))) rfl) ?_
           refine lwant rfl rfl rfl rfl (o_call (is := []) Tryz.call29 (c_Apart aP aC ((some ⟨b13, 0, none⟩, 1), (none, 0)) ((none, 0), (none, 0)) fitP fitC) rfl rfl (by repeat' (first | constructor | apply Sub.suf)) rfl) ?_
           refine le ?_; intro x85
           refine ls (op (p_pickt rfl rfl) rfl) ?_
           refine ln (nmid (wk0 (by repeat (first | exact subσ.nil _ | refine subσ.cons rfl ?_)) (by repeat' (first | constructor | apply Sub.suf))))
          ·
           refine ls (op (p_asg rfl) rfl) ?_
           refine ln ?_
           refine nthen ?_
           refine cret ?_
           refine xret (fun _ _ h => h) ?_
           refine rret (is := []) () (Or.inl rfl) (Res.t rfl Res.d) ?_ rfl (by repeat' (first | constructor | apply Sub.suf))
           dsimp only [packV]; rw [alive4, alive5]; rfl

end Go.Proofs.YtjeampaghmcefaaGreatDoor.X
