/- OWN WORK: a part of the proof of a law of the seat YtaojmjfgopbgcaaDoor: the walk through functions of the program. -/
import Derived.Test.YtaojmjfgopbgcaaDoorProg
import Derived.Test.YtaojmjfgopbgcaaDoorXA14
set_option linter.unusedVariables false
set_option linter.unusedSimpArgs false
namespace Go.Proofs.YtaojmjfgopbgcaaDoor.X
open Go Go.RowKit Go.Proofs Go.Sx
attribute [local irreducible] slA isA box row

theorem sizes_len (l : List Prim) : l.length ≤ many l := by unfold many; omega
theorem three_small {p q r : Prim} (h : (((!decide ((many [p, q, r] : Int) ≤ 5000)) || decide ((10000 : Int) < p.pos)) || decide ((10000 : Int) < q.pos) || decide ((10000 : Int) < r.pos)) = false) : three false (p, q, r) = three true (p, q, r) := by
  simp only [Bool.or_eq_false_iff, Bool.not_eq_false', decide_eq_true_eq, decide_eq_false_iff_not] at h
  obtain ⟨⟨⟨h1, h2⟩, h3⟩, h4⟩ := h
  have hm : many [p, q, r] ≤ 5000 := by omega
  simp only [many, List.map_cons, List.map_nil, List.sum_cons, List.sum_nil, List.length_cons, List.length_nil, Prim.many] at hm
  exact three_same ⟨by omega, by omega, by omega⟩ ⟨by omega, by omega, by omega⟩ ⟨by omega, by omega, by omega⟩
theorem three_eqs {a1 a2 a3 c1 c2 c3 : Prim} {is was : Bool} (h : (if is = true then some (a1, a2, a3) else none) = (if was = true then some (c1, c2, c3) else none)) : is = was ∧ (is = true → a1 = c1 ∧ a2 = c2 ∧ a3 = c3) := by
  cases is <;> cases was <;> simp_all

theorem sb35 : SB Tryd.prog 35 [(0, 6), (6, 6), (12, 6)] [.int .i64 0, .string ⟨#[]⟩, .string ⟨#[]⟩, .int .i64 0, .slice none 0 0, .slice none 0 0, .int .i64 0, .string ⟨#[]⟩, .string ⟨#[]⟩, .int .i64 0, .slice none 0 0, .slice none 0 0, .int .i64 0, .string ⟨#[]⟩, .string ⟨#[]⟩, .int .i64 0, .slice none 0 0, .slice none 0 0] := SB.array Tryd.zeroValue35 rfl Tryd.underlying35 Tryd.sizeOf27 (fun i x h => by rcases i with _ | _ | _ |  i <;> simp_all)
theorem c_SwapThree (p q r : Prim) (yp yq yr : Rp.Lay Prim) (hp : p.fit) (hq : q.fit) (hr : r.fit) (hM : many [p, q, r] ≤ 1000000000000) : Con Tryd.prog 5 [.agg (E3 p q r yp yq yr).toArray] [] (Rp.asn p yp ++ (Rp.asn q yq ++ Rp.asn r yr)) Unit (fun _ => .bool (true)) (fun _ => []) (fun _ => []) := by
  refine con Tryd.func5 rfl Tryd.ntmps5 rfl ?_
  intro M0 F0 w0
  refine cs ?_
  refine cr ?_
  refine ls (o_box rfl rfl rfl) ?_
  refine le ?_; intro b1
  refine ls (op (p_asg rfl) rfl) ?_
  refine ln ?_
  refine nthen ?_
  refine cs ?_
  refine cs ?_
  refine cr ?_
  refine ls (op (p_iav 0 (by decide) rfl Tryd.underlying34 Tryd.sizeOf24 rfl rfl) rfl) ?_
  refine ls (o_lda Tryd.isAgg24 Tryd.sizeOf24 rfl (by repeat (first | exact At.z | apply At.s)) (by repeat (first | exact Cut.d | apply Cut.t | apply Cut.s)) rfl) ?_
  refine ls (op (p_iav 1 (by decide) rfl Tryd.underlying34 Tryd.sizeOf24 rfl rfl) rfl) ?_
  refine ls (o_lda Tryd.isAgg24 Tryd.sizeOf24 rfl (by repeat (first | exact At.z | apply At.s)) (by repeat (first | exact Cut.d | apply Cut.t | apply Cut.s)) rfl) ?_
  refine ls (op (p_iav 2 (by decide) rfl Tryd.underlying34 Tryd.sizeOf24 rfl rfl) rfl) ?_
  refine ls (o_lda Tryd.isAgg24 Tryd.sizeOf24 rfl (by repeat (first | exact At.z | apply At.s)) (by repeat (first | exact Cut.d | apply Cut.t | apply Cut.s)) rfl) ?_
  refine ls (o_bsl [p, q, r] Tryd.underlying42 Tryd.sizeOf24 Tryd.zeroValue24 rfl (Enum.t (Enum.t (Enum.t Enum.d))) (RV.t yp rfl (by repeat (first | exact Sub.d | (refine Sub.s ?_ ?_; (repeat (first | exact In.z | apply In.s))) | (refine Sub.suf ?_; (repeat (first | exact Suf.z | apply Suf.s))))) (RV.t yq rfl (by repeat (first | exact Sub.d | (refine Sub.s ?_ ?_; (repeat (first | exact In.z | apply In.s))) | (refine Sub.suf ?_; (repeat (first | exact Suf.z | apply Suf.s))))) (RV.t yr rfl (by repeat (first | exact Sub.d | (refine Sub.s ?_ ?_; (repeat (first | exact In.z | apply In.s))) | (refine Sub.suf ?_; (repeat (first | exact Suf.z | apply Suf.s))))) RV.d))) rfl (by decide) (by decide) rfl) ?_
  refine le ?_; intro b15
  refine lmono (fun a w h => Go.Sx.freeze (i := 0) rfl h) ?_
  refine ls (o_call (is := []) Tryd.call9 (c_small [p, q, r] _ _ (by simp) hM) rfl rfl (by repeat (first | exact Sub.d | (refine Sub.s ?_ ?_; (repeat (first | exact In.z | apply In.s))) | (refine Sub.suf ?_; (repeat (first | exact Suf.z | apply Suf.s))))) rfl) ?_
  refine le ?_; intro x16
  refine ls (op (p_not rfl) rfl) ?_
  refine ls (op (p_move rfl) rfl) ?_
  refine orX 5 18 23 rfl (subσ.cons (t := 0) rfl (subσ.cons (t := 1) rfl (subσ.cons (t := 2) rfl (subσ.nil _)))) ?_ ?_
  · intro h18
    refine lskip rfl rfl rfl rfl rfl ?_
    refine lskip rfl rfl rfl rfl rfl ?_
    refine lskip rfl rfl rfl rfl rfl ?_
    refine lskip rfl rfl rfl rfl rfl ?_
    refine ls (op (p_pickt rfl rfl) rfl) ?_
    refine ln (nmid (wk0 (by repeat (first | exact subσ.nil _ | refine subσ.cons rfl ?_)) (by repeat (first | exact Sub.d | (refine Sub.s ?_ ?_; (repeat (first | exact In.z | apply In.s))) | (refine Sub.suf ?_; (repeat (first | exact Suf.z | apply Suf.s)))))))
  apply exI
  · intro h18
    refine lwant rfl rfl rfl rfl (op (p_iav 0 (by decide) rfl Tryd.underlying34 Tryd.sizeOf24 rfl rfl) rfl) ?_
    refine lwant rfl rfl rfl rfl (op (p_fa fa24_3 rfl) rfl) ?_
    refine lwant rfl rfl rfl rfl (o_ld Tryd.isAgg3 rfl (by repeat (first | exact At.z | apply At.s)) (by repeat (first | exact At.z | apply At.s)) rfl) ?_
    refine lwant rfl rfl rfl rfl (op (p_icmp rfl rfl rfl) rfl) ?_
    refine ls (op (p_pickf rfl rfl) rfl) ?_
    refine ln (nmid (wk0 (by repeat (first | exact subσ.nil _ | refine subσ.cons rfl ?_)) (by repeat (first | exact Sub.d | (refine Sub.s ?_ ?_; (repeat (first | exact In.z | apply In.s))) | (refine Sub.suf ?_; (repeat (first | exact Suf.z | apply Suf.s)))))))
  ·
    refine ls (op (p_move rfl) rfl) ?_
    refine orX 5 24 29 rfl (subσ.cons (t := 0) rfl (subσ.cons (t := 1) rfl (subσ.cons (t := 2) rfl (subσ.nil _)))) ?_ ?_
    · intro h24
      refine lskip rfl rfl rfl rfl rfl ?_
      refine lskip rfl rfl rfl rfl rfl ?_
      refine lskip rfl rfl rfl rfl rfl ?_
      refine lskip rfl rfl rfl rfl rfl ?_
      refine ls (op (p_pickt rfl rfl) rfl) ?_
      refine ln (nmid (wk0 (by repeat (first | exact subσ.nil _ | refine subσ.cons rfl ?_)) (by repeat (first | exact Sub.d | (refine Sub.s ?_ ?_; (repeat (first | exact In.z | apply In.s))) | (refine Sub.suf ?_; (repeat (first | exact Suf.z | apply Suf.s)))))))
    apply exI
    · intro h24
      refine lwant rfl rfl rfl rfl (op (p_iav 1 (by decide) rfl Tryd.underlying34 Tryd.sizeOf24 rfl rfl) rfl) ?_
      refine lwant rfl rfl rfl rfl (op (p_fa fa24_3 rfl) rfl) ?_
      refine lwant rfl rfl rfl rfl (o_ld Tryd.isAgg3 rfl (by repeat (first | exact At.z | apply At.s)) (by repeat (first | exact At.z | apply At.s)) rfl) ?_
      refine lwant rfl rfl rfl rfl (op (p_icmp rfl rfl rfl) rfl) ?_
      refine ls (op (p_pickf rfl rfl) rfl) ?_
      refine ln (nmid (wk0 (by repeat (first | exact subσ.nil _ | refine subσ.cons rfl ?_)) (by repeat (first | exact Sub.d | (refine Sub.s ?_ ?_; (repeat (first | exact In.z | apply In.s))) | (refine Sub.suf ?_; (repeat (first | exact Suf.z | apply Suf.s)))))))
    ·
      refine ls (op (p_move rfl) rfl) ?_
      refine orX 5 30 35 rfl (subσ.cons (t := 0) rfl (subσ.cons (t := 1) rfl (subσ.cons (t := 2) rfl (subσ.nil _)))) ?_ ?_
      · intro h30
        refine lskip rfl rfl rfl rfl rfl ?_
        refine lskip rfl rfl rfl rfl rfl ?_
        refine lskip rfl rfl rfl rfl rfl ?_
        refine lskip rfl rfl rfl rfl rfl ?_
        refine ls (op (p_pickt rfl rfl) rfl) ?_
        refine ln (nmid (wk0 (by repeat (first | exact subσ.nil _ | refine subσ.cons rfl ?_)) (by repeat (first | exact Sub.d | (refine Sub.s ?_ ?_; (repeat (first | exact In.z | apply In.s))) | (refine Sub.suf ?_; (repeat (first | exact Suf.z | apply Suf.s)))))))
      apply exI
      · intro h30
        refine lwant rfl rfl rfl rfl (op (p_iav 2 (by decide) rfl Tryd.underlying34 Tryd.sizeOf24 rfl rfl) rfl) ?_
        refine lwant rfl rfl rfl rfl (op (p_fa fa24_3 rfl) rfl) ?_
        refine lwant rfl rfl rfl rfl (o_ld Tryd.isAgg3 rfl (by repeat (first | exact At.z | apply At.s)) (by repeat (first | exact At.z | apply At.s)) rfl) ?_
        refine lwant rfl rfl rfl rfl (op (p_icmp rfl rfl rfl) rfl) ?_
        refine ls (op (p_pickf rfl rfl) rfl) ?_
        refine ln (nmid (wk0 (by repeat (first | exact subσ.nil _ | refine subσ.cons rfl ?_)) (by repeat (first | exact Sub.d | (refine Sub.s ?_ ?_; (repeat (first | exact In.z | apply In.s))) | (refine Sub.suf ?_; (repeat (first | exact Suf.z | apply Suf.s)))))))
      ·
        refine ln ?_
        refine nthen ?_
        refine cc rfl ?_ ?_
        · intro h35
          skip
          refine cs ?_
          refine cr ?_
          refine ls (o_call (is := []) Tryd.call10 (c_alive) rfl rfl (by repeat (first | exact Sub.d | (refine Sub.s ?_ ?_; (repeat (first | exact In.z | apply In.s))) | (refine Sub.suf ?_; (repeat (first | exact Suf.z | apply Suf.s))))) rfl) ?_
          refine le ?_; intro x36
          refine ls (op (p_asg rfl) rfl) ?_
          refine ln ?_
          refine nthen ?_
          refine cret ?_
          refine xret (fun _ _ h => h) ?_
          refine rret (is := []) () (Or.inl rfl) (Res.t rfl Res.d) (rfl) rfl (by repeat (first | exact Sub.d | (refine Sub.s ?_ ?_; (repeat (first | exact In.z | apply In.s))) | (refine Sub.suf ?_; (repeat (first | exact Suf.z | apply Suf.s)))))
        · intro h35
          have hs := three_small h35
          refine cskip ?_
          refine nthen ?_
          refine cs ?_
          refine cr ?_
          refine ls (op (p_iav 0 (by decide) rfl Tryd.underlying34 Tryd.sizeOf24 rfl rfl) rfl) ?_
          refine ls (o_lda Tryd.isAgg24 Tryd.sizeOf24 rfl (by repeat (first | exact At.z | apply At.s)) (by repeat (first | exact Cut.d | apply Cut.t | apply Cut.s)) rfl) ?_
          refine ls (op (p_iav 1 (by decide) rfl Tryd.underlying34 Tryd.sizeOf24 rfl rfl) rfl) ?_
          refine ls (o_lda Tryd.isAgg24 Tryd.sizeOf24 rfl (by repeat (first | exact At.z | apply At.s)) (by repeat (first | exact Cut.d | apply Cut.t | apply Cut.s)) rfl) ?_
          refine ls (op (p_iav 2 (by decide) rfl Tryd.underlying34 Tryd.sizeOf24 rfl rfl) rfl) ?_
          refine ls (o_lda Tryd.isAgg24 Tryd.sizeOf24 rfl (by repeat (first | exact At.z | apply At.s)) (by repeat (first | exact Cut.d | apply Cut.t | apply Cut.s)) rfl) ?_
          refine ls (op (p_bld sb35 rfl (Fill.t (by repeat (first | exact At.z | apply At.s)) rfl rfl (by repeat (first | exact Put.d | apply Put.t | apply Put.s)) (Fill.t (by repeat (first | exact At.z | apply At.s)) rfl rfl (by repeat (first | exact Put.d | apply Put.t | apply Put.s)) (Fill.t (by repeat (first | exact At.z | apply At.s)) rfl rfl (by repeat (first | exact Put.d | apply Put.t | apply Put.s)) Fill.d)))) rfl) ?_
          refine ls (o_alloc Tryd.zeroValue35 rfl rfl) ?_
          refine le ?_; intro b3
          refine ls (o_st rfl Tryd.sizeOf35 rfl rfl rfl rfl rfl (by repeat (first | exact At.z | apply At.s)) (by repeat (first | exact Put.d | apply Put.t | apply Put.s)) (by repeat (first | exact SetAt.z | apply SetAt.s))) ?_
          refine ln ?_
          refine nthen ?_
          refine cs ?_
          refine cr ?_
          refine ls (o_ldw Tryd.isAgg35 Tryd.sizeOf35 rfl (by repeat (first | exact At.z | apply At.s)) (by rfl) rfl) ?_
          refine ls (o_call (is := []) Tryd.call17 (c_three0 p q r yp yq yr hp hq hr) rfl rfl (by repeat (first | exact Sub.d | (refine Sub.s ?_ ?_; (repeat (first | exact In.z | apply In.s))) | (refine Sub.suf ?_; (repeat (first | exact Suf.z | apply Suf.s))))) rfl) ?_
          refine le ?_; rintro ⟨⟨⟨⟨a1, a2, a3⟩, is⟩, u1, u2, u3⟩, ha, hfa⟩
          dsimp only at ha hfa
          refine ls (op (p_move rfl) rfl) ?_
          refine ls (op (p_ext rfl (by repeat (first | exact At.z | apply At.s))) rfl) ?_
          refine ls (op (p_ext rfl (by repeat (first | exact At.z | apply At.s))) rfl) ?_
          refine ls (o_alloc Tryd.zeroValue35 rfl rfl) ?_
          refine le ?_; intro b4
          refine ls (o_st rfl Tryd.sizeOf35 rfl rfl rfl rfl rfl (by repeat (first | exact At.z | apply At.s)) (by repeat (first | exact Put.d | apply Put.t | apply Put.s)) (by repeat (first | exact SetAt.z | apply SetAt.s))) ?_
          refine ls (op (p_asg rfl) rfl) ?_
          refine ln ?_
          refine nthen ?_
          refine cs ?_
          refine cr ?_
          refine ls (o_ldw Tryd.isAgg35 Tryd.sizeOf35 rfl (by repeat (first | exact At.z | apply At.s)) (by rfl) rfl) ?_
          refine ls (o_call (is := []) Tryd.call17 (c_three1 p q r yp yq yr hp hq hr) rfl rfl (by repeat (first | exact Sub.d | (refine Sub.s ?_ ?_; (repeat (first | exact In.z | apply In.s))) | (refine Sub.suf ?_; (repeat (first | exact Suf.z | apply Suf.s))))) rfl) ?_
          refine le ?_; rintro ⟨⟨⟨⟨c1, c2, c3⟩, was⟩, v1, v2, v3⟩, hc, hfc⟩
          dsimp only at hc hfc
          obtain ⟨hw, ht⟩ := three_eqs ((ha.symm.trans hs).trans hc)
          refine ls (op (p_move rfl) rfl) ?_
          refine ls (op (p_ext rfl (by repeat (first | exact At.z | apply At.s))) rfl) ?_
          refine ls (op (p_ext rfl (by repeat (first | exact At.z | apply At.s))) rfl) ?_
          refine ls (o_alloc Tryd.zeroValue35 rfl rfl) ?_
          refine le ?_; intro b6
          refine ls (o_st rfl Tryd.sizeOf35 rfl rfl rfl rfl rfl (by repeat (first | exact At.z | apply At.s)) (by repeat (first | exact Put.d | apply Put.t | apply Put.s)) (by repeat (first | exact SetAt.z | apply SetAt.s))) ?_
          refine ls (op (p_asg rfl) rfl) ?_
          refine ln ?_
          refine nthen ?_
          refine cs ?_
          refine cs ?_
          refine cr ?_
          refine ls (op (p_move rfl) rfl) ?_
          refine ls (op (p_move rfl) rfl) ?_
          refine ls (op (p_bne Tryd.underlying4 rfl rfl) rfl) ?_
          refine ln ?_
          refine nthen ?_
          refine cc rfl ?_ ?_
          · intro h56
            subst hw; simp at h56
          · intro h56
            subst hw
            refine cskip ?_
            refine nthen ?_
            refine cs ?_
            refine cs ?_
            cases is
            ·
              refine cr ?_
              refine ls (op (p_move rfl) rfl) ?_
              refine ln ?_
              refine nthen ?_
              refine cb ?_
              refine cl (ι := {k : Nat // k ≤ 3}) (fun i => St M0 F0 w0 73 [(2, .bool false), (4, .pointer (some ⟨b4, 0, none⟩)), (5, .bool false), (6, .pointer (some ⟨b6, 0, none⟩)), (57, .int .i64 (i.1 : Int))] [box b4 35 (E3 a1 a2 a3 u1 u2 u3), box b6 35 (E3 c1 c2 c3 v1 v2 v3)] (Rp.asn a1 u1 ++ (Rp.asn a2 u2 ++ (Rp.asn a3 u3 ++ (Rp.asn c1 v1 ++ (Rp.asn c2 v2 ++ Rp.asn c3 v3)))))) (fun i => 3 - i.1) ⟨0, by decide⟩ (wk (is := [1, 0]) (by repeat (first | exact subσ.nil _ | refine subσ.cons rfl ?_)) rfl (by repeat (first | exact Sub.d | (refine Sub.s ?_ ?_; (repeat (first | exact In.z | apply In.s))) | (refine Sub.suf ?_; (repeat (first | exact Suf.z | apply Suf.s)))))) ?_
              rintro ⟨k, hk⟩
              refine cmono (S' := St M0 F0 w0 73 [(2, .bool false), (4, .pointer (some ⟨b4, 0, none⟩)), (5, .bool false), (6, .pointer (some ⟨b6, 0, none⟩)), (57, .int .i64 (k : Int))] [box b4 35 (E3 a1 a2 a3 u1 u2 u3), box b6 35 (E3 c1 c2 c3 v1 v2 v3)] (Rp.asn a1 u1 ++ (Rp.asn a2 u2 ++ (Rp.asn a3 u3 ++ (Rp.asn c1 v1 ++ (Rp.asn c2 v2 ++ Rp.asn c3 v3)))))) (fun _ _ h => h) ?_
              refine cs ?_
              refine cr ?_
              refine ls (op (p_icmp rfl rfl rfl) rfl) ?_
              refine ln ?_
              refine nthen ?_
              refine cs ?_
              refine cc rfl ?_ ?_
              · intro h58
                try simp only [decide_eq_true_eq, decide_eq_false_iff_not, Bool.not_eq_true', Bool.not_eq_false', Int.not_lt, Int.not_le, ge_iff_le, Bool.not_true, Bool.not_false] at h58
                have hk3 : k < 3 := by omega
                refine cskip ?_
                refine nthen ?_
                refine cs ?_
                refine cb ?_
                refine cs ?_
                rcases (show k = 0 ∨ k = 1 ∨ k = 2 by omega) with rfl | rfl | rfl
                ·
                  refine cr ?_
                  refine ls (op (p_move rfl) rfl) ?_
                  refine ls (op (p_asg rfl) rfl) ?_
                  refine ln ?_
                  refine nthen ?_
                  refine cs ?_
                  refine cd [] [(4, b4, 0 + 0 * 6, _), (7, b6, 0 + 0 * 6, _)] TrydX.mixed (TOk.t (isBoxS (by repeat (first | exact At.z | apply At.s)) (k := 6) (by repeat (first | exact Cut.d | apply Cut.t | apply Cut.s))) (TOk.t (isBoxS (by repeat (first | exact At.z | apply At.s)) (k := 6) (by repeat (first | exact Cut.d | apply Cut.t | apply Cut.s))) TOk.d)) ?_
                  refine tk 0 rfl (by kernel_rfl) (fun _ _ _ h => h) gnone (TTany _) (p_move rfl) rfl ?_
                  refine tk 1 rfl (by kernel_rfl) (fun _ _ _ h => h) gnone (TTany _) (p_move rfl) rfl ?_
                  refine tks 2 rfl (by kernel_rfl) (fun _ _ _ h => h) rfl rfl rfl rfl rfl ?_
                  refine tks 3 rfl (by kernel_rfl) (fun _ _ _ h => h) rfl rfl rfl rfl rfl ?_
                  refine tks 4 rfl (by kernel_rfl) (fun _ _ _ h => h) rfl rfl rfl rfl rfl ?_
                  refine tks 5 rfl (by kernel_rfl) (fun _ _ _ h => h) rfl rfl rfl rfl rfl ?_
                  refine tks 6 rfl (by kernel_rfl) (fun _ _ _ h => h) rfl rfl rfl rfl rfl ?_
                  refine tks 7 rfl (by kernel_rfl) (fun _ _ _ h => h) rfl rfl rfl rfl rfl ?_
                  refine tks 8 rfl (by kernel_rfl) (fun _ _ _ h => h) rfl rfl rfl rfl rfl ?_
                  refine tks 9 rfl (by kernel_rfl) (fun _ _ _ h => h) rfl rfl rfl rfl rfl ?_
                  refine tk 10 rfl (by kernel_rfl) (fun _ _ _ h => h) gnone (TTany _) (p_pickf rfl rfl) rfl ?_
                  refine dn (by kernel_rfl) ?_
                  refine nthen ?_
                  refine cc rfl (fun h => by cases h) (fun h => ?_)
                  refine cskip ?_
                  refine nblock ?_
                  refine nthen ?_
                  refine cr ?_
                  refine ls (op (p_add rfl rfl (by omega)) rfl) ?_
                  refine ls (op (p_move rfl) rfl) ?_
                  refine ln ?_
                  refine nnext ⟨1, by decide⟩ (by dsimp only; omega) (wk0 (by repeat (first | exact subσ.nil _ | refine subσ.cons rfl ?_)) (by repeat (first | exact Sub.d | (refine Sub.s ?_ ?_; (repeat (first | exact In.z | apply In.s))) | (refine Sub.suf ?_; (repeat (first | exact Suf.z | apply Suf.s))))))
                ·
                  refine cr ?_
                  refine ls (op (p_move rfl) rfl) ?_
                  refine ls (op (p_asg rfl) rfl) ?_
                  refine ln ?_
                  refine nthen ?_
                  refine cs ?_
                  refine cd [] [(4, b4, 0 + 1 * 6, _), (7, b6, 0 + 1 * 6, _)] TrydX.mixed (TOk.t (isBoxS (by repeat (first | exact At.z | apply At.s)) (k := 6) (by repeat (first | exact Cut.d | apply Cut.t | apply Cut.s))) (TOk.t (isBoxS (by repeat (first | exact At.z | apply At.s)) (k := 6) (by repeat (first | exact Cut.d | apply Cut.t | apply Cut.s))) TOk.d)) ?_
                  refine tk 0 rfl (by kernel_rfl) (fun _ _ _ h => h) gnone (TTany _) (p_move rfl) rfl ?_
                  refine tk 1 rfl (by kernel_rfl) (fun _ _ _ h => h) gnone (TTany _) (p_move rfl) rfl ?_
                  refine tks 2 rfl (by kernel_rfl) (fun _ _ _ h => h) rfl rfl rfl rfl rfl ?_
                  refine tks 3 rfl (by kernel_rfl) (fun _ _ _ h => h) rfl rfl rfl rfl rfl ?_
                  refine tks 4 rfl (by kernel_rfl) (fun _ _ _ h => h) rfl rfl rfl rfl rfl ?_
                  refine tks 5 rfl (by kernel_rfl) (fun _ _ _ h => h) rfl rfl rfl rfl rfl ?_
                  refine tks 6 rfl (by kernel_rfl) (fun _ _ _ h => h) rfl rfl rfl rfl rfl ?_
                  refine tks 7 rfl (by kernel_rfl) (fun _ _ _ h => h) rfl rfl rfl rfl rfl ?_
                  refine tks 8 rfl (by kernel_rfl) (fun _ _ _ h => h) rfl rfl rfl rfl rfl ?_
                  refine tks 9 rfl (by kernel_rfl) (fun _ _ _ h => h) rfl rfl rfl rfl rfl ?_
                  refine tk 10 rfl (by kernel_rfl) (fun _ _ _ h => h) gnone (TTany _) (p_pickf rfl rfl) rfl ?_
                  refine dn (by kernel_rfl) ?_
                  refine nthen ?_
                  refine cc rfl (fun h => by cases h) (fun h => ?_)
                  refine cskip ?_
                  refine nblock ?_
                  refine nthen ?_
                  refine cr ?_
                  refine ls (op (p_add rfl rfl (by omega)) rfl) ?_
                  refine ls (op (p_move rfl) rfl) ?_
                  refine ln ?_
                  refine nnext ⟨2, by decide⟩ (by dsimp only; omega) (wk0 (by repeat (first | exact subσ.nil _ | refine subσ.cons rfl ?_)) (by repeat (first | exact Sub.d | (refine Sub.s ?_ ?_; (repeat (first | exact In.z | apply In.s))) | (refine Sub.suf ?_; (repeat (first | exact Suf.z | apply Suf.s))))))
                ·
                  refine cr ?_
                  refine ls (op (p_move rfl) rfl) ?_
                  refine ls (op (p_asg rfl) rfl) ?_
                  refine ln ?_
                  refine nthen ?_
                  refine cs ?_
                  refine cd [] [(4, b4, 0 + 2 * 6, _), (7, b6, 0 + 2 * 6, _)] TrydX.mixed (TOk.t (isBoxS (by repeat (first | exact At.z | apply At.s)) (k := 6) (by repeat (first | exact Cut.d | apply Cut.t | apply Cut.s))) (TOk.t (isBoxS (by repeat (first | exact At.z | apply At.s)) (k := 6) (by repeat (first | exact Cut.d | apply Cut.t | apply Cut.s))) TOk.d)) ?_
                  refine tk 0 rfl (by kernel_rfl) (fun _ _ _ h => h) gnone (TTany _) (p_move rfl) rfl ?_
                  refine tk 1 rfl (by kernel_rfl) (fun _ _ _ h => h) gnone (TTany _) (p_move rfl) rfl ?_
                  refine tks 2 rfl (by kernel_rfl) (fun _ _ _ h => h) rfl rfl rfl rfl rfl ?_
                  refine tks 3 rfl (by kernel_rfl) (fun _ _ _ h => h) rfl rfl rfl rfl rfl ?_
                  refine tks 4 rfl (by kernel_rfl) (fun _ _ _ h => h) rfl rfl rfl rfl rfl ?_
                  refine tks 5 rfl (by kernel_rfl) (fun _ _ _ h => h) rfl rfl rfl rfl rfl ?_
                  refine tks 6 rfl (by kernel_rfl) (fun _ _ _ h => h) rfl rfl rfl rfl rfl ?_
                  refine tks 7 rfl (by kernel_rfl) (fun _ _ _ h => h) rfl rfl rfl rfl rfl ?_
                  refine tks 8 rfl (by kernel_rfl) (fun _ _ _ h => h) rfl rfl rfl rfl rfl ?_
                  refine tks 9 rfl (by kernel_rfl) (fun _ _ _ h => h) rfl rfl rfl rfl rfl ?_
                  refine tk 10 rfl (by kernel_rfl) (fun _ _ _ h => h) gnone (TTany _) (p_pickf rfl rfl) rfl ?_
                  refine dn (by kernel_rfl) ?_
                  refine nthen ?_
                  refine cc rfl (fun h => by cases h) (fun h => ?_)
                  refine cskip ?_
                  refine nblock ?_
                  refine nthen ?_
                  refine cr ?_
                  refine ls (op (p_add rfl rfl (by omega)) rfl) ?_
                  refine ls (op (p_move rfl) rfl) ?_
                  refine ln ?_
                  refine nnext ⟨3, by decide⟩ (by dsimp only; omega) (wk0 (by repeat (first | exact subσ.nil _ | refine subσ.cons rfl ?_)) (by repeat (first | exact Sub.d | (refine Sub.s ?_ ?_; (repeat (first | exact In.z | apply In.s))) | (refine Sub.suf ?_; (repeat (first | exact Suf.z | apply Suf.s))))))
              · intro h58
                try simp only [decide_eq_true_eq, decide_eq_false_iff_not, Bool.not_eq_true', Bool.not_eq_false', Int.not_lt, Int.not_le, ge_iff_le, Bool.not_true, Bool.not_false] at h58
                refine cexit ?_
                refine xthen ?_
                refine xthen ?_
                refine xblock ?_
                refine nthen ?_
                refine cs ?_
                refine cr ?_
                refine ls (o_call (is := []) Tryd.call10 (c_alive) rfl rfl (by repeat (first | exact Sub.d | (refine Sub.s ?_ ?_; (repeat (first | exact In.z | apply In.s))) | (refine Sub.suf ?_; (repeat (first | exact Suf.z | apply Suf.s))))) rfl) ?_
                refine le ?_; intro x72
                refine ls (op (p_asg rfl) rfl) ?_
                refine ln ?_
                refine nthen ?_
                refine cret ?_
                refine xret (fun _ _ h => h) ?_
                refine rret (is := []) () (Or.inl rfl) (Res.t rfl Res.d) (rfl) rfl (by repeat (first | exact Sub.d | (refine Sub.s ?_ ?_; (repeat (first | exact In.z | apply In.s))) | (refine Sub.suf ?_; (repeat (first | exact Suf.z | apply Suf.s)))))
            ·
              obtain ⟨rfl, rfl, rfl⟩ := ht rfl
              obtain ⟨g1, g2, g3⟩ := hfa rfl
              refine cr ?_
              refine ls (op (p_move rfl) rfl) ?_
              refine ln ?_
              refine nthen ?_
              refine cb ?_
              refine cl (ι := {k : Nat // k ≤ 3}) (fun i => St M0 F0 w0 73 [(2, .bool false), (4, .pointer (some ⟨b4, 0, none⟩)), (5, .bool true), (6, .pointer (some ⟨b6, 0, none⟩)), (57, .int .i64 (i.1 : Int))] [box b4 35 (E3 a1 a2 a3 u1 u2 u3), box b6 35 (E3 a1 a2 a3 v1 v2 v3)] (Rp.asn a1 u1 ++ (Rp.asn a2 u2 ++ (Rp.asn a3 u3 ++ (Rp.asn a1 v1 ++ (Rp.asn a2 v2 ++ Rp.asn a3 v3)))))) (fun i => 3 - i.1) ⟨0, by decide⟩ (wk (is := [1, 0]) (by repeat (first | exact subσ.nil _ | refine subσ.cons rfl ?_)) rfl (by repeat (first | exact Sub.d | (refine Sub.s ?_ ?_; (repeat (first | exact In.z | apply In.s))) | (refine Sub.suf ?_; (repeat (first | exact Suf.z | apply Suf.s)))))) ?_
              rintro ⟨k, hk⟩
              refine cmono (S' := St M0 F0 w0 73 [(2, .bool false), (4, .pointer (some ⟨b4, 0, none⟩)), (5, .bool true), (6, .pointer (some ⟨b6, 0, none⟩)), (57, .int .i64 (k : Int))] [box b4 35 (E3 a1 a2 a3 u1 u2 u3), box b6 35 (E3 a1 a2 a3 v1 v2 v3)] (Rp.asn a1 u1 ++ (Rp.asn a2 u2 ++ (Rp.asn a3 u3 ++ (Rp.asn a1 v1 ++ (Rp.asn a2 v2 ++ Rp.asn a3 v3)))))) (fun _ _ h => h) ?_
              refine cs ?_
              refine cr ?_
              refine ls (op (p_icmp rfl rfl rfl) rfl) ?_
              refine ln ?_
              refine nthen ?_
              refine cs ?_
              refine cc rfl ?_ ?_
              · intro h58
                try simp only [decide_eq_true_eq, decide_eq_false_iff_not, Bool.not_eq_true', Bool.not_eq_false', Int.not_lt, Int.not_le, ge_iff_le, Bool.not_true, Bool.not_false] at h58
                have hk3 : k < 3 := by omega
                refine cskip ?_
                refine nthen ?_
                refine cs ?_
                refine cb ?_
                refine cs ?_
                rcases (show k = 0 ∨ k = 1 ∨ k = 2 by omega) with rfl | rfl | rfl
                ·
                  refine cr ?_
                  refine ls (op (p_move rfl) rfl) ?_
                  refine ls (op (p_asg rfl) rfl) ?_
                  refine ln ?_
                  refine nthen ?_
                  refine cs ?_
                  refine cd [8] [(4, b4, 0 + 0 * 6, _), (7, b6, 0 + 0 * 6, _)] TrydX.mixed (TOk.t (isBoxS (by repeat (first | exact At.z | apply At.s)) (k := 6) (by repeat (first | exact Cut.d | apply Cut.t | apply Cut.s))) (TOk.t (isBoxS (by repeat (first | exact At.z | apply At.s)) (k := 6) (by repeat (first | exact Cut.d | apply Cut.t | apply Cut.s))) TOk.d)) ?_
                  refine tk 0 rfl (by kernel_rfl) (fun _ _ _ h => h) gnone (TTany _) (p_move rfl) rfl ?_
                  refine tk 1 rfl (by kernel_rfl) (fun _ _ _ h => h) gnone (TTany _) (p_move rfl) rfl ?_
                  refine tk 2 rfl (by kernel_rfl) (fun _ _ _ h => h) (gyes rfl rfl rfl rfl) (TTany _) (gpu (p_move rfl)) rfl ?_
                  refine tk 3 rfl (by kernel_rfl) (fun _ _ _ h => h) (gyes rfl rfl rfl rfl) (TTany _) (gpu (p_iav 0 (by decide) rfl Tryd.underlying35 Tryd.sizeOf27 rfl rfl)) rfl ?_
                  refine tk 4 rfl (by kernel_rfl) (fun _ _ _ h => h) (gyes rfl rfl rfl rfl) (TTat (List.Mem.head _)) (gpu (p_lda Tryd.isAgg27 Tryd.sizeOf27 rfl rfl)) rfl ?_
                  refine tk 5 rfl (by kernel_rfl) (fun _ _ _ h => h) (gyes rfl rfl rfl rfl) (TTany _) (gpu (p_move rfl)) rfl ?_
                  refine tk 6 rfl (by kernel_rfl) (fun _ _ _ h => h) (gyes rfl rfl rfl rfl) (TTany _) (gpu (p_iav 0 (by decide) rfl Tryd.underlying35 Tryd.sizeOf27 rfl rfl)) rfl ?_
                  refine tk 7 rfl (by kernel_rfl) (fun _ _ _ h => h) (gyes rfl rfl rfl rfl) (TTat (List.Mem.tail _ (List.Mem.head _))) (gpu (p_lda Tryd.isAgg27 Tryd.sizeOf27 rfl rfl)) rfl ?_
                  refine df 8 (by kernel_rfl) ?_
                  refine doG rfl rfl rfl rfl rfl (o_call (is := []) Tryd.call16 (c_primSameT _ _ u1 v1 rfl g1) rfl rfl (by repeat (first | exact Sub.d | (refine Sub.s ?_ ?_; (repeat (first | exact In.z | apply In.s))) | (refine Sub.suf ?_; (repeat (first | exact Suf.z | apply Suf.s))))) rfl) (TOk.x (by kernel_rfl) (TOk.x (by kernel_rfl) TOk.d)) ?_
                  refine ea ?_; intro x68
                  refine tk 9 rfl (by kernel_rfl) (fun _ _ _ h => h) (gyes rfl rfl rfl rfl) (TTany _) (gpu (p_not rfl)) rfl ?_
                  refine tk 10 rfl (by kernel_rfl) (fun _ _ _ h => h) gnone (TTany _) (p_pickt rfl rfl) rfl ?_
                  refine dn (by kernel_rfl) ?_
                  refine nthen ?_
                  refine cc rfl (fun h => by cases h) (fun h => ?_)
                  refine cskip ?_
                  refine nblock ?_
                  refine nthen ?_
                  refine cr ?_
                  refine ls (op (p_add rfl rfl (by omega)) rfl) ?_
                  refine ls (op (p_move rfl) rfl) ?_
                  refine ln ?_
                  refine nnext ⟨1, by decide⟩ (by dsimp only; omega) (wk0 (by repeat (first | exact subσ.nil _ | refine subσ.cons rfl ?_)) (by repeat (first | exact Sub.d | (refine Sub.s ?_ ?_; (repeat (first | exact In.z | apply In.s))) | (refine Sub.suf ?_; (repeat (first | exact Suf.z | apply Suf.s))))))
                ·
                  refine cr ?_
                  refine ls (op (p_move rfl) rfl) ?_
                  refine ls (op (p_asg rfl) rfl) ?_
                  refine ln ?_
                  refine nthen ?_
                  refine cs ?_
                  refine cd [8] [(4, b4, 0 + 1 * 6, _), (7, b6, 0 + 1 * 6, _)] TrydX.mixed (TOk.t (isBoxS (by repeat (first | exact At.z | apply At.s)) (k := 6) (by repeat (first | exact Cut.d | apply Cut.t | apply Cut.s))) (TOk.t (isBoxS (by repeat (first | exact At.z | apply At.s)) (k := 6) (by repeat (first | exact Cut.d | apply Cut.t | apply Cut.s))) TOk.d)) ?_
                  refine tk 0 rfl (by kernel_rfl) (fun _ _ _ h => h) gnone (TTany _) (p_move rfl) rfl ?_
                  refine tk 1 rfl (by kernel_rfl) (fun _ _ _ h => h) gnone (TTany _) (p_move rfl) rfl ?_
                  refine tk 2 rfl (by kernel_rfl) (fun _ _ _ h => h) (gyes rfl rfl rfl rfl) (TTany _) (gpu (p_move rfl)) rfl ?_
                  refine tk 3 rfl (by kernel_rfl) (fun _ _ _ h => h) (gyes rfl rfl rfl rfl) (TTany _) (gpu (p_iav 1 (by decide) rfl Tryd.underlying35 Tryd.sizeOf27 rfl rfl)) rfl ?_
                  refine tk 4 rfl (by kernel_rfl) (fun _ _ _ h => h) (gyes rfl rfl rfl rfl) (TTat (List.Mem.head _)) (gpu (p_lda Tryd.isAgg27 Tryd.sizeOf27 rfl rfl)) rfl ?_
                  refine tk 5 rfl (by kernel_rfl) (fun _ _ _ h => h) (gyes rfl rfl rfl rfl) (TTany _) (gpu (p_move rfl)) rfl ?_
                  refine tk 6 rfl (by kernel_rfl) (fun _ _ _ h => h) (gyes rfl rfl rfl rfl) (TTany _) (gpu (p_iav 1 (by decide) rfl Tryd.underlying35 Tryd.sizeOf27 rfl rfl)) rfl ?_
                  refine tk 7 rfl (by kernel_rfl) (fun _ _ _ h => h) (gyes rfl rfl rfl rfl) (TTat (List.Mem.tail _ (List.Mem.head _))) (gpu (p_lda Tryd.isAgg27 Tryd.sizeOf27 rfl rfl)) rfl ?_
                  refine df 8 (by kernel_rfl) ?_
                  refine doG rfl rfl rfl rfl rfl (o_call (is := []) Tryd.call16 (c_primSameT _ _ u2 v2 rfl g2) rfl rfl (by repeat (first | exact Sub.d | (refine Sub.s ?_ ?_; (repeat (first | exact In.z | apply In.s))) | (refine Sub.suf ?_; (repeat (first | exact Suf.z | apply Suf.s))))) rfl) (TOk.x (by kernel_rfl) (TOk.x (by kernel_rfl) TOk.d)) ?_
                  refine ea ?_; intro x68
                  refine tk 9 rfl (by kernel_rfl) (fun _ _ _ h => h) (gyes rfl rfl rfl rfl) (TTany _) (gpu (p_not rfl)) rfl ?_
                  refine tk 10 rfl (by kernel_rfl) (fun _ _ _ h => h) gnone (TTany _) (p_pickt rfl rfl) rfl ?_
                  refine dn (by kernel_rfl) ?_
                  refine nthen ?_
                  refine cc rfl (fun h => by cases h) (fun h => ?_)
                  refine cskip ?_
                  refine nblock ?_
                  refine nthen ?_
                  refine cr ?_
                  refine ls (op (p_add rfl rfl (by omega)) rfl) ?_
                  refine ls (op (p_move rfl) rfl) ?_
                  refine ln ?_
                  refine nnext ⟨2, by decide⟩ (by dsimp only; omega) (wk0 (by repeat (first | exact subσ.nil _ | refine subσ.cons rfl ?_)) (by repeat (first | exact Sub.d | (refine Sub.s ?_ ?_; (repeat (first | exact In.z | apply In.s))) | (refine Sub.suf ?_; (repeat (first | exact Suf.z | apply Suf.s))))))
                ·
                  refine cr ?_
                  refine ls (op (p_move rfl) rfl) ?_
                  refine ls (op (p_asg rfl) rfl) ?_
                  refine ln ?_
                  refine nthen ?_
                  refine cs ?_
                  refine cd [8] [(4, b4, 0 + 2 * 6, _), (7, b6, 0 + 2 * 6, _)] TrydX.mixed (TOk.t (isBoxS (by repeat (first | exact At.z | apply At.s)) (k := 6) (by repeat (first | exact Cut.d | apply Cut.t | apply Cut.s))) (TOk.t (isBoxS (by repeat (first | exact At.z | apply At.s)) (k := 6) (by repeat (first | exact Cut.d | apply Cut.t | apply Cut.s))) TOk.d)) ?_
                  refine tk 0 rfl (by kernel_rfl) (fun _ _ _ h => h) gnone (TTany _) (p_move rfl) rfl ?_
                  refine tk 1 rfl (by kernel_rfl) (fun _ _ _ h => h) gnone (TTany _) (p_move rfl) rfl ?_
                  refine tk 2 rfl (by kernel_rfl) (fun _ _ _ h => h) (gyes rfl rfl rfl rfl) (TTany _) (gpu (p_move rfl)) rfl ?_
                  refine tk 3 rfl (by kernel_rfl) (fun _ _ _ h => h) (gyes rfl rfl rfl rfl) (TTany _) (gpu (p_iav 2 (by decide) rfl Tryd.underlying35 Tryd.sizeOf27 rfl rfl)) rfl ?_
                  refine tk 4 rfl (by kernel_rfl) (fun _ _ _ h => h) (gyes rfl rfl rfl rfl) (TTat (List.Mem.head _)) (gpu (p_lda Tryd.isAgg27 Tryd.sizeOf27 rfl rfl)) rfl ?_
                  refine tk 5 rfl (by kernel_rfl) (fun _ _ _ h => h) (gyes rfl rfl rfl rfl) (TTany _) (gpu (p_move rfl)) rfl ?_
                  refine tk 6 rfl (by kernel_rfl) (fun _ _ _ h => h) (gyes rfl rfl rfl rfl) (TTany _) (gpu (p_iav 2 (by decide) rfl Tryd.underlying35 Tryd.sizeOf27 rfl rfl)) rfl ?_
                  refine tk 7 rfl (by kernel_rfl) (fun _ _ _ h => h) (gyes rfl rfl rfl rfl) (TTat (List.Mem.tail _ (List.Mem.head _))) (gpu (p_lda Tryd.isAgg27 Tryd.sizeOf27 rfl rfl)) rfl ?_
                  refine df 8 (by kernel_rfl) ?_
                  refine doG rfl rfl rfl rfl rfl (o_call (is := []) Tryd.call16 (c_primSameT _ _ u3 v3 rfl g3) rfl rfl (by repeat (first | exact Sub.d | (refine Sub.s ?_ ?_; (repeat (first | exact In.z | apply In.s))) | (refine Sub.suf ?_; (repeat (first | exact Suf.z | apply Suf.s))))) rfl) (TOk.x (by kernel_rfl) (TOk.x (by kernel_rfl) TOk.d)) ?_
                  refine ea ?_; intro x68
                  refine tk 9 rfl (by kernel_rfl) (fun _ _ _ h => h) (gyes rfl rfl rfl rfl) (TTany _) (gpu (p_not rfl)) rfl ?_
                  refine tk 10 rfl (by kernel_rfl) (fun _ _ _ h => h) gnone (TTany _) (p_pickt rfl rfl) rfl ?_
                  refine dn (by kernel_rfl) ?_
                  refine nthen ?_
                  refine cc rfl (fun h => by cases h) (fun h => ?_)
                  refine cskip ?_
                  refine nblock ?_
                  refine nthen ?_
                  refine cr ?_
                  refine ls (op (p_add rfl rfl (by omega)) rfl) ?_
                  refine ls (op (p_move rfl) rfl) ?_
                  refine ln ?_
                  refine nnext ⟨3, by decide⟩ (by dsimp only; omega) (wk0 (by repeat (first | exact subσ.nil _ | refine subσ.cons rfl ?_)) (by repeat (first | exact Sub.d | (refine Sub.s ?_ ?_; (repeat (first | exact In.z | apply In.s))) | (refine Sub.suf ?_; (repeat (first | exact Suf.z | apply Suf.s))))))
              · intro h58
                try simp only [decide_eq_true_eq, decide_eq_false_iff_not, Bool.not_eq_true', Bool.not_eq_false', Int.not_lt, Int.not_le, ge_iff_le, Bool.not_true, Bool.not_false] at h58
                refine cexit ?_
                refine xthen ?_
                refine xthen ?_
                refine xblock ?_
                refine nthen ?_
                refine cs ?_
                refine cr ?_
                refine ls (o_call (is := []) Tryd.call10 (c_alive) rfl rfl (by repeat (first | exact Sub.d | (refine Sub.s ?_ ?_; (repeat (first | exact In.z | apply In.s))) | (refine Sub.suf ?_; (repeat (first | exact Suf.z | apply Suf.s))))) rfl) ?_
                refine le ?_; intro x72
                refine ls (op (p_asg rfl) rfl) ?_
                refine ln ?_
                refine nthen ?_
                refine cret ?_
                refine xret (fun _ _ h => h) ?_
                refine rret (is := []) () (Or.inl rfl) (Res.t rfl Res.d) (rfl) rfl (by repeat (first | exact Sub.d | (refine Sub.s ?_ ?_; (repeat (first | exact In.z | apply In.s))) | (refine Sub.suf ?_; (repeat (first | exact Suf.z | apply Suf.s)))))

end Go.Proofs.YtaojmjfgopbgcaaDoor.X
