/- OWN WORK: a part of the proof of a law of the seat YtaojmjfgopbgcaaDoor: the walk through functions of the program. -/
import Derived.Test.YtaojmjfgopbgcaaDoorProg
import Derived.Test.YtaojmjfgopbgcaaDoorXA9
set_option linter.unusedVariables false
set_option linter.unusedSimpArgs false
namespace Go.Proofs.YtaojmjfgopbgcaaDoor.X
open Go Go.RowKit Go.Proofs Go.Sx
attribute [local irreducible] slA isA box row

def pre (l : List Prim) (k : Nat) : Nat := ((l.take k).map Prim.many).sum
theorem pre_succ {l : List Prim} {k : Nat} (h : k < l.length) : pre l (k + 1) = pre l k + l[k].many := by
  unfold pre
  rw [List.take_succ_eq_append_getElem h, List.map_append, List.sum_append]
  simp only [List.map_cons, List.map_nil, List.sum_cons, List.sum_nil, Nat.add_zero]
theorem pre_all (l : List Prim) : l.length + pre l l.length = many l := by
  unfold pre many
  rw [List.take_length]
theorem sum_take (l : List Nat) (k : Nat) : (l.take k).sum ≤ l.sum := by
  have h := congrArg List.sum (List.take_append_drop k l)
  rw [List.sum_append] at h
  omega
theorem pre_le (l : List Prim) (k : Nat) : l.length + pre l k ≤ many l := by
  unfold pre many
  have := sum_take (l.map Prim.many) k
  rw [← List.map_take] at this
  omega
theorem sizes_succ {l : List ByteArray} {k : Nat} (h : k < l.length) : sizes (l.take (k + 1)) = sizes (l.take k) + l[k].size := by
  unfold sizes
  rw [List.take_succ_eq_append_getElem h, List.map_append, List.sum_append]
  simp only [List.map_cons, List.map_nil, List.sum_cons, List.sum_nil, Nat.add_zero]
theorem sizes_le (l : List ByteArray) (k : Nat) : sizes (l.take k) ≤ sizes l := by
  unfold sizes
  have := sum_take (l.map ByteArray.size) k
  rw [← List.map_take] at this
  exact this


theorem c_Many (l : List Prim) (A : Option Addr) (c : Nat) (hl : l.length ≤ 2000000) (hM : many l ≤ 1000000000000) : Con Tryd.prog 21 [.slice A l.length c] [] [slA A l] Unit (fun _ => .int .i64 (many l : Int)) (fun _ => []) (fun _ => []) := by
  refine con Tryd.func21 rfl Tryd.ntmps21 rfl ?_
  intro M0 F0 w0
  refine cs ?_
  refine cr ?_
  refine ls (op (p_asg rfl) rfl) ?_
  refine ln ?_
  refine nthen ?_
  refine cs ?_
  refine cr ?_
  refine ls (op (p_move rfl) rfl) ?_
  refine ls (op (p_lenl rfl Tryd.underlying42) rfl) ?_
  refine ls (op (p_asg rfl) rfl) ?_
  refine ln ?_
  refine nthen ?_
  refine cs ?_
  refine cs ?_
  refine cr ?_
  refine ls (op (p_move rfl) rfl) ?_
  refine ls (op (p_lenl rfl Tryd.underlying42) rfl) ?_
  refine ls (op (p_move rfl) rfl) ?_
  refine ln ?_
  refine nthen ?_
  refine cb ?_
  refine cl (ι := {q : Nat × Int // q.1 ≤ l.length ∧ q.2 = ((l.length + pre l q.1 : Nat) : Int)}) (fun i => St M0 F0 w0 61 [(12, .slice A l.length c), (13, .int .i64 (l.length : Int)), (14, .int .i64 (i.1.1 : Int)), (3, .int .i64 i.1.2)] [] [slA A l]) (fun i => l.length - i.1.1) ⟨(0, (l.length : Int)), by simp [pre]⟩ (wk0 (by repeat (first | exact subσ.nil _ | refine subσ.cons rfl ?_)) (by repeat (first | exact Sub.d | (refine Sub.s ?_ ?_; (repeat (first | exact In.z | apply In.s))) | (refine Sub.suf ?_; (repeat (first | exact Suf.z | apply Suf.s)))))) ?_
  rintro ⟨⟨k, n⟩, hk, hn⟩
  refine cmono (S' := St M0 F0 w0 61 [(12, .slice A l.length c), (13, .int .i64 (l.length : Int)), (14, .int .i64 (k : Int)), (3, .int .i64 n)] [] [slA A l]) (fun _ _ h => h) ?_
  refine cs ?_
  refine cr ?_
  refine ls (op (p_icmp rfl rfl rfl) rfl) ?_
  refine ln ?_
  refine nthen ?_
  refine cs ?_
  refine cc rfl ?_ ?_
  · intro h15
    dsimp only at hk hn
    try simp only [decide_eq_true_eq, decide_eq_false_iff_not, Bool.not_eq_true', Bool.not_eq_false', Int.not_lt, Int.not_le, ge_iff_le, Bool.not_true, Bool.not_false] at h15
    have hk1 : k < l.length := by omega
    have hs := pre_succ hk1
    have ht := pre_le l (k + 1)
    have hu : l[k].many = l[k].name.size + l[k].to.size + l[k].old.length + l[k].new.length + sizes l[k].old + sizes l[k].new := rfl
    refine cskip ?_
    refine nthen ?_
    refine cs ?_
    refine cb ?_
    refine cs ?_
    refine elC (by repeat (first | exact At.z | apply At.s)) k (List.getElem?_eq_getElem (l := l) hk1) ?_; rintro zbp zop zyp hAp
    refine cr ?_
    refine ls (op (p_ia k hAp hk1 rfl Tryd.underlying42 Tryd.sizeOf24 rfl rfl) rfl) ?_
    refine ls (o_ldj Tryd.isAgg24 Tryd.sizeOf24 rfl (by repeat (first | exact At.z | apply At.s)) 0 rfl (by repeat (first | exact Cut.d | apply Cut.t | apply Cut.s)) rfl) ?_
    refine ls (o_alloc Tryd.zeroValue24 rfl rfl) ?_
    refine le ?_; intro b5
    refine ls (o_st rfl Tryd.sizeOf24 rfl rfl rfl rfl rfl (by repeat (first | exact At.z | apply At.s)) (by repeat (first | exact Put.d | apply Put.t | apply Put.s)) (by repeat (first | exact SetAt.z | apply SetAt.s))) ?_
    refine ln ?_
    refine nthen ?_
    refine cs ?_
    refine cr ?_
    refine ls (op (p_move rfl) rfl) ?_
    refine ls (op (p_fa fa24_1 rfl) rfl) ?_
    refine ls (o_ld Tryd.isAgg9 rfl (by repeat (first | exact At.z | apply At.s)) (by repeat (first | exact At.z | apply At.s)) rfl) ?_
    refine ls (op (p_lens rfl Tryd.underlying9) rfl) ?_
    refine ls (op (p_fa fa24_2 rfl) rfl) ?_
    refine ls (o_ld Tryd.isAgg9 rfl (by repeat (first | exact At.z | apply At.s)) (by repeat (first | exact At.z | apply At.s)) rfl) ?_
    refine ls (op (p_lens rfl Tryd.underlying9) rfl) ?_
    refine ls (op (p_add rfl rfl (by omega)) rfl) ?_
    refine ls (op (p_fa fa24_4 rfl) rfl) ?_
    refine ls (o_ld Tryd.isAgg22 rfl (by repeat (first | exact At.z | apply At.s)) (by repeat (first | exact At.z | apply At.s)) rfl) ?_
    refine ls (op (p_lenl rfl Tryd.underlying22) rfl) ?_
    refine ls (op (p_add rfl rfl (by omega)) rfl) ?_
    refine ls (op (p_fa fa24_5 rfl) rfl) ?_
    refine ls (o_ld Tryd.isAgg22 rfl (by repeat (first | exact At.z | apply At.s)) (by repeat (first | exact At.z | apply At.s)) rfl) ?_
    refine ls (op (p_lenl rfl Tryd.underlying22) rfl) ?_
    refine ls (op (p_add rfl rfl (by omega)) rfl) ?_
    refine ls (op (p_add rfl rfl (by omega)) rfl) ?_
    refine ls (op (p_asg rfl) rfl) ?_
    refine ln ?_
    refine nthen ?_
    refine cs ?_
    refine cs ?_
    refine cr ?_
    refine ls (op (p_fa fa24_4 rfl) rfl) ?_
    refine ls (o_ld Tryd.isAgg22 rfl (by repeat (first | exact At.z | apply At.s)) (by repeat (first | exact At.z | apply At.s)) rfl) ?_
    refine ls (op (p_lenl rfl Tryd.underlying22) rfl) ?_
    refine ls (op (p_move rfl) rfl) ?_
    refine ln ?_
    refine nthen ?_
    refine cb ?_
    refine cl (ι := {q : Nat × Int // q.1 ≤ l[k].old.length ∧ q.2 = (n + ((((l[k].name.size : Int) + l[k].to.size) + l[k].old.length) + l[k].new.length)) + sizes (l[k].old.take q.1)}) (fun i => St M0 F0 w0 61 [(12, .slice A l.length c), (13, .int .i64 (l.length : Int)), (14, .int .i64 (k : Int)), (5, .pointer (some ⟨b5, 0, none⟩)), (36, .slice zyp.1.1 l[k].old.length zyp.1.2), (37, .int .i64 (l[k].old.length : Int)), (38, .int .i64 (i.1.1 : Int)), (3, .int .i64 i.1.2)] [box b5 24 (Rp.enc l[k] zyp)] [slA A l, slA zyp.1.1 l[k].old, slA zyp.2.1 l[k].new]) (fun i => l[k].old.length - i.1.1) ⟨(0, (n + ((((l[k].name.size : Int) + l[k].to.size) + l[k].old.length) + l[k].new.length))), by simp [sizes]⟩ (wk0 (by repeat (first | exact subσ.nil _ | refine subσ.cons rfl ?_)) (by repeat (first | exact Sub.d | (refine Sub.s ?_ ?_; (repeat (first | exact In.z | apply In.s))) | (refine Sub.suf ?_; (repeat (first | exact Suf.z | apply Suf.s)))))) ?_
    rintro ⟨⟨j, x⟩, hj, hx⟩
    refine cmono (S' := St M0 F0 w0 61 [(12, .slice A l.length c), (13, .int .i64 (l.length : Int)), (14, .int .i64 (k : Int)), (5, .pointer (some ⟨b5, 0, none⟩)), (36, .slice zyp.1.1 l[k].old.length zyp.1.2), (37, .int .i64 (l[k].old.length : Int)), (38, .int .i64 (j : Int)), (3, .int .i64 x)] [box b5 24 (Rp.enc l[k] zyp)] [slA A l, slA zyp.1.1 l[k].old, slA zyp.2.1 l[k].new]) (fun _ _ h => h) ?_
    refine cs ?_
    refine cr ?_
    refine ls (op (p_icmp rfl rfl rfl) rfl) ?_
    refine ln ?_
    refine nthen ?_
    refine cs ?_
    refine cc rfl ?_ ?_
    · intro h39
      dsimp only at hj hx
      try simp only [decide_eq_true_eq, decide_eq_false_iff_not, Bool.not_eq_true', Bool.not_eq_false', Int.not_lt, Int.not_le, ge_iff_le, Bool.not_true, Bool.not_false] at h39
      have hj1 : j < l[k].old.length := by omega
      have ej1 := sizes_succ hj1
      have ej2 := sizes_le l[k].old (j + 1)
      refine cskip ?_
      refine nthen ?_
      refine cs ?_
      refine cb ?_
      refine cs ?_
      refine elC (by repeat (first | exact At.z | apply At.s)) j (List.getElem?_eq_getElem (l := l[k].old) hj1) ?_; rintro zbq zoq zyq hAq
      refine cr ?_
      refine ls (op (p_ia j hAq hj1 rfl Tryd.underlying22 Tryd.sizeOf9 rfl rfl) rfl) ?_
      refine ls (o_ldi Tryd.isAgg9 rfl (by repeat (first | exact At.z | apply At.s)) 0 rfl (by repeat (first | exact Cut.d | apply Cut.t | apply Cut.s)) rfl) ?_
      refine ls (op (p_asg rfl) rfl) ?_
      refine ln ?_
      refine nthen ?_
      refine cr ?_
      refine ls (op (p_move rfl) rfl) ?_
      refine ls (op (p_move rfl) rfl) ?_
      refine ls (op (p_lens rfl Tryd.underlying9) rfl) ?_
      refine ls (op (p_add rfl rfl (by omega)) rfl) ?_
      refine ls (op (p_asg rfl) rfl) ?_
      refine ln ?_
      refine nblock ?_
      refine nthen ?_
      refine cr ?_
      refine ls (op (p_add rfl rfl (by omega)) rfl) ?_
      refine ls (op (p_move rfl) rfl) ?_
      refine ln ?_
      refine nnext ⟨(j + 1, x + (l[k].old[j].size : Int)), hj1, by dsimp only; omega⟩ (by dsimp only; omega) (wk0 (by repeat (first | exact subσ.nil _ | refine subσ.cons rfl ?_)) (by repeat (first | exact Sub.d | (refine Sub.s ?_ ?_; (repeat (first | exact In.z | apply In.s))) | (refine Sub.suf ?_; (repeat (first | exact Suf.z | apply Suf.s))))))
    · intro h39
      dsimp only at hj hx
      try simp only [decide_eq_true_eq, decide_eq_false_iff_not, Bool.not_eq_true', Bool.not_eq_false', Int.not_lt, Int.not_le, ge_iff_le, Bool.not_true, Bool.not_false] at h39
      rw [List.take_of_length_le (by omega)] at hx
      refine cexit ?_
      refine xthen ?_
      refine xthen ?_
      refine xblock ?_
      refine nthen ?_
      refine cs ?_
      refine cr ?_
      refine ls (op (p_fa fa24_5 rfl) rfl) ?_
      refine ls (o_ld Tryd.isAgg22 rfl (by repeat (first | exact At.z | apply At.s)) (by repeat (first | exact At.z | apply At.s)) rfl) ?_
      refine ls (op (p_lenl rfl Tryd.underlying22) rfl) ?_
      refine ls (op (p_move rfl) rfl) ?_
      refine ln ?_
      refine nthen ?_
      refine cb ?_
      refine cl (ι := {q : Nat × Int // q.1 ≤ l[k].new.length ∧ q.2 = x + sizes (l[k].new.take q.1)}) (fun i => St M0 F0 w0 61 [(12, .slice A l.length c), (13, .int .i64 (l.length : Int)), (14, .int .i64 (k : Int)), (5, .pointer (some ⟨b5, 0, none⟩)), (48, .slice zyp.2.1 l[k].new.length zyp.2.2), (49, .int .i64 (l[k].new.length : Int)), (50, .int .i64 (i.1.1 : Int)), (3, .int .i64 i.1.2)] [box b5 24 (Rp.enc l[k] zyp)] [slA A l, slA zyp.1.1 l[k].old, slA zyp.2.1 l[k].new]) (fun i => l[k].new.length - i.1.1) ⟨(0, x), by simp [sizes]⟩ (wk0 (by repeat (first | exact subσ.nil _ | refine subσ.cons rfl ?_)) (by repeat (first | exact Sub.d | (refine Sub.s ?_ ?_; (repeat (first | exact In.z | apply In.s))) | (refine Sub.suf ?_; (repeat (first | exact Suf.z | apply Suf.s)))))) ?_
      rintro ⟨⟨g, y⟩, hg, hy⟩
      refine cmono (S' := St M0 F0 w0 61 [(12, .slice A l.length c), (13, .int .i64 (l.length : Int)), (14, .int .i64 (k : Int)), (5, .pointer (some ⟨b5, 0, none⟩)), (48, .slice zyp.2.1 l[k].new.length zyp.2.2), (49, .int .i64 (l[k].new.length : Int)), (50, .int .i64 (g : Int)), (3, .int .i64 y)] [box b5 24 (Rp.enc l[k] zyp)] [slA A l, slA zyp.1.1 l[k].old, slA zyp.2.1 l[k].new]) (fun _ _ h => h) ?_
      refine cs ?_
      refine cr ?_
      refine ls (op (p_icmp rfl rfl rfl) rfl) ?_
      refine ln ?_
      refine nthen ?_
      refine cs ?_
      refine cc rfl ?_ ?_
      · intro h51
        dsimp only at hg hy
        try simp only [decide_eq_true_eq, decide_eq_false_iff_not, Bool.not_eq_true', Bool.not_eq_false', Int.not_lt, Int.not_le, ge_iff_le, Bool.not_true, Bool.not_false] at h51
        have hg1 : g < l[k].new.length := by omega
        have eg1 := sizes_succ hg1
        have eg2 := sizes_le l[k].new (g + 1)
        refine cskip ?_
        refine nthen ?_
        refine cs ?_
        refine cb ?_
        refine cs ?_
        refine elC (by repeat (first | exact At.z | apply At.s)) g (List.getElem?_eq_getElem (l := l[k].new) hg1) ?_; rintro zbr zor zyr hAr
        refine cr ?_
        refine ls (op (p_ia g hAr hg1 rfl Tryd.underlying22 Tryd.sizeOf9 rfl rfl) rfl) ?_
        refine ls (o_ldi Tryd.isAgg9 rfl (by repeat (first | exact At.z | apply At.s)) 0 rfl (by repeat (first | exact Cut.d | apply Cut.t | apply Cut.s)) rfl) ?_
        refine ls (op (p_asg rfl) rfl) ?_
        refine ln ?_
        refine nthen ?_
        refine cr ?_
        refine ls (op (p_move rfl) rfl) ?_
        refine ls (op (p_move rfl) rfl) ?_
        refine ls (op (p_lens rfl Tryd.underlying9) rfl) ?_
        refine ls (op (p_add rfl rfl (by omega)) rfl) ?_
        refine ls (op (p_asg rfl) rfl) ?_
        refine ln ?_
        refine nblock ?_
        refine nthen ?_
        refine cr ?_
        refine ls (op (p_add rfl rfl (by omega)) rfl) ?_
        refine ls (op (p_move rfl) rfl) ?_
        refine ln ?_
        refine nnext ⟨(g + 1, y + (l[k].new[g].size : Int)), hg1, by dsimp only; omega⟩ (by dsimp only; omega) (wk0 (by repeat (first | exact subσ.nil _ | refine subσ.cons rfl ?_)) (by repeat (first | exact Sub.d | (refine Sub.s ?_ ?_; (repeat (first | exact In.z | apply In.s))) | (refine Sub.suf ?_; (repeat (first | exact Suf.z | apply Suf.s))))))
      · intro h51
        dsimp only at hg hy
        try simp only [decide_eq_true_eq, decide_eq_false_iff_not, Bool.not_eq_true', Bool.not_eq_false', Int.not_lt, Int.not_le, ge_iff_le, Bool.not_true, Bool.not_false] at h51
        rw [List.take_of_length_le (by omega)] at hy
        refine cexit ?_
        refine xthen ?_
        refine xthen ?_
        refine xblock ?_
        refine nblock ?_
        refine nthen ?_
        refine cr ?_
        refine ls (op (p_add rfl rfl (by omega)) rfl) ?_
        refine ls (op (p_move rfl) rfl) ?_
        refine ln ?_
        refine nnext ⟨(k + 1, y), hk1, by dsimp only; omega⟩ (by dsimp only; omega) (wk (is := []) (by repeat (first | exact subσ.nil _ | refine subσ.cons rfl ?_)) rfl (by repeat (first | exact Sub.d | (refine Sub.s ?_ ?_; (repeat (first | exact In.z | apply In.s))) | (refine Sub.suf ?_; (repeat (first | exact Suf.z | apply Suf.s))))))
  · intro h15
    dsimp only at hk hn
    try simp only [decide_eq_true_eq, decide_eq_false_iff_not, Bool.not_eq_true', Bool.not_eq_false', Int.not_lt, Int.not_le, ge_iff_le, Bool.not_true, Bool.not_false] at h15
    refine cexit ?_
    refine xthen ?_
    refine xthen ?_
    refine xblock ?_
    refine nthen ?_
    refine cs ?_
    refine cr ?_
    refine ls (op (p_move rfl) rfl) ?_
    refine ls (op (p_asg rfl) rfl) ?_
    refine ln ?_
    refine nthen ?_
    refine cret ?_
    refine xret (fun _ _ h => h) ?_
    refine rret (is := []) () (Or.inl rfl) (Res.t rfl Res.d) ?_ rfl (by repeat (first | exact Sub.d | (refine Sub.s ?_ ?_; (repeat (first | exact In.z | apply In.s))) | (refine Sub.suf ?_; (repeat (first | exact Suf.z | apply Suf.s)))))
    have e := pre_all l; rw [show k = l.length by omega] at hn; rw [hn]; simp only [packV]; rw [e]

theorem c_small (l : List Prim) (A : Option Addr) (c : Nat) (hl : l.length ≤ 2000000) (hM : many l ≤ 1000000000000) : Con Tryd.prog 9 [.slice A l.length c] [] [slA A l] Unit (fun _ => .bool (decide ((many l : Int) ≤ 5000))) (fun _ => []) (fun _ => []) := by
  refine con Tryd.func9 rfl Tryd.ntmps9 rfl ?_
  intro M0 F0 w0
  refine cs ?_
  refine cr ?_
  refine ls (op (p_asg rfl) rfl) ?_
  refine ln ?_
  refine nthen ?_
  refine cs ?_
  refine cr ?_
  refine ls (op (p_move rfl) rfl) ?_
  refine ls (o_call (is := []) Tryd.call21 (c_Many l A c hl hM) rfl rfl (by repeat (first | exact Sub.d | (refine Sub.s ?_ ?_; (repeat (first | exact In.z | apply In.s))) | (refine Sub.suf ?_; (repeat (first | exact Suf.z | apply Suf.s))))) rfl) ?_
  refine le ?_; intro x4
  refine ls (op (p_icmp rfl rfl rfl) rfl) ?_
  refine ls (op (p_asg rfl) rfl) ?_
  refine ln ?_
  refine nthen ?_
  refine cret ?_
  refine xret (fun _ _ h => h) ?_
  refine rret (is := []) () (Or.inl rfl) (Res.t rfl Res.d) (rfl) rfl (by repeat (first | exact Sub.d | (refine Sub.s ?_ ?_; (repeat (first | exact In.z | apply In.s))) | (refine Sub.suf ?_; (repeat (first | exact Suf.z | apply Suf.s)))))

end Go.Proofs.YtaojmjfgopbgcaaDoor.X
