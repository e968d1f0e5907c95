/- OWN WORK: a part of the proof of a law of the seat YtaojmjfgopbgcaaDoor: the walk through functions of the program. -/
import Derived.Test.YtaojmjfgopbgcaaDoorProg
import Derived.Test.YtaojmjfgopbgcaaDoorXA4
set_option linter.unusedVariables false
set_option linter.unusedSimpArgs false
namespace Go.Proofs.YtaojmjfgopbgcaaDoor.X
open Go Go.RowKit Go.Proofs Go.Sx
attribute [local irreducible] slA isA box row

theorem meets_sort (p q : Prim) : ((sortB p.names).any fun s => (sortB q.names).any fun t => decide (t = s)) = p.meets q := by
  unfold Prim.meets
  rw [any_perm (sortB_perm p.names)]
  congr 1
  funext s
  exact any_perm (sortB_perm q.names)


theorem c_primNames (p : Prim) (y : Rp.Lay Prim) : Con Tryd.prog 44 [sv p y] [] (Rp.asn p y) {x : List ByteArray × (Option Addr × Nat) // x.1 = sortB p.names} (fun x => .slice x.1.2.1 x.1.1.length x.1.2.2) (fun _ => []) (fun x => [slA x.1.2.1 x.1.1]) := by
  refine con Tryd.func44 rfl Tryd.ntmps44 rfl ?_
  intro M0 F0 w0
  refine cs ?_
  refine cr ?_
  refine ls (o_box rfl rfl rfl) ?_
  refine le ?_; intro b1
  refine ls (op (p_asg rfl) rfl) ?_
  refine ln ?_
  refine nthen ?_
  refine cs ?_
  refine cr ?_
  refine ls (op (p_fa fa27_1 rfl) rfl) ?_
  refine ls (o_ld Tryd.isAgg9 rfl (by repeat (first | exact At.z | apply At.s)) (by repeat (first | exact At.z | apply At.s)) rfl) ?_
  refine ls (o_bsl [p.name] Tryd.underlying22 Tryd.sizeOf9 Tryd.zeroValue9 rfl (Enum.t Enum.d) (RV.t () rfl Sub.d RV.d) rfl (by decide) (by decide) rfl) ?_
  refine le ?_; intro b6
  refine ls (op (p_asg rfl) rfl) ?_
  refine ln ?_
  refine nthen ?_
  refine cs ?_
  refine cs ?_
  refine cr ?_
  refine ls (op (p_fa fa27_0 rfl) rfl) ?_
  refine ls (o_ld Tryd.isAgg3 rfl (by repeat (first | exact At.z | apply At.s)) (by repeat (first | exact At.z | apply At.s)) rfl) ?_
  refine ls (op (p_icmp rfl rfl rfl) rfl) ?_
  refine ln ?_
  refine nthen ?_
  refine cc rfl ?_ ?_
  · intro h9
    try simp only [decide_eq_true_eq, decide_eq_false_iff_not, Bool.not_eq_true', Bool.not_eq_false', Int.not_lt, Int.not_le, ge_iff_le, Bool.not_true, Bool.not_false] at h9
    refine cr ?_
    refine ls (op (p_move rfl) rfl) ?_
    refine ls (op (p_fa fa27_2 rfl) rfl) ?_
    refine ls (o_ld Tryd.isAgg9 rfl (by repeat (first | exact At.z | apply At.s)) (by repeat (first | exact At.z | apply At.s)) rfl) ?_
    refine ls (o_bsl [p.to] Tryd.underlying22 Tryd.sizeOf9 Tryd.zeroValue9 rfl (Enum.t Enum.d) (RV.t () rfl Sub.d RV.d) rfl (by decide) (by decide) rfl) ?_
    refine le ?_; intro b13
    refine lmono (fun a w h => Go.Sx.freeze (i := 0) rfl h) ?_
    refine ls (o_app (is := [0]) Tryd.underlying22 inf9 rfl (by decide) (by decide) rfl rfl (by simp) (fun h => by cases h) rfl (by repeat (first | exact Sub.d | (refine Sub.s ?_ ?_; (repeat (first | exact In.z | apply In.s))) | (refine Sub.suf ?_; (repeat (first | exact Suf.z | apply Suf.s))))) rfl) ?_
    refine le ?_; rintro ⟨A', c2⟩
    refine ls (op (p_asg rfl) rfl) ?_
    refine ln ?_
    refine nthen ?_
    refine cs ?_
    refine cr ?_
    refine ls (op (p_move rfl) rfl) ?_
    refine ls (o_call (is := [0]) Tryd.call58 (l_Sort 9 _ _ ([p.name] ++ [p.to]) (by simp)) rfl rfl (by repeat (first | exact Sub.d | (refine Sub.s ?_ ?_; (repeat (first | exact In.z | apply In.s))) | (refine Sub.suf ?_; (repeat (first | exact Suf.z | apply Suf.s))))) rfl) ?_
    refine le ?_; intro x16
    refine ln ?_
    refine nthen ?_
    refine cs ?_
    refine cmono (fun a w h => Go.Sx.freeze (i := 0) rfl h) ?_
    refine cr ?_
    refine ls (op (p_move rfl) rfl) ?_
    refine ls (op (p_asg rfl) rfl) ?_
    refine ln ?_
    refine nthen ?_
    refine cret ?_
    refine xret (fun _ _ h => h) ?_
    refine rret (is := []) ⟨(sortB ([p.name] ++ [p.to]), A', c2), by rw [Prim.names, if_pos h9]; rfl⟩ (Or.inl rfl) (Res.t rfl Res.d) ?_ rfl (by repeat (first | exact Sub.d | (refine Sub.s ?_ ?_; (repeat (first | exact In.z | apply In.s))) | (refine Sub.suf ?_; (repeat (first | exact Suf.z | apply Suf.s)))))
    simp only [packV, sortB_length]
  · intro h9
    try simp only [decide_eq_true_eq, decide_eq_false_iff_not, Bool.not_eq_true', Bool.not_eq_false', Int.not_lt, Int.not_le, ge_iff_le, Bool.not_true, Bool.not_false] at h9
    refine cskip ?_
    refine nthen ?_
    refine cs ?_
    refine cr ?_
    refine ls (op (p_move rfl) rfl) ?_
    refine ls (o_call (is := [0]) Tryd.call58 (l_Sort 9 _ _ [p.name] (by simp)) rfl rfl (by repeat (first | exact Sub.d | (refine Sub.s ?_ ?_; (repeat (first | exact In.z | apply In.s))) | (refine Sub.suf ?_; (repeat (first | exact Suf.z | apply Suf.s))))) rfl) ?_
    refine le ?_; intro x16
    refine ln ?_
    refine nthen ?_
    refine cs ?_
    refine cmono (fun a w h => Go.Sx.freeze (i := 0) rfl h) ?_
    refine cr ?_
    refine ls (op (p_move rfl) rfl) ?_
    refine ls (op (p_asg rfl) rfl) ?_
    refine ln ?_
    refine nthen ?_
    refine cret ?_
    refine xret (fun _ _ h => h) ?_
    refine rret (is := []) ⟨(sortB [p.name], some ⟨b6, 0, none⟩, 1), by rw [Prim.names, if_neg h9]⟩ (Or.inl rfl) (Res.t rfl Res.d) ?_ rfl (by repeat (first | exact Sub.d | (refine Sub.s ?_ ?_; (repeat (first | exact In.z | apply In.s))) | (refine Sub.suf ?_; (repeat (first | exact Suf.z | apply Suf.s)))))
    simp only [packV, sortB_length]; rfl

theorem c_shares1 (q : Prim) (yq : Rp.Lay Prim) (b : Nat) (s : ByteArray) : Con Tryd.prog 45 [.string s, .pointer (some ⟨b, 0, none⟩)] [box b 27 (Rp.enc q yq)] (Rp.asn q yq) Unit (fun _ => .bool ((sortB q.names).any fun t => decide (t = s))) (fun _ => [box b 27 (Rp.enc q yq)]) (fun _ => []) := by
  refine con Tryd.func45 rfl Tryd.ntmps45 rfl ?_
  intro M0 F0 w0
  refine cs ?_
  refine cr ?_
  refine ls (op (p_asg rfl) rfl) ?_
  refine ln ?_
  refine nthen ?_
  refine cs ?_
  refine cr ?_
  refine ls (o_ldw Tryd.isAgg27 Tryd.sizeOf27 rfl (by repeat (first | exact At.z | apply At.s)) (by rfl) rfl) ?_
  refine ls (o_call (is := []) Tryd.call44 (c_primNames q yq) rfl rfl (by repeat (first | exact Sub.d | (refine Sub.s ?_ ?_; (repeat (first | exact In.z | apply In.s))) | (refine Sub.suf ?_; (repeat (first | exact Suf.z | apply Suf.s))))) rfl) ?_
  refine le ?_; rintro ⟨⟨l1, y1⟩, hl1⟩
  obtain rfl : l1 = sortB q.names := hl1
  refine ls (op (p_move rfl) rfl) ?_
  refine ls (o_call (is := []) Tryd.call46 (c_Contains (sortB q.names) y1.1 y1.2 (by rw [sortB_length]; unfold Prim.names; split <;> simp) s) rfl rfl (by repeat (first | exact Sub.d | (refine Sub.s ?_ ?_; (repeat (first | exact In.z | apply In.s))) | (refine Sub.suf ?_; (repeat (first | exact Suf.z | apply Suf.s))))) rfl) ?_
  refine le ?_; intro x7
  refine ls (op (p_asg rfl) rfl) ?_
  refine ln ?_
  refine nthen ?_
  refine cret ?_
  refine xret (fun _ _ h => h) ?_
  refine rret (is := [0]) () (Or.inl rfl) (Res.t rfl Res.d) (rfl) rfl (by repeat (first | exact Sub.d | (refine Sub.s ?_ ?_; (repeat (first | exact In.z | apply In.s))) | (refine Sub.suf ?_; (repeat (first | exact Suf.z | apply Suf.s)))))

theorem c_shares (p q : Prim) (yp yq : Rp.Lay Prim) : Con Tryd.prog 31 [sv p yp, sv q yq] [] (Rp.asn p yp ++ Rp.asn q yq) Unit (fun _ => .bool (p.meets q)) (fun _ => []) (fun _ => []) := by
  refine con Tryd.func31 rfl Tryd.ntmps31 rfl ?_
  intro M0 F0 w0
  refine cs ?_
  refine cr ?_
  refine ls (o_box rfl rfl rfl) ?_
  refine le ?_; intro b2
  refine ls (o_box rfl rfl rfl) ?_
  refine le ?_; intro b3
  refine ls (op (p_asg rfl) rfl) ?_
  refine ln ?_
  refine nthen ?_
  refine cs ?_
  refine cr ?_
  refine ls (o_ldw Tryd.isAgg27 Tryd.sizeOf27 rfl (by repeat (first | exact At.z | apply At.s)) (by rfl) rfl) ?_
  refine ls (o_call (is := []) Tryd.call44 (c_primNames p yp) rfl rfl (by repeat (first | exact Sub.d | (refine Sub.s ?_ ?_; (repeat (first | exact In.z | apply In.s))) | (refine Sub.suf ?_; (repeat (first | exact Suf.z | apply Suf.s))))) rfl) ?_
  refine le ?_; rintro ⟨⟨l1, y1⟩, hl1⟩
  obtain rfl : l1 = sortB p.names := hl1
  refine ls (op (p_mkf rfl) rfl) ?_
  refine ls (o_call (is := [0]) Tryd.call40 (c_ContainsFunc1 (sortB p.names) y1.1 y1.2 (by rw [sortB_length]; unfold Prim.names; split <;> simp) (fun s => (sortB q.names).any fun t => decide (t = s)) 45 [.pointer (some ⟨b3, 0, none⟩)] (Rp.asn q yq) (box b3 27 (Rp.enc q yq)) Tryd.call45 (fun s _ => c_shares1 q yq b3 s)) rfl rfl (by repeat (first | exact Sub.d | (refine Sub.s ?_ ?_; (repeat (first | exact In.z | apply In.s))) | (refine Sub.suf ?_; (repeat (first | exact Suf.z | apply Suf.s))))) rfl) ?_
  refine le ?_; intro x8
  refine ls (op (p_asg rfl) rfl) ?_
  refine ln ?_
  refine nthen ?_
  refine cret ?_
  refine xret (fun _ _ h => h) ?_
  refine rret (is := []) () (Or.inl rfl) (Res.t rfl Res.d) ?_ rfl (by repeat (first | exact Sub.d | (refine Sub.s ?_ ?_; (repeat (first | exact In.z | apply In.s))) | (refine Sub.suf ?_; (repeat (first | exact Suf.z | apply Suf.s)))))
  simp only [packV, meets_sort]

theorem c_grows (p : Prim) (y : Rp.Lay Prim) (hp : p.fit) : Con Tryd.prog 43 [sv p y] [] (Rp.asn p y) Unit (fun _ => .int .i64 ((p.new.length : Int) - p.old.length)) (fun _ => []) (fun _ => []) := by
  refine con Tryd.func43 rfl Tryd.ntmps43 rfl ?_
  intro M0 F0 w0
  refine cs ?_
  refine cr ?_
  refine ls (o_box rfl rfl rfl) ?_
  refine le ?_; intro b1
  refine ls (op (p_asg rfl) rfl) ?_
  refine ln ?_
  refine nthen ?_
  refine cs ?_
  refine cr ?_
  refine ls (op (p_fa fa27_5 rfl) rfl) ?_
  refine ls (o_ld Tryd.isAgg22 rfl (by repeat (first | exact At.z | apply At.s)) (by repeat (first | exact At.z | apply At.s)) rfl) ?_
  refine ls (op (p_lenl rfl Tryd.underlying22) rfl) ?_
  refine ls (op (p_fa fa27_4 rfl) rfl) ?_
  refine ls (o_ld Tryd.isAgg22 rfl (by repeat (first | exact At.z | apply At.s)) (by repeat (first | exact At.z | apply At.s)) rfl) ?_
  refine ls (op (p_lenl rfl Tryd.underlying22) rfl) ?_
  have h1 := hp.o; have h2 := hp.n
  refine ls (op (p_sub rfl rfl (by omega)) rfl) ?_
  refine ls (op (p_asg rfl) rfl) ?_
  refine ln ?_
  refine nthen ?_
  refine cret ?_
  refine xret (fun _ _ h => h) ?_
  refine rret (is := []) () (Or.inl rfl) (Res.t rfl Res.d) (rfl) rfl (by repeat (first | exact Sub.d | (refine Sub.s ?_ ?_; (repeat (first | exact In.z | apply In.s))) | (refine Sub.suf ?_; (repeat (first | exact Suf.z | apply Suf.s)))))

theorem c_hunks (p q : Prim) (yp yq : Rp.Lay Prim) (hp : p.fit) (hq : q.fit) (hpa : 0 ≤ p.pos ∧ p.pos ≤ 1048576) (hqa : 0 ≤ q.pos ∧ q.pos ≤ 1048576) : Con Tryd.prog 30 [sv p yp, sv q yq] [] (Rp.asn p yp ++ Rp.asn q yq) (Two (hunks p q)) (fun x => x.v) (fun _ => []) (fun x => x.g) := by
  refine con Tryd.func30 rfl Tryd.ntmps30 rfl ?_
  intro M0 F0 w0
  refine cs ?_
  have hp1 := hp.o; have hp2 := hp.n; have hq1 := hq.o; have hq2 := hq.n
  refine cr ?_
  refine ls (o_box rfl rfl rfl) ?_
  refine le ?_; intro b2
  refine ls (o_box rfl rfl rfl) ?_
  refine le ?_; intro b3
  refine ls (o_alloc Tryd.zeroValue27 rfl rfl) ?_
  refine le ?_; intro b4
  refine ls (o_alloc Tryd.zeroValue27 rfl rfl) ?_
  refine le ?_; intro b5
  refine ls (op (p_asg rfl) rfl) ?_
  refine ln ?_
  refine nthen ?_
  refine cs ?_
  refine cb ?_
  refine cs ?_
  refine cr ?_
  refine ls (op (p_fa fa27_3 rfl) rfl) ?_
  refine ls (o_ld Tryd.isAgg3 rfl (by repeat (first | exact At.z | apply At.s)) (by repeat (first | exact At.z | apply At.s)) rfl) ?_
  refine ls (op (p_fa fa27_3 rfl) rfl) ?_
  refine ls (o_ld Tryd.isAgg3 rfl (by repeat (first | exact At.z | apply At.s)) (by repeat (first | exact At.z | apply At.s)) rfl) ?_
  refine ls (op (p_fa fa27_5 rfl) rfl) ?_
  refine ls (o_ld Tryd.isAgg22 rfl (by repeat (first | exact At.z | apply At.s)) (by repeat (first | exact At.z | apply At.s)) rfl) ?_
  refine ls (op (p_lenl rfl Tryd.underlying22) rfl) ?_
  refine ls (op (p_add rfl rfl (by omega)) rfl) ?_
  refine ls (op (p_icmp rfl rfl rfl) rfl) ?_
  refine ls (op (p_asg rfl) rfl) ?_
  refine ln ?_
  refine nthen ?_
  refine cc rfl ?_ ?_
  · intro h9
    try simp only [decide_eq_true_eq, decide_eq_false_iff_not, Bool.not_eq_true', Bool.not_eq_false', Int.not_lt, Int.not_le, ge_iff_le, Bool.not_true, Bool.not_false] at h9
    refine cd [3, 6] [(1, b3, 3, _), (2, b2, 0, _)] TrydX.mixed (TOk.t (isBoxS (by repeat (first | exact At.z | apply At.s)) (k := 1) (by repeat (first | exact Cut.d | apply Cut.t | apply Cut.s))) (TOk.t (isBoxS (by repeat (first | exact At.z | apply At.s)) (k := 6) (by repeat (first | exact Cut.d | apply Cut.t | apply Cut.s))) TOk.d)) ?_
    refine tk 0 rfl (by kernel_rfl) (fun _ _ _ h => h) gnone (TTany _) (p_fa fa27_3 rfl) rfl ?_
    refine tk 1 rfl (by kernel_rfl) (fun _ _ _ h => h) gnone (TTat (List.Mem.head _)) (p_ld Tryd.isAgg3 rfl) rfl ?_
    refine tk 2 rfl (by kernel_rfl) (fun _ _ _ h => h) gnone (TTat (List.Mem.tail _ (List.Mem.head _))) (p_lda Tryd.isAgg27 Tryd.sizeOf27 rfl rfl) rfl ?_
    refine df 3 (by kernel_rfl) ?_
    refine doR rfl (o_call (is := []) Tryd.call43 (c_grows p yp hp) rfl rfl (by repeat (first | exact Sub.d | (refine Sub.s ?_ ?_; (repeat (first | exact In.z | apply In.s))) | (refine Sub.suf ?_; (repeat (first | exact Suf.z | apply Suf.s))))) rfl) (TOk.t (isBoxE fun _ => isBoxS (by repeat (first | exact At.z | apply At.s)) (k := 1) (by repeat (first | exact Cut.d | apply Cut.t | apply Cut.s))) (TOk.x (by kernel_rfl) TOk.d)) ?_
    refine ea ?_; intro x22
    refine tk 4 rfl (by kernel_rfl) (fun _ _ _ h => h) gnone (TTany _) (p_sub rfl rfl (by omega)) rfl ?_
    refine tk 5 rfl (by kernel_rfl) (fun _ _ _ h => h) gnone (TTany _) (p_fa fa27_3 rfl) rfl ?_
    refine df 6 (by kernel_rfl) ?_
    refine doR rfl (o_st rfl Tryd.sizeOf3 rfl rfl rfl rfl rfl (by repeat (first | exact At.z | apply At.s)) (by repeat (first | exact Put.d | apply Put.t | apply Put.s)) (by repeat (first | exact SetAt.z | apply SetAt.s))) (TOk.x (by kernel_rfl) (TOk.x (by kernel_rfl) TOk.d)) ?_
    refine dn (by kernel_rfl) ?_
    refine nblock ?_
    refine nthen ?_
    refine cs ?_
    refine cd [2, 3] [(0, b3, 0, _), (1, b2, 0, _)] TrydX.mixed (TOk.t (isBoxS (by repeat (first | exact At.z | apply At.s)) (k := 6) (by repeat (first | exact Cut.d | apply Cut.t | apply Cut.s))) (TOk.t (isBoxS (by repeat (first | exact At.z | apply At.s)) (k := 6) (by repeat (first | exact Cut.d | apply Cut.t | apply Cut.s))) TOk.d)) ?_
    refine tk 0 rfl (by kernel_rfl) (fun _ _ _ h => h) gnone (TTat (List.Mem.head _)) (p_lda Tryd.isAgg27 Tryd.sizeOf27 rfl rfl) rfl ?_
    refine tk 1 rfl (by kernel_rfl) (fun _ _ _ h => h) gnone (TTat (List.Mem.tail _ (List.Mem.head _))) (p_lda Tryd.isAgg27 Tryd.sizeOf27 rfl rfl) rfl ?_
    refine df 2 (by kernel_rfl) ?_
    refine doR rfl (o_st rfl Tryd.sizeOf27 rfl rfl rfl rfl rfl (by repeat (first | exact At.z | apply At.s)) (by repeat (first | exact Put.d | apply Put.t | apply Put.s)) (by repeat (first | exact SetAt.z | apply SetAt.s))) (TOk.x (by kernel_rfl) (TOk.t (isBoxS (by repeat (first | exact At.z | apply At.s)) (k := 6) (by repeat (first | exact Cut.d | apply Cut.t | apply Cut.s))) TOk.d)) ?_
    refine df 3 (by kernel_rfl) ?_
    refine doR rfl (o_st rfl Tryd.sizeOf27 rfl rfl rfl rfl rfl (by repeat (first | exact At.z | apply At.s)) (by repeat (first | exact Put.d | apply Put.t | apply Put.s)) (by repeat (first | exact SetAt.z | apply SetAt.s))) (TOk.x (by kernel_rfl) (TOk.x (by kernel_rfl) TOk.d)) ?_
    refine tk 4 rfl (by kernel_rfl) (fun _ _ _ h => h) gnone (TTany _) (p_asg rfl) rfl ?_
    refine dn (by kernel_rfl) ?_
    refine nthen ?_
    refine cret ?_
    refine xret (fun _ _ h => h) ?_
    refine rret (is := []) ⟨(({ q with pos := q.pos - ((p.new.length : Int) - p.old.length) }, p, true), (yq, yp)), by rw [hunks, if_pos h9]⟩ (Or.inl rfl) (Res.c rfl Tryd.isAgg27 Tryd.sizeOf27 (by repeat (first | exact At.z | apply At.s)) (by rfl) (Res.c rfl Tryd.isAgg27 Tryd.sizeOf27 (by repeat (first | exact At.z | apply At.s)) (by rfl) (Res.t rfl Res.d))) (rfl) rfl (by repeat (first | exact Sub.d | (refine Sub.s ?_ ?_; (repeat (first | exact In.z | apply In.s))) | (refine Sub.suf ?_; (repeat (first | exact Suf.z | apply Suf.s)))))
  · intro h9
    try simp only [decide_eq_true_eq, decide_eq_false_iff_not, Bool.not_eq_true', Bool.not_eq_false', Int.not_lt, Int.not_le, ge_iff_le, Bool.not_true, Bool.not_false] at h9
    refine cs ?_
    refine cr ?_
    refine ls (op (p_fa fa27_3 rfl) rfl) ?_
    refine ls (o_ld Tryd.isAgg3 rfl (by repeat (first | exact At.z | apply At.s)) (by repeat (first | exact At.z | apply At.s)) rfl) ?_
    refine ls (op (p_fa fa27_4 rfl) rfl) ?_
    refine ls (o_ld Tryd.isAgg22 rfl (by repeat (first | exact At.z | apply At.s)) (by repeat (first | exact At.z | apply At.s)) rfl) ?_
    refine ls (op (p_lenl rfl Tryd.underlying22) rfl) ?_
    refine ls (op (p_add rfl rfl (by omega)) rfl) ?_
    refine ls (op (p_fa fa27_3 rfl) rfl) ?_
    refine ls (o_ld Tryd.isAgg3 rfl (by repeat (first | exact At.z | apply At.s)) (by repeat (first | exact At.z | apply At.s)) rfl) ?_
    refine ls (op (p_icmp rfl rfl rfl) rfl) ?_
    refine ls (op (p_asg rfl) rfl) ?_
    refine ln ?_
    refine nthen ?_
    refine cc rfl ?_ ?_
    · intro h25
      try simp only [decide_eq_true_eq, decide_eq_false_iff_not, Bool.not_eq_true', Bool.not_eq_false', Int.not_lt, Int.not_le, ge_iff_le, Bool.not_true, Bool.not_false] at h25
      refine cd [3, 6] [(1, b2, 3, _), (2, b3, 0, _)] TrydX.mixed (TOk.t (isBoxS (by repeat (first | exact At.z | apply At.s)) (k := 1) (by repeat (first | exact Cut.d | apply Cut.t | apply Cut.s))) (TOk.t (isBoxS (by repeat (first | exact At.z | apply At.s)) (k := 6) (by repeat (first | exact Cut.d | apply Cut.t | apply Cut.s))) TOk.d)) ?_
      refine tk 0 rfl (by kernel_rfl) (fun _ _ _ h => h) gnone (TTany _) (p_fa fa27_3 rfl) rfl ?_
      refine tk 1 rfl (by kernel_rfl) (fun _ _ _ h => h) gnone (TTat (List.Mem.head _)) (p_ld Tryd.isAgg3 rfl) rfl ?_
      refine tk 2 rfl (by kernel_rfl) (fun _ _ _ h => h) gnone (TTat (List.Mem.tail _ (List.Mem.head _))) (p_lda Tryd.isAgg27 Tryd.sizeOf27 rfl rfl) rfl ?_
      refine df 3 (by kernel_rfl) ?_
      refine doR rfl (o_call (is := []) Tryd.call43 (c_grows q yq hq) rfl rfl (by repeat (first | exact Sub.d | (refine Sub.s ?_ ?_; (repeat (first | exact In.z | apply In.s))) | (refine Sub.suf ?_; (repeat (first | exact Suf.z | apply Suf.s))))) rfl) (TOk.t (isBoxE fun _ => isBoxS (by repeat (first | exact At.z | apply At.s)) (k := 1) (by repeat (first | exact Cut.d | apply Cut.t | apply Cut.s))) (TOk.x (by kernel_rfl) TOk.d)) ?_
      refine ea ?_; intro x38
      refine tk 4 rfl (by kernel_rfl) (fun _ _ _ h => h) gnone (TTany _) (p_add rfl rfl (by omega)) rfl ?_
      refine tk 5 rfl (by kernel_rfl) (fun _ _ _ h => h) gnone (TTany _) (p_fa fa27_3 rfl) rfl ?_
      refine df 6 (by kernel_rfl) ?_
      refine doR rfl (o_st rfl Tryd.sizeOf3 rfl rfl rfl rfl rfl (by repeat (first | exact At.z | apply At.s)) (by repeat (first | exact Put.d | apply Put.t | apply Put.s)) (by repeat (first | exact SetAt.z | apply SetAt.s))) (TOk.x (by kernel_rfl) (TOk.x (by kernel_rfl) TOk.d)) ?_
      refine dn (by kernel_rfl) ?_
      refine nblock ?_
      refine nthen ?_
      refine cs ?_
      refine cd [2, 3] [(0, b3, 0, _), (1, b2, 0, _)] TrydX.mixed (TOk.t (isBoxS (by repeat (first | exact At.z | apply At.s)) (k := 6) (by repeat (first | exact Cut.d | apply Cut.t | apply Cut.s))) (TOk.t (isBoxS (by repeat (first | exact At.z | apply At.s)) (k := 6) (by repeat (first | exact Cut.d | apply Cut.t | apply Cut.s))) TOk.d)) ?_
      refine tk 0 rfl (by kernel_rfl) (fun _ _ _ h => h) gnone (TTat (List.Mem.head _)) (p_lda Tryd.isAgg27 Tryd.sizeOf27 rfl rfl) rfl ?_
      refine tk 1 rfl (by kernel_rfl) (fun _ _ _ h => h) gnone (TTat (List.Mem.tail _ (List.Mem.head _))) (p_lda Tryd.isAgg27 Tryd.sizeOf27 rfl rfl) rfl ?_
      refine df 2 (by kernel_rfl) ?_
      refine doR rfl (o_st rfl Tryd.sizeOf27 rfl rfl rfl rfl rfl (by repeat (first | exact At.z | apply At.s)) (by repeat (first | exact Put.d | apply Put.t | apply Put.s)) (by repeat (first | exact SetAt.z | apply SetAt.s))) (TOk.x (by kernel_rfl) (TOk.t (isBoxS (by repeat (first | exact At.z | apply At.s)) (k := 6) (by repeat (first | exact Cut.d | apply Cut.t | apply Cut.s))) TOk.d)) ?_
      refine df 3 (by kernel_rfl) ?_
      refine doR rfl (o_st rfl Tryd.sizeOf27 rfl rfl rfl rfl rfl (by repeat (first | exact At.z | apply At.s)) (by repeat (first | exact Put.d | apply Put.t | apply Put.s)) (by repeat (first | exact SetAt.z | apply SetAt.s))) (TOk.x (by kernel_rfl) (TOk.x (by kernel_rfl) TOk.d)) ?_
      refine tk 4 rfl (by kernel_rfl) (fun _ _ _ h => h) gnone (TTany _) (p_asg rfl) rfl ?_
      refine dn (by kernel_rfl) ?_
      refine nthen ?_
      refine cret ?_
      refine xret (fun _ _ h => h) ?_
      refine rret (is := []) ⟨((q, { p with pos := p.pos + ((q.new.length : Int) - q.old.length) }, true), (yq, yp)), by rw [hunks, if_neg (by omega), if_pos h25]⟩ (Or.inl rfl) (Res.c rfl Tryd.isAgg27 Tryd.sizeOf27 (by repeat (first | exact At.z | apply At.s)) (by rfl) (Res.c rfl Tryd.isAgg27 Tryd.sizeOf27 (by repeat (first | exact At.z | apply At.s)) (by rfl) (Res.t rfl Res.d))) (rfl) rfl (by repeat (first | exact Sub.d | (refine Sub.s ?_ ?_; (repeat (first | exact In.z | apply In.s))) | (refine Sub.suf ?_; (repeat (first | exact Suf.z | apply Suf.s)))))
    · intro h25
      try simp only [decide_eq_true_eq, decide_eq_false_iff_not, Bool.not_eq_true', Bool.not_eq_false', Int.not_lt, Int.not_le, ge_iff_le, Bool.not_true, Bool.not_false] at h25
      refine cs ?_
      refine cd [2, 3] [(0, b2, 0, _), (1, b3, 0, _)] TrydX.mixed (TOk.t (isBoxS (by repeat (first | exact At.z | apply At.s)) (k := 6) (by repeat (first | exact Cut.d | apply Cut.t | apply Cut.s))) (TOk.t (isBoxS (by repeat (first | exact At.z | apply At.s)) (k := 6) (by repeat (first | exact Cut.d | apply Cut.t | apply Cut.s))) TOk.d)) ?_
      refine tk 0 rfl (by kernel_rfl) (fun _ _ _ h => h) gnone (TTat (List.Mem.head _)) (p_lda Tryd.isAgg27 Tryd.sizeOf27 rfl rfl) rfl ?_
      refine tk 1 rfl (by kernel_rfl) (fun _ _ _ h => h) gnone (TTat (List.Mem.tail _ (List.Mem.head _))) (p_lda Tryd.isAgg27 Tryd.sizeOf27 rfl rfl) rfl ?_
      refine df 2 (by kernel_rfl) ?_
      refine doR rfl (o_st rfl Tryd.sizeOf27 rfl rfl rfl rfl rfl (by repeat (first | exact At.z | apply At.s)) (by repeat (first | exact Put.d | apply Put.t | apply Put.s)) (by repeat (first | exact SetAt.z | apply SetAt.s))) (TOk.x (by kernel_rfl) (TOk.t (isBoxS (by repeat (first | exact At.z | apply At.s)) (k := 6) (by repeat (first | exact Cut.d | apply Cut.t | apply Cut.s))) TOk.d)) ?_
      refine df 3 (by kernel_rfl) ?_
      refine doR rfl (o_st rfl Tryd.sizeOf27 rfl rfl rfl rfl rfl (by repeat (first | exact At.z | apply At.s)) (by repeat (first | exact Put.d | apply Put.t | apply Put.s)) (by repeat (first | exact SetAt.z | apply SetAt.s))) (TOk.x (by kernel_rfl) (TOk.x (by kernel_rfl) TOk.d)) ?_
      refine tk 4 rfl (by kernel_rfl) (fun _ _ _ h => h) gnone (TTany _) (p_asg rfl) rfl ?_
      refine dn (by kernel_rfl) ?_
      refine nthen ?_
      refine cret ?_
      refine xret (fun _ _ h => h) ?_
      refine rret (is := []) ⟨((p, q, false), (yp, yq)), by rw [hunks, if_neg (by omega), if_neg (by omega)]⟩ (Or.inl rfl) (Res.c rfl Tryd.isAgg27 Tryd.sizeOf27 (by repeat (first | exact At.z | apply At.s)) (by rfl) (Res.c rfl Tryd.isAgg27 Tryd.sizeOf27 (by repeat (first | exact At.z | apply At.s)) (by rfl) (Res.t rfl Res.d))) (rfl) rfl (by repeat (first | exact Sub.d | (refine Sub.s ?_ ?_; (repeat (first | exact In.z | apply In.s))) | (refine Sub.suf ?_; (repeat (first | exact Suf.z | apply Suf.s)))))

end Go.Proofs.YtaojmjfgopbgcaaDoor.X
