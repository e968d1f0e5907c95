/- OWN WORK: a part of the proof of a law of the seat YtogcgfdfabnjhaaGreatDoor: the walk through functions of the program. -/
import Derived.Test.YtogcgfdfabnjhaaGreatDoorProg
import Derived.Test.YtogcgfdfabnjhaaGreatDoorXB2
import Derived.Test.YtogcgfdfabnjhaaGreatDoorXA2
section
set_option linter.unusedVariables false
set_option linter.unusedSimpArgs false
namespace Go.Proofs.YtogcgfdfabnjhaaGreatDoor.X
open Go Go.RowKit Go.Proofs Go.Sx
attribute [local irreducible] slA isA box row


set_option maxRecDepth 100000 in
theorem c_nGroup (l : List Patch) (A : Option Addr) (c : Nat) (hl : l.length ≤ 2000000) (hf : ∀ x ∈ l, x.fit) : Con Tryz.prog 26 [.slice A l.length c] [] [slA A l] {x : (List Patch × List Patch) × ((Option Addr × Nat) × (Option Addr × Nat)) // x.1 = group l} (fun x => .tuple #[.slice x.1.2.1.1 x.1.1.1.length x.1.2.1.2, .slice x.1.2.2.1 x.1.1.2.length x.1.2.2.2]) (fun _ => []) (fun x => [slA x.1.2.1.1 x.1.1.1, slA x.1.2.2.1 x.1.1.2]) := by
 refine con Tryz.func26 rfl Tryz.ntmps26 rfl ?_
 intro M0 F0 w0
 refine cs ?_
 refine cr ?_
 refine ls (op (p_asg rfl) rfl) ?_
 refine ls (op (p_asg rfl) rfl) ?_
 refine ln ?_
 refine nthen ?_
 refine cs ?_
 refine cs ?_
 refine cmono (fun a w h => nilRow (α := Patch) 31 h) ?_
 refine cmono (fun a w h => nilRow (α := Patch) 31 h) ?_
 refine cr ?_
 refine ls (op (p_move rfl) rfl) ?_
 refine ls (op (p_lenl rfl Tryz.underlying43) rfl) ?_
 refine ls (op (p_move rfl) rfl) ?_
 refine ln ?_
 refine nthen ?_
 refine cb ?_
 refine cl (ι := {q : Nat × List Patch × List Patch × (Option Addr × Nat) × (Option Addr × Nat) // q.1 ≤ l.length ∧ GI l q.1 q.2.1 q.2.2.1}) (fun i => St M0 F0 w0 42 [(2, .slice i.1.2.2.2.1.1 (i.1.2.1).length i.1.2.2.2.1.2), (3, .slice i.1.2.2.2.2.1 (i.1.2.2.1).length i.1.2.2.2.2.2), (9, .slice A l.length c), (10, .int .i64 (l.length : Int)), (11, .int .i64 (i.1.1 : Int))] [row 31 (i.1.2.2.2.1.1) (i.1.2.2.2.1.2) i.1.2.1, row 31 (i.1.2.2.2.2.1) (i.1.2.2.2.2.2) i.1.2.2.1] [slA A l]) (fun i => l.length - i.1.1) ⟨(0, [], [], (none, 0), (none, 0)), Nat.zero_le _, GI.start l⟩ (wk (is := [0, 0]) (by repeat (first | exact subσ.nil _ | refine subσ.cons rfl ?_)) rfl (by repeat (first | exact Sub.d | (refine Sub.s ?_ ?_; (repeat (first | exact In.z | apply In.s))) | (refine Sub.suf ?_; (repeat (first | exact Suf.z | apply Suf.s)))))) ?_
 rintro ⟨⟨k, g, r, ⟨Ag, cg⟩, ⟨Ax, cx⟩⟩, hk, hI⟩
 refine cmono (S' := St M0 F0 w0 42 [(2, .slice Ag (g).length cg), (3, .slice Ax (r).length cx), (9, .slice A l.length c), (10, .int .i64 (l.length : Int)), (11, .int .i64 (k : Int))] [row 31 (Ag) (cg) g, row 31 (Ax) (cx) r] [slA A l]) (fun _ _ h => h) ?_
 refine cs ?_
 refine cr ?_
 refine ls (op (p_icmp rfl rfl rfl) rfl) ?_
 refine ln ?_
 refine nthen ?_
 refine cs ?_
 refine cc rfl ?_ ?_
 ·
  intro h12
  dsimp only at hk hI
  try simp only [decide_eq_true_eq, decide_eq_false_iff_not, Bool.not_eq_true', Bool.not_eq_false', Int.not_lt, Int.not_le, ge_iff_le, Bool.not_true, Bool.not_false] at h12
  have hk1 : k < l.length := by omega
  have hgl := hI.len; have hfk := hf _ (List.getElem_mem hk1)
  refine cskip ?_
  refine nthen ?_
  refine cs ?_
  refine cb ?_
  refine cs ?_
  refine elC (by repeat (first | exact At.z | apply At.s)) k (List.getElem?_eq_getElem (l := l) hk1) ?_; rintro zbp zop zyp hAp
  refine cr ?_
  refine ls (op (p_move rfl) rfl) ?_
  refine ls (op (p_ia k hAp hk1 rfl Tryz.underlying43 Tryz.sizeOf31 rfl rfl) rfl) ?_
  refine ls (o_ldj Tryz.isAgg31 Tryz.sizeOf31 rfl (by repeat (first | exact At.z | apply At.s)) 0 rfl (by repeat (first | exact Cut.d | apply Cut.t | apply Cut.s)) rfl) ?_
  refine ls (o_alloc Tryz.zeroValue31 rfl rfl) ?_
  refine le ?_; intro b5
  refine ls (op (p_asg rfl) rfl) ?_
  refine ls (o_st rfl Tryz.sizeOf31 rfl rfl rfl rfl rfl (by repeat (first | exact At.z | apply At.s)) (by repeat (first | exact Put.d | apply Put.t | apply Put.s)) (by repeat (first | exact SetAt.z | apply SetAt.s))) ?_
  refine ln ?_
  refine nthen ?_
  refine cs ?_
  refine cr ?_
  refine ls (op (p_move rfl) rfl) ?_
  refine ls (o_ldw Tryz.isAgg31 Tryz.sizeOf31 rfl (by repeat (first | exact At.z | apply At.s)) (by rfl) rfl) ?_
  refine ls (o_call (is := [1]) Tryz.call21 (c_nPastR g Ag cg (by omega) hI.fg l[k] zyp hfk) rfl rfl (by repeat (first | exact Sub.d | (refine Sub.s ?_ ?_; (repeat (first | exact In.z | apply In.s))) | (refine Sub.suf ?_; (repeat (first | exact Suf.z | apply Suf.s))))) rfl) ?_
  refine le ?_; rintro ⟨⟨⟨q1, rest1, b3⟩, ⟨yq1, ⟨A1, c1⟩⟩⟩, hr⟩
  dsimp only at hr
  refine ls (op (p_move rfl) rfl) ?_
  refine ls (op (p_ext rfl (by repeat (first | exact At.z | apply At.s))) rfl) ?_
  refine ls (op (p_ext rfl (by repeat (first | exact At.z | apply At.s))) rfl) ?_
  refine ls (op (p_ext rfl (by repeat (first | exact At.z | apply At.s))) rfl) ?_
  refine ls (o_alloc Tryz.zeroValue31 rfl rfl) ?_
  refine le ?_; intro b6
  refine ls (o_st rfl Tryz.sizeOf31 rfl rfl rfl rfl rfl (by repeat (first | exact At.z | apply At.s)) (by repeat (first | exact Put.d | apply Put.t | apply Put.s)) (by repeat (first | exact SetAt.z | apply SetAt.s))) ?_
  refine ls (op (p_asg rfl) rfl) ?_
  refine ls (op (p_asg rfl) rfl) ?_
  refine ln ?_
  refine nthen ?_
  refine cs ?_
  refine cs ?_
  refine cr ?_
  refine ls (op (p_move rfl) rfl) ?_
  refine ls (op (p_icmp rfl rfl rfl) rfl) ?_
  refine ls (op (p_move rfl) rfl) ?_
  refine orX 3 25 28 rfl (subσ.cons (t := 2) rfl (subσ.cons (t := 3) rfl (subσ.cons (t := 9) rfl (subσ.cons (t := 10) rfl (subσ.cons (t := 11) rfl (subσ.cons (t := 12) rfl (subσ.cons (t := 13) rfl (subσ.cons (t := 14) rfl (subσ.cons (t := 15) rfl (subσ.cons (t := 5) rfl (subσ.cons (t := 17) rfl (subσ.cons (t := 18) rfl (subσ.cons (t := 19) rfl (subσ.cons (t := 16) rfl (subσ.cons (t := 20) rfl (subσ.cons (t := 21) rfl (subσ.cons (t := 22) rfl (subσ.cons (t := 6) rfl (subσ.cons (t := 7) rfl (subσ.nil _)))))))))))))))))))) ?_ ?_
  ·
   intro h25
   refine lskip rfl rfl rfl rfl rfl ?_
   refine lskip rfl rfl rfl rfl rfl ?_
   refine ls (op (p_pickt rfl rfl) rfl) ?_
   refine ln (nmid (wk0 (by repeat (first | exact subσ.nil _ | refine subσ.cons rfl ?_)) (by repeat (first | exact Sub.d | (refine Sub.s ?_ ?_; (repeat (first | exact In.z | apply In.s))) | (refine Sub.suf ?_; (repeat (first | exact Suf.z | apply Suf.s)))))))
  apply exI
  ·
   intro h25
   refine lwant rfl rfl rfl rfl (op (p_move rfl) rfl) ?_
   refine lwant rfl rfl rfl rfl (op (p_not rfl) rfl) ?_
   refine ls (op (p_pickf rfl rfl) rfl) ?_
   refine ln (nmid (wk0 (by repeat (first | exact subσ.nil _ | refine subσ.cons rfl ?_)) (by repeat (first | exact Sub.d | (refine Sub.s ?_ ?_; (repeat (first | exact In.z | apply In.s))) | (refine Sub.suf ?_; (repeat (first | exact Suf.z | apply Suf.s)))))))
  ·
   refine ln ?_
   refine nthen ?_
   refine cc rfl ?_ ?_
   ·
    intro h28
    have hno : k = 0 ∨ (q1, rest1, false) = ppast g l[k] := by (rcases Nat.eq_zero_or_pos k with h0 | h0; · exact .inl h0); · right; rw [← hr]; cases b3 <;> first | rfl | (simp at h28; omega)
    refine cs ?_
    refine cr ?_
    refine ls (op (p_move rfl) rfl) ?_
    refine ls (o_ldw Tryz.isAgg31 Tryz.sizeOf31 rfl (by repeat (first | exact At.z | apply At.s)) (by rfl) rfl) ?_
    refine ls (o_call (is := []) Tryz.call16 (c_nClone l[k] zyp hfk) rfl rfl (by repeat (first | exact Sub.d | (refine Sub.s ?_ ?_; (repeat (first | exact In.z | apply In.s))) | (refine Sub.suf ?_; (repeat (first | exact Suf.z | apply Suf.s))))) rfl) ?_
    refine le ?_; intro y31
    refine ls (o_bsl [l[k]] Tryz.underlying43 Tryz.sizeOf31 Tryz.zeroValue31 rfl (Enum.t Enum.d) (RV.t y31 rfl (by repeat (first | exact Sub.d | (refine Sub.s ?_ ?_; (repeat (first | exact In.z | apply In.s))) | (refine Sub.suf ?_; (repeat (first | exact Suf.z | apply Suf.s))))) RV.d) rfl (by decide) (by decide) rfl) ?_
    refine le ?_; intro b32
    refine lmono (fun a w h => Go.Sx.freeze (i := 0) rfl h) ?_
    refine ls (o_app (is := [2]) Tryz.underlying43 inf31 rfl (by decide) (by decide) rfl rfl (by simp only [List.length_cons, List.length_nil]; omega) (fun h => by cases h) rfl (by repeat (first | exact Sub.d | (refine Sub.s ?_ ?_; (repeat (first | exact In.z | apply In.s))) | (refine Sub.suf ?_; (repeat (first | exact Suf.z | apply Suf.s))))) rfl) ?_
    refine le ?_; rintro ⟨A2, c2⟩
    refine ls (op (p_asg rfl) rfl) ?_
    refine ln ?_
    refine nthen ?_
    refine cexit ?_
    refine xthen ?_
    refine xblock ?_
    refine nthen ?_
    refine cr ?_
    refine ls (op (p_add rfl rfl (by omega)) rfl) ?_
    refine ls (op (p_move rfl) rfl) ?_
    refine ln ?_
    refine nnext ⟨(k + 1, g ++ [l[k]], r, (A2, c2), (Ax, cx)), hk1, hI.no hk1 hf hno⟩ (by dsimp only; omega) (wk (is := [0, 3]) (by repeat (first | exact subσ.nil _ | refine subσ.cons rfl ?_)) rfl (by repeat (first | exact Sub.d | (refine Sub.s ?_ ?_; (repeat (first | exact In.z | apply In.s))) | (refine Sub.suf ?_; (repeat (first | exact Suf.z | apply Suf.s))))))
   ·
    intro h28
    have hyes : k ≠ 0 ∧ b3 = true := by cases b3 <;> simp at h28 ⊢; omega
    obtain ⟨hk0, rfl⟩ := hyes
    have hok := ppast_ok hr hI.fg hfk
    refine cskip ?_
    refine nthen ?_
    refine cr ?_
    refine ls (op (p_move rfl) rfl) ?_
    refine ls (op (p_move rfl) rfl) ?_
    refine ls (o_ldw Tryz.isAgg31 Tryz.sizeOf31 rfl (by repeat (first | exact At.z | apply At.s)) (by rfl) rfl) ?_
    refine ls (o_bsl [q1] Tryz.underlying43 Tryz.sizeOf31 Tryz.zeroValue31 rfl (Enum.t Enum.d) (RV.t yq1 rfl (by repeat (first | exact Sub.d | (refine Sub.s ?_ ?_; (repeat (first | exact In.z | apply In.s))) | (refine Sub.suf ?_; (repeat (first | exact Suf.z | apply Suf.s))))) RV.d) rfl (by decide) (by decide) rfl) ?_
    refine le ?_; intro b37
    refine lmono (fun a w h => Go.Sx.freeze (i := 0) rfl h) ?_
    refine ls (o_app (is := [4]) Tryz.underlying43 inf31 rfl (by decide) (by decide) rfl rfl (by simp only [List.length_cons, List.length_nil]; omega) (fun h => by cases h) rfl (by repeat (first | exact Sub.d | (refine Sub.s ?_ ?_; (repeat (first | exact In.z | apply In.s))) | (refine Sub.suf ?_; (repeat (first | exact Suf.z | apply Suf.s))))) rfl) ?_
    refine le ?_; rintro ⟨A2, c2⟩
    refine ls (op (p_asg rfl) rfl) ?_
    refine ls (op (p_asg rfl) rfl) ?_
    refine ln ?_
    refine nblock ?_
    refine nthen ?_
    refine cr ?_
    refine ls (op (p_add rfl rfl (by omega)) rfl) ?_
    refine ls (op (p_move rfl) rfl) ?_
    refine ln ?_
    refine nnext ⟨(k + 1, rest1, r ++ [q1], (A1, c1), (A2, c2)), hk1, hI.yes hk1 hk0 hf hr⟩ (by dsimp only; omega) (wk (is := [2, 0]) (by repeat (first | exact subσ.nil _ | refine subσ.cons rfl ?_)) rfl (by repeat (first | exact Sub.d | (refine Sub.s ?_ ?_; (repeat (first | exact In.z | apply In.s))) | (refine Sub.suf ?_; (repeat (first | exact Suf.z | apply Suf.s))))))
 ·
  intro h12
  dsimp only at hk hI
  try simp only [decide_eq_true_eq, decide_eq_false_iff_not, Bool.not_eq_true', Bool.not_eq_false', Int.not_lt, Int.not_le, ge_iff_le, Bool.not_true, Bool.not_false] at h12
  have hd := hI.done (by omega)
  refine cexit ?_
  refine xthen ?_
  refine xthen ?_
  refine xblock ?_
  refine nthen ?_
  refine cs ?_
  refine cmono (fun a w h => Go.Sx.freeze (i := 0) rfl h) ?_
  refine cmono (fun a w h => Go.Sx.freeze (i := 0) rfl h) ?_
  refine cr ?_
  refine ls (op (p_move rfl) rfl) ?_
  refine ls (op (p_move rfl) rfl) ?_
  refine ls (op (p_asg rfl) rfl) ?_
  refine ls (op (p_asg rfl) rfl) ?_
  refine ln ?_
  refine nthen ?_
  refine cret ?_
  refine xret (fun _ _ h => h) ?_
  refine rret (is := []) ⟨((g, r), ((Ag, cg), (Ax, cx))), hd.symm⟩ (Or.inl rfl) (Res.t rfl (Res.t rfl Res.d)) (rfl) rfl (by repeat (first | exact Sub.d | (refine Sub.s ?_ ?_; (repeat (first | exact In.z | apply In.s))) | (refine Sub.suf ?_; (repeat (first | exact Suf.z | apply Suf.s)))))

set_option maxRecDepth 100000 in
theorem c_rPast (l : List Patch) (A : Option Addr) (c : Nat) (hl : l.length ≤ 2000000) (hf : ∀ x ∈ l, x.fit) (q0 : Patch) (y : Rp.Lay Patch) (hq : q0.fit) : Con Tryz.prog 23 [.slice A l.length c, sv q0 y] [] [slA y.1.1 q0.deps, slA y.2.1 q0.l, slA A l] {x : (Patch × List Patch × Bool) × (Rp.Lay Patch × (Option Addr × Nat)) // x.1 = ppast l q0} (fun x => .tuple #[sv x.1.1.1 x.1.2.1, .slice x.1.2.2.1 x.1.1.2.1.length x.1.2.2.2, .bool x.1.1.2.2]) (fun _ => []) (fun x => [slA x.1.2.1.1.1 x.1.1.1.deps, slA x.1.2.1.2.1 x.1.1.1.l, slA x.1.2.2.1 x.1.1.2.1]) := by
 refine con Tryz.func23 rfl Tryz.ntmps23 rfl ?_
 intro M0 F0 w0
 refine cs ?_
 refine cr ?_
 refine ls (o_box rfl rfl rfl) ?_
 refine le ?_; intro b3
 refine ls (o_alloc Tryz.zeroValue25 rfl rfl) ?_
 refine le ?_; intro b4
 refine ls (op (p_asg rfl) rfl) ?_
 refine ls (op (p_asg rfl) rfl) ?_
 refine ln ?_
 refine nthen ?_
 refine cs ?_
 refine cmono (fun a w h => nilSl (α := Patch) h) ?_
 refine cr ?_
 refine ls (op (p_asg rfl) rfl) ?_
 refine ln ?_
 refine nthen ?_
 refine cs ?_
 refine cs ?_
 refine cr ?_
 refine ls (op (p_move rfl) rfl) ?_
 refine ls (op (p_lenl rfl Tryz.underlying42) rfl) ?_
 refine ls (op (p_sub rfl rfl (by omega)) rfl) ?_
 refine ls (op (p_asg rfl) rfl) ?_
 refine ln ?_
 refine nthen ?_
 refine cb ?_
 refine cl (ι := {q : Nat × Int × Patch × List Patch × Rp.Lay Patch × (Option Addr × Nat) // q.1 ≤ l.length ∧ q.2.1 = (l.length : Int) - 1 - (q.1 : Int) ∧ PP l q0 q.1 q.2.2.1 q.2.2.2.1 ∧ (q.2.2.2.1 = [] → q.2.2.2.2.2.2 = 0)}) (fun i => St M0 F0 w0 39 [(0, .slice A l.length c), (3, .pointer (some ⟨b3, 0, none⟩)), (4, .pointer (some ⟨b4, 0, none⟩)), (7, .slice i.1.2.2.2.2.2.1 (i.1.2.2.2.1).length i.1.2.2.2.2.2.2), (8, .int .i64 i.1.2.1)] [box b3 25 (Rp.enc i.1.2.2.1 i.1.2.2.2.2.1), box b4 25 (Rp.enc Patch.zero ((none, 0), (none, 0)))] [slA (i.1.2.2.2.2.1).1.1 (i.1.2.2.1).deps, slA (i.1.2.2.2.2.1).2.1 (i.1.2.2.1).l, slA (i.1.2.2.2.2.2.1) (i.1.2.2.2.1), slA A l]) (fun i => l.length - i.1.1) ⟨(0, (l.length : Int) - 1, q0, [], y, (none, 0)), Nat.zero_le _, by simp, PP.start hq, fun _ => rfl⟩ (wk (is := [1, 0]) (by repeat (first | exact subσ.nil _ | refine subσ.cons rfl ?_)) rfl (by repeat (first | exact Sub.d | (refine Sub.s ?_ ?_; (repeat (first | exact In.z | apply In.s))) | (refine Sub.suf ?_; (repeat (first | exact Suf.z | apply Suf.s)))))) ?_
 rintro ⟨⟨j, z, q, rest, yq, ⟨A2, c2⟩⟩, hj, hz, hI, hA2⟩
 refine cmono (S' := St M0 F0 w0 39 [(0, .slice A l.length c), (3, .pointer (some ⟨b3, 0, none⟩)), (4, .pointer (some ⟨b4, 0, none⟩)), (7, .slice A2 (rest).length c2), (8, .int .i64 z)] [box b3 25 (Rp.enc q yq), box b4 25 (Rp.enc Patch.zero ((none, 0), (none, 0)))] [slA (yq).1.1 (q).deps, slA (yq).2.1 (q).l, slA (A2) (rest), slA A l]) (fun _ _ h => h) ?_
 refine cs ?_
 refine cs ?_
 refine cr ?_
 refine ls (op (p_move rfl) rfl) ?_
 refine ls (op (p_icmp rfl rfl rfl) rfl) ?_
 refine ln ?_
 refine nthen ?_
 refine cc rfl ?_ ?_
 ·
  intro h16
  dsimp only at hj hz hI hA2
  try simp only [decide_eq_true_eq, decide_eq_false_iff_not, Bool.not_eq_true', Bool.not_eq_false', Int.not_lt, Int.not_le, ge_iff_le, Bool.not_true, Bool.not_false] at h16
  have hrl := hI.len
  obtain ⟨u, hu⟩ : ∃ u, u + j + 1 = l.length := ⟨l.length - 1 - j, by omega⟩
  have hu1 : u < l.length := by omega
  have hfk := hf _ (List.getElem_mem hu1)
  refine cskip ?_
  refine nthen ?_
  refine cs ?_
  refine cb ?_
  refine cs ?_
  refine elC (by repeat (first | exact At.z | apply At.s)) u (List.getElem?_eq_getElem (l := l) hu1) ?_; rintro zbp zop zyp hAp
  refine cutC (S' := fun a w => ∃ (b9 : Nat) (b10 : Nat) (r1 : Patch) (r2 : Patch) (r3 : Bool) (z1 : Rp.Lay Patch) (z2 : Rp.Lay Patch) (hr : (r1, r2, r3) = pswap l[u] q) (e1 : r1.fit) (e2 : r2.fit), St M0 F0 w0 39 [(0, .slice A l.length c), (3, .pointer (some ⟨b3, 0, none⟩)), (4, .pointer (some ⟨b4, 0, none⟩)), (7, .slice A2 rest.length c2), (8, .int .i64 z), (9, .pointer (some ⟨b9, 0, none⟩)), (10, .pointer (some ⟨b10, 0, none⟩)), (11, .bool r3)] [box b9 25 (Rp.enc r1 z1), box b10 25 (Rp.enc r2 z2), box b3 25 (Rp.enc q yq), box b4 25 (Rp.enc Patch.zero ((none, 0), (none, 0)))] [slA z1.1.1 r1.deps, slA z1.2.1 r1.l, slA z2.1.1 r2.deps, slA z2.2.1 r2.l, slA A2 rest, slA A l] a w) ?_ ?_
  ·
   refine cd [5, 10, 11, 12, 13] [(3, zbp, zop + u * Rp.size Patch, _), (4, b3, 0, _)] TryzX.mixed (TOk.t (isInS (by repeat (first | exact At.z | apply At.s)) (k := 0) rfl (z := 4) (by repeat (first | exact Cut.d | apply Cut.t | apply Cut.s))) (TOk.t (isBoxS (by repeat (first | exact At.z | apply At.s)) (k := 4) (by repeat (first | exact Cut.d | apply Cut.t | apply Cut.s))) TOk.d)) ?_
   refine tk 0 rfl (by kernel_rfl) (fun _ _ _ h => h) gnone (TTany _) (p_move rfl) rfl ?_
   refine tk 1 rfl (by kernel_rfl) (fun _ _ _ h => h) gnone (TTany _) (p_move rfl) rfl ?_
   refine tk 2 rfl (by kernel_rfl) (fun _ _ _ h => h) gnone (TTany _) (p_ia u hAp hu1 (by omega) Tryz.underlying42 Tryz.sizeOf25 rfl rfl) rfl ?_
   refine tk 3 rfl (by kernel_rfl) (fun _ _ _ h => h) gnone (TTat (List.Mem.head _)) (p_lda Tryz.isAgg25 Tryz.sizeOf25 rfl rfl) rfl ?_
   refine tk 4 rfl (by kernel_rfl) (fun _ _ _ h => h) gnone (TTat (List.Mem.tail _ (List.Mem.head _))) (p_lda Tryz.isAgg25 Tryz.sizeOf25 rfl rfl) rfl ?_
   refine dall (is := [5, 10, 11]) (by kernel_rfl) rfl ?_
   intro i hi; simp only [List.mem_cons, List.mem_nil_iff, or_false] at hi; rcases hi with rfl | rfl | rfl
   ·
    refine doR rfl (o_call (is := []) Tryz.call18 (c_rSwap l[u] q zyp yq hfk hI.fq) rfl rfl (by repeat (first | exact Sub.d | (refine Sub.s ?_ ?_; (repeat (first | exact In.z | apply In.s))) | (refine Sub.suf ?_; (repeat (first | exact Suf.z | apply Suf.s))))) rfl) (TOk.x (by kernel_rfl) (TOk.x (by kernel_rfl) TOk.d)) ?_
    refine ea ?_; rintro ⟨⟨⟨r1, r2, r3⟩, z1, z2⟩, hr⟩
    obtain ⟨e1, e2⟩ := pswap_fit2 hr hfk hI.fq; dsimp only at hr e1 e2
    refine tk 6 rfl (by kernel_rfl) (fun _ _ _ h => h) gnone (TTany _) (p_move rfl) rfl ?_
    refine tk 7 rfl (by kernel_rfl) (fun _ _ _ h => h) gnone (TTany _) (p_ext rfl (by repeat (first | exact At.z | apply At.s))) rfl ?_
    refine tk 8 rfl (by kernel_rfl) (fun _ _ _ h => h) gnone (TTany _) (p_ext rfl (by repeat (first | exact At.z | apply At.s))) rfl ?_
    refine tk 9 rfl (by kernel_rfl) (fun _ _ _ h => h) gnone (TTany _) (p_ext rfl (by repeat (first | exact At.z | apply At.s))) rfl ?_
    refine dall (is := [10, 11]) (by kernel_rfl) rfl ?_
    intro i hi; simp only [List.mem_cons, List.mem_nil_iff, or_false] at hi; rcases hi with rfl | rfl
    ·
     refine doR rfl (o_alloc Tryz.zeroValue25 rfl rfl) (TOk.x (by kernel_rfl) (TOk.x (by kernel_rfl) TOk.d)) ?_
     refine ea ?_; intro b9
     refine df 11 (by kernel_rfl) ?_
     refine doR rfl (o_alloc Tryz.zeroValue25 rfl rfl) (TOk.x (by kernel_rfl) (TOk.x (by kernel_rfl) TOk.d)) ?_
     refine ea ?_; intro b10
     refine df 12 (by kernel_rfl) ?_
     refine doR rfl (o_st rfl Tryz.sizeOf25 rfl rfl rfl rfl rfl (by repeat (first | exact At.z | apply At.s)) (by repeat (first | exact Put.d | apply Put.t | apply Put.s)) (by repeat (first | exact SetAt.z | apply SetAt.s))) (TOk.x (by kernel_rfl) (TOk.x (by kernel_rfl) TOk.d)) ?_
     refine df 13 (by kernel_rfl) ?_
     refine doR rfl (o_st rfl Tryz.sizeOf25 rfl rfl rfl rfl rfl (by repeat (first | exact At.z | apply At.s)) (by repeat (first | exact Put.d | apply Put.t | apply Put.s)) (by repeat (first | exact SetAt.z | apply SetAt.s))) (TOk.x (by kernel_rfl) (TOk.x (by kernel_rfl) TOk.d)) ?_
     refine tk 14 rfl (by kernel_rfl) (fun _ _ _ h => h) gnone (TTany _) (p_asg rfl) rfl ?_
     refine dn (by kernel_rfl) (nmid (fun a w h => by first | exact ⟨b9, b10, r1, r2, r3, z1, z2, hr, e1, e2, wk (is := [1, 0, 0, 0]) (by repeat (first | exact subσ.nil _ | refine subσ.cons rfl ?_)) rfl (by repeat (first | exact Sub.d | (refine Sub.s ?_ ?_; (repeat (first | exact In.z | apply In.s))) | (refine Sub.suf ?_; (repeat (first | exact Suf.z | apply Suf.s))))) a w h⟩ | exact ⟨b9, b10, r1, r2, r3, z1, z2, hr, e1, e2, wk (is := [0, 0, 0, 0]) (by repeat (first | exact subσ.nil _ | refine subσ.cons rfl ?_)) rfl (by repeat (first | exact Sub.d | (refine Sub.s ?_ ?_; (repeat (first | exact In.z | apply In.s))) | (refine Sub.suf ?_; (repeat (first | exact Suf.z | apply Suf.s))))) a w h⟩))
    ·
     refine doR rfl (o_alloc Tryz.zeroValue25 rfl rfl) (TOk.x (by kernel_rfl) (TOk.x (by kernel_rfl) TOk.d)) ?_
     refine ea ?_; intro b10
     refine df 10 (by kernel_rfl) ?_
     refine doR rfl (o_alloc Tryz.zeroValue25 rfl rfl) (TOk.x (by kernel_rfl) (TOk.x (by kernel_rfl) TOk.d)) ?_
     refine ea ?_; intro b9
     refine df 12 (by kernel_rfl) ?_
     refine doR rfl (o_st rfl Tryz.sizeOf25 rfl rfl rfl rfl rfl (by repeat (first | exact At.z | apply At.s)) (by repeat (first | exact Put.d | apply Put.t | apply Put.s)) (by repeat (first | exact SetAt.z | apply SetAt.s))) (TOk.x (by kernel_rfl) (TOk.x (by kernel_rfl) TOk.d)) ?_
     refine df 13 (by kernel_rfl) ?_
     refine doR rfl (o_st rfl Tryz.sizeOf25 rfl rfl rfl rfl rfl (by repeat (first | exact At.z | apply At.s)) (by repeat (first | exact Put.d | apply Put.t | apply Put.s)) (by repeat (first | exact SetAt.z | apply SetAt.s))) (TOk.x (by kernel_rfl) (TOk.x (by kernel_rfl) TOk.d)) ?_
     refine tk 14 rfl (by kernel_rfl) (fun _ _ _ h => h) gnone (TTany _) (p_asg rfl) rfl ?_
     refine dn (by kernel_rfl) (nmid (fun a w h => by first | exact ⟨b9, b10, r1, r2, r3, z1, z2, hr, e1, e2, wk (is := [1, 0, 0, 0]) (by repeat (first | exact subσ.nil _ | refine subσ.cons rfl ?_)) rfl (by repeat (first | exact Sub.d | (refine Sub.s ?_ ?_; (repeat (first | exact In.z | apply In.s))) | (refine Sub.suf ?_; (repeat (first | exact Suf.z | apply Suf.s))))) a w h⟩ | exact ⟨b9, b10, r1, r2, r3, z1, z2, hr, e1, e2, wk (is := [0, 0, 0, 0]) (by repeat (first | exact subσ.nil _ | refine subσ.cons rfl ?_)) rfl (by repeat (first | exact Sub.d | (refine Sub.s ?_ ?_; (repeat (first | exact In.z | apply In.s))) | (refine Sub.suf ?_; (repeat (first | exact Suf.z | apply Suf.s))))) a w h⟩))
   ·
    refine doR rfl (o_alloc Tryz.zeroValue25 rfl rfl) (TOk.t (isBoxE fun _ => isInS (by repeat (first | exact At.z | apply At.s)) (k := 0) rfl (z := 4) (by repeat (first | exact Cut.d | apply Cut.t | apply Cut.s))) (TOk.t (isBoxE fun _ => isBoxS (by repeat (first | exact At.z | apply At.s)) (k := 4) (by repeat (first | exact Cut.d | apply Cut.t | apply Cut.s))) TOk.d)) ?_
    refine ea ?_; intro b9
    refine dall (is := [5, 11]) (by kernel_rfl) rfl ?_
    intro i hi; simp only [List.mem_cons, List.mem_nil_iff, or_false] at hi; rcases hi with rfl | rfl
    ·
     refine doR rfl (o_call (is := []) Tryz.call18 (c_rSwap l[u] q zyp yq hfk hI.fq) rfl rfl (by repeat (first | exact Sub.d | (refine Sub.s ?_ ?_; (repeat (first | exact In.z | apply In.s))) | (refine Sub.suf ?_; (repeat (first | exact Suf.z | apply Suf.s))))) rfl) (TOk.x (by kernel_rfl) (TOk.x (by kernel_rfl) TOk.d)) ?_
     refine ea ?_; rintro ⟨⟨⟨r1, r2, r3⟩, z1, z2⟩, hr⟩
     obtain ⟨e1, e2⟩ := pswap_fit2 hr hfk hI.fq; dsimp only at hr e1 e2
     refine tk 6 rfl (by kernel_rfl) (fun _ _ _ h => h) gnone (TTany _) (p_move rfl) rfl ?_
     refine tk 7 rfl (by kernel_rfl) (fun _ _ _ h => h) gnone (TTany _) (p_ext rfl (by repeat (first | exact At.z | apply At.s))) rfl ?_
     refine tk 8 rfl (by kernel_rfl) (fun _ _ _ h => h) gnone (TTany _) (p_ext rfl (by repeat (first | exact At.z | apply At.s))) rfl ?_
     refine tk 9 rfl (by kernel_rfl) (fun _ _ _ h => h) gnone (TTany _) (p_ext rfl (by repeat (first | exact At.z | apply At.s))) rfl ?_
     refine df 11 (by kernel_rfl) ?_
     refine doR rfl (o_alloc Tryz.zeroValue25 rfl rfl) (TOk.x (by kernel_rfl) (TOk.x (by kernel_rfl) TOk.d)) ?_
     refine ea ?_; intro b10
     refine df 12 (by kernel_rfl) ?_
     refine doR rfl (o_st rfl Tryz.sizeOf25 rfl rfl rfl rfl rfl (by repeat (first | exact At.z | apply At.s)) (by repeat (first | exact Put.d | apply Put.t | apply Put.s)) (by repeat (first | exact SetAt.z | apply SetAt.s))) (TOk.x (by kernel_rfl) (TOk.x (by kernel_rfl) TOk.d)) ?_
     refine df 13 (by kernel_rfl) ?_
     refine doR rfl (o_st rfl Tryz.sizeOf25 rfl rfl rfl rfl rfl (by repeat (first | exact At.z | apply At.s)) (by repeat (first | exact Put.d | apply Put.t | apply Put.s)) (by repeat (first | exact SetAt.z | apply SetAt.s))) (TOk.x (by kernel_rfl) (TOk.x (by kernel_rfl) TOk.d)) ?_
     refine tk 14 rfl (by kernel_rfl) (fun _ _ _ h => h) gnone (TTany _) (p_asg rfl) rfl ?_
     refine dn (by kernel_rfl) (nmid (fun a w h => by first | exact ⟨b9, b10, r1, r2, r3, z1, z2, hr, e1, e2, wk (is := [1, 0, 0, 0]) (by repeat (first | exact subσ.nil _ | refine subσ.cons rfl ?_)) rfl (by repeat (first | exact Sub.d | (refine Sub.s ?_ ?_; (repeat (first | exact In.z | apply In.s))) | (refine Sub.suf ?_; (repeat (first | exact Suf.z | apply Suf.s))))) a w h⟩ | exact ⟨b9, b10, r1, r2, r3, z1, z2, hr, e1, e2, wk (is := [0, 0, 0, 0]) (by repeat (first | exact subσ.nil _ | refine subσ.cons rfl ?_)) rfl (by repeat (first | exact Sub.d | (refine Sub.s ?_ ?_; (repeat (first | exact In.z | apply In.s))) | (refine Sub.suf ?_; (repeat (first | exact Suf.z | apply Suf.s))))) a w h⟩))
    ·
     refine doR rfl (o_alloc Tryz.zeroValue25 rfl rfl) (TOk.t (isBoxE fun _ => isInS (by repeat (first | exact At.z | apply At.s)) (k := 0) rfl (z := 4) (by repeat (first | exact Cut.d | apply Cut.t | apply Cut.s))) (TOk.t (isBoxE fun _ => isBoxS (by repeat (first | exact At.z | apply At.s)) (k := 4) (by repeat (first | exact Cut.d | apply Cut.t | apply Cut.s))) TOk.d)) ?_
     refine ea ?_; intro b10
     refine df 5 (by kernel_rfl) ?_
     refine doR rfl (o_call (is := []) Tryz.call18 (c_rSwap l[u] q zyp yq hfk hI.fq) rfl rfl (by repeat (first | exact Sub.d | (refine Sub.s ?_ ?_; (repeat (first | exact In.z | apply In.s))) | (refine Sub.suf ?_; (repeat (first | exact Suf.z | apply Suf.s))))) rfl) (TOk.x (by kernel_rfl) (TOk.x (by kernel_rfl) TOk.d)) ?_
     refine ea ?_; rintro ⟨⟨⟨r1, r2, r3⟩, z1, z2⟩, hr⟩
     obtain ⟨e1, e2⟩ := pswap_fit2 hr hfk hI.fq; dsimp only at hr e1 e2
     refine tk 6 rfl (by kernel_rfl) (fun _ _ _ h => h) gnone (TTany _) (p_move rfl) rfl ?_
     refine tk 7 rfl (by kernel_rfl) (fun _ _ _ h => h) gnone (TTany _) (p_ext rfl (by repeat (first | exact At.z | apply At.s))) rfl ?_
     refine tk 8 rfl (by kernel_rfl) (fun _ _ _ h => h) gnone (TTany _) (p_ext rfl (by repeat (first | exact At.z | apply At.s))) rfl ?_
     refine tk 9 rfl (by kernel_rfl) (fun _ _ _ h => h) gnone (TTany _) (p_ext rfl (by repeat (first | exact At.z | apply At.s))) rfl ?_
     refine df 12 (by kernel_rfl) ?_
     refine doR rfl (o_st rfl Tryz.sizeOf25 rfl rfl rfl rfl rfl (by repeat (first | exact At.z | apply At.s)) (by repeat (first | exact Put.d | apply Put.t | apply Put.s)) (by repeat (first | exact SetAt.z | apply SetAt.s))) (TOk.x (by kernel_rfl) (TOk.x (by kernel_rfl) TOk.d)) ?_
     refine df 13 (by kernel_rfl) ?_
     refine doR rfl (o_st rfl Tryz.sizeOf25 rfl rfl rfl rfl rfl (by repeat (first | exact At.z | apply At.s)) (by repeat (first | exact Put.d | apply Put.t | apply Put.s)) (by repeat (first | exact SetAt.z | apply SetAt.s))) (TOk.x (by kernel_rfl) (TOk.x (by kernel_rfl) TOk.d)) ?_
     refine tk 14 rfl (by kernel_rfl) (fun _ _ _ h => h) gnone (TTany _) (p_asg rfl) rfl ?_
     refine dn (by kernel_rfl) (nmid (fun a w h => by first | exact ⟨b9, b10, r1, r2, r3, z1, z2, hr, e1, e2, wk (is := [1, 0, 0, 0]) (by repeat (first | exact subσ.nil _ | refine subσ.cons rfl ?_)) rfl (by repeat (first | exact Sub.d | (refine Sub.s ?_ ?_; (repeat (first | exact In.z | apply In.s))) | (refine Sub.suf ?_; (repeat (first | exact Suf.z | apply Suf.s))))) a w h⟩ | exact ⟨b9, b10, r1, r2, r3, z1, z2, hr, e1, e2, wk (is := [0, 0, 0, 0]) (by repeat (first | exact subσ.nil _ | refine subσ.cons rfl ?_)) rfl (by repeat (first | exact Sub.d | (refine Sub.s ?_ ?_; (repeat (first | exact In.z | apply In.s))) | (refine Sub.suf ?_; (repeat (first | exact Suf.z | apply Suf.s))))) a w h⟩))
   ·
    refine doR rfl (o_alloc Tryz.zeroValue25 rfl rfl) (TOk.t (isBoxE fun _ => isInS (by repeat (first | exact At.z | apply At.s)) (k := 0) rfl (z := 4) (by repeat (first | exact Cut.d | apply Cut.t | apply Cut.s))) (TOk.t (isBoxE fun _ => isBoxS (by repeat (first | exact At.z | apply At.s)) (k := 4) (by repeat (first | exact Cut.d | apply Cut.t | apply Cut.s))) TOk.d)) ?_
    refine ea ?_; intro b10
    refine dall (is := [5, 10]) (by kernel_rfl) rfl ?_
    intro i hi; simp only [List.mem_cons, List.mem_nil_iff, or_false] at hi; rcases hi with rfl | rfl
    ·
     refine doR rfl (o_call (is := []) Tryz.call18 (c_rSwap l[u] q zyp yq hfk hI.fq) rfl rfl (by repeat (first | exact Sub.d | (refine Sub.s ?_ ?_; (repeat (first | exact In.z | apply In.s))) | (refine Sub.suf ?_; (repeat (first | exact Suf.z | apply Suf.s))))) rfl) (TOk.x (by kernel_rfl) (TOk.x (by kernel_rfl) TOk.d)) ?_
     refine ea ?_; rintro ⟨⟨⟨r1, r2, r3⟩, z1, z2⟩, hr⟩
     obtain ⟨e1, e2⟩ := pswap_fit2 hr hfk hI.fq; dsimp only at hr e1 e2
     refine tk 6 rfl (by kernel_rfl) (fun _ _ _ h => h) gnone (TTany _) (p_move rfl) rfl ?_
     refine tk 7 rfl (by kernel_rfl) (fun _ _ _ h => h) gnone (TTany _) (p_ext rfl (by repeat (first | exact At.z | apply At.s))) rfl ?_
     refine tk 8 rfl (by kernel_rfl) (fun _ _ _ h => h) gnone (TTany _) (p_ext rfl (by repeat (first | exact At.z | apply At.s))) rfl ?_
     refine tk 9 rfl (by kernel_rfl) (fun _ _ _ h => h) gnone (TTany _) (p_ext rfl (by repeat (first | exact At.z | apply At.s))) rfl ?_
     refine df 10 (by kernel_rfl) ?_
     refine doR rfl (o_alloc Tryz.zeroValue25 rfl rfl) (TOk.x (by kernel_rfl) (TOk.x (by kernel_rfl) TOk.d)) ?_
     refine ea ?_; intro b9
     refine df 12 (by kernel_rfl) ?_
     refine doR rfl (o_st rfl Tryz.sizeOf25 rfl rfl rfl rfl rfl (by repeat (first | exact At.z | apply At.s)) (by repeat (first | exact Put.d | apply Put.t | apply Put.s)) (by repeat (first | exact SetAt.z | apply SetAt.s))) (TOk.x (by kernel_rfl) (TOk.x (by kernel_rfl) TOk.d)) ?_
     refine df 13 (by kernel_rfl) ?_
     refine doR rfl (o_st rfl Tryz.sizeOf25 rfl rfl rfl rfl rfl (by repeat (first | exact At.z | apply At.s)) (by repeat (first | exact Put.d | apply Put.t | apply Put.s)) (by repeat (first | exact SetAt.z | apply SetAt.s))) (TOk.x (by kernel_rfl) (TOk.x (by kernel_rfl) TOk.d)) ?_
     refine tk 14 rfl (by kernel_rfl) (fun _ _ _ h => h) gnone (TTany _) (p_asg rfl) rfl ?_
     refine dn (by kernel_rfl) (nmid (fun a w h => by first | exact ⟨b9, b10, r1, r2, r3, z1, z2, hr, e1, e2, wk (is := [1, 0, 0, 0]) (by repeat (first | exact subσ.nil _ | refine subσ.cons rfl ?_)) rfl (by repeat (first | exact Sub.d | (refine Sub.s ?_ ?_; (repeat (first | exact In.z | apply In.s))) | (refine Sub.suf ?_; (repeat (first | exact Suf.z | apply Suf.s))))) a w h⟩ | exact ⟨b9, b10, r1, r2, r3, z1, z2, hr, e1, e2, wk (is := [0, 0, 0, 0]) (by repeat (first | exact subσ.nil _ | refine subσ.cons rfl ?_)) rfl (by repeat (first | exact Sub.d | (refine Sub.s ?_ ?_; (repeat (first | exact In.z | apply In.s))) | (refine Sub.suf ?_; (repeat (first | exact Suf.z | apply Suf.s))))) a w h⟩))
    ·
     refine doR rfl (o_alloc Tryz.zeroValue25 rfl rfl) (TOk.t (isBoxE fun _ => isInS (by repeat (first | exact At.z | apply At.s)) (k := 0) rfl (z := 4) (by repeat (first | exact Cut.d | apply Cut.t | apply Cut.s))) (TOk.t (isBoxE fun _ => isBoxS (by repeat (first | exact At.z | apply At.s)) (k := 4) (by repeat (first | exact Cut.d | apply Cut.t | apply Cut.s))) TOk.d)) ?_
     refine ea ?_; intro b9
     refine df 5 (by kernel_rfl) ?_
     refine doR rfl (o_call (is := []) Tryz.call18 (c_rSwap l[u] q zyp yq hfk hI.fq) rfl rfl (by repeat (first | exact Sub.d | (refine Sub.s ?_ ?_; (repeat (first | exact In.z | apply In.s))) | (refine Sub.suf ?_; (repeat (first | exact Suf.z | apply Suf.s))))) rfl) (TOk.x (by kernel_rfl) (TOk.x (by kernel_rfl) TOk.d)) ?_
     refine ea ?_; rintro ⟨⟨⟨r1, r2, r3⟩, z1, z2⟩, hr⟩
     obtain ⟨e1, e2⟩ := pswap_fit2 hr hfk hI.fq; dsimp only at hr e1 e2
     refine tk 6 rfl (by kernel_rfl) (fun _ _ _ h => h) gnone (TTany _) (p_move rfl) rfl ?_
     refine tk 7 rfl (by kernel_rfl) (fun _ _ _ h => h) gnone (TTany _) (p_ext rfl (by repeat (first | exact At.z | apply At.s))) rfl ?_
     refine tk 8 rfl (by kernel_rfl) (fun _ _ _ h => h) gnone (TTany _) (p_ext rfl (by repeat (first | exact At.z | apply At.s))) rfl ?_
     refine tk 9 rfl (by kernel_rfl) (fun _ _ _ h => h) gnone (TTany _) (p_ext rfl (by repeat (first | exact At.z | apply At.s))) rfl ?_
     refine df 12 (by kernel_rfl) ?_
     refine doR rfl (o_st rfl Tryz.sizeOf25 rfl rfl rfl rfl rfl (by repeat (first | exact At.z | apply At.s)) (by repeat (first | exact Put.d | apply Put.t | apply Put.s)) (by repeat (first | exact SetAt.z | apply SetAt.s))) (TOk.x (by kernel_rfl) (TOk.x (by kernel_rfl) TOk.d)) ?_
     refine df 13 (by kernel_rfl) ?_
     refine doR rfl (o_st rfl Tryz.sizeOf25 rfl rfl rfl rfl rfl (by repeat (first | exact At.z | apply At.s)) (by repeat (first | exact Put.d | apply Put.t | apply Put.s)) (by repeat (first | exact SetAt.z | apply SetAt.s))) (TOk.x (by kernel_rfl) (TOk.x (by kernel_rfl) TOk.d)) ?_
     refine tk 14 rfl (by kernel_rfl) (fun _ _ _ h => h) gnone (TTany _) (p_asg rfl) rfl ?_
     refine dn (by kernel_rfl) (nmid (fun a w h => by first | exact ⟨b9, b10, r1, r2, r3, z1, z2, hr, e1, e2, wk (is := [1, 0, 0, 0]) (by repeat (first | exact subσ.nil _ | refine subσ.cons rfl ?_)) rfl (by repeat (first | exact Sub.d | (refine Sub.s ?_ ?_; (repeat (first | exact In.z | apply In.s))) | (refine Sub.suf ?_; (repeat (first | exact Suf.z | apply Suf.s))))) a w h⟩ | exact ⟨b9, b10, r1, r2, r3, z1, z2, hr, e1, e2, wk (is := [0, 0, 0, 0]) (by repeat (first | exact subσ.nil _ | refine subσ.cons rfl ?_)) rfl (by repeat (first | exact Sub.d | (refine Sub.s ?_ ?_; (repeat (first | exact In.z | apply In.s))) | (refine Sub.suf ?_; (repeat (first | exact Suf.z | apply Suf.s))))) a w h⟩))
  ·
   refine nex fun b9 => nex fun b10 => nex fun r1 => nex fun r2 => nex fun r3 => nex fun z1 => nex fun z2 => nex fun hr => nex fun e1 => nex fun e2 => ?_
   refine nthen ?_
   refine cs ?_
   refine cs ?_
   refine cr ?_
   refine ls (op (p_move rfl) rfl) ?_
   refine ls (op (p_not rfl) rfl) ?_
   refine ln ?_
   refine nthen ?_
   refine cc rfl ?_ ?_
   ·
    intro h30
    obtain rfl : false = r3 := by cases r3 <;> first | rfl | (simp at h30)
    refine cs ?_
    refine cmono (fun a w h => nilSl (α := Prim) h) ?_
    refine cmono (fun a w h => nilSl (α := Int) h) ?_
    refine cmono (fun a w h => nilSl (α := Patch) h) ?_
    refine cr ?_
    refine ls (op (p_bld sb25 rfl Fill.d) rfl) ?_
    refine ls (o_st rfl Tryz.sizeOf25 rfl rfl rfl rfl rfl (by repeat (first | exact At.z | apply At.s)) (by repeat (first | exact Put.d | apply Put.t | apply Put.s)) (by repeat (first | exact SetAt.z | apply SetAt.s))) ?_
    refine ls (op (p_asg rfl) rfl) ?_
    refine ls (op (p_asg rfl) rfl) ?_
    refine ln ?_
    refine nthen ?_
    refine cret ?_
    refine xret (fun _ _ h => h) ?_
    refine rret (is := []) ⟨((Patch.zero, [], false), (((none, 0), (none, 0)), (none, 0))), by rw [hI.stop hu hr]⟩ (Or.inl rfl) (Res.c rfl Tryz.isAgg25 Tryz.sizeOf25 (by repeat (first | exact At.z | apply At.s)) (by rfl) (Res.t rfl (Res.t rfl Res.d))) (rfl) rfl (by repeat (first | exact Sub.d | (refine Sub.s ?_ ?_; (repeat (first | exact In.z | apply In.s))) | (refine Sub.suf ?_; (repeat (first | exact Suf.z | apply Suf.s)))))
   ·
    intro h30
    obtain rfl : true = r3 := by cases r3 <;> first | rfl | (simp at h30)
    refine cskip ?_
    refine nthen ?_
    refine cs ?_
    refine cr ?_
    refine ls (o_ldw Tryz.isAgg25 Tryz.sizeOf25 rfl (by repeat (first | exact At.z | apply At.s)) (by rfl) rfl) ?_
    refine ls (o_st rfl Tryz.sizeOf25 rfl rfl rfl rfl rfl (by repeat (first | exact At.z | apply At.s)) (by repeat (first | exact Put.d | apply Put.t | apply Put.s)) (by repeat (first | exact SetAt.z | apply SetAt.s))) ?_
    refine ln ?_
    refine nthen ?_
    refine cr ?_
    refine ls (o_ldw Tryz.isAgg25 Tryz.sizeOf25 rfl (by repeat (first | exact At.z | apply At.s)) (by rfl) rfl) ?_
    refine ls (o_bsl [r2] Tryz.underlying42 Tryz.sizeOf25 Tryz.zeroValue25 rfl (Enum.t Enum.d) (RV.t z2 rfl (by repeat (first | exact Sub.d | (refine Sub.s ?_ ?_; (repeat (first | exact In.z | apply In.s))) | (refine Sub.suf ?_; (repeat (first | exact Suf.z | apply Suf.s))))) RV.d) rfl (by decide) (by decide) rfl) ?_
    refine le ?_; intro b34
    refine ls (op (p_move rfl) rfl) ?_
    refine ls (o_app (is := [0]) Tryz.underlying42 inf25 rfl (by decide) (by decide) rfl rfl (by simp only [List.length_cons, List.length_nil]; omega) (fun h _ => hA2 h) rfl (by repeat (first | exact Sub.d | (refine Sub.s ?_ ?_; (repeat (first | exact In.z | apply In.s))) | (refine Sub.suf ?_; (repeat (first | exact Suf.z | apply Suf.s))))) rfl) ?_
    refine le ?_; rintro ⟨A3, c3⟩
    refine lmono (fun a w h => Go.Sx.freeze (i := 0) rfl h) ?_
    refine ls (op (p_asg rfl) rfl) ?_
    refine ln ?_
    refine nblock ?_
    refine nthen ?_
    refine cr ?_
    refine ls (op (p_move rfl) rfl) ?_
    refine ls (op (p_sub rfl rfl (by omega)) rfl) ?_
    refine ls (op (p_asg rfl) rfl) ?_
    refine ln ?_
    refine nnext ⟨(j + 1, z - 1, r1, r2 :: rest, z1, (A3, c3)), by dsimp only; omega, by dsimp only; omega, hI.step hu hf hr, fun h => by cases h⟩ (by dsimp only; omega) (wk (is := [2, 2]) (by repeat (first | exact subσ.nil _ | refine subσ.cons rfl ?_)) rfl (by repeat (first | exact Sub.d | (refine Sub.s ?_ ?_; (repeat (first | exact In.z | apply In.s))) | (refine Sub.suf ?_; (repeat (first | exact Suf.z | apply Suf.s))))))
 ·
  intro h16
  dsimp only at hj hz hI hA2
  try simp only [decide_eq_true_eq, decide_eq_false_iff_not, Bool.not_eq_true', Bool.not_eq_false', Int.not_lt, Int.not_le, ge_iff_le, Bool.not_true, Bool.not_false] at h16
  have hd := hI.done (by omega)
  refine cexit ?_
  refine xthen ?_
  refine xthen ?_
  refine xblock ?_
  refine nthen ?_
  refine cs ?_
  refine cr ?_
  refine ls (o_ldw Tryz.isAgg25 Tryz.sizeOf25 rfl (by repeat (first | exact At.z | apply At.s)) (by rfl) rfl) ?_
  refine ls (op (p_move rfl) rfl) ?_
  refine ls (o_st rfl Tryz.sizeOf25 rfl rfl rfl rfl rfl (by repeat (first | exact At.z | apply At.s)) (by repeat (first | exact Put.d | apply Put.t | apply Put.s)) (by repeat (first | exact SetAt.z | apply SetAt.s))) ?_
  refine ls (op (p_asg rfl) rfl) ?_
  refine ls (op (p_asg rfl) rfl) ?_
  refine ln ?_
  refine nthen ?_
  refine cret ?_
  refine xret (fun _ _ h => h) ?_
  refine rret (is := []) ⟨((q, rest, true), (yq, (A2, c2))), hd.symm⟩ (Or.inl rfl) (Res.c rfl Tryz.isAgg25 Tryz.sizeOf25 (by repeat (first | exact At.z | apply At.s)) (by rfl) (Res.t rfl (Res.t rfl Res.d))) (rfl) rfl (by repeat (first | exact Sub.d | (refine Sub.s ?_ ?_; (repeat (first | exact In.z | apply In.s))) | (refine Sub.suf ?_; (repeat (first | exact Suf.z | apply Suf.s)))))

set_option maxRecDepth 100000 in
theorem c_rGroup (l : List Patch) (A : Option Addr) (c : Nat) (hl : l.length ≤ 2000000) (hf : ∀ x ∈ l, x.fit) : Con Tryz.prog 27 [.slice A l.length c] [] [slA A l] {x : (List Patch × List Patch) × ((Option Addr × Nat) × (Option Addr × Nat)) // x.1 = group l} (fun x => .tuple #[.slice x.1.2.1.1 x.1.1.1.length x.1.2.1.2, .slice x.1.2.2.1 x.1.1.2.length x.1.2.2.2]) (fun _ => []) (fun x => [slA x.1.2.1.1 x.1.1.1, slA x.1.2.2.1 x.1.1.2]) := by
 refine con Tryz.func27 rfl Tryz.ntmps27 rfl ?_
 intro M0 F0 w0
 refine cs ?_
 refine cr ?_
 refine ls (op (p_asg rfl) rfl) ?_
 refine ls (op (p_asg rfl) rfl) ?_
 refine ln ?_
 refine nthen ?_
 refine cs ?_
 refine cs ?_
 refine cr ?_
 refine ls (op (p_move rfl) rfl) ?_
 refine ls (op (p_lenl rfl Tryz.underlying42) rfl) ?_
 refine ls (op (p_icmp rfl rfl rfl) rfl) ?_
 refine ln ?_
 refine nthen ?_
 refine cc rfl ?_ ?_
 ·
  intro h12
  have hl0 : l = [] := by simpa using h12
  refine cs ?_
  refine cmono (fun a w h => nilSl (α := Patch) h) ?_
  refine cr ?_
  refine ls (op (p_asg rfl) rfl) ?_
  refine ls (op (p_asg rfl) rfl) ?_
  refine ln ?_
  refine nthen ?_
  refine cret ?_
  refine xret (fun _ _ h => h) ?_
  refine rret (is := []) ⟨(([], []), ((none, 0), (none, 0))), by rw [hl0]; rfl⟩ (Or.inl rfl) (Res.t rfl (Res.t rfl Res.d)) (rfl) rfl (by repeat (first | exact Sub.d | (refine Sub.s ?_ ?_; (repeat (first | exact In.z | apply In.s))) | (refine Sub.suf ?_; (repeat (first | exact Suf.z | apply Suf.s)))))
 ·
  intro h12
  have hpos : 0 < l.length := by have h := h12; simp at h; exact List.length_pos_iff.2 h
  refine cskip ?_
  refine nthen ?_
  refine cs ?_
  refine elC (by repeat (first | exact At.z | apply At.s)) 0 (List.getElem?_eq_getElem (l := l) hpos) ?_; rintro zbp zop zyp hAp
  refine cr ?_
  refine ls (op (p_move rfl) rfl) ?_
  refine ls (op (p_ia 0 hAp hpos rfl Tryz.underlying42 Tryz.sizeOf25 rfl rfl) rfl) ?_
  refine ls (o_ldj Tryz.isAgg25 Tryz.sizeOf25 rfl (by repeat (first | exact At.z | apply At.s)) 0 rfl (by repeat (first | exact Cut.d | apply Cut.t | apply Cut.s)) rfl) ?_
  refine ls (o_bsl [l[0]] Tryz.underlying42 Tryz.sizeOf25 Tryz.zeroValue25 rfl (Enum.t Enum.d) (RV.t zyp rfl (by repeat (first | exact Sub.d | (refine Sub.s ?_ ?_; (repeat (first | exact In.z | apply In.s))) | (refine Sub.suf ?_; (repeat (first | exact Suf.z | apply Suf.s))))) RV.d) rfl (by decide) (by decide) rfl) ?_
  refine le ?_; intro b16
  refine lmono (fun a w h => Go.Sx.freeze (i := 0) rfl h) ?_
  refine ls (op (p_asg rfl) rfl) ?_
  refine ln ?_
  refine nthen ?_
  refine cs ?_
  refine cr ?_
  refine ls (op (p_asg rfl) rfl) ?_
  refine ln ?_
  refine nthen ?_
  refine cs ?_
  refine cs ?_
  refine cmono (fun a w h => nilRow (α := Patch) 25 h) ?_
  refine cr ?_
  refine ls (op (p_asg rfl) rfl) ?_
  refine ln ?_
  refine nthen ?_
  refine cb ?_
  refine cl (ι := {q : Nat × List Patch × List Patch × (Option Addr × Nat) × (Option Addr × Nat) // q.1 ≤ l.length ∧ 0 < q.1 ∧ 0 < q.2.1.length ∧ GI l q.1 q.2.1 q.2.2.1}) (fun i => St M0 F0 w0 50 [(0, .slice A l.length c), (4, .slice i.1.2.2.2.1.1 (i.1.2.1).length i.1.2.2.2.1.2), (5, .slice i.1.2.2.2.2.1 (i.1.2.2.1).length i.1.2.2.2.2.2), (6, .int .i64 (i.1.1 : Int))] [row 25 (i.1.2.2.2.2.1) (i.1.2.2.2.2.2) i.1.2.2.1] [slA (i.1.2.2.2.1.1) (i.1.2.1), slA A l]) (fun i => l.length - i.1.1) ⟨(1, [l[0]], [], (some ⟨b16, 0, none⟩, 1), (none, 0)), hpos, Nat.one_pos, by simp, GI.first hpos hf⟩ (wk0 (by repeat (first | exact subσ.nil _ | refine subσ.cons rfl ?_)) (by repeat (first | exact Sub.d | (refine Sub.s ?_ ?_; (repeat (first | exact In.z | apply In.s))) | (refine Sub.suf ?_; (repeat (first | exact Suf.z | apply Suf.s)))))) ?_
  rintro ⟨⟨k, g, r, ⟨Ag, cg⟩, ⟨Ax, cx⟩⟩, hk, hk0, hg0, hI⟩
  refine cmono (S' := St M0 F0 w0 50 [(0, .slice A l.length c), (4, .slice Ag (g).length cg), (5, .slice Ax (r).length cx), (6, .int .i64 (k : Int))] [row 25 (Ax) (cx) r] [slA (Ag) (g), slA A l]) (fun _ _ h => h) ?_
  refine cs ?_
  refine cs ?_
  refine cr ?_
  refine ls (op (p_move rfl) rfl) ?_
  refine ls (op (p_move rfl) rfl) ?_
  refine ls (op (p_lenl rfl Tryz.underlying42) rfl) ?_
  refine ls (op (p_icmp rfl rfl rfl) rfl) ?_
  refine ln ?_
  refine nthen ?_
  refine cc rfl ?_ ?_
  ·
   intro h20
   dsimp only at hk hk0 hg0 hI
   try simp only [decide_eq_true_eq, decide_eq_false_iff_not, Bool.not_eq_true', Bool.not_eq_false', Int.not_lt, Int.not_le, ge_iff_le, Bool.not_true, Bool.not_false] at h20
   have hk1 : k < l.length := by omega
   have hgl := hI.len; have hfk := hf _ (List.getElem_mem hk1)
   refine cskip ?_
   refine nthen ?_
   refine cs ?_
   refine cb ?_
   refine cs ?_
   refine elC (by repeat (first | exact At.z | apply At.s)) k (List.getElem?_eq_getElem (l := l) hk1) ?_; rintro zbq zoq zyq hAq
   refine cr ?_
   refine ls (op (p_move rfl) rfl) ?_
   refine ls (op (p_move rfl) rfl) ?_
   refine ls (op (p_move rfl) rfl) ?_
   refine ls (op (p_ia k hAq hk1 rfl Tryz.underlying42 Tryz.sizeOf25 rfl rfl) rfl) ?_
   refine ls (o_ldj Tryz.isAgg25 Tryz.sizeOf25 rfl (by repeat (first | exact At.z | apply At.s)) 0 rfl (by repeat (first | exact Cut.d | apply Cut.t | apply Cut.s)) rfl) ?_
   refine ls (o_call (is := []) Tryz.call23 (c_rPast g Ag cg (by omega) hI.fg l[k] zyq hfk) rfl rfl (by repeat (first | exact Sub.d | (refine Sub.s ?_ ?_; (repeat (first | exact In.z | apply In.s))) | (refine Sub.suf ?_; (repeat (first | exact Suf.z | apply Suf.s))))) rfl) ?_
   refine le ?_; rintro ⟨⟨⟨q1, rest1, b3⟩, ⟨yq1, ⟨A1, c1⟩⟩⟩, hr⟩
   dsimp only at hr
   refine ls (op (p_move rfl) rfl) ?_
   refine ls (op (p_ext rfl (by repeat (first | exact At.z | apply At.s))) rfl) ?_
   refine ls (op (p_ext rfl (by repeat (first | exact At.z | apply At.s))) rfl) ?_
   refine ls (op (p_ext rfl (by repeat (first | exact At.z | apply At.s))) rfl) ?_
   refine ls (o_alloc Tryz.zeroValue25 rfl rfl) ?_
   refine le ?_; intro b7
   refine ls (o_st rfl Tryz.sizeOf25 rfl rfl rfl rfl rfl (by repeat (first | exact At.z | apply At.s)) (by repeat (first | exact Put.d | apply Put.t | apply Put.s)) (by repeat (first | exact SetAt.z | apply SetAt.s))) ?_
   refine ls (op (p_asg rfl) rfl) ?_
   refine ls (op (p_asg rfl) rfl) ?_
   refine ln ?_
   refine nthen ?_
   refine cs ?_
   refine cr ?_
   refine ls (op (p_move rfl) rfl) ?_
   refine ln ?_
   refine nthen ?_
   refine cc rfl ?_ ?_
   ·
    intro h33
    obtain rfl : true = b3 := by cases b3 <;> first | rfl | (simp at h33)
    have hok := ppast_ok hr hI.fg hfk
    refine cs ?_
    refine cr ?_
    refine ls (op (p_move rfl) rfl) ?_
    refine ls (op (p_asg rfl) rfl) ?_
    refine ln ?_
    refine nthen ?_
    refine cr ?_
    refine ls (op (p_move rfl) rfl) ?_
    refine ls (o_ldw Tryz.isAgg25 Tryz.sizeOf25 rfl (by repeat (first | exact At.z | apply At.s)) (by rfl) rfl) ?_
    refine ls (o_bsl [q1] Tryz.underlying42 Tryz.sizeOf25 Tryz.zeroValue25 rfl (Enum.t Enum.d) (RV.t yq1 rfl (by repeat (first | exact Sub.d | (refine Sub.s ?_ ?_; (repeat (first | exact In.z | apply In.s))) | (refine Sub.suf ?_; (repeat (first | exact Suf.z | apply Suf.s))))) RV.d) rfl (by decide) (by decide) rfl) ?_
    refine le ?_; intro b37
    refine lmono (fun a w h => Go.Sx.freeze (i := 0) rfl h) ?_
    refine ls (o_app (is := [1]) Tryz.underlying42 inf25 rfl (by decide) (by decide) rfl rfl (by simp only [List.length_cons, List.length_nil]; omega) (fun h => by cases h) rfl (by repeat (first | exact Sub.d | (refine Sub.s ?_ ?_; (repeat (first | exact In.z | apply In.s))) | (refine Sub.suf ?_; (repeat (first | exact Suf.z | apply Suf.s))))) rfl) ?_
    refine le ?_; rintro ⟨A2, c2⟩
    refine ls (op (p_asg rfl) rfl) ?_
    refine ln ?_
    refine nblock ?_
    refine nthen ?_
    refine cr ?_
    refine ls (op (p_move rfl) rfl) ?_
    refine ls (op (p_add rfl rfl (by omega)) rfl) ?_
    refine ls (op (p_asg rfl) rfl) ?_
    refine ln ?_
    refine nnext ⟨(k + 1, rest1, r ++ [q1], (A1, c1), (A2, c2)), hk1, Nat.succ_pos _, by dsimp only; omega, hI.yes hk1 (by omega) hf hr⟩ (by dsimp only; omega) (wk (is := [0]) (by repeat (first | exact subσ.nil _ | refine subσ.cons rfl ?_)) rfl (by repeat (first | exact Sub.d | (refine Sub.s ?_ ?_; (repeat (first | exact In.z | apply In.s))) | (refine Sub.suf ?_; (repeat (first | exact Suf.z | apply Suf.s))))))
   ·
    intro h33
    obtain rfl : false = b3 := by cases b3 <;> first | rfl | (simp at h33)
    refine elC (by repeat (first | exact At.z | apply At.s)) k (List.getElem?_eq_getElem (l := l) hk1) ?_; rintro zbu zou zyu hAu
    refine cutC (S' := fun a w => ∃ (A5 : Option Addr) (c5 : Nat), St M0 F0 w0 50 [(0, .slice A l.length c), (4, .slice A5 (g ++ [l[k]]).length c5), (5, .slice Ax r.length cx), (6, .int .i64 (k : Int))] [row 25 Ax cx r] [slA A5 (g ++ [l[k]]), slA A l] a w) ?_ ?_
    ·
     refine cd [0, 2, 7, 8] [(6, zbu, zou + k * Rp.size Patch, _)] TryzX.mixed (TOk.t (isInS (by repeat (first | exact At.z | apply At.s)) (k := 0) rfl (z := 4) (by repeat (first | exact Cut.d | apply Cut.t | apply Cut.s))) TOk.d) ?_
     refine tk 1 rfl (by kernel_rfl) (fun _ _ _ h => h) gnone (TTany _) (p_move rfl) rfl ?_
     refine tk 3 rfl (by kernel_rfl) (fun _ _ _ h => h) gnone (TTany _) (p_move rfl) rfl ?_
     refine tk 4 rfl (by kernel_rfl) (fun _ _ _ h => h) gnone (TTany _) (p_move rfl) rfl ?_
     refine tk 5 rfl (by kernel_rfl) (fun _ _ _ h => h) gnone (TTany _) (p_ia k hAu hk1 rfl Tryz.underlying42 Tryz.sizeOf25 rfl rfl) rfl ?_
     refine tk 6 rfl (by kernel_rfl) (fun _ _ _ h => h) gnone (TTat (List.Mem.head _)) (p_lda Tryz.isAgg25 Tryz.sizeOf25 rfl rfl) rfl ?_
     refine dall (is := [0, 7]) (by kernel_rfl) rfl ?_
     intro i hi; simp only [List.mem_cons, List.mem_nil_iff, or_false] at hi; rcases hi with rfl | rfl
     ·
      refine doR rfl (o_bsl ([] : List Patch) Tryz.underlying42 Tryz.sizeOf25 Tryz.zeroValue25 rfl Enum.d RV.d rfl (by decide) (by decide) rfl) (TOk.t (isBoxE fun _ => isInS (by repeat (first | exact At.z | apply At.s)) (k := 0) rfl (z := 4) (by repeat (first | exact Cut.d | apply Cut.t | apply Cut.s))) TOk.d) ?_
      refine ea ?_; intro b39
      refine dall (is := [2, 7]) (by kernel_rfl) rfl ?_
      intro i hi; simp only [List.mem_cons, List.mem_nil_iff, or_false] at hi; rcases hi with rfl | rfl
      ·
       refine doR rfl (o_app (is := [0]) Tryz.underlying42 inf25 rfl (by decide) (by decide) rfl rfl (by simp only [List.length_nil]; omega) (fun h => absurd h (by intro e; rw [e] at hg0; simp at hg0)) rfl (by repeat (first | exact Sub.d | (refine Sub.s ?_ ?_; (repeat (first | exact In.z | apply In.s))) | (refine Sub.suf ?_; (repeat (first | exact Suf.z | apply Suf.s))))) rfl) (TOk.t (isBoxE fun _ => isInS (by repeat (first | exact At.z | apply At.s)) (k := 0) rfl (z := 4) (by repeat (first | exact Cut.d | apply Cut.t | apply Cut.s))) TOk.d) ?_
       refine ea ?_; rintro ⟨A4, c4⟩
       refine df 7 (by kernel_rfl) ?_
       refine doR rfl (o_bsl [l[k]] Tryz.underlying42 Tryz.sizeOf25 Tryz.zeroValue25 rfl (Enum.t Enum.d) (RV.t zyu rfl (by repeat (first | exact Sub.d | (refine Sub.s ?_ ?_; (repeat (first | exact In.z | apply In.s))) | (refine Sub.suf ?_; (repeat (first | exact Suf.z | apply Suf.s))))) RV.d) rfl (by decide) (by decide) rfl) (TOk.x (by kernel_rfl) TOk.d) ?_
       refine ea ?_; intro b46
       refine amono (fun a w h => Go.Sx.freeze (i := 0) rfl h) ?_
       refine df 8 (by kernel_rfl) ?_
       refine doR rfl (o_app (is := [0]) Tryz.underlying42 inf25 rfl (by decide) (by decide) rfl rfl (by simp only [List.length_append, List.length_cons, List.length_nil]; omega) (fun h => by cases h) rfl (by repeat (first | exact Sub.d | (refine Sub.s ?_ ?_; (repeat (first | exact In.z | apply In.s))) | (refine Sub.suf ?_; (repeat (first | exact Suf.z | apply Suf.s))))) rfl) (TOk.x (by kernel_rfl) TOk.d) ?_
       refine ea ?_; rintro ⟨A5, c5⟩
       refine amono (fun a w h => Go.Sx.freeze (i := 0) rfl h) ?_
       refine tk 9 rfl (by kernel_rfl) (fun _ _ _ h => h) gnone (TTany _) (p_asg rfl) rfl ?_
       refine dn (by kernel_rfl) (nmid (fun a w h => by first | exact ⟨A5, c5, wk (is := [1]) (by repeat (first | exact subσ.nil _ | refine subσ.cons rfl ?_)) rfl (by repeat (first | exact Sub.d | (refine Sub.s ?_ ?_; (repeat (first | exact In.z | apply In.s))) | (refine Sub.suf ?_; (repeat (first | exact Suf.z | apply Suf.s))))) a w h⟩))
      ·
       refine doR rfl (o_bsl [l[k]] Tryz.underlying42 Tryz.sizeOf25 Tryz.zeroValue25 rfl (Enum.t Enum.d) (RV.t zyu rfl (by repeat (first | exact Sub.d | (refine Sub.s ?_ ?_; (repeat (first | exact In.z | apply In.s))) | (refine Sub.suf ?_; (repeat (first | exact Suf.z | apply Suf.s))))) RV.d) rfl (by decide) (by decide) rfl) (TOk.x (by kernel_rfl) TOk.d) ?_
       refine ea ?_; intro b46
       refine amono (fun a w h => Go.Sx.freeze (i := 0) rfl h) ?_
       refine df 2 (by kernel_rfl) ?_
       refine doR rfl (o_app (is := [0]) Tryz.underlying42 inf25 rfl (by decide) (by decide) rfl rfl (by simp only [List.length_nil]; omega) (fun h => absurd h (by intro e; rw [e] at hg0; simp at hg0)) rfl (by repeat (first | exact Sub.d | (refine Sub.s ?_ ?_; (repeat (first | exact In.z | apply In.s))) | (refine Sub.suf ?_; (repeat (first | exact Suf.z | apply Suf.s))))) rfl) (TOk.x (by kernel_rfl) TOk.d) ?_
       refine ea ?_; rintro ⟨A4, c4⟩
       refine df 8 (by kernel_rfl) ?_
       refine doR rfl (o_app (is := [0]) Tryz.underlying42 inf25 rfl (by decide) (by decide) rfl rfl (by simp only [List.length_append, List.length_cons, List.length_nil]; omega) (fun h => by cases h) rfl (by repeat (first | exact Sub.d | (refine Sub.s ?_ ?_; (repeat (first | exact In.z | apply In.s))) | (refine Sub.suf ?_; (repeat (first | exact Suf.z | apply Suf.s))))) rfl) (TOk.x (by kernel_rfl) TOk.d) ?_
       refine ea ?_; rintro ⟨A5, c5⟩
       refine amono (fun a w h => Go.Sx.freeze (i := 0) rfl h) ?_
       refine tk 9 rfl (by kernel_rfl) (fun _ _ _ h => h) gnone (TTany _) (p_asg rfl) rfl ?_
       refine dn (by kernel_rfl) (nmid (fun a w h => by first | exact ⟨A5, c5, wk (is := [1]) (by repeat (first | exact subσ.nil _ | refine subσ.cons rfl ?_)) rfl (by repeat (first | exact Sub.d | (refine Sub.s ?_ ?_; (repeat (first | exact In.z | apply In.s))) | (refine Sub.suf ?_; (repeat (first | exact Suf.z | apply Suf.s))))) a w h⟩))
     ·
      refine doR rfl (o_bsl [l[k]] Tryz.underlying42 Tryz.sizeOf25 Tryz.zeroValue25 rfl (Enum.t Enum.d) (RV.t zyu rfl (by repeat (first | exact Sub.d | (refine Sub.s ?_ ?_; (repeat (first | exact In.z | apply In.s))) | (refine Sub.suf ?_; (repeat (first | exact Suf.z | apply Suf.s))))) RV.d) rfl (by decide) (by decide) rfl) (TOk.x (by kernel_rfl) TOk.d) ?_
      refine ea ?_; intro b46
      refine amono (fun a w h => Go.Sx.freeze (i := 0) rfl h) ?_
      refine df 0 (by kernel_rfl) ?_
      refine doR rfl (o_bsl ([] : List Patch) Tryz.underlying42 Tryz.sizeOf25 Tryz.zeroValue25 rfl Enum.d RV.d rfl (by decide) (by decide) rfl) (TOk.x (by kernel_rfl) TOk.d) ?_
      refine ea ?_; intro b39
      refine df 2 (by kernel_rfl) ?_
      refine doR rfl (o_app (is := [0]) Tryz.underlying42 inf25 rfl (by decide) (by decide) rfl rfl (by simp only [List.length_nil]; omega) (fun h => absurd h (by intro e; rw [e] at hg0; simp at hg0)) rfl (by repeat (first | exact Sub.d | (refine Sub.s ?_ ?_; (repeat (first | exact In.z | apply In.s))) | (refine Sub.suf ?_; (repeat (first | exact Suf.z | apply Suf.s))))) rfl) (TOk.x (by kernel_rfl) TOk.d) ?_
      refine ea ?_; rintro ⟨A4, c4⟩
      refine df 8 (by kernel_rfl) ?_
      refine doR rfl (o_app (is := [0]) Tryz.underlying42 inf25 rfl (by decide) (by decide) rfl rfl (by simp only [List.length_append, List.length_cons, List.length_nil]; omega) (fun h => by cases h) rfl (by repeat (first | exact Sub.d | (refine Sub.s ?_ ?_; (repeat (first | exact In.z | apply In.s))) | (refine Sub.suf ?_; (repeat (first | exact Suf.z | apply Suf.s))))) rfl) (TOk.x (by kernel_rfl) TOk.d) ?_
      refine ea ?_; rintro ⟨A5, c5⟩
      refine amono (fun a w h => Go.Sx.freeze (i := 0) rfl h) ?_
      refine tk 9 rfl (by kernel_rfl) (fun _ _ _ h => h) gnone (TTany _) (p_asg rfl) rfl ?_
      refine dn (by kernel_rfl) (nmid (fun a w h => by first | exact ⟨A5, c5, wk (is := [1]) (by repeat (first | exact subσ.nil _ | refine subσ.cons rfl ?_)) rfl (by repeat (first | exact Sub.d | (refine Sub.s ?_ ?_; (repeat (first | exact In.z | apply In.s))) | (refine Sub.suf ?_; (repeat (first | exact Suf.z | apply Suf.s))))) a w h⟩))
    ·
     refine nex fun A5 => nex fun c5 => ?_
     refine nblock ?_
     refine nthen ?_
     refine cr ?_
     refine ls (op (p_move rfl) rfl) ?_
     refine ls (op (p_add rfl rfl (by omega)) rfl) ?_
     refine ls (op (p_asg rfl) rfl) ?_
     refine ln ?_
     refine nnext ⟨(k + 1, g ++ [l[k]], r, (A5, c5), (Ax, cx)), hk1, Nat.succ_pos _, by simp, hI.no hk1 hf (.inr hr)⟩ (by dsimp only; omega) (wk (is := [0]) (by repeat (first | exact subσ.nil _ | refine subσ.cons rfl ?_)) rfl (by repeat (first | exact Sub.d | (refine Sub.s ?_ ?_; (repeat (first | exact In.z | apply In.s))) | (refine Sub.suf ?_; (repeat (first | exact Suf.z | apply Suf.s))))))
  ·
   intro h20
   dsimp only at hk hk0 hg0 hI
   try simp only [decide_eq_true_eq, decide_eq_false_iff_not, Bool.not_eq_true', Bool.not_eq_false', Int.not_lt, Int.not_le, ge_iff_le, Bool.not_true, Bool.not_false] at h20
   have hd := hI.done (by omega)
   refine cexit ?_
   refine xthen ?_
   refine xthen ?_
   refine xblock ?_
   refine nthen ?_
   refine cs ?_
   refine cmono (fun a w h => Go.Sx.freeze (i := 0) rfl h) ?_
   refine cr ?_
   refine ls (op (p_move rfl) rfl) ?_
   refine ls (op (p_move rfl) rfl) ?_
   refine ls (op (p_asg rfl) rfl) ?_
   refine ls (op (p_asg rfl) rfl) ?_
   refine ln ?_
   refine nthen ?_
   refine cret ?_
   refine xret (fun _ _ h => h) ?_
   refine rret (is := []) ⟨((g, r), ((Ag, cg), (Ax, cx))), hd.symm⟩ (Or.inl rfl) (Res.t rfl (Res.t rfl Res.d)) (rfl) rfl (by repeat (first | exact Sub.d | (refine Sub.s ?_ ?_; (repeat (first | exact In.z | apply In.s))) | (refine Sub.suf ?_; (repeat (first | exact Suf.z | apply Suf.s)))))

end Go.Proofs.YtogcgfdfabnjhaaGreatDoor.X

end
section
set_option linter.unusedVariables false
set_option linter.unusedSimpArgs false
namespace Go.Proofs.YtogcgfdfabnjhaaGreatDoor.X
open Go Go.RowKit Go.Proofs Go.Sx
attribute [local irreducible] slA isA box row

def Patch.many (p : Patch) : Nat := 1 + p.note.size + p.deps.length + Sx.many p.l
def pmany (l : List Patch) : Nat := (l.map Patch.many).sum
def ppre (l : List Patch) (k : Nat) : Nat := ((l.take k).map Patch.many).sum
theorem ppre_succ {l : List Patch} {k : Nat} (h : k < l.length) : ppre l (k + 1) = ppre l k + l[k].many := by
 unfold ppre
 rw [List.take_succ_eq_append_getElem h, List.map_append, List.sum_append]
 simp only [List.map_cons, List.map_nil, List.sum_cons, List.sum_nil, Nat.add_zero]
theorem ppre_le (l : List Patch) (k : Nat) : ppre l k ≤ pmany l := by
 unfold ppre pmany
 have := sum_take (l.map Patch.many) k
 rw [← List.map_take] at this
 exact this
def ptot (l : List Patch) : Nat := (l.map fun p => p.l.length).sum
def pprt (l : List Patch) (k : Nat) : Nat := ((l.take k).map fun p => p.l.length).sum
theorem pprt_succ {l : List Patch} {k : Nat} (h : k < l.length) : pprt l (k + 1) = pprt l k + l[k].l.length := by
 unfold pprt
 rw [List.take_succ_eq_append_getElem h, List.map_append, List.sum_append]
 simp only [List.map_cons, List.map_nil, List.sum_cons, List.sum_nil, Nat.add_zero]
theorem many_len (l : List Prim) : l.length ≤ many l := by unfold many; omega
theorem pprt_le (l : List Patch) (k : Nat) : pprt l k ≤ pmany l := by
 have h1 : pprt l k ≤ ptot l := by
  unfold pprt ptot
  have := sum_take (l.map fun p => p.l.length) k
  rw [← List.map_take] at this
  exact this
 have h2 : ptot l ≤ pmany l := by
  unfold ptot pmany
  clear h1
  induction l with
  | nil => simp
  | cons x l ih =>
   simp only [List.map_cons, List.sum_cons]
   have := many_len x.l
   have : x.l.length ≤ x.many := by unfold Patch.many; omega
   omega
 omega
def fewB (l : List Patch) : Bool := decide ((l.length : Int) ≤ 12) && decide ((ptot l : Int) ≤ 40) && decide ((pmany l : Int) ≤ 6000)
def aA : Prim := ⟨1, ⟨#[97]⟩, ⟨#[]⟩, 0, [], []⟩
def aB : Prim := ⟨1, ⟨#[98]⟩, ⟨#[]⟩, 0, [], []⟩
def aC : Prim := ⟨1, ⟨#[99]⟩, ⟨#[]⟩, 0, [], []⟩
def aH : Prim := ⟨0, ⟨#[97]⟩, ⟨#[]⟩, 0, [], [⟨#[120]⟩]⟩
def qA : Patch := ⟨1, ⟨#[]⟩, [], [aA]⟩
def qB : Patch := ⟨2, ⟨#[98]⟩, [], [aB]⟩
def qC : Patch := ⟨3, ⟨#[]⟩, [], [aH]⟩
def qD : Patch := ⟨9, ⟨#[]⟩, [], [aC]⟩
theorem fit_of {p : Prim} (h1 : p.old.length ≤ 2000000) (h2 : p.new.length ≤ 2000000) (h3 : p.name.size ≤ 2000000) (h4 : p.to.size ≤ 2000000) (h5 : p.old.all (fun s => decide (s.size ≤ 2000000)) = true) (h6 : p.new.all (fun s => decide (s.size ≤ 2000000)) = true) : p.fit :=
 ⟨h1, h2, h3, h4, (fun s h => by simpa using List.all_eq_true.1 h5 s h), (fun s h => by simpa using List.all_eq_true.1 h6 s h)⟩
theorem fitaA : aA.fit := fit_of (by decide) (by decide) (by decide) (by decide) (by decide) (by decide)
theorem fitaB : aB.fit := fit_of (by decide) (by decide) (by decide) (by decide) (by decide) (by decide)
theorem fitaC : aC.fit := fit_of (by decide) (by decide) (by decide) (by decide) (by decide) (by decide)
theorem fitaH : aH.fit := fit_of (by decide) (by decide) (by decide) (by decide) (by decide) (by decide)
theorem fitqA : qA.fit := ⟨by decide, by decide, by decide, fun x h => by simp [qA] at h; subst h; exact fitaA⟩
theorem fitqB : qB.fit := ⟨by decide, by decide, by decide, fun x h => by simp [qB] at h; subst h; exact fitaB⟩
theorem fitqC : qC.fit := ⟨by decide, by decide, by decide, fun x h => by simp [qC] at h; subst h; exact fitaH⟩
theorem fitqD : qD.fit := ⟨by decide, by decide, by decide, fun x h => by simp [qD] at h; subst h; exact fitaC⟩
theorem fit3 : ∀ x ∈ [qA, qB, qC], x.fit := by intro x h; simp at h; rcases h with rfl | rfl | rfl; exact fitqA; exact fitqB; exact fitqC
theorem fit2 : ∀ x ∈ [qA, qB], x.fit := by intro x h; simp at h; rcases h with rfl | rfl; exact fitqA; exact fitqB
theorem al1 : group [qA, qB, qC] = ([qA, qC], [qB]) := by decide +kernel
theorem al2 : pswap qA qB = (qB, qA, true) := by decide +kernel
theorem al3 : ppast [qA, qB] qD = (qD, [qA, qB], true) := by decide +kernel
theorem al4 : pswap qA qC = (Patch.zero, Patch.zero, false) := by decide +kernel
theorem al5 : qA.right = true := by decide +kernel
theorem al6 : Patch.zero.right = false := by decide +kernel
theorem al7 : (!(pswap qA qC).2.2) = true := by rw [al4]; rfl
theorem pthree {a b c d : Patch} {e f : Bool} (h : (a, b, e) = (c, d, f)) : a = c ∧ b = d ∧ e = f := by simpa using h
theorem ptwo_eq {α β : Type} {a c : α} {b d : β} (h : (a, b) = (c, d)) : a = c ∧ b = d := by simpa using h
theorem pthr2 {α β γ : Type} {a c : α} {b d : β} {e f : γ} (h : (a, b, e) = (c, d, f)) : a = c ∧ b = d ∧ e = f := by simpa using h


set_option maxRecDepth 100000 in
theorem c_Many7 (l : List Patch) (A : Option Addr) (c : Nat) (hl : l.length ≤ 2000000) (hf : ∀ x ∈ l, x.fit) (hM : pmany l ≤ 1000000000000) : Con Tryz.prog 33 [.slice A l.length c] [] [slA A l] Unit (fun _ => .int .i64 (pmany l : Int)) (fun _ => []) (fun _ => []) := by
 refine con Tryz.func33 rfl Tryz.ntmps33 rfl ?_
 intro M0 F0 w0
 refine cs ?_
 refine cr ?_
 refine ls (op (p_asg rfl) rfl) ?_
 refine ln ?_
 refine nthen ?_
 refine cs ?_
 refine cr ?_
 refine ls (op (p_asg rfl) rfl) ?_
 refine ln ?_
 refine nthen ?_
 refine cs ?_
 refine cs ?_
 refine cr ?_
 refine ls (op (p_move rfl) rfl) ?_
 refine ls (op (p_lenl rfl Tryz.underlying42) rfl) ?_
 refine ls (op (p_move rfl) rfl) ?_
 refine ln ?_
 refine nthen ?_
 refine cb ?_
 refine cl (ι := {q : Nat × Int // q.1 ≤ l.length ∧ q.2 = (ppre l q.1 : Nat)}) (fun i => St M0 F0 w0 28 [(6, .slice A l.length c), (7, .int .i64 (l.length : Int)), (8, .int .i64 (i.1.1 : Int)), (3, .int .i64 i.1.2)] [] [slA A l]) (fun i => l.length - i.1.1) ⟨(0, 0), by simp [ppre]⟩ (wk0 (by repeat (first | exact subσ.nil _ | refine subσ.cons rfl ?_)) (by repeat (first | exact Sub.d | (refine Sub.s ?_ ?_; (repeat (first | exact In.z | apply In.s))) | (refine Sub.suf ?_; (repeat (first | exact Suf.z | apply Suf.s)))))) ?_
 rintro ⟨⟨k, n⟩, hk, hn⟩
 refine cmono (S' := St M0 F0 w0 28 [(6, .slice A l.length c), (7, .int .i64 (l.length : Int)), (8, .int .i64 (k : Int)), (3, .int .i64 n)] [] [slA A l]) (fun _ _ h => h) ?_
 refine cs ?_
 refine cr ?_
 refine ls (op (p_icmp rfl rfl rfl) rfl) ?_
 refine ln ?_
 refine nthen ?_
 refine cs ?_
 refine cc rfl ?_ ?_
 ·
  intro h9
  dsimp only at hk hn
  try simp only [decide_eq_true_eq, decide_eq_false_iff_not, Bool.not_eq_true', Bool.not_eq_false', Int.not_lt, Int.not_le, ge_iff_le, Bool.not_true, Bool.not_false] at h9
  have hk1 : k < l.length := by omega
  have hs := ppre_succ hk1
  have ht := ppre_le l (k + 1)
  have hu : l[k].many = 1 + l[k].note.size + l[k].deps.length + many l[k].l := rfl
  refine cskip ?_
  refine nthen ?_
  refine cs ?_
  refine cb ?_
  refine cs ?_
  refine elC (by repeat (first | exact At.z | apply At.s)) k (List.getElem?_eq_getElem (l := l) hk1) ?_; rintro zbp zop zyp hAp
  refine cr ?_
  refine ls (op (p_ia k hAp hk1 rfl Tryz.underlying42 Tryz.sizeOf25 rfl rfl) rfl) ?_
  refine ls (o_ldj Tryz.isAgg25 Tryz.sizeOf25 rfl (by repeat (first | exact At.z | apply At.s)) 0 rfl (by repeat (first | exact Cut.d | apply Cut.t | apply Cut.s)) rfl) ?_
  refine ls (o_alloc Tryz.zeroValue25 rfl rfl) ?_
  refine le ?_; intro b5
  refine ls (o_st rfl Tryz.sizeOf25 rfl rfl rfl rfl rfl (by repeat (first | exact At.z | apply At.s)) (by repeat (first | exact Put.d | apply Put.t | apply Put.s)) (by repeat (first | exact SetAt.z | apply SetAt.s))) ?_
  refine ln ?_
  refine nthen ?_
  refine cdB [11] [(2, b5, 1, _), (6, b5, 2, _), (10, b5, 3, _)] TryzX.mixed (by kernel_rfl) (by kernel_rfl) (TOk.t (isBoxS (by repeat (first | exact At.z | apply At.s)) (k := 1) (by repeat (first | exact Cut.d | apply Cut.t | apply Cut.s))) (TOk.t (isBoxS (by repeat (first | exact At.z | apply At.s)) (k := 1) (by repeat (first | exact Cut.d | apply Cut.t | apply Cut.s))) (TOk.t (isBoxS (by repeat (first | exact At.z | apply At.s)) (k := 1) (by repeat (first | exact Cut.d | apply Cut.t | apply Cut.s))) TOk.d))) ?_
  refine tkB 0 rfl (by kernel_rfl) (fun _ _ _ h => h) gnone (TTany _) (p_move rfl) rfl ?_
  refine tkB 1 rfl (by kernel_rfl) (fun _ _ _ h => h) gnone (TTany _) (p_fa fa25_1 rfl) rfl ?_
  refine tkB 2 rfl (by kernel_rfl) (fun _ _ _ h => h) gnone (TTat (List.Mem.head _)) (p_ld Tryz.isAgg9 rfl) rfl ?_
  refine tkB 3 rfl (by kernel_rfl) (fun _ _ _ h => h) gnone (TTany _) (p_lens rfl Tryz.underlying9) rfl ?_
  refine tkB 4 rfl (by kernel_rfl) (fun _ _ _ h => h) gnone (TTany _) (p_add rfl rfl (by omega)) rfl ?_
  refine tkB 5 rfl (by kernel_rfl) (fun _ _ _ h => h) gnone (TTany _) (p_fa fa25_2 rfl) rfl ?_
  refine tkB 6 rfl (by kernel_rfl) (fun _ _ _ h => h) gnone (TTat (List.Mem.tail _ (List.Mem.head _))) (p_ld Tryz.isAgg22 rfl) rfl ?_
  refine tkB 7 rfl (by kernel_rfl) (fun _ _ _ h => h) gnone (TTany _) (p_lenl rfl Tryz.underlying22) rfl ?_
  refine tkB 8 rfl (by kernel_rfl) (fun _ _ _ h => h) gnone (TTany _) (p_add rfl rfl (by omega)) rfl ?_
  refine tkB 9 rfl (by kernel_rfl) (fun _ _ _ h => h) gnone (TTany _) (p_fa fa25_3 rfl) rfl ?_
  refine tkB 10 rfl (by kernel_rfl) (fun _ _ _ h => h) gnone (TTat (List.Mem.tail _ (List.Mem.tail _ (List.Mem.head _)))) (p_ld Tryz.isAgg23 rfl) rfl ?_
  refine dfB 11 (by kernel_rfl) ?_
  refine doRB rfl (o_call (is := []) Tryz.call58 (c_Many l[k].l _ _ (hf _ (List.getElem_mem hk1)).ll (by omega)) rfl rfl (by repeat (first | exact Sub.d | (refine Sub.s ?_ ?_; (repeat (first | exact In.z | apply In.s))) | (refine Sub.suf ?_; (repeat (first | exact Suf.z | apply Suf.s))))) rfl) (TOk.t (isBoxE fun _ => isBoxS (by repeat (first | exact At.z | apply At.s)) (k := 1) (by repeat (first | exact Cut.d | apply Cut.t | apply Cut.s))) (TOk.t (isBoxE fun _ => isBoxS (by repeat (first | exact At.z | apply At.s)) (k := 1) (by repeat (first | exact Cut.d | apply Cut.t | apply Cut.s))) (TOk.xP 11 [] (by kernel_rfl) TOk.d))) ?_
  refine eaB ?_; intro x23
  refine tkB 12 rfl (by kernel_rfl) (fun _ _ _ h => h) gnone (TTany _) (p_add rfl rfl (by omega)) rfl ?_
  refine tkB 13 rfl (by kernel_rfl) (fun _ _ _ h => h) gnone (TTany _) (p_add rfl rfl (by omega)) rfl ?_
  refine tkB 14 rfl (by kernel_rfl) (fun _ _ _ h => h) gnone (TTany _) (p_asg rfl) rfl ?_
  refine dnB (by kernel_rfl) ?_
  refine nblock ?_
  refine nthen ?_
  refine cr ?_
  refine ls (op (p_add rfl rfl (by omega)) rfl) ?_
  refine ls (op (p_move rfl) rfl) ?_
  refine ln ?_
  refine nnext ⟨(k + 1, n + (((1 + (l[k].note.size : Int)) + l[k].deps.length) + (many l[k].l : Int))), hk1, by dsimp only; omega⟩ (by dsimp only; omega) (wk (is := []) (by repeat (first | exact subσ.nil _ | refine subσ.cons rfl ?_)) rfl (by repeat (first | exact Sub.d | (refine Sub.s ?_ ?_; (repeat (first | exact In.z | apply In.s))) | (refine Sub.suf ?_; (repeat (first | exact Suf.z | apply Suf.s))))))
 ·
  intro h9
  dsimp only at hk hn
  try simp only [decide_eq_true_eq, decide_eq_false_iff_not, Bool.not_eq_true', Bool.not_eq_false', Int.not_lt, Int.not_le, ge_iff_le, Bool.not_true, Bool.not_false] at h9
  obtain rfl : k = l.length := by omega
  refine cexit ?_
  refine xthen ?_
  refine xthen ?_
  refine xblock ?_
  refine nthen ?_
  refine cs ?_
  refine cr ?_
  refine ls (op (p_move rfl) rfl) ?_
  refine ls (op (p_asg rfl) rfl) ?_
  refine ln ?_
  refine nthen ?_
  refine cret ?_
  refine xret (fun _ _ h => h) ?_
  refine rret (is := []) () (Or.inl rfl) (Res.t rfl Res.d) ?_ rfl (by repeat (first | exact Sub.d | (refine Sub.s ?_ ?_; (repeat (first | exact In.z | apply In.s))) | (refine Sub.suf ?_; (repeat (first | exact Suf.z | apply Suf.s)))))
  simp only [packV]; rw [hn]; unfold ppre pmany; rw [List.take_length]

set_option maxRecDepth 100000 in
theorem c_few7 (l : List Patch) (A : Option Addr) (c : Nat) (hl : l.length ≤ 2000000) (hf : ∀ x ∈ l, x.fit) (hM : pmany l ≤ 1000000000000) : Con Tryz.prog 9 [.slice A l.length c] [] [slA A l] Unit (fun _ => .bool (fewB l)) (fun _ => []) (fun _ => []) := by
 refine con Tryz.func9 rfl Tryz.ntmps9 rfl ?_
 intro M0 F0 w0
 refine cs ?_
 refine cr ?_
 refine ls (op (p_asg rfl) rfl) ?_
 refine ln ?_
 refine nthen ?_
 refine cs ?_
 refine cr ?_
 refine ls (op (p_asg rfl) rfl) ?_
 refine ln ?_
 refine nthen ?_
 refine cs ?_
 refine cs ?_
 refine cr ?_
 refine ls (op (p_move rfl) rfl) ?_
 refine ls (op (p_lenl rfl Tryz.underlying42) rfl) ?_
 refine ls (op (p_move rfl) rfl) ?_
 refine ln ?_
 refine nthen ?_
 refine cb ?_
 refine cl (ι := {q : Nat × Int // q.1 ≤ l.length ∧ q.2 = (pprt l q.1 : Nat)}) (fun i => St M0 F0 w0 30 [(0, .slice A l.length c), (6, .slice A l.length c), (7, .int .i64 (l.length : Int)), (8, .int .i64 (i.1.1 : Int)), (3, .int .i64 i.1.2)] [] [slA A l]) (fun i => l.length - i.1.1) ⟨(0, 0), by simp [pprt]⟩ (wk0 (by repeat (first | exact subσ.nil _ | refine subσ.cons rfl ?_)) (by repeat (first | exact Sub.d | (refine Sub.s ?_ ?_; (repeat (first | exact In.z | apply In.s))) | (refine Sub.suf ?_; (repeat (first | exact Suf.z | apply Suf.s)))))) ?_
 rintro ⟨⟨k, n⟩, hk, hn⟩
 refine cmono (S' := St M0 F0 w0 30 [(0, .slice A l.length c), (6, .slice A l.length c), (7, .int .i64 (l.length : Int)), (8, .int .i64 (k : Int)), (3, .int .i64 n)] [] [slA A l]) (fun _ _ h => h) ?_
 refine cs ?_
 refine cr ?_
 refine ls (op (p_icmp rfl rfl rfl) rfl) ?_
 refine ln ?_
 refine nthen ?_
 refine cs ?_
 refine cc rfl ?_ ?_
 ·
  intro h9
  dsimp only at hk hn
  try simp only [decide_eq_true_eq, decide_eq_false_iff_not, Bool.not_eq_true', Bool.not_eq_false', Int.not_lt, Int.not_le, ge_iff_le, Bool.not_true, Bool.not_false] at h9
  have hk1 : k < l.length := by omega
  have hs := pprt_succ hk1
  have ht := pprt_le l (k + 1)
  refine cskip ?_
  refine nthen ?_
  refine cs ?_
  refine cb ?_
  refine cs ?_
  refine elC (by repeat (first | exact At.z | apply At.s)) k (List.getElem?_eq_getElem (l := l) hk1) ?_; rintro zbp zop zyp hAp
  refine cr ?_
  refine ls (op (p_ia k hAp hk1 rfl Tryz.underlying42 Tryz.sizeOf25 rfl rfl) rfl) ?_
  refine ls (o_ldj Tryz.isAgg25 Tryz.sizeOf25 rfl (by repeat (first | exact At.z | apply At.s)) 0 rfl (by repeat (first | exact Cut.d | apply Cut.t | apply Cut.s)) rfl) ?_
  refine ls (o_alloc Tryz.zeroValue25 rfl rfl) ?_
  refine le ?_; intro b5
  refine ls (o_st rfl Tryz.sizeOf25 rfl rfl rfl rfl rfl (by repeat (first | exact At.z | apply At.s)) (by repeat (first | exact Put.d | apply Put.t | apply Put.s)) (by repeat (first | exact SetAt.z | apply SetAt.s))) ?_
  refine ln ?_
  refine nthen ?_
  refine cr ?_
  refine ls (op (p_move rfl) rfl) ?_
  refine ls (op (p_fa fa25_3 rfl) rfl) ?_
  refine ls (o_ld Tryz.isAgg23 rfl (by repeat (first | exact At.z | apply At.s)) (by repeat (first | exact At.z | apply At.s)) rfl) ?_
  refine ls (op (p_lenl rfl Tryz.underlying23) rfl) ?_
  refine ls (op (p_add rfl rfl (by omega)) rfl) ?_
  refine ls (op (p_asg rfl) rfl) ?_
  refine ln ?_
  refine nblock ?_
  refine nthen ?_
  refine cr ?_
  refine ls (op (p_add rfl rfl (by omega)) rfl) ?_
  refine ls (op (p_move rfl) rfl) ?_
  refine ln ?_
  refine nnext ⟨(k + 1, n + (l[k].l.length : Int)), hk1, by dsimp only; omega⟩ (by dsimp only; omega) (wk (is := []) (by repeat (first | exact subσ.nil _ | refine subσ.cons rfl ?_)) rfl (by repeat (first | exact Sub.d | (refine Sub.s ?_ ?_; (repeat (first | exact In.z | apply In.s))) | (refine Sub.suf ?_; (repeat (first | exact Suf.z | apply Suf.s))))))
 ·
  intro h9
  dsimp only at hk hn
  try simp only [decide_eq_true_eq, decide_eq_false_iff_not, Bool.not_eq_true', Bool.not_eq_false', Int.not_lt, Int.not_le, ge_iff_le, Bool.not_true, Bool.not_false] at h9
  obtain rfl : k = l.length := by omega
  refine cexit ?_
  refine xthen ?_
  refine xthen ?_
  refine xblock ?_
  refine nthen ?_
  refine cs ?_
  refine cr ?_
  refine ls (op (p_move rfl) rfl) ?_
  refine ls (op (p_lenl rfl Tryz.underlying42) rfl) ?_
  refine ls (op (p_icmp rfl rfl rfl) rfl) ?_
  refine ls (op (p_move rfl) rfl) ?_
  refine andX 3 21 24 rfl (subσ.cons (t := 0) rfl (subσ.cons (t := 6) rfl (subσ.cons (t := 7) rfl (subσ.cons (t := 8) rfl (subσ.cons (t := 3) rfl (subσ.cons (t := 9) rfl (subσ.nil _))))))) ?_ ?_
  ·
   intro h21
   refine lskip rfl rfl rfl rfl rfl ?_
   refine lskip rfl rfl rfl rfl rfl ?_
   refine ls (op (p_pickf rfl rfl) rfl) ?_
   refine ln (nmid (wk0 (by repeat (first | exact subσ.nil _ | refine subσ.cons rfl ?_)) (by repeat (first | exact Sub.d | (refine Sub.s ?_ ?_; (repeat (first | exact In.z | apply In.s))) | (refine Sub.suf ?_; (repeat (first | exact Suf.z | apply Suf.s)))))))
  apply exI
  ·
   intro h21
   refine lwant rfl rfl rfl rfl (op (p_move rfl) rfl) ?_
   refine lwant rfl rfl rfl rfl (op (p_icmp rfl rfl rfl) rfl) ?_
   refine ls (op (p_pickt rfl rfl) rfl) ?_
   refine ln (nmid (wk0 (by repeat (first | exact subσ.nil _ | refine subσ.cons rfl ?_)) (by repeat (first | exact Sub.d | (refine Sub.s ?_ ?_; (repeat (first | exact In.z | apply In.s))) | (refine Sub.suf ?_; (repeat (first | exact Suf.z | apply Suf.s)))))))
  ·
   refine ls (op (p_move rfl) rfl) ?_
   refine andX 4 25 29 rfl (subσ.cons (t := 0) rfl (subσ.cons (t := 6) rfl (subσ.cons (t := 7) rfl (subσ.cons (t := 8) rfl (subσ.cons (t := 3) rfl (subσ.cons (t := 9) rfl (subσ.nil _))))))) ?_ ?_
   ·
    intro h25
    refine lskip rfl rfl rfl rfl rfl ?_
    refine lskip rfl rfl rfl rfl rfl ?_
    refine lskip rfl rfl rfl rfl rfl ?_
    refine ls (op (p_pickf rfl rfl) rfl) ?_
    refine ln (nmid (wk0 (by repeat (first | exact subσ.nil _ | refine subσ.cons rfl ?_)) (by repeat (first | exact Sub.d | (refine Sub.s ?_ ?_; (repeat (first | exact In.z | apply In.s))) | (refine Sub.suf ?_; (repeat (first | exact Suf.z | apply Suf.s)))))))
   apply exI
   ·
    intro h25
    refine lwant rfl rfl rfl rfl (op (p_move rfl) rfl) ?_
    refine lwant rfl rfl rfl rfl (o_call (is := []) Tryz.call33 (c_Many7 l A c hl hf hM) rfl rfl (by repeat (first | exact Sub.d | (refine Sub.s ?_ ?_; (repeat (first | exact In.z | apply In.s))) | (refine Sub.suf ?_; (repeat (first | exact Suf.z | apply Suf.s))))) rfl) ?_
    refine le ?_; intro x27
    refine lwant rfl rfl rfl rfl (op (p_icmp rfl rfl rfl) rfl) ?_
    refine ls (op (p_pickt rfl rfl) rfl) ?_
    refine ln (nmid (wk0 (by repeat (first | exact subσ.nil _ | refine subσ.cons rfl ?_)) (by repeat (first | exact Sub.d | (refine Sub.s ?_ ?_; (repeat (first | exact In.z | apply In.s))) | (refine Sub.suf ?_; (repeat (first | exact Suf.z | apply Suf.s)))))))
   ·
    refine ls (op (p_asg rfl) rfl) ?_
    refine ln ?_
    refine nthen ?_
    refine cret ?_
    refine xret (fun _ _ h => h) ?_
    refine rret (is := []) () (Or.inl rfl) (Res.t rfl Res.d) ?_ rfl (by repeat (first | exact Sub.d | (refine Sub.s ?_ ?_; (repeat (first | exact In.z | apply In.s))) | (refine Sub.suf ?_; (repeat (first | exact Suf.z | apply Suf.s)))))
    simp only [packV]; rw [hn]; unfold pprt; rw [List.take_length]; rfl

set_option maxRecDepth 100000 in
theorem c_alive7 : Con Tryz.prog 10 [] [] [] Unit (fun _ => .bool true) (fun _ => []) (fun _ => []) := by
 refine con Tryz.func10 rfl Tryz.ntmps10 rfl ?_
 intro M0 F0 w0
 refine cs ?_
 refine cr ?_
 refine ls (op (p_asg rfl) rfl) ?_
 refine ln ?_
 refine nthen ?_
 refine cs ?_
 refine cmono (fun a w h => nilSl (α := ByteArray) h) ?_
 refine cmono (fun a w h => nilSl (α := Int) h) ?_
 refine cr ?_
 refine ls (op (p_bld sb59 rfl (Fill.t (by repeat (first | exact At.z | apply At.s)) rfl rfl (by repeat (first | exact Put.d | apply Put.t | apply Put.s)) (Fill.t (by repeat (first | exact At.z | apply At.s)) rfl rfl (by repeat (first | exact Put.d | apply Put.t | apply Put.s)) Fill.d))) rfl) ?_
 refine ls (o_bsl [aA] Tryz.underlying29 Tryz.sizeOf59 Tryz.zeroValue59 rfl (Enum.t Enum.d) (RV.t ((none, 0), (none, 0)) rfl (by repeat (first | exact Sub.d | (refine Sub.s ?_ ?_; (repeat (first | exact In.z | apply In.s))) | (refine Sub.suf ?_; (repeat (first | exact Suf.z | apply Suf.s))))) RV.d) rfl (by decide) (by decide) rfl) ?_
 refine le ?_; intro b11
 refine lmono (fun a w h => Go.Sx.freeze (i := 0) rfl h) ?_
 refine ls (op (p_bld sb31 rfl (Fill.t (by repeat (first | exact At.z | apply At.s)) rfl rfl (by repeat (first | exact Put.d | apply Put.t | apply Put.s)) (Fill.t (by repeat (first | exact At.z | apply At.s)) rfl rfl (by repeat (first | exact Put.d | apply Put.t | apply Put.s)) Fill.d))) rfl) ?_
 refine ls (op (p_bld sb59 rfl (Fill.t (by repeat (first | exact At.z | apply At.s)) rfl rfl (by repeat (first | exact Put.d | apply Put.t | apply Put.s)) (Fill.t (by repeat (first | exact At.z | apply At.s)) rfl rfl (by repeat (first | exact Put.d | apply Put.t | apply Put.s)) Fill.d))) rfl) ?_
 refine ls (o_bsl [aB] Tryz.underlying29 Tryz.sizeOf59 Tryz.zeroValue59 rfl (Enum.t Enum.d) (RV.t ((none, 0), (none, 0)) rfl (by repeat (first | exact Sub.d | (refine Sub.s ?_ ?_; (repeat (first | exact In.z | apply In.s))) | (refine Sub.suf ?_; (repeat (first | exact Suf.z | apply Suf.s))))) RV.d) rfl (by decide) (by decide) rfl) ?_
 refine le ?_; intro b14
 refine lmono (fun a w h => Go.Sx.freeze (i := 0) rfl h) ?_
 refine ls (op (p_bld sb31 rfl (Fill.t (by repeat (first | exact At.z | apply At.s)) rfl rfl (by repeat (first | exact Put.d | apply Put.t | apply Put.s)) (Fill.t (by repeat (first | exact At.z | apply At.s)) rfl rfl (by repeat (first | exact Put.d | apply Put.t | apply Put.s)) (Fill.t (by repeat (first | exact At.z | apply At.s)) rfl rfl (by repeat (first | exact Put.d | apply Put.t | apply Put.s)) Fill.d)))) rfl) ?_
 refine ls (o_bsl ([⟨#[120]⟩] : List ByteArray) Tryz.underlying57 Tryz.sizeOf9 Tryz.zeroValue9 rfl (Enum.t Enum.d) (RV.t () rfl Sub.d RV.d) rfl (by decide) (by decide) rfl) ?_
 refine le ?_; intro b16
 refine lmono (fun a w h => Go.Sx.freeze (i := 0) rfl h) ?_
 refine ls (op (p_bld sb59 rfl (Fill.t (by repeat (first | exact At.z | apply At.s)) rfl rfl (by repeat (first | exact Put.d | apply Put.t | apply Put.s)) (Fill.t (by repeat (first | exact At.z | apply At.s)) rfl rfl (by repeat (first | exact Put.d | apply Put.t | apply Put.s)) (Fill.t (by repeat (first | exact At.z | apply At.s)) rfl rfl (by repeat (first | exact Put.d | apply Put.t | apply Put.s)) Fill.d)))) rfl) ?_
 refine ls (o_bsl [aH] Tryz.underlying29 Tryz.sizeOf59 Tryz.zeroValue59 rfl (Enum.t Enum.d) (RV.t ((none, 0), (some ⟨b16, 0, none⟩, 1)) rfl (by repeat (first | exact Sub.d | (refine Sub.s ?_ ?_; (repeat (first | exact In.z | apply In.s))) | (refine Sub.suf ?_; (repeat (first | exact Suf.z | apply Suf.s))))) RV.d) rfl (by decide) (by decide) rfl) ?_
 refine le ?_; intro b18
 refine lmono (fun a w h => Go.Sx.freeze (i := 0) rfl h) ?_
 refine ls (op (p_bld sb31 rfl (Fill.t (by repeat (first | exact At.z | apply At.s)) rfl rfl (by repeat (first | exact Put.d | apply Put.t | apply Put.s)) (Fill.t (by repeat (first | exact At.z | apply At.s)) rfl rfl (by repeat (first | exact Put.d | apply Put.t | apply Put.s)) Fill.d))) rfl) ?_
 refine ls (o_bsl [qA, qB, qC] Tryz.underlying43 Tryz.sizeOf31 Tryz.zeroValue31 rfl (Enum.t (Enum.t (Enum.t Enum.d))) (RV.t ((none, 0), (some ⟨b11, 0, none⟩, 1)) rfl (by repeat (first | exact Sub.d | (refine Sub.s ?_ ?_; (repeat (first | exact In.z | apply In.s))) | (refine Sub.suf ?_; (repeat (first | exact Suf.z | apply Suf.s))))) (RV.t ((none, 0), (some ⟨b14, 0, none⟩, 1)) rfl (by repeat (first | exact Sub.d | (refine Sub.s ?_ ?_; (repeat (first | exact In.z | apply In.s))) | (refine Sub.suf ?_; (repeat (first | exact Suf.z | apply Suf.s))))) (RV.t ((none, 0), (some ⟨b18, 0, none⟩, 1)) rfl (by repeat (first | exact Sub.d | (refine Sub.s ?_ ?_; (repeat (first | exact In.z | apply In.s))) | (refine Sub.suf ?_; (repeat (first | exact Suf.z | apply Suf.s))))) RV.d))) rfl (by decide) (by decide) rfl) ?_
 refine le ?_; intro b20
 refine lmono (fun a w h => Go.Sx.freeze (i := 0) rfl h) ?_
 refine ls (op (p_asg rfl) rfl) ?_
 refine ln ?_
 refine nthen ?_
 refine cs ?_
 refine cr ?_
 refine ls (op (p_move rfl) rfl) ?_
 refine ls (o_call (is := []) Tryz.call26 (c_nGroup [qA, qB, qC] (some ⟨b20, 0, none⟩) 3 (by decide) fit3) rfl rfl (by repeat (first | exact Sub.d | (refine Sub.s ?_ ?_; (repeat (first | exact In.z | apply In.s))) | (refine Sub.suf ?_; (repeat (first | exact Suf.z | apply Suf.s))))) rfl) ?_
 refine le ?_; rintro ⟨⟨⟨g, r⟩, ⟨⟨Ag, cg⟩, ⟨Ax, cx⟩⟩⟩, hg⟩
 obtain ⟨rfl, rfl⟩ := ptwo_eq (hg.trans al1)
 refine ls (op (p_move rfl) rfl) ?_
 refine ls (op (p_ext rfl (by repeat (first | exact At.z | apply At.s))) rfl) ?_
 refine ls (op (p_ext rfl (by repeat (first | exact At.z | apply At.s))) rfl) ?_
 refine ls (op (p_asg rfl) rfl) ?_
 refine ls (op (p_asg rfl) rfl) ?_
 refine ln ?_
 refine nthen ?_
 refine cs ?_
 refine elC (by repeat (first | exact At.z | apply At.s)) 0 ((show ([qA, qB, qC] : List Patch)[0]? = some qA from rfl)) ?_; rintro zbp zop zyp hAp
 refine elC (by repeat (first | exact At.z | apply At.s)) 1 ((show ([qA, qB, qC] : List Patch)[1]? = some qB from rfl)) ?_; rintro zbq zoq zyq hAq
 refine cutC (S' := fun a w => ∃ (b4 : Nat) (b5 : Nat) (z1 : Rp.Lay Patch) (z2 : Rp.Lay Patch), St M0 F0 w0 127 [(1, .slice (some ⟨b20, 0, none⟩) 3 3), (2, .slice Ag 2 cg), (3, .slice Ax 1 cx), (4, .pointer (some ⟨b4, 0, none⟩)), (5, .pointer (some ⟨b5, 0, none⟩)), (6, .bool true)] [box b4 31 (Rp.enc qB z1), box b5 31 (Rp.enc qA z2)] [slA z1.1.1 qB.deps, slA z1.2.1 qB.l, slA z2.1.1 qA.deps, slA z2.2.1 qA.l, slA Ag [qA, qC], slA Ax [qB], slA (some ⟨b20, 0, none⟩) [qA, qB, qC], slA none ([] : List Int), slA none ([] : List ByteArray)] a w) ?_ ?_
 ·
  refine cdB [6, 11, 12, 13, 14] [(2, zbp, zop + 0 * Rp.size Patch, _), (5, zbq, zoq + 1 * Rp.size Patch, _)] TryzX.mixed (by kernel_rfl) (by kernel_rfl) (TOk.t (isInS (by repeat (first | exact At.z | apply At.s)) (k := 0) rfl (z := 4) (by repeat (first | exact Cut.d | apply Cut.t | apply Cut.s))) (TOk.t (isInS (by repeat (first | exact At.z | apply At.s)) (k := 0) rfl (z := 4) (by repeat (first | exact Cut.d | apply Cut.t | apply Cut.s))) TOk.d)) ?_
  refine tkB 0 rfl (by kernel_rfl) (fun _ _ _ h => h) gnone (TTany _) (p_move rfl) rfl ?_
  refine tkB 1 rfl (by kernel_rfl) (fun _ _ _ h => h) gnone (TTany _) (p_ia 0 hAp (by decide) rfl Tryz.underlying43 Tryz.sizeOf31 rfl rfl) rfl ?_
  refine tkB 2 rfl (by kernel_rfl) (fun _ _ _ h => h) gnone (TTat (List.Mem.head _)) (p_lda Tryz.isAgg31 Tryz.sizeOf31 rfl rfl) rfl ?_
  refine tkB 3 rfl (by kernel_rfl) (fun _ _ _ h => h) gnone (TTany _) (p_move rfl) rfl ?_
  refine tkB 4 rfl (by kernel_rfl) (fun _ _ _ h => h) gnone (TTany _) (p_ia 1 hAq (by decide) rfl Tryz.underlying43 Tryz.sizeOf31 rfl rfl) rfl ?_
  refine tkB 5 rfl (by kernel_rfl) (fun _ _ _ h => h) gnone (TTat (List.Mem.tail _ (List.Mem.head _))) (p_lda Tryz.isAgg31 Tryz.sizeOf31 rfl rfl) rfl ?_
  refine dallB (is := [6, 11, 12]) (by kernel_rfl) rfl ?_
  intro i hi; simp only [List.mem_cons, List.mem_nil_iff, or_false] at hi; rcases hi with rfl | rfl | rfl
  ·
   refine doRB rfl (o_call (is := []) Tryz.call17 (c_nSwap qA qB zyp zyq fitqA fitqB) rfl rfl (by repeat (first | exact Sub.d | (refine Sub.s ?_ ?_; (repeat (first | exact In.z | apply In.s))) | (refine Sub.suf ?_; (repeat (first | exact Suf.z | apply Suf.s))))) rfl) (TOk.xP 6 [] (by kernel_rfl) (TOk.xP 6 [] (by kernel_rfl) TOk.d)) ?_
   refine eaB ?_; rintro ⟨⟨⟨r1, r2, r3⟩, z1, z2⟩, hr⟩
   obtain ⟨rfl, rfl, rfl⟩ := pthree (hr.trans al2)
   refine tkB 7 rfl (by kernel_rfl) (fun _ _ _ h => h) gnone (TTany _) (p_move rfl) rfl ?_
   refine tkB 8 rfl (by kernel_rfl) (fun _ _ _ h => h) gnone (TTany _) (p_ext rfl (by repeat (first | exact At.z | apply At.s))) rfl ?_
   refine tkB 9 rfl (by kernel_rfl) (fun _ _ _ h => h) gnone (TTany _) (p_ext rfl (by repeat (first | exact At.z | apply At.s))) rfl ?_
   refine tkB 10 rfl (by kernel_rfl) (fun _ _ _ h => h) gnone (TTany _) (p_ext rfl (by repeat (first | exact At.z | apply At.s))) rfl ?_
   refine dallB (is := [11, 12]) (by kernel_rfl) rfl ?_
   intro i hi; simp only [List.mem_cons, List.mem_nil_iff, or_false] at hi; rcases hi with rfl | rfl
   ·
    refine doRB rfl (o_alloc Tryz.zeroValue31 rfl rfl) (TOk.xP 6 [] (by kernel_rfl) (TOk.xP 6 [] (by kernel_rfl) TOk.d)) ?_
    refine eaB ?_; intro b4
    refine dfB 12 (by kernel_rfl) ?_
    refine doRB rfl (o_alloc Tryz.zeroValue31 rfl rfl) (TOk.xP 6 [] (by kernel_rfl) (TOk.xP 6 [] (by kernel_rfl) TOk.d)) ?_
    refine eaB ?_; intro b5
    refine dfB 13 (by kernel_rfl) ?_
    refine doRB rfl (o_st rfl Tryz.sizeOf31 rfl rfl rfl rfl rfl (by repeat (first | exact At.z | apply At.s)) (by repeat (first | exact Put.d | apply Put.t | apply Put.s)) (by repeat (first | exact SetAt.z | apply SetAt.s))) (TOk.xP 6 [] (by kernel_rfl) (TOk.xP 6 [] (by kernel_rfl) TOk.d)) ?_
    refine dfB 14 (by kernel_rfl) ?_
    refine doRB rfl (o_st rfl Tryz.sizeOf31 rfl rfl rfl rfl rfl (by repeat (first | exact At.z | apply At.s)) (by repeat (first | exact Put.d | apply Put.t | apply Put.s)) (by repeat (first | exact SetAt.z | apply SetAt.s))) (TOk.xP 6 [] (by kernel_rfl) (TOk.xP 6 [] (by kernel_rfl) TOk.d)) ?_
    refine tkB 15 rfl (by kernel_rfl) (fun _ _ _ h => h) gnone (TTany _) (p_asg rfl) rfl ?_
    refine dnB (by kernel_rfl) (nmid (fun a w h => by first | exact ⟨b4, b5, z1, z2, wk (is := [1, 0]) (by repeat (first | exact subσ.nil _ | refine subσ.cons rfl ?_)) rfl (by repeat (first | exact Sub.d | (refine Sub.s ?_ ?_; (repeat (first | exact In.z | apply In.s))) | (refine Sub.suf ?_; (repeat (first | exact Suf.z | apply Suf.s))))) a w h⟩ | exact ⟨b4, b5, z1, z2, wk (is := [0, 0]) (by repeat (first | exact subσ.nil _ | refine subσ.cons rfl ?_)) rfl (by repeat (first | exact Sub.d | (refine Sub.s ?_ ?_; (repeat (first | exact In.z | apply In.s))) | (refine Sub.suf ?_; (repeat (first | exact Suf.z | apply Suf.s))))) a w h⟩))
   ·
    refine doRB rfl (o_alloc Tryz.zeroValue31 rfl rfl) (TOk.xP 6 [] (by kernel_rfl) (TOk.xP 6 [] (by kernel_rfl) TOk.d)) ?_
    refine eaB ?_; intro b5
    refine dfB 11 (by kernel_rfl) ?_
    refine doRB rfl (o_alloc Tryz.zeroValue31 rfl rfl) (TOk.xP 6 [] (by kernel_rfl) (TOk.xP 6 [] (by kernel_rfl) TOk.d)) ?_
    refine eaB ?_; intro b4
    refine dfB 13 (by kernel_rfl) ?_
    refine doRB rfl (o_st rfl Tryz.sizeOf31 rfl rfl rfl rfl rfl (by repeat (first | exact At.z | apply At.s)) (by repeat (first | exact Put.d | apply Put.t | apply Put.s)) (by repeat (first | exact SetAt.z | apply SetAt.s))) (TOk.xP 6 [] (by kernel_rfl) (TOk.xP 6 [] (by kernel_rfl) TOk.d)) ?_
    refine dfB 14 (by kernel_rfl) ?_
    refine doRB rfl (o_st rfl Tryz.sizeOf31 rfl rfl rfl rfl rfl (by repeat (first | exact At.z | apply At.s)) (by repeat (first | exact Put.d | apply Put.t | apply Put.s)) (by repeat (first | exact SetAt.z | apply SetAt.s))) (TOk.xP 6 [] (by kernel_rfl) (TOk.xP 6 [] (by kernel_rfl) TOk.d)) ?_
    refine tkB 15 rfl (by kernel_rfl) (fun _ _ _ h => h) gnone (TTany _) (p_asg rfl) rfl ?_
    refine dnB (by kernel_rfl) (nmid (fun a w h => by first | exact ⟨b4, b5, z1, z2, wk (is := [1, 0]) (by repeat (first | exact subσ.nil _ | refine subσ.cons rfl ?_)) rfl (by repeat (first | exact Sub.d | (refine Sub.s ?_ ?_; (repeat (first | exact In.z | apply In.s))) | (refine Sub.suf ?_; (repeat (first | exact Suf.z | apply Suf.s))))) a w h⟩ | exact ⟨b4, b5, z1, z2, wk (is := [0, 0]) (by repeat (first | exact subσ.nil _ | refine subσ.cons rfl ?_)) rfl (by repeat (first | exact Sub.d | (refine Sub.s ?_ ?_; (repeat (first | exact In.z | apply In.s))) | (refine Sub.suf ?_; (repeat (first | exact Suf.z | apply Suf.s))))) a w h⟩))
  ·
   refine doRB rfl (o_alloc Tryz.zeroValue31 rfl rfl) (TOk.t (isBoxE fun _ => isInS (by repeat (first | exact At.z | apply At.s)) (k := 0) rfl (z := 4) (by repeat (first | exact Cut.d | apply Cut.t | apply Cut.s))) (TOk.t (isBoxE fun _ => isInS (by repeat (first | exact At.z | apply At.s)) (k := 0) rfl (z := 4) (by repeat (first | exact Cut.d | apply Cut.t | apply Cut.s))) TOk.d)) ?_
   refine eaB ?_; intro b4
   refine dallB (is := [6, 12]) (by kernel_rfl) rfl ?_
   intro i hi; simp only [List.mem_cons, List.mem_nil_iff, or_false] at hi; rcases hi with rfl | rfl
   ·
    refine doRB rfl (o_call (is := []) Tryz.call17 (c_nSwap qA qB zyp zyq fitqA fitqB) rfl rfl (by repeat (first | exact Sub.d | (refine Sub.s ?_ ?_; (repeat (first | exact In.z | apply In.s))) | (refine Sub.suf ?_; (repeat (first | exact Suf.z | apply Suf.s))))) rfl) (TOk.xP 6 [] (by kernel_rfl) (TOk.xP 6 [] (by kernel_rfl) TOk.d)) ?_
    refine eaB ?_; rintro ⟨⟨⟨r1, r2, r3⟩, z1, z2⟩, hr⟩
    obtain ⟨rfl, rfl, rfl⟩ := pthree (hr.trans al2)
    refine tkB 7 rfl (by kernel_rfl) (fun _ _ _ h => h) gnone (TTany _) (p_move rfl) rfl ?_
    refine tkB 8 rfl (by kernel_rfl) (fun _ _ _ h => h) gnone (TTany _) (p_ext rfl (by repeat (first | exact At.z | apply At.s))) rfl ?_
    refine tkB 9 rfl (by kernel_rfl) (fun _ _ _ h => h) gnone (TTany _) (p_ext rfl (by repeat (first | exact At.z | apply At.s))) rfl ?_
    refine tkB 10 rfl (by kernel_rfl) (fun _ _ _ h => h) gnone (TTany _) (p_ext rfl (by repeat (first | exact At.z | apply At.s))) rfl ?_
    refine dfB 12 (by kernel_rfl) ?_
    refine doRB rfl (o_alloc Tryz.zeroValue31 rfl rfl) (TOk.xP 6 [] (by kernel_rfl) (TOk.xP 6 [] (by kernel_rfl) TOk.d)) ?_
    refine eaB ?_; intro b5
    refine dfB 13 (by kernel_rfl) ?_
    refine doRB rfl (o_st rfl Tryz.sizeOf31 rfl rfl rfl rfl rfl (by repeat (first | exact At.z | apply At.s)) (by repeat (first | exact Put.d | apply Put.t | apply Put.s)) (by repeat (first | exact SetAt.z | apply SetAt.s))) (TOk.xP 6 [] (by kernel_rfl) (TOk.xP 6 [] (by kernel_rfl) TOk.d)) ?_
    refine dfB 14 (by kernel_rfl) ?_
    refine doRB rfl (o_st rfl Tryz.sizeOf31 rfl rfl rfl rfl rfl (by repeat (first | exact At.z | apply At.s)) (by repeat (first | exact Put.d | apply Put.t | apply Put.s)) (by repeat (first | exact SetAt.z | apply SetAt.s))) (TOk.xP 6 [] (by kernel_rfl) (TOk.xP 6 [] (by kernel_rfl) TOk.d)) ?_
    refine tkB 15 rfl (by kernel_rfl) (fun _ _ _ h => h) gnone (TTany _) (p_asg rfl) rfl ?_
    refine dnB (by kernel_rfl) (nmid (fun a w h => by first | exact ⟨b4, b5, z1, z2, wk (is := [1, 0]) (by repeat (first | exact subσ.nil _ | refine subσ.cons rfl ?_)) rfl (by repeat (first | exact Sub.d | (refine Sub.s ?_ ?_; (repeat (first | exact In.z | apply In.s))) | (refine Sub.suf ?_; (repeat (first | exact Suf.z | apply Suf.s))))) a w h⟩ | exact ⟨b4, b5, z1, z2, wk (is := [0, 0]) (by repeat (first | exact subσ.nil _ | refine subσ.cons rfl ?_)) rfl (by repeat (first | exact Sub.d | (refine Sub.s ?_ ?_; (repeat (first | exact In.z | apply In.s))) | (refine Sub.suf ?_; (repeat (first | exact Suf.z | apply Suf.s))))) a w h⟩))
   ·
    refine doRB rfl (o_alloc Tryz.zeroValue31 rfl rfl) (TOk.t (isBoxE fun _ => isInS (by repeat (first | exact At.z | apply At.s)) (k := 0) rfl (z := 4) (by repeat (first | exact Cut.d | apply Cut.t | apply Cut.s))) (TOk.t (isBoxE fun _ => isInS (by repeat (first | exact At.z | apply At.s)) (k := 0) rfl (z := 4) (by repeat (first | exact Cut.d | apply Cut.t | apply Cut.s))) TOk.d)) ?_
    refine eaB ?_; intro b5
    refine dfB 6 (by kernel_rfl) ?_
    refine doRB rfl (o_call (is := []) Tryz.call17 (c_nSwap qA qB zyp zyq fitqA fitqB) rfl rfl (by repeat (first | exact Sub.d | (refine Sub.s ?_ ?_; (repeat (first | exact In.z | apply In.s))) | (refine Sub.suf ?_; (repeat (first | exact Suf.z | apply Suf.s))))) rfl) (TOk.xP 6 [] (by kernel_rfl) (TOk.xP 6 [] (by kernel_rfl) TOk.d)) ?_
    refine eaB ?_; rintro ⟨⟨⟨r1, r2, r3⟩, z1, z2⟩, hr⟩
    obtain ⟨rfl, rfl, rfl⟩ := pthree (hr.trans al2)
    refine tkB 7 rfl (by kernel_rfl) (fun _ _ _ h => h) gnone (TTany _) (p_move rfl) rfl ?_
    refine tkB 8 rfl (by kernel_rfl) (fun _ _ _ h => h) gnone (TTany _) (p_ext rfl (by repeat (first | exact At.z | apply At.s))) rfl ?_
    refine tkB 9 rfl (by kernel_rfl) (fun _ _ _ h => h) gnone (TTany _) (p_ext rfl (by repeat (first | exact At.z | apply At.s))) rfl ?_
    refine tkB 10 rfl (by kernel_rfl) (fun _ _ _ h => h) gnone (TTany _) (p_ext rfl (by repeat (first | exact At.z | apply At.s))) rfl ?_
    refine dfB 13 (by kernel_rfl) ?_
    refine doRB rfl (o_st rfl Tryz.sizeOf31 rfl rfl rfl rfl rfl (by repeat (first | exact At.z | apply At.s)) (by repeat (first | exact Put.d | apply Put.t | apply Put.s)) (by repeat (first | exact SetAt.z | apply SetAt.s))) (TOk.xP 6 [] (by kernel_rfl) (TOk.xP 6 [] (by kernel_rfl) TOk.d)) ?_
    refine dfB 14 (by kernel_rfl) ?_
    refine doRB rfl (o_st rfl Tryz.sizeOf31 rfl rfl rfl rfl rfl (by repeat (first | exact At.z | apply At.s)) (by repeat (first | exact Put.d | apply Put.t | apply Put.s)) (by repeat (first | exact SetAt.z | apply SetAt.s))) (TOk.xP 6 [] (by kernel_rfl) (TOk.xP 6 [] (by kernel_rfl) TOk.d)) ?_
    refine tkB 15 rfl (by kernel_rfl) (fun _ _ _ h => h) gnone (TTany _) (p_asg rfl) rfl ?_
    refine dnB (by kernel_rfl) (nmid (fun a w h => by first | exact ⟨b4, b5, z1, z2, wk (is := [1, 0]) (by repeat (first | exact subσ.nil _ | refine subσ.cons rfl ?_)) rfl (by repeat (first | exact Sub.d | (refine Sub.s ?_ ?_; (repeat (first | exact In.z | apply In.s))) | (refine Sub.suf ?_; (repeat (first | exact Suf.z | apply Suf.s))))) a w h⟩ | exact ⟨b4, b5, z1, z2, wk (is := [0, 0]) (by repeat (first | exact subσ.nil _ | refine subσ.cons rfl ?_)) rfl (by repeat (first | exact Sub.d | (refine Sub.s ?_ ?_; (repeat (first | exact In.z | apply In.s))) | (refine Sub.suf ?_; (repeat (first | exact Suf.z | apply Suf.s))))) a w h⟩))
  ·
   refine doRB rfl (o_alloc Tryz.zeroValue31 rfl rfl) (TOk.t (isBoxE fun _ => isInS (by repeat (first | exact At.z | apply At.s)) (k := 0) rfl (z := 4) (by repeat (first | exact Cut.d | apply Cut.t | apply Cut.s))) (TOk.t (isBoxE fun _ => isInS (by repeat (first | exact At.z | apply At.s)) (k := 0) rfl (z := 4) (by repeat (first | exact Cut.d | apply Cut.t | apply Cut.s))) TOk.d)) ?_
   refine eaB ?_; intro b5
   refine dallB (is := [6, 11]) (by kernel_rfl) rfl ?_
   intro i hi; simp only [List.mem_cons, List.mem_nil_iff, or_false] at hi; rcases hi with rfl | rfl
   ·
    refine doRB rfl (o_call (is := []) Tryz.call17 (c_nSwap qA qB zyp zyq fitqA fitqB) rfl rfl (by repeat (first | exact Sub.d | (refine Sub.s ?_ ?_; (repeat (first | exact In.z | apply In.s))) | (refine Sub.suf ?_; (repeat (first | exact Suf.z | apply Suf.s))))) rfl) (TOk.xP 6 [] (by kernel_rfl) (TOk.xP 6 [] (by kernel_rfl) TOk.d)) ?_
    refine eaB ?_; rintro ⟨⟨⟨r1, r2, r3⟩, z1, z2⟩, hr⟩
    obtain ⟨rfl, rfl, rfl⟩ := pthree (hr.trans al2)
    refine tkB 7 rfl (by kernel_rfl) (fun _ _ _ h => h) gnone (TTany _) (p_move rfl) rfl ?_
    refine tkB 8 rfl (by kernel_rfl) (fun _ _ _ h => h) gnone (TTany _) (p_ext rfl (by repeat (first | exact At.z | apply At.s))) rfl ?_
    refine tkB 9 rfl (by kernel_rfl) (fun _ _ _ h => h) gnone (TTany _) (p_ext rfl (by repeat (first | exact At.z | apply At.s))) rfl ?_
    refine tkB 10 rfl (by kernel_rfl) (fun _ _ _ h => h) gnone (TTany _) (p_ext rfl (by repeat (first | exact At.z | apply At.s))) rfl ?_
    refine dfB 11 (by kernel_rfl) ?_
    refine doRB rfl (o_alloc Tryz.zeroValue31 rfl rfl) (TOk.xP 6 [] (by kernel_rfl) (TOk.xP 6 [] (by kernel_rfl) TOk.d)) ?_
    refine eaB ?_; intro b4
    refine dfB 13 (by kernel_rfl) ?_
    refine doRB rfl (o_st rfl Tryz.sizeOf31 rfl rfl rfl rfl rfl (by repeat (first | exact At.z | apply At.s)) (by repeat (first | exact Put.d | apply Put.t | apply Put.s)) (by repeat (first | exact SetAt.z | apply SetAt.s))) (TOk.xP 6 [] (by kernel_rfl) (TOk.xP 6 [] (by kernel_rfl) TOk.d)) ?_
    refine dfB 14 (by kernel_rfl) ?_
    refine doRB rfl (o_st rfl Tryz.sizeOf31 rfl rfl rfl rfl rfl (by repeat (first | exact At.z | apply At.s)) (by repeat (first | exact Put.d | apply Put.t | apply Put.s)) (by repeat (first | exact SetAt.z | apply SetAt.s))) (TOk.xP 6 [] (by kernel_rfl) (TOk.xP 6 [] (by kernel_rfl) TOk.d)) ?_
    refine tkB 15 rfl (by kernel_rfl) (fun _ _ _ h => h) gnone (TTany _) (p_asg rfl) rfl ?_
    refine dnB (by kernel_rfl) (nmid (fun a w h => by first | exact ⟨b4, b5, z1, z2, wk (is := [1, 0]) (by repeat (first | exact subσ.nil _ | refine subσ.cons rfl ?_)) rfl (by repeat (first | exact Sub.d | (refine Sub.s ?_ ?_; (repeat (first | exact In.z | apply In.s))) | (refine Sub.suf ?_; (repeat (first | exact Suf.z | apply Suf.s))))) a w h⟩ | exact ⟨b4, b5, z1, z2, wk (is := [0, 0]) (by repeat (first | exact subσ.nil _ | refine subσ.cons rfl ?_)) rfl (by repeat (first | exact Sub.d | (refine Sub.s ?_ ?_; (repeat (first | exact In.z | apply In.s))) | (refine Sub.suf ?_; (repeat (first | exact Suf.z | apply Suf.s))))) a w h⟩))
   ·
    refine doRB rfl (o_alloc Tryz.zeroValue31 rfl rfl) (TOk.t (isBoxE fun _ => isInS (by repeat (first | exact At.z | apply At.s)) (k := 0) rfl (z := 4) (by repeat (first | exact Cut.d | apply Cut.t | apply Cut.s))) (TOk.t (isBoxE fun _ => isInS (by repeat (first | exact At.z | apply At.s)) (k := 0) rfl (z := 4) (by repeat (first | exact Cut.d | apply Cut.t | apply Cut.s))) TOk.d)) ?_
    refine eaB ?_; intro b4
    refine dfB 6 (by kernel_rfl) ?_
    refine doRB rfl (o_call (is := []) Tryz.call17 (c_nSwap qA qB zyp zyq fitqA fitqB) rfl rfl (by repeat (first | exact Sub.d | (refine Sub.s ?_ ?_; (repeat (first | exact In.z | apply In.s))) | (refine Sub.suf ?_; (repeat (first | exact Suf.z | apply Suf.s))))) rfl) (TOk.xP 6 [] (by kernel_rfl) (TOk.xP 6 [] (by kernel_rfl) TOk.d)) ?_
    refine eaB ?_; rintro ⟨⟨⟨r1, r2, r3⟩, z1, z2⟩, hr⟩
    obtain ⟨rfl, rfl, rfl⟩ := pthree (hr.trans al2)
    refine tkB 7 rfl (by kernel_rfl) (fun _ _ _ h => h) gnone (TTany _) (p_move rfl) rfl ?_
    refine tkB 8 rfl (by kernel_rfl) (fun _ _ _ h => h) gnone (TTany _) (p_ext rfl (by repeat (first | exact At.z | apply At.s))) rfl ?_
    refine tkB 9 rfl (by kernel_rfl) (fun _ _ _ h => h) gnone (TTany _) (p_ext rfl (by repeat (first | exact At.z | apply At.s))) rfl ?_
    refine tkB 10 rfl (by kernel_rfl) (fun _ _ _ h => h) gnone (TTany _) (p_ext rfl (by repeat (first | exact At.z | apply At.s))) rfl ?_
    refine dfB 13 (by kernel_rfl) ?_
    refine doRB rfl (o_st rfl Tryz.sizeOf31 rfl rfl rfl rfl rfl (by repeat (first | exact At.z | apply At.s)) (by repeat (first | exact Put.d | apply Put.t | apply Put.s)) (by repeat (first | exact SetAt.z | apply SetAt.s))) (TOk.xP 6 [] (by kernel_rfl) (TOk.xP 6 [] (by kernel_rfl) TOk.d)) ?_
    refine dfB 14 (by kernel_rfl) ?_
    refine doRB rfl (o_st rfl Tryz.sizeOf31 rfl rfl rfl rfl rfl (by repeat (first | exact At.z | apply At.s)) (by repeat (first | exact Put.d | apply Put.t | apply Put.s)) (by repeat (first | exact SetAt.z | apply SetAt.s))) (TOk.xP 6 [] (by kernel_rfl) (TOk.xP 6 [] (by kernel_rfl) TOk.d)) ?_
    refine tkB 15 rfl (by kernel_rfl) (fun _ _ _ h => h) gnone (TTany _) (p_asg rfl) rfl ?_
    refine dnB (by kernel_rfl) (nmid (fun a w h => by first | exact ⟨b4, b5, z1, z2, wk (is := [1, 0]) (by repeat (first | exact subσ.nil _ | refine subσ.cons rfl ?_)) rfl (by repeat (first | exact Sub.d | (refine Sub.s ?_ ?_; (repeat (first | exact In.z | apply In.s))) | (refine Sub.suf ?_; (repeat (first | exact Suf.z | apply Suf.s))))) a w h⟩ | exact ⟨b4, b5, z1, z2, wk (is := [0, 0]) (by repeat (first | exact subσ.nil _ | refine subσ.cons rfl ?_)) rfl (by repeat (first | exact Sub.d | (refine Sub.s ?_ ?_; (repeat (first | exact In.z | apply In.s))) | (refine Sub.suf ?_; (repeat (first | exact Suf.z | apply Suf.s))))) a w h⟩))
 ·
  refine nex fun b4 => nex fun b5 => nex fun z1 => nex fun z2 => ?_
  refine nthen ?_
  refine cs ?_
  refine cmono (fun a w h => subS (l := [qA, qB, qC]) (l' := [qA, qB]) (c := 3) 0 2 (by repeat (first | exact In.z | apply In.s)) (by decide) (by decide) (by decide) rfl h) ?_
  refine cr ?_
  refine ls (op (p_move rfl) rfl) ?_
  refine ls (op (p_slh 2 (by decide) rfl Tryz.underlying43 Tryz.sizeOf31 rfl rfl) rfl) ?_
  refine ls (op (p_bld sb59 rfl (Fill.t (by repeat (first | exact At.z | apply At.s)) rfl rfl (by repeat (first | exact Put.d | apply Put.t | apply Put.s)) (Fill.t (by repeat (first | exact At.z | apply At.s)) rfl rfl (by repeat (first | exact Put.d | apply Put.t | apply Put.s)) Fill.d))) rfl) ?_
  refine ls (o_bsl [aC] Tryz.underlying29 Tryz.sizeOf59 Tryz.zeroValue59 rfl (Enum.t Enum.d) (RV.t ((none, 0), (none, 0)) rfl (by repeat (first | exact Sub.d | (refine Sub.s ?_ ?_; (repeat (first | exact In.z | apply In.s))) | (refine Sub.suf ?_; (repeat (first | exact Suf.z | apply Suf.s))))) RV.d) rfl (by decide) (by decide) rfl) ?_
  refine le ?_; intro b41
  refine lmono (fun a w h => Go.Sx.freeze (i := 0) rfl h) ?_
  refine ls (op (p_bld sb31 rfl (Fill.t (by repeat (first | exact At.z | apply At.s)) rfl rfl (by repeat (first | exact Put.d | apply Put.t | apply Put.s)) (Fill.t (by repeat (first | exact At.z | apply At.s)) rfl rfl (by repeat (first | exact Put.d | apply Put.t | apply Put.s)) Fill.d))) rfl) ?_
  refine ls (o_call (is := []) Tryz.call21 (c_nPastD [qA, qB] _ _ (by decide) fit2 qD ((none, 0), (some ⟨b41, 0, none⟩, 1)) fitqD) rfl rfl (by repeat (first | exact Sub.d | (refine Sub.s ?_ ?_; (repeat (first | exact In.z | apply In.s))) | (refine Sub.suf ?_; (repeat (first | exact Suf.z | apply Suf.s))))) rfl) ?_
  refine le ?_; rintro ⟨⟨⟨q1, rest1, b3⟩, ⟨yq1, ⟨A1, c1⟩⟩⟩, hr⟩
  obtain ⟨rfl, rfl, rfl⟩ := pthr2 (hr.trans al3)
  refine ls (op (p_move rfl) rfl) ?_
  refine ls (op (p_ext rfl (by repeat (first | exact At.z | apply At.s))) rfl) ?_
  refine ls (op (p_ext rfl (by repeat (first | exact At.z | apply At.s))) rfl) ?_
  refine ls (op (p_ext rfl (by repeat (first | exact At.z | apply At.s))) rfl) ?_
  refine ls (o_alloc Tryz.zeroValue31 rfl rfl) ?_
  refine le ?_; intro b7
  refine ls (o_st rfl Tryz.sizeOf31 rfl rfl rfl rfl rfl (by repeat (first | exact At.z | apply At.s)) (by repeat (first | exact Put.d | apply Put.t | apply Put.s)) (by repeat (first | exact SetAt.z | apply SetAt.s))) ?_
  refine ls (op (p_asg rfl) rfl) ?_
  refine ls (op (p_asg rfl) rfl) ?_
  refine ln ?_
  refine nthen ?_
  refine cs ?_
  refine cmono (fun a w h => nilSl (α := Prim) h) ?_
  refine cmono (fun a w h => nilSl (α := Int) h) ?_
  refine elC (by repeat (first | exact At.z | apply At.s)) 0 ((show ([qA, qC] : List Patch)[0]? = some qA from rfl)) ?_; rintro zbp zop zyp hAp
  refine elC (by repeat (first | exact At.z | apply At.s)) 1 ((show ([qA, qC] : List Patch)[1]? = some qC from rfl)) ?_; rintro zbq zoq zyq hAq
  refine elC (by repeat (first | exact At.z | apply At.s)) 0 ((show ([qB] : List Patch)[0]? = some qB from rfl)) ?_; rintro zbs zos zys hAs
  refine elC (by repeat (first | exact At.z | apply At.s)) 0 ((show ([qA, qB, qC] : List Patch)[0]? = some qA from rfl)) ?_; rintro zbt zot zyt hAt
  refine elC (by repeat (first | exact At.z | apply At.s)) 1 ((show ([qA, qB, qC] : List Patch)[1]? = some qB from rfl)) ?_; rintro zbu zou zyu hAu
  refine elC (by repeat (first | exact At.z | apply At.s)) 2 ((show ([qA, qB, qC] : List Patch)[2]? = some qC from rfl)) ?_; rintro zbv zov zyv hAv
  refine cdB [37, 44, 45, 67, 73, 77] [(7, zbp, zop + 0 * Rp.size Patch, _), (14, zbq, zoq + 1 * Rp.size Patch, _), (26, zbs, zos + 0 * Rp.size Patch, _), (33, b4, 0, _), (36, zbu, zou + 1 * Rp.size Patch, _), (40, b5, 0, _), (43, zbt, zot + 0 * Rp.size Patch, _), (52, b7, 0, _), (63, zbt, zot + 0 * Rp.size Patch, _), (66, zbv, zov + 2 * Rp.size Patch, _), (72, zbt, zot + 0 * Rp.size Patch, _)] TryzX.mixed (by kernel_rfl) (by kernel_rfl) (TOk.t (isInS (by repeat (first | exact At.z | apply At.s)) (k := 0) rfl (z := 1) (by repeat (first | exact Cut.d | apply Cut.t | apply Cut.s))) (TOk.t (isInS (by repeat (first | exact At.z | apply At.s)) (k := 0) rfl (z := 1) (by repeat (first | exact Cut.d | apply Cut.t | apply Cut.s))) (TOk.t (isInS (by repeat (first | exact At.z | apply At.s)) (k := 0) rfl (z := 1) (by repeat (first | exact Cut.d | apply Cut.t | apply Cut.s))) (TOk.t (isBoxS (by repeat (first | exact At.z | apply At.s)) (k := 4) (by repeat (first | exact Cut.d | apply Cut.t | apply Cut.s))) (TOk.t (isInS (by repeat (first | exact At.z | apply At.s)) (k := 0) rfl (z := 4) (by repeat (first | exact Cut.d | apply Cut.t | apply Cut.s))) (TOk.t (isBoxS (by repeat (first | exact At.z | apply At.s)) (k := 4) (by repeat (first | exact Cut.d | apply Cut.t | apply Cut.s))) (TOk.t (isInS (by repeat (first | exact At.z | apply At.s)) (k := 0) rfl (z := 4) (by repeat (first | exact Cut.d | apply Cut.t | apply Cut.s))) (TOk.t (isBoxS (by repeat (first | exact At.z | apply At.s)) (k := 1) (by repeat (first | exact Cut.d | apply Cut.t | apply Cut.s))) (TOk.t (isInS (by repeat (first | exact At.z | apply At.s)) (k := 0) rfl (z := 4) (by repeat (first | exact Cut.d | apply Cut.t | apply Cut.s))) (TOk.t (isInS (by repeat (first | exact At.z | apply At.s)) (k := 0) rfl (z := 4) (by repeat (first | exact Cut.d | apply Cut.t | apply Cut.s))) (TOk.t (isInS (by repeat (first | exact At.z | apply At.s)) (k := 0) rfl (z := 4) (by repeat (first | exact Cut.d | apply Cut.t | apply Cut.s))) TOk.d))))))))))) ?_
  refine tkB 0 rfl (by kernel_rfl) (fun _ _ _ h => h) gnone (TTany _) (p_move rfl) rfl ?_
  refine tkB 1 rfl (by kernel_rfl) (fun _ _ _ h => h) gnone (TTany _) (p_lenl rfl Tryz.underlying43) rfl ?_
  refine tkB 2 rfl (by kernel_rfl) (fun _ _ _ h => h) gnone (TTany _) (p_icmp rfl rfl rfl) rfl ?_
  refine tkB 3 rfl (by kernel_rfl) (fun _ _ _ h => h) gnone (TTany _) (p_move rfl) rfl ?_
  refine tkB 4 rfl (by kernel_rfl) (fun _ _ _ h => h) (gyes rfl rfl rfl rfl) (TTany _) (p_move rfl) rfl ?_
  refine tkB 5 rfl (by kernel_rfl) (fun _ _ _ h => h) (gyes rfl rfl rfl rfl) (TTany _) (p_ia 0 hAp (by decide) rfl Tryz.underlying43 Tryz.sizeOf31 rfl rfl) rfl ?_
  refine tkB 6 rfl (by kernel_rfl) (fun _ _ _ h => h) (gyes rfl rfl rfl rfl) (TTany _) (p_fa fa31_0 rfl) rfl ?_
  refine tkB 7 rfl (by kernel_rfl) (fun _ _ _ h => h) (gyes rfl rfl rfl rfl) (TTat (List.Mem.head _)) (p_ld Tryz.isAgg3 rfl) rfl ?_
  refine tkB 8 rfl (by kernel_rfl) (fun _ _ _ h => h) (gyes rfl rfl rfl rfl) (TTany _) (p_icmp rfl rfl rfl) rfl ?_
  refine tkB 9 rfl (by kernel_rfl) (fun _ _ _ h => h) gnone (TTany _) (p_pickt rfl rfl) rfl ?_
  refine tkB 10 rfl (by kernel_rfl) (fun _ _ _ h => h) gnone (TTany _) (p_move rfl) rfl ?_
  refine tkB 11 rfl (by kernel_rfl) (fun _ _ _ h => h) (gyes rfl rfl rfl rfl) (TTany _) (p_move rfl) rfl ?_
  refine tkB 12 rfl (by kernel_rfl) (fun _ _ _ h => h) (gyes rfl rfl rfl rfl) (TTany _) (p_ia 1 hAq (by decide) rfl Tryz.underlying43 Tryz.sizeOf31 rfl rfl) rfl ?_
  refine tkB 13 rfl (by kernel_rfl) (fun _ _ _ h => h) (gyes rfl rfl rfl rfl) (TTany _) (p_fa fa31_0 rfl) rfl ?_
  refine tkB 14 rfl (by kernel_rfl) (fun _ _ _ h => h) (gyes rfl rfl rfl rfl) (TTat (List.Mem.tail _ (List.Mem.head _))) (p_ld Tryz.isAgg3 rfl) rfl ?_
  refine tkB 15 rfl (by kernel_rfl) (fun _ _ _ h => h) (gyes rfl rfl rfl rfl) (TTany _) (p_icmp rfl rfl rfl) rfl ?_
  refine tkB 16 rfl (by kernel_rfl) (fun _ _ _ h => h) gnone (TTany _) (p_pickt rfl rfl) rfl ?_
  refine tkB 17 rfl (by kernel_rfl) (fun _ _ _ h => h) gnone (TTany _) (p_move rfl) rfl ?_
  refine tkB 18 rfl (by kernel_rfl) (fun _ _ _ h => h) (gyes rfl rfl rfl rfl) (TTany _) (p_move rfl) rfl ?_
  refine tkB 19 rfl (by kernel_rfl) (fun _ _ _ h => h) (gyes rfl rfl rfl rfl) (TTany _) (p_lenl rfl Tryz.underlying43) rfl ?_
  refine tkB 20 rfl (by kernel_rfl) (fun _ _ _ h => h) (gyes rfl rfl rfl rfl) (TTany _) (p_icmp rfl rfl rfl) rfl ?_
  refine tkB 21 rfl (by kernel_rfl) (fun _ _ _ h => h) gnone (TTany _) (p_pickt rfl rfl) rfl ?_
  refine tkB 22 rfl (by kernel_rfl) (fun _ _ _ h => h) gnone (TTany _) (p_move rfl) rfl ?_
  refine tkB 23 rfl (by kernel_rfl) (fun _ _ _ h => h) (gyes rfl rfl rfl rfl) (TTany _) (p_move rfl) rfl ?_
  refine tkB 24 rfl (by kernel_rfl) (fun _ _ _ h => h) (gyes rfl rfl rfl rfl) (TTany _) (p_ia 0 hAs (by decide) rfl Tryz.underlying43 Tryz.sizeOf31 rfl rfl) rfl ?_
  refine tkB 25 rfl (by kernel_rfl) (fun _ _ _ h => h) (gyes rfl rfl rfl rfl) (TTany _) (p_fa fa31_0 rfl) rfl ?_
  refine tkB 26 rfl (by kernel_rfl) (fun _ _ _ h => h) (gyes rfl rfl rfl rfl) (TTat (List.Mem.tail _ (List.Mem.tail _ (List.Mem.head _)))) (p_ld Tryz.isAgg3 rfl) rfl ?_
  refine tkB 27 rfl (by kernel_rfl) (fun _ _ _ h => h) (gyes rfl rfl rfl rfl) (TTany _) (p_icmp rfl rfl rfl) rfl ?_
  refine tkB 28 rfl (by kernel_rfl) (fun _ _ _ h => h) gnone (TTany _) (p_pickt rfl rfl) rfl ?_
  refine tkB 29 rfl (by kernel_rfl) (fun _ _ _ h => h) gnone (TTany _) (p_move rfl) rfl ?_
  refine tkB 30 rfl (by kernel_rfl) (fun _ _ _ h => h) (gyes rfl rfl rfl rfl) (TTany _) (p_move rfl) rfl ?_
  refine tkB 31 rfl (by kernel_rfl) (fun _ _ _ h => h) gnone (TTany _) (p_pickt rfl rfl) rfl ?_
  refine tkB 32 rfl (by kernel_rfl) (fun _ _ _ h => h) gnone (TTany _) (p_move rfl) rfl ?_
  refine tkB 33 rfl (by kernel_rfl) (fun _ _ _ h => h) (gyes rfl rfl rfl rfl) (TTat (List.Mem.tail _ (List.Mem.tail _ (List.Mem.tail _ (List.Mem.head _))))) (p_lda Tryz.isAgg31 Tryz.sizeOf31 rfl rfl) rfl ?_
  refine tkB 34 rfl (by kernel_rfl) (fun _ _ _ h => h) (gyes rfl rfl rfl rfl) (TTany _) (p_move rfl) rfl ?_
  refine tkB 35 rfl (by kernel_rfl) (fun _ _ _ h => h) (gyes rfl rfl rfl rfl) (TTany _) (p_ia 1 hAu (by decide) rfl Tryz.underlying43 Tryz.sizeOf31 rfl rfl) rfl ?_
  refine tkB 36 rfl (by kernel_rfl) (fun _ _ _ h => h) (gyes rfl rfl rfl rfl) (TTat (List.Mem.tail _ (List.Mem.tail _ (List.Mem.tail _ (List.Mem.tail _ (List.Mem.head _)))))) (p_lda Tryz.isAgg31 Tryz.sizeOf31 rfl rfl) rfl ?_
  refine dfB 37 (by kernel_rfl) ?_
  refine doGB rfl rfl rfl rfl rfl (o_call (is := []) Tryz.call14 (c_nSame qB qB _ zyu fitqB fitqB) rfl rfl (by repeat (first | exact Sub.d | (refine Sub.s ?_ ?_; (repeat (first | exact In.z | apply In.s))) | (refine Sub.suf ?_; (repeat (first | exact Suf.z | apply Suf.s))))) rfl) (TOk.xP 37 [32, 29, 22, 17, 10, 9, 8] (by kernel_rfl) (TOk.xP 37 [32, 29, 22, 17, 16, 15] (by kernel_rfl) (TOk.xP 37 [32, 29, 28, 27] (by kernel_rfl) (TOk.xP 37 [] (by kernel_rfl) (TOk.xP 37 [] (by kernel_rfl) (TOk.t (isBoxE fun _ => isBoxS (by repeat (first | exact At.z | apply At.s)) (k := 4) (by repeat (first | exact Cut.d | apply Cut.t | apply Cut.s))) (TOk.t (isBoxE fun _ => isInS (by repeat (first | exact At.z | apply At.s)) (k := 0) rfl (z := 4) (by repeat (first | exact Cut.d | apply Cut.t | apply Cut.s))) (TOk.t (isBoxE fun _ => isBoxS (by repeat (first | exact At.z | apply At.s)) (k := 1) (by repeat (first | exact Cut.d | apply Cut.t | apply Cut.s))) (TOk.t (isBoxE fun _ => isInS (by repeat (first | exact At.z | apply At.s)) (k := 0) rfl (z := 4) (by repeat (first | exact Cut.d | apply Cut.t | apply Cut.s))) (TOk.t (isBoxE fun _ => isInS (by repeat (first | exact At.z | apply At.s)) (k := 0) rfl (z := 4) (by repeat (first | exact Cut.d | apply Cut.t | apply Cut.s))) (TOk.t (isBoxE fun _ => isInS (by repeat (first | exact At.z | apply At.s)) (k := 0) rfl (z := 4) (by repeat (first | exact Cut.d | apply Cut.t | apply Cut.s))) TOk.d))))))))))) ?_
  refine eaB ?_; intro x84
  refine fixB (congrArg Value.bool (decide_eq_true rfl)) ?_
  refine tkB 38 rfl (by kernel_rfl) (fun _ _ _ h => h) gnone (TTany _) (p_pickt rfl rfl) rfl ?_
  refine tkB 39 rfl (by kernel_rfl) (fun _ _ _ h => h) gnone (TTany _) (p_move rfl) rfl ?_
  refine tkB 40 rfl (by kernel_rfl) (fun _ _ _ h => h) (gyes rfl rfl rfl rfl) (TTat (List.Mem.tail _ (List.Mem.tail _ (List.Mem.tail _ (List.Mem.tail _ (List.Mem.tail _ (List.Mem.head _))))))) (p_lda Tryz.isAgg31 Tryz.sizeOf31 rfl rfl) rfl ?_
  refine tkB 41 rfl (by kernel_rfl) (fun _ _ _ h => h) (gyes rfl rfl rfl rfl) (TTany _) (p_move rfl) rfl ?_
  refine tkB 42 rfl (by kernel_rfl) (fun _ _ _ h => h) (gyes rfl rfl rfl rfl) (TTany _) (p_ia 0 hAt (by decide) rfl Tryz.underlying43 Tryz.sizeOf31 rfl rfl) rfl ?_
  refine tkB 43 rfl (by kernel_rfl) (fun _ _ _ h => h) (gyes rfl rfl rfl rfl) (TTat (List.Mem.tail _ (List.Mem.tail _ (List.Mem.tail _ (List.Mem.tail _ (List.Mem.tail _ (List.Mem.tail _ (List.Mem.head _)))))))) (p_lda Tryz.isAgg31 Tryz.sizeOf31 rfl rfl) rfl ?_
  refine dfB 44 (by kernel_rfl) ?_
  refine doGB rfl rfl rfl rfl rfl (o_call (is := []) Tryz.call16 (c_nClone qA zyt fitqA) rfl rfl (by repeat (first | exact Sub.d | (refine Sub.s ?_ ?_; (repeat (first | exact In.z | apply In.s))) | (refine Sub.suf ?_; (repeat (first | exact Suf.z | apply Suf.s))))) rfl) (TOk.xP 37 [32, 29, 22, 17, 10, 9, 8] (by kernel_rfl) (TOk.xP 37 [32, 29, 22, 17, 16, 15] (by kernel_rfl) (TOk.xP 37 [32, 29, 28, 27] (by kernel_rfl) (TOk.xP 37 [] (by kernel_rfl) (TOk.xP 37 [] (by kernel_rfl) (TOk.t (isBoxE fun _ => isBoxS (by repeat (first | exact At.z | apply At.s)) (k := 4) (by repeat (first | exact Cut.d | apply Cut.t | apply Cut.s))) (TOk.xP 44 [] (by kernel_rfl) (TOk.t (isBoxE fun _ => isBoxS (by repeat (first | exact At.z | apply At.s)) (k := 1) (by repeat (first | exact Cut.d | apply Cut.t | apply Cut.s))) (TOk.t (isBoxE fun _ => isInS (by repeat (first | exact At.z | apply At.s)) (k := 0) rfl (z := 4) (by repeat (first | exact Cut.d | apply Cut.t | apply Cut.s))) (TOk.t (isBoxE fun _ => isInS (by repeat (first | exact At.z | apply At.s)) (k := 0) rfl (z := 4) (by repeat (first | exact Cut.d | apply Cut.t | apply Cut.s))) (TOk.t (isBoxE fun _ => isInS (by repeat (first | exact At.z | apply At.s)) (k := 0) rfl (z := 4) (by repeat (first | exact Cut.d | apply Cut.t | apply Cut.s))) TOk.d))))))))))) ?_
  refine eaB ?_; intro y91
  refine dfB 45 (by kernel_rfl) ?_
  refine doGB rfl rfl rfl rfl rfl (o_call (is := []) Tryz.call14 (c_nSame qA qA _ y91 fitqA fitqA) rfl rfl (by repeat (first | exact Sub.d | (refine Sub.s ?_ ?_; (repeat (first | exact In.z | apply In.s))) | (refine Sub.suf ?_; (repeat (first | exact Suf.z | apply Suf.s))))) rfl) (TOk.xP 37 [32, 29, 22, 17, 10, 9, 8] (by kernel_rfl) (TOk.xP 37 [32, 29, 22, 17, 16, 15] (by kernel_rfl) (TOk.xP 37 [32, 29, 28, 27] (by kernel_rfl) (TOk.xP 37 [] (by kernel_rfl) (TOk.xP 37 [] (by kernel_rfl) (TOk.xP 45 [] (by kernel_rfl) (TOk.xP 44 [] (by kernel_rfl) (TOk.t (isBoxE fun _ => isBoxS (by repeat (first | exact At.z | apply At.s)) (k := 1) (by repeat (first | exact Cut.d | apply Cut.t | apply Cut.s))) (TOk.t (isBoxE fun _ => isInS (by repeat (first | exact At.z | apply At.s)) (k := 0) rfl (z := 4) (by repeat (first | exact Cut.d | apply Cut.t | apply Cut.s))) (TOk.t (isBoxE fun _ => isInS (by repeat (first | exact At.z | apply At.s)) (k := 0) rfl (z := 4) (by repeat (first | exact Cut.d | apply Cut.t | apply Cut.s))) (TOk.t (isBoxE fun _ => isInS (by repeat (first | exact At.z | apply At.s)) (k := 0) rfl (z := 4) (by repeat (first | exact Cut.d | apply Cut.t | apply Cut.s))) TOk.d))))))))))) ?_
  refine eaB ?_; intro x92
  refine fixB (congrArg Value.bool (decide_eq_true rfl)) ?_
  refine tkB 46 rfl (by kernel_rfl) (fun _ _ _ h => h) gnone (TTany _) (p_pickt rfl rfl) rfl ?_
  refine tkB 47 rfl (by kernel_rfl) (fun _ _ _ h => h) gnone (TTany _) (p_move rfl) rfl ?_
  refine tkB 48 rfl (by kernel_rfl) (fun _ _ _ h => h) (gyes rfl rfl rfl rfl) (TTany _) (p_move rfl) rfl ?_
  refine tkB 49 rfl (by kernel_rfl) (fun _ _ _ h => h) gnone (TTany _) (p_pickt rfl rfl) rfl ?_
  refine tkB 50 rfl (by kernel_rfl) (fun _ _ _ h => h) gnone (TTany _) (p_move rfl) rfl ?_
  refine tkB 51 rfl (by kernel_rfl) (fun _ _ _ h => h) (gyes rfl rfl rfl rfl) (TTany _) (p_fa fa31_0 rfl) rfl ?_
  refine tkB 52 rfl (by kernel_rfl) (fun _ _ _ h => h) (gyes rfl rfl rfl rfl) (TTat (List.Mem.tail _ (List.Mem.tail _ (List.Mem.tail _ (List.Mem.tail _ (List.Mem.tail _ (List.Mem.tail _ (List.Mem.tail _ (List.Mem.head _))))))))) (p_ld Tryz.isAgg3 rfl) rfl ?_
  refine tkB 53 rfl (by kernel_rfl) (fun _ _ _ h => h) (gyes rfl rfl rfl rfl) (TTany _) (p_icmp rfl rfl rfl) rfl ?_
  refine tkB 54 rfl (by kernel_rfl) (fun _ _ _ h => h) gnone (TTany _) (p_pickt rfl rfl) rfl ?_
  refine tkB 55 rfl (by kernel_rfl) (fun _ _ _ h => h) gnone (TTany _) (p_move rfl) rfl ?_
  refine tkB 56 rfl (by kernel_rfl) (fun _ _ _ h => h) (gyes rfl rfl rfl rfl) (TTany _) (p_move rfl) rfl ?_
  refine tkB 57 rfl (by kernel_rfl) (fun _ _ _ h => h) (gyes rfl rfl rfl rfl) (TTany _) (p_lenl rfl Tryz.underlying43) rfl ?_
  refine tkB 58 rfl (by kernel_rfl) (fun _ _ _ h => h) (gyes rfl rfl rfl rfl) (TTany _) (p_icmp rfl rfl rfl) rfl ?_
  refine tkB 59 rfl (by kernel_rfl) (fun _ _ _ h => h) gnone (TTany _) (p_pickt rfl rfl) rfl ?_
  refine tkB 60 rfl (by kernel_rfl) (fun _ _ _ h => h) gnone (TTany _) (p_move rfl) rfl ?_
  refine tkB 61 rfl (by kernel_rfl) (fun _ _ _ h => h) (gyes rfl rfl rfl rfl) (TTany _) (p_move rfl) rfl ?_
  refine tkB 62 rfl (by kernel_rfl) (fun _ _ _ h => h) (gyes rfl rfl rfl rfl) (TTany _) (p_ia 0 hAt (by decide) rfl Tryz.underlying43 Tryz.sizeOf31 rfl rfl) rfl ?_
  refine tkB 63 rfl (by kernel_rfl) (fun _ _ _ h => h) (gyes rfl rfl rfl rfl) (TTat (List.Mem.tail _ (List.Mem.tail _ (List.Mem.tail _ (List.Mem.tail _ (List.Mem.tail _ (List.Mem.tail _ (List.Mem.tail _ (List.Mem.tail _ (List.Mem.head _)))))))))) (p_lda Tryz.isAgg31 Tryz.sizeOf31 rfl rfl) rfl ?_
  refine tkB 64 rfl (by kernel_rfl) (fun _ _ _ h => h) (gyes rfl rfl rfl rfl) (TTany _) (p_move rfl) rfl ?_
  refine tkB 65 rfl (by kernel_rfl) (fun _ _ _ h => h) (gyes rfl rfl rfl rfl) (TTany _) (p_ia 2 hAv (by decide) rfl Tryz.underlying43 Tryz.sizeOf31 rfl rfl) rfl ?_
  refine tkB 66 rfl (by kernel_rfl) (fun _ _ _ h => h) (gyes rfl rfl rfl rfl) (TTat (List.Mem.tail _ (List.Mem.tail _ (List.Mem.tail _ (List.Mem.tail _ (List.Mem.tail _ (List.Mem.tail _ (List.Mem.tail _ (List.Mem.tail _ (List.Mem.tail _ (List.Mem.head _))))))))))) (p_lda Tryz.isAgg31 Tryz.sizeOf31 rfl rfl) rfl ?_
  refine dfB 67 (by kernel_rfl) ?_
  refine doGB rfl rfl rfl rfl rfl (o_call (is := []) Tryz.call20 (c_nNeeds qA qC zyt zyv fitqA fitqC) rfl rfl (by repeat (first | exact Sub.d | (refine Sub.s ?_ ?_; (repeat (first | exact In.z | apply In.s))) | (refine Sub.suf ?_; (repeat (first | exact Suf.z | apply Suf.s))))) rfl) (TOk.xP 37 [32, 29, 22, 17, 10, 9, 8] (by kernel_rfl) (TOk.xP 37 [32, 29, 22, 17, 16, 15] (by kernel_rfl) (TOk.xP 37 [32, 29, 28, 27] (by kernel_rfl) (TOk.xP 37 [] (by kernel_rfl) (TOk.xP 37 [] (by kernel_rfl) (TOk.xP 45 [] (by kernel_rfl) (TOk.xP 44 [] (by kernel_rfl) (TOk.xP 67 [60, 55, 54, 53] (by kernel_rfl) (TOk.xP 67 [] (by kernel_rfl) (TOk.xP 67 [] (by kernel_rfl) (TOk.t (isBoxE fun _ => isInS (by repeat (first | exact At.z | apply At.s)) (k := 0) rfl (z := 4) (by repeat (first | exact Cut.d | apply Cut.t | apply Cut.s))) TOk.d))))))))))) ?_
  refine eaB ?_; intro x114
  refine fixB (congrArg Value.bool al7) ?_
  refine tkB 68 rfl (by kernel_rfl) (fun _ _ _ h => h) gnone (TTany _) (p_pickt rfl rfl) rfl ?_
  refine tkB 69 rfl (by kernel_rfl) (fun _ _ _ h => h) gnone (TTany _) (p_move rfl) rfl ?_
  refine tkB 70 rfl (by kernel_rfl) (fun _ _ _ h => h) (gyes rfl rfl rfl rfl) (TTany _) (p_move rfl) rfl ?_
  refine tkB 71 rfl (by kernel_rfl) (fun _ _ _ h => h) (gyes rfl rfl rfl rfl) (TTany _) (p_ia 0 hAt (by decide) rfl Tryz.underlying43 Tryz.sizeOf31 rfl rfl) rfl ?_
  refine tkB 72 rfl (by kernel_rfl) (fun _ _ _ h => h) (gyes rfl rfl rfl rfl) (TTat (List.Mem.tail _ (List.Mem.tail _ (List.Mem.tail _ (List.Mem.tail _ (List.Mem.tail _ (List.Mem.tail _ (List.Mem.tail _ (List.Mem.tail _ (List.Mem.tail _ (List.Mem.tail _ (List.Mem.head _)))))))))))) (p_lda Tryz.isAgg31 Tryz.sizeOf31 rfl rfl) rfl ?_
  refine dfB 73 (by kernel_rfl) ?_
  refine doGB rfl rfl rfl rfl rfl (o_call (is := []) Tryz.call11 (c_nRight qA zyt fitqA) rfl rfl (by repeat (first | exact Sub.d | (refine Sub.s ?_ ?_; (repeat (first | exact In.z | apply In.s))) | (refine Sub.suf ?_; (repeat (first | exact Suf.z | apply Suf.s))))) rfl) (TOk.xP 37 [32, 29, 22, 17, 10, 9, 8] (by kernel_rfl) (TOk.xP 37 [32, 29, 22, 17, 16, 15] (by kernel_rfl) (TOk.xP 37 [32, 29, 28, 27] (by kernel_rfl) (TOk.xP 37 [] (by kernel_rfl) (TOk.xP 37 [] (by kernel_rfl) (TOk.xP 45 [] (by kernel_rfl) (TOk.xP 44 [] (by kernel_rfl) (TOk.xP 67 [60, 55, 54, 53] (by kernel_rfl) (TOk.xP 67 [] (by kernel_rfl) (TOk.xP 67 [] (by kernel_rfl) (TOk.xP 73 [] (by kernel_rfl) TOk.d))))))))))) ?_
  refine eaB ?_; intro x120
  refine fixB (congrArg Value.bool al5) ?_
  refine tkB 74 rfl (by kernel_rfl) (fun _ _ _ h => h) gnone (TTany _) (p_pickt rfl rfl) rfl ?_
  refine tkB 75 rfl (by kernel_rfl) (fun _ _ _ h => h) gnone (TTany _) (p_move rfl) rfl ?_
  refine tkB 76 rfl (by kernel_rfl) (fun _ _ _ h => h) (gyes rfl rfl rfl rfl) (TTany _) (p_bld sb31 rfl Fill.d) rfl ?_
  refine dfB 77 (by kernel_rfl) ?_
  refine doGB rfl rfl rfl rfl rfl (o_call (is := []) Tryz.call11 (c_nRight Patch.zero ((none, 0), (none, 0)) pzero_fit) rfl rfl (by repeat (first | exact Sub.d | (refine Sub.s ?_ ?_; (repeat (first | exact In.z | apply In.s))) | (refine Sub.suf ?_; (repeat (first | exact Suf.z | apply Suf.s))))) rfl) (TOk.xP 37 [32, 29, 22, 17, 10, 9, 8] (by kernel_rfl) (TOk.xP 37 [32, 29, 22, 17, 16, 15] (by kernel_rfl) (TOk.xP 37 [32, 29, 28, 27] (by kernel_rfl) (TOk.xP 37 [] (by kernel_rfl) (TOk.xP 37 [] (by kernel_rfl) (TOk.xP 45 [] (by kernel_rfl) (TOk.xP 44 [] (by kernel_rfl) (TOk.xP 67 [60, 55, 54, 53] (by kernel_rfl) (TOk.xP 67 [] (by kernel_rfl) (TOk.xP 67 [] (by kernel_rfl) (TOk.xP 73 [] (by kernel_rfl) TOk.d))))))))))) ?_
  refine eaB ?_; intro x124
  refine fixB (congrArg Value.bool al6) ?_
  refine tkB 78 rfl (by kernel_rfl) (fun _ _ _ h => h) (gyes rfl rfl rfl rfl) (TTany _) (p_not rfl) rfl ?_
  refine tkB 79 rfl (by kernel_rfl) (fun _ _ _ h => h) gnone (TTany _) (p_pickt rfl rfl) rfl ?_
  refine tkB 80 rfl (by kernel_rfl) (fun _ _ _ h => h) gnone (TTany _) (p_asg rfl) rfl ?_
  refine dnB (by kernel_rfl) ?_
  refine nthen ?_
  refine cret ?_
  refine xret (fun _ _ h => h) ?_
  refine rret (is := []) () (Or.inl rfl) (Res.t rfl Res.d) (rfl) rfl (by repeat (first | exact Sub.d | (refine Sub.s ?_ ?_; (repeat (first | exact In.z | apply In.s))) | (refine Sub.suf ?_; (repeat (first | exact Suf.z | apply Suf.s)))))

end Go.Proofs.YtogcgfdfabnjhaaGreatDoor.X

end
