/- OWN WORK: a part of the proof of a law of the seat YtonmgdamojingaaGreatDoor: contracts. -/
import Derived.Test.YtonmgdamojingaaGreatDoorProg
import Derived.Test.YtonmgdamojingaaGreatDoorXA2
import Derived.Test.YtonmgdamojingaaGreatDoorXSx2
section
set_option linter.unusedVariables false
set_option linter.unusedSimpArgs false
namespace Go.Proofs.YtonmgdamojingaaGreatDoor.X
open Go Go.RowKit Go.Proofs Go.Sx
attribute [local irreducible] slA isA box row

theorem inf69 : (Tryz.prog.info? 69).map (fun i => (i.zero, i.size, i.bytes)) = some (some (.agg #[.int .i64 0, .string ⟨#[]⟩, .string ⟨#[]⟩, .int .i64 0, .slice none 0 0, .slice none 0 0]), 6, 96) := by kernel_rfl
set_option maxRecDepth 100000 in
theorem c_seqCloned (l : List Prim) (A0 : Option Addr) (c0 : Nat) (hl : l.length ≤ 2000000) (hf : ∀ x ∈ l, x.fit) : Con Tryz.prog 70 [.slice A0 l.length c0] [] [slA A0 l] (Option Addr × Nat) (fun y => .slice y.1 l.length y.2) (fun y => [row 69 y.1 y.2 l]) (fun _ => []) := by
 refine con Tryz.func70 rfl Tryz.ntmps70 rfl ?_
 intro M0 F0 w0
 refine cs ?_
 refine cr ?_
 refine ls (op (p_asg rfl) rfl) ?_
 refine ln ?_
 refine nthen ?_
 refine cs ?_
 refine cr ?_
 refine ls (op (p_asg rfl) rfl) ?_
 refine ln ?_
 refine nthen ?_
 refine cs ?_
 refine cs ?_
 refine cmono (fun a w h => nilRow (α := Prim) 69 h) ?_
 refine cr ?_
 refine ls (op (p_move rfl) rfl) ?_
 refine ls (op (p_lenl rfl Tryz.underlying34) rfl) ?_
 refine ls (op (p_move rfl) rfl) ?_
 refine ln ?_
 refine nthen ?_
 refine cb ?_
 refine cl (ι := {q : Nat × Option Addr × Nat // q.1 ≤ l.length}) (fun i => St M0 F0 w0 19 [(6, .slice A0 l.length c0), (7, .int .i64 (l.length : Int)), (8, .int .i64 (i.1.1 : Int)), (3, .slice i.1.2.1 (l.take i.1.1).length i.1.2.2)] [row 69 i.1.2.1 i.1.2.2 (l.take i.1.1)] [slA A0 l]) (fun i => l.length - i.1.1) ⟨(0, none, 0), Nat.zero_le _⟩ (wk (is := [0]) (by repeat (first | exact subσ.nil _ | refine subσ.cons rfl ?_)) rfl (by repeat (first | exact Sub.d | (refine Sub.s ?_ ?_; (repeat (first | exact In.z | apply In.s))) | (refine Sub.suf ?_; (repeat (first | exact Suf.z | apply Suf.s)))))) ?_
 rintro ⟨⟨k, A, c⟩, hk⟩
 refine cmono (S' := St M0 F0 w0 19 [(6, .slice A0 l.length c0), (7, .int .i64 (l.length : Int)), (8, .int .i64 (k : Int)), (3, .slice A (l.take k).length c)] [row 69 A c (l.take k)] [slA A0 l]) (fun _ _ h => h) ?_
 refine cs ?_
 refine cr ?_
 refine ls (op (p_icmp rfl rfl rfl) rfl) ?_
 refine ln ?_
 refine nthen ?_
 refine cs ?_
 refine cc rfl ?_ ?_
 ·
  intro h9
  dsimp only at hk
  try simp only [decide_eq_true_eq, decide_eq_false_iff_not, Bool.not_eq_true', Bool.not_eq_false', Int.not_lt, Int.not_le, ge_iff_le, Bool.not_true, Bool.not_false] at h9
  have hk1 : k < l.length := by omega
  refine cskip ?_
  refine nthen ?_
  refine cs ?_
  refine cb ?_
  refine cs ?_
  refine elC (by repeat (first | exact At.z | apply At.s)) k (List.getElem?_eq_getElem (l := l) hk1) ?_; rintro zbp zop zyp hAp
  refine cr ?_
  refine ls (op (p_ia k hAp hk1 rfl Tryz.underlying34 Tryz.sizeOf69 rfl rfl) rfl) ?_
  refine ls (o_ldj Tryz.isAgg69 Tryz.sizeOf69 rfl (by repeat (first | exact At.z | apply At.s)) 0 rfl (by repeat (first | exact Cut.d | apply Cut.t | apply Cut.s)) rfl) ?_
  refine ls (o_alloc Tryz.zeroValue69 rfl rfl) ?_
  refine le ?_; intro b5
  refine ls (o_st rfl Tryz.sizeOf69 rfl rfl rfl rfl rfl (by repeat (first | exact At.z | apply At.s)) (by repeat (first | exact Put.d | apply Put.t | apply Put.s)) (by repeat (first | exact SetAt.z | apply SetAt.s))) ?_
  refine ln ?_
  refine nthen ?_
  refine cr ?_
  refine ls (op (p_move rfl) rfl) ?_
  refine ls (o_ldw Tryz.isAgg69 Tryz.sizeOf69 rfl (by repeat (first | exact At.z | apply At.s)) (by rfl) rfl) ?_
  refine ls (o_call (is := []) Tryz.call46 (c_primClone l[k] zyp (hf _ (List.getElem_mem hk1))) rfl rfl (by repeat (first | exact Sub.d | (refine Sub.s ?_ ?_; (repeat (first | exact In.z | apply In.s))) | (refine Sub.suf ?_; (repeat (first | exact Suf.z | apply Suf.s))))) rfl) ?_
  refine le ?_; intro y14
  refine ls (o_bsl [l[k]] Tryz.underlying34 Tryz.sizeOf69 Tryz.zeroValue69 rfl (Enum.t Enum.d) (RV.t y14 rfl (by repeat (first | exact Sub.d | (refine Sub.s ?_ ?_; (repeat (first | exact In.z | apply In.s))) | (refine Sub.suf ?_; (repeat (first | exact Suf.z | apply Suf.s))))) RV.d) rfl (by decide) (by decide) rfl) ?_
  refine le ?_; intro b15
  refine lmono (fun a w h => Go.Sx.freeze (i := 0) rfl h) ?_
  refine ls (o_app (is := [1]) Tryz.underlying34 inf69 rfl (by decide) (by decide) rfl rfl (by rw [List.length_take]; simp only [List.length_cons, List.length_nil]; omega) (fun h => by cases h) rfl (by repeat (first | exact Sub.d | (refine Sub.s ?_ ?_; (repeat (first | exact In.z | apply In.s))) | (refine Sub.suf ?_; (repeat (first | exact Suf.z | apply Suf.s))))) rfl) ?_
  refine le ?_; rintro ⟨A', c'⟩
  rw [← List.take_succ_eq_append_getElem hk1]
  refine ls (op (p_asg rfl) rfl) ?_
  refine ln ?_
  refine nblock ?_
  refine nthen ?_
  refine cr ?_
  refine ls (op (p_add rfl rfl (by omega)) rfl) ?_
  refine ls (op (p_move rfl) rfl) ?_
  refine ln ?_
  refine nnext ⟨(k + 1, A', c'), hk1⟩ (by dsimp only; omega) (wk (is := [0]) (by repeat (first | exact subσ.nil _ | refine subσ.cons rfl ?_)) rfl (by repeat (first | exact Sub.d | (refine Sub.s ?_ ?_; (repeat (first | exact In.z | apply In.s))) | (refine Sub.suf ?_; (repeat (first | exact Suf.z | apply Suf.s))))))
 ·
  intro h9
  dsimp only at hk
  try simp only [decide_eq_true_eq, decide_eq_false_iff_not, Bool.not_eq_true', Bool.not_eq_false', Int.not_lt, Int.not_le, ge_iff_le, Bool.not_true, Bool.not_false] at h9
  obtain rfl : k = l.length := by omega
  refine cexit ?_
  refine xthen ?_
  refine xthen ?_
  refine xblock ?_
  refine nthen ?_
  refine cs ?_
  rw [List.take_length]
  refine cr ?_
  refine ls (op (p_move rfl) rfl) ?_
  refine ls (op (p_asg rfl) rfl) ?_
  refine ln ?_
  refine nthen ?_
  refine cret ?_
  refine xret (fun _ _ h => h) ?_
  refine rret (is := [0]) (A, c) (Or.inl rfl) (Res.t rfl Res.d) (rfl) rfl (by repeat (first | exact Sub.d | (refine Sub.s ?_ ?_; (repeat (first | exact In.z | apply In.s))) | (refine Sub.suf ?_; (repeat (first | exact Suf.z | apply Suf.s)))))

set_option maxRecDepth 100000 in
theorem c_seqPast (p : Prim) (y : Rp.Lay Prim) (hp : p.fit) (m : List Prim) (B : Option Addr) (c : Nat) (hl : m.length ≤ 2000000) (hf : ∀ x ∈ m, x.fit) : Con Tryz.prog 71 [sv p y, .slice B m.length c] [] [slA y.1.1 p.old, slA y.2.1 p.new, slA B m] {x : (List Prim × Prim × Bool) × ((Option Addr × Nat) × Rp.Lay Prim) // x.1 = pastT p m} (fun x => .tuple #[.slice x.1.2.1.1 x.1.1.1.length x.1.2.1.2, sv x.1.1.2.1 x.1.2.2, .bool x.1.1.2.2]) (fun _ => []) (fun x => slA x.1.2.1.1 x.1.1.1 :: Rp.asn x.1.1.2.1 x.1.2.2) := by
 refine con Tryz.func71 rfl Tryz.ntmps71 rfl ?_
 intro M0 F0 w0
 refine cs ?_
 refine cr ?_
 refine ls (o_box rfl rfl rfl) ?_
 refine le ?_; intro b2
 refine ls (op (p_asg rfl) rfl) ?_
 refine ls (o_alloc Tryz.zeroValue69 rfl rfl) ?_
 refine le ?_; intro b5
 refine ls (op (p_asg rfl) rfl) ?_
 refine ln ?_
 refine nthen ?_
 refine cs ?_
 refine cs ?_
 refine cmono (fun a w h => nilRow (α := Prim) 69 h) ?_
 refine cr ?_
 refine ls (op (p_move rfl) rfl) ?_
 refine ls (op (p_lenl rfl Tryz.underlying34) rfl) ?_
 refine ls (op (p_move rfl) rfl) ?_
 refine ln ?_
 refine nthen ?_
 refine cb ?_
 refine cl (ι := {q : Nat × List Prim × Prim × (Option Addr × Nat) × Rp.Lay Prim // q.1 ≤ m.length ∧ q.2.1.length = q.1 ∧ q.2.2.1.fit ∧ PI p m q.1 q.2.1 q.2.2.1}) (fun i => St M0 F0 w0 36 [(12, .slice B m.length c), (13, .int .i64 (m.length : Int)), (14, .int .i64 (i.1.1 : Int)), (4, .slice i.1.2.2.2.1.1 (i.1.2.1).length i.1.2.2.2.1.2), (2, .pointer (some ⟨b2, 0, none⟩)), (5, .pointer (some ⟨b5, 0, none⟩))] [row 69 i.1.2.2.2.1.1 i.1.2.2.2.1.2 i.1.2.1, box b2 69 (Rp.enc i.1.2.2.1 i.1.2.2.2.2), box b5 69 (Rp.enc Prim.zero ((none, 0), (none, 0)))] [slA (i.1.2.2.2.2).1.1 (i.1.2.2.1).old, slA (i.1.2.2.2.2).2.1 (i.1.2.2.1).new, slA B m]) (fun i => m.length - i.1.1) ⟨(0, [], p, (none, 0), y), Nat.zero_le _, rfl, hp, PI.start p m⟩ (wk (is := [0, 1, 0]) (by repeat (first | exact subσ.nil _ | refine subσ.cons rfl ?_)) rfl (by repeat (first | exact Sub.d | (refine Sub.s ?_ ?_; (repeat (first | exact In.z | apply In.s))) | (refine Sub.suf ?_; (repeat (first | exact Suf.z | apply Suf.s)))))) ?_
 rintro ⟨⟨k, f, p1, ⟨A1, c1⟩, y1⟩, hk, hfl, hp1, hPI⟩
 refine cmono (S' := St M0 F0 w0 36 [(12, .slice B m.length c), (13, .int .i64 (m.length : Int)), (14, .int .i64 (k : Int)), (4, .slice A1 (f).length c1), (2, .pointer (some ⟨b2, 0, none⟩)), (5, .pointer (some ⟨b5, 0, none⟩))] [row 69 A1 c1 f, box b2 69 (Rp.enc p1 y1), box b5 69 (Rp.enc Prim.zero ((none, 0), (none, 0)))] [slA (y1).1.1 (p1).old, slA (y1).2.1 (p1).new, slA B m]) (fun _ _ h => h) ?_
 refine cs ?_
 refine cr ?_
 refine ls (op (p_icmp rfl rfl rfl) rfl) ?_
 refine ln ?_
 refine nthen ?_
 refine cs ?_
 refine cc rfl ?_ ?_
 ·
  intro h15
  dsimp only at hk hfl hp1 hPI
  try simp only [decide_eq_true_eq, decide_eq_false_iff_not, Bool.not_eq_true', Bool.not_eq_false', Int.not_lt, Int.not_le, ge_iff_le, Bool.not_true, Bool.not_false] at h15
  have hk1 : k < m.length := by omega
  refine cskip ?_
  refine nthen ?_
  refine cs ?_
  refine cb ?_
  refine cs ?_
  refine elC (by repeat (first | exact At.z | apply At.s)) k (List.getElem?_eq_getElem (l := m) hk1) ?_; rintro zbp zop zyp hAp
  refine cr ?_
  refine ls (op (p_ia k hAp hk1 rfl Tryz.underlying34 Tryz.sizeOf69 rfl rfl) rfl) ?_
  refine ls (o_ldj Tryz.isAgg69 Tryz.sizeOf69 rfl (by repeat (first | exact At.z | apply At.s)) 0 rfl (by repeat (first | exact Cut.d | apply Cut.t | apply Cut.s)) rfl) ?_
  refine ls (o_alloc Tryz.zeroValue69 rfl rfl) ?_
  refine le ?_; intro b8
  refine ls (o_st rfl Tryz.sizeOf69 rfl rfl rfl rfl rfl (by repeat (first | exact At.z | apply At.s)) (by repeat (first | exact Put.d | apply Put.t | apply Put.s)) (by repeat (first | exact SetAt.z | apply SetAt.s))) ?_
  refine ln ?_
  refine nthen ?_
  refine cs ?_
  refine cr ?_
  refine ls (o_ldw Tryz.isAgg69 Tryz.sizeOf69 rfl (by repeat (first | exact At.z | apply At.s)) (by rfl) rfl) ?_
  refine ls (o_ldw Tryz.isAgg69 Tryz.sizeOf69 rfl (by repeat (first | exact At.z | apply At.s)) (by rfl) rfl) ?_
  refine ls (o_call (is := []) Tryz.call84 (c_Swap p1 m[k] y1 zyp hp1 (hf _ (List.getElem_mem hk1))) rfl rfl (by repeat (first | exact Sub.d | (refine Sub.s ?_ ?_; (repeat (first | exact In.z | apply In.s))) | (refine Sub.suf ?_; (repeat (first | exact Suf.z | apply Suf.s))))) rfl) ?_
  refine le ?_; rintro ⟨⟨⟨r1, r2, r3⟩, z1, z2⟩, hr⟩
  obtain ⟨e1, e2⟩ := swap_fit hp1 (hf _ (List.getElem_mem hk1)); rw [← hr] at e1 e2; dsimp only at hr e1 e2
  refine ls (op (p_move rfl) rfl) ?_
  refine ls (op (p_ext rfl (by repeat (first | exact At.z | apply At.s))) rfl) ?_
  refine ls (op (p_ext rfl (by repeat (first | exact At.z | apply At.s))) rfl) ?_
  refine ls (op (p_ext rfl (by repeat (first | exact At.z | apply At.s))) rfl) ?_
  refine ls (o_alloc Tryz.zeroValue69 rfl rfl) ?_
  refine le ?_; intro b9
  refine ls (o_alloc Tryz.zeroValue69 rfl rfl) ?_
  refine le ?_; intro b10
  refine ls (o_st rfl Tryz.sizeOf69 rfl rfl rfl rfl rfl (by repeat (first | exact At.z | apply At.s)) (by repeat (first | exact Put.d | apply Put.t | apply Put.s)) (by repeat (first | exact SetAt.z | apply SetAt.s))) ?_
  refine ls (o_st rfl Tryz.sizeOf69 rfl rfl rfl rfl rfl (by repeat (first | exact At.z | apply At.s)) (by repeat (first | exact Put.d | apply Put.t | apply Put.s)) (by repeat (first | exact SetAt.z | apply SetAt.s))) ?_
  refine ls (op (p_asg rfl) rfl) ?_
  refine ln ?_
  refine nthen ?_
  refine cs ?_
  refine cs ?_
  refine cr ?_
  refine ls (op (p_move rfl) rfl) ?_
  refine ls (op (p_not rfl) rfl) ?_
  refine ln ?_
  refine nthen ?_
  refine cc rfl ?_ ?_
  ·
   intro h26
   obtain rfl : false = r3 := by cases r3 <;> first | rfl | (simp at h26)
   refine cs ?_
   refine cmono (fun a w h => nilSl (α := Prim) h) ?_
   refine cmono (fun a w h => nilSl (α := ByteArray) h) ?_
   refine cr ?_
   refine ls (op (p_bld sb69 rfl Fill.d) rfl) ?_
   refine ls (op (p_asg rfl) rfl) ?_
   refine ls (o_st rfl Tryz.sizeOf69 rfl rfl rfl rfl rfl (by repeat (first | exact At.z | apply At.s)) (by repeat (first | exact Put.d | apply Put.t | apply Put.s)) (by repeat (first | exact SetAt.z | apply SetAt.s))) ?_
   refine ls (op (p_asg rfl) rfl) ?_
   refine ln ?_
   refine nthen ?_
   refine cret ?_
   refine xret (fun _ _ h => h) ?_
   refine rret (is := []) ⟨(([], Prim.zero, false), ((none, 0), ((none, 0), (none, 0)))), (hPI.stop hk1 hr).symm⟩ (Or.inl rfl) (Res.t rfl (Res.c rfl Tryz.isAgg69 Tryz.sizeOf69 (by repeat (first | exact At.z | apply At.s)) (by rfl) (Res.t rfl Res.d))) (rfl) rfl (by repeat (first | exact Sub.d | (refine Sub.s ?_ ?_; (repeat (first | exact In.z | apply In.s))) | (refine Sub.suf ?_; (repeat (first | exact Suf.z | apply Suf.s)))))
  ·
   intro h26
   obtain rfl : true = r3 := by cases r3 <;> first | rfl | (simp at h26)
   refine cskip ?_
   refine nthen ?_
   refine cd [2, 3, 6] [(1, b9, 0, _), (4, b10, 0, _)] TryzX.mixed (TOk.t (isBoxS (by repeat (first | exact At.z | apply At.s)) (k := 6) (by repeat (first | exact Cut.d | apply Cut.t | apply Cut.s))) (TOk.t (isBoxS (by repeat (first | exact At.z | apply At.s)) (k := 6) (by repeat (first | exact Cut.d | apply Cut.t | apply Cut.s))) TOk.d)) ?_
   refine tk 0 rfl (by kernel_rfl) (fun _ _ _ h => h) gnone (TTany _) (p_move rfl) rfl ?_
   refine tk 1 rfl (by kernel_rfl) (fun _ _ _ h => h) gnone (TTat (List.Mem.head _)) (p_lda Tryz.isAgg69 Tryz.sizeOf69 rfl rfl) rfl ?_
   refine tk 4 rfl (by kernel_rfl) (fun _ _ _ h => h) gnone (TTat (List.Mem.tail _ (List.Mem.head _))) (p_lda Tryz.isAgg69 Tryz.sizeOf69 rfl rfl) rfl ?_
   refine df 2 (by kernel_rfl) ?_
   refine doR rfl (o_bsl [r1] Tryz.underlying34 Tryz.sizeOf69 Tryz.zeroValue69 rfl (Enum.t Enum.d) (RV.t z1 rfl (by repeat (first | exact Sub.d | (refine Sub.s ?_ ?_; (repeat (first | exact In.z | apply In.s))) | (refine Sub.suf ?_; (repeat (first | exact Suf.z | apply Suf.s))))) RV.d) rfl (by decide) (by decide) rfl) (TOk.x (by kernel_rfl) (TOk.t (isBoxE fun _ => isBoxS (by repeat (first | exact At.z | apply At.s)) (k := 6) (by repeat (first | exact Cut.d | apply Cut.t | apply Cut.s))) TOk.d)) ?_
   refine ea ?_; intro b30
   refine amono (fun a w h => Go.Sx.freeze (i := 0) rfl h) ?_
   refine df 3 (by kernel_rfl) ?_
   refine doR rfl (o_app (is := [3]) Tryz.underlying34 inf69 rfl (by decide) (by decide) rfl rfl (by simp only [List.length_cons, List.length_nil]; omega) (fun h => by cases h) rfl (by repeat (first | exact Sub.d | (refine Sub.s ?_ ?_; (repeat (first | exact In.z | apply In.s))) | (refine Sub.suf ?_; (repeat (first | exact Suf.z | apply Suf.s))))) rfl) (TOk.x (by kernel_rfl) (TOk.t (isBoxE fun _ => isBoxS (by repeat (first | exact At.z | apply At.s)) (k := 6) (by repeat (first | exact Cut.d | apply Cut.t | apply Cut.s))) TOk.d)) ?_
   refine ea ?_; rintro ⟨A', c'⟩
   refine tk 5 rfl (by kernel_rfl) (fun _ _ _ h => h) gnone (TTany _) (p_asg rfl) rfl ?_
   refine df 6 (by kernel_rfl) ?_
   refine doR rfl (o_st rfl Tryz.sizeOf69 rfl rfl rfl rfl rfl (by repeat (first | exact At.z | apply At.s)) (by repeat (first | exact Put.d | apply Put.t | apply Put.s)) (by repeat (first | exact SetAt.z | apply SetAt.s))) (TOk.x (by kernel_rfl) (TOk.x (by kernel_rfl) TOk.d)) ?_
   refine dn (by kernel_rfl) ?_
   refine nblock ?_
   refine nthen ?_
   refine cr ?_
   refine ls (op (p_add rfl rfl (by omega)) rfl) ?_
   refine ls (op (p_move rfl) rfl) ?_
   refine ln ?_
   refine nnext ⟨(k + 1, f ++ [r1], r2, (A', c'), z2), hk1, by simp [hfl], e2, hPI.step hk1 hr⟩ (by dsimp only; omega) (wk (is := [0, 3, 3]) (by repeat (first | exact subσ.nil _ | refine subσ.cons rfl ?_)) rfl (by repeat (first | exact Sub.d | (refine Sub.s ?_ ?_; (repeat (first | exact In.z | apply In.s))) | (refine Sub.suf ?_; (repeat (first | exact Suf.z | apply Suf.s))))))
 ·
  intro h15
  dsimp only at hk hfl hp1 hPI
  try simp only [decide_eq_true_eq, decide_eq_false_iff_not, Bool.not_eq_true', Bool.not_eq_false', Int.not_lt, Int.not_le, ge_iff_le, Bool.not_true, Bool.not_false] at h15
  refine cexit ?_
  refine xthen ?_
  refine xthen ?_
  refine xblock ?_
  refine nthen ?_
  refine cs ?_
  refine cmono (fun a w h => Go.Sx.freeze (i := 0) rfl h) ?_
  refine cd [3] [(1, b2, 0, _)] TryzX.mixed (TOk.t (isBoxS (by repeat (first | exact At.z | apply At.s)) (k := 6) (by repeat (first | exact Cut.d | apply Cut.t | apply Cut.s))) TOk.d) ?_
  refine tk 0 rfl (by kernel_rfl) (fun _ _ _ h => h) gnone (TTany _) (p_move rfl) rfl ?_
  refine tk 1 rfl (by kernel_rfl) (fun _ _ _ h => h) gnone (TTat (List.Mem.head _)) (p_lda Tryz.isAgg69 Tryz.sizeOf69 rfl rfl) rfl ?_
  refine tk 2 rfl (by kernel_rfl) (fun _ _ _ h => h) gnone (TTany _) (p_asg rfl) rfl ?_
  refine df 3 (by kernel_rfl) ?_
  refine doR rfl (o_st rfl Tryz.sizeOf69 rfl rfl rfl rfl rfl (by repeat (first | exact At.z | apply At.s)) (by repeat (first | exact Put.d | apply Put.t | apply Put.s)) (by repeat (first | exact SetAt.z | apply SetAt.s))) (TOk.x (by kernel_rfl) TOk.d) ?_
  refine tk 4 rfl (by kernel_rfl) (fun _ _ _ h => h) gnone (TTany _) (p_asg rfl) rfl ?_
  refine dn (by kernel_rfl) ?_
  refine nthen ?_
  refine cret ?_
  refine xret (fun _ _ h => h) ?_
  refine rret (is := []) ⟨((f, p1, true), ((A1, c1), y1)), (hPI.done (by omega)).symm⟩ (Or.inl rfl) (Res.t rfl (Res.c rfl Tryz.isAgg69 Tryz.sizeOf69 (by repeat (first | exact At.z | apply At.s)) (by rfl) (Res.t rfl Res.d))) (rfl) rfl (by repeat (first | exact Sub.d | (refine Sub.s ?_ ?_; (repeat (first | exact In.z | apply In.s))) | (refine Sub.suf ?_; (repeat (first | exact Suf.z | apply Suf.s)))))

end Go.Proofs.YtonmgdamojingaaGreatDoor.X

end
section
set_option linter.unusedVariables false
set_option linter.unusedSimpArgs false
namespace Go.Proofs.YtonmgdamojingaaGreatDoor.X
open Go Go.RowKit Go.Proofs Go.Sx
attribute [local irreducible] slA isA box row


set_option maxRecDepth 100000 in
theorem c_Backward (l : List Prim) (A : Option Addr) (c : Nat) : Con Tryz.prog 67 [.slice A l.length c] [] [] Nat (fun b => .func (.func 83) #[] #[.pointer (some ⟨b, 0, none⟩)]) (fun b => [box b 34 [.slice A l.length c]]) (fun _ => []) := by
 refine con Tryz.func67 rfl Tryz.ntmps67 rfl ?_
 intro M0 F0 w0
 refine cs ?_
 refine cr ?_
 refine ls (o_box rfl rfl rfl) ?_
 refine le ?_; intro b1
 refine ls (op (p_asg rfl) rfl) ?_
 refine ln ?_
 refine nthen ?_
 refine cs ?_
 refine cr ?_
 refine ls (op (p_mkf rfl) rfl) ?_
 refine ls (op (p_asg rfl) rfl) ?_
 refine ln ?_
 refine nthen ?_
 refine cret ?_
 refine xret (fun _ _ h => h) ?_
 refine rret (is := [0]) b1 (Or.inl rfl) (Res.t rfl Res.d) (rfl) rfl (by repeat (first | exact Sub.d | (refine Sub.s ?_ ?_; (repeat (first | exact In.z | apply In.s))) | (refine Sub.suf ?_; (repeat (first | exact Suf.z | apply Suf.s)))))

set_option maxRecDepth 100000 in
theorem c_Backward1 (l : List Prim) (A : Option Addr) (c : Nat) (hl : l.length ≤ 2000000) (B : Nat) : Iter Tryz.prog 83 [.pointer (some ⟨B, 0, none⟩)] (fun x : {x : Nat × Rp.Lay Prim // x.1 < l.length} => [.int .i64 (x.1.1 : Int), sv (l[x.1.1]'x.2) x.1.2]) (fun x => Rp.asn (l[x.1.1]'x.2) x.1.2) (fun pre x => x.1.1 + pre.length + 1 = l.length) (fun xs => xs.length = l.length) [box B 34 [.slice A l.length c]] [slA A l] := by
 intro lp J Jx hY
 refine con Tryz.func83 rfl Tryz.ntmps83 rfl ?_
 intro M0 F0 w0
 refine cs ?_
 refine cr ?_
 refine ls (o_ld Tryz.isAgg34 rfl (by repeat (first | exact At.z | apply At.s)) (by repeat (first | exact At.z | apply At.s)) rfl) ?_
 refine ls (op (p_lenl rfl Tryz.underlying34) rfl) ?_
 refine ls (op (p_sub rfl rfl (by omega)) rfl) ?_
 refine ls (op (p_asg rfl) rfl) ?_
 refine ln ?_
 refine nthen ?_
 refine cb ?_
 refine cl (ι := {q : List {x : Nat × Rp.Lay Prim // x.1 < l.length} × Int // q.1.length ≤ l.length ∧ q.2 = (l.length : Int) - 1 - (q.1.length : Int)}) (fun i => St M0 F0 w0 19 [(0, .func (.yield lp) #[] #[]), (1, .pointer (some ⟨B, 0, none⟩)), (3, .int .i64 i.1.2)] [J i.1.1, box B 34 [.slice A l.length c]] [slA A l]) (fun i => l.length - (i.1.1).length) ⟨([], (l.length : Int) - 1), Nat.zero_le _, by simp⟩ (wk0 (by repeat (first | exact subσ.nil _ | refine subσ.cons rfl ?_)) (by repeat (first | exact Sub.d | (refine Sub.s ?_ ?_; (repeat (first | exact In.z | apply In.s))) | (refine Sub.suf ?_; (repeat (first | exact Suf.z | apply Suf.s)))))) ?_
 rintro ⟨⟨pre, z⟩, hpre, hz⟩
 refine cmono (S' := St M0 F0 w0 19 [(0, .func (.yield lp) #[] #[]), (1, .pointer (some ⟨B, 0, none⟩)), (3, .int .i64 z)] [J pre, box B 34 [.slice A l.length c]] [slA A l]) (fun _ _ h => h) ?_
 refine cs ?_
 refine cs ?_
 refine cr ?_
 refine ls (op (p_move rfl) rfl) ?_
 refine ls (op (p_icmp rfl rfl rfl) rfl) ?_
 refine ln ?_
 refine nthen ?_
 refine cc rfl ?_ ?_
 ·
  intro h8
  dsimp only at hpre hz
  try simp only [decide_eq_true_eq, decide_eq_false_iff_not, Bool.not_eq_true', Bool.not_eq_false', Int.not_lt, Int.not_le, ge_iff_le, Bool.not_true, Bool.not_false] at h8
  have hk1 : l.length - 1 - pre.length < l.length := by omega
  refine cskip ?_
  refine nthen ?_
  refine cs ?_
  refine cb ?_
  refine cs ?_
  refine elC (by repeat (first | exact At.z | apply At.s)) (l.length - 1 - pre.length) (List.getElem?_eq_getElem (l := l) hk1) ?_; rintro zbp zop zyp hAp
  refine cr ?_
  refine ls (op (p_move rfl) rfl) ?_
  refine ls (op (p_move rfl) rfl) ?_
  refine ls (o_ld Tryz.isAgg34 rfl (by repeat (first | exact At.z | apply At.s)) (by repeat (first | exact At.z | apply At.s)) rfl) ?_
  refine ls (op (p_move rfl) rfl) ?_
  refine ls (op (p_ia (l.length - 1 - pre.length) hAp hk1 (by omega) Tryz.underlying34 Tryz.sizeOf69 rfl rfl) rfl) ?_
  refine ls (o_ldj Tryz.isAgg69 Tryz.sizeOf69 rfl (by repeat (first | exact At.z | apply At.s)) 0 rfl (by repeat (first | exact Cut.d | apply Cut.t | apply Cut.s)) rfl) ?_
  refine ls (o_yield (i := 0) rfl (by have := hY pre ⟨(l.length - 1 - pre.length, zyp), hk1⟩ (by dsimp only; omega); dsimp only at this; rw [show ((l.length - 1 - pre.length : Nat) : Int) = z by omega] at this; exact this) rfl rfl (by repeat (first | exact Sub.d | (refine Sub.s ?_ ?_; (repeat (first | exact In.z | apply In.s))) | (refine Sub.suf ?_; (repeat (first | exact Suf.z | apply Suf.s))))) rfl) ?_
  refine le ?_; intro bb
  refine ls (op (p_not rfl) rfl) ?_
  refine ln ?_
  refine nthen ?_
  refine cc rfl ?_ ?_
  ·
   intro h18
   obtain rfl : false = bb := by cases bb <;> first | rfl | (simp at h18)
   refine cret ?_
   refine xret (fun _ _ h => h) ?_
   refine rret (is := [0, 0]) ⟨none, fun _ h => by cases h⟩ (Or.inl rfl) Res.d (rfl) rfl (by repeat (first | exact Sub.d | (refine Sub.s ?_ ?_; (repeat (first | exact In.z | apply In.s))) | (refine Sub.suf ?_; (repeat (first | exact Suf.z | apply Suf.s)))))
  ·
   intro h18
   obtain rfl : true = bb := by cases bb <;> first | rfl | (simp at h18)
   refine cskip ?_
   refine nblock ?_
   refine nthen ?_
   refine cr ?_
   refine ls (op (p_move rfl) rfl) ?_
   refine ls (op (p_sub rfl rfl (by omega)) rfl) ?_
   refine ls (op (p_asg rfl) rfl) ?_
   refine ln ?_
   refine nnext ⟨(pre ++ [⟨(l.length - 1 - pre.length, zyp), hk1⟩], z - 1), by simp; omega, by simp; omega⟩ (by simp; omega) (wk (is := [0, 0]) (by repeat (first | exact subσ.nil _ | refine subσ.cons rfl ?_)) rfl (by repeat (first | exact Sub.d | (refine Sub.s ?_ ?_; (repeat (first | exact In.z | apply In.s))) | (refine Sub.suf ?_; (repeat (first | exact Suf.z | apply Suf.s))))))
 ·
  intro h8
  dsimp only at hpre hz
  try simp only [decide_eq_true_eq, decide_eq_false_iff_not, Bool.not_eq_true', Bool.not_eq_false', Int.not_lt, Int.not_le, ge_iff_le, Bool.not_true, Bool.not_false] at h8
  refine cexit ?_
  refine xthen ?_
  refine xthen ?_
  refine xblock ?_
  refine rret (is := [0, 0]) ⟨some pre, fun xs h => by cases h; omega⟩ (Or.inr rfl) Res.d (rfl) rfl (by repeat (first | exact Sub.d | (refine Sub.s ?_ ?_; (repeat (first | exact In.z | apply In.s))) | (refine Sub.suf ?_; (repeat (first | exact Suf.z | apply Suf.s)))))

set_option maxRecDepth 100000 in
theorem c_seqSwap (l m : List Prim) (A B : Option Addr) (c c' : Nat) (hl : l.length ≤ 2000000) (hm : m.length ≤ 2000000) (hfl : ∀ x ∈ l, x.fit) (hfm : ∀ x ∈ m, x.fit) : Con Tryz.prog 49 [.slice A l.length c, .slice B m.length c'] [] [slA A l, slA B m] {x : (List Prim × List Prim × Bool) × ((Option Addr × Nat) × (Option Addr × Nat)) // x.1 = swT l m} (fun x => .tuple #[.slice x.1.2.1.1 x.1.1.1.length x.1.2.1.2, .slice x.1.2.2.1 x.1.1.2.1.length x.1.2.2.2, .bool x.1.1.2.2]) (fun _ => []) (fun x => [slA x.1.2.1.1 x.1.1.1, slA x.1.2.2.1 x.1.1.2.1]) := by
 refine con Tryz.func49 rfl Tryz.ntmps49 rfl ?_
 intro M0 F0 w0
 refine cs ?_
 refine cr ?_
 refine ls (o_alloc Tryz.zeroValue34 rfl rfl) ?_
 refine le ?_; intro b4
 refine ls (o_alloc Tryz.zeroValue34 rfl rfl) ?_
 refine le ?_; intro b5
 refine ls (o_alloc Tryz.zeroValue4 rfl rfl) ?_
 refine le ?_; intro b6
 refine ln ?_
 refine nthen ?_
 refine cs ?_
 refine cr ?_
 refine ls (op (p_move rfl) rfl) ?_
 refine ls (o_call (is := []) Tryz.call70 (c_seqCloned m B c' hm hfm) rfl rfl (by repeat (first | exact Sub.d | (refine Sub.s ?_ ?_; (repeat (first | exact In.z | apply In.s))) | (refine Sub.suf ?_; (repeat (first | exact Suf.z | apply Suf.s))))) rfl) ?_
 refine le ?_; rintro ⟨A1, c1⟩
 refine lmono (fun a w h => Go.Sx.freeze (i := 0) rfl h) ?_
 refine ls (o_st rfl Tryz.sizeOf34 rfl rfl rfl rfl rfl (by repeat (first | exact At.z | apply At.s)) (by repeat (first | exact Put.d | apply Put.t | apply Put.s)) (by repeat (first | exact SetAt.z | apply SetAt.s))) ?_
 refine ln ?_
 refine nthen ?_
 refine cs ?_
 refine cs ?_
 refine cmono (fun a w h => nilSl (α := Prim) h) ?_
 refine cr ?_
 refine ls (op (p_move rfl) rfl) ?_
 refine ls (o_call (is := []) Tryz.call67 (c_Backward l A c) rfl rfl (by repeat (first | exact Sub.d | (refine Sub.s ?_ ?_; (repeat (first | exact In.z | apply In.s))) | (refine Sub.suf ?_; (repeat (first | exact Suf.z | apply Suf.s))))) rfl) ?_
 refine le ?_; intro b15
 refine ln ?_
 refine nthen ?_
 refine cb ?_
 refine crng (ι := fun pre => {q : List Prim × List Prim × (Option Addr × Nat) × (Option Addr × Nat) // SI l m pre.length q.1 q.2.1 ∧ (q.2.1 = [] → q.2.2.2.2 = 0)}) rfl Tryz.call83 (c_Backward1 l A c hl b15) (fun _ => rfl) rfl (fun pre i => [box b4 34 [.slice i.1.2.2.1.1 i.1.1.length i.1.2.2.1.2], box b5 34 [.slice i.1.2.2.2.1 i.1.2.1.length i.1.2.2.2.2], box b6 4 [.bool false]]) (fun pre i => [slA i.1.2.2.1.1 i.1.1, slA i.1.2.2.2.1 i.1.2.1]) (⟨(m, [], (A1, c1), (none, 0)), SI.start hfm, fun _ => rfl⟩) (Y := {u : Unit // swT l m = ([], [], false)}) (fun _ => [box b4 34 [.slice none 0 0], box b5 34 [.slice none 0 0], box b6 4 [.bool false]]) (fun _ => []) (is := [3, 2, 1, 0]) rfl (by repeat (first | exact Sub.d | (refine Sub.s ?_ ?_; (repeat (first | exact In.z | apply In.s))) | (refine Sub.suf ?_; (repeat (first | exact Suf.z | apply Suf.s))))) (by repeat (first | exact Sub.d | (refine Sub.s ?_ ?_; (repeat (first | exact In.z | apply In.s))) | (refine Sub.suf ?_; (repeat (first | exact Suf.z | apply Suf.s))))) ?_ ?_ ?_
 ·
  rintro M0 F0 w0 lp κ pre ⟨⟨k, yk⟩, hk⟩ hx ⟨⟨f, s, ⟨A1, c1⟩, ⟨A2, c2⟩⟩, hI, hA2⟩
  dsimp only at hk hx hI hA2
  have hfl1 := hI.fl; have hsl1 := hI.sl; have hfk := hfl _ (List.getElem_mem hk)
  refine cmono (S' := St M0 F0 w0 ⟨35, []⟩ [(4, .pointer (some ⟨b4, 0, none⟩)), (5, .pointer (some ⟨b5, 0, none⟩)), (6, .pointer (some ⟨b6, 0, none⟩)), (17, sv l[k] yk)] [lrec lp κ .ready none, box b4 34 [.slice A1 f.length c1], box b5 34 [.slice A2 s.length c2], box b6 4 [.bool false]] [slA A1 f, slA A2 s, slA yk.1.1 l[k].old, slA yk.2.1 l[k].new]) (wk0 (by repeat (first | exact subσ.nil _ | refine subσ.cons rfl ?_)) (by repeat (first | exact Sub.d | (refine Sub.s ?_ ?_; (repeat (first | exact In.z | apply In.s))) | (refine Sub.suf ?_; (repeat (first | exact Suf.z | apply Suf.s)))))) ?_
  refine cr ?_
  refine ls (o_alloc Tryz.zeroValue69 rfl rfl) ?_
  refine le ?_; intro b8
  refine ls (o_st rfl Tryz.sizeOf69 rfl rfl rfl rfl rfl (by repeat (first | exact At.z | apply At.s)) (by repeat (first | exact Put.d | apply Put.t | apply Put.s)) (by repeat (first | exact SetAt.z | apply SetAt.s))) ?_
  refine ln ?_
  refine nbegin (i := 1) rfl ?_
  refine cb ?_
  refine cs ?_
  refine cr ?_
  refine ls (o_ldw Tryz.isAgg69 Tryz.sizeOf69 rfl (by repeat (first | exact At.z | apply At.s)) (by rfl) rfl) ?_
  refine ls (o_ld Tryz.isAgg34 rfl (by repeat (first | exact At.z | apply At.s)) (by repeat (first | exact At.z | apply At.s)) rfl) ?_
  refine ls (o_call (is := []) Tryz.call71 (c_seqPast l[k] yk hfk f A1 c1 (by omega) hI.ff) rfl rfl (by repeat (first | exact Sub.d | (refine Sub.s ?_ ?_; (repeat (first | exact In.z | apply In.s))) | (refine Sub.suf ?_; (repeat (first | exact Suf.z | apply Suf.s))))) rfl) ?_
  refine le ?_; rintro ⟨⟨⟨f', q, r3⟩, ⟨⟨A', c'⟩, z2⟩⟩, hr⟩
  dsimp only at hr
  refine ls (op (p_move rfl) rfl) ?_
  refine ls (op (p_ext rfl (by repeat (first | exact At.z | apply At.s))) rfl) ?_
  refine ls (op (p_ext rfl (by repeat (first | exact At.z | apply At.s))) rfl) ?_
  refine ls (op (p_ext rfl (by repeat (first | exact At.z | apply At.s))) rfl) ?_
  refine ls (o_alloc Tryz.zeroValue69 rfl rfl) ?_
  refine le ?_; intro b10
  refine ls (op (p_asg rfl) rfl) ?_
  refine ls (o_st rfl Tryz.sizeOf69 rfl rfl rfl rfl rfl (by repeat (first | exact At.z | apply At.s)) (by repeat (first | exact Put.d | apply Put.t | apply Put.s)) (by repeat (first | exact SetAt.z | apply SetAt.s))) ?_
  refine ls (op (p_asg rfl) rfl) ?_
  refine ln ?_
  refine nthen ?_
  refine cs ?_
  refine cs ?_
  refine cr ?_
  refine ls (op (p_move rfl) rfl) ?_
  refine ls (op (p_not rfl) rfl) ?_
  refine ln ?_
  refine nthen ?_
  refine cc rfl ?_ ?_
  ·
   intro h26
   obtain rfl : false = r3 := by cases r3 <;> first | rfl | (simp at h26)
   refine cs ?_
   refine cr ?_
   refine ls (o_st rfl Tryz.sizeOf34 rfl rfl rfl rfl rfl (by repeat (first | exact At.z | apply At.s)) (by repeat (first | exact Put.d | apply Put.t | apply Put.s)) (by repeat (first | exact SetAt.z | apply SetAt.s))) ?_
   refine ls (o_st rfl Tryz.sizeOf34 rfl rfl rfl rfl rfl (by repeat (first | exact At.z | apply At.s)) (by repeat (first | exact Put.d | apply Put.t | apply Put.s)) (by repeat (first | exact SetAt.z | apply SetAt.s))) ?_
   refine ls (o_st rfl Tryz.sizeOf4 rfl rfl rfl rfl rfl (by repeat (first | exact At.z | apply At.s)) (by repeat (first | exact Put.d | apply Put.t | apply Put.s)) (by repeat (first | exact SetAt.z | apply SetAt.s))) ?_
   refine ln ?_
   refine nthen ?_
   refine cret ?_
   refine xretR (fun _ _ h => h) ?_
   exact nrret ⟨(), hI.stop (by omega) hr⟩ (is := [1, 2, 2, 2]) rfl (by repeat (first | exact Sub.d | (refine Sub.s ?_ ?_; (repeat (first | exact In.z | apply In.s))) | (refine Sub.suf ?_; (repeat (first | exact Suf.z | apply Suf.s)))))
  ·
   intro h26
   obtain rfl : true = r3 := by cases r3 <;> first | rfl | (simp at h26)
   have hq := past1_ok (pastT_true hr) hfk hI.ff
   refine cskip ?_
   refine nthen ?_
   refine cd [2, 3, 5, 6, 7] [(1, b10, 0, _), (4, b5, 0, _)] TryzX.mixed (TOk.t (isBoxS (by repeat (first | exact At.z | apply At.s)) (k := 6) (by repeat (first | exact Cut.d | apply Cut.t | apply Cut.s))) (TOk.t (isBoxS (by repeat (first | exact At.z | apply At.s)) (k := 1) (by repeat (first | exact Cut.d | apply Cut.t | apply Cut.s))) TOk.d)) ?_
   refine tk 0 rfl (by kernel_rfl) (fun _ _ _ h => h) gnone (TTany _) (p_move rfl) rfl ?_
   refine tk 1 rfl (by kernel_rfl) (fun _ _ _ h => h) gnone (TTat (List.Mem.head _)) (p_lda Tryz.isAgg69 Tryz.sizeOf69 rfl rfl) rfl ?_
   refine tk 4 rfl (by kernel_rfl) (fun _ _ _ h => h) gnone (TTat (List.Mem.tail _ (List.Mem.head _))) (p_ld Tryz.isAgg34 rfl) rfl ?_
   refine df 2 (by kernel_rfl) ?_
   refine doR rfl (o_call (is := []) Tryz.call46 (c_primClone q z2 hq.2.1) rfl rfl (by repeat (first | exact Sub.d | (refine Sub.s ?_ ?_; (repeat (first | exact In.z | apply In.s))) | (refine Sub.suf ?_; (repeat (first | exact Suf.z | apply Suf.s))))) rfl) (TOk.x (by kernel_rfl) (TOk.t (isBoxE fun _ => isBoxS (by repeat (first | exact At.z | apply At.s)) (k := 1) (by repeat (first | exact Cut.d | apply Cut.t | apply Cut.s))) TOk.d)) ?_
   refine ea ?_; intro z3
   refine df 3 (by kernel_rfl) ?_
   refine doR rfl (o_bsl [q] Tryz.underlying34 Tryz.sizeOf69 Tryz.zeroValue69 rfl (Enum.t Enum.d) (RV.t z3 rfl (by repeat (first | exact Sub.d | (refine Sub.s ?_ ?_; (repeat (first | exact In.z | apply In.s))) | (refine Sub.suf ?_; (repeat (first | exact Suf.z | apply Suf.s))))) RV.d) rfl (by decide) (by decide) rfl) (TOk.x (by kernel_rfl) (TOk.t (isBoxE fun _ => isBoxS (by repeat (first | exact At.z | apply At.s)) (k := 1) (by repeat (first | exact Cut.d | apply Cut.t | apply Cut.s))) TOk.d)) ?_
   refine ea ?_; intro b30
   refine df 5 (by kernel_rfl) ?_
   refine doR rfl (o_app (is := [0]) Tryz.underlying34 inf69 rfl (by decide) (by decide) rfl rfl (by simp only [List.length_cons, List.length_nil]; omega) (fun h _ => hA2 h) rfl (by repeat (first | exact Sub.d | (refine Sub.s ?_ ?_; (repeat (first | exact In.z | apply In.s))) | (refine Sub.suf ?_; (repeat (first | exact Suf.z | apply Suf.s))))) rfl) (TOk.x (by kernel_rfl) (TOk.x (by kernel_rfl) TOk.d)) ?_
   refine ea ?_; rintro ⟨A3, c3⟩
   refine amono (fun a w h => Go.Sx.freeze (i := 0) rfl h) ?_
   refine df 6 (by kernel_rfl) ?_
   refine doR rfl (o_st rfl Tryz.sizeOf34 rfl rfl rfl rfl rfl (by repeat (first | exact At.z | apply At.s)) (by repeat (first | exact Put.d | apply Put.t | apply Put.s)) (by repeat (first | exact SetAt.z | apply SetAt.s))) (TOk.x (by kernel_rfl) (TOk.x (by kernel_rfl) TOk.d)) ?_
   refine df 7 (by kernel_rfl) ?_
   refine doR rfl (o_st rfl Tryz.sizeOf34 rfl rfl rfl rfl rfl (by repeat (first | exact At.z | apply At.s)) (by repeat (first | exact Put.d | apply Put.t | apply Put.s)) (by repeat (first | exact SetAt.z | apply SetAt.s))) (TOk.x (by kernel_rfl) (TOk.x (by kernel_rfl) TOk.d)) ?_
   refine dn (by kernel_rfl) ?_
   refine nblock ?_
   exact nround ⟨(f', q :: s, (A', c'), (A3, c3)), by rw [List.length_append]; exact hI.step (by omega) hfl hr, fun h => by cases h⟩ (is := [1, 2, 2, 2]) rfl (by repeat (first | exact Sub.d | (refine Sub.s ?_ ?_; (repeat (first | exact In.z | apply In.s))) | (refine Sub.suf ?_; (repeat (first | exact Suf.z | apply Suf.s)))))
 ·
  rintro D xs hC ⟨⟨f, s, ⟨A1, c1⟩, ⟨A2, c2⟩⟩, hI, hA2⟩
  dsimp only at hC hI
  have hd := hI.done hC
  refine nblock ?_
  refine nthen ?_
  refine cs ?_
  refine cd [2, 3, 4] [(0, b4, 0, _), (1, b5, 0, _)] TryzX.mixed (TOk.t (isBoxS (by repeat (first | exact At.z | apply At.s)) (k := 1) (by repeat (first | exact Cut.d | apply Cut.t | apply Cut.s))) (TOk.t (isBoxS (by repeat (first | exact At.z | apply At.s)) (k := 1) (by repeat (first | exact Cut.d | apply Cut.t | apply Cut.s))) TOk.d)) ?_
  refine tk 0 rfl (by kernel_rfl) (fun _ _ _ h => h) gnone (TTat (List.Mem.head _)) (p_ld Tryz.isAgg34 rfl) rfl ?_
  refine tk 1 rfl (by kernel_rfl) (fun _ _ _ h => h) gnone (TTat (List.Mem.tail _ (List.Mem.head _))) (p_ld Tryz.isAgg34 rfl) rfl ?_
  refine df 2 (by kernel_rfl) ?_
  refine doR rfl (o_st rfl Tryz.sizeOf34 rfl rfl rfl rfl rfl (by repeat (first | exact At.z | apply At.s)) (by repeat (first | exact Put.d | apply Put.t | apply Put.s)) (by repeat (first | exact SetAt.z | apply SetAt.s))) (TOk.x (by kernel_rfl) (TOk.t (isBoxS (by repeat (first | exact At.z | apply At.s)) (k := 1) (by repeat (first | exact Cut.d | apply Cut.t | apply Cut.s))) TOk.d)) ?_
  refine df 3 (by kernel_rfl) ?_
  refine doR rfl (o_st rfl Tryz.sizeOf34 rfl rfl rfl rfl rfl (by repeat (first | exact At.z | apply At.s)) (by repeat (first | exact Put.d | apply Put.t | apply Put.s)) (by repeat (first | exact SetAt.z | apply SetAt.s))) (TOk.x (by kernel_rfl) (TOk.x (by kernel_rfl) TOk.d)) ?_
  refine df 4 (by kernel_rfl) ?_
  refine doR rfl (o_st rfl Tryz.sizeOf4 rfl rfl rfl rfl rfl (by repeat (first | exact At.z | apply At.s)) (by repeat (first | exact Put.d | apply Put.t | apply Put.s)) (by repeat (first | exact SetAt.z | apply SetAt.s))) (TOk.x (by kernel_rfl) (TOk.x (by kernel_rfl) TOk.d)) ?_
  refine dn (by kernel_rfl) ?_
  refine nthen ?_
  refine cret ?_
  refine xret (fun _ _ h => h) ?_
  refine rretm (Dfr.c (i := 4) rfl Dfr.d) (is := []) ⟨((f, s, true), ((A1, c1), (A2, c2))), hd.symm⟩ (Or.inl rfl) (Res.c1 rfl Tryz.isAgg34 (by repeat (first | exact At.z | apply At.s)) (Res.c1 rfl Tryz.isAgg34 (by repeat (first | exact At.z | apply At.s)) (Res.c1 rfl Tryz.isAgg4 (by repeat (first | exact At.z | apply At.s)) Res.d))) (rfl) rfl (by repeat (first | exact Sub.d | (refine Sub.s ?_ ?_; (repeat (first | exact In.z | apply In.s))) | (refine Sub.suf ?_; (repeat (first | exact Suf.z | apply Suf.s)))))
 ·
  rintro D ⟨_, hst⟩
  refine nmono (fun a w h => nilSl (α := Prim) h) ?_
  refine xret (fun _ _ h => h) ?_
  refine rretm (Dfr.c (i := 4) rfl Dfr.d) (is := []) ⟨(([], [], false), ((none, 0), (none, 0))), hst.symm⟩ (Or.inl rfl) (Res.c1 rfl Tryz.isAgg34 (by repeat (first | exact At.z | apply At.s)) (Res.c1 rfl Tryz.isAgg34 (by repeat (first | exact At.z | apply At.s)) (Res.c1 rfl Tryz.isAgg4 (by repeat (first | exact At.z | apply At.s)) Res.d))) (rfl) rfl (by repeat (first | exact Sub.d | (refine Sub.s ?_ ?_; (repeat (first | exact In.z | apply In.s))) | (refine Sub.suf ?_; (repeat (first | exact Suf.z | apply Suf.s)))))

set_option maxRecDepth 100000 in
theorem c_refAllP (l m : List Prim) (A B : Option Addr) (c c' : Nat) (hl : l.length ≤ 2000000) (hf : ∀ x ∈ l, x.fit) : Con Tryz.prog 20 [.slice A l.length c, .slice B m.length c'] [] [slA A l, slA B m] Unit (fun _ => .bool (decide (l = m))) (fun _ => []) (fun _ => []) := by
 refine con Tryz.func20 rfl Tryz.ntmps20 rfl ?_
 intro M0 F0 w0
 refine cs ?_
 refine cr ?_
 refine ls (op (p_asg rfl) rfl) ?_
 refine ln ?_
 refine nthen ?_
 refine cs ?_
 refine cs ?_
 refine cr ?_
 refine ls (op (p_move rfl) rfl) ?_
 refine ls (op (p_lenl rfl Tryz.underlying31) rfl) ?_
 refine ls (op (p_move rfl) rfl) ?_
 refine ls (op (p_lenl rfl Tryz.underlying31) rfl) ?_
 refine ls (op (p_icmp rfl rfl rfl) rfl) ?_
 refine ln ?_
 refine nthen ?_
 refine cc rfl ?_ ?_
 ·
  intro h10
  try simp only [decide_eq_true_eq, decide_eq_false_iff_not, Bool.not_eq_true', Bool.not_eq_false', Int.not_lt, Int.not_le, ge_iff_le, Bool.not_true, Bool.not_false] at h10
  refine cs ?_
  refine cr ?_
  refine ls (op (p_asg rfl) rfl) ?_
  refine ln ?_
  refine nthen ?_
  refine cret ?_
  refine xret (fun _ _ h => h) ?_
  refine rret (is := []) () (Or.inl rfl) (Res.t rfl Res.d) ?_ rfl (by repeat (first | exact Sub.d | (refine Sub.s ?_ ?_; (repeat (first | exact In.z | apply In.s))) | (refine Sub.suf ?_; (repeat (first | exact Suf.z | apply Suf.s)))))
  simp [packV]; intro e; rw [e] at h10; exact h10 rfl
 ·
  intro h10
  try simp only [decide_eq_true_eq, decide_eq_false_iff_not, Bool.not_eq_true', Bool.not_eq_false', Int.not_lt, Int.not_le, ge_iff_le, Bool.not_true, Bool.not_false] at h10
  refine cskip ?_
  refine nthen ?_
  refine cs ?_
  refine cs ?_
  refine cr ?_
  refine ls (op (p_asg rfl) rfl) ?_
  refine ln ?_
  refine nthen ?_
  refine cb ?_
  refine cl (ι := {k : Nat // k ≤ l.length ∧ l.take k = m.take k}) (fun i => St M0 F0 w0 27 [(0, .slice A l.length c), (1, .slice B m.length c'), (5, .int .i64 (i.1 : Int))] [] [slA A l, slA B m]) (fun i => l.length - i.1) ⟨0, by simp⟩ (wk0 (by repeat (first | exact subσ.nil _ | refine subσ.cons rfl ?_)) (by repeat (first | exact Sub.d | (refine Sub.s ?_ ?_; (repeat (first | exact In.z | apply In.s))) | (refine Sub.suf ?_; (repeat (first | exact Suf.z | apply Suf.s)))))) ?_
  rintro ⟨k, hk, hkk⟩
  refine cmono (S' := St M0 F0 w0 27 [(0, .slice A l.length c), (1, .slice B m.length c'), (5, .int .i64 (k : Int))] [] [slA A l, slA B m]) (fun _ _ h => h) ?_
  refine cs ?_
  refine cs ?_
  refine cr ?_
  refine ls (op (p_move rfl) rfl) ?_
  refine ls (op (p_move rfl) rfl) ?_
  refine ls (op (p_lenl rfl Tryz.underlying31) rfl) ?_
  refine ls (op (p_icmp rfl rfl rfl) rfl) ?_
  refine ln ?_
  refine nthen ?_
  refine cc rfl ?_ ?_
  ·
   intro h14
   try simp only [decide_eq_true_eq, decide_eq_false_iff_not, Bool.not_eq_true', Bool.not_eq_false', Int.not_lt, Int.not_le, ge_iff_le, Bool.not_true, Bool.not_false] at h14
   have hk1 : k < l.length := by omega
   have hk2 : k < m.length := by omega
   refine cskip ?_
   refine nthen ?_
   refine cs ?_
   refine cb ?_
   refine cs ?_
   refine elC (by repeat (first | exact At.z | apply At.s)) k (List.getElem?_eq_getElem (l := l) hk1) ?_; rintro zbp zop zyp hAp
   refine elC (by repeat (first | exact At.z | apply At.s)) k (List.getElem?_eq_getElem (l := m) hk2) ?_; rintro zbq zoq zyq hAq
   refine cd [8] [(3, zbp, zop + k * Rp.size Prim, _), (7, zbq, zoq + k * Rp.size Prim, _)] TryzX.mixed (TOk.t (isInS (by repeat (first | exact At.z | apply At.s)) (k := 0) rfl (z := 6) (by repeat (first | exact Cut.d | apply Cut.t | apply Cut.s))) (TOk.t (isInS (by repeat (first | exact At.z | apply At.s)) (k := 0) rfl (z := 6) (by repeat (first | exact Cut.d | apply Cut.t | apply Cut.s))) TOk.d)) ?_
   refine tk 0 rfl (by kernel_rfl) (fun _ _ _ h => h) gnone (TTany _) (p_move rfl) rfl ?_
   refine tk 1 rfl (by kernel_rfl) (fun _ _ _ h => h) gnone (TTany _) (p_move rfl) rfl ?_
   refine tk 2 rfl (by kernel_rfl) (fun _ _ _ h => h) gnone (TTany _) (p_ia k hAp hk1 rfl Tryz.underlying31 Tryz.sizeOf75 rfl rfl) rfl ?_
   refine tk 3 rfl (by kernel_rfl) (fun _ _ _ h => h) gnone (TTat (List.Mem.head _)) (p_lda Tryz.isAgg75 Tryz.sizeOf75 rfl rfl) rfl ?_
   refine tk 4 rfl (by kernel_rfl) (fun _ _ _ h => h) gnone (TTany _) (p_move rfl) rfl ?_
   refine tk 5 rfl (by kernel_rfl) (fun _ _ _ h => h) gnone (TTany _) (p_move rfl) rfl ?_
   refine tk 6 rfl (by kernel_rfl) (fun _ _ _ h => h) gnone (TTany _) (p_ia k hAq hk2 rfl Tryz.underlying31 Tryz.sizeOf75 rfl rfl) rfl ?_
   refine tk 7 rfl (by kernel_rfl) (fun _ _ _ h => h) gnone (TTat (List.Mem.tail _ (List.Mem.head _))) (p_lda Tryz.isAgg75 Tryz.sizeOf75 rfl rfl) rfl ?_
   refine df 8 (by kernel_rfl) ?_
   refine doR rfl (o_call (is := []) Tryz.call34 (c_refSame l[k] m[k] zyp zyq (hf _ (List.getElem_mem hk1))) rfl rfl (by repeat (first | exact Sub.d | (refine Sub.s ?_ ?_; (repeat (first | exact In.z | apply In.s))) | (refine Sub.suf ?_; (repeat (first | exact Suf.z | apply Suf.s))))) rfl) (TOk.x (by kernel_rfl) (TOk.x (by kernel_rfl) TOk.d)) ?_
   refine ea ?_; intro x25
   refine tk 9 rfl (by kernel_rfl) (fun _ _ _ h => h) gnone (TTany _) (p_not rfl) rfl ?_
   refine dn (by kernel_rfl) ?_
   refine nthen ?_
   refine cc rfl ?_ ?_
   ·
    intro h26
    try simp only [decide_eq_true_eq, decide_eq_false_iff_not, Bool.not_eq_true', Bool.not_eq_false', Int.not_lt, Int.not_le, ge_iff_le, Bool.not_true, Bool.not_false] at h26
    refine cs ?_
    refine cr ?_
    refine ls (op (p_asg rfl) rfl) ?_
    refine ln ?_
    refine nthen ?_
    refine cret ?_
    refine xret (fun _ _ h => h) ?_
    refine rret (is := []) () (Or.inl rfl) (Res.t rfl Res.d) ?_ rfl (by repeat (first | exact Sub.d | (refine Sub.s ?_ ?_; (repeat (first | exact In.z | apply In.s))) | (refine Sub.suf ?_; (repeat (first | exact Suf.z | apply Suf.s)))))
    simp [packV]; rintro rfl; exact h26 rfl
   ·
    intro h26
    try simp only [decide_eq_true_eq, decide_eq_false_iff_not, Bool.not_eq_true', Bool.not_eq_false', Int.not_lt, Int.not_le, ge_iff_le, Bool.not_true, Bool.not_false] at h26
    refine cskip ?_
    refine nblock ?_
    refine nthen ?_
    refine cr ?_
    refine ls (op (p_move rfl) rfl) ?_
    refine ls (op (p_add rfl rfl (by omega)) rfl) ?_
    refine ls (op (p_asg rfl) rfl) ?_
    refine ln ?_
    refine nnext ⟨k + 1, hk1, by rw [List.take_succ_eq_append_getElem hk1, List.take_succ_eq_append_getElem hk2, hkk, h26]⟩ (by dsimp only; omega) (wk (is := []) (by repeat (first | exact subσ.nil _ | refine subσ.cons rfl ?_)) rfl (by repeat (first | exact Sub.d | (refine Sub.s ?_ ?_; (repeat (first | exact In.z | apply In.s))) | (refine Sub.suf ?_; (repeat (first | exact Suf.z | apply Suf.s))))))
  ·
   intro h14
   try simp only [decide_eq_true_eq, decide_eq_false_iff_not, Bool.not_eq_true', Bool.not_eq_false', Int.not_lt, Int.not_le, ge_iff_le, Bool.not_true, Bool.not_false] at h14
   refine cexit ?_
   refine xthen ?_
   refine xthen ?_
   refine xblock ?_
   refine nthen ?_
   refine cs ?_
   refine cr ?_
   refine ls (op (p_asg rfl) rfl) ?_
   refine ln ?_
   refine nthen ?_
   refine cret ?_
   refine xret (fun _ _ h => h) ?_
   refine rret (is := []) () (Or.inl rfl) (Res.t rfl Res.d) ?_ rfl (by repeat (first | exact Sub.d | (refine Sub.s ?_ ?_; (repeat (first | exact In.z | apply In.s))) | (refine Sub.suf ?_; (repeat (first | exact Suf.z | apply Suf.s)))))
   simp [packV]; have := List.take_of_length_le (l := l) (i := k) (by omega); have := List.take_of_length_le (l := m) (i := k) (by omega); simp_all

end Go.Proofs.YtonmgdamojingaaGreatDoor.X

end
section
set_option linter.unusedVariables false
set_option linter.unusedSimpArgs false
namespace Go.Proofs.YtonmgdamojingaaGreatDoor.X
open Go Go.RowKit Go.Proofs Go.Sx
attribute [local irreducible] slA isA box row

theorem inf75 : (Tryz.prog.info? 75).map (fun i => (i.zero, i.size, i.bytes)) = some (some (.agg #[.int .i64 0, .string ⟨#[]⟩, .string ⟨#[]⟩, .int .i64 0, .slice none 0 0, .slice none 0 0]), 6, 96) := by kernel_rfl
set_option maxRecDepth 100000 in
theorem c_ref5Swap (l m : List Prim) (A B : Option Addr) (c c' : Nat) (hl : l.length ≤ 2000000) (hm : m.length ≤ 2000000) (hA0 : l = [] → A = none → c = 0) (hB0 : m = [] → B = none → c' = 0) (hfl : ∀ x ∈ l, x.fit) (hfm : ∀ x ∈ m, x.fit) : Con Tryz.prog 50 [.slice A l.length c, .slice B m.length c'] [] [slA A l, slA B m] {x : (List Prim × List Prim × Bool) × ((Option Addr × Nat) × (Option Addr × Nat)) // x.1 = swT l m} (fun x => .tuple #[.slice x.1.2.1.1 x.1.1.1.length x.1.2.1.2, .slice x.1.2.2.1 x.1.1.2.1.length x.1.2.2.2, .bool x.1.1.2.2]) (fun _ => []) (fun x => [slA x.1.2.1.1 x.1.1.1, slA x.1.2.2.1 x.1.1.2.1]) := by
 refine con Tryz.func50 rfl Tryz.ntmps50 rfl ?_
 intro M0 F0 w0
 refine cs ?_
 refine cr ?_
 refine ls (op (p_asg rfl) rfl) ?_
 refine ls (op (p_asg rfl) rfl) ?_
 refine ls (op (p_asg rfl) rfl) ?_
 refine ln ?_
 refine nthen ?_
 refine cs ?_
 refine cr ?_
 refine ls (o_bsl ([] : List Prim) Tryz.underlying31 Tryz.sizeOf75 Tryz.zeroValue75 rfl Enum.d RV.d rfl (by decide) (by decide) rfl) ?_
 refine le ?_; intro b13
 refine ls (op (p_move rfl) rfl) ?_
 refine ls (o_app (is := [0]) Tryz.underlying31 inf75 rfl (by decide) (by decide) rfl rfl (by simp only [List.length_nil]; omega) (fun h hB => hA0 h hB) rfl (by repeat (first | exact Sub.d | (refine Sub.s ?_ ?_; (repeat (first | exact In.z | apply In.s))) | (refine Sub.suf ?_; (repeat (first | exact Suf.z | apply Suf.s))))) rfl) ?_
 refine le ?_; rintro ⟨A8, c8⟩
 refine ls (op (p_move rfl) rfl) ?_
 refine ls (o_app (is := [0]) Tryz.underlying31 inf75 rfl (by decide) (by decide) rfl rfl (by simp only [List.length_append, List.length_nil]; omega) (fun h hB => hB0 h hB) rfl (by repeat (first | exact Sub.d | (refine Sub.s ?_ ?_; (repeat (first | exact In.z | apply In.s))) | (refine Sub.suf ?_; (repeat (first | exact Suf.z | apply Suf.s))))) rfl) ?_
 refine le ?_; rintro ⟨A9, c9⟩
 refine ls (op (p_asg rfl) rfl) ?_
 refine ln ?_
 refine nthen ?_
 refine cs ?_
 refine cs ?_
 skip
 refine cr ?_
 refine ls (op (p_move rfl) rfl) ?_
 refine ls (op (p_lenl rfl Tryz.underlying31) rfl) ?_
 refine ls (op (p_sub rfl rfl (by omega)) rfl) ?_
 refine ls (op (p_asg rfl) rfl) ?_
 refine ln ?_
 refine nthen ?_
 refine cb ?_
 refine cl (ι := {q : Nat × Int × List Prim × List Prim × (Option Addr × Nat) // q.1 ≤ l.length ∧ q.2.1 = (l.length : Int) - 1 - (q.1 : Int) ∧ SI l m q.1 q.2.2.1 q.2.2.2.1}) (fun i => St M0 F0 w0 72 [(0, .slice A l.length c), (1, .slice B m.length c'), (7, .slice i.1.2.2.2.2.1 (l ++ m).length i.1.2.2.2.2.2), (8, .int .i64 i.1.2.1)] [row 75 (i.1.2.2.2.2.1) (i.1.2.2.2.2.2) (l.take (l.length - i.1.1) ++ (i.1.2.2.1 ++ i.1.2.2.2.1))] [slA A l, slA B m]) (fun i => l.length - i.1.1) ⟨(0, (l.length : Int) - 1, m, [], (A9, c9)), Nat.zero_le _, by simp, SI.start hfm⟩ (fun a w h => by dsimp only; rw [show l.take (l.length - 0) ++ (m ++ []) = [] ++ l ++ m by simp]; exact wk (is := [0]) (by repeat (first | exact subσ.nil _ | refine subσ.cons rfl ?_)) rfl (by repeat (first | exact Sub.d | (refine Sub.s ?_ ?_; (repeat (first | exact In.z | apply In.s))) | (refine Sub.suf ?_; (repeat (first | exact Suf.z | apply Suf.s))))) a w h) ?_
 rintro ⟨⟨j, z, f, s, A1, c1⟩, hj, hz, hI⟩
 refine cmono (S' := St M0 F0 w0 72 [(0, .slice A l.length c), (1, .slice B m.length c'), (7, .slice A1 (l ++ m).length c1), (8, .int .i64 z)] [row 75 (A1) (c1) (l.take (l.length - j) ++ (f ++ s))] [slA A l, slA B m]) (fun _ _ h => h) ?_
 refine cs ?_
 refine cs ?_
 refine cr ?_
 refine ls (op (p_move rfl) rfl) ?_
 refine ls (op (p_icmp rfl rfl rfl) rfl) ?_
 refine ln ?_
 refine nthen ?_
 refine cc rfl ?_ ?_
 ·
  intro h22
  dsimp only at hj hz hI
  try simp only [decide_eq_true_eq, decide_eq_false_iff_not, Bool.not_eq_true', Bool.not_eq_false', Int.not_lt, Int.not_le, ge_iff_le, Bool.not_true, Bool.not_false] at h22
  have hfl1 := hI.fl; have hsl1 := hI.sl
  obtain ⟨u, hi⟩ : ∃ u, u + j + 1 = l.length := ⟨l.length - 1 - j, by omega⟩
  have hi1 : u < l.length := by omega
  have eR : l.take (l.length - j) ++ (f ++ s) = l.take u ++ ([] ++ (l[u] :: (f.drop 0 ++ s))) := by rw [show l.length - j = u + 1 by omega, List.take_succ_eq_append_getElem hi1, List.append_assoc]; rfl
  rw [eR]
  refine cskip ?_
  refine nthen ?_
  refine cs ?_
  refine cb ?_
  refine cs ?_
  refine cr ?_
  refine ls (op (p_asg rfl) rfl) ?_
  refine ln ?_
  refine nthen ?_
  refine cb ?_
  refine cl (ι := {q : Nat × List Prim × Prim × (Option Addr × Nat) // q.1 ≤ f.length ∧ q.2.1.length = q.1 ∧ q.2.2.1.fit ∧ PI l[u] f q.1 q.2.1 q.2.2.1}) (fun i => St M0 F0 w0 72 [(0, .slice A l.length c), (1, .slice B m.length c'), (7, .slice i.1.2.2.2.1 (l ++ m).length i.1.2.2.2.2), (8, .int .i64 z), (9, .int .i64 (i.1.1 : Int))] [row 75 (i.1.2.2.2.1) (i.1.2.2.2.2) (l.take u ++ (i.1.2.1 ++ (i.1.2.2.1 :: (f.drop i.1.1 ++ s))))] [slA A l, slA B m]) (fun i => f.length - i.1.1) ⟨(0, [], l[u], (A1, c1)), Nat.zero_le _, rfl, hfl _ (List.getElem_mem hi1), PI.start _ _⟩ (wk0 (by repeat (first | exact subσ.nil _ | refine subσ.cons rfl ?_)) (by repeat (first | exact Sub.d | (refine Sub.s ?_ ?_; (repeat (first | exact In.z | apply In.s))) | (refine Sub.suf ?_; (repeat (first | exact Suf.z | apply Suf.s)))))) ?_
  rintro ⟨⟨k, d, p1, A2, c2⟩, hk, hdl, hp1, hPI⟩
  refine cmono (S' := St M0 F0 w0 72 [(0, .slice A l.length c), (1, .slice B m.length c'), (7, .slice A2 (l ++ m).length c2), (8, .int .i64 z), (9, .int .i64 (k : Int))] [row 75 (A2) (c2) (l.take u ++ (d ++ (p1 :: (f.drop k ++ s))))] [slA A l, slA B m]) (fun _ _ h => h) ?_
  refine cs ?_
  refine cs ?_
  refine cr ?_
  refine ls (op (p_move rfl) rfl) ?_
  refine ls (op (p_move rfl) rfl) ?_
  refine ls (op (p_lenl rfl Tryz.underlying31) rfl) ?_
  refine ls (op (p_icmp rfl rfl rfl) rfl) ?_
  refine ln ?_
  refine nthen ?_
  refine cc rfl ?_ ?_
  ·
   intro h28
   dsimp only at hk hdl hp1 hPI
   try simp only [decide_eq_true_eq, decide_eq_false_iff_not, Bool.not_eq_true', Bool.not_eq_false', Int.not_lt, Int.not_le, ge_iff_le, Bool.not_true, Bool.not_false] at h28
   have hk1 : k < f.length := by omega
   have hff := hI.ff _ (List.getElem_mem hk1)
   have hti : (l.take u).length = u := by rw [List.length_take]; omega
   have eD : f.drop k ++ s = f[k] :: (f.drop (k + 1) ++ s) := by rw [List.drop_eq_getElem_cons hk1]; rfl
   rw [eD]
   refine rowC (by repeat (first | exact At.z | apply At.s)) (by intro e; simp at e) ?_; rintro g rfl
   refine cskip ?_
   refine nthen ?_
   refine cs ?_
   refine cb ?_
   refine cs ?_
   refine cmono (fun a w h => pin0 (by repeat (first | exact At.z | apply At.s)) (by repeat (first | exact SetAt.z | apply SetAt.s)) h) ?_
   refine pinC (u + k) (by repeat (first | exact At.z | apply At.s)) (mid_get1 (by omega)) (fun _ => (by repeat (first | exact SetAt.z | apply SetAt.s))) ?_; intro yp
   refine pinC (u + k + 1) (by repeat (first | exact At.z | apply At.s)) (mid_get2 (by omega)) (fun _ => (by repeat (first | exact SetAt.z | apply SetAt.s))) ?_; intro yq
   refine cutC (S' := fun a w => ∃ (b10 : Nat) (b11 : Nat) (r1 : Prim) (r2 : Prim) (r3 : Bool) (z1 : Rp.Lay Prim) (z2 : Rp.Lay Prim) (hr : (r1, r2, r3) = swap p1 f[k]) (e1 : r1.fit) (e2 : r2.fit), St M0 F0 w0 72 [(0, .slice A l.length c), (1, .slice B m.length c'), (7, .slice (some ⟨g, 0, none⟩) (l ++ m).length c2), (8, .int .i64 z), (9, .int .i64 (k : Int)), (10, .pointer (some ⟨b10, 0, none⟩)), (11, .pointer (some ⟨b11, 0, none⟩)), (12, .bool r3)] [rowPin 75 g c2 (l.take u ++ (d ++ (p1 :: f[k] :: (f.drop (k + 1) ++ s)))) [(u + k + 1, f[k], yq), (u + k, p1, yp)], box b10 75 (Rp.enc r1 z1), box b11 75 (Rp.enc r2 z2)] [slA z1.1.1 r1.old, slA z1.2.1 r1.new, slA z2.1.1 r2.old, slA z2.2.1 r2.new, slA A l, slA B m] a w) ?_ ?_
   ·
    refine cd [13, 18, 19, 20, 21] [(5, g, 0 + (u + k) * Rp.size Prim, _), (12, g, 0 + (u + k + 1) * Rp.size Prim, _)] TryzX.mixed (TOk.t (isPin (by repeat (first | exact At.z | apply At.s)) (List.Mem.tail _ (List.Mem.head _))) (TOk.t (isPin (by repeat (first | exact At.z | apply At.s)) (List.Mem.head _)) TOk.d)) ?_
    refine tk 0 rfl (by kernel_rfl) (fun _ _ _ h => h) gnone (TTany _) (p_move rfl) rfl ?_
    refine tk 1 rfl (by kernel_rfl) (fun _ _ _ h => h) gnone (TTany _) (p_move rfl) rfl ?_
    refine tk 2 rfl (by kernel_rfl) (fun _ _ _ h => h) gnone (TTany _) (p_move rfl) rfl ?_
    refine tk 3 rfl (by kernel_rfl) (fun _ _ _ h => h) gnone (TTany _) (p_add rfl rfl (by omega)) rfl ?_
    refine tk 4 rfl (by kernel_rfl) (fun _ _ _ h => h) gnone (TTany _) (p_ia (u + k) rfl (by rw [List.length_append]; omega) (by omega) Tryz.underlying31 Tryz.sizeOf75 rfl rfl) rfl ?_
    refine tk 5 rfl (by kernel_rfl) (fun _ _ _ h => h) gnone (TTat (List.Mem.head _)) (p_lda Tryz.isAgg75 Tryz.sizeOf75 rfl rfl) rfl ?_
    refine tk 6 rfl (by kernel_rfl) (fun _ _ _ h => h) gnone (TTany _) (p_move rfl) rfl ?_
    refine tk 7 rfl (by kernel_rfl) (fun _ _ _ h => h) gnone (TTany _) (p_move rfl) rfl ?_
    refine tk 8 rfl (by kernel_rfl) (fun _ _ _ h => h) gnone (TTany _) (p_move rfl) rfl ?_
    refine tk 9 rfl (by kernel_rfl) (fun _ _ _ h => h) gnone (TTany _) (p_add rfl rfl (by omega)) rfl ?_
    refine tk 10 rfl (by kernel_rfl) (fun _ _ _ h => h) gnone (TTany _) (p_add rfl rfl (by omega)) rfl ?_
    refine tk 11 rfl (by kernel_rfl) (fun _ _ _ h => h) gnone (TTany _) (p_ia (u + k + 1) rfl (by rw [List.length_append]; omega) (by omega) Tryz.underlying31 Tryz.sizeOf75 rfl rfl) rfl ?_
    refine tk 12 rfl (by kernel_rfl) (fun _ _ _ h => h) gnone (TTat (List.Mem.tail _ (List.Mem.head _))) (p_lda Tryz.isAgg75 Tryz.sizeOf75 rfl rfl) rfl ?_
    refine dall (is := [13, 18, 19]) (by kernel_rfl) rfl ?_
    intro i hi; simp only [List.mem_cons, List.mem_nil_iff, or_false] at hi; rcases hi with rfl | rfl | rfl
    ·
     refine doR rfl (o_call (is := []) Tryz.call72 (c_refSwap p1 f[k] yp yq hp1 hff) rfl rfl (by repeat (first | exact Sub.d | (refine Sub.s ?_ ?_; (repeat (first | exact In.z | apply In.s))) | (refine Sub.suf ?_; (repeat (first | exact Suf.z | apply Suf.s))))) rfl) (TOk.x (by kernel_rfl) (TOk.x (by kernel_rfl) TOk.d)) ?_
     refine ea ?_; rintro ⟨⟨⟨r1, r2, r3⟩, z1, z2⟩, hr⟩
     obtain ⟨e1, e2⟩ := swap_fit hp1 hff; have hr := hr.trans (swap_eq p1 f[k]); rw [← hr] at e1 e2; dsimp only at hr e1 e2
     refine tk 14 rfl (by kernel_rfl) (fun _ _ _ h => h) gnone (TTany _) (p_move rfl) rfl ?_
     refine tk 15 rfl (by kernel_rfl) (fun _ _ _ h => h) gnone (TTany _) (p_ext rfl (by repeat (first | exact At.z | apply At.s))) rfl ?_
     refine tk 16 rfl (by kernel_rfl) (fun _ _ _ h => h) gnone (TTany _) (p_ext rfl (by repeat (first | exact At.z | apply At.s))) rfl ?_
     refine tk 17 rfl (by kernel_rfl) (fun _ _ _ h => h) gnone (TTany _) (p_ext rfl (by repeat (first | exact At.z | apply At.s))) rfl ?_
     refine dall (is := [18, 19]) (by kernel_rfl) rfl ?_
     intro i hi; simp only [List.mem_cons, List.mem_nil_iff, or_false] at hi; rcases hi with rfl | rfl
     ·
      refine doR rfl (o_alloc Tryz.zeroValue75 rfl rfl) (TOk.x (by kernel_rfl) (TOk.x (by kernel_rfl) TOk.d)) ?_
      refine ea ?_; intro b10
      refine df 19 (by kernel_rfl) ?_
      refine doR rfl (o_alloc Tryz.zeroValue75 rfl rfl) (TOk.x (by kernel_rfl) (TOk.x (by kernel_rfl) TOk.d)) ?_
      refine ea ?_; intro b11
      refine df 20 (by kernel_rfl) ?_
      refine doR rfl (o_st rfl Tryz.sizeOf75 rfl rfl rfl rfl rfl (by repeat (first | exact At.z | apply At.s)) (by repeat (first | exact Put.d | apply Put.t | apply Put.s)) (by repeat (first | exact SetAt.z | apply SetAt.s))) (TOk.x (by kernel_rfl) (TOk.x (by kernel_rfl) TOk.d)) ?_
      refine df 21 (by kernel_rfl) ?_
      refine doR rfl (o_st rfl Tryz.sizeOf75 rfl rfl rfl rfl rfl (by repeat (first | exact At.z | apply At.s)) (by repeat (first | exact Put.d | apply Put.t | apply Put.s)) (by repeat (first | exact SetAt.z | apply SetAt.s))) (TOk.x (by kernel_rfl) (TOk.x (by kernel_rfl) TOk.d)) ?_
      refine tk 22 rfl (by kernel_rfl) (fun _ _ _ h => h) gnone (TTany _) (p_asg rfl) rfl ?_
      refine dn (by kernel_rfl) (nmid (fun a w h => by first | exact ⟨b10, b11, r1, r2, r3, z1, z2, hr, e1, e2, wk (is := [2, 1, 0]) (by repeat (first | exact subσ.nil _ | refine subσ.cons rfl ?_)) rfl (by repeat (first | exact Sub.d | (refine Sub.s ?_ ?_; (repeat (first | exact In.z | apply In.s))) | (refine Sub.suf ?_; (repeat (first | exact Suf.z | apply Suf.s))))) a w h⟩ | exact ⟨b10, b11, r1, r2, r3, z1, z2, hr, e1, e2, wk (is := [2, 0, 0]) (by repeat (first | exact subσ.nil _ | refine subσ.cons rfl ?_)) rfl (by repeat (first | exact Sub.d | (refine Sub.s ?_ ?_; (repeat (first | exact In.z | apply In.s))) | (refine Sub.suf ?_; (repeat (first | exact Suf.z | apply Suf.s))))) a w h⟩))
     ·
      refine doR rfl (o_alloc Tryz.zeroValue75 rfl rfl) (TOk.x (by kernel_rfl) (TOk.x (by kernel_rfl) TOk.d)) ?_
      refine ea ?_; intro b11
      refine df 18 (by kernel_rfl) ?_
      refine doR rfl (o_alloc Tryz.zeroValue75 rfl rfl) (TOk.x (by kernel_rfl) (TOk.x (by kernel_rfl) TOk.d)) ?_
      refine ea ?_; intro b10
      refine df 20 (by kernel_rfl) ?_
      refine doR rfl (o_st rfl Tryz.sizeOf75 rfl rfl rfl rfl rfl (by repeat (first | exact At.z | apply At.s)) (by repeat (first | exact Put.d | apply Put.t | apply Put.s)) (by repeat (first | exact SetAt.z | apply SetAt.s))) (TOk.x (by kernel_rfl) (TOk.x (by kernel_rfl) TOk.d)) ?_
      refine df 21 (by kernel_rfl) ?_
      refine doR rfl (o_st rfl Tryz.sizeOf75 rfl rfl rfl rfl rfl (by repeat (first | exact At.z | apply At.s)) (by repeat (first | exact Put.d | apply Put.t | apply Put.s)) (by repeat (first | exact SetAt.z | apply SetAt.s))) (TOk.x (by kernel_rfl) (TOk.x (by kernel_rfl) TOk.d)) ?_
      refine tk 22 rfl (by kernel_rfl) (fun _ _ _ h => h) gnone (TTany _) (p_asg rfl) rfl ?_
      refine dn (by kernel_rfl) (nmid (fun a w h => by first | exact ⟨b10, b11, r1, r2, r3, z1, z2, hr, e1, e2, wk (is := [2, 1, 0]) (by repeat (first | exact subσ.nil _ | refine subσ.cons rfl ?_)) rfl (by repeat (first | exact Sub.d | (refine Sub.s ?_ ?_; (repeat (first | exact In.z | apply In.s))) | (refine Sub.suf ?_; (repeat (first | exact Suf.z | apply Suf.s))))) a w h⟩ | exact ⟨b10, b11, r1, r2, r3, z1, z2, hr, e1, e2, wk (is := [2, 0, 0]) (by repeat (first | exact subσ.nil _ | refine subσ.cons rfl ?_)) rfl (by repeat (first | exact Sub.d | (refine Sub.s ?_ ?_; (repeat (first | exact In.z | apply In.s))) | (refine Sub.suf ?_; (repeat (first | exact Suf.z | apply Suf.s))))) a w h⟩))
    ·
     refine doR rfl (o_alloc Tryz.zeroValue75 rfl rfl) (TOk.t (isBoxE fun _ => isPin (by repeat (first | exact At.z | apply At.s)) (List.Mem.tail _ (List.Mem.head _))) (TOk.t (isBoxE fun _ => isPin (by repeat (first | exact At.z | apply At.s)) (List.Mem.head _)) TOk.d)) ?_
     refine ea ?_; intro b10
     refine dall (is := [13, 19]) (by kernel_rfl) rfl ?_
     intro i hi; simp only [List.mem_cons, List.mem_nil_iff, or_false] at hi; rcases hi with rfl | rfl
     ·
      refine doR rfl (o_call (is := []) Tryz.call72 (c_refSwap p1 f[k] yp yq hp1 hff) rfl rfl (by repeat (first | exact Sub.d | (refine Sub.s ?_ ?_; (repeat (first | exact In.z | apply In.s))) | (refine Sub.suf ?_; (repeat (first | exact Suf.z | apply Suf.s))))) rfl) (TOk.x (by kernel_rfl) (TOk.x (by kernel_rfl) TOk.d)) ?_
      refine ea ?_; rintro ⟨⟨⟨r1, r2, r3⟩, z1, z2⟩, hr⟩
      obtain ⟨e1, e2⟩ := swap_fit hp1 hff; have hr := hr.trans (swap_eq p1 f[k]); rw [← hr] at e1 e2; dsimp only at hr e1 e2
      refine tk 14 rfl (by kernel_rfl) (fun _ _ _ h => h) gnone (TTany _) (p_move rfl) rfl ?_
      refine tk 15 rfl (by kernel_rfl) (fun _ _ _ h => h) gnone (TTany _) (p_ext rfl (by repeat (first | exact At.z | apply At.s))) rfl ?_
      refine tk 16 rfl (by kernel_rfl) (fun _ _ _ h => h) gnone (TTany _) (p_ext rfl (by repeat (first | exact At.z | apply At.s))) rfl ?_
      refine tk 17 rfl (by kernel_rfl) (fun _ _ _ h => h) gnone (TTany _) (p_ext rfl (by repeat (first | exact At.z | apply At.s))) rfl ?_
      refine df 19 (by kernel_rfl) ?_
      refine doR rfl (o_alloc Tryz.zeroValue75 rfl rfl) (TOk.x (by kernel_rfl) (TOk.x (by kernel_rfl) TOk.d)) ?_
      refine ea ?_; intro b11
      refine df 20 (by kernel_rfl) ?_
      refine doR rfl (o_st rfl Tryz.sizeOf75 rfl rfl rfl rfl rfl (by repeat (first | exact At.z | apply At.s)) (by repeat (first | exact Put.d | apply Put.t | apply Put.s)) (by repeat (first | exact SetAt.z | apply SetAt.s))) (TOk.x (by kernel_rfl) (TOk.x (by kernel_rfl) TOk.d)) ?_
      refine df 21 (by kernel_rfl) ?_
      refine doR rfl (o_st rfl Tryz.sizeOf75 rfl rfl rfl rfl rfl (by repeat (first | exact At.z | apply At.s)) (by repeat (first | exact Put.d | apply Put.t | apply Put.s)) (by repeat (first | exact SetAt.z | apply SetAt.s))) (TOk.x (by kernel_rfl) (TOk.x (by kernel_rfl) TOk.d)) ?_
      refine tk 22 rfl (by kernel_rfl) (fun _ _ _ h => h) gnone (TTany _) (p_asg rfl) rfl ?_
      refine dn (by kernel_rfl) (nmid (fun a w h => by first | exact ⟨b10, b11, r1, r2, r3, z1, z2, hr, e1, e2, wk (is := [2, 1, 0]) (by repeat (first | exact subσ.nil _ | refine subσ.cons rfl ?_)) rfl (by repeat (first | exact Sub.d | (refine Sub.s ?_ ?_; (repeat (first | exact In.z | apply In.s))) | (refine Sub.suf ?_; (repeat (first | exact Suf.z | apply Suf.s))))) a w h⟩ | exact ⟨b10, b11, r1, r2, r3, z1, z2, hr, e1, e2, wk (is := [2, 0, 0]) (by repeat (first | exact subσ.nil _ | refine subσ.cons rfl ?_)) rfl (by repeat (first | exact Sub.d | (refine Sub.s ?_ ?_; (repeat (first | exact In.z | apply In.s))) | (refine Sub.suf ?_; (repeat (first | exact Suf.z | apply Suf.s))))) a w h⟩))
     ·
      refine doR rfl (o_alloc Tryz.zeroValue75 rfl rfl) (TOk.t (isBoxE fun _ => isPin (by repeat (first | exact At.z | apply At.s)) (List.Mem.tail _ (List.Mem.head _))) (TOk.t (isBoxE fun _ => isPin (by repeat (first | exact At.z | apply At.s)) (List.Mem.head _)) TOk.d)) ?_
      refine ea ?_; intro b11
      refine df 13 (by kernel_rfl) ?_
      refine doR rfl (o_call (is := []) Tryz.call72 (c_refSwap p1 f[k] yp yq hp1 hff) rfl rfl (by repeat (first | exact Sub.d | (refine Sub.s ?_ ?_; (repeat (first | exact In.z | apply In.s))) | (refine Sub.suf ?_; (repeat (first | exact Suf.z | apply Suf.s))))) rfl) (TOk.x (by kernel_rfl) (TOk.x (by kernel_rfl) TOk.d)) ?_
      refine ea ?_; rintro ⟨⟨⟨r1, r2, r3⟩, z1, z2⟩, hr⟩
      obtain ⟨e1, e2⟩ := swap_fit hp1 hff; have hr := hr.trans (swap_eq p1 f[k]); rw [← hr] at e1 e2; dsimp only at hr e1 e2
      refine tk 14 rfl (by kernel_rfl) (fun _ _ _ h => h) gnone (TTany _) (p_move rfl) rfl ?_
      refine tk 15 rfl (by kernel_rfl) (fun _ _ _ h => h) gnone (TTany _) (p_ext rfl (by repeat (first | exact At.z | apply At.s))) rfl ?_
      refine tk 16 rfl (by kernel_rfl) (fun _ _ _ h => h) gnone (TTany _) (p_ext rfl (by repeat (first | exact At.z | apply At.s))) rfl ?_
      refine tk 17 rfl (by kernel_rfl) (fun _ _ _ h => h) gnone (TTany _) (p_ext rfl (by repeat (first | exact At.z | apply At.s))) rfl ?_
      refine df 20 (by kernel_rfl) ?_
      refine doR rfl (o_st rfl Tryz.sizeOf75 rfl rfl rfl rfl rfl (by repeat (first | exact At.z | apply At.s)) (by repeat (first | exact Put.d | apply Put.t | apply Put.s)) (by repeat (first | exact SetAt.z | apply SetAt.s))) (TOk.x (by kernel_rfl) (TOk.x (by kernel_rfl) TOk.d)) ?_
      refine df 21 (by kernel_rfl) ?_
      refine doR rfl (o_st rfl Tryz.sizeOf75 rfl rfl rfl rfl rfl (by repeat (first | exact At.z | apply At.s)) (by repeat (first | exact Put.d | apply Put.t | apply Put.s)) (by repeat (first | exact SetAt.z | apply SetAt.s))) (TOk.x (by kernel_rfl) (TOk.x (by kernel_rfl) TOk.d)) ?_
      refine tk 22 rfl (by kernel_rfl) (fun _ _ _ h => h) gnone (TTany _) (p_asg rfl) rfl ?_
      refine dn (by kernel_rfl) (nmid (fun a w h => by first | exact ⟨b10, b11, r1, r2, r3, z1, z2, hr, e1, e2, wk (is := [2, 1, 0]) (by repeat (first | exact subσ.nil _ | refine subσ.cons rfl ?_)) rfl (by repeat (first | exact Sub.d | (refine Sub.s ?_ ?_; (repeat (first | exact In.z | apply In.s))) | (refine Sub.suf ?_; (repeat (first | exact Suf.z | apply Suf.s))))) a w h⟩ | exact ⟨b10, b11, r1, r2, r3, z1, z2, hr, e1, e2, wk (is := [2, 0, 0]) (by repeat (first | exact subσ.nil _ | refine subσ.cons rfl ?_)) rfl (by repeat (first | exact Sub.d | (refine Sub.s ?_ ?_; (repeat (first | exact In.z | apply In.s))) | (refine Sub.suf ?_; (repeat (first | exact Suf.z | apply Suf.s))))) a w h⟩))
    ·
     refine doR rfl (o_alloc Tryz.zeroValue75 rfl rfl) (TOk.t (isBoxE fun _ => isPin (by repeat (first | exact At.z | apply At.s)) (List.Mem.tail _ (List.Mem.head _))) (TOk.t (isBoxE fun _ => isPin (by repeat (first | exact At.z | apply At.s)) (List.Mem.head _)) TOk.d)) ?_
     refine ea ?_; intro b11
     refine dall (is := [13, 18]) (by kernel_rfl) rfl ?_
     intro i hi; simp only [List.mem_cons, List.mem_nil_iff, or_false] at hi; rcases hi with rfl | rfl
     ·
      refine doR rfl (o_call (is := []) Tryz.call72 (c_refSwap p1 f[k] yp yq hp1 hff) rfl rfl (by repeat (first | exact Sub.d | (refine Sub.s ?_ ?_; (repeat (first | exact In.z | apply In.s))) | (refine Sub.suf ?_; (repeat (first | exact Suf.z | apply Suf.s))))) rfl) (TOk.x (by kernel_rfl) (TOk.x (by kernel_rfl) TOk.d)) ?_
      refine ea ?_; rintro ⟨⟨⟨r1, r2, r3⟩, z1, z2⟩, hr⟩
      obtain ⟨e1, e2⟩ := swap_fit hp1 hff; have hr := hr.trans (swap_eq p1 f[k]); rw [← hr] at e1 e2; dsimp only at hr e1 e2
      refine tk 14 rfl (by kernel_rfl) (fun _ _ _ h => h) gnone (TTany _) (p_move rfl) rfl ?_
      refine tk 15 rfl (by kernel_rfl) (fun _ _ _ h => h) gnone (TTany _) (p_ext rfl (by repeat (first | exact At.z | apply At.s))) rfl ?_
      refine tk 16 rfl (by kernel_rfl) (fun _ _ _ h => h) gnone (TTany _) (p_ext rfl (by repeat (first | exact At.z | apply At.s))) rfl ?_
      refine tk 17 rfl (by kernel_rfl) (fun _ _ _ h => h) gnone (TTany _) (p_ext rfl (by repeat (first | exact At.z | apply At.s))) rfl ?_
      refine df 18 (by kernel_rfl) ?_
      refine doR rfl (o_alloc Tryz.zeroValue75 rfl rfl) (TOk.x (by kernel_rfl) (TOk.x (by kernel_rfl) TOk.d)) ?_
      refine ea ?_; intro b10
      refine df 20 (by kernel_rfl) ?_
      refine doR rfl (o_st rfl Tryz.sizeOf75 rfl rfl rfl rfl rfl (by repeat (first | exact At.z | apply At.s)) (by repeat (first | exact Put.d | apply Put.t | apply Put.s)) (by repeat (first | exact SetAt.z | apply SetAt.s))) (TOk.x (by kernel_rfl) (TOk.x (by kernel_rfl) TOk.d)) ?_
      refine df 21 (by kernel_rfl) ?_
      refine doR rfl (o_st rfl Tryz.sizeOf75 rfl rfl rfl rfl rfl (by repeat (first | exact At.z | apply At.s)) (by repeat (first | exact Put.d | apply Put.t | apply Put.s)) (by repeat (first | exact SetAt.z | apply SetAt.s))) (TOk.x (by kernel_rfl) (TOk.x (by kernel_rfl) TOk.d)) ?_
      refine tk 22 rfl (by kernel_rfl) (fun _ _ _ h => h) gnone (TTany _) (p_asg rfl) rfl ?_
      refine dn (by kernel_rfl) (nmid (fun a w h => by first | exact ⟨b10, b11, r1, r2, r3, z1, z2, hr, e1, e2, wk (is := [2, 1, 0]) (by repeat (first | exact subσ.nil _ | refine subσ.cons rfl ?_)) rfl (by repeat (first | exact Sub.d | (refine Sub.s ?_ ?_; (repeat (first | exact In.z | apply In.s))) | (refine Sub.suf ?_; (repeat (first | exact Suf.z | apply Suf.s))))) a w h⟩ | exact ⟨b10, b11, r1, r2, r3, z1, z2, hr, e1, e2, wk (is := [2, 0, 0]) (by repeat (first | exact subσ.nil _ | refine subσ.cons rfl ?_)) rfl (by repeat (first | exact Sub.d | (refine Sub.s ?_ ?_; (repeat (first | exact In.z | apply In.s))) | (refine Sub.suf ?_; (repeat (first | exact Suf.z | apply Suf.s))))) a w h⟩))
     ·
      refine doR rfl (o_alloc Tryz.zeroValue75 rfl rfl) (TOk.t (isBoxE fun _ => isPin (by repeat (first | exact At.z | apply At.s)) (List.Mem.tail _ (List.Mem.head _))) (TOk.t (isBoxE fun _ => isPin (by repeat (first | exact At.z | apply At.s)) (List.Mem.head _)) TOk.d)) ?_
      refine ea ?_; intro b10
      refine df 13 (by kernel_rfl) ?_
      refine doR rfl (o_call (is := []) Tryz.call72 (c_refSwap p1 f[k] yp yq hp1 hff) rfl rfl (by repeat (first | exact Sub.d | (refine Sub.s ?_ ?_; (repeat (first | exact In.z | apply In.s))) | (refine Sub.suf ?_; (repeat (first | exact Suf.z | apply Suf.s))))) rfl) (TOk.x (by kernel_rfl) (TOk.x (by kernel_rfl) TOk.d)) ?_
      refine ea ?_; rintro ⟨⟨⟨r1, r2, r3⟩, z1, z2⟩, hr⟩
      obtain ⟨e1, e2⟩ := swap_fit hp1 hff; have hr := hr.trans (swap_eq p1 f[k]); rw [← hr] at e1 e2; dsimp only at hr e1 e2
      refine tk 14 rfl (by kernel_rfl) (fun _ _ _ h => h) gnone (TTany _) (p_move rfl) rfl ?_
      refine tk 15 rfl (by kernel_rfl) (fun _ _ _ h => h) gnone (TTany _) (p_ext rfl (by repeat (first | exact At.z | apply At.s))) rfl ?_
      refine tk 16 rfl (by kernel_rfl) (fun _ _ _ h => h) gnone (TTany _) (p_ext rfl (by repeat (first | exact At.z | apply At.s))) rfl ?_
      refine tk 17 rfl (by kernel_rfl) (fun _ _ _ h => h) gnone (TTany _) (p_ext rfl (by repeat (first | exact At.z | apply At.s))) rfl ?_
      refine df 20 (by kernel_rfl) ?_
      refine doR rfl (o_st rfl Tryz.sizeOf75 rfl rfl rfl rfl rfl (by repeat (first | exact At.z | apply At.s)) (by repeat (first | exact Put.d | apply Put.t | apply Put.s)) (by repeat (first | exact SetAt.z | apply SetAt.s))) (TOk.x (by kernel_rfl) (TOk.x (by kernel_rfl) TOk.d)) ?_
      refine df 21 (by kernel_rfl) ?_
      refine doR rfl (o_st rfl Tryz.sizeOf75 rfl rfl rfl rfl rfl (by repeat (first | exact At.z | apply At.s)) (by repeat (first | exact Put.d | apply Put.t | apply Put.s)) (by repeat (first | exact SetAt.z | apply SetAt.s))) (TOk.x (by kernel_rfl) (TOk.x (by kernel_rfl) TOk.d)) ?_
      refine tk 22 rfl (by kernel_rfl) (fun _ _ _ h => h) gnone (TTany _) (p_asg rfl) rfl ?_
      refine dn (by kernel_rfl) (nmid (fun a w h => by first | exact ⟨b10, b11, r1, r2, r3, z1, z2, hr, e1, e2, wk (is := [2, 1, 0]) (by repeat (first | exact subσ.nil _ | refine subσ.cons rfl ?_)) rfl (by repeat (first | exact Sub.d | (refine Sub.s ?_ ?_; (repeat (first | exact In.z | apply In.s))) | (refine Sub.suf ?_; (repeat (first | exact Suf.z | apply Suf.s))))) a w h⟩ | exact ⟨b10, b11, r1, r2, r3, z1, z2, hr, e1, e2, wk (is := [2, 0, 0]) (by repeat (first | exact subσ.nil _ | refine subσ.cons rfl ?_)) rfl (by repeat (first | exact Sub.d | (refine Sub.s ?_ ?_; (repeat (first | exact In.z | apply In.s))) | (refine Sub.suf ?_; (repeat (first | exact Suf.z | apply Suf.s))))) a w h⟩))
   ·
    refine nex fun b10 => nex fun b11 => nex fun r1 => nex fun r2 => nex fun r3 => nex fun z1 => nex fun z2 => nex fun hr => nex fun e1 => nex fun e2 => ?_
    refine nthen ?_
    refine cs ?_
    refine cs ?_
    refine cr ?_
    refine ls (op (p_move rfl) rfl) ?_
    refine ls (op (p_not rfl) rfl) ?_
    refine ln ?_
    refine nthen ?_
    refine cc rfl ?_ ?_
    ·
     intro h50
     obtain rfl : false = r3 := by cases r3 <;> first | rfl | (simp at h50)
     refine cs ?_
     refine cmono (fun a w h => nilSl (α := Prim) h) ?_
     refine cr ?_
     refine ls (op (p_asg rfl) rfl) ?_
     refine ls (op (p_asg rfl) rfl) ?_
     refine ls (op (p_asg rfl) rfl) ?_
     refine ln ?_
     refine nthen ?_
     refine cret ?_
     refine xret (fun _ _ h => h) ?_
     refine rret (is := []) ⟨(([], [], false), ((none, 0), (none, 0))), by rw [hI.stop hi (hPI.stop hk1 hr).symm]⟩ (Or.inl rfl) (Res.t rfl (Res.t rfl (Res.t rfl Res.d))) (rfl) rfl (by repeat (first | exact Sub.d | (refine Sub.s ?_ ?_; (repeat (first | exact In.z | apply In.s))) | (refine Sub.suf ?_; (repeat (first | exact Suf.z | apply Suf.s)))))
    ·
     intro h50
     obtain rfl : true = r3 := by cases r3 <;> first | rfl | (simp at h50)
     refine cskip ?_
     refine nthen ?_
     refine cs ?_
     refine cmono (fun a w h => unpin (by repeat (first | exact At.z | apply At.s)) (by repeat (first | exact SetAt.z | apply SetAt.s)) h) ?_
     refine cr ?_
     refine ls (op (p_move rfl) rfl) ?_
     refine ls (op (p_move rfl) rfl) ?_
     refine ls (op (p_move rfl) rfl) ?_
     refine ls (op (p_add rfl rfl (by omega)) rfl) ?_
     refine ls (o_ldw Tryz.isAgg75 Tryz.sizeOf75 rfl (by repeat (first | exact At.z | apply At.s)) (by rfl) rfl) ?_
     refine ls (op (p_ia (u + k) rfl (by rw [List.length_append]; omega) (by omega) Tryz.underlying31 Tryz.sizeOf75 rfl rfl) rfl) ?_
     refine ls (o_strow (z := r1) (yz := z1) rfl Tryz.sizeOf75 rfl rfl rfl (by repeat (first | exact At.z | apply At.s)) (by simp; omega) (by repeat (first | exact SetAt.z | apply SetAt.s)) (by repeat (first | exact Sub.d | (refine Sub.s ?_ ?_; (repeat (first | exact In.z | apply In.s))) | (refine Sub.suf ?_; (repeat (first | exact Suf.z | apply Suf.s)))))) ?_
     refine ln ?_
     refine nthen ?_
     refine cr ?_
     refine ls (op (p_move rfl) rfl) ?_
     refine ls (op (p_move rfl) rfl) ?_
     refine ls (op (p_move rfl) rfl) ?_
     refine ls (op (p_add rfl rfl (by omega)) rfl) ?_
     refine ls (op (p_add rfl rfl (by omega)) rfl) ?_
     refine ls (o_ldw Tryz.isAgg75 Tryz.sizeOf75 rfl (by repeat (first | exact At.z | apply At.s)) (by rfl) rfl) ?_
     refine ls (op (p_ia (u + k + 1) rfl (by rw [List.length_append]; omega) (by omega) Tryz.underlying31 Tryz.sizeOf75 rfl rfl) rfl) ?_
     refine ls (o_strow (z := r2) (yz := z2) rfl Tryz.sizeOf75 rfl rfl rfl (by repeat (first | exact At.z | apply At.s)) (by simp; omega) (by repeat (first | exact SetAt.z | apply SetAt.s)) (by repeat (first | exact Sub.d | (refine Sub.s ?_ ?_; (repeat (first | exact In.z | apply In.s))) | (refine Sub.suf ?_; (repeat (first | exact Suf.z | apply Suf.s)))))) ?_
     refine ln ?_
     refine nblock ?_
     refine nthen ?_
     refine cr ?_
     refine ls (op (p_move rfl) rfl) ?_
     refine ls (op (p_add rfl rfl (by omega)) rfl) ?_
     refine ls (op (p_asg rfl) rfl) ?_
     refine ln ?_
     rw [mid_set (by omega)]
     refine nnext ⟨(k + 1, d ++ [r1], r2, (some ⟨g, 0, none⟩, c2)), hk1, by simp [hdl], e2, hPI.step hk1 hr⟩ (by dsimp only; omega) (wk (is := [0]) (by repeat (first | exact subσ.nil _ | refine subσ.cons rfl ?_)) rfl (by repeat (first | exact Sub.d | (refine Sub.s ?_ ?_; (repeat (first | exact In.z | apply In.s))) | (refine Sub.suf ?_; (repeat (first | exact Suf.z | apply Suf.s))))))
  ·
   intro h28
   dsimp only at hk hdl hp1 hPI
   try simp only [decide_eq_true_eq, decide_eq_false_iff_not, Bool.not_eq_true', Bool.not_eq_false', Int.not_lt, Int.not_le, ge_iff_le, Bool.not_true, Bool.not_false] at h28
   refine cexit ?_
   refine xthen ?_
   refine xthen ?_
   refine xblock ?_
   refine nblock ?_
   refine nthen ?_
   refine cr ?_
   refine ls (op (p_move rfl) rfl) ?_
   refine ls (op (p_sub rfl rfl (by omega)) rfl) ?_
   refine ls (op (p_asg rfl) rfl) ?_
   refine ln ?_
   have hpd := hPI.done (show ¬ k < f.length by omega)
   have eR2 : l.take u ++ (d ++ (p1 :: (f.drop k ++ s))) = l.take (l.length - (j + 1)) ++ (d ++ (p1 :: s)) := by rw [show l.length - (j + 1) = u by omega, List.drop_eq_nil_of_le (by omega)]; simp
   rw [eR2]
   refine nnext ⟨(j + 1, z - 1, d, p1 :: s, (A2, c2)), by dsimp only; omega, by dsimp only; omega, hI.step hi hfl hpd.symm⟩ (by dsimp only; omega) (wk0 (by repeat (first | exact subσ.nil _ | refine subσ.cons rfl ?_)) (by repeat (first | exact Sub.d | (refine Sub.s ?_ ?_; (repeat (first | exact In.z | apply In.s))) | (refine Sub.suf ?_; (repeat (first | exact Suf.z | apply Suf.s))))))
 ·
  intro h22
  dsimp only at hj hz hI
  try simp only [decide_eq_true_eq, decide_eq_false_iff_not, Bool.not_eq_true', Bool.not_eq_false', Int.not_lt, Int.not_le, ge_iff_le, Bool.not_true, Bool.not_false] at h22
  obtain rfl : j = l.length := by omega
  have hfl1 := hI.fl; have hsl1 := hI.sl; have hd := hI.done rfl
  rw [show l.take (l.length - l.length) ++ (f ++ s) = f ++ s by simp]
  refine cexit ?_
  refine xthen ?_
  refine xthen ?_
  refine xblock ?_
  refine nthen ?_
  refine cs ?_
  refine rowLeC (by repeat (first | exact At.z | apply At.s)) (fun hle => ?_)
  refine cmono (fun a w h => Go.Sx.freeze (i := 0) rfl h) ?_
  refine cmono (fun a w h => subS (l' := f) (c := c1) 0 m.length In.z (Nat.zero_le _) (by rw [List.length_append]; omega) hle (by simp [hfl1]) h) ?_
  refine cmono (fun a w h => subS (l' := s) (c := c1) m.length (f ++ s).length (In.s In.z) (by rw [List.length_append]; omega) (Nat.le_refl _) hle (by rw [← hfl1]; simp) h) ?_
  refine cd [] [] TryzX.mixed TOk.d ?_
  refine tk 0 rfl (by kernel_rfl) (fun _ _ _ h => h) gnone (TTany _) (p_move rfl) rfl ?_
  refine tk 1 rfl (by kernel_rfl) (fun _ _ _ h => h) gnone (TTany _) (p_move rfl) rfl ?_
  refine tk 2 rfl (by kernel_rfl) (fun _ _ _ h => h) gnone (TTany _) (p_lenl rfl Tryz.underlying31) rfl ?_
  refine tk 3 rfl (by kernel_rfl) (fun _ _ _ h => h) gnone (TTany _) (p_slh m.length (by rw [List.length_append] at hle; omega) rfl Tryz.underlying31 Tryz.sizeOf75 rfl rfl) rfl ?_
  refine tk 4 rfl (by kernel_rfl) (fun _ _ _ h => h) gnone (TTany _) (p_move rfl) rfl ?_
  refine tk 5 rfl (by kernel_rfl) (fun _ _ _ h => h) gnone (TTany _) (p_move rfl) rfl ?_
  refine tk 6 rfl (by kernel_rfl) (fun _ _ _ h => h) gnone (TTany _) (p_lenl rfl Tryz.underlying31) rfl ?_
  refine tk 7 rfl (by kernel_rfl) (fun _ _ _ h => h) gnone (TTany _) (p_sll m.length (by rw [List.length_append]; omega) (by rw [List.length_append] at hle ⊢; omega) rfl Tryz.underlying31 Tryz.sizeOf75 rfl rfl) rfl ?_
  refine tk 8 rfl (by kernel_rfl) (fun _ _ _ h => h) gnone (TTany _) (p_asg rfl) rfl ?_
  refine tk 9 rfl (by kernel_rfl) (fun _ _ _ h => h) gnone (TTany _) (p_asg rfl) rfl ?_
  refine tk 10 rfl (by kernel_rfl) (fun _ _ _ h => h) gnone (TTany _) (p_asg rfl) rfl ?_
  refine dn (by kernel_rfl) ?_
  refine nthen ?_
  refine cret ?_
  refine xret (fun _ _ h => h) ?_
  refine rret (is := []) ⟨((f, s, true), ((if c1 = 0 then A1 else A1.map (·.add (0 * Rp.size Prim)), c1 - 0), (if c1 = m.length then A1 else A1.map (·.add (m.length * Rp.size Prim)), c1 - m.length))), hd.symm⟩ (Or.inl rfl) (Res.t rfl (Res.t rfl (Res.t rfl Res.d))) ?_ rfl (by repeat (first | exact Sub.d | (refine Sub.s ?_ ?_; (repeat (first | exact In.z | apply In.s))) | (refine Sub.suf ?_; (repeat (first | exact Suf.z | apply Suf.s)))))
  dsimp only [packV]; rw [show f.length = m.length - 0 by omega, show s.length = (l ++ m).length - m.length by rw [List.length_append]; omega]; rfl

set_option maxRecDepth 100000 in
theorem c_lNew (l : List Prim) (A : Option Addr) (c : Nat) (hl : l.length ≤ 2000000) : Con Tryz.prog 14 [.slice A l.length c] [] [slA A l] (Option Addr × Nat) (fun y => .slice y.1 l.length y.2) (fun _ => []) (fun y => [slA y.1 l]) := by
 refine con Tryz.func14 rfl Tryz.ntmps14 rfl ?_
 intro M0 F0 w0
 refine cs ?_
 refine cr ?_
 refine ls (op (p_asg rfl) rfl) ?_
 refine ln ?_
 refine nthen ?_
 refine cs ?_
 refine cr ?_
 refine ls (op (p_asg rfl) rfl) ?_
 refine ln ?_
 refine nthen ?_
 refine cs ?_
 refine cs ?_
 refine cmono (fun a w h => nilRow (α := Prim) 69 h) ?_
 refine cr ?_
 refine ls (op (p_move rfl) rfl) ?_
 refine ls (op (p_lenl rfl Tryz.underlying31) rfl) ?_
 refine ls (op (p_move rfl) rfl) ?_
 refine ln ?_
 refine nthen ?_
 refine cb ?_
 refine cl (ι := {q : Nat × Option Addr × Nat // q.1 ≤ l.length}) (fun i => St M0 F0 w0 18 [(6, .slice A l.length c), (7, .int .i64 (l.length : Int)), (8, .int .i64 (i.1.1 : Int)), (3, .slice i.1.2.1 (l.take i.1.1).length i.1.2.2)] [row 69 (i.1.2.1) (i.1.2.2) (l.take i.1.1)] [slA A l]) (fun i => l.length - i.1.1) ⟨(0, none, 0), Nat.zero_le _⟩ (wk0 (by repeat (first | exact subσ.nil _ | refine subσ.cons rfl ?_)) (by repeat (first | exact Sub.d | (refine Sub.s ?_ ?_; (repeat (first | exact In.z | apply In.s))) | (refine Sub.suf ?_; (repeat (first | exact Suf.z | apply Suf.s)))))) ?_
 rintro ⟨⟨k, A2, c2⟩, hk⟩
 refine cmono (S' := St M0 F0 w0 18 [(6, .slice A l.length c), (7, .int .i64 (l.length : Int)), (8, .int .i64 (k : Int)), (3, .slice A2 (l.take k).length c2)] [row 69 (A2) (c2) (l.take k)] [slA A l]) (fun _ _ h => h) ?_
 refine cs ?_
 refine cr ?_
 refine ls (op (p_icmp rfl rfl rfl) rfl) ?_
 refine ln ?_
 refine nthen ?_
 refine cs ?_
 refine cc rfl ?_ ?_
 ·
  intro h9
  dsimp only at hk
  try simp only [decide_eq_true_eq, decide_eq_false_iff_not, Bool.not_eq_true', Bool.not_eq_false', Int.not_lt, Int.not_le, ge_iff_le, Bool.not_true, Bool.not_false] at h9
  have hk1 : k < l.length := by omega
  refine cskip ?_
  refine nthen ?_
  refine cs ?_
  refine cb ?_
  refine cs ?_
  refine elC (by repeat (first | exact At.z | apply At.s)) k (List.getElem?_eq_getElem (l := l) hk1) ?_; rintro zbp zop zyp hAp
  refine cr ?_
  refine ls (op (p_ia k hAp hk1 rfl Tryz.underlying31 Tryz.sizeOf75 rfl rfl) rfl) ?_
  refine ls (o_ldj Tryz.isAgg75 Tryz.sizeOf75 rfl (by repeat (first | exact At.z | apply At.s)) 0 rfl (by repeat (first | exact Cut.d | apply Cut.t | apply Cut.s)) rfl) ?_
  refine ls (o_alloc Tryz.zeroValue75 rfl rfl) ?_
  refine le ?_; intro b5
  refine ls (o_st rfl Tryz.sizeOf75 rfl rfl rfl rfl rfl (by repeat (first | exact At.z | apply At.s)) (by repeat (first | exact Put.d | apply Put.t | apply Put.s)) (by repeat (first | exact SetAt.z | apply SetAt.s))) ?_
  refine ln ?_
  refine nthen ?_
  refine cr ?_
  refine ls (op (p_move rfl) rfl) ?_
  refine ls (o_ldw Tryz.isAgg75 Tryz.sizeOf75 rfl (by repeat (first | exact At.z | apply At.s)) (by rfl) rfl) ?_
  refine ls (o_bsl [l[k]] Tryz.underlying34 Tryz.sizeOf69 Tryz.zeroValue69 rfl (Enum.t Enum.d) (RV.t zyp rfl (by repeat (first | exact Sub.d | (refine Sub.s ?_ ?_; (repeat (first | exact In.z | apply In.s))) | (refine Sub.suf ?_; (repeat (first | exact Suf.z | apply Suf.s))))) RV.d) rfl (by decide) (by decide) rfl) ?_
  refine le ?_; intro b14
  refine lmono (fun a w h => Go.Sx.freeze (i := 0) rfl h) ?_
  refine ls (o_app (is := [1]) Tryz.underlying34 inf69 rfl (by decide) (by decide) rfl rfl (by rw [List.length_take]; simp only [List.length_cons, List.length_nil]; omega) (fun h => by cases h) rfl (by repeat (first | exact Sub.d | (refine Sub.s ?_ ?_; (repeat (first | exact In.z | apply In.s))) | (refine Sub.suf ?_; (repeat (first | exact Suf.z | apply Suf.s))))) rfl) ?_
  refine le ?_; rintro ⟨A3, c3⟩
  rw [← List.take_succ_eq_append_getElem hk1]
  refine ls (op (p_asg rfl) rfl) ?_
  refine ln ?_
  refine nblock ?_
  refine nthen ?_
  refine cr ?_
  refine ls (op (p_add rfl rfl (by omega)) rfl) ?_
  refine ls (op (p_move rfl) rfl) ?_
  refine ln ?_
  refine nnext ⟨(k + 1, A3, c3), hk1⟩ (by dsimp only; omega) (wk (is := [0]) (by repeat (first | exact subσ.nil _ | refine subσ.cons rfl ?_)) rfl (by repeat (first | exact Sub.d | (refine Sub.s ?_ ?_; (repeat (first | exact In.z | apply In.s))) | (refine Sub.suf ?_; (repeat (first | exact Suf.z | apply Suf.s))))))
 ·
  intro h9
  dsimp only at hk
  try simp only [decide_eq_true_eq, decide_eq_false_iff_not, Bool.not_eq_true', Bool.not_eq_false', Int.not_lt, Int.not_le, ge_iff_le, Bool.not_true, Bool.not_false] at h9
  obtain rfl : k = l.length := by omega
  rw [List.take_length]
  refine cexit ?_
  refine xthen ?_
  refine xthen ?_
  refine xblock ?_
  refine nthen ?_
  refine cs ?_
  refine cmono (fun a w h => Go.Sx.freeze (i := 0) rfl h) ?_
  refine cr ?_
  refine ls (op (p_move rfl) rfl) ?_
  refine ls (op (p_asg rfl) rfl) ?_
  refine ln ?_
  refine nthen ?_
  refine cret ?_
  refine xret (fun _ _ h => h) ?_
  refine rret (is := []) (A2, c2) (Or.inl rfl) (Res.t rfl Res.d) (rfl) rfl (by repeat (first | exact Sub.d | (refine Sub.s ?_ ?_; (repeat (first | exact In.z | apply In.s))) | (refine Sub.suf ?_; (repeat (first | exact Suf.z | apply Suf.s)))))

set_option maxRecDepth 100000 in
theorem c_lOld (l : List Prim) (A : Option Addr) (c : Nat) (hl : l.length ≤ 2000000) : Con Tryz.prog 21 [.slice A l.length c] [] [slA A l] (Option Addr × Nat) (fun y => .slice y.1 l.length y.2) (fun _ => []) (fun y => [slA y.1 l]) := by
 refine con Tryz.func21 rfl Tryz.ntmps21 rfl ?_
 intro M0 F0 w0
 refine cs ?_
 refine cr ?_
 refine ls (op (p_asg rfl) rfl) ?_
 refine ln ?_
 refine nthen ?_
 refine cs ?_
 refine cr ?_
 refine ls (op (p_asg rfl) rfl) ?_
 refine ln ?_
 refine nthen ?_
 refine cs ?_
 refine cs ?_
 refine cmono (fun a w h => nilRow (α := Prim) 75 h) ?_
 refine cr ?_
 refine ls (op (p_move rfl) rfl) ?_
 refine ls (op (p_lenl rfl Tryz.underlying34) rfl) ?_
 refine ls (op (p_move rfl) rfl) ?_
 refine ln ?_
 refine nthen ?_
 refine cb ?_
 refine cl (ι := {q : Nat × Option Addr × Nat // q.1 ≤ l.length}) (fun i => St M0 F0 w0 18 [(6, .slice A l.length c), (7, .int .i64 (l.length : Int)), (8, .int .i64 (i.1.1 : Int)), (3, .slice i.1.2.1 (l.take i.1.1).length i.1.2.2)] [row 75 (i.1.2.1) (i.1.2.2) (l.take i.1.1)] [slA A l]) (fun i => l.length - i.1.1) ⟨(0, none, 0), Nat.zero_le _⟩ (wk0 (by repeat (first | exact subσ.nil _ | refine subσ.cons rfl ?_)) (by repeat (first | exact Sub.d | (refine Sub.s ?_ ?_; (repeat (first | exact In.z | apply In.s))) | (refine Sub.suf ?_; (repeat (first | exact Suf.z | apply Suf.s)))))) ?_
 rintro ⟨⟨k, A2, c2⟩, hk⟩
 refine cmono (S' := St M0 F0 w0 18 [(6, .slice A l.length c), (7, .int .i64 (l.length : Int)), (8, .int .i64 (k : Int)), (3, .slice A2 (l.take k).length c2)] [row 75 (A2) (c2) (l.take k)] [slA A l]) (fun _ _ h => h) ?_
 refine cs ?_
 refine cr ?_
 refine ls (op (p_icmp rfl rfl rfl) rfl) ?_
 refine ln ?_
 refine nthen ?_
 refine cs ?_
 refine cc rfl ?_ ?_
 ·
  intro h9
  dsimp only at hk
  try simp only [decide_eq_true_eq, decide_eq_false_iff_not, Bool.not_eq_true', Bool.not_eq_false', Int.not_lt, Int.not_le, ge_iff_le, Bool.not_true, Bool.not_false] at h9
  have hk1 : k < l.length := by omega
  refine cskip ?_
  refine nthen ?_
  refine cs ?_
  refine cb ?_
  refine cs ?_
  refine elC (by repeat (first | exact At.z | apply At.s)) k (List.getElem?_eq_getElem (l := l) hk1) ?_; rintro zbp zop zyp hAp
  refine cr ?_
  refine ls (op (p_ia k hAp hk1 rfl Tryz.underlying34 Tryz.sizeOf69 rfl rfl) rfl) ?_
  refine ls (o_ldj Tryz.isAgg69 Tryz.sizeOf69 rfl (by repeat (first | exact At.z | apply At.s)) 0 rfl (by repeat (first | exact Cut.d | apply Cut.t | apply Cut.s)) rfl) ?_
  refine ls (o_alloc Tryz.zeroValue69 rfl rfl) ?_
  refine le ?_; intro b5
  refine ls (o_st rfl Tryz.sizeOf69 rfl rfl rfl rfl rfl (by repeat (first | exact At.z | apply At.s)) (by repeat (first | exact Put.d | apply Put.t | apply Put.s)) (by repeat (first | exact SetAt.z | apply SetAt.s))) ?_
  refine ln ?_
  refine nthen ?_
  refine cr ?_
  refine ls (op (p_move rfl) rfl) ?_
  refine ls (o_ldw Tryz.isAgg69 Tryz.sizeOf69 rfl (by repeat (first | exact At.z | apply At.s)) (by rfl) rfl) ?_
  refine ls (o_bsl [l[k]] Tryz.underlying31 Tryz.sizeOf75 Tryz.zeroValue75 rfl (Enum.t Enum.d) (RV.t zyp rfl (by repeat (first | exact Sub.d | (refine Sub.s ?_ ?_; (repeat (first | exact In.z | apply In.s))) | (refine Sub.suf ?_; (repeat (first | exact Suf.z | apply Suf.s))))) RV.d) rfl (by decide) (by decide) rfl) ?_
  refine le ?_; intro b14
  refine lmono (fun a w h => Go.Sx.freeze (i := 0) rfl h) ?_
  refine ls (o_app (is := [1]) Tryz.underlying31 inf75 rfl (by decide) (by decide) rfl rfl (by rw [List.length_take]; simp only [List.length_cons, List.length_nil]; omega) (fun h => by cases h) rfl (by repeat (first | exact Sub.d | (refine Sub.s ?_ ?_; (repeat (first | exact In.z | apply In.s))) | (refine Sub.suf ?_; (repeat (first | exact Suf.z | apply Suf.s))))) rfl) ?_
  refine le ?_; rintro ⟨A3, c3⟩
  rw [← List.take_succ_eq_append_getElem hk1]
  refine ls (op (p_asg rfl) rfl) ?_
  refine ln ?_
  refine nblock ?_
  refine nthen ?_
  refine cr ?_
  refine ls (op (p_add rfl rfl (by omega)) rfl) ?_
  refine ls (op (p_move rfl) rfl) ?_
  refine ln ?_
  refine nnext ⟨(k + 1, A3, c3), hk1⟩ (by dsimp only; omega) (wk (is := [0]) (by repeat (first | exact subσ.nil _ | refine subσ.cons rfl ?_)) rfl (by repeat (first | exact Sub.d | (refine Sub.s ?_ ?_; (repeat (first | exact In.z | apply In.s))) | (refine Sub.suf ?_; (repeat (first | exact Suf.z | apply Suf.s))))))
 ·
  intro h9
  dsimp only at hk
  try simp only [decide_eq_true_eq, decide_eq_false_iff_not, Bool.not_eq_true', Bool.not_eq_false', Int.not_lt, Int.not_le, ge_iff_le, Bool.not_true, Bool.not_false] at h9
  obtain rfl : k = l.length := by omega
  rw [List.take_length]
  refine cexit ?_
  refine xthen ?_
  refine xthen ?_
  refine xblock ?_
  refine nthen ?_
  refine cs ?_
  refine cmono (fun a w h => Go.Sx.freeze (i := 0) rfl h) ?_
  refine cr ?_
  refine ls (op (p_move rfl) rfl) ?_
  refine ls (op (p_asg rfl) rfl) ?_
  refine ln ?_
  refine nthen ?_
  refine cret ?_
  refine xret (fun _ _ h => h) ?_
  refine rret (is := []) (A2, c2) (Or.inl rfl) (Res.t rfl Res.d) (rfl) rfl (by repeat (first | exact Sub.d | (refine Sub.s ?_ ?_; (repeat (first | exact In.z | apply In.s))) | (refine Sub.suf ?_; (repeat (first | exact Suf.z | apply Suf.s)))))

end Go.Proofs.YtonmgdamojingaaGreatDoor.X

end
