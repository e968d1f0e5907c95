/- OWN WORK: a part of the proof of a law of the seat YtdbiillompeclaaGreatDoor: contracts. -/
import Derived.Test.YtdbiillompeclaaGreatDoorProg
import Derived.Test.YtdbiillompeclaaGreatDoorXS2
section
set_option linter.unusedVariables false
set_option linter.unusedSimpArgs false
namespace Go.Proofs.YtdbiillompeclaaGreatDoor.X
open Go Go.RowKit Go.Proofs Go.Sx
attribute [local irreducible] slA isA box row

theorem fa194_0 : FA Tryz.prog 194 0 0 := fun b o w => by kernel_rfl
theorem fa194_1 : FA Tryz.prog 194 1 1 := fun b o w => by kernel_rfl
theorem fa194_2 : FA Tryz.prog 194 2 2 := fun b o w => by kernel_rfl
theorem sb194 : SB Tryz.prog 194 [(0, 1), (1, 1), (2, 64)] [.int .i64 0, .int .i64 0, .slice none 0 0, .slice none 0 0, .slice none 0 0, .slice none 0 0, .slice none 0 0, .slice none 0 0, .slice none 0 0, .slice none 0 0, .slice none 0 0, .slice none 0 0, .slice none 0 0, .slice none 0 0, .slice none 0 0, .slice none 0 0, .slice none 0 0, .slice none 0 0, .slice none 0 0, .slice none 0 0, .slice none 0 0, .slice none 0 0, .slice none 0 0, .slice none 0 0, .slice none 0 0, .slice none 0 0, .slice none 0 0, .slice none 0 0, .slice none 0 0, .slice none 0 0, .slice none 0 0, .slice none 0 0, .slice none 0 0, .slice none 0 0, .slice none 0 0, .slice none 0 0, .slice none 0 0, .slice none 0 0, .slice none 0 0, .slice none 0 0, .slice none 0 0, .slice none 0 0, .slice none 0 0, .slice none 0 0, .slice none 0 0, .slice none 0 0, .slice none 0 0, .slice none 0 0, .slice none 0 0, .slice none 0 0, .slice none 0 0, .slice none 0 0, .slice none 0 0, .slice none 0 0, .slice none 0 0, .slice none 0 0, .slice none 0 0, .slice none 0 0, .slice none 0 0, .slice none 0 0, .slice none 0 0, .slice none 0 0, .slice none 0 0, .slice none 0 0, .slice none 0 0, .slice none 0 0] := SB.struct Tryz.zeroValue194 rfl Tryz.underlying194 (fun w => by kernel_rfl)
set_option maxRecDepth 100000 in
theorem c_copied (l : List Prim) (A0 : Option Addr) (c0 : Nat) (hl : l.length ≤ 2000000) (hf : ∀ x ∈ l, x.fit) : Con Tryz.prog 95 [.slice A0 l.length c0] [] [slA A0 l] {y : Option Addr × Nat // l = [] → y.2 = 0} (fun y => .slice y.1.1 l.length y.1.2) (fun y => [row 39 y.1.1 y.1.2 l]) (fun _ => []) := by
 refine con Tryz.func95 rfl Tryz.ntmps95 rfl ?_
 intro M0 F0 w0
 refine cs ?_
 refine cr ?_
 refine ls (op (p_asg rfl) rfl) ?_
 refine ln ?_
 refine nthen ?_
 refine cs ?_
 refine cr ?_
 refine ls (op (p_asg rfl) rfl) ?_
 refine ln ?_
 refine nthen ?_
 refine cs ?_
 refine cs ?_
 refine cmono (fun a w h => nilRow (α := Prim) 39 h) ?_
 refine cr ?_
 refine ls (op (p_move rfl) rfl) ?_
 refine ls (op (p_lenl rfl Tryz.underlying29) rfl) ?_
 refine ls (op (p_move rfl) rfl) ?_
 refine ln ?_
 refine nthen ?_
 refine cb ?_
 refine cl (ι := {q : Nat × Option Addr × Nat // q.1 ≤ l.length ∧ (q.1 = 0 → q.2.2 = 0)}) (fun i => St M0 F0 w0 19 [(6, .slice A0 l.length c0), (7, .int .i64 (l.length : Int)), (8, .int .i64 (i.1.1 : Int)), (3, .slice i.1.2.1 (l.take i.1.1).length i.1.2.2)] [row 39 i.1.2.1 i.1.2.2 (l.take i.1.1)] [slA A0 l]) (fun i => l.length - i.1.1) ⟨(0, none, 0), Nat.zero_le _, fun _ => rfl⟩ (wk (is := [0]) (by repeat (first | exact subσ.nil _ | refine subσ.cons rfl ?_)) rfl (by repeat' (first | constructor | apply Sub.suf))) ?_
 rintro ⟨⟨k, A, c⟩, hk, h0⟩
 refine cmono (S' := St M0 F0 w0 19 [(6, .slice A0 l.length c0), (7, .int .i64 (l.length : Int)), (8, .int .i64 (k : Int)), (3, .slice A (l.take k).length c)] [row 39 A c (l.take k)] [slA A0 l]) (fun _ _ h => h) ?_
 refine cs ?_
 refine cr ?_
 refine ls (op (p_icmp rfl rfl rfl) rfl) ?_
 refine ln ?_
 refine nthen ?_
 refine cs ?_
 refine cc rfl ?_ ?_
 ·
  intro h9
  dsimp only at hk h0
  try simp only [decide_eq_true_eq, decide_eq_false_iff_not, Bool.not_eq_true', Bool.not_eq_false', Int.not_lt, Int.not_le, ge_iff_le, Bool.not_true, Bool.not_false] at h9
  have hk1 : k < l.length := by omega
  refine cskip ?_
  refine nthen ?_
  refine cs ?_
  refine cb ?_
  refine cs ?_
  refine elC (by repeat' constructor) k (List.getElem?_eq_getElem (l := l) hk1) ?_; rintro zbp zop zyp hAp
  refine cr ?_
  refine ls (op (p_ia k hAp hk1 rfl Tryz.underlying29 Tryz.sizeOf39 rfl rfl) rfl) ?_
  refine ls (o_ldj Tryz.isAgg39 Tryz.sizeOf39 rfl (by repeat' constructor) 0 rfl (by repeat (first | exact Cut.d | apply Cut.t | apply Cut.s)) rfl) ?_
  refine ls (o_alloc Tryz.zeroValue39 rfl rfl) ?_
  refine le ?_; intro b5
  refine ls (o_st rfl Tryz.sizeOf39 rfl rfl rfl rfl rfl (by repeat' constructor) (by repeat' constructor) (by repeat' constructor)) ?_
  refine ln ?_
  refine nthen ?_
  refine cr ?_
  refine ls (op (p_move rfl) rfl) ?_
  refine ls (o_ldw Tryz.isAgg39 Tryz.sizeOf39 rfl (by repeat' constructor) (by rfl) rfl) ?_
  refine ls (o_call (is := []) Tryz.call48 (c_primClone l[k] zyp (hf _ (List.getElem_mem hk1))) rfl rfl (by repeat' (first | constructor | apply Sub.suf)) rfl) ?_
  refine le ?_; intro y14
  refine ls (o_bsl [l[k]] Tryz.underlying29 Tryz.sizeOf39 Tryz.zeroValue39 rfl (Enum.t Enum.d) (RV.t y14 rfl (by repeat' (first | constructor | apply Sub.suf)) RV.d) rfl (by decide) (by decide) rfl) ?_
  refine le ?_; intro b15
  refine lmono (fun a w h => Go.Sx.freeze (i := 0) rfl h) ?_
  refine ls (o_app (is := [1]) Tryz.underlying29 inf39 rfl (by decide) (by decide) rfl rfl (by rw [List.length_take]; simp only [List.length_cons, List.length_nil]; omega) (fun h => by cases h) rfl (by repeat' (first | constructor | apply Sub.suf)) rfl) ?_
  refine le ?_; rintro ⟨A', c'⟩
  rw [← List.take_succ_eq_append_getElem hk1]
  refine ls (op (p_asg rfl) rfl) ?_
  refine ln ?_
  refine nblock ?_
  refine nthen ?_
  refine cr ?_
  refine ls (op (p_add rfl rfl (by omega)) rfl) ?_
  refine ls (op (p_move rfl) rfl) ?_
  refine ln ?_
  refine nnext ⟨(k + 1, A', c'), hk1, fun h => by cases h⟩ (by dsimp only; omega) (wk (is := [0]) (by repeat (first | exact subσ.nil _ | refine subσ.cons rfl ?_)) rfl (by repeat' (first | constructor | apply Sub.suf)))
 ·
  intro h9
  dsimp only at hk h0
  try simp only [decide_eq_true_eq, decide_eq_false_iff_not, Bool.not_eq_true', Bool.not_eq_false', Int.not_lt, Int.not_le, ge_iff_le, Bool.not_true, Bool.not_false] at h9
  obtain rfl : k = l.length := by omega
  refine cexit ?_
  refine xthen ?_
  refine xthen ?_
  refine xblock ?_
  refine nthen ?_
  refine cs ?_
  rw [List.take_length]
  refine cr ?_
  refine ls (op (p_move rfl) rfl) ?_
  refine ls (op (p_asg rfl) rfl) ?_
  refine ln ?_
  refine nthen ?_
  refine cret ?_
  refine xret (fun _ _ h => h) ?_
  refine rret (is := [0]) ⟨(A, c), fun h => h0 (by rw [h]; rfl)⟩ (Or.inl rfl) (Res.t rfl Res.d) (rfl) rfl (by repeat' (first | constructor | apply Sub.suf))

set_option maxRecDepth 100000 in
theorem c_pNew (v : Int) (V : Nat) (hV : max v 0 = (V : Int)) : Con Tryz.prog 85 [.int .i64 v] [] [] Nat (fun b => .pointer (some ⟨b, 0, none⟩)) (fun b => [box b 194 (Ring.zero V).cells]) (fun b => [ringA (Ring.zero V).rg]) := by
 refine con Tryz.func85 rfl Tryz.ntmps85 rfl ?_
 intro M0 F0 w0
 refine cs ?_
 refine cr ?_
 refine ls (op (p_asg rfl) rfl) ?_
 refine ln ?_
 refine nthen ?_
 refine cs ?_
 refine cr ?_
 refine ls (op (p_move rfl) rfl) ?_
 refine ls (op (p_max rfl rfl) rfl) ?_
 refine ls (op (p_bld sb194 rfl (Fill.t (by repeat' constructor) rfl rfl (by repeat' constructor) Fill.d)) rfl) ?_
 refine ls (o_box rfl rfl rfl) ?_
 refine le ?_; intro b6
 refine ls (op (p_asg rfl) rfl) ?_
 refine ln ?_
 refine nthen ?_
 refine cret ?_
 refine xret (fun _ _ h => h) ?_
 rw [hV]
 refine nmono (fun a w h => ringNil (V := V) h) ?_
 refine rret (is := [0]) b6 (Or.inl rfl) (Res.t rfl Res.d) (rfl) rfl (by repeat' (first | constructor | apply Sub.suf))

set_option maxRecDepth 100000 in
theorem c_pVersion (b : Nat) (r : Ring) : Con Tryz.prog 90 [.pointer (some ⟨b, 0, none⟩)] [box b 194 r.cells] [] Unit (fun _ => .int .i64 r.ver) (fun _ => [box b 194 r.cells]) (fun _ => []) := by
 refine con Tryz.func90 rfl Tryz.ntmps90 rfl ?_
 intro M0 F0 w0
 refine cs ?_
 refine cr ?_
 refine ls (op (p_asg rfl) rfl) ?_
 refine ln ?_
 refine nthen ?_
 refine cs ?_
 refine cr ?_
 refine ls (op (p_move rfl) rfl) ?_
 refine ls (op (p_nilck rfl) rfl) ?_
 refine ls (op (p_fa fa194_0 rfl) rfl) ?_
 refine ls (o_ld Tryz.isAgg3 rfl (by repeat' constructor) (by repeat' constructor) rfl) ?_
 refine ls (op (p_asg rfl) rfl) ?_
 refine ln ?_
 refine nthen ?_
 refine cret ?_
 refine xret (fun _ _ h => h) ?_
 refine rret (is := [0]) () (Or.inl rfl) (Res.t rfl Res.d) (rfl) rfl (by repeat' (first | constructor | apply Sub.suf))

set_option maxRecDepth 100000 in
theorem c_pFirst (b : Nat)(V : Nat) (rows : List (List Prim)) (r : Ring) (hI : RI V rows r) (hV : V + rows.length ≤ 4611686018427387904) : Con Tryz.prog 91 [.pointer (some ⟨b, 0, none⟩)] [box b 194 r.cells] [] Unit (fun _ => .int .i64 ((least V rows.length : Nat) : Int)) (fun _ => [box b 194 r.cells]) (fun _ => []) := by
 refine con Tryz.func91 rfl Tryz.ntmps91 rfl ?_
 intro M0 F0 w0
 refine cs ?_
 refine cr ?_
 refine ls (op (p_asg rfl) rfl) ?_
 refine ln ?_
 refine nthen ?_
 refine cs ?_
 refine cd [] [(3, b, 0, _), (7, b, 1, _)] TryzX.mixed (TOk.t (isBoxS (by repeat' constructor) (k := 1) (by repeat (first | exact Cut.d | apply Cut.t | apply Cut.s))) (TOk.t (isBoxS (by repeat' constructor) (k := 1) (by repeat (first | exact Cut.d | apply Cut.t | apply Cut.s))) TOk.d)) ?_
 refine tk 0 rfl (by kernel_rfl) (fun _ _ _ h => h) gnone (TTany _) (p_move rfl) rfl ?_
 refine tk 1 rfl (by kernel_rfl) (fun _ _ _ h => h) gnone (TTany _) (p_nilck rfl) rfl ?_
 refine tk 2 rfl (by kernel_rfl) (fun _ _ _ h => h) gnone (TTany _) (p_fa fa194_0 rfl) rfl ?_
 refine tk 3 rfl (by kernel_rfl) (fun _ _ _ h => h) gnone (TTat (List.Mem.head _)) (p_ld Tryz.isAgg3 rfl) rfl ?_
 refine tk 4 rfl (by kernel_rfl) (fun _ _ _ h => h) gnone (TTany _) (p_move rfl) rfl ?_
 refine tk 5 rfl (by kernel_rfl) (fun _ _ _ h => h) gnone (TTany _) (p_nilck rfl) rfl ?_
 refine tk 6 rfl (by kernel_rfl) (fun _ _ _ h => h) gnone (TTany _) (p_fa fa194_1 rfl) rfl ?_
 refine tk 7 rfl (by kernel_rfl) (fun _ _ _ h => h) gnone (TTat (List.Mem.tail _ (List.Mem.head _))) (p_ld Tryz.isAgg3 rfl) rfl ?_
 refine tk 8 rfl (by kernel_rfl) (fun _ _ _ h => h) gnone (TTany _) (p_sub rfl rfl (by rw [hI.ver, hI.many]; omega)) rfl ?_
 refine tk 9 rfl (by kernel_rfl) (fun _ _ _ h => h) gnone (TTany _) (p_asg rfl) rfl ?_
 refine dn (by kernel_rfl) ?_
 refine nthen ?_
 refine cret ?_
 refine xret (fun _ _ h => h) ?_
 refine rret (is := [0]) () (Or.inl rfl) (Res.t rfl Res.d) ?_ rfl (by repeat' (first | constructor | apply Sub.suf))
 rw [show r.ver - r.many = ((least V rows.length : Nat) : Int) by rw [hI.ver, hI.many]; unfold least; omega]; rfl

set_option maxRecDepth 100000 in
theorem c_pKnown (b : Nat)(V : Nat) (rows : List (List Prim)) (r : Ring) (hI : RI V rows r) (hV : V + rows.length ≤ 4611686018427387904) (z : Int) : Con Tryz.prog 94 [.pointer (some ⟨b, 0, none⟩), .int .i64 z] [box b 194 r.cells] [] Unit (fun _ => .bool (known V rows.length z)) (fun _ => [box b 194 r.cells]) (fun _ => []) := by
 refine con Tryz.func94 rfl Tryz.ntmps94 rfl ?_
 intro M0 F0 w0
 refine cs ?_
 refine cr ?_
 refine ls (op (p_asg rfl) rfl) ?_
 refine ln ?_
 refine nthen ?_
 refine cs ?_
 refine cr ?_
 refine ls (op (p_move rfl) rfl) ?_
 refine ls (op (p_move rfl) rfl) ?_
 refine ls (o_call (is := [0]) Tryz.call91 (c_pFirst b V rows r hI hV) rfl rfl (by repeat' (first | constructor | apply Sub.suf)) rfl) ?_
 refine le ?_; intro x7
 refine ls (op (p_icmp rfl rfl rfl) rfl) ?_
 refine ls (op (p_move rfl) rfl) ?_
 refine andX 7 9 16 rfl (subσ.cons (t := 4) rfl (subσ.nil _)) ?_ ?_
 ·
  intro h9
  refine lskip rfl rfl rfl rfl rfl ?_
  refine lskip rfl rfl rfl rfl rfl ?_
  refine lskip rfl rfl rfl rfl rfl ?_
  refine lskip rfl rfl rfl rfl rfl ?_
  refine lskip rfl rfl rfl rfl rfl ?_
  refine lskip rfl rfl rfl rfl rfl ?_
  refine ls (op (p_pickf rfl rfl) rfl) ?_
  refine ln (nmid (wk0 (by repeat (first | exact subσ.nil _ | refine subσ.cons rfl ?_)) (by repeat' (first | constructor | apply Sub.suf))))
 apply exI
 ·
  intro h9
  refine lwant rfl rfl rfl rfl (op (p_move rfl) rfl) ?_
  refine lwant rfl rfl rfl rfl (op (p_move rfl) rfl) ?_
  refine lwant rfl rfl rfl rfl (op (p_nilck rfl) rfl) ?_
  refine lwant rfl rfl rfl rfl (op (p_fa fa194_0 rfl) rfl) ?_
  refine lwant rfl rfl rfl rfl (o_ld Tryz.isAgg3 rfl (by repeat' constructor) (by repeat' constructor) rfl) ?_
  refine lwant rfl rfl rfl rfl (op (p_icmp rfl rfl rfl) rfl) ?_
  refine ls (op (p_pickt rfl rfl) rfl) ?_
  refine ln (nmid (wk0 (by repeat (first | exact subσ.nil _ | refine subσ.cons rfl ?_)) (by repeat' (first | constructor | apply Sub.suf))))
 ·
  refine ls (op (p_asg rfl) rfl) ?_
  refine ln ?_
  refine nthen ?_
  refine cret ?_
  refine xret (fun _ _ h => h) ?_
  refine rret (is := [0]) () (Or.inl rfl) (Res.t rfl Res.d) ?_ rfl (by repeat' (first | constructor | apply Sub.suf))
  rw [hI.ver]; rfl

set_option maxRecDepth 100000 in
theorem c_pAt (b : Nat)(V : Nat) (rows : List (List Prim)) (r : Ring) (hI : RI V rows r) (hV : V + rows.length ≤ 4611686018427387904) (z : Int) : Con Tryz.prog 89 [.pointer (some ⟨b, 0, none⟩), .int .i64 z] [box b 194 r.cells] [ringA r.rg] {x : (List Prim × Bool) × (Option Addr × Nat) // x.1 = atP V rows z} (fun x => .tuple #[.slice x.1.2.1 x.1.1.1.length x.1.2.2, .bool x.1.1.2]) (fun _ => [box b 194 r.cells]) (fun x => [slA x.1.2.1 x.1.1.1]) := by
 refine con Tryz.func89 rfl Tryz.ntmps89 rfl ?_
 intro M0 F0 w0
 refine cs ?_
 refine cr ?_
 refine ls (op (p_asg rfl) rfl) ?_
 refine ls (op (p_asg rfl) rfl) ?_
 refine ln ?_
 refine nthen ?_
 refine cs ?_
 refine cs ?_
 refine cr ?_
 refine ls (op (p_move rfl) rfl) ?_
 refine ls (op (p_move rfl) rfl) ?_
 refine ls (o_call (is := [0]) Tryz.call91 (c_pFirst b V rows r hI hV) rfl rfl (by repeat' (first | constructor | apply Sub.suf)) rfl) ?_
 refine le ?_; intro x8
 refine ls (op (p_icmp rfl rfl rfl) rfl) ?_
 refine ls (op (p_move rfl) rfl) ?_
 refine orX 7 10 17 rfl (subσ.cons (t := 0) rfl (subσ.cons (t := 1) rfl (subσ.cons (t := 4) rfl (subσ.cons (t := 5) rfl (subσ.nil _))))) ?_ ?_
 ·
  intro h10
  refine lskip rfl rfl rfl rfl rfl ?_
  refine lskip rfl rfl rfl rfl rfl ?_
  refine lskip rfl rfl rfl rfl rfl ?_
  refine lskip rfl rfl rfl rfl rfl ?_
  refine lskip rfl rfl rfl rfl rfl ?_
  refine lskip rfl rfl rfl rfl rfl ?_
  refine ls (op (p_pickt rfl rfl) rfl) ?_
  refine ln (nmid (wk0 (by repeat (first | exact subσ.nil _ | refine subσ.cons rfl ?_)) (by repeat' (first | constructor | apply Sub.suf))))
 apply exI
 ·
  intro h10
  refine lwant rfl rfl rfl rfl (op (p_move rfl) rfl) ?_
  refine lwant rfl rfl rfl rfl (op (p_move rfl) rfl) ?_
  refine lwant rfl rfl rfl rfl (op (p_nilck rfl) rfl) ?_
  refine lwant rfl rfl rfl rfl (op (p_fa fa194_0 rfl) rfl) ?_
  refine lwant rfl rfl rfl rfl (o_ld Tryz.isAgg3 rfl (by repeat' constructor) (by repeat' constructor) rfl) ?_
  refine lwant rfl rfl rfl rfl (op (p_icmp rfl rfl rfl) rfl) ?_
  refine ls (op (p_pickf rfl rfl) rfl) ?_
  refine ln (nmid (wk0 (by repeat (first | exact subσ.nil _ | refine subσ.cons rfl ?_)) (by repeat' (first | constructor | apply Sub.suf))))
 ·
  refine ln ?_
  refine nthen ?_
  refine cc rfl ?_ ?_
  ·
   intro h17
   rw [hI.ver] at h17
   have hat := atP_no h17
   refine cs ?_
   refine cmono (fun a w h => nilC (α := Prim) h) ?_
   refine cr ?_
   refine ls (op (p_asg rfl) rfl) ?_
   refine ls (op (p_asg rfl) rfl) ?_
   refine ln ?_
   refine nthen ?_
   refine cret ?_
   refine xret (fun _ _ h => h) ?_
   refine rret (is := [0]) ⟨(([], false), (none, 0)), hat.symm⟩ (Or.inl rfl) (Res.t rfl (Res.t rfl Res.d)) (rfl) rfl (by repeat' (first | constructor | apply Sub.suf))
  ·
   intro h17
   rw [hI.ver] at h17
   obtain ⟨i, rfl, hi, hi2, hat⟩ := atP_yes h17
   obtain ⟨A0, c0, hr⟩ := hI.row i hi hi2
   have hsm := hI.sm _ (List.mem_of_getElem? hr)
   refine cskip ?_
   refine nthen ?_
   refine cs ?_
   refine cr ?_
   refine ls (op (p_move rfl) rfl) ?_
   refine ls (op (p_move rfl) rfl) ?_
   refine ls (op (p_remn (V + i + 1) 63 rfl rfl rfl rfl) rfl) ?_
   refine ls (op (p_nilck rfl) rfl) ?_
   refine ls (op (p_fa fa194_2 rfl) rfl) ?_
   refine ls (op (p_iav ((V + i + 1) % 64) (by omega) rfl Tryz.underlying192 Tryz.sizeOf29 rfl rfl) rfl) ?_
   refine ls (o_ld Tryz.isAgg29 rfl (by repeat' constructor) (at_ring hr) rfl) ?_
   refine lmono (fun a w h => ringGet (by repeat' constructor) hr h) ?_
   refine ls (o_call (is := []) Tryz.call95 (c_copied rows[i] A0 c0 hsm.1 hsm.2) rfl rfl (by repeat' (first | constructor | apply Sub.suf)) rfl) ?_
   refine le ?_; rintro ⟨⟨A1, c1⟩, h1⟩
   refine lmono (fun a w h => Go.Sx.freeze (i := 0) rfl h) ?_
   refine ls (op (p_asg rfl) rfl) ?_
   refine ls (op (p_asg rfl) rfl) ?_
   refine ln ?_
   refine nthen ?_
   refine cret ?_
   refine xret (fun _ _ h => h) ?_
   refine rret (is := [0]) ⟨((rows[i], true), (A1, c1)), hat.symm⟩ (Or.inl rfl) (Res.t rfl (Res.t rfl Res.d)) (rfl) rfl (by repeat' (first | constructor | apply Sub.suf))

set_option maxRecDepth 100000 in
theorem c_pAdd (b : Nat)(V : Nat) (rows : List (List Prim)) (r : Ring) (hI : RI V rows r) (hV : V + rows.length + 1 ≤ 4611686018427387904) (l : List Prim) (A0 : Option Addr) (c0 : Nat) (hl : l.length ≤ 2000000) (hf : ∀ x ∈ l, x.fit) : Con Tryz.prog 86 [.pointer (some ⟨b, 0, none⟩), .slice A0 l.length c0] [box b 194 r.cells] [ringA r.rg, slA A0 l] (Option Addr × Nat) (fun y => .int .i64 ((V + rows.length + 1 : Nat) : Int)) (fun y => [box b 194 (r.add ((V + rows.length + 1) % 64) (l, y.1, y.2)).cells]) (fun y => [ringA (r.add ((V + rows.length + 1) % 64) (l, y.1, y.2)).rg]) := by
 refine con Tryz.func86 rfl Tryz.ntmps86 rfl ?_
 intro M0 F0 w0
 refine cs ?_
 refine cr ?_
 refine ls (op (p_asg rfl) rfl) ?_
 refine ln ?_
 refine nthen ?_
 refine cs ?_
 have hver := hI.ver
 have hmany := hI.many
 have h64 := hI.len
 refine cr ?_
 refine ls (op (p_move rfl) rfl) ?_
 refine ls (op (p_nilck rfl) rfl) ?_
 refine ls (op (p_fa fa194_0 rfl) rfl) ?_
 refine ls (o_ld Tryz.isAgg3 rfl (by repeat' constructor) (by repeat' constructor) rfl) ?_
 refine ls (op (p_add rfl rfl (by omega)) rfl) ?_
 refine ls (op (p_nilck rfl) rfl) ?_
 refine ls (op (p_fa fa194_0 rfl) rfl) ?_
 refine ls (o_st rfl Tryz.sizeOf3 rfl rfl rfl rfl rfl (by repeat' constructor) (by repeat' constructor) (by repeat' constructor)) ?_
 refine ln ?_
 refine nthen ?_
 refine cs ?_
 refine cr ?_
 refine ls (op (p_move rfl) rfl) ?_
 refine ls (op (p_move rfl) rfl) ?_
 refine ls (op (p_nilck rfl) rfl) ?_
 refine ls (op (p_fa fa194_1 rfl) rfl) ?_
 refine ls (o_ld Tryz.isAgg3 rfl (by repeat' constructor) (by repeat' constructor) rfl) ?_
 refine ls (op (p_add rfl rfl (by omega)) rfl) ?_
 refine ls (op (p_min rfl rfl) rfl) ?_
 refine ls (op (p_nilck rfl) rfl) ?_
 refine ls (op (p_fa fa194_1 rfl) rfl) ?_
 refine ls (o_st rfl Tryz.sizeOf3 rfl rfl rfl rfl rfl (by repeat' constructor) (by repeat' constructor) (by repeat' constructor)) ?_
 refine ln ?_
 refine nthen ?_
 refine cs ?_
 refine cd [7, 11] [(4, b, 0, _)] TryzX.mixed (TOk.t (isBoxS (by repeat' constructor) (k := 1) (by repeat (first | exact Cut.d | apply Cut.t | apply Cut.s))) TOk.d) ?_
 refine tk 0 rfl (by kernel_rfl) (fun _ _ _ h => h) gnone (TTany _) (p_move rfl) rfl ?_
 refine tk 1 rfl (by kernel_rfl) (fun _ _ _ h => h) gnone (TTany _) (p_move rfl) rfl ?_
 refine tk 2 rfl (by kernel_rfl) (fun _ _ _ h => h) gnone (TTany _) (p_nilck rfl) rfl ?_
 refine tk 3 rfl (by kernel_rfl) (fun _ _ _ h => h) gnone (TTany _) (p_fa fa194_0 rfl) rfl ?_
 refine tk 4 rfl (by kernel_rfl) (fun _ _ _ h => h) gnone (TTat (List.Mem.head _)) (p_ld Tryz.isAgg3 rfl) rfl ?_
 refine tk 5 rfl (by kernel_rfl) (fun _ _ _ h => h) gnone (TTany _) (p_remn (V + rows.length + 1) 63 (by omega) rfl rfl rfl) rfl ?_
 refine tk 6 rfl (by kernel_rfl) (fun _ _ _ h => h) gnone (TTany _) (p_move rfl) rfl ?_
 refine tk 8 rfl (by kernel_rfl) (fun _ _ _ h => h) gnone (TTany _) (p_nilck rfl) rfl ?_
 refine tk 9 rfl (by kernel_rfl) (fun _ _ _ h => h) gnone (TTany _) (p_fa fa194_2 rfl) rfl ?_
 refine df 7 (by kernel_rfl) ?_
 refine doR rfl (o_call (is := []) Tryz.call95 (c_copied l A0 c0 hl hf) rfl rfl (by repeat' (first | constructor | apply Sub.suf)) rfl) (TOk.t (isBoxE fun _ => isBoxS (by repeat' constructor) (k := 1) (by repeat (first | exact Cut.d | apply Cut.t | apply Cut.s))) TOk.d) ?_
 refine ea ?_; rintro ⟨⟨A1, c1⟩, h1⟩
 refine amono (fun a w h => Go.Sx.freeze (i := 0) rfl h) ?_
 refine tk 10 rfl (by kernel_rfl) (fun _ _ _ h => h) gnone (TTany _) (p_iav ((V + rows.length + 1) % 64) (by omega) rfl Tryz.underlying192 Tryz.sizeOf29 rfl rfl) rfl ?_
 refine df 11 (by kernel_rfl) ?_
 refine doR rfl (o_st rfl Tryz.sizeOf29 rfl rfl rfl rfl rfl (by repeat' constructor) (put_ring (r := ⟨r.ver + 1, min (r.many + 1) 64, r.rg⟩) (e := (l, A1, c1)) (by dsimp only; omega)) (by repeat' constructor)) (TOk.x (by kernel_rfl) TOk.d) ?_
 refine dn (by kernel_rfl) ?_
 refine nthen ?_
 refine cs ?_
 refine cmono (fun a w h => ringSet (j := (V + rows.length + 1) % 64) (e := (l, A1, c1)) (by repeat' constructor) (by repeat' constructor) h) ?_
 refine cr ?_
 refine ls (op (p_move rfl) rfl) ?_
 refine ls (op (p_nilck rfl) rfl) ?_
 refine ls (op (p_fa fa194_0 rfl) rfl) ?_
 refine ls (o_ld Tryz.isAgg3 rfl (by repeat' constructor) (by repeat' constructor) rfl) ?_
 refine ls (op (p_asg rfl) rfl) ?_
 refine ln ?_
 refine nthen ?_
 refine cret ?_
 refine xret (fun _ _ h => h) ?_
 refine rret (is := [0]) (A1, c1) (Or.inl rfl) (Res.t rfl Res.d) ?_ rfl (by repeat' (first | constructor | apply Sub.suf))
 rw [hver]; rfl

set_option maxRecDepth 100000 in
theorem c_pCopy (b : Nat)(r : Ring) (h64 : r.rg.length = 64) : Con Tryz.prog 88 [.pointer (some ⟨b, 0, none⟩)] [box b 194 r.cells] [] Nat (fun b' => .pointer (some ⟨b', 0, none⟩)) (fun b' => [box b' 194 r.cells, box b 194 r.cells]) (fun _ => []) := by
 refine con Tryz.func88 rfl Tryz.ntmps88 rfl ?_
 intro M0 F0 w0
 refine cs ?_
 refine cr ?_
 refine ls (op (p_asg rfl) rfl) ?_
 refine ln ?_
 refine nthen ?_
 refine cs ?_
 refine cr ?_
 refine ls (op (p_move rfl) rfl) ?_
 refine ls (op (p_nilck rfl) rfl) ?_
 refine ls (o_ldw Tryz.isAgg194 Tryz.sizeOf194 rfl (by repeat' constructor) (by simp [Ring.cells, h64]) rfl) ?_
 refine ls (o_alloc Tryz.zeroValue194 rfl rfl) ?_
 refine le ?_; intro b3
 refine ls (o_st rfl Tryz.sizeOf194 rfl rfl rfl (by simp [Ring.cells, h64]) (ring_one r) (by repeat' constructor) (put_all (by simp [Ring.cells, h64])) (by repeat' constructor)) ?_
 refine ln ?_
 refine nthen ?_
 refine cs ?_
 refine cr ?_
 refine ls (op (p_asg rfl) rfl) ?_
 refine ln ?_
 refine nthen ?_
 refine cret ?_
 refine xret (fun _ _ h => h) ?_
 refine rret (is := [0, 0]) b3 (Or.inl rfl) (Res.t rfl Res.d) (rfl) rfl (by repeat' (first | constructor | apply Sub.suf))

set_option maxRecDepth 100000 in
theorem c_pBehind (b : Nat) (z : Int) : Con Tryz.prog 96 [.pointer (some ⟨b, 0, none⟩), .int .i64 z] [] [] (Nat × Nat) (fun y => .func (.func 137) #[] #[.pointer (some ⟨y.1, 0, none⟩), .pointer (some ⟨y.2, 0, none⟩)]) (fun y => [box y.1 3 [.int .i64 z], box y.2 74 [.pointer (some ⟨b, 0, none⟩)]]) (fun _ => []) := by
 refine con Tryz.func96 rfl Tryz.ntmps96 rfl ?_
 intro M0 F0 w0
 refine cs ?_
 refine cr ?_
 refine ls (o_box rfl rfl rfl) ?_
 refine le ?_; intro b2
 refine ls (o_box rfl rfl rfl) ?_
 refine le ?_; intro b3
 refine ls (op (p_asg rfl) rfl) ?_
 refine ln ?_
 refine nthen ?_
 refine cs ?_
 refine cr ?_
 refine ls (op (p_mkf rfl) rfl) ?_
 refine ls (op (p_asg rfl) rfl) ?_
 refine ln ?_
 refine nthen ?_
 refine cret ?_
 refine xret (fun _ _ h => h) ?_
 refine rret (is := [0, 0]) (b3, b2) (Or.inl rfl) (Res.t rfl Res.d) (rfl) rfl (by repeat' (first | constructor | apply Sub.suf))

set_option maxRecDepth 100000 in
theorem c_pBehind1 (V : Nat) (rows : List (List Prim)) (r : Ring) (hI : RI V rows r) (hV : V + rows.length ≤ 4611686018427387904) (q : Nat) (hq : q ≤ rows.length) (hq2 : rows.length ≤ q + 64) (b bv bp : Nat) : Iter Tryz.prog 137 [.pointer (some ⟨bv, 0, none⟩), .pointer (some ⟨bp, 0, none⟩)] (fun x : {x : Nat × (Option Addr × Nat) // x.1 < rows.length} => [.int .i64 ((V + x.1.1 + 1 : Nat) : Int), .slice x.1.2.1 (rows[x.1.1]'x.2).length x.1.2.2]) (fun x => [slA x.1.2.1 (rows[x.1.1]'x.2)]) (fun pre x => x.1.1 = q + pre.length) (fun xs => rows.length ≤ q + xs.length) [box bv 3 [.int .i64 ((V + q : Nat) : Int)], box bp 74 [.pointer (some ⟨b, 0, none⟩)], box b 194 r.cells] [ringA r.rg] := by
 intro lp J Jx hY
 refine con Tryz.func137 rfl Tryz.ntmps137 rfl ?_
 intro M0 F0 w0
 refine cs ?_
 refine cr ?_
 refine ls (o_ld Tryz.isAgg3 rfl (by repeat' constructor) (by repeat' constructor) rfl) ?_
 refine ls (op (p_add rfl rfl (by omega)) rfl) ?_
 refine ls (op (p_asg rfl) rfl) ?_
 refine ln ?_
 refine nthen ?_
 refine cb ?_
 refine cl (ι := {x : List {x : Nat × (Option Addr × Nat) // x.1 < rows.length} × Int // x.2 = ((V + q + x.1.length + 1 : Nat) : Int)}) (fun i => St M0 F0 w0 26 [(0, .func (.yield lp) #[] #[]), (1, .pointer (some ⟨bv, 0, none⟩)), (2, .pointer (some ⟨bp, 0, none⟩)), (4, .int .i64 i.1.2)] [J i.1.1, box bv 3 [.int .i64 ((V + q : Nat) : Int)], box bp 74 [.pointer (some ⟨b, 0, none⟩)], box b 194 r.cells] [ringA r.rg]) (fun i => rows.length - (i.1.1).length) ⟨([], ((V + q : Nat) : Int) + 1), by simp⟩ (wk0 (by repeat (first | exact subσ.nil _ | refine subσ.cons rfl ?_)) (by repeat' (first | constructor | apply Sub.suf))) ?_
 rintro ⟨⟨pre, z⟩, hz⟩
 refine cmono (S' := St M0 F0 w0 26 [(0, .func (.yield lp) #[] #[]), (1, .pointer (some ⟨bv, 0, none⟩)), (2, .pointer (some ⟨bp, 0, none⟩)), (4, .int .i64 z)] [J pre, box bv 3 [.int .i64 ((V + q : Nat) : Int)], box bp 74 [.pointer (some ⟨b, 0, none⟩)], box b 194 r.cells] [ringA r.rg]) (fun _ _ h => h) ?_
 refine cs ?_
 refine cs ?_
 refine cr ?_
 refine ls (op (p_move rfl) rfl) ?_
 refine ls (o_ld Tryz.isAgg74 rfl (by repeat' constructor) (by repeat' constructor) rfl) ?_
 refine ls (op (p_nilck rfl) rfl) ?_
 refine ls (op (p_fa fa194_0 rfl) rfl) ?_
 refine ls (o_ld Tryz.isAgg3 rfl (by repeat' constructor) (by repeat' constructor) rfl) ?_
 refine ls (op (p_icmp rfl rfl rfl) rfl) ?_
 refine ln ?_
 refine nthen ?_
 refine cc rfl ?_ ?_
 ·
  intro h12
  dsimp only at hz
  try simp only [decide_eq_true_eq, decide_eq_false_iff_not, Bool.not_eq_true', Bool.not_eq_false', Int.not_lt, Int.not_le, ge_iff_le, Bool.not_true, Bool.not_false] at h12
  rw [hI.ver] at h12
  have hk1 : q + pre.length < rows.length := by omega
  obtain ⟨A0, c0, hr⟩ := hI.row (q + pre.length) hk1 (by omega)
  refine cskip ?_
  refine nthen ?_
  refine cs ?_
  refine cb ?_
  refine cs ?_
  refine cr ?_
  refine ls (op (p_move rfl) rfl) ?_
  refine ls (op (p_move rfl) rfl) ?_
  refine ls (o_ld Tryz.isAgg74 rfl (by repeat' constructor) (by repeat' constructor) rfl) ?_
  refine ls (op (p_move rfl) rfl) ?_
  refine ls (op (p_remn (V + (q + pre.length) + 1) 63 (by omega) rfl rfl rfl) rfl) ?_
  refine ls (op (p_nilck rfl) rfl) ?_
  refine ls (op (p_fa fa194_2 rfl) rfl) ?_
  refine ls (op (p_iav ((V + (q + pre.length) + 1) % 64) (by omega) rfl Tryz.underlying192 Tryz.sizeOf29 rfl rfl) rfl) ?_
  refine ls (o_ld Tryz.isAgg29 rfl (by repeat' constructor) (at_ring hr) rfl) ?_
  refine lmono (fun a w h => ringGet (by repeat' constructor) hr h) ?_
  refine ls (o_yield (i := 0) rfl (by have := hY pre ⟨(q + pre.length, (A0, c0)), hk1⟩ rfl; dsimp only at this; rw [show ((V + (q + pre.length) + 1 : Nat) : Int) = z by omega] at this; exact this) rfl rfl (by repeat' (first | constructor | apply Sub.suf)) rfl) ?_
  refine le ?_; intro bb
  refine ls (op (p_not rfl) rfl) ?_
  refine ln ?_
  refine nthen ?_
  refine cc rfl ?_ ?_
  ·
   intro h25
   obtain rfl : false = bb := by cases bb <;> first | rfl | (simp at h25)
   refine cret ?_
   refine xret (fun _ _ h => h) ?_
   refine rret (is := [0, 0, 0, 0]) ⟨none, fun _ h => by cases h⟩ (Or.inl rfl) Res.d (rfl) rfl (by repeat' (first | constructor | apply Sub.suf))
  ·
   intro h25
   obtain rfl : true = bb := by cases bb <;> first | rfl | (simp at h25)
   refine cskip ?_
   refine nblock ?_
   refine nthen ?_
   refine cr ?_
   refine ls (op (p_move rfl) rfl) ?_
   refine ls (op (p_add rfl rfl (by omega)) rfl) ?_
   refine ls (op (p_asg rfl) rfl) ?_
   refine ln ?_
   refine nnext ⟨(pre ++ [⟨(q + pre.length, (A0, c0)), hk1⟩], z + 1), by simp; omega⟩ (by simp; omega) (wk (is := [0, 0, 0, 0]) (by repeat (first | exact subσ.nil _ | refine subσ.cons rfl ?_)) rfl (by repeat' (first | constructor | apply Sub.suf)))
 ·
  intro h12
  dsimp only at hz
  try simp only [decide_eq_true_eq, decide_eq_false_iff_not, Bool.not_eq_true', Bool.not_eq_false', Int.not_lt, Int.not_le, ge_iff_le, Bool.not_true, Bool.not_false] at h12
  rw [hI.ver] at h12
  refine cexit ?_
  refine xthen ?_
  refine xthen ?_
  refine xblock ?_
  refine rret (is := [0, 0, 0, 0]) ⟨some pre, fun xs h => by cases h; omega⟩ (Or.inr rfl) Res.d (rfl) rfl (by repeat' (first | constructor | apply Sub.suf))

end Go.Proofs.YtdbiillompeclaaGreatDoor.X

end
section
set_option linter.unusedVariables false
set_option linter.unusedSimpArgs false
namespace Go.Proofs.YtdbiillompeclaaGreatDoor.X
open Go Go.RowKit Go.Proofs Go.Sx
attribute [local irreducible] slA isA box row


set_option maxRecDepth 100000 in
theorem c_pSince (b : Nat)(V : Nat) (rows : List (List Prim)) (r : Ring) (hI : RI V rows r) (hV : V + rows.length ≤ 4611686018427387904)(hR : ∀ l ∈ rows, l.length ≤ 2000000 ∧ ∀ x ∈ l, x.fit) (hF : rows.flatten.length ≤ 2000000) (z : Int) : Con Tryz.prog 87 [.pointer (some ⟨b, 0, none⟩), .int .i64 z] [box b 194 r.cells] [ringA r.rg] {x : (List Prim × Int) × (Option Addr × Nat) // x.1 = sinceT V rows z} (fun x => .tuple #[.slice x.1.2.1 x.1.1.1.length x.1.2.2, .int .i64 x.1.1.2]) (fun _ => [box b 194 r.cells]) (fun x => [slA x.1.2.1 x.1.1.1]) := by
 refine con Tryz.func87 rfl Tryz.ntmps87 rfl ?_
 intro M0 F0 w0
 refine cs ?_
 refine cr ?_
 refine ls (op (p_asg rfl) rfl) ?_
 refine ls (op (p_asg rfl) rfl) ?_
 refine ln ?_
 refine nthen ?_
 refine cs ?_
 refine cs ?_
 refine cr ?_
 refine ls (op (p_move rfl) rfl) ?_
 refine ls (op (p_move rfl) rfl) ?_
 refine ls (o_call (is := [0]) Tryz.call94 (c_pKnown b V rows r hI hV z) rfl rfl (by repeat' (first | constructor | apply Sub.suf)) rfl) ?_
 refine le ?_; intro x11
 refine ls (op (p_not rfl) rfl) ?_
 refine ln ?_
 refine nthen ?_
 refine cc rfl ?_ ?_
 ·
  intro h12
  have hk0 : known V rows.length z = false := by simpa using h12
  refine cs ?_
  refine cmono (fun a w h => nilC (α := Prim) h) ?_
  refine cr ?_
  refine ls (op (p_asg rfl) rfl) ?_
  refine ls (op (p_asg rfl) rfl) ?_
  refine ln ?_
  refine nthen ?_
  refine cret ?_
  refine xret (fun _ _ h => h) ?_
  refine rret (is := [0]) ⟨(([], 150), (none, 0)), (sinceT_no hk0).symm⟩ (Or.inl rfl) (Res.t rfl (Res.t rfl Res.d)) (rfl) rfl (by repeat' (first | constructor | apply Sub.suf))
 ·
  intro h12
  have hk0 : known V rows.length z = true := by simpa using h12
  obtain ⟨q, rfl, hq, hq2⟩ := known_yes hk0
  refine cskip ?_
  refine nthen ?_
  refine cs ?_
  refine cr ?_
  refine ls (o_alloc Tryz.zeroValue29 rfl rfl) ?_
  refine le ?_; intro b6
  refine ln ?_
  refine nthen ?_
  refine cs ?_
  refine cs ?_
  refine cmono (fun a w h => nilRow (α := Prim) 39 h) ?_
  refine cr ?_
  refine ls (op (p_move rfl) rfl) ?_
  refine ls (op (p_move rfl) rfl) ?_
  refine ls (o_call (is := []) Tryz.call96 (c_pBehind b ((V + q : Nat) : Int)) rfl rfl (by repeat' (first | constructor | apply Sub.suf)) rfl) ?_
  refine le ?_; rintro ⟨bv, bp⟩
  refine ln ?_
  refine nthen ?_
  refine cb ?_
  refine crng (ι := fun pre => Option Addr × Nat) rfl Tryz.call137 (c_pBehind1 V rows r hI hV q hq hq2 b bv bp) (fun _ => rfl) rfl (fun pre i => [box b6 29 [.slice i.1 (outP rows q pre.length).length i.2], row 39 i.1 i.2 (outP rows q pre.length)]) (fun pre i => []) ((none, 0)) (Y := Empty) (fun _ => []) (fun _ => []) (is := [3, 2, 0, 0, 0]) rfl (by repeat' (first | constructor | apply Sub.suf)) (by repeat' (first | constructor | apply Sub.suf)) ?_ ?_ ?_
  ·
   rintro M0 F0 w0 lp κ pre ⟨⟨k, ⟨Ak, ck⟩⟩, hk⟩ hx ⟨A2, c2⟩
   dsimp only at hk hx ⊢
   subst hx
   have hRk := hR _ (List.getElem_mem hk)
   have ho1 := outP_le rows q (pre.length + 1); rw [outP_step hk] at ho1; rw [List.length_append] at ho1
   refine cmono (S' := St M0 F0 w0 ⟨23, []⟩ [(6, .pointer (some ⟨b6, 0, none⟩)), (17, .slice Ak (rows[q + pre.length]).length ck)] [lrec lp κ .ready none, box b6 29 [.slice A2 (outP rows q pre.length).length c2], row 39 A2 c2 (outP rows q pre.length)] [slA Ak (rows[q + pre.length])]) (wk0 (by repeat (first | exact subσ.nil _ | refine subσ.cons rfl ?_)) (by repeat' (first | constructor | apply Sub.suf))) ?_
   refine cr ?_
   refine ls (op (p_asg rfl) rfl) ?_
   refine ln ?_
   refine nbegin (i := 0) rfl ?_
   refine cb ?_
   refine cd [2, 3, 4] [(0, b6, 0, _)] TryzX.mixed (TOk.t (isBoxS (by repeat' constructor) (k := 1) (by repeat (first | exact Cut.d | apply Cut.t | apply Cut.s))) TOk.d) ?_
   refine tk 0 rfl (by kernel_rfl) (fun _ _ _ h => h) gnone (TTat (List.Mem.head _)) (p_ld Tryz.isAgg29 rfl) rfl ?_
   refine tk 1 rfl (by kernel_rfl) (fun _ _ _ h => h) gnone (TTany _) (p_move rfl) rfl ?_
   refine df 2 (by kernel_rfl) ?_
   refine doR rfl (o_call (is := []) Tryz.call95 (c_copied (rows[q + pre.length]) Ak ck hRk.1 hRk.2) rfl rfl (by repeat' (first | constructor | apply Sub.suf)) rfl) (TOk.t (isBoxE fun _ => isBoxS (by repeat' constructor) (k := 1) (by repeat (first | exact Cut.d | apply Cut.t | apply Cut.s))) TOk.d) ?_
   refine ea ?_; rintro ⟨⟨A1, c1⟩, h1⟩
   refine amono (fun a w h => Go.Sx.freeze (i := 0) rfl h) ?_
   refine df 3 (by kernel_rfl) ?_
   refine doR rfl (o_app (is := [2]) Tryz.underlying29 inf39 rfl (by decide) (by decide) rfl rfl (by omega) (fun h _ => h1 h) rfl (by repeat' (first | constructor | apply Sub.suf)) rfl) (TOk.x (by kernel_rfl) TOk.d) ?_
   refine ea ?_; rintro ⟨A3, c3⟩
   refine df 4 (by kernel_rfl) ?_
   refine doR rfl (o_st rfl Tryz.sizeOf29 rfl rfl rfl rfl rfl (by repeat' constructor) (by repeat' constructor) (by repeat' constructor)) (TOk.x (by kernel_rfl) TOk.d) ?_
   refine dn (by kernel_rfl) ?_
   refine nblock ?_
   rw [← outP_step hk]
   exact nround (A3, c3) (is := [1, 1, 0]) (by rw [List.length_append]; rfl) (by repeat' (first | constructor | apply Sub.suf))
  ·
   rintro D xs hC ⟨A2, c2⟩
   rw [outP_all hC]
   refine nblock ?_
   refine nthen ?_
   refine cs ?_
   refine cmono (fun a w h => Go.Sx.freeze (i := 1) rfl h) ?_
   refine cr ?_
   refine ls (o_ld Tryz.isAgg29 rfl (by repeat' constructor) (by repeat' constructor) rfl) ?_
   refine ls (op (p_asg rfl) rfl) ?_
   refine ls (op (p_asg rfl) rfl) ?_
   refine ln ?_
   refine nthen ?_
   refine cret ?_
   refine xret (fun _ _ h => h) ?_
   refine rretm (Dfr.c (i := 4) rfl Dfr.d) (is := [3]) ⟨(((rows.drop q).flatten, 0), (A2, c2)), (sinceT_yes hk0).symm⟩ (Or.inl rfl) (Res.t rfl (Res.t rfl Res.d)) (rfl) rfl (by repeat' (first | constructor | apply Sub.suf))
  ·
   intro D y
   exact y.elim

set_option maxRecDepth 100000 in
theorem c_pRebase (b : Nat)(V : Nat) (rows : List (List Prim)) (r : Ring) (hI : RI V rows r) (hV : V + rows.length ≤ 4611686018427387904)(hR : ∀ l ∈ rows, l.length ≤ 2000000 ∧ ∀ x ∈ l, x.fit) (z : Int) (m : List Prim) (A : Option Addr) (c : Nat) (hm : m.length ≤ 2000000) (hfm : ∀ x ∈ m, x.fit) : Con Tryz.prog 44 [.pointer (some ⟨b, 0, none⟩), .slice A m.length c, .int .i64 z] [box b 194 r.cells] [ringA r.rg, slA A m] {x : (List Prim × Int) × (Option Addr × Nat) // x.1 = prebT V rows z m} (fun x => .tuple #[.slice x.1.2.1 x.1.1.1.length x.1.2.2, .int .i64 x.1.1.2]) (fun _ => [box b 194 r.cells]) (fun x => [slA x.1.2.1 x.1.1.1]) := by
 refine con Tryz.func44 rfl Tryz.ntmps44 rfl ?_
 intro M0 F0 w0
 refine cs ?_
 refine cr ?_
 refine ls (o_box rfl rfl rfl) ?_
 refine le ?_; intro b4
 refine ls (o_alloc Tryz.zeroValue29 rfl rfl) ?_
 refine le ?_; intro b6
 refine ls (o_alloc Tryz.zeroValue50 rfl rfl) ?_
 refine le ?_; intro b7
 refine ln ?_
 refine nthen ?_
 refine cs ?_
 refine cs ?_
 refine cr ?_
 refine ls (op (p_move rfl) rfl) ?_
 refine ls (op (p_move rfl) rfl) ?_
 refine ls (o_call (is := [3]) Tryz.call94 (c_pKnown b V rows r hI hV z) rfl rfl (by repeat' (first | constructor | apply Sub.suf)) rfl) ?_
 refine le ?_; intro x14
 refine ls (op (p_not rfl) rfl) ?_
 refine ln ?_
 refine nthen ?_
 refine cc rfl ?_ ?_
 ·
  intro h15
  have hk0 : known V rows.length z = false := by simpa using h15
  refine cs ?_
  refine cmono (fun a w h => nilC (α := Prim) h) ?_
  refine cr ?_
  refine ls (o_st rfl Tryz.sizeOf29 rfl rfl rfl rfl rfl (by repeat' constructor) (by repeat' constructor) (by repeat' constructor)) ?_
  refine ls (o_st rfl Tryz.sizeOf50 rfl rfl rfl rfl rfl (by repeat' constructor) (by repeat' constructor) (by repeat' constructor)) ?_
  refine ln ?_
  refine nthen ?_
  refine cret ?_
  refine xret (fun _ _ h => h) ?_
  refine rret (is := [0]) ⟨(([], 150), (none, 0)), (prebT_no hk0).symm⟩ (Or.inl rfl) (Res.c1 rfl Tryz.isAgg29 (by repeat' constructor) (Res.c1 rfl Tryz.isAgg50 (by repeat' constructor) Res.d)) (rfl) rfl (by repeat' (first | constructor | apply Sub.suf))
 ·
  intro h15
  have hk0 : known V rows.length z = true := by simpa using h15
  obtain ⟨q, rfl, hq, hq2⟩ := known_yes hk0
  refine cskip ?_
  refine nthen ?_
  refine cs ?_
  refine cr ?_
  refine ls (o_ld Tryz.isAgg29 rfl (by repeat' constructor) (by repeat' constructor) rfl) ?_
  refine ls (o_call (is := []) Tryz.call95 (c_copied m A c hm hfm) rfl rfl (by repeat' (first | constructor | apply Sub.suf)) rfl) ?_
  refine le ?_; rintro ⟨⟨A1, c1⟩, h1⟩
  refine lmono (fun a w h => Go.Sx.freeze (i := 0) rfl h) ?_
  refine ls (o_st rfl Tryz.sizeOf29 rfl rfl rfl rfl rfl (by repeat' constructor) (by repeat' constructor) (by repeat' constructor)) ?_
  refine ln ?_
  refine nthen ?_
  refine cs ?_
  refine cs ?_
  refine cr ?_
  refine ls (op (p_move rfl) rfl) ?_
  refine ls (op (p_move rfl) rfl) ?_
  refine ls (o_call (is := []) Tryz.call96 (c_pBehind b ((V + q : Nat) : Int)) rfl rfl (by repeat' (first | constructor | apply Sub.suf)) rfl) ?_
  refine le ?_; rintro ⟨bv, bp⟩
  refine ln ?_
  refine nthen ?_
  refine cb ?_
  refine crng (ι := fun pre => {y : List Prim × (Option Addr × Nat) // RbI rows q pre.length m y.1}) rfl Tryz.call137 (c_pBehind1 V rows r hI hV q hq hq2 b bv bp) (fun _ => rfl) rfl (fun pre i => [box b4 29 [.slice i.1.2.1 i.1.1.length i.1.2.2], box b6 29 [.slice none 0 0], box b7 50 [.int .i64 0]]) (fun pre i => [slA i.1.2.1 i.1.1]) (⟨(m, (A1, c1)), RbI.start hfm⟩) (Y := {u : Unit // reb (rows.drop q).flatten m = none}) (fun _ => [box b6 29 [.slice none 0 0], box b7 50 [.int .i64 151]]) (fun _ => []) (is := [5, 4, 3, 0, 0, 0]) rfl (by repeat' (first | constructor | apply Sub.suf)) (by repeat' (first | constructor | apply Sub.suf)) ?_ ?_ ?_
  ·
   rintro M0 F0 w0 lp κ pre ⟨⟨k, ⟨Ak, ck⟩⟩, hk⟩ hx ⟨⟨f, ⟨A2, c2⟩⟩, hB⟩
   dsimp only at hk hx hB ⊢
   subst hx
   have hRk := hR _ (List.getElem_mem hk)
   have hfl := hB.len
   refine cmono (S' := St M0 F0 w0 ⟨33, []⟩ [(4, .pointer (some ⟨b4, 0, none⟩)), (6, .pointer (some ⟨b6, 0, none⟩)), (7, .pointer (some ⟨b7, 0, none⟩)), (22, .slice Ak (rows[q + pre.length]).length ck)] [lrec lp κ .ready none, box b4 29 [.slice A2 f.length c2], box b6 29 [.slice none 0 0], box b7 50 [.int .i64 0]] [slA A2 f, slA Ak (rows[q + pre.length])]) (wk0 (by repeat (first | exact subσ.nil _ | refine subσ.cons rfl ?_)) (by repeat' (first | constructor | apply Sub.suf))) ?_
   refine cr ?_
   refine ls (op (p_asg rfl) rfl) ?_
   refine ln ?_
   refine nbegin (i := 0) rfl ?_
   refine cb ?_
   refine cs ?_
   refine cr ?_
   refine ls (o_ld Tryz.isAgg29 rfl (by repeat' constructor) (by repeat' constructor) rfl) ?_
   refine ls (op (p_move rfl) rfl) ?_
   refine ls (o_call (is := []) Tryz.call97 (c_seqRebase (rows[q + pre.length]) f Ak A2 ck c2 hRk.1 (by omega) hRk.2 hB.fit) rfl rfl (by repeat' (first | constructor | apply Sub.suf)) rfl) ?_
   refine le ?_; rintro ⟨⟨⟨g, b2⟩, ⟨A3, c3⟩⟩, hr⟩
   refine ls (op (p_move rfl) rfl) ?_
   refine ls (op (p_ext rfl (by repeat' constructor)) rfl) ?_
   refine ls (op (p_ext rfl (by repeat' constructor)) rfl) ?_
   refine ls (op (p_asg rfl) rfl) ?_
   refine ls (op (p_asg rfl) rfl) ?_
   refine ln ?_
   refine nthen ?_
   refine cs ?_
   refine cs ?_
   refine cr ?_
   refine ls (op (p_move rfl) rfl) ?_
   refine ls (op (p_not rfl) rfl) ?_
   refine ln ?_
   refine nthen ?_
   refine cc rfl ?_ ?_
   ·
    intro h30
    obtain rfl : false = b2 := by cases b2 <;> first | rfl | (simp at h30)
    refine cs ?_
    refine cr ?_
    refine ls (o_st rfl Tryz.sizeOf29 rfl rfl rfl rfl rfl (by repeat' constructor) (by repeat' constructor) (by repeat' constructor)) ?_
    refine ls (o_st rfl Tryz.sizeOf50 rfl rfl rfl rfl rfl (by repeat' constructor) (by repeat' constructor) (by repeat' constructor)) ?_
    refine ln ?_
    refine nthen ?_
    refine cret ?_
    refine xretR (fun _ _ h => h) ?_
    exact nrret ⟨(), hB.stop hk hr⟩ (is := [0, 1, 1]) rfl (by repeat' (first | constructor | apply Sub.suf))
   ·
    intro h30
    obtain rfl : true = b2 := by cases b2 <;> first | rfl | (simp at h30)
    refine cskip ?_
    refine nthen ?_
    refine cr ?_
    refine ls (op (p_move rfl) rfl) ?_
    refine ls (o_st rfl Tryz.sizeOf29 rfl rfl rfl rfl rfl (by repeat' constructor) (by repeat' constructor) (by repeat' constructor)) ?_
    refine ln ?_
    refine nblock ?_
    exact nround ⟨(g, (A3, c3)), by rw [List.length_append]; exact hB.step hk hRk.2 hr⟩ (is := [0, 0, 0, 0]) rfl (by repeat' (first | constructor | apply Sub.suf))
  ·
   rintro D xs hC ⟨⟨f, ⟨A2, c2⟩⟩, hB⟩
   have hd := hB.done hC
   refine nblock ?_
   refine nthen ?_
   refine cs ?_
   refine cr ?_
   refine ls (o_ld Tryz.isAgg29 rfl (by repeat' constructor) (by repeat' constructor) rfl) ?_
   refine ls (o_st rfl Tryz.sizeOf29 rfl rfl rfl rfl rfl (by repeat' constructor) (by repeat' constructor) (by repeat' constructor)) ?_
   refine ls (o_st rfl Tryz.sizeOf50 rfl rfl rfl rfl rfl (by repeat' constructor) (by repeat' constructor) (by repeat' constructor)) ?_
   refine ln ?_
   refine nthen ?_
   refine cret ?_
   refine xret (fun _ _ h => h) ?_
   refine rretm (Dfr.c (i := 6) rfl Dfr.d) (is := [5]) ⟨((f, 0), (A2, c2)), by rw [prebT_yes hk0, hd]⟩ (Or.inl rfl) (Res.c1 rfl Tryz.isAgg29 (by repeat' constructor) (Res.c1 rfl Tryz.isAgg50 (by repeat' constructor) Res.d)) (rfl) rfl (by repeat' (first | constructor | apply Sub.suf))
  ·
   rintro D ⟨_, hst⟩
   refine nmono (fun a w h => nilSl (α := Prim) h) ?_
   refine xret (fun _ _ h => h) ?_
   refine rretm (Dfr.c (i := 5) rfl Dfr.d) (is := [4]) ⟨(([], 151), (none, 0)), by rw [prebT_yes hk0, hst]⟩ (Or.inl rfl) (Res.c1 rfl Tryz.isAgg29 (by repeat' constructor) (Res.c1 rfl Tryz.isAgg50 (by repeat' constructor) Res.d)) (rfl) rfl (by repeat' (first | constructor | apply Sub.suf))

end Go.Proofs.YtdbiillompeclaaGreatDoor.X

end
section
set_option linter.unusedVariables false
set_option linter.unusedSimpArgs false
namespace Go.Proofs.YtdbiillompeclaaGreatDoor.X
open Go Go.RowKit Go.Proofs Go.Sx
attribute [local irreducible] slA isA box row

theorem fa76_1 : FA Tryz.prog 76 1 1 := fun b o w => by kernel_rfl
theorem inf23 : (Tryz.prog.info? 23).map (fun i => (i.zero, i.size, i.bytes)) = some (some (.slice none 0 0), 1, 24) := by kernel_rfl
theorem sb76 : SB Tryz.prog 76 [(0, 1), (1, 1)] [.int .i64 0, .slice none 0 0] := SB.struct Tryz.zeroValue76 rfl Tryz.underlying76 (fun w => by kernel_rfl)
set_option maxRecDepth 100000 in
theorem c_rNew15 (v : Int) (V : Nat) (hV : max v 0 = (V : Int)) : Con Tryz.prog 92 [.int .i64 v] [] [] Unit (fun _ => .agg #[.int .i64 (V : Int), .slice none 0 0]) (fun _ => []) (fun _ => []) := by
 refine con Tryz.func92 rfl Tryz.ntmps92 rfl ?_
 intro M0 F0 w0
 refine cs ?_
 refine cr ?_
 refine ls (o_alloc Tryz.zeroValue76 rfl rfl) ?_
 refine le ?_; intro b2
 refine ln ?_
 refine nthen ?_
 refine cs ?_
 refine cs ?_
 refine cr ?_
 refine ls (op (p_move rfl) rfl) ?_
 refine ls (op (p_icmp rfl rfl rfl) rfl) ?_
 refine ln ?_
 refine nthen ?_
 refine cc rfl ?_ ?_
 ·
  intro h4
  try simp only [decide_eq_true_eq, decide_eq_false_iff_not, Bool.not_eq_true', Bool.not_eq_false', Int.not_lt, Int.not_le, ge_iff_le, Bool.not_true, Bool.not_false] at h4
  obtain rfl : V = 0 := by omega
  refine cr ?_
  refine ls (op (p_asg rfl) rfl) ?_
  refine ln ?_
  refine nthen ?_
  refine cs ?_
  refine cr ?_
  refine ls (op (p_move rfl) rfl) ?_
  refine ls (op (p_bld sb76 rfl (Fill.t (by repeat' constructor) rfl rfl (by repeat' constructor) Fill.d)) rfl) ?_
  refine ls (o_st rfl Tryz.sizeOf76 rfl rfl rfl rfl rfl (by repeat' constructor) (by repeat' constructor) (by repeat' constructor)) ?_
  refine ln ?_
  refine nthen ?_
  refine cret ?_
  refine xret (fun _ _ h => h) ?_
  refine rret (is := []) () (Or.inl rfl) (Res.c rfl Tryz.isAgg76 Tryz.sizeOf76 (by repeat' constructor) (by rfl) Res.d) (rfl) rfl (by repeat' (first | constructor | apply Sub.suf))
 ·
  intro h4
  try simp only [decide_eq_true_eq, decide_eq_false_iff_not, Bool.not_eq_true', Bool.not_eq_false', Int.not_lt, Int.not_le, ge_iff_le, Bool.not_true, Bool.not_false] at h4
  obtain rfl : v = (V : Int) := by omega
  refine cskip ?_
  refine nthen ?_
  refine cs ?_
  refine cr ?_
  refine ls (op (p_move rfl) rfl) ?_
  refine ls (op (p_bld sb76 rfl (Fill.t (by repeat' constructor) rfl rfl (by repeat' constructor) Fill.d)) rfl) ?_
  refine ls (o_st rfl Tryz.sizeOf76 rfl rfl rfl rfl rfl (by repeat' constructor) (by repeat' constructor) (by repeat' constructor)) ?_
  refine ln ?_
  refine nthen ?_
  refine cret ?_
  refine xret (fun _ _ h => h) ?_
  refine rret (is := []) () (Or.inl rfl) (Res.c rfl Tryz.isAgg76 Tryz.sizeOf76 (by repeat' constructor) (by rfl) Res.d) (rfl) rfl (by repeat' (first | constructor | apply Sub.suf))

set_option maxRecDepth 100000 in
theorem c_rAdd15 (V : Nat) (rows : List (List Prim)) (A : Option Addr) (c : Nat) (hV : V + rows.length ≤ 4611686018427387904) (hn : rows.length ≤ 1000000) (hA0 : rows = [] → A = none → c = 0) (l : List Prim) (B : Option Addr) (c' : Nat) (hB0 : B = none → c' = 0) (rs : List (List Prim)) (hrs : rs = rows ++ [l]) : Con Tryz.prog 93 [.agg #[.int .i64 (V : Int), .slice A rows.length c], .slice B l.length c'] [] [slA A rows, slA B l] {y : Option Addr × Nat // rs.length ≤ y.2} (fun y => .agg #[.int .i64 (V : Int), .slice y.1.1 rs.length y.1.2]) (fun _ => []) (fun y => [slA y.1.1 rs]) := by
 subst hrs
 refine con Tryz.func93 rfl Tryz.ntmps93 rfl ?_
 intro M0 F0 w0
 refine cs ?_
 refine cr ?_
 refine ls (o_box rfl rfl rfl) ?_
 refine le ?_; intro b2
 refine ls (o_alloc Tryz.zeroValue76 rfl rfl) ?_
 refine le ?_; intro b4
 refine ln ?_
 refine nthen ?_
 refine cs ?_
 refine cmono (fun a w h => nilQ (y := (B, c')) hB0 h) ?_
 refine cr ?_
 refine ls (o_bsl ([] : List (List Prim)) Tryz.underlying70 Tryz.sizeOf23 Tryz.zeroValue23 rfl Enum.d RV.d rfl (by decide) (by decide) rfl) ?_
 refine le ?_; intro b5
 refine ls (op (p_fa fa76_1 rfl) rfl) ?_
 refine ls (o_ld Tryz.isAgg70 rfl (by repeat' constructor) (by repeat' constructor) rfl) ?_
 refine ls (o_app (is := [0]) Tryz.underlying70 inf23 rfl (by decide) (by decide) rfl rfl (by simp only [List.length_nil]; omega) (fun h hB => hA0 h hB) rfl (by repeat' (first | constructor | apply Sub.suf)) rfl) ?_
 refine le ?_; rintro ⟨A8, c8⟩
 refine ls (op (p_move rfl) rfl) ?_
 refine ls (o_bsl [l] Tryz.underlying70 Tryz.sizeOf23 Tryz.zeroValue23 rfl (Enum.t Enum.d) (RV.t (B, c') rfl (by repeat' (first | constructor | apply Sub.suf)) RV.d) rfl (by decide) (by decide) rfl) ?_
 refine le ?_; intro b10
 refine lmono (fun a w h => Go.Sx.freeze (i := 0) rfl h) ?_
 refine ls (o_app (is := [0]) Tryz.underlying70 inf23 rfl (by decide) (by decide) rfl rfl (by simp only [List.length_append, List.length_nil, List.length_cons]; omega) (fun h => by cases h) rfl (by repeat' (first | constructor | apply Sub.suf)) rfl) ?_
 refine le ?_; rintro ⟨A9, c9⟩
 refine ls (op (p_fa fa76_1 rfl) rfl) ?_
 refine ls (o_st rfl Tryz.sizeOf70 rfl rfl rfl rfl rfl (by repeat' constructor) (by repeat' constructor) (by repeat' constructor)) ?_
 refine ln ?_
 refine nthen ?_
 refine cs ?_
 refine rowLeC (by repeat' constructor) (fun hle => ?_)
 refine cmono (fun a w h => Go.Sx.freeze (i := 0) rfl h) ?_
 refine cr ?_
 refine ls (o_ldw Tryz.isAgg76 Tryz.sizeOf76 rfl (by repeat' constructor) (by rfl) rfl) ?_
 refine ls (o_st rfl Tryz.sizeOf76 rfl rfl rfl rfl rfl (by repeat' constructor) (by repeat' constructor) (by repeat' constructor)) ?_
 refine ln ?_
 refine nthen ?_
 refine cret ?_
 refine xret (fun _ _ h => h) ?_
 refine rret (is := []) ⟨(A9, c9), hle⟩ (Or.inl rfl) (Res.c rfl Tryz.isAgg76 Tryz.sizeOf76 (by repeat' constructor) (by rfl) Res.d) (rfl) rfl (by repeat' (first | constructor | apply Sub.suf))

set_option maxRecDepth 100000 in
theorem c_few15 (rows : List (List Prim)) (A : Option Addr) (c : Nat) (l : List Prim) (B : Option Addr) (c' : Nat) (hn : rows.length ≤ 2000000) (hl : l.length ≤ 2000000) (hR : ∀ l ∈ rows, l.length ≤ 2000000) (hM : many l + (rows.map many).sum ≤ 1000000000000) (hM2 : l.length + (rows.map List.length).sum ≤ 1000000000000) : Con Tryz.prog 40 [.slice A rows.length c, .slice B l.length c'] [] [slA A rows, slA B l] Unit (fun _ => .bool (fewT rows l)) (fun _ => []) (fun _ => []) := by
 refine con Tryz.func40 rfl Tryz.ntmps40 rfl ?_
 intro M0 F0 w0
 refine cs ?_
 refine cr ?_
 refine ls (op (p_asg rfl) rfl) ?_
 refine ln ?_
 refine nthen ?_
 refine cs ?_
 refine cr ?_
 refine ls (op (p_move rfl) rfl) ?_
 refine ls (o_call (is := []) Tryz.call45 (c_Many l B c' hl (by omega)) rfl rfl (by repeat' (first | constructor | apply Sub.suf)) rfl) ?_
 refine le ?_; intro x10
 refine ls (op (p_move rfl) rfl) ?_
 refine ls (op (p_lenl rfl Tryz.underlying23) rfl) ?_
 refine ls (op (p_asg rfl) rfl) ?_
 refine ls (op (p_asg rfl) rfl) ?_
 refine ln ?_
 refine nthen ?_
 refine cs ?_
 refine cs ?_
 refine cr ?_
 refine ls (op (p_move rfl) rfl) ?_
 refine ls (op (p_lenl rfl Tryz.underlying70) rfl) ?_
 refine ls (op (p_move rfl) rfl) ?_
 refine ln ?_
 refine nthen ?_
 refine cb ?_
 refine cl (ι := {q : Nat × Int × Int // q.1 ≤ rows.length ∧ q.2.1 = ((many l + ((rows.take q.1).map many).sum : Nat) : Int) ∧ q.2.2 = ((l.length + ((rows.take q.1).map List.length).sum : Nat) : Int)}) (fun i => St M0 F0 w0 39 [(0, .slice A rows.length c), (13, .slice A rows.length c), (14, .int .i64 (rows.length : Int)), (15, .int .i64 (i.1.1 : Int)), (5, .int .i64 i.1.2.1), (6, .int .i64 i.1.2.2)] [] [slA A rows]) (fun i => rows.length - i.1.1) ⟨(0, (many l : Int), (l.length : Int)), by simp⟩ (wk0 (by repeat (first | exact subσ.nil _ | refine subσ.cons rfl ?_)) (by repeat' (first | constructor | apply Sub.suf))) ?_
 rintro ⟨⟨k, n, u⟩, hk, hnn, huu⟩
 refine cmono (S' := St M0 F0 w0 39 [(0, .slice A rows.length c), (13, .slice A rows.length c), (14, .int .i64 (rows.length : Int)), (15, .int .i64 (k : Int)), (5, .int .i64 n), (6, .int .i64 u)] [] [slA A rows]) (fun _ _ h => h) ?_
 refine cs ?_
 refine cr ?_
 refine ls (op (p_icmp rfl rfl rfl) rfl) ?_
 refine ln ?_
 refine nthen ?_
 refine cs ?_
 refine cc rfl ?_ ?_
 ·
  intro h16
  dsimp only at hk hnn huu
  try simp only [decide_eq_true_eq, decide_eq_false_iff_not, Bool.not_eq_true', Bool.not_eq_false', Int.not_lt, Int.not_le, ge_iff_le, Bool.not_true, Bool.not_false] at h16
  have hk1 : k < rows.length := by omega
  have e1 := sum_take_succ (f := many) hk1; have e2 := sum_take_succ (f := List.length) hk1
  have e3 := sum_take_le many rows (k + 1); have e4 := sum_take_le List.length rows (k + 1)
  refine cskip ?_
  refine nthen ?_
  refine cs ?_
  refine cb ?_
  refine cs ?_
  refine elC (by repeat' constructor) k (List.getElem?_eq_getElem (l := rows) hk1) ?_; rintro zbp zop zyp hAp
  refine cr ?_
  refine ls (op (p_ia k hAp hk1 rfl Tryz.underlying70 Tryz.sizeOf23 rfl rfl) rfl) ?_
  refine ls (o_ldi Tryz.isAgg23 rfl (by repeat' constructor) 0 rfl (by repeat (first | exact Cut.d | apply Cut.t | apply Cut.s)) rfl) ?_
  refine ls (op (p_asg rfl) rfl) ?_
  refine ln ?_
  refine nthen ?_
  refine cr ?_
  refine ls (op (p_move rfl) rfl) ?_
  refine ls (op (p_move rfl) rfl) ?_
  refine ls (o_call (is := []) Tryz.call45 (c_Many rows[k] zyp.1 zyp.2 (hR _ (List.getElem_mem hk1)) (by omega)) rfl rfl (by repeat' (first | constructor | apply Sub.suf)) rfl) ?_
  refine le ?_; intro x21
  refine ls (op (p_add rfl rfl (by omega)) rfl) ?_
  refine ls (op (p_move rfl) rfl) ?_
  refine ls (op (p_move rfl) rfl) ?_
  refine ls (op (p_lenl rfl Tryz.underlying23) rfl) ?_
  refine ls (op (p_add rfl rfl (by omega)) rfl) ?_
  refine ls (op (p_asg rfl) rfl) ?_
  refine ls (op (p_asg rfl) rfl) ?_
  refine ln ?_
  refine nblock ?_
  refine nthen ?_
  refine cr ?_
  refine ls (op (p_add rfl rfl (by omega)) rfl) ?_
  refine ls (op (p_move rfl) rfl) ?_
  refine ln ?_
  refine nnext ⟨(k + 1, n + (many rows[k] : Int), u + (rows[k].length : Int)), hk1, by dsimp only; omega, by dsimp only; omega⟩ (by dsimp only; omega) (wk (is := []) (by repeat (first | exact subσ.nil _ | refine subσ.cons rfl ?_)) rfl (by repeat' (first | constructor | apply Sub.suf)))
 ·
  intro h16
  dsimp only at hk hnn huu
  try simp only [decide_eq_true_eq, decide_eq_false_iff_not, Bool.not_eq_true', Bool.not_eq_false', Int.not_lt, Int.not_le, ge_iff_le, Bool.not_true, Bool.not_false] at h16
  rw [List.take_of_length_le (by omega)] at hnn huu
  refine cexit ?_
  refine xthen ?_
  refine xthen ?_
  refine xblock ?_
  refine nthen ?_
  refine cs ?_
  refine cr ?_
  refine ls (op (p_move rfl) rfl) ?_
  refine ls (op (p_icmp rfl rfl rfl) rfl) ?_
  refine ls (op (p_move rfl) rfl) ?_
  refine andX 3 30 33 rfl (subσ.cons (t := 0) rfl (subσ.cons (t := 13) rfl (subσ.cons (t := 14) rfl (subσ.cons (t := 15) rfl (subσ.cons (t := 5) rfl (subσ.cons (t := 6) rfl (subσ.cons (t := 16) rfl (subσ.nil _)))))))) ?_ ?_
  ·
   intro h30
   refine lskip rfl rfl rfl rfl rfl ?_
   refine lskip rfl rfl rfl rfl rfl ?_
   refine ls (op (p_pickf rfl rfl) rfl) ?_
   refine ln (nmid (wk0 (by repeat (first | exact subσ.nil _ | refine subσ.cons rfl ?_)) (by repeat' (first | constructor | apply Sub.suf))))
  apply exI
  ·
   intro h30
   refine lwant rfl rfl rfl rfl (op (p_move rfl) rfl) ?_
   refine lwant rfl rfl rfl rfl (op (p_icmp rfl rfl rfl) rfl) ?_
   refine ls (op (p_pickt rfl rfl) rfl) ?_
   refine ln (nmid (wk0 (by repeat (first | exact subσ.nil _ | refine subσ.cons rfl ?_)) (by repeat' (first | constructor | apply Sub.suf))))
  ·
   refine ls (op (p_move rfl) rfl) ?_
   refine andX 4 34 38 rfl (subσ.cons (t := 0) rfl (subσ.cons (t := 13) rfl (subσ.cons (t := 14) rfl (subσ.cons (t := 15) rfl (subσ.cons (t := 5) rfl (subσ.cons (t := 6) rfl (subσ.cons (t := 16) rfl (subσ.nil _)))))))) ?_ ?_
   ·
    intro h34
    refine lskip rfl rfl rfl rfl rfl ?_
    refine lskip rfl rfl rfl rfl rfl ?_
    refine lskip rfl rfl rfl rfl rfl ?_
    refine ls (op (p_pickf rfl rfl) rfl) ?_
    refine ln (nmid (wk0 (by repeat (first | exact subσ.nil _ | refine subσ.cons rfl ?_)) (by repeat' (first | constructor | apply Sub.suf))))
   apply exI
   ·
    intro h34
    refine lwant rfl rfl rfl rfl (op (p_move rfl) rfl) ?_
    refine lwant rfl rfl rfl rfl (op (p_lenl rfl Tryz.underlying70) rfl) ?_
    refine lwant rfl rfl rfl rfl (op (p_icmp rfl rfl rfl) rfl) ?_
    refine ls (op (p_pickt rfl rfl) rfl) ?_
    refine ln (nmid (wk0 (by repeat (first | exact subσ.nil _ | refine subσ.cons rfl ?_)) (by repeat' (first | constructor | apply Sub.suf))))
   ·
    refine ls (op (p_asg rfl) rfl) ?_
    refine ln ?_
    refine nthen ?_
    refine cret ?_
    refine xret (fun _ _ h => h) ?_
    refine rret (is := []) () (Or.inl rfl) (Res.t rfl Res.d) ?_ rfl (by repeat' (first | constructor | apply Sub.suf))
    rw [hnn, huu]; rfl

set_option maxRecDepth 100000 in
theorem c_made15 (v : Int) (V : Nat) (hV : max v 0 = (V : Int)) (rows : List (List Prim)) (A : Option Addr) (c : Nat) (hn : rows.length ≤ 1000000) (hVn : V + rows.length ≤ 4611686018427387904)(hR : ∀ l ∈ rows, l.length ≤ 2000000 ∧ ∀ x ∈ l, x.fit) : Con Tryz.prog 42 [.int .i64 v, .slice A rows.length c] [] [slA A rows] {y : Nat × Ring × (Option Addr × Nat) // RI V rows y.2.1 ∧ rows.length ≤ y.2.2.2 ∧ (rows = [] → y.2.2.1 = none → y.2.2.2 = 0)} (fun y => .tuple #[.pointer (some ⟨y.1.1, 0, none⟩), .agg #[.int .i64 (V : Int), .slice y.1.2.2.1 rows.length y.1.2.2.2]]) (fun y => [box y.1.1 194 y.1.2.1.cells]) (fun y => [ringA y.1.2.1.rg, slA y.1.2.2.1 rows]) := by
 refine con Tryz.func42 rfl Tryz.ntmps42 rfl ?_
 intro M0 F0 w0
 refine cs ?_
 refine cr ?_
 refine ls (op (p_asg rfl) rfl) ?_
 refine ls (o_alloc Tryz.zeroValue76 rfl rfl) ?_
 refine le ?_; intro b5
 refine ln ?_
 refine nthen ?_
 refine cs ?_
 refine cr ?_
 refine ls (op (p_move rfl) rfl) ?_
 refine ls (o_call (is := []) Tryz.call85 (c_pNew v V hV) rfl rfl (by repeat' (first | constructor | apply Sub.suf)) rfl) ?_
 refine le ?_; intro b11
 refine ls (op (p_move rfl) rfl) ?_
 refine ls (o_call (is := []) Tryz.call92 (c_rNew15 v V hV) rfl rfl (by repeat' (first | constructor | apply Sub.suf)) rfl) ?_
 refine le ?_; intro x13
 refine ls (o_alloc Tryz.zeroValue76 rfl rfl) ?_
 refine le ?_; intro b7
 refine ls (op (p_asg rfl) rfl) ?_
 refine ls (o_st rfl Tryz.sizeOf76 rfl rfl rfl rfl rfl (by repeat' constructor) (by repeat' constructor) (by repeat' constructor)) ?_
 refine ln ?_
 refine nthen ?_
 refine cs ?_
 refine cs ?_
 refine cmono (fun a w h => nilSl (α := List Prim) h) ?_
 refine cr ?_
 refine ls (op (p_move rfl) rfl) ?_
 refine ls (op (p_lenl rfl Tryz.underlying70) rfl) ?_
 refine ls (op (p_move rfl) rfl) ?_
 refine ln ?_
 refine nthen ?_
 refine cb ?_
 refine cl (ι := {q : Nat × Ring × (Option Addr × Nat) // q.1 ≤ rows.length ∧ RI V (rows.take q.1) q.2.1 ∧ (rows.take q.1).length ≤ q.2.2.2 ∧ (rows.take q.1 = [] → q.2.2.1 = none → q.2.2.2 = 0)}) (fun i => St M0 F0 w0 33 [(5, .pointer (some ⟨b5, 0, none⟩)), (6, .pointer (some ⟨b11, 0, none⟩)), (7, .pointer (some ⟨b7, 0, none⟩)), (14, .slice A rows.length c), (15, .int .i64 (rows.length : Int)), (16, .int .i64 (i.1.1 : Int))] [box b5 76 [.int .i64 0, .slice none 0 0], box b7 76 [.int .i64 (V : Int), .slice i.1.2.2.1 (rows.take i.1.1).length i.1.2.2.2], box b11 194 (i.1.2.1).cells] [ringA (i.1.2.1).rg, slA i.1.2.2.1 (rows.take i.1.1), slA A rows]) (fun i => rows.length - i.1.1) ⟨(0, Ring.zero V, (none, 0)), Nat.zero_le _, RI.zero V, Nat.le_refl _, fun _ _ => rfl⟩ (wk (is := [2, 0, 0]) (by repeat (first | exact subσ.nil _ | refine subσ.cons rfl ?_)) rfl (by repeat' (first | constructor | apply Sub.suf))) ?_
 rintro ⟨⟨k, r, ⟨A2, c2⟩⟩, hk, hI, hc2, h02⟩
 refine cmono (S' := St M0 F0 w0 33 [(5, .pointer (some ⟨b5, 0, none⟩)), (6, .pointer (some ⟨b11, 0, none⟩)), (7, .pointer (some ⟨b7, 0, none⟩)), (14, .slice A rows.length c), (15, .int .i64 (rows.length : Int)), (16, .int .i64 (k : Int))] [box b5 76 [.int .i64 0, .slice none 0 0], box b7 76 [.int .i64 (V : Int), .slice A2 (rows.take k).length c2], box b11 194 (r).cells] [ringA (r).rg, slA A2 (rows.take k), slA A rows]) (fun _ _ h => h) ?_
 refine cs ?_
 refine cr ?_
 refine ls (op (p_icmp rfl rfl rfl) rfl) ?_
 refine ln ?_
 refine nthen ?_
 refine cs ?_
 refine cc rfl ?_ ?_
 ·
  intro h17
  dsimp only at hk hI hc2 h02
  try simp only [decide_eq_true_eq, decide_eq_false_iff_not, Bool.not_eq_true', Bool.not_eq_false', Int.not_lt, Int.not_le, ge_iff_le, Bool.not_true, Bool.not_false] at h17
  have hk1 : k < rows.length := by omega
  have htk : (rows.take k).length = k := by rw [List.length_take]; omega
  have hRk := hR _ (List.getElem_mem hk1)
  refine cskip ?_
  refine nthen ?_
  refine cs ?_
  refine cb ?_
  refine cs ?_
  refine elC (by repeat' constructor) k (List.getElem?_eq_getElem (l := rows) hk1) ?_; rintro zbp zop zyp hAp
  refine nilP (y := zyp) (by repeat' constructor) (fun hnl => ?_)
  refine cr ?_
  refine ls (op (p_ia k hAp hk1 rfl Tryz.underlying70 Tryz.sizeOf23 rfl rfl) rfl) ?_
  refine ls (o_ldi Tryz.isAgg23 rfl (by repeat' constructor) 0 rfl (by repeat (first | exact Cut.d | apply Cut.t | apply Cut.s)) rfl) ?_
  refine ls (op (p_asg rfl) rfl) ?_
  refine ln ?_
  refine nthen ?_
  refine cs ?_
  refine cs ?_
  refine cr ?_
  refine ls (op (p_move rfl) rfl) ?_
  refine ls (op (p_ptrnil Tryz.underlying74 rfl rfl) rfl) ?_
  refine ln ?_
  refine nthen ?_
  refine cc rfl (fun h => by cases h) (fun h => ?_)
  refine cskip ?_
  refine nthen ?_
  refine cs ?_
  refine cr ?_
  refine ls (op (p_move rfl) rfl) ?_
  refine ls (op (p_move rfl) rfl) ?_
  refine ls (o_call (is := []) Tryz.call43 (c_lNew rows[k] zyp.1 zyp.2 hRk.1) rfl rfl (by repeat' (first | constructor | apply Sub.suf)) rfl) ?_
  refine le ?_; rintro ⟨A3, c3⟩
  refine ls (o_call (is := [2]) Tryz.call86 (c_pAdd b11 V (rows.take k) r hI (by omega) rows[k] A3 c3 hRk.1 hRk.2) rfl rfl (by repeat' (first | constructor | apply Sub.suf)) rfl) ?_
  refine le ?_; rintro ⟨A4, c4⟩
  refine ln ?_
  refine nthen ?_
  refine cr ?_
  refine ls (o_ldw Tryz.isAgg76 Tryz.sizeOf76 rfl (by repeat' constructor) (by rfl) rfl) ?_
  refine ls (op (p_move rfl) rfl) ?_
  refine ls (o_call (is := []) Tryz.call93 (c_rAdd15 V (rows.take k) A2 c2 (by omega) (by omega) h02 rows[k] zyp.1 zyp.2 hnl (rows.take (k + 1)) (List.take_succ_eq_append_getElem hk1)) rfl rfl (by repeat' (first | constructor | apply Sub.suf)) rfl) ?_
  refine le ?_; rintro ⟨⟨A5, c5⟩, hle⟩
  dsimp only at hle
  have hI2 := hI.add (A := A4) (c := c4) hRk.1 hRk.2
  rw [← List.take_succ_eq_append_getElem hk1] at hI2
  refine ls (o_st rfl Tryz.sizeOf76 rfl rfl rfl rfl rfl (by repeat' constructor) (by repeat' constructor) (by repeat' constructor)) ?_
  refine ln ?_
  refine nblock ?_
  refine nthen ?_
  refine cr ?_
  refine ls (op (p_add rfl rfl (by omega)) rfl) ?_
  refine ls (op (p_move rfl) rfl) ?_
  refine ln ?_
  refine nnext ⟨(k + 1, r.add ((V + (rows.take k).length + 1) % 64) (rows[k], A4, c4), (A5, c5)), hk1, hI2, hle, fun h => by have := congrArg List.length h; rw [List.length_take, List.length_nil] at this; omega⟩ (by dsimp only; omega) (wk (is := [1, 1, 0]) (by repeat (first | exact subσ.nil _ | refine subσ.cons rfl ?_)) rfl (by repeat' (first | constructor | apply Sub.suf)))
 ·
  intro h17
  dsimp only at hk hI hc2 h02
  try simp only [decide_eq_true_eq, decide_eq_false_iff_not, Bool.not_eq_true', Bool.not_eq_false', Int.not_lt, Int.not_le, ge_iff_le, Bool.not_true, Bool.not_false] at h17
  obtain rfl : k = rows.length := by omega
  rw [List.take_length] at hI hc2 h02
  refine cexit ?_
  refine xthen ?_
  refine xthen ?_
  refine xblock ?_
  refine nthen ?_
  refine cs ?_
  rw [List.take_length]
  refine cd [3] [(1, b7, 0, _)] TryzX.mixed (TOk.t (isBoxS (by repeat' constructor) (k := 2) (by repeat (first | exact Cut.d | apply Cut.t | apply Cut.s))) TOk.d) ?_
  refine tk 0 rfl (by kernel_rfl) (fun _ _ _ h => h) gnone (TTany _) (p_move rfl) rfl ?_
  refine tk 1 rfl (by kernel_rfl) (fun _ _ _ h => h) gnone (TTat (List.Mem.head _)) (p_lda Tryz.isAgg76 Tryz.sizeOf76 rfl rfl) rfl ?_
  refine tk 2 rfl (by kernel_rfl) (fun _ _ _ h => h) gnone (TTany _) (p_asg rfl) rfl ?_
  refine df 3 (by kernel_rfl) ?_
  refine doR rfl (o_st rfl Tryz.sizeOf76 rfl rfl rfl rfl rfl (by repeat' constructor) (by repeat' constructor) (by repeat' constructor)) (TOk.x (by kernel_rfl) TOk.d) ?_
  refine dn (by kernel_rfl) ?_
  refine nthen ?_
  refine cret ?_
  refine xret (fun _ _ h => h) ?_
  refine rret (is := [2]) ⟨(b11, r, (A2, c2)), hI, hc2, h02⟩ (Or.inl rfl) (Res.t rfl (Res.c rfl Tryz.isAgg76 Tryz.sizeOf76 (by repeat' constructor) (by rfl) Res.d)) (rfl) rfl (by repeat' (first | constructor | apply Sub.suf))

end Go.Proofs.YtdbiillompeclaaGreatDoor.X

end
section
set_option linter.unusedVariables false
set_option linter.unusedSimpArgs false
namespace Go.Proofs.YtdbiillompeclaaGreatDoor.X
open Go Go.RowKit Go.Proofs Go.Sx
attribute [local irreducible] slA isA box row

theorem fit_of {p : Prim} (h1 : p.old.length ≤ 2000000) (h2 : p.new.length ≤ 2000000) (h3 : p.name.size ≤ 2000000) (h4 : p.to.size ≤ 2000000) (h5 : p.old.all (fun s => decide (s.size ≤ 2000000)) = true) (h6 : p.new.all (fun s => decide (s.size ≤ 2000000)) = true) : p.fit :=
 ⟨h1, h2, h3, h4, (fun s h => by simpa using List.all_eq_true.1 h5 s h), (fun s h => by simpa using List.all_eq_true.1 h6 s h)⟩
def vA : Prim := ⟨0, ⟨#[97]⟩, ⟨#[]⟩, 0, [⟨#[120]⟩], []⟩
def vB : Prim := ⟨0, ⟨#[97]⟩, ⟨#[]⟩, 5, [⟨#[121]⟩], [⟨#[122]⟩]⟩
def vC : Prim := ⟨0, ⟨#[97]⟩, ⟨#[]⟩, 4, [⟨#[121]⟩], [⟨#[122]⟩]⟩
theorem fitvA : vA.fit := fit_of (by decide) (by decide) (by decide) (by decide) (by decide) (by decide)
theorem fitvB : vB.fit := fit_of (by decide) (by decide) (by decide) (by decide) (by decide) (by decide)
theorem fit1A : ∀ x ∈ [vA], x.fit := by intro x h; simp at h; subst h; exact fitvA
theorem fit1B : ∀ x ∈ [vB], x.fit := by intro x h; simp at h; subst h; exact fitvB
theorem al1 : prebT 3 [[vA]] 3 [vB] = ([vC], 0) := by decide +kernel
theorem al2 : prebT 3 [[vA]] 2 [vB] = ([], 150) := by decide +kernel
theorem al3 : sinceT 3 [[vA]] 3 = ([vA], 0) := by decide +kernel
theorem al4 : atP 3 [[vA]] 4 = ([vA], true) := by decide +kernel
theorem hRA : ∀ l ∈ [[vA]], l.length ≤ 2000000 ∧ ∀ x ∈ l, x.fit := by intro l h; simp at h; subst h; exact ⟨by decide, fit1A⟩
theorem two_eq {α β : Type} {a c : α} {b d : β} (h : (a, b) = (c, d)) : a = c ∧ b = d := by simpa using h
theorem sinceT_ok2 {V : Nat} {rows : List (List Prim)} {z e : Int} {l : List Prim} (h : (l, e) = sinceT V rows z) (hR : ∀ l ∈ rows, l.length ≤ 2000000 ∧ ∀ x ∈ l, x.fit) (hF : rows.flatten.length ≤ 2000000) : l.length ≤ 2000000 ∧ ∀ x ∈ l, x.fit := by
 unfold sinceT at h
 split at h <;> cases h
 ·
  exact ⟨Nat.le_trans (flat_len rows _) hF, flat_fit hR _⟩
 ·
  simp
theorem prebT_ok2 {V : Nat} {rows : List (List Prim)} {z e : Int} {l m : List Prim} (h : (l, e) = prebT V rows z m) (hR : ∀ l ∈ rows, l.length ≤ 2000000 ∧ ∀ x ∈ l, x.fit) (hm : m.length ≤ 2000000) (hf : ∀ x ∈ m, x.fit) : l.length ≤ 2000000 ∧ ∀ x ∈ l, x.fit := by
 unfold prebT at h
 split at h
 ·
  split at h <;> cases h
  ·
   rename_i r hr
   obtain ⟨k1, k2⟩ := reb_ok hr (flat_fit hR _) hf
   exact ⟨by omega, k2⟩
  ·
   simp
 ·
  cases h; simp
theorem flat_sum {rows : List (List Prim)} {n : Nat} (h : n + (rows.map List.length).sum ≤ 60) : rows.flatten.length ≤ 2000000 := by
 rw [List.length_flatten]; omega

theorem many_len (l : List Prim) : l.length ≤ many l := by unfold many; omega
theorem lens_le : ∀ (rows : List (List Prim)), (rows.map List.length).sum ≤ (rows.map many).sum
 | [] => Nat.le_refl _
 | l :: rows => by simp only [List.map_cons, List.sum_cons]; have := lens_le rows; have := many_len l; omega


set_option maxRecDepth 100000 in
theorem c_alive15 : Con Tryz.prog 41 [] [] [] Unit (fun _ => .bool true) (fun _ => []) (fun _ => []) := by
 refine con Tryz.func41 rfl Tryz.ntmps41 rfl ?_
 intro M0 F0 w0
 refine cs ?_
 refine cr ?_
 refine ls (op (p_asg rfl) rfl) ?_
 refine ln ?_
 refine nthen ?_
 refine cs ?_
 refine cr ?_
 refine ls (o_call (is := []) Tryz.call85 (c_pNew 3 3 rfl) rfl rfl (by repeat' (first | constructor | apply Sub.suf)) rfl) ?_
 refine le ?_; intro b13
 refine ls (op (p_asg rfl) rfl) ?_
 refine ln ?_
 refine nthen ?_
 refine cs ?_
 refine cs ?_
 refine cr ?_
 refine ls (op (p_move rfl) rfl) ?_
 refine ls (op (p_ptrnil Tryz.underlying74 rfl rfl) rfl) ?_
 refine ln ?_
 refine nthen ?_
 refine cc rfl (fun h => by cases h) (fun h => ?_)
 refine cskip ?_
 refine nthen ?_
 refine cs ?_
 refine cmono (fun a w h => nilSl (α := ByteArray) h) ?_
 refine cr ?_
 refine ls (op (p_move rfl) rfl) ?_
 refine ls (o_bsl ([⟨#[120]⟩] : List ByteArray) Tryz.underlying37 Tryz.sizeOf9 Tryz.zeroValue9 rfl (Enum.t Enum.d) (RV.t () rfl Sub.d RV.d) rfl (by decide) (by decide) rfl) ?_
 refine le ?_; intro b17
 refine lmono (fun a w h => Go.Sx.freeze (i := 0) rfl h) ?_
 refine ls (op (p_bld sb39 rfl (Fill.t (by repeat' constructor) rfl rfl (by repeat' constructor) (Fill.t (by repeat' constructor) rfl rfl (by repeat' constructor) (Fill.t (by repeat' constructor) rfl rfl (by repeat' constructor) Fill.d)))) rfl) ?_
 refine ls (o_bsl [vA] Tryz.underlying29 Tryz.sizeOf39 Tryz.zeroValue39 rfl (Enum.t Enum.d) (RV.t ((some ⟨b17, 0, none⟩, 1), (none, 0)) rfl (by repeat' (first | constructor | apply Sub.suf)) RV.d) rfl (by decide) (by decide) rfl) ?_
 refine le ?_; intro b19
 refine lmono (fun a w h => Go.Sx.freeze (i := 0) rfl h) ?_
 refine ls (o_call (is := [0]) Tryz.call86 (c_pAdd b13 3 [] (Ring.zero 3) (RI.zero 3) (by decide) [vA] (some ⟨b19, 0, none⟩) 1 (by decide) fit1A) rfl rfl (by repeat' (first | constructor | apply Sub.suf)) rfl) ?_
 refine le ?_; rintro ⟨A1, c1⟩
 have hI : RI 3 [[vA]] (Ring.add (Ring.zero 3) 4 ([vA], A1, c1)) := (RI.zero 3).add (l := [vA]) (A := A1) (c := c1) (by decide) fit1A
 refine ls (op (p_asg rfl) rfl) ?_
 refine ln ?_
 refine nthen ?_
 refine cs ?_
 refine cr ?_
 refine ls (o_bsl ([⟨#[121]⟩] : List ByteArray) Tryz.underlying37 Tryz.sizeOf9 Tryz.zeroValue9 rfl (Enum.t Enum.d) (RV.t () rfl Sub.d RV.d) rfl (by decide) (by decide) rfl) ?_
 refine le ?_; intro b21
 refine lmono (fun a w h => Go.Sx.freeze (i := 0) rfl h) ?_
 refine ls (o_bsl ([⟨#[122]⟩] : List ByteArray) Tryz.underlying37 Tryz.sizeOf9 Tryz.zeroValue9 rfl (Enum.t Enum.d) (RV.t () rfl Sub.d RV.d) rfl (by decide) (by decide) rfl) ?_
 refine le ?_; intro b22
 refine lmono (fun a w h => Go.Sx.freeze (i := 0) rfl h) ?_
 refine ls (op (p_bld sb39 rfl (Fill.t (by repeat' constructor) rfl rfl (by repeat' constructor) (Fill.t (by repeat' constructor) rfl rfl (by repeat' constructor) (Fill.t (by repeat' constructor) rfl rfl (by repeat' constructor) (Fill.t (by repeat' constructor) rfl rfl (by repeat' constructor) (Fill.t (by repeat' constructor) rfl rfl (by repeat' constructor) Fill.d)))))) rfl) ?_
 refine ls (o_bsl [vB] Tryz.underlying29 Tryz.sizeOf39 Tryz.zeroValue39 rfl (Enum.t Enum.d) (RV.t ((some ⟨b21, 0, none⟩, 1), (some ⟨b22, 0, none⟩, 1)) rfl (by repeat' (first | constructor | apply Sub.suf)) RV.d) rfl (by decide) (by decide) rfl) ?_
 refine le ?_; intro b24
 refine lmono (fun a w h => Go.Sx.freeze (i := 0) rfl h) ?_
 refine ls (op (p_asg rfl) rfl) ?_
 refine ln ?_
 refine nthen ?_
 refine cs ?_
 refine cr ?_
 refine ls (op (p_move rfl) rfl) ?_
 refine ls (op (p_move rfl) rfl) ?_
 refine ls (o_call (is := [0]) Tryz.call44 (c_pRebase b13 3 [[vA]] (Ring.add (Ring.zero 3) 4 ([vA], A1, c1)) hI (by decide) hRA 3 [vB] (some ⟨b24, 0, none⟩) 1 (by decide) fit1B) rfl rfl (by repeat' (first | constructor | apply Sub.suf)) rfl) ?_
 refine le ?_; rintro ⟨⟨⟨l1, e1⟩, ⟨A2, c2⟩⟩, hr⟩
 obtain ⟨rfl, rfl⟩ := two_eq (hr.trans al1)
 refine ls (op (p_move rfl) rfl) ?_
 refine ls (op (p_ext rfl (by repeat' constructor)) rfl) ?_
 refine ls (op (p_ext rfl (by repeat' constructor)) rfl) ?_
 refine ls (op (p_asg rfl) rfl) ?_
 refine ls (op (p_asg rfl) rfl) ?_
 refine ln ?_
 refine nthen ?_
 refine cs ?_
 refine cr ?_
 refine ls (op (p_move rfl) rfl) ?_
 refine ls (op (p_move rfl) rfl) ?_
 refine ls (o_call (is := [0]) Tryz.call44 (c_pRebase b13 3 [[vA]] (Ring.add (Ring.zero 3) 4 ([vA], A1, c1)) hI (by decide) hRA 2 [vB] (some ⟨b24, 0, none⟩) 1 (by decide) fit1B) rfl rfl (by repeat' (first | constructor | apply Sub.suf)) rfl) ?_
 refine le ?_; rintro ⟨⟨⟨l2, e2⟩, ⟨A3, c3⟩⟩, hr2⟩
 obtain ⟨rfl, rfl⟩ := two_eq (hr2.trans al2)
 refine ls (op (p_move rfl) rfl) ?_
 refine ls (op (p_ext rfl (by repeat' constructor)) rfl) ?_
 refine ls (op (p_ext rfl (by repeat' constructor)) rfl) ?_
 refine ls (op (p_asg rfl) rfl) ?_
 refine ls (op (p_asg rfl) rfl) ?_
 refine ln ?_
 refine nthen ?_
 refine cs ?_
 refine cr ?_
 refine ls (op (p_move rfl) rfl) ?_
 refine ls (o_call (is := [0]) Tryz.call87 (c_pSince b13 3 [[vA]] (Ring.add (Ring.zero 3) 4 ([vA], A1, c1)) hI (by decide) hRA (by decide) 3) rfl rfl (by repeat' (first | constructor | apply Sub.suf)) rfl) ?_
 refine le ?_; rintro ⟨⟨⟨l3, e3⟩, ⟨A4, c4⟩⟩, hr3⟩
 obtain ⟨rfl, rfl⟩ := two_eq (hr3.trans al3)
 refine ls (op (p_move rfl) rfl) ?_
 refine ls (op (p_ext rfl (by repeat' constructor)) rfl) ?_
 refine ls (op (p_ext rfl (by repeat' constructor)) rfl) ?_
 refine ls (op (p_asg rfl) rfl) ?_
 refine ls (op (p_asg rfl) rfl) ?_
 refine ln ?_
 refine nthen ?_
 refine cs ?_
 refine cr ?_
 refine ls (op (p_move rfl) rfl) ?_
 refine ls (o_call (is := [0]) Tryz.call88 (c_pCopy b13 (Ring.add (Ring.zero 3) 4 ([vA], A1, c1)) hI.len) rfl rfl (by repeat' (first | constructor | apply Sub.suf)) rfl) ?_
 refine le ?_; intro b43
 refine ls (op (p_asg rfl) rfl) ?_
 refine ln ?_
 refine nthen ?_
 refine cs ?_
 refine cr ?_
 refine ls (op (p_move rfl) rfl) ?_
 refine ls (o_call (is := [1]) Tryz.call89 (c_pAt b13 3 [[vA]] (Ring.add (Ring.zero 3) 4 ([vA], A1, c1)) hI (by decide) 4) rfl rfl (by repeat' (first | constructor | apply Sub.suf)) rfl) ?_
 refine le ?_; rintro ⟨⟨⟨l5, e5⟩, ⟨A5, c5⟩⟩, hr5⟩
 obtain ⟨rfl, rfl⟩ := two_eq (hr5.trans al4)
 refine ls (op (p_move rfl) rfl) ?_
 refine ls (op (p_ext rfl (by repeat' constructor)) rfl) ?_
 refine ls (op (p_ext rfl (by repeat' constructor)) rfl) ?_
 refine ls (op (p_asg rfl) rfl) ?_
 refine ls (op (p_asg rfl) rfl) ?_
 refine ln ?_
 refine nthen ?_
 refine cs ?_
 refine cmono (fun a w h => nilC (α := Prim) h) ?_
 refine elC (by repeat' constructor) 0 ((show ([vC] : List Prim)[0]? = some vC from rfl)) ?_; rintro zbp zop zyp hAp
 refine cr ?_
 refine ls (op (p_move rfl) rfl) ?_
 refine ls (op (p_icmp rfl rfl rfl) rfl) ?_
 refine ls (op (p_move rfl) rfl) ?_
 refine lwant rfl rfl rfl rfl (op (p_move rfl) rfl) ?_
 refine lwant rfl rfl rfl rfl (op (p_lenl rfl Tryz.underlying29) rfl) ?_
 refine lwant rfl rfl rfl rfl (op (p_icmp rfl rfl rfl) rfl) ?_
 refine ls (op (p_pickt rfl rfl) rfl) ?_
 refine ls (op (p_move rfl) rfl) ?_
 refine lwant rfl rfl rfl rfl (op (p_move rfl) rfl) ?_
 refine lwant rfl rfl rfl rfl (op (p_ia 0 hAp Nat.zero_lt_one rfl Tryz.underlying29 Tryz.sizeOf39 rfl rfl) rfl) ?_
 refine lwant rfl rfl rfl rfl (op (p_fa fa39_3 rfl) rfl) ?_
 refine lwant rfl rfl rfl rfl (o_ldi Tryz.isAgg3 rfl (by repeat' constructor) 3 rfl (by repeat (first | exact Cut.d | apply Cut.t | apply Cut.s)) rfl) ?_
 refine lwant rfl rfl rfl rfl (op (p_icmp rfl rfl rfl) rfl) ?_
 refine ls (op (p_pickt rfl rfl) rfl) ?_
 refine ls (op (p_move rfl) rfl) ?_
 refine lwant rfl rfl rfl rfl (op (p_move rfl) rfl) ?_
 refine lwant rfl rfl rfl rfl (op (p_icmp rfl rfl rfl) rfl) ?_
 refine ls (op (p_pickt rfl rfl) rfl) ?_
 refine ls (op (p_move rfl) rfl) ?_
 refine lwant rfl rfl rfl rfl (op (p_move rfl) rfl) ?_
 refine lwant rfl rfl rfl rfl (op (p_icmp rfl rfl rfl) rfl) ?_
 refine ls (op (p_pickt rfl rfl) rfl) ?_
 refine ls (op (p_move rfl) rfl) ?_
 refine lwant rfl rfl rfl rfl (op (p_move rfl) rfl) ?_
 refine lwant rfl rfl rfl rfl (op (p_lenl rfl Tryz.underlying29) rfl) ?_
 refine lwant rfl rfl rfl rfl (op (p_icmp rfl rfl rfl) rfl) ?_
 refine ls (op (p_pickt rfl rfl) rfl) ?_
 refine ls (op (p_move rfl) rfl) ?_
 refine lwant rfl rfl rfl rfl (op (p_move rfl) rfl) ?_
 refine lwant rfl rfl rfl rfl (op (p_icmp rfl rfl rfl) rfl) ?_
 refine ls (op (p_pickt rfl rfl) rfl) ?_
 refine ls (op (p_move rfl) rfl) ?_
 refine lwant rfl rfl rfl rfl (op (p_move rfl) rfl) ?_
 refine lwant rfl rfl rfl rfl (op (p_ptrnn Tryz.underlying74 rfl rfl) rfl) ?_
 refine ls (op (p_pickt rfl rfl) rfl) ?_
 refine ls (op (p_move rfl) rfl) ?_
 refine lwant rfl rfl rfl rfl (op (p_move rfl) rfl) ?_
 refine lwant rfl rfl rfl rfl (o_call (is := [1]) Tryz.call86 (c_pAdd b43 3 [[vA]] (Ring.add (Ring.zero 3) 4 ([vA], A1, c1)) hI (by decide) [] none 0 (by decide) (by simp)) rfl rfl (by repeat' (first | constructor | apply Sub.suf)) rfl) ?_
 refine le ?_; rintro ⟨A6, c6⟩
 refine lwant rfl rfl rfl rfl (op (p_icmp rfl rfl rfl) rfl) ?_
 refine ls (op (p_pickt rfl rfl) rfl) ?_
 refine ls (op (p_move rfl) rfl) ?_
 refine lwant rfl rfl rfl rfl (op (p_move rfl) rfl) ?_
 refine lwant rfl rfl rfl rfl (o_call (is := [1]) Tryz.call90 (c_pVersion b13 (Ring.add (Ring.zero 3) 4 ([vA], A1, c1))) rfl rfl (by repeat' (first | constructor | apply Sub.suf)) rfl) ?_
 refine le ?_; intro x91
 refine lwant rfl rfl rfl rfl (op (p_icmp rfl rfl rfl) rfl) ?_
 refine ls (op (p_pickt rfl rfl) rfl) ?_
 refine ls (op (p_move rfl) rfl) ?_
 refine lwant rfl rfl rfl rfl (op (p_move rfl) rfl) ?_
 refine lwant rfl rfl rfl rfl (o_call (is := [0]) Tryz.call91 (c_pFirst b13 3 [[vA]] (Ring.add (Ring.zero 3) 4 ([vA], A1, c1)) hI (by decide)) rfl rfl (by repeat' (first | constructor | apply Sub.suf)) rfl) ?_
 refine le ?_; intro x96
 refine lwant rfl rfl rfl rfl (op (p_icmp rfl rfl rfl) rfl) ?_
 refine ls (op (p_pickt rfl rfl) rfl) ?_
 refine ls (op (p_move rfl) rfl) ?_
 refine lwant rfl rfl rfl rfl (op (p_move rfl) rfl) ?_
 refine lwant rfl rfl rfl rfl (op (p_lenl rfl Tryz.underlying29) rfl) ?_
 refine lwant rfl rfl rfl rfl (op (p_icmp rfl rfl rfl) rfl) ?_
 refine ls (op (p_pickt rfl rfl) rfl) ?_
 refine ls (op (p_move rfl) rfl) ?_
 refine lwant rfl rfl rfl rfl (op (p_move rfl) rfl) ?_
 refine ls (op (p_pickt rfl rfl) rfl) ?_
 refine ls (op (p_asg rfl) rfl) ?_
 refine ln ?_
 refine nthen ?_
 refine cret ?_
 refine xret (fun _ _ h => h) ?_
 refine rret (is := []) () (Or.inl rfl) (Res.t rfl Res.d) (rfl) rfl (by repeat' (first | constructor | apply Sub.suf))

end Go.Proofs.YtdbiillompeclaaGreatDoor.X

end
