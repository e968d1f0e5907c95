/- OWN WORK: a part of the proof of a law of the seat YtheamdahngfpdaaGreatDoor: the rules by which the code is walked. -/
import Derived.Test.YtheamdahngfpdaaGreatDoorProg
import Derived.Test.YtheamdahngfpdaaGreatDoorXS1
set_option linter.unusedVariables false
set_option linter.unusedSimpArgs false
namespace Go.Proofs.YtheamdahngfpdaaGreatDoor.X
open Go Go.RowKit Go.Proofs Go.Sx
attribute [local irreducible] slA isA box row
def few5 (rows : List (List Prim)) : Bool := decide ((((rows.map many).sum : Nat) : Int) ≤ 6000) && decide ((((rows.map List.length).sum : Nat) : Int) ≤ 40)
def qX : Prim := ⟨0, (⟨#[97]⟩ : ByteArray), e0, 0, [(⟨#[120]⟩ : ByteArray)], []⟩
def qM : Prim := ⟨0, (⟨#[97]⟩ : ByteArray), e0, 5, [(⟨#[121]⟩ : ByteArray)], [(⟨#[122]⟩ : ByteArray)]⟩
def qR : Prim := ⟨0, (⟨#[97]⟩ : ByteArray), e0, 4, [(⟨#[121]⟩ : ByteArray)], [(⟨#[122]⟩ : ByteArray)]⟩
def qB : Prim := ⟨2, (⟨#[98]⟩ : ByteArray), e0, 0, [], []⟩
theorem al5_fX : ∀ x ∈ [qX], x.fit := fun x hx => by rw [List.mem_singleton.1 hx]; exact fitP (by decide)
theorem al5_fM : ∀ x ∈ [qM], x.fit := fun x hx => by rw [List.mem_singleton.1 hx]; exact fitP (by decide)
theorem al5_fR : ∀ x ∈ [qR], x.fit := fun x hx => by rw [List.mem_singleton.1 hx]; exact fitP (by decide)
theorem al5_fXR : ∀ x ∈ [qX, qR], x.fit := fun x hx => (List.mem_cons.1 hx).elim (fun e => al5_fX x (by rw [e]; simp)) (al5_fR x)
theorem al5_fAB : ∀ x ∈ [pA, qB], x.fit := fun x hx => (List.mem_cons.1 hx).elim (fun e => e ▸ al3_fA) (fun h => by rw [List.mem_singleton.1 h]; exact fitP (by decide))
theorem al5_1 : rebT [qX] [qM] = ([qR], true) := by kernel_rfl
theorem al5_2 : splK (fun k => decide ((k : Int) = 1)) [qX, qR] 2 = ([qM], [qX]) := by kernel_rfl
theorem al5_3 : swT [qX] [qR] = ([qM], [qX], true) := by kernel_rfl
theorem al5_4 : rowT [] [pA, qB] = ([], 31) := by kernel_rfl
theorem al5_5 : namesT [qX] = [(⟨#[97]⟩ : ByteArray)] := kls_ext (comp_sort _).1 (by simp) fun x => (comp_sort (namesL [qX])).2 x
theorem al5_6 : ((namesT [qX]).any fun s => hasPre s (⟨#[97]⟩ : ByteArray)) = true := by rw [al5_5]; kernel_rfl
theorem al5_7 : ((namesT [qX]).any fun s => hasPre s (⟨#[98]⟩ : ByteArray)) = false := by rw [al5_5]; kernel_rfl
theorem al5_8 : [qX].all Prim.right = true := by kernel_rfl
theorem al5_i : AppInv 0 0 [] := ⟨Sor.nil, (fun x hx => by cases hx), (fun x hx => by cases hx), Nat.le_refl _⟩


set_option maxRecDepth 100000 in
theorem c_seqSplit0 (l : List Prim) (A : Option Addr) (c : Nat) (hl : l.length ≤ 900000) (hf : ∀ x ∈ l, x.fit) (W : Nat → Bool) (g : FuncId) (cap : List Value) (Γf : List Asn) (hcf : ∀ args w, (callFunc g args).run Tryz.prog w = .ok (.enter g args) w) (hg : ∀ (k : Nat) (hk : k < l.length) (y : Rp.Lay Prim), Con Tryz.prog g (.int .i64 (k : Int) :: sv l[k] y :: cap) [] (Rp.asn l[k] y ++ Γf) Unit (fun _ => .bool (W k)) (fun _ => []) (fun _ => [])) : Con Tryz.prog 38 [.slice A l.length c, .func (.func g) #[] cap.toArray] [] (slA A l :: Γf) {x : (List Prim × List Prim) × ((Option Addr × Nat) × (Option Addr × Nat)) // x.1 = splK W l l.length} (fun x => .tuple #[.slice x.1.2.1.1 x.1.1.1.length x.1.2.1.2, .slice x.1.2.2.1 x.1.1.2.length x.1.2.2.2]) (fun _ => []) (fun x => [slA x.1.2.1.1 x.1.1.1, nilA x.1.2.1, capA x.1.2.1.2 x.1.1.1.length, slA x.1.2.2.1 x.1.1.2, nilA x.1.2.2, capA x.1.2.2.2 x.1.1.2.length]) := by
 refine con Tryz.func38 rfl Tryz.ntmps38 rfl ?_
 intro M0 F0 w0
 refine cs ?_
 refine cr ?_
 refine ls (op (p_asg rfl) rfl) ?_
 refine ls (op (p_asg rfl) rfl) ?_
 refine ln ?_
 refine nthen ?_
 refine cs ?_
 refine cs ?_
 refine cmono (fun a w h => nilRow (α := Prim) 70 h) ?_
 refine cmono (fun a w h => nilRow (α := Prim) 70 h) ?_
 refine cr ?_
 refine ls (op (p_move rfl) rfl) ?_
 refine ls (o_call (is := []) Tryz.call64 (c_seqCloned l A c (by omega) hf) rfl rfl (by repeat' (first | constructor | apply Sub.suf)) rfl) ?_
 refine le ?_; rintro ⟨A12, c12⟩
 refine lmono (fun a w h => freezeN (i := 0) rfl h) ?_
 refine ls (op (p_lenl rfl Tryz.underlying25) rfl) ?_
 refine ls (op (p_move rfl) rfl) ?_
 refine ln ?_
 refine nthen ?_
 refine cb ?_
 refine cl (ι := {q : Nat × (List Prim × (Option Addr × Nat)) × (List Prim × (Option Addr × Nat)) // q.1 ≤ l.length ∧ (q.2.1.1, q.2.2.1) = splK W l q.1 ∧ ∀ x ∈ q.2.2.1, x.fit}) (fun i => St M0 F0 w0 44 [(1, .func (.func g) #[] cap.toArray), (4, .slice i.1.2.1.2.1 (i.1.2.1.1).length i.1.2.1.2.2), (5, .slice i.1.2.2.2.1 (i.1.2.2.1).length i.1.2.2.2.2), (12, .slice A12 l.length c12), (13, .int .i64 (l.length : Int)), (14, .int .i64 (i.1.1 : Int))] [row 70 (i.1.2.1.2.1) (i.1.2.1.2.2) i.1.2.1.1, row 70 (i.1.2.2.2.1) (i.1.2.2.2.2) i.1.2.2.1] (slA A12 l :: Γf)) (fun i => l.length - i.1.1) ⟨(0, ([], (none, 0)), ([], (none, 0))), Nat.zero_le _, rfl, (fun x hx => by cases hx)⟩ (wk (is := [0, 0]) (by repeat (first | exact subσ.nil _ | refine subσ.cons rfl ?_)) rfl (by repeat' (first | constructor | apply Sub.suf))) ?_
 rintro ⟨⟨k, ⟨F, ⟨A4, c4⟩⟩, ⟨R, ⟨A5, c5⟩⟩⟩, hk, hFR, hRf⟩
 refine cmono (S' := St M0 F0 w0 44 [(1, .func (.func g) #[] cap.toArray), (4, .slice A4 (F).length c4), (5, .slice A5 (R).length c5), (12, .slice A12 l.length c12), (13, .int .i64 (l.length : Int)), (14, .int .i64 (k : Int))] [row 70 (A4) (c4) F, row 70 (A5) (c5) R] (slA A12 l :: Γf)) (fun _ _ h => h) ?_
 refine cs ?_
 refine cr ?_
 refine ls (op (p_icmp rfl rfl rfl) rfl) ?_
 refine ln ?_
 refine nthen ?_
 refine cs ?_
 refine cc rfl ?_ ?_
 ·
  intro h15
  dsimp only at hk hFR hRf
  try simp only [decide_eq_true_eq, decide_eq_false_iff_not, Bool.not_eq_true', Bool.not_eq_false', Int.not_lt, Int.not_le, ge_iff_le, Bool.not_true, Bool.not_false] at h15
  have hk1 : k < l.length := by omega
  have hfk := hf _ (List.getElem_mem hk1)
  have hsl := splK_len W l k hk
  rw [← hFR] at hsl
  dsimp only at hsl
  have hf1 : ∀ x ∈ [l[k]], x.fit := fun x hx => by rw [List.mem_singleton.1 hx]; exact hfk
  refine cskip ?_
  refine nthen ?_
  refine cs ?_
  refine cb ?_
  refine cs ?_
  refine elC (by repeat' constructor) k (List.getElem?_eq_getElem (l := l) hk1) ?_; rintro zbp zop zyp hAp
  refine cr ?_
  refine ls (op (p_move rfl) rfl) ?_
  refine ls (op (p_ia k hAp hk1 rfl Tryz.underlying25 Tryz.sizeOf70 rfl rfl) rfl) ?_
  refine ls (o_ldj Tryz.isAgg70 Tryz.sizeOf70 rfl (by repeat' constructor) 0 rfl (by repeat (first | exact Cut.d | apply Cut.t | apply Cut.s)) rfl) ?_
  refine ls (o_alloc Tryz.zeroValue70 rfl rfl) ?_
  refine le ?_; intro b7
  refine ls (op (p_asg rfl) rfl) ?_
  refine ls (o_st rfl Tryz.sizeOf70 rfl rfl rfl rfl rfl (by repeat' constructor) (by repeat' constructor) (by repeat' constructor)) ?_
  refine ln ?_
  refine nthen ?_
  refine cs ?_
  refine cs ?_
  refine cr ?_
  refine ls (op (p_move rfl) rfl) ?_
  refine ls (op (p_move rfl) rfl) ?_
  refine ls (o_ldw Tryz.isAgg70 Tryz.sizeOf70 rfl (by repeat' constructor) (by rfl) rfl) ?_
  refine ls (o_call (is := []) Tryz.call66 (c_primClone l[k] zyp hfk) rfl rfl (by repeat' (first | constructor | apply Sub.suf)) rfl) ?_
  refine le ?_; intro y22
  refine ls (o_callv (is := []) rfl hcf (hg k hk1 y22) rfl rfl rfl (Sub.app (by repeat' (first | constructor | apply Sub.suf)) (by repeat' (first | constructor | apply Sub.suf))) rfl) ?_
  refine le ?_; intro x23
  refine ln ?_
  refine nthen ?_
  refine cc rfl ?_ ?_
  ·
   intro h23
   have hw : W k = true := h23
   refine cs ?_
   refine cr ?_
   refine ls (op (p_move rfl) rfl) ?_
   refine ls (o_ldw Tryz.isAgg70 Tryz.sizeOf70 rfl (by repeat' constructor) (by rfl) rfl) ?_
   refine ls (o_bsl [l[k]] Tryz.underlying25 Tryz.sizeOf70 Tryz.zeroValue70 rfl (Enum.t Enum.d) (RV.t zyp rfl (by repeat' (first | constructor | apply Sub.suf)) RV.d) rfl (by decide) (by decide) rfl) ?_
   refine le ?_; intro b27
   refine lmono (fun a w h => Go.Sx.freeze (i := 0) rfl h) ?_
   refine ls (o_call (is := [2]) Tryz.call26 (borrow2 (fun x => !x.1.1.2.2) (c_seqSwapR R [l[k]] A5 (some ⟨b27, 0, none⟩) c5 1 (by omega) (by simp) hRf hf1)) rfl rfl (by repeat' (first | constructor | apply Sub.suf)) rfl) ?_
   refine le ?_; rintro ⟨⟨⟨f', s', b'⟩, ⟨⟨A8, c8⟩, ⟨A9, c9⟩⟩⟩, hr⟩
   dsimp only at hr
   refine ls (op (p_move rfl) rfl) ?_
   refine ls (op (p_ext rfl (by repeat' constructor)) rfl) ?_
   refine ls (op (p_ext rfl (by repeat' constructor)) rfl) ?_
   refine ls (op (p_ext rfl (by repeat' constructor)) rfl) ?_
   refine ls (op (p_asg rfl) rfl) ?_
   refine ls (op (p_asg rfl) rfl) ?_
   refine ls (op (p_asg rfl) rfl) ?_
   refine ln ?_
   refine nthen ?_
   refine cs ?_
   cases b'
   ·
    obtain ⟨_, rfl, rfl⟩ := swT_false hr
    refine cr ?_
    refine ls (op (p_move rfl) rfl) ?_
    refine ln ?_
    refine nthen ?_
    refine cc rfl (fun h => by cases h) (fun h => ?_)
    refine cskip ?_
    refine nthen ?_
    refine cr ?_
    refine ls (op (p_move rfl) rfl) ?_
    refine ls (o_ldw Tryz.isAgg70 Tryz.sizeOf70 rfl (by repeat' constructor) (by rfl) rfl) ?_
    refine ls (o_bsl [l[k]] Tryz.underlying25 Tryz.sizeOf70 Tryz.zeroValue70 rfl (Enum.t Enum.d) (RV.t zyp rfl (by repeat' (first | constructor | apply Sub.suf)) RV.d) rfl (by decide) (by decide) rfl) ?_
    refine le ?_; intro b39
    refine lmono (fun a w h => Go.Sx.freeze (i := 0) rfl h) ?_
    refine ls (o_app (is := [0]) Tryz.underlying25 inf70 rfl (by decide) (by decide) rfl rfl (by simp only [List.length_cons, List.length_nil]; omega) (fun h => by cases h) rfl (by repeat' (first | constructor | apply Sub.suf)) rfl) ?_
    refine le ?_; rintro ⟨A40, c40⟩
    refine ls (op (p_asg rfl) rfl) ?_
    refine ln ?_
    refine nblock ?_
    refine nthen ?_
    refine cr ?_
    refine ls (op (p_add rfl rfl (by omega)) rfl) ?_
    refine ls (op (p_move rfl) rfl) ?_
    refine ln ?_
    refine nnext ⟨(k + 1, (F, (A4, c4)), (R ++ [l[k]], (A40, c40))), hk1, splK_no hFR hk1 hr (by rw [hw]; rfl), (fun x hx => (List.mem_append.1 hx).elim (hRf x) (hf1 x))⟩ (by dsimp only; omega) (wk (is := [2, 0]) (by repeat (first | exact subσ.nil _ | refine subσ.cons rfl ?_)) rfl (by repeat' (first | constructor | apply Sub.suf)))
   ·
    have hln := swT_len hr
    have hft := swT_fit hr hRf hf1
    have hl1 : [l[k]].length = 1 := rfl
    refine cr ?_
    refine ls (op (p_move rfl) rfl) ?_
    refine ln ?_
    refine nthen ?_
    refine cc rfl (fun h => ?_) (fun h => by cases h)
    refine cs ?_
    refine cr ?_
    refine ls (op (p_move rfl) rfl) ?_
    refine ls (op (p_move rfl) rfl) ?_
    refine ls (o_app (is := [2]) Tryz.underlying25 inf70 rfl (by decide) (by decide) rfl rfl (by dsimp only; omega) (fun h => by dsimp only at h; rw [h] at hln; simp at hln) rfl (by repeat' (first | constructor | apply Sub.suf)) rfl) ?_
    refine le ?_; rintro ⟨A35, c35⟩
    refine ls (op (p_move rfl) rfl) ?_
    refine ls (op (p_asg rfl) rfl) ?_
    refine ls (op (p_asg rfl) rfl) ?_
    refine ln ?_
    refine nthen ?_
    refine cexit ?_
    refine xthen ?_
    refine xblock ?_
    refine nthen ?_
    refine cr ?_
    refine ls (op (p_add rfl rfl (by omega)) rfl) ?_
    refine ls (op (p_move rfl) rfl) ?_
    refine ln ?_
    refine nnext ⟨(k + 1, (F ++ f', (A35, c35)), (s', (A9, c9))), hk1, splK_yes hFR hk1 hw hr, hft.2⟩ (by dsimp only; omega) (wk (is := [0, 0]) (by repeat (first | exact subσ.nil _ | refine subσ.cons rfl ?_)) rfl (by repeat' (first | constructor | apply Sub.suf)))
  ·
   intro h23
   have hw : W k = false := by simpa using h23
   refine cskip ?_
   refine nthen ?_
   refine cr ?_
   refine ls (op (p_move rfl) rfl) ?_
   refine ls (o_ldw Tryz.isAgg70 Tryz.sizeOf70 rfl (by repeat' constructor) (by rfl) rfl) ?_
   refine ls (o_bsl [l[k]] Tryz.underlying25 Tryz.sizeOf70 Tryz.zeroValue70 rfl (Enum.t Enum.d) (RV.t zyp rfl (by repeat' (first | constructor | apply Sub.suf)) RV.d) rfl (by decide) (by decide) rfl) ?_
   refine le ?_; intro b39
   refine lmono (fun a w h => Go.Sx.freeze (i := 0) rfl h) ?_
   refine ls (o_app (is := [2]) Tryz.underlying25 inf70 rfl (by decide) (by decide) rfl rfl (by simp only [List.length_cons, List.length_nil]; omega) (fun h => by cases h) rfl (by repeat' (first | constructor | apply Sub.suf)) rfl) ?_
   refine le ?_; rintro ⟨A40, c40⟩
   refine ls (op (p_asg rfl) rfl) ?_
   refine ln ?_
   refine nblock ?_
   refine nthen ?_
   refine cr ?_
   refine ls (op (p_add rfl rfl (by omega)) rfl) ?_
   refine ls (op (p_move rfl) rfl) ?_
   refine ln ?_
   refine nnext ⟨(k + 1, (F, (A4, c4)), (R ++ [l[k]], (A40, c40))), hk1, splK_no' hFR hk1 hw, (fun x hx => (List.mem_append.1 hx).elim (hRf x) (hf1 x))⟩ (by dsimp only; omega) (wk (is := [2, 0]) (by repeat (first | exact subσ.nil _ | refine subσ.cons rfl ?_)) rfl (by repeat' (first | constructor | apply Sub.suf)))
 ·
  intro h15
  dsimp only at hk hFR hRf
  try simp only [decide_eq_true_eq, decide_eq_false_iff_not, Bool.not_eq_true', Bool.not_eq_false', Int.not_lt, Int.not_le, ge_iff_le, Bool.not_true, Bool.not_false] at h15
  obtain rfl : k = l.length := by omega
  refine cexit ?_
  refine xthen ?_
  refine xthen ?_
  refine xblock ?_
  refine nthen ?_
  refine cs ?_
  refine cmono (fun a w h => freezeN (i := 0) rfl h) ?_
  refine cmono (fun a w h => freezeN (i := 0) rfl h) ?_
  refine cr ?_
  refine ls (op (p_move rfl) rfl) ?_
  refine ls (op (p_move rfl) rfl) ?_
  refine ls (op (p_asg rfl) rfl) ?_
  refine ls (op (p_asg rfl) rfl) ?_
  refine ln ?_
  refine nthen ?_
  refine cret ?_
  refine xret (fun _ _ h => h) ?_
  refine rret (is := []) ⟨((F, R), ((A4, c4), (A5, c5))), hFR⟩ (Or.inl rfl) (Res.t rfl (Res.t rfl Res.d)) (rfl) rfl (by repeat' (first | constructor | apply Sub.suf))

set_option maxRecDepth 100000 in
theorem c_few5 (rows : List (List Prim)) (A : Option Addr) (c : Nat) (hn : rows.length ≤ 1000) (hR : ∀ l ∈ rows, l.length ≤ 2000000) (hM : (rows.map many).sum ≤ 1000000000000) (hM2 : (rows.map List.length).sum ≤ 1000000000000) : Con Tryz.prog 11 [.slice A rows.length c] [] [slA A rows] Unit (fun _ => .bool (few5 rows)) (fun _ => []) (fun _ => []) := by
 refine con Tryz.func11 rfl Tryz.ntmps11 rfl ?_
 intro M0 F0 w0
 refine cs ?_
 refine cr ?_
 refine ls (op (p_asg rfl) rfl) ?_
 refine ln ?_
 refine nthen ?_
 refine cs ?_
 refine cr ?_
 refine ls (op (p_asg rfl) rfl) ?_
 refine ls (op (p_asg rfl) rfl) ?_
 refine ln ?_
 refine nthen ?_
 refine cs ?_
 refine cs ?_
 refine cr ?_
 refine ls (op (p_move rfl) rfl) ?_
 refine ls (op (p_lenl rfl Tryz.underlying80) rfl) ?_
 refine ls (op (p_move rfl) rfl) ?_
 refine ln ?_
 refine nthen ?_
 refine cb ?_
 refine cl (ι := {q : Nat × Int × Int // q.1 ≤ rows.length ∧ q.2.1 = (((rows.take q.1).map many).sum : Nat) ∧ q.2.2 = (((rows.take q.1).map List.length).sum : Nat)}) (fun i => St M0 F0 w0 28 [(7, .slice A rows.length c), (8, .int .i64 (rows.length : Int)), (9, .int .i64 (i.1.1 : Int)), (3, .int .i64 i.1.2.1), (4, .int .i64 i.1.2.2)] [] [slA A rows]) (fun i => rows.length - i.1.1) ⟨(0, 0, 0), by simp⟩ (wk0 (by repeat (first | exact subσ.nil _ | refine subσ.cons rfl ?_)) (by repeat' (first | constructor | apply Sub.suf))) ?_
 rintro ⟨⟨k, n, u⟩, hk, hnn, huu⟩
 refine cmono (S' := St M0 F0 w0 28 [(7, .slice A rows.length c), (8, .int .i64 (rows.length : Int)), (9, .int .i64 (k : Int)), (3, .int .i64 n), (4, .int .i64 u)] [] [slA A rows]) (fun _ _ h => h) ?_
 refine cs ?_
 refine cr ?_
 refine ls (op (p_icmp rfl rfl rfl) rfl) ?_
 refine ln ?_
 refine nthen ?_
 refine cs ?_
 refine cc rfl ?_ ?_
 ·
  intro h10
  dsimp only at hk hnn huu
  try simp only [decide_eq_true_eq, decide_eq_false_iff_not, Bool.not_eq_true', Bool.not_eq_false', Int.not_lt, Int.not_le, ge_iff_le, Bool.not_true, Bool.not_false] at h10
  have hk1 : k < rows.length := by omega
  have e1 := sum_take_succ (f := many) hk1; have e2 := sum_take_succ (f := List.length) hk1
  have e3 := sum_take_le many rows (k + 1); have e4 := sum_take_le List.length rows (k + 1)
  refine cskip ?_
  refine nthen ?_
  refine cs ?_
  refine cb ?_
  refine cs ?_
  refine elC (by repeat' constructor) k (List.getElem?_eq_getElem (l := rows) hk1) ?_; rintro zbp zop zyp hAp
  refine cr ?_
  refine ls (op (p_ia k hAp hk1 rfl Tryz.underlying80 Tryz.sizeOf22 rfl rfl) rfl) ?_
  refine ls (o_ldi Tryz.isAgg22 rfl (by repeat' constructor) 0 rfl (by repeat (first | exact Cut.d | apply Cut.t | apply Cut.s)) rfl) ?_
  refine ls (op (p_asg rfl) rfl) ?_
  refine ln ?_
  refine nthen ?_
  refine cr ?_
  refine ls (op (p_move rfl) rfl) ?_
  refine ls (op (p_move rfl) rfl) ?_
  refine ls (o_call (is := []) Tryz.call44 (c_Many rows[k] zyp.1 zyp.2 (hR _ (List.getElem_mem hk1)) (by omega)) rfl rfl (by repeat' (first | constructor | apply Sub.suf)) rfl) ?_
  refine le ?_; intro x15
  refine ls (op (p_add rfl rfl (by omega)) rfl) ?_
  refine ls (op (p_move rfl) rfl) ?_
  refine ls (op (p_move rfl) rfl) ?_
  refine ls (op (p_lenl rfl Tryz.underlying22) rfl) ?_
  refine ls (op (p_add rfl rfl (by omega)) rfl) ?_
  refine ls (op (p_asg rfl) rfl) ?_
  refine ls (op (p_asg rfl) rfl) ?_
  refine ln ?_
  refine nblock ?_
  refine nthen ?_
  refine cr ?_
  refine ls (op (p_add rfl rfl (by omega)) rfl) ?_
  refine ls (op (p_move rfl) rfl) ?_
  refine ln ?_
  refine nnext ⟨(k + 1, n + (many rows[k] : Int), u + (rows[k].length : Int)), hk1, by dsimp only; omega, by dsimp only; omega⟩ (by dsimp only; omega) (wk (is := []) (by repeat (first | exact subσ.nil _ | refine subσ.cons rfl ?_)) rfl (by repeat' (first | constructor | apply Sub.suf)))
 ·
  intro h10
  dsimp only at hk hnn huu
  try simp only [decide_eq_true_eq, decide_eq_false_iff_not, Bool.not_eq_true', Bool.not_eq_false', Int.not_lt, Int.not_le, ge_iff_le, Bool.not_true, Bool.not_false] at h10
  rw [List.take_of_length_le (by omega)] at hnn huu
  refine cexit ?_
  refine xthen ?_
  refine xthen ?_
  refine xblock ?_
  refine nthen ?_
  refine cs ?_
  refine cr ?_
  refine ls (op (p_move rfl) rfl) ?_
  refine ls (op (p_icmp rfl rfl rfl) rfl) ?_
  refine ls (op (p_move rfl) rfl) ?_
  refine andX 3 24 27 rfl (subσ.cons (t := 7) rfl (subσ.cons (t := 8) rfl (subσ.cons (t := 9) rfl (subσ.cons (t := 3) rfl (subσ.cons (t := 4) rfl (subσ.cons (t := 10) rfl (subσ.nil _))))))) ?_ ?_
  ·
   intro h24
   refine lskip rfl rfl rfl rfl rfl ?_
   refine lskip rfl rfl rfl rfl rfl ?_
   refine ls (op (p_pickf rfl rfl) rfl) ?_
   refine ln (nmid (wk0 (by repeat (first | exact subσ.nil _ | refine subσ.cons rfl ?_)) (by repeat' (first | constructor | apply Sub.suf))))
  apply exI
  ·
   intro h24
   refine lwant rfl rfl rfl rfl (op (p_move rfl) rfl) ?_
   refine lwant rfl rfl rfl rfl (op (p_icmp rfl rfl rfl) rfl) ?_
   refine ls (op (p_pickt rfl rfl) rfl) ?_
   refine ln (nmid (wk0 (by repeat (first | exact subσ.nil _ | refine subσ.cons rfl ?_)) (by repeat' (first | constructor | apply Sub.suf))))
  ·
   refine ls (op (p_asg rfl) rfl) ?_
   refine ln ?_
   refine nthen ?_
   refine cret ?_
   refine xret (fun _ _ h => h) ?_
   refine rret (is := []) () (Or.inl rfl) (Res.t rfl Res.d) ?_ rfl (by repeat' (first | constructor | apply Sub.suf))
   rw [hnn, huu]; rfl

set_option maxRecDepth 100000 in
theorem c_alive51 (k : Nat) (pr : Prim) (y : Rp.Lay Prim) : Con Tryz.prog 45 [.int .i64 (k : Int), sv pr y] [] (Rp.asn pr y) Unit (fun _ => .bool (decide ((k : Int) = 1))) (fun _ => []) (fun _ => []) := by
 refine con Tryz.func45 rfl Tryz.ntmps45 rfl ?_
 intro M0 F0 w0
 refine cs ?_
 refine cr ?_
 refine ls (o_box rfl rfl rfl) ?_
 refine le ?_; intro b3
 refine ls (op (p_asg rfl) rfl) ?_
 refine ln ?_
 refine nthen ?_
 refine cs ?_
 refine cr ?_
 refine ls (op (p_move rfl) rfl) ?_
 refine ls (op (p_icmp rfl rfl rfl) rfl) ?_
 refine ls (op (p_asg rfl) rfl) ?_
 refine ln ?_
 refine nthen ?_
 refine cret ?_
 refine xret (fun _ _ h => h) ?_
 refine rret (is := []) () (Or.inl rfl) (Res.t rfl Res.d) (rfl) rfl (by repeat' (first | constructor | apply Sub.suf))

set_option maxRecDepth 100000 in
theorem c_alive05 : Con Tryz.prog 12 [] [] [] Unit (fun _ => .bool true) (fun _ => []) (fun _ => []) := by
 refine con Tryz.func12 rfl Tryz.ntmps12 rfl ?_
 intro M0 F0 w0
 refine cs ?_
 refine cr ?_
 refine ls (op (p_asg rfl) rfl) ?_
 refine ln ?_
 refine nthen ?_
 refine cs ?_
 refine cr ?_
 refine ls (o_bsl [(⟨#[120]⟩ : ByteArray)] Tryz.underlying32 Tryz.sizeOf9 Tryz.zeroValue9 rfl (Enum.t Enum.d) (RV.t () rfl Sub.d RV.d) rfl (by decide) (by decide) rfl) ?_
 refine le ?_; intro b12
 refine lmono (fun a w h => Go.Sx.freeze (i := 0) rfl h) ?_
 refine lmono (fun a w h => nilSl (α := ByteArray) h) ?_
 refine ls (op (p_bld sb70 rfl (Fill.t (by repeat' constructor) rfl rfl (by repeat' constructor) (Fill.t (by repeat' constructor) rfl rfl (by repeat' constructor) (Fill.t (by repeat' constructor) rfl rfl (by repeat' constructor) Fill.d)))) rfl) ?_
 refine ls (o_bsl [qX] Tryz.underlying25 Tryz.sizeOf70 Tryz.zeroValue70 rfl (Enum.t Enum.d) (RV.t ((some ⟨b12, 0, none⟩, 1), (none, 0)) rfl (by repeat' (first | constructor | apply Sub.suf)) RV.d) rfl (by decide) (by decide) rfl) ?_
 refine le ?_; intro b14
 refine lmono (fun a w h => Go.Sx.freeze (i := 0) rfl h) ?_
 refine ls (op (p_asg rfl) rfl) ?_
 refine ln ?_
 refine nthen ?_
 refine cs ?_
 refine cr ?_
 refine ls (o_bsl [(⟨#[121]⟩ : ByteArray)] Tryz.underlying32 Tryz.sizeOf9 Tryz.zeroValue9 rfl (Enum.t Enum.d) (RV.t () rfl Sub.d RV.d) rfl (by decide) (by decide) rfl) ?_
 refine le ?_; intro b15
 refine lmono (fun a w h => Go.Sx.freeze (i := 0) rfl h) ?_
 refine ls (o_bsl [(⟨#[122]⟩ : ByteArray)] Tryz.underlying32 Tryz.sizeOf9 Tryz.zeroValue9 rfl (Enum.t Enum.d) (RV.t () rfl Sub.d RV.d) rfl (by decide) (by decide) rfl) ?_
 refine le ?_; intro b16
 refine lmono (fun a w h => Go.Sx.freeze (i := 0) rfl h) ?_
 refine ls (op (p_bld sb70 rfl (Fill.t (by repeat' constructor) rfl rfl (by repeat' constructor) (Fill.t (by repeat' constructor) rfl rfl (by repeat' constructor) (Fill.t (by repeat' constructor) rfl rfl (by repeat' constructor) (Fill.t (by repeat' constructor) rfl rfl (by repeat' constructor) (Fill.t (by repeat' constructor) rfl rfl (by repeat' constructor) Fill.d)))))) rfl) ?_
 refine ls (o_bsl [qM] Tryz.underlying25 Tryz.sizeOf70 Tryz.zeroValue70 rfl (Enum.t Enum.d) (RV.t ((some ⟨b15, 0, none⟩, 1), (some ⟨b16, 0, none⟩, 1)) rfl (by repeat' (first | constructor | apply Sub.suf)) RV.d) rfl (by decide) (by decide) rfl) ?_
 refine le ?_; intro b18
 refine lmono (fun a w h => Go.Sx.freeze (i := 0) rfl h) ?_
 refine ls (op (p_asg rfl) rfl) ?_
 refine ln ?_
 refine nthen ?_
 refine cs ?_
 refine cr ?_
 refine ls (op (p_move rfl) rfl) ?_
 refine ls (op (p_move rfl) rfl) ?_
 refine ls (o_call (is := []) Tryz.call28 (c_seqRebaseC [qX] [qM] _ _ _ _ (by decide) (by decide) al5_fX al5_fM) rfl rfl (by repeat' (first | constructor | apply Sub.suf)) rfl) ?_
 refine le ?_; rintro ⟨⟨⟨r, is⟩, ⟨A3, c3⟩⟩, hr⟩
 obtain ⟨rfl, rfl⟩ := Prod.mk.inj (hr.trans al5_1)
 refine ls (op (p_move rfl) rfl) ?_
 refine ls (op (p_ext rfl (by repeat' constructor)) rfl) ?_
 refine ls (op (p_ext rfl (by repeat' constructor)) rfl) ?_
 refine ls (op (p_asg rfl) rfl) ?_
 refine ls (op (p_asg rfl) rfl) ?_
 refine ln ?_
 refine nthen ?_
 refine cs ?_
 refine cr ?_
 refine ls (o_bsl ([] : List Prim) Tryz.underlying25 Tryz.sizeOf70 Tryz.zeroValue70 rfl Enum.d RV.d rfl (by decide) (by decide) rfl) ?_
 refine le ?_; intro b26
 refine ls (op (p_move rfl) rfl) ?_
 refine ls (o_app (is := [0]) Tryz.underlying25 inf70 rfl (by decide) (by decide) rfl rfl (by decide) (fun h => by cases h) rfl (by repeat' (first | constructor | apply Sub.suf)) rfl) ?_
 refine le ?_; rintro ⟨A28, c28⟩
 refine ls (op (p_move rfl) rfl) ?_
 refine ls (o_app (is := [0]) Tryz.underlying25 inf70 rfl (by decide) (by decide) rfl rfl (by dsimp only; decide) (fun h => by cases h) rfl (by repeat' (first | constructor | apply Sub.suf)) rfl) ?_
 refine le ?_; rintro ⟨A30, c30⟩
 refine lmono (fun a w h => Go.Sx.freeze (i := 0) rfl h) ?_
 refine ls (o_call (is := []) Tryz.call38 (c_seqSplit0 [qX, qR] A30 c30 (by decide) al5_fXR (fun k => decide ((k : Int) = 1)) 45 [] [] Tryz.call45 (fun k hk y => by rw [List.append_nil]; exact c_alive51 k _ y)) rfl rfl (by repeat' (first | constructor | apply Sub.suf)) rfl) ?_
 refine le ?_; rintro ⟨⟨⟨F5, R5⟩, ⟨⟨A5, c5⟩, ⟨A6, c6⟩⟩⟩, h5⟩
 obtain ⟨rfl, rfl⟩ := Prod.mk.inj (h5.trans al5_2)
 refine ls (op (p_move rfl) rfl) ?_
 refine ls (op (p_ext rfl (by repeat' constructor)) rfl) ?_
 refine ls (op (p_ext rfl (by repeat' constructor)) rfl) ?_
 refine ls (op (p_asg rfl) rfl) ?_
 refine ls (op (p_asg rfl) rfl) ?_
 refine ln ?_
 refine nthen ?_
 refine cs ?_
 refine cr ?_
 refine ls (op (p_move rfl) rfl) ?_
 refine ls (op (p_move rfl) rfl) ?_
 refine ls (o_call (is := []) Tryz.call26 (c_seqSwapC [qX] [qR] _ _ _ _ (by decide) (by decide) al5_fX al5_fR) rfl rfl (by repeat' (first | constructor | apply Sub.suf)) rfl) ?_
 refine le ?_; rintro ⟨⟨⟨F7, R7, b7⟩, ⟨⟨A7, c7⟩, ⟨A8, c8⟩⟩⟩, h7⟩
 obtain ⟨rfl, h7b⟩ := Prod.mk.inj (h7.trans al5_3)
 obtain ⟨rfl, rfl⟩ := Prod.mk.inj h7b
 refine ls (op (p_move rfl) rfl) ?_
 refine ls (op (p_ext rfl (by repeat' constructor)) rfl) ?_
 refine ls (op (p_ext rfl (by repeat' constructor)) rfl) ?_
 refine ls (op (p_ext rfl (by repeat' constructor)) rfl) ?_
 refine ls (op (p_asg rfl) rfl) ?_
 refine ls (op (p_asg rfl) rfl) ?_
 refine ls (op (p_asg rfl) rfl) ?_
 refine ln ?_
 refine nthen ?_
 refine cs ?_
 refine cr ?_
 refine ls (o_call (is := []) Tryz.call46 (c_tNew) rfl rfl (by repeat' (first | constructor | apply Sub.suf)) rfl) ?_
 refine le ?_; rintro ⟨p, b⟩
 refine ls (op (p_asg rfl) rfl) ?_
 refine ln ?_
 refine nthen ?_
 refine cs ?_
 refine cs ?_
 refine cr ?_
 refine ls (op (p_move rfl) rfl) ?_
 refine ls (op (p_ptrnil Tryz.underlying51 rfl rfl) rfl) ?_
 refine ln ?_
 refine nthen ?_
 refine cc rfl (fun h => by cases h) (fun h => ?_)
 refine cskip ?_
 refine nthen ?_
 refine cs ?_
 refine cmono (fun a w h => nilSl (α := ByteArray) h) ?_
 refine cr ?_
 refine ls (op (p_move rfl) rfl) ?_
 refine ls (op (p_bld sb70 rfl (Fill.t (by repeat' constructor) rfl rfl (by repeat' constructor) (Fill.t (by repeat' constructor) rfl rfl (by repeat' constructor) Fill.d))) rfl) ?_
 refine ls (op (p_bld sb70 rfl (Fill.t (by repeat' constructor) rfl rfl (by repeat' constructor) (Fill.t (by repeat' constructor) rfl rfl (by repeat' constructor) Fill.d))) rfl) ?_
 refine ls (o_bsl [pA, qB] Tryz.underlying25 Tryz.sizeOf70 Tryz.zeroValue70 rfl (Enum.t (Enum.t Enum.d)) (RV.t ((none, 0), (none, 0)) rfl (by repeat' (first | constructor | apply Sub.suf)) (RV.t ((none, 0), (none, 0)) rfl (by repeat' (first | constructor | apply Sub.suf)) RV.d)) rfl (by decide) (by decide) rfl) ?_
 refine le ?_; intro b47
 refine lmono (fun a w h => Go.Sx.freeze (i := 0) rfl h) ?_
 refine ls (o_call (is := [0, 0]) Tryz.call33 (c_seqApply p b [] 0 0 al5_i [pA, qB] _ _ (by decide) (by decide) al5_fAB (by decide) (by decide)) rfl rfl (by repeat' (first | constructor | apply Sub.suf)) rfl) ?_
 refine le ?_; rintro ⟨⟨T1, e1⟩, hq1⟩
 try dsimp only at hq1
 obtain ⟨rfl, rfl⟩ := Prod.mk.inj (hq1.trans al5_4)
 refine ls (op (p_asg rfl) rfl) ?_
 refine ln ?_
 refine nthen ?_
 refine cs ?_
 refine elC (by repeat' constructor) 0 ((show ([qR] : List Prim)[0]? = some qR from rfl)) ?_; rintro zbp zop zyp hAp
 refine cr ?_
 refine ls (op (p_move rfl) rfl) ?_
 refine ls (op (p_move rfl) rfl) ?_
 refine lwant rfl rfl rfl rfl (op (p_move rfl) rfl) ?_
 refine lwant rfl rfl rfl rfl (op (p_lenl rfl Tryz.underlying25) rfl) ?_
 refine lwant rfl rfl rfl rfl (op (p_icmp rfl rfl rfl) rfl) ?_
 refine fixL (congrArg Value.bool (decide_eq_true rfl)) ?_
 refine ls (op (p_pickt rfl rfl) rfl) ?_
 refine ls (op (p_move rfl) rfl) ?_
 refine lwant rfl rfl rfl rfl (op (p_move rfl) rfl) ?_
 refine lwant rfl rfl rfl rfl (op (p_ia 0 hAp Nat.zero_lt_one rfl Tryz.underlying25 Tryz.sizeOf70 rfl rfl) rfl) ?_
 refine lwant rfl rfl rfl rfl (op (p_fa fa70_3 rfl) rfl) ?_
 refine lwant rfl rfl rfl rfl (o_ldi Tryz.isAgg3 rfl (by repeat' constructor) 3 rfl (by repeat (first | exact Cut.d | apply Cut.t | apply Cut.s)) rfl) ?_
 refine lwant rfl rfl rfl rfl (op (p_icmp rfl rfl rfl) rfl) ?_
 refine fixL (congrArg Value.bool (decide_eq_true rfl)) ?_
 refine ls (op (p_pickt rfl rfl) rfl) ?_
 refine ls (op (p_move rfl) rfl) ?_
 refine lwant rfl rfl rfl rfl (op (p_move rfl) rfl) ?_
 refine lwant rfl rfl rfl rfl (op (p_move rfl) rfl) ?_
 refine lwant rfl rfl rfl rfl (o_call (is := []) Tryz.call16 (c_seqSame [qM] [qM] _ _ _ _ (by decide) al5_fM) rfl rfl (by repeat' (first | constructor | apply Sub.suf)) rfl) ?_
 refine le ?_; intro x65
 refine fixL (congrArg Value.bool (decide_eq_true rfl)) ?_
 refine ls (op (p_pickt rfl rfl) rfl) ?_
 refine ls (op (p_move rfl) rfl) ?_
 refine lwant rfl rfl rfl rfl (op (p_move rfl) rfl) ?_
 refine lwant rfl rfl rfl rfl (op (p_move rfl) rfl) ?_
 refine lwant rfl rfl rfl rfl (o_call (is := []) Tryz.call16 (c_seqSame [qX] [qX] _ _ _ _ (by decide) al5_fX) rfl rfl (by repeat' (first | constructor | apply Sub.suf)) rfl) ?_
 refine le ?_; intro x70
 refine fixL (congrArg Value.bool (decide_eq_true rfl)) ?_
 refine ls (op (p_pickt rfl rfl) rfl) ?_
 refine ls (op (p_move rfl) rfl) ?_
 refine lwant rfl rfl rfl rfl (op (p_move rfl) rfl) ?_
 refine ls (op (p_pickt rfl rfl) rfl) ?_
 refine ls (op (p_move rfl) rfl) ?_
 refine lwant rfl rfl rfl rfl (op (p_move rfl) rfl) ?_
 refine lwant rfl rfl rfl rfl (op (p_move rfl) rfl) ?_
 refine lwant rfl rfl rfl rfl (o_call (is := []) Tryz.call16 (c_seqSame [qM] [qM] _ _ _ _ (by decide) al5_fM) rfl rfl (by repeat' (first | constructor | apply Sub.suf)) rfl) ?_
 refine le ?_; intro x78
 refine fixL (congrArg Value.bool (decide_eq_true rfl)) ?_
 refine ls (op (p_pickt rfl rfl) rfl) ?_
 refine ls (op (p_move rfl) rfl) ?_
 refine lwant rfl rfl rfl rfl (op (p_move rfl) rfl) ?_
 refine lwant rfl rfl rfl rfl (op (p_move rfl) rfl) ?_
 refine lwant rfl rfl rfl rfl (o_call (is := []) Tryz.call16 (c_seqSame [qX] [qX] _ _ _ _ (by decide) al5_fX) rfl rfl (by repeat' (first | constructor | apply Sub.suf)) rfl) ?_
 refine le ?_; intro x83
 refine fixL (congrArg Value.bool (decide_eq_true rfl)) ?_
 refine ls (op (p_pickt rfl rfl) rfl) ?_
 refine ls (op (p_move rfl) rfl) ?_
 refine lwant rfl rfl rfl rfl (op (p_move rfl) rfl) ?_
 refine lwant rfl rfl rfl rfl (o_call (is := []) Tryz.call24 (c_seqInvertC [qX] _ _ (by decide) al5_fX) rfl rfl (by repeat' (first | constructor | apply Sub.suf)) rfl) ?_
 refine le ?_; rintro ⟨A87, c87⟩
 refine lwant rfl rfl rfl rfl (op (p_lenl rfl Tryz.underlying25) rfl) ?_
 refine lwant rfl rfl rfl rfl (op (p_icmp rfl rfl rfl) rfl) ?_
 refine fixL (congrArg Value.bool (decide_eq_true rfl)) ?_
 refine ls (op (p_pickt rfl rfl) rfl) ?_
 refine ls (op (p_move rfl) rfl) ?_
 refine lwant rfl rfl rfl rfl (op (p_move rfl) rfl) ?_
 refine lwant rfl rfl rfl rfl (op (p_icmp rfl rfl rfl) rfl) ?_
 refine fixL (congrArg Value.bool (decide_eq_true rfl)) ?_
 refine ls (op (p_pickt rfl rfl) rfl) ?_
 refine ls (op (p_move rfl) rfl) ?_
 refine lwant rfl rfl rfl rfl (op (p_move rfl) rfl) ?_
 refine lwant rfl rfl rfl rfl (o_call (is := [0, 0]) Tryz.call47 (c_tTextS p b [] (⟨#[]⟩ : ByteArray) rfl (by decide) al3_f0 (by decide) [] (fun x hx => by cases hx)) rfl rfl (by repeat' (first | constructor | apply Sub.suf)) rfl) ?_
 refine le ?_; intro x97
 refine lwant rfl rfl rfl rfl (op (p_seq rfl rfl) rfl) ?_
 refine fixL (congrArg Value.bool (decide_eq_true rfl)) ?_
 refine ls (op (p_pickt rfl rfl) rfl) ?_
 refine ls (op (p_move rfl) rfl) ?_
 refine lwant rfl rfl rfl rfl (op (p_move rfl) rfl) ?_
 refine lwant rfl rfl rfl rfl (o_call (is := []) Tryz.call14 (c_seqRight [qX] _ _ (by decide) al5_fX) rfl rfl (by repeat' (first | constructor | apply Sub.suf)) rfl) ?_
 refine le ?_; intro x102
 refine fixL (congrArg Value.bool al5_8) ?_
 refine ls (op (p_pickt rfl rfl) rfl) ?_
 refine ls (op (p_move rfl) rfl) ?_
 refine lwant rfl rfl rfl rfl (op (p_move rfl) rfl) ?_
 refine lwant rfl rfl rfl rfl (o_call (is := []) Tryz.call19 (c_seqNames [qX] _ _ (by decide)) rfl rfl (by repeat' (first | constructor | apply Sub.suf)) rfl) ?_
 refine le ?_; rintro ⟨A9, c9⟩
 rw [al5_5]
 refine lwant rfl rfl rfl rfl (o_bsl [(⟨#[97]⟩ : ByteArray)] Tryz.underlying32 Tryz.sizeOf9 Tryz.zeroValue9 rfl (Enum.t Enum.d) (RV.t () rfl Sub.d RV.d) rfl (by decide) (by decide) rfl) ?_
 refine le ?_; intro b107
 refine lmono (fun a w h => Go.Sx.freeze (i := 0) rfl h) ?_
 refine lwant rfl rfl rfl rfl (o_call (is := []) Tryz.call18 (c_lineSame [(⟨#[97]⟩ : ByteArray)] [(⟨#[97]⟩ : ByteArray)] _ _ _ _ (by decide)) rfl rfl (by repeat' (first | constructor | apply Sub.suf)) rfl) ?_
 refine le ?_; intro x108
 refine fixL (congrArg Value.bool (decide_eq_true rfl)) ?_
 refine ls (op (p_pickt rfl rfl) rfl) ?_
 refine ls (op (p_move rfl) rfl) ?_
 refine lwant rfl rfl rfl rfl (op (p_move rfl) rfl) ?_
 refine lwant rfl rfl rfl rfl (o_call (is := []) Tryz.call21 (c_seqTouches [qX] _ _ (by decide) (⟨#[97]⟩ : ByteArray)) rfl rfl (by repeat' (first | constructor | apply Sub.suf)) rfl) ?_
 refine le ?_; intro x112
 refine fixL (congrArg Value.bool al5_6) ?_
 refine ls (op (p_pickt rfl rfl) rfl) ?_
 refine ls (op (p_move rfl) rfl) ?_
 refine lwant rfl rfl rfl rfl (op (p_move rfl) rfl) ?_
 refine lwant rfl rfl rfl rfl (o_call (is := []) Tryz.call21 (c_seqTouches [qX] _ _ (by decide) (⟨#[98]⟩ : ByteArray)) rfl rfl (by repeat' (first | constructor | apply Sub.suf)) rfl) ?_
 refine le ?_; intro x116
 refine fixL (congrArg Value.bool al5_7) ?_
 refine lwant rfl rfl rfl rfl (op (p_not rfl) rfl) ?_
 refine ls (op (p_pickt rfl rfl) rfl) ?_
 refine ls (op (p_asg rfl) rfl) ?_
 refine ln ?_
 refine nthen ?_
 refine cret ?_
 refine xret (fun _ _ h => h) ?_
 refine rret (is := []) () (Or.inl rfl) (Res.t rfl Res.d) (rfl) rfl (by repeat' (first | constructor | apply Sub.suf))

end Go.Proofs.YtheamdahngfpdaaGreatDoor.X
