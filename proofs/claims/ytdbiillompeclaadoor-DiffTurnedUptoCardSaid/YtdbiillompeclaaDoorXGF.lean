/- OWN WORK: a part of the proof of a law of the seat YtdbiillompeclaaDoor: contracts. -/
import Derived.Test.YtdbiillompeclaaDoorProg
import Derived.Test.YtdbiillompeclaaDoorXGD
import Derived.Test.YtdbiillompeclaaDoorXGE
set_option linter.unusedVariables false
set_option linter.unusedSimpArgs false
namespace Go.Proofs.YtdbiillompeclaaDoor.X
open Go Go.RowKit Go.Proofs Go.Sx
attribute [local irreducible] slA isA box row
def mv6 (p q : Prim) : Prim := { q with pos := q.pos - ((p.new.length : Int) - p.old.length) }
theorem rep_set {k n : Nat} {s : ByteArray} (h : k < n) : (List.replicate k s ++ List.replicate (n - k) (⟨#[]⟩ : ByteArray)).set k s = List.replicate (k + 1) s ++ List.replicate (n - (k + 1)) ⟨#[]⟩ := by
 rw [List.set_append_right _ _ (by simp), List.length_replicate, Nat.sub_self, show n - k = (n - (k + 1)) + 1 by omega, List.replicate_succ, List.set_cons_zero, List.replicate_succ', List.append_assoc]
 rfl
theorem rep_done (k : Nat) (s : ByteArray) : List.replicate k s ++ List.replicate (k - k) (⟨#[]⟩ : ByteArray) = List.replicate k s := by simp
theorem al6_fit : Tfit [((⟨#[110]⟩ : ByteArray), ([] : List ByteArray))] := fun x hx => by rw [List.mem_singleton.1 hx]; exact Nat.zero_le _


set_option maxRecDepth 100000 in
theorem c_few06 (l m : List ByteArray) (A B : Option Addr) (c c' : Nat) (hA : A = none → c = 0) (hB : B = none → c' = 0) (hc : l.length ≤ c) (hc' : m.length ≤ c') (hl : l.length ≤ 1048576) (hm : m.length ≤ 1048576) (hs : sizes l + sizes m ≤ 1000000000000) : Con Tryd.prog 8 [.slice A l.length c, .slice B m.length c'] [] [slA A l, slA B m] Unit (fun _ => .bool (few6 l m)) (fun _ => []) (fun _ => []) := by
 refine con Tryd.func8 rfl Tryd.ntmps8 rfl ?_
 intro M0 F0 w0
 refine cs ?_
 refine cr ?_
 refine ls (op (p_asg rfl) rfl) ?_
 refine ln ?_
 refine nthen ?_
 refine cs ?_
 refine cr ?_
 refine ls (op (p_asg rfl) rfl) ?_
 refine ln ?_
 refine nthen ?_
 refine cs ?_
 refine cs ?_
 refine cmono (fun a w h => nilQ (y := (B, c')) hB h) ?_
 refine cmono (fun a w h => nilQ (y := (A, c)) hA h) ?_
 refine cr ?_
 refine ls (op (p_move rfl) rfl) ?_
 refine ls (op (p_move rfl) rfl) ?_
 refine ls (o_bsl [l, m] Tryd.underlying55 Tryd.sizeOf22 Tryd.zeroValue22 rfl (Enum.t (Enum.t Enum.d)) (RV.t (A, c) rfl (by repeat' (first | constructor | apply Sub.suf)) (RV.t (B, c') rfl (by repeat' (first | constructor | apply Sub.suf)) RV.d)) rfl (by decide) (by decide) rfl) ?_
 refine le ?_; intro b12
 refine lmono (fun a w h => Go.Sx.freeze (i := 0) rfl h) ?_
 refine ls (op (p_lenl rfl Tryd.underlying55) rfl) ?_
 refine ls (op (p_move rfl) rfl) ?_
 refine ln ?_
 refine nthen ?_
 refine cb ?_
 refine cl (ι := {q : Nat × Int // q.1 ≤ 2 ∧ q.2 = ((sz2 l m q.1 : Nat) : Int)}) (fun i => St M0 F0 w0 42 [(0, .slice A l.length c), (1, .slice B m.length c'), (5, .int .i64 i.1.2), (12, .slice (some ⟨b12, 0, none⟩) (([l, m] : List (List ByteArray)).length : Nat) (([l, m] : List (List ByteArray)).length : Nat)), (13, .int .i64 ((([l, m] : List (List ByteArray)).length : Nat) : Int)), (14, .int .i64 ((i.1.1 : Nat) : Int))] [] [slA A l, slA B m, slA (some ⟨b12, 0, none⟩) [l, m]]) (fun i => 2 - i.1.1) ⟨(0, 0), Nat.zero_le _, rfl⟩ (wk0 (by repeat (first | exact subσ.nil _ | refine subσ.cons rfl ?_)) (by repeat' (first | constructor | apply Sub.suf))) ?_
 rintro ⟨⟨k, n⟩, hk, hn⟩
 refine cmono (S' := St M0 F0 w0 42 [(0, .slice A l.length c), (1, .slice B m.length c'), (5, .int .i64 n), (12, .slice (some ⟨b12, 0, none⟩) (([l, m] : List (List ByteArray)).length : Nat) (([l, m] : List (List ByteArray)).length : Nat)), (13, .int .i64 ((([l, m] : List (List ByteArray)).length : Nat) : Int)), (14, .int .i64 ((k : Nat) : Int))] [] [slA A l, slA B m, slA (some ⟨b12, 0, none⟩) [l, m]]) (fun _ _ h => h) ?_
 refine cs ?_
 refine cr ?_
 refine ls (op (p_icmp rfl rfl rfl) rfl) ?_
 refine ln ?_
 refine nthen ?_
 refine cs ?_
 refine cc rfl ?_ ?_
 ·
  intro h15
  dsimp only at hk hn
  have hk1 : k < 2 := by have h := h15; simp at h; omega
  obtain ⟨r, hr, hr1, hr2, hr3⟩ := two_at (l := l) (m := m) hk1
  refine cskip ?_
  refine nthen ?_
  refine cs ?_
  refine cb ?_
  refine cs ?_
  refine elC (A := some ⟨b12, 0, none⟩) (l := [l, m]) (by repeat' constructor) k hr ?_; rintro zbp zop zyp hAp
  refine cr ?_
  refine ls (op (p_ia k hAp (show k < 2 from hk1) rfl Tryd.underlying55 Tryd.sizeOf22 rfl rfl) rfl) ?_
  refine ls (o_ldi Tryd.isAgg22 rfl (by repeat' constructor) 0 rfl (by repeat (first | exact Cut.d | apply Cut.t | apply Cut.s)) rfl) ?_
  refine ls (op (p_asg rfl) rfl) ?_
  refine ln ?_
  refine nthen ?_
  refine cs ?_
  refine cr ?_
  refine ls (op (p_move rfl) rfl) ?_
  refine ls (op (p_lenl rfl Tryd.underlying22) rfl) ?_
  refine ls (op (p_move rfl) rfl) ?_
  refine ln ?_
  refine nthen ?_
  refine cb ?_
  refine cl (ι := {q : Nat × Int // q.1 ≤ r.length ∧ q.2 = n + ((sizes (r.take q.1) : Nat) : Int)}) (fun i => St M0 F0 w0 42 [(0, .slice A l.length c), (1, .slice B m.length c'), (5, .int .i64 i.1.2), (12, .slice (some ⟨b12, 0, none⟩) (([l, m] : List (List ByteArray)).length : Nat) (([l, m] : List (List ByteArray)).length : Nat)), (13, .int .i64 ((([l, m] : List (List ByteArray)).length : Nat) : Int)), (14, .int .i64 ((k : Nat) : Int)), (18, .slice zyp.1 r.length zyp.2), (19, .int .i64 ((r.length : Nat) : Int)), (20, .int .i64 ((i.1.1 : Nat) : Int))] [] [slA zyp.1 r, slA A l, slA B m, slA (some ⟨b12, 0, none⟩) [l, m]]) (fun i => r.length - i.1.1) ⟨(0, n), Nat.zero_le _, by simp [sizes]⟩ (wk0 (by repeat (first | exact subσ.nil _ | refine subσ.cons rfl ?_)) (by repeat' (first | constructor | apply Sub.suf))) ?_
  rintro ⟨⟨j, u⟩, hj, hu⟩
  refine cmono (S' := St M0 F0 w0 42 [(0, .slice A l.length c), (1, .slice B m.length c'), (5, .int .i64 u), (12, .slice (some ⟨b12, 0, none⟩) (([l, m] : List (List ByteArray)).length : Nat) (([l, m] : List (List ByteArray)).length : Nat)), (13, .int .i64 ((([l, m] : List (List ByteArray)).length : Nat) : Int)), (14, .int .i64 ((k : Nat) : Int)), (18, .slice zyp.1 r.length zyp.2), (19, .int .i64 ((r.length : Nat) : Int)), (20, .int .i64 ((j : Nat) : Int))] [] [slA zyp.1 r, slA A l, slA B m, slA (some ⟨b12, 0, none⟩) [l, m]]) (fun _ _ h => h) ?_
  refine cs ?_
  refine cr ?_
  refine ls (op (p_icmp rfl rfl rfl) rfl) ?_
  refine ln ?_
  refine nthen ?_
  refine cs ?_
  refine cc rfl ?_ ?_
  ·
   intro h21
   dsimp only at hj hu
   try simp only [decide_eq_true_eq, decide_eq_false_iff_not, Bool.not_eq_true', Bool.not_eq_false', Int.not_lt, Int.not_le, ge_iff_le, Bool.not_true, Bool.not_false] at h21
   have hj1 : j < r.length := by omega
   have ej1 := sizes_succ hj1
   have ej2 := sizes_le r (j + 1)
   refine cskip ?_
   refine nthen ?_
   refine cs ?_
   refine cb ?_
   refine cs ?_
   refine elC (A := zyp.1) (l := r) (by repeat' constructor) j (List.getElem?_eq_getElem hj1) ?_; rintro zbq zoq zyq hAq
   refine cr ?_
   refine ls (op (p_ia j hAq hj1 rfl Tryd.underlying22 Tryd.sizeOf9 rfl rfl) rfl) ?_
   refine ls (o_ldi Tryd.isAgg9 rfl (by repeat' constructor) 0 rfl (by repeat (first | exact Cut.d | apply Cut.t | apply Cut.s)) rfl) ?_
   refine ls (op (p_asg rfl) rfl) ?_
   refine ln ?_
   refine nthen ?_
   refine cr ?_
   refine ls (op (p_move rfl) rfl) ?_
   refine ls (op (p_move rfl) rfl) ?_
   refine ls (op (p_lens rfl Tryd.underlying9) rfl) ?_
   refine ls (op (p_add rfl rfl (by omega)) rfl) ?_
   refine ls (op (p_asg rfl) rfl) ?_
   refine ln ?_
   refine nblock ?_
   refine nthen ?_
   refine cr ?_
   refine ls (op (p_add rfl rfl (by omega)) rfl) ?_
   refine ls (op (p_move rfl) rfl) ?_
   refine ln ?_
   refine nnext ⟨(j + 1, u + (r[j].size : Int)), hj1, by dsimp only; omega⟩ (by dsimp only; omega) (wk (is := []) (by repeat (first | exact subσ.nil _ | refine subσ.cons rfl ?_)) rfl (by repeat' (first | constructor | apply Sub.suf)))
  ·
   intro h21
   dsimp only at hj hu
   try simp only [decide_eq_true_eq, decide_eq_false_iff_not, Bool.not_eq_true', Bool.not_eq_false', Int.not_lt, Int.not_le, ge_iff_le, Bool.not_true, Bool.not_false] at h21
   rw [List.take_of_length_le (by omega)] at hu
   refine cexit ?_
   refine xthen ?_
   refine xthen ?_
   refine xblock ?_
   refine nblock ?_
   refine nthen ?_
   refine cr ?_
   refine ls (op (p_add rfl rfl (by omega)) rfl) ?_
   refine ls (op (p_move rfl) rfl) ?_
   refine ln ?_
   refine nnext ⟨(k + 1, u), hk1, by dsimp only; omega⟩ (by dsimp only; omega) (wk (is := []) (by repeat (first | exact subσ.nil _ | refine subσ.cons rfl ?_)) rfl (by repeat' (first | constructor | apply Sub.suf)))
 ·
  intro h15
  dsimp only at hk hn
  obtain rfl : k = 2 := by have h := h15; simp at h; omega
  rw [sz2_all] at hn
  refine cexit ?_
  refine xthen ?_
  refine xthen ?_
  refine xblock ?_
  refine nthen ?_
  refine cs ?_
  refine cr ?_
  refine ls (op (p_move rfl) rfl) ?_
  refine ls (op (p_lenl rfl Tryd.underlying22) rfl) ?_
  refine ls (op (p_icmp rfl rfl rfl) rfl) ?_
  refine ls (op (p_move rfl) rfl) ?_
  refine andX 4 33 37 rfl (subσ.cons (t := 0) rfl (subσ.cons (t := 1) rfl (subσ.cons (t := 5) rfl (subσ.cons (t := 12) rfl (subσ.cons (t := 13) rfl (subσ.cons (t := 14) rfl (subσ.cons (t := 15) rfl (subσ.nil _)))))))) ?_ ?_
  ·
   intro h33
   refine lskip rfl rfl rfl rfl rfl ?_
   refine lskip rfl rfl rfl rfl rfl ?_
   refine lskip rfl rfl rfl rfl rfl ?_
   refine ls (op (p_pickf rfl rfl) rfl) ?_
   refine ln (nmid (wk0 (by repeat (first | exact subσ.nil _ | refine subσ.cons rfl ?_)) (by repeat' (first | constructor | apply Sub.suf))))
  apply exI
  ·
   intro h33
   refine lwant rfl rfl rfl rfl (op (p_move rfl) rfl) ?_
   refine lwant rfl rfl rfl rfl (op (p_lenl rfl Tryd.underlying22) rfl) ?_
   refine lwant rfl rfl rfl rfl (op (p_icmp rfl rfl rfl) rfl) ?_
   refine ls (op (p_pickt rfl rfl) rfl) ?_
   refine ln (nmid (wk0 (by repeat (first | exact subσ.nil _ | refine subσ.cons rfl ?_)) (by repeat' (first | constructor | apply Sub.suf))))
  ·
   refine ls (op (p_move rfl) rfl) ?_
   refine andX 3 38 41 rfl (subσ.cons (t := 0) rfl (subσ.cons (t := 1) rfl (subσ.cons (t := 5) rfl (subσ.cons (t := 12) rfl (subσ.cons (t := 13) rfl (subσ.cons (t := 14) rfl (subσ.cons (t := 15) rfl (subσ.nil _)))))))) ?_ ?_
   ·
    intro h38
    refine lskip rfl rfl rfl rfl rfl ?_
    refine lskip rfl rfl rfl rfl rfl ?_
    refine ls (op (p_pickf rfl rfl) rfl) ?_
    refine ln (nmid (wk0 (by repeat (first | exact subσ.nil _ | refine subσ.cons rfl ?_)) (by repeat' (first | constructor | apply Sub.suf))))
   apply exI
   ·
    intro h38
    refine lwant rfl rfl rfl rfl (op (p_move rfl) rfl) ?_
    refine lwant rfl rfl rfl rfl (op (p_icmp rfl rfl rfl) rfl) ?_
    refine ls (op (p_pickt rfl rfl) rfl) ?_
    refine ln (nmid (wk0 (by repeat (first | exact subσ.nil _ | refine subσ.cons rfl ?_)) (by repeat' (first | constructor | apply Sub.suf))))
   ·
    refine ls (op (p_asg rfl) rfl) ?_
    refine ln ?_
    refine nthen ?_
    refine cret ?_
    refine xret (fun _ _ h => h) ?_
    refine rret (is := []) () (Or.inl rfl) (Res.t rfl Res.d) ?_ rfl (by repeat' (first | constructor | apply Sub.suf))
    rw [hn]; rfl

set_option maxRecDepth 100000 in
theorem c_alive06 : Con Tryd.prog 9 [] [] [] Unit (fun _ => .bool (true)) (fun _ => []) (fun _ => []) := by
 refine con Tryd.func9 rfl Tryd.ntmps9 rfl ?_
 intro M0 F0 w0
 refine cs ?_
 refine cr ?_
 refine ls (op (p_asg rfl) rfl) ?_
 refine ln ?_
 refine nthen ?_
 refine cs ?_
 refine cr ?_
 refine ls (o_bsl [(⟨#[120]⟩ : ByteArray), (⟨#[121]⟩ : ByteArray), (⟨#[122]⟩ : ByteArray)] Tryd.underlying22 Tryd.sizeOf9 Tryd.zeroValue9 rfl (Enum.t (Enum.t (Enum.t Enum.d))) (RV.t () rfl (by repeat' (first | constructor | apply Sub.suf)) (RV.t () rfl (by repeat' (first | constructor | apply Sub.suf)) (RV.t () rfl (by repeat' (first | constructor | apply Sub.suf)) RV.d))) rfl (by decide) (by decide) rfl) ?_
 refine le ?_; intro b7
 refine lmono (fun a w h => Go.Sx.freeze (i := 0) rfl h) ?_
 refine ls (o_bsl [(⟨#[120]⟩ : ByteArray), (⟨#[113]⟩ : ByteArray), (⟨#[122]⟩ : ByteArray)] Tryd.underlying22 Tryd.sizeOf9 Tryd.zeroValue9 rfl (Enum.t (Enum.t (Enum.t Enum.d))) (RV.t () rfl (by repeat' (first | constructor | apply Sub.suf)) (RV.t () rfl (by repeat' (first | constructor | apply Sub.suf)) (RV.t () rfl (by repeat' (first | constructor | apply Sub.suf)) RV.d))) rfl (by decide) (by decide) rfl) ?_
 refine le ?_; intro b8
 refine lmono (fun a w h => Go.Sx.freeze (i := 0) rfl h) ?_
 refine ls (op (p_asg rfl) rfl) ?_
 refine ls (op (p_asg rfl) rfl) ?_
 refine ln ?_
 refine nthen ?_
 refine cs ?_
 refine cr ?_
 refine ls (op (p_move rfl) rfl) ?_
 refine ls (op (p_move rfl) rfl) ?_
 refine ls (o_call (is := []) Tryd.call14 (c_dLines (⟨#[97]⟩ : ByteArray) [(⟨#[120]⟩ : ByteArray), (⟨#[121]⟩ : ByteArray), (⟨#[122]⟩ : ByteArray)] [(⟨#[120]⟩ : ByteArray), (⟨#[113]⟩ : ByteArray), (⟨#[122]⟩ : ByteArray)] (some ⟨b7, 0, none⟩) (some ⟨b8, 0, none⟩) 3 3 (by decide) (by decide) (by decide) (by decide)) rfl rfl (by repeat' (first | constructor | apply Sub.suf)) rfl) ?_
 refine le ?_; rintro ⟨A11, c11⟩
 refine lmono (fun a w h => rowEq (α := Prim) (by repeat' constructor) al6_lines (by repeat' constructor) h) ?_
 refine lmono (fun a w h => Go.Sx.freeze (i := 0) rfl h) ?_
 refine fixL (slen (m' := [al6p].length) (congrArg List.length al6_lines)) ?_
 refine ls (op (p_asg rfl) rfl) ?_
 refine ln ?_
 refine nthen ?_
 refine cs ?_
 refine cr ?_
 refine ls (op (p_move rfl) rfl) ?_
 refine ls (op (p_move rfl) rfl) ?_
 refine ls (o_call (is := []) Tryd.call10 (c_dCommon [(⟨#[120]⟩ : ByteArray), (⟨#[121]⟩ : ByteArray), (⟨#[122]⟩ : ByteArray)] [(⟨#[120]⟩ : ByteArray), (⟨#[113]⟩ : ByteArray), (⟨#[122]⟩ : ByteArray)] (some ⟨b7, 0, none⟩) (some ⟨b8, 0, none⟩) 3 3 (by decide) (by decide)) rfl rfl (by repeat' (first | constructor | apply Sub.suf)) rfl) ?_
 refine le ?_; rintro ⟨⟨o, ⟨A14, c14⟩⟩, hq1, hq2⟩
 dsimp only at hq1 hq2
 obtain rfl : o = [(0, 0), (2, 2)] := (hq2 (by kernel_rfl)).eq.trans al6_comm
 refine lmono (fun a w h => Go.Sx.freeze (i := 0) rfl h) ?_
 refine ls (op (p_asg rfl) rfl) ?_
 refine ln ?_
 refine nthen ?_
 refine cs ?_
 refine cr ?_
 refine ls (o_call (is := []) Tryd.call24 (c_tNew) rfl rfl (by repeat' (first | constructor | apply Sub.suf)) rfl) ?_
 refine le ?_; rintro ⟨p, b⟩
 refine ls (op (p_asg rfl) rfl) ?_
 refine ln ?_
 refine nthen ?_
 refine cs ?_
 refine cs ?_
 refine cr ?_
 refine ls (op (p_move rfl) rfl) ?_
 refine ls (op (p_ptrnil Tryd.underlying39 rfl rfl) rfl) ?_
 refine ln ?_
 refine nthen ?_
 refine cc rfl (fun h => by cases h) (fun h => ?_)
 refine cskip ?_
 refine nthen ?_
 refine cs ?_
 refine cr ?_
 refine ls (op (p_move rfl) rfl) ?_
 refine ls (o_call (is := [0, 0]) Tryd.call25 (c_tAdd p b [] (⟨#[110]⟩ : ByteArray)) rfl rfl (by repeat' (first | constructor | apply Sub.suf)) rfl) ?_
 refine le ?_; rintro ⟨⟨T1, e1⟩, hq⟩
 try dsimp only at hq
 obtain ⟨rfl, rfl⟩ := Prod.mk.inj (al6_add.symm.trans hq.symm)
 refine ln ?_
 refine nthen ?_
 refine cs ?_
 refine cr ?_
 refine ls (op (p_move rfl) rfl) ?_
 refine ls (o_call (is := [0, 0]) Tryd.call19 (c_dTreesN p b [((⟨#[110]⟩ : ByteArray), ([] : List ByteArray))] al6_fit (by decide) al6_sor) rfl rfl (by repeat' (first | constructor | apply Sub.suf)) rfl) ?_
 refine le ?_; rintro ⟨A21, c21⟩
 refine lmono (fun a w h => rowEq (α := Prim) (by repeat' constructor) al6_trees (by repeat' constructor) h) ?_
 refine lmono (fun a w h => Go.Sx.freeze (i := 0) rfl h) ?_
 refine fixL (slen (m' := [pAd (⟨#[110]⟩ : ByteArray)].length) (congrArg List.length al6_trees)) ?_
 refine ls (op (p_asg rfl) rfl) ?_
 refine ln ?_
 refine nthen ?_
 refine cs ?_
 refine elC (A := A11) (l := [al6p]) (by repeat' constructor) 0 (rfl) ?_; rintro zbl zol zyl hAl
 refine elC (A := zyl.1.1) (l := [(⟨#[121]⟩ : ByteArray)]) (by repeat' constructor) 0 (rfl) ?_; rintro zbo zoo zyo hAo
 refine elC (A := zyl.2.1) (l := [(⟨#[113]⟩ : ByteArray)]) (by repeat' constructor) 0 (rfl) ?_; rintro zbn zon zyn hAn
 refine elC (A := A14) (l := ([(0, 0), (2, 2)] : List (Nat × Nat))) (by repeat' constructor) 1 (rfl) ?_; rintro zbc zoc zyc hAc
 refine elC (A := A21) (l := [pAd (⟨#[110]⟩ : ByteArray)]) (by repeat' constructor) 0 (rfl) ?_; rintro zbm zom zym hAm
 refine cr ?_
 refine ls (op (p_move rfl) rfl) ?_
 refine ls (op (p_lenl rfl Tryd.underlying34) rfl) ?_
 refine ls (op (p_icmp rfl rfl rfl) rfl) ?_
 refine fixL (congrArg Value.bool (decide_eq_true rfl)) ?_
 refine ls (op (p_move rfl) rfl) ?_
 refine lwant rfl rfl rfl rfl (op (p_move rfl) rfl) ?_
 refine lwant rfl rfl rfl rfl (op (p_ia 0 hAl (by decide) rfl Tryd.underlying34 Tryd.sizeOf51 rfl rfl) rfl) ?_
 refine lwant rfl rfl rfl rfl (op (p_fa fa51_3 rfl) rfl) ?_
 refine lwant rfl rfl rfl rfl (o_ldi Tryd.isAgg3 rfl (by repeat' constructor) 3 rfl (by repeat (first | exact Cut.d | apply Cut.t | apply Cut.s)) rfl) ?_
 refine lwant rfl rfl rfl rfl (op (p_icmp rfl rfl rfl) rfl) ?_
 refine fixL (congrArg Value.bool (decide_eq_true rfl)) ?_
 refine ls (op (p_pickt rfl rfl) rfl) ?_
 refine ls (op (p_move rfl) rfl) ?_
 refine lwant rfl rfl rfl rfl (op (p_move rfl) rfl) ?_
 refine lwant rfl rfl rfl rfl (op (p_ia 0 hAl (by decide) rfl Tryd.underlying34 Tryd.sizeOf51 rfl rfl) rfl) ?_
 refine lwant rfl rfl rfl rfl (op (p_fa fa51_4 rfl) rfl) ?_
 refine lwant rfl rfl rfl rfl (o_ldi Tryd.isAgg22 rfl (by repeat' constructor) 4 rfl (by repeat (first | exact Cut.d | apply Cut.t | apply Cut.s)) rfl) ?_
 refine lwant rfl rfl rfl rfl (op (p_lenl rfl Tryd.underlying22) rfl) ?_
 refine lwant rfl rfl rfl rfl (op (p_icmp rfl rfl rfl) rfl) ?_
 refine fixL (congrArg Value.bool (decide_eq_true rfl)) ?_
 refine ls (op (p_pickt rfl rfl) rfl) ?_
 refine ls (op (p_move rfl) rfl) ?_
 refine lwant rfl rfl rfl rfl (op (p_move rfl) rfl) ?_
 refine lwant rfl rfl rfl rfl (op (p_ia 0 hAl (by decide) rfl Tryd.underlying34 Tryd.sizeOf51 rfl rfl) rfl) ?_
 refine lwant rfl rfl rfl rfl (op (p_fa fa51_4 rfl) rfl) ?_
 refine lwant rfl rfl rfl rfl (o_ldi Tryd.isAgg22 rfl (by repeat' constructor) 4 rfl (by repeat (first | exact Cut.d | apply Cut.t | apply Cut.s)) rfl) ?_
 refine lwant rfl rfl rfl rfl (op (p_ia 0 hAo (by decide) rfl Tryd.underlying22 Tryd.sizeOf9 rfl rfl) rfl) ?_
 refine lwant rfl rfl rfl rfl (o_ldi Tryd.isAgg9 rfl (by repeat' constructor) 0 rfl (by repeat (first | exact Cut.d | apply Cut.t | apply Cut.s)) rfl) ?_
 refine lwant rfl rfl rfl rfl (op (p_seq rfl rfl) rfl) ?_
 refine fixL (congrArg Value.bool (decide_eq_true rfl)) ?_
 refine ls (op (p_pickt rfl rfl) rfl) ?_
 refine ls (op (p_move rfl) rfl) ?_
 refine lwant rfl rfl rfl rfl (op (p_move rfl) rfl) ?_
 refine lwant rfl rfl rfl rfl (op (p_ia 0 hAl (by decide) rfl Tryd.underlying34 Tryd.sizeOf51 rfl rfl) rfl) ?_
 refine lwant rfl rfl rfl rfl (op (p_fa fa51_5 rfl) rfl) ?_
 refine lwant rfl rfl rfl rfl (o_ldi Tryd.isAgg22 rfl (by repeat' constructor) 5 rfl (by repeat (first | exact Cut.d | apply Cut.t | apply Cut.s)) rfl) ?_
 refine lwant rfl rfl rfl rfl (op (p_ia 0 hAn (by decide) rfl Tryd.underlying22 Tryd.sizeOf9 rfl rfl) rfl) ?_
 refine lwant rfl rfl rfl rfl (o_ldi Tryd.isAgg9 rfl (by repeat' constructor) 0 rfl (by repeat (first | exact Cut.d | apply Cut.t | apply Cut.s)) rfl) ?_
 refine lwant rfl rfl rfl rfl (op (p_seq rfl rfl) rfl) ?_
 refine fixL (congrArg Value.bool (decide_eq_true rfl)) ?_
 refine ls (op (p_pickt rfl rfl) rfl) ?_
 refine ls (op (p_move rfl) rfl) ?_
 refine lwant rfl rfl rfl rfl (op (p_move rfl) rfl) ?_
 refine lwant rfl rfl rfl rfl (op (p_lenl rfl Tryd.underlying25) rfl) ?_
 refine lwant rfl rfl rfl rfl (op (p_icmp rfl rfl rfl) rfl) ?_
 refine fixL (congrArg Value.bool (decide_eq_true rfl)) ?_
 refine ls (op (p_pickt rfl rfl) rfl) ?_
 refine ls (op (p_move rfl) rfl) ?_
 refine lwant rfl rfl rfl rfl (op (p_move rfl) rfl) ?_
 refine lwant rfl rfl rfl rfl (op (p_ia 1 hAc (show 1 < ([(0, 0), (2, 2)] : List (Nat × Nat)).length by decide) rfl Tryd.underlying25 Tryd.sizeOf31 rfl rfl) rfl) ?_
 refine lwant rfl rfl rfl rfl (o_ldj Tryd.isAgg31 Tryd.sizeOf31 rfl (by repeat' constructor) 0 rfl (by repeat (first | exact Cut.d | apply Cut.t | apply Cut.s)) rfl) ?_
 refine lwant rfl rfl rfl rfl (op (p_bld sb31 rfl (Fill.t (by repeat' constructor) rfl rfl (by repeat' constructor) (Fill.t (by repeat' constructor) rfl rfl (by repeat' constructor) Fill.d))) rfl) ?_
 refine lwant rfl rfl rfl rfl (op (p_eqst2 Tryd.underlying31 (by kernel_rfl) rfl rfl rfl rfl rfl rfl Tryd.underlying3 Tryd.isAgg3 (by kernel_rfl) rfl rfl) rfl) ?_
 refine fixL (v' := .bool true) rfl ?_
 refine ls (op (p_pickt rfl rfl) rfl) ?_
 refine ls (op (p_move rfl) rfl) ?_
 refine lwant rfl rfl rfl rfl (op (p_move rfl) rfl) ?_
 refine lwant rfl rfl rfl rfl (o_call (is := []) Tryd.call13 (c_dCost [al6p] A11 c11 (by decide) (by decide)) rfl rfl (by repeat' (first | constructor | apply Sub.suf)) rfl) ?_
 refine le ?_; intro x72
 refine lwant rfl rfl rfl rfl (op (p_icmp rfl rfl rfl) rfl) ?_
 refine fixL (congrArg Value.bool (decide_eq_true rfl)) ?_
 refine ls (op (p_pickt rfl rfl) rfl) ?_
 refine ls (op (p_move rfl) rfl) ?_
 refine lwant rfl rfl rfl rfl (op (p_move rfl) rfl) ?_
 refine lwant rfl rfl rfl rfl (op (p_lenl rfl Tryd.underlying34) rfl) ?_
 refine lwant rfl rfl rfl rfl (op (p_icmp rfl rfl rfl) rfl) ?_
 refine fixL (congrArg Value.bool (decide_eq_true rfl)) ?_
 refine ls (op (p_pickt rfl rfl) rfl) ?_
 refine ls (op (p_move rfl) rfl) ?_
 refine lwant rfl rfl rfl rfl (op (p_move rfl) rfl) ?_
 refine lwant rfl rfl rfl rfl (op (p_ia 0 hAm (by decide) rfl Tryd.underlying34 Tryd.sizeOf51 rfl rfl) rfl) ?_
 refine lwant rfl rfl rfl rfl (op (p_fa fa51_0 rfl) rfl) ?_
 refine lwant rfl rfl rfl rfl (o_ldi Tryd.isAgg3 rfl (by repeat' constructor) 0 rfl (by repeat (first | exact Cut.d | apply Cut.t | apply Cut.s)) rfl) ?_
 refine lwant rfl rfl rfl rfl (op (p_icmp rfl rfl rfl) rfl) ?_
 refine fixL (congrArg Value.bool (decide_eq_true rfl)) ?_
 refine ls (op (p_pickt rfl rfl) rfl) ?_
 refine ls (op (p_move rfl) rfl) ?_
 refine lwant rfl rfl rfl rfl (op (p_move rfl) rfl) ?_
 refine lwant rfl rfl rfl rfl (op (p_ia 0 hAm (by decide) rfl Tryd.underlying34 Tryd.sizeOf51 rfl rfl) rfl) ?_
 refine lwant rfl rfl rfl rfl (op (p_fa fa51_1 rfl) rfl) ?_
 refine lwant rfl rfl rfl rfl (o_ldi Tryd.isAgg9 rfl (by repeat' constructor) 1 rfl (by repeat (first | exact Cut.d | apply Cut.t | apply Cut.s)) rfl) ?_
 refine lwant rfl rfl rfl rfl (op (p_seq rfl rfl) rfl) ?_
 refine fixL (congrArg Value.bool (decide_eq_true rfl)) ?_
 refine ls (op (p_pickt rfl rfl) rfl) ?_
 refine ls (op (p_asg rfl) rfl) ?_
 refine ln ?_
 refine nthen ?_
 refine cret ?_
 refine xret (fun _ _ h => h) ?_
 refine rret (is := []) () (Or.inl rfl) (Res.t rfl Res.d) (rfl) rfl (by repeat' (first | constructor | apply Sub.suf))

set_option maxRecDepth 100000 in
theorem c_DiffCommon (l m : List ByteArray) (A B : Option Addr) (c c' : Nat) (hA : A = none → c = 0) (hB : B = none → c' = 0) (hc : l.length ≤ c) (hc' : m.length ≤ c') (hl : l.length ≤ 1048576) (hm : m.length ≤ 1048576) (hs : sizes l + sizes m ≤ 1000000000000) : Con Tryd.prog 3 [.slice A l.length c, .slice B m.length c'] [] [slA A l, slA B m] Unit (fun _ => .bool (true)) (fun _ => []) (fun _ => []) := by
 refine con Tryd.func3 rfl Tryd.ntmps3 rfl ?_
 intro M0 F0 w0
 refine cs ?_
 refine cr ?_
 refine ls (op (p_asg rfl) rfl) ?_
 refine ln ?_
 refine nthen ?_
 refine cs ?_
 refine cs ?_
 refine cr ?_
 refine ls (op (p_move rfl) rfl) ?_
 refine ls (op (p_move rfl) rfl) ?_
 refine ls (o_call (is := []) Tryd.call8 (c_few06 l m A B c c' hA hB hc hc' hl hm hs) rfl rfl (by repeat' (first | constructor | apply Sub.suf)) rfl) ?_
 refine le ?_; intro x11
 refine ls (op (p_not rfl) rfl) ?_
 refine ln ?_
 refine nthen ?_
 refine cc rfl ?_ ?_
 ·
  intro h12
  skip
  refine cs ?_
  refine cr ?_
  refine ls (o_call (is := []) Tryd.call9 (c_alive06) rfl rfl (by repeat' (first | constructor | apply Sub.suf)) rfl) ?_
  refine le ?_; intro x13
  refine ls (op (p_asg rfl) rfl) ?_
  refine ln ?_
  refine nthen ?_
  refine cret ?_
  refine xret (fun _ _ h => h) ?_
  refine rret (is := []) () (Or.inl rfl) (Res.t rfl Res.d) (rfl) rfl (by repeat' (first | constructor | apply Sub.suf))
 ·
  intro h12
  have hf : few6 l m = true := by have h := h12; simpa using h
  have hf1 := few6_yes hf
  obtain ⟨hg1, hg2, hg3⟩ := few6_long hf
  refine cskip ?_
  refine nthen ?_
  refine cs ?_
  refine cr ?_
  refine ls (op (p_move rfl) rfl) ?_
  refine ls (op (p_move rfl) rfl) ?_
  refine ls (o_call (is := []) Tryd.call10 (c_dCommon l m A B c c' (by omega) (by omega)) rfl rfl (by repeat' (first | constructor | apply Sub.suf)) rfl) ?_
  refine le ?_; rintro ⟨⟨o, ⟨A16, c16⟩⟩, hq1, hq2⟩
  dsimp only at hq1 hq2
  obtain rfl := (hq2 hg1).eq
  refine lmono (fun a w h => Go.Sx.freeze (i := 0) rfl h) ?_
  refine ls (op (p_move rfl) rfl) ?_
  refine ls (op (p_move rfl) rfl) ?_
  refine ls (o_call (is := []) Tryd.call11 (c_rCommon l m A B c c' (by omega) (by omega)) rfl rfl (by repeat' (first | constructor | apply Sub.suf)) rfl) ?_
  refine le ?_; rintro ⟨⟨o, ⟨A19, c19⟩⟩, hq3, hq4⟩
  dsimp only at hq3 hq4
  obtain rfl := (hq4 hg1).eq
  refine lmono (fun a w h => Go.Sx.freeze (i := 0) rfl h) ?_
  have hcl := (commF_spec l m).len
  have hcl2 := lcs_lenl l m
  refine ls (op (p_asg rfl) rfl) ?_
  refine ls (op (p_asg rfl) rfl) ?_
  refine ln ?_
  refine nthen ?_
  refine cs ?_
  refine cs ?_
  refine cr ?_
  refine ls (op (p_move rfl) rfl) ?_
  refine ls (op (p_lenl rfl Tryd.underlying25) rfl) ?_
  refine ls (op (p_move rfl) rfl) ?_
  refine ls (op (p_lenl rfl Tryd.underlying27) rfl) ?_
  refine ls (op (p_icmp rfl rfl rfl) rfl) ?_
  refine fixL (v' := .bool false) (by simp) ?_
  refine ls (op (p_move rfl) rfl) ?_
  refine lwant rfl rfl rfl rfl (op (p_move rfl) rfl) ?_
  refine lwant rfl rfl rfl rfl (op (p_lenl rfl Tryd.underlying25) rfl) ?_
  refine lwant rfl rfl rfl rfl (op (p_move rfl) rfl) ?_
  refine lwant rfl rfl rfl rfl (op (p_move rfl) rfl) ?_
  refine lwant rfl rfl rfl rfl (o_call (is := []) Tryd.call12 (c_rMany l m A B c c' (by omega) (by omega)) rfl rfl (by repeat' (first | constructor | apply Sub.suf)) rfl) ?_
  refine le ?_; intro x30
  refine lwant rfl rfl rfl rfl (op (p_icmp rfl rfl rfl) rfl) ?_
  refine fixL (v' := .bool false) (by rw [hcl]; simp) ?_
  refine ls (op (p_pickf rfl rfl) rfl) ?_
  refine ln ?_
  refine nthen ?_
  refine cc rfl (fun h => by cases h) (fun h => ?_)
  refine cskip ?_
  refine nthen ?_
  refine cs ?_
  refine cs ?_
  refine cr ?_
  refine ls (op (p_move rfl) rfl) ?_
  refine ls (op (p_lenl rfl Tryd.underlying25) rfl) ?_
  refine ls (op (p_move rfl) rfl) ?_
  refine ln ?_
  refine nthen ?_
  refine cb ?_
  refine cl (ι := {k : Nat // k ≤ (commF l m).length}) (fun i => St M0 F0 w0 87 [(0, .slice A l.length c), (1, .slice B m.length c'), (5, .slice A16 (commF l m).length c16), (6, .slice A19 (commF l m).length c19), (33, .slice A16 (commF l m).length c16), (34, .int .i64 (((commF l m).length : Nat) : Int)), (35, .int .i64 ((i.1 : Nat) : Int))] [] [slA A l, slA B m, slA A16 (commF l m), slA A19 (commF l m)]) (fun i => (commF l m).length - i.1) ⟨0, Nat.zero_le _⟩ (wk (is := []) (by repeat (first | exact subσ.nil _ | refine subσ.cons rfl ?_)) rfl (by repeat' (first | constructor | apply Sub.suf))) ?_
  rintro ⟨k, hk⟩
  refine cmono (S' := St M0 F0 w0 87 [(0, .slice A l.length c), (1, .slice B m.length c'), (5, .slice A16 (commF l m).length c16), (6, .slice A19 (commF l m).length c19), (33, .slice A16 (commF l m).length c16), (34, .int .i64 (((commF l m).length : Nat) : Int)), (35, .int .i64 ((k : Nat) : Int))] [] [slA A l, slA B m, slA A16 (commF l m), slA A19 (commF l m)]) (fun _ _ h => h) ?_
  refine cs ?_
  refine cr ?_
  refine ls (op (p_icmp rfl rfl rfl) rfl) ?_
  refine ln ?_
  refine nthen ?_
  refine cs ?_
  refine cc rfl ?_ ?_
  ·
   intro h36
   try simp only [decide_eq_true_eq, decide_eq_false_iff_not, Bool.not_eq_true', Bool.not_eq_false', Int.not_lt, Int.not_le, ge_iff_le, Bool.not_true, Bool.not_false] at h36
   have hk1 : k < (commF l m).length := by omega
   obtain ⟨ha1, hb1, hab⟩ := comm_at hk1
   refine cskip ?_
   refine nthen ?_
   refine cs ?_
   refine cb ?_
   refine cs ?_
   refine elC (A := A16) (l := commF l m) (by repeat' constructor) k (List.getElem?_eq_getElem hk1) ?_; rintro zbp zop zyp hAp
   refine cr ?_
   refine ls (op (p_move rfl) rfl) ?_
   refine ls (op (p_ia k hAp hk1 rfl Tryd.underlying25 Tryd.sizeOf31 rfl rfl) rfl) ?_
   refine ls (o_ldj Tryd.isAgg31 Tryd.sizeOf31 rfl (by repeat' constructor) 0 rfl (by repeat (first | exact Cut.d | apply Cut.t | apply Cut.s)) rfl) ?_
   refine ls (o_alloc Tryd.zeroValue31 rfl rfl) ?_
   refine le ?_; intro b8
   refine ls (op (p_asg rfl) rfl) ?_
   refine ls (o_st rfl Tryd.sizeOf31 rfl rfl rfl rfl rfl (by repeat' constructor) (by repeat' constructor) (by repeat' constructor)) ?_
   refine ln ?_
   refine nthen ?_
   refine cs ?_
   rcases k with _ | k
   ·
    refine elC (A := A19) (l := commF l m) (by repeat' constructor) 0 (List.getElem?_eq_getElem hk1) ?_; rintro zbr zor zyr hAr
    refine elC (A := A) (l := l) (by repeat' constructor) ((commF l m)[0]).1 (List.getElem?_eq_getElem ha1) ?_; rintro zba zoa zya hAa
    refine elC (A := B) (l := m) (by repeat' constructor) ((commF l m)[0]).2 (List.getElem?_eq_getElem hb1) ?_; rintro zbb zob zyb hAb
    refine cdB [] [(0, b8, 0, _), (4, zbr, zor + 0 * Rp.size (Nat × Nat), _), (9, b8, 0, _), (11, zba, zoa + ((commF l m)[0]).1 * Rp.size ByteArray, _), (14, b8, 1, _), (16, zbb, zob + ((commF l m)[0]).2 * Rp.size ByteArray, _)] TrydX.mixed (by kernel_rfl) (by kernel_rfl) (TOk.t (isBoxS (by repeat' constructor) (k := 2) (by repeat (first | exact Cut.d | apply Cut.t | apply Cut.s))) (TOk.t (isInS (by repeat' constructor) (k := 0) rfl (z := 2) (by repeat (first | exact Cut.d | apply Cut.t | apply Cut.s))) (TOk.t (isBoxS (by repeat' constructor) (k := 1) (by repeat (first | exact Cut.d | apply Cut.t | apply Cut.s))) (TOk.t (isInS (by repeat' constructor) (k := 0) rfl (z := 1) (by repeat (first | exact Cut.d | apply Cut.t | apply Cut.s))) (TOk.t (isBoxS (by repeat' constructor) (k := 1) (by repeat (first | exact Cut.d | apply Cut.t | apply Cut.s))) (TOk.t (isInS (by repeat' constructor) (k := 0) rfl (z := 1) (by repeat (first | exact Cut.d | apply Cut.t | apply Cut.s))) TOk.d)))))) ?_
    refine tkB 0 rfl (by kernel_rfl) (fun _ _ _ h => h) gnone (TTat (List.Mem.head _)) (p_lda Tryd.isAgg31 Tryd.sizeOf31 rfl rfl) rfl ?_
    refine tkB 1 rfl (by kernel_rfl) (fun _ _ _ h => h) gnone (TTany _) (p_move rfl) rfl ?_
    refine tkB 2 rfl (by kernel_rfl) (fun _ _ _ h => h) gnone (TTany _) (p_move rfl) rfl ?_
    refine tkB 3 rfl (by kernel_rfl) (fun _ _ _ h => h) gnone (TTany _) (p_ia 0 hAr hk1 rfl Tryd.underlying27 Tryd.sizeOf32 rfl rfl) rfl ?_
    refine tkB 4 rfl (by kernel_rfl) (fun _ _ _ h => h) gnone (TTat (List.Mem.tail _ (List.Mem.head _))) (p_lda Tryd.isAgg32 Tryd.sizeOf32 rfl rfl) rfl ?_
    refine tkB 5 rfl (by kernel_rfl) (fun _ _ _ h => h) gnone (TTany _) (p_nest2 Tryd.underlying32 (by kernel_rfl) rfl rfl rfl rfl rfl rfl Tryd.underlying3 Tryd.isAgg3 (by kernel_rfl) rfl rfl) rfl ?_
    refine fixB (v' := .bool false) (by simp) ?_
    refine tkB 6 rfl (by kernel_rfl) (fun _ _ _ h => h) gnone (TTany _) (p_move rfl) rfl ?_
    refine tkB 7 rfl (by kernel_rfl) (fun _ _ _ h => h) (gyes rfl rfl rfl rfl) (TTany _) (p_move rfl) rfl ?_
    refine tkB 8 rfl (by kernel_rfl) (fun _ _ _ h => h) (gyes rfl rfl rfl rfl) (TTany _) (p_fa fa31_0 rfl) rfl ?_
    refine tkB 9 rfl (by kernel_rfl) (fun _ _ _ h => h) (gyes rfl rfl rfl rfl) (TTat (List.Mem.tail _ (List.Mem.tail _ (List.Mem.head _)))) (p_ld Tryd.isAgg3 rfl) rfl ?_
    refine tkB 10 rfl (by kernel_rfl) (fun _ _ _ h => h) (gyes rfl rfl rfl rfl) (TTany _) (p_ia ((commF l m)[0]).1 hAa ha1 rfl Tryd.underlying22 Tryd.sizeOf9 rfl rfl) rfl ?_
    refine tkB 11 rfl (by kernel_rfl) (fun _ _ _ h => h) (gyes rfl rfl rfl rfl) (TTat (List.Mem.tail _ (List.Mem.tail _ (List.Mem.tail _ (List.Mem.head _))))) (p_ld Tryd.isAgg9 rfl) rfl ?_
    refine tkB 12 rfl (by kernel_rfl) (fun _ _ _ h => h) (gyes rfl rfl rfl rfl) (TTany _) (p_move rfl) rfl ?_
    refine tkB 13 rfl (by kernel_rfl) (fun _ _ _ h => h) (gyes rfl rfl rfl rfl) (TTany _) (p_fa fa31_1 rfl) rfl ?_
    refine tkB 14 rfl (by kernel_rfl) (fun _ _ _ h => h) (gyes rfl rfl rfl rfl) (TTat (List.Mem.tail _ (List.Mem.tail _ (List.Mem.tail _ (List.Mem.tail _ (List.Mem.head _)))))) (p_ld Tryd.isAgg3 rfl) rfl ?_
    refine tkB 15 rfl (by kernel_rfl) (fun _ _ _ h => h) (gyes rfl rfl rfl rfl) (TTany _) (p_ia ((commF l m)[0]).2 hAb hb1 rfl Tryd.underlying22 Tryd.sizeOf9 rfl rfl) rfl ?_
    refine tkB 16 rfl (by kernel_rfl) (fun _ _ _ h => h) (gyes rfl rfl rfl rfl) (TTat (List.Mem.tail _ (List.Mem.tail _ (List.Mem.tail _ (List.Mem.tail _ (List.Mem.tail _ (List.Mem.head _))))))) (p_ld Tryd.isAgg9 rfl) rfl ?_
    refine tkB 17 rfl (by kernel_rfl) (fun _ _ _ h => h) (gyes rfl rfl rfl rfl) (TTany _) (p_sne rfl rfl) rfl ?_
    refine fixB (v' := .bool false) (by rw [decide_eq_true hab]; rfl) ?_
    refine tkB 18 rfl (by kernel_rfl) (fun _ _ _ h => h) gnone (TTany _) (p_pickf rfl rfl) rfl ?_
    refine tkB 19 rfl (by kernel_rfl) (fun _ _ _ h => h) gnone (TTany _) (p_move rfl) rfl ?_
    refine tkB 20 rfl (by kernel_rfl) (fun _ _ _ h => h) (gyes rfl rfl rfl rfl) (TTany _) (p_move rfl) rfl ?_
    refine tkB 21 rfl (by kernel_rfl) (fun _ _ _ h => h) (gyes rfl rfl rfl rfl) (TTany _) (p_icmp rfl rfl rfl) rfl ?_
    refine fixB (v' := .bool false) rfl ?_
    refine tkB 22 rfl (by kernel_rfl) (fun _ _ _ h => h) (gyes rfl rfl rfl rfl) (TTany _) (p_move rfl) rfl ?_
    refine tksB 23 rfl (by kernel_rfl) (fun _ _ _ h => h) rfl rfl rfl rfl rfl ?_
    refine tksB 24 rfl (by kernel_rfl) (fun _ _ _ h => h) rfl rfl rfl rfl rfl ?_
    refine tksB 25 rfl (by kernel_rfl) (fun _ _ _ h => h) rfl rfl rfl rfl rfl ?_
    refine tksB 26 rfl (by kernel_rfl) (fun _ _ _ h => h) rfl rfl rfl rfl rfl ?_
    refine tksB 27 rfl (by kernel_rfl) (fun _ _ _ h => h) rfl rfl rfl rfl rfl ?_
    refine tksB 28 rfl (by kernel_rfl) (fun _ _ _ h => h) rfl rfl rfl rfl rfl ?_
    refine tksB 29 rfl (by kernel_rfl) (fun _ _ _ h => h) rfl rfl rfl rfl rfl ?_
    refine tksB 30 rfl (by kernel_rfl) (fun _ _ _ h => h) rfl rfl rfl rfl rfl ?_
    refine tksB 31 rfl (by kernel_rfl) (fun _ _ _ h => h) rfl rfl rfl rfl rfl ?_
    refine tksB 32 rfl (by kernel_rfl) (fun _ _ _ h => h) rfl rfl rfl rfl rfl ?_
    refine tksuB 33 rfl (by kernel_rfl) (fun _ _ _ h => h) rfl rfl rfl rfl ?_
    refine tksuB 34 rfl (by kernel_rfl) (fun _ _ _ h => h) rfl rfl rfl rfl ?_
    refine tksuB 35 rfl (by kernel_rfl) (fun _ _ _ h => h) rfl rfl rfl rfl ?_
    refine tksuB 36 rfl (by kernel_rfl) (fun _ _ _ h => h) rfl rfl rfl rfl ?_
    refine tksuB 37 rfl (by kernel_rfl) (fun _ _ _ h => h) rfl rfl rfl rfl ?_
    refine tksuB 38 rfl (by kernel_rfl) (fun _ _ _ h => h) rfl rfl rfl rfl ?_
    refine tksuB 39 rfl (by kernel_rfl) (fun _ _ _ h => h) rfl rfl rfl rfl ?_
    refine tksuB 40 rfl (by kernel_rfl) (fun _ _ _ h => h) rfl rfl rfl rfl ?_
    refine tksuB 41 rfl (by kernel_rfl) (fun _ _ _ h => h) rfl rfl rfl rfl ?_
    refine tksB 42 rfl (by kernel_rfl) (fun _ _ _ h => h) rfl rfl rfl rfl rfl ?_
    refine tkB 43 rfl (by kernel_rfl) (fun _ _ _ h => h) (gyes rfl rfl rfl rfl) (TTany _) (p_pickf rfl rfl) rfl ?_
    refine tkB 44 rfl (by kernel_rfl) (fun _ _ _ h => h) gnone (TTany _) (p_pickf rfl rfl) rfl ?_
    refine dnB (by kernel_rfl) ?_
    refine nthen ?_
    refine cc rfl (fun h => by cases h) (fun h => ?_)
    refine cskip ?_
    refine nblock ?_
    refine nthen ?_
    refine cr ?_
    refine ls (op (p_add rfl rfl (by omega)) rfl) ?_
    refine ls (op (p_move rfl) rfl) ?_
    refine ln ?_
    refine nnext ⟨0 + 1, hk1⟩ (by dsimp only; omega) (wk (is := []) (by repeat (first | exact subσ.nil _ | refine subσ.cons rfl ?_)) rfl (by repeat' (first | constructor | apply Sub.suf)))
   ·
    refine elC (A := A19) (l := commF l m) (by repeat' constructor) (k + 1) (List.getElem?_eq_getElem hk1) ?_; rintro zbr zor zyr hAr
    refine elC (A := A) (l := l) (by repeat' constructor) ((commF l m)[k + 1]).1 (List.getElem?_eq_getElem ha1) ?_; rintro zba zoa zya hAa
    refine elC (A := B) (l := m) (by repeat' constructor) ((commF l m)[k + 1]).2 (List.getElem?_eq_getElem hb1) ?_; rintro zbb zob zyb hAb
    obtain ⟨hu1, hu2⟩ := comm_up hk1
    refine elC (A := A16) (l := commF l m) (by repeat' constructor) k (List.getElem?_eq_getElem (by omega : k < (commF l m).length)) ?_; rintro zbq zoq zyq hAq
    refine cdB [] [(0, b8, 0, _), (4, zbr, zor + (k + 1) * Rp.size (Nat × Nat), _), (9, b8, 0, _), (11, zba, zoa + ((commF l m)[k + 1]).1 * Rp.size ByteArray, _), (14, b8, 1, _), (16, zbb, zob + ((commF l m)[k + 1]).2 * Rp.size ByteArray, _), (24, b8, 0, _), (30, zbq, zoq + k * Rp.size (Nat × Nat), _), (34, b8, 1, _), (40, zbq, zoq + k * Rp.size (Nat × Nat) + 1, _)] TrydX.mixed (by kernel_rfl) (by kernel_rfl) (TOk.t (isBoxS (by repeat' constructor) (k := 2) (by repeat (first | exact Cut.d | apply Cut.t | apply Cut.s))) (TOk.t (isInS (by repeat' constructor) (k := 0) rfl (z := 2) (by repeat (first | exact Cut.d | apply Cut.t | apply Cut.s))) (TOk.t (isBoxS (by repeat' constructor) (k := 1) (by repeat (first | exact Cut.d | apply Cut.t | apply Cut.s))) (TOk.t (isInS (by repeat' constructor) (k := 0) rfl (z := 1) (by repeat (first | exact Cut.d | apply Cut.t | apply Cut.s))) (TOk.t (isBoxS (by repeat' constructor) (k := 1) (by repeat (first | exact Cut.d | apply Cut.t | apply Cut.s))) (TOk.t (isInS (by repeat' constructor) (k := 0) rfl (z := 1) (by repeat (first | exact Cut.d | apply Cut.t | apply Cut.s))) (TOk.t (isBoxS (by repeat' constructor) (k := 1) (by repeat (first | exact Cut.d | apply Cut.t | apply Cut.s))) (TOk.t (isInS (by repeat' constructor) (k := 0) rfl (z := 1) (by repeat (first | exact Cut.d | apply Cut.t | apply Cut.s))) (TOk.t (isBoxS (by repeat' constructor) (k := 1) (by repeat (first | exact Cut.d | apply Cut.t | apply Cut.s))) (TOk.t (isInS (by repeat' constructor) (k := 1) rfl (z := 1) (by repeat (first | exact Cut.d | apply Cut.t | apply Cut.s))) TOk.d)))))))))) ?_
    refine tkB 0 rfl (by kernel_rfl) (fun _ _ _ h => h) gnone (TTat (List.Mem.head _)) (p_lda Tryd.isAgg31 Tryd.sizeOf31 rfl rfl) rfl ?_
    refine tkB 1 rfl (by kernel_rfl) (fun _ _ _ h => h) gnone (TTany _) (p_move rfl) rfl ?_
    refine tkB 2 rfl (by kernel_rfl) (fun _ _ _ h => h) gnone (TTany _) (p_move rfl) rfl ?_
    refine tkB 3 rfl (by kernel_rfl) (fun _ _ _ h => h) gnone (TTany _) (p_ia (k + 1) hAr hk1 rfl Tryd.underlying27 Tryd.sizeOf32 rfl rfl) rfl ?_
    refine tkB 4 rfl (by kernel_rfl) (fun _ _ _ h => h) gnone (TTat (List.Mem.tail _ (List.Mem.head _))) (p_lda Tryd.isAgg32 Tryd.sizeOf32 rfl rfl) rfl ?_
    refine tkB 5 rfl (by kernel_rfl) (fun _ _ _ h => h) gnone (TTany _) (p_nest2 Tryd.underlying32 (by kernel_rfl) rfl rfl rfl rfl rfl rfl Tryd.underlying3 Tryd.isAgg3 (by kernel_rfl) rfl rfl) rfl ?_
    refine fixB (v' := .bool false) (by simp) ?_
    refine tkB 6 rfl (by kernel_rfl) (fun _ _ _ h => h) gnone (TTany _) (p_move rfl) rfl ?_
    refine tkB 7 rfl (by kernel_rfl) (fun _ _ _ h => h) (gyes rfl rfl rfl rfl) (TTany _) (p_move rfl) rfl ?_
    refine tkB 8 rfl (by kernel_rfl) (fun _ _ _ h => h) (gyes rfl rfl rfl rfl) (TTany _) (p_fa fa31_0 rfl) rfl ?_
    refine tkB 9 rfl (by kernel_rfl) (fun _ _ _ h => h) (gyes rfl rfl rfl rfl) (TTat (List.Mem.tail _ (List.Mem.tail _ (List.Mem.head _)))) (p_ld Tryd.isAgg3 rfl) rfl ?_
    refine tkB 10 rfl (by kernel_rfl) (fun _ _ _ h => h) (gyes rfl rfl rfl rfl) (TTany _) (p_ia ((commF l m)[k + 1]).1 hAa ha1 rfl Tryd.underlying22 Tryd.sizeOf9 rfl rfl) rfl ?_
    refine tkB 11 rfl (by kernel_rfl) (fun _ _ _ h => h) (gyes rfl rfl rfl rfl) (TTat (List.Mem.tail _ (List.Mem.tail _ (List.Mem.tail _ (List.Mem.head _))))) (p_ld Tryd.isAgg9 rfl) rfl ?_
    refine tkB 12 rfl (by kernel_rfl) (fun _ _ _ h => h) (gyes rfl rfl rfl rfl) (TTany _) (p_move rfl) rfl ?_
    refine tkB 13 rfl (by kernel_rfl) (fun _ _ _ h => h) (gyes rfl rfl rfl rfl) (TTany _) (p_fa fa31_1 rfl) rfl ?_
    refine tkB 14 rfl (by kernel_rfl) (fun _ _ _ h => h) (gyes rfl rfl rfl rfl) (TTat (List.Mem.tail _ (List.Mem.tail _ (List.Mem.tail _ (List.Mem.tail _ (List.Mem.head _)))))) (p_ld Tryd.isAgg3 rfl) rfl ?_
    refine tkB 15 rfl (by kernel_rfl) (fun _ _ _ h => h) (gyes rfl rfl rfl rfl) (TTany _) (p_ia ((commF l m)[k + 1]).2 hAb hb1 rfl Tryd.underlying22 Tryd.sizeOf9 rfl rfl) rfl ?_
    refine tkB 16 rfl (by kernel_rfl) (fun _ _ _ h => h) (gyes rfl rfl rfl rfl) (TTat (List.Mem.tail _ (List.Mem.tail _ (List.Mem.tail _ (List.Mem.tail _ (List.Mem.tail _ (List.Mem.head _))))))) (p_ld Tryd.isAgg9 rfl) rfl ?_
    refine tkB 17 rfl (by kernel_rfl) (fun _ _ _ h => h) (gyes rfl rfl rfl rfl) (TTany _) (p_sne rfl rfl) rfl ?_
    refine fixB (v' := .bool false) (by rw [decide_eq_true hab]; rfl) ?_
    refine tkB 18 rfl (by kernel_rfl) (fun _ _ _ h => h) gnone (TTany _) (p_pickf rfl rfl) rfl ?_
    refine tkB 19 rfl (by kernel_rfl) (fun _ _ _ h => h) gnone (TTany _) (p_move rfl) rfl ?_
    refine tkB 20 rfl (by kernel_rfl) (fun _ _ _ h => h) (gyes rfl rfl rfl rfl) (TTany _) (p_move rfl) rfl ?_
    refine tkB 21 rfl (by kernel_rfl) (fun _ _ _ h => h) (gyes rfl rfl rfl rfl) (TTany _) (p_icmp rfl rfl rfl) rfl ?_
    refine fixB (congrArg Value.bool (decide_eq_true (by omega))) ?_
    refine tkB 22 rfl (by kernel_rfl) (fun _ _ _ h => h) (gyes rfl rfl rfl rfl) (TTany _) (p_move rfl) rfl ?_
    refine tkB 23 rfl (by kernel_rfl) (fun _ _ _ h => h) (gyes rfl rfl rfl rfl) (TTany _) (p_fa fa31_0 rfl) rfl ?_
    refine tkB 24 rfl (by kernel_rfl) (fun _ _ _ h => h) (gyes rfl rfl rfl rfl) (TTat (List.Mem.tail _ (List.Mem.tail _ (List.Mem.tail _ (List.Mem.tail _ (List.Mem.tail _ (List.Mem.tail _ (List.Mem.head _)))))))) (p_ld Tryd.isAgg3 rfl) rfl ?_
    refine tkB 25 rfl (by kernel_rfl) (fun _ _ _ h => h) (gyes rfl rfl rfl rfl) (TTany _) (p_move rfl) rfl ?_
    refine tkB 26 rfl (by kernel_rfl) (fun _ _ _ h => h) (gyes rfl rfl rfl rfl) (TTany _) (p_move rfl) rfl ?_
    refine tkB 27 rfl (by kernel_rfl) (fun _ _ _ h => h) (gyes rfl rfl rfl rfl) (TTany _) (p_sub rfl rfl (by omega)) rfl ?_
    refine tkB 28 rfl (by kernel_rfl) (fun _ _ _ h => h) (gyes rfl rfl rfl rfl) (TTany _) (p_ia k hAq (by omega) (by omega) Tryd.underlying25 Tryd.sizeOf31 rfl rfl) rfl ?_
    refine tkB 29 rfl (by kernel_rfl) (fun _ _ _ h => h) (gyes rfl rfl rfl rfl) (TTany _) (p_fa fa31_0 rfl) rfl ?_
    refine tkB 30 rfl (by kernel_rfl) (fun _ _ _ h => h) (gyes rfl rfl rfl rfl) (TTat (List.Mem.tail _ (List.Mem.tail _ (List.Mem.tail _ (List.Mem.tail _ (List.Mem.tail _ (List.Mem.tail _ (List.Mem.tail _ (List.Mem.head _))))))))) (p_ld Tryd.isAgg3 rfl) rfl ?_
    refine tkB 31 rfl (by kernel_rfl) (fun _ _ _ h => h) (gyes rfl rfl rfl rfl) (TTany _) (p_icmp rfl rfl rfl) rfl ?_
    refine fixB (congrArg Value.bool (decide_eq_false (by omega))) ?_
    refine tkB 32 rfl (by kernel_rfl) (fun _ _ _ h => h) (gyes rfl rfl rfl rfl) (TTany _) (p_move rfl) rfl ?_
    refine tkB 33 rfl (by kernel_rfl) (fun _ _ _ h => h) (gyes rfl rfl rfl rfl) (TTany _) (p_fa fa31_1 rfl) rfl ?_
    refine tkB 34 rfl (by kernel_rfl) (fun _ _ _ h => h) (gyes rfl rfl rfl rfl) (TTat (List.Mem.tail _ (List.Mem.tail _ (List.Mem.tail _ (List.Mem.tail _ (List.Mem.tail _ (List.Mem.tail _ (List.Mem.tail _ (List.Mem.tail _ (List.Mem.head _)))))))))) (p_ld Tryd.isAgg3 rfl) rfl ?_
    refine tkB 35 rfl (by kernel_rfl) (fun _ _ _ h => h) (gyes rfl rfl rfl rfl) (TTany _) (p_move rfl) rfl ?_
    refine tkB 36 rfl (by kernel_rfl) (fun _ _ _ h => h) (gyes rfl rfl rfl rfl) (TTany _) (p_move rfl) rfl ?_
    refine tkB 37 rfl (by kernel_rfl) (fun _ _ _ h => h) (gyes rfl rfl rfl rfl) (TTany _) (p_sub rfl rfl (by omega)) rfl ?_
    refine tkB 38 rfl (by kernel_rfl) (fun _ _ _ h => h) (gyes rfl rfl rfl rfl) (TTany _) (p_ia k hAq (by omega) (by omega) Tryd.underlying25 Tryd.sizeOf31 rfl rfl) rfl ?_
    refine tkB 39 rfl (by kernel_rfl) (fun _ _ _ h => h) (gyes rfl rfl rfl rfl) (TTany _) (p_fa fa31_1 rfl) rfl ?_
    refine tkB 40 rfl (by kernel_rfl) (fun _ _ _ h => h) (gyes rfl rfl rfl rfl) (TTat (List.Mem.tail _ (List.Mem.tail _ (List.Mem.tail _ (List.Mem.tail _ (List.Mem.tail _ (List.Mem.tail _ (List.Mem.tail _ (List.Mem.tail _ (List.Mem.tail _ (List.Mem.head _))))))))))) (p_ld Tryd.isAgg3 rfl) rfl ?_
    refine tkB 41 rfl (by kernel_rfl) (fun _ _ _ h => h) (gyes rfl rfl rfl rfl) (TTany _) (p_icmp rfl rfl rfl) rfl ?_
    refine fixB (congrArg Value.bool (decide_eq_false (by omega))) ?_
    refine tkB 42 rfl (by kernel_rfl) (fun _ _ _ h => h) (gyes rfl rfl rfl rfl) (TTany _) (p_pickf rfl rfl) rfl ?_
    refine tkB 43 rfl (by kernel_rfl) (fun _ _ _ h => h) (gyes rfl rfl rfl rfl) (TTany _) (p_pickt rfl rfl) rfl ?_
    refine tkB 44 rfl (by kernel_rfl) (fun _ _ _ h => h) gnone (TTany _) (p_pickf rfl rfl) rfl ?_
    refine dnB (by kernel_rfl) ?_
    refine nthen ?_
    refine cc rfl (fun h => by cases h) (fun h => ?_)
    refine cskip ?_
    refine nblock ?_
    refine nthen ?_
    refine cr ?_
    refine ls (op (p_add rfl rfl (by omega)) rfl) ?_
    refine ls (op (p_move rfl) rfl) ?_
    refine ln ?_
    refine nnext ⟨k + 1 + 1, hk1⟩ (by dsimp only; omega) (wk (is := []) (by repeat (first | exact subσ.nil _ | refine subσ.cons rfl ?_)) rfl (by repeat' (first | constructor | apply Sub.suf)))
  ·
   intro h36
   skip
   refine cexit ?_
   refine xthen ?_
   refine xthen ?_
   refine xblock ?_
   refine nthen ?_
   refine cs ?_
   refine cr ?_
   refine ls (o_call (is := []) Tryd.call9 (c_alive06) rfl rfl (by repeat' (first | constructor | apply Sub.suf)) rfl) ?_
   refine le ?_; intro x86
   refine ls (op (p_asg rfl) rfl) ?_
   refine ln ?_
   refine nthen ?_
   refine cret ?_
   refine xret (fun _ _ h => h) ?_
   refine rret (is := []) () (Or.inl rfl) (Res.t rfl Res.d) (rfl) rfl (by repeat' (first | constructor | apply Sub.suf))

set_option maxRecDepth 100000 in
theorem c_DiffLeast (l m : List ByteArray) (A B : Option Addr) (c c' : Nat) (hA : A = none → c = 0) (hB : B = none → c' = 0) (hc : l.length ≤ c) (hc' : m.length ≤ c') (hl : l.length ≤ 1048576) (hm : m.length ≤ 1048576) (hs : sizes l + sizes m ≤ 1000000000000) : Con Tryd.prog 4 [.slice A l.length c, .slice B m.length c'] [] [slA A l, slA B m] Unit (fun _ => .bool (true)) (fun _ => []) (fun _ => []) := by
 refine con Tryd.func4 rfl Tryd.ntmps4 rfl ?_
 intro M0 F0 w0
 refine cs ?_
 refine cr ?_
 refine ls (op (p_asg rfl) rfl) ?_
 refine ln ?_
 refine nthen ?_
 refine cs ?_
 refine cs ?_
 refine cr ?_
 refine ls (op (p_move rfl) rfl) ?_
 refine ls (op (p_move rfl) rfl) ?_
 refine ls (o_call (is := []) Tryd.call8 (c_few06 l m A B c c' hA hB hc hc' hl hm hs) rfl rfl (by repeat' (first | constructor | apply Sub.suf)) rfl) ?_
 refine le ?_; intro x8
 refine ls (op (p_not rfl) rfl) ?_
 refine ln ?_
 refine nthen ?_
 refine cc rfl ?_ ?_
 ·
  intro h9
  skip
  refine cs ?_
  refine cr ?_
  refine ls (o_call (is := []) Tryd.call9 (c_alive06) rfl rfl (by repeat' (first | constructor | apply Sub.suf)) rfl) ?_
  refine le ?_; intro x10
  refine ls (op (p_asg rfl) rfl) ?_
  refine ln ?_
  refine nthen ?_
  refine cret ?_
  refine xret (fun _ _ h => h) ?_
  refine rret (is := []) () (Or.inl rfl) (Res.t rfl Res.d) (rfl) rfl (by repeat' (first | constructor | apply Sub.suf))
 ·
  intro h9
  have hf : few6 l m = true := by have h := h9; simpa using h
  have hf1 := few6_yes hf
  obtain ⟨hg1, hg2, hg3⟩ := few6_long hf
  have hcs := cost_lines (nm := (⟨#[97]⟩ : ByteArray)) hg1
  have hct := cost_turn (nm := (⟨#[97]⟩ : ByteArray)) hg1 hg2
  refine cskip ?_
  refine nthen ?_
  refine cs ?_
  refine cr ?_
  refine ls (op (p_move rfl) rfl) ?_
  refine ls (op (p_move rfl) rfl) ?_
  refine ls (o_call (is := []) Tryd.call14 (c_dLines (⟨#[97]⟩ : ByteArray) l m A B c c' (by omega) (by omega) hc hc') rfl rfl (by repeat' (first | constructor | apply Sub.suf)) rfl) ?_
  refine le ?_; rintro ⟨A13, c13⟩
  refine lmono (fun a w h => Go.Sx.freeze (i := 0) rfl h) ?_
  refine ls (o_call (is := []) Tryd.call13 (c_dCost (linesT (⟨#[97]⟩ : ByteArray) l m) A13 c13 (by have := linesT_len (⟨#[97]⟩ : ByteArray) l m; omega) (by have := lines_cost_le (nm := (⟨#[97]⟩ : ByteArray)) (l := l) (m := m); omega)) rfl rfl (by repeat' (first | constructor | apply Sub.suf)) rfl) ?_
  refine le ?_; intro x14
  refine ls (op (p_asg rfl) rfl) ?_
  refine ln ?_
  refine nthen ?_
  refine cs ?_
  refine cr ?_
  refine ls (o_call (is := []) Tryd.call9 (c_alive06) rfl rfl (by repeat' (first | constructor | apply Sub.suf)) rfl) ?_
  refine le ?_; intro x15
  refine ls (op (p_move rfl) rfl) ?_
  refine lwant rfl rfl rfl rfl (op (p_move rfl) rfl) ?_
  refine lwant rfl rfl rfl rfl (op (p_move rfl) rfl) ?_
  refine lwant rfl rfl rfl rfl (op (p_lenl rfl Tryd.underlying22) rfl) ?_
  refine lwant rfl rfl rfl rfl (op (p_move rfl) rfl) ?_
  refine lwant rfl rfl rfl rfl (op (p_lenl rfl Tryd.underlying22) rfl) ?_
  refine lwant rfl rfl rfl rfl (op (p_add rfl rfl (by omega)) rfl) ?_
  refine lwant rfl rfl rfl rfl (op (p_move rfl) rfl) ?_
  refine lwant rfl rfl rfl rfl (op (p_move rfl) rfl) ?_
  refine lwant rfl rfl rfl rfl (o_call (is := []) Tryd.call12 (c_rMany l m A B c c' (by omega) (by omega)) rfl rfl (by repeat' (first | constructor | apply Sub.suf)) rfl) ?_
  refine le ?_; intro x25
  refine lwant rfl rfl rfl rfl (op (p_mul rfl rfl (by have := lcs_lenl l m; omega)) rfl) ?_
  refine lwant rfl rfl rfl rfl (op (p_sub rfl rfl (by omega)) rfl) ?_
  refine lwant rfl rfl rfl rfl (op (p_icmp rfl rfl rfl) rfl) ?_
  refine fixL (congrArg Value.bool (decide_eq_true (by omega))) ?_
  refine ls (op (p_pickt rfl rfl) rfl) ?_
  refine ls (op (p_move rfl) rfl) ?_
  refine lwant rfl rfl rfl rfl (op (p_move rfl) rfl) ?_
  refine lwant rfl rfl rfl rfl (op (p_move rfl) rfl) ?_
  refine lwant rfl rfl rfl rfl (o_call (is := []) Tryd.call14 (c_dLines (⟨#[97]⟩ : ByteArray) l l A A c c (by omega) (by omega) hc hc) rfl rfl (by repeat' (first | constructor | apply Sub.suf)) rfl) ?_
  refine le ?_; rintro ⟨A33, c33⟩
  refine fixL (slen (m' := ([] : List Prim).length) (congrArg List.length (lines_same hg3))) ?_
  refine lwant rfl rfl rfl rfl (op (p_lenl rfl Tryd.underlying34) rfl) ?_
  refine lwant rfl rfl rfl rfl (op (p_icmp rfl rfl rfl) rfl) ?_
  refine fixL (congrArg Value.bool (decide_eq_true rfl)) ?_
  refine ls (op (p_pickt rfl rfl) rfl) ?_
  refine ls (op (p_move rfl) rfl) ?_
  refine lwant rfl rfl rfl rfl (op (p_move rfl) rfl) ?_
  refine lwant rfl rfl rfl rfl (op (p_move rfl) rfl) ?_
  refine lwant rfl rfl rfl rfl (op (p_move rfl) rfl) ?_
  refine lwant rfl rfl rfl rfl (o_call (is := []) Tryd.call14 (c_dLines (⟨#[97]⟩ : ByteArray) m l B A c' c (by omega) (by omega) hc' hc) rfl rfl (by repeat' (first | constructor | apply Sub.suf)) rfl) ?_
  refine le ?_; rintro ⟨A41, c41⟩
  refine lmono (fun a w h => Go.Sx.freeze (i := 0) rfl h) ?_
  refine lwant rfl rfl rfl rfl (o_call (is := []) Tryd.call13 (c_dCost (linesT (⟨#[97]⟩ : ByteArray) m l) A41 c41 (by have := linesT_len (⟨#[97]⟩ : ByteArray) m l; omega) (by have := lines_cost_le (nm := (⟨#[97]⟩ : ByteArray)) (l := m) (m := l); omega)) rfl rfl (by repeat' (first | constructor | apply Sub.suf)) rfl) ?_
  refine le ?_; intro x42
  refine lwant rfl rfl rfl rfl (op (p_icmp rfl rfl rfl) rfl) ?_
  refine fixL (congrArg Value.bool (decide_eq_true (by omega))) ?_
  refine ls (op (p_pickt rfl rfl) rfl) ?_
  refine ls (op (p_asg rfl) rfl) ?_
  refine ln ?_
  refine nthen ?_
  refine cret ?_
  refine xret (fun _ _ h => h) ?_
  refine rret (is := []) () (Or.inl rfl) (Res.t rfl Res.d) (rfl) rfl (by repeat' (first | constructor | apply Sub.suf))

set_option maxRecDepth 100000 in
theorem c_DiffLong (z : Int) (s : ByteArray) : Con Tryd.prog 5 [.int .i64 z, .string s] [] [] Unit (fun _ => .bool (true)) (fun _ => []) (fun _ => []) := by
 refine con Tryd.func5 rfl Tryd.ntmps5 rfl ?_
 intro M0 F0 w0
 refine cs ?_
 refine cr ?_
 refine ls (op (p_asg rfl) rfl) ?_
 refine ln ?_
 refine nthen ?_
 refine cs ?_
 refine cs ?_
 refine cr ?_
 refine ls (op (p_move rfl) rfl) ?_
 refine ls (op (p_icmp rfl rfl rfl) rfl) ?_
 refine ls (op (p_move rfl) rfl) ?_
 refine orX 3 11 14 rfl (subσ.cons (t := 0) rfl (subσ.cons (t := 1) rfl (subσ.cons (t := 4) rfl (subσ.nil _)))) ?_ ?_
 ·
  intro h11
  refine lskip rfl rfl rfl rfl rfl ?_
  refine lskip rfl rfl rfl rfl rfl ?_
  refine ls (op (p_pickt rfl rfl) rfl) ?_
  refine ln (nmid (wk0 (by repeat (first | exact subσ.nil _ | refine subσ.cons rfl ?_)) (by repeat' (first | constructor | apply Sub.suf))))
 apply exI
 ·
  intro h11
  refine lwant rfl rfl rfl rfl (op (p_move rfl) rfl) ?_
  refine lwant rfl rfl rfl rfl (op (p_icmp rfl rfl rfl) rfl) ?_
  refine ls (op (p_pickf rfl rfl) rfl) ?_
  refine ln (nmid (wk0 (by repeat (first | exact subσ.nil _ | refine subσ.cons rfl ?_)) (by repeat' (first | constructor | apply Sub.suf))))
 ·
  refine ls (op (p_move rfl) rfl) ?_
  refine orX 4 15 19 rfl (subσ.cons (t := 0) rfl (subσ.cons (t := 1) rfl (subσ.cons (t := 4) rfl (subσ.nil _)))) ?_ ?_
  ·
   intro h15
   refine lskip rfl rfl rfl rfl rfl ?_
   refine lskip rfl rfl rfl rfl rfl ?_
   refine lskip rfl rfl rfl rfl rfl ?_
   refine ls (op (p_pickt rfl rfl) rfl) ?_
   refine ln (nmid (wk0 (by repeat (first | exact subσ.nil _ | refine subσ.cons rfl ?_)) (by repeat' (first | constructor | apply Sub.suf))))
  apply exI
  ·
   intro h15
   refine lwant rfl rfl rfl rfl (op (p_move rfl) rfl) ?_
   refine lwant rfl rfl rfl rfl (op (p_lens rfl Tryd.underlying9) rfl) ?_
   refine lwant rfl rfl rfl rfl (op (p_icmp rfl rfl rfl) rfl) ?_
   refine ls (op (p_pickf rfl rfl) rfl) ?_
   refine ln (nmid (wk0 (by repeat (first | exact subσ.nil _ | refine subσ.cons rfl ?_)) (by repeat' (first | constructor | apply Sub.suf))))
  ·
   refine ln ?_
   refine nthen ?_
   refine cc rfl ?_ ?_
   ·
    intro h19
    skip
    refine cs ?_
    refine cr ?_
    refine ls (o_call (is := []) Tryd.call9 (c_alive06) rfl rfl (by repeat' (first | constructor | apply Sub.suf)) rfl) ?_
    refine le ?_; intro x20
    refine ls (op (p_asg rfl) rfl) ?_
    refine ln ?_
    refine nthen ?_
    refine cret ?_
    refine xret (fun _ _ h => h) ?_
    refine rret (is := []) () (Or.inl rfl) (Res.t rfl Res.d) (rfl) rfl (by repeat' (first | constructor | apply Sub.suf))
   ·
    intro h19
    obtain ⟨n, rfl⟩ : ∃ n : Nat, z = (n : Int) := ⟨z.toNat, by have h := h19; simp at h; omega⟩
    have hn : n ≤ 260 := by have h := h19; simp at h; omega
    refine cskip ?_
    refine nthen ?_
    refine cs ?_
    refine cr ?_
    refine ls (op (p_move rfl) rfl) ?_
    refine ls (o_mk (⟨#[]⟩ : ByteArray) () n Tryd.underlying22 inf9 rfl (by decide) (fun _ _ p hp => by cases hp) rfl rfl rfl rfl (by omega) (by omega) rfl) ?_
    refine le ?_; intro b22
    rw [List.length_replicate]
    refine ls (op (p_asg rfl) rfl) ?_
    refine ln ?_
    refine nthen ?_
    refine cs ?_
    refine cs ?_
    refine cr ?_
    refine ls (op (p_move rfl) rfl) ?_
    refine ls (op (p_lenl rfl Tryd.underlying22) rfl) ?_
    refine ls (op (p_move rfl) rfl) ?_
    refine ln ?_
    refine nthen ?_
    refine cb ?_
    refine cl (ι := {k : Nat // k ≤ n}) (fun i => St M0 F0 w0 66 [(0, .int .i64 ((n : Nat) : Int)), (1, .string s), (5, .slice (some ⟨b22, 0, none⟩) n n), (24, .int .i64 ((n : Nat) : Int)), (25, .int .i64 ((i.1 : Nat) : Int))] [row 9 (some ⟨b22, 0, none⟩) n (List.replicate i.1 s ++ List.replicate (n - i.1) (⟨#[]⟩ : ByteArray))] []) (fun i => n - i.1) ⟨0, Nat.zero_le _⟩ (wk0 (by repeat (first | exact subσ.nil _ | refine subσ.cons rfl ?_)) (by repeat' (first | constructor | apply Sub.suf))) ?_
    rintro ⟨k, hk⟩
    refine cmono (S' := St M0 F0 w0 66 [(0, .int .i64 ((n : Nat) : Int)), (1, .string s), (5, .slice (some ⟨b22, 0, none⟩) n n), (24, .int .i64 ((n : Nat) : Int)), (25, .int .i64 ((k : Nat) : Int))] [row 9 (some ⟨b22, 0, none⟩) n (List.replicate k s ++ List.replicate (n - k) (⟨#[]⟩ : ByteArray))] []) (fun _ _ h => h) ?_
    refine cs ?_
    refine cr ?_
    refine ls (op (p_icmp rfl rfl rfl) rfl) ?_
    refine ln ?_
    refine nthen ?_
    refine cs ?_
    refine cc rfl ?_ ?_
    ·
     intro h26
     try simp only [decide_eq_true_eq, decide_eq_false_iff_not, Bool.not_eq_true', Bool.not_eq_false', Int.not_lt, Int.not_le, ge_iff_le, Bool.not_true, Bool.not_false] at h26
     have hk1 : k < n := by omega
     refine cskip ?_
     refine nthen ?_
     refine cs ?_
     refine cb ?_
     refine cs ?_
     refine cr ?_
     refine ls (op (p_move rfl) rfl) ?_
     refine ls (op (p_asg rfl) rfl) ?_
     refine ln ?_
     refine nthen ?_
     refine cr ?_
     refine ls (op (p_move rfl) rfl) ?_
     refine ls (op (p_move rfl) rfl) ?_
     refine ls (op (p_move rfl) rfl) ?_
     refine ls (op (p_ia k rfl hk1 rfl Tryd.underlying22 Tryd.sizeOf9 rfl rfl) rfl) ?_
     refine ls (o_strowE (j := k) (z := s) (yz := ()) rfl Tryd.sizeOf9 rfl rfl rfl (by repeat' constructor) (by simp; omega) (rep_set hk1) (by repeat' constructor) (by repeat' (first | constructor | apply Sub.suf))) ?_
     refine ln ?_
     refine nblock ?_
     refine nthen ?_
     refine cr ?_
     refine ls (op (p_add rfl rfl (by omega)) rfl) ?_
     refine ls (op (p_move rfl) rfl) ?_
     refine ln ?_
     refine nnext ⟨k + 1, hk1⟩ (by dsimp only; omega) (wk0 (by repeat (first | exact subσ.nil _ | refine subσ.cons rfl ?_)) (by repeat' (first | constructor | apply Sub.suf)))
    ·
     intro h26
     try simp only [decide_eq_true_eq, decide_eq_false_iff_not, Bool.not_eq_true', Bool.not_eq_false', Int.not_lt, Int.not_le, ge_iff_le, Bool.not_true, Bool.not_false] at h26
     obtain rfl : k = n := by omega
     refine cexit ?_
     refine xthen ?_
     refine xthen ?_
     refine xblock ?_
     refine nthen ?_
     refine cs ?_
     refine cmono (fun a w h => rowEq (α := ByteArray) (by repeat' constructor) (rep_done k s) (by repeat' constructor) h) ?_
     refine cmono (fun a w h => Go.Sx.freeze (i := 0) rfl h) ?_
     refine cmono (fun a w h => nilSl (α := ByteArray) h) ?_
     have hrl : (List.replicate k s).length = k := List.length_replicate
     refine cr ?_
     refine ls (op (p_move rfl) rfl) ?_
     refine fixL (slen (m' := (List.replicate k s).length) hrl.symm) ?_
     refine ls (o_call (is := []) Tryd.call14 (c_dLines (⟨#[97]⟩ : ByteArray) (List.replicate k s) [] (some ⟨b22, 0, none⟩) none k 0 (by omega) (Nat.zero_le _) (by omega) (Nat.le_refl _)) rfl rfl (by repeat' (first | constructor | apply Sub.suf)) rfl) ?_
     refine le ?_; rintro ⟨A34, c34⟩
     refine lmono (fun a w h => Go.Sx.freeze (i := 0) rfl h) ?_
     refine ls (op (p_move rfl) rfl) ?_
     refine fixL (slen (m' := (List.replicate k s).length) hrl.symm) ?_
     refine ls (op (p_move rfl) rfl) ?_
     refine ls (o_bsl [s] Tryd.underlying22 Tryd.sizeOf9 Tryd.zeroValue9 rfl (Enum.t Enum.d) (RV.t () rfl (by repeat' (first | constructor | apply Sub.suf)) RV.d) rfl (by decide) (by decide) rfl) ?_
     refine le ?_; intro b37
     refine lmono (fun a w h => Go.Sx.freeze (i := 0) rfl h) ?_
     refine ls (o_call (is := []) Tryd.call10 (c_dCommon (List.replicate k s) [s] (some ⟨b22, 0, none⟩) (some ⟨b37, 0, none⟩) k 1 (by omega) (by simp)) rfl rfl (by repeat' (first | constructor | apply Sub.suf)) rfl) ?_
     refine le ?_; rintro ⟨⟨o, ⟨A38, c38⟩⟩, hq1, hq2⟩
     dsimp only at hq1 hq2
     refine ls (op (p_asg rfl) rfl) ?_
     refine ls (op (p_asg rfl) rfl) ?_
     refine ln ?_
     refine nthen ?_
     refine cs ?_
     refine cs ?_
     refine cr ?_
     refine ls (op (p_move rfl) rfl) ?_
     refine ls (op (p_icmp rfl rfl rfl) rfl) ?_
     refine ln ?_
     refine nthen ?_
     refine cc rfl ?_ ?_
     ·
      intro h40
      have hk2 : 200 < k := by have h := h40; simp at h; omega
      have hlg : ∀ r, longB (List.replicate k s) r = true := fun r => by unfold longB; rw [hrl]; simp; omega
      obtain rfl := hq1 (hlg _)
      refine cs ?_
      refine cr ?_
      refine ls (o_call (is := []) Tryd.call9 (c_alive06) rfl rfl (by repeat' (first | constructor | apply Sub.suf)) rfl) ?_
      refine le ?_; intro x41
      refine ls (op (p_move rfl) rfl) ?_
      refine lwant rfl rfl rfl rfl (op (p_move rfl) rfl) ?_
      refine lwant rfl rfl rfl rfl (op (p_lenl rfl Tryd.underlying34) rfl) ?_
      refine lwant rfl rfl rfl rfl (op (p_icmp rfl rfl rfl) rfl) ?_
      refine fixL (congrArg Value.bool (decide_eq_true (by rw [linesT_long (hlg _)]; rfl))) ?_
      refine ls (op (p_pickt rfl rfl) rfl) ?_
      refine ls (op (p_move rfl) rfl) ?_
      refine lwant rfl rfl rfl rfl (op (p_move rfl) rfl) ?_
      refine lwant rfl rfl rfl rfl (op (p_lenl rfl Tryd.underlying25) rfl) ?_
      refine lwant rfl rfl rfl rfl (op (p_icmp rfl rfl rfl) rfl) ?_
      refine fixL (congrArg Value.bool (decide_eq_true rfl)) ?_
      refine ls (op (p_pickt rfl rfl) rfl) ?_
      refine ls (op (p_asg rfl) rfl) ?_
      refine ln ?_
      refine nthen ?_
      refine cret ?_
      refine xret (fun _ _ h => h) ?_
      refine rret (is := []) () (Or.inl rfl) (Res.t rfl Res.d) (rfl) rfl (by repeat' (first | constructor | apply Sub.suf))
     ·
      intro h40
      have hk2 : k ≤ 200 := by have h := h40; simp at h; omega
      have hlg : longB (List.replicate k s) [s] = false := longB_two (by omega) (by simp)
      have hcl : o.length = min k 1 := (hq2 hlg).len.trans (lcs_rep s k)
      refine cskip ?_
      refine nthen ?_
      refine cs ?_
      refine cr ?_
      refine ls (o_call (is := []) Tryd.call9 (c_alive06) rfl rfl (by repeat' (first | constructor | apply Sub.suf)) rfl) ?_
      refine le ?_; intro x52
      refine ls (op (p_move rfl) rfl) ?_
      refine lwant rfl rfl rfl rfl (op (p_move rfl) rfl) ?_
      refine lwant rfl rfl rfl rfl (o_call (is := []) Tryd.call13 (c_dCost (linesT (⟨#[97]⟩ : ByteArray) (List.replicate k s) ([] : List ByteArray)) A34 c34 (by have := linesT_len (⟨#[97]⟩ : ByteArray) (List.replicate k s) ([] : List ByteArray); simp at this ⊢; omega) (by have := lines_cost_le (nm := (⟨#[97]⟩ : ByteArray)) (l := (List.replicate k s)) (m := ([] : List ByteArray)); simp at this ⊢; omega)) rfl rfl (by repeat' (first | constructor | apply Sub.suf)) rfl) ?_
      refine le ?_; intro x55
      refine lwant rfl rfl rfl rfl (op (p_move rfl) rfl) ?_
      refine lwant rfl rfl rfl rfl (op (p_icmp rfl rfl rfl) rfl) ?_
      refine fixL (congrArg Value.bool (decide_eq_true (by rw [cost_rep hk2]))) ?_
      refine ls (op (p_pickt rfl rfl) rfl) ?_
      refine ls (op (p_move rfl) rfl) ?_
      refine lwant rfl rfl rfl rfl (op (p_move rfl) rfl) ?_
      refine lwant rfl rfl rfl rfl (op (p_lenl rfl Tryd.underlying25) rfl) ?_
      refine lwant rfl rfl rfl rfl (op (p_move rfl) rfl) ?_
      refine lwant rfl rfl rfl rfl (op (p_min rfl rfl) rfl) ?_
      refine lwant rfl rfl rfl rfl (op (p_icmp rfl rfl rfl) rfl) ?_
      refine fixL (congrArg Value.bool (decide_eq_true (by dsimp only; omega))) ?_
      refine ls (op (p_pickt rfl rfl) rfl) ?_
      refine ls (op (p_asg rfl) rfl) ?_
      refine ln ?_
      refine nthen ?_
      refine cret ?_
      refine xret (fun _ _ h => h) ?_
      refine rret (is := []) () (Or.inl rfl) (Res.t rfl Res.d) (rfl) rfl (by repeat' (first | constructor | apply Sub.suf))

theorem c_dLinesE (L : List Prim) (nm : ByteArray) (l m : List ByteArray) (A B : Option Addr) (c c' : Nat) (hl : l.length ≤ 1000000) (hm : m.length ≤ 1000000) (hc : l.length ≤ c) (hc' : m.length ≤ c') (hL : L = linesT nm l m) : Con Tryd.prog 14 [.string nm, .slice A l.length c, .slice B m.length c'] [] [slA A l, slA B m] (Option Addr × Nat) (fun x => .slice x.1 L.length x.2) (fun x => [row 51 x.1 x.2 L]) (fun _ => []) := by
 subst hL; exact c_dLines nm l m A B c c' hl hm hc hc'

set_option maxRecDepth 100000 in
theorem c_DiffApart (l m : List ByteArray) (A B : Option Addr) (c c' : Nat) (hA : A = none → c = 0) (hB : B = none → c' = 0) (hc : l.length ≤ c) (hc' : m.length ≤ c') (hl : l.length ≤ 1048576) (hm : m.length ≤ 1048576) (hs : sizes l + sizes m ≤ 1000000000000) : Con Tryd.prog 7 [.slice A l.length c, .slice B m.length c'] [] [slA A l, slA B m] Unit (fun _ => .bool (true)) (fun _ => []) (fun _ => []) := by
 have hsl : ∀ x ∈ l, x.size ≤ 1000000000000 := fun x hx => by have := sizes_in hx; omega
 refine con Tryd.func7 rfl Tryd.ntmps7 rfl ?_
 intro M0 F0 w0
 refine cs ?_
 refine cr ?_
 refine ls (op (p_asg rfl) rfl) ?_
 refine ln ?_
 refine nthen ?_
 refine cs ?_
 refine cs ?_
 refine cr ?_
 refine ls (op (p_move rfl) rfl) ?_
 refine ls (op (p_move rfl) rfl) ?_
 refine ls (o_call (is := []) Tryd.call8 (c_few06 l m A B c c' hA hB hc hc' hl hm hs) rfl rfl (by repeat' (first | constructor | apply Sub.suf)) rfl) ?_
 refine le ?_; intro x13
 refine ls (op (p_not rfl) rfl) ?_
 refine ls (op (p_move rfl) rfl) ?_
 refine splitL 15 rfl ?_ ?_
 ·
  intro h15
  skip
  refine lskip rfl rfl rfl rfl rfl ?_
  refine lskip rfl rfl rfl rfl rfl ?_
  refine lskip rfl rfl rfl rfl rfl ?_
  refine ls (op (p_pickt rfl rfl) rfl) ?_
  refine ls (op (p_move rfl) rfl) ?_
  refine lskip rfl rfl rfl rfl rfl ?_
  refine lskip rfl rfl rfl rfl rfl ?_
  refine lskip rfl rfl rfl rfl rfl ?_
  refine ls (op (p_pickt rfl rfl) rfl) ?_
  refine ln ?_
  refine nthen ?_
  refine cc rfl (fun h => ?_) (fun h => by cases h)
  refine cs ?_
  refine cr ?_
  refine ls (o_call (is := []) Tryd.call9 (c_alive06) rfl rfl (by repeat' (first | constructor | apply Sub.suf)) rfl) ?_
  refine le ?_; intro x25
  refine ls (op (p_asg rfl) rfl) ?_
  refine ln ?_
  refine nthen ?_
  refine cret ?_
  refine xret (fun _ _ h => h) ?_
  refine rret (is := []) () (Or.inl rfl) (Res.t rfl Res.d) (rfl) rfl (by repeat' (first | constructor | apply Sub.suf))
 ·
  intro h15
  have hf : few6 l m = true := by have h := h15; simpa using h
  have hf1 := few6_yes hf
  obtain ⟨hg1, hg2, hg3⟩ := few6_long hf
  have hss : ∀ x ∈ l, x.size ≤ 2000000 := fun x hx => by have := sizes_in hx; omega
  refine lwant rfl rfl rfl rfl (op (p_move rfl) rfl) ?_
  refine lwant rfl rfl rfl rfl (o_call (is := []) Tryd.call20 (c_refAll l A c (by omega) hss) rfl rfl (by repeat' (first | constructor | apply Sub.suf)) rfl) ?_
  refine le ?_; intro x17
  refine lwant rfl rfl rfl rfl (op (p_not rfl) rfl) ?_
  refine ls (op (p_pickf rfl rfl) rfl) ?_
  refine ls (op (p_move rfl) rfl) ?_
  refine splitL 20 rfl ?_ ?_
  ·
   intro h20
   skip
   refine lskip rfl rfl rfl rfl rfl ?_
   refine lskip rfl rfl rfl rfl rfl ?_
   refine lskip rfl rfl rfl rfl rfl ?_
   refine ls (op (p_pickt rfl rfl) rfl) ?_
   refine ln ?_
   refine nthen ?_
   refine cc rfl (fun h => ?_) (fun h => by cases h)
   refine cs ?_
   refine cr ?_
   refine ls (o_call (is := []) Tryd.call9 (c_alive06) rfl rfl (by repeat' (first | constructor | apply Sub.suf)) rfl) ?_
   refine le ?_; intro x25
   refine ls (op (p_asg rfl) rfl) ?_
   refine ln ?_
   refine nthen ?_
   refine cret ?_
   refine xret (fun _ _ h => h) ?_
   refine rret (is := []) () (Or.inl rfl) (Res.t rfl Res.d) (rfl) rfl (by repeat' (first | constructor | apply Sub.suf))
  ·
   intro h20
   have hal : l.all lineOk = true := by have h := h20; simpa using h
   have hsm : ∀ x ∈ m, x.size ≤ 2000000 := fun x hx => by have := sizes_in hx; omega
   refine lwant rfl rfl rfl rfl (op (p_move rfl) rfl) ?_
   refine lwant rfl rfl rfl rfl (o_call (is := []) Tryd.call20 (c_refAll m B c' (by omega) hsm) rfl rfl (by repeat' (first | constructor | apply Sub.suf)) rfl) ?_
   refine le ?_; intro x22
   refine lwant rfl rfl rfl rfl (op (p_not rfl) rfl) ?_
   refine ls (op (p_pickf rfl rfl) rfl) ?_
   refine ln ?_
   refine nthen ?_
   refine cc rfl ?_ ?_
   ·
    intro h24
    skip
    refine cs ?_
    refine cr ?_
    refine ls (o_call (is := []) Tryd.call9 (c_alive06) rfl rfl (by repeat' (first | constructor | apply Sub.suf)) rfl) ?_
    refine le ?_; intro x25
    refine ls (op (p_asg rfl) rfl) ?_
    refine ln ?_
    refine nthen ?_
    refine cret ?_
    refine xret (fun _ _ h => h) ?_
    refine rret (is := []) () (Or.inl rfl) (Res.t rfl Res.d) (rfl) rfl (by repeat' (first | constructor | apply Sub.suf))
   ·
    intro h24
    have hbl : m.all lineOk = true := by have h := h24; simpa using h
    refine cskip ?_
    refine nthen ?_
    refine cs ?_
    obtain ⟨L, hL⟩ : ∃ L, L = linesT (⟨#[97]⟩ : ByteArray) l m := ⟨_, rfl⟩
    have hLL : L.length ≤ 201 := by rw [hL]; exact linesT_len (⟨#[97]⟩ : ByteArray) l m
    have hft : ∀ p ∈ L, p.fit := by rw [hL]; exact lines_fit (nm := (⟨#[97]⟩ : ByteArray)) hg1 (by decide) hss hsm
    have hna : nameOk (⟨#[97]⟩ : ByteArray) = true := by kernel_rfl
    have hsw0 : ∀ (u v : Nat) (huv : u < v) (hv : v < L.length), Go.Sx.swap (L[u]'(by omega)) L[v] = (mv6 (L[u]'(by omega)) L[v], L[u]'(by omega), true) := by subst hL; exact fun u v huv hv => lines_swap hg1 hna hal hbl huv hv
    refine cr ?_
    refine ls (op (p_move rfl) rfl) ?_
    refine ls (op (p_move rfl) rfl) ?_
    refine ls (o_call (is := []) Tryd.call14 (c_dLinesE L (⟨#[97]⟩ : ByteArray) l m A B c c' (by omega) (by omega) hc hc' hL) rfl rfl (by repeat' (first | constructor | apply Sub.suf)) rfl) ?_
    refine le ?_; rintro ⟨A28, c28⟩
    refine lmono (fun a w h => Go.Sx.freeze (i := 0) rfl h) ?_
    refine ls (op (p_asg rfl) rfl) ?_
    refine ln ?_
    refine nthen ?_
    refine cs ?_
    refine cs ?_
    refine cr ?_
    refine ls (op (p_move rfl) rfl) ?_
    refine ls (op (p_lenl rfl Tryd.underlying34) rfl) ?_
    refine ls (op (p_move rfl) rfl) ?_
    refine ln ?_
    refine nthen ?_
    refine cb ?_
    refine cl (ι := {v : Nat // v ≤ L.length}) (fun i => St M0 F0 w0 87 [(0, .slice A l.length c), (1, .slice B m.length c'), (5, .slice A28 L.length c28), (29, .slice A28 L.length c28), (30, .int .i64 ((L.length : Nat) : Int)), (31, .int .i64 ((i.1 : Nat) : Int))] [] [slA A l, slA B m, slA A28 L]) (fun i => L.length - i.1) ⟨0, Nat.zero_le _⟩ (wk (is := []) (by repeat (first | exact subσ.nil _ | refine subσ.cons rfl ?_)) rfl (by repeat' (first | constructor | apply Sub.suf))) ?_
    rintro ⟨v, hv⟩
    refine cmono (S' := St M0 F0 w0 87 [(0, .slice A l.length c), (1, .slice B m.length c'), (5, .slice A28 L.length c28), (29, .slice A28 L.length c28), (30, .int .i64 ((L.length : Nat) : Int)), (31, .int .i64 ((v : Nat) : Int))] [] [slA A l, slA B m, slA A28 L]) (fun _ _ h => h) ?_
    refine cs ?_
    refine cr ?_
    refine ls (op (p_icmp rfl rfl rfl) rfl) ?_
    refine ln ?_
    refine nthen ?_
    refine cs ?_
    refine cc rfl ?_ ?_
    ·
     intro h32
     try simp only [decide_eq_true_eq, decide_eq_false_iff_not, Bool.not_eq_true', Bool.not_eq_false', Int.not_lt, Int.not_le, ge_iff_le, Bool.not_true, Bool.not_false] at h32
     have hv1 : v < L.length := by omega
     refine cskip ?_
     refine nthen ?_
     refine cs ?_
     refine cb ?_
     refine cs ?_
     refine cr ?_
     refine ls (op (p_move rfl) rfl) ?_
     refine ls (op (p_asg rfl) rfl) ?_
     refine ln ?_
     refine nthen ?_
     refine cs ?_
     refine cr ?_
     refine ls (op (p_move rfl) rfl) ?_
     refine ls (op (p_move rfl) rfl) ?_
     refine ln ?_
     refine nthen ?_
     refine cb ?_
     refine cl (ι := {u : Nat // u ≤ v}) (fun i => St M0 F0 w0 87 [(0, .slice A l.length c), (1, .slice B m.length c'), (5, .slice A28 L.length c28), (29, .slice A28 L.length c28), (30, .int .i64 ((L.length : Nat) : Int)), (31, .int .i64 ((v : Nat) : Int)), (6, .int .i64 ((v : Nat) : Int)), (34, .int .i64 ((v : Nat) : Int)), (35, .int .i64 ((i.1 : Nat) : Int))] [] [slA A l, slA B m, slA A28 L]) (fun i => v - i.1) ⟨0, Nat.zero_le _⟩ (wk (is := []) (by repeat (first | exact subσ.nil _ | refine subσ.cons rfl ?_)) rfl (by repeat' (first | constructor | apply Sub.suf))) ?_
     rintro ⟨u, hu⟩
     refine cmono (S' := St M0 F0 w0 87 [(0, .slice A l.length c), (1, .slice B m.length c'), (5, .slice A28 L.length c28), (29, .slice A28 L.length c28), (30, .int .i64 ((L.length : Nat) : Int)), (31, .int .i64 ((v : Nat) : Int)), (6, .int .i64 ((v : Nat) : Int)), (34, .int .i64 ((v : Nat) : Int)), (35, .int .i64 ((u : Nat) : Int))] [] [slA A l, slA B m, slA A28 L]) (fun _ _ h => h) ?_
     refine cs ?_
     refine cr ?_
     refine ls (op (p_icmp rfl rfl rfl) rfl) ?_
     refine ln ?_
     refine nthen ?_
     refine cs ?_
     refine cc rfl ?_ ?_
     ·
      intro h36
      try simp only [decide_eq_true_eq, decide_eq_false_iff_not, Bool.not_eq_true', Bool.not_eq_false', Int.not_lt, Int.not_le, ge_iff_le, Bool.not_true, Bool.not_false] at h36
      have hu1 : u < v := by omega
      have hu2 : u < L.length := by omega
      have hsw := hsw0 u v hu1 hv1
      refine cskip ?_
      refine nthen ?_
      refine cs ?_
      refine cb ?_
      refine cs ?_
      refine cr ?_
      refine ls (op (p_move rfl) rfl) ?_
      refine ls (op (p_asg rfl) rfl) ?_
      refine ln ?_
      refine nthen ?_
      refine cs ?_
      refine elC (A := A28) (l := L) (by repeat' constructor) u (List.getElem?_eq_getElem hu2) ?_; rintro zbp zop zyp hAp
      refine elC (A := A28) (l := L) (by repeat' constructor) v (List.getElem?_eq_getElem hv1) ?_; rintro zbq zoq zyq hAq
      refine cutC (S' := fun a w => ∃ (b8 : Nat) (b9 : Nat) (y1 : Rp.Lay Prim) (y2 : Rp.Lay Prim), St M0 F0 w0 87 [(0, .slice A l.length c), (1, .slice B m.length c'), (5, .slice A28 L.length c28), (6, .int .i64 ((v : Nat) : Int)), (7, .int .i64 ((u : Nat) : Int)), (29, .slice A28 L.length c28), (30, .int .i64 ((L.length : Nat) : Int)), (31, .int .i64 ((v : Nat) : Int)), (34, .int .i64 ((v : Nat) : Int)), (35, .int .i64 ((u : Nat) : Int)), (8, .pointer (some ⟨b8, 0, none⟩)), (9, .pointer (some ⟨b9, 0, none⟩)), (10, .bool true)] [box b9 51 (Rp.enc (L[u]'(by omega)) y2), box b8 51 (Rp.enc (mv6 (L[u]'(by omega)) L[v]) y1)] [slA y1.1.1 (L[v]).old, slA y1.2.1 (L[v]).new, slA y2.1.1 (L[u]'(by omega)).old, slA y2.2.1 (L[u]'(by omega)).new, slA A l, slA B m, slA A28 L] a w) ?_ ?_
      ·
       refine cdB [8, 13, 14, 15, 16] [(3, zbp, zop + u * Rp.size Prim, _), (7, zbq, zoq + v * Rp.size Prim, _)] TrydX.mixed (by kernel_rfl) (by kernel_rfl) (TOk.t (isInS (by repeat' constructor) (k := 0) rfl (z := 6) (by repeat (first | exact Cut.d | apply Cut.t | apply Cut.s))) (TOk.t (isInS (by repeat' constructor) (k := 0) rfl (z := 6) (by repeat (first | exact Cut.d | apply Cut.t | apply Cut.s))) TOk.d)) ?_
       refine tkB 0 rfl (by kernel_rfl) (fun _ _ _ h => h) gnone (TTany _) (p_move rfl) rfl ?_
       refine tkB 1 rfl (by kernel_rfl) (fun _ _ _ h => h) gnone (TTany _) (p_move rfl) rfl ?_
       refine tkB 2 rfl (by kernel_rfl) (fun _ _ _ h => h) gnone (TTany _) (p_ia u hAp hu2 rfl Tryd.underlying34 Tryd.sizeOf51 rfl rfl) rfl ?_
       refine tkB 3 rfl (by kernel_rfl) (fun _ _ _ h => h) gnone (TTat (List.Mem.head _)) (p_lda Tryd.isAgg51 Tryd.sizeOf51 rfl rfl) rfl ?_
       refine tkB 4 rfl (by kernel_rfl) (fun _ _ _ h => h) gnone (TTany _) (p_move rfl) rfl ?_
       refine tkB 5 rfl (by kernel_rfl) (fun _ _ _ h => h) gnone (TTany _) (p_move rfl) rfl ?_
       refine tkB 6 rfl (by kernel_rfl) (fun _ _ _ h => h) gnone (TTany _) (p_ia v hAq hv1 rfl Tryd.underlying34 Tryd.sizeOf51 rfl rfl) rfl ?_
       refine tkB 7 rfl (by kernel_rfl) (fun _ _ _ h => h) gnone (TTat (List.Mem.tail _ (List.Mem.head _))) (p_lda Tryd.isAgg51 Tryd.sizeOf51 rfl rfl) rfl ?_
       refine dallB (is := [8, 13, 14]) (by kernel_rfl) rfl ?_
       intro i hi; simp only [List.mem_cons, List.mem_nil_iff, or_false] at hi; rcases hi with rfl | rfl | rfl
       ·
        refine doRB rfl (o_call (is := []) Tryd.call21 (c_Swap (L[u]) (L[v]) zyp zyq (hft _ (List.getElem_mem hu2)) (hft _ (List.getElem_mem hv1))) rfl rfl (by repeat' (first | constructor | apply Sub.suf)) rfl) (TOk.xP 8 [] (by kernel_rfl) (TOk.xP 8 [] (by kernel_rfl) TOk.d)) ?_
        refine eaB ?_; rintro ⟨⟨⟨r1, r2, r3⟩, y1, y2⟩, hr⟩
        obtain ⟨rfl, rfl, rfl⟩ : r1 = mv6 (L[u]) (L[v]) ∧ r2 = L[u] ∧ r3 = true := by { have h := (show (r1, r2, r3) = Go.Sx.swap (L[u]) (L[v]) from hr).trans hsw; simp only [Prod.mk.injEq] at h; exact h }
        refine tkB 9 rfl (by kernel_rfl) (fun _ _ _ h => h) gnone (TTany _) (p_move rfl) rfl ?_
        refine tkB 10 rfl (by kernel_rfl) (fun _ _ _ h => h) gnone (TTany _) (p_ext rfl (by repeat' constructor)) rfl ?_
        refine tkB 11 rfl (by kernel_rfl) (fun _ _ _ h => h) gnone (TTany _) (p_ext rfl (by repeat' constructor)) rfl ?_
        refine tkB 12 rfl (by kernel_rfl) (fun _ _ _ h => h) gnone (TTany _) (p_ext rfl (by repeat' constructor)) rfl ?_
        refine dallB (is := [13, 14]) (by kernel_rfl) rfl ?_
        intro i hi; simp only [List.mem_cons, List.mem_nil_iff, or_false] at hi; rcases hi with rfl | rfl
        ·
         refine doRB rfl (o_alloc Tryd.zeroValue51 rfl rfl) (TOk.xP 8 [] (by kernel_rfl) (TOk.xP 8 [] (by kernel_rfl) TOk.d)) ?_
         refine eaB ?_; intro b8
         refine dfB 14 (by kernel_rfl) ?_
         refine doRB rfl (o_alloc Tryd.zeroValue51 rfl rfl) (TOk.xP 8 [] (by kernel_rfl) (TOk.xP 8 [] (by kernel_rfl) TOk.d)) ?_
         refine eaB ?_; intro b9
         refine dfB 15 (by kernel_rfl) ?_
         refine doRB rfl (o_st rfl Tryd.sizeOf51 rfl rfl rfl rfl rfl (by repeat' constructor) (by repeat' constructor) (by repeat' constructor)) (TOk.xP 8 [] (by kernel_rfl) (TOk.xP 8 [] (by kernel_rfl) TOk.d)) ?_
         refine dfB 16 (by kernel_rfl) ?_
         refine doRB rfl (o_st rfl Tryd.sizeOf51 rfl rfl rfl rfl rfl (by repeat' constructor) (by repeat' constructor) (by repeat' constructor)) (TOk.xP 8 [] (by kernel_rfl) (TOk.xP 8 [] (by kernel_rfl) TOk.d)) ?_
         refine tkB 17 rfl (by kernel_rfl) (fun _ _ _ h => h) gnone (TTany _) (p_asg rfl) rfl ?_
         refine dnB (by kernel_rfl) (nmid (fun a w h => by first | exact ⟨b8, b9, y1, y2, wk (is := [0, 0]) (by repeat (first | exact subσ.nil _ | refine subσ.cons rfl ?_)) rfl (by repeat' (first | constructor | apply Sub.suf)) a w h⟩ | exact ⟨b8, b9, y1, y2, wk (is := [1, 0]) (by repeat (first | exact subσ.nil _ | refine subσ.cons rfl ?_)) rfl (by repeat' (first | constructor | apply Sub.suf)) a w h⟩))
        ·
         refine doRB rfl (o_alloc Tryd.zeroValue51 rfl rfl) (TOk.xP 8 [] (by kernel_rfl) (TOk.xP 8 [] (by kernel_rfl) TOk.d)) ?_
         refine eaB ?_; intro b9
         refine dfB 13 (by kernel_rfl) ?_
         refine doRB rfl (o_alloc Tryd.zeroValue51 rfl rfl) (TOk.xP 8 [] (by kernel_rfl) (TOk.xP 8 [] (by kernel_rfl) TOk.d)) ?_
         refine eaB ?_; intro b8
         refine dfB 15 (by kernel_rfl) ?_
         refine doRB rfl (o_st rfl Tryd.sizeOf51 rfl rfl rfl rfl rfl (by repeat' constructor) (by repeat' constructor) (by repeat' constructor)) (TOk.xP 8 [] (by kernel_rfl) (TOk.xP 8 [] (by kernel_rfl) TOk.d)) ?_
         refine dfB 16 (by kernel_rfl) ?_
         refine doRB rfl (o_st rfl Tryd.sizeOf51 rfl rfl rfl rfl rfl (by repeat' constructor) (by repeat' constructor) (by repeat' constructor)) (TOk.xP 8 [] (by kernel_rfl) (TOk.xP 8 [] (by kernel_rfl) TOk.d)) ?_
         refine tkB 17 rfl (by kernel_rfl) (fun _ _ _ h => h) gnone (TTany _) (p_asg rfl) rfl ?_
         refine dnB (by kernel_rfl) (nmid (fun a w h => by first | exact ⟨b8, b9, y1, y2, wk (is := [0, 0]) (by repeat (first | exact subσ.nil _ | refine subσ.cons rfl ?_)) rfl (by repeat' (first | constructor | apply Sub.suf)) a w h⟩ | exact ⟨b8, b9, y1, y2, wk (is := [1, 0]) (by repeat (first | exact subσ.nil _ | refine subσ.cons rfl ?_)) rfl (by repeat' (first | constructor | apply Sub.suf)) a w h⟩))
       ·
        refine doRB rfl (o_alloc Tryd.zeroValue51 rfl rfl) (TOk.t (isBoxE fun _ => isInS (by repeat' constructor) (k := 0) rfl (z := 6) (by repeat (first | exact Cut.d | apply Cut.t | apply Cut.s))) (TOk.t (isBoxE fun _ => isInS (by repeat' constructor) (k := 0) rfl (z := 6) (by repeat (first | exact Cut.d | apply Cut.t | apply Cut.s))) TOk.d)) ?_
        refine eaB ?_; intro b8
        refine dallB (is := [8, 14]) (by kernel_rfl) rfl ?_
        intro i hi; simp only [List.mem_cons, List.mem_nil_iff, or_false] at hi; rcases hi with rfl | rfl
        ·
         refine doRB rfl (o_call (is := []) Tryd.call21 (c_Swap (L[u]) (L[v]) zyp zyq (hft _ (List.getElem_mem hu2)) (hft _ (List.getElem_mem hv1))) rfl rfl (by repeat' (first | constructor | apply Sub.suf)) rfl) (TOk.xP 8 [] (by kernel_rfl) (TOk.xP 8 [] (by kernel_rfl) TOk.d)) ?_
         refine eaB ?_; rintro ⟨⟨⟨r1, r2, r3⟩, y1, y2⟩, hr⟩
         obtain ⟨rfl, rfl, rfl⟩ : r1 = mv6 (L[u]) (L[v]) ∧ r2 = L[u] ∧ r3 = true := by { have h := (show (r1, r2, r3) = Go.Sx.swap (L[u]) (L[v]) from hr).trans hsw; simp only [Prod.mk.injEq] at h; exact h }
         refine tkB 9 rfl (by kernel_rfl) (fun _ _ _ h => h) gnone (TTany _) (p_move rfl) rfl ?_
         refine tkB 10 rfl (by kernel_rfl) (fun _ _ _ h => h) gnone (TTany _) (p_ext rfl (by repeat' constructor)) rfl ?_
         refine tkB 11 rfl (by kernel_rfl) (fun _ _ _ h => h) gnone (TTany _) (p_ext rfl (by repeat' constructor)) rfl ?_
         refine tkB 12 rfl (by kernel_rfl) (fun _ _ _ h => h) gnone (TTany _) (p_ext rfl (by repeat' constructor)) rfl ?_
         refine dfB 14 (by kernel_rfl) ?_
         refine doRB rfl (o_alloc Tryd.zeroValue51 rfl rfl) (TOk.xP 8 [] (by kernel_rfl) (TOk.xP 8 [] (by kernel_rfl) TOk.d)) ?_
         refine eaB ?_; intro b9
         refine dfB 15 (by kernel_rfl) ?_
         refine doRB rfl (o_st rfl Tryd.sizeOf51 rfl rfl rfl rfl rfl (by repeat' constructor) (by repeat' constructor) (by repeat' constructor)) (TOk.xP 8 [] (by kernel_rfl) (TOk.xP 8 [] (by kernel_rfl) TOk.d)) ?_
         refine dfB 16 (by kernel_rfl) ?_
         refine doRB rfl (o_st rfl Tryd.sizeOf51 rfl rfl rfl rfl rfl (by repeat' constructor) (by repeat' constructor) (by repeat' constructor)) (TOk.xP 8 [] (by kernel_rfl) (TOk.xP 8 [] (by kernel_rfl) TOk.d)) ?_
         refine tkB 17 rfl (by kernel_rfl) (fun _ _ _ h => h) gnone (TTany _) (p_asg rfl) rfl ?_
         refine dnB (by kernel_rfl) (nmid (fun a w h => by first | exact ⟨b8, b9, y1, y2, wk (is := [0, 0]) (by repeat (first | exact subσ.nil _ | refine subσ.cons rfl ?_)) rfl (by repeat' (first | constructor | apply Sub.suf)) a w h⟩ | exact ⟨b8, b9, y1, y2, wk (is := [1, 0]) (by repeat (first | exact subσ.nil _ | refine subσ.cons rfl ?_)) rfl (by repeat' (first | constructor | apply Sub.suf)) a w h⟩))
        ·
         refine doRB rfl (o_alloc Tryd.zeroValue51 rfl rfl) (TOk.t (isBoxE fun _ => isInS (by repeat' constructor) (k := 0) rfl (z := 6) (by repeat (first | exact Cut.d | apply Cut.t | apply Cut.s))) (TOk.t (isBoxE fun _ => isInS (by repeat' constructor) (k := 0) rfl (z := 6) (by repeat (first | exact Cut.d | apply Cut.t | apply Cut.s))) TOk.d)) ?_
         refine eaB ?_; intro b9
         refine dfB 8 (by kernel_rfl) ?_
         refine doRB rfl (o_call (is := []) Tryd.call21 (c_Swap (L[u]) (L[v]) zyp zyq (hft _ (List.getElem_mem hu2)) (hft _ (List.getElem_mem hv1))) rfl rfl (by repeat' (first | constructor | apply Sub.suf)) rfl) (TOk.xP 8 [] (by kernel_rfl) (TOk.xP 8 [] (by kernel_rfl) TOk.d)) ?_
         refine eaB ?_; rintro ⟨⟨⟨r1, r2, r3⟩, y1, y2⟩, hr⟩
         obtain ⟨rfl, rfl, rfl⟩ : r1 = mv6 (L[u]) (L[v]) ∧ r2 = L[u] ∧ r3 = true := by { have h := (show (r1, r2, r3) = Go.Sx.swap (L[u]) (L[v]) from hr).trans hsw; simp only [Prod.mk.injEq] at h; exact h }
         refine tkB 9 rfl (by kernel_rfl) (fun _ _ _ h => h) gnone (TTany _) (p_move rfl) rfl ?_
         refine tkB 10 rfl (by kernel_rfl) (fun _ _ _ h => h) gnone (TTany _) (p_ext rfl (by repeat' constructor)) rfl ?_
         refine tkB 11 rfl (by kernel_rfl) (fun _ _ _ h => h) gnone (TTany _) (p_ext rfl (by repeat' constructor)) rfl ?_
         refine tkB 12 rfl (by kernel_rfl) (fun _ _ _ h => h) gnone (TTany _) (p_ext rfl (by repeat' constructor)) rfl ?_
         refine dfB 15 (by kernel_rfl) ?_
         refine doRB rfl (o_st rfl Tryd.sizeOf51 rfl rfl rfl rfl rfl (by repeat' constructor) (by repeat' constructor) (by repeat' constructor)) (TOk.xP 8 [] (by kernel_rfl) (TOk.xP 8 [] (by kernel_rfl) TOk.d)) ?_
         refine dfB 16 (by kernel_rfl) ?_
         refine doRB rfl (o_st rfl Tryd.sizeOf51 rfl rfl rfl rfl rfl (by repeat' constructor) (by repeat' constructor) (by repeat' constructor)) (TOk.xP 8 [] (by kernel_rfl) (TOk.xP 8 [] (by kernel_rfl) TOk.d)) ?_
         refine tkB 17 rfl (by kernel_rfl) (fun _ _ _ h => h) gnone (TTany _) (p_asg rfl) rfl ?_
         refine dnB (by kernel_rfl) (nmid (fun a w h => by first | exact ⟨b8, b9, y1, y2, wk (is := [0, 0]) (by repeat (first | exact subσ.nil _ | refine subσ.cons rfl ?_)) rfl (by repeat' (first | constructor | apply Sub.suf)) a w h⟩ | exact ⟨b8, b9, y1, y2, wk (is := [1, 0]) (by repeat (first | exact subσ.nil _ | refine subσ.cons rfl ?_)) rfl (by repeat' (first | constructor | apply Sub.suf)) a w h⟩))
       ·
        refine doRB rfl (o_alloc Tryd.zeroValue51 rfl rfl) (TOk.t (isBoxE fun _ => isInS (by repeat' constructor) (k := 0) rfl (z := 6) (by repeat (first | exact Cut.d | apply Cut.t | apply Cut.s))) (TOk.t (isBoxE fun _ => isInS (by repeat' constructor) (k := 0) rfl (z := 6) (by repeat (first | exact Cut.d | apply Cut.t | apply Cut.s))) TOk.d)) ?_
        refine eaB ?_; intro b9
        refine dallB (is := [8, 13]) (by kernel_rfl) rfl ?_
        intro i hi; simp only [List.mem_cons, List.mem_nil_iff, or_false] at hi; rcases hi with rfl | rfl
        ·
         refine doRB rfl (o_call (is := []) Tryd.call21 (c_Swap (L[u]) (L[v]) zyp zyq (hft _ (List.getElem_mem hu2)) (hft _ (List.getElem_mem hv1))) rfl rfl (by repeat' (first | constructor | apply Sub.suf)) rfl) (TOk.xP 8 [] (by kernel_rfl) (TOk.xP 8 [] (by kernel_rfl) TOk.d)) ?_
         refine eaB ?_; rintro ⟨⟨⟨r1, r2, r3⟩, y1, y2⟩, hr⟩
         obtain ⟨rfl, rfl, rfl⟩ : r1 = mv6 (L[u]) (L[v]) ∧ r2 = L[u] ∧ r3 = true := by { have h := (show (r1, r2, r3) = Go.Sx.swap (L[u]) (L[v]) from hr).trans hsw; simp only [Prod.mk.injEq] at h; exact h }
         refine tkB 9 rfl (by kernel_rfl) (fun _ _ _ h => h) gnone (TTany _) (p_move rfl) rfl ?_
         refine tkB 10 rfl (by kernel_rfl) (fun _ _ _ h => h) gnone (TTany _) (p_ext rfl (by repeat' constructor)) rfl ?_
         refine tkB 11 rfl (by kernel_rfl) (fun _ _ _ h => h) gnone (TTany _) (p_ext rfl (by repeat' constructor)) rfl ?_
         refine tkB 12 rfl (by kernel_rfl) (fun _ _ _ h => h) gnone (TTany _) (p_ext rfl (by repeat' constructor)) rfl ?_
         refine dfB 13 (by kernel_rfl) ?_
         refine doRB rfl (o_alloc Tryd.zeroValue51 rfl rfl) (TOk.xP 8 [] (by kernel_rfl) (TOk.xP 8 [] (by kernel_rfl) TOk.d)) ?_
         refine eaB ?_; intro b8
         refine dfB 15 (by kernel_rfl) ?_
         refine doRB rfl (o_st rfl Tryd.sizeOf51 rfl rfl rfl rfl rfl (by repeat' constructor) (by repeat' constructor) (by repeat' constructor)) (TOk.xP 8 [] (by kernel_rfl) (TOk.xP 8 [] (by kernel_rfl) TOk.d)) ?_
         refine dfB 16 (by kernel_rfl) ?_
         refine doRB rfl (o_st rfl Tryd.sizeOf51 rfl rfl rfl rfl rfl (by repeat' constructor) (by repeat' constructor) (by repeat' constructor)) (TOk.xP 8 [] (by kernel_rfl) (TOk.xP 8 [] (by kernel_rfl) TOk.d)) ?_
         refine tkB 17 rfl (by kernel_rfl) (fun _ _ _ h => h) gnone (TTany _) (p_asg rfl) rfl ?_
         refine dnB (by kernel_rfl) (nmid (fun a w h => by first | exact ⟨b8, b9, y1, y2, wk (is := [0, 0]) (by repeat (first | exact subσ.nil _ | refine subσ.cons rfl ?_)) rfl (by repeat' (first | constructor | apply Sub.suf)) a w h⟩ | exact ⟨b8, b9, y1, y2, wk (is := [1, 0]) (by repeat (first | exact subσ.nil _ | refine subσ.cons rfl ?_)) rfl (by repeat' (first | constructor | apply Sub.suf)) a w h⟩))
        ·
         refine doRB rfl (o_alloc Tryd.zeroValue51 rfl rfl) (TOk.t (isBoxE fun _ => isInS (by repeat' constructor) (k := 0) rfl (z := 6) (by repeat (first | exact Cut.d | apply Cut.t | apply Cut.s))) (TOk.t (isBoxE fun _ => isInS (by repeat' constructor) (k := 0) rfl (z := 6) (by repeat (first | exact Cut.d | apply Cut.t | apply Cut.s))) TOk.d)) ?_
         refine eaB ?_; intro b8
         refine dfB 8 (by kernel_rfl) ?_
         refine doRB rfl (o_call (is := []) Tryd.call21 (c_Swap (L[u]) (L[v]) zyp zyq (hft _ (List.getElem_mem hu2)) (hft _ (List.getElem_mem hv1))) rfl rfl (by repeat' (first | constructor | apply Sub.suf)) rfl) (TOk.xP 8 [] (by kernel_rfl) (TOk.xP 8 [] (by kernel_rfl) TOk.d)) ?_
         refine eaB ?_; rintro ⟨⟨⟨r1, r2, r3⟩, y1, y2⟩, hr⟩
         obtain ⟨rfl, rfl, rfl⟩ : r1 = mv6 (L[u]) (L[v]) ∧ r2 = L[u] ∧ r3 = true := by { have h := (show (r1, r2, r3) = Go.Sx.swap (L[u]) (L[v]) from hr).trans hsw; simp only [Prod.mk.injEq] at h; exact h }
         refine tkB 9 rfl (by kernel_rfl) (fun _ _ _ h => h) gnone (TTany _) (p_move rfl) rfl ?_
         refine tkB 10 rfl (by kernel_rfl) (fun _ _ _ h => h) gnone (TTany _) (p_ext rfl (by repeat' constructor)) rfl ?_
         refine tkB 11 rfl (by kernel_rfl) (fun _ _ _ h => h) gnone (TTany _) (p_ext rfl (by repeat' constructor)) rfl ?_
         refine tkB 12 rfl (by kernel_rfl) (fun _ _ _ h => h) gnone (TTany _) (p_ext rfl (by repeat' constructor)) rfl ?_
         refine dfB 15 (by kernel_rfl) ?_
         refine doRB rfl (o_st rfl Tryd.sizeOf51 rfl rfl rfl rfl rfl (by repeat' constructor) (by repeat' constructor) (by repeat' constructor)) (TOk.xP 8 [] (by kernel_rfl) (TOk.xP 8 [] (by kernel_rfl) TOk.d)) ?_
         refine dfB 16 (by kernel_rfl) ?_
         refine doRB rfl (o_st rfl Tryd.sizeOf51 rfl rfl rfl rfl rfl (by repeat' constructor) (by repeat' constructor) (by repeat' constructor)) (TOk.xP 8 [] (by kernel_rfl) (TOk.xP 8 [] (by kernel_rfl) TOk.d)) ?_
         refine tkB 17 rfl (by kernel_rfl) (fun _ _ _ h => h) gnone (TTany _) (p_asg rfl) rfl ?_
         refine dnB (by kernel_rfl) (nmid (fun a w h => by first | exact ⟨b8, b9, y1, y2, wk (is := [0, 0]) (by repeat (first | exact subσ.nil _ | refine subσ.cons rfl ?_)) rfl (by repeat' (first | constructor | apply Sub.suf)) a w h⟩ | exact ⟨b8, b9, y1, y2, wk (is := [1, 0]) (by repeat (first | exact subσ.nil _ | refine subσ.cons rfl ?_)) rfl (by repeat' (first | constructor | apply Sub.suf)) a w h⟩))
      ·
       refine nex fun b8 => nex fun b9 => nex fun y1 => nex fun y2 => ?_
       refine nthen ?_
       refine cs ?_
       refine elC (A := A28) (l := L) (by repeat' constructor) v (List.getElem?_eq_getElem hv1) ?_; rintro zbq zoq zyq hAq
       refine elC (A := A28) (l := L) (by repeat' constructor) u (List.getElem?_eq_getElem hu2) ?_; rintro zbp zop zyp hAp
       refine cdB [10, 21, 30] [(4, b8, 4, _), (9, zbq, zoq + v * Rp.size Prim + 4, _), (15, b8, 5, _), (20, zbq, zoq + v * Rp.size Prim + 5, _), (25, b9, 0, _), (29, zbp, zop + u * Rp.size Prim, _)] TrydX.mixed (by kernel_rfl) (by kernel_rfl) (TOk.t (isBoxS (by repeat' constructor) (k := 1) (by repeat (first | exact Cut.d | apply Cut.t | apply Cut.s))) (TOk.t (isInS (by repeat' constructor) (k := 4) rfl (z := 1) (by repeat (first | exact Cut.d | apply Cut.t | apply Cut.s))) (TOk.t (isBoxS (by repeat' constructor) (k := 1) (by repeat (first | exact Cut.d | apply Cut.t | apply Cut.s))) (TOk.t (isInS (by repeat' constructor) (k := 5) rfl (z := 1) (by repeat (first | exact Cut.d | apply Cut.t | apply Cut.s))) (TOk.t (isBoxS (by repeat' constructor) (k := 6) (by repeat (first | exact Cut.d | apply Cut.t | apply Cut.s))) (TOk.t (isInS (by repeat' constructor) (k := 0) rfl (z := 6) (by repeat (first | exact Cut.d | apply Cut.t | apply Cut.s))) TOk.d)))))) ?_
       refine tkB 0 rfl (by kernel_rfl) (fun _ _ _ h => h) gnone (TTany _) (p_move rfl) rfl ?_
       refine tkB 1 rfl (by kernel_rfl) (fun _ _ _ h => h) gnone (TTany _) (p_not rfl) rfl ?_
       refine fixB (v' := .bool false) rfl ?_
       refine tkB 2 rfl (by kernel_rfl) (fun _ _ _ h => h) gnone (TTany _) (p_move rfl) rfl ?_
       refine tkB 3 rfl (by kernel_rfl) (fun _ _ _ h => h) (gyes rfl rfl rfl rfl) (TTany _) (p_fa fa51_4 rfl) rfl ?_
       refine tkB 4 rfl (by kernel_rfl) (fun _ _ _ h => h) (gyes rfl rfl rfl rfl) (TTat (List.Mem.head _)) (p_ld Tryd.isAgg22 rfl) rfl ?_
       refine tkB 5 rfl (by kernel_rfl) (fun _ _ _ h => h) (gyes rfl rfl rfl rfl) (TTany _) (p_move rfl) rfl ?_
       refine tkB 6 rfl (by kernel_rfl) (fun _ _ _ h => h) (gyes rfl rfl rfl rfl) (TTany _) (p_move rfl) rfl ?_
       refine tkB 7 rfl (by kernel_rfl) (fun _ _ _ h => h) (gyes rfl rfl rfl rfl) (TTany _) (p_ia v hAq hv1 rfl Tryd.underlying34 Tryd.sizeOf51 rfl rfl) rfl ?_
       refine tkB 8 rfl (by kernel_rfl) (fun _ _ _ h => h) (gyes rfl rfl rfl rfl) (TTany _) (p_fa fa51_4 rfl) rfl ?_
       refine tkB 9 rfl (by kernel_rfl) (fun _ _ _ h => h) (gyes rfl rfl rfl rfl) (TTat (List.Mem.tail _ (List.Mem.head _))) (p_ld Tryd.isAgg22 rfl) rfl ?_
       refine dfB 10 (by kernel_rfl) ?_
       refine doGB rfl rfl rfl rfl rfl (o_call (is := []) Tryd.call22 (c_refSame1 (L[v]).old (L[v]).old y1.1.1 zyq.1.1 y1.1.2 zyq.1.2 (hft _ (List.getElem_mem hv1)).o) rfl rfl (by repeat' (first | constructor | apply Sub.suf)) rfl) (TOk.xP 10 [] (by kernel_rfl) (TOk.xP 10 [] (by kernel_rfl) (TOk.t (isBoxE fun _ => isBoxS (by repeat' constructor) (k := 1) (by repeat (first | exact Cut.d | apply Cut.t | apply Cut.s))) (TOk.t (isBoxE fun _ => isInS (by repeat' constructor) (k := 5) rfl (z := 1) (by repeat (first | exact Cut.d | apply Cut.t | apply Cut.s))) (TOk.t (isBoxE fun _ => isBoxS (by repeat' constructor) (k := 6) (by repeat (first | exact Cut.d | apply Cut.t | apply Cut.s))) (TOk.t (isBoxE fun _ => isInS (by repeat' constructor) (k := 0) rfl (z := 6) (by repeat (first | exact Cut.d | apply Cut.t | apply Cut.s))) TOk.d)))))) ?_
       refine eaB ?_; intro x61
       refine fixB (congrArg Value.bool (decide_eq_true rfl)) ?_
       refine tkB 11 rfl (by kernel_rfl) (fun _ _ _ h => h) (gyes rfl rfl rfl rfl) (TTany _) (p_not rfl) rfl ?_
       refine tkB 12 rfl (by kernel_rfl) (fun _ _ _ h => h) gnone (TTany _) (p_pickf rfl rfl) rfl ?_
       refine tkB 13 rfl (by kernel_rfl) (fun _ _ _ h => h) gnone (TTany _) (p_move rfl) rfl ?_
       refine tkB 14 rfl (by kernel_rfl) (fun _ _ _ h => h) (gyes rfl rfl rfl rfl) (TTany _) (p_fa fa51_5 rfl) rfl ?_
       refine tkB 15 rfl (by kernel_rfl) (fun _ _ _ h => h) (gyes rfl rfl rfl rfl) (TTat (List.Mem.tail _ (List.Mem.tail _ (List.Mem.head _)))) (p_ld Tryd.isAgg22 rfl) rfl ?_
       refine tkB 16 rfl (by kernel_rfl) (fun _ _ _ h => h) (gyes rfl rfl rfl rfl) (TTany _) (p_move rfl) rfl ?_
       refine tkB 17 rfl (by kernel_rfl) (fun _ _ _ h => h) (gyes rfl rfl rfl rfl) (TTany _) (p_move rfl) rfl ?_
       refine tkB 18 rfl (by kernel_rfl) (fun _ _ _ h => h) (gyes rfl rfl rfl rfl) (TTany _) (p_ia v hAq hv1 rfl Tryd.underlying34 Tryd.sizeOf51 rfl rfl) rfl ?_
       refine tkB 19 rfl (by kernel_rfl) (fun _ _ _ h => h) (gyes rfl rfl rfl rfl) (TTany _) (p_fa fa51_5 rfl) rfl ?_
       refine tkB 20 rfl (by kernel_rfl) (fun _ _ _ h => h) (gyes rfl rfl rfl rfl) (TTat (List.Mem.tail _ (List.Mem.tail _ (List.Mem.tail _ (List.Mem.head _))))) (p_ld Tryd.isAgg22 rfl) rfl ?_
       refine dfB 21 (by kernel_rfl) ?_
       refine doGB rfl rfl rfl rfl rfl (o_call (is := []) Tryd.call22 (c_refSame1 (L[v]).new (L[v]).new y1.2.1 zyq.2.1 y1.2.2 zyq.2.2 (hft _ (List.getElem_mem hv1)).n) rfl rfl (by repeat' (first | constructor | apply Sub.suf)) rfl) (TOk.xP 10 [] (by kernel_rfl) (TOk.xP 10 [] (by kernel_rfl) (TOk.xP 21 [] (by kernel_rfl) (TOk.xP 21 [] (by kernel_rfl) (TOk.t (isBoxE fun _ => isBoxS (by repeat' constructor) (k := 6) (by repeat (first | exact Cut.d | apply Cut.t | apply Cut.s))) (TOk.t (isBoxE fun _ => isInS (by repeat' constructor) (k := 0) rfl (z := 6) (by repeat (first | exact Cut.d | apply Cut.t | apply Cut.s))) TOk.d)))))) ?_
       refine eaB ?_; intro x72
       refine fixB (congrArg Value.bool (decide_eq_true rfl)) ?_
       refine tkB 22 rfl (by kernel_rfl) (fun _ _ _ h => h) (gyes rfl rfl rfl rfl) (TTany _) (p_not rfl) rfl ?_
       refine tkB 23 rfl (by kernel_rfl) (fun _ _ _ h => h) gnone (TTany _) (p_pickf rfl rfl) rfl ?_
       refine tkB 24 rfl (by kernel_rfl) (fun _ _ _ h => h) gnone (TTany _) (p_move rfl) rfl ?_
       refine tkB 25 rfl (by kernel_rfl) (fun _ _ _ h => h) (gyes rfl rfl rfl rfl) (TTat (List.Mem.tail _ (List.Mem.tail _ (List.Mem.tail _ (List.Mem.tail _ (List.Mem.head _)))))) (p_lda Tryd.isAgg51 Tryd.sizeOf51 rfl rfl) rfl ?_
       refine tkB 26 rfl (by kernel_rfl) (fun _ _ _ h => h) (gyes rfl rfl rfl rfl) (TTany _) (p_move rfl) rfl ?_
       refine tkB 27 rfl (by kernel_rfl) (fun _ _ _ h => h) (gyes rfl rfl rfl rfl) (TTany _) (p_move rfl) rfl ?_
       refine tkB 28 rfl (by kernel_rfl) (fun _ _ _ h => h) (gyes rfl rfl rfl rfl) (TTany _) (p_ia u hAp hu2 rfl Tryd.underlying34 Tryd.sizeOf51 rfl rfl) rfl ?_
       refine tkB 29 rfl (by kernel_rfl) (fun _ _ _ h => h) (gyes rfl rfl rfl rfl) (TTat (List.Mem.tail _ (List.Mem.tail _ (List.Mem.tail _ (List.Mem.tail _ (List.Mem.tail _ (List.Mem.head _))))))) (p_lda Tryd.isAgg51 Tryd.sizeOf51 rfl rfl) rfl ?_
       refine dfB 30 (by kernel_rfl) ?_
       refine doGB rfl rfl rfl rfl rfl (o_call (is := []) Tryd.call23 (c_primSame (L[u]) (L[u]) y2 zyp (hft _ (List.getElem_mem hu2))) rfl rfl (by repeat' (first | constructor | apply Sub.suf)) rfl) (TOk.xP 10 [] (by kernel_rfl) (TOk.xP 10 [] (by kernel_rfl) (TOk.xP 21 [] (by kernel_rfl) (TOk.xP 21 [] (by kernel_rfl) (TOk.xP 30 [] (by kernel_rfl) (TOk.xP 30 [] (by kernel_rfl) TOk.d)))))) ?_
       refine eaB ?_; intro x81
       refine fixB (congrArg Value.bool (decide_eq_true rfl)) ?_
       refine tkB 31 rfl (by kernel_rfl) (fun _ _ _ h => h) (gyes rfl rfl rfl rfl) (TTany _) (p_not rfl) rfl ?_
       refine tkB 32 rfl (by kernel_rfl) (fun _ _ _ h => h) gnone (TTany _) (p_pickf rfl rfl) rfl ?_
       refine dnB (by kernel_rfl) ?_
       refine nthen ?_
       refine cc rfl (fun h => by cases h) (fun h => ?_)
       refine cskip ?_
       refine nblock ?_
       refine nthen ?_
       refine cr ?_
       refine ls (op (p_add rfl rfl (by omega)) rfl) ?_
       refine ls (op (p_move rfl) rfl) ?_
       refine ln ?_
       refine nnext ⟨u + 1, hu1⟩ (by dsimp only; omega) (wk (is := []) (by repeat (first | exact subσ.nil _ | refine subσ.cons rfl ?_)) rfl (by repeat' (first | constructor | apply Sub.suf)))
     ·
      intro h36
      skip
      refine cexit ?_
      refine xthen ?_
      refine xthen ?_
      refine xblock ?_
      refine nblock ?_
      refine nthen ?_
      refine cr ?_
      refine ls (op (p_add rfl rfl (by omega)) rfl) ?_
      refine ls (op (p_move rfl) rfl) ?_
      refine ln ?_
      refine nnext ⟨v + 1, hv1⟩ (by dsimp only; omega) (wk (is := []) (by repeat (first | exact subσ.nil _ | refine subσ.cons rfl ?_)) rfl (by repeat' (first | constructor | apply Sub.suf)))
    ·
     intro h32
     skip
     refine cexit ?_
     refine xthen ?_
     refine xthen ?_
     refine xblock ?_
     refine nthen ?_
     refine cs ?_
     refine cr ?_
     refine ls (o_call (is := []) Tryd.call9 (c_alive06) rfl rfl (by repeat' (first | constructor | apply Sub.suf)) rfl) ?_
     refine le ?_; intro x86
     refine ls (op (p_asg rfl) rfl) ?_
     refine ln ?_
     refine nthen ?_
     refine cret ?_
     refine xret (fun _ _ h => h) ?_
     refine rret (is := []) () (Or.inl rfl) (Res.t rfl Res.d) (rfl) rfl (by repeat' (first | constructor | apply Sub.suf))

end Go.Proofs.YtdbiillompeclaaDoor.X
