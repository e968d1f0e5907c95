/- OWN WORK: a part of the proof of a law of the seat YtdbiillompeclaaGreatDoor: contracts. -/
import Derived.Test.YtdbiillompeclaaGreatDoorProg
import Derived.Test.YtdbiillompeclaaGreatDoorXGC
import Derived.Test.YtdbiillompeclaaGreatDoorXGD
import Derived.Test.YtdbiillompeclaaGreatDoorXGB
import Derived.Test.YtdbiillompeclaaGreatDoorXGA
section
set_option linter.unusedVariables false
set_option linter.unusedSimpArgs false
namespace Go.Proofs.YtdbiillompeclaaGreatDoor.X
open Go Go.RowKit Go.Proofs Go.Sx
attribute [local irreducible] slA isA box row

theorem inf39 : (Tryz.prog.info? 39).map (fun i => (i.zero, i.size, i.bytes)) = some (some (.agg #[.int .i64 0, .string ⟨#[]⟩, .string ⟨#[]⟩, .int .i64 0, .slice none 0 0, .slice none 0 0]), 6, 96) := by kernel_rfl
set_option maxRecDepth 100000 in
theorem c_dCost (l : List Prim) (A : Option Addr) (c : Nat) (hl : l.length ≤ 1000000) (hc : costL l ≤ 1000000000000) : Con Tryz.prog 67 [.slice A l.length c] [] [slA A l] Unit (fun _ => .int .i64 ((costL l : Nat) : Int)) (fun _ => []) (fun _ => []) := by
 refine con Tryz.func67 rfl Tryz.ntmps67 rfl ?_
 intro M0 F0 w0
 refine cs ?_
 refine cr ?_
 refine ls (op (p_asg rfl) rfl) ?_
 refine ln ?_
 refine nthen ?_
 refine cs ?_
 refine cr ?_
 refine ls (op (p_asg rfl) rfl) ?_
 refine ln ?_
 refine nthen ?_
 refine cs ?_
 refine cs ?_
 refine cr ?_
 refine ls (op (p_move rfl) rfl) ?_
 refine ls (op (p_lenl rfl Tryz.underlying29) rfl) ?_
 refine ls (op (p_move rfl) rfl) ?_
 refine ln ?_
 refine nthen ?_
 refine cb ?_
 refine cl (ι := {q : Nat × Int // q.1 ≤ l.length ∧ q.2 = ((costL (l.take q.1) : Nat) : Int)}) (fun i => St M0 F0 w0 23 [(3, .int .i64 i.1.2), (6, .slice A l.length c), (7, .int .i64 (l.length : Int)), (8, .int .i64 ((i.1.1 : Nat) : Int))] [] [slA A l]) (fun i => l.length - i.1.1) ⟨(0, 0), Nat.zero_le _, rfl⟩ (wk0 (by repeat (first | exact subσ.nil _ | refine subσ.cons rfl ?_)) (by repeat' (first | constructor | apply Sub.suf))) ?_
 rintro ⟨⟨k, n⟩, hk, hn⟩
 refine cmono (S' := St M0 F0 w0 23 [(3, .int .i64 n), (6, .slice A l.length c), (7, .int .i64 (l.length : Int)), (8, .int .i64 ((k : Nat) : Int))] [] [slA A l]) (fun _ _ h => h) ?_
 refine cs ?_
 refine cr ?_
 refine ls (op (p_icmp rfl rfl rfl) rfl) ?_
 refine ln ?_
 refine nthen ?_
 refine cs ?_
 refine cc rfl ?_ ?_
 ·
  intro h9
  dsimp only at hk hn
  try simp only [decide_eq_true_eq, decide_eq_false_iff_not, Bool.not_eq_true', Bool.not_eq_false', Int.not_lt, Int.not_le, ge_iff_le, Bool.not_true, Bool.not_false] at h9
  have hk1 : k < l.length := by omega
  have e1 := cost_take hk1
  have e2 := cost_le l (k + 1)
  refine cskip ?_
  refine nthen ?_
  refine cs ?_
  refine cb ?_
  refine cs ?_
  refine elC (by repeat' constructor) k (List.getElem?_eq_getElem (l := l) hk1) ?_; rintro zbp zop zyp hAp
  refine cr ?_
  refine ls (op (p_ia k hAp hk1 rfl Tryz.underlying29 Tryz.sizeOf39 rfl rfl) rfl) ?_
  refine ls (o_ldj Tryz.isAgg39 Tryz.sizeOf39 rfl (by repeat' constructor) 0 rfl (by repeat (first | exact Cut.d | apply Cut.t | apply Cut.s)) rfl) ?_
  refine ls (o_alloc Tryz.zeroValue39 rfl rfl) ?_
  refine le ?_; intro b5
  refine ls (o_st rfl Tryz.sizeOf39 rfl rfl rfl rfl rfl (by repeat' constructor) (by repeat' constructor) (by repeat' constructor)) ?_
  refine ln ?_
  refine nthen ?_
  refine cr ?_
  refine ls (op (p_move rfl) rfl) ?_
  refine ls (op (p_fa fa39_4 rfl) rfl) ?_
  refine ls (o_ld Tryz.isAgg37 rfl (by repeat' constructor) (by repeat' constructor) rfl) ?_
  refine ls (op (p_lenl rfl Tryz.underlying37) rfl) ?_
  refine ls (op (p_fa fa39_5 rfl) rfl) ?_
  refine ls (o_ld Tryz.isAgg37 rfl (by repeat' constructor) (by repeat' constructor) rfl) ?_
  refine ls (op (p_lenl rfl Tryz.underlying37) rfl) ?_
  refine ls (op (p_add rfl rfl (by have := cost_in hk1; omega)) rfl) ?_
  refine ls (op (p_add rfl rfl (by have := cost_in hk1; omega)) rfl) ?_
  refine ls (op (p_asg rfl) rfl) ?_
  refine ln ?_
  refine nblock ?_
  refine nthen ?_
  refine cr ?_
  refine ls (op (p_add rfl rfl (by omega)) rfl) ?_
  refine ls (op (p_move rfl) rfl) ?_
  refine ln ?_
  refine nnext ⟨(k + 1, n + ((l[k].old.length : Int) + (l[k].new.length : Int))), hk1, by dsimp only; omega⟩ (by dsimp only; omega) (wk (is := []) (by repeat (first | exact subσ.nil _ | refine subσ.cons rfl ?_)) rfl (by repeat' (first | constructor | apply Sub.suf)))
 ·
  intro h9
  dsimp only at hk hn
  try simp only [decide_eq_true_eq, decide_eq_false_iff_not, Bool.not_eq_true', Bool.not_eq_false', Int.not_lt, Int.not_le, ge_iff_le, Bool.not_true, Bool.not_false] at h9
  rw [List.take_of_length_le (by omega)] at hn
  refine cexit ?_
  refine xthen ?_
  refine xthen ?_
  refine xblock ?_
  refine nthen ?_
  refine cs ?_
  refine cr ?_
  refine ls (op (p_move rfl) rfl) ?_
  refine ls (op (p_asg rfl) rfl) ?_
  refine ln ?_
  refine nthen ?_
  refine cret ?_
  refine xret (fun _ _ h => h) ?_
  refine rret (is := []) () (Or.inl rfl) (Res.t rfl Res.d) ?_ rfl (by repeat' (first | constructor | apply Sub.suf))
  rw [hn]; rfl

set_option maxRecDepth 100000 in
theorem c_dLines (nm : ByteArray) (l m : List ByteArray) (A B : Option Addr) (c c' : Nat) (hl : l.length ≤ 1000000) (hm : m.length ≤ 1000000) (hc : l.length ≤ c) (hc' : m.length ≤ c') : Con Tryz.prog 19 [.string nm, .slice A l.length c, .slice B m.length c'] [] [slA A l, slA B m] (Option Addr × Nat) (fun x => .slice x.1 (linesT nm l m).length x.2) (fun x => [row 39 x.1 x.2 (linesT nm l m)]) (fun _ => []) := by
 refine con Tryz.func19 rfl Tryz.ntmps19 rfl ?_
 intro M0 F0 w0
 refine cs ?_
 refine cr ?_
 refine ls (op (p_asg rfl) rfl) ?_
 refine ln ?_
 refine nthen ?_
 refine cs ?_
 refine cs ?_
 refine cr ?_
 refine ls (op (p_move rfl) rfl) ?_
 refine ls (op (p_move rfl) rfl) ?_
 refine ls (o_call (is := []) Tryz.call68 (c_dLong l m A B c c') rfl rfl (by repeat' (first | constructor | apply Sub.suf)) rfl) ?_
 refine le ?_; intro x15
 refine ln ?_
 refine nthen ?_
 refine cc rfl ?_ ?_
 ·
  intro h15
  skip
  refine cs ?_
  refine cmono (fun a w h => nilRow (α := Prim) 39 h) ?_
  refine cmono (fun a w h => rowEq (α := Prim) (by repeat' constructor) (linesT_long (nm := nm) h15).symm (by repeat' constructor) h) ?_
  refine cr ?_
  refine ls (op (p_asg rfl) rfl) ?_
  refine ln ?_
  refine nthen ?_
  refine cret ?_
  refine xret (fun _ _ h => h) ?_
  refine rret (is := [0]) (none, 0) (Or.inl rfl) (Res.t rfl Res.d) ?_ rfl (by repeat' (first | constructor | apply Sub.suf))
  rw [linesT_long h15]; rfl
 ·
  intro h15
  obtain ⟨hl2, hm2⟩ := longB_no h15
  refine cskip ?_
  refine nthen ?_
  refine cs ?_
  refine cr ?_
  refine ls (op (p_asg rfl) rfl) ?_
  refine ln ?_
  refine nthen ?_
  refine cs ?_
  refine cmono (fun a w h => nilRow (α := Prim) 39 h) ?_
  refine cr ?_
  refine ls (op (p_bld sb111 rfl Fill.d) rfl) ?_
  refine ls (o_alloc Tryz.zeroValue111 rfl rfl) ?_
  refine le ?_; intro b8
  refine ls (o_st rfl Tryz.sizeOf111 rfl rfl rfl rfl rfl (by repeat' constructor) (by repeat' constructor) (by repeat' constructor)) ?_
  refine ln ?_
  refine nthen ?_
  refine cs ?_
  refine cs ?_
  refine cr ?_
  refine ls (op (p_move rfl) rfl) ?_
  refine ls (op (p_move rfl) rfl) ?_
  refine ls (o_call (is := []) Tryz.call66 (c_dCommon l m A B c c' hl hm) rfl rfl (by repeat' (first | constructor | apply Sub.suf)) rfl) ?_
  refine le ?_; rintro ⟨⟨o, ⟨A19, c19⟩⟩, hlo, hno⟩
  dsimp only at hlo hno
  obtain rfl := (hno h15).eq
  have hcm := commF_spec l m
  have hcl := hcm.len
  have hcl2 := lcs_lenl l m
  refine ls (op (p_move rfl) rfl) ?_
  refine ls (op (p_lenl rfl Tryz.underlying37) rfl) ?_
  refine ls (op (p_move rfl) rfl) ?_
  refine ls (op (p_lenl rfl Tryz.underlying37) rfl) ?_
  refine ls (op (p_bld sb111 rfl (Fill.t (by repeat' constructor) rfl rfl (by repeat' constructor) (Fill.t (by repeat' constructor) rfl rfl (by repeat' constructor) Fill.d))) rfl) ?_
  refine ls (o_bsl [(l.length, m.length)] Tryz.underlying108 Tryz.sizeOf111 Tryz.zeroValue111 rfl (Enum.t Enum.d) (RV.t () rfl (by repeat' (first | constructor | apply Sub.suf)) RV.d) rfl (by decide) (by decide) rfl) ?_
  refine le ?_; intro b25
  refine lmono (fun a w h => Go.Sx.freeze (i := 0) rfl h) ?_
  refine ls (o_app (is := [0]) Tryz.underlying108 inf111 rfl (by decide) (by decide) rfl rfl (by simp only [List.length_cons, List.length_nil]; omega) (fun h => by cases h) rfl (by repeat' (first | constructor | apply Sub.suf)) rfl) ?_
  refine le ?_; rintro ⟨A26, c26⟩
  refine lmono (fun a w h => Go.Sx.freeze (i := 0) rfl h) ?_
  refine ls (op (p_lenl rfl Tryz.underlying108) rfl) ?_
  refine ls (op (p_move rfl) rfl) ?_
  refine ln ?_
  refine nthen ?_
  refine cb ?_
  refine cl (ι := {q : Nat × Option Addr × Nat // q.1 ≤ (commF l m ++ [(l.length, m.length)]).length}) (fun i => St M0 F0 w0 55 [(0, .string nm), (1, .slice A l.length c), (2, .slice B m.length c'), (7, .slice i.1.2.1 (linF nm l m ((commF l m ++ [(l.length, m.length)]).take (i.1.1))).1.length i.1.2.2), (8, .pointer (some ⟨b8, 0, none⟩)), (26, .slice A26 (commF l m ++ [(l.length, m.length)]).length c26), (27, .int .i64 (((commF l m ++ [(l.length, m.length)]).length : Nat) : Int)), (28, .int .i64 ((i.1.1 : Nat) : Int))] [row 39 (i.1.2.1) (i.1.2.2) (linF nm l m ((commF l m ++ [(l.length, m.length)]).take (i.1.1))).1, box b8 111 [.int .i64 (((linF nm l m ((commF l m ++ [(l.length, m.length)]).take (i.1.1))).2.1 : Nat) : Int), .int .i64 (((linF nm l m ((commF l m ++ [(l.length, m.length)]).take (i.1.1))).2.2 : Nat) : Int)]] [slA A l, slA B m, slA A26 (commF l m ++ [(l.length, m.length)])]) (fun i => (commF l m ++ [(l.length, m.length)]).length - i.1.1) ⟨(0, none, 0), Nat.zero_le _⟩ (wk (is := [1, 0]) (by repeat (first | exact subσ.nil _ | refine subσ.cons rfl ?_)) rfl (by repeat' (first | constructor | apply Sub.suf))) ?_
  rintro ⟨⟨k, A7, c7⟩, hk⟩
  refine cmono (S' := St M0 F0 w0 55 [(0, .string nm), (1, .slice A l.length c), (2, .slice B m.length c'), (7, .slice A7 (linF nm l m ((commF l m ++ [(l.length, m.length)]).take (k))).1.length c7), (8, .pointer (some ⟨b8, 0, none⟩)), (26, .slice A26 (commF l m ++ [(l.length, m.length)]).length c26), (27, .int .i64 (((commF l m ++ [(l.length, m.length)]).length : Nat) : Int)), (28, .int .i64 ((k : Nat) : Int))] [row 39 (A7) (c7) (linF nm l m ((commF l m ++ [(l.length, m.length)]).take (k))).1, box b8 111 [.int .i64 (((linF nm l m ((commF l m ++ [(l.length, m.length)]).take (k))).2.1 : Nat) : Int), .int .i64 (((linF nm l m ((commF l m ++ [(l.length, m.length)]).take (k))).2.2 : Nat) : Int)]] [slA A l, slA B m, slA A26 (commF l m ++ [(l.length, m.length)])]) (fun _ _ h => h) ?_
  refine cs ?_
  refine cr ?_
  refine ls (op (p_icmp rfl rfl rfl) rfl) ?_
  refine ln ?_
  refine nthen ?_
  refine cs ?_
  refine cc rfl ?_ ?_
  ·
   intro h29
   dsimp only at hk
   try simp only [decide_eq_true_eq, decide_eq_false_iff_not, Bool.not_eq_true', Bool.not_eq_false', Int.not_lt, Int.not_le, ge_iff_le, Bool.not_true, Bool.not_false] at h29
   have hk1 : k < (commF l m ++ [(l.length, m.length)]).length := by omega
   have hPL : (commF l m ++ [(l.length, m.length)]).length ≤ 201 := by simp only [List.length_append, List.length_singleton]; omega
   have hst := hcm.step (nm := nm) k hk1
   have hlt := linF_take (nm := nm) (a := l) (b := m) hk1
   have hln := linF_len nm l m ((commF l m ++ [(l.length, m.length)]).take k)
   have hln2 : ((commF l m ++ [(l.length, m.length)]).take k).length ≤ 201 := by simp only [List.length_take, List.length_append, List.length_singleton]; omega
   refine cskip ?_
   refine nthen ?_
   refine cs ?_
   refine cb ?_
   refine cs ?_
   refine elC (A := A26) (l := (commF l m ++ [(l.length, m.length)])) (by repeat' constructor) k (List.getElem?_eq_getElem hk1) ?_; rintro zbp zop zyp hAp
   refine cr ?_
   refine ls (op (p_ia k hAp hk1 rfl Tryz.underlying108 Tryz.sizeOf111 rfl rfl) rfl) ?_
   refine ls (o_ldj Tryz.isAgg111 Tryz.sizeOf111 rfl (by repeat' constructor) 0 rfl (by repeat (first | exact Cut.d | apply Cut.t | apply Cut.s)) rfl) ?_
   refine ls (o_alloc Tryz.zeroValue111 rfl rfl) ?_
   refine le ?_; intro b10
   refine ls (o_st rfl Tryz.sizeOf111 rfl rfl rfl rfl rfl (by repeat' constructor) (by repeat' constructor) (by repeat' constructor)) ?_
   refine ln ?_
   refine nthen ?_
   refine cs ?_
   refine cs ?_
   refine cr ?_
   refine ls (op (p_move rfl) rfl) ?_
   refine ls (op (p_move rfl) rfl) ?_
   refine ls (op (p_move rfl) rfl) ?_
   refine ls (o_ldw Tryz.isAgg111 Tryz.sizeOf111 rfl (by repeat' constructor) (by rfl) rfl) ?_
   refine ls (o_ldw Tryz.isAgg111 Tryz.sizeOf111 rfl (by repeat' constructor) (by rfl) rfl) ?_
   refine ls (o_call (is := []) Tryz.call69 (c_dHunk nm l m A B c c' hl hm hc hc' (linF nm l m ((commF l m ++ [(l.length, m.length)]).take (k))).2 (commF l m ++ [(l.length, m.length)])[k] hst.1 hst.2.1 hst.2.2.1 hst.2.2.2) rfl rfl (by repeat' (first | constructor | apply Sub.suf)) rfl) ?_
   refine le ?_; rintro ⟨⟨A38, c38⟩, ⟨A39, c39⟩⟩
   refine ls (op (p_move rfl) rfl) ?_
   refine ls (op (p_ext rfl (by repeat' constructor)) rfl) ?_
   refine ls (op (p_ext rfl (by repeat' constructor)) rfl) ?_
   refine ls (o_alloc Tryz.zeroValue39 rfl rfl) ?_
   refine le ?_; intro b11
   refine ls (o_st rfl Tryz.sizeOf39 rfl rfl rfl rfl rfl (by repeat' constructor) (by repeat' constructor) (by repeat' constructor)) ?_
   refine ls (op (p_asg rfl) rfl) ?_
   refine ln ?_
   refine nthen ?_
   refine cs ?_
   refine cr ?_
   refine ls (op (p_move rfl) rfl) ?_
   refine ln ?_
   refine nthen ?_
   refine cc rfl ?_ ?_
   ·
    intro h41
    have hq : (linF nm l m ((commF l m ++ [(l.length, m.length)]).take (k))).2.1 < (commF l m ++ [(l.length, m.length)])[k].1 ∨ (linF nm l m ((commF l m ++ [(l.length, m.length)]).take (k))).2.2 < (commF l m ++ [(l.length, m.length)])[k].2 := of_decide_eq_true h41
    have hh : Go.Proofs.YtdbiillompeclaaGreatDoor.X.hk nm l m (linF nm l m ((commF l m ++ [(l.length, m.length)]).take (k))).2 (commF l m ++ [(l.length, m.length)])[k] = [hunkP nm l m (linF nm l m ((commF l m ++ [(l.length, m.length)]).take (k))).2 (commF l m ++ [(l.length, m.length)])[k]] := if_pos hq
    refine cr ?_
    refine ls (op (p_move rfl) rfl) ?_
    refine ls (o_ldw Tryz.isAgg39 Tryz.sizeOf39 rfl (by repeat' constructor) (by rfl) rfl) ?_
    refine ls (o_bsl [hunkP nm l m (linF nm l m ((commF l m ++ [(l.length, m.length)]).take (k))).2 (commF l m ++ [(l.length, m.length)])[k]] Tryz.underlying29 Tryz.sizeOf39 Tryz.zeroValue39 rfl (Enum.t Enum.d) (RV.t ((A38, c38), (A39, c39)) rfl (by repeat' (first | constructor | apply Sub.suf)) RV.d) rfl (by decide) (by decide) rfl) ?_
    refine le ?_; intro b44
    refine lmono (fun a w h => Go.Sx.freeze (i := 0) rfl h) ?_
    refine ls (o_app (is := [2]) Tryz.underlying29 inf39 rfl (by decide) (by decide) rfl rfl (by simp only [List.length_cons, List.length_nil]; omega) (fun h => by cases h) rfl (by repeat' (first | constructor | apply Sub.suf)) rfl) ?_
    refine le ?_; rintro ⟨A45, c45⟩
    refine ls (op (p_asg rfl) rfl) ?_
    refine ln ?_
    refine nthen ?_
    refine cr ?_
    refine ls (op (p_fa fa111_0 rfl) rfl) ?_
    refine ls (o_ld Tryz.isAgg3 rfl (by repeat' constructor) (by repeat' constructor) rfl) ?_
    refine ls (op (p_add rfl rfl (by omega)) rfl) ?_
    refine ls (op (p_fa fa111_1 rfl) rfl) ?_
    refine ls (o_ld Tryz.isAgg3 rfl (by repeat' constructor) (by repeat' constructor) rfl) ?_
    refine ls (op (p_add rfl rfl (by omega)) rfl) ?_
    refine ls (op (p_bld sb111 rfl (Fill.t (by repeat' constructor) rfl rfl (by repeat' constructor) (Fill.t (by repeat' constructor) rfl rfl (by repeat' constructor) Fill.d))) rfl) ?_
    refine ls (o_st rfl Tryz.sizeOf111 rfl rfl rfl rfl rfl (by repeat' constructor) (by repeat' constructor) (by repeat' constructor)) ?_
    refine ln ?_
    refine nblock ?_
    refine nthen ?_
    refine cr ?_
    refine ls (op (p_add rfl rfl (by omega)) rfl) ?_
    refine ls (op (p_move rfl) rfl) ?_
    refine ln ?_
    refine nnext ⟨(k + 1, A45, c45), hk1⟩ (by dsimp only; omega) (fun a w h => by dsimp only; rw [hlt, hh]; exact wk (is := [0, 2]) (by repeat (first | exact subσ.nil _ | refine subσ.cons rfl ?_)) rfl (by repeat' (first | constructor | apply Sub.suf)) a w h)
   ·
    intro h41
    have hq : ¬ ((linF nm l m ((commF l m ++ [(l.length, m.length)]).take (k))).2.1 < (commF l m ++ [(l.length, m.length)])[k].1 ∨ (linF nm l m ((commF l m ++ [(l.length, m.length)]).take (k))).2.2 < (commF l m ++ [(l.length, m.length)])[k].2) := of_decide_eq_false h41
    have hh : Go.Proofs.YtdbiillompeclaaGreatDoor.X.hk nm l m (linF nm l m ((commF l m ++ [(l.length, m.length)]).take (k))).2 (commF l m ++ [(l.length, m.length)])[k] = [] := if_neg hq
    refine cskip ?_
    refine nthen ?_
    refine cr ?_
    refine ls (op (p_fa fa111_0 rfl) rfl) ?_
    refine ls (o_ld Tryz.isAgg3 rfl (by repeat' constructor) (by repeat' constructor) rfl) ?_
    refine ls (op (p_add rfl rfl (by omega)) rfl) ?_
    refine ls (op (p_fa fa111_1 rfl) rfl) ?_
    refine ls (o_ld Tryz.isAgg3 rfl (by repeat' constructor) (by repeat' constructor) rfl) ?_
    refine ls (op (p_add rfl rfl (by omega)) rfl) ?_
    refine ls (op (p_bld sb111 rfl (Fill.t (by repeat' constructor) rfl rfl (by repeat' constructor) (Fill.t (by repeat' constructor) rfl rfl (by repeat' constructor) Fill.d))) rfl) ?_
    refine ls (o_st rfl Tryz.sizeOf111 rfl rfl rfl rfl rfl (by repeat' constructor) (by repeat' constructor) (by repeat' constructor)) ?_
    refine ln ?_
    refine nblock ?_
    refine nthen ?_
    refine cr ?_
    refine ls (op (p_add rfl rfl (by omega)) rfl) ?_
    refine ls (op (p_move rfl) rfl) ?_
    refine ln ?_
    refine nnext ⟨(k + 1, A7, c7), hk1⟩ (by dsimp only; omega) (fun a w h => by dsimp only; rw [hlt, hh, List.append_nil]; exact wk (is := [2, 2]) (by repeat (first | exact subσ.nil _ | refine subσ.cons rfl ?_)) rfl (by repeat' (first | constructor | apply Sub.suf)) a w h)
  ·
   intro h29
   dsimp only at hk
   try simp only [decide_eq_true_eq, decide_eq_false_iff_not, Bool.not_eq_true', Bool.not_eq_false', Int.not_lt, Int.not_le, ge_iff_le, Bool.not_true, Bool.not_false] at h29
   obtain rfl : k = (commF l m ++ [(l.length, m.length)]).length := by omega
   rw [List.take_length]
   refine cexit ?_
   refine xthen ?_
   refine xthen ?_
   refine xblock ?_
   refine nthen ?_
   refine cs ?_
   refine cmono (fun a w h => rowEq (α := Prim) (by repeat' constructor) (linesT_not (nm := nm) h15).symm (by repeat' constructor) h) ?_
   refine cr ?_
   refine ls (op (p_move rfl) rfl) ?_
   refine ls (op (p_asg rfl) rfl) ?_
   refine ln ?_
   refine nthen ?_
   refine cret ?_
   refine xret (fun _ _ h => h) ?_
   refine rret (is := [0]) (A7, c7) (Or.inl rfl) (Res.t rfl Res.d) ?_ rfl (by repeat' (first | constructor | apply Sub.suf))
   rw [linesT_not h15]; rfl

set_option maxRecDepth 100000 in
theorem c_IndexFuncK (l : List ByteArray) (A : Option Addr) (c : Nat) (hl : l.length ≤ 2000000) (f : ByteArray → Bool) (g : FuncId) (cap : List Value) (Γf : List Asn) (x : Xsn) (hcf : ∀ args w, (callFunc g args).run Tryz.prog w = .ok (.enter g args) w) (hg : ∀ s, Con Tryz.prog g (.string s :: cap) [x] Γf Unit (fun _ => .bool (f s)) (fun _ => [x]) (fun _ => [])) : Con Tryz.prog 156 [.slice A l.length c, .func (.func g) #[] cap.toArray] [row 9 A c (l), x] Γf {r : Int // (r = -1 ∧ l.any f = false) ∨ ∃ k : Nat, r = (k : Int) ∧ ∃ h : k < l.length, (l.take k).any f = false ∧ f l[k] = true} (fun r => .int .i64 r.1) (fun _ => [row 9 A c (l), x]) (fun _ => []) := by
 refine con Tryz.func156 rfl Tryz.ntmps156 rfl ?_
 intro M0 F0 w0
 refine cs ?_
 refine cr ?_
 refine ls (op (p_asg rfl) rfl) ?_
 refine ln ?_
 refine nthen ?_
 refine cs ?_
 refine cs ?_
 refine cr ?_
 refine ls (op (p_move rfl) rfl) ?_
 refine ls (op (p_lenl rfl Tryz.underlying37) rfl) ?_
 refine ls (op (p_move rfl) rfl) ?_
 refine ln ?_
 refine nthen ?_
 refine cb ?_
 refine cl (ι := {k : Nat // k ≤ l.length ∧ (l.take k).any f = false}) (fun i => St M0 F0 w0 19 [(0, .slice A l.length c), (1, .func (.func g) #[] cap.toArray), (7, .int .i64 (l.length : Int)), (8, .int .i64 (i.1 : Int))] [row 9 A c (l), x] Γf) (fun i => l.length - i.1) ⟨0, by simp⟩ (wk0 (by repeat (first | exact subσ.nil _ | refine subσ.cons rfl ?_)) (by repeat' (first | constructor | apply Sub.suf))) ?_
 rintro ⟨k, hk, hkk⟩
 refine cmono (S' := St M0 F0 w0 19 [(0, .slice A l.length c), (1, .func (.func g) #[] cap.toArray), (7, .int .i64 (l.length : Int)), (8, .int .i64 (k : Int))] [row 9 A c (l), x] Γf) (fun _ _ h => h) ?_
 refine cs ?_
 refine cr ?_
 refine ls (op (p_icmp rfl rfl rfl) rfl) ?_
 refine ln ?_
 refine nthen ?_
 refine cs ?_
 refine cc rfl ?_ ?_
 ·
  intro h9
  try simp only [decide_eq_true_eq, decide_eq_false_iff_not, Bool.not_eq_true', Bool.not_eq_false', Int.not_lt, Int.not_le, ge_iff_le, Bool.not_true, Bool.not_false] at h9
  have hk1 : k < l.length := by omega
  refine cskip ?_
  refine nthen ?_
  refine cs ?_
  refine cb ?_
  refine cs ?_
  refine cr ?_
  refine ls (op (p_move rfl) rfl) ?_
  refine ls (op (p_asg rfl) rfl) ?_
  refine ln ?_
  refine nthen ?_
  refine cs ?_
  refine rowC (α := ByteArray) (A := A) (l := l) (by repeat' constructor) (List.ne_nil_of_length_pos (by omega)) ?_
  rintro g0 rfl
  refine cr ?_
  refine ls (op (p_move rfl) rfl) ?_
  refine ls (op (p_move rfl) rfl) ?_
  refine ls (op (p_move rfl) rfl) ?_
  refine ls (op (p_ia k rfl hk1 rfl Tryz.underlying37 Tryz.sizeOf9 rfl rfl) rfl) ?_
  refine ls (o_ldrS Tryz.isAgg9 rfl (by repeat' constructor) (List.getElem?_eq_getElem hk1) rfl) ?_
  refine ls (o_callv (is := [1]) rfl hcf (hg l[k]) rfl rfl rfl (by repeat' (first | constructor | apply Sub.suf)) rfl) ?_
  refine le ?_; intro x16
  refine ln ?_
  refine nthen ?_
  refine cc rfl ?_ ?_
  ·
   intro h16
   try simp only [decide_eq_true_eq, decide_eq_false_iff_not, Bool.not_eq_true', Bool.not_eq_false', Int.not_lt, Int.not_le, ge_iff_le, Bool.not_true, Bool.not_false] at h16
   refine cs ?_
   refine cr ?_
   refine ls (op (p_move rfl) rfl) ?_
   refine ls (op (p_asg rfl) rfl) ?_
   refine ln ?_
   refine nthen ?_
   refine cret ?_
   refine xret (fun _ _ h => h) ?_
   refine rret (is := [1, 0]) ⟨(k : Int), .inr ⟨k, rfl, hk1, hkk, h16⟩⟩ (Or.inl rfl) (Res.t rfl Res.d) (rfl) rfl (by repeat' (first | constructor | apply Sub.suf))
  ·
   intro h16
   try simp only [decide_eq_true_eq, decide_eq_false_iff_not, Bool.not_eq_true', Bool.not_eq_false', Int.not_lt, Int.not_le, ge_iff_le, Bool.not_true, Bool.not_false] at h16
   refine cskip ?_
   refine nblock ?_
   refine nthen ?_
   refine cr ?_
   refine ls (op (p_add rfl rfl (by omega)) rfl) ?_
   refine ls (op (p_move rfl) rfl) ?_
   refine ln ?_
   refine nnext ⟨k + 1, hk1, by rw [List.take_succ_eq_append_getElem hk1, List.any_append, hkk]; simp [h16]⟩ (by dsimp only; omega) (wk (is := [1, 0]) (by repeat (first | exact subσ.nil _ | refine subσ.cons rfl ?_)) rfl (by repeat' (first | constructor | apply Sub.suf)))
 ·
  intro h9
  try simp only [decide_eq_true_eq, decide_eq_false_iff_not, Bool.not_eq_true', Bool.not_eq_false', Int.not_lt, Int.not_le, ge_iff_le, Bool.not_true, Bool.not_false] at h9
  refine cexit ?_
  refine xthen ?_
  refine xthen ?_
  refine xblock ?_
  refine nthen ?_
  refine cs ?_
  refine cr ?_
  refine ls (op (p_asg rfl) rfl) ?_
  refine ln ?_
  refine nthen ?_
  refine cret ?_
  refine xret (fun _ _ h => h) ?_
  refine rret (is := [0, 0]) ⟨-1, .inl ⟨rfl, by rw [List.take_of_length_le (by omega)] at hkk; exact hkk⟩⟩ (Or.inl rfl) (Res.t rfl Res.d) (rfl) rfl (by repeat' (first | constructor | apply Sub.suf))

set_option maxRecDepth 100000 in
theorem c_DeleteFunc (l : List ByteArray) (A : Option Addr) (c : Nat) (hl : l.length ≤ 2000000) (f : ByteArray → Bool) (g : FuncId) (cap : List Value) (Γf : List Asn) (x : Xsn) (hcf : ∀ args w, (callFunc g args).run Tryz.prog w = .ok (.enter g args) w) (hg : ∀ s, Con Tryz.prog g (.string s :: cap) [x] Γf Unit (fun _ => .bool (f s)) (fun _ => [x]) (fun _ => [])) : Con Tryz.prog 131 [.slice A l.length c, .func (.func g) #[] cap.toArray] [row 9 A c (l), x] Γf Unit (fun _ => .slice A (l.filter fun s => !f s).length c) (fun _ => [row 9 A c ((l.filter fun s => !f s)), x]) (fun _ => []) := by
 refine con Tryz.func131 rfl Tryz.ntmps131 rfl ?_
 intro M0 F0 w0
 refine cs ?_
 refine cr ?_
 refine ls (op (p_asg rfl) rfl) ?_
 refine ln ?_
 refine nthen ?_
 refine cs ?_
 refine cr ?_
 refine ls (op (p_move rfl) rfl) ?_
 refine ls (op (p_move rfl) rfl) ?_
 refine ls (o_call (is := [0, 0]) Tryz.call156 (c_IndexFuncK l A c hl f g cap Γf x hcf hg) rfl rfl (by repeat' (first | constructor | apply Sub.suf)) rfl) ?_
 refine le ?_; rintro ⟨r, hr⟩
 refine ls (op (p_asg rfl) rfl) ?_
 refine ln ?_
 refine nthen ?_
 refine cs ?_
 refine cs ?_
 refine cr ?_
 refine ls (op (p_move rfl) rfl) ?_
 refine ls (op (p_icmp rfl rfl rfl) rfl) ?_
 refine ln ?_
 refine nthen ?_
 refine cc rfl ?_ ?_
 ·
  intro h12
  have hn : l.any f = false := by rcases hr with ⟨_, h⟩ | ⟨k, rfl, _⟩; exact h; simp at h12
  refine cs ?_
  refine cmono (fun a w h => rowEq (α := ByteArray) (by repeat' constructor) (filter_none hn) (by repeat' constructor) h) ?_
  refine cr ?_
  refine ls (op (p_move rfl) rfl) ?_
  refine ls (op (p_asg rfl) rfl) ?_
  refine ln ?_
  refine nthen ?_
  refine cret ?_
  refine xret (fun _ _ h => h) ?_
  refine rret (is := [0, 0]) () (Or.inl rfl) (Res.t rfl Res.d) ?_ rfl (by repeat' (first | constructor | apply Sub.suf))
  rw [← filter_none hn]; rfl
 ·
  intro h12
  obtain ⟨k0, rfl, hk0, hk1, hk2⟩ : ∃ k : Nat, r = (k : Int) ∧ ∃ h : k < l.length, (l.take k).any f = false ∧ f l[k] = true := by rcases hr with ⟨rfl, _⟩ | h; simp at h12; exact h
  refine cskip ?_
  refine nthen ?_
  refine cs ?_
  refine cs ?_
  refine cr ?_
  refine ls (op (p_move rfl) rfl) ?_
  refine ls (op (p_add rfl rfl (by dsimp only; omega)) rfl) ?_
  refine ls (op (p_asg rfl) rfl) ?_
  refine ln ?_
  refine nthen ?_
  refine cb ?_
  refine cl (ι := {q : (Nat × Nat) × List ByteArray // DelI l f q.1.1 q.1.2 q.2}) (fun i => St M0 F0 w0 42 [(0, .slice A l.length c), (1, .func (.func g) #[] cap.toArray), (5, .int .i64 ((i.1.1.1 : Nat) : Int)), (6, .int .i64 ((i.1.1.2 : Nat) : Int))] [row 9 A c (i.1.2), x] Γf) (fun i => l.length - i.1.1.2) ⟨((k0, k0 + 1), l), DelI.start hk0 hk1 hk2⟩ (wk0 (by repeat (first | exact subσ.nil _ | refine subσ.cons rfl ?_)) (by repeat' (first | constructor | apply Sub.suf))) ?_
  rintro ⟨⟨⟨i, j⟩, L⟩, hI⟩
  refine cmono (S' := St M0 F0 w0 42 [(0, .slice A l.length c), (1, .func (.func g) #[] cap.toArray), (5, .int .i64 ((i : Nat) : Int)), (6, .int .i64 ((j : Nat) : Int))] [row 9 A c (L), x] Γf) (fun _ _ h => h) ?_
  refine cs ?_
  refine cs ?_
  refine cr ?_
  refine ls (op (p_move rfl) rfl) ?_
  refine ls (op (p_move rfl) rfl) ?_
  refine ls (op (p_lenl rfl Tryz.underlying37) rfl) ?_
  refine ls (op (p_icmp rfl rfl rfl) rfl) ?_
  refine ln ?_
  refine nthen ?_
  refine cc rfl ?_ ?_
  ·
   intro h19
   dsimp only at hI
   try simp only [decide_eq_true_eq, decide_eq_false_iff_not, Bool.not_eq_true', Bool.not_eq_false', Int.not_lt, Int.not_le, ge_iff_le, Bool.not_true, Bool.not_false] at h19
   have hj1 : j < l.length := by omega
   have hIl := hI.len; have hIj := hI.ij
   refine cskip ?_
   refine nthen ?_
   refine cs ?_
   refine cb ?_
   refine cs ?_
   refine rowC (α := ByteArray) (A := A) (l := L) (by repeat' constructor) (List.ne_nil_of_length_pos (by omega)) ?_
   rintro g0 rfl
   refine cr ?_
   refine ls (op (p_move rfl) rfl) ?_
   refine ls (op (p_move rfl) rfl) ?_
   refine ls (op (p_ia j rfl hj1 rfl Tryz.underlying37 Tryz.sizeOf9 rfl rfl) rfl) ?_
   refine ls (o_ldrS Tryz.isAgg9 rfl (by repeat' constructor) (hI.get hj1) rfl) ?_
   refine ls (op (p_asg rfl) rfl) ?_
   refine ln ?_
   refine nthen ?_
   refine cs ?_
   refine cr ?_
   refine ls (op (p_move rfl) rfl) ?_
   refine ls (op (p_move rfl) rfl) ?_
   refine ls (o_callv (is := [1]) rfl hcf (hg l[j]) rfl rfl rfl (by repeat' (first | constructor | apply Sub.suf)) rfl) ?_
   refine le ?_; intro x28
   refine ls (op (p_not rfl) rfl) ?_
   refine ln ?_
   refine nthen ?_
   refine cc rfl ?_ ?_
   ·
    intro h29
    have hf : f l[j] = false := by simpa using h29
    refine cs ?_
    refine cr ?_
    refine ls (op (p_move rfl) rfl) ?_
    refine ls (op (p_move rfl) rfl) ?_
    refine ls (op (p_move rfl) rfl) ?_
    refine ls (op (p_ia i rfl (by omega) rfl Tryz.underlying37 Tryz.sizeOf9 rfl rfl) rfl) ?_
    refine ls (o_strowE (j := i) (z := l[j]) (yz := ()) rfl Tryz.sizeOf9 rfl rfl rfl (by repeat' constructor) (by omega) rfl (by repeat' constructor) (by repeat' (first | constructor | apply Sub.suf))) ?_
    refine ln ?_
    refine nthen ?_
    refine cr ?_
    refine ls (op (p_move rfl) rfl) ?_
    refine ls (op (p_add rfl rfl (by omega)) rfl) ?_
    refine ls (op (p_asg rfl) rfl) ?_
    refine ln ?_
    refine nblock ?_
    refine nthen ?_
    refine cr ?_
    refine ls (op (p_move rfl) rfl) ?_
    refine ls (op (p_add rfl rfl (by omega)) rfl) ?_
    refine ls (op (p_asg rfl) rfl) ?_
    refine ln ?_
    refine nnext ⟨((i + 1, j + 1), L.set i l[j]), hI.keep hj1 hf⟩ (by dsimp only; omega) (wk (is := [1, 0]) (by repeat (first | exact subσ.nil _ | refine subσ.cons rfl ?_)) rfl (by repeat' (first | constructor | apply Sub.suf)))
   ·
    intro h29
    have hf : f l[j] = true := by simpa using h29
    refine cskip ?_
    refine nblock ?_
    refine nthen ?_
    refine cr ?_
    refine ls (op (p_move rfl) rfl) ?_
    refine ls (op (p_add rfl rfl (by omega)) rfl) ?_
    refine ls (op (p_asg rfl) rfl) ?_
    refine ln ?_
    refine nnext ⟨((i, j + 1), L), hI.skip hj1 hf⟩ (by dsimp only; omega) (wk (is := [1, 0]) (by repeat (first | exact subσ.nil _ | refine subσ.cons rfl ?_)) rfl (by repeat' (first | constructor | apply Sub.suf)))
  ·
   intro h19
   dsimp only at hI
   try simp only [decide_eq_true_eq, decide_eq_false_iff_not, Bool.not_eq_true', Bool.not_eq_false', Int.not_lt, Int.not_le, ge_iff_le, Bool.not_true, Bool.not_false] at h19
   have h19' : ¬ j < l.length := by omega
   have hIl := hI.len; have hIj := hI.ij; have hIk := hI.jl
   refine cexit ?_
   refine xthen ?_
   refine xthen ?_
   refine xblock ?_
   refine nthen ?_
   refine cs ?_
   refine rowLeC (α := ByteArray) (l := L) (by repeat' constructor) (fun hlc => ?_)
   refine cr ?_
   refine ls (op (p_move rfl) rfl) ?_
   refine ls (op (p_move rfl) rfl) ?_
   refine ls (op (p_sll i (by omega) (by omega) rfl Tryz.underlying37 Tryz.sizeOf9 rfl rfl) rfl) ?_
   refine ls (o_clr (lo := i) (N := l.length) hIl Tryz.underlying37 Tryz.zeroValue9 rfl (by omega) (by repeat' constructor) (by repeat' constructor)) ?_
   refine ln ?_
   refine nthen ?_
   refine cs ?_
   refine cmono (fun a w h => rowTk (α := ByteArray) (l := L.take i ++ List.replicate (l.length - i) ⟨#[]⟩) i (by simp only [List.length_append, List.length_take, List.length_replicate]; omega) (by repeat' constructor) (by repeat' constructor) h) ?_
   obtain ⟨hd1, hd2⟩ := hI.done h19' (List.replicate (l.length - i) ⟨#[]⟩)
   refine cmono (fun a w h => rowEq (α := ByteArray) (by repeat' constructor) hd1 (by repeat' constructor) h) ?_
   refine cr ?_
   refine ls (op (p_move rfl) rfl) ?_
   refine ls (op (p_move rfl) rfl) ?_
   refine ls (op (p_slh i (by omega) rfl Tryz.underlying37 Tryz.sizeOf9 rfl rfl) rfl) ?_
   refine fixL slh_val ?_
   refine ls (op (p_asg rfl) rfl) ?_
   refine ln ?_
   refine nthen ?_
   refine cret ?_
   refine xret (fun _ _ h => h) ?_
   refine rret (is := [0, 0]) () (Or.inl rfl) (Res.t rfl Res.d) ?_ rfl (by repeat' (first | constructor | apply Sub.suf))
   rw [← hd2]; rfl

set_option maxRecDepth 100000 in
theorem c_wide1 (s : ByteArray) (q p b : Nat) (T : List File) (hT : Tfit T) : Con Tryz.prog 130 [.string s, .pointer (some ⟨q, 0, none⟩)] [box q 47 [.pointer (some ⟨p, 0, none⟩)], box p 120 [.map (some b)], tr b T] [] Unit (fun _ => .bool (longB (getL T s) [])) (fun _ => [box q 47 [.pointer (some ⟨p, 0, none⟩)], box p 120 [.map (some b)], tr b T]) (fun _ => []) := by
 refine con Tryz.func130 rfl Tryz.ntmps130 rfl ?_
 intro M0 F0 w0
 refine cs ?_
 refine cr ?_
 refine ls (op (p_asg rfl) rfl) ?_
 refine ln ?_
 refine nthen ?_
 refine cs ?_
 refine cr ?_
 refine ls (o_ld Tryz.isAgg47 rfl (by repeat' constructor) (by repeat' constructor) rfl) ?_
 refine ls (op (p_move rfl) rfl) ?_
 refine ls (o_call (is := [1, 1]) Tryz.call28 (c_tGet p b T hT s) rfl rfl (by repeat' (first | constructor | apply Sub.suf)) rfl) ?_
 refine le ?_; rintro ⟨A9, c9⟩
 refine ls (op (p_move rfl) rfl) ?_
 refine ls (op (p_ext rfl (by repeat' constructor)) rfl) ?_
 refine ls (op (p_ext rfl (by repeat' constructor)) rfl) ?_
 refine ls (op (p_asg rfl) rfl) ?_
 refine ls (op (p_asg rfl) rfl) ?_
 refine ln ?_
 refine nthen ?_
 refine cs ?_
 refine cr ?_
 refine ls (op (p_move rfl) rfl) ?_
 refine ls (o_call (is := []) Tryz.call68 (c_dLong (getL T s) [] A9 none c9 0) rfl rfl (by repeat' (first | constructor | apply Sub.suf)) rfl) ?_
 refine le ?_; intro x13
 refine ls (op (p_asg rfl) rfl) ?_
 refine ln ?_
 refine nthen ?_
 refine cret ?_
 refine xret (fun _ _ h => h) ?_
 refine rret (is := [3, 1, 1]) () (Or.inl rfl) (Res.t rfl Res.d) (rfl) rfl (by repeat' (first | constructor | apply Sub.suf))

set_option maxRecDepth 100000 in
theorem c_wide (p b : Nat) (T : List File) (hT : Tfit T) (hn : T.length ≤ 2000000) : Con Tryz.prog 78 [.pointer (some ⟨p, 0, none⟩)] [box p 120 [.map (some b)], tr b T] [] Unit (fun _ => .bool (wideB T)) (fun _ => [box p 120 [.map (some b)], tr b T]) (fun _ => []) := by
 refine con Tryz.func78 rfl Tryz.ntmps78 rfl ?_
 intro M0 F0 w0
 refine cs ?_
 refine cr ?_
 refine ls (o_box rfl rfl rfl) ?_
 refine le ?_; intro b1
 refine ls (op (p_asg rfl) rfl) ?_
 refine ln ?_
 refine nthen ?_
 refine cs ?_
 refine cr ?_
 refine ls (o_ld Tryz.isAgg47 rfl (by repeat' constructor) (by repeat' constructor) rfl) ?_
 refine ls (o_call (is := [1, 1]) Tryz.call84 (c_tNames p b T hn) rfl rfl (by repeat' (first | constructor | apply Sub.suf)) rfl) ?_
 refine le ?_; rintro ⟨A4, c4⟩
 refine lmono (fun a w h => Go.Sx.freeze (i := 0) rfl h) ?_
 refine lmono (fun a w h => stBun (is := [2, 0, 0]) (Γ1 := []) rfl Sub.d h) ?_
 refine fixL (slen (m' := (T.map (·.1)).length) (by rw [List.length_map])) ?_
 refine ls (op (p_mkf rfl) rfl) ?_
 refine ls (o_call (is := [0]) Tryz.call124 (c_ContainsFunc1 (T.map (·.1)) A4 c4 (by rw [List.length_map]; exact hn) (fun s => longB (getL T s) []) 130 [.pointer (some ⟨b1, 0, none⟩)] [] (bun [box b1 47 [.pointer (some ⟨p, 0, none⟩)], box p 120 [.map (some b)], tr b T] []) Tryz.call130 (fun s _ => con_bun (Ξ0 := []) (Ξo := fun _ => []) (c_wide1 s b1 p b T hT))) rfl rfl (by repeat' (first | constructor | apply Sub.suf)) rfl) ?_
 refine le ?_; intro x6
 refine lmono (fun a w h => stUnbun (i := 0) rfl h) ?_
 refine ls (op (p_asg rfl) rfl) ?_
 refine ln ?_
 refine nthen ?_
 refine cret ?_
 refine xret (fun _ _ h => h) ?_
 refine rret (is := [1, 1]) () (Or.inl rfl) (Res.t rfl Res.d) (rfl) rfl (by repeat' (first | constructor | apply Sub.suf))

set_option maxRecDepth 100000 in
theorem c_files1 (s : ByteArray) (q e p b : Nat) (T : List File) (hT : Tfit T) (both : Bool) : Con Tryz.prog 132 [.string s, .pointer (some ⟨q, 0, none⟩), .pointer (some ⟨e, 0, none⟩)] [box q 47 [.pointer (some ⟨p, 0, none⟩)], box e 4 [.bool both], box p 120 [.map (some b)], tr b T] [] Unit (fun _ => .bool (!(hasT T s == both))) (fun _ => [box q 47 [.pointer (some ⟨p, 0, none⟩)], box e 4 [.bool both], box p 120 [.map (some b)], tr b T]) (fun _ => []) := by
 refine con Tryz.func132 rfl Tryz.ntmps132 rfl ?_
 intro M0 F0 w0
 refine cs ?_
 refine cr ?_
 refine ls (op (p_asg rfl) rfl) ?_
 refine ln ?_
 refine nthen ?_
 refine cs ?_
 refine cr ?_
 refine ls (o_ld Tryz.isAgg47 rfl (by repeat' constructor) (by repeat' constructor) rfl) ?_
 refine ls (op (p_move rfl) rfl) ?_
 refine ls (o_call (is := [2, 2]) Tryz.call28 (c_tGet p b T hT s) rfl rfl (by repeat' (first | constructor | apply Sub.suf)) rfl) ?_
 refine le ?_; rintro ⟨A10, c10⟩
 refine ls (op (p_move rfl) rfl) ?_
 refine ls (op (p_ext rfl (by repeat' constructor)) rfl) ?_
 refine ls (op (p_ext rfl (by repeat' constructor)) rfl) ?_
 refine ls (op (p_asg rfl) rfl) ?_
 refine ls (op (p_asg rfl) rfl) ?_
 refine ln ?_
 refine nthen ?_
 refine cs ?_
 refine cr ?_
 refine ls (op (p_move rfl) rfl) ?_
 refine ls (o_ld Tryz.isAgg4 rfl (by repeat' constructor) (by repeat' constructor) rfl) ?_
 refine ls (op (p_bne Tryz.underlying4 rfl rfl) rfl) ?_
 refine ls (op (p_asg rfl) rfl) ?_
 refine ln ?_
 refine nthen ?_
 refine cret ?_
 refine xret (fun _ _ h => h) ?_
 refine rret (is := [3, 3, 1, 1]) () (Or.inl rfl) (Res.t rfl Res.d) (rfl) rfl (by repeat' (first | constructor | apply Sub.suf))

set_option maxRecDepth 100000 in
theorem c_files (p b : Nat) (T : List File) (p2 b2 : Nat) (U : List File) (hT : Tfit T) (hn : T.length ≤ 2000000) (hU : Tfit U) (hn2 : U.length ≤ 2000000) (both : Bool) : Con Tryz.prog 79 [.pointer (some ⟨p, 0, none⟩), .pointer (some ⟨p2, 0, none⟩), .bool both] [box p 120 [.map (some b)], tr b T, box p2 120 [.map (some b2)], tr b2 U] [] (Option Addr × Nat) (fun y => .slice y.1 (filesT T U both).length y.2) (fun _ => [box p 120 [.map (some b)], tr b T, box p2 120 [.map (some b2)], tr b2 U]) (fun y => [slA y.1 (filesT T U both)]) := by
 refine con Tryz.func79 rfl Tryz.ntmps79 rfl ?_
 intro M0 F0 w0
 refine cs ?_
 refine cr ?_
 refine ls (o_box rfl rfl rfl) ?_
 refine le ?_; intro b4
 refine ls (o_box rfl rfl rfl) ?_
 refine le ?_; intro b5
 refine ls (op (p_asg rfl) rfl) ?_
 refine ln ?_
 refine nthen ?_
 refine cs ?_
 refine cr ?_
 refine ls (op (p_move rfl) rfl) ?_
 refine ls (o_call (is := [2, 2]) Tryz.call84 (c_tNames p b T hn) rfl rfl (by repeat' (first | constructor | apply Sub.suf)) rfl) ?_
 refine le ?_; rintro ⟨A8, c8⟩
 refine lmono (fun a w h => stBun (is := [4, 3, 3, 3]) (Γ1 := []) rfl Sub.d h) ?_
 refine fixL (slen (m' := (T.map (·.1)).length) (by rw [List.length_map])) ?_
 refine ls (op (p_mkf rfl) rfl) ?_
 refine ls (o_call (is := [1, 0]) Tryz.call131 (c_DeleteFunc (T.map (·.1)) A8 c8 (by rw [List.length_map]; exact hn) (fun s => !(hasT U s == both)) 132 [.pointer (some ⟨b4, 0, none⟩), .pointer (some ⟨b5, 0, none⟩)] [] (bun [box b4 47 [.pointer (some ⟨p2, 0, none⟩)], box b5 4 [.bool both], box p2 120 [.map (some b2)], tr b2 U] []) Tryz.call132 (fun s => con_bun (Ξ0 := []) (Ξo := fun _ => []) (c_files1 s b4 b5 p2 b2 U hU both))) rfl rfl (by repeat' (first | constructor | apply Sub.suf)) rfl) ?_
 refine le ?_; intro x10
 refine lmono (fun a w h => stUnbun (i := 1) rfl h) ?_
 refine ls (op (p_asg rfl) rfl) ?_
 refine ln ?_
 refine nthen ?_
 refine cret ?_
 refine xret (fun _ _ h => h) ?_
 refine nmono (fun a w h => Go.Sx.freeze (i := 4) rfl h) ?_
 refine rret (is := [4, 4, 2, 2]) (A8, c8) (Or.inl rfl) (Res.t rfl Res.d) (rfl) rfl (by repeat' (first | constructor | apply Sub.suf))

set_option maxRecDepth 100000 in
theorem c_dTrees (p b : Nat) (T : List File) (hT : Tfit T) (hn : T.length ≤ 2000000) (hST : Sor T) (p2 b2 : Nat) (U : List File) (hU : Tfit U) (hn2 : U.length ≤ 2000000) (hSU : Sor U) : Con Tryz.prog 34 [.pointer (some ⟨p, 0, none⟩), .pointer (some ⟨p2, 0, none⟩)] [box p 120 [.map (some b)], tr b T, box p2 120 [.map (some b2)], tr b2 U] [] (Option Addr × Nat) (fun x => .slice x.1 (treesT T U).length x.2) (fun x => [row 39 x.1 x.2 (treesT T U), box p 120 [.map (some b)], tr b T, box p2 120 [.map (some b2)], tr b2 U]) (fun _ => []) := by
 refine con Tryz.func34 rfl Tryz.ntmps34 rfl ?_
 intro M0 F0 w0
 refine cs ?_
 refine cr ?_
 refine ls (op (p_asg rfl) rfl) ?_
 refine ln ?_
 refine nthen ?_
 refine cs ?_
 refine cs ?_
 refine cr ?_
 refine ls (op (p_move rfl) rfl) ?_
 refine ls (op (p_ptrnil Tryz.underlying47 rfl rfl) rfl) ?_
 refine ln ?_
 refine nthen ?_
 refine cc rfl (fun h => by cases h) (fun h => ?_)
 refine cskip ?_
 refine nthen ?_
 refine cs ?_
 refine cs ?_
 refine cr ?_
 refine ls (op (p_move rfl) rfl) ?_
 refine ls (op (p_ptrnil Tryz.underlying47 rfl rfl) rfl) ?_
 refine ln ?_
 refine nthen ?_
 refine cc rfl (fun h => by cases h) (fun h => ?_)
 refine cskip ?_
 refine nthen ?_
 refine cs ?_
 refine cs ?_
 refine cr ?_
 refine ls (op (p_move rfl) rfl) ?_
 refine ls (o_call (is := [0, 0]) Tryz.call78 (c_wide p b T hT hn) rfl rfl (by repeat' (first | constructor | apply Sub.suf)) rfl) ?_
 refine le ?_; intro x27
 refine ls (op (p_move rfl) rfl) ?_
 refine orX 3 28 31 rfl (subσ.cons (t := 0) rfl (subσ.cons (t := 1) rfl (subσ.cons (t := 4) rfl (subσ.cons (t := 20) rfl (subσ.cons (t := 21) rfl (subσ.cons (t := 23) rfl (subσ.cons (t := 24) rfl (subσ.nil _)))))))) ?_ ?_
 ·
  intro h28
  refine lskip rfl rfl rfl rfl rfl ?_
  refine lskip rfl rfl rfl rfl rfl ?_
  refine ls (op (p_pickt rfl rfl) rfl) ?_
  refine ln (nmid (wk0 (by repeat (first | exact subσ.nil _ | refine subσ.cons rfl ?_)) (by repeat' (first | constructor | apply Sub.suf))))
 apply exI
 ·
  intro h28
  refine lwant rfl rfl rfl rfl (op (p_move rfl) rfl) ?_
  refine lwant rfl rfl rfl rfl (o_call (is := [2, 2]) Tryz.call78 (c_wide p2 b2 U hU hn2) rfl rfl (by repeat' (first | constructor | apply Sub.suf)) rfl) ?_
  refine le ?_; intro x30
  refine lmono (fun a w h => stPerm (is := [2, 2]) rfl h) ?_
  refine ls (op (p_pickf rfl rfl) rfl) ?_
  refine ln (nmid (wk0 (by repeat (first | exact subσ.nil _ | refine subσ.cons rfl ?_)) (by repeat' (first | constructor | apply Sub.suf))))
 ·
  refine ln ?_
  refine nthen ?_
  refine cc rfl ?_ ?_
  ·
   intro h31
   have hw : (wideB T || wideB U) = true := h31
   refine cs ?_
   refine cmono (fun a w h => nilRow (α := Prim) 39 h) ?_
   refine cmono (fun a w h => rowEq (α := Prim) (by repeat' constructor) ((treesT_yes hw).symm) (by repeat' constructor) h) ?_
   refine cr ?_
   refine ls (op (p_asg rfl) rfl) ?_
   refine ln ?_
   refine nthen ?_
   refine cret ?_
   refine xret (fun _ _ h => h) ?_
   refine rret (is := [0, 0, 0, 0, 0]) (none, 0) (Or.inl rfl) (Res.t rfl Res.d) ?_ rfl (by repeat' (first | constructor | apply Sub.suf))
   rw [treesT_yes hw]; rfl
  ·
   intro h31
   have hw : (wideB T || wideB U) = false := h31
   obtain ⟨hw1, hw2⟩ := Bool.or_eq_false_iff.1 hw
   have hwT := wide_get hST hw1
   have hwU := wide_get hSU hw2
   refine cskip ?_
   refine nthen ?_
   refine cs ?_
   refine cr ?_
   refine ls (op (p_asg rfl) rfl) ?_
   refine ln ?_
   refine nthen ?_
   refine cs ?_
   refine cs ?_
   refine cmono (fun a w h => nilRow (α := Prim) 39 h) ?_
   refine cr ?_
   refine ls (op (p_move rfl) rfl) ?_
   refine ls (op (p_move rfl) rfl) ?_
   refine ls (o_call (is := [1, 1, 1, 1]) Tryz.call79 (c_files p b T p2 b2 U hT hn hU hn2 false) rfl rfl (by repeat' (first | constructor | apply Sub.suf)) rfl) ?_
   refine le ?_; rintro ⟨A34, c34⟩
   refine ls (op (p_lenl rfl Tryz.underlying37) rfl) ?_
   refine ls (op (p_move rfl) rfl) ?_
   refine ln ?_
   refine nthen ?_
   refine cb ?_
   refine cl (ι := {q : Nat × Option Addr × Nat // q.1 ≤ (filesT T U false).length}) (fun i => St M0 F0 w0 108 [(0, .pointer (some ⟨p, 0, none⟩)), (1, .pointer (some ⟨p2, 0, none⟩)), (5, .slice i.1.2.1 (((filesT T U false).take (i.1.1)).flatMap (goneT T)).length i.1.2.2), (34, .slice A34 (filesT T U false).length c34), (35, .int .i64 (((filesT T U false).length : Nat) : Int)), (36, .int .i64 ((i.1.1 : Nat) : Int))] [row 39 (i.1.2.1) (i.1.2.2) (((filesT T U false).take (i.1.1)).flatMap (goneT T)), box p 120 [.map (some b)], tr b T, box p2 120 [.map (some b2)], tr b2 U] [slA A34 (filesT T U false)]) (fun i => (filesT T U false).length - i.1.1) ⟨(0, none, 0), Nat.zero_le _⟩ (wk (is := [4, 0, 0, 0, 0]) (by repeat (first | exact subσ.nil _ | refine subσ.cons rfl ?_)) rfl (by repeat' (first | constructor | apply Sub.suf))) ?_
   rintro ⟨⟨k, A5, c5⟩, hk⟩
   refine cmono (S' := St M0 F0 w0 108 [(0, .pointer (some ⟨p, 0, none⟩)), (1, .pointer (some ⟨p2, 0, none⟩)), (5, .slice A5 (((filesT T U false).take (k)).flatMap (goneT T)).length c5), (34, .slice A34 (filesT T U false).length c34), (35, .int .i64 (((filesT T U false).length : Nat) : Int)), (36, .int .i64 ((k : Nat) : Int))] [row 39 (A5) (c5) (((filesT T U false).take (k)).flatMap (goneT T)), box p 120 [.map (some b)], tr b T, box p2 120 [.map (some b2)], tr b2 U] [slA A34 (filesT T U false)]) (fun _ _ h => h) ?_
   refine cs ?_
   refine cr ?_
   refine ls (op (p_icmp rfl rfl rfl) rfl) ?_
   refine ln ?_
   refine nthen ?_
   refine cs ?_
   refine cc rfl ?_ ?_
   ·
    intro h37
    dsimp only at hk
    try simp only [decide_eq_true_eq, decide_eq_false_iff_not, Bool.not_eq_true', Bool.not_eq_false', Int.not_lt, Int.not_le, ge_iff_le, Bool.not_true, Bool.not_false] at h37
    have hk1 : k < (filesT T U false).length := by omega
    have hb1 := fm_len (goneT_len T) (filesT T U false)
    have hb2 := fm_len (comeT_len U) (filesT U T false)
    have hb3 := fm_len (bothT_len T U) ((filesT T U true).take k)
    have hb4 := fm_len (goneT_len T) ((filesT T U false).take k)
    have hb5 := fm_len (comeT_len U) ((filesT U T false).take k)
    have hf1 := filesT_len T U false
    have hf2 := filesT_len U T false
    have hf3 := filesT_len T U true
    have ht1 := List.length_take_le k (filesT T U false)
    have ht2 := List.length_take_le k (filesT U T false)
    have ht3 := List.length_take_le k (filesT T U true)
    refine cskip ?_
    refine nthen ?_
    refine cs ?_
    refine cb ?_
    refine cs ?_
    refine elC (A := A34) (l := filesT T U false) (by repeat' constructor) k (List.getElem?_eq_getElem hk1) ?_; rintro zbp zop zyp hAp
    refine cr ?_
    refine ls (op (p_ia k hAp hk1 rfl Tryz.underlying37 Tryz.sizeOf9 rfl rfl) rfl) ?_
    refine ls (o_ldi Tryz.isAgg9 rfl (by repeat' constructor) 0 rfl (by repeat (first | exact Cut.d | apply Cut.t | apply Cut.s)) rfl) ?_
    refine ls (op (p_asg rfl) rfl) ?_
    refine ln ?_
    refine nthen ?_
    refine cs ?_
    refine cr ?_
    refine ls (op (p_move rfl) rfl) ?_
    refine ls (op (p_move rfl) rfl) ?_
    refine ls (o_call (is := [1, 1]) Tryz.call28 (c_tGet p b T hT (filesT T U false)[k]) rfl rfl (by repeat' (first | constructor | apply Sub.suf)) rfl) ?_
    refine le ?_; rintro ⟨A43, c43⟩
    refine lmono (fun a w h => freezeN (i := 0) rfl h) ?_
    refine lpure (St.cap (m := (getL T (filesT T U false)[k]).length) (c := c43) (by repeat' constructor)) ?_
    intro hcap43
    refine ls (op (p_move rfl) rfl) ?_
    refine ls (op (p_ext rfl (by repeat' constructor)) rfl) ?_
    refine ls (op (p_ext rfl (by repeat' constructor)) rfl) ?_
    refine ls (op (p_asg rfl) rfl) ?_
    refine ls (op (p_asg rfl) rfl) ?_
    refine ln ?_
    refine nthen ?_
    refine cmono (fun a w h => nilSl (α := ByteArray) h) ?_
    refine cr ?_
    refine ls (op (p_move rfl) rfl) ?_
    refine ls (op (p_move rfl) rfl) ?_
    refine ls (op (p_move rfl) rfl) ?_
    refine ls (o_call (is := []) Tryz.call19 (c_dLines (filesT T U false)[k] (getL T (filesT T U false)[k]) [] A43 none c43 0 (by have := hwT (filesT T U false)[k]; omega) (Nat.zero_le _) hcap43 (Nat.le_refl _)) rfl rfl (by repeat' (first | constructor | apply Sub.suf)) rfl) ?_
    refine le ?_; rintro ⟨A49, c49⟩
    refine lmono (fun a w h => freezeN (i := 0) rfl h) ?_
    refine lpure (St.nil (y := (A49, c49)) (by repeat' constructor)) ?_
    intro hn49
    refine ls (o_app (is := [2]) Tryz.underlying29 inf39 rfl (by decide) (by decide) rfl rfl (by (try simp only [List.length_append, List.length_cons, List.length_nil]); have hll := linesT_len ((filesT T U false)[k]) (getL T (filesT T U false)[k]) ([]); omega) (fun _ h => hn49 h) rfl (by repeat' (first | constructor | apply Sub.suf)) rfl) ?_
    refine le ?_; rintro ⟨A50, c50⟩
    refine ls (op (p_move rfl) rfl) ?_
    refine ls (op (p_bld sb39 rfl (Fill.t (by repeat' constructor) rfl rfl (by repeat' constructor) (Fill.t (by repeat' constructor) rfl rfl (by repeat' constructor) Fill.d))) rfl) ?_
    refine ls (o_bsl [pRm (filesT T U false)[k]] Tryz.underlying29 Tryz.sizeOf39 Tryz.zeroValue39 rfl (Enum.t Enum.d) (RV.t ((none, 0), (none, 0)) rfl (by repeat' (first | constructor | apply Sub.suf)) RV.d) rfl (by decide) (by decide) rfl) ?_
    refine le ?_; intro b53
    refine lmono (fun a w h => Go.Sx.freeze (i := 0) rfl h) ?_
    refine ls (o_app (is := [0]) Tryz.underlying29 inf39 rfl (by decide) (by decide) rfl rfl (by (try simp only [List.length_append, List.length_cons, List.length_nil]); have hll := linesT_len ((filesT T U false)[k]) (getL T (filesT T U false)[k]) ([]); omega) (fun h => by cases h) rfl (by repeat' (first | constructor | apply Sub.suf)) rfl) ?_
    refine le ?_; rintro ⟨A54, c54⟩
    refine ls (op (p_asg rfl) rfl) ?_
    refine ln ?_
    refine nblock ?_
    refine nthen ?_
    refine cr ?_
    refine ls (op (p_add rfl rfl (by omega)) rfl) ?_
    refine ls (op (p_move rfl) rfl) ?_
    refine ln ?_
    refine nnext ⟨(k + 1, A54, c54), hk1⟩ (by dsimp only; omega) (fun a w h => by dsimp only; rw [fm_take hk1, show goneT T (filesT T U false)[k] = linesT (filesT T U false)[k] (getL T (filesT T U false)[k]) [] ++ [pRm (filesT T U false)[k]] from rfl, ← List.append_assoc]; exact wk (is := [0, 0, 0, 0, 0]) (by repeat (first | exact subσ.nil _ | refine subσ.cons rfl ?_)) rfl (by repeat' (first | constructor | apply Sub.suf)) a w h)
   ·
    intro h37
    dsimp only at hk
    try simp only [decide_eq_true_eq, decide_eq_false_iff_not, Bool.not_eq_true', Bool.not_eq_false', Int.not_lt, Int.not_le, ge_iff_le, Bool.not_true, Bool.not_false] at h37
    obtain rfl : k = (filesT T U false).length := by omega
    rw [List.take_length]
    refine cexit ?_
    refine xthen ?_
    refine xthen ?_
    refine xblock ?_
    refine nthen ?_
    refine cs ?_
    refine cs ?_
    refine cr ?_
    refine ls (op (p_move rfl) rfl) ?_
    refine ls (op (p_move rfl) rfl) ?_
    refine ls (o_call (is := [3, 3, 1, 1]) Tryz.call79 (c_files p2 b2 U p b T hU hn2 hT hn false) rfl rfl (by repeat' (first | constructor | apply Sub.suf)) rfl) ?_
    refine le ?_; rintro ⟨A58, c58⟩
    refine ls (op (p_lenl rfl Tryz.underlying37) rfl) ?_
    refine ls (op (p_move rfl) rfl) ?_
    refine ln ?_
    refine nthen ?_
    refine cb ?_
    refine cl (ι := {q : Nat × Option Addr × Nat // q.1 ≤ (filesT U T false).length}) (fun i => St M0 F0 w0 108 [(0, .pointer (some ⟨p, 0, none⟩)), (1, .pointer (some ⟨p2, 0, none⟩)), (5, .slice i.1.2.1 ((filesT T U false).flatMap (goneT T) ++ ((filesT U T false).take (i.1.1)).flatMap (comeT U)).length i.1.2.2), (58, .slice A58 (filesT U T false).length c58), (59, .int .i64 (((filesT U T false).length : Nat) : Int)), (60, .int .i64 ((i.1.1 : Nat) : Int))] [row 39 (i.1.2.1) (i.1.2.2) ((filesT T U false).flatMap (goneT T) ++ ((filesT U T false).take (i.1.1)).flatMap (comeT U)), box p 120 [.map (some b)], tr b T, box p2 120 [.map (some b2)], tr b2 U] [slA A58 (filesT U T false)]) (fun i => (filesT U T false).length - i.1.1) ⟨(0, A5, c5), Nat.zero_le _⟩ ((fun a w h => by dsimp only; rw [List.take_zero, List.flatMap_nil, List.append_nil]; exact wk (is := [4, 2, 2, 0, 0]) (by repeat (first | exact subσ.nil _ | refine subσ.cons rfl ?_)) rfl (by repeat' (first | constructor | apply Sub.suf)) a w h)) ?_
    rintro ⟨⟨k, A5, c5⟩, hk⟩
    refine cmono (S' := St M0 F0 w0 108 [(0, .pointer (some ⟨p, 0, none⟩)), (1, .pointer (some ⟨p2, 0, none⟩)), (5, .slice A5 ((filesT T U false).flatMap (goneT T) ++ ((filesT U T false).take (k)).flatMap (comeT U)).length c5), (58, .slice A58 (filesT U T false).length c58), (59, .int .i64 (((filesT U T false).length : Nat) : Int)), (60, .int .i64 ((k : Nat) : Int))] [row 39 (A5) (c5) ((filesT T U false).flatMap (goneT T) ++ ((filesT U T false).take (k)).flatMap (comeT U)), box p 120 [.map (some b)], tr b T, box p2 120 [.map (some b2)], tr b2 U] [slA A58 (filesT U T false)]) (fun _ _ h => h) ?_
    refine cs ?_
    refine cr ?_
    refine ls (op (p_icmp rfl rfl rfl) rfl) ?_
    refine ln ?_
    refine nthen ?_
    refine cs ?_
    refine cc rfl ?_ ?_
    ·
     intro h61
     dsimp only at hk
     try simp only [decide_eq_true_eq, decide_eq_false_iff_not, Bool.not_eq_true', Bool.not_eq_false', Int.not_lt, Int.not_le, ge_iff_le, Bool.not_true, Bool.not_false] at h61
     have hk1 : k < (filesT U T false).length := by omega
     have hb1 := fm_len (goneT_len T) (filesT T U false)
     have hb2 := fm_len (comeT_len U) (filesT U T false)
     have hb3 := fm_len (bothT_len T U) ((filesT T U true).take k)
     have hb4 := fm_len (goneT_len T) ((filesT T U false).take k)
     have hb5 := fm_len (comeT_len U) ((filesT U T false).take k)
     have hf1 := filesT_len T U false
     have hf2 := filesT_len U T false
     have hf3 := filesT_len T U true
     have ht1 := List.length_take_le k (filesT T U false)
     have ht2 := List.length_take_le k (filesT U T false)
     have ht3 := List.length_take_le k (filesT T U true)
     refine cskip ?_
     refine nthen ?_
     refine cs ?_
     refine cb ?_
     refine cs ?_
     refine elC (A := A58) (l := filesT U T false) (by repeat' constructor) k (List.getElem?_eq_getElem hk1) ?_; rintro zbp zop zyp hAp
     refine cr ?_
     refine ls (op (p_ia k hAp hk1 rfl Tryz.underlying37 Tryz.sizeOf9 rfl rfl) rfl) ?_
     refine ls (o_ldi Tryz.isAgg9 rfl (by repeat' constructor) 0 rfl (by repeat (first | exact Cut.d | apply Cut.t | apply Cut.s)) rfl) ?_
     refine ls (op (p_asg rfl) rfl) ?_
     refine ln ?_
     refine nthen ?_
     refine cs ?_
     refine cr ?_
     refine ls (op (p_move rfl) rfl) ?_
     refine ls (op (p_move rfl) rfl) ?_
     refine ls (o_call (is := [3, 3]) Tryz.call28 (c_tGet p2 b2 U hU (filesT U T false)[k]) rfl rfl (by repeat' (first | constructor | apply Sub.suf)) rfl) ?_
     refine le ?_; rintro ⟨A67, c67⟩
     refine lmono (fun a w h => freezeN (i := 0) rfl h) ?_
     refine lpure (St.cap (m := (getL U (filesT U T false)[k]).length) (c := c67) (by repeat' constructor)) ?_
     intro hcap67
     refine ls (op (p_move rfl) rfl) ?_
     refine ls (op (p_ext rfl (by repeat' constructor)) rfl) ?_
     refine ls (op (p_ext rfl (by repeat' constructor)) rfl) ?_
     refine ls (op (p_asg rfl) rfl) ?_
     refine ls (op (p_asg rfl) rfl) ?_
     refine ln ?_
     refine nthen ?_
     refine cmono (fun a w h => nilSl (α := ByteArray) h) ?_
     refine cr ?_
     refine ls (op (p_move rfl) rfl) ?_
     refine ls (op (p_move rfl) rfl) ?_
     refine ls (op (p_bld sb39 rfl (Fill.t (by repeat' constructor) rfl rfl (by repeat' constructor) (Fill.t (by repeat' constructor) rfl rfl (by repeat' constructor) Fill.d))) rfl) ?_
     refine ls (o_bsl [pAd (filesT U T false)[k]] Tryz.underlying29 Tryz.sizeOf39 Tryz.zeroValue39 rfl (Enum.t Enum.d) (RV.t ((none, 0), (none, 0)) rfl (by repeat' (first | constructor | apply Sub.suf)) RV.d) rfl (by decide) (by decide) rfl) ?_
     refine le ?_; intro b73
     refine lmono (fun a w h => Go.Sx.freeze (i := 0) rfl h) ?_
     refine ls (o_app (is := [2]) Tryz.underlying29 inf39 rfl (by decide) (by decide) rfl rfl (by (try simp only [List.length_append, List.length_cons, List.length_nil]); omega) (fun h => by cases h) rfl (by repeat' (first | constructor | apply Sub.suf)) rfl) ?_
     refine le ?_; rintro ⟨A74, c74⟩
     refine ls (op (p_move rfl) rfl) ?_
     refine ls (op (p_move rfl) rfl) ?_
     refine ls (o_call (is := []) Tryz.call19 (c_dLines (filesT U T false)[k] [] (getL U (filesT U T false)[k]) none A67 0 c67 (Nat.zero_le _) (by have := hwU (filesT U T false)[k]; omega) (Nat.le_refl _) hcap67) rfl rfl (by repeat' (first | constructor | apply Sub.suf)) rfl) ?_
     refine le ?_; rintro ⟨A77, c77⟩
     refine lmono (fun a w h => freezeN (i := 0) rfl h) ?_
     refine lpure (St.nil (y := (A77, c77)) (by repeat' constructor)) ?_
     intro hn77
     refine ls (o_app (is := [0]) Tryz.underlying29 inf39 rfl (by decide) (by decide) rfl rfl (by (try simp only [List.length_append, List.length_cons, List.length_nil]); have hll := linesT_len ((filesT U T false)[k]) ([]) (getL U (filesT U T false)[k]); omega) (fun _ h => hn77 h) rfl (by repeat' (first | constructor | apply Sub.suf)) rfl) ?_
     refine le ?_; rintro ⟨A78, c78⟩
     refine ls (op (p_asg rfl) rfl) ?_
     refine ln ?_
     refine nblock ?_
     refine nthen ?_
     refine cr ?_
     refine ls (op (p_add rfl rfl (by omega)) rfl) ?_
     refine ls (op (p_move rfl) rfl) ?_
     refine ln ?_
     refine nnext ⟨(k + 1, A78, c78), hk1⟩ (by dsimp only; omega) (fun a w h => by dsimp only; rw [fm_take hk1, show comeT U (filesT U T false)[k] = [pAd (filesT U T false)[k]] ++ linesT (filesT U T false)[k] [] (getL U (filesT U T false)[k]) from rfl, ← List.append_assoc, ← List.append_assoc]; exact wk (is := [0, 2, 2, 0, 0]) (by repeat (first | exact subσ.nil _ | refine subσ.cons rfl ?_)) rfl (by repeat' (first | constructor | apply Sub.suf)) a w h)
    ·
     intro h61
     dsimp only at hk
     try simp only [decide_eq_true_eq, decide_eq_false_iff_not, Bool.not_eq_true', Bool.not_eq_false', Int.not_lt, Int.not_le, ge_iff_le, Bool.not_true, Bool.not_false] at h61
     obtain rfl : k = (filesT U T false).length := by omega
     rw [List.take_length]
     refine cexit ?_
     refine xthen ?_
     refine xthen ?_
     refine xblock ?_
     refine nthen ?_
     refine cs ?_
     refine cs ?_
     refine cr ?_
     refine ls (op (p_move rfl) rfl) ?_
     refine ls (op (p_move rfl) rfl) ?_
     refine ls (o_call (is := [1, 1, 1, 1]) Tryz.call79 (c_files p b T p2 b2 U hT hn hU hn2 true) rfl rfl (by repeat' (first | constructor | apply Sub.suf)) rfl) ?_
     refine le ?_; rintro ⟨A82, c82⟩
     refine ls (op (p_lenl rfl Tryz.underlying37) rfl) ?_
     refine ls (op (p_move rfl) rfl) ?_
     refine ln ?_
     refine nthen ?_
     refine cb ?_
     refine cl (ι := {q : Nat × Option Addr × Nat // q.1 ≤ (filesT T U true).length}) (fun i => St M0 F0 w0 108 [(0, .pointer (some ⟨p, 0, none⟩)), (1, .pointer (some ⟨p2, 0, none⟩)), (5, .slice i.1.2.1 (((filesT T U false).flatMap (goneT T) ++ (filesT U T false).flatMap (comeT U)) ++ ((filesT T U true).take (i.1.1)).flatMap (bothT T U)).length i.1.2.2), (82, .slice A82 (filesT T U true).length c82), (83, .int .i64 (((filesT T U true).length : Nat) : Int)), (84, .int .i64 ((i.1.1 : Nat) : Int))] [row 39 (i.1.2.1) (i.1.2.2) (((filesT T U false).flatMap (goneT T) ++ (filesT U T false).flatMap (comeT U)) ++ ((filesT T U true).take (i.1.1)).flatMap (bothT T U)), box p 120 [.map (some b)], tr b T, box p2 120 [.map (some b2)], tr b2 U] [slA A82 (filesT T U true)]) (fun i => (filesT T U true).length - i.1.1) ⟨(0, A5, c5), Nat.zero_le _⟩ ((fun a w h => by dsimp only; rw [List.take_zero, List.flatMap_nil, List.append_nil]; exact wk (is := [4, 0, 0, 0, 0]) (by repeat (first | exact subσ.nil _ | refine subσ.cons rfl ?_)) rfl (by repeat' (first | constructor | apply Sub.suf)) a w h)) ?_
     rintro ⟨⟨k, A5, c5⟩, hk⟩
     refine cmono (S' := St M0 F0 w0 108 [(0, .pointer (some ⟨p, 0, none⟩)), (1, .pointer (some ⟨p2, 0, none⟩)), (5, .slice A5 (((filesT T U false).flatMap (goneT T) ++ (filesT U T false).flatMap (comeT U)) ++ ((filesT T U true).take (k)).flatMap (bothT T U)).length c5), (82, .slice A82 (filesT T U true).length c82), (83, .int .i64 (((filesT T U true).length : Nat) : Int)), (84, .int .i64 ((k : Nat) : Int))] [row 39 (A5) (c5) (((filesT T U false).flatMap (goneT T) ++ (filesT U T false).flatMap (comeT U)) ++ ((filesT T U true).take (k)).flatMap (bothT T U)), box p 120 [.map (some b)], tr b T, box p2 120 [.map (some b2)], tr b2 U] [slA A82 (filesT T U true)]) (fun _ _ h => h) ?_
     refine cs ?_
     refine cr ?_
     refine ls (op (p_icmp rfl rfl rfl) rfl) ?_
     refine ln ?_
     refine nthen ?_
     refine cs ?_
     refine cc rfl ?_ ?_
     ·
      intro h85
      dsimp only at hk
      try simp only [decide_eq_true_eq, decide_eq_false_iff_not, Bool.not_eq_true', Bool.not_eq_false', Int.not_lt, Int.not_le, ge_iff_le, Bool.not_true, Bool.not_false] at h85
      have hk1 : k < (filesT T U true).length := by omega
      have hb1 := fm_len (goneT_len T) (filesT T U false)
      have hb2 := fm_len (comeT_len U) (filesT U T false)
      have hb3 := fm_len (bothT_len T U) ((filesT T U true).take k)
      have hb4 := fm_len (goneT_len T) ((filesT T U false).take k)
      have hb5 := fm_len (comeT_len U) ((filesT U T false).take k)
      have hf1 := filesT_len T U false
      have hf2 := filesT_len U T false
      have hf3 := filesT_len T U true
      have ht1 := List.length_take_le k (filesT T U false)
      have ht2 := List.length_take_le k (filesT U T false)
      have ht3 := List.length_take_le k (filesT T U true)
      refine cskip ?_
      refine nthen ?_
      refine cs ?_
      refine cb ?_
      refine cs ?_
      refine elC (A := A82) (l := filesT T U true) (by repeat' constructor) k (List.getElem?_eq_getElem hk1) ?_; rintro zbp zop zyp hAp
      refine cr ?_
      refine ls (op (p_ia k hAp hk1 rfl Tryz.underlying37 Tryz.sizeOf9 rfl rfl) rfl) ?_
      refine ls (o_ldi Tryz.isAgg9 rfl (by repeat' constructor) 0 rfl (by repeat (first | exact Cut.d | apply Cut.t | apply Cut.s)) rfl) ?_
      refine ls (op (p_asg rfl) rfl) ?_
      refine ln ?_
      refine nthen ?_
      refine cs ?_
      refine cr ?_
      refine ls (op (p_move rfl) rfl) ?_
      refine ls (op (p_move rfl) rfl) ?_
      refine ls (o_call (is := [1, 1]) Tryz.call28 (c_tGet p b T hT (filesT T U true)[k]) rfl rfl (by repeat' (first | constructor | apply Sub.suf)) rfl) ?_
      refine le ?_; rintro ⟨A91, c91⟩
      refine lmono (fun a w h => freezeN (i := 0) rfl h) ?_
      refine lpure (St.cap (m := (getL T (filesT T U true)[k]).length) (c := c91) (by repeat' constructor)) ?_
      intro hcap91
      refine ls (op (p_move rfl) rfl) ?_
      refine ls (op (p_ext rfl (by repeat' constructor)) rfl) ?_
      refine ls (op (p_ext rfl (by repeat' constructor)) rfl) ?_
      refine ls (op (p_asg rfl) rfl) ?_
      refine ls (op (p_asg rfl) rfl) ?_
      refine ln ?_
      refine nthen ?_
      refine cs ?_
      refine cr ?_
      refine ls (op (p_move rfl) rfl) ?_
      refine ls (op (p_move rfl) rfl) ?_
      refine ls (o_call (is := [3, 3]) Tryz.call28 (c_tGet p2 b2 U hU (filesT T U true)[k]) rfl rfl (by repeat' (first | constructor | apply Sub.suf)) rfl) ?_
      refine le ?_; rintro ⟨A97, c97⟩
      refine lmono (fun a w h => freezeN (i := 0) rfl h) ?_
      refine lpure (St.cap (m := (getL U (filesT T U true)[k]).length) (c := c97) (by repeat' constructor)) ?_
      intro hcap97
      refine ls (op (p_move rfl) rfl) ?_
      refine ls (op (p_ext rfl (by repeat' constructor)) rfl) ?_
      refine ls (op (p_ext rfl (by repeat' constructor)) rfl) ?_
      refine ls (op (p_asg rfl) rfl) ?_
      refine ls (op (p_asg rfl) rfl) ?_
      refine ln ?_
      refine nthen ?_
      refine cr ?_
      refine ls (op (p_move rfl) rfl) ?_
      refine ls (op (p_move rfl) rfl) ?_
      refine ls (op (p_move rfl) rfl) ?_
      refine ls (op (p_move rfl) rfl) ?_
      refine ls (o_call (is := []) Tryz.call19 (c_dLines (filesT T U true)[k] (getL T (filesT T U true)[k]) (getL U (filesT T U true)[k]) A91 A97 c91 c97 (by have := hwT (filesT T U true)[k]; omega) (by have := hwU (filesT T U true)[k]; omega) hcap91 hcap97) rfl rfl (by repeat' (first | constructor | apply Sub.suf)) rfl) ?_
      refine le ?_; rintro ⟨A104, c104⟩
      refine lmono (fun a w h => freezeN (i := 0) rfl h) ?_
      refine lpure (St.nil (y := (A104, c104)) (by repeat' constructor)) ?_
      intro hn104
      refine ls (o_app (is := [4]) Tryz.underlying29 inf39 rfl (by decide) (by decide) rfl rfl (by (try simp only [List.length_append, List.length_cons, List.length_nil]); have hll := linesT_len ((filesT T U true)[k]) (getL T (filesT T U true)[k]) (getL U (filesT T U true)[k]); omega) (fun _ h => hn104 h) rfl (by repeat' (first | constructor | apply Sub.suf)) rfl) ?_
      refine le ?_; rintro ⟨A105, c105⟩
      refine ls (op (p_asg rfl) rfl) ?_
      refine ln ?_
      refine nblock ?_
      refine nthen ?_
      refine cr ?_
      refine ls (op (p_add rfl rfl (by omega)) rfl) ?_
      refine ls (op (p_move rfl) rfl) ?_
      refine ln ?_
      refine nnext ⟨(k + 1, A105, c105), hk1⟩ (by dsimp only; omega) (fun a w h => by dsimp only; rw [fm_take hk1, show bothT T U (filesT T U true)[k] = linesT (filesT T U true)[k] (getL T (filesT T U true)[k]) (getL U (filesT T U true)[k]) from rfl, ← List.append_assoc]; exact wk (is := [0, 2, 2, 0, 0]) (by repeat (first | exact subσ.nil _ | refine subσ.cons rfl ?_)) rfl (by repeat' (first | constructor | apply Sub.suf)) a w h)
     ·
      intro h85
      dsimp only at hk
      try simp only [decide_eq_true_eq, decide_eq_false_iff_not, Bool.not_eq_true', Bool.not_eq_false', Int.not_lt, Int.not_le, ge_iff_le, Bool.not_true, Bool.not_false] at h85
      obtain rfl : k = (filesT T U true).length := by omega
      rw [List.take_length]
      refine cexit ?_
      refine xthen ?_
      refine xthen ?_
      refine xblock ?_
      refine nthen ?_
      refine cs ?_
      refine cmono (fun a w h => rowEq (α := Prim) (by repeat' constructor) ((treesT_no hw).symm) (by repeat' constructor) h) ?_
      refine cr ?_
      refine ls (op (p_move rfl) rfl) ?_
      refine ls (op (p_asg rfl) rfl) ?_
      refine ln ?_
      refine nthen ?_
      refine cret ?_
      refine xret (fun _ _ h => h) ?_
      refine rret (is := [0, 0, 0, 0, 0]) (A5, c5) (Or.inl rfl) (Res.t rfl Res.d) ?_ rfl (by repeat' (first | constructor | apply Sub.suf))
      rw [treesT_no hw]; rfl

set_option maxRecDepth 100000 in
theorem c_dTreesN (p2 b2 : Nat) (U : List File) (hU : Tfit U) (hn2 : U.length ≤ 2000000) (hSU : Sor U) : Con Tryz.prog 34 [.pointer none, .pointer (some ⟨p2, 0, none⟩)] [box p2 120 [.map (some b2)], tr b2 U] [] (Option Addr × Nat) (fun x => .slice x.1 (treesT ([] : List File) U).length x.2) (fun x => [row 39 x.1 x.2 (treesT ([] : List File) U), box p2 120 [.map (some b2)], tr b2 U]) (fun _ => []) := by
 have hT : Tfit [] := fun x hx => by cases hx
 have hn : ([] : List File).length ≤ 2000000 := Nat.zero_le _
 have hST : Sor [] := Sor.nil
 refine con Tryz.func34 rfl Tryz.ntmps34 rfl ?_
 intro M0 F0 w0
 refine cs ?_
 refine cr ?_
 refine ls (op (p_asg rfl) rfl) ?_
 refine ln ?_
 refine nthen ?_
 refine cs ?_
 refine cs ?_
 refine cr ?_
 refine ls (op (p_move rfl) rfl) ?_
 refine ls (op (p_ptrnil0 Tryz.underlying47 rfl rfl) rfl) ?_
 refine ln ?_
 refine nthen ?_
 refine cc rfl (fun h => ?_) (fun h => by cases h)
 refine cr ?_
 refine ls (o_call (is := []) Tryz.call23 (c_tNew) rfl rfl (by repeat' (first | constructor | apply Sub.suf)) rfl) ?_
 refine le ?_; rintro ⟨p, b⟩
 refine ls (op (p_asg rfl) rfl) ?_
 refine ln ?_
 refine nthen ?_
 refine cs ?_
 refine cs ?_
 refine cr ?_
 refine ls (op (p_move rfl) rfl) ?_
 refine ls (op (p_ptrnil Tryz.underlying47 rfl rfl) rfl) ?_
 refine ln ?_
 refine nthen ?_
 refine cc rfl (fun h => by cases h) (fun h => ?_)
 refine cskip ?_
 refine nthen ?_
 refine cs ?_
 refine cs ?_
 refine cr ?_
 refine ls (op (p_move rfl) rfl) ?_
 refine ls (o_call (is := [0, 0]) Tryz.call78 (c_wide p b ([] : List File) hT hn) rfl rfl (by repeat' (first | constructor | apply Sub.suf)) rfl) ?_
 refine le ?_; intro x27
 refine ls (op (p_move rfl) rfl) ?_
 refine orX 3 28 31 rfl (subσ.cons (t := 0) rfl (subσ.cons (t := 1) rfl (subσ.cons (t := 4) rfl (subσ.cons (t := 20) rfl (subσ.cons (t := 21) rfl (subσ.cons (t := 22) rfl (subσ.cons (t := 23) rfl (subσ.cons (t := 24) rfl (subσ.nil _))))))))) ?_ ?_
 ·
  intro h28
  refine lskip rfl rfl rfl rfl rfl ?_
  refine lskip rfl rfl rfl rfl rfl ?_
  refine ls (op (p_pickt rfl rfl) rfl) ?_
  refine ln (nmid (wk0 (by repeat (first | exact subσ.nil _ | refine subσ.cons rfl ?_)) (by repeat' (first | constructor | apply Sub.suf))))
 apply exI
 ·
  intro h28
  refine lwant rfl rfl rfl rfl (op (p_move rfl) rfl) ?_
  refine lwant rfl rfl rfl rfl (o_call (is := [2, 2]) Tryz.call78 (c_wide p2 b2 U hU hn2) rfl rfl (by repeat' (first | constructor | apply Sub.suf)) rfl) ?_
  refine le ?_; intro x30
  refine lmono (fun a w h => stPerm (is := [2, 2]) rfl h) ?_
  refine ls (op (p_pickf rfl rfl) rfl) ?_
  refine ln (nmid (wk0 (by repeat (first | exact subσ.nil _ | refine subσ.cons rfl ?_)) (by repeat' (first | constructor | apply Sub.suf))))
 ·
  refine ln ?_
  refine nthen ?_
  refine cc rfl ?_ ?_
  ·
   intro h31
   have hw : (wideB ([] : List File) || wideB U) = true := h31
   refine cs ?_
   refine cmono (fun a w h => nilRow (α := Prim) 39 h) ?_
   refine cmono (fun a w h => rowEq (α := Prim) (by repeat' constructor) ((treesT_yes hw).symm) (by repeat' constructor) h) ?_
   refine cr ?_
   refine ls (op (p_asg rfl) rfl) ?_
   refine ln ?_
   refine nthen ?_
   refine cret ?_
   refine xret (fun _ _ h => h) ?_
   refine rret (is := [0, 2, 2]) (none, 0) (Or.inl rfl) (Res.t rfl Res.d) ?_ rfl (by repeat' (first | constructor | apply Sub.suf))
   rw [treesT_yes hw]; rfl
  ·
   intro h31
   have hw : (wideB ([] : List File) || wideB U) = false := h31
   obtain ⟨hw1, hw2⟩ := Bool.or_eq_false_iff.1 hw
   have hwT := wide_get hST hw1
   have hwU := wide_get hSU hw2
   refine cskip ?_
   refine nthen ?_
   refine cs ?_
   refine cr ?_
   refine ls (op (p_asg rfl) rfl) ?_
   refine ln ?_
   refine nthen ?_
   refine cs ?_
   refine cs ?_
   refine cmono (fun a w h => nilRow (α := Prim) 39 h) ?_
   refine cr ?_
   refine ls (op (p_move rfl) rfl) ?_
   refine ls (op (p_move rfl) rfl) ?_
   refine ls (o_call (is := [1, 1, 1, 1]) Tryz.call79 (c_files p b ([] : List File) p2 b2 U hT hn hU hn2 false) rfl rfl (by repeat' (first | constructor | apply Sub.suf)) rfl) ?_
   refine le ?_; rintro ⟨A34, c34⟩
   refine ls (op (p_lenl rfl Tryz.underlying37) rfl) ?_
   refine ls (op (p_move rfl) rfl) ?_
   refine ln ?_
   refine nthen ?_
   refine cb ?_
   refine cl (ι := {q : Nat × Option Addr × Nat // q.1 ≤ (filesT ([] : List File) U false).length}) (fun i => St M0 F0 w0 108 [(0, .pointer (some ⟨p, 0, none⟩)), (1, .pointer (some ⟨p2, 0, none⟩)), (5, .slice i.1.2.1 (((filesT ([] : List File) U false).take (i.1.1)).flatMap (goneT ([] : List File))).length i.1.2.2), (34, .slice A34 (filesT ([] : List File) U false).length c34), (35, .int .i64 (((filesT ([] : List File) U false).length : Nat) : Int)), (36, .int .i64 ((i.1.1 : Nat) : Int))] [row 39 (i.1.2.1) (i.1.2.2) (((filesT ([] : List File) U false).take (i.1.1)).flatMap (goneT ([] : List File))), box p 120 [.map (some b)], tr b [], box p2 120 [.map (some b2)], tr b2 U] [slA A34 (filesT ([] : List File) U false)]) (fun i => (filesT ([] : List File) U false).length - i.1.1) ⟨(0, none, 0), Nat.zero_le _⟩ (wk (is := [4, 0, 0, 0, 0]) (by repeat (first | exact subσ.nil _ | refine subσ.cons rfl ?_)) rfl (by repeat' (first | constructor | apply Sub.suf))) ?_
   rintro ⟨⟨k, A5, c5⟩, hk⟩
   refine cmono (S' := St M0 F0 w0 108 [(0, .pointer (some ⟨p, 0, none⟩)), (1, .pointer (some ⟨p2, 0, none⟩)), (5, .slice A5 (((filesT ([] : List File) U false).take (k)).flatMap (goneT ([] : List File))).length c5), (34, .slice A34 (filesT ([] : List File) U false).length c34), (35, .int .i64 (((filesT ([] : List File) U false).length : Nat) : Int)), (36, .int .i64 ((k : Nat) : Int))] [row 39 (A5) (c5) (((filesT ([] : List File) U false).take (k)).flatMap (goneT ([] : List File))), box p 120 [.map (some b)], tr b [], box p2 120 [.map (some b2)], tr b2 U] [slA A34 (filesT ([] : List File) U false)]) (fun _ _ h => h) ?_
   refine cs ?_
   refine cr ?_
   refine ls (op (p_icmp rfl rfl rfl) rfl) ?_
   refine ln ?_
   refine nthen ?_
   refine cs ?_
   refine cc rfl ?_ ?_
   ·
    intro h37
    dsimp only at hk
    try simp only [decide_eq_true_eq, decide_eq_false_iff_not, Bool.not_eq_true', Bool.not_eq_false', Int.not_lt, Int.not_le, ge_iff_le, Bool.not_true, Bool.not_false] at h37
    have hk1 : k < (filesT ([] : List File) U false).length := by omega
    have hb1 := fm_len (goneT_len ([] : List File)) (filesT ([] : List File) U false)
    have hb2 := fm_len (comeT_len U) (filesT U ([] : List File) false)
    have hb3 := fm_len (bothT_len ([] : List File) U) ((filesT ([] : List File) U true).take k)
    have hb4 := fm_len (goneT_len ([] : List File)) ((filesT ([] : List File) U false).take k)
    have hb5 := fm_len (comeT_len U) ((filesT U ([] : List File) false).take k)
    have hf1 := filesT_len ([] : List File) U false
    have hf2 := filesT_len U ([] : List File) false
    have hf3 := filesT_len ([] : List File) U true
    have ht1 := List.length_take_le k (filesT ([] : List File) U false)
    have ht2 := List.length_take_le k (filesT U ([] : List File) false)
    have ht3 := List.length_take_le k (filesT ([] : List File) U true)
    refine cskip ?_
    refine nthen ?_
    refine cs ?_
    refine cb ?_
    refine cs ?_
    refine elC (A := A34) (l := filesT ([] : List File) U false) (by repeat' constructor) k (List.getElem?_eq_getElem hk1) ?_; rintro zbp zop zyp hAp
    refine cr ?_
    refine ls (op (p_ia k hAp hk1 rfl Tryz.underlying37 Tryz.sizeOf9 rfl rfl) rfl) ?_
    refine ls (o_ldi Tryz.isAgg9 rfl (by repeat' constructor) 0 rfl (by repeat (first | exact Cut.d | apply Cut.t | apply Cut.s)) rfl) ?_
    refine ls (op (p_asg rfl) rfl) ?_
    refine ln ?_
    refine nthen ?_
    refine cs ?_
    refine cr ?_
    refine ls (op (p_move rfl) rfl) ?_
    refine ls (op (p_move rfl) rfl) ?_
    refine ls (o_call (is := [1, 1]) Tryz.call28 (c_tGet p b ([] : List File) hT (filesT ([] : List File) U false)[k]) rfl rfl (by repeat' (first | constructor | apply Sub.suf)) rfl) ?_
    refine le ?_; rintro ⟨A43, c43⟩
    refine lmono (fun a w h => freezeN (i := 0) rfl h) ?_
    refine lpure (St.cap (m := (getL ([] : List File) (filesT ([] : List File) U false)[k]).length) (c := c43) (by repeat' constructor)) ?_
    intro hcap43
    refine ls (op (p_move rfl) rfl) ?_
    refine ls (op (p_ext rfl (by repeat' constructor)) rfl) ?_
    refine ls (op (p_ext rfl (by repeat' constructor)) rfl) ?_
    refine ls (op (p_asg rfl) rfl) ?_
    refine ls (op (p_asg rfl) rfl) ?_
    refine ln ?_
    refine nthen ?_
    refine cmono (fun a w h => nilSl (α := ByteArray) h) ?_
    refine cr ?_
    refine ls (op (p_move rfl) rfl) ?_
    refine ls (op (p_move rfl) rfl) ?_
    refine ls (op (p_move rfl) rfl) ?_
    refine ls (o_call (is := []) Tryz.call19 (c_dLines (filesT ([] : List File) U false)[k] (getL ([] : List File) (filesT ([] : List File) U false)[k]) [] A43 none c43 0 (by have := hwT (filesT ([] : List File) U false)[k]; omega) (Nat.zero_le _) hcap43 (Nat.le_refl _)) rfl rfl (by repeat' (first | constructor | apply Sub.suf)) rfl) ?_
    refine le ?_; rintro ⟨A49, c49⟩
    refine lmono (fun a w h => freezeN (i := 0) rfl h) ?_
    refine lpure (St.nil (y := (A49, c49)) (by repeat' constructor)) ?_
    intro hn49
    refine ls (o_app (is := [2]) Tryz.underlying29 inf39 rfl (by decide) (by decide) rfl rfl (by (try simp only [List.length_append, List.length_cons, List.length_nil]); have hll := linesT_len ((filesT ([] : List File) U false)[k]) (getL ([] : List File) (filesT ([] : List File) U false)[k]) ([]); omega) (fun _ h => hn49 h) rfl (by repeat' (first | constructor | apply Sub.suf)) rfl) ?_
    refine le ?_; rintro ⟨A50, c50⟩
    refine ls (op (p_move rfl) rfl) ?_
    refine ls (op (p_bld sb39 rfl (Fill.t (by repeat' constructor) rfl rfl (by repeat' constructor) (Fill.t (by repeat' constructor) rfl rfl (by repeat' constructor) Fill.d))) rfl) ?_
    refine ls (o_bsl [pRm (filesT ([] : List File) U false)[k]] Tryz.underlying29 Tryz.sizeOf39 Tryz.zeroValue39 rfl (Enum.t Enum.d) (RV.t ((none, 0), (none, 0)) rfl (by repeat' (first | constructor | apply Sub.suf)) RV.d) rfl (by decide) (by decide) rfl) ?_
    refine le ?_; intro b53
    refine lmono (fun a w h => Go.Sx.freeze (i := 0) rfl h) ?_
    refine ls (o_app (is := [0]) Tryz.underlying29 inf39 rfl (by decide) (by decide) rfl rfl (by (try simp only [List.length_append, List.length_cons, List.length_nil]); have hll := linesT_len ((filesT ([] : List File) U false)[k]) (getL ([] : List File) (filesT ([] : List File) U false)[k]) ([]); omega) (fun h => by cases h) rfl (by repeat' (first | constructor | apply Sub.suf)) rfl) ?_
    refine le ?_; rintro ⟨A54, c54⟩
    refine ls (op (p_asg rfl) rfl) ?_
    refine ln ?_
    refine nblock ?_
    refine nthen ?_
    refine cr ?_
    refine ls (op (p_add rfl rfl (by omega)) rfl) ?_
    refine ls (op (p_move rfl) rfl) ?_
    refine ln ?_
    refine nnext ⟨(k + 1, A54, c54), hk1⟩ (by dsimp only; omega) (fun a w h => by dsimp only; rw [fm_take hk1, show goneT ([] : List File) (filesT ([] : List File) U false)[k] = linesT (filesT ([] : List File) U false)[k] (getL ([] : List File) (filesT ([] : List File) U false)[k]) [] ++ [pRm (filesT ([] : List File) U false)[k]] from rfl, ← List.append_assoc]; exact wk (is := [0, 0, 0, 0, 0]) (by repeat (first | exact subσ.nil _ | refine subσ.cons rfl ?_)) rfl (by repeat' (first | constructor | apply Sub.suf)) a w h)
   ·
    intro h37
    dsimp only at hk
    try simp only [decide_eq_true_eq, decide_eq_false_iff_not, Bool.not_eq_true', Bool.not_eq_false', Int.not_lt, Int.not_le, ge_iff_le, Bool.not_true, Bool.not_false] at h37
    obtain rfl : k = (filesT ([] : List File) U false).length := by omega
    rw [List.take_length]
    refine cexit ?_
    refine xthen ?_
    refine xthen ?_
    refine xblock ?_
    refine nthen ?_
    refine cs ?_
    refine cs ?_
    refine cr ?_
    refine ls (op (p_move rfl) rfl) ?_
    refine ls (op (p_move rfl) rfl) ?_
    refine ls (o_call (is := [3, 3, 1, 1]) Tryz.call79 (c_files p2 b2 U p b ([] : List File) hU hn2 hT hn false) rfl rfl (by repeat' (first | constructor | apply Sub.suf)) rfl) ?_
    refine le ?_; rintro ⟨A58, c58⟩
    refine ls (op (p_lenl rfl Tryz.underlying37) rfl) ?_
    refine ls (op (p_move rfl) rfl) ?_
    refine ln ?_
    refine nthen ?_
    refine cb ?_
    refine cl (ι := {q : Nat × Option Addr × Nat // q.1 ≤ (filesT U ([] : List File) false).length}) (fun i => St M0 F0 w0 108 [(0, .pointer (some ⟨p, 0, none⟩)), (1, .pointer (some ⟨p2, 0, none⟩)), (5, .slice i.1.2.1 ((filesT ([] : List File) U false).flatMap (goneT ([] : List File)) ++ ((filesT U ([] : List File) false).take (i.1.1)).flatMap (comeT U)).length i.1.2.2), (58, .slice A58 (filesT U ([] : List File) false).length c58), (59, .int .i64 (((filesT U ([] : List File) false).length : Nat) : Int)), (60, .int .i64 ((i.1.1 : Nat) : Int))] [row 39 (i.1.2.1) (i.1.2.2) ((filesT ([] : List File) U false).flatMap (goneT ([] : List File)) ++ ((filesT U ([] : List File) false).take (i.1.1)).flatMap (comeT U)), box p 120 [.map (some b)], tr b [], box p2 120 [.map (some b2)], tr b2 U] [slA A58 (filesT U ([] : List File) false)]) (fun i => (filesT U ([] : List File) false).length - i.1.1) ⟨(0, A5, c5), Nat.zero_le _⟩ ((fun a w h => by dsimp only; rw [List.take_zero, List.flatMap_nil, List.append_nil]; exact wk (is := [4, 2, 2, 0, 0]) (by repeat (first | exact subσ.nil _ | refine subσ.cons rfl ?_)) rfl (by repeat' (first | constructor | apply Sub.suf)) a w h)) ?_
    rintro ⟨⟨k, A5, c5⟩, hk⟩
    refine cmono (S' := St M0 F0 w0 108 [(0, .pointer (some ⟨p, 0, none⟩)), (1, .pointer (some ⟨p2, 0, none⟩)), (5, .slice A5 ((filesT ([] : List File) U false).flatMap (goneT ([] : List File)) ++ ((filesT U ([] : List File) false).take (k)).flatMap (comeT U)).length c5), (58, .slice A58 (filesT U ([] : List File) false).length c58), (59, .int .i64 (((filesT U ([] : List File) false).length : Nat) : Int)), (60, .int .i64 ((k : Nat) : Int))] [row 39 (A5) (c5) ((filesT ([] : List File) U false).flatMap (goneT ([] : List File)) ++ ((filesT U ([] : List File) false).take (k)).flatMap (comeT U)), box p 120 [.map (some b)], tr b [], box p2 120 [.map (some b2)], tr b2 U] [slA A58 (filesT U ([] : List File) false)]) (fun _ _ h => h) ?_
    refine cs ?_
    refine cr ?_
    refine ls (op (p_icmp rfl rfl rfl) rfl) ?_
    refine ln ?_
    refine nthen ?_
    refine cs ?_
    refine cc rfl ?_ ?_
    ·
     intro h61
     dsimp only at hk
     try simp only [decide_eq_true_eq, decide_eq_false_iff_not, Bool.not_eq_true', Bool.not_eq_false', Int.not_lt, Int.not_le, ge_iff_le, Bool.not_true, Bool.not_false] at h61
     have hk1 : k < (filesT U ([] : List File) false).length := by omega
     have hb1 := fm_len (goneT_len ([] : List File)) (filesT ([] : List File) U false)
     have hb2 := fm_len (comeT_len U) (filesT U ([] : List File) false)
     have hb3 := fm_len (bothT_len ([] : List File) U) ((filesT ([] : List File) U true).take k)
     have hb4 := fm_len (goneT_len ([] : List File)) ((filesT ([] : List File) U false).take k)
     have hb5 := fm_len (comeT_len U) ((filesT U ([] : List File) false).take k)
     have hf1 := filesT_len ([] : List File) U false
     have hf2 := filesT_len U ([] : List File) false
     have hf3 := filesT_len ([] : List File) U true
     have ht1 := List.length_take_le k (filesT ([] : List File) U false)
     have ht2 := List.length_take_le k (filesT U ([] : List File) false)
     have ht3 := List.length_take_le k (filesT ([] : List File) U true)
     refine cskip ?_
     refine nthen ?_
     refine cs ?_
     refine cb ?_
     refine cs ?_
     refine elC (A := A58) (l := filesT U ([] : List File) false) (by repeat' constructor) k (List.getElem?_eq_getElem hk1) ?_; rintro zbp zop zyp hAp
     refine cr ?_
     refine ls (op (p_ia k hAp hk1 rfl Tryz.underlying37 Tryz.sizeOf9 rfl rfl) rfl) ?_
     refine ls (o_ldi Tryz.isAgg9 rfl (by repeat' constructor) 0 rfl (by repeat (first | exact Cut.d | apply Cut.t | apply Cut.s)) rfl) ?_
     refine ls (op (p_asg rfl) rfl) ?_
     refine ln ?_
     refine nthen ?_
     refine cs ?_
     refine cr ?_
     refine ls (op (p_move rfl) rfl) ?_
     refine ls (op (p_move rfl) rfl) ?_
     refine ls (o_call (is := [3, 3]) Tryz.call28 (c_tGet p2 b2 U hU (filesT U ([] : List File) false)[k]) rfl rfl (by repeat' (first | constructor | apply Sub.suf)) rfl) ?_
     refine le ?_; rintro ⟨A67, c67⟩
     refine lmono (fun a w h => freezeN (i := 0) rfl h) ?_
     refine lpure (St.cap (m := (getL U (filesT U ([] : List File) false)[k]).length) (c := c67) (by repeat' constructor)) ?_
     intro hcap67
     refine ls (op (p_move rfl) rfl) ?_
     refine ls (op (p_ext rfl (by repeat' constructor)) rfl) ?_
     refine ls (op (p_ext rfl (by repeat' constructor)) rfl) ?_
     refine ls (op (p_asg rfl) rfl) ?_
     refine ls (op (p_asg rfl) rfl) ?_
     refine ln ?_
     refine nthen ?_
     refine cmono (fun a w h => nilSl (α := ByteArray) h) ?_
     refine cr ?_
     refine ls (op (p_move rfl) rfl) ?_
     refine ls (op (p_move rfl) rfl) ?_
     refine ls (op (p_bld sb39 rfl (Fill.t (by repeat' constructor) rfl rfl (by repeat' constructor) (Fill.t (by repeat' constructor) rfl rfl (by repeat' constructor) Fill.d))) rfl) ?_
     refine ls (o_bsl [pAd (filesT U ([] : List File) false)[k]] Tryz.underlying29 Tryz.sizeOf39 Tryz.zeroValue39 rfl (Enum.t Enum.d) (RV.t ((none, 0), (none, 0)) rfl (by repeat' (first | constructor | apply Sub.suf)) RV.d) rfl (by decide) (by decide) rfl) ?_
     refine le ?_; intro b73
     refine lmono (fun a w h => Go.Sx.freeze (i := 0) rfl h) ?_
     refine ls (o_app (is := [2]) Tryz.underlying29 inf39 rfl (by decide) (by decide) rfl rfl (by (try simp only [List.length_append, List.length_cons, List.length_nil]); omega) (fun h => by cases h) rfl (by repeat' (first | constructor | apply Sub.suf)) rfl) ?_
     refine le ?_; rintro ⟨A74, c74⟩
     refine ls (op (p_move rfl) rfl) ?_
     refine ls (op (p_move rfl) rfl) ?_
     refine ls (o_call (is := []) Tryz.call19 (c_dLines (filesT U ([] : List File) false)[k] [] (getL U (filesT U ([] : List File) false)[k]) none A67 0 c67 (Nat.zero_le _) (by have := hwU (filesT U ([] : List File) false)[k]; omega) (Nat.le_refl _) hcap67) rfl rfl (by repeat' (first | constructor | apply Sub.suf)) rfl) ?_
     refine le ?_; rintro ⟨A77, c77⟩
     refine lmono (fun a w h => freezeN (i := 0) rfl h) ?_
     refine lpure (St.nil (y := (A77, c77)) (by repeat' constructor)) ?_
     intro hn77
     refine ls (o_app (is := [0]) Tryz.underlying29 inf39 rfl (by decide) (by decide) rfl rfl (by (try simp only [List.length_append, List.length_cons, List.length_nil]); have hll := linesT_len ((filesT U ([] : List File) false)[k]) ([]) (getL U (filesT U ([] : List File) false)[k]); omega) (fun _ h => hn77 h) rfl (by repeat' (first | constructor | apply Sub.suf)) rfl) ?_
     refine le ?_; rintro ⟨A78, c78⟩
     refine ls (op (p_asg rfl) rfl) ?_
     refine ln ?_
     refine nblock ?_
     refine nthen ?_
     refine cr ?_
     refine ls (op (p_add rfl rfl (by omega)) rfl) ?_
     refine ls (op (p_move rfl) rfl) ?_
     refine ln ?_
     refine nnext ⟨(k + 1, A78, c78), hk1⟩ (by dsimp only; omega) (fun a w h => by dsimp only; rw [fm_take hk1, show comeT U (filesT U ([] : List File) false)[k] = [pAd (filesT U ([] : List File) false)[k]] ++ linesT (filesT U ([] : List File) false)[k] [] (getL U (filesT U ([] : List File) false)[k]) from rfl, ← List.append_assoc, ← List.append_assoc]; exact wk (is := [0, 2, 2, 0, 0]) (by repeat (first | exact subσ.nil _ | refine subσ.cons rfl ?_)) rfl (by repeat' (first | constructor | apply Sub.suf)) a w h)
    ·
     intro h61
     dsimp only at hk
     try simp only [decide_eq_true_eq, decide_eq_false_iff_not, Bool.not_eq_true', Bool.not_eq_false', Int.not_lt, Int.not_le, ge_iff_le, Bool.not_true, Bool.not_false] at h61
     obtain rfl : k = (filesT U ([] : List File) false).length := by omega
     rw [List.take_length]
     refine cexit ?_
     refine xthen ?_
     refine xthen ?_
     refine xblock ?_
     refine nthen ?_
     refine cs ?_
     refine cs ?_
     refine cr ?_
     refine ls (op (p_move rfl) rfl) ?_
     refine ls (op (p_move rfl) rfl) ?_
     refine ls (o_call (is := [1, 1, 1, 1]) Tryz.call79 (c_files p b ([] : List File) p2 b2 U hT hn hU hn2 true) rfl rfl (by repeat' (first | constructor | apply Sub.suf)) rfl) ?_
     refine le ?_; rintro ⟨A82, c82⟩
     refine ls (op (p_lenl rfl Tryz.underlying37) rfl) ?_
     refine ls (op (p_move rfl) rfl) ?_
     refine ln ?_
     refine nthen ?_
     refine cb ?_
     refine cl (ι := {q : Nat × Option Addr × Nat // q.1 ≤ (filesT ([] : List File) U true).length}) (fun i => St M0 F0 w0 108 [(0, .pointer (some ⟨p, 0, none⟩)), (1, .pointer (some ⟨p2, 0, none⟩)), (5, .slice i.1.2.1 (((filesT ([] : List File) U false).flatMap (goneT ([] : List File)) ++ (filesT U ([] : List File) false).flatMap (comeT U)) ++ ((filesT ([] : List File) U true).take (i.1.1)).flatMap (bothT ([] : List File) U)).length i.1.2.2), (82, .slice A82 (filesT ([] : List File) U true).length c82), (83, .int .i64 (((filesT ([] : List File) U true).length : Nat) : Int)), (84, .int .i64 ((i.1.1 : Nat) : Int))] [row 39 (i.1.2.1) (i.1.2.2) (((filesT ([] : List File) U false).flatMap (goneT ([] : List File)) ++ (filesT U ([] : List File) false).flatMap (comeT U)) ++ ((filesT ([] : List File) U true).take (i.1.1)).flatMap (bothT ([] : List File) U)), box p 120 [.map (some b)], tr b [], box p2 120 [.map (some b2)], tr b2 U] [slA A82 (filesT ([] : List File) U true)]) (fun i => (filesT ([] : List File) U true).length - i.1.1) ⟨(0, A5, c5), Nat.zero_le _⟩ ((fun a w h => by dsimp only; rw [List.take_zero, List.flatMap_nil, List.append_nil]; exact wk (is := [4, 0, 0, 0, 0]) (by repeat (first | exact subσ.nil _ | refine subσ.cons rfl ?_)) rfl (by repeat' (first | constructor | apply Sub.suf)) a w h)) ?_
     rintro ⟨⟨k, A5, c5⟩, hk⟩
     refine cmono (S' := St M0 F0 w0 108 [(0, .pointer (some ⟨p, 0, none⟩)), (1, .pointer (some ⟨p2, 0, none⟩)), (5, .slice A5 (((filesT ([] : List File) U false).flatMap (goneT ([] : List File)) ++ (filesT U ([] : List File) false).flatMap (comeT U)) ++ ((filesT ([] : List File) U true).take (k)).flatMap (bothT ([] : List File) U)).length c5), (82, .slice A82 (filesT ([] : List File) U true).length c82), (83, .int .i64 (((filesT ([] : List File) U true).length : Nat) : Int)), (84, .int .i64 ((k : Nat) : Int))] [row 39 (A5) (c5) (((filesT ([] : List File) U false).flatMap (goneT ([] : List File)) ++ (filesT U ([] : List File) false).flatMap (comeT U)) ++ ((filesT ([] : List File) U true).take (k)).flatMap (bothT ([] : List File) U)), box p 120 [.map (some b)], tr b [], box p2 120 [.map (some b2)], tr b2 U] [slA A82 (filesT ([] : List File) U true)]) (fun _ _ h => h) ?_
     refine cs ?_
     refine cr ?_
     refine ls (op (p_icmp rfl rfl rfl) rfl) ?_
     refine ln ?_
     refine nthen ?_
     refine cs ?_
     refine cc rfl ?_ ?_
     ·
      intro h85
      dsimp only at hk
      try simp only [decide_eq_true_eq, decide_eq_false_iff_not, Bool.not_eq_true', Bool.not_eq_false', Int.not_lt, Int.not_le, ge_iff_le, Bool.not_true, Bool.not_false] at h85
      have hk1 : k < (filesT ([] : List File) U true).length := by omega
      have hb1 := fm_len (goneT_len ([] : List File)) (filesT ([] : List File) U false)
      have hb2 := fm_len (comeT_len U) (filesT U ([] : List File) false)
      have hb3 := fm_len (bothT_len ([] : List File) U) ((filesT ([] : List File) U true).take k)
      have hb4 := fm_len (goneT_len ([] : List File)) ((filesT ([] : List File) U false).take k)
      have hb5 := fm_len (comeT_len U) ((filesT U ([] : List File) false).take k)
      have hf1 := filesT_len ([] : List File) U false
      have hf2 := filesT_len U ([] : List File) false
      have hf3 := filesT_len ([] : List File) U true
      have ht1 := List.length_take_le k (filesT ([] : List File) U false)
      have ht2 := List.length_take_le k (filesT U ([] : List File) false)
      have ht3 := List.length_take_le k (filesT ([] : List File) U true)
      refine cskip ?_
      refine nthen ?_
      refine cs ?_
      refine cb ?_
      refine cs ?_
      refine elC (A := A82) (l := filesT ([] : List File) U true) (by repeat' constructor) k (List.getElem?_eq_getElem hk1) ?_; rintro zbp zop zyp hAp
      refine cr ?_
      refine ls (op (p_ia k hAp hk1 rfl Tryz.underlying37 Tryz.sizeOf9 rfl rfl) rfl) ?_
      refine ls (o_ldi Tryz.isAgg9 rfl (by repeat' constructor) 0 rfl (by repeat (first | exact Cut.d | apply Cut.t | apply Cut.s)) rfl) ?_
      refine ls (op (p_asg rfl) rfl) ?_
      refine ln ?_
      refine nthen ?_
      refine cs ?_
      refine cr ?_
      refine ls (op (p_move rfl) rfl) ?_
      refine ls (op (p_move rfl) rfl) ?_
      refine ls (o_call (is := [1, 1]) Tryz.call28 (c_tGet p b ([] : List File) hT (filesT ([] : List File) U true)[k]) rfl rfl (by repeat' (first | constructor | apply Sub.suf)) rfl) ?_
      refine le ?_; rintro ⟨A91, c91⟩
      refine lmono (fun a w h => freezeN (i := 0) rfl h) ?_
      refine lpure (St.cap (m := (getL ([] : List File) (filesT ([] : List File) U true)[k]).length) (c := c91) (by repeat' constructor)) ?_
      intro hcap91
      refine ls (op (p_move rfl) rfl) ?_
      refine ls (op (p_ext rfl (by repeat' constructor)) rfl) ?_
      refine ls (op (p_ext rfl (by repeat' constructor)) rfl) ?_
      refine ls (op (p_asg rfl) rfl) ?_
      refine ls (op (p_asg rfl) rfl) ?_
      refine ln ?_
      refine nthen ?_
      refine cs ?_
      refine cr ?_
      refine ls (op (p_move rfl) rfl) ?_
      refine ls (op (p_move rfl) rfl) ?_
      refine ls (o_call (is := [3, 3]) Tryz.call28 (c_tGet p2 b2 U hU (filesT ([] : List File) U true)[k]) rfl rfl (by repeat' (first | constructor | apply Sub.suf)) rfl) ?_
      refine le ?_; rintro ⟨A97, c97⟩
      refine lmono (fun a w h => freezeN (i := 0) rfl h) ?_
      refine lpure (St.cap (m := (getL U (filesT ([] : List File) U true)[k]).length) (c := c97) (by repeat' constructor)) ?_
      intro hcap97
      refine ls (op (p_move rfl) rfl) ?_
      refine ls (op (p_ext rfl (by repeat' constructor)) rfl) ?_
      refine ls (op (p_ext rfl (by repeat' constructor)) rfl) ?_
      refine ls (op (p_asg rfl) rfl) ?_
      refine ls (op (p_asg rfl) rfl) ?_
      refine ln ?_
      refine nthen ?_
      refine cr ?_
      refine ls (op (p_move rfl) rfl) ?_
      refine ls (op (p_move rfl) rfl) ?_
      refine ls (op (p_move rfl) rfl) ?_
      refine ls (op (p_move rfl) rfl) ?_
      refine ls (o_call (is := []) Tryz.call19 (c_dLines (filesT ([] : List File) U true)[k] (getL ([] : List File) (filesT ([] : List File) U true)[k]) (getL U (filesT ([] : List File) U true)[k]) A91 A97 c91 c97 (by have := hwT (filesT ([] : List File) U true)[k]; omega) (by have := hwU (filesT ([] : List File) U true)[k]; omega) hcap91 hcap97) rfl rfl (by repeat' (first | constructor | apply Sub.suf)) rfl) ?_
      refine le ?_; rintro ⟨A104, c104⟩
      refine lmono (fun a w h => freezeN (i := 0) rfl h) ?_
      refine lpure (St.nil (y := (A104, c104)) (by repeat' constructor)) ?_
      intro hn104
      refine ls (o_app (is := [4]) Tryz.underlying29 inf39 rfl (by decide) (by decide) rfl rfl (by (try simp only [List.length_append, List.length_cons, List.length_nil]); have hll := linesT_len ((filesT ([] : List File) U true)[k]) (getL ([] : List File) (filesT ([] : List File) U true)[k]) (getL U (filesT ([] : List File) U true)[k]); omega) (fun _ h => hn104 h) rfl (by repeat' (first | constructor | apply Sub.suf)) rfl) ?_
      refine le ?_; rintro ⟨A105, c105⟩
      refine ls (op (p_asg rfl) rfl) ?_
      refine ln ?_
      refine nblock ?_
      refine nthen ?_
      refine cr ?_
      refine ls (op (p_add rfl rfl (by omega)) rfl) ?_
      refine ls (op (p_move rfl) rfl) ?_
      refine ln ?_
      refine nnext ⟨(k + 1, A105, c105), hk1⟩ (by dsimp only; omega) (fun a w h => by dsimp only; rw [fm_take hk1, show bothT ([] : List File) U (filesT ([] : List File) U true)[k] = linesT (filesT ([] : List File) U true)[k] (getL ([] : List File) (filesT ([] : List File) U true)[k]) (getL U (filesT ([] : List File) U true)[k]) from rfl, ← List.append_assoc]; exact wk (is := [0, 2, 2, 0, 0]) (by repeat (first | exact subσ.nil _ | refine subσ.cons rfl ?_)) rfl (by repeat' (first | constructor | apply Sub.suf)) a w h)
     ·
      intro h85
      dsimp only at hk
      try simp only [decide_eq_true_eq, decide_eq_false_iff_not, Bool.not_eq_true', Bool.not_eq_false', Int.not_lt, Int.not_le, ge_iff_le, Bool.not_true, Bool.not_false] at h85
      obtain rfl : k = (filesT ([] : List File) U true).length := by omega
      rw [List.take_length]
      refine cexit ?_
      refine xthen ?_
      refine xthen ?_
      refine xblock ?_
      refine nthen ?_
      refine cs ?_
      refine cmono (fun a w h => rowEq (α := Prim) (by repeat' constructor) ((treesT_no hw).symm) (by repeat' constructor) h) ?_
      refine cr ?_
      refine ls (op (p_move rfl) rfl) ?_
      refine ls (op (p_asg rfl) rfl) ?_
      refine ln ?_
      refine nthen ?_
      refine cret ?_
      refine xret (fun _ _ h => h) ?_
      refine rret (is := [0, 2, 2]) (A5, c5) (Or.inl rfl) (Res.t rfl Res.d) ?_ rfl (by repeat' (first | constructor | apply Sub.suf))
      rw [treesT_no hw]; rfl

end Go.Proofs.YtdbiillompeclaaGreatDoor.X

end
section
set_option linter.unusedVariables false
set_option linter.unusedSimpArgs false
namespace Go.Proofs.YtdbiillompeclaaGreatDoor.X
open Go Go.RowKit Go.Proofs Go.Sx
/-! Law 06: what its laws say of it. -/
def few6 (l m : List ByteArray) : Bool := decide ((l.length : Int) ≤ 40) && decide ((m.length : Int) ≤ 40) && decide (((sizes l + sizes m : Nat) : Int) ≤ 4000)
theorem few6_yes {l m : List ByteArray} (h : few6 l m = true) : l.length ≤ 40 ∧ m.length ≤ 40 ∧ sizes l + sizes m ≤ 4000 := by
  unfold few6 at h
  simp only [Bool.and_eq_true, decide_eq_true_eq] at h
  omega
theorem few6_long {l m : List ByteArray} (h : few6 l m = true) : longB l m = false ∧ longB m l = false ∧ longB l l = false := by
  have := few6_yes h
  exact ⟨longB_two (by omega) (by omega), longB_two (by omega) (by omega), longB_two (by omega) (by omega)⟩
def sz2 (l m : List ByteArray) (k : Nat) : Nat := (([l, m].take k).map sizes).sum
theorem two_at {l m : List ByteArray} {k : Nat} (hk : k < 2) : ∃ r, [l, m][k]? = some r ∧ sz2 l m (k + 1) = sz2 l m k + sizes r ∧ r.length ≤ l.length + m.length ∧ sz2 l m (k + 1) ≤ sizes l + sizes m := by
  unfold sz2
  rcases k with _ | _ | k
  · exact ⟨l, rfl, by simp, by omega, by simp⟩
  · exact ⟨m, rfl, by simp, by omega, by simp⟩
  · omega
theorem sz2_all (l m : List ByteArray) : sz2 l m 2 = sizes l + sizes m := by simp [sz2]
/-! one line that is another one -/
theorem al6_comm : commF [⟨#[120]⟩, ⟨#[121]⟩, ⟨#[122]⟩] [⟨#[120]⟩, ⟨#[113]⟩, ⟨#[122]⟩] = [(0, 0), (2, 2)] := by
  refine (Comm.eq (l := [(0, 0), (2, 2)]) ⟨3, 3, ?_, by kernel_rfl⟩).symm
  have h1 : Chain [⟨#[120]⟩, ⟨#[121]⟩, ⟨#[122]⟩] [⟨#[120]⟩, ⟨#[113]⟩, ⟨#[122]⟩] ([] ++ [(0, 0)]) (0 + 1) (0 + 1) := by
    refine .snoc .nil (of_decide_eq_true (by kernel_rfl)) ⟨⟨Nat.le_refl _, Nat.le_refl _, by decide, by decide, rfl, rfl⟩, fun x' y' c => ?_⟩
    rcases Nat.eq_zero_or_pos x' with h | h
    · exact .inr ⟨h.symm, Nat.zero_le _⟩
    · exact .inl h
  have h2 : Chain [⟨#[120]⟩, ⟨#[121]⟩, ⟨#[122]⟩] [⟨#[120]⟩, ⟨#[113]⟩, ⟨#[122]⟩] (([] ++ [(0, 0)]) ++ [(2, 2)]) (2 + 1) (2 + 1) := by
    refine .snoc h1 (of_decide_eq_true (by kernel_rfl)) ⟨⟨by decide, by decide, by decide, by decide, rfl, by kernel_rfl⟩, fun x' y' c => ?_⟩
    obtain ⟨c1, c2, c3, c4, c5, _⟩ := c
    have c3' : x' < 3 := c3
    have c4' : y' < 3 := c4
    have hx : x' = 1 ∨ x' = 2 := by omega
    have hy : y' = 1 ∨ y' = 2 := by omega
    rcases hx with rfl | rfl <;> rcases hy with rfl | rfl
    · exact absurd c5 (of_decide_eq_false (by kernel_rfl))
    · exact absurd c5 (of_decide_eq_false (by kernel_rfl))
    · exact absurd c5 (of_decide_eq_false (by kernel_rfl))
    · exact .inr ⟨rfl, Nat.le_refl _⟩
  exact h2
def al6p : Prim := ⟨0, ⟨#[97]⟩, e0, 1, [⟨#[121]⟩], [⟨#[113]⟩]⟩
theorem al6_lines : linesT ⟨#[97]⟩ [⟨#[120]⟩, ⟨#[121]⟩, ⟨#[122]⟩] [⟨#[120]⟩, ⟨#[113]⟩, ⟨#[122]⟩] = [al6p] := by
  rw [linesT_not (by kernel_rfl), al6_comm]
  kernel_rfl
theorem comm_nil : commF [] [] = [] := (Comm.eq (l := []) ⟨0, 0, .nil, rfl⟩).symm
theorem lines_nil (nm : ByteArray) : linesT nm [] [] = [] := by
  rw [linesT_not (by rfl), comm_nil]
  rfl
theorem al6_trees : treesT [] [(⟨#[110]⟩, [])] = [pAd ⟨#[110]⟩] := by
  rw [treesT_no (by kernel_rfl)]
  have h1 : filesT [] [((⟨#[110]⟩ : ByteArray), ([] : List ByteArray))] false = [] := rfl
  have h2 : filesT [((⟨#[110]⟩ : ByteArray), ([] : List ByteArray))] [] false = [⟨#[110]⟩] := by kernel_rfl
  have h3 : filesT [] [((⟨#[110]⟩ : ByteArray), ([] : List ByteArray))] true = [] := rfl
  rw [h1, h2, h3]
  have h4 : getL [((⟨#[110]⟩ : ByteArray), ([] : List ByteArray))] ⟨#[110]⟩ = [] := by kernel_rfl
  simp only [List.flatMap_nil, List.flatMap_cons, List.nil_append, List.append_nil, comeT, h4, lines_nil]
theorem al6_add : tAdd [] ⟨#[110]⟩ = ([(⟨#[110]⟩, [])], 0) := by kernel_rfl
theorem al6_sor : Sor [((⟨#[110]⟩ : ByteArray), ([] : List ByteArray))] := List.pairwise_singleton _ _
/-! the laws -/
theorem cost_lines {nm : ByteArray} {l m : List ByteArray} (h : longB l m = false) : costL (linesT nm l m) + 2 * lcs l m = l.length + m.length := by
  rw [linesT_not h]; exact comm_cost (commF_spec l m)
theorem cost_turn {nm : ByteArray} {l m : List ByteArray} (h : longB l m = false) (h' : longB m l = false) : costL (linesT nm l m) = costL (linesT nm m l) := by
  have h1 := cost_lines (nm := nm) h
  have h2 := cost_lines (nm := nm) h'
  rw [lcs_comm m l] at h2
  omega
theorem lines_same {nm : ByteArray} {l : List ByteArray} (h : longB l l = false) : linesT nm l l = [] := by
  rw [linesT_not h]; exact comm_same (commF_spec l l)
theorem lines_cost_le {nm : ByteArray} {l m : List ByteArray} : costL (linesT nm l m) ≤ l.length + m.length := by
  cases h : longB l m with
  | true => rw [linesT_long h]; exact Nat.zero_le _
  | false => have := cost_lines (nm := nm) h; omega
theorem comm_at {l m : List ByteArray} {k : Nat} (hk : k < (commF l m).length) : ∃ (h1 : ((commF l m)[k]).1 < l.length) (h2 : ((commF l m)[k]).2 < m.length), l[((commF l m)[k]).1] = m[((commF l m)[k]).2] := by
  obtain ⟨i, j, h1, _⟩ := commF_spec l m
  exact (h1.at.1 _ (List.getElem_mem hk)).2.2
theorem comm_up {l m : List ByteArray} {k : Nat} (hk : k + 1 < (commF l m).length) : ((commF l m)[k]).1 < ((commF l m)[k + 1]).1 ∧ ((commF l m)[k]).2 < ((commF l m)[k + 1]).2 := by
  obtain ⟨i, j, h1, _⟩ := commF_spec l m
  exact List.pairwise_iff_getElem.1 h1.at.2 k (k + 1) (by omega) hk (Nat.lt_succ_self _)
theorem lcs_rep (s : ByteArray) : ∀ (n : Nat), lcs (List.replicate n s) [s] = min n 1
  | 0 => rfl
  | n + 1 => by
    rw [List.replicate_succ, lcs_cons, if_pos rfl, lcs_nilr]
    omega
theorem cost_rep {nm : ByteArray} {s : ByteArray} {n : Nat} (h : n ≤ 200) : costL (linesT nm (List.replicate n s) []) = n := by
  have := cost_lines (nm := nm) (l := List.replicate n s) (m := []) (longB_nilr (by simpa using h))
  rw [lcs_nilr] at this
  simpa using this
theorem lines_swap {nm : ByteArray} {l m : List ByteArray} {u v : Nat} (h : longB l m = false) (hn : nameOk nm = true) (ha : l.all lineOk = true) (hb : m.all lineOk = true) (huv : u < v) (hv : v < (linesT nm l m).length) :
    Go.Sx.swap ((linesT nm l m)[u]'(by omega)) (linesT nm l m)[v] = ({ (linesT nm l m)[v] with pos := ((linesT nm l m)[v]).pos - ((((linesT nm l m)[u]'(by omega)).new.length : Int) - ((linesT nm l m)[u]'(by omega)).old.length) }, (linesT nm l m)[u]'(by omega), true) := by
  have h1 := longB_no h
  have h2 : Hks nm l m (linesT nm l m) (l.length + 1) (m.length + 1) := by rw [linesT_not h]; exact comm_hks (commF_spec l m)
  exact h2.swap hn ha hb (by omega) (by omega) huv hv
theorem lines_fit {nm : ByteArray} {l m : List ByteArray} (h : longB l m = false) (hn : nm.size ≤ 2000000) (hl : ∀ s ∈ l, s.size ≤ 2000000) (hm : ∀ s ∈ m, s.size ≤ 2000000) : ∀ p ∈ linesT nm l m, p.fit := by
  have h1 := longB_no h
  have h2 : Hks nm l m (linesT nm l m) (l.length + 1) (m.length + 1) := by rw [linesT_not h]; exact comm_hks (commF_spec l m)
  intro p hp
  obtain ⟨i, k, x, y, _, _, rfl, _⟩ := h2.at_ p hp
  refine ⟨?_, ?_, hn, (Nat.zero_le 2000000 : (hunkP nm l m (i, k) (x, y)).to.size ≤ 2000000), fun s hs => hl s (List.mem_of_mem_drop (List.mem_of_mem_take hs)), fun s hs => hm s (List.mem_of_mem_drop (List.mem_of_mem_take hs))⟩
  · unfold hunkP; simp only [List.length_take, List.length_drop]; omega
  · unfold hunkP; simp only [List.length_take, List.length_drop]; omega
theorem sizes_in {l : List ByteArray} {s : ByteArray} (h : s ∈ l) : s.size ≤ sizes l := sizes_mem1 h
end Go.Proofs.YtdbiillompeclaaGreatDoor.X

end
section
set_option linter.unusedVariables false
set_option linter.unusedSimpArgs false
namespace Go.Proofs.YtdbiillompeclaaGreatDoor.X
open Go Go.RowKit Go.Proofs Go.Sx
attribute [local irreducible] slA isA box row
def mv6 (p q : Prim) : Prim := { q with pos := q.pos - ((p.new.length : Int) - p.old.length) }
theorem rep_set {k n : Nat} {s : ByteArray} (h : k < n) : (List.replicate k s ++ List.replicate (n - k) (⟨#[]⟩ : ByteArray)).set k s = List.replicate (k + 1) s ++ List.replicate (n - (k + 1)) ⟨#[]⟩ := by
 rw [List.set_append_right _ _ (by simp), List.length_replicate, Nat.sub_self, show n - k = (n - (k + 1)) + 1 by omega, List.replicate_succ, List.set_cons_zero, List.replicate_succ', List.append_assoc]
 rfl
theorem rep_done (k : Nat) (s : ByteArray) : List.replicate k s ++ List.replicate (k - k) (⟨#[]⟩ : ByteArray) = List.replicate k s := by simp
theorem al6_fit : Tfit [((⟨#[110]⟩ : ByteArray), ([] : List ByteArray))] := fun x hx => by rw [List.mem_singleton.1 hx]; exact Nat.zero_le _


set_option maxRecDepth 100000 in
theorem c_few06 (l m : List ByteArray) (A B : Option Addr) (c c' : Nat) (hA : A = none → c = 0) (hB : B = none → c' = 0) (hc : l.length ≤ c) (hc' : m.length ≤ c') (hl : l.length ≤ 1048576) (hm : m.length ≤ 1048576) (hs : sizes l + sizes m ≤ 1000000000000) : Con Tryz.prog 17 [.slice A l.length c, .slice B m.length c'] [] [slA A l, slA B m] Unit (fun _ => .bool (few6 l m)) (fun _ => []) (fun _ => []) := by
 refine con Tryz.func17 rfl Tryz.ntmps17 rfl ?_
 intro M0 F0 w0
 refine cs ?_
 refine cr ?_
 refine ls (op (p_asg rfl) rfl) ?_
 refine ln ?_
 refine nthen ?_
 refine cs ?_
 refine cr ?_
 refine ls (op (p_asg rfl) rfl) ?_
 refine ln ?_
 refine nthen ?_
 refine cs ?_
 refine cs ?_
 refine cmono (fun a w h => nilQ (y := (B, c')) hB h) ?_
 refine cmono (fun a w h => nilQ (y := (A, c)) hA h) ?_
 refine cr ?_
 refine ls (op (p_move rfl) rfl) ?_
 refine ls (op (p_move rfl) rfl) ?_
 refine ls (o_bsl [l, m] Tryz.underlying107 Tryz.sizeOf37 Tryz.zeroValue37 rfl (Enum.t (Enum.t Enum.d)) (RV.t (A, c) rfl (by repeat' (first | constructor | apply Sub.suf)) (RV.t (B, c') rfl (by repeat' (first | constructor | apply Sub.suf)) RV.d)) rfl (by decide) (by decide) rfl) ?_
 refine le ?_; intro b12
 refine lmono (fun a w h => Go.Sx.freeze (i := 0) rfl h) ?_
 refine ls (op (p_lenl rfl Tryz.underlying107) rfl) ?_
 refine ls (op (p_move rfl) rfl) ?_
 refine ln ?_
 refine nthen ?_
 refine cb ?_
 refine cl (ι := {q : Nat × Int // q.1 ≤ 2 ∧ q.2 = ((sz2 l m q.1 : Nat) : Int)}) (fun i => St M0 F0 w0 42 [(0, .slice A l.length c), (1, .slice B m.length c'), (5, .int .i64 i.1.2), (12, .slice (some ⟨b12, 0, none⟩) (([l, m] : List (List ByteArray)).length : Nat) (([l, m] : List (List ByteArray)).length : Nat)), (13, .int .i64 ((([l, m] : List (List ByteArray)).length : Nat) : Int)), (14, .int .i64 ((i.1.1 : Nat) : Int))] [] [slA A l, slA B m, slA (some ⟨b12, 0, none⟩) [l, m]]) (fun i => 2 - i.1.1) ⟨(0, 0), Nat.zero_le _, rfl⟩ (wk0 (by repeat (first | exact subσ.nil _ | refine subσ.cons rfl ?_)) (by repeat' (first | constructor | apply Sub.suf))) ?_
 rintro ⟨⟨k, n⟩, hk, hn⟩
 refine cmono (S' := St M0 F0 w0 42 [(0, .slice A l.length c), (1, .slice B m.length c'), (5, .int .i64 n), (12, .slice (some ⟨b12, 0, none⟩) (([l, m] : List (List ByteArray)).length : Nat) (([l, m] : List (List ByteArray)).length : Nat)), (13, .int .i64 ((([l, m] : List (List ByteArray)).length : Nat) : Int)), (14, .int .i64 ((k : Nat) : Int))] [] [slA A l, slA B m, slA (some ⟨b12, 0, none⟩) [l, m]]) (fun _ _ h => h) ?_
 refine cs ?_
 refine cr ?_
 refine ls (op (p_icmp rfl rfl rfl) rfl) ?_
 refine ln ?_
 refine nthen ?_
 refine cs ?_
 refine cc rfl ?_ ?_
 ·
  intro h15
  dsimp only at hk hn
  have hk1 : k < 2 := by have h := h15; simp at h; omega
  obtain ⟨r, hr, hr1, hr2, hr3⟩ := two_at (l := l) (m := m) hk1
  refine cskip ?_
  refine nthen ?_
  refine cs ?_
  refine cb ?_
  refine cs ?_
  refine elC (A := some ⟨b12, 0, none⟩) (l := [l, m]) (by repeat' constructor) k hr ?_; rintro zbp zop zyp hAp
  refine cr ?_
  refine ls (op (p_ia k hAp (show k < 2 from hk1) rfl Tryz.underlying107 Tryz.sizeOf37 rfl rfl) rfl) ?_
  refine ls (o_ldi Tryz.isAgg37 rfl (by repeat' constructor) 0 rfl (by repeat (first | exact Cut.d | apply Cut.t | apply Cut.s)) rfl) ?_
  refine ls (op (p_asg rfl) rfl) ?_
  refine ln ?_
  refine nthen ?_
  refine cs ?_
  refine cr ?_
  refine ls (op (p_move rfl) rfl) ?_
  refine ls (op (p_lenl rfl Tryz.underlying37) rfl) ?_
  refine ls (op (p_move rfl) rfl) ?_
  refine ln ?_
  refine nthen ?_
  refine cb ?_
  refine cl (ι := {q : Nat × Int // q.1 ≤ r.length ∧ q.2 = n + ((sizes (r.take q.1) : Nat) : Int)}) (fun i => St M0 F0 w0 42 [(0, .slice A l.length c), (1, .slice B m.length c'), (5, .int .i64 i.1.2), (12, .slice (some ⟨b12, 0, none⟩) (([l, m] : List (List ByteArray)).length : Nat) (([l, m] : List (List ByteArray)).length : Nat)), (13, .int .i64 ((([l, m] : List (List ByteArray)).length : Nat) : Int)), (14, .int .i64 ((k : Nat) : Int)), (18, .slice zyp.1 r.length zyp.2), (19, .int .i64 ((r.length : Nat) : Int)), (20, .int .i64 ((i.1.1 : Nat) : Int))] [] [slA zyp.1 r, slA A l, slA B m, slA (some ⟨b12, 0, none⟩) [l, m]]) (fun i => r.length - i.1.1) ⟨(0, n), Nat.zero_le _, by simp [sizes]⟩ (wk0 (by repeat (first | exact subσ.nil _ | refine subσ.cons rfl ?_)) (by repeat' (first | constructor | apply Sub.suf))) ?_
  rintro ⟨⟨j, u⟩, hj, hu⟩
  refine cmono (S' := St M0 F0 w0 42 [(0, .slice A l.length c), (1, .slice B m.length c'), (5, .int .i64 u), (12, .slice (some ⟨b12, 0, none⟩) (([l, m] : List (List ByteArray)).length : Nat) (([l, m] : List (List ByteArray)).length : Nat)), (13, .int .i64 ((([l, m] : List (List ByteArray)).length : Nat) : Int)), (14, .int .i64 ((k : Nat) : Int)), (18, .slice zyp.1 r.length zyp.2), (19, .int .i64 ((r.length : Nat) : Int)), (20, .int .i64 ((j : Nat) : Int))] [] [slA zyp.1 r, slA A l, slA B m, slA (some ⟨b12, 0, none⟩) [l, m]]) (fun _ _ h => h) ?_
  refine cs ?_
  refine cr ?_
  refine ls (op (p_icmp rfl rfl rfl) rfl) ?_
  refine ln ?_
  refine nthen ?_
  refine cs ?_
  refine cc rfl ?_ ?_
  ·
   intro h21
   dsimp only at hj hu
   try simp only [decide_eq_true_eq, decide_eq_false_iff_not, Bool.not_eq_true', Bool.not_eq_false', Int.not_lt, Int.not_le, ge_iff_le, Bool.not_true, Bool.not_false] at h21
   have hj1 : j < r.length := by omega
   have ej1 := sizes_succ hj1
   have ej2 := sizes_le r (j + 1)
   refine cskip ?_
   refine nthen ?_
   refine cs ?_
   refine cb ?_
   refine cs ?_
   refine elC (A := zyp.1) (l := r) (by repeat' constructor) j (List.getElem?_eq_getElem hj1) ?_; rintro zbq zoq zyq hAq
   refine cr ?_
   refine ls (op (p_ia j hAq hj1 rfl Tryz.underlying37 Tryz.sizeOf9 rfl rfl) rfl) ?_
   refine ls (o_ldi Tryz.isAgg9 rfl (by repeat' constructor) 0 rfl (by repeat (first | exact Cut.d | apply Cut.t | apply Cut.s)) rfl) ?_
   refine ls (op (p_asg rfl) rfl) ?_
   refine ln ?_
   refine nthen ?_
   refine cr ?_
   refine ls (op (p_move rfl) rfl) ?_
   refine ls (op (p_move rfl) rfl) ?_
   refine ls (op (p_lens rfl Tryz.underlying9) rfl) ?_
   refine ls (op (p_add rfl rfl (by omega)) rfl) ?_
   refine ls (op (p_asg rfl) rfl) ?_
   refine ln ?_
   refine nblock ?_
   refine nthen ?_
   refine cr ?_
   refine ls (op (p_add rfl rfl (by omega)) rfl) ?_
   refine ls (op (p_move rfl) rfl) ?_
   refine ln ?_
   refine nnext ⟨(j + 1, u + (r[j].size : Int)), hj1, by dsimp only; omega⟩ (by dsimp only; omega) (wk (is := []) (by repeat (first | exact subσ.nil _ | refine subσ.cons rfl ?_)) rfl (by repeat' (first | constructor | apply Sub.suf)))
  ·
   intro h21
   dsimp only at hj hu
   try simp only [decide_eq_true_eq, decide_eq_false_iff_not, Bool.not_eq_true', Bool.not_eq_false', Int.not_lt, Int.not_le, ge_iff_le, Bool.not_true, Bool.not_false] at h21
   rw [List.take_of_length_le (by omega)] at hu
   refine cexit ?_
   refine xthen ?_
   refine xthen ?_
   refine xblock ?_
   refine nblock ?_
   refine nthen ?_
   refine cr ?_
   refine ls (op (p_add rfl rfl (by omega)) rfl) ?_
   refine ls (op (p_move rfl) rfl) ?_
   refine ln ?_
   refine nnext ⟨(k + 1, u), hk1, by dsimp only; omega⟩ (by dsimp only; omega) (wk (is := []) (by repeat (first | exact subσ.nil _ | refine subσ.cons rfl ?_)) rfl (by repeat' (first | constructor | apply Sub.suf)))
 ·
  intro h15
  dsimp only at hk hn
  obtain rfl : k = 2 := by have h := h15; simp at h; omega
  rw [sz2_all] at hn
  refine cexit ?_
  refine xthen ?_
  refine xthen ?_
  refine xblock ?_
  refine nthen ?_
  refine cs ?_
  refine cr ?_
  refine ls (op (p_move rfl) rfl) ?_
  refine ls (op (p_lenl rfl Tryz.underlying37) rfl) ?_
  refine ls (op (p_icmp rfl rfl rfl) rfl) ?_
  refine ls (op (p_move rfl) rfl) ?_
  refine andX 4 33 37 rfl (subσ.cons (t := 0) rfl (subσ.cons (t := 1) rfl (subσ.cons (t := 5) rfl (subσ.cons (t := 12) rfl (subσ.cons (t := 13) rfl (subσ.cons (t := 14) rfl (subσ.cons (t := 15) rfl (subσ.nil _)))))))) ?_ ?_
  ·
   intro h33
   refine lskip rfl rfl rfl rfl rfl ?_
   refine lskip rfl rfl rfl rfl rfl ?_
   refine lskip rfl rfl rfl rfl rfl ?_
   refine ls (op (p_pickf rfl rfl) rfl) ?_
   refine ln (nmid (wk0 (by repeat (first | exact subσ.nil _ | refine subσ.cons rfl ?_)) (by repeat' (first | constructor | apply Sub.suf))))
  apply exI
  ·
   intro h33
   refine lwant rfl rfl rfl rfl (op (p_move rfl) rfl) ?_
   refine lwant rfl rfl rfl rfl (op (p_lenl rfl Tryz.underlying37) rfl) ?_
   refine lwant rfl rfl rfl rfl (op (p_icmp rfl rfl rfl) rfl) ?_
   refine ls (op (p_pickt rfl rfl) rfl) ?_
   refine ln (nmid (wk0 (by repeat (first | exact subσ.nil _ | refine subσ.cons rfl ?_)) (by repeat' (first | constructor | apply Sub.suf))))
  ·
   refine ls (op (p_move rfl) rfl) ?_
   refine andX 3 38 41 rfl (subσ.cons (t := 0) rfl (subσ.cons (t := 1) rfl (subσ.cons (t := 5) rfl (subσ.cons (t := 12) rfl (subσ.cons (t := 13) rfl (subσ.cons (t := 14) rfl (subσ.cons (t := 15) rfl (subσ.nil _)))))))) ?_ ?_
   ·
    intro h38
    refine lskip rfl rfl rfl rfl rfl ?_
    refine lskip rfl rfl rfl rfl rfl ?_
    refine ls (op (p_pickf rfl rfl) rfl) ?_
    refine ln (nmid (wk0 (by repeat (first | exact subσ.nil _ | refine subσ.cons rfl ?_)) (by repeat' (first | constructor | apply Sub.suf))))
   apply exI
   ·
    intro h38
    refine lwant rfl rfl rfl rfl (op (p_move rfl) rfl) ?_
    refine lwant rfl rfl rfl rfl (op (p_icmp rfl rfl rfl) rfl) ?_
    refine ls (op (p_pickt rfl rfl) rfl) ?_
    refine ln (nmid (wk0 (by repeat (first | exact subσ.nil _ | refine subσ.cons rfl ?_)) (by repeat' (first | constructor | apply Sub.suf))))
   ·
    refine ls (op (p_asg rfl) rfl) ?_
    refine ln ?_
    refine nthen ?_
    refine cret ?_
    refine xret (fun _ _ h => h) ?_
    refine rret (is := []) () (Or.inl rfl) (Res.t rfl Res.d) ?_ rfl (by repeat' (first | constructor | apply Sub.suf))
    rw [hn]; rfl

set_option maxRecDepth 100000 in
theorem c_alive06 : Con Tryz.prog 18 [] [] [] Unit (fun _ => .bool (true)) (fun _ => []) (fun _ => []) := by
 refine con Tryz.func18 rfl Tryz.ntmps18 rfl ?_
 intro M0 F0 w0
 refine cs ?_
 refine cr ?_
 refine ls (op (p_asg rfl) rfl) ?_
 refine ln ?_
 refine nthen ?_
 refine cs ?_
 refine cr ?_
 refine ls (o_bsl [(⟨#[120]⟩ : ByteArray), (⟨#[121]⟩ : ByteArray), (⟨#[122]⟩ : ByteArray)] Tryz.underlying37 Tryz.sizeOf9 Tryz.zeroValue9 rfl (Enum.t (Enum.t (Enum.t Enum.d))) (RV.t () rfl (by repeat' (first | constructor | apply Sub.suf)) (RV.t () rfl (by repeat' (first | constructor | apply Sub.suf)) (RV.t () rfl (by repeat' (first | constructor | apply Sub.suf)) RV.d))) rfl (by decide) (by decide) rfl) ?_
 refine le ?_; intro b7
 refine lmono (fun a w h => Go.Sx.freeze (i := 0) rfl h) ?_
 refine ls (o_bsl [(⟨#[120]⟩ : ByteArray), (⟨#[113]⟩ : ByteArray), (⟨#[122]⟩ : ByteArray)] Tryz.underlying37 Tryz.sizeOf9 Tryz.zeroValue9 rfl (Enum.t (Enum.t (Enum.t Enum.d))) (RV.t () rfl (by repeat' (first | constructor | apply Sub.suf)) (RV.t () rfl (by repeat' (first | constructor | apply Sub.suf)) (RV.t () rfl (by repeat' (first | constructor | apply Sub.suf)) RV.d))) rfl (by decide) (by decide) rfl) ?_
 refine le ?_; intro b8
 refine lmono (fun a w h => Go.Sx.freeze (i := 0) rfl h) ?_
 refine ls (op (p_asg rfl) rfl) ?_
 refine ls (op (p_asg rfl) rfl) ?_
 refine ln ?_
 refine nthen ?_
 refine cs ?_
 refine cr ?_
 refine ls (op (p_move rfl) rfl) ?_
 refine ls (op (p_move rfl) rfl) ?_
 refine ls (o_call (is := []) Tryz.call19 (c_dLines (⟨#[97]⟩ : ByteArray) [(⟨#[120]⟩ : ByteArray), (⟨#[121]⟩ : ByteArray), (⟨#[122]⟩ : ByteArray)] [(⟨#[120]⟩ : ByteArray), (⟨#[113]⟩ : ByteArray), (⟨#[122]⟩ : ByteArray)] (some ⟨b7, 0, none⟩) (some ⟨b8, 0, none⟩) 3 3 (by decide) (by decide) (by decide) (by decide)) rfl rfl (by repeat' (first | constructor | apply Sub.suf)) rfl) ?_
 refine le ?_; rintro ⟨A11, c11⟩
 refine lmono (fun a w h => rowEq (α := Prim) (by repeat' constructor) al6_lines (by repeat' constructor) h) ?_
 refine lmono (fun a w h => Go.Sx.freeze (i := 0) rfl h) ?_
 refine fixL (slen (m' := [al6p].length) (congrArg List.length al6_lines)) ?_
 refine ls (op (p_asg rfl) rfl) ?_
 refine ln ?_
 refine nthen ?_
 refine cs ?_
 refine cr ?_
 refine ls (op (p_move rfl) rfl) ?_
 refine ls (op (p_move rfl) rfl) ?_
 refine ls (o_call (is := []) Tryz.call66 (c_dCommon [(⟨#[120]⟩ : ByteArray), (⟨#[121]⟩ : ByteArray), (⟨#[122]⟩ : ByteArray)] [(⟨#[120]⟩ : ByteArray), (⟨#[113]⟩ : ByteArray), (⟨#[122]⟩ : ByteArray)] (some ⟨b7, 0, none⟩) (some ⟨b8, 0, none⟩) 3 3 (by decide) (by decide)) rfl rfl (by repeat' (first | constructor | apply Sub.suf)) rfl) ?_
 refine le ?_; rintro ⟨⟨o, ⟨A14, c14⟩⟩, hq1, hq2⟩
 dsimp only at hq1 hq2
 obtain rfl : o = [(0, 0), (2, 2)] := (hq2 (by kernel_rfl)).eq.trans al6_comm
 refine lmono (fun a w h => Go.Sx.freeze (i := 0) rfl h) ?_
 refine ls (op (p_asg rfl) rfl) ?_
 refine ln ?_
 refine nthen ?_
 refine cs ?_
 refine cr ?_
 refine ls (o_call (is := []) Tryz.call23 (c_tNew) rfl rfl (by repeat' (first | constructor | apply Sub.suf)) rfl) ?_
 refine le ?_; rintro ⟨p, b⟩
 refine ls (op (p_asg rfl) rfl) ?_
 refine ln ?_
 refine nthen ?_
 refine cs ?_
 refine cs ?_
 refine cr ?_
 refine ls (op (p_move rfl) rfl) ?_
 refine ls (op (p_ptrnil Tryz.underlying47 rfl rfl) rfl) ?_
 refine ln ?_
 refine nthen ?_
 refine cc rfl (fun h => by cases h) (fun h => ?_)
 refine cskip ?_
 refine nthen ?_
 refine cs ?_
 refine cr ?_
 refine ls (op (p_move rfl) rfl) ?_
 refine ls (o_call (is := [0, 0]) Tryz.call25 (c_tAdd p b [] (⟨#[110]⟩ : ByteArray)) rfl rfl (by repeat' (first | constructor | apply Sub.suf)) rfl) ?_
 refine le ?_; rintro ⟨⟨T1, e1⟩, hq⟩
 try dsimp only at hq
 obtain ⟨rfl, rfl⟩ := Prod.mk.inj (al6_add.symm.trans hq.symm)
 refine ln ?_
 refine nthen ?_
 refine cs ?_
 refine cr ?_
 refine ls (op (p_move rfl) rfl) ?_
 refine ls (o_call (is := [0, 0]) Tryz.call34 (c_dTreesN p b [((⟨#[110]⟩ : ByteArray), ([] : List ByteArray))] al6_fit (by decide) al6_sor) rfl rfl (by repeat' (first | constructor | apply Sub.suf)) rfl) ?_
 refine le ?_; rintro ⟨A21, c21⟩
 refine lmono (fun a w h => rowEq (α := Prim) (by repeat' constructor) al6_trees (by repeat' constructor) h) ?_
 refine lmono (fun a w h => Go.Sx.freeze (i := 0) rfl h) ?_
 refine fixL (slen (m' := [pAd (⟨#[110]⟩ : ByteArray)].length) (congrArg List.length al6_trees)) ?_
 refine ls (op (p_asg rfl) rfl) ?_
 refine ln ?_
 refine nthen ?_
 refine cs ?_
 refine elC (A := A11) (l := [al6p]) (by repeat' constructor) 0 (rfl) ?_; rintro zbl zol zyl hAl
 refine elC (A := zyl.1.1) (l := [(⟨#[121]⟩ : ByteArray)]) (by repeat' constructor) 0 (rfl) ?_; rintro zbo zoo zyo hAo
 refine elC (A := zyl.2.1) (l := [(⟨#[113]⟩ : ByteArray)]) (by repeat' constructor) 0 (rfl) ?_; rintro zbn zon zyn hAn
 refine elC (A := A14) (l := ([(0, 0), (2, 2)] : List (Nat × Nat))) (by repeat' constructor) 1 (rfl) ?_; rintro zbc zoc zyc hAc
 refine elC (A := A21) (l := [pAd (⟨#[110]⟩ : ByteArray)]) (by repeat' constructor) 0 (rfl) ?_; rintro zbm zom zym hAm
 refine cr ?_
 refine ls (op (p_move rfl) rfl) ?_
 refine ls (op (p_lenl rfl Tryz.underlying29) rfl) ?_
 refine ls (op (p_icmp rfl rfl rfl) rfl) ?_
 refine fixL (congrArg Value.bool (decide_eq_true rfl)) ?_
 refine ls (op (p_move rfl) rfl) ?_
 refine lwant rfl rfl rfl rfl (op (p_move rfl) rfl) ?_
 refine lwant rfl rfl rfl rfl (op (p_ia 0 hAl (by decide) rfl Tryz.underlying29 Tryz.sizeOf39 rfl rfl) rfl) ?_
 refine lwant rfl rfl rfl rfl (op (p_fa fa39_3 rfl) rfl) ?_
 refine lwant rfl rfl rfl rfl (o_ldi Tryz.isAgg3 rfl (by repeat' constructor) 3 rfl (by repeat (first | exact Cut.d | apply Cut.t | apply Cut.s)) rfl) ?_
 refine lwant rfl rfl rfl rfl (op (p_icmp rfl rfl rfl) rfl) ?_
 refine fixL (congrArg Value.bool (decide_eq_true rfl)) ?_
 refine ls (op (p_pickt rfl rfl) rfl) ?_
 refine ls (op (p_move rfl) rfl) ?_
 refine lwant rfl rfl rfl rfl (op (p_move rfl) rfl) ?_
 refine lwant rfl rfl rfl rfl (op (p_ia 0 hAl (by decide) rfl Tryz.underlying29 Tryz.sizeOf39 rfl rfl) rfl) ?_
 refine lwant rfl rfl rfl rfl (op (p_fa fa39_4 rfl) rfl) ?_
 refine lwant rfl rfl rfl rfl (o_ldi Tryz.isAgg37 rfl (by repeat' constructor) 4 rfl (by repeat (first | exact Cut.d | apply Cut.t | apply Cut.s)) rfl) ?_
 refine lwant rfl rfl rfl rfl (op (p_lenl rfl Tryz.underlying37) rfl) ?_
 refine lwant rfl rfl rfl rfl (op (p_icmp rfl rfl rfl) rfl) ?_
 refine fixL (congrArg Value.bool (decide_eq_true rfl)) ?_
 refine ls (op (p_pickt rfl rfl) rfl) ?_
 refine ls (op (p_move rfl) rfl) ?_
 refine lwant rfl rfl rfl rfl (op (p_move rfl) rfl) ?_
 refine lwant rfl rfl rfl rfl (op (p_ia 0 hAl (by decide) rfl Tryz.underlying29 Tryz.sizeOf39 rfl rfl) rfl) ?_
 refine lwant rfl rfl rfl rfl (op (p_fa fa39_4 rfl) rfl) ?_
 refine lwant rfl rfl rfl rfl (o_ldi Tryz.isAgg37 rfl (by repeat' constructor) 4 rfl (by repeat (first | exact Cut.d | apply Cut.t | apply Cut.s)) rfl) ?_
 refine lwant rfl rfl rfl rfl (op (p_ia 0 hAo (by decide) rfl Tryz.underlying37 Tryz.sizeOf9 rfl rfl) rfl) ?_
 refine lwant rfl rfl rfl rfl (o_ldi Tryz.isAgg9 rfl (by repeat' constructor) 0 rfl (by repeat (first | exact Cut.d | apply Cut.t | apply Cut.s)) rfl) ?_
 refine lwant rfl rfl rfl rfl (op (p_seq rfl rfl) rfl) ?_
 refine fixL (congrArg Value.bool (decide_eq_true rfl)) ?_
 refine ls (op (p_pickt rfl rfl) rfl) ?_
 refine ls (op (p_move rfl) rfl) ?_
 refine lwant rfl rfl rfl rfl (op (p_move rfl) rfl) ?_
 refine lwant rfl rfl rfl rfl (op (p_ia 0 hAl (by decide) rfl Tryz.underlying29 Tryz.sizeOf39 rfl rfl) rfl) ?_
 refine lwant rfl rfl rfl rfl (op (p_fa fa39_5 rfl) rfl) ?_
 refine lwant rfl rfl rfl rfl (o_ldi Tryz.isAgg37 rfl (by repeat' constructor) 5 rfl (by repeat (first | exact Cut.d | apply Cut.t | apply Cut.s)) rfl) ?_
 refine lwant rfl rfl rfl rfl (op (p_ia 0 hAn (by decide) rfl Tryz.underlying37 Tryz.sizeOf9 rfl rfl) rfl) ?_
 refine lwant rfl rfl rfl rfl (o_ldi Tryz.isAgg9 rfl (by repeat' constructor) 0 rfl (by repeat (first | exact Cut.d | apply Cut.t | apply Cut.s)) rfl) ?_
 refine lwant rfl rfl rfl rfl (op (p_seq rfl rfl) rfl) ?_
 refine fixL (congrArg Value.bool (decide_eq_true rfl)) ?_
 refine ls (op (p_pickt rfl rfl) rfl) ?_
 refine ls (op (p_move rfl) rfl) ?_
 refine lwant rfl rfl rfl rfl (op (p_move rfl) rfl) ?_
 refine lwant rfl rfl rfl rfl (op (p_lenl rfl Tryz.underlying108) rfl) ?_
 refine lwant rfl rfl rfl rfl (op (p_icmp rfl rfl rfl) rfl) ?_
 refine fixL (congrArg Value.bool (decide_eq_true rfl)) ?_
 refine ls (op (p_pickt rfl rfl) rfl) ?_
 refine ls (op (p_move rfl) rfl) ?_
 refine lwant rfl rfl rfl rfl (op (p_move rfl) rfl) ?_
 refine lwant rfl rfl rfl rfl (op (p_ia 1 hAc (show 1 < ([(0, 0), (2, 2)] : List (Nat × Nat)).length by decide) rfl Tryz.underlying108 Tryz.sizeOf111 rfl rfl) rfl) ?_
 refine lwant rfl rfl rfl rfl (o_ldj Tryz.isAgg111 Tryz.sizeOf111 rfl (by repeat' constructor) 0 rfl (by repeat (first | exact Cut.d | apply Cut.t | apply Cut.s)) rfl) ?_
 refine lwant rfl rfl rfl rfl (op (p_bld sb111 rfl (Fill.t (by repeat' constructor) rfl rfl (by repeat' constructor) (Fill.t (by repeat' constructor) rfl rfl (by repeat' constructor) Fill.d))) rfl) ?_
 refine lwant rfl rfl rfl rfl (op (p_eqst2 Tryz.underlying111 (by kernel_rfl) rfl rfl rfl rfl rfl rfl Tryz.underlying3 Tryz.isAgg3 (by kernel_rfl) rfl rfl) rfl) ?_
 refine fixL (v' := .bool true) rfl ?_
 refine ls (op (p_pickt rfl rfl) rfl) ?_
 refine ls (op (p_move rfl) rfl) ?_
 refine lwant rfl rfl rfl rfl (op (p_move rfl) rfl) ?_
 refine lwant rfl rfl rfl rfl (o_call (is := []) Tryz.call67 (c_dCost [al6p] A11 c11 (by decide) (by decide)) rfl rfl (by repeat' (first | constructor | apply Sub.suf)) rfl) ?_
 refine le ?_; intro x72
 refine lwant rfl rfl rfl rfl (op (p_icmp rfl rfl rfl) rfl) ?_
 refine fixL (congrArg Value.bool (decide_eq_true rfl)) ?_
 refine ls (op (p_pickt rfl rfl) rfl) ?_
 refine ls (op (p_move rfl) rfl) ?_
 refine lwant rfl rfl rfl rfl (op (p_move rfl) rfl) ?_
 refine lwant rfl rfl rfl rfl (op (p_lenl rfl Tryz.underlying29) rfl) ?_
 refine lwant rfl rfl rfl rfl (op (p_icmp rfl rfl rfl) rfl) ?_
 refine fixL (congrArg Value.bool (decide_eq_true rfl)) ?_
 refine ls (op (p_pickt rfl rfl) rfl) ?_
 refine ls (op (p_move rfl) rfl) ?_
 refine lwant rfl rfl rfl rfl (op (p_move rfl) rfl) ?_
 refine lwant rfl rfl rfl rfl (op (p_ia 0 hAm (by decide) rfl Tryz.underlying29 Tryz.sizeOf39 rfl rfl) rfl) ?_
 refine lwant rfl rfl rfl rfl (op (p_fa fa39_0 rfl) rfl) ?_
 refine lwant rfl rfl rfl rfl (o_ldi Tryz.isAgg3 rfl (by repeat' constructor) 0 rfl (by repeat (first | exact Cut.d | apply Cut.t | apply Cut.s)) rfl) ?_
 refine lwant rfl rfl rfl rfl (op (p_icmp rfl rfl rfl) rfl) ?_
 refine fixL (congrArg Value.bool (decide_eq_true rfl)) ?_
 refine ls (op (p_pickt rfl rfl) rfl) ?_
 refine ls (op (p_move rfl) rfl) ?_
 refine lwant rfl rfl rfl rfl (op (p_move rfl) rfl) ?_
 refine lwant rfl rfl rfl rfl (op (p_ia 0 hAm (by decide) rfl Tryz.underlying29 Tryz.sizeOf39 rfl rfl) rfl) ?_
 refine lwant rfl rfl rfl rfl (op (p_fa fa39_1 rfl) rfl) ?_
 refine lwant rfl rfl rfl rfl (o_ldi Tryz.isAgg9 rfl (by repeat' constructor) 1 rfl (by repeat (first | exact Cut.d | apply Cut.t | apply Cut.s)) rfl) ?_
 refine lwant rfl rfl rfl rfl (op (p_seq rfl rfl) rfl) ?_
 refine fixL (congrArg Value.bool (decide_eq_true rfl)) ?_
 refine ls (op (p_pickt rfl rfl) rfl) ?_
 refine ls (op (p_asg rfl) rfl) ?_
 refine ln ?_
 refine nthen ?_
 refine cret ?_
 refine xret (fun _ _ h => h) ?_
 refine rret (is := []) () (Or.inl rfl) (Res.t rfl Res.d) (rfl) rfl (by repeat' (first | constructor | apply Sub.suf))

end Go.Proofs.YtdbiillompeclaaGreatDoor.X

end
section
set_option linter.unusedVariables false
set_option linter.unusedSimpArgs false
namespace Go.Proofs.YtdbiillompeclaaGreatDoor.X
open Go Go.RowKit Go.Proofs Go.Sx
attribute [local irreducible] slA isA box row
theorem bldI : ∃ j, Tryz.prog.info? 162 = some j ∧ j.size ≠ 0 := by
 obtain ⟨j, h1, h2⟩ := Option.map_eq_some_iff.1 (show (Tryz.prog.info? 162).map (fun i => i.size) = some 2 by kernel_rfl)
 exact ⟨j, h1, by omega⟩
theorem bldH : Tryz.prog.info? 162 = some (Classical.choose bldI) ∧ (Classical.choose bldI).size ≠ 0 := Classical.choose_spec bldI
theorem bldL : liesAt Tryz.prog Tryz.prog.depth 162 (2 / Tryz.prog.cellsOf 162) 0 162 1 = true := by kernel_rfl
theorem toB_size (l : List UInt8) : (toB l).size = l.length := by simp [toB, ByteArray.size]
theorem l_Itoa (i : Nat) (hi : i < 100) : Con Tryz.prog 107 [.int .i64 (i : Int)] [] [] Unit (fun _ => .string (toB (Lib.decDigits i))) (fun _ => []) (fun _ => []) := con_same (fun w => Tryz.strconv_Itoa_small i hi w)

theorem fa162_0 : FA Tryz.prog 162 0 0 := fun b o w => by kernel_rfl
theorem fa162_1 : FA Tryz.prog 162 1 1 := fun b o w => by kernel_rfl
theorem inf5 : (Tryz.prog.info? 5).map (fun i => (i.zero, i.size, i.bytes)) = some (some (.int .u8 0), 1, 1) := by kernel_rfl
end Go.Proofs.YtdbiillompeclaaGreatDoor.X

end
section
set_option linter.unusedVariables false
set_option linter.unusedSimpArgs false
namespace Go.Proofs.YtdbiillompeclaaGreatDoor.X
open Go Go.RowKit Go.Proofs Go.Sx
attribute [local irreducible] slA isA box row
theorem al_add : tAdd [] (⟨#[97]⟩ : ByteArray) = ([((⟨#[97]⟩ : ByteArray), ([] : List ByteArray))], 0) := by kernel_rfl
theorem al_put : tPut [((⟨#[97]⟩ : ByteArray), ([] : List ByteArray))] (⟨#[97]⟩ : ByteArray) [(⟨#[120]⟩ : ByteArray), (⟨#[121]⟩ : ByteArray)] = ([((⟨#[97]⟩ : ByteArray), [(⟨#[120]⟩ : ByteArray), (⟨#[121]⟩ : ByteArray)])], 0) := by kernel_rfl
theorem al_move : tMove [((⟨#[97]⟩ : ByteArray), [(⟨#[120]⟩ : ByteArray), (⟨#[121]⟩ : ByteArray)])] (⟨#[97]⟩ : ByteArray) (⟨#[98]⟩ : ByteArray) = ([((⟨#[98]⟩ : ByteArray), [(⟨#[120]⟩ : ByteArray), (⟨#[121]⟩ : ByteArray)])], 0) := by kernel_rfl
theorem al_badd : tAdd [((⟨#[98]⟩ : ByteArray), [(⟨#[120]⟩ : ByteArray), (⟨#[121]⟩ : ByteArray)])] (⟨#[65]⟩ : ByteArray) = ([((⟨#[98]⟩ : ByteArray), [(⟨#[120]⟩ : ByteArray), (⟨#[121]⟩ : ByteArray)])], 20) := by kernel_rfl
theorem al_brem : tRem [((⟨#[98]⟩ : ByteArray), [(⟨#[120]⟩ : ByteArray), (⟨#[121]⟩ : ByteArray)])] (⟨#[98]⟩ : ByteArray) = ([((⟨#[98]⟩ : ByteArray), [(⟨#[120]⟩ : ByteArray), (⟨#[121]⟩ : ByteArray)])], 22) := by kernel_rfl
theorem al_l2 : (textT [((⟨#[97]⟩ : ByteArray), [(⟨#[120]⟩ : ByteArray), (⟨#[121]⟩ : ByteArray)])]).length = 8 := by kernel_rfl
theorem al_l3 : (textT [((⟨#[98]⟩ : ByteArray), [(⟨#[120]⟩ : ByteArray), (⟨#[121]⟩ : ByteArray)])]).length = 8 := by kernel_rfl
theorem al_f2 : Tfit [((⟨#[97]⟩ : ByteArray), [(⟨#[120]⟩ : ByteArray), (⟨#[121]⟩ : ByteArray)])] := fun x hx => by have : x = _ := List.mem_singleton.1 hx; subst this; decide
theorem al_f3 : Tfit [((⟨#[98]⟩ : ByteArray), [(⟨#[120]⟩ : ByteArray), (⟨#[121]⟩ : ByteArray)])] := fun x hx => by have : x = _ := List.mem_singleton.1 hx; subst this; decide
theorem al_named : nameOk (⟨#[97, 47, 98, 46, 99]⟩ : ByteArray) = true := by kernel_rfl
theorem al_ne : decide ([((⟨#[98]⟩ : ByteArray), [(⟨#[120]⟩ : ByteArray), (⟨#[121]⟩ : ByteArray)])] = [((⟨#[97]⟩ : ByteArray), [(⟨#[120]⟩ : ByteArray), (⟨#[121]⟩ : ByteArray)])]) = false := by kernel_rfl
theorem al_t1 : toB (textT [((⟨#[97]⟩ : ByteArray), [(⟨#[120]⟩ : ByteArray), (⟨#[121]⟩ : ByteArray)])]) = (⟨#[97, 32, 50, 10, 120, 10, 121, 10]⟩ : ByteArray) := by kernel_rfl
theorem al_t2 : toB (textT [((⟨#[98]⟩ : ByteArray), [(⟨#[120]⟩ : ByteArray), (⟨#[121]⟩ : ByteArray)])]) = (⟨#[98, 32, 50, 10, 120, 10, 121, 10]⟩ : ByteArray) := by kernel_rfl


set_option maxRecDepth 100000 in
theorem c_Old02 (p b : Nat) (T : List File) (hn : T.length ≤ 2000000) (hf : Tfit T) : Con Tryz.prog 39 [.pointer (some ⟨p, 0, none⟩)] [box p 120 [.map (some b)], tr b T] [] (Option Addr × Nat) (fun y => .slice y.1 T.length y.2) (fun _ => [box p 120 [.map (some b)], tr b T]) (fun y => [slA y.1 T]) := by
 refine con Tryz.func39 rfl Tryz.ntmps39 rfl ?_
 intro M0 F0 w0
 refine cs ?_
 refine cr ?_
 refine ls (op (p_asg rfl) rfl) ?_
 refine ln ?_
 refine nthen ?_
 refine cs ?_
 refine cr ?_
 refine ls (op (p_asg rfl) rfl) ?_
 refine ln ?_
 refine nthen ?_
 refine cs ?_
 refine cs ?_
 refine cpure (St.tr (b := b) (by repeat' constructor)) ?_
 intro hso
 refine cmono (fun a w h => nilRow (α := File) 132 h) ?_
 refine cr ?_
 refine ls (op (p_move rfl) rfl) ?_
 refine ls (o_call (is := [1, 1]) Tryz.call84 (c_tNames p b T hn) rfl rfl (by repeat' (first | constructor | apply Sub.suf)) rfl) ?_
 refine le ?_; rintro ⟨A9, c9⟩
 refine lmono (fun a w h => Go.Sx.freeze (i := 0) rfl h) ?_
 refine ls (op (p_lenl rfl Tryz.underlying37) rfl) ?_
 refine ls (op (p_move rfl) rfl) ?_
 refine ln ?_
 refine nthen ?_
 refine cb ?_
 refine cl (ι := {q : Nat × Option Addr × Nat // q.1 ≤ T.length}) (fun i => St M0 F0 w0 29 [(0, .pointer (some ⟨p, 0, none⟩)), (9, .slice A9 T.length c9), (10, .int .i64 (T.length : Int)), (11, .int .i64 (i.1.1 : Int)), (3, .slice i.1.2.1 (T.take i.1.1).length i.1.2.2)] [row 132 i.1.2.1 i.1.2.2 (T.take i.1.1), box p 120 [.map (some b)], tr b T] [slA A9 (T.map (·.1))]) (fun i => T.length - i.1.1) ⟨(0, none, 0), Nat.zero_le _⟩ (wk (is := [2, 0, 0]) (by repeat (first | exact subσ.nil _ | refine subσ.cons rfl ?_)) rfl (by repeat' (first | constructor | apply Sub.suf))) ?_
 rintro ⟨⟨k, A2, c2⟩, hk⟩
 refine cmono (S' := St M0 F0 w0 29 [(0, .pointer (some ⟨p, 0, none⟩)), (9, .slice A9 T.length c9), (10, .int .i64 (T.length : Int)), (11, .int .i64 (k : Int)), (3, .slice A2 (T.take k).length c2)] [row 132 A2 c2 (T.take k), box p 120 [.map (some b)], tr b T] [slA A9 (T.map (·.1))]) (fun _ _ h => h) ?_
 refine cs ?_
 refine cr ?_
 refine ls (op (p_icmp rfl rfl rfl) rfl) ?_
 refine ln ?_
 refine nthen ?_
 refine cs ?_
 refine cc rfl ?_ ?_
 ·
  intro h12
  dsimp only at hk
  try simp only [decide_eq_true_eq, decide_eq_false_iff_not, Bool.not_eq_true', Bool.not_eq_false', Int.not_lt, Int.not_le, ge_iff_le, Bool.not_true, Bool.not_false] at h12
  have hk1 : k < T.length := by omega
  have hk2 : k < (T.map (·.1)).length := by simpa using hk1
  have hnm : (T.map (·.1))[k] = T[k].1 := List.getElem_map ..
  have hmem : T[k] ∈ T := List.getElem_mem hk1
  have hgl : getL T T[k].1 = T[k].2 := by simp [getL, (getT_some (k := T[k].1) (l := T[k].2) hso).2 hmem]
  refine cskip ?_
  refine nthen ?_
  refine cs ?_
  refine cb ?_
  refine cs ?_
  refine elC (by repeat' constructor) k (List.getElem?_eq_getElem (l := (T.map (·.1))) hk2) ?_; rintro zbp zop zyp hAp
  refine cr ?_
  refine ls (op (p_ia k hAp hk1 rfl Tryz.underlying37 Tryz.sizeOf9 rfl rfl) rfl) ?_
  refine ls (o_ldi Tryz.isAgg9 rfl (by repeat' constructor) 0 rfl (by repeat (first | exact Cut.d | apply Cut.t | apply Cut.s)) rfl) ?_
  refine ls (op (p_asg rfl) rfl) ?_
  refine ln ?_
  refine nthen ?_
  refine cs ?_
  rw [hnm]
  refine cr ?_
  refine ls (op (p_move rfl) rfl) ?_
  refine ls (op (p_move rfl) rfl) ?_
  refine ls (o_call (is := [1, 1]) Tryz.call28 (c_tGet p b T hf T[k].1) rfl rfl (by repeat' (first | constructor | apply Sub.suf)) rfl) ?_
  refine le ?_; rintro ⟨A6, c6⟩
  rw [hgl]
  refine lmono (fun a w h => freezeN (i := 0) rfl h) ?_
  refine ls (op (p_move rfl) rfl) ?_
  refine ls (op (p_ext rfl (by repeat' constructor)) rfl) ?_
  refine ls (op (p_ext rfl (by repeat' constructor)) rfl) ?_
  refine ls (op (p_asg rfl) rfl) ?_
  refine ls (op (p_asg rfl) rfl) ?_
  refine ln ?_
  refine nthen ?_
  refine cr ?_
  refine ls (op (p_move rfl) rfl) ?_
  refine ls (op (p_move rfl) rfl) ?_
  refine ls (op (p_move rfl) rfl) ?_
  refine ls (op (p_bld sb132 rfl (Fill.t (by repeat' constructor) rfl rfl (by repeat' constructor) (Fill.t (by repeat' constructor) rfl rfl (by repeat' constructor) Fill.d))) rfl) ?_
  refine ls (o_bsl [T[k]] Tryz.underlying60 Tryz.sizeOf132 Tryz.zeroValue132 rfl (Enum.t Enum.d) (RV.t (α := File) (A6, c6) rfl (by repeat' (first | constructor | apply Sub.suf)) RV.d) rfl (by decide) (by decide) rfl) ?_
  refine le ?_; intro b25
  refine lmono (fun a w h => Go.Sx.freeze (i := 0) rfl h) ?_
  refine ls (o_app (is := [2]) Tryz.underlying60 inf132 rfl (by decide) (by decide) rfl rfl (by rw [List.length_take]; simp only [List.length_cons, List.length_nil]; omega) (fun h => by cases h) rfl (by repeat' (first | constructor | apply Sub.suf)) rfl) ?_
  refine le ?_; rintro ⟨A3, c3⟩
  rw [← List.take_succ_eq_append_getElem hk1]
  refine ls (op (p_asg rfl) rfl) ?_
  refine ln ?_
  refine nblock ?_
  refine nthen ?_
  refine cr ?_
  refine ls (op (p_add rfl rfl (by omega)) rfl) ?_
  refine ls (op (p_move rfl) rfl) ?_
  refine ln ?_
  refine nnext ⟨(k + 1, A3, c3), hk1⟩ (by dsimp only; omega) (wk (is := [0, 0, 0]) (by repeat (first | exact subσ.nil _ | refine subσ.cons rfl ?_)) rfl (by repeat' (first | constructor | apply Sub.suf)))
 ·
  intro h12
  dsimp only at hk
  try simp only [decide_eq_true_eq, decide_eq_false_iff_not, Bool.not_eq_true', Bool.not_eq_false', Int.not_lt, Int.not_le, ge_iff_le, Bool.not_true, Bool.not_false] at h12
  rw [List.take_of_length_le (by omega)]
  refine cexit ?_
  refine xthen ?_
  refine xthen ?_
  refine xblock ?_
  refine nthen ?_
  refine cs ?_
  refine cmono (fun a w h => Go.Sx.freeze (i := 0) rfl h) ?_
  refine cr ?_
  refine ls (op (p_move rfl) rfl) ?_
  refine ls (op (p_asg rfl) rfl) ?_
  refine ln ?_
  refine nthen ?_
  refine cret ?_
  refine xret (fun _ _ h => h) ?_
  refine rret (is := [0, 0]) (A2, c2) (Or.inl rfl) (Res.t rfl Res.d) (rfl) rfl (by repeat' (first | constructor | apply Sub.suf))

set_option maxRecDepth 100000 in
theorem c_rSame02 (T U : List File) (A B : Option Addr) (c c' : Nat) (hn : T.length ≤ 2000000) (hf : ∀ x ∈ T, x.2.length ≤ 2000000) : Con Tryz.prog 38 [.slice A T.length c, .slice B U.length c'] [] [slA A T, slA B U] Unit (fun _ => .bool (decide (T = U))) (fun _ => []) (fun _ => []) := by
 refine con Tryz.func38 rfl Tryz.ntmps38 rfl ?_
 intro M0 F0 w0
 refine cs ?_
 refine cr ?_
 refine ls (op (p_asg rfl) rfl) ?_
 refine ln ?_
 refine nthen ?_
 refine cs ?_
 refine cs ?_
 refine cr ?_
 refine ls (op (p_move rfl) rfl) ?_
 refine ls (op (p_lenl rfl Tryz.underlying60) rfl) ?_
 refine ls (op (p_move rfl) rfl) ?_
 refine ls (op (p_lenl rfl Tryz.underlying60) rfl) ?_
 refine ls (op (p_icmp rfl rfl rfl) rfl) ?_
 refine ln ?_
 refine nthen ?_
 refine cc rfl ?_ ?_
 ·
  intro h10
  have hne : ¬ T.length = U.length := by simp at h10; omega
  have hTU : ¬ T = U := fun e => hne (congrArg List.length e)
  refine cs ?_
  refine cr ?_
  refine ls (op (p_asg rfl) rfl) ?_
  refine ln ?_
  refine nthen ?_
  refine cret ?_
  refine xret (fun _ _ h => h) ?_
  refine rret (is := []) () (Or.inl rfl) (Res.t rfl Res.d) ?_ rfl (by repeat' (first | constructor | apply Sub.suf))
  simp [packV, hTU]
 ·
  intro h10
  have hlen : T.length = U.length := by simp at h10; omega
  refine cskip ?_
  refine nthen ?_
  refine cs ?_
  refine cs ?_
  refine cr ?_
  refine ls (op (p_asg rfl) rfl) ?_
  refine ln ?_
  refine nthen ?_
  refine cb ?_
  refine cl (ι := {q : Nat // q ≤ T.length ∧ T.take q = U.take q}) (fun i => St M0 F0 w0 42 [(0, .slice A T.length c), (1, .slice B U.length c'), (5, .int .i64 (i.1 : Int))] [] [slA A T, slA B U]) (fun i => T.length - i.1) ⟨0, Nat.zero_le _, rfl⟩ (wk0 (by repeat (first | exact subσ.nil _ | refine subσ.cons rfl ?_)) (by repeat' (first | constructor | apply Sub.suf))) ?_
  rintro ⟨k, hk, he⟩
  refine cmono (S' := St M0 F0 w0 42 [(0, .slice A T.length c), (1, .slice B U.length c'), (5, .int .i64 (k : Int))] [] [slA A T, slA B U]) (fun _ _ h => h) ?_
  refine cs ?_
  refine cs ?_
  refine cr ?_
  refine ls (op (p_move rfl) rfl) ?_
  refine ls (op (p_move rfl) rfl) ?_
  refine ls (op (p_lenl rfl Tryz.underlying60) rfl) ?_
  refine ls (op (p_icmp rfl rfl rfl) rfl) ?_
  refine ln ?_
  refine nthen ?_
  refine cc rfl ?_ ?_
  ·
   intro h14
   try dsimp only at hk he
   try simp only [decide_eq_true_eq, decide_eq_false_iff_not, Bool.not_eq_true', Bool.not_eq_false', Int.not_lt, Int.not_le, ge_iff_le, Bool.not_true, Bool.not_false] at h14
   have hk1 : k < T.length := by omega
   have hk2 : k < U.length := by omega
   have hfk := hf _ (List.getElem_mem hk1)
   refine cskip ?_
   refine nthen ?_
   refine cs ?_
   refine cb ?_
   refine cs ?_
   refine elC (by repeat' constructor) k (List.getElem?_eq_getElem (l := T) hk1) ?_; rintro zbp zop zyp hAp
   refine elC (by repeat' constructor) k (List.getElem?_eq_getElem (l := U) hk2) ?_; rintro zbq zoq zyq hAq
   rcases Classical.em (T[k].1 = U[k].1) with hnm | hnm
   ·
    refine cd [22] [(4, zbp, zop + k * Rp.size File, _), (9, zbq, zoq + k * Rp.size File, _), (16, zbp, zop + k * Rp.size File + 1, _), (21, zbq, zoq + k * Rp.size File + 1, _)] TryzX.mixed (TOk.t (isInS (by repeat' constructor) (k := 0) rfl (z := 1) (by repeat (first | exact Cut.d | apply Cut.t | apply Cut.s))) (TOk.t (isInS (by repeat' constructor) (k := 0) rfl (z := 1) (by repeat (first | exact Cut.d | apply Cut.t | apply Cut.s))) (TOk.t (isInS (by repeat' constructor) (k := 1) rfl (z := 1) (by repeat (first | exact Cut.d | apply Cut.t | apply Cut.s))) (TOk.t (isInS (by repeat' constructor) (k := 1) rfl (z := 1) (by repeat (first | exact Cut.d | apply Cut.t | apply Cut.s))) TOk.d)))) ?_
    refine tk 0 rfl (by kernel_rfl) (fun _ _ _ h => h) gnone (TTany _) (p_move rfl) rfl ?_
    refine tk 1 rfl (by kernel_rfl) (fun _ _ _ h => h) gnone (TTany _) (p_move rfl) rfl ?_
    refine tk 2 rfl (by kernel_rfl) (fun _ _ _ h => h) gnone (TTany _) (p_ia k hAp hk1 rfl Tryz.underlying60 Tryz.sizeOf132 rfl rfl) rfl ?_
    refine tk 3 rfl (by kernel_rfl) (fun _ _ _ h => h) gnone (TTany _) (p_fa fa132_0 rfl) rfl ?_
    refine tk 4 rfl (by kernel_rfl) (fun _ _ _ h => h) gnone (TTat (List.Mem.head _)) (p_ld Tryz.isAgg9 rfl) rfl ?_
    refine tk 5 rfl (by kernel_rfl) (fun _ _ _ h => h) gnone (TTany _) (p_move rfl) rfl ?_
    refine tk 6 rfl (by kernel_rfl) (fun _ _ _ h => h) gnone (TTany _) (p_move rfl) rfl ?_
    refine tk 7 rfl (by kernel_rfl) (fun _ _ _ h => h) gnone (TTany _) (p_ia k hAq hk2 rfl Tryz.underlying60 Tryz.sizeOf132 rfl rfl) rfl ?_
    refine tk 8 rfl (by kernel_rfl) (fun _ _ _ h => h) gnone (TTany _) (p_fa fa132_0 rfl) rfl ?_
    refine tk 9 rfl (by kernel_rfl) (fun _ _ _ h => h) gnone (TTat (List.Mem.tail _ (List.Mem.head _))) (p_ld Tryz.isAgg9 rfl) rfl ?_
    refine tk 10 rfl (by kernel_rfl) (fun _ _ _ h => h) gnone (TTany _) (p_sne rfl rfl) rfl ?_
    refine fixA (congrArg Value.bool (by simp [hnm] : (!decide (T[k].1 = U[k].1)) = false)) ?_
    refine tk 11 rfl (by kernel_rfl) (fun _ _ _ h => h) gnone (TTany _) (p_move rfl) rfl ?_
    refine tk 12 rfl (by kernel_rfl) (fun _ _ _ h => h) (gyes rfl rfl rfl rfl) (TTany _) (gpu (p_move rfl)) rfl ?_
    refine tk 13 rfl (by kernel_rfl) (fun _ _ _ h => h) (gyes rfl rfl rfl rfl) (TTany _) (gpu (p_move rfl)) rfl ?_
    refine tk 14 rfl (by kernel_rfl) (fun _ _ _ h => h) (gyes rfl rfl rfl rfl) (TTany _) (gpu (p_ia k hAp hk1 rfl Tryz.underlying60 Tryz.sizeOf132 rfl rfl)) rfl ?_
    refine tk 15 rfl (by kernel_rfl) (fun _ _ _ h => h) (gyes rfl rfl rfl rfl) (TTany _) (gpu (p_fa fa132_1 rfl)) rfl ?_
    refine tk 16 rfl (by kernel_rfl) (fun _ _ _ h => h) (gyes rfl rfl rfl rfl) (TTat (List.Mem.tail _ (List.Mem.tail _ (List.Mem.head _)))) (gpu (p_ld Tryz.isAgg37 rfl)) rfl ?_
    refine tk 17 rfl (by kernel_rfl) (fun _ _ _ h => h) (gyes rfl rfl rfl rfl) (TTany _) (gpu (p_move rfl)) rfl ?_
    refine tk 18 rfl (by kernel_rfl) (fun _ _ _ h => h) (gyes rfl rfl rfl rfl) (TTany _) (gpu (p_move rfl)) rfl ?_
    refine tk 19 rfl (by kernel_rfl) (fun _ _ _ h => h) (gyes rfl rfl rfl rfl) (TTany _) (gpu (p_ia k hAq hk2 rfl Tryz.underlying60 Tryz.sizeOf132 rfl rfl)) rfl ?_
    refine tk 20 rfl (by kernel_rfl) (fun _ _ _ h => h) (gyes rfl rfl rfl rfl) (TTany _) (gpu (p_fa fa132_1 rfl)) rfl ?_
    refine tk 21 rfl (by kernel_rfl) (fun _ _ _ h => h) (gyes rfl rfl rfl rfl) (TTat (List.Mem.tail _ (List.Mem.tail _ (List.Mem.tail _ (List.Mem.head _))))) (gpu (p_ld Tryz.isAgg37 rfl)) rfl ?_
    refine df 22 (by kernel_rfl) ?_
    refine doG rfl rfl rfl rfl rfl (o_call (is := []) Tryz.call29 (c_refSame1 T[k].2 U[k].2 zyp.1 zyq.1 zyp.2 zyq.2 hfk) rfl rfl (by repeat' (first | constructor | apply Sub.suf)) rfl) (TOk.x (by kernel_rfl) (TOk.x (by kernel_rfl) (TOk.x (by kernel_rfl) (TOk.x (by kernel_rfl) TOk.d)))) ?_
    refine ea ?_; intro x39
    refine tk 23 rfl (by kernel_rfl) (fun _ _ _ h => h) (gyes rfl rfl rfl rfl) (TTany _) (gpu (p_not rfl)) rfl ?_
    refine tk 24 rfl (by kernel_rfl) (fun _ _ _ h => h) gnone (TTany _) (p_pickf rfl rfl) rfl ?_
    refine dn (by kernel_rfl) ?_
    refine nthen ?_
    refine cc rfl ?_ ?_
    ·
     intro h41
     have hlk : ¬ T[k].2 = U[k].2 := by simpa using h41
     have hTU : ¬ T = U := fun e => hlk (by subst e; rfl)
     refine cs ?_
     refine cr ?_
     refine ls (op (p_asg rfl) rfl) ?_
     refine ln ?_
     refine nthen ?_
     refine cret ?_
     refine xret (fun _ _ h => h) ?_
     refine rret (is := []) () (Or.inl rfl) (Res.t rfl Res.d) ?_ rfl (by repeat' (first | constructor | apply Sub.suf))
     simp [packV, hTU]
    ·
     intro h41
     have hlk : T[k].2 = U[k].2 := by simpa using h41
     have hek : T[k] = U[k] := Prod.ext hnm hlk
     refine cskip ?_
     refine nblock ?_
     refine nthen ?_
     refine cr ?_
     refine ls (op (p_move rfl) rfl) ?_
     refine ls (op (p_add rfl rfl (by omega)) rfl) ?_
     refine ls (op (p_asg rfl) rfl) ?_
     refine ln ?_
     refine nnext ⟨k + 1, hk1, by rw [List.take_succ_eq_append_getElem hk1, List.take_succ_eq_append_getElem hk2, he, hek]⟩ (by dsimp only; omega) (wk0 (by repeat (first | exact subσ.nil _ | refine subσ.cons rfl ?_)) (by repeat' (first | constructor | apply Sub.suf)))
   ·
    have hTU : ¬ T = U := fun e => hnm (by subst e; rfl)
    refine cd [] [(4, zbp, zop + k * Rp.size File, _), (9, zbq, zoq + k * Rp.size File, _)] TryzX.mixed (TOk.t (isInS (by repeat' constructor) (k := 0) rfl (z := 1) (by repeat (first | exact Cut.d | apply Cut.t | apply Cut.s))) (TOk.t (isInS (by repeat' constructor) (k := 0) rfl (z := 1) (by repeat (first | exact Cut.d | apply Cut.t | apply Cut.s))) TOk.d)) ?_
    refine tk 0 rfl (by kernel_rfl) (fun _ _ _ h => h) gnone (TTany _) (p_move rfl) rfl ?_
    refine tk 1 rfl (by kernel_rfl) (fun _ _ _ h => h) gnone (TTany _) (p_move rfl) rfl ?_
    refine tk 2 rfl (by kernel_rfl) (fun _ _ _ h => h) gnone (TTany _) (p_ia k hAp hk1 rfl Tryz.underlying60 Tryz.sizeOf132 rfl rfl) rfl ?_
    refine tk 3 rfl (by kernel_rfl) (fun _ _ _ h => h) gnone (TTany _) (p_fa fa132_0 rfl) rfl ?_
    refine tk 4 rfl (by kernel_rfl) (fun _ _ _ h => h) gnone (TTat (List.Mem.head _)) (p_ld Tryz.isAgg9 rfl) rfl ?_
    refine tk 5 rfl (by kernel_rfl) (fun _ _ _ h => h) gnone (TTany _) (p_move rfl) rfl ?_
    refine tk 6 rfl (by kernel_rfl) (fun _ _ _ h => h) gnone (TTany _) (p_move rfl) rfl ?_
    refine tk 7 rfl (by kernel_rfl) (fun _ _ _ h => h) gnone (TTany _) (p_ia k hAq hk2 rfl Tryz.underlying60 Tryz.sizeOf132 rfl rfl) rfl ?_
    refine tk 8 rfl (by kernel_rfl) (fun _ _ _ h => h) gnone (TTany _) (p_fa fa132_0 rfl) rfl ?_
    refine tk 9 rfl (by kernel_rfl) (fun _ _ _ h => h) gnone (TTat (List.Mem.tail _ (List.Mem.head _))) (p_ld Tryz.isAgg9 rfl) rfl ?_
    refine tk 10 rfl (by kernel_rfl) (fun _ _ _ h => h) gnone (TTany _) (p_sne rfl rfl) rfl ?_
    refine fixA (congrArg Value.bool (by simp [hnm] : (!decide (T[k].1 = U[k].1)) = true)) ?_
    refine tk 11 rfl (by kernel_rfl) (fun _ _ _ h => h) gnone (TTany _) (p_move rfl) rfl ?_
    refine tks 12 rfl (by kernel_rfl) (fun _ _ _ h => h) rfl rfl rfl rfl rfl ?_
    refine tks 13 rfl (by kernel_rfl) (fun _ _ _ h => h) rfl rfl rfl rfl rfl ?_
    refine tks 14 rfl (by kernel_rfl) (fun _ _ _ h => h) rfl rfl rfl rfl rfl ?_
    refine tks 15 rfl (by kernel_rfl) (fun _ _ _ h => h) rfl rfl rfl rfl rfl ?_
    refine tks 16 rfl (by kernel_rfl) (fun _ _ _ h => h) rfl rfl rfl rfl rfl ?_
    refine tks 17 rfl (by kernel_rfl) (fun _ _ _ h => h) rfl rfl rfl rfl rfl ?_
    refine tks 18 rfl (by kernel_rfl) (fun _ _ _ h => h) rfl rfl rfl rfl rfl ?_
    refine tks 19 rfl (by kernel_rfl) (fun _ _ _ h => h) rfl rfl rfl rfl rfl ?_
    refine tks 20 rfl (by kernel_rfl) (fun _ _ _ h => h) rfl rfl rfl rfl rfl ?_
    refine tks 21 rfl (by kernel_rfl) (fun _ _ _ h => h) rfl rfl rfl rfl rfl ?_
    refine tks 22 rfl (by kernel_rfl) (fun _ _ _ h => h) rfl rfl rfl rfl rfl ?_
    refine tks 23 rfl (by kernel_rfl) (fun _ _ _ h => h) rfl rfl rfl rfl rfl ?_
    refine tk 24 rfl (by kernel_rfl) (fun _ _ _ h => h) gnone (TTany _) (p_pickt rfl rfl) rfl ?_
    refine dn (by kernel_rfl) ?_
    refine nthen ?_
    refine cc rfl (fun h => ?_) (fun h => by cases h)
    refine cs ?_
    refine cr ?_
    refine ls (op (p_asg rfl) rfl) ?_
    refine ln ?_
    refine nthen ?_
    refine cret ?_
    refine xret (fun _ _ h => h) ?_
    refine rret (is := []) () (Or.inl rfl) (Res.t rfl Res.d) ?_ rfl (by repeat' (first | constructor | apply Sub.suf))
    simp [packV, hTU]
  ·
   intro h14
   try dsimp only at hk he
   try simp only [decide_eq_true_eq, decide_eq_false_iff_not, Bool.not_eq_true', Bool.not_eq_false', Int.not_lt, Int.not_le, ge_iff_le, Bool.not_true, Bool.not_false] at h14
   rw [List.take_of_length_le (by omega), List.take_of_length_le (by omega)] at he
   refine cexit ?_
   refine xthen ?_
   refine xthen ?_
   refine xblock ?_
   refine nthen ?_
   refine cs ?_
   refine cr ?_
   refine ls (op (p_asg rfl) rfl) ?_
   refine ln ?_
   refine nthen ?_
   refine cret ?_
   refine xret (fun _ _ h => h) ?_
   refine rret (is := []) () (Or.inl rfl) (Res.t rfl Res.d) ?_ rfl (by repeat' (first | constructor | apply Sub.suf))
   simp [packV, he]

set_option maxRecDepth 100000 in
theorem c_mEq (b d : Nat) (T U : List File) (hf : ∀ x ∈ T, x.2.length ≤ 2000000) : Con Tryz.prog 82 [.map (some b), .map (some d), .func (.func 83) #[] #[]] [tr b T, tr d U] [] Unit (fun _ => .bool (decide (T = U))) (fun _ => [tr b T, tr d U]) (fun _ => []) := by
 refine con Tryz.func82 rfl Tryz.ntmps82 rfl ?_
 intro M0 F0 w0
 refine cs ?_
 refine cr ?_
 refine ls (op (p_asg rfl) rfl) ?_
 refine ln ?_
 refine nthen ?_
 refine cs ?_
 refine cs ?_
 refine cr ?_
 refine ls (op (p_move rfl) rfl) ?_
 refine ls (o_lenm Tryz.underlying118 rfl (by repeat' constructor) rfl) ?_
 refine ls (op (p_move rfl) rfl) ?_
 refine ls (o_lenm Tryz.underlying118 rfl (by repeat' constructor) rfl) ?_
 refine ls (op (p_icmp rfl rfl rfl) rfl) ?_
 refine ln ?_
 refine nthen ?_
 refine cc rfl ?_ ?_
 ·
  intro h15
  have hne : ¬ T.length = U.length := by simp at h15; omega
  have hTU : ¬ T = U := fun e => hne (congrArg List.length e)
  refine cs ?_
  refine cr ?_
  refine ls (op (p_asg rfl) rfl) ?_
  refine ln ?_
  refine nthen ?_
  refine cret ?_
  refine xret (fun _ _ h => h) ?_
  refine rret (is := [0, 0]) () (Or.inl rfl) (Res.t rfl Res.d) ?_ rfl (by repeat' (first | constructor | apply Sub.suf))
  simp [packV, hTU]
 ·
  intro h15
  have hlen : T.length = U.length := by simp at h15; omega
  refine cskip ?_
  refine nthen ?_
  refine cs ?_
  refine cs ?_
  refine cr ?_
  refine ls (op (p_move rfl) rfl) ?_
  refine ls (o_mrange (i := 0) Tryz.underlying118 rfl rfl rfl) ?_
  refine le ?_; intro r17
  refine ln ?_
  refine nthen ?_
  refine cb ?_
  refine cl (ι := {K : List File // ∀ x ∈ K, getT U x.1 = some x.2}) (fun i => St M0 F0 w0 38 [(1, .map (some d)), (2, .func (.func 83) #[] #[]), (17, .pointer (some ⟨r17, 0, none⟩))] [mit b r17 T i.1, tr d U] []) (fun i => T.length - (i.1).length) ⟨[], fun _ h => by cases h⟩ (wk (is := [0, 0]) (by repeat (first | exact subσ.nil _ | refine subσ.cons rfl ?_)) rfl (by repeat' (first | constructor | apply Sub.suf))) ?_
  rintro ⟨K, hKU⟩
  refine cmono (S' := St M0 F0 w0 38 [(1, .map (some d)), (2, .func (.func 83) #[] #[]), (17, .pointer (some ⟨r17, 0, none⟩))] [mit b r17 T K, tr d U] []) (fun _ _ h => h) ?_
  refine cs ?_
  try dsimp only at hKU
  refine cpure (St.mit (by repeat' constructor)) ?_
  rintro ⟨hso, hKn, hKT⟩
  refine cpure (St.tr (b := d) (by repeat' constructor)) ?_
  intro hsu
  rcases Classical.em (∃ x ∈ T, x ∉ K) with hK | hK
  ·
   have hlt := nodup_lt hKn hKT hK
   refine cr ?_
   refine ls (o_mnextS (i := 0) rfl rfl hK rfl) ?_
   refine le ?_; rintro ⟨⟨⟨k, l⟩, y⟩, hxT, hxK⟩
   refine ls (op (p_ext rfl (by repeat' constructor)) rfl) ?_
   refine ln ?_
   refine nthen ?_
   refine cs ?_
   refine cc rfl (fun h => ?_) (fun h => by cases h)
   refine cskip ?_
   refine nthen ?_
   refine cb ?_
   refine cs ?_
   refine cr ?_
   refine ls (o_mentry rfl (by repeat' constructor) rfl) ?_
   refine le ?_; rintro y20
   refine ls (op (p_ext rfl (by repeat' constructor)) rfl) ?_
   refine ls (op (p_ext rfl (by repeat' constructor)) rfl) ?_
   refine ls (op (p_asg rfl) rfl) ?_
   refine ls (op (p_asg rfl) rfl) ?_
   refine ln ?_
   refine nthen ?_
   refine cs ?_
   refine cr ?_
   refine ls (op (p_move rfl) rfl) ?_
   refine ls (op (p_move rfl) rfl) ?_
   refine ls (o_look Tryz.underlying118 Tryz.underlying9 Tryz.zeroValue37 rfl rfl (by repeat' constructor) rfl) ?_
   refine le ?_; rintro y26
   refine ls (op (p_move rfl) rfl) ?_
   refine ls (op (p_ext rfl (by repeat' constructor)) rfl) ?_
   refine ls (op (p_ext rfl (by repeat' constructor)) rfl) ?_
   refine ls (op (p_asg rfl) rfl) ?_
   refine ls (op (p_asg rfl) rfl) ?_
   refine ln ?_
   refine nthen ?_
   refine cs ?_
   refine cr ?_
   refine ls (op (p_move rfl) rfl) ?_
   refine ls (op (p_not rfl) rfl) ?_
   refine ls (op (p_move rfl) rfl) ?_
   refine splitL 31 rfl ?_ ?_
   ·
    intro h31
    have hTU : ¬ T = U := ne_of_one hso hxT (by have h := h31; simp only [Bool.not_eq_true'] at h; unfold hasT at h; dsimp only at h ⊢; intro e; rw [e] at h; cases h)
    refine lskip rfl rfl rfl rfl rfl ?_
    refine lskip rfl rfl rfl rfl rfl ?_
    refine lskip rfl rfl rfl rfl rfl ?_
    refine lskip rfl rfl rfl rfl rfl ?_
    refine lskip rfl rfl rfl rfl rfl ?_
    refine ls (op (p_pickt rfl rfl) rfl) ?_
    refine ln ?_
    refine nthen ?_
    refine cc rfl (fun h => ?_) (fun h => by cases h)
    refine cs ?_
    refine cr ?_
    refine ls (op (p_asg rfl) rfl) ?_
    refine ln ?_
    refine nthen ?_
    refine cret ?_
    refine xret (fun _ _ h => h) ?_
    refine nmono (conv (i := 0) rfl mit_tr) ?_
    refine rret (is := [0, 0]) () (Or.inl rfl) (Res.t rfl Res.d) ?_ rfl (by repeat' (first | constructor | apply Sub.suf))
    simp [packV, hTU]
   ·
    intro h31
    have hhas : hasT U k = true := by have h := h31; simp only [Bool.not_eq_false'] at h; exact h
    obtain ⟨lv, hlv⟩ := Option.isSome_iff_exists.1 hhas
    have hgl : getL U k = lv := by simp [getL, hlv]
    refine lwant rfl rfl rfl rfl (op (p_move rfl) rfl) ?_
    refine lwant rfl rfl rfl rfl (op (p_move rfl) rfl) ?_
    refine lwant rfl rfl rfl rfl (op (p_move rfl) rfl) ?_
    refine lwant rfl rfl rfl rfl (o_callv (is := []) rfl Tryz.call83 (c_lineSame l (getL U k) _ _ _ _ (hf _ hxT)) rfl rfl rfl (by repeat' (first | constructor | apply Sub.suf)) rfl) ?_
    refine le ?_; intro x35
    refine lwant rfl rfl rfl rfl (op (p_not rfl) rfl) ?_
    refine ls (op (p_pickf rfl rfl) rfl) ?_
    refine ln ?_
    refine nthen ?_
    refine cc rfl ?_ ?_
    ·
     intro h37
     have hlk : ¬ l = getL U k := by simpa using h37
     have hTU : ¬ T = U := ne_of_one hso hxT (by dsimp only; rw [hlv]; intro e; injection e with e; exact hlk (by rw [hgl, e]))
     refine cs ?_
     refine cr ?_
     refine ls (op (p_asg rfl) rfl) ?_
     refine ln ?_
     refine nthen ?_
     refine cret ?_
     refine xret (fun _ _ h => h) ?_
     refine nmono (conv (i := 0) rfl mit_tr) ?_
     refine rret (is := [0, 0]) () (Or.inl rfl) (Res.t rfl Res.d) ?_ rfl (by repeat' (first | constructor | apply Sub.suf))
     simp [packV, hTU]
    ·
     intro h37
     have hlk : l = getL U k := by simpa using h37
     refine cskip ?_
     refine nblock ?_
     refine nnext ⟨K ++ [(k, l)], fun x hx => by rcases List.mem_append.1 hx with hx | hx; exact hKU x hx; rw [List.mem_singleton.1 hx]; dsimp only; rw [hlv, hlk, hgl]⟩ (by dsimp only; simp; omega) (wk (is := [0, 0]) (by repeat (first | exact subσ.nil _ | refine subσ.cons rfl ?_)) rfl (by repeat' (first | constructor | apply Sub.suf)))
  ·
   have hTU : T = U := eq_of_all hso hsu hlen fun x hx => hKU x (Classical.byContradiction fun h => hK ⟨x, hx, h⟩)
   refine cr ?_
   refine ls (o_mnextN rfl (by repeat' constructor) hK rfl) ?_
   refine ls (op (p_ext rfl (by repeat' constructor)) rfl) ?_
   refine ln ?_
   refine nthen ?_
   refine cs ?_
   refine cc rfl (fun h => by cases h) (fun h => ?_)
   refine cexit ?_
   refine xthen ?_
   refine xthen ?_
   refine xblock ?_
   refine nthen ?_
   refine cs ?_
   refine cr ?_
   refine ls (op (p_asg rfl) rfl) ?_
   refine ln ?_
   refine nthen ?_
   refine cret ?_
   refine xret (fun _ _ h => h) ?_
   refine nmono (conv (i := 0) rfl mit_tr) ?_
   refine rret (is := [0, 0]) () (Or.inl rfl) (Res.t rfl Res.d) ?_ rfl (by repeat' (first | constructor | apply Sub.suf))
   simp [packV, hTU]

set_option maxRecDepth 100000 in
theorem c_tSame (p b q d : Nat) (T U : List File) (hf : ∀ x ∈ T, x.2.length ≤ 2000000) : Con Tryz.prog 37 [.pointer (some ⟨p, 0, none⟩), .pointer (some ⟨q, 0, none⟩)] [box p 120 [.map (some b)], tr b T, box q 120 [.map (some d)], tr d U] [] Unit (fun _ => .bool (decide (T = U))) (fun _ => [box p 120 [.map (some b)], tr b T, box q 120 [.map (some d)], tr d U]) (fun _ => []) := by
 refine con Tryz.func37 rfl Tryz.ntmps37 rfl ?_
 intro M0 F0 w0
 refine cs ?_
 refine cr ?_
 refine ls (op (p_asg rfl) rfl) ?_
 refine ln ?_
 refine nthen ?_
 refine cs ?_
 refine cd [8] [(3, p, 0, _), (7, q, 0, _)] TryzX.mixed (TOk.t (isBoxS (by repeat' constructor) (k := 1) (by repeat (first | exact Cut.d | apply Cut.t | apply Cut.s))) (TOk.t (isBoxS (by repeat' constructor) (k := 1) (by repeat (first | exact Cut.d | apply Cut.t | apply Cut.s))) TOk.d)) ?_
 refine tk 0 rfl (by kernel_rfl) (fun _ _ _ h => h) gnone (TTany _) (p_move rfl) rfl ?_
 refine tk 1 rfl (by kernel_rfl) (fun _ _ _ h => h) gnone (TTany _) (p_nilck rfl) rfl ?_
 refine tk 2 rfl (by kernel_rfl) (fun _ _ _ h => h) gnone (TTany _) (p_fa fa120_0 rfl) rfl ?_
 refine tk 3 rfl (by kernel_rfl) (fun _ _ _ h => h) gnone (TTat (List.Mem.head _)) (p_ld Tryz.isAgg118 rfl) rfl ?_
 refine tk 4 rfl (by kernel_rfl) (fun _ _ _ h => h) gnone (TTany _) (p_move rfl) rfl ?_
 refine tk 5 rfl (by kernel_rfl) (fun _ _ _ h => h) gnone (TTany _) (p_nilck rfl) rfl ?_
 refine tk 6 rfl (by kernel_rfl) (fun _ _ _ h => h) gnone (TTany _) (p_fa fa120_0 rfl) rfl ?_
 refine tk 7 rfl (by kernel_rfl) (fun _ _ _ h => h) gnone (TTat (List.Mem.tail _ (List.Mem.head _))) (p_ld Tryz.isAgg118 rfl) rfl ?_
 refine df 8 (by kernel_rfl) ?_
 refine doR rfl (o_call (is := [1, 2]) Tryz.call82 (c_mEq b d T U hf) rfl rfl (by repeat' (first | constructor | apply Sub.suf)) rfl) (TOk.x (by kernel_rfl) (TOk.x (by kernel_rfl) TOk.d)) ?_
 refine ea ?_; intro x13
 refine tk 9 rfl (by kernel_rfl) (fun _ _ _ h => h) gnone (TTany _) (p_asg rfl) rfl ?_
 refine dn (by kernel_rfl) ?_
 refine nthen ?_
 refine cret ?_
 refine xret (fun _ _ h => h) ?_
 refine rret (is := [2, 0, 1, 0]) () (Or.inl rfl) (Res.t rfl Res.d) (rfl) rfl (by repeat' (first | constructor | apply Sub.suf))

end Go.Proofs.YtdbiillompeclaaGreatDoor.X

end
section
set_option linter.unusedVariables false
set_option linter.unusedSimpArgs false
namespace Go.Proofs.YtdbiillompeclaaGreatDoor.X
open Go Go.RowKit Go.Proofs Go.Sx
attribute [local irreducible] slA isA box row



end Go.Proofs.YtdbiillompeclaaGreatDoor.X

end
section
set_option linter.unusedVariables false
set_option linter.unusedSimpArgs false
namespace Go.Proofs.YtdbiillompeclaaGreatDoor.X
open Go Go.RowKit Go.Proofs Go.Sx
attribute [local irreducible] slA isA box row


theorem inf9x : ∃ i0, Tryz.prog.info? 9 = some i0 := by
 obtain ⟨i0, h, _⟩ := info_parts inf9
 exact ⟨i0, h⟩

set_option maxRecDepth 100000 in
theorem c_lineStands (l part : List ByteArray) (A B : Option Addr) (c c' : Nat) (z : Int) (hl : l.length ≤ 2000000) (hp : part.length ≤ 2000000) (hc : l.length ≤ c) : Con Tryz.prog 161 [.slice A l.length c, .int .i64 z, .slice B part.length c'] [] [slA A l, slA B part] Unit (fun _ => .bool (standsB l z part)) (fun _ => []) (fun _ => []) := by
 refine con Tryz.func161 rfl Tryz.ntmps161 rfl ?_
 intro M0 F0 w0
 refine cs ?_
 refine cr ?_
 refine ls (op (p_asg rfl) rfl) ?_
 refine ln ?_
 refine nthen ?_
 refine cs ?_
 rcases stands_cases l z part with h1 | ⟨h1, h2⟩ | ⟨h1, h2, h3⟩ | ⟨k, rfl, h4⟩
 ·
  refine cr ?_
  refine ls (op (p_move rfl) rfl) ?_
  refine ls (op (p_icmp rfl rfl rfl) rfl) ?_
  refine fixL (congrArg Value.bool (decide_eq_false h1)) ?_
  refine ls (op (p_move rfl) rfl) ?_
  refine lskip rfl rfl rfl rfl rfl ?_
  refine lskip rfl rfl rfl rfl rfl ?_
  refine lskip rfl rfl rfl rfl rfl ?_
  refine lskip rfl rfl rfl rfl rfl ?_
  refine ls (op (p_pickf rfl rfl) rfl) ?_
  refine ls (op (p_move rfl) rfl) ?_
  refine lskip rfl rfl rfl rfl rfl ?_
  refine lskip rfl rfl rfl rfl rfl ?_
  refine lskip rfl rfl rfl rfl rfl ?_
  refine lskip rfl rfl rfl rfl rfl ?_
  refine lskip rfl rfl rfl rfl rfl ?_
  refine lskip rfl rfl rfl rfl rfl ?_
  refine lskip rfl rfl rfl rfl rfl ?_
  refine ls (op (p_pickf rfl rfl) rfl) ?_
  refine ls (op (p_move rfl) rfl) ?_
  refine lskip rfl rfl rfl rfl rfl ?_
  refine lskip rfl rfl rfl rfl rfl ?_
  refine lskip rfl rfl rfl rfl rfl ?_
  refine lskip rfl rfl rfl rfl rfl ?_
  refine lskip rfl rfl rfl rfl rfl ?_
  refine lskip rfl rfl rfl rfl rfl ?_
  refine lskip rfl rfl rfl rfl rfl ?_
  refine lskip rfl rfl rfl rfl rfl ?_
  refine lskip rfl rfl rfl rfl rfl ?_
  refine ls (op (p_pickf rfl rfl) rfl) ?_
  refine ls (op (p_asg rfl) rfl) ?_
  refine ln ?_
  refine nthen ?_
  refine cret ?_
  refine xret (fun _ _ h => h) ?_
  refine rret (is := []) () (Or.inl rfl) (Res.t rfl Res.d) ?_ rfl (by repeat' (first | constructor | apply Sub.suf))
  simp [packV, standsB, h1]
 ·
  refine cr ?_
  refine ls (op (p_move rfl) rfl) ?_
  refine ls (op (p_icmp rfl rfl rfl) rfl) ?_
  refine fixL (congrArg Value.bool (decide_eq_true h1)) ?_
  refine ls (op (p_move rfl) rfl) ?_
  refine lwant rfl rfl rfl rfl (op (p_move rfl) rfl) ?_
  refine lwant rfl rfl rfl rfl (op (p_move rfl) rfl) ?_
  refine lwant rfl rfl rfl rfl (op (p_lenl rfl Tryz.underlying37) rfl) ?_
  refine lwant rfl rfl rfl rfl (op (p_icmp rfl rfl rfl) rfl) ?_
  refine fixL (congrArg Value.bool (decide_eq_false h2)) ?_
  refine ls (op (p_pickt rfl rfl) rfl) ?_
  refine ls (op (p_move rfl) rfl) ?_
  refine lskip rfl rfl rfl rfl rfl ?_
  refine lskip rfl rfl rfl rfl rfl ?_
  refine lskip rfl rfl rfl rfl rfl ?_
  refine lskip rfl rfl rfl rfl rfl ?_
  refine lskip rfl rfl rfl rfl rfl ?_
  refine lskip rfl rfl rfl rfl rfl ?_
  refine lskip rfl rfl rfl rfl rfl ?_
  refine ls (op (p_pickf rfl rfl) rfl) ?_
  refine ls (op (p_move rfl) rfl) ?_
  refine lskip rfl rfl rfl rfl rfl ?_
  refine lskip rfl rfl rfl rfl rfl ?_
  refine lskip rfl rfl rfl rfl rfl ?_
  refine lskip rfl rfl rfl rfl rfl ?_
  refine lskip rfl rfl rfl rfl rfl ?_
  refine lskip rfl rfl rfl rfl rfl ?_
  refine lskip rfl rfl rfl rfl rfl ?_
  refine lskip rfl rfl rfl rfl rfl ?_
  refine lskip rfl rfl rfl rfl rfl ?_
  refine ls (op (p_pickf rfl rfl) rfl) ?_
  refine ls (op (p_asg rfl) rfl) ?_
  refine ln ?_
  refine nthen ?_
  refine cret ?_
  refine xret (fun _ _ h => h) ?_
  refine rret (is := []) () (Or.inl rfl) (Res.t rfl Res.d) ?_ rfl (by repeat' (first | constructor | apply Sub.suf))
  simp [packV, standsB, h2]
 ·
  refine cr ?_
  refine ls (op (p_move rfl) rfl) ?_
  refine ls (op (p_icmp rfl rfl rfl) rfl) ?_
  refine fixL (congrArg Value.bool (decide_eq_true h1)) ?_
  refine ls (op (p_move rfl) rfl) ?_
  refine lwant rfl rfl rfl rfl (op (p_move rfl) rfl) ?_
  refine lwant rfl rfl rfl rfl (op (p_move rfl) rfl) ?_
  refine lwant rfl rfl rfl rfl (op (p_lenl rfl Tryz.underlying37) rfl) ?_
  refine lwant rfl rfl rfl rfl (op (p_icmp rfl rfl rfl) rfl) ?_
  refine fixL (congrArg Value.bool (decide_eq_true h2)) ?_
  refine ls (op (p_pickt rfl rfl) rfl) ?_
  refine ls (op (p_move rfl) rfl) ?_
  refine lwant rfl rfl rfl rfl (op (p_move rfl) rfl) ?_
  refine lwant rfl rfl rfl rfl (op (p_lenl rfl Tryz.underlying37) rfl) ?_
  refine lwant rfl rfl rfl rfl (op (p_move rfl) rfl) ?_
  refine lwant rfl rfl rfl rfl (op (p_lenl rfl Tryz.underlying37) rfl) ?_
  refine lwant rfl rfl rfl rfl (op (p_move rfl) rfl) ?_
  refine lwant rfl rfl rfl rfl (op (p_sub rfl rfl (by omega)) rfl) ?_
  refine lwant rfl rfl rfl rfl (op (p_icmp rfl rfl rfl) rfl) ?_
  refine fixL (congrArg Value.bool (decide_eq_false h3)) ?_
  refine ls (op (p_pickt rfl rfl) rfl) ?_
  refine ls (op (p_move rfl) rfl) ?_
  refine lskip rfl rfl rfl rfl rfl ?_
  refine lskip rfl rfl rfl rfl rfl ?_
  refine lskip rfl rfl rfl rfl rfl ?_
  refine lskip rfl rfl rfl rfl rfl ?_
  refine lskip rfl rfl rfl rfl rfl ?_
  refine lskip rfl rfl rfl rfl rfl ?_
  refine lskip rfl rfl rfl rfl rfl ?_
  refine lskip rfl rfl rfl rfl rfl ?_
  refine lskip rfl rfl rfl rfl rfl ?_
  refine ls (op (p_pickf rfl rfl) rfl) ?_
  refine ls (op (p_asg rfl) rfl) ?_
  refine ln ?_
  refine nthen ?_
  refine cret ?_
  refine xret (fun _ _ h => h) ?_
  refine rret (is := []) () (Or.inl rfl) (Res.t rfl Res.d) ?_ rfl (by repeat' (first | constructor | apply Sub.suf))
  simp only [packV, standsB]; rw [decide_eq_false h3]; simp
 ·
  refine cmono (fun a w h => subS (l' := (l.drop k).take part.length) (c := c) k (k + part.length) (by repeat (first | exact In.z | apply In.s)) (by omega) (by omega) hc (by simp) h) ?_
  refine cr ?_
  refine ls (op (p_move rfl) rfl) ?_
  refine ls (op (p_icmp rfl rfl rfl) rfl) ?_
  refine fixL (congrArg Value.bool (decide_eq_true (by omega))) ?_
  refine ls (op (p_move rfl) rfl) ?_
  refine lwant rfl rfl rfl rfl (op (p_move rfl) rfl) ?_
  refine lwant rfl rfl rfl rfl (op (p_move rfl) rfl) ?_
  refine lwant rfl rfl rfl rfl (op (p_lenl rfl Tryz.underlying37) rfl) ?_
  refine lwant rfl rfl rfl rfl (op (p_icmp rfl rfl rfl) rfl) ?_
  refine fixL (congrArg Value.bool (decide_eq_true (by omega))) ?_
  refine ls (op (p_pickt rfl rfl) rfl) ?_
  refine ls (op (p_move rfl) rfl) ?_
  refine lwant rfl rfl rfl rfl (op (p_move rfl) rfl) ?_
  refine lwant rfl rfl rfl rfl (op (p_lenl rfl Tryz.underlying37) rfl) ?_
  refine lwant rfl rfl rfl rfl (op (p_move rfl) rfl) ?_
  refine lwant rfl rfl rfl rfl (op (p_lenl rfl Tryz.underlying37) rfl) ?_
  refine lwant rfl rfl rfl rfl (op (p_move rfl) rfl) ?_
  refine lwant rfl rfl rfl rfl (op (p_sub rfl rfl (by omega)) rfl) ?_
  refine lwant rfl rfl rfl rfl (op (p_icmp rfl rfl rfl) rfl) ?_
  refine fixL (congrArg Value.bool (decide_eq_true (by omega))) ?_
  refine ls (op (p_pickt rfl rfl) rfl) ?_
  refine ls (op (p_move rfl) rfl) ?_
  refine lwant rfl rfl rfl rfl (op (p_move rfl) rfl) ?_
  refine lwant rfl rfl rfl rfl (op (p_move rfl) rfl) ?_
  refine lwant rfl rfl rfl rfl (op (p_move rfl) rfl) ?_
  refine lwant rfl rfl rfl rfl (op (p_move rfl) rfl) ?_
  refine lwant rfl rfl rfl rfl (op (p_lenl rfl Tryz.underlying37) rfl) ?_
  refine lwant rfl rfl rfl rfl (op (p_add rfl rfl (by omega)) rfl) ?_
  refine lwant rfl rfl rfl rfl (op (p_sl k (k + part.length) (by omega) (by omega) rfl (by omega) Tryz.underlying37 Tryz.sizeOf9 rfl rfl rfl) rfl) ?_
  refine fixL (slen (m' := ((l.drop k).take part.length).length) (by rw [List.length_take, List.length_drop]; omega)) ?_
  refine lwant rfl rfl rfl rfl (op (p_move rfl) rfl) ?_
  refine lwant rfl rfl rfl rfl (o_call (is := []) Tryz.call83 (c_lineSame ((l.drop k).take part.length) part _ _ _ _ (by rw [List.length_take]; omega)) rfl rfl (by repeat' (first | constructor | apply Sub.suf)) rfl) ?_
  refine le ?_; intro x33
  refine ls (op (p_pickt rfl rfl) rfl) ?_
  refine ls (op (p_asg rfl) rfl) ?_
  refine ln ?_
  refine nthen ?_
  refine cret ?_
  refine xret (fun _ _ h => h) ?_
  refine rret (is := []) () (Or.inl rfl) (Res.t rfl Res.d) ?_ rfl (by repeat' (first | constructor | apply Sub.suf))
  rw [standsB_nat h4]; rfl

set_option maxRecDepth 100000 in
theorem c_lineSplice (l old wi : List ByteArray) (A B C : Option Addr) (c c' c2 : Nat) (z : Int) (hl : l.length ≤ 2000000) (ho : old.length ≤ 2000000) (hw : l.length + wi.length ≤ 2000000) (hc : l.length ≤ c) : Con Tryz.prog 139 [.slice A l.length c, .int .i64 z, .slice B old.length c', .slice C wi.length c2] [] [slA A l, slA B old, slA C wi] (Option Addr × Nat) (fun y => .tuple #[.slice y.1 (splT l z old wi).length y.2, .bool (standsB l z old)]) (fun y => [row 9 y.1 y.2 (splT l z old wi)]) (fun _ => []) := by
 refine con Tryz.func139 rfl Tryz.ntmps139 rfl ?_
 intro M0 F0 w0
 refine cs ?_
 refine cr ?_
 refine ls (op (p_asg rfl) rfl) ?_
 refine ls (op (p_asg rfl) rfl) ?_
 refine ln ?_
 refine nthen ?_
 refine cs ?_
 refine cs ?_
 refine cr ?_
 refine ls (op (p_move rfl) rfl) ?_
 refine ls (op (p_move rfl) rfl) ?_
 refine ls (op (p_move rfl) rfl) ?_
 refine ls (o_call (is := []) Tryz.call161 (c_lineStands l old A B c c' z hl ho hc) rfl rfl (by repeat' (first | constructor | apply Sub.suf)) rfl) ?_
 refine le ?_; intro x13
 refine ls (op (p_not rfl) rfl) ?_
 refine ln ?_
 refine nthen ?_
 refine cc rfl ?_ ?_
 ·
  intro h14
  have hst : standsB l z old = false := by simpa using h14
  have hsp : splT l z old wi = [] := by simp [splT, hst]
  rw [hsp, hst]
  refine cmono (fun a w h => nilRow (α := ByteArray) 9 h) ?_
  refine cs ?_
  refine cr ?_
  refine ls (op (p_asg rfl) rfl) ?_
  refine ls (op (p_asg rfl) rfl) ?_
  refine ln ?_
  refine nthen ?_
  refine cret ?_
  refine xret (fun _ _ h => h) ?_
  refine rret (is := [0]) (none, 0) (Or.inl rfl) (Res.t rfl (Res.t rfl Res.d)) (rfl) rfl (by repeat' (first | constructor | apply Sub.suf))
 ·
  intro h14
  have hst : standsB l z old = true := by simpa using h14
  obtain ⟨k, rfl, hko, _⟩ := standsB_yes hst
  have hsp : splT l (k : Int) old wi = l.take k ++ wi ++ l.drop (k + old.length) := by unfold splT; rw [if_pos hst]; rfl
  rw [hsp, hst]
  have hlk : (l.take k).length = k := by rw [List.length_take]; omega
  have hld : (l.drop (k + old.length)).length = l.length - (k + old.length) := List.length_drop
  refine cskip ?_
  refine nthen ?_
  refine cs ?_
  refine cmono (fun a w h => subP (α := ByteArray) k (by repeat (first | exact In.z | apply In.s)) (by omega) h) ?_
  refine cmono (fun a w h => subS (l' := l.drop (k + old.length)) (c := c) (k + old.length) l.length (by repeat (first | exact In.z | apply In.s)) (by omega) (Nat.le_refl _) hc (by rw [List.take_of_length_le (by simp)]) h) ?_
  rcases emem (wi = []) (l.drop (k + old.length) = []) with ⟨hwi, hdr⟩ | ⟨hwi, hdr⟩ | hwi
  ·
   have hR : l.take k ++ wi ++ l.drop (k + old.length) = l.take k := by rw [hwi, hdr]; simp
   have hw0 : wi.length = 0 := by rw [hwi]; rfl
   have hd0 : l.length - (k + old.length) = 0 := by rw [← hld, hdr]; rfl
   refine cd [5, 12, 13] [] TryzX.mixed TOk.d ?_
   refine tk 0 rfl (by kernel_rfl) (fun _ _ _ h => h) gnone (TTany _) (p_move rfl) rfl ?_
   refine tk 1 rfl (by kernel_rfl) (fun _ _ _ h => h) gnone (TTany _) (p_move rfl) rfl ?_
   refine tk 2 rfl (by kernel_rfl) (fun _ _ _ h => h) gnone (TTany _) (p_move rfl) rfl ?_
   refine tk 3 rfl (by kernel_rfl) (fun _ _ _ h => h) gnone (TTany _) (p_slm k k (Nat.le_refl _) (by omega) rfl rfl Tryz.underlying37 Tryz.sizeOf9 rfl rfl rfl) rfl ?_
   refine fixA (slen2 (m' := (l.take k).length) (c' := (l.take k).length) (by omega) (by omega)) ?_
   refine tk 4 rfl (by kernel_rfl) (fun _ _ _ h => h) gnone (TTany _) (p_move rfl) rfl ?_
   refine fixA (slen (m' := 0) hw0) ?_
   refine tk 6 rfl (by kernel_rfl) (fun _ _ _ h => h) gnone (TTany _) (p_move rfl) rfl ?_
   refine tk 7 rfl (by kernel_rfl) (fun _ _ _ h => h) gnone (TTany _) (p_move rfl) rfl ?_
   refine tk 8 rfl (by kernel_rfl) (fun _ _ _ h => h) gnone (TTany _) (p_move rfl) rfl ?_
   refine tk 9 rfl (by kernel_rfl) (fun _ _ _ h => h) gnone (TTany _) (p_lenl rfl Tryz.underlying37) rfl ?_
   refine tk 10 rfl (by kernel_rfl) (fun _ _ _ h => h) gnone (TTany _) (p_add rfl rfl (by omega)) rfl ?_
   refine tk 11 rfl (by kernel_rfl) (fun _ _ _ h => h) gnone (TTany _) (p_sll (k + old.length) (by omega) (by omega) (by omega) Tryz.underlying37 Tryz.sizeOf9 rfl rfl) rfl ?_
   refine fixA (slen (m' := 0) (by omega)) ?_
   refine df 5 (by kernel_rfl) ?_
   refine doR rfl (op (p_app0 Tryz.underlying37 inf9x (Nat.le_refl _) rfl rfl) rfl) TOk.d ?_
   refine df 12 (by kernel_rfl) ?_
   refine doR rfl (op (p_app0 Tryz.underlying37 inf9x (Nat.le_refl _) rfl rfl) rfl) TOk.d ?_
   refine df 13 (by kernel_rfl) ?_
   refine doR rfl (o_call (is := []) Tryz.call74 (c_sCloneR (l.take k) _ _ (by omega)) rfl rfl (by repeat' (first | constructor | apply Sub.suf)) rfl) TOk.d ?_
   refine ea ?_; rintro ⟨A5, c5⟩
   refine tk 14 rfl (by kernel_rfl) (fun _ _ _ h => h) gnone (TTany _) (p_asg rfl) rfl ?_
   refine tk 15 rfl (by kernel_rfl) (fun _ _ _ h => h) gnone (TTany _) (p_asg rfl) rfl ?_
   refine dn (by kernel_rfl) ?_
   refine nthen ?_
   refine cret ?_
   refine xret (fun _ _ h => h) ?_
   rw [hR]
   refine rret (is := [0]) (A5, c5) (Or.inl rfl) (Res.t rfl (Res.t rfl Res.d)) (rfl) rfl (by repeat' (first | constructor | apply Sub.suf))
  ·
   have hR : l.take k ++ wi ++ l.drop (k + old.length) = l.take k ++ l.drop (k + old.length) := by rw [hwi]; simp
   have hw0 : wi.length = 0 := by rw [hwi]; rfl
   refine cd [5, 12, 13] [] TryzX.mixed TOk.d ?_
   refine tk 0 rfl (by kernel_rfl) (fun _ _ _ h => h) gnone (TTany _) (p_move rfl) rfl ?_
   refine tk 1 rfl (by kernel_rfl) (fun _ _ _ h => h) gnone (TTany _) (p_move rfl) rfl ?_
   refine tk 2 rfl (by kernel_rfl) (fun _ _ _ h => h) gnone (TTany _) (p_move rfl) rfl ?_
   refine tk 3 rfl (by kernel_rfl) (fun _ _ _ h => h) gnone (TTany _) (p_slm k k (Nat.le_refl _) (by omega) rfl rfl Tryz.underlying37 Tryz.sizeOf9 rfl rfl rfl) rfl ?_
   refine fixA (slen2 (m' := (l.take k).length) (c' := (l.take k).length) (by omega) (by omega)) ?_
   refine tk 4 rfl (by kernel_rfl) (fun _ _ _ h => h) gnone (TTany _) (p_move rfl) rfl ?_
   refine fixA (slen (m' := 0) hw0) ?_
   refine tk 6 rfl (by kernel_rfl) (fun _ _ _ h => h) gnone (TTany _) (p_move rfl) rfl ?_
   refine tk 7 rfl (by kernel_rfl) (fun _ _ _ h => h) gnone (TTany _) (p_move rfl) rfl ?_
   refine tk 8 rfl (by kernel_rfl) (fun _ _ _ h => h) gnone (TTany _) (p_move rfl) rfl ?_
   refine tk 9 rfl (by kernel_rfl) (fun _ _ _ h => h) gnone (TTany _) (p_lenl rfl Tryz.underlying37) rfl ?_
   refine tk 10 rfl (by kernel_rfl) (fun _ _ _ h => h) gnone (TTany _) (p_add rfl rfl (by omega)) rfl ?_
   refine tk 11 rfl (by kernel_rfl) (fun _ _ _ h => h) gnone (TTany _) (p_sll (k + old.length) (by omega) (by omega) (by omega) Tryz.underlying37 Tryz.sizeOf9 rfl rfl) rfl ?_
   refine fixA (slen (m' := (l.drop (k + old.length)).length) (by omega)) ?_
   refine df 5 (by kernel_rfl) ?_
   refine doR rfl (op (p_app0 Tryz.underlying37 inf9x (Nat.le_refl _) rfl rfl) rfl) TOk.d ?_
   refine df 12 (by kernel_rfl) ?_
   refine doR rfl (o_appF Tryz.underlying37 inf9 rfl (by decide) (by decide) rfl rfl rfl (by rw [hlk, hld]; omega) hdr (by repeat' (first | constructor | apply Sub.suf)) rfl) TOk.d ?_
   refine ea ?_; rintro ⟨A4, c4⟩
   refine amono (fun a w h => Go.Sx.freeze (i := 0) rfl h) ?_
   refine df 13 (by kernel_rfl) ?_
   refine doR rfl (o_call (is := []) Tryz.call74 (c_sCloneR (l.take k ++ l.drop (k + old.length)) A4 c4 (by rw [List.length_append]; omega)) rfl rfl (by repeat' (first | constructor | apply Sub.suf)) rfl) TOk.d ?_
   refine ea ?_; rintro ⟨A5, c5⟩
   refine tk 14 rfl (by kernel_rfl) (fun _ _ _ h => h) gnone (TTany _) (p_asg rfl) rfl ?_
   refine tk 15 rfl (by kernel_rfl) (fun _ _ _ h => h) gnone (TTany _) (p_asg rfl) rfl ?_
   refine dn (by kernel_rfl) ?_
   refine nthen ?_
   refine cret ?_
   refine xret (fun _ _ h => h) ?_
   rw [hR]
   refine rret (is := [0]) (A5, c5) (Or.inl rfl) (Res.t rfl (Res.t rfl Res.d)) (rfl) rfl (by repeat' (first | constructor | apply Sub.suf))
  ·
   have hR : l.take k ++ wi ++ l.drop (k + old.length) = l.take k ++ wi ++ l.drop (k + old.length) := rfl
   refine cd [5, 12, 13] [] TryzX.mixed TOk.d ?_
   refine tk 0 rfl (by kernel_rfl) (fun _ _ _ h => h) gnone (TTany _) (p_move rfl) rfl ?_
   refine tk 1 rfl (by kernel_rfl) (fun _ _ _ h => h) gnone (TTany _) (p_move rfl) rfl ?_
   refine tk 2 rfl (by kernel_rfl) (fun _ _ _ h => h) gnone (TTany _) (p_move rfl) rfl ?_
   refine tk 3 rfl (by kernel_rfl) (fun _ _ _ h => h) gnone (TTany _) (p_slm k k (Nat.le_refl _) (by omega) rfl rfl Tryz.underlying37 Tryz.sizeOf9 rfl rfl rfl) rfl ?_
   refine fixA (slen2 (m' := (l.take k).length) (c' := (l.take k).length) (by omega) (by omega)) ?_
   refine tk 4 rfl (by kernel_rfl) (fun _ _ _ h => h) gnone (TTany _) (p_move rfl) rfl ?_
   skip
   refine tk 6 rfl (by kernel_rfl) (fun _ _ _ h => h) gnone (TTany _) (p_move rfl) rfl ?_
   refine tk 7 rfl (by kernel_rfl) (fun _ _ _ h => h) gnone (TTany _) (p_move rfl) rfl ?_
   refine tk 8 rfl (by kernel_rfl) (fun _ _ _ h => h) gnone (TTany _) (p_move rfl) rfl ?_
   refine tk 9 rfl (by kernel_rfl) (fun _ _ _ h => h) gnone (TTany _) (p_lenl rfl Tryz.underlying37) rfl ?_
   refine tk 10 rfl (by kernel_rfl) (fun _ _ _ h => h) gnone (TTany _) (p_add rfl rfl (by omega)) rfl ?_
   refine tk 11 rfl (by kernel_rfl) (fun _ _ _ h => h) gnone (TTany _) (p_sll (k + old.length) (by omega) (by omega) (by omega) Tryz.underlying37 Tryz.sizeOf9 rfl rfl) rfl ?_
   refine fixA (slen (m' := (l.drop (k + old.length)).length) (by omega)) ?_
   refine df 5 (by kernel_rfl) ?_
   refine doR rfl (o_appF Tryz.underlying37 inf9 rfl (by decide) (by decide) rfl rfl rfl (by rw [hlk]; omega) hwi (by repeat' (first | constructor | apply Sub.suf)) rfl) TOk.d ?_
   refine ea ?_; rintro ⟨A3, c3⟩
   refine df 12 (by kernel_rfl) ?_
   refine doR rfl (o_appX (i := 0) Tryz.underlying37 inf9 rfl (by decide) (by decide) rfl rfl (by rw [List.length_append, hlk, hld]; omega) rfl (by repeat' (first | constructor | apply Sub.suf)) rfl) TOk.d ?_
   refine ea ?_; rintro ⟨A4, c4⟩
   refine amono (fun a w h => Go.Sx.freeze (i := 0) rfl h) ?_
   refine df 13 (by kernel_rfl) ?_
   refine doR rfl (o_call (is := []) Tryz.call74 (c_sCloneR (l.take k ++ wi ++ l.drop (k + old.length)) A4 c4 (by rw [List.length_append, List.length_append]; omega)) rfl rfl (by repeat' (first | constructor | apply Sub.suf)) rfl) TOk.d ?_
   refine ea ?_; rintro ⟨A5, c5⟩
   refine tk 14 rfl (by kernel_rfl) (fun _ _ _ h => h) gnone (TTany _) (p_asg rfl) rfl ?_
   refine tk 15 rfl (by kernel_rfl) (fun _ _ _ h => h) gnone (TTany _) (p_asg rfl) rfl ?_
   refine dn (by kernel_rfl) ?_
   refine nthen ?_
   refine cret ?_
   refine xret (fun _ _ h => h) ?_
   refine rret (is := [0]) (A5, c5) (Or.inl rfl) (Res.t rfl (Res.t rfl Res.d)) (rfl) rfl (by repeat' (first | constructor | apply Sub.suf))

set_option maxRecDepth 100000 in
theorem c_pFits (e : Int) : Con Tryz.prog 103 [.int .i64 e] [] [] Unit (fun _ => .int .i64 (if e = 0 then 0 else 31)) (fun _ => []) (fun _ => []) := by
 refine con Tryz.func103 rfl Tryz.ntmps103 rfl ?_
 intro M0 F0 w0
 refine cs ?_
 refine cr ?_
 refine ls (op (p_asg rfl) rfl) ?_
 refine ln ?_
 refine nthen ?_
 refine cs ?_
 refine cs ?_
 refine cr ?_
 refine ls (op (p_move rfl) rfl) ?_
 refine ls (op (p_icmp rfl rfl rfl) rfl) ?_
 refine ln ?_
 refine nthen ?_
 refine cc rfl ?_ ?_
 ·
  intro h4
  have he : ¬ e = 0 := by simpa using h4
  refine cs ?_
  refine cr ?_
  refine ls (op (p_asg rfl) rfl) ?_
  refine ln ?_
  refine nthen ?_
  refine cret ?_
  refine xret (fun _ _ h => h) ?_
  refine rret (is := []) () (Or.inl rfl) (Res.t rfl Res.d) ?_ rfl (by repeat' (first | constructor | apply Sub.suf))
  rw [if_neg he]; rfl
 ·
  intro h4
  have he : e = 0 := by simpa using h4
  refine cskip ?_
  refine nthen ?_
  refine cs ?_
  refine cr ?_
  refine ls (op (p_asg rfl) rfl) ?_
  refine ln ?_
  refine nthen ?_
  refine cret ?_
  refine xret (fun _ _ h => h) ?_
  refine rret (is := []) () (Or.inl rfl) (Res.t rfl Res.d) ?_ rfl (by repeat' (first | constructor | apply Sub.suf))
  rw [if_pos he]; rfl

set_option maxRecDepth 100000 in
theorem c_pCalls : Con Tryz.prog 105 [] [] [] Nat (fun b => .map (some b)) (fun b => [obj b (.map #[{ key := .int .i64 1, val := .func (.func 25) #[] #[], born := 0 }, { key := .int .i64 2, val := .func (.func 129) #[] #[], born := 1 }] 2)]) (fun _ => []) := by
 refine con Tryz.func105 rfl Tryz.ntmps105 rfl ?_
 intro M0 F0 w0
 refine cs ?_
 refine cr ?_
 refine ls (op (p_asg rfl) rfl) ?_
 refine ln ?_
 refine nthen ?_
 refine cs ?_
 refine cr ?_
 refine ls (o_mmkx rfl) ?_
 refine le ?_; intro m1
 refine ls (o_insx Tryz.underlying157 Tryz.underlying3 rfl rfl rfl rfl (by repeat' constructor) (by repeat' constructor)) ?_
 refine ls (o_insx Tryz.underlying157 Tryz.underlying3 rfl rfl rfl rfl (by repeat' constructor) (by repeat' constructor)) ?_
 refine ls (op (p_move rfl) rfl) ?_
 refine ls (op (p_asg rfl) rfl) ?_
 refine ln ?_
 refine nthen ?_
 refine cret ?_
 refine xret (fun _ _ h => h) ?_
 refine rret (is := [0]) m1 (Or.inl rfl) (Res.t rfl Res.d) (rfl) rfl (by repeat' (first | constructor | apply Sub.suf))

end Go.Proofs.YtdbiillompeclaaGreatDoor.X

end
section
set_option linter.unusedVariables false
set_option linter.unusedSimpArgs false
namespace Go.Proofs.YtdbiillompeclaaGreatDoor.X
open Go Go.RowKit Go.Proofs Go.Sx
attribute [local irreducible] slA isA box row


set_option maxRecDepth 100000 in
theorem c_pHunk (p b : Nat) (T : List File) (pr : Prim) (y : Rp.Lay Prim) (hp : pr.fit) (hT : Tfit T) (hb : ∀ u, (getL T u).length + pr.new.length ≤ 2000000) : Con Tryz.prog 102 [.pointer (some ⟨p, 0, none⟩), sv pr y] [box p 120 [.map (some b)], tr b T] (Rp.asn pr y) {q : List File × Int // q = hunkT T pr} (fun q => .int .i64 q.1.2) (fun q => [box p 120 [.map (some b)], tr b q.1.1]) (fun _ => []) := by
 refine con Tryz.func102 rfl Tryz.ntmps102 rfl ?_
 intro M0 F0 w0
 refine cs ?_
 refine cr ?_
 refine ls (o_box rfl rfl rfl) ?_
 refine le ?_; intro b3
 refine ls (op (p_asg rfl) rfl) ?_
 refine ln ?_
 refine nthen ?_
 refine cs ?_
 refine cr ?_
 refine ls (op (p_move rfl) rfl) ?_
 refine ls (op (p_fa fa39_1 rfl) rfl) ?_
 refine ls (o_ld Tryz.isAgg9 rfl (by repeat' constructor) (by repeat' constructor) rfl) ?_
 refine ls (o_call (is := [1, 1]) Tryz.call28 (c_tGet p b T hT pr.name) rfl rfl (by repeat' (first | constructor | apply Sub.suf)) rfl) ?_
 refine le ?_; rintro ⟨A1, c1⟩
 refine lpure (St.rowcap (α := ByteArray) (e := 9) (by repeat' constructor)) ?_
 intro hcap
 refine lmono (fun a w h => freezeN (i := 0) rfl h) ?_
 refine ls (op (p_move rfl) rfl) ?_
 refine ls (op (p_ext rfl (by repeat' constructor)) rfl) ?_
 refine ls (op (p_ext rfl (by repeat' constructor)) rfl) ?_
 refine ls (op (p_asg rfl) rfl) ?_
 refine ls (op (p_asg rfl) rfl) ?_
 refine ln ?_
 refine nthen ?_
 refine cs ?_
 refine cr ?_
 refine ls (op (p_move rfl) rfl) ?_
 refine ls (op (p_fa fa39_3 rfl) rfl) ?_
 refine ls (o_ld Tryz.isAgg3 rfl (by repeat' constructor) (by repeat' constructor) rfl) ?_
 refine ls (op (p_fa fa39_4 rfl) rfl) ?_
 refine ls (o_ld Tryz.isAgg37 rfl (by repeat' constructor) (by repeat' constructor) rfl) ?_
 refine ls (op (p_fa fa39_5 rfl) rfl) ?_
 refine ls (o_ld Tryz.isAgg37 rfl (by repeat' constructor) (by repeat' constructor) rfl) ?_
 refine ls (o_call (is := []) Tryz.call139 (c_lineSplice (getL T pr.name) pr.old pr.new A1 y.1.1 y.2.1 c1 y.1.2 y.2.2 pr.pos (hT.get _) hp.o (hb _) hcap) rfl rfl (by repeat' (first | constructor | apply Sub.suf)) rfl) ?_
 refine le ?_; rintro ⟨A2, c2⟩
 refine lmono (fun a w h => freezeN (i := 0) rfl h) ?_
 refine ls (op (p_move rfl) rfl) ?_
 refine ls (op (p_ext rfl (by repeat' constructor)) rfl) ?_
 refine ls (op (p_ext rfl (by repeat' constructor)) rfl) ?_
 refine ls (op (p_asg rfl) rfl) ?_
 refine ls (op (p_asg rfl) rfl) ?_
 refine ln ?_
 refine nthen ?_
 refine cs ?_
 refine cs ?_
 refine cr ?_
 refine ls (op (p_move rfl) rfl) ?_
 refine ls (op (p_not rfl) rfl) ?_
 refine ls (op (p_move rfl) rfl) ?_
 refine splitL 29 rfl ?_ ?_
 ·
  intro h29
  have hno : hasT T pr.name = false := by simpa using h29
  refine lskip rfl rfl rfl rfl rfl ?_
  refine lskip rfl rfl rfl rfl rfl ?_
  refine ls (op (p_pickt rfl rfl) rfl) ?_
  refine ln ?_
  refine nthen ?_
  refine cc rfl (fun h => ?_) (fun h => by cases h)
  refine cs ?_
  refine cr ?_
  refine ls (op (p_asg rfl) rfl) ?_
  refine ln ?_
  refine nthen ?_
  refine cret ?_
  refine xret (fun _ _ h => h) ?_
  refine rret (is := [0, 0]) ⟨(T, 31), by simp [hunkT, hno]⟩ (Or.inl rfl) (Res.t rfl Res.d) (rfl) rfl (by repeat' (first | constructor | apply Sub.suf))
 ·
  intro h29
  have hyes : hasT T pr.name = true := by simpa using h29
  refine lwant rfl rfl rfl rfl (op (p_move rfl) rfl) ?_
  refine lwant rfl rfl rfl rfl (op (p_not rfl) rfl) ?_
  refine ls (op (p_pickf rfl rfl) rfl) ?_
  refine ln ?_
  refine nthen ?_
  refine cc rfl ?_ ?_
  ·
   intro h32
   have hst : standsB (getL T pr.name) pr.pos pr.old = false := by simpa using h32
   refine cs ?_
   refine cr ?_
   refine ls (op (p_asg rfl) rfl) ?_
   refine ln ?_
   refine nthen ?_
   refine cret ?_
   refine xret (fun _ _ h => h) ?_
   refine rret (is := [0, 0]) ⟨(T, 31), by simp [hunkT, hst]⟩ (Or.inl rfl) (Res.t rfl Res.d) (rfl) rfl (by repeat' (first | constructor | apply Sub.suf))
  ·
   intro h32
   have hst : standsB (getL T pr.name) pr.pos pr.old = true := by simpa using h32
   refine cskip ?_
   refine nthen ?_
   refine cs ?_
   refine cr ?_
   refine ls (op (p_move rfl) rfl) ?_
   refine ls (op (p_fa fa39_1 rfl) rfl) ?_
   refine ls (o_ld Tryz.isAgg9 rfl (by repeat' constructor) (by repeat' constructor) rfl) ?_
   refine ls (op (p_move rfl) rfl) ?_
   refine ls (o_call (is := [0, 0]) Tryz.call26 (c_tPut p b T pr.name (splT (getL T pr.name) pr.pos pr.old pr.new) A2 c2 (Nat.le_trans splT_len (hb _))) rfl rfl (by repeat' (first | constructor | apply Sub.suf)) rfl) ?_
   refine le ?_; rintro ⟨⟨T1, e1⟩, hq⟩
   refine ls (o_call (is := []) Tryz.call103 (c_pFits e1) rfl rfl (by repeat' (first | constructor | apply Sub.suf)) rfl) ?_
   refine le ?_; intro x38
   refine ls (op (p_asg rfl) rfl) ?_
   refine ln ?_
   refine nthen ?_
   refine cret ?_
   refine xret (fun _ _ h => h) ?_
   refine rret (is := [0, 0]) ⟨(T1, if e1 = 0 then 0 else 31), by unfold hunkT; rw [if_neg (show ¬ (hasT T pr.name = false ∨ standsB (getL T pr.name) pr.pos pr.old = false) by simp [hyes, hst]), ← hq]; rfl⟩ (Or.inl rfl) (Res.t rfl Res.d) (rfl) rfl (by repeat' (first | constructor | apply Sub.suf))

set_option maxRecDepth 100000 in
theorem c_pApply (p b : Nat) (T : List File) (pr : Prim) (y : Rp.Lay Prim) (hp : pr.fit) (hT : Tfit T) (hb : ∀ u, (getL T u).length + pr.new.length ≤ 2000000) : Con Tryz.prog 51 [.pointer (some ⟨p, 0, none⟩), sv pr y] [box p 120 [.map (some b)], tr b T] (Rp.asn pr y) {q : List File × Int // q = applyT T pr} (fun q => .int .i64 q.1.2) (fun q => [box p 120 [.map (some b)], tr b q.1.1]) (fun _ => []) := by
 refine con Tryz.func51 rfl Tryz.ntmps51 rfl ?_
 intro M0 F0 w0
 refine cs ?_
 refine cr ?_
 refine ls (o_box rfl rfl rfl) ?_
 refine le ?_; intro b3
 refine ls (op (p_asg rfl) rfl) ?_
 refine ln ?_
 refine nthen ?_
 refine cs ?_
 refine cb ?_
 refine cs ?_
 refine cr ?_
 refine ls (o_ldw Tryz.isAgg39 Tryz.sizeOf39 rfl (by repeat' constructor) (by rfl) rfl) ?_
 refine ls (o_call (is := []) Tryz.call101 (c_primRight pr y hp) rfl rfl (by repeat' (first | constructor | apply Sub.suf)) rfl) ?_
 refine le ?_; intro x7
 refine ls (op (p_not rfl) rfl) ?_
 refine ls (op (p_asg rfl) rfl) ?_
 refine ln ?_
 refine nthen ?_
 refine cc rfl ?_ ?_
 ·
  intro h5
  have hr : pr.right = false := by simpa using h5
  refine cs ?_
  refine cr ?_
  refine ls (op (p_asg rfl) rfl) ?_
  refine ln ?_
  refine nthen ?_
  refine cret ?_
  refine xret (fun _ _ h => h) ?_
  refine rret (is := [1, 1]) ⟨(T, 30), by simp [applyT, hr]⟩ (Or.inl rfl) (Res.t rfl Res.d) (rfl) rfl (by repeat' (first | constructor | apply Sub.suf))
 ·
  intro h5
  have hr : pr.right = true := by simpa using h5
  have hr0 : ¬ pr.right = false := by rw [hr]; decide
  refine cs ?_
  refine cr ?_
  refine ls (op (p_fa fa39_0 rfl) rfl) ?_
  refine ls (o_ld Tryz.isAgg3 rfl (by repeat' constructor) (by repeat' constructor) rfl) ?_
  refine ls (op (p_icmp rfl rfl rfl) rfl) ?_
  refine ls (op (p_asg rfl) rfl) ?_
  refine ln ?_
  refine nthen ?_
  refine cc rfl ?_ ?_
  ·
   intro h9
   have k0 : pr.kind = 0 := by simpa using h9
   refine cs ?_
   refine cr ?_
   refine ls (op (p_move rfl) rfl) ?_
   refine ls (o_ldw Tryz.isAgg39 Tryz.sizeOf39 rfl (by repeat' constructor) (by rfl) rfl) ?_
   refine ls (o_call (is := [1, 1]) Tryz.call102 (c_pHunk p b T pr y hp hT hb) rfl rfl (by repeat' (first | constructor | apply Sub.suf)) rfl) ?_
   refine le ?_; rintro ⟨⟨T1, e1⟩, hq⟩
   refine ls (op (p_asg rfl) rfl) ?_
   refine ln ?_
   refine nthen ?_
   refine cret ?_
   refine xret (fun _ _ h => h) ?_
   refine rret (is := [0, 0]) ⟨(T1, e1), by unfold applyT; rw [if_neg hr0, if_pos k0]; exact hq⟩ (Or.inl rfl) (Res.t rfl Res.d) (rfl) rfl (by repeat' (first | constructor | apply Sub.suf))
  ·
   intro h9
   have k0 : ¬ pr.kind = 0 := by simpa using h9
   refine cs ?_
   refine cr ?_
   refine ls (op (p_fa fa39_0 rfl) rfl) ?_
   refine ls (o_ld Tryz.isAgg3 rfl (by repeat' constructor) (by repeat' constructor) rfl) ?_
   refine ls (op (p_icmp rfl rfl rfl) rfl) ?_
   refine ls (op (p_asg rfl) rfl) ?_
   refine ln ?_
   refine nthen ?_
   refine cc rfl ?_ ?_
   ·
    intro h16
    have k3 : pr.kind = 3 := by simpa using h16
    refine cs ?_
    refine cr ?_
    refine ls (op (p_move rfl) rfl) ?_
    refine ls (op (p_fa fa39_1 rfl) rfl) ?_
    refine ls (o_ld Tryz.isAgg9 rfl (by repeat' constructor) (by repeat' constructor) rfl) ?_
    refine ls (op (p_fa fa39_2 rfl) rfl) ?_
    refine ls (o_ld Tryz.isAgg9 rfl (by repeat' constructor) (by repeat' constructor) rfl) ?_
    refine ls (o_call (is := [1, 1]) Tryz.call104 (c_tMove p b T pr.name pr.to) rfl rfl (by repeat' (first | constructor | apply Sub.suf)) rfl) ?_
    refine le ?_; rintro ⟨⟨T1, e1⟩, hq⟩
    refine ls (o_call (is := []) Tryz.call103 (c_pFits e1) rfl rfl (by repeat' (first | constructor | apply Sub.suf)) rfl) ?_
    refine le ?_; intro x26
    refine ls (op (p_asg rfl) rfl) ?_
    refine ln ?_
    refine nthen ?_
    refine cret ?_
    refine xret (fun _ _ h => h) ?_
    refine rret (is := [0, 0]) ⟨(T1, if e1 = 0 then 0 else 31), by unfold applyT; rw [if_neg hr0, if_neg k0, if_pos k3, ← hq]; rfl⟩ (Or.inl rfl) (Res.t rfl Res.d) (rfl) rfl (by repeat' (first | constructor | apply Sub.suf))
   ·
    intro h16
    have k3 : ¬ pr.kind = 3 := by simpa using h16
    refine cskip ?_
    refine nblock ?_
    refine nthen ?_
    refine cs ?_
    have h12 : pr.kind = 1 ∨ pr.kind = 2 := by rcases right_kind hr with h | h | h | h; exact absurd h k0; exact .inl h; exact .inr h; exact absurd h k3
    rcases h12 with k1 | k1
    ·
     refine cd [0, 3, 7, 8] [(2, b3, 0, _), (6, b3, 1, _)] TryzX.mixed (TOk.t (isBoxS (by repeat' constructor) (k := 1) (by repeat (first | exact Cut.d | apply Cut.t | apply Cut.s))) (TOk.t (isBoxS (by repeat' constructor) (k := 1) (by repeat (first | exact Cut.d | apply Cut.t | apply Cut.s))) TOk.d)) ?_
     refine tk 1 rfl (by kernel_rfl) (fun _ _ _ h => h) gnone (TTany _) (p_fa fa39_0 rfl) rfl ?_
     refine tk 2 rfl (by kernel_rfl) (fun _ _ _ h => h) gnone (TTat (List.Mem.head _)) (p_ld Tryz.isAgg3 rfl) rfl ?_
     refine fixA (congrArg (Value.int .i64) k1) ?_
     refine tk 4 rfl (by kernel_rfl) (fun _ _ _ h => h) gnone (TTany _) (p_move rfl) rfl ?_
     refine tk 5 rfl (by kernel_rfl) (fun _ _ _ h => h) gnone (TTany _) (p_fa fa39_1 rfl) rfl ?_
     refine tk 6 rfl (by kernel_rfl) (fun _ _ _ h => h) gnone (TTat (List.Mem.tail _ (List.Mem.head _))) (p_ld Tryz.isAgg9 rfl) rfl ?_
     refine df 0 (by kernel_rfl) ?_
     refine doR rfl (o_call (is := []) Tryz.call105 (c_pCalls) rfl rfl (by repeat' (first | constructor | apply Sub.suf)) rfl) (TOk.t (isBoxE fun _ => isBoxS (by repeat' constructor) (k := 1) (by repeat (first | exact Cut.d | apply Cut.t | apply Cut.s))) (TOk.t (isBoxE fun _ => isBoxS (by repeat' constructor) (k := 1) (by repeat (first | exact Cut.d | apply Cut.t | apply Cut.s))) TOk.d)) ?_
     refine ea ?_; intro bm
     refine df 3 (by kernel_rfl) ?_
     refine doR rfl (o_lookx Tryz.underlying157 Tryz.underlying3 rfl rfl (by repeat' constructor) (rfl) rfl) (TOk.x (by kernel_rfl) (TOk.t (isBoxS (by repeat' constructor) (k := 1) (by repeat (first | exact Cut.d | apply Cut.t | apply Cut.s))) TOk.d)) ?_
     refine df 7 (by kernel_rfl) ?_
     refine doR rfl (o_callv (is := [2, 2]) rfl Tryz.call25 (c_tAdd p b T pr.name) rfl rfl rfl (by repeat' (first | constructor | apply Sub.suf)) rfl) (TOk.x (by kernel_rfl) (TOk.x (by kernel_rfl) TOk.d)) ?_
     refine ea ?_; rintro ⟨⟨T1, e1⟩, hq⟩
     refine df 8 (by kernel_rfl) ?_
     refine doR rfl (o_call (is := []) Tryz.call103 (c_pFits e1) rfl rfl (by repeat' (first | constructor | apply Sub.suf)) rfl) (TOk.x (by kernel_rfl) (TOk.x (by kernel_rfl) TOk.d)) ?_
     refine ea ?_; intro x35
     refine tk 9 rfl (by kernel_rfl) (fun _ _ _ h => h) gnone (TTany _) (p_asg rfl) rfl ?_
     refine dn (by kernel_rfl) ?_
     refine nthen ?_
     refine cret ?_
     refine xret (fun _ _ h => h) ?_
     refine rret (is := [0, 0]) ⟨(T1, if e1 = 0 then 0 else 31), by unfold applyT; rw [if_neg hr0, if_neg k0, if_neg k3, if_pos k1, ← hq]; rfl⟩ (Or.inl rfl) (Res.t rfl Res.d) (rfl) rfl (by repeat' (first | constructor | apply Sub.suf))
    ·
     refine cd [0, 3, 7, 8] [(2, b3, 0, _), (6, b3, 1, _)] TryzX.mixed (TOk.t (isBoxS (by repeat' constructor) (k := 1) (by repeat (first | exact Cut.d | apply Cut.t | apply Cut.s))) (TOk.t (isBoxS (by repeat' constructor) (k := 1) (by repeat (first | exact Cut.d | apply Cut.t | apply Cut.s))) TOk.d)) ?_
     refine tk 1 rfl (by kernel_rfl) (fun _ _ _ h => h) gnone (TTany _) (p_fa fa39_0 rfl) rfl ?_
     refine tk 2 rfl (by kernel_rfl) (fun _ _ _ h => h) gnone (TTat (List.Mem.head _)) (p_ld Tryz.isAgg3 rfl) rfl ?_
     refine fixA (congrArg (Value.int .i64) k1) ?_
     refine tk 4 rfl (by kernel_rfl) (fun _ _ _ h => h) gnone (TTany _) (p_move rfl) rfl ?_
     refine tk 5 rfl (by kernel_rfl) (fun _ _ _ h => h) gnone (TTany _) (p_fa fa39_1 rfl) rfl ?_
     refine tk 6 rfl (by kernel_rfl) (fun _ _ _ h => h) gnone (TTat (List.Mem.tail _ (List.Mem.head _))) (p_ld Tryz.isAgg9 rfl) rfl ?_
     refine df 0 (by kernel_rfl) ?_
     refine doR rfl (o_call (is := []) Tryz.call105 (c_pCalls) rfl rfl (by repeat' (first | constructor | apply Sub.suf)) rfl) (TOk.t (isBoxE fun _ => isBoxS (by repeat' constructor) (k := 1) (by repeat (first | exact Cut.d | apply Cut.t | apply Cut.s))) (TOk.t (isBoxE fun _ => isBoxS (by repeat' constructor) (k := 1) (by repeat (first | exact Cut.d | apply Cut.t | apply Cut.s))) TOk.d)) ?_
     refine ea ?_; intro bm
     refine df 3 (by kernel_rfl) ?_
     refine doR rfl (o_lookx Tryz.underlying157 Tryz.underlying3 rfl rfl (by repeat' constructor) (rfl) rfl) (TOk.x (by kernel_rfl) (TOk.t (isBoxS (by repeat' constructor) (k := 1) (by repeat (first | exact Cut.d | apply Cut.t | apply Cut.s))) TOk.d)) ?_
     refine df 7 (by kernel_rfl) ?_
     refine doR rfl (o_callv (is := [2, 2]) rfl Tryz.call129 (c_tRem p b T pr.name) rfl rfl rfl (by repeat' (first | constructor | apply Sub.suf)) rfl) (TOk.x (by kernel_rfl) (TOk.x (by kernel_rfl) TOk.d)) ?_
     refine ea ?_; rintro ⟨⟨T1, e1⟩, hq⟩
     refine df 8 (by kernel_rfl) ?_
     refine doR rfl (o_call (is := []) Tryz.call103 (c_pFits e1) rfl rfl (by repeat' (first | constructor | apply Sub.suf)) rfl) (TOk.x (by kernel_rfl) (TOk.x (by kernel_rfl) TOk.d)) ?_
     refine ea ?_; intro x35
     refine tk 9 rfl (by kernel_rfl) (fun _ _ _ h => h) gnone (TTany _) (p_asg rfl) rfl ?_
     refine dn (by kernel_rfl) ?_
     refine nthen ?_
     refine cret ?_
     refine xret (fun _ _ h => h) ?_
     refine rret (is := [0, 0]) ⟨(T1, if e1 = 0 then 0 else 31), by unfold applyT; rw [if_neg hr0, if_neg k0, if_neg k3, if_neg (show ¬ pr.kind = 1 by omega), ← hq]; rfl⟩ (Or.inl rfl) (Res.t rfl Res.d) (rfl) rfl (by repeat' (first | constructor | apply Sub.suf))

end Go.Proofs.YtdbiillompeclaaGreatDoor.X

end
section
set_option linter.unusedVariables false
set_option linter.unusedSimpArgs false
namespace Go.Proofs.YtdbiillompeclaaGreatDoor.X
open Go Go.RowKit Go.Proofs Go.Sx
attribute [local irreducible] slA isA box row
def pH : Prim := ⟨0, (⟨#[97]⟩ : ByteArray), e0, 1, [(⟨#[121]⟩ : ByteArray)], [(⟨#[122]⟩ : ByteArray), (⟨#[122]⟩ : ByteArray)]⟩
def pA : Prim := ⟨1, (⟨#[97]⟩ : ByteArray), e0, 0, [], []⟩
def pM : Prim := ⟨3, (⟨#[97]⟩ : ByteArray), (⟨#[98]⟩ : ByteArray), 0, [], []⟩
def pN : Prim := ⟨3, (⟨#[98]⟩ : ByteArray), (⟨#[97]⟩ : ByteArray), 0, [], []⟩
theorem al3_fH : pH.fit := fitP (by decide)
theorem al3_fA : pA.fit := fitP (by decide)
theorem al3_fM : pM.fit := fitP (by decide)
theorem al3_fZ : Prim.zero.fit := fitP (by decide)
theorem al3_1 : applyT [] pA = ([((⟨#[97]⟩ : ByteArray), ([] : List ByteArray))], 0) := by kernel_rfl
theorem al3_2 : applyT [((⟨#[97]⟩ : ByteArray), [(⟨#[120]⟩ : ByteArray), (⟨#[121]⟩ : ByteArray)])] pH = ([((⟨#[97]⟩ : ByteArray), [(⟨#[120]⟩ : ByteArray), (⟨#[122]⟩ : ByteArray), (⟨#[122]⟩ : ByteArray)])], 0) := by kernel_rfl
theorem al3_3 : applyT [((⟨#[97]⟩ : ByteArray), [(⟨#[120]⟩ : ByteArray), (⟨#[122]⟩ : ByteArray), (⟨#[122]⟩ : ByteArray)])] pH.flip = ([((⟨#[97]⟩ : ByteArray), [(⟨#[120]⟩ : ByteArray), (⟨#[121]⟩ : ByteArray)])], 0) := by kernel_rfl
theorem al3_4 : applyT [((⟨#[97]⟩ : ByteArray), [(⟨#[120]⟩ : ByteArray), (⟨#[121]⟩ : ByteArray)])] pM = ([((⟨#[98]⟩ : ByteArray), [(⟨#[120]⟩ : ByteArray), (⟨#[121]⟩ : ByteArray)])], 0) := by kernel_rfl
theorem al3_5 : sortB pN.names = [(⟨#[97]⟩ : ByteArray), (⟨#[98]⟩ : ByteArray)] := (sortB_names pN).trans (by kernel_rfl)
theorem al3_6 : applyT [((⟨#[98]⟩ : ByteArray), [(⟨#[120]⟩ : ByteArray), (⟨#[121]⟩ : ByteArray)])] pH = ([((⟨#[98]⟩ : ByteArray), [(⟨#[120]⟩ : ByteArray), (⟨#[121]⟩ : ByteArray)])], 31) := by kernel_rfl
theorem al3_7 : applyT [((⟨#[98]⟩ : ByteArray), [(⟨#[120]⟩ : ByteArray), (⟨#[121]⟩ : ByteArray)])] Prim.zero = ([((⟨#[98]⟩ : ByteArray), [(⟨#[120]⟩ : ByteArray), (⟨#[121]⟩ : ByteArray)])], 30) := by kernel_rfl
theorem al3_8 : pH.right = true := by kernel_rfl
theorem al3_t : toB (textT [((⟨#[97]⟩ : ByteArray), [(⟨#[120]⟩ : ByteArray), (⟨#[122]⟩ : ByteArray), (⟨#[122]⟩ : ByteArray)])]) = (⟨#[97, 32, 51, 10, 120, 10, 122, 10, 122, 10]⟩ : ByteArray) := by kernel_rfl
theorem al3_l : (textT [((⟨#[97]⟩ : ByteArray), [(⟨#[120]⟩ : ByteArray), (⟨#[122]⟩ : ByteArray), (⟨#[122]⟩ : ByteArray)])]).length = 10 := by kernel_rfl
theorem al3_f4 : Tfit [((⟨#[97]⟩ : ByteArray), [(⟨#[120]⟩ : ByteArray), (⟨#[122]⟩ : ByteArray), (⟨#[122]⟩ : ByteArray)])] := fun x hx => by have : x = _ := List.mem_singleton.1 hx; subst this; decide
theorem al3_f1 : Tfit [((⟨#[97]⟩ : ByteArray), ([] : List ByteArray))] := fun x hx => by have : x = _ := List.mem_singleton.1 hx; subst this; decide
theorem al3_f0 : Tfit [] := fun x hx => by cases hx
theorem hb_of {T : List File} {p : Prim} (h : T.all (fun x => decide (x.2.length ≤ 100)) = true) (hp : p.new.length ≤ 100) (u : ByteArray) : (getL T u).length + p.new.length ≤ 2000000 := by
 have := Lmax.get (m := 100) (T := T) (fun x hx => by simpa using List.all_eq_true.1 h x hx) u
 omega
set_option maxRecDepth 100000 in
theorem c_primInvert (p : Prim) (y : Rp.Lay Prim) (hp : p.fit) : Con Tryz.prog 49 [sv p y] [] (Rp.asn p y) {x : Prim × Rp.Lay Prim // x.1 = p.flip} (fun x => sv x.1.1 x.1.2) (fun _ => []) (fun x => Rp.asn x.1.1 x.1.2) := by
 refine con Tryz.func49 rfl Tryz.ntmps49 rfl ?_
 intro M0 F0 w0
 refine cs ?_
 refine cr ?_
 refine ls (o_box rfl rfl rfl) ?_
 refine le ?_; intro b1
 refine ls (o_alloc Tryz.zeroValue39 rfl rfl) ?_
 refine le ?_; intro b2
 refine ln ?_
 refine nthen ?_
 refine cs ?_
 refine cr ?_
 refine ls (o_ldw Tryz.isAgg39 Tryz.sizeOf39 rfl (by repeat' constructor) (by rfl) rfl) ?_
 refine ls (o_call (is := []) Tryz.call48 (c_primClone p y hp) rfl rfl (by repeat' (first | constructor | apply Sub.suf)) rfl) ?_
 refine le ?_; intro y1
 refine ls (o_st rfl Tryz.sizeOf39 rfl rfl rfl rfl rfl (by repeat' constructor) (by repeat' constructor) (by repeat' constructor)) ?_
 refine ln ?_
 refine nthen ?_
 refine cs ?_
 refine cs ?_
 refine cr ?_
 refine ls (op (p_fa fa39_0 rfl) rfl) ?_
 refine ls (o_ld Tryz.isAgg3 rfl (by repeat' constructor) (by repeat' constructor) rfl) ?_
 refine ln ?_
 refine nthen ?_
 refine cb ?_
 refine cs ?_
 refine cr ?_
 refine ls (op (p_icmp rfl rfl rfl) rfl) ?_
 refine ls (op (p_asg rfl) rfl) ?_
 refine ln ?_
 refine nthen ?_
 refine cc rfl ?_ ?_
 ·
  intro h7
  try simp only [decide_eq_true_eq, decide_eq_false_iff_not, Bool.not_eq_true', Bool.not_eq_false', Int.not_lt, Int.not_le, ge_iff_le, Bool.not_true, Bool.not_false] at h7
  refine cr ?_
  refine ls (op (p_fa fa39_5 rfl) rfl) ?_
  refine ls (o_ld Tryz.isAgg37 rfl (by repeat' constructor) (by repeat' constructor) rfl) ?_
  refine ls (op (p_fa fa39_4 rfl) rfl) ?_
  refine ls (o_ld Tryz.isAgg37 rfl (by repeat' constructor) (by repeat' constructor) rfl) ?_
  refine ls (op (p_fa fa39_4 rfl) rfl) ?_
  refine ls (o_st rfl Tryz.sizeOf37 rfl rfl rfl rfl rfl (by repeat' constructor) (by repeat' constructor) (by repeat' constructor)) ?_
  refine ls (op (p_fa fa39_5 rfl) rfl) ?_
  refine ls (o_st rfl Tryz.sizeOf37 rfl rfl rfl rfl rfl (by repeat' constructor) (by repeat' constructor) (by repeat' constructor)) ?_
  refine ln ?_
  refine nblock ?_
  refine nthen ?_
  refine cs ?_
  refine cr ?_
  refine ls (o_ldw Tryz.isAgg39 Tryz.sizeOf39 rfl (by repeat' constructor) (by rfl) rfl) ?_
  refine ls (o_st rfl Tryz.sizeOf39 rfl rfl rfl rfl rfl (by repeat' constructor) (by repeat' constructor) (by repeat' constructor)) ?_
  refine ln ?_
  refine nthen ?_
  refine cret ?_
  refine xret (fun _ _ h => h) ?_
  refine rret (is := []) ⟨({ p with old := p.new, new := p.old }, (y1.2, y1.1)), by rw [flip0 h7]⟩ (Or.inl rfl) (Res.c rfl Tryz.isAgg39 Tryz.sizeOf39 (by repeat' constructor) (by rfl) Res.d) (rfl) rfl (by repeat' (first | constructor | apply Sub.suf))
 ·
  intro h7
  try simp only [decide_eq_true_eq, decide_eq_false_iff_not, Bool.not_eq_true', Bool.not_eq_false', Int.not_lt, Int.not_le, ge_iff_le, Bool.not_true, Bool.not_false] at h7
  refine cs ?_
  refine cs ?_
  refine cr ?_
  refine ls (op (p_icmp rfl rfl rfl) rfl) ?_
  refine ls (op (p_asg rfl) rfl) ?_
  refine ln ?_
  refine nthen ?_
  refine cc rfl ?_ ?_
  ·
   intro h15
   try simp only [decide_eq_true_eq, decide_eq_false_iff_not, Bool.not_eq_true', Bool.not_eq_false', Int.not_lt, Int.not_le, ge_iff_le, Bool.not_true, Bool.not_false] at h15
   refine cskip ?_
   refine nthen ?_
   refine cc rfl ?_ ?_
   ·
    intro h15b
    skip
    refine cr ?_
    refine ls (op (p_fa fa39_0 rfl) rfl) ?_
    refine ls (o_ld Tryz.isAgg3 rfl (by repeat' constructor) (by repeat' constructor) rfl) ?_
    refine ls (op (p_sub rfl rfl (by omega)) rfl) ?_
    refine ls (op (p_fa fa39_0 rfl) rfl) ?_
    refine ls (o_st rfl Tryz.sizeOf3 rfl rfl rfl rfl rfl (by repeat' constructor) (by repeat' constructor) (by repeat' constructor)) ?_
    refine ln ?_
    refine nblock ?_
    refine nthen ?_
    refine cs ?_
    refine cr ?_
    refine ls (o_ldw Tryz.isAgg39 Tryz.sizeOf39 rfl (by repeat' constructor) (by rfl) rfl) ?_
    refine ls (o_st rfl Tryz.sizeOf39 rfl rfl rfl rfl rfl (by repeat' constructor) (by repeat' constructor) (by repeat' constructor)) ?_
    refine ln ?_
    refine nthen ?_
    refine cret ?_
    refine xret (fun _ _ h => h) ?_
    refine rret (is := []) ⟨({ p with kind := 3 - p.kind }, y1), by rw [Prim.flip, if_neg h7, if_pos (Or.inl h15)]⟩ (Or.inl rfl) (Res.c rfl Tryz.isAgg39 Tryz.sizeOf39 (by repeat' constructor) (by rfl) Res.d) (rfl) rfl (by repeat' (first | constructor | apply Sub.suf))
   ·
    intro h15b
    simp only [decide_eq_false_iff_not] at h15b; exact absurd h15 h15b
  ·
   intro h15
   try simp only [decide_eq_true_eq, decide_eq_false_iff_not, Bool.not_eq_true', Bool.not_eq_false', Int.not_lt, Int.not_le, ge_iff_le, Bool.not_true, Bool.not_false] at h15
   refine cr ?_
   refine ls (op (p_icmp rfl rfl rfl) rfl) ?_
   refine ls (op (p_asg rfl) rfl) ?_
   refine ln ?_
   refine nthen ?_
   refine cc rfl ?_ ?_
   ·
    intro h15c
    simp only [decide_eq_true_eq] at h15c
    refine cr ?_
    refine ls (op (p_fa fa39_0 rfl) rfl) ?_
    refine ls (o_ld Tryz.isAgg3 rfl (by repeat' constructor) (by repeat' constructor) rfl) ?_
    refine ls (op (p_sub rfl rfl (by omega)) rfl) ?_
    refine ls (op (p_fa fa39_0 rfl) rfl) ?_
    refine ls (o_st rfl Tryz.sizeOf3 rfl rfl rfl rfl rfl (by repeat' constructor) (by repeat' constructor) (by repeat' constructor)) ?_
    refine ln ?_
    refine nblock ?_
    refine nthen ?_
    refine cs ?_
    refine cr ?_
    refine ls (o_ldw Tryz.isAgg39 Tryz.sizeOf39 rfl (by repeat' constructor) (by rfl) rfl) ?_
    refine ls (o_st rfl Tryz.sizeOf39 rfl rfl rfl rfl rfl (by repeat' constructor) (by repeat' constructor) (by repeat' constructor)) ?_
    refine ln ?_
    refine nthen ?_
    refine cret ?_
    refine xret (fun _ _ h => h) ?_
    refine rret (is := []) ⟨({ p with kind := 3 - p.kind }, y1), by rw [Prim.flip, if_neg h7, if_pos (Or.inr h15c)]⟩ (Or.inl rfl) (Res.c rfl Tryz.isAgg39 Tryz.sizeOf39 (by repeat' constructor) (by rfl) Res.d) (rfl) rfl (by repeat' (first | constructor | apply Sub.suf))
   ·
    intro h15c
    simp only [decide_eq_false_iff_not] at h15c
    refine cs ?_
    refine cr ?_
    refine ls (op (p_icmp rfl rfl rfl) rfl) ?_
    refine ls (op (p_asg rfl) rfl) ?_
    refine ln ?_
    refine nthen ?_
    refine cc rfl ?_ ?_
    ·
     intro h22
     try simp only [decide_eq_true_eq, decide_eq_false_iff_not, Bool.not_eq_true', Bool.not_eq_false', Int.not_lt, Int.not_le, ge_iff_le, Bool.not_true, Bool.not_false] at h22
     refine cr ?_
     refine ls (op (p_fa fa39_2 rfl) rfl) ?_
     refine ls (o_ld Tryz.isAgg9 rfl (by repeat' constructor) (by repeat' constructor) rfl) ?_
     refine ls (op (p_fa fa39_1 rfl) rfl) ?_
     refine ls (o_ld Tryz.isAgg9 rfl (by repeat' constructor) (by repeat' constructor) rfl) ?_
     refine ls (op (p_fa fa39_1 rfl) rfl) ?_
     refine ls (o_st rfl Tryz.sizeOf9 rfl rfl rfl rfl rfl (by repeat' constructor) (by repeat' constructor) (by repeat' constructor)) ?_
     refine ls (op (p_fa fa39_2 rfl) rfl) ?_
     refine ls (o_st rfl Tryz.sizeOf9 rfl rfl rfl rfl rfl (by repeat' constructor) (by repeat' constructor) (by repeat' constructor)) ?_
     refine ln ?_
     refine nblock ?_
     refine nthen ?_
     refine cs ?_
     refine cr ?_
     refine ls (o_ldw Tryz.isAgg39 Tryz.sizeOf39 rfl (by repeat' constructor) (by rfl) rfl) ?_
     refine ls (o_st rfl Tryz.sizeOf39 rfl rfl rfl rfl rfl (by repeat' constructor) (by repeat' constructor) (by repeat' constructor)) ?_
     refine ln ?_
     refine nthen ?_
     refine cret ?_
     refine xret (fun _ _ h => h) ?_
     refine rret (is := []) ⟨({ p with name := p.to, to := p.name }, y1), by rw [flip3 h22]⟩ (Or.inl rfl) (Res.c rfl Tryz.isAgg39 Tryz.sizeOf39 (by repeat' constructor) (by rfl) Res.d) (rfl) rfl (by repeat' (first | constructor | apply Sub.suf))
    ·
     intro h22
     try simp only [decide_eq_true_eq, decide_eq_false_iff_not, Bool.not_eq_true', Bool.not_eq_false', Int.not_lt, Int.not_le, ge_iff_le, Bool.not_true, Bool.not_false] at h22
     refine cskip ?_
     refine nblock ?_
     refine nthen ?_
     refine cs ?_
     refine cr ?_
     refine ls (o_ldw Tryz.isAgg39 Tryz.sizeOf39 rfl (by repeat' constructor) (by rfl) rfl) ?_
     refine ls (o_st rfl Tryz.sizeOf39 rfl rfl rfl rfl rfl (by repeat' constructor) (by repeat' constructor) (by repeat' constructor)) ?_
     refine ln ?_
     refine nthen ?_
     refine cret ?_
     refine xret (fun _ _ h => h) ?_
     refine rret (is := []) ⟨(p, y1), by rw [Prim.flip, if_neg h7, if_neg (by omega), if_neg h22]⟩ (Or.inl rfl) (Res.c rfl Tryz.isAgg39 Tryz.sizeOf39 (by repeat' constructor) (by rfl) Res.d) (rfl) rfl (by repeat' (first | constructor | apply Sub.suf))

end Go.Proofs.YtdbiillompeclaaGreatDoor.X

end
section
set_option linter.unusedVariables false
set_option linter.unusedSimpArgs false
namespace Go.Proofs.YtdbiillompeclaaGreatDoor.X
open Go Go.RowKit Go.Proofs Go.Sx
attribute [local irreducible] slA isA box row

end Go.Proofs.YtdbiillompeclaaGreatDoor.X

end
section
set_option linter.unusedVariables false
set_option linter.unusedSimpArgs false
namespace Go.Proofs.YtdbiillompeclaaGreatDoor.X
open Go Go.RowKit Go.Proofs Go.Sx
attribute [local irreducible] slA isA box row


set_option maxRecDepth 100000 in
theorem c_Backward (l : List Prim) (A : Option Addr) (c : Nat) : Con Tryz.prog 75 [.slice A l.length c] [] [] Nat (fun b => .func (.func 126) #[] #[.pointer (some ⟨b, 0, none⟩)]) (fun b => [box b 29 [.slice A l.length c]]) (fun _ => []) := by
 refine con Tryz.func75 rfl Tryz.ntmps75 rfl ?_
 intro M0 F0 w0
 refine cs ?_
 refine cr ?_
 refine ls (o_box rfl rfl rfl) ?_
 refine le ?_; intro b1
 refine ls (op (p_asg rfl) rfl) ?_
 refine ln ?_
 refine nthen ?_
 refine cs ?_
 refine cr ?_
 refine ls (op (p_mkf rfl) rfl) ?_
 refine ls (op (p_asg rfl) rfl) ?_
 refine ln ?_
 refine nthen ?_
 refine cret ?_
 refine xret (fun _ _ h => h) ?_
 refine rret (is := [0]) b1 (Or.inl rfl) (Res.t rfl Res.d) (rfl) rfl (by repeat' (first | constructor | apply Sub.suf))

set_option maxRecDepth 100000 in
theorem c_Backward1 (l : List Prim) (A : Option Addr) (c : Nat) (hl : l.length ≤ 2000000) (B : Nat) : Iter Tryz.prog 126 [.pointer (some ⟨B, 0, none⟩)] (fun x : {x : Nat × Rp.Lay Prim // x.1 < l.length} => [.int .i64 (x.1.1 : Int), sv (l[x.1.1]'x.2) x.1.2]) (fun x => Rp.asn (l[x.1.1]'x.2) x.1.2) (fun pre x => x.1.1 + pre.length + 1 = l.length) (fun xs => xs.length = l.length) [box B 29 [.slice A l.length c]] [slA A l] := by
 intro lp J Jx hY
 refine con Tryz.func126 rfl Tryz.ntmps126 rfl ?_
 intro M0 F0 w0
 refine cs ?_
 refine cr ?_
 refine ls (o_ld Tryz.isAgg29 rfl (by repeat' constructor) (by repeat' constructor) rfl) ?_
 refine ls (op (p_lenl rfl Tryz.underlying29) rfl) ?_
 refine ls (op (p_sub rfl rfl (by omega)) rfl) ?_
 refine ls (op (p_asg rfl) rfl) ?_
 refine ln ?_
 refine nthen ?_
 refine cb ?_
 refine cl (ι := {q : List {x : Nat × Rp.Lay Prim // x.1 < l.length} × Int // q.1.length ≤ l.length ∧ q.2 = (l.length : Int) - 1 - (q.1.length : Int)}) (fun i => St M0 F0 w0 19 [(0, .func (.yield lp) #[] #[]), (1, .pointer (some ⟨B, 0, none⟩)), (3, .int .i64 i.1.2)] [J i.1.1, box B 29 [.slice A l.length c]] [slA A l]) (fun i => l.length - (i.1.1).length) ⟨([], (l.length : Int) - 1), Nat.zero_le _, by simp⟩ (wk0 (by repeat (first | exact subσ.nil _ | refine subσ.cons rfl ?_)) (by repeat' (first | constructor | apply Sub.suf))) ?_
 rintro ⟨⟨pre, z⟩, hpre, hz⟩
 refine cmono (S' := St M0 F0 w0 19 [(0, .func (.yield lp) #[] #[]), (1, .pointer (some ⟨B, 0, none⟩)), (3, .int .i64 z)] [J pre, box B 29 [.slice A l.length c]] [slA A l]) (fun _ _ h => h) ?_
 refine cs ?_
 refine cs ?_
 refine cr ?_
 refine ls (op (p_move rfl) rfl) ?_
 refine ls (op (p_icmp rfl rfl rfl) rfl) ?_
 refine ln ?_
 refine nthen ?_
 refine cc rfl ?_ ?_
 ·
  intro h8
  dsimp only at hpre hz
  try simp only [decide_eq_true_eq, decide_eq_false_iff_not, Bool.not_eq_true', Bool.not_eq_false', Int.not_lt, Int.not_le, ge_iff_le, Bool.not_true, Bool.not_false] at h8
  have hk1 : l.length - 1 - pre.length < l.length := by omega
  refine cskip ?_
  refine nthen ?_
  refine cs ?_
  refine cb ?_
  refine cs ?_
  refine elC (by repeat' constructor) (l.length - 1 - pre.length) (List.getElem?_eq_getElem (l := l) hk1) ?_; rintro zbp zop zyp hAp
  refine cr ?_
  refine ls (op (p_move rfl) rfl) ?_
  refine ls (op (p_move rfl) rfl) ?_
  refine ls (o_ld Tryz.isAgg29 rfl (by repeat' constructor) (by repeat' constructor) rfl) ?_
  refine ls (op (p_move rfl) rfl) ?_
  refine ls (op (p_ia (l.length - 1 - pre.length) hAp hk1 (by omega) Tryz.underlying29 Tryz.sizeOf39 rfl rfl) rfl) ?_
  refine ls (o_ldj Tryz.isAgg39 Tryz.sizeOf39 rfl (by repeat' constructor) 0 rfl (by repeat (first | exact Cut.d | apply Cut.t | apply Cut.s)) rfl) ?_
  refine ls (o_yield (i := 0) rfl (by have := hY pre ⟨(l.length - 1 - pre.length, zyp), hk1⟩ (by dsimp only; omega); dsimp only at this; rw [show ((l.length - 1 - pre.length : Nat) : Int) = z by omega] at this; exact this) rfl rfl (by repeat' (first | constructor | apply Sub.suf)) rfl) ?_
  refine le ?_; intro bb
  refine ls (op (p_not rfl) rfl) ?_
  refine ln ?_
  refine nthen ?_
  refine cc rfl ?_ ?_
  ·
   intro h18
   obtain rfl : false = bb := by cases bb <;> first | rfl | (simp at h18)
   refine cret ?_
   refine xret (fun _ _ h => h) ?_
   refine rret (is := [0, 0]) ⟨none, fun _ h => by cases h⟩ (Or.inl rfl) Res.d (rfl) rfl (by repeat' (first | constructor | apply Sub.suf))
  ·
   intro h18
   obtain rfl : true = bb := by cases bb <;> first | rfl | (simp at h18)
   refine cskip ?_
   refine nblock ?_
   refine nthen ?_
   refine cr ?_
   refine ls (op (p_move rfl) rfl) ?_
   refine ls (op (p_sub rfl rfl (by omega)) rfl) ?_
   refine ls (op (p_asg rfl) rfl) ?_
   refine ln ?_
   refine nnext ⟨(pre ++ [⟨(l.length - 1 - pre.length, zyp), hk1⟩], z - 1), by simp; omega, by simp; omega⟩ (by simp; omega) (wk (is := [0, 0]) (by repeat (first | exact subσ.nil _ | refine subσ.cons rfl ?_)) rfl (by repeat' (first | constructor | apply Sub.suf)))
 ·
  intro h8
  dsimp only at hpre hz
  try simp only [decide_eq_true_eq, decide_eq_false_iff_not, Bool.not_eq_true', Bool.not_eq_false', Int.not_lt, Int.not_le, ge_iff_le, Bool.not_true, Bool.not_false] at h8
  refine cexit ?_
  refine xthen ?_
  refine xthen ?_
  refine xblock ?_
  refine rret (is := [0, 0]) ⟨some pre, fun xs h => by cases h; omega⟩ (Or.inr rfl) Res.d (rfl) rfl (by repeat' (first | constructor | apply Sub.suf))

set_option maxRecDepth 100000 in
theorem c_refAllP (l m : List Prim) (A B : Option Addr) (c c' : Nat) (hl : l.length ≤ 2000000) (hf : ∀ x ∈ l, x.fit) : Con Tryz.prog 20 [.slice A l.length c, .slice B m.length c'] [] [slA A l, slA B m] Unit (fun _ => .bool (decide (l = m))) (fun _ => []) (fun _ => []) := by
 refine con Tryz.func20 rfl Tryz.ntmps20 rfl ?_
 intro M0 F0 w0
 refine cs ?_
 refine cr ?_
 refine ls (op (p_asg rfl) rfl) ?_
 refine ln ?_
 refine nthen ?_
 refine cs ?_
 refine cs ?_
 refine cr ?_
 refine ls (op (p_move rfl) rfl) ?_
 refine ls (op (p_lenl rfl Tryz.underlying23) rfl) ?_
 refine ls (op (p_move rfl) rfl) ?_
 refine ls (op (p_lenl rfl Tryz.underlying23) rfl) ?_
 refine ls (op (p_icmp rfl rfl rfl) rfl) ?_
 refine ln ?_
 refine nthen ?_
 refine cc rfl ?_ ?_
 ·
  intro h10
  try simp only [decide_eq_true_eq, decide_eq_false_iff_not, Bool.not_eq_true', Bool.not_eq_false', Int.not_lt, Int.not_le, ge_iff_le, Bool.not_true, Bool.not_false] at h10
  refine cs ?_
  refine cr ?_
  refine ls (op (p_asg rfl) rfl) ?_
  refine ln ?_
  refine nthen ?_
  refine cret ?_
  refine xret (fun _ _ h => h) ?_
  refine rret (is := []) () (Or.inl rfl) (Res.t rfl Res.d) ?_ rfl (by repeat' (first | constructor | apply Sub.suf))
  simp [packV]; intro e; rw [e] at h10; exact h10 rfl
 ·
  intro h10
  try simp only [decide_eq_true_eq, decide_eq_false_iff_not, Bool.not_eq_true', Bool.not_eq_false', Int.not_lt, Int.not_le, ge_iff_le, Bool.not_true, Bool.not_false] at h10
  refine cskip ?_
  refine nthen ?_
  refine cs ?_
  refine cs ?_
  refine cr ?_
  refine ls (op (p_asg rfl) rfl) ?_
  refine ln ?_
  refine nthen ?_
  refine cb ?_
  refine cl (ι := {k : Nat // k ≤ l.length ∧ l.take k = m.take k}) (fun i => St M0 F0 w0 27 [(0, .slice A l.length c), (1, .slice B m.length c'), (5, .int .i64 (i.1 : Int))] [] [slA A l, slA B m]) (fun i => l.length - i.1) ⟨0, by simp⟩ (wk0 (by repeat (first | exact subσ.nil _ | refine subσ.cons rfl ?_)) (by repeat' (first | constructor | apply Sub.suf))) ?_
  rintro ⟨k, hk, hkk⟩
  refine cmono (S' := St M0 F0 w0 27 [(0, .slice A l.length c), (1, .slice B m.length c'), (5, .int .i64 (k : Int))] [] [slA A l, slA B m]) (fun _ _ h => h) ?_
  refine cs ?_
  refine cs ?_
  refine cr ?_
  refine ls (op (p_move rfl) rfl) ?_
  refine ls (op (p_move rfl) rfl) ?_
  refine ls (op (p_lenl rfl Tryz.underlying23) rfl) ?_
  refine ls (op (p_icmp rfl rfl rfl) rfl) ?_
  refine ln ?_
  refine nthen ?_
  refine cc rfl ?_ ?_
  ·
   intro h14
   try simp only [decide_eq_true_eq, decide_eq_false_iff_not, Bool.not_eq_true', Bool.not_eq_false', Int.not_lt, Int.not_le, ge_iff_le, Bool.not_true, Bool.not_false] at h14
   have hk1 : k < l.length := by omega
   have hk2 : k < m.length := by omega
   refine cskip ?_
   refine nthen ?_
   refine cs ?_
   refine cb ?_
   refine cs ?_
   refine elC (by repeat' constructor) k (List.getElem?_eq_getElem (l := l) hk1) ?_; rintro zbp zop zyp hAp
   refine elC (by repeat' constructor) k (List.getElem?_eq_getElem (l := m) hk2) ?_; rintro zbq zoq zyq hAq
   refine cd [8] [(3, zbp, zop + k * Rp.size Prim, _), (7, zbq, zoq + k * Rp.size Prim, _)] TryzX.mixed (TOk.t (isInS (by repeat' constructor) (k := 0) rfl (z := 6) (by repeat (first | exact Cut.d | apply Cut.t | apply Cut.s))) (TOk.t (isInS (by repeat' constructor) (k := 0) rfl (z := 6) (by repeat (first | exact Cut.d | apply Cut.t | apply Cut.s))) TOk.d)) ?_
   refine tk 0 rfl (by kernel_rfl) (fun _ _ _ h => h) gnone (TTany _) (p_move rfl) rfl ?_
   refine tk 1 rfl (by kernel_rfl) (fun _ _ _ h => h) gnone (TTany _) (p_move rfl) rfl ?_
   refine tk 2 rfl (by kernel_rfl) (fun _ _ _ h => h) gnone (TTany _) (p_ia k hAp hk1 rfl Tryz.underlying23 Tryz.sizeOf83 rfl rfl) rfl ?_
   refine tk 3 rfl (by kernel_rfl) (fun _ _ _ h => h) gnone (TTat (List.Mem.head _)) (p_lda Tryz.isAgg83 Tryz.sizeOf83 rfl rfl) rfl ?_
   refine tk 4 rfl (by kernel_rfl) (fun _ _ _ h => h) gnone (TTany _) (p_move rfl) rfl ?_
   refine tk 5 rfl (by kernel_rfl) (fun _ _ _ h => h) gnone (TTany _) (p_move rfl) rfl ?_
   refine tk 6 rfl (by kernel_rfl) (fun _ _ _ h => h) gnone (TTany _) (p_ia k hAq hk2 rfl Tryz.underlying23 Tryz.sizeOf83 rfl rfl) rfl ?_
   refine tk 7 rfl (by kernel_rfl) (fun _ _ _ h => h) gnone (TTat (List.Mem.tail _ (List.Mem.head _))) (p_lda Tryz.isAgg83 Tryz.sizeOf83 rfl rfl) rfl ?_
   refine df 8 (by kernel_rfl) ?_
   refine doR rfl (o_call (is := []) Tryz.call50 (c_refSame l[k] m[k] zyp zyq (hf _ (List.getElem_mem hk1))) rfl rfl (by repeat' (first | constructor | apply Sub.suf)) rfl) (TOk.x (by kernel_rfl) (TOk.x (by kernel_rfl) TOk.d)) ?_
   refine ea ?_; intro x25
   refine tk 9 rfl (by kernel_rfl) (fun _ _ _ h => h) gnone (TTany _) (p_not rfl) rfl ?_
   refine dn (by kernel_rfl) ?_
   refine nthen ?_
   refine cc rfl ?_ ?_
   ·
    intro h26
    try simp only [decide_eq_true_eq, decide_eq_false_iff_not, Bool.not_eq_true', Bool.not_eq_false', Int.not_lt, Int.not_le, ge_iff_le, Bool.not_true, Bool.not_false] at h26
    refine cs ?_
    refine cr ?_
    refine ls (op (p_asg rfl) rfl) ?_
    refine ln ?_
    refine nthen ?_
    refine cret ?_
    refine xret (fun _ _ h => h) ?_
    refine rret (is := []) () (Or.inl rfl) (Res.t rfl Res.d) ?_ rfl (by repeat' (first | constructor | apply Sub.suf))
    simp [packV]; rintro rfl; exact h26 rfl
   ·
    intro h26
    try simp only [decide_eq_true_eq, decide_eq_false_iff_not, Bool.not_eq_true', Bool.not_eq_false', Int.not_lt, Int.not_le, ge_iff_le, Bool.not_true, Bool.not_false] at h26
    refine cskip ?_
    refine nblock ?_
    refine nthen ?_
    refine cr ?_
    refine ls (op (p_move rfl) rfl) ?_
    refine ls (op (p_add rfl rfl (by omega)) rfl) ?_
    refine ls (op (p_asg rfl) rfl) ?_
    refine ln ?_
    refine nnext ⟨k + 1, hk1, by rw [List.take_succ_eq_append_getElem hk1, List.take_succ_eq_append_getElem hk2, hkk, h26]⟩ (by dsimp only; omega) (wk (is := []) (by repeat (first | exact subσ.nil _ | refine subσ.cons rfl ?_)) rfl (by repeat' (first | constructor | apply Sub.suf)))
  ·
   intro h14
   try simp only [decide_eq_true_eq, decide_eq_false_iff_not, Bool.not_eq_true', Bool.not_eq_false', Int.not_lt, Int.not_le, ge_iff_le, Bool.not_true, Bool.not_false] at h14
   refine cexit ?_
   refine xthen ?_
   refine xthen ?_
   refine xblock ?_
   refine nthen ?_
   refine cs ?_
   refine cr ?_
   refine ls (op (p_asg rfl) rfl) ?_
   refine ln ?_
   refine nthen ?_
   refine cret ?_
   refine xret (fun _ _ h => h) ?_
   refine rret (is := []) () (Or.inl rfl) (Res.t rfl Res.d) ?_ rfl (by repeat' (first | constructor | apply Sub.suf))
   simp [packV]; have := List.take_of_length_le (l := l) (i := k) (by omega); have := List.take_of_length_le (l := m) (i := k) (by omega); simp_all

end Go.Proofs.YtdbiillompeclaaGreatDoor.X

end
section
set_option linter.unusedVariables false
set_option linter.unusedSimpArgs false
namespace Go.Proofs.YtdbiillompeclaaGreatDoor.X
open Go Go.RowKit Go.Proofs Go.Sx
attribute [local irreducible] slA isA box row

theorem inf83 : (Tryz.prog.info? 83).map (fun i => (i.zero, i.size, i.bytes)) = some (some (.agg #[.int .i64 0, .string ⟨#[]⟩, .string ⟨#[]⟩, .int .i64 0, .slice none 0 0, .slice none 0 0]), 6, 96) := by kernel_rfl
set_option maxRecDepth 100000 in
theorem c_lOld (l : List Prim) (A : Option Addr) (c : Nat) (hl : l.length ≤ 2000000) : Con Tryz.prog 21 [.slice A l.length c] [] [slA A l] (Option Addr × Nat) (fun y => .slice y.1 l.length y.2) (fun _ => []) (fun y => [slA y.1 l]) := by
 refine con Tryz.func21 rfl Tryz.ntmps21 rfl ?_
 intro M0 F0 w0
 refine cs ?_
 refine cr ?_
 refine ls (op (p_asg rfl) rfl) ?_
 refine ln ?_
 refine nthen ?_
 refine cs ?_
 refine cr ?_
 refine ls (op (p_asg rfl) rfl) ?_
 refine ln ?_
 refine nthen ?_
 refine cs ?_
 refine cs ?_
 refine cmono (fun a w h => nilRow (α := Prim) 83 h) ?_
 refine cr ?_
 refine ls (op (p_move rfl) rfl) ?_
 refine ls (op (p_lenl rfl Tryz.underlying29) rfl) ?_
 refine ls (op (p_move rfl) rfl) ?_
 refine ln ?_
 refine nthen ?_
 refine cb ?_
 refine cl (ι := {q : Nat × Option Addr × Nat // q.1 ≤ l.length}) (fun i => St M0 F0 w0 18 [(6, .slice A l.length c), (7, .int .i64 (l.length : Int)), (8, .int .i64 (i.1.1 : Int)), (3, .slice i.1.2.1 (l.take i.1.1).length i.1.2.2)] [row 83 (i.1.2.1) (i.1.2.2) (l.take i.1.1)] [slA A l]) (fun i => l.length - i.1.1) ⟨(0, none, 0), Nat.zero_le _⟩ (wk0 (by repeat (first | exact subσ.nil _ | refine subσ.cons rfl ?_)) (by repeat' (first | constructor | apply Sub.suf))) ?_
 rintro ⟨⟨k, A2, c2⟩, hk⟩
 refine cmono (S' := St M0 F0 w0 18 [(6, .slice A l.length c), (7, .int .i64 (l.length : Int)), (8, .int .i64 (k : Int)), (3, .slice A2 (l.take k).length c2)] [row 83 (A2) (c2) (l.take k)] [slA A l]) (fun _ _ h => h) ?_
 refine cs ?_
 refine cr ?_
 refine ls (op (p_icmp rfl rfl rfl) rfl) ?_
 refine ln ?_
 refine nthen ?_
 refine cs ?_
 refine cc rfl ?_ ?_
 ·
  intro h9
  dsimp only at hk
  try simp only [decide_eq_true_eq, decide_eq_false_iff_not, Bool.not_eq_true', Bool.not_eq_false', Int.not_lt, Int.not_le, ge_iff_le, Bool.not_true, Bool.not_false] at h9
  have hk1 : k < l.length := by omega
  refine cskip ?_
  refine nthen ?_
  refine cs ?_
  refine cb ?_
  refine cs ?_
  refine elC (by repeat' constructor) k (List.getElem?_eq_getElem (l := l) hk1) ?_; rintro zbp zop zyp hAp
  refine cr ?_
  refine ls (op (p_ia k hAp hk1 rfl Tryz.underlying29 Tryz.sizeOf39 rfl rfl) rfl) ?_
  refine ls (o_ldj Tryz.isAgg39 Tryz.sizeOf39 rfl (by repeat' constructor) 0 rfl (by repeat (first | exact Cut.d | apply Cut.t | apply Cut.s)) rfl) ?_
  refine ls (o_alloc Tryz.zeroValue39 rfl rfl) ?_
  refine le ?_; intro b5
  refine ls (o_st rfl Tryz.sizeOf39 rfl rfl rfl rfl rfl (by repeat' constructor) (by repeat' constructor) (by repeat' constructor)) ?_
  refine ln ?_
  refine nthen ?_
  refine cr ?_
  refine ls (op (p_move rfl) rfl) ?_
  refine ls (o_ldw Tryz.isAgg39 Tryz.sizeOf39 rfl (by repeat' constructor) (by rfl) rfl) ?_
  refine ls (o_bsl [l[k]] Tryz.underlying23 Tryz.sizeOf83 Tryz.zeroValue83 rfl (Enum.t Enum.d) (RV.t zyp rfl (by repeat' (first | constructor | apply Sub.suf)) RV.d) rfl (by decide) (by decide) rfl) ?_
  refine le ?_; intro b14
  refine lmono (fun a w h => Go.Sx.freeze (i := 0) rfl h) ?_
  refine ls (o_app (is := [1]) Tryz.underlying23 inf83 rfl (by decide) (by decide) rfl rfl (by rw [List.length_take]; simp only [List.length_cons, List.length_nil]; omega) (fun h => by cases h) rfl (by repeat' (first | constructor | apply Sub.suf)) rfl) ?_
  refine le ?_; rintro ⟨A3, c3⟩
  rw [← List.take_succ_eq_append_getElem hk1]
  refine ls (op (p_asg rfl) rfl) ?_
  refine ln ?_
  refine nblock ?_
  refine nthen ?_
  refine cr ?_
  refine ls (op (p_add rfl rfl (by omega)) rfl) ?_
  refine ls (op (p_move rfl) rfl) ?_
  refine ln ?_
  refine nnext ⟨(k + 1, A3, c3), hk1⟩ (by dsimp only; omega) (wk (is := [0]) (by repeat (first | exact subσ.nil _ | refine subσ.cons rfl ?_)) rfl (by repeat' (first | constructor | apply Sub.suf)))
 ·
  intro h9
  dsimp only at hk
  try simp only [decide_eq_true_eq, decide_eq_false_iff_not, Bool.not_eq_true', Bool.not_eq_false', Int.not_lt, Int.not_le, ge_iff_le, Bool.not_true, Bool.not_false] at h9
  obtain rfl : k = l.length := by omega
  rw [List.take_length]
  refine cexit ?_
  refine xthen ?_
  refine xthen ?_
  refine xblock ?_
  refine nthen ?_
  refine cs ?_
  refine cmono (fun a w h => Go.Sx.freeze (i := 0) rfl h) ?_
  refine cr ?_
  refine ls (op (p_move rfl) rfl) ?_
  refine ls (op (p_asg rfl) rfl) ?_
  refine ln ?_
  refine nthen ?_
  refine cret ?_
  refine xret (fun _ _ h => h) ?_
  refine rret (is := []) (A2, c2) (Or.inl rfl) (Res.t rfl Res.d) (rfl) rfl (by repeat' (first | constructor | apply Sub.suf))

end Go.Proofs.YtdbiillompeclaaGreatDoor.X

end
section
set_option linter.unusedVariables false
set_option linter.unusedSimpArgs false
namespace Go.Proofs.YtdbiillompeclaaGreatDoor.X
open Go Go.RowKit Go.Proofs Go.Sx
attribute [local irreducible] slA isA box row


set_option maxRecDepth 100000 in
theorem c_seqInvert (l : List Prim) (A : Option Addr) (c : Nat) (hl : l.length ≤ 2000000) (hf : ∀ x ∈ l, x.fit) : Con Tryz.prog 30 [.slice A l.length c] [] [slA A l] (Option Addr × Nat) (fun y => .slice y.1 (invL l).length y.2) (fun _ => []) (fun y => [slA y.1 (invL l)]) := by
 refine con Tryz.func30 rfl Tryz.ntmps30 rfl ?_
 intro M0 F0 w0
 refine cs ?_
 refine cr ?_
 refine ls (op (p_asg rfl) rfl) ?_
 refine ln ?_
 refine nthen ?_
 refine cs ?_
 refine cr ?_
 refine ls (o_alloc Tryz.zeroValue29 rfl rfl) ?_
 refine le ?_; intro b3
 refine ln ?_
 refine nthen ?_
 refine cs ?_
 refine cs ?_
 refine cmono (fun a w h => nilRow (α := Prim) 39 h) ?_
 refine cr ?_
 refine ls (op (p_move rfl) rfl) ?_
 refine ls (o_call (is := []) Tryz.call75 (c_Backward l A c) rfl rfl (by repeat' (first | constructor | apply Sub.suf)) rfl) ?_
 refine le ?_; intro b7
 refine ln ?_
 refine nthen ?_
 refine cb ?_
 refine crng (ι := fun pre => Option Addr × Nat) rfl Tryz.call126 (c_Backward1 l A c hl b7) (fun _ => rfl) rfl (fun pre i => [box b3 29 [.slice i.1 (invP l pre.length).length i.2], row 39 i.1 i.2 (invP l pre.length)]) (fun pre i => []) ((none, 0)) (Y := Empty) (fun _ => []) (fun _ => []) (is := [2, 1, 0]) rfl (by repeat' (first | constructor | apply Sub.suf)) (by repeat' (first | constructor | apply Sub.suf)) ?_ ?_ ?_
 ·
  rintro M0 F0 w0 lp κ pre ⟨⟨k, yk⟩, hk⟩ hx ⟨A2, c2⟩
  dsimp only at hk hx ⊢
  have hfk := hf _ (List.getElem_mem hk)
  have hpl := invP_len l (show pre.length ≤ l.length by omega)
  refine cmono (S' := St M0 F0 w0 ⟨16, []⟩ [(3, .pointer (some ⟨b3, 0, none⟩)), (9, sv l[k] yk)] [lrec lp κ .ready none, box b3 29 [.slice A2 (invP l pre.length).length c2], row 39 A2 c2 (invP l pre.length)] [slA yk.1.1 l[k].old, slA yk.2.1 l[k].new]) (wk0 (by repeat (first | exact subσ.nil _ | refine subσ.cons rfl ?_)) (by repeat' (first | constructor | apply Sub.suf))) ?_
  refine cr ?_
  refine ls (o_alloc Tryz.zeroValue39 rfl rfl) ?_
  refine le ?_; intro b5
  refine ls (o_st rfl Tryz.sizeOf39 rfl rfl rfl rfl rfl (by repeat' constructor) (by repeat' constructor) (by repeat' constructor)) ?_
  refine ln ?_
  refine nbegin (i := 1) rfl ?_
  refine cb ?_
  refine cd [2, 3, 4, 5] [(0, b3, 0, _), (1, b5, 0, _)] TryzX.mixed (TOk.t (isBoxS (by repeat' constructor) (k := 1) (by repeat (first | exact Cut.d | apply Cut.t | apply Cut.s))) (TOk.t (isBoxS (by repeat' constructor) (k := 6) (by repeat (first | exact Cut.d | apply Cut.t | apply Cut.s))) TOk.d)) ?_
  refine tk 0 rfl (by kernel_rfl) (fun _ _ _ h => h) gnone (TTat (List.Mem.head _)) (p_ld Tryz.isAgg29 rfl) rfl ?_
  refine tk 1 rfl (by kernel_rfl) (fun _ _ _ h => h) gnone (TTat (List.Mem.tail _ (List.Mem.head _))) (p_lda Tryz.isAgg39 Tryz.sizeOf39 rfl rfl) rfl ?_
  refine df 2 (by kernel_rfl) ?_
  refine doR rfl (o_call (is := []) Tryz.call49 (c_primInvert l[k] yk hfk) rfl rfl (by repeat' (first | constructor | apply Sub.suf)) rfl) (TOk.t (isBoxE fun _ => isBoxS (by repeat' constructor) (k := 1) (by repeat (first | exact Cut.d | apply Cut.t | apply Cut.s))) (TOk.x (by kernel_rfl) TOk.d)) ?_
  refine ea ?_; rintro ⟨⟨q1, z1⟩, hz1⟩
  obtain rfl : q1 = l[k].flip := hz1
  refine df 3 (by kernel_rfl) ?_
  refine doR rfl (o_bsl [l[k].flip] Tryz.underlying29 Tryz.sizeOf39 Tryz.zeroValue39 rfl (Enum.t Enum.d) (RV.t z1 rfl (by repeat' (first | constructor | apply Sub.suf)) RV.d) rfl (by decide) (by decide) rfl) (TOk.t (isBoxE fun _ => isBoxS (by repeat' constructor) (k := 1) (by repeat (first | exact Cut.d | apply Cut.t | apply Cut.s))) (TOk.x (by kernel_rfl) TOk.d)) ?_
  refine ea ?_; intro b13
  refine amono (fun a w h => Go.Sx.freeze (i := 0) rfl h) ?_
  refine df 4 (by kernel_rfl) ?_
  refine doR rfl (o_app (is := [3]) Tryz.underlying29 inf39 rfl (by decide) (by decide) rfl rfl (by rw [hpl]; simp only [List.length_cons, List.length_nil]; omega) (fun h => by cases h) rfl (by repeat' (first | constructor | apply Sub.suf)) rfl) (TOk.x (by kernel_rfl) (TOk.x (by kernel_rfl) TOk.d)) ?_
  refine ea ?_; rintro ⟨A3, c3⟩
  refine df 5 (by kernel_rfl) ?_
  refine doR rfl (o_st rfl Tryz.sizeOf29 rfl rfl rfl rfl rfl (by repeat' constructor) (by repeat' constructor) (by repeat' constructor)) (TOk.x (by kernel_rfl) (TOk.x (by kernel_rfl) TOk.d)) ?_
  refine dn (by kernel_rfl) ?_
  refine nblock ?_
  rw [← invP_step hx]
  exact nround (A3, c3) (is := [1, 2, 0]) (by rw [List.length_append]; rfl) (by repeat' (first | constructor | apply Sub.suf))
 ·
  rintro D xs hC ⟨A2, c2⟩
  rw [hC, invP_all]
  refine nblock ?_
  refine nthen ?_
  refine cs ?_
  refine cmono (fun a w h => Go.Sx.freeze (i := 1) rfl h) ?_
  refine cr ?_
  refine ls (o_ld Tryz.isAgg29 rfl (by repeat' constructor) (by repeat' constructor) rfl) ?_
  refine ls (op (p_asg rfl) rfl) ?_
  refine ln ?_
  refine nthen ?_
  refine cret ?_
  refine xret (fun _ _ h => h) ?_
  refine rretm (Dfr.c (i := 2) rfl Dfr.d) (is := []) (A2, c2) (Or.inl rfl) (Res.t rfl Res.d) (rfl) rfl (by repeat' (first | constructor | apply Sub.suf))
 ·
  intro D y
  exact y.elim

end Go.Proofs.YtdbiillompeclaaGreatDoor.X

end
