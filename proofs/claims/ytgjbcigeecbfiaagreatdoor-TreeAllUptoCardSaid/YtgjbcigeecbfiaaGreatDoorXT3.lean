/- OWN WORK: a part of the proof of a law of the seat YtgjbcigeecbfiaaGreatDoor: what the functions compute. -/
import Derived.Test.YtgjbcigeecbfiaaGreatDoorProg
import Derived.Test.YtgjbcigeecbfiaaGreatDoorXT2
import Derived.Test.YtgjbcigeecbfiaaGreatDoorXMp
section
set_option linter.unusedVariables false
set_option linter.unusedSimpArgs false
namespace Go.Proofs.YtgjbcigeecbfiaaGreatDoor.X
open Go Go.RowKit Go.Proofs Go.Sx
attribute [local irreducible] slA isA box row
theorem al_add : tAdd [] (⟨#[97]⟩ : ByteArray) = ([((⟨#[97]⟩ : ByteArray), ([] : List ByteArray))], 0) := by kernel_rfl
theorem al_put : tPut [((⟨#[97]⟩ : ByteArray), ([] : List ByteArray))] (⟨#[97]⟩ : ByteArray) [(⟨#[120]⟩ : ByteArray), (⟨#[121]⟩ : ByteArray)] = ([((⟨#[97]⟩ : ByteArray), [(⟨#[120]⟩ : ByteArray), (⟨#[121]⟩ : ByteArray)])], 0) := by kernel_rfl
theorem al_move : tMove [((⟨#[97]⟩ : ByteArray), [(⟨#[120]⟩ : ByteArray), (⟨#[121]⟩ : ByteArray)])] (⟨#[97]⟩ : ByteArray) (⟨#[98]⟩ : ByteArray) = ([((⟨#[98]⟩ : ByteArray), [(⟨#[120]⟩ : ByteArray), (⟨#[121]⟩ : ByteArray)])], 0) := by kernel_rfl
theorem al_badd : tAdd [((⟨#[98]⟩ : ByteArray), [(⟨#[120]⟩ : ByteArray), (⟨#[121]⟩ : ByteArray)])] (⟨#[65]⟩ : ByteArray) = ([((⟨#[98]⟩ : ByteArray), [(⟨#[120]⟩ : ByteArray), (⟨#[121]⟩ : ByteArray)])], 20) := by kernel_rfl
theorem al_brem : tRem [((⟨#[98]⟩ : ByteArray), [(⟨#[120]⟩ : ByteArray), (⟨#[121]⟩ : ByteArray)])] (⟨#[98]⟩ : ByteArray) = ([((⟨#[98]⟩ : ByteArray), [(⟨#[120]⟩ : ByteArray), (⟨#[121]⟩ : ByteArray)])], 22) := by kernel_rfl
theorem al_l2 : (textT [((⟨#[97]⟩ : ByteArray), [(⟨#[120]⟩ : ByteArray), (⟨#[121]⟩ : ByteArray)])]).length = 8 := by kernel_rfl
theorem al_l3 : (textT [((⟨#[98]⟩ : ByteArray), [(⟨#[120]⟩ : ByteArray), (⟨#[121]⟩ : ByteArray)])]).length = 8 := by kernel_rfl
theorem al_f2 : Tfit [((⟨#[97]⟩ : ByteArray), [(⟨#[120]⟩ : ByteArray), (⟨#[121]⟩ : ByteArray)])] := fun x hx => by have : x = _ := List.mem_singleton.1 hx; subst this; decide
theorem al_f3 : Tfit [((⟨#[98]⟩ : ByteArray), [(⟨#[120]⟩ : ByteArray), (⟨#[121]⟩ : ByteArray)])] := fun x hx => by have : x = _ := List.mem_singleton.1 hx; subst this; decide
theorem al_named : nameOk (⟨#[97, 47, 98, 46, 99]⟩ : ByteArray) = true := by kernel_rfl
theorem al_ne : decide ([((⟨#[98]⟩ : ByteArray), [(⟨#[120]⟩ : ByteArray), (⟨#[121]⟩ : ByteArray)])] = [((⟨#[97]⟩ : ByteArray), [(⟨#[120]⟩ : ByteArray), (⟨#[121]⟩ : ByteArray)])]) = false := by kernel_rfl
theorem al_t1 : toB (textT [((⟨#[97]⟩ : ByteArray), [(⟨#[120]⟩ : ByteArray), (⟨#[121]⟩ : ByteArray)])]) = (⟨#[97, 32, 50, 10, 120, 10, 121, 10]⟩ : ByteArray) := by kernel_rfl
theorem al_t2 : toB (textT [((⟨#[98]⟩ : ByteArray), [(⟨#[120]⟩ : ByteArray), (⟨#[121]⟩ : ByteArray)])]) = (⟨#[98, 32, 50, 10, 120, 10, 121, 10]⟩ : ByteArray) := by kernel_rfl


set_option maxRecDepth 100000 in
theorem c_tMany (p b : Nat) (T : List File) (hS : (T.map (fun x => x.2.length)).sum ≤ 1000000000000) : Con Tryz.prog 27 [.pointer (some ⟨p, 0, none⟩)] [box p 85 [.map (some b)], tr b T] [] Unit (fun _ => .tuple #[.int .i64 (T.length : Int), .int .i64 ((T.map (fun x => x.2.length)).sum : Nat)]) (fun _ => [box p 85 [.map (some b)], tr b T]) (fun _ => []) := by
 refine con Tryz.func27 rfl Tryz.ntmps27 rfl ?_
 intro M0 F0 w0
 refine cs ?_
 refine cr ?_
 refine ls (op (p_asg rfl) rfl) ?_
 refine ls (op (p_asg rfl) rfl) ?_
 refine ln ?_
 refine nthen ?_
 refine cs ?_
 refine cs ?_
 refine cr ?_
 refine ls (op (p_move rfl) rfl) ?_
 refine ls (op (p_nilck rfl) rfl) ?_
 refine ls (op (p_fa fa85_0 rfl) rfl) ?_
 refine ls (o_ld Tryz.isAgg83 rfl (by repeat' constructor) (by repeat' constructor) rfl) ?_
 refine ls (o_mrange (i := 1) Tryz.underlying83 rfl rfl rfl) ?_
 refine le ?_; intro r10
 refine ln ?_
 refine nthen ?_
 refine cb ?_
 refine cl (ι := {q : List File × Int // q.2 = ((q.1.map (fun x => x.2.length)).sum : Nat)}) (fun i => St M0 F0 w0 25 [(0, .pointer (some ⟨p, 0, none⟩)), (10, .pointer (some ⟨r10, 0, none⟩)), (3, .int .i64 i.1.2)] [mit b r10 T i.1.1, box p 85 [.map (some b)]] []) (fun i => T.length - (i.1.1).length) ⟨([], 0), by simp⟩ (wk (is := [0, 0]) (by repeat (first | exact subσ.nil _ | refine subσ.cons rfl ?_)) rfl (by repeat' (first | constructor | apply Sub.suf))) ?_
 rintro ⟨⟨K, n⟩, hn⟩
 refine cmono (S' := St M0 F0 w0 25 [(0, .pointer (some ⟨p, 0, none⟩)), (10, .pointer (some ⟨r10, 0, none⟩)), (3, .int .i64 n)] [mit b r10 T K, box p 85 [.map (some b)]] []) (fun _ _ h => h) ?_
 refine cs ?_
 refine cpure (St.mit (by repeat' constructor)) ?_
 rintro ⟨hso, hKn, hKT⟩
 dsimp only at hn
 rcases Classical.em (∃ x ∈ T, x ∉ K) with hK | hK
 ·
  have hlt := nodup_lt hKn hKT hK
  refine cr ?_
  refine ls (o_mnextS (i := 0) rfl rfl hK rfl) ?_
  refine le ?_; rintro ⟨⟨⟨k, l⟩, y⟩, hxT, hxK⟩
  have hsl : ((K ++ [(k, l)]).map (fun x => x.2.length)).sum ≤ (T.map (fun x => x.2.length)).sum := nodup_sum _ _ _ (List.nodup_append.2 ⟨hKn, by simp, fun a ha b hb e => hxK (by simp at hb; exact hb ▸ e ▸ ha)⟩) (fun x hx => by rcases List.mem_append.1 hx with hx | hx; exact hKT x hx; rw [List.mem_singleton.1 hx]; exact hxT)
  have hsa : ((K ++ [(k, l)]).map (fun x => x.2.length)).sum = (K.map (fun x => x.2.length)).sum + l.length := by simp
  refine ls (op (p_ext rfl (by repeat' constructor)) rfl) ?_
  refine ln ?_
  refine nthen ?_
  refine cs ?_
  refine cc rfl (fun h => ?_) (fun h => by cases h)
  refine cskip ?_
  refine nthen ?_
  refine cb ?_
  refine cs ?_
  refine cr ?_
  refine ls (o_mentry rfl (by repeat' constructor) rfl) ?_
  refine le ?_; rintro y13
  refine ls (op (p_ext rfl (by repeat' constructor)) rfl) ?_
  refine ls (op (p_asg rfl) rfl) ?_
  refine ln ?_
  refine nthen ?_
  refine cr ?_
  refine ls (op (p_move rfl) rfl) ?_
  refine ls (op (p_move rfl) rfl) ?_
  refine ls (op (p_lenl rfl Tryz.underlying35) rfl) ?_
  refine ls (op (p_add rfl rfl (by dsimp only; omega)) rfl) ?_
  refine ls (op (p_asg rfl) rfl) ?_
  refine ln ?_
  refine nblock ?_
  refine nnext ⟨(K ++ [(k, l)], n + (l.length : Int)), by dsimp only; omega⟩ (by dsimp only; simp; omega) (wk (is := [0, 0]) (by repeat (first | exact subσ.nil _ | refine subσ.cons rfl ?_)) rfl (by repeat' (first | constructor | apply Sub.suf)))
 ·
  have hpm := perm_of_all hso hKn hKT hK
  have hsm : (K.map (fun x => x.2.length)).sum = (T.map (fun x => x.2.length)).sum := (hpm.map _).sum_nat
  rw [hsm] at hn
  subst hn
  refine cr ?_
  refine ls (o_mnextN rfl (by repeat' constructor) hK rfl) ?_
  refine ls (op (p_ext rfl (by repeat' constructor)) rfl) ?_
  refine ln ?_
  refine nthen ?_
  refine cs ?_
  refine cc rfl (fun h => by cases h) (fun h => ?_)
  refine cexit ?_
  refine xthen ?_
  refine xthen ?_
  refine xblock ?_
  refine nthen ?_
  refine cs ?_
  refine cmono (conv (i := 0) rfl mit_tr) ?_
  refine cr ?_
  refine ls (op (p_move rfl) rfl) ?_
  refine ls (op (p_nilck rfl) rfl) ?_
  refine ls (op (p_fa fa85_0 rfl) rfl) ?_
  refine ls (o_ld Tryz.isAgg83 rfl (by repeat' constructor) (by repeat' constructor) rfl) ?_
  refine ls (o_lenm Tryz.underlying83 rfl (by repeat' constructor) rfl) ?_
  refine ls (op (p_move rfl) rfl) ?_
  refine ls (op (p_asg rfl) rfl) ?_
  refine ls (op (p_asg rfl) rfl) ?_
  refine ln ?_
  refine nthen ?_
  refine cret ?_
  refine xret (fun _ _ h => h) ?_
  refine rret (is := [1, 0]) () (Or.inl rfl) (Res.t rfl (Res.t rfl Res.d)) (rfl) rfl (by repeat' (first | constructor | apply Sub.suf))

set_option maxRecDepth 100000 in
theorem c_Old02 (p b : Nat) (T : List File) (hn : T.length ≤ 2000000) (hf : Tfit T) : Con Tryz.prog 25 [.pointer (some ⟨p, 0, none⟩)] [box p 85 [.map (some b)], tr b T] [] (Option Addr × Nat) (fun y => .slice y.1 T.length y.2) (fun _ => [box p 85 [.map (some b)], tr b T]) (fun y => [slA y.1 T]) := by
 refine con Tryz.func25 rfl Tryz.ntmps25 rfl ?_
 intro M0 F0 w0
 refine cs ?_
 refine cr ?_
 refine ls (op (p_asg rfl) rfl) ?_
 refine ln ?_
 refine nthen ?_
 refine cs ?_
 refine cr ?_
 refine ls (op (p_asg rfl) rfl) ?_
 refine ln ?_
 refine nthen ?_
 refine cs ?_
 refine cs ?_
 refine cpure (St.tr (b := b) (by repeat' constructor)) ?_
 intro hso
 refine cmono (fun a w h => nilRow (α := File) 48 h) ?_
 refine cr ?_
 refine ls (op (p_move rfl) rfl) ?_
 refine ls (o_call (is := [1, 1]) Tryz.call37 (c_tNames p b T hn) rfl rfl (by repeat' (first | constructor | apply Sub.suf)) rfl) ?_
 refine le ?_; rintro ⟨A9, c9⟩
 refine lmono (fun a w h => Go.Sx.freeze (i := 0) rfl h) ?_
 refine ls (op (p_lenl rfl Tryz.underlying35) rfl) ?_
 refine ls (op (p_move rfl) rfl) ?_
 refine ln ?_
 refine nthen ?_
 refine cb ?_
 refine cl (ι := {q : Nat × Option Addr × Nat // q.1 ≤ T.length}) (fun i => St M0 F0 w0 29 [(0, .pointer (some ⟨p, 0, none⟩)), (9, .slice A9 T.length c9), (10, .int .i64 (T.length : Int)), (11, .int .i64 (i.1.1 : Int)), (3, .slice i.1.2.1 (T.take i.1.1).length i.1.2.2)] [row 48 i.1.2.1 i.1.2.2 (T.take i.1.1), box p 85 [.map (some b)], tr b T] [slA A9 (T.map (·.1))]) (fun i => T.length - i.1.1) ⟨(0, none, 0), Nat.zero_le _⟩ (wk (is := [2, 0, 0]) (by repeat (first | exact subσ.nil _ | refine subσ.cons rfl ?_)) rfl (by repeat' (first | constructor | apply Sub.suf))) ?_
 rintro ⟨⟨k, A2, c2⟩, hk⟩
 refine cmono (S' := St M0 F0 w0 29 [(0, .pointer (some ⟨p, 0, none⟩)), (9, .slice A9 T.length c9), (10, .int .i64 (T.length : Int)), (11, .int .i64 (k : Int)), (3, .slice A2 (T.take k).length c2)] [row 48 A2 c2 (T.take k), box p 85 [.map (some b)], tr b T] [slA A9 (T.map (·.1))]) (fun _ _ h => h) ?_
 refine cs ?_
 refine cr ?_
 refine ls (op (p_icmp rfl rfl rfl) rfl) ?_
 refine ln ?_
 refine nthen ?_
 refine cs ?_
 refine cc rfl ?_ ?_
 ·
  intro h12
  dsimp only at hk
  try simp only [decide_eq_true_eq, decide_eq_false_iff_not, Bool.not_eq_true', Bool.not_eq_false', Int.not_lt, Int.not_le, ge_iff_le, Bool.not_true, Bool.not_false] at h12
  have hk1 : k < T.length := by omega
  have hk2 : k < (T.map (·.1)).length := by simpa using hk1
  have hnm : (T.map (·.1))[k] = T[k].1 := List.getElem_map ..
  have hmem : T[k] ∈ T := List.getElem_mem hk1
  have hgl : getL T T[k].1 = T[k].2 := by simp [getL, (getT_some (k := T[k].1) (l := T[k].2) hso).2 hmem]
  refine cskip ?_
  refine nthen ?_
  refine cs ?_
  refine cb ?_
  refine cs ?_
  refine elC (by repeat' constructor) k (List.getElem?_eq_getElem (l := (T.map (·.1))) hk2) ?_; rintro zbp zop zyp hAp
  refine cr ?_
  refine ls (op (p_ia k hAp hk1 rfl Tryz.underlying35 Tryz.sizeOf9 rfl rfl) rfl) ?_
  refine ls (o_ldi Tryz.isAgg9 rfl (by repeat' constructor) 0 rfl (by repeat (first | exact Cut.d | apply Cut.t | apply Cut.s)) rfl) ?_
  refine ls (op (p_asg rfl) rfl) ?_
  refine ln ?_
  refine nthen ?_
  refine cs ?_
  rw [hnm]
  refine cr ?_
  refine ls (op (p_move rfl) rfl) ?_
  refine ls (op (p_move rfl) rfl) ?_
  refine ls (o_call (is := [1, 1]) Tryz.call28 (c_tGet p b T hf T[k].1) rfl rfl (by repeat' (first | constructor | apply Sub.suf)) rfl) ?_
  refine le ?_; rintro ⟨A6, c6⟩
  rw [hgl]
  refine lmono (fun a w h => freezeN (i := 0) rfl h) ?_
  refine ls (op (p_move rfl) rfl) ?_
  refine ls (op (p_ext rfl (by repeat' constructor)) rfl) ?_
  refine ls (op (p_ext rfl (by repeat' constructor)) rfl) ?_
  refine ls (op (p_asg rfl) rfl) ?_
  refine ls (op (p_asg rfl) rfl) ?_
  refine ln ?_
  refine nthen ?_
  refine cr ?_
  refine ls (op (p_move rfl) rfl) ?_
  refine ls (op (p_move rfl) rfl) ?_
  refine ls (op (p_move rfl) rfl) ?_
  refine ls (op (p_bld sb48 rfl (Fill.t (by repeat' constructor) rfl rfl (by repeat' constructor) (Fill.t (by repeat' constructor) rfl rfl (by repeat' constructor) Fill.d))) rfl) ?_
  refine ls (o_bsl [T[k]] Tryz.underlying27 Tryz.sizeOf48 Tryz.zeroValue48 rfl (Enum.t Enum.d) (RV.t (α := File) (A6, c6) rfl (by repeat' (first | constructor | apply Sub.suf)) RV.d) rfl (by decide) (by decide) rfl) ?_
  refine le ?_; intro b25
  refine lmono (fun a w h => Go.Sx.freeze (i := 0) rfl h) ?_
  refine ls (o_app (is := [2]) Tryz.underlying27 inf48 rfl (by decide) (by decide) rfl rfl (by rw [List.length_take]; simp only [List.length_cons, List.length_nil]; omega) (fun h => by cases h) rfl (by repeat' (first | constructor | apply Sub.suf)) rfl) ?_
  refine le ?_; rintro ⟨A3, c3⟩
  rw [← List.take_succ_eq_append_getElem hk1]
  refine ls (op (p_asg rfl) rfl) ?_
  refine ln ?_
  refine nblock ?_
  refine nthen ?_
  refine cr ?_
  refine ls (op (p_add rfl rfl (by omega)) rfl) ?_
  refine ls (op (p_move rfl) rfl) ?_
  refine ln ?_
  refine nnext ⟨(k + 1, A3, c3), hk1⟩ (by dsimp only; omega) (wk (is := [0, 0, 0]) (by repeat (first | exact subσ.nil _ | refine subσ.cons rfl ?_)) rfl (by repeat' (first | constructor | apply Sub.suf)))
 ·
  intro h12
  dsimp only at hk
  try simp only [decide_eq_true_eq, decide_eq_false_iff_not, Bool.not_eq_true', Bool.not_eq_false', Int.not_lt, Int.not_le, ge_iff_le, Bool.not_true, Bool.not_false] at h12
  rw [List.take_of_length_le (by omega)]
  refine cexit ?_
  refine xthen ?_
  refine xthen ?_
  refine xblock ?_
  refine nthen ?_
  refine cs ?_
  refine cmono (fun a w h => Go.Sx.freeze (i := 0) rfl h) ?_
  refine cr ?_
  refine ls (op (p_move rfl) rfl) ?_
  refine ls (op (p_asg rfl) rfl) ?_
  refine ln ?_
  refine nthen ?_
  refine cret ?_
  refine xret (fun _ _ h => h) ?_
  refine rret (is := [0, 0]) (A2, c2) (Or.inl rfl) (Res.t rfl Res.d) (rfl) rfl (by repeat' (first | constructor | apply Sub.suf))

set_option maxRecDepth 100000 in
theorem c_rSame02 (T U : List File) (A B : Option Addr) (c c' : Nat) (hn : T.length ≤ 2000000) (hf : ∀ x ∈ T, x.2.length ≤ 2000000) : Con Tryz.prog 18 [.slice A T.length c, .slice B U.length c'] [] [slA A T, slA B U] Unit (fun _ => .bool (decide (T = U))) (fun _ => []) (fun _ => []) := by
 refine con Tryz.func18 rfl Tryz.ntmps18 rfl ?_
 intro M0 F0 w0
 refine cs ?_
 refine cr ?_
 refine ls (op (p_asg rfl) rfl) ?_
 refine ln ?_
 refine nthen ?_
 refine cs ?_
 refine cs ?_
 refine cr ?_
 refine ls (op (p_move rfl) rfl) ?_
 refine ls (op (p_lenl rfl Tryz.underlying27) rfl) ?_
 refine ls (op (p_move rfl) rfl) ?_
 refine ls (op (p_lenl rfl Tryz.underlying27) rfl) ?_
 refine ls (op (p_icmp rfl rfl rfl) rfl) ?_
 refine ln ?_
 refine nthen ?_
 refine cc rfl ?_ ?_
 ·
  intro h10
  have hne : ¬ T.length = U.length := by simp at h10; omega
  have hTU : ¬ T = U := fun e => hne (congrArg List.length e)
  refine cs ?_
  refine cr ?_
  refine ls (op (p_asg rfl) rfl) ?_
  refine ln ?_
  refine nthen ?_
  refine cret ?_
  refine xret (fun _ _ h => h) ?_
  refine rret (is := []) () (Or.inl rfl) (Res.t rfl Res.d) ?_ rfl (by repeat' (first | constructor | apply Sub.suf))
  simp [packV, hTU]
 ·
  intro h10
  have hlen : T.length = U.length := by simp at h10; omega
  refine cskip ?_
  refine nthen ?_
  refine cs ?_
  refine cs ?_
  refine cr ?_
  refine ls (op (p_asg rfl) rfl) ?_
  refine ln ?_
  refine nthen ?_
  refine cb ?_
  refine cl (ι := {q : Nat // q ≤ T.length ∧ T.take q = U.take q}) (fun i => St M0 F0 w0 42 [(0, .slice A T.length c), (1, .slice B U.length c'), (5, .int .i64 (i.1 : Int))] [] [slA A T, slA B U]) (fun i => T.length - i.1) ⟨0, Nat.zero_le _, rfl⟩ (wk0 (by repeat (first | exact subσ.nil _ | refine subσ.cons rfl ?_)) (by repeat' (first | constructor | apply Sub.suf))) ?_
  rintro ⟨k, hk, he⟩
  refine cmono (S' := St M0 F0 w0 42 [(0, .slice A T.length c), (1, .slice B U.length c'), (5, .int .i64 (k : Int))] [] [slA A T, slA B U]) (fun _ _ h => h) ?_
  refine cs ?_
  refine cs ?_
  refine cr ?_
  refine ls (op (p_move rfl) rfl) ?_
  refine ls (op (p_move rfl) rfl) ?_
  refine ls (op (p_lenl rfl Tryz.underlying27) rfl) ?_
  refine ls (op (p_icmp rfl rfl rfl) rfl) ?_
  refine ln ?_
  refine nthen ?_
  refine cc rfl ?_ ?_
  ·
   intro h14
   try dsimp only at hk he
   try simp only [decide_eq_true_eq, decide_eq_false_iff_not, Bool.not_eq_true', Bool.not_eq_false', Int.not_lt, Int.not_le, ge_iff_le, Bool.not_true, Bool.not_false] at h14
   have hk1 : k < T.length := by omega
   have hk2 : k < U.length := by omega
   have hfk := hf _ (List.getElem_mem hk1)
   refine cskip ?_
   refine nthen ?_
   refine cs ?_
   refine cb ?_
   refine cs ?_
   refine elC (by repeat' constructor) k (List.getElem?_eq_getElem (l := T) hk1) ?_; rintro zbp zop zyp hAp
   refine elC (by repeat' constructor) k (List.getElem?_eq_getElem (l := U) hk2) ?_; rintro zbq zoq zyq hAq
   rcases Classical.em (T[k].1 = U[k].1) with hnm | hnm
   ·
    refine cd [22] [(4, zbp, zop + k * Rp.size File, _), (9, zbq, zoq + k * Rp.size File, _), (16, zbp, zop + k * Rp.size File + 1, _), (21, zbq, zoq + k * Rp.size File + 1, _)] TryzX.mixed (TOk.t (isInS (by repeat' constructor) (k := 0) rfl (z := 1) (by repeat (first | exact Cut.d | apply Cut.t | apply Cut.s))) (TOk.t (isInS (by repeat' constructor) (k := 0) rfl (z := 1) (by repeat (first | exact Cut.d | apply Cut.t | apply Cut.s))) (TOk.t (isInS (by repeat' constructor) (k := 1) rfl (z := 1) (by repeat (first | exact Cut.d | apply Cut.t | apply Cut.s))) (TOk.t (isInS (by repeat' constructor) (k := 1) rfl (z := 1) (by repeat (first | exact Cut.d | apply Cut.t | apply Cut.s))) TOk.d)))) ?_
    refine tk 0 rfl (by kernel_rfl) (fun _ _ _ h => h) gnone (TTany _) (p_move rfl) rfl ?_
    refine tk 1 rfl (by kernel_rfl) (fun _ _ _ h => h) gnone (TTany _) (p_move rfl) rfl ?_
    refine tk 2 rfl (by kernel_rfl) (fun _ _ _ h => h) gnone (TTany _) (p_ia k hAp hk1 rfl Tryz.underlying27 Tryz.sizeOf48 rfl rfl) rfl ?_
    refine tk 3 rfl (by kernel_rfl) (fun _ _ _ h => h) gnone (TTany _) (p_fa fa48_0 rfl) rfl ?_
    refine tk 4 rfl (by kernel_rfl) (fun _ _ _ h => h) gnone (TTat (List.Mem.head _)) (p_ld Tryz.isAgg9 rfl) rfl ?_
    refine tk 5 rfl (by kernel_rfl) (fun _ _ _ h => h) gnone (TTany _) (p_move rfl) rfl ?_
    refine tk 6 rfl (by kernel_rfl) (fun _ _ _ h => h) gnone (TTany _) (p_move rfl) rfl ?_
    refine tk 7 rfl (by kernel_rfl) (fun _ _ _ h => h) gnone (TTany _) (p_ia k hAq hk2 rfl Tryz.underlying27 Tryz.sizeOf48 rfl rfl) rfl ?_
    refine tk 8 rfl (by kernel_rfl) (fun _ _ _ h => h) gnone (TTany _) (p_fa fa48_0 rfl) rfl ?_
    refine tk 9 rfl (by kernel_rfl) (fun _ _ _ h => h) gnone (TTat (List.Mem.tail _ (List.Mem.head _))) (p_ld Tryz.isAgg9 rfl) rfl ?_
    refine tk 10 rfl (by kernel_rfl) (fun _ _ _ h => h) gnone (TTany _) (p_sne rfl rfl) rfl ?_
    refine fixA (congrArg Value.bool (by simp [hnm] : (!decide (T[k].1 = U[k].1)) = false)) ?_
    refine tk 11 rfl (by kernel_rfl) (fun _ _ _ h => h) gnone (TTany _) (p_move rfl) rfl ?_
    refine tk 12 rfl (by kernel_rfl) (fun _ _ _ h => h) (gyes rfl rfl rfl rfl) (TTany _) (gpu (p_move rfl)) rfl ?_
    refine tk 13 rfl (by kernel_rfl) (fun _ _ _ h => h) (gyes rfl rfl rfl rfl) (TTany _) (gpu (p_move rfl)) rfl ?_
    refine tk 14 rfl (by kernel_rfl) (fun _ _ _ h => h) (gyes rfl rfl rfl rfl) (TTany _) (gpu (p_ia k hAp hk1 rfl Tryz.underlying27 Tryz.sizeOf48 rfl rfl)) rfl ?_
    refine tk 15 rfl (by kernel_rfl) (fun _ _ _ h => h) (gyes rfl rfl rfl rfl) (TTany _) (gpu (p_fa fa48_1 rfl)) rfl ?_
    refine tk 16 rfl (by kernel_rfl) (fun _ _ _ h => h) (gyes rfl rfl rfl rfl) (TTat (List.Mem.tail _ (List.Mem.tail _ (List.Mem.head _)))) (gpu (p_ld Tryz.isAgg35 rfl)) rfl ?_
    refine tk 17 rfl (by kernel_rfl) (fun _ _ _ h => h) (gyes rfl rfl rfl rfl) (TTany _) (gpu (p_move rfl)) rfl ?_
    refine tk 18 rfl (by kernel_rfl) (fun _ _ _ h => h) (gyes rfl rfl rfl rfl) (TTany _) (gpu (p_move rfl)) rfl ?_
    refine tk 19 rfl (by kernel_rfl) (fun _ _ _ h => h) (gyes rfl rfl rfl rfl) (TTany _) (gpu (p_ia k hAq hk2 rfl Tryz.underlying27 Tryz.sizeOf48 rfl rfl)) rfl ?_
    refine tk 20 rfl (by kernel_rfl) (fun _ _ _ h => h) (gyes rfl rfl rfl rfl) (TTany _) (gpu (p_fa fa48_1 rfl)) rfl ?_
    refine tk 21 rfl (by kernel_rfl) (fun _ _ _ h => h) (gyes rfl rfl rfl rfl) (TTat (List.Mem.tail _ (List.Mem.tail _ (List.Mem.tail _ (List.Mem.head _))))) (gpu (p_ld Tryz.isAgg35 rfl)) rfl ?_
    refine df 22 (by kernel_rfl) ?_
    refine doG rfl rfl rfl rfl rfl (o_call (is := []) Tryz.call54 (c_refSame1 T[k].2 U[k].2 zyp.1 zyq.1 zyp.2 zyq.2 hfk) rfl rfl (by repeat' (first | constructor | apply Sub.suf)) rfl) (TOk.x (by kernel_rfl) (TOk.x (by kernel_rfl) (TOk.x (by kernel_rfl) (TOk.x (by kernel_rfl) TOk.d)))) ?_
    refine ea ?_; intro x39
    refine tk 23 rfl (by kernel_rfl) (fun _ _ _ h => h) (gyes rfl rfl rfl rfl) (TTany _) (gpu (p_not rfl)) rfl ?_
    refine tk 24 rfl (by kernel_rfl) (fun _ _ _ h => h) gnone (TTany _) (p_pickf rfl rfl) rfl ?_
    refine dn (by kernel_rfl) ?_
    refine nthen ?_
    refine cc rfl ?_ ?_
    ·
     intro h41
     have hlk : ¬ T[k].2 = U[k].2 := by simpa using h41
     have hTU : ¬ T = U := fun e => hlk (by subst e; rfl)
     refine cs ?_
     refine cr ?_
     refine ls (op (p_asg rfl) rfl) ?_
     refine ln ?_
     refine nthen ?_
     refine cret ?_
     refine xret (fun _ _ h => h) ?_
     refine rret (is := []) () (Or.inl rfl) (Res.t rfl Res.d) ?_ rfl (by repeat' (first | constructor | apply Sub.suf))
     simp [packV, hTU]
    ·
     intro h41
     have hlk : T[k].2 = U[k].2 := by simpa using h41
     have hek : T[k] = U[k] := Prod.ext hnm hlk
     refine cskip ?_
     refine nblock ?_
     refine nthen ?_
     refine cr ?_
     refine ls (op (p_move rfl) rfl) ?_
     refine ls (op (p_add rfl rfl (by omega)) rfl) ?_
     refine ls (op (p_asg rfl) rfl) ?_
     refine ln ?_
     refine nnext ⟨k + 1, hk1, by rw [List.take_succ_eq_append_getElem hk1, List.take_succ_eq_append_getElem hk2, he, hek]⟩ (by dsimp only; omega) (wk0 (by repeat (first | exact subσ.nil _ | refine subσ.cons rfl ?_)) (by repeat' (first | constructor | apply Sub.suf)))
   ·
    have hTU : ¬ T = U := fun e => hnm (by subst e; rfl)
    refine cd [] [(4, zbp, zop + k * Rp.size File, _), (9, zbq, zoq + k * Rp.size File, _)] TryzX.mixed (TOk.t (isInS (by repeat' constructor) (k := 0) rfl (z := 1) (by repeat (first | exact Cut.d | apply Cut.t | apply Cut.s))) (TOk.t (isInS (by repeat' constructor) (k := 0) rfl (z := 1) (by repeat (first | exact Cut.d | apply Cut.t | apply Cut.s))) TOk.d)) ?_
    refine tk 0 rfl (by kernel_rfl) (fun _ _ _ h => h) gnone (TTany _) (p_move rfl) rfl ?_
    refine tk 1 rfl (by kernel_rfl) (fun _ _ _ h => h) gnone (TTany _) (p_move rfl) rfl ?_
    refine tk 2 rfl (by kernel_rfl) (fun _ _ _ h => h) gnone (TTany _) (p_ia k hAp hk1 rfl Tryz.underlying27 Tryz.sizeOf48 rfl rfl) rfl ?_
    refine tk 3 rfl (by kernel_rfl) (fun _ _ _ h => h) gnone (TTany _) (p_fa fa48_0 rfl) rfl ?_
    refine tk 4 rfl (by kernel_rfl) (fun _ _ _ h => h) gnone (TTat (List.Mem.head _)) (p_ld Tryz.isAgg9 rfl) rfl ?_
    refine tk 5 rfl (by kernel_rfl) (fun _ _ _ h => h) gnone (TTany _) (p_move rfl) rfl ?_
    refine tk 6 rfl (by kernel_rfl) (fun _ _ _ h => h) gnone (TTany _) (p_move rfl) rfl ?_
    refine tk 7 rfl (by kernel_rfl) (fun _ _ _ h => h) gnone (TTany _) (p_ia k hAq hk2 rfl Tryz.underlying27 Tryz.sizeOf48 rfl rfl) rfl ?_
    refine tk 8 rfl (by kernel_rfl) (fun _ _ _ h => h) gnone (TTany _) (p_fa fa48_0 rfl) rfl ?_
    refine tk 9 rfl (by kernel_rfl) (fun _ _ _ h => h) gnone (TTat (List.Mem.tail _ (List.Mem.head _))) (p_ld Tryz.isAgg9 rfl) rfl ?_
    refine tk 10 rfl (by kernel_rfl) (fun _ _ _ h => h) gnone (TTany _) (p_sne rfl rfl) rfl ?_
    refine fixA (congrArg Value.bool (by simp [hnm] : (!decide (T[k].1 = U[k].1)) = true)) ?_
    refine tk 11 rfl (by kernel_rfl) (fun _ _ _ h => h) gnone (TTany _) (p_move rfl) rfl ?_
    refine tks 12 rfl (by kernel_rfl) (fun _ _ _ h => h) rfl rfl rfl rfl rfl ?_
    refine tks 13 rfl (by kernel_rfl) (fun _ _ _ h => h) rfl rfl rfl rfl rfl ?_
    refine tks 14 rfl (by kernel_rfl) (fun _ _ _ h => h) rfl rfl rfl rfl rfl ?_
    refine tks 15 rfl (by kernel_rfl) (fun _ _ _ h => h) rfl rfl rfl rfl rfl ?_
    refine tks 16 rfl (by kernel_rfl) (fun _ _ _ h => h) rfl rfl rfl rfl rfl ?_
    refine tks 17 rfl (by kernel_rfl) (fun _ _ _ h => h) rfl rfl rfl rfl rfl ?_
    refine tks 18 rfl (by kernel_rfl) (fun _ _ _ h => h) rfl rfl rfl rfl rfl ?_
    refine tks 19 rfl (by kernel_rfl) (fun _ _ _ h => h) rfl rfl rfl rfl rfl ?_
    refine tks 20 rfl (by kernel_rfl) (fun _ _ _ h => h) rfl rfl rfl rfl rfl ?_
    refine tks 21 rfl (by kernel_rfl) (fun _ _ _ h => h) rfl rfl rfl rfl rfl ?_
    refine tks 22 rfl (by kernel_rfl) (fun _ _ _ h => h) rfl rfl rfl rfl rfl ?_
    refine tks 23 rfl (by kernel_rfl) (fun _ _ _ h => h) rfl rfl rfl rfl rfl ?_
    refine tk 24 rfl (by kernel_rfl) (fun _ _ _ h => h) gnone (TTany _) (p_pickt rfl rfl) rfl ?_
    refine dn (by kernel_rfl) ?_
    refine nthen ?_
    refine cc rfl (fun h => ?_) (fun h => by cases h)
    refine cs ?_
    refine cr ?_
    refine ls (op (p_asg rfl) rfl) ?_
    refine ln ?_
    refine nthen ?_
    refine cret ?_
    refine xret (fun _ _ h => h) ?_
    refine rret (is := []) () (Or.inl rfl) (Res.t rfl Res.d) ?_ rfl (by repeat' (first | constructor | apply Sub.suf))
    simp [packV, hTU]
  ·
   intro h14
   try dsimp only at hk he
   try simp only [decide_eq_true_eq, decide_eq_false_iff_not, Bool.not_eq_true', Bool.not_eq_false', Int.not_lt, Int.not_le, ge_iff_le, Bool.not_true, Bool.not_false] at h14
   rw [List.take_of_length_le (by omega), List.take_of_length_le (by omega)] at he
   refine cexit ?_
   refine xthen ?_
   refine xthen ?_
   refine xblock ?_
   refine nthen ?_
   refine cs ?_
   refine cr ?_
   refine ls (op (p_asg rfl) rfl) ?_
   refine ln ?_
   refine nthen ?_
   refine cret ?_
   refine xret (fun _ _ h => h) ?_
   refine rret (is := []) () (Or.inl rfl) (Res.t rfl Res.d) ?_ rfl (by repeat' (first | constructor | apply Sub.suf))
   simp [packV, he]

set_option maxRecDepth 100000 in
theorem c_mEq (b d : Nat) (T U : List File) (hf : ∀ x ∈ T, x.2.length ≤ 2000000) : Con Tryz.prog 55 [.map (some b), .map (some d), .func (.func 32) #[] #[]] [tr b T, tr d U] [] Unit (fun _ => .bool (decide (T = U))) (fun _ => [tr b T, tr d U]) (fun _ => []) := by
 refine con Tryz.func55 rfl Tryz.ntmps55 rfl ?_
 intro M0 F0 w0
 refine cs ?_
 refine cr ?_
 refine ls (op (p_asg rfl) rfl) ?_
 refine ln ?_
 refine nthen ?_
 refine cs ?_
 refine cs ?_
 refine cr ?_
 refine ls (op (p_move rfl) rfl) ?_
 refine ls (o_lenm Tryz.underlying83 rfl (by repeat' constructor) rfl) ?_
 refine ls (op (p_move rfl) rfl) ?_
 refine ls (o_lenm Tryz.underlying83 rfl (by repeat' constructor) rfl) ?_
 refine ls (op (p_icmp rfl rfl rfl) rfl) ?_
 refine ln ?_
 refine nthen ?_
 refine cc rfl ?_ ?_
 ·
  intro h15
  have hne : ¬ T.length = U.length := by simp at h15; omega
  have hTU : ¬ T = U := fun e => hne (congrArg List.length e)
  refine cs ?_
  refine cr ?_
  refine ls (op (p_asg rfl) rfl) ?_
  refine ln ?_
  refine nthen ?_
  refine cret ?_
  refine xret (fun _ _ h => h) ?_
  refine rret (is := [0, 0]) () (Or.inl rfl) (Res.t rfl Res.d) ?_ rfl (by repeat' (first | constructor | apply Sub.suf))
  simp [packV, hTU]
 ·
  intro h15
  have hlen : T.length = U.length := by simp at h15; omega
  refine cskip ?_
  refine nthen ?_
  refine cs ?_
  refine cs ?_
  refine cr ?_
  refine ls (op (p_move rfl) rfl) ?_
  refine ls (o_mrange (i := 0) Tryz.underlying83 rfl rfl rfl) ?_
  refine le ?_; intro r17
  refine ln ?_
  refine nthen ?_
  refine cb ?_
  refine cl (ι := {K : List File // ∀ x ∈ K, getT U x.1 = some x.2}) (fun i => St M0 F0 w0 38 [(1, .map (some d)), (2, .func (.func 32) #[] #[]), (17, .pointer (some ⟨r17, 0, none⟩))] [mit b r17 T i.1, tr d U] []) (fun i => T.length - (i.1).length) ⟨[], fun _ h => by cases h⟩ (wk (is := [0, 0]) (by repeat (first | exact subσ.nil _ | refine subσ.cons rfl ?_)) rfl (by repeat' (first | constructor | apply Sub.suf))) ?_
  rintro ⟨K, hKU⟩
  refine cmono (S' := St M0 F0 w0 38 [(1, .map (some d)), (2, .func (.func 32) #[] #[]), (17, .pointer (some ⟨r17, 0, none⟩))] [mit b r17 T K, tr d U] []) (fun _ _ h => h) ?_
  refine cs ?_
  try dsimp only at hKU
  refine cpure (St.mit (by repeat' constructor)) ?_
  rintro ⟨hso, hKn, hKT⟩
  refine cpure (St.tr (b := d) (by repeat' constructor)) ?_
  intro hsu
  rcases Classical.em (∃ x ∈ T, x ∉ K) with hK | hK
  ·
   have hlt := nodup_lt hKn hKT hK
   refine cr ?_
   refine ls (o_mnextS (i := 0) rfl rfl hK rfl) ?_
   refine le ?_; rintro ⟨⟨⟨k, l⟩, y⟩, hxT, hxK⟩
   refine ls (op (p_ext rfl (by repeat' constructor)) rfl) ?_
   refine ln ?_
   refine nthen ?_
   refine cs ?_
   refine cc rfl (fun h => ?_) (fun h => by cases h)
   refine cskip ?_
   refine nthen ?_
   refine cb ?_
   refine cs ?_
   refine cr ?_
   refine ls (o_mentry rfl (by repeat' constructor) rfl) ?_
   refine le ?_; rintro y20
   refine ls (op (p_ext rfl (by repeat' constructor)) rfl) ?_
   refine ls (op (p_ext rfl (by repeat' constructor)) rfl) ?_
   refine ls (op (p_asg rfl) rfl) ?_
   refine ls (op (p_asg rfl) rfl) ?_
   refine ln ?_
   refine nthen ?_
   refine cs ?_
   refine cr ?_
   refine ls (op (p_move rfl) rfl) ?_
   refine ls (op (p_move rfl) rfl) ?_
   refine ls (o_look Tryz.underlying83 Tryz.underlying9 Tryz.zeroValue35 rfl rfl (by repeat' constructor) rfl) ?_
   refine le ?_; rintro y26
   refine ls (op (p_move rfl) rfl) ?_
   refine ls (op (p_ext rfl (by repeat' constructor)) rfl) ?_
   refine ls (op (p_ext rfl (by repeat' constructor)) rfl) ?_
   refine ls (op (p_asg rfl) rfl) ?_
   refine ls (op (p_asg rfl) rfl) ?_
   refine ln ?_
   refine nthen ?_
   refine cs ?_
   refine cr ?_
   refine ls (op (p_move rfl) rfl) ?_
   refine ls (op (p_not rfl) rfl) ?_
   refine ls (op (p_move rfl) rfl) ?_
   refine splitL 31 rfl ?_ ?_
   ·
    intro h31
    have hTU : ¬ T = U := ne_of_one hso hxT (by have h := h31; simp only [Bool.not_eq_true'] at h; unfold hasT at h; dsimp only at h ⊢; intro e; rw [e] at h; cases h)
    refine lskip rfl rfl rfl rfl rfl ?_
    refine lskip rfl rfl rfl rfl rfl ?_
    refine lskip rfl rfl rfl rfl rfl ?_
    refine lskip rfl rfl rfl rfl rfl ?_
    refine lskip rfl rfl rfl rfl rfl ?_
    refine ls (op (p_pickt rfl rfl) rfl) ?_
    refine ln ?_
    refine nthen ?_
    refine cc rfl (fun h => ?_) (fun h => by cases h)
    refine cs ?_
    refine cr ?_
    refine ls (op (p_asg rfl) rfl) ?_
    refine ln ?_
    refine nthen ?_
    refine cret ?_
    refine xret (fun _ _ h => h) ?_
    refine nmono (conv (i := 0) rfl mit_tr) ?_
    refine rret (is := [0, 0]) () (Or.inl rfl) (Res.t rfl Res.d) ?_ rfl (by repeat' (first | constructor | apply Sub.suf))
    simp [packV, hTU]
   ·
    intro h31
    have hhas : hasT U k = true := by have h := h31; simp only [Bool.not_eq_false'] at h; exact h
    obtain ⟨lv, hlv⟩ := Option.isSome_iff_exists.1 hhas
    have hgl : getL U k = lv := by simp [getL, hlv]
    refine lwant rfl rfl rfl rfl (op (p_move rfl) rfl) ?_
    refine lwant rfl rfl rfl rfl (op (p_move rfl) rfl) ?_
    refine lwant rfl rfl rfl rfl (op (p_move rfl) rfl) ?_
    refine lwant rfl rfl rfl rfl (o_callv (is := []) rfl Tryz.call32 (c_lineSame l (getL U k) _ _ _ _ (hf _ hxT)) rfl rfl rfl (by repeat' (first | constructor | apply Sub.suf)) rfl) ?_
    refine le ?_; intro x35
    refine lwant rfl rfl rfl rfl (op (p_not rfl) rfl) ?_
    refine ls (op (p_pickf rfl rfl) rfl) ?_
    refine ln ?_
    refine nthen ?_
    refine cc rfl ?_ ?_
    ·
     intro h37
     have hlk : ¬ l = getL U k := by simpa using h37
     have hTU : ¬ T = U := ne_of_one hso hxT (by dsimp only; rw [hlv]; intro e; injection e with e; exact hlk (by rw [hgl, e]))
     refine cs ?_
     refine cr ?_
     refine ls (op (p_asg rfl) rfl) ?_
     refine ln ?_
     refine nthen ?_
     refine cret ?_
     refine xret (fun _ _ h => h) ?_
     refine nmono (conv (i := 0) rfl mit_tr) ?_
     refine rret (is := [0, 0]) () (Or.inl rfl) (Res.t rfl Res.d) ?_ rfl (by repeat' (first | constructor | apply Sub.suf))
     simp [packV, hTU]
    ·
     intro h37
     have hlk : l = getL U k := by simpa using h37
     refine cskip ?_
     refine nblock ?_
     refine nnext ⟨K ++ [(k, l)], fun x hx => by rcases List.mem_append.1 hx with hx | hx; exact hKU x hx; rw [List.mem_singleton.1 hx]; dsimp only; rw [hlv, hlk, hgl]⟩ (by dsimp only; simp; omega) (wk (is := [0, 0]) (by repeat (first | exact subσ.nil _ | refine subσ.cons rfl ?_)) rfl (by repeat' (first | constructor | apply Sub.suf)))
  ·
   have hTU : T = U := eq_of_all hso hsu hlen fun x hx => hKU x (Classical.byContradiction fun h => hK ⟨x, hx, h⟩)
   refine cr ?_
   refine ls (o_mnextN rfl (by repeat' constructor) hK rfl) ?_
   refine ls (op (p_ext rfl (by repeat' constructor)) rfl) ?_
   refine ln ?_
   refine nthen ?_
   refine cs ?_
   refine cc rfl (fun h => by cases h) (fun h => ?_)
   refine cexit ?_
   refine xthen ?_
   refine xthen ?_
   refine xblock ?_
   refine nthen ?_
   refine cs ?_
   refine cr ?_
   refine ls (op (p_asg rfl) rfl) ?_
   refine ln ?_
   refine nthen ?_
   refine cret ?_
   refine xret (fun _ _ h => h) ?_
   refine nmono (conv (i := 0) rfl mit_tr) ?_
   refine rret (is := [0, 0]) () (Or.inl rfl) (Res.t rfl Res.d) ?_ rfl (by repeat' (first | constructor | apply Sub.suf))
   simp [packV, hTU]

set_option maxRecDepth 100000 in
theorem c_tSame (p b q d : Nat) (T U : List File) (hf : ∀ x ∈ T, x.2.length ≤ 2000000) : Con Tryz.prog 19 [.pointer (some ⟨p, 0, none⟩), .pointer (some ⟨q, 0, none⟩)] [box p 85 [.map (some b)], tr b T, box q 85 [.map (some d)], tr d U] [] Unit (fun _ => .bool (decide (T = U))) (fun _ => [box p 85 [.map (some b)], tr b T, box q 85 [.map (some d)], tr d U]) (fun _ => []) := by
 refine con Tryz.func19 rfl Tryz.ntmps19 rfl ?_
 intro M0 F0 w0
 refine cs ?_
 refine cr ?_
 refine ls (op (p_asg rfl) rfl) ?_
 refine ln ?_
 refine nthen ?_
 refine cs ?_
 refine cd [8] [(3, p, 0, _), (7, q, 0, _)] TryzX.mixed (TOk.t (isBoxS (by repeat' constructor) (k := 1) (by repeat (first | exact Cut.d | apply Cut.t | apply Cut.s))) (TOk.t (isBoxS (by repeat' constructor) (k := 1) (by repeat (first | exact Cut.d | apply Cut.t | apply Cut.s))) TOk.d)) ?_
 refine tk 0 rfl (by kernel_rfl) (fun _ _ _ h => h) gnone (TTany _) (p_move rfl) rfl ?_
 refine tk 1 rfl (by kernel_rfl) (fun _ _ _ h => h) gnone (TTany _) (p_nilck rfl) rfl ?_
 refine tk 2 rfl (by kernel_rfl) (fun _ _ _ h => h) gnone (TTany _) (p_fa fa85_0 rfl) rfl ?_
 refine tk 3 rfl (by kernel_rfl) (fun _ _ _ h => h) gnone (TTat (List.Mem.head _)) (p_ld Tryz.isAgg83 rfl) rfl ?_
 refine tk 4 rfl (by kernel_rfl) (fun _ _ _ h => h) gnone (TTany _) (p_move rfl) rfl ?_
 refine tk 5 rfl (by kernel_rfl) (fun _ _ _ h => h) gnone (TTany _) (p_nilck rfl) rfl ?_
 refine tk 6 rfl (by kernel_rfl) (fun _ _ _ h => h) gnone (TTany _) (p_fa fa85_0 rfl) rfl ?_
 refine tk 7 rfl (by kernel_rfl) (fun _ _ _ h => h) gnone (TTat (List.Mem.tail _ (List.Mem.head _))) (p_ld Tryz.isAgg83 rfl) rfl ?_
 refine df 8 (by kernel_rfl) ?_
 refine doR rfl (o_call (is := [1, 2]) Tryz.call55 (c_mEq b d T U hf) rfl rfl (by repeat' (first | constructor | apply Sub.suf)) rfl) (TOk.x (by kernel_rfl) (TOk.x (by kernel_rfl) TOk.d)) ?_
 refine ea ?_; intro x13
 refine tk 9 rfl (by kernel_rfl) (fun _ _ _ h => h) gnone (TTany _) (p_asg rfl) rfl ?_
 refine dn (by kernel_rfl) ?_
 refine nthen ?_
 refine cret ?_
 refine xret (fun _ _ h => h) ?_
 refine rret (is := [2, 0, 1, 0]) () (Or.inl rfl) (Res.t rfl Res.d) (rfl) rfl (by repeat' (first | constructor | apply Sub.suf))

set_option maxRecDepth 100000 in
theorem c_alive02 : Con Tryz.prog 16 [] [] [] Unit (fun _ => .bool true) (fun _ => []) (fun _ => []) := by
 refine con Tryz.func16 rfl Tryz.ntmps16 rfl ?_
 intro M0 F0 w0
 refine cs ?_
 refine cr ?_
 refine ls (op (p_asg rfl) rfl) ?_
 refine ln ?_
 refine nthen ?_
 refine cs ?_
 refine cr ?_
 refine ls (o_call (is := []) Tryz.call22 (c_tNew) rfl rfl (by repeat' (first | constructor | apply Sub.suf)) rfl) ?_
 refine le ?_; rintro ⟨p, b⟩
 refine ls (op (p_asg rfl) rfl) ?_
 refine ln ?_
 refine nthen ?_
 refine cs ?_
 refine cs ?_
 refine cr ?_
 refine ls (op (p_move rfl) rfl) ?_
 refine ls (op (p_ptrnil Tryz.underlying25 rfl rfl) rfl) ?_
 refine ln ?_
 refine nthen ?_
 refine cc rfl (fun h => by cases h) (fun h => ?_)
 refine cskip ?_
 refine nthen ?_
 refine cs ?_
 refine cr ?_
 refine ls (op (p_move rfl) rfl) ?_
 refine ls (o_call (is := [0, 0]) Tryz.call33 (c_tAdd p b [] (⟨#[97]⟩ : ByteArray)) rfl rfl (by repeat' (first | constructor | apply Sub.suf)) rfl) ?_
 refine le ?_; rintro ⟨⟨T1, e1⟩, hq1⟩
 try dsimp only at hq1
 obtain ⟨rfl, rfl⟩ := Prod.mk.inj (hq1.trans al_add)
 refine ls (op (p_move rfl) rfl) ?_
 refine ls (o_bsl [(⟨#[120]⟩ : ByteArray), (⟨#[121]⟩ : ByteArray)] Tryz.underlying35 Tryz.sizeOf9 Tryz.zeroValue9 rfl (Enum.t (Enum.t Enum.d)) (RV.t () rfl Sub.d (RV.t () rfl Sub.d RV.d)) rfl (by decide) (by decide) rfl) ?_
 refine le ?_; intro b14
 refine lmono (fun a w h => Go.Sx.freeze (i := 0) rfl h) ?_
 refine ls (o_call (is := [0, 0]) Tryz.call38 (c_tPut p b [((⟨#[97]⟩ : ByteArray), ([] : List ByteArray))] (⟨#[97]⟩ : ByteArray) [(⟨#[120]⟩ : ByteArray), (⟨#[121]⟩ : ByteArray)] _ _ (by simp)) rfl rfl (by repeat' (first | constructor | apply Sub.suf)) rfl) ?_
 refine le ?_; rintro ⟨⟨T2, e2⟩, hq2⟩
 try dsimp only at hq2
 obtain ⟨rfl, rfl⟩ := Prod.mk.inj (hq2.trans al_put)
 refine ls (op (p_asg rfl) rfl) ?_
 refine ls (op (p_asg rfl) rfl) ?_
 refine ln ?_
 refine nthen ?_
 refine cs ?_
 refine cr ?_
 refine ls (op (p_move rfl) rfl) ?_
 refine ls (o_call (is := [0, 0]) Tryz.call21 (c_tCopy p b [((⟨#[97]⟩ : ByteArray), [(⟨#[120]⟩ : ByteArray), (⟨#[121]⟩ : ByteArray)])]) rfl rfl (by repeat' (first | constructor | apply Sub.suf)) rfl) ?_
 refine le ?_; rintro ⟨p4, b4⟩
 refine ls (op (p_asg rfl) rfl) ?_
 refine ln ?_
 refine nthen ?_
 refine cs ?_
 refine cr ?_
 refine ls (op (p_move rfl) rfl) ?_
 refine ls (o_call (is := [2, 2]) Tryz.call35 (c_tMove p b [((⟨#[97]⟩ : ByteArray), [(⟨#[120]⟩ : ByteArray), (⟨#[121]⟩ : ByteArray)])] (⟨#[97]⟩ : ByteArray) (⟨#[98]⟩ : ByteArray)) rfl rfl (by repeat' (first | constructor | apply Sub.suf)) rfl) ?_
 refine le ?_; rintro ⟨⟨T3, e3⟩, hq3⟩
 try dsimp only at hq3
 obtain ⟨rfl, rfl⟩ := Prod.mk.inj (hq3.trans al_move)
 refine ls (op (p_asg rfl) rfl) ?_
 refine ln ?_
 refine nthen ?_
 refine cs ?_
 refine cs ?_
 refine cr ?_
 refine ls (op (p_move rfl) rfl) ?_
 refine ls (op (p_ptrnil Tryz.underlying25 rfl rfl) rfl) ?_
 refine ln ?_
 refine nthen ?_
 refine cc rfl (fun h => by cases h) (fun h => ?_)
 refine cskip ?_
 refine nthen ?_
 refine cs ?_
 refine cr ?_
 refine ls (op (p_move rfl) rfl) ?_
 refine ls (o_call (is := [0, 0]) Tryz.call27 (c_tMany p b [((⟨#[98]⟩ : ByteArray), [(⟨#[120]⟩ : ByteArray), (⟨#[121]⟩ : ByteArray)])] (by decide)) rfl rfl (by repeat' (first | constructor | apply Sub.suf)) rfl) ?_
 refine le ?_; intro x24
 refine ls (op (p_move rfl) rfl) ?_
 refine ls (op (p_ext rfl (by repeat' constructor)) rfl) ?_
 refine ls (op (p_ext rfl (by repeat' constructor)) rfl) ?_
 refine ls (op (p_asg rfl) rfl) ?_
 refine ls (op (p_asg rfl) rfl) ?_
 refine ln ?_
 refine nthen ?_
 refine cs ?_
 refine cr ?_
 refine ls (op (p_move rfl) rfl) ?_
 refine ls (op (p_icmp rfl rfl rfl) rfl) ?_
 refine ls (op (p_move rfl) rfl) ?_
 refine lwant rfl rfl rfl rfl (op (p_move rfl) rfl) ?_
 refine lwant rfl rfl rfl rfl (op (p_icmp rfl rfl rfl) rfl) ?_
 refine ls (op (p_pickt rfl rfl) rfl) ?_
 refine ls (op (p_move rfl) rfl) ?_
 refine lwant rfl rfl rfl rfl (op (p_move rfl) rfl) ?_
 refine lwant rfl rfl rfl rfl (op (p_icmp rfl rfl rfl) rfl) ?_
 refine ls (op (p_pickt rfl rfl) rfl) ?_
 refine ls (op (p_move rfl) rfl) ?_
 refine lwant rfl rfl rfl rfl (op (p_move rfl) rfl) ?_
 refine lwant rfl rfl rfl rfl (o_call (is := [2, 2]) Tryz.call20 (c_tText p4 b4 [((⟨#[97]⟩ : ByteArray), [(⟨#[120]⟩ : ByteArray), (⟨#[121]⟩ : ByteArray)])] (by simp) al_f2 (by rw [show (textT _).length = 8 from al_l2]; decide) [] (fun x hx => by have : x = _ := List.mem_singleton.1 hx; subst this; exact l_Itoa 2 (by decide))) rfl rfl (by repeat' (first | constructor | apply Sub.suf)) rfl) ?_
 refine le ?_; intro x39
 rw [al_t1]
 refine lwant rfl rfl rfl rfl (op (p_seq rfl rfl) rfl) ?_
 refine fixL (congrArg Value.bool (decide_eq_true rfl)) ?_
 refine ls (op (p_pickt rfl rfl) rfl) ?_
 refine ls (op (p_move rfl) rfl) ?_
 refine lwant rfl rfl rfl rfl (op (p_move rfl) rfl) ?_
 refine lwant rfl rfl rfl rfl (o_call (is := [2, 2]) Tryz.call20 (c_tText p b [((⟨#[98]⟩ : ByteArray), [(⟨#[120]⟩ : ByteArray), (⟨#[121]⟩ : ByteArray)])] (by simp) al_f3 (by rw [show (textT _).length = 8 from al_l3]; decide) [] (fun x hx => by have : x = _ := List.mem_singleton.1 hx; subst this; exact l_Itoa 2 (by decide))) rfl rfl (by repeat' (first | constructor | apply Sub.suf)) rfl) ?_
 refine le ?_; intro x44
 rw [al_t2]
 refine lwant rfl rfl rfl rfl (op (p_seq rfl rfl) rfl) ?_
 refine fixL (congrArg Value.bool (decide_eq_true rfl)) ?_
 refine ls (op (p_pickt rfl rfl) rfl) ?_
 refine ls (op (p_move rfl) rfl) ?_
 refine lwant rfl rfl rfl rfl (op (p_move rfl) rfl) ?_
 refine lwant rfl rfl rfl rfl (op (p_move rfl) rfl) ?_
 refine lwant rfl rfl rfl rfl (o_call (is := [0, 0, 0, 0]) Tryz.call19 (c_tSame p b p4 b4 [((⟨#[98]⟩ : ByteArray), [(⟨#[120]⟩ : ByteArray), (⟨#[121]⟩ : ByteArray)])] [((⟨#[97]⟩ : ByteArray), [(⟨#[120]⟩ : ByteArray), (⟨#[121]⟩ : ByteArray)])] (by decide)) rfl rfl (by repeat' (first | constructor | apply Sub.suf)) rfl) ?_
 refine le ?_; intro x50
 refine fixL (congrArg Value.bool al_ne) ?_
 refine lwant rfl rfl rfl rfl (op (p_not rfl) rfl) ?_
 refine ls (op (p_pickt rfl rfl) rfl) ?_
 refine ls (op (p_move rfl) rfl) ?_
 refine lwant rfl rfl rfl rfl (op (p_move rfl) rfl) ?_
 refine lwant rfl rfl rfl rfl (op (p_move rfl) rfl) ?_
 refine lwant rfl rfl rfl rfl (o_call (is := [0, 0]) Tryz.call21 (c_tCopy p b [((⟨#[98]⟩ : ByteArray), [(⟨#[120]⟩ : ByteArray), (⟨#[121]⟩ : ByteArray)])]) rfl rfl (by repeat' (first | constructor | apply Sub.suf)) rfl) ?_
 refine le ?_; rintro ⟨p5, b5⟩
 refine lwant rfl rfl rfl rfl (o_call (is := [2, 2, 0, 0]) Tryz.call19 (c_tSame p b p5 b5 [((⟨#[98]⟩ : ByteArray), [(⟨#[120]⟩ : ByteArray), (⟨#[121]⟩ : ByteArray)])] [((⟨#[98]⟩ : ByteArray), [(⟨#[120]⟩ : ByteArray), (⟨#[121]⟩ : ByteArray)])] (by decide)) rfl rfl (by repeat' (first | constructor | apply Sub.suf)) rfl) ?_
 refine le ?_; intro x57
 refine fixL (congrArg Value.bool (decide_eq_true rfl)) ?_
 refine ls (op (p_pickt rfl rfl) rfl) ?_
 refine ls (op (p_move rfl) rfl) ?_
 refine lwant rfl rfl rfl rfl (op (p_move rfl) rfl) ?_
 refine lwant rfl rfl rfl rfl (op (p_icmp rfl rfl rfl) rfl) ?_
 refine ls (op (p_pickt rfl rfl) rfl) ?_
 refine ls (op (p_move rfl) rfl) ?_
 refine lwant rfl rfl rfl rfl (op (p_move rfl) rfl) ?_
 refine lwant rfl rfl rfl rfl (op (p_icmp rfl rfl rfl) rfl) ?_
 refine ls (op (p_pickt rfl rfl) rfl) ?_
 refine ls (op (p_move rfl) rfl) ?_
 refine lwant rfl rfl rfl rfl (op (p_move rfl) rfl) ?_
 refine lwant rfl rfl rfl rfl (o_call (is := [0, 0]) Tryz.call33 (c_tAdd p b [((⟨#[98]⟩ : ByteArray), [(⟨#[120]⟩ : ByteArray), (⟨#[121]⟩ : ByteArray)])] (⟨#[65]⟩ : ByteArray)) rfl rfl (by repeat' (first | constructor | apply Sub.suf)) rfl) ?_
 refine le ?_; rintro ⟨⟨T6, e6⟩, hq6⟩
 try dsimp only at hq6
 obtain ⟨rfl, rfl⟩ := Prod.mk.inj (hq6.trans al_badd)
 refine lwant rfl rfl rfl rfl (op (p_icmp rfl rfl rfl) rfl) ?_
 refine ls (op (p_pickt rfl rfl) rfl) ?_
 refine ls (op (p_move rfl) rfl) ?_
 refine lwant rfl rfl rfl rfl (op (p_move rfl) rfl) ?_
 refine lwant rfl rfl rfl rfl (o_call (is := [0, 0]) Tryz.call34 (c_tRem p b [((⟨#[98]⟩ : ByteArray), [(⟨#[120]⟩ : ByteArray), (⟨#[121]⟩ : ByteArray)])] (⟨#[98]⟩ : ByteArray)) rfl rfl (by repeat' (first | constructor | apply Sub.suf)) rfl) ?_
 refine le ?_; rintro ⟨⟨T7, e7⟩, hq7⟩
 try dsimp only at hq7
 obtain ⟨rfl, rfl⟩ := Prod.mk.inj (hq7.trans al_brem)
 refine lwant rfl rfl rfl rfl (op (p_icmp rfl rfl rfl) rfl) ?_
 refine ls (op (p_pickt rfl rfl) rfl) ?_
 refine ls (op (p_move rfl) rfl) ?_
 refine lwant rfl rfl rfl rfl (o_call (is := []) Tryz.call30 (c_treeNamed (⟨#[97, 47, 98, 46, 99]⟩ : ByteArray)) rfl rfl (by repeat' (first | constructor | apply Sub.suf)) rfl) ?_
 refine le ?_; intro x78
 refine fixL (congrArg Value.bool al_named) ?_
 refine ls (op (p_pickt rfl rfl) rfl) ?_
 refine ls (op (p_asg rfl) rfl) ?_
 refine ln ?_
 refine nthen ?_
 refine cret ?_
 refine xret (fun _ _ h => h) ?_
 refine rret (is := []) () (Or.inl rfl) (Res.t rfl Res.d) (rfl) rfl (by repeat' (first | constructor | apply Sub.suf))

end Go.Proofs.YtgjbcigeecbfiaaGreatDoor.X

end
section
set_option linter.unusedVariables false
set_option linter.unusedSimpArgs false
namespace Go.Proofs.YtgjbcigeecbfiaaGreatDoor.X
open Go Go.RowKit Go.Proofs Go.Sx
attribute [local irreducible] slA isA box row


set_option maxRecDepth 100000 in
theorem c_TreeNames (l : List TOp) (A : Option Addr) (c : Nat) (hl : l.length ≤ 1048576) (hM : omany l ≤ 1048576) (u : ByteArray) (hu : u.size ≤ 1048576) : Con Tryz.prog 5 [.slice A l.length c, .string u] [] [slA A l] Unit (fun _ => .bool true) (fun _ => []) (fun _ => []) := by
 have hMo : ∀ o ∈ l, o.many ≤ 2000000 := fun o ho => by have := omany_mem ho; omega
 have htok : Tok l.length 2000000 (madeT l) := madeT_tok hMo
 have hlen := htok.len
 have hfit : Tfit (madeT l) := fun x hx => (htok.fit x hx).1
 have hso := madeT_sor l
 have hgood := madeT_good l
 refine con Tryz.func5 rfl Tryz.ntmps5 rfl ?_
 intro M0 F0 w0
 refine cs ?_
 refine cr ?_
 refine ls (op (p_asg rfl) rfl) ?_
 refine ln ?_
 refine nthen ?_
 refine cs ?_
 refine cs ?_
 refine cr ?_
 refine ls (op (p_move rfl) rfl) ?_
 refine ls (o_call (is := []) Tryz.call15 (c_Few02 l A c (by omega) (by omega)) rfl rfl (by repeat' (first | constructor | apply Sub.suf)) rfl) ?_
 refine le ?_; intro x12
 refine ls (op (p_icmp rfl rfl rfl) rfl) ?_
 refine ls (op (p_move rfl) rfl) ?_
 refine orX 4 14 18 rfl (subσ.cons (t := 0) rfl (subσ.cons (t := 1) rfl (subσ.cons (t := 4) rfl (subσ.nil _)))) ?_ ?_
 ·
  intro h14
  refine lskip rfl rfl rfl rfl rfl ?_
  refine lskip rfl rfl rfl rfl rfl ?_
  refine lskip rfl rfl rfl rfl rfl ?_
  refine ls (op (p_pickt rfl rfl) rfl) ?_
  refine ln (nmid (wk0 (by repeat (first | exact subσ.nil _ | refine subσ.cons rfl ?_)) (by repeat' (first | constructor | apply Sub.suf))))
 apply exI
 ·
  intro h14
  refine lwant rfl rfl rfl rfl (op (p_move rfl) rfl) ?_
  refine lwant rfl rfl rfl rfl (op (p_lens rfl Tryz.underlying9) rfl) ?_
  refine lwant rfl rfl rfl rfl (op (p_icmp rfl rfl rfl) rfl) ?_
  refine ls (op (p_pickf rfl rfl) rfl) ?_
  refine ln (nmid (wk0 (by repeat (first | exact subσ.nil _ | refine subσ.cons rfl ?_)) (by repeat' (first | constructor | apply Sub.suf))))
 ·
  refine ln ?_
  refine nthen ?_
  refine cc rfl ?_ ?_
  ·
   intro h18
   refine cs ?_
   refine cr ?_
   refine ls (o_call (is := []) Tryz.call16 (c_alive02) rfl rfl (by repeat' (first | constructor | apply Sub.suf)) rfl) ?_
   refine le ?_; intro x19
   refine ls (op (p_asg rfl) rfl) ?_
   refine ln ?_
   refine nthen ?_
   refine cret ?_
   refine xret (fun _ _ h => h) ?_
   refine rret (is := []) () (Or.inl rfl) (Res.t rfl Res.d) (rfl) rfl (by repeat' (first | constructor | apply Sub.suf))
  ·
   intro h18
   refine cskip ?_
   refine nthen ?_
   refine cs ?_
   refine cr ?_
   refine ls (op (p_move rfl) rfl) ?_
   refine ls (o_call (is := []) Tryz.call17 (c_Made02 l A c (by omega) hMo) rfl rfl (by repeat' (first | constructor | apply Sub.suf)) rfl) ?_
   refine le ?_; rintro ⟨⟨p, b⟩, ⟨A2, c2⟩⟩
   refine ls (op (p_move rfl) rfl) ?_
   refine ls (op (p_ext rfl (by repeat' constructor)) rfl) ?_
   refine ls (op (p_ext rfl (by repeat' constructor)) rfl) ?_
   refine ls (op (p_asg rfl) rfl) ?_
   refine ls (op (p_asg rfl) rfl) ?_
   refine ln ?_
   refine nthen ?_
   refine cs ?_
   refine cs ?_
   refine cr ?_
   refine ls (op (p_move rfl) rfl) ?_
   refine ls (op (p_ptrnil Tryz.underlying25 rfl rfl) rfl) ?_
   refine ln ?_
   refine nthen ?_
   refine cc rfl (fun h => by cases h) (fun h => ?_)
   refine cskip ?_
   refine nthen ?_
   refine cs ?_
   refine cr ?_
   refine ls (op (p_move rfl) rfl) ?_
   refine ls (op (p_move rfl) rfl) ?_
   refine ls (o_call (is := [0, 0]) Tryz.call28 (c_tGet p b (madeT l) hfit u) rfl rfl (by repeat' (first | constructor | apply Sub.suf)) rfl) ?_
   refine le ?_; rintro ⟨A3, c3⟩
   refine lmono (fun a w h => freezeN (i := 0) rfl h) ?_
   refine ls (op (p_move rfl) rfl) ?_
   refine ls (op (p_ext rfl (by repeat' constructor)) rfl) ?_
   refine ls (op (p_ext rfl (by repeat' constructor)) rfl) ?_
   refine ls (op (p_asg rfl) rfl) ?_
   refine ls (op (p_asg rfl) rfl) ?_
   refine ln ?_
   refine nthen ?_
   refine cs ?_
   refine cr ?_
   refine ls (op (p_move rfl) rfl) ?_
   refine ls (op (p_move rfl) rfl) ?_
   refine ls (o_call (is := []) Tryz.call29 (c_rGet (madeT l) A2 c2 (by omega) u) rfl rfl (by repeat' (first | constructor | apply Sub.suf)) rfl) ?_
   refine le ?_; rintro ⟨A4, c4⟩
   refine ls (op (p_move rfl) rfl) ?_
   refine ls (op (p_ext rfl (by repeat' constructor)) rfl) ?_
   refine ls (op (p_ext rfl (by repeat' constructor)) rfl) ?_
   refine ls (op (p_asg rfl) rfl) ?_
   refine ls (op (p_asg rfl) rfl) ?_
   refine ln ?_
   refine nthen ?_
   refine cs ?_
   refine cr ?_
   refine ls (o_call (is := []) Tryz.call16 (c_alive02) rfl rfl (by repeat' (first | constructor | apply Sub.suf)) rfl) ?_
   refine le ?_; intro x39
   refine ls (op (p_move rfl) rfl) ?_
   refine lwant rfl rfl rfl rfl (op (p_move rfl) rfl) ?_
   refine lwant rfl rfl rfl rfl (o_call (is := []) Tryz.call30 (c_treeNamed u) rfl rfl (by repeat' (first | constructor | apply Sub.suf)) rfl) ?_
   refine le ?_; intro x42
   refine lwant rfl rfl rfl rfl (op (p_move rfl) rfl) ?_
   refine lwant rfl rfl rfl rfl (o_call (is := []) Tryz.call31 (c_refNamed u (by omega)) rfl rfl (by repeat' (first | constructor | apply Sub.suf)) rfl) ?_
   refine le ?_; intro x44
   refine lwant rfl rfl rfl rfl (op (p_beq Tryz.underlying4 rfl rfl) rfl) ?_
   refine fixL (congrArg Value.bool (beq_self_eq_true _)) ?_
   refine ls (op (p_pickt rfl rfl) rfl) ?_
   refine ls (op (p_move rfl) rfl) ?_
   refine lwant rfl rfl rfl rfl (op (p_move rfl) rfl) ?_
   refine lwant rfl rfl rfl rfl (op (p_move rfl) rfl) ?_
   refine lwant rfl rfl rfl rfl (op (p_beq Tryz.underlying4 rfl rfl) rfl) ?_
   refine fixL (congrArg Value.bool (beq_self_eq_true _)) ?_
   refine ls (op (p_pickt rfl rfl) rfl) ?_
   refine ls (op (p_move rfl) rfl) ?_
   refine lwant rfl rfl rfl rfl (op (p_move rfl) rfl) ?_
   refine lwant rfl rfl rfl rfl (op (p_move rfl) rfl) ?_
   refine lwant rfl rfl rfl rfl (o_call (is := []) Tryz.call32 (c_lineSame (getL (madeT l) u) (getL (madeT l) u) _ _ _ _ (hfit.get u)) rfl rfl (by repeat' (first | constructor | apply Sub.suf)) rfl) ?_
   refine le ?_; intro x55
   refine fixL (congrArg Value.bool (decide_eq_true rfl)) ?_
   refine ls (op (p_pickt rfl rfl) rfl) ?_
   refine ls (op (p_asg rfl) rfl) ?_
   refine ln ?_
   refine nthen ?_
   refine cret ?_
   refine xret (fun _ _ h => h) ?_
   refine rret (is := []) () (Or.inl rfl) (Res.t rfl Res.d) (rfl) rfl (by repeat' (first | constructor | apply Sub.suf))

set_option maxRecDepth 100000 in
theorem c_TreeBack (l : List TOp) (A : Option Addr) (c : Nat) (hl : l.length ≤ 1048576) (hM : omany l ≤ 1048576) (u v : ByteArray) (hu : u.size ≤ 1048576) (hv : v.size ≤ 1048576) : Con Tryz.prog 6 [.slice A l.length c, .string u, .string v] [] [slA A l] Unit (fun _ => .bool true) (fun _ => []) (fun _ => []) := by
 have hMo : ∀ o ∈ l, o.many ≤ 2000000 := fun o ho => by have := omany_mem ho; omega
 have htok : Tok l.length 2000000 (madeT l) := madeT_tok hMo
 have hlen := htok.len
 have hfit : Tfit (madeT l) := fun x hx => (htok.fit x hx).1
 have hso := madeT_sor l
 have hgood := madeT_good l
 refine con Tryz.func6 rfl Tryz.ntmps6 rfl ?_
 intro M0 F0 w0
 refine cs ?_
 refine cr ?_
 refine ls (op (p_asg rfl) rfl) ?_
 refine ln ?_
 refine nthen ?_
 refine cs ?_
 refine cs ?_
 refine cr ?_
 refine ls (op (p_move rfl) rfl) ?_
 refine ls (o_call (is := []) Tryz.call15 (c_Few02 l A c (by omega) (by omega)) rfl rfl (by repeat' (first | constructor | apply Sub.suf)) rfl) ?_
 refine le ?_; intro x10
 refine ls (op (p_icmp rfl rfl rfl) rfl) ?_
 refine ls (op (p_move rfl) rfl) ?_
 refine orX 4 12 16 rfl (subσ.cons (t := 0) rfl (subσ.cons (t := 1) rfl (subσ.cons (t := 2) rfl (subσ.cons (t := 6) rfl (subσ.nil _))))) ?_ ?_
 ·
  intro h12
  refine lskip rfl rfl rfl rfl rfl ?_
  refine lskip rfl rfl rfl rfl rfl ?_
  refine lskip rfl rfl rfl rfl rfl ?_
  refine ls (op (p_pickt rfl rfl) rfl) ?_
  refine ln (nmid (wk0 (by repeat (first | exact subσ.nil _ | refine subσ.cons rfl ?_)) (by repeat' (first | constructor | apply Sub.suf))))
 apply exI
 ·
  intro h12
  refine lwant rfl rfl rfl rfl (op (p_move rfl) rfl) ?_
  refine lwant rfl rfl rfl rfl (op (p_lens rfl Tryz.underlying9) rfl) ?_
  refine lwant rfl rfl rfl rfl (op (p_icmp rfl rfl rfl) rfl) ?_
  refine ls (op (p_pickf rfl rfl) rfl) ?_
  refine ln (nmid (wk0 (by repeat (first | exact subσ.nil _ | refine subσ.cons rfl ?_)) (by repeat' (first | constructor | apply Sub.suf))))
 ·
  refine ls (op (p_move rfl) rfl) ?_
  refine orX 4 17 21 rfl (subσ.cons (t := 0) rfl (subσ.cons (t := 1) rfl (subσ.cons (t := 2) rfl (subσ.cons (t := 6) rfl (subσ.nil _))))) ?_ ?_
  ·
   intro h17
   refine lskip rfl rfl rfl rfl rfl ?_
   refine lskip rfl rfl rfl rfl rfl ?_
   refine lskip rfl rfl rfl rfl rfl ?_
   refine ls (op (p_pickt rfl rfl) rfl) ?_
   refine ln (nmid (wk0 (by repeat (first | exact subσ.nil _ | refine subσ.cons rfl ?_)) (by repeat' (first | constructor | apply Sub.suf))))
  apply exI
  ·
   intro h17
   refine lwant rfl rfl rfl rfl (op (p_move rfl) rfl) ?_
   refine lwant rfl rfl rfl rfl (op (p_lens rfl Tryz.underlying9) rfl) ?_
   refine lwant rfl rfl rfl rfl (op (p_icmp rfl rfl rfl) rfl) ?_
   refine ls (op (p_pickf rfl rfl) rfl) ?_
   refine ln (nmid (wk0 (by repeat (first | exact subσ.nil _ | refine subσ.cons rfl ?_)) (by repeat' (first | constructor | apply Sub.suf))))
  ·
   refine ln ?_
   refine nthen ?_
   refine cc rfl ?_ ?_
   ·
    intro h21
    refine cs ?_
    refine cr ?_
    refine ls (o_call (is := []) Tryz.call16 (c_alive02) rfl rfl (by repeat' (first | constructor | apply Sub.suf)) rfl) ?_
    refine le ?_; intro x22
    refine ls (op (p_asg rfl) rfl) ?_
    refine ln ?_
    refine nthen ?_
    refine cret ?_
    refine xret (fun _ _ h => h) ?_
    refine rret (is := []) () (Or.inl rfl) (Res.t rfl Res.d) (rfl) rfl (by repeat' (first | constructor | apply Sub.suf))
   ·
    intro h21
    refine cskip ?_
    refine nthen ?_
    refine cs ?_
    refine cr ?_
    refine ls (op (p_move rfl) rfl) ?_
    refine ls (o_call (is := []) Tryz.call17 (c_Made02 l A c (by omega) hMo) rfl rfl (by repeat' (first | constructor | apply Sub.suf)) rfl) ?_
    refine le ?_; rintro ⟨⟨p, b⟩, ⟨A2, c2⟩⟩
    refine ls (op (p_move rfl) rfl) ?_
    refine ls (op (p_ext rfl (by repeat' constructor)) rfl) ?_
    refine ls (op (p_ext rfl (by repeat' constructor)) rfl) ?_
    refine ls (op (p_asg rfl) rfl) ?_
    refine ls (op (p_asg rfl) rfl) ?_
    refine ln ?_
    refine nthen ?_
    refine cs ?_
    refine cs ?_
    refine cr ?_
    refine ls (op (p_move rfl) rfl) ?_
    refine ls (op (p_ptrnil Tryz.underlying25 rfl rfl) rfl) ?_
    refine ln ?_
    refine nthen ?_
    refine cc rfl (fun h => by cases h) (fun h => ?_)
    refine cskip ?_
    refine nthen ?_
    refine cs ?_
    refine cs ?_
    refine cr ?_
    refine ls (op (p_move rfl) rfl) ?_
    refine ls (op (p_move rfl) rfl) ?_
    refine ls (o_call (is := [0, 0]) Tryz.call33 (c_tAdd p b (madeT l) u) rfl rfl (by repeat' (first | constructor | apply Sub.suf)) rfl) ?_
    refine le ?_; rintro ⟨⟨T1, e1⟩, hq1⟩
    try dsimp only at hq1
    refine ls (op (p_icmp rfl rfl rfl) rfl) ?_
    refine ls (op (p_move rfl) rfl) ?_
    refine splitL 34 rfl ?_ ?_
    ·
     intro h34
     have he : e1 = 0 := by simpa using h34
     subst he
     obtain ⟨hk1, hk2, rfl⟩ := tAdd_ok hq1
     refine lwant rfl rfl rfl rfl (op (p_move rfl) rfl) ?_
     refine lwant rfl rfl rfl rfl (op (p_move rfl) rfl) ?_
     refine lwant rfl rfl rfl rfl (o_call (is := [0, 0]) Tryz.call34 (c_tRem p b (putT (madeT l) u []) u) rfl rfl (by repeat' (first | constructor | apply Sub.suf)) rfl) ?_
     refine le ?_; rintro ⟨⟨T2, e2⟩, hq2⟩
     try dsimp only at hq2
     obtain ⟨rfl, rfl⟩ := Prod.mk.inj (hq2.trans (tRem_add hso hk2))
     refine lwant rfl rfl rfl rfl (op (p_icmp rfl rfl rfl) rfl) ?_
     refine ls (op (p_pickt rfl rfl) rfl) ?_
     refine ls (op (p_move rfl) rfl) ?_
     refine lwant rfl rfl rfl rfl (op (p_move rfl) rfl) ?_
     refine lwant rfl rfl rfl rfl (o_call (is := [0, 0]) Tryz.call25 (c_Old02 p b (madeT l) (by omega) hfit) rfl rfl (by repeat' (first | constructor | apply Sub.suf)) rfl) ?_
     refine le ?_; rintro ⟨A5, c5⟩
     refine lwant rfl rfl rfl rfl (op (p_move rfl) rfl) ?_
     refine lwant rfl rfl rfl rfl (o_call (is := []) Tryz.call18 (c_rSame02 (madeT l) (madeT l) A5 A2 c5 c2 (by omega) hfit) rfl rfl (by repeat' (first | constructor | apply Sub.suf)) rfl) ?_
     refine le ?_; intro x44
     refine fixL (congrArg Value.bool (decide_eq_true rfl)) ?_
     refine lwant rfl rfl rfl rfl (op (p_not rfl) rfl) ?_
     refine ls (op (p_pickf rfl rfl) rfl) ?_
     refine ln ?_
     refine nthen ?_
     refine cc rfl (fun h => by cases h) (fun h => ?_)
     refine cskip ?_
     refine nthen ?_
     refine cs ?_
     refine cs ?_
     refine cr ?_
     refine ls (op (p_move rfl) rfl) ?_
     refine ls (op (p_move rfl) rfl) ?_
     refine ls (op (p_move rfl) rfl) ?_
     refine ls (o_call (is := [0, 0]) Tryz.call35 (c_tMove p b (madeT l) u v) rfl rfl (by repeat' (first | constructor | apply Sub.suf)) rfl) ?_
     refine le ?_; rintro ⟨⟨T3, e3⟩, hq3⟩
     try dsimp only at hq3
     refine ls (op (p_icmp rfl rfl rfl) rfl) ?_
     refine ls (op (p_move rfl) rfl) ?_
     refine splitL 52 rfl ?_ ?_
     ·
      intro h52
      have he3 : e3 = 0 := by simpa using h52
      subst he3
      obtain ⟨hm1, hm2, hm3, rfl⟩ := tMove_ok hq3
      refine lwant rfl rfl rfl rfl (op (p_move rfl) rfl) ?_
      refine lwant rfl rfl rfl rfl (op (p_move rfl) rfl) ?_
      refine lwant rfl rfl rfl rfl (op (p_move rfl) rfl) ?_
      refine lwant rfl rfl rfl rfl (o_call (is := [0, 0]) Tryz.call35 (c_tMove p b (delT (putT (madeT l) v (getL (madeT l) u)) u) v u) rfl rfl (by repeat' (first | constructor | apply Sub.suf)) rfl) ?_
      refine le ?_; rintro ⟨⟨T4, e4⟩, hq4⟩
      try dsimp only at hq4
      obtain ⟨rfl, rfl⟩ := Prod.mk.inj (hq4.trans (move_back hso (hgood.name hm1) hm1 hm3))
      refine lwant rfl rfl rfl rfl (op (p_icmp rfl rfl rfl) rfl) ?_
      refine ls (op (p_pickt rfl rfl) rfl) ?_
      refine ln ?_
      refine nthen ?_
      refine cc rfl (fun h => by cases h) (fun h => ?_)
      refine cskip ?_
      refine nthen ?_
      refine cs ?_
      refine cr ?_
      refine ls (o_call (is := []) Tryz.call16 (c_alive02) rfl rfl (by repeat' (first | constructor | apply Sub.suf)) rfl) ?_
      refine le ?_; intro x59
      refine ls (op (p_move rfl) rfl) ?_
      refine lwant rfl rfl rfl rfl (op (p_move rfl) rfl) ?_
      refine lwant rfl rfl rfl rfl (o_call (is := [0, 0]) Tryz.call25 (c_Old02 p b (madeT l) (by omega) hfit) rfl rfl (by repeat' (first | constructor | apply Sub.suf)) rfl) ?_
      refine le ?_; rintro ⟨A6, c6⟩
      refine lwant rfl rfl rfl rfl (op (p_move rfl) rfl) ?_
      refine lwant rfl rfl rfl rfl (o_call (is := []) Tryz.call18 (c_rSame02 (madeT l) (madeT l) A6 A2 c6 c2 (by omega) hfit) rfl rfl (by repeat' (first | constructor | apply Sub.suf)) rfl) ?_
      refine le ?_; intro x64
      refine fixL (congrArg Value.bool (decide_eq_true rfl)) ?_
      refine ls (op (p_pickt rfl rfl) rfl) ?_
      refine ls (op (p_asg rfl) rfl) ?_
      refine ln ?_
      refine nthen ?_
      refine cret ?_
      refine xret (fun _ _ h => h) ?_
      refine rret (is := []) () (Or.inl rfl) (Res.t rfl Res.d) (rfl) rfl (by repeat' (first | constructor | apply Sub.suf))
     ·
      intro h52
      have he3 : ¬ e3 = 0 := by simpa using h52
      obtain rfl := tMove_no hq3 he3
      refine lskip rfl rfl rfl rfl rfl ?_
      refine lskip rfl rfl rfl rfl rfl ?_
      refine lskip rfl rfl rfl rfl rfl ?_
      refine lskip rfl rfl rfl rfl rfl ?_
      refine lskip rfl rfl rfl rfl rfl ?_
      refine ls (op (p_pickf rfl rfl) rfl) ?_
      refine ln ?_
      refine nthen ?_
      refine cc rfl (fun h => by cases h) (fun h => ?_)
      refine cskip ?_
      refine nthen ?_
      refine cs ?_
      refine cr ?_
      refine ls (o_call (is := []) Tryz.call16 (c_alive02) rfl rfl (by repeat' (first | constructor | apply Sub.suf)) rfl) ?_
      refine le ?_; intro x59
      refine ls (op (p_move rfl) rfl) ?_
      refine lwant rfl rfl rfl rfl (op (p_move rfl) rfl) ?_
      refine lwant rfl rfl rfl rfl (o_call (is := [0, 0]) Tryz.call25 (c_Old02 p b (madeT l) (by omega) hfit) rfl rfl (by repeat' (first | constructor | apply Sub.suf)) rfl) ?_
      refine le ?_; rintro ⟨A6, c6⟩
      refine lwant rfl rfl rfl rfl (op (p_move rfl) rfl) ?_
      refine lwant rfl rfl rfl rfl (o_call (is := []) Tryz.call18 (c_rSame02 (madeT l) (madeT l) A6 A2 c6 c2 (by omega) hfit) rfl rfl (by repeat' (first | constructor | apply Sub.suf)) rfl) ?_
      refine le ?_; intro x64
      refine fixL (congrArg Value.bool (decide_eq_true rfl)) ?_
      refine ls (op (p_pickt rfl rfl) rfl) ?_
      refine ls (op (p_asg rfl) rfl) ?_
      refine ln ?_
      refine nthen ?_
      refine cret ?_
      refine xret (fun _ _ h => h) ?_
      refine rret (is := []) () (Or.inl rfl) (Res.t rfl Res.d) (rfl) rfl (by repeat' (first | constructor | apply Sub.suf))
    ·
     intro h34
     have he : ¬ e1 = 0 := by simpa using h34
     obtain rfl := tAdd_no hq1 he
     refine lskip rfl rfl rfl rfl rfl ?_
     refine lskip rfl rfl rfl rfl rfl ?_
     refine lskip rfl rfl rfl rfl rfl ?_
     refine lskip rfl rfl rfl rfl rfl ?_
     refine ls (op (p_pickf rfl rfl) rfl) ?_
     refine ls (op (p_move rfl) rfl) ?_
     refine lwant rfl rfl rfl rfl (op (p_move rfl) rfl) ?_
     refine lwant rfl rfl rfl rfl (o_call (is := [0, 0]) Tryz.call25 (c_Old02 p b (madeT l) (by omega) hfit) rfl rfl (by repeat' (first | constructor | apply Sub.suf)) rfl) ?_
     refine le ?_; rintro ⟨A5, c5⟩
     refine lwant rfl rfl rfl rfl (op (p_move rfl) rfl) ?_
     refine lwant rfl rfl rfl rfl (o_call (is := []) Tryz.call18 (c_rSame02 (madeT l) (madeT l) A5 A2 c5 c2 (by omega) hfit) rfl rfl (by repeat' (first | constructor | apply Sub.suf)) rfl) ?_
     refine le ?_; intro x44
     refine fixL (congrArg Value.bool (decide_eq_true rfl)) ?_
     refine lwant rfl rfl rfl rfl (op (p_not rfl) rfl) ?_
     refine ls (op (p_pickf rfl rfl) rfl) ?_
     refine ln ?_
     refine nthen ?_
     refine cc rfl (fun h => by cases h) (fun h => ?_)
     refine cskip ?_
     refine nthen ?_
     refine cs ?_
     refine cs ?_
     refine cr ?_
     refine ls (op (p_move rfl) rfl) ?_
     refine ls (op (p_move rfl) rfl) ?_
     refine ls (op (p_move rfl) rfl) ?_
     refine ls (o_call (is := [0, 0]) Tryz.call35 (c_tMove p b (madeT l) u v) rfl rfl (by repeat' (first | constructor | apply Sub.suf)) rfl) ?_
     refine le ?_; rintro ⟨⟨T3, e3⟩, hq3⟩
     try dsimp only at hq3
     refine ls (op (p_icmp rfl rfl rfl) rfl) ?_
     refine ls (op (p_move rfl) rfl) ?_
     refine splitL 52 rfl ?_ ?_
     ·
      intro h52
      have he3 : e3 = 0 := by simpa using h52
      subst he3
      obtain ⟨hm1, hm2, hm3, rfl⟩ := tMove_ok hq3
      refine lwant rfl rfl rfl rfl (op (p_move rfl) rfl) ?_
      refine lwant rfl rfl rfl rfl (op (p_move rfl) rfl) ?_
      refine lwant rfl rfl rfl rfl (op (p_move rfl) rfl) ?_
      refine lwant rfl rfl rfl rfl (o_call (is := [0, 0]) Tryz.call35 (c_tMove p b (delT (putT (madeT l) v (getL (madeT l) u)) u) v u) rfl rfl (by repeat' (first | constructor | apply Sub.suf)) rfl) ?_
      refine le ?_; rintro ⟨⟨T4, e4⟩, hq4⟩
      try dsimp only at hq4
      obtain ⟨rfl, rfl⟩ := Prod.mk.inj (hq4.trans (move_back hso (hgood.name hm1) hm1 hm3))
      refine lwant rfl rfl rfl rfl (op (p_icmp rfl rfl rfl) rfl) ?_
      refine ls (op (p_pickt rfl rfl) rfl) ?_
      refine ln ?_
      refine nthen ?_
      refine cc rfl (fun h => by cases h) (fun h => ?_)
      refine cskip ?_
      refine nthen ?_
      refine cs ?_
      refine cr ?_
      refine ls (o_call (is := []) Tryz.call16 (c_alive02) rfl rfl (by repeat' (first | constructor | apply Sub.suf)) rfl) ?_
      refine le ?_; intro x59
      refine ls (op (p_move rfl) rfl) ?_
      refine lwant rfl rfl rfl rfl (op (p_move rfl) rfl) ?_
      refine lwant rfl rfl rfl rfl (o_call (is := [0, 0]) Tryz.call25 (c_Old02 p b (madeT l) (by omega) hfit) rfl rfl (by repeat' (first | constructor | apply Sub.suf)) rfl) ?_
      refine le ?_; rintro ⟨A6, c6⟩
      refine lwant rfl rfl rfl rfl (op (p_move rfl) rfl) ?_
      refine lwant rfl rfl rfl rfl (o_call (is := []) Tryz.call18 (c_rSame02 (madeT l) (madeT l) A6 A2 c6 c2 (by omega) hfit) rfl rfl (by repeat' (first | constructor | apply Sub.suf)) rfl) ?_
      refine le ?_; intro x64
      refine fixL (congrArg Value.bool (decide_eq_true rfl)) ?_
      refine ls (op (p_pickt rfl rfl) rfl) ?_
      refine ls (op (p_asg rfl) rfl) ?_
      refine ln ?_
      refine nthen ?_
      refine cret ?_
      refine xret (fun _ _ h => h) ?_
      refine rret (is := []) () (Or.inl rfl) (Res.t rfl Res.d) (rfl) rfl (by repeat' (first | constructor | apply Sub.suf))
     ·
      intro h52
      have he3 : ¬ e3 = 0 := by simpa using h52
      obtain rfl := tMove_no hq3 he3
      refine lskip rfl rfl rfl rfl rfl ?_
      refine lskip rfl rfl rfl rfl rfl ?_
      refine lskip rfl rfl rfl rfl rfl ?_
      refine lskip rfl rfl rfl rfl rfl ?_
      refine lskip rfl rfl rfl rfl rfl ?_
      refine ls (op (p_pickf rfl rfl) rfl) ?_
      refine ln ?_
      refine nthen ?_
      refine cc rfl (fun h => by cases h) (fun h => ?_)
      refine cskip ?_
      refine nthen ?_
      refine cs ?_
      refine cr ?_
      refine ls (o_call (is := []) Tryz.call16 (c_alive02) rfl rfl (by repeat' (first | constructor | apply Sub.suf)) rfl) ?_
      refine le ?_; intro x59
      refine ls (op (p_move rfl) rfl) ?_
      refine lwant rfl rfl rfl rfl (op (p_move rfl) rfl) ?_
      refine lwant rfl rfl rfl rfl (o_call (is := [0, 0]) Tryz.call25 (c_Old02 p b (madeT l) (by omega) hfit) rfl rfl (by repeat' (first | constructor | apply Sub.suf)) rfl) ?_
      refine le ?_; rintro ⟨A6, c6⟩
      refine lwant rfl rfl rfl rfl (op (p_move rfl) rfl) ?_
      refine lwant rfl rfl rfl rfl (o_call (is := []) Tryz.call18 (c_rSame02 (madeT l) (madeT l) A6 A2 c6 c2 (by omega) hfit) rfl rfl (by repeat' (first | constructor | apply Sub.suf)) rfl) ?_
      refine le ?_; intro x64
      refine fixL (congrArg Value.bool (decide_eq_true rfl)) ?_
      refine ls (op (p_pickt rfl rfl) rfl) ?_
      refine ls (op (p_asg rfl) rfl) ?_
      refine ln ?_
      refine nthen ?_
      refine cret ?_
      refine xret (fun _ _ h => h) ?_
      refine rret (is := []) () (Or.inl rfl) (Res.t rfl Res.d) (rfl) rfl (by repeat' (first | constructor | apply Sub.suf))

set_option maxRecDepth 100000 in
theorem c_TreeMoves (l : List TOp) (A : Option Addr) (c : Nat) (hl : l.length ≤ 1048576) (hM : omany l ≤ 1048576) (u v : ByteArray) (hu : u.size ≤ 1048576) (hv : v.size ≤ 1048576) : Con Tryz.prog 8 [.slice A l.length c, .string u, .string v] [] [slA A l] Unit (fun _ => .bool true) (fun _ => []) (fun _ => []) := by
 have hMo : ∀ o ∈ l, o.many ≤ 2000000 := fun o ho => by have := omany_mem ho; omega
 have htok : Tok l.length 2000000 (madeT l) := madeT_tok hMo
 have hlen := htok.len
 have hfit : Tfit (madeT l) := fun x hx => (htok.fit x hx).1
 have hso := madeT_sor l
 have hgood := madeT_good l
 refine con Tryz.func8 rfl Tryz.ntmps8 rfl ?_
 intro M0 F0 w0
 refine cs ?_
 refine cr ?_
 refine ls (op (p_asg rfl) rfl) ?_
 refine ln ?_
 refine nthen ?_
 refine cs ?_
 refine cs ?_
 refine cr ?_
 refine ls (op (p_move rfl) rfl) ?_
 refine ls (o_call (is := []) Tryz.call15 (c_Few02 l A c (by omega) (by omega)) rfl rfl (by repeat' (first | constructor | apply Sub.suf)) rfl) ?_
 refine le ?_; intro x17
 refine ls (op (p_icmp rfl rfl rfl) rfl) ?_
 refine ls (op (p_move rfl) rfl) ?_
 refine orX 4 19 23 rfl (subσ.cons (t := 0) rfl (subσ.cons (t := 1) rfl (subσ.cons (t := 2) rfl (subσ.cons (t := 6) rfl (subσ.nil _))))) ?_ ?_
 ·
  intro h19
  refine lskip rfl rfl rfl rfl rfl ?_
  refine lskip rfl rfl rfl rfl rfl ?_
  refine lskip rfl rfl rfl rfl rfl ?_
  refine ls (op (p_pickt rfl rfl) rfl) ?_
  refine ln (nmid (wk0 (by repeat (first | exact subσ.nil _ | refine subσ.cons rfl ?_)) (by repeat' (first | constructor | apply Sub.suf))))
 apply exI
 ·
  intro h19
  refine lwant rfl rfl rfl rfl (op (p_move rfl) rfl) ?_
  refine lwant rfl rfl rfl rfl (op (p_lens rfl Tryz.underlying9) rfl) ?_
  refine lwant rfl rfl rfl rfl (op (p_icmp rfl rfl rfl) rfl) ?_
  refine ls (op (p_pickf rfl rfl) rfl) ?_
  refine ln (nmid (wk0 (by repeat (first | exact subσ.nil _ | refine subσ.cons rfl ?_)) (by repeat' (first | constructor | apply Sub.suf))))
 ·
  refine ls (op (p_move rfl) rfl) ?_
  refine orX 4 24 28 rfl (subσ.cons (t := 0) rfl (subσ.cons (t := 1) rfl (subσ.cons (t := 2) rfl (subσ.cons (t := 6) rfl (subσ.nil _))))) ?_ ?_
  ·
   intro h24
   refine lskip rfl rfl rfl rfl rfl ?_
   refine lskip rfl rfl rfl rfl rfl ?_
   refine lskip rfl rfl rfl rfl rfl ?_
   refine ls (op (p_pickt rfl rfl) rfl) ?_
   refine ln (nmid (wk0 (by repeat (first | exact subσ.nil _ | refine subσ.cons rfl ?_)) (by repeat' (first | constructor | apply Sub.suf))))
  apply exI
  ·
   intro h24
   refine lwant rfl rfl rfl rfl (op (p_move rfl) rfl) ?_
   refine lwant rfl rfl rfl rfl (op (p_lens rfl Tryz.underlying9) rfl) ?_
   refine lwant rfl rfl rfl rfl (op (p_icmp rfl rfl rfl) rfl) ?_
   refine ls (op (p_pickf rfl rfl) rfl) ?_
   refine ln (nmid (wk0 (by repeat (first | exact subσ.nil _ | refine subσ.cons rfl ?_)) (by repeat' (first | constructor | apply Sub.suf))))
  ·
   refine ln ?_
   refine nthen ?_
   refine cc rfl ?_ ?_
   ·
    intro h28
    refine cs ?_
    refine cr ?_
    refine ls (o_call (is := []) Tryz.call16 (c_alive02) rfl rfl (by repeat' (first | constructor | apply Sub.suf)) rfl) ?_
    refine le ?_; intro x29
    refine ls (op (p_asg rfl) rfl) ?_
    refine ln ?_
    refine nthen ?_
    refine cret ?_
    refine xret (fun _ _ h => h) ?_
    refine rret (is := []) () (Or.inl rfl) (Res.t rfl Res.d) (rfl) rfl (by repeat' (first | constructor | apply Sub.suf))
   ·
    intro h28
    refine cskip ?_
    refine nthen ?_
    refine cs ?_
    refine cr ?_
    refine ls (op (p_move rfl) rfl) ?_
    refine ls (o_call (is := []) Tryz.call17 (c_Made02 l A c (by omega) hMo) rfl rfl (by repeat' (first | constructor | apply Sub.suf)) rfl) ?_
    refine le ?_; rintro ⟨⟨p, b⟩, ⟨A2, c2⟩⟩
    refine ls (op (p_move rfl) rfl) ?_
    refine ls (op (p_ext rfl (by repeat' constructor)) rfl) ?_
    refine ls (op (p_ext rfl (by repeat' constructor)) rfl) ?_
    refine ls (op (p_asg rfl) rfl) ?_
    refine ls (op (p_asg rfl) rfl) ?_
    refine ln ?_
    refine nthen ?_
    refine cs ?_
    refine cs ?_
    refine cr ?_
    refine ls (op (p_move rfl) rfl) ?_
    refine ls (op (p_ptrnil Tryz.underlying25 rfl rfl) rfl) ?_
    refine ln ?_
    refine nthen ?_
    refine cc rfl (fun h => by cases h) (fun h => ?_)
    refine cskip ?_
    refine nthen ?_
    refine cs ?_
    refine cr ?_
    refine ls (op (p_move rfl) rfl) ?_
    refine ls (o_call (is := [0, 0]) Tryz.call21 (c_tCopy p b (madeT l)) rfl rfl (by repeat' (first | constructor | apply Sub.suf)) rfl) ?_
    refine le ?_; rintro ⟨p4, b4⟩
    refine ls (op (p_asg rfl) rfl) ?_
    refine ln ?_
    refine nthen ?_
    refine cs ?_
    refine cr ?_
    refine ls (op (p_move rfl) rfl) ?_
    refine ls (op (p_move rfl) rfl) ?_
    refine ls (o_call (is := [2, 2]) Tryz.call28 (c_tGet p b (madeT l) hfit u) rfl rfl (by repeat' (first | constructor | apply Sub.suf)) rfl) ?_
    refine le ?_; rintro ⟨A3, c3⟩
    refine lmono (fun a w h => freezeN (i := 0) rfl h) ?_
    refine ls (op (p_move rfl) rfl) ?_
    refine ls (op (p_ext rfl (by repeat' constructor)) rfl) ?_
    refine ls (op (p_ext rfl (by repeat' constructor)) rfl) ?_
    refine ls (op (p_asg rfl) rfl) ?_
    refine ls (op (p_asg rfl) rfl) ?_
    refine ln ?_
    refine nthen ?_
    refine cs ?_
    refine cs ?_
    refine cr ?_
    refine ls (op (p_move rfl) rfl) ?_
    refine ls (op (p_move rfl) rfl) ?_
    refine ls (op (p_move rfl) rfl) ?_
    refine ls (o_call (is := [0, 0]) Tryz.call35 (c_tMove p b (madeT l) u v) rfl rfl (by repeat' (first | constructor | apply Sub.suf)) rfl) ?_
    refine le ?_; rintro ⟨⟨T3, e3⟩, hq3⟩
    try dsimp only at hq3
    refine ls (op (p_icmp rfl rfl rfl) rfl) ?_
    refine ln ?_
    refine nthen ?_
    refine cc rfl ?_ ?_
    ·
     intro h49
     have he3 : ¬ e3 = 0 := by simpa using h49
     obtain rfl := tMove_no hq3 he3
     refine cs ?_
     refine cr ?_
     refine ls (o_call (is := []) Tryz.call16 (c_alive02) rfl rfl (by repeat' (first | constructor | apply Sub.suf)) rfl) ?_
     refine le ?_; intro x50
     refine ls (op (p_move rfl) rfl) ?_
     refine lwant rfl rfl rfl rfl (op (p_move rfl) rfl) ?_
     refine lwant rfl rfl rfl rfl (op (p_move rfl) rfl) ?_
     refine lwant rfl rfl rfl rfl (o_call (is := [0, 0, 0, 0]) Tryz.call19 (c_tSame p b p4 b4 (madeT l) (madeT l) hfit) rfl rfl (by repeat' (first | constructor | apply Sub.suf)) rfl) ?_
     refine le ?_; intro x54
     refine fixL (congrArg Value.bool (decide_eq_true rfl)) ?_
     refine ls (op (p_pickt rfl rfl) rfl) ?_
     refine ls (op (p_asg rfl) rfl) ?_
     refine ln ?_
     refine nthen ?_
     refine cret ?_
     refine xret (fun _ _ h => h) ?_
     refine rret (is := []) () (Or.inl rfl) (Res.t rfl Res.d) (rfl) rfl (by repeat' (first | constructor | apply Sub.suf))
    ·
     intro h49
     have he3 : e3 = 0 := by simpa using h49
     subst he3
     obtain ⟨hm1, hm2, hm3, rfl⟩ := tMove_ok hq3
     have hf3 : Tfit (delT (putT (madeT l) v (getL (madeT l) u)) u) := fun x hx => by rcases mem_putT.1 (mem_delT.1 hx).1 with rfl | ⟨h, _⟩; exact hfit.get u; exact hfit x h
     have hl3 : (delT (putT (madeT l) v (getL (madeT l) u)) u).length ≤ 2000000 := Nat.le_trans (List.length_filter_le _ _) (Nat.le_trans (putT_len _ _ _) (by omega))
     have hgv : getT (delT (putT (madeT l) v (getL (madeT l) u)) u) v = some (getL (madeT l) u) := by rw [moved_get hso hm1 hm3, if_neg (moved_ne hm1 hm3), if_pos rfl]
     have hgu : getT (delT (putT (madeT l) v (getL (madeT l) u)) u) u = none := by rw [moved_get hso hm1 hm3, if_pos rfl]
     have hg1 : getL (delT (putT (madeT l) v (getL (madeT l) u)) u) v = getL (madeT l) u := by rw [getL, hgv]; rfl
     have hg2 : hasT (delT (putT (madeT l) v (getL (madeT l) u)) u) v = true := by rw [hasT, hgv]; rfl
     have hg3 : hasT (delT (putT (madeT l) v (getL (madeT l) u)) u) u = false := by rw [hasT, hgu]; rfl
     have hw := moved_without hso hm1 hm3
     refine cskip ?_
     refine nthen ?_
     refine cs ?_
     refine cr ?_
     refine ls (op (p_move rfl) rfl) ?_
     refine ls (op (p_move rfl) rfl) ?_
     refine ls (o_call (is := [0, 0]) Tryz.call28 (c_tGet p b (delT (putT (madeT l) v (getL (madeT l) u)) u) hf3 v) rfl rfl (by repeat' (first | constructor | apply Sub.suf)) rfl) ?_
     refine le ?_; rintro ⟨A7, c7⟩
     rw [hg1, hg2]
     refine lmono (fun a w h => freezeN (i := 0) rfl h) ?_
     refine ls (op (p_move rfl) rfl) ?_
     refine ls (op (p_ext rfl (by repeat' constructor)) rfl) ?_
     refine ls (op (p_ext rfl (by repeat' constructor)) rfl) ?_
     refine ls (op (p_asg rfl) rfl) ?_
     refine ls (op (p_asg rfl) rfl) ?_
     refine ln ?_
     refine nthen ?_
     refine cs ?_
     refine cr ?_
     refine ls (op (p_move rfl) rfl) ?_
     refine ls (op (p_move rfl) rfl) ?_
     refine ls (o_call (is := [0, 0]) Tryz.call28 (c_tGet p b (delT (putT (madeT l) v (getL (madeT l) u)) u) hf3 u) rfl rfl (by repeat' (first | constructor | apply Sub.suf)) rfl) ?_
     refine le ?_; rintro ⟨A8, c8⟩
     rw [hg3]
     refine lmono (fun a w h => freezeN (i := 0) rfl h) ?_
     refine ls (op (p_move rfl) rfl) ?_
     refine ls (op (p_ext rfl (by repeat' constructor)) rfl) ?_
     refine ls (op (p_ext rfl (by repeat' constructor)) rfl) ?_
     refine ls (op (p_asg rfl) rfl) ?_
     refine ls (op (p_asg rfl) rfl) ?_
     refine ln ?_
     refine nthen ?_
     refine cs ?_
     refine cr ?_
     refine ls (o_call (is := []) Tryz.call16 (c_alive02) rfl rfl (by repeat' (first | constructor | apply Sub.suf)) rfl) ?_
     refine le ?_; intro x68
     refine ls (op (p_move rfl) rfl) ?_
     refine lwant rfl rfl rfl rfl (op (p_move rfl) rfl) ?_
     refine ls (op (p_pickt rfl rfl) rfl) ?_
     refine ls (op (p_move rfl) rfl) ?_
     refine lwant rfl rfl rfl rfl (op (p_move rfl) rfl) ?_
     refine lwant rfl rfl rfl rfl (op (p_not rfl) rfl) ?_
     refine ls (op (p_pickt rfl rfl) rfl) ?_
     refine ls (op (p_move rfl) rfl) ?_
     refine lwant rfl rfl rfl rfl (op (p_move rfl) rfl) ?_
     refine lwant rfl rfl rfl rfl (op (p_move rfl) rfl) ?_
     refine lwant rfl rfl rfl rfl (o_call (is := []) Tryz.call32 (c_lineSame (getL (madeT l) u) (getL (madeT l) u) _ _ _ _ (hfit.get u)) rfl rfl (by repeat' (first | constructor | apply Sub.suf)) rfl) ?_
     refine le ?_; intro x79
     refine fixL (congrArg Value.bool (decide_eq_true rfl)) ?_
     refine ls (op (p_pickt rfl rfl) rfl) ?_
     refine ls (op (p_move rfl) rfl) ?_
     refine lwant rfl rfl rfl rfl (op (p_move rfl) rfl) ?_
     refine lwant rfl rfl rfl rfl (o_call (is := [0, 0]) Tryz.call25 (c_Old02 p b (delT (putT (madeT l) v (getL (madeT l) u)) u) hl3 hf3) rfl rfl (by repeat' (first | constructor | apply Sub.suf)) rfl) ?_
     refine le ?_; rintro ⟨A9, c9⟩
     refine lwant rfl rfl rfl rfl (op (p_move rfl) rfl) ?_
     refine lwant rfl rfl rfl rfl (o_call (is := []) Tryz.call40 (c_rWithout (delT (putT (madeT l) v (getL (madeT l) u)) u) A9 c9 hl3 v) rfl rfl (by repeat' (first | constructor | apply Sub.suf)) rfl) ?_
     refine le ?_; rintro ⟨A10, c10⟩
     rw [hw]
     refine lwant rfl rfl rfl rfl (op (p_move rfl) rfl) ?_
     refine lwant rfl rfl rfl rfl (op (p_move rfl) rfl) ?_
     refine lwant rfl rfl rfl rfl (o_call (is := []) Tryz.call40 (c_rWithout (madeT l) A2 c2 (by omega) u) rfl rfl (by repeat' (first | constructor | apply Sub.suf)) rfl) ?_
     refine le ?_; rintro ⟨A11, c11⟩
     refine lwant rfl rfl rfl rfl (o_call (is := []) Tryz.call18 (c_rSame02 (delT (madeT l) u) (delT (madeT l) u) A10 A11 c10 c11 (Nat.le_trans (List.length_filter_le _ _) (by omega)) (fun x hx => hfit x (mem_delT.1 hx).1)) rfl rfl (by repeat' (first | constructor | apply Sub.suf)) rfl) ?_
     refine le ?_; intro x89
     refine fixL (congrArg Value.bool (decide_eq_true rfl)) ?_
     refine ls (op (p_pickt rfl rfl) rfl) ?_
     refine ls (op (p_move rfl) rfl) ?_
     refine lwant rfl rfl rfl rfl (op (p_move rfl) rfl) ?_
     refine lwant rfl rfl rfl rfl (o_call (is := [2, 2]) Tryz.call25 (c_Old02 p4 b4 (madeT l) (by omega) hfit) rfl rfl (by repeat' (first | constructor | apply Sub.suf)) rfl) ?_
     refine le ?_; rintro ⟨A12, c12⟩
     refine lwant rfl rfl rfl rfl (op (p_move rfl) rfl) ?_
     refine lwant rfl rfl rfl rfl (o_call (is := []) Tryz.call18 (c_rSame02 (madeT l) (madeT l) A12 A2 c12 c2 (by omega) hfit) rfl rfl (by repeat' (first | constructor | apply Sub.suf)) rfl) ?_
     refine le ?_; intro x95
     refine fixL (congrArg Value.bool (decide_eq_true rfl)) ?_
     refine ls (op (p_pickt rfl rfl) rfl) ?_
     refine ls (op (p_asg rfl) rfl) ?_
     refine ln ?_
     refine nthen ?_
     refine cret ?_
     refine xret (fun _ _ h => h) ?_
     refine rret (is := []) () (Or.inl rfl) (Res.t rfl Res.d) (rfl) rfl (by repeat' (first | constructor | apply Sub.suf))

end Go.Proofs.YtgjbcigeecbfiaaGreatDoor.X

end
