/- OWN WORK: a part of the proof of a law of the seat YtdbiillompeclaaGreatDoor: contracts. -/
import Derived.Test.YtdbiillompeclaaGreatDoorProg
import Derived.Test.YtdbiillompeclaaGreatDoorXGD
section
set_option linter.unusedVariables false
set_option linter.unusedSimpArgs false
namespace Go.Proofs.YtdbiillompeclaaGreatDoor.X
open Go Go.RowKit Go.Proofs Go.Sx
attribute [local irreducible] slA isA box row

theorem fa25_0 : FA Tryz.prog 25 0 0 := fun b o w => by kernel_rfl
theorem fa25_1 : FA Tryz.prog 25 1 1 := fun b o w => by kernel_rfl
theorem fa25_2 : FA Tryz.prog 25 2 2 := fun b o w => by kernel_rfl
theorem fa25_3 : FA Tryz.prog 25 3 3 := fun b o w => by kernel_rfl
theorem fa31_0 : FA Tryz.prog 31 0 0 := fun b o w => by kernel_rfl
theorem fa31_1 : FA Tryz.prog 31 1 1 := fun b o w => by kernel_rfl
theorem fa31_2 : FA Tryz.prog 31 2 2 := fun b o w => by kernel_rfl
theorem fa31_3 : FA Tryz.prog 31 3 3 := fun b o w => by kernel_rfl
theorem inf3 : (Tryz.prog.info? 3).map (fun i => (i.zero, i.size, i.bytes)) = some (some (.int .i64 0), 1, 8) := by kernel_rfl
theorem inf31 : (Tryz.prog.info? 31).map (fun i => (i.zero, i.size, i.bytes)) = some (some (.agg #[.int .i64 0, .string ⟨#[]⟩, .slice none 0 0, .slice none 0 0]), 4, 72) := by kernel_rfl
theorem sb25 : SB Tryz.prog 25 [(0, 1), (1, 1), (2, 1), (3, 1)] [.int .i64 0, .string ⟨#[]⟩, .slice none 0 0, .slice none 0 0] := SB.struct Tryz.zeroValue25 rfl Tryz.underlying25 (fun w => by kernel_rfl)
theorem sb31 : SB Tryz.prog 31 [(0, 1), (1, 1), (2, 1), (3, 1)] [.int .i64 0, .string ⟨#[]⟩, .slice none 0 0, .slice none 0 0] := SB.struct Tryz.zeroValue31 rfl Tryz.underlying31 (fun w => by kernel_rfl)
set_option maxRecDepth 100000 in
theorem c_EqualI (l m : List Int) (A B : Option Addr) (c c' : Nat) (hl : l.length ≤ 2000000) : Con Tryz.prog 111 [.slice A l.length c, .slice B m.length c'] [] [slA A l, slA B m] Unit (fun _ => .bool (decide (l = m))) (fun _ => []) (fun _ => []) := by
 refine con Tryz.func111 rfl Tryz.ntmps111 rfl ?_
 intro M0 F0 w0
 refine cs ?_
 refine cr ?_
 refine ls (op (p_asg rfl) rfl) ?_
 refine ln ?_
 refine nthen ?_
 refine cs ?_
 refine cs ?_
 refine cr ?_
 refine ls (op (p_move rfl) rfl) ?_
 refine ls (op (p_lenl rfl Tryz.underlying22) rfl) ?_
 refine ls (op (p_move rfl) rfl) ?_
 refine ls (op (p_lenl rfl Tryz.underlying22) rfl) ?_
 refine ls (op (p_icmp rfl rfl rfl) rfl) ?_
 refine ln ?_
 refine nthen ?_
 refine cc rfl ?_ ?_
 ·
  intro h10
  try simp only [decide_eq_true_eq, decide_eq_false_iff_not, Bool.not_eq_true', Bool.not_eq_false', Int.not_lt, Int.not_le, ge_iff_le, Bool.not_true, Bool.not_false] at h10
  refine cs ?_
  refine cr ?_
  refine ls (op (p_asg rfl) rfl) ?_
  refine ln ?_
  refine nthen ?_
  refine cret ?_
  refine xret (fun _ _ h => h) ?_
  refine rret (is := []) () (Or.inl rfl) (Res.t rfl Res.d) ?_ rfl (by repeat' (first | constructor | apply Sub.suf))
  simp [packV]; intro e; rw [e] at h10; exact h10 rfl
 ·
  intro h10
  try simp only [decide_eq_true_eq, decide_eq_false_iff_not, Bool.not_eq_true', Bool.not_eq_false', Int.not_lt, Int.not_le, ge_iff_le, Bool.not_true, Bool.not_false] at h10
  refine cskip ?_
  refine nthen ?_
  refine cs ?_
  refine cs ?_
  refine cr ?_
  refine ls (op (p_move rfl) rfl) ?_
  refine ls (op (p_lenl rfl Tryz.underlying22) rfl) ?_
  refine ls (op (p_move rfl) rfl) ?_
  refine ln ?_
  refine nthen ?_
  refine cb ?_
  refine cl (ι := {k : Nat // k ≤ l.length ∧ l.take k = m.take k}) (fun i => St M0 F0 w0 26 [(0, .slice A l.length c), (1, .slice B m.length c'), (12, .int .i64 (l.length : Int)), (13, .int .i64 (i.1 : Int))] [] [slA A l, slA B m]) (fun i => l.length - i.1) ⟨0, by simp⟩ (wk0 (by repeat (first | exact subσ.nil _ | refine subσ.cons rfl ?_)) (by repeat' (first | constructor | apply Sub.suf))) ?_
  rintro ⟨k, hk, hkk⟩
  refine cmono (S' := St M0 F0 w0 26 [(0, .slice A l.length c), (1, .slice B m.length c'), (12, .int .i64 (l.length : Int)), (13, .int .i64 (k : Int))] [] [slA A l, slA B m]) (fun _ _ h => h) ?_
  refine cs ?_
  refine cr ?_
  refine ls (op (p_icmp rfl rfl rfl) rfl) ?_
  refine ln ?_
  refine nthen ?_
  refine cs ?_
  refine cc rfl ?_ ?_
  ·
   intro h14
   try simp only [decide_eq_true_eq, decide_eq_false_iff_not, Bool.not_eq_true', Bool.not_eq_false', Int.not_lt, Int.not_le, ge_iff_le, Bool.not_true, Bool.not_false] at h14
   have hk1 : k < l.length := by omega
   have hk2 : k < m.length := by omega
   refine cskip ?_
   refine nthen ?_
   refine cs ?_
   refine cb ?_
   refine cs ?_
   refine cr ?_
   refine ls (op (p_move rfl) rfl) ?_
   refine ls (op (p_asg rfl) rfl) ?_
   refine ln ?_
   refine nthen ?_
   refine cs ?_
   refine elC (by repeat' constructor) k (List.getElem?_eq_getElem (l := l) hk1) ?_; rintro zbp zop zyp hAp
   refine elC (by repeat' constructor) k (List.getElem?_eq_getElem (l := m) hk2) ?_; rintro zbq zoq zyq hAq
   refine cd [] [(3, zbp, zop + k * Rp.size Int, _), (7, zbq, zoq + k * Rp.size Int, _)] TryzX.mixed (TOk.t (isInS (by repeat' constructor) (k := 0) rfl (z := 1) (by repeat (first | exact Cut.d | apply Cut.t | apply Cut.s))) (TOk.t (isInS (by repeat' constructor) (k := 0) rfl (z := 1) (by repeat (first | exact Cut.d | apply Cut.t | apply Cut.s))) TOk.d)) ?_
   refine tk 0 rfl (by kernel_rfl) (fun _ _ _ h => h) gnone (TTany _) (p_move rfl) rfl ?_
   refine tk 1 rfl (by kernel_rfl) (fun _ _ _ h => h) gnone (TTany _) (p_move rfl) rfl ?_
   refine tk 2 rfl (by kernel_rfl) (fun _ _ _ h => h) gnone (TTany _) (p_ia k hAp hk1 rfl Tryz.underlying22 Tryz.sizeOf3 rfl rfl) rfl ?_
   refine tk 3 rfl (by kernel_rfl) (fun _ _ _ h => h) gnone (TTat (List.Mem.head _)) (p_ld Tryz.isAgg3 rfl) rfl ?_
   refine tk 4 rfl (by kernel_rfl) (fun _ _ _ h => h) gnone (TTany _) (p_move rfl) rfl ?_
   refine tk 5 rfl (by kernel_rfl) (fun _ _ _ h => h) gnone (TTany _) (p_move rfl) rfl ?_
   refine tk 6 rfl (by kernel_rfl) (fun _ _ _ h => h) gnone (TTany _) (p_ia k hAq hk2 rfl Tryz.underlying22 Tryz.sizeOf3 rfl rfl) rfl ?_
   refine tk 7 rfl (by kernel_rfl) (fun _ _ _ h => h) gnone (TTat (List.Mem.tail _ (List.Mem.head _))) (p_ld Tryz.isAgg3 rfl) rfl ?_
   refine tk 8 rfl (by kernel_rfl) (fun _ _ _ h => h) gnone (TTany _) (p_icmp rfl rfl rfl) rfl ?_
   refine dn (by kernel_rfl) ?_
   refine nthen ?_
   refine cc rfl ?_ ?_
   ·
    intro h24
    try simp only [decide_eq_true_eq, decide_eq_false_iff_not, Bool.not_eq_true', Bool.not_eq_false', Int.not_lt, Int.not_le, ge_iff_le, Bool.not_true, Bool.not_false] at h24
    refine cs ?_
    refine cr ?_
    refine ls (op (p_asg rfl) rfl) ?_
    refine ln ?_
    refine nthen ?_
    refine cret ?_
    refine xret (fun _ _ h => h) ?_
    refine rret (is := []) () (Or.inl rfl) (Res.t rfl Res.d) ?_ rfl (by repeat' (first | constructor | apply Sub.suf))
    simp [packV]; rintro rfl; exact h24 rfl
   ·
    intro h24
    try simp only [decide_eq_true_eq, decide_eq_false_iff_not, Bool.not_eq_true', Bool.not_eq_false', Int.not_lt, Int.not_le, ge_iff_le, Bool.not_true, Bool.not_false] at h24
    refine cskip ?_
    refine nblock ?_
    refine nthen ?_
    refine cr ?_
    refine ls (op (p_add rfl rfl (by omega)) rfl) ?_
    refine ls (op (p_move rfl) rfl) ?_
    refine ln ?_
    refine nnext ⟨k + 1, hk1, by rw [List.take_succ_eq_append_getElem hk1, List.take_succ_eq_append_getElem hk2, hkk, h24]⟩ (by dsimp only; omega) (wk0 (by repeat (first | exact subσ.nil _ | refine subσ.cons rfl ?_)) (by repeat' (first | constructor | apply Sub.suf)))
  ·
   intro h14
   try simp only [decide_eq_true_eq, decide_eq_false_iff_not, Bool.not_eq_true', Bool.not_eq_false', Int.not_lt, Int.not_le, ge_iff_le, Bool.not_true, Bool.not_false] at h14
   refine cexit ?_
   refine xthen ?_
   refine xthen ?_
   refine xblock ?_
   refine nthen ?_
   refine cs ?_
   refine cr ?_
   refine ls (op (p_asg rfl) rfl) ?_
   refine ln ?_
   refine nthen ?_
   refine cret ?_
   refine xret (fun _ _ h => h) ?_
   refine rret (is := []) () (Or.inl rfl) (Res.t rfl Res.d) ?_ rfl (by repeat' (first | constructor | apply Sub.suf))
   simp [packV]; have := List.take_of_length_le (l := l) (i := k) (by omega); have := List.take_of_length_le (l := m) (i := k) (by omega); simp_all

set_option maxRecDepth 100000 in
theorem c_IndexI (l : List Int) (A : Option Addr) (c : Nat) (hl : l.length ≤ 2000000) (v : Int) : Con Tryz.prog 117 [.slice A l.length c, .int .i64 v] [] [slA A l] {r : Int // -1 ≤ r ∧ r ≤ 2000000 ∧ (0 ≤ r ↔ v ∈ l)} (fun r => .int .i64 r.1) (fun _ => []) (fun _ => []) := by
 refine con Tryz.func117 rfl Tryz.ntmps117 rfl ?_
 intro M0 F0 w0
 refine cs ?_
 refine cr ?_
 refine ls (op (p_asg rfl) rfl) ?_
 refine ln ?_
 refine nthen ?_
 refine cs ?_
 refine cs ?_
 refine cr ?_
 refine ls (op (p_move rfl) rfl) ?_
 refine ls (op (p_lenl rfl Tryz.underlying22) rfl) ?_
 refine ls (op (p_move rfl) rfl) ?_
 refine ln ?_
 refine nthen ?_
 refine cb ?_
 refine cl (ι := {k : Nat // k ≤ l.length ∧ v ∉ l.take k}) (fun i => St M0 F0 w0 19 [(0, .slice A l.length c), (1, .int .i64 v), (7, .int .i64 (l.length : Int)), (8, .int .i64 (i.1 : Int))] [] [slA A l]) (fun i => l.length - i.1) ⟨0, by simp⟩ (wk0 (by repeat (first | exact subσ.nil _ | refine subσ.cons rfl ?_)) (by repeat' (first | constructor | apply Sub.suf))) ?_
 rintro ⟨k, hk, hkk⟩
 refine cmono (S' := St M0 F0 w0 19 [(0, .slice A l.length c), (1, .int .i64 v), (7, .int .i64 (l.length : Int)), (8, .int .i64 (k : Int))] [] [slA A l]) (fun _ _ h => h) ?_
 refine cs ?_
 refine cr ?_
 refine ls (op (p_icmp rfl rfl rfl) rfl) ?_
 refine ln ?_
 refine nthen ?_
 refine cs ?_
 refine cc rfl ?_ ?_
 ·
  intro h9
  try simp only [decide_eq_true_eq, decide_eq_false_iff_not, Bool.not_eq_true', Bool.not_eq_false', Int.not_lt, Int.not_le, ge_iff_le, Bool.not_true, Bool.not_false] at h9
  have hk1 : k < l.length := by omega
  refine cskip ?_
  refine nthen ?_
  refine cs ?_
  refine cb ?_
  refine cs ?_
  refine cr ?_
  refine ls (op (p_move rfl) rfl) ?_
  refine ls (op (p_asg rfl) rfl) ?_
  refine ln ?_
  refine nthen ?_
  refine cs ?_
  refine elC (by repeat' constructor) k (List.getElem?_eq_getElem (l := l) hk1) ?_; rintro zbp zop zyp hAp
  refine cr ?_
  refine ls (op (p_move rfl) rfl) ?_
  refine ls (op (p_move rfl) rfl) ?_
  refine ls (op (p_move rfl) rfl) ?_
  refine ls (op (p_ia k hAp hk1 rfl Tryz.underlying22 Tryz.sizeOf3 rfl rfl) rfl) ?_
  refine ls (o_ldi Tryz.isAgg3 rfl (by repeat' constructor) 0 rfl (by repeat (first | exact Cut.d | apply Cut.t | apply Cut.s)) rfl) ?_
  refine ls (op (p_icmp rfl rfl rfl) rfl) ?_
  refine ln ?_
  refine nthen ?_
  refine cc rfl ?_ ?_
  ·
   intro h16
   try simp only [decide_eq_true_eq, decide_eq_false_iff_not, Bool.not_eq_true', Bool.not_eq_false', Int.not_lt, Int.not_le, ge_iff_le, Bool.not_true, Bool.not_false] at h16
   refine cs ?_
   refine cr ?_
   refine ls (op (p_move rfl) rfl) ?_
   refine ls (op (p_asg rfl) rfl) ?_
   refine ln ?_
   refine nthen ?_
   refine cret ?_
   refine xret (fun _ _ h => h) ?_
   refine rret (is := []) ⟨(k : Int), by omega, by omega, ⟨fun _ => h16 ▸ List.getElem_mem hk1, fun _ => by omega⟩⟩ (Or.inl rfl) (Res.t rfl Res.d) (rfl) rfl (by repeat' (first | constructor | apply Sub.suf))
  ·
   intro h16
   try simp only [decide_eq_true_eq, decide_eq_false_iff_not, Bool.not_eq_true', Bool.not_eq_false', Int.not_lt, Int.not_le, ge_iff_le, Bool.not_true, Bool.not_false] at h16
   refine cskip ?_
   refine nblock ?_
   refine nthen ?_
   refine cr ?_
   refine ls (op (p_add rfl rfl (by omega)) rfl) ?_
   refine ls (op (p_move rfl) rfl) ?_
   refine ln ?_
   refine nnext ⟨k + 1, hk1, by rw [List.take_succ_eq_append_getElem hk1, List.mem_append]; simp [h16, hkk]⟩ (by dsimp only; omega) (wk0 (by repeat (first | exact subσ.nil _ | refine subσ.cons rfl ?_)) (by repeat' (first | constructor | apply Sub.suf)))
 ·
  intro h9
  try simp only [decide_eq_true_eq, decide_eq_false_iff_not, Bool.not_eq_true', Bool.not_eq_false', Int.not_lt, Int.not_le, ge_iff_le, Bool.not_true, Bool.not_false] at h9
  refine cexit ?_
  refine xthen ?_
  refine xthen ?_
  refine xblock ?_
  refine nthen ?_
  refine cs ?_
  refine cr ?_
  refine ls (op (p_asg rfl) rfl) ?_
  refine ln ?_
  refine nthen ?_
  refine cret ?_
  refine xret (fun _ _ h => h) ?_
  refine rret (is := []) ⟨-1, by omega, by omega, by rw [List.take_of_length_le (by omega)] at hkk; simp [hkk]⟩ (Or.inl rfl) (Res.t rfl Res.d) (rfl) rfl (by repeat' (first | constructor | apply Sub.suf))

set_option maxRecDepth 100000 in
theorem c_ContainsI (l : List Int) (A : Option Addr) (c : Nat) (hl : l.length ≤ 2000000) (v : Int) : Con Tryz.prog 64 [.slice A l.length c, .int .i64 v] [] [slA A l] Unit (fun _ => .bool (l.any fun s => decide (s = v))) (fun _ => []) (fun _ => []) := by
 refine con Tryz.func64 rfl Tryz.ntmps64 rfl ?_
 intro M0 F0 w0
 refine cs ?_
 refine cr ?_
 refine ls (op (p_asg rfl) rfl) ?_
 refine ln ?_
 refine nthen ?_
 refine cs ?_
 refine cr ?_
 refine ls (op (p_move rfl) rfl) ?_
 refine ls (op (p_move rfl) rfl) ?_
 refine ls (o_call (is := []) Tryz.call117 (c_IndexI l A c hl v) rfl rfl (by repeat' (first | constructor | apply Sub.suf)) rfl) ?_
 refine le ?_; rintro ⟨r, hr1, hr2, hr3⟩
 refine ls (op (p_icmp rfl rfl rfl) rfl) ?_
 refine ls (op (p_asg rfl) rfl) ?_
 refine ln ?_
 refine nthen ?_
 refine cret ?_
 refine xret (fun _ _ h => h) ?_
 refine rret (is := []) () (Or.inl rfl) (Res.t rfl Res.d) ?_ rfl (by repeat' (first | constructor | apply Sub.suf))
 simp [packV]; rw [Bool.eq_iff_iff]; simp [hr3]

set_option maxRecDepth 100000 in
theorem c_with (p : Patch) (y : Rp.Lay Patch) (hp : p.fit) (l : List Prim) (A : Option Addr) (c : Nat) (hl : l.length ≤ 2000000) (hf : ∀ x ∈ l, x.fit) : Con Tryz.prog 63 [sv p y, .slice A l.length c] [] [slA y.1.1 p.deps, slA y.2.1 p.l, capA y.2.2 p.l.length, slA A l] (Rp.Lay Patch) (fun y' => sv { p with l := l } y') (fun _ => []) (fun y' => [slA y'.1.1 p.deps, slA y'.2.1 l, capA y'.2.2 l.length]) := by
 refine con Tryz.func63 rfl Tryz.ntmps63 rfl ?_
 intro M0 F0 w0
 refine cs ?_
 refine cr ?_
 refine ls (o_box rfl rfl rfl) ?_
 refine le ?_; intro b2
 refine ls (o_alloc Tryz.zeroValue31 rfl rfl) ?_
 refine le ?_; intro b4
 refine ln ?_
 refine nthen ?_
 refine cs ?_
 have hdl := hp.dl
 refine cr ?_
 refine ls (op (p_fa fa31_2 rfl) rfl) ?_
 refine ls (o_ld Tryz.isAgg22 rfl (by repeat' constructor) (by repeat' constructor) rfl) ?_
 refine ls (op (p_lenl rfl Tryz.underlying22) rfl) ?_
 refine ls (o_mk (0 : Int) () p.deps.length Tryz.underlying22 inf3 rfl (by decide) (fun _ _ p hp => by cases hp) rfl rfl rfl rfl (by omega) (by omega) rfl) ?_
 refine le ?_; intro b11
 refine ls (op (p_asg rfl) rfl) ?_
 refine ln ?_
 refine nthen ?_
 refine cs ?_
 refine cr ?_
 refine ls (op (p_move rfl) rfl) ?_
 refine ls (op (p_fa fa31_2 rfl) rfl) ?_
 refine ls (o_ld Tryz.isAgg22 rfl (by repeat' constructor) (by repeat' constructor) rfl) ?_
 refine ls (o_cpy Tryz.underlying22 (by kernel_rfl) rfl rfl (by simp) (by repeat' constructor) (by repeat' constructor) (by repeat' (first | constructor | apply Sub.suf)) rfl) ?_
 rw [List.length_replicate]
 refine ln ?_
 refine nthen ?_
 refine cs ?_
 refine cmono (fun a w h => Go.Sx.freeze (i := 0) rfl h) ?_
 refine cmono (fun a w h => nilRow (α := Prim) 39 h) ?_
 refine cr ?_
 refine ls (op (p_move rfl) rfl) ?_
 refine ls (op (p_fa fa31_2 rfl) rfl) ?_
 refine ls (o_st rfl Tryz.sizeOf22 rfl rfl rfl rfl rfl (by repeat' constructor) (by repeat' constructor) (by repeat' constructor)) ?_
 refine ls (op (p_fa fa31_3 rfl) rfl) ?_
 refine ls (o_st rfl Tryz.sizeOf29 rfl rfl rfl rfl rfl (by repeat' constructor) (by repeat' constructor) (by repeat' constructor)) ?_
 refine ln ?_
 refine nthen ?_
 refine cs ?_
 refine cs ?_
 refine cr ?_
 refine ls (op (p_move rfl) rfl) ?_
 refine ls (op (p_lenl rfl Tryz.underlying29) rfl) ?_
 refine ls (op (p_move rfl) rfl) ?_
 refine ln ?_
 refine nthen ?_
 refine cb ?_
 refine cl (ι := {q : Nat × Option Addr × Nat // q.1 ≤ l.length}) (fun i => St M0 F0 w0 34 [(2, .pointer (some ⟨b2, 0, none⟩)), (4, .pointer (some ⟨b4, 0, none⟩)), (19, .slice A l.length c), (20, .int .i64 (l.length : Int)), (21, .int .i64 (i.1.1 : Int))] [row 39 (i.1.2.1) (i.1.2.2) (l.take i.1.1), box b2 31 [.int .i64 p.id, .string p.note, .slice (some ⟨b11, 0, none⟩) p.deps.length p.deps.length, .slice i.1.2.1 (l.take i.1.1).length i.1.2.2], box b4 31 (Rp.enc Patch.zero ((none, 0), (none, 0)))] [slA (some ⟨b11, 0, none⟩) p.deps, slA A l]) (fun i => l.length - i.1.1) ⟨(0, none, 0), Nat.zero_le _⟩ (wk (is := [0, 1, 0]) (by repeat (first | exact subσ.nil _ | refine subσ.cons rfl ?_)) rfl (by repeat' (first | constructor | apply Sub.suf))) ?_
 rintro ⟨⟨k, A2, c2⟩, hk⟩
 refine cmono (S' := St M0 F0 w0 34 [(2, .pointer (some ⟨b2, 0, none⟩)), (4, .pointer (some ⟨b4, 0, none⟩)), (19, .slice A l.length c), (20, .int .i64 (l.length : Int)), (21, .int .i64 (k : Int))] [row 39 (A2) (c2) (l.take k), box b2 31 [.int .i64 p.id, .string p.note, .slice (some ⟨b11, 0, none⟩) p.deps.length p.deps.length, .slice A2 (l.take k).length c2], box b4 31 (Rp.enc Patch.zero ((none, 0), (none, 0)))] [slA (some ⟨b11, 0, none⟩) p.deps, slA A l]) (fun _ _ h => h) ?_
 refine cs ?_
 refine cr ?_
 refine ls (op (p_icmp rfl rfl rfl) rfl) ?_
 refine ln ?_
 refine nthen ?_
 refine cs ?_
 refine cc rfl ?_ ?_
 ·
  intro h22
  dsimp only at hk
  try simp only [decide_eq_true_eq, decide_eq_false_iff_not, Bool.not_eq_true', Bool.not_eq_false', Int.not_lt, Int.not_le, ge_iff_le, Bool.not_true, Bool.not_false] at h22
  have hk1 : k < l.length := by omega
  refine cskip ?_
  refine nthen ?_
  refine cs ?_
  refine cb ?_
  refine cs ?_
  refine elC (by repeat' constructor) k (List.getElem?_eq_getElem (l := l) hk1) ?_; rintro zbp zop zyp hAp
  refine cr ?_
  refine ls (op (p_ia k hAp hk1 rfl Tryz.underlying29 Tryz.sizeOf39 rfl rfl) rfl) ?_
  refine ls (o_ldj Tryz.isAgg39 Tryz.sizeOf39 rfl (by repeat' constructor) 0 rfl (by repeat (first | exact Cut.d | apply Cut.t | apply Cut.s)) rfl) ?_
  refine ls (o_alloc Tryz.zeroValue39 rfl rfl) ?_
  refine le ?_; intro b7
  refine ls (o_st rfl Tryz.sizeOf39 rfl rfl rfl rfl rfl (by repeat' constructor) (by repeat' constructor) (by repeat' constructor)) ?_
  refine ln ?_
  refine nthen ?_
  refine cd [3, 4, 5, 7] [(1, b2, 3, _), (2, b7, 0, _)] TryzX.mixed (TOk.t (isBoxS (by repeat' constructor) (k := 1) (by repeat (first | exact Cut.d | apply Cut.t | apply Cut.s))) (TOk.t (isBoxS (by repeat' constructor) (k := 6) (by repeat (first | exact Cut.d | apply Cut.t | apply Cut.s))) TOk.d)) ?_
  refine tk 0 rfl (by kernel_rfl) (fun _ _ _ h => h) gnone (TTany _) (p_fa fa31_3 rfl) rfl ?_
  refine tk 1 rfl (by kernel_rfl) (fun _ _ _ h => h) gnone (TTat (List.Mem.head _)) (p_ld Tryz.isAgg29 rfl) rfl ?_
  refine tk 2 rfl (by kernel_rfl) (fun _ _ _ h => h) gnone (TTat (List.Mem.tail _ (List.Mem.head _))) (p_lda Tryz.isAgg39 Tryz.sizeOf39 rfl rfl) rfl ?_
  refine df 3 (by kernel_rfl) ?_
  refine doR rfl (o_call (is := []) Tryz.call48 (c_primClone l[k] zyp (hf _ (List.getElem_mem hk1))) rfl rfl (by repeat' (first | constructor | apply Sub.suf)) rfl) (TOk.t (isBoxE fun _ => isBoxS (by repeat' constructor) (k := 1) (by repeat (first | exact Cut.d | apply Cut.t | apply Cut.s))) (TOk.x (by kernel_rfl) TOk.d)) ?_
  refine ea ?_; intro y28
  refine df 4 (by kernel_rfl) ?_
  refine doR rfl (o_bsl [l[k]] Tryz.underlying29 Tryz.sizeOf39 Tryz.zeroValue39 rfl (Enum.t Enum.d) (RV.t y28 rfl (by repeat' (first | constructor | apply Sub.suf)) RV.d) rfl (by decide) (by decide) rfl) (TOk.t (isBoxE fun _ => isBoxS (by repeat' constructor) (k := 1) (by repeat (first | exact Cut.d | apply Cut.t | apply Cut.s))) (TOk.x (by kernel_rfl) TOk.d)) ?_
  refine ea ?_; intro b29
  refine amono (fun a w h => Go.Sx.freeze (i := 0) rfl h) ?_
  refine df 5 (by kernel_rfl) ?_
  refine doR rfl (o_app (is := [1]) Tryz.underlying29 inf39 rfl (by decide) (by decide) rfl rfl (by rw [List.length_take]; simp only [List.length_cons, List.length_nil]; omega) (fun h => by cases h) rfl (by repeat' (first | constructor | apply Sub.suf)) rfl) (TOk.x (by kernel_rfl) (TOk.x (by kernel_rfl) TOk.d)) ?_
  refine ea ?_; rintro ⟨A3, c3⟩
  rw [← List.take_succ_eq_append_getElem hk1]
  refine tk 6 rfl (by kernel_rfl) (fun _ _ _ h => h) gnone (TTany _) (p_fa fa31_3 rfl) rfl ?_
  refine df 7 (by kernel_rfl) ?_
  refine doR rfl (o_st rfl Tryz.sizeOf29 rfl rfl rfl rfl rfl (by repeat' constructor) (by repeat' constructor) (by repeat' constructor)) (TOk.x (by kernel_rfl) (TOk.x (by kernel_rfl) TOk.d)) ?_
  refine dn (by kernel_rfl) ?_
  refine nblock ?_
  refine nthen ?_
  refine cr ?_
  refine ls (op (p_add rfl rfl (by omega)) rfl) ?_
  refine ls (op (p_move rfl) rfl) ?_
  refine ln ?_
  refine nnext ⟨(k + 1, A3, c3), hk1⟩ (by dsimp only; omega) (wk (is := [0, 1, 1]) (by repeat (first | exact subσ.nil _ | refine subσ.cons rfl ?_)) rfl (by repeat' (first | constructor | apply Sub.suf)))
 ·
  intro h22
  dsimp only at hk
  try simp only [decide_eq_true_eq, decide_eq_false_iff_not, Bool.not_eq_true', Bool.not_eq_false', Int.not_lt, Int.not_le, ge_iff_le, Bool.not_true, Bool.not_false] at h22
  obtain rfl : k = l.length := by omega
  rw [List.take_length]
  refine cexit ?_
  refine xthen ?_
  refine xthen ?_
  refine xblock ?_
  refine nthen ?_
  refine cs ?_
  refine cmono (fun a w h => freezeN (i := 0) rfl h) ?_
  refine cr ?_
  refine ls (o_ldw Tryz.isAgg31 Tryz.sizeOf31 rfl (by repeat' constructor) (by rfl) rfl) ?_
  refine ls (o_st rfl Tryz.sizeOf31 rfl rfl rfl rfl rfl (by repeat' constructor) (by repeat' constructor) (by repeat' constructor)) ?_
  refine ln ?_
  refine nthen ?_
  refine cret ?_
  refine xret (fun _ _ h => h) ?_
  refine rret (is := []) ((some ⟨b11, 0, none⟩, p.deps.length), (A2, c2)) (Or.inl rfl) (Res.c rfl Tryz.isAgg31 Tryz.sizeOf31 (by repeat' constructor) (by rfl) Res.d) (rfl) rfl (by repeat' (first | constructor | apply Sub.suf))

set_option maxRecDepth 100000 in
theorem c_nClone (p : Patch) (y : Rp.Lay Patch) (hp : p.fit) : Con Tryz.prog 12 [sv p y] [] [slA y.1.1 p.deps, slA y.2.1 p.l, capA y.2.2 p.l.length] (Rp.Lay Patch) (fun y' => sv p y') (fun _ => []) (fun y' => [slA y'.1.1 p.deps, slA y'.2.1 p.l, capA y'.2.2 p.l.length]) := by
 refine con Tryz.func12 rfl Tryz.ntmps12 rfl ?_
 intro M0 F0 w0
 refine cs ?_
 refine cr ?_
 refine ls (o_box rfl rfl rfl) ?_
 refine le ?_; intro b1
 refine ls (o_alloc Tryz.zeroValue31 rfl rfl) ?_
 refine le ?_; intro b2
 refine ln ?_
 refine nthen ?_
 refine cs ?_
 refine cr ?_
 refine ls (o_ldw Tryz.isAgg31 Tryz.sizeOf31 rfl (by repeat' constructor) (by rfl) rfl) ?_
 refine ls (op (p_fa fa31_3 rfl) rfl) ?_
 refine ls (o_ld Tryz.isAgg29 rfl (by repeat' constructor) (by repeat' constructor) rfl) ?_
 refine ls (o_call (is := []) Tryz.call63 (c_with p y hp p.l y.2.1 y.2.2 hp.ll hp.lf) rfl rfl (by repeat' (first | constructor | apply Sub.suf)) rfl) ?_
 refine le ?_; intro y6
 refine ls (o_st rfl Tryz.sizeOf31 rfl rfl rfl rfl rfl (by repeat' constructor) (by repeat' constructor) (by repeat' constructor)) ?_
 refine ln ?_
 refine nthen ?_
 refine cret ?_
 refine xret (fun _ _ h => h) ?_
 refine rret (is := []) y6 (Or.inl rfl) (Res.c rfl Tryz.isAgg31 Tryz.sizeOf31 (by repeat' constructor) (by rfl) Res.d) (rfl) rfl (by repeat' (first | constructor | apply Sub.suf))

set_option maxRecDepth 100000 in
theorem c_New7 (p : Patch) (y : Rp.Lay Patch) (hp : p.fit) : Con Tryz.prog 13 [sv p y] [] [slA y.1.1 p.deps, slA y.2.1 p.l, capA y.2.2 p.l.length] (Rp.Lay Patch) (fun y' => sv p y') (fun _ => []) (fun y' => [slA y'.1.1 p.deps, slA y'.2.1 p.l, capA y'.2.2 p.l.length]) := by
 refine con Tryz.func13 rfl Tryz.ntmps13 rfl ?_
 intro M0 F0 w0
 refine cs ?_
 refine cr ?_
 refine ls (o_box rfl rfl rfl) ?_
 refine le ?_; intro b1
 refine ls (o_alloc Tryz.zeroValue31 rfl rfl) ?_
 refine le ?_; intro b2
 refine ln ?_
 refine nthen ?_
 refine cs ?_
 refine cd [8, 10] [(1, b1, 0, _), (3, b1, 1, _), (5, b1, 2, _), (7, b1, 3, _)] TryzX.mixed (TOk.t (isBoxS (by repeat' constructor) (k := 1) (by repeat (first | exact Cut.d | apply Cut.t | apply Cut.s))) (TOk.t (isBoxS (by repeat' constructor) (k := 1) (by repeat (first | exact Cut.d | apply Cut.t | apply Cut.s))) (TOk.t (isBoxS (by repeat' constructor) (k := 1) (by repeat (first | exact Cut.d | apply Cut.t | apply Cut.s))) (TOk.t (isBoxS (by repeat' constructor) (k := 1) (by repeat (first | exact Cut.d | apply Cut.t | apply Cut.s))) TOk.d)))) ?_
 refine tk 0 rfl (by kernel_rfl) (fun _ _ _ h => h) gnone (TTany _) (p_fa fa25_0 rfl) rfl ?_
 refine tk 1 rfl (by kernel_rfl) (fun _ _ _ h => h) gnone (TTat (List.Mem.head _)) (p_ld Tryz.isAgg3 rfl) rfl ?_
 refine tk 2 rfl (by kernel_rfl) (fun _ _ _ h => h) gnone (TTany _) (p_fa fa25_1 rfl) rfl ?_
 refine tk 3 rfl (by kernel_rfl) (fun _ _ _ h => h) gnone (TTat (List.Mem.tail _ (List.Mem.head _))) (p_ld Tryz.isAgg9 rfl) rfl ?_
 refine tk 4 rfl (by kernel_rfl) (fun _ _ _ h => h) gnone (TTany _) (p_fa fa25_2 rfl) rfl ?_
 refine tk 5 rfl (by kernel_rfl) (fun _ _ _ h => h) gnone (TTat (List.Mem.tail _ (List.Mem.tail _ (List.Mem.head _)))) (p_ld Tryz.isAgg22 rfl) rfl ?_
 refine tk 6 rfl (by kernel_rfl) (fun _ _ _ h => h) gnone (TTany _) (p_fa fa25_3 rfl) rfl ?_
 refine tk 7 rfl (by kernel_rfl) (fun _ _ _ h => h) gnone (TTat (List.Mem.tail _ (List.Mem.tail _ (List.Mem.tail _ (List.Mem.head _))))) (p_ld Tryz.isAgg23 rfl) rfl ?_
 refine df 8 (by kernel_rfl) ?_
 refine doR rfl (o_call (is := []) Tryz.call43 (c_lNewC p.l y.2.1 y.2.2 hp.ll) rfl rfl (by repeat' (first | constructor | apply Sub.suf)) rfl) (TOk.t (isBoxE fun _ => isBoxS (by repeat' constructor) (k := 1) (by repeat (first | exact Cut.d | apply Cut.t | apply Cut.s))) (TOk.t (isBoxE fun _ => isBoxS (by repeat' constructor) (k := 1) (by repeat (first | exact Cut.d | apply Cut.t | apply Cut.s))) (TOk.t (isBoxE fun _ => isBoxS (by repeat' constructor) (k := 1) (by repeat (first | exact Cut.d | apply Cut.t | apply Cut.s))) (TOk.x (by kernel_rfl) TOk.d)))) ?_
 refine ea ?_; intro y11
 refine tk 9 rfl (by kernel_rfl) (fun _ _ _ h => h) gnone (TTany _) (p_bld sb31 rfl (Fill.t (by repeat' constructor) rfl rfl (by repeat' constructor) (Fill.t (by repeat' constructor) rfl rfl (by repeat' constructor) (Fill.t (by repeat' constructor) rfl rfl (by repeat' constructor) (Fill.t (by repeat' constructor) rfl rfl (by repeat' constructor) Fill.d))))) rfl ?_
 refine df 10 (by kernel_rfl) ?_
 refine doR rfl (o_st rfl Tryz.sizeOf31 rfl rfl rfl rfl rfl (by repeat' constructor) (by repeat' constructor) (by repeat' constructor)) (TOk.x (by kernel_rfl) (TOk.x (by kernel_rfl) (TOk.x (by kernel_rfl) (TOk.x (by kernel_rfl) TOk.d)))) ?_
 refine dn (by kernel_rfl) ?_
 refine nthen ?_
 refine cret ?_
 refine xret (fun _ _ h => h) ?_
 refine rret (is := []) (y.1, y11) (Or.inl rfl) (Res.c rfl Tryz.isAgg31 Tryz.sizeOf31 (by repeat' constructor) (by rfl) Res.d) (rfl) rfl (by repeat' (first | constructor | apply Sub.suf))

set_option maxRecDepth 100000 in
theorem c_Rows7 (l : List Patch) (A : Option Addr) (c : Nat) (hl : l.length ≤ 2000000) (hf : ∀ x ∈ l, x.fit) : Con Tryz.prog 54 [.slice A l.length c] [] [slA A l] (Option Addr × Nat) (fun y => .slice y.1 l.length y.2) (fun _ => []) (fun y => [slA y.1 l]) := by
 refine con Tryz.func54 rfl Tryz.ntmps54 rfl ?_
 intro M0 F0 w0
 refine cs ?_
 refine cr ?_
 refine ls (op (p_asg rfl) rfl) ?_
 refine ln ?_
 refine nthen ?_
 refine cs ?_
 refine cr ?_
 refine ls (op (p_asg rfl) rfl) ?_
 refine ln ?_
 refine nthen ?_
 refine cs ?_
 refine cs ?_
 refine cmono (fun a w h => nilRow (α := Patch) 31 h) ?_
 refine cr ?_
 refine ls (op (p_move rfl) rfl) ?_
 refine ls (op (p_lenl rfl Tryz.underlying90) rfl) ?_
 refine ls (op (p_move rfl) rfl) ?_
 refine ln ?_
 refine nthen ?_
 refine cb ?_
 refine cl (ι := {q : Nat × Option Addr × Nat // q.1 ≤ l.length}) (fun i => St M0 F0 w0 19 [(6, .slice A l.length c), (7, .int .i64 (l.length : Int)), (8, .int .i64 (i.1.1 : Int)), (3, .slice i.1.2.1 (l.take i.1.1).length i.1.2.2)] [row 31 (i.1.2.1) (i.1.2.2) (l.take i.1.1)] [slA A l]) (fun i => l.length - i.1.1) ⟨(0, none, 0), Nat.zero_le _⟩ (wk0 (by repeat (first | exact subσ.nil _ | refine subσ.cons rfl ?_)) (by repeat' (first | constructor | apply Sub.suf))) ?_
 rintro ⟨⟨k, A2, c2⟩, hk⟩
 refine cmono (S' := St M0 F0 w0 19 [(6, .slice A l.length c), (7, .int .i64 (l.length : Int)), (8, .int .i64 (k : Int)), (3, .slice A2 (l.take k).length c2)] [row 31 (A2) (c2) (l.take k)] [slA A l]) (fun _ _ h => h) ?_
 refine cs ?_
 refine cr ?_
 refine ls (op (p_icmp rfl rfl rfl) rfl) ?_
 refine ln ?_
 refine nthen ?_
 refine cs ?_
 refine cc rfl ?_ ?_
 ·
  intro h9
  dsimp only at hk
  try simp only [decide_eq_true_eq, decide_eq_false_iff_not, Bool.not_eq_true', Bool.not_eq_false', Int.not_lt, Int.not_le, ge_iff_le, Bool.not_true, Bool.not_false] at h9
  have hk1 : k < l.length := by omega
  refine cskip ?_
  refine nthen ?_
  refine cs ?_
  refine cb ?_
  refine cs ?_
  refine elC (by repeat' constructor) k (List.getElem?_eq_getElem (l := l) hk1) ?_; rintro zbp zop zyp hAp
  refine cr ?_
  refine ls (op (p_ia k hAp hk1 rfl Tryz.underlying90 Tryz.sizeOf25 rfl rfl) rfl) ?_
  refine ls (o_ldj Tryz.isAgg25 Tryz.sizeOf25 rfl (by repeat' constructor) 0 rfl (by repeat (first | exact Cut.d | apply Cut.t | apply Cut.s)) rfl) ?_
  refine ls (o_alloc Tryz.zeroValue25 rfl rfl) ?_
  refine le ?_; intro b5
  refine ls (o_st rfl Tryz.sizeOf25 rfl rfl rfl rfl rfl (by repeat' constructor) (by repeat' constructor) (by repeat' constructor)) ?_
  refine ln ?_
  refine nthen ?_
  refine cr ?_
  refine ls (op (p_move rfl) rfl) ?_
  refine ls (o_ldw Tryz.isAgg25 Tryz.sizeOf25 rfl (by repeat' constructor) (by rfl) rfl) ?_
  refine ls (o_call (is := []) Tryz.call13 (c_New7 l[k] zyp (hf _ (List.getElem_mem hk1))) rfl rfl (by repeat' (first | constructor | apply Sub.suf)) rfl) ?_
  refine le ?_; intro y14
  refine ls (o_bsl [l[k]] Tryz.underlying36 Tryz.sizeOf31 Tryz.zeroValue31 rfl (Enum.t Enum.d) (RV.t y14 rfl (by repeat' (first | constructor | apply Sub.suf)) RV.d) rfl (by decide) (by decide) rfl) ?_
  refine le ?_; intro b15
  refine lmono (fun a w h => Go.Sx.freeze (i := 0) rfl h) ?_
  refine ls (o_app (is := [1]) Tryz.underlying36 inf31 rfl (by decide) (by decide) rfl rfl (by rw [List.length_take]; simp only [List.length_cons, List.length_nil]; omega) (fun h => by cases h) rfl (by repeat' (first | constructor | apply Sub.suf)) rfl) ?_
  refine le ?_; rintro ⟨A3, c3⟩
  rw [← List.take_succ_eq_append_getElem hk1]
  refine ls (op (p_asg rfl) rfl) ?_
  refine ln ?_
  refine nblock ?_
  refine nthen ?_
  refine cr ?_
  refine ls (op (p_add rfl rfl (by omega)) rfl) ?_
  refine ls (op (p_move rfl) rfl) ?_
  refine ln ?_
  refine nnext ⟨(k + 1, A3, c3), hk1⟩ (by dsimp only; omega) (wk (is := [0]) (by repeat (first | exact subσ.nil _ | refine subσ.cons rfl ?_)) rfl (by repeat' (first | constructor | apply Sub.suf)))
 ·
  intro h9
  dsimp only at hk
  try simp only [decide_eq_true_eq, decide_eq_false_iff_not, Bool.not_eq_true', Bool.not_eq_false', Int.not_lt, Int.not_le, ge_iff_le, Bool.not_true, Bool.not_false] at h9
  obtain rfl : k = l.length := by omega
  rw [List.take_length]
  refine cexit ?_
  refine xthen ?_
  refine xthen ?_
  refine xblock ?_
  refine nthen ?_
  refine cs ?_
  refine cmono (fun a w h => Go.Sx.freeze (i := 0) rfl h) ?_
  refine cr ?_
  refine ls (op (p_move rfl) rfl) ?_
  refine ls (op (p_asg rfl) rfl) ?_
  refine ln ?_
  refine nthen ?_
  refine cret ?_
  refine xret (fun _ _ h => h) ?_
  refine rret (is := []) (A2, c2) (Or.inl rfl) (Res.t rfl Res.d) (rfl) rfl (by repeat' (first | constructor | apply Sub.suf))

end Go.Proofs.YtdbiillompeclaaGreatDoor.X

end
section
set_option linter.unusedVariables false
set_option linter.unusedSimpArgs false
namespace Go.Proofs.YtdbiillompeclaaGreatDoor.X
open Go Go.RowKit Go.Proofs Go.Sx
attribute [local irreducible] slA isA box row

theorem depsOk_drop {id last : Int} {l : List Int} {k : Nat} (hk : k < l.length) : depsOk id last (l.drop k) = (!(decide (l[k] ≤ last) || decide (1000000000 < l[k]) || decide (l[k] = id)) && depsOk id l[k] (l.drop (k + 1))) := by
 rw [List.drop_eq_getElem_cons hk, depsOk]
theorem dec_patch (p q : Patch) : (decide (p.id = q.id) && decide (p.note = q.note) && decide (p.deps = q.deps) && decide (p.l = q.l)) = decide (p = q) := by
 rw [Bool.eq_iff_iff]
 cases p; cases q
 simp [and_assoc]
theorem right_f1 {p : Patch} (h : (decide (p.id < 1) || decide (1000000000 < p.id) || !lineOk p.note) = true) : p.right = false := by
 unfold Patch.right; cases h1 : lineOk p.note <;> simp [h1] at h ⊢ <;> omega
theorem right_f2 {p : Patch} (h : 8 < p.deps.length) : p.right = false := by
 unfold Patch.right; rw [show decide (p.deps.length ≤ 8) = false from decide_eq_false (by omega)]; simp
theorem right_f3 {p : Patch} (h : depsOk p.id 0 p.deps = false) : p.right = false := by
 unfold Patch.right; rw [h]; simp
theorem right_t {p : Patch} (h : (decide (p.id < 1) || decide (1000000000 < p.id) || !lineOk p.note) = false) (h2 : p.deps.length ≤ 8) (h3 : depsOk p.id 0 p.deps = true) :
  p.right = (decide ((1 : Int) ≤ (p.l.length : Int)) && decide ((p.l.length : Int) ≤ 24) && p.l.all Prim.right) := by
 unfold Patch.right
 simp only [Bool.or_eq_false_iff, decide_eq_false_iff_not, Bool.not_eq_false'] at h
 rw [show decide (1 ≤ p.id) = true from decide_eq_true (by omega), show decide (p.id ≤ 1000000000) = true from decide_eq_true (by omega), h.2, h3, show decide (p.deps.length ≤ 8) = true from decide_eq_true h2]
 simp only [Bool.and_true, Bool.true_and]
 congr 2 <;> (rw [decide_eq_decide]; omega)
theorem right_g1 {p : Patch} (h : (decide (p.id < 1) || decide (1000000000 < p.id) || !lineOk p.note || decide ((8 : Int) < (p.deps.length : Int)) || decide ((p.l.length : Int) < 1) || decide ((24 : Int) < (p.l.length : Int))) = true) : p.right = false := by
 unfold Patch.right
 cases h1 : lineOk p.note
 ·
  simp
 ·
  rw [Bool.eq_false_iff]
  intro h2
  simp [h1] at h h2
  omega
theorem right_g2 {p : Patch} (h : (decide (p.id < 1) || decide (1000000000 < p.id) || !lineOk p.note || decide ((8 : Int) < (p.deps.length : Int)) || decide ((p.l.length : Int) < 1) || decide ((24 : Int) < (p.l.length : Int))) = false) (h3 : depsOk p.id 0 p.deps = true) : p.right = p.l.all Prim.right := by
 unfold Patch.right
 simp only [Bool.or_eq_false_iff, decide_eq_false_iff_not, Bool.not_eq_false'] at h
 obtain ⟨⟨⟨⟨⟨a1, a2⟩, a3⟩, a4⟩, a5⟩, a6⟩ := h
 rw [show decide (1 ≤ p.id) = true from decide_eq_true (by omega), show decide (p.id ≤ 1000000000) = true from decide_eq_true (by omega), a3, h3, show decide (p.deps.length ≤ 8) = true from decide_eq_true (by omega), show decide (1 ≤ p.l.length) = true from decide_eq_true (by omega), show decide (p.l.length ≤ 24) = true from decide_eq_true (by omega)]
 simp
theorem rsame_t {p q : Patch} (h : (!decide (p.id = q.id) || !decide (p.note = q.note) || !decide ((p.deps.length : Int) = (q.deps.length : Int))) = true) : ¬ p = q := by
 rintro rfl; simp at h
theorem rsame_f {p q : Patch} (h : (!decide (p.id = q.id) || !decide (p.note = q.note) || !decide ((p.deps.length : Int) = (q.deps.length : Int))) = false) : p.id = q.id ∧ p.note = q.note ∧ p.deps.length = q.deps.length := by
 simp at h
 exact ⟨h.1.1, h.1.2, by omega⟩


set_option maxRecDepth 100000 in
theorem c_nRight1 (nn last : Int) (p : Patch) (y : Rp.Lay Patch) (bl bp : Nat) : Con Tryz.prog 113 [.int .i64 nn, .pointer (some ⟨bl, 0, none⟩), .pointer (some ⟨bp, 0, none⟩)] [box bl 3 [.int .i64 last], box bp 31 (Rp.enc p y)] [] Unit (fun _ => .bool (decide (nn ≤ last) || decide (1000000000 < nn) || decide (nn = p.id))) (fun _ => [box bl 3 [.int .i64 nn], box bp 31 (Rp.enc p y)]) (fun _ => []) := by
 refine con Tryz.func113 rfl Tryz.ntmps113 rfl ?_
 intro M0 F0 w0
 refine cs ?_
 refine cr ?_
 refine ls (op (p_asg rfl) rfl) ?_
 refine ln ?_
 refine nthen ?_
 refine cs ?_
 refine cr ?_
 refine ls (op (p_move rfl) rfl) ?_
 refine ls (o_ld Tryz.isAgg3 rfl (by repeat' constructor) (by repeat' constructor) rfl) ?_
 refine ls (op (p_icmp rfl rfl rfl) rfl) ?_
 refine ls (op (p_asg rfl) rfl) ?_
 refine ln ?_
 refine nthen ?_
 refine cs ?_
 refine cr ?_
 refine ls (op (p_move rfl) rfl) ?_
 refine ls (o_st rfl Tryz.sizeOf3 rfl rfl rfl rfl rfl (by repeat' constructor) (by repeat' constructor) (by repeat' constructor)) ?_
 refine ln ?_
 refine nthen ?_
 refine cs ?_
 refine cr ?_
 refine ls (op (p_move rfl) rfl) ?_
 refine ls (op (p_move rfl) rfl) ?_
 refine orX 3 11 14 rfl (subσ.cons (t := 0) rfl (subσ.cons (t := 1) rfl (subσ.cons (t := 2) rfl (subσ.cons (t := 4) rfl (subσ.cons (t := 6) rfl (subσ.cons (t := 7) rfl (subσ.cons (t := 8) rfl (subσ.cons (t := 9) rfl (subσ.nil _))))))))) ?_ ?_
 ·
  intro h11
  refine lskip rfl rfl rfl rfl rfl ?_
  refine lskip rfl rfl rfl rfl rfl ?_
  refine ls (op (p_pickt rfl rfl) rfl) ?_
  refine ln (nmid (wk0 (by repeat (first | exact subσ.nil _ | refine subσ.cons rfl ?_)) (by repeat' (first | constructor | apply Sub.suf))))
 apply exI
 ·
  intro h11
  refine lwant rfl rfl rfl rfl (op (p_move rfl) rfl) ?_
  refine lwant rfl rfl rfl rfl (op (p_icmp rfl rfl rfl) rfl) ?_
  refine ls (op (p_pickf rfl rfl) rfl) ?_
  refine ln (nmid (wk0 (by repeat (first | exact subσ.nil _ | refine subσ.cons rfl ?_)) (by repeat' (first | constructor | apply Sub.suf))))
 ·
  refine ls (op (p_move rfl) rfl) ?_
  refine orX 5 15 20 rfl (subσ.cons (t := 0) rfl (subσ.cons (t := 1) rfl (subσ.cons (t := 4) rfl (subσ.cons (t := 6) rfl (subσ.cons (t := 7) rfl (subσ.cons (t := 8) rfl (subσ.cons (t := 9) rfl (subσ.nil _)))))))) ?_ ?_
  ·
   intro h15
   refine lskip rfl rfl rfl rfl rfl ?_
   refine lskip rfl rfl rfl rfl rfl ?_
   refine lskip rfl rfl rfl rfl rfl ?_
   refine lskip rfl rfl rfl rfl rfl ?_
   refine ls (op (p_pickt rfl rfl) rfl) ?_
   refine ln (nmid (wk0 (by repeat (first | exact subσ.nil _ | refine subσ.cons rfl ?_)) (by repeat' (first | constructor | apply Sub.suf))))
  apply exI
  ·
   intro h15
   refine lwant rfl rfl rfl rfl (op (p_move rfl) rfl) ?_
   refine lwant rfl rfl rfl rfl (op (p_fa fa31_0 rfl) rfl) ?_
   refine lwant rfl rfl rfl rfl (o_ld Tryz.isAgg3 rfl (by repeat' constructor) (by repeat' constructor) rfl) ?_
   refine lwant rfl rfl rfl rfl (op (p_icmp rfl rfl rfl) rfl) ?_
   refine ls (op (p_pickf rfl rfl) rfl) ?_
   refine ln (nmid (wk0 (by repeat (first | exact subσ.nil _ | refine subσ.cons rfl ?_)) (by repeat' (first | constructor | apply Sub.suf))))
  ·
   refine ls (op (p_asg rfl) rfl) ?_
   refine ln ?_
   refine nthen ?_
   refine cret ?_
   refine xret (fun _ _ h => h) ?_
   refine rret (is := [0, 0]) () (Or.inl rfl) (Res.t rfl Res.d) (rfl) rfl (by repeat' (first | constructor | apply Sub.suf))

set_option maxRecDepth 100000 in
theorem c_IndexFuncI (l : List Int) (A : Option Addr) (c : Nat) (hl : l.length ≤ 2000000) (last : Int) (p : Patch) (y : Rp.Lay Patch) (bl bp : Nat) : Con Tryz.prog 145 [.slice A l.length c, .func (.func 113) #[] #[.pointer (some ⟨bl, 0, none⟩), .pointer (some ⟨bp, 0, none⟩)]] [box bl 3 [.int .i64 last], box bp 31 (Rp.enc p y)] [slA A l] {r : Int × Int // -1 ≤ r.1 ∧ r.1 ≤ 2000000 ∧ (0 ≤ r.1 ↔ depsOk p.id last l = false)} (fun r => .int .i64 r.1.1) (fun r => [box bl 3 [.int .i64 r.1.2], box bp 31 (Rp.enc p y)]) (fun _ => []) := by
 refine con Tryz.func145 rfl Tryz.ntmps145 rfl ?_
 intro M0 F0 w0
 refine cs ?_
 refine cr ?_
 refine ls (op (p_asg rfl) rfl) ?_
 refine ln ?_
 refine nthen ?_
 refine cs ?_
 refine cs ?_
 refine cr ?_
 refine ls (op (p_move rfl) rfl) ?_
 refine ls (op (p_lenl rfl Tryz.underlying22) rfl) ?_
 refine ls (op (p_move rfl) rfl) ?_
 refine ln ?_
 refine nthen ?_
 refine cb ?_
 refine cl (ι := {q : Nat × Int // q.1 ≤ l.length ∧ depsOk p.id last l = depsOk p.id q.2 (l.drop q.1)}) (fun i => St M0 F0 w0 19 [(0, .slice A l.length c), (1, .func (.func 113) #[] #[.pointer (some ⟨bl, 0, none⟩), .pointer (some ⟨bp, 0, none⟩)]), (7, .int .i64 (l.length : Int)), (8, .int .i64 (i.1.1 : Int))] [box bl 3 [.int .i64 i.1.2], box bp 31 (Rp.enc p y)] [slA A l]) (fun i => l.length - i.1.1) ⟨(0, last), by simp⟩ (wk0 (by repeat (first | exact subσ.nil _ | refine subσ.cons rfl ?_)) (by repeat' (first | constructor | apply Sub.suf))) ?_
 rintro ⟨⟨k, la⟩, hk, hkk⟩
 refine cmono (S' := St M0 F0 w0 19 [(0, .slice A l.length c), (1, .func (.func 113) #[] #[.pointer (some ⟨bl, 0, none⟩), .pointer (some ⟨bp, 0, none⟩)]), (7, .int .i64 (l.length : Int)), (8, .int .i64 (k : Int))] [box bl 3 [.int .i64 la], box bp 31 (Rp.enc p y)] [slA A l]) (fun _ _ h => h) ?_
 refine cs ?_
 refine cr ?_
 refine ls (op (p_icmp rfl rfl rfl) rfl) ?_
 refine ln ?_
 refine nthen ?_
 refine cs ?_
 refine cc rfl ?_ ?_
 ·
  intro h9
  dsimp only at hk hkk
  try simp only [decide_eq_true_eq, decide_eq_false_iff_not, Bool.not_eq_true', Bool.not_eq_false', Int.not_lt, Int.not_le, ge_iff_le, Bool.not_true, Bool.not_false] at h9
  have hk1 : k < l.length := by omega
  rw [depsOk_drop hk1] at hkk
  refine cskip ?_
  refine nthen ?_
  refine cs ?_
  refine cb ?_
  refine cs ?_
  refine cr ?_
  refine ls (op (p_move rfl) rfl) ?_
  refine ls (op (p_asg rfl) rfl) ?_
  refine ln ?_
  refine nthen ?_
  refine cs ?_
  refine elC (by repeat' constructor) k (List.getElem?_eq_getElem (l := l) hk1) ?_; rintro zbp zop zyp hAp
  refine cr ?_
  refine ls (op (p_move rfl) rfl) ?_
  refine ls (op (p_move rfl) rfl) ?_
  refine ls (op (p_move rfl) rfl) ?_
  refine ls (op (p_ia k hAp hk1 rfl Tryz.underlying22 Tryz.sizeOf3 rfl rfl) rfl) ?_
  refine ls (o_ldi Tryz.isAgg3 rfl (by repeat' constructor) 0 rfl (by repeat (first | exact Cut.d | apply Cut.t | apply Cut.s)) rfl) ?_
  refine ls (o_callv (is := [0, 0]) rfl Tryz.call113 (c_nRight1 l[k] la p y bl bp) rfl rfl rfl (by repeat' (first | constructor | apply Sub.suf)) rfl) ?_
  refine le ?_; intro x16
  refine ln ?_
  refine nthen ?_
  refine cc rfl ?_ ?_
  ·
   intro h16
   rw [h16] at hkk
   refine cs ?_
   refine cr ?_
   refine ls (op (p_move rfl) rfl) ?_
   refine ls (op (p_asg rfl) rfl) ?_
   refine ln ?_
   refine nthen ?_
   refine cret ?_
   refine xret (fun _ _ h => h) ?_
   refine rret (is := [0, 0]) ⟨((k : Int), l[k]), by dsimp only; omega, by dsimp only; omega, by dsimp only; exact ⟨fun _ => by simpa using hkk, fun _ => by omega⟩⟩ (Or.inl rfl) (Res.t rfl Res.d) (rfl) rfl (by repeat' (first | constructor | apply Sub.suf))
  ·
   intro h16
   rw [h16] at hkk
   refine cskip ?_
   refine nblock ?_
   refine nthen ?_
   refine cr ?_
   refine ls (op (p_add rfl rfl (by omega)) rfl) ?_
   refine ls (op (p_move rfl) rfl) ?_
   refine ln ?_
   refine nnext ⟨(k + 1, l[k]), hk1, by simpa using hkk⟩ (by dsimp only; omega) (wk0 (by repeat (first | exact subσ.nil _ | refine subσ.cons rfl ?_)) (by repeat' (first | constructor | apply Sub.suf)))
 ·
  intro h9
  dsimp only at hk hkk
  try simp only [decide_eq_true_eq, decide_eq_false_iff_not, Bool.not_eq_true', Bool.not_eq_false', Int.not_lt, Int.not_le, ge_iff_le, Bool.not_true, Bool.not_false] at h9
  refine cexit ?_
  refine xthen ?_
  refine xthen ?_
  refine xblock ?_
  refine nthen ?_
  refine cs ?_
  refine cr ?_
  refine ls (op (p_asg rfl) rfl) ?_
  refine ln ?_
  refine nthen ?_
  refine cret ?_
  refine xret (fun _ _ h => h) ?_
  refine rret (is := [0, 0]) ⟨(-1, la), by dsimp only; omega, by dsimp only; omega, by dsimp only; rw [hkk, List.drop_eq_nil_of_le (by omega)]; simp [depsOk]⟩ (Or.inl rfl) (Res.t rfl Res.d) (rfl) rfl (by repeat' (first | constructor | apply Sub.suf))

set_option maxRecDepth 100000 in
theorem c_ContainsFuncI (l : List Int) (A : Option Addr) (c : Nat) (hl : l.length ≤ 2000000) (last : Int) (p : Patch) (y : Rp.Lay Patch) (bl bp : Nat) : Con Tryz.prog 115 [.slice A l.length c, .func (.func 113) #[] #[.pointer (some ⟨bl, 0, none⟩), .pointer (some ⟨bp, 0, none⟩)]] [box bl 3 [.int .i64 last], box bp 31 (Rp.enc p y)] [slA A l] Int (fun _ => .bool !(depsOk p.id last l)) (fun r => [box bl 3 [.int .i64 r], box bp 31 (Rp.enc p y)]) (fun _ => []) := by
 refine con Tryz.func115 rfl Tryz.ntmps115 rfl ?_
 intro M0 F0 w0
 refine cs ?_
 refine cr ?_
 refine ls (op (p_asg rfl) rfl) ?_
 refine ln ?_
 refine nthen ?_
 refine cs ?_
 refine cr ?_
 refine ls (op (p_move rfl) rfl) ?_
 refine ls (op (p_move rfl) rfl) ?_
 refine ls (o_call (is := [0, 0]) Tryz.call145 (c_IndexFuncI l A c hl last p y bl bp) rfl rfl (by repeat' (first | constructor | apply Sub.suf)) rfl) ?_
 refine le ?_; rintro ⟨⟨r, rl⟩, hr1, hr2, hr3⟩
 refine ls (op (p_icmp rfl rfl rfl) rfl) ?_
 refine ls (op (p_asg rfl) rfl) ?_
 refine ln ?_
 refine nthen ?_
 refine cret ?_
 refine xret (fun _ _ h => h) ?_
 refine rret (is := [0, 0]) rl (Or.inl rfl) (Res.t rfl Res.d) ?_ rfl (by repeat' (first | constructor | apply Sub.suf))
 dsimp only at hr1 hr2 hr3; simp [packV]; rw [Bool.eq_iff_iff]; simp [hr3]

set_option maxRecDepth 100000 in
theorem c_nRight (p : Patch) (y : Rp.Lay Patch) (hp : p.fit) : Con Tryz.prog 62 [sv p y] [] [slA y.1.1 p.deps, slA y.2.1 p.l, capA y.2.2 p.l.length] Unit (fun _ => .bool (p.right)) (fun _ => []) (fun _ => []) := by
 refine con Tryz.func62 rfl Tryz.ntmps62 rfl ?_
 intro M0 F0 w0
 refine cs ?_
 refine cr ?_
 refine ls (o_box rfl rfl rfl) ?_
 refine le ?_; intro b1
 refine ls (op (p_asg rfl) rfl) ?_
 refine ln ?_
 refine nthen ?_
 refine cs ?_
 refine cr ?_
 refine ls (o_alloc Tryz.zeroValue3 rfl rfl) ?_
 refine le ?_; intro b3
 refine ls (o_st rfl Tryz.sizeOf3 rfl rfl rfl rfl rfl (by repeat' constructor) (by repeat' constructor) (by repeat' constructor)) ?_
 refine ln ?_
 refine nthen ?_
 refine cs ?_
 refine cr ?_
 refine ls (op (p_mkf rfl) rfl) ?_
 refine ls (op (p_asg rfl) rfl) ?_
 refine ln ?_
 refine nthen ?_
 refine cs ?_
 refine cb ?_
 refine cs ?_
 refine cr ?_
 refine ls (op (p_fa fa31_0 rfl) rfl) ?_
 refine ls (o_ld Tryz.isAgg3 rfl (by repeat' constructor) (by repeat' constructor) rfl) ?_
 refine ls (op (p_icmp rfl rfl rfl) rfl) ?_
 refine ls (op (p_move rfl) rfl) ?_
 refine orX 4 10 14 rfl (subσ.cons (t := 0) rfl (subσ.cons (t := 1) rfl (subσ.cons (t := 2) rfl (subσ.cons (t := 3) rfl (subσ.cons (t := 5) rfl (subσ.cons (t := 4) rfl (subσ.nil _))))))) ?_ ?_
 ·
  intro h10
  refine lskip rfl rfl rfl rfl rfl ?_
  refine lskip rfl rfl rfl rfl rfl ?_
  refine lskip rfl rfl rfl rfl rfl ?_
  refine ls (op (p_pickt rfl rfl) rfl) ?_
  refine ln (nmid (wk0 (by repeat (first | exact subσ.nil _ | refine subσ.cons rfl ?_)) (by repeat' (first | constructor | apply Sub.suf))))
 apply exI
 ·
  intro h10
  refine lwant rfl rfl rfl rfl (op (p_fa fa31_0 rfl) rfl) ?_
  refine lwant rfl rfl rfl rfl (o_ld Tryz.isAgg3 rfl (by repeat' constructor) (by repeat' constructor) rfl) ?_
  refine lwant rfl rfl rfl rfl (op (p_icmp rfl rfl rfl) rfl) ?_
  refine ls (op (p_pickf rfl rfl) rfl) ?_
  refine ln (nmid (wk0 (by repeat (first | exact subσ.nil _ | refine subσ.cons rfl ?_)) (by repeat' (first | constructor | apply Sub.suf))))
 ·
  refine ls (op (p_move rfl) rfl) ?_
  refine orX 5 15 20 rfl (subσ.cons (t := 0) rfl (subσ.cons (t := 1) rfl (subσ.cons (t := 2) rfl (subσ.cons (t := 3) rfl (subσ.cons (t := 5) rfl (subσ.cons (t := 4) rfl (subσ.nil _))))))) ?_ ?_
  ·
   intro h15
   refine lskip rfl rfl rfl rfl rfl ?_
   refine lskip rfl rfl rfl rfl rfl ?_
   refine lskip rfl rfl rfl rfl rfl ?_
   refine lskip rfl rfl rfl rfl rfl ?_
   refine ls (op (p_pickt rfl rfl) rfl) ?_
   refine ln (nmid (wk0 (by repeat (first | exact subσ.nil _ | refine subσ.cons rfl ?_)) (by repeat' (first | constructor | apply Sub.suf))))
  apply exI
  ·
   intro h15
   refine lwant rfl rfl rfl rfl (op (p_fa fa31_1 rfl) rfl) ?_
   refine lwant rfl rfl rfl rfl (o_ld Tryz.isAgg9 rfl (by repeat' constructor) (by repeat' constructor) rfl) ?_
   refine lwant rfl rfl rfl rfl (o_call (is := []) Tryz.call114 (c_lineRight p.note) rfl rfl (by repeat' (first | constructor | apply Sub.suf)) rfl) ?_
   refine le ?_; intro x18
   refine lwant rfl rfl rfl rfl (op (p_not rfl) rfl) ?_
   refine ls (op (p_pickf rfl rfl) rfl) ?_
   refine ln (nmid (wk0 (by repeat (first | exact subσ.nil _ | refine subσ.cons rfl ?_)) (by repeat' (first | constructor | apply Sub.suf))))
  ·
   refine ls (op (p_asg rfl) rfl) ?_
   refine ln ?_
   refine nthen ?_
   refine cc rfl ?_ ?_
   ·
    intro h6
    try simp only [decide_eq_true_eq, decide_eq_false_iff_not, Bool.not_eq_true', Bool.not_eq_false', Int.not_lt, Int.not_le, ge_iff_le, Bool.not_true, Bool.not_false] at h6
    refine cs ?_
    refine cr ?_
    refine ls (op (p_asg rfl) rfl) ?_
    refine ln ?_
    refine nthen ?_
    refine cret ?_
    refine xret (fun _ _ h => h) ?_
    refine rret (is := []) () (Or.inl rfl) (Res.t rfl Res.d) ?_ rfl (by repeat' (first | constructor | apply Sub.suf))
    simp only [packV]; rw [right_f1 h6]
   ·
    intro h6
    try simp only [decide_eq_true_eq, decide_eq_false_iff_not, Bool.not_eq_true', Bool.not_eq_false', Int.not_lt, Int.not_le, ge_iff_le, Bool.not_true, Bool.not_false] at h6
    refine cs ?_
    have hdl := hp.dl
    refine cr ?_
    refine ls (op (p_fa fa31_2 rfl) rfl) ?_
    refine ls (o_ld Tryz.isAgg22 rfl (by repeat' constructor) (by repeat' constructor) rfl) ?_
    refine ls (op (p_lenl rfl Tryz.underlying22) rfl) ?_
    refine ls (op (p_icmp rfl rfl rfl) rfl) ?_
    refine ls (op (p_move rfl) rfl) ?_
    refine splitL 26 rfl ?_ ?_
    ·
     intro h26
     refine lskip rfl rfl rfl rfl rfl ?_
     refine lskip rfl rfl rfl rfl rfl ?_
     refine lskip rfl rfl rfl rfl rfl ?_
     refine lskip rfl rfl rfl rfl rfl ?_
     refine ls (op (p_pickt rfl rfl) rfl) ?_
     refine ls (op (p_asg rfl) rfl) ?_
     refine ln ?_
     refine nthen ?_
     refine cc rfl (fun h => ?_) (fun h => by cases h)
     refine cs ?_
     refine cr ?_
     refine ls (op (p_asg rfl) rfl) ?_
     refine ln ?_
     refine nthen ?_
     refine cret ?_
     refine xret (fun _ _ h => h) ?_
     refine rret (is := []) () (Or.inl rfl) (Res.t rfl Res.d) ?_ rfl (by repeat' (first | constructor | apply Sub.suf))
     simp only [packV]; rw [right_f2 (by simp at h26; omega)]
    ·
     intro h26
     refine lwant rfl rfl rfl rfl (op (p_fa fa31_2 rfl) rfl) ?_
     refine lwant rfl rfl rfl rfl (o_ld Tryz.isAgg22 rfl (by repeat' constructor) (by repeat' constructor) rfl) ?_
     refine lwant rfl rfl rfl rfl (op (p_move rfl) rfl) ?_
     refine lwant rfl rfl rfl rfl (o_call (is := [0, 0]) Tryz.call115 (c_ContainsFuncI p.deps y.1.1 y.1.2 hp.dl 0 p y b3 b1) rfl rfl (by repeat' (first | constructor | apply Sub.suf)) rfl) ?_
     refine le ?_; intro r30
     refine ls (op (p_pickf rfl rfl) rfl) ?_
     refine ls (op (p_asg rfl) rfl) ?_
     refine ln ?_
     refine nthen ?_
     refine cc rfl ?_ ?_
     ·
      intro h21
      try simp only [decide_eq_true_eq, decide_eq_false_iff_not, Bool.not_eq_true', Bool.not_eq_false', Int.not_lt, Int.not_le, ge_iff_le, Bool.not_true, Bool.not_false] at h21
      refine cs ?_
      refine cr ?_
      refine ls (op (p_asg rfl) rfl) ?_
      refine ln ?_
      refine nthen ?_
      refine cret ?_
      refine xret (fun _ _ h => h) ?_
      refine rret (is := []) () (Or.inl rfl) (Res.t rfl Res.d) ?_ rfl (by repeat' (first | constructor | apply Sub.suf))
      simp only [packV]; rw [right_f3 (by simpa using h21)]
     ·
      intro h21
      try simp only [decide_eq_true_eq, decide_eq_false_iff_not, Bool.not_eq_true', Bool.not_eq_false', Int.not_lt, Int.not_le, ge_iff_le, Bool.not_true, Bool.not_false] at h21
      refine cskip ?_
      refine nblock ?_
      refine nthen ?_
      refine cs ?_
      have hll := hp.ll
      refine cr ?_
      refine ls (op (p_fa fa31_3 rfl) rfl) ?_
      refine ls (o_ld Tryz.isAgg29 rfl (by repeat' constructor) (by repeat' constructor) rfl) ?_
      refine ls (op (p_lenl rfl Tryz.underlying29) rfl) ?_
      refine ls (op (p_icmp rfl rfl rfl) rfl) ?_
      refine ls (op (p_move rfl) rfl) ?_
      refine andX 5 36 41 rfl (subσ.cons (t := 0) rfl (subσ.cons (t := 1) rfl (subσ.cons (t := 2) rfl (subσ.cons (t := 3) rfl (subσ.cons (t := 5) rfl (subσ.cons (t := 4) rfl (subσ.cons (t := 20) rfl (subσ.cons (t := 6) rfl (subσ.cons (t := 22) rfl (subσ.cons (t := 23) rfl (subσ.cons (t := 24) rfl (subσ.cons (t := 25) rfl (subσ.cons (t := 26) rfl (subσ.cons (t := 27) rfl (subσ.cons (t := 28) rfl (subσ.cons (t := 29) rfl (subσ.cons (t := 30) rfl (subσ.cons (t := 31) rfl (subσ.cons (t := 21) rfl (subσ.nil _)))))))))))))))))))) ?_ ?_
      ·
       intro h36
       refine lskip rfl rfl rfl rfl rfl ?_
       refine lskip rfl rfl rfl rfl rfl ?_
       refine lskip rfl rfl rfl rfl rfl ?_
       refine lskip rfl rfl rfl rfl rfl ?_
       refine ls (op (p_pickf rfl rfl) rfl) ?_
       refine ln (nmid (wk0 (by repeat (first | exact subσ.nil _ | refine subσ.cons rfl ?_)) (by repeat' (first | constructor | apply Sub.suf))))
      apply exI
      ·
       intro h36
       refine lwant rfl rfl rfl rfl (op (p_fa fa31_3 rfl) rfl) ?_
       refine lwant rfl rfl rfl rfl (o_ld Tryz.isAgg29 rfl (by repeat' constructor) (by repeat' constructor) rfl) ?_
       refine lwant rfl rfl rfl rfl (op (p_lenl rfl Tryz.underlying29) rfl) ?_
       refine lwant rfl rfl rfl rfl (op (p_icmp rfl rfl rfl) rfl) ?_
       refine ls (op (p_pickt rfl rfl) rfl) ?_
       refine ln (nmid (wk0 (by repeat (first | exact subσ.nil _ | refine subσ.cons rfl ?_)) (by repeat' (first | constructor | apply Sub.suf))))
      ·
       refine ls (op (p_move rfl) rfl) ?_
       refine andX 4 42 46 rfl (subσ.cons (t := 0) rfl (subσ.cons (t := 1) rfl (subσ.cons (t := 2) rfl (subσ.cons (t := 3) rfl (subσ.cons (t := 5) rfl (subσ.cons (t := 4) rfl (subσ.cons (t := 20) rfl (subσ.cons (t := 6) rfl (subσ.cons (t := 22) rfl (subσ.cons (t := 23) rfl (subσ.cons (t := 24) rfl (subσ.cons (t := 25) rfl (subσ.cons (t := 26) rfl (subσ.cons (t := 27) rfl (subσ.cons (t := 28) rfl (subσ.cons (t := 29) rfl (subσ.cons (t := 30) rfl (subσ.cons (t := 31) rfl (subσ.cons (t := 21) rfl (subσ.nil _)))))))))))))))))))) ?_ ?_
       ·
        intro h42
        refine lskip rfl rfl rfl rfl rfl ?_
        refine lskip rfl rfl rfl rfl rfl ?_
        refine lskip rfl rfl rfl rfl rfl ?_
        refine ls (op (p_pickf rfl rfl) rfl) ?_
        refine ln (nmid (wk0 (by repeat (first | exact subσ.nil _ | refine subσ.cons rfl ?_)) (by repeat' (first | constructor | apply Sub.suf))))
       apply exI
       ·
        intro h42
        refine lwant rfl rfl rfl rfl (op (p_fa fa31_3 rfl) rfl) ?_
        refine lwant rfl rfl rfl rfl (o_ld Tryz.isAgg29 rfl (by repeat' constructor) (by repeat' constructor) rfl) ?_
        refine lwant rfl rfl rfl rfl (o_call (is := []) Tryz.call116 (c_seqRight p.l _ _ hp.ll hp.lf) rfl rfl (by repeat' (first | constructor | apply Sub.suf)) rfl) ?_
        refine le ?_; intro x45
        refine ls (op (p_pickt rfl rfl) rfl) ?_
        refine ln (nmid (wk0 (by repeat (first | exact subσ.nil _ | refine subσ.cons rfl ?_)) (by repeat' (first | constructor | apply Sub.suf))))
       ·
        refine ls (op (p_asg rfl) rfl) ?_
        refine ln ?_
        refine nthen ?_
        refine cret ?_
        refine xret (fun _ _ h => h) ?_
        refine rret (is := []) () (Or.inl rfl) (Res.t rfl Res.d) ?_ rfl (by repeat' (first | constructor | apply Sub.suf))
        simp only [packV]; rw [right_t h6 (by simp at h26; omega) (by simpa using h21)]

set_option maxRecDepth 100000 in
theorem c_nSame (p q : Patch) (yp yq : Rp.Lay Patch) (hp : p.fit) (hq : q.fit) : Con Tryz.prog 60 [sv p yp, sv q yq] [] [slA yp.1.1 p.deps, slA yp.2.1 p.l, capA yp.2.2 p.l.length, slA yq.1.1 q.deps, slA yq.2.1 q.l, capA yq.2.2 q.l.length] Unit (fun _ => .bool (decide (p = q))) (fun _ => []) (fun _ => []) := by
 refine con Tryz.func60 rfl Tryz.ntmps60 rfl ?_
 intro M0 F0 w0
 refine cs ?_
 refine cr ?_
 refine ls (o_box rfl rfl rfl) ?_
 refine le ?_; intro b2
 refine ls (o_box rfl rfl rfl) ?_
 refine le ?_; intro b3
 refine ls (op (p_asg rfl) rfl) ?_
 refine ln ?_
 refine nthen ?_
 refine cs ?_
 refine cr ?_
 refine ls (op (p_fa fa31_0 rfl) rfl) ?_
 refine ls (o_ld Tryz.isAgg3 rfl (by repeat' constructor) (by repeat' constructor) rfl) ?_
 refine ls (op (p_fa fa31_0 rfl) rfl) ?_
 refine ls (o_ld Tryz.isAgg3 rfl (by repeat' constructor) (by repeat' constructor) rfl) ?_
 refine ls (op (p_icmp rfl rfl rfl) rfl) ?_
 refine ls (op (p_move rfl) rfl) ?_
 refine andX 6 10 16 rfl (subσ.cons (t := 0) rfl (subσ.cons (t := 1) rfl (subσ.cons (t := 2) rfl (subσ.cons (t := 3) rfl (subσ.cons (t := 4) rfl (subσ.nil _)))))) ?_ ?_
 ·
  intro h10
  refine lskip rfl rfl rfl rfl rfl ?_
  refine lskip rfl rfl rfl rfl rfl ?_
  refine lskip rfl rfl rfl rfl rfl ?_
  refine lskip rfl rfl rfl rfl rfl ?_
  refine lskip rfl rfl rfl rfl rfl ?_
  refine ls (op (p_pickf rfl rfl) rfl) ?_
  refine ln (nmid (wk0 (by repeat (first | exact subσ.nil _ | refine subσ.cons rfl ?_)) (by repeat' (first | constructor | apply Sub.suf))))
 apply exI
 ·
  intro h10
  refine lwant rfl rfl rfl rfl (op (p_fa fa31_1 rfl) rfl) ?_
  refine lwant rfl rfl rfl rfl (o_ld Tryz.isAgg9 rfl (by repeat' constructor) (by repeat' constructor) rfl) ?_
  refine lwant rfl rfl rfl rfl (op (p_fa fa31_1 rfl) rfl) ?_
  refine lwant rfl rfl rfl rfl (o_ld Tryz.isAgg9 rfl (by repeat' constructor) (by repeat' constructor) rfl) ?_
  refine lwant rfl rfl rfl rfl (op (p_seq rfl rfl) rfl) ?_
  refine ls (op (p_pickt rfl rfl) rfl) ?_
  refine ln (nmid (wk0 (by repeat (first | exact subσ.nil _ | refine subσ.cons rfl ?_)) (by repeat' (first | constructor | apply Sub.suf))))
 ·
  refine ls (op (p_move rfl) rfl) ?_
  refine andX 6 17 23 rfl (subσ.cons (t := 0) rfl (subσ.cons (t := 1) rfl (subσ.cons (t := 2) rfl (subσ.cons (t := 3) rfl (subσ.cons (t := 4) rfl (subσ.nil _)))))) ?_ ?_
  ·
   intro h17
   refine lskip rfl rfl rfl rfl rfl ?_
   refine lskip rfl rfl rfl rfl rfl ?_
   refine lskip rfl rfl rfl rfl rfl ?_
   refine lskip rfl rfl rfl rfl rfl ?_
   refine lskip rfl rfl rfl rfl rfl ?_
   refine ls (op (p_pickf rfl rfl) rfl) ?_
   refine ln (nmid (wk0 (by repeat (first | exact subσ.nil _ | refine subσ.cons rfl ?_)) (by repeat' (first | constructor | apply Sub.suf))))
  apply exI
  ·
   intro h17
   refine lwant rfl rfl rfl rfl (op (p_fa fa31_2 rfl) rfl) ?_
   refine lwant rfl rfl rfl rfl (o_ld Tryz.isAgg22 rfl (by repeat' constructor) (by repeat' constructor) rfl) ?_
   refine lwant rfl rfl rfl rfl (op (p_fa fa31_2 rfl) rfl) ?_
   refine lwant rfl rfl rfl rfl (o_ld Tryz.isAgg22 rfl (by repeat' constructor) (by repeat' constructor) rfl) ?_
   refine lwant rfl rfl rfl rfl (o_call (is := []) Tryz.call111 (c_EqualI p.deps q.deps _ _ _ _ hp.dl) rfl rfl (by repeat' (first | constructor | apply Sub.suf)) rfl) ?_
   refine le ?_; intro x22
   refine ls (op (p_pickt rfl rfl) rfl) ?_
   refine ln (nmid (wk0 (by repeat (first | exact subσ.nil _ | refine subσ.cons rfl ?_)) (by repeat' (first | constructor | apply Sub.suf))))
  ·
   refine ls (op (p_move rfl) rfl) ?_
   refine andX 6 24 30 rfl (subσ.cons (t := 0) rfl (subσ.cons (t := 1) rfl (subσ.cons (t := 4) rfl (subσ.nil _)))) ?_ ?_
   ·
    intro h24
    refine lskip rfl rfl rfl rfl rfl ?_
    refine lskip rfl rfl rfl rfl rfl ?_
    refine lskip rfl rfl rfl rfl rfl ?_
    refine lskip rfl rfl rfl rfl rfl ?_
    refine lskip rfl rfl rfl rfl rfl ?_
    refine ls (op (p_pickf rfl rfl) rfl) ?_
    refine ln (nmid (wk0 (by repeat (first | exact subσ.nil _ | refine subσ.cons rfl ?_)) (by repeat' (first | constructor | apply Sub.suf))))
   apply exI
   ·
    intro h24
    refine lwant rfl rfl rfl rfl (op (p_fa fa31_3 rfl) rfl) ?_
    refine lwant rfl rfl rfl rfl (o_ld Tryz.isAgg29 rfl (by repeat' constructor) (by repeat' constructor) rfl) ?_
    refine lwant rfl rfl rfl rfl (op (p_fa fa31_3 rfl) rfl) ?_
    refine lwant rfl rfl rfl rfl (o_ld Tryz.isAgg29 rfl (by repeat' constructor) (by repeat' constructor) rfl) ?_
    refine lwant rfl rfl rfl rfl (o_call (is := []) Tryz.call112 (c_seqSame p.l q.l _ _ _ _ hp.ll hp.lf) rfl rfl (by repeat' (first | constructor | apply Sub.suf)) rfl) ?_
    refine le ?_; intro x29
    refine ls (op (p_pickt rfl rfl) rfl) ?_
    refine ln (nmid (wk0 (by repeat (first | exact subσ.nil _ | refine subσ.cons rfl ?_)) (by repeat' (first | constructor | apply Sub.suf))))
   ·
    refine ls (op (p_asg rfl) rfl) ?_
    refine ln ?_
    refine nthen ?_
    refine cret ?_
    refine xret (fun _ _ h => h) ?_
    refine rret (is := []) () (Or.inl rfl) (Res.t rfl Res.d) ?_ rfl (by repeat' (first | constructor | apply Sub.suf))
    simp only [packV, dec_patch]

set_option maxRecDepth 100000 in
theorem c_rRight (p : Patch) (y : Rp.Lay Patch) (hp : p.fit) : Con Tryz.prog 10 [sv p y] [] [slA y.1.1 p.deps, slA y.2.1 p.l, capA y.2.2 p.l.length] Unit (fun _ => .bool (p.right)) (fun _ => []) (fun _ => []) := by
 refine con Tryz.func10 rfl Tryz.ntmps10 rfl ?_
 intro M0 F0 w0
 refine cs ?_
 refine cr ?_
 refine ls (o_box rfl rfl rfl) ?_
 refine le ?_; intro b1
 refine ls (op (p_asg rfl) rfl) ?_
 refine ln ?_
 refine nthen ?_
 refine cs ?_
 refine cs ?_
 have hdl := hp.dl; have hll := hp.ll
 refine cr ?_
 refine ls (op (p_fa fa25_0 rfl) rfl) ?_
 refine ls (o_ld Tryz.isAgg3 rfl (by repeat' constructor) (by repeat' constructor) rfl) ?_
 refine ls (op (p_icmp rfl rfl rfl) rfl) ?_
 refine ls (op (p_move rfl) rfl) ?_
 refine orX 4 7 11 rfl (subσ.cons (t := 0) rfl (subσ.cons (t := 1) rfl (subσ.cons (t := 2) rfl (subσ.nil _)))) ?_ ?_
 ·
  intro h7
  refine lskip rfl rfl rfl rfl rfl ?_
  refine lskip rfl rfl rfl rfl rfl ?_
  refine lskip rfl rfl rfl rfl rfl ?_
  refine ls (op (p_pickt rfl rfl) rfl) ?_
  refine ln (nmid (wk0 (by repeat (first | exact subσ.nil _ | refine subσ.cons rfl ?_)) (by repeat' (first | constructor | apply Sub.suf))))
 apply exI
 ·
  intro h7
  refine lwant rfl rfl rfl rfl (op (p_fa fa25_0 rfl) rfl) ?_
  refine lwant rfl rfl rfl rfl (o_ld Tryz.isAgg3 rfl (by repeat' constructor) (by repeat' constructor) rfl) ?_
  refine lwant rfl rfl rfl rfl (op (p_icmp rfl rfl rfl) rfl) ?_
  refine ls (op (p_pickf rfl rfl) rfl) ?_
  refine ln (nmid (wk0 (by repeat (first | exact subσ.nil _ | refine subσ.cons rfl ?_)) (by repeat' (first | constructor | apply Sub.suf))))
 ·
  refine ls (op (p_move rfl) rfl) ?_
  refine orX 5 12 17 rfl (subσ.cons (t := 0) rfl (subσ.cons (t := 1) rfl (subσ.cons (t := 2) rfl (subσ.nil _)))) ?_ ?_
  ·
   intro h12
   refine lskip rfl rfl rfl rfl rfl ?_
   refine lskip rfl rfl rfl rfl rfl ?_
   refine lskip rfl rfl rfl rfl rfl ?_
   refine lskip rfl rfl rfl rfl rfl ?_
   refine ls (op (p_pickt rfl rfl) rfl) ?_
   refine ln (nmid (wk0 (by repeat (first | exact subσ.nil _ | refine subσ.cons rfl ?_)) (by repeat' (first | constructor | apply Sub.suf))))
  apply exI
  ·
   intro h12
   refine lwant rfl rfl rfl rfl (op (p_fa fa25_1 rfl) rfl) ?_
   refine lwant rfl rfl rfl rfl (o_ld Tryz.isAgg9 rfl (by repeat' constructor) (by repeat' constructor) rfl) ?_
   refine lwant rfl rfl rfl rfl (o_call (is := []) Tryz.call57 (c_refLine p.note hp.nb) rfl rfl (by repeat' (first | constructor | apply Sub.suf)) rfl) ?_
   refine le ?_; intro x15
   refine lwant rfl rfl rfl rfl (op (p_not rfl) rfl) ?_
   refine ls (op (p_pickf rfl rfl) rfl) ?_
   refine ln (nmid (wk0 (by repeat (first | exact subσ.nil _ | refine subσ.cons rfl ?_)) (by repeat' (first | constructor | apply Sub.suf))))
  ·
   refine ls (op (p_move rfl) rfl) ?_
   refine orX 5 18 23 rfl (subσ.cons (t := 0) rfl (subσ.cons (t := 1) rfl (subσ.cons (t := 2) rfl (subσ.nil _)))) ?_ ?_
   ·
    intro h18
    refine lskip rfl rfl rfl rfl rfl ?_
    refine lskip rfl rfl rfl rfl rfl ?_
    refine lskip rfl rfl rfl rfl rfl ?_
    refine lskip rfl rfl rfl rfl rfl ?_
    refine ls (op (p_pickt rfl rfl) rfl) ?_
    refine ln (nmid (wk0 (by repeat (first | exact subσ.nil _ | refine subσ.cons rfl ?_)) (by repeat' (first | constructor | apply Sub.suf))))
   apply exI
   ·
    intro h18
    refine lwant rfl rfl rfl rfl (op (p_fa fa25_2 rfl) rfl) ?_
    refine lwant rfl rfl rfl rfl (o_ld Tryz.isAgg22 rfl (by repeat' constructor) (by repeat' constructor) rfl) ?_
    refine lwant rfl rfl rfl rfl (op (p_lenl rfl Tryz.underlying22) rfl) ?_
    refine lwant rfl rfl rfl rfl (op (p_icmp rfl rfl rfl) rfl) ?_
    refine ls (op (p_pickf rfl rfl) rfl) ?_
    refine ln (nmid (wk0 (by repeat (first | exact subσ.nil _ | refine subσ.cons rfl ?_)) (by repeat' (first | constructor | apply Sub.suf))))
   ·
    refine ls (op (p_move rfl) rfl) ?_
    refine orX 5 24 29 rfl (subσ.cons (t := 0) rfl (subσ.cons (t := 1) rfl (subσ.cons (t := 2) rfl (subσ.nil _)))) ?_ ?_
    ·
     intro h24
     refine lskip rfl rfl rfl rfl rfl ?_
     refine lskip rfl rfl rfl rfl rfl ?_
     refine lskip rfl rfl rfl rfl rfl ?_
     refine lskip rfl rfl rfl rfl rfl ?_
     refine ls (op (p_pickt rfl rfl) rfl) ?_
     refine ln (nmid (wk0 (by repeat (first | exact subσ.nil _ | refine subσ.cons rfl ?_)) (by repeat' (first | constructor | apply Sub.suf))))
    apply exI
    ·
     intro h24
     refine lwant rfl rfl rfl rfl (op (p_fa fa25_3 rfl) rfl) ?_
     refine lwant rfl rfl rfl rfl (o_ld Tryz.isAgg23 rfl (by repeat' constructor) (by repeat' constructor) rfl) ?_
     refine lwant rfl rfl rfl rfl (op (p_lenl rfl Tryz.underlying23) rfl) ?_
     refine lwant rfl rfl rfl rfl (op (p_icmp rfl rfl rfl) rfl) ?_
     refine ls (op (p_pickf rfl rfl) rfl) ?_
     refine ln (nmid (wk0 (by repeat (first | exact subσ.nil _ | refine subσ.cons rfl ?_)) (by repeat' (first | constructor | apply Sub.suf))))
    ·
     refine ls (op (p_move rfl) rfl) ?_
     refine orX 5 30 35 rfl (subσ.cons (t := 0) rfl (subσ.cons (t := 1) rfl (subσ.cons (t := 2) rfl (subσ.nil _)))) ?_ ?_
     ·
      intro h30
      refine lskip rfl rfl rfl rfl rfl ?_
      refine lskip rfl rfl rfl rfl rfl ?_
      refine lskip rfl rfl rfl rfl rfl ?_
      refine lskip rfl rfl rfl rfl rfl ?_
      refine ls (op (p_pickt rfl rfl) rfl) ?_
      refine ln (nmid (wk0 (by repeat (first | exact subσ.nil _ | refine subσ.cons rfl ?_)) (by repeat' (first | constructor | apply Sub.suf))))
     apply exI
     ·
      intro h30
      refine lwant rfl rfl rfl rfl (op (p_fa fa25_3 rfl) rfl) ?_
      refine lwant rfl rfl rfl rfl (o_ld Tryz.isAgg23 rfl (by repeat' constructor) (by repeat' constructor) rfl) ?_
      refine lwant rfl rfl rfl rfl (op (p_lenl rfl Tryz.underlying23) rfl) ?_
      refine lwant rfl rfl rfl rfl (op (p_icmp rfl rfl rfl) rfl) ?_
      refine ls (op (p_pickf rfl rfl) rfl) ?_
      refine ln (nmid (wk0 (by repeat (first | exact subσ.nil _ | refine subσ.cons rfl ?_)) (by repeat' (first | constructor | apply Sub.suf))))
     ·
      refine ln ?_
      refine nthen ?_
      refine cc rfl ?_ ?_
      ·
       intro h35
       try simp only [decide_eq_true_eq, decide_eq_false_iff_not, Bool.not_eq_true', Bool.not_eq_false', Int.not_lt, Int.not_le, ge_iff_le, Bool.not_true, Bool.not_false] at h35
       refine cs ?_
       refine cr ?_
       refine ls (op (p_asg rfl) rfl) ?_
       refine ln ?_
       refine nthen ?_
       refine cret ?_
       refine xret (fun _ _ h => h) ?_
       refine rret (is := []) () (Or.inl rfl) (Res.t rfl Res.d) ?_ rfl (by repeat' (first | constructor | apply Sub.suf))
       simp only [packV]; rw [right_g1 h35]
      ·
       intro h35
       try simp only [decide_eq_true_eq, decide_eq_false_iff_not, Bool.not_eq_true', Bool.not_eq_false', Int.not_lt, Int.not_le, ge_iff_le, Bool.not_true, Bool.not_false] at h35
       refine cskip ?_
       refine nthen ?_
       refine cs ?_
       refine cs ?_
       refine cr ?_
       refine ls (op (p_asg rfl) rfl) ?_
       refine ln ?_
       refine nthen ?_
       refine cb ?_
       refine cl (ι := {q : Nat × Int // q.1 ≤ p.deps.length ∧ depsOk p.id 0 p.deps = depsOk p.id q.2 (p.deps.drop q.1) ∧ 0 ≤ q.2 ∧ (q.1 = 0 → q.2 = 0) ∧ (0 < q.1 → p.deps[q.1 - 1]? = some q.2)}) (fun i => St M0 F0 w0 88 [(1, .pointer (some ⟨b1, 0, none⟩)), (3, .int .i64 (i.1.1 : Int))] [box b1 25 (Rp.enc p y)] [slA y.1.1 p.deps, slA y.2.1 p.l, capA y.2.2 p.l.length]) (fun i => p.deps.length - i.1.1) ⟨(0, 0), Nat.zero_le _, by simp, by simp, fun _ => rfl, fun h => by simp at h⟩ (wk0 (by repeat (first | exact subσ.nil _ | refine subσ.cons rfl ?_)) (by repeat' (first | constructor | apply Sub.suf))) ?_
       rintro ⟨⟨k, la⟩, hk, hkk, hz, hz0, hs⟩
       refine cmono (S' := St M0 F0 w0 88 [(1, .pointer (some ⟨b1, 0, none⟩)), (3, .int .i64 (k : Int))] [box b1 25 (Rp.enc p y)] [slA y.1.1 p.deps, slA y.2.1 p.l, capA y.2.2 p.l.length]) (fun _ _ h => h) ?_
       refine cs ?_
       refine cs ?_
       refine cr ?_
       refine ls (op (p_move rfl) rfl) ?_
       refine ls (op (p_fa fa25_2 rfl) rfl) ?_
       refine ls (o_ld Tryz.isAgg22 rfl (by repeat' constructor) (by repeat' constructor) rfl) ?_
       refine ls (op (p_lenl rfl Tryz.underlying22) rfl) ?_
       refine ls (op (p_icmp rfl rfl rfl) rfl) ?_
       refine ln ?_
       refine nthen ?_
       refine cc rfl ?_ ?_
       ·
        intro h40
        dsimp only at hk hkk hz hz0 hs
        try simp only [decide_eq_true_eq, decide_eq_false_iff_not, Bool.not_eq_true', Bool.not_eq_false', Int.not_lt, Int.not_le, ge_iff_le, Bool.not_true, Bool.not_false] at h40
        have hk1 : k < p.deps.length := by omega
        rw [depsOk_drop hk1] at hkk
        refine cskip ?_
        refine nthen ?_
        refine cs ?_
        refine cb ?_
        refine cs ?_
        have hcase : (p.deps[k] < 1) ∨ (¬ p.deps[k] < 1 ∧ 1000000000 < p.deps[k]) ∨ (¬ p.deps[k] < 1 ∧ ¬ 1000000000 < p.deps[k] ∧ p.deps[k] = p.id) ∨ (¬ p.deps[k] < 1 ∧ ¬ 1000000000 < p.deps[k] ∧ ¬ p.deps[k] = p.id ∧ k = 0) ∨ (¬ p.deps[k] < 1 ∧ ¬ 1000000000 < p.deps[k] ∧ ¬ p.deps[k] = p.id ∧ 0 < k ∧ p.deps[k] ≤ la) ∨ (¬ p.deps[k] < 1 ∧ ¬ 1000000000 < p.deps[k] ∧ ¬ p.deps[k] = p.id ∧ 0 < k ∧ ¬ p.deps[k] ≤ la) := by omega
        rcases hcase with g1 | ⟨g1, g2⟩ | ⟨g1, g2, g3⟩ | ⟨g1, g2, g3, g4⟩ | ⟨g1, g2, g3, g4, g5⟩ | ⟨g1, g2, g3, g4, g5⟩
        ·
         refine elC (by repeat' constructor) k (List.getElem?_eq_getElem (l := p.deps) hk1) ?_; rintro zbp zop zyp hAp
         refine cd [] [(1, b1, 2, _), (4, zbp, zop + k * Rp.size Int, _)] TryzX.mixed (TOk.t (isBoxS (by repeat' constructor) (k := 1) (by repeat (first | exact Cut.d | apply Cut.t | apply Cut.s))) (TOk.t (isInS (by repeat' constructor) (k := 0) rfl (z := 1) (by repeat (first | exact Cut.d | apply Cut.t | apply Cut.s))) TOk.d)) ?_
         refine tk 0 rfl (by kernel_rfl) (fun _ _ _ h => h) gnone (TTany _) (p_fa fa25_2 rfl) rfl ?_
         refine tk 1 rfl (by kernel_rfl) (fun _ _ _ h => h) gnone (TTat (List.Mem.head _)) (p_ld Tryz.isAgg22 rfl) rfl ?_
         refine tk 2 rfl (by kernel_rfl) (fun _ _ _ h => h) gnone (TTany _) (p_move rfl) rfl ?_
         refine tk 3 rfl (by kernel_rfl) (fun _ _ _ h => h) gnone (TTany _) (p_ia k hAp hk1 rfl Tryz.underlying22 Tryz.sizeOf3 rfl rfl) rfl ?_
         refine tk 4 rfl (by kernel_rfl) (fun _ _ _ h => h) gnone (TTat (List.Mem.tail _ (List.Mem.head _))) (p_ld Tryz.isAgg3 rfl) rfl ?_
         refine tk 5 rfl (by kernel_rfl) (fun _ _ _ h => h) gnone (TTany _) (p_icmp rfl rfl rfl) rfl ?_
         rw [show decide (p.deps[k] < 1) = true from decide_eq_true g1]
         refine tk 6 rfl (by kernel_rfl) (fun _ _ _ h => h) gnone (TTany _) (p_move rfl) rfl ?_
         refine tks 7 rfl (by kernel_rfl) (fun _ _ _ h => h) rfl rfl rfl rfl rfl ?_
         refine tks 8 rfl (by kernel_rfl) (fun _ _ _ h => h) rfl rfl rfl rfl rfl ?_
         refine tks 9 rfl (by kernel_rfl) (fun _ _ _ h => h) rfl rfl rfl rfl rfl ?_
         refine tks 10 rfl (by kernel_rfl) (fun _ _ _ h => h) rfl rfl rfl rfl rfl ?_
         refine tks 11 rfl (by kernel_rfl) (fun _ _ _ h => h) rfl rfl rfl rfl rfl ?_
         refine tks 12 rfl (by kernel_rfl) (fun _ _ _ h => h) rfl rfl rfl rfl rfl ?_
         refine tk 13 rfl (by kernel_rfl) (fun _ _ _ h => h) gnone (TTany _) (p_pickt rfl rfl) rfl ?_
         refine tk 14 rfl (by kernel_rfl) (fun _ _ _ h => h) gnone (TTany _) (p_move rfl) rfl ?_
         refine tks 15 rfl (by kernel_rfl) (fun _ _ _ h => h) rfl rfl rfl rfl rfl ?_
         refine tks 16 rfl (by kernel_rfl) (fun _ _ _ h => h) rfl rfl rfl rfl rfl ?_
         refine tks 17 rfl (by kernel_rfl) (fun _ _ _ h => h) rfl rfl rfl rfl rfl ?_
         refine tks 18 rfl (by kernel_rfl) (fun _ _ _ h => h) rfl rfl rfl rfl rfl ?_
         refine tks 19 rfl (by kernel_rfl) (fun _ _ _ h => h) rfl rfl rfl rfl rfl ?_
         refine tks 20 rfl (by kernel_rfl) (fun _ _ _ h => h) rfl rfl rfl rfl rfl ?_
         refine tks 21 rfl (by kernel_rfl) (fun _ _ _ h => h) rfl rfl rfl rfl rfl ?_
         refine tks 22 rfl (by kernel_rfl) (fun _ _ _ h => h) rfl rfl rfl rfl rfl ?_
         refine tk 23 rfl (by kernel_rfl) (fun _ _ _ h => h) gnone (TTany _) (p_pickt rfl rfl) rfl ?_
         refine tk 24 rfl (by kernel_rfl) (fun _ _ _ h => h) gnone (TTany _) (p_move rfl) rfl ?_
         refine tks 25 rfl (by kernel_rfl) (fun _ _ _ h => h) rfl rfl rfl rfl rfl ?_
         refine tks 26 rfl (by kernel_rfl) (fun _ _ _ h => h) rfl rfl rfl rfl rfl ?_
         refine tks 27 rfl (by kernel_rfl) (fun _ _ _ h => h) rfl rfl rfl rfl rfl ?_
         refine tksu 28 rfl (by kernel_rfl) (fun _ _ _ h => h) rfl rfl rfl rfl ?_
         refine tksu 29 rfl (by kernel_rfl) (fun _ _ _ h => h) rfl rfl rfl rfl ?_
         refine tksu 30 rfl (by kernel_rfl) (fun _ _ _ h => h) rfl rfl rfl rfl ?_
         refine tksu 31 rfl (by kernel_rfl) (fun _ _ _ h => h) rfl rfl rfl rfl ?_
         refine tksu 32 rfl (by kernel_rfl) (fun _ _ _ h => h) rfl rfl rfl rfl ?_
         refine tksu 33 rfl (by kernel_rfl) (fun _ _ _ h => h) rfl rfl rfl rfl ?_
         refine tksu 34 rfl (by kernel_rfl) (fun _ _ _ h => h) rfl rfl rfl rfl ?_
         refine tksu 35 rfl (by kernel_rfl) (fun _ _ _ h => h) rfl rfl rfl rfl ?_
         refine tksu 36 rfl (by kernel_rfl) (fun _ _ _ h => h) rfl rfl rfl rfl ?_
         refine tksu 37 rfl (by kernel_rfl) (fun _ _ _ h => h) rfl rfl rfl rfl ?_
         refine tksu 38 rfl (by kernel_rfl) (fun _ _ _ h => h) rfl rfl rfl rfl ?_
         refine tksu 39 rfl (by kernel_rfl) (fun _ _ _ h => h) rfl rfl rfl rfl ?_
         refine tks 40 rfl (by kernel_rfl) (fun _ _ _ h => h) rfl rfl rfl rfl rfl ?_
         refine tk 41 rfl (by kernel_rfl) (fun _ _ _ h => h) gnone (TTany _) (p_pickt rfl rfl) rfl ?_
         refine dn (by kernel_rfl) ?_
         refine nthen ?_
         refine cc rfl (fun h => ?_) (fun h => by cases h)
         refine cs ?_
         refine cr ?_
         refine ls (op (p_asg rfl) rfl) ?_
         refine ln ?_
         refine nthen ?_
         refine cret ?_
         refine xret (fun _ _ h => h) ?_
         refine rret (is := []) () (Or.inl rfl) (Res.t rfl Res.d) ?_ rfl (by repeat' (first | constructor | apply Sub.suf))
         simp only [packV]; rw [right_f3 (by rw [hkk]; grind)]
        ·
         refine elC (by repeat' constructor) k (List.getElem?_eq_getElem (l := p.deps) hk1) ?_; rintro zbp zop zyp hAp
         refine cd [] [(1, b1, 2, _), (4, zbp, zop + k * Rp.size Int, _), (8, b1, 2, _), (11, zbp, zop + k * Rp.size Int, _)] TryzX.mixed (TOk.t (isBoxS (by repeat' constructor) (k := 1) (by repeat (first | exact Cut.d | apply Cut.t | apply Cut.s))) (TOk.t (isInS (by repeat' constructor) (k := 0) rfl (z := 1) (by repeat (first | exact Cut.d | apply Cut.t | apply Cut.s))) (TOk.t (isBoxS (by repeat' constructor) (k := 1) (by repeat (first | exact Cut.d | apply Cut.t | apply Cut.s))) (TOk.t (isInS (by repeat' constructor) (k := 0) rfl (z := 1) (by repeat (first | exact Cut.d | apply Cut.t | apply Cut.s))) TOk.d)))) ?_
         refine tk 0 rfl (by kernel_rfl) (fun _ _ _ h => h) gnone (TTany _) (p_fa fa25_2 rfl) rfl ?_
         refine tk 1 rfl (by kernel_rfl) (fun _ _ _ h => h) gnone (TTat (List.Mem.head _)) (p_ld Tryz.isAgg22 rfl) rfl ?_
         refine tk 2 rfl (by kernel_rfl) (fun _ _ _ h => h) gnone (TTany _) (p_move rfl) rfl ?_
         refine tk 3 rfl (by kernel_rfl) (fun _ _ _ h => h) gnone (TTany _) (p_ia k hAp hk1 rfl Tryz.underlying22 Tryz.sizeOf3 rfl rfl) rfl ?_
         refine tk 4 rfl (by kernel_rfl) (fun _ _ _ h => h) gnone (TTat (List.Mem.tail _ (List.Mem.head _))) (p_ld Tryz.isAgg3 rfl) rfl ?_
         refine tk 5 rfl (by kernel_rfl) (fun _ _ _ h => h) gnone (TTany _) (p_icmp rfl rfl rfl) rfl ?_
         rw [show decide (p.deps[k] < 1) = false from decide_eq_false g1]
         refine tk 6 rfl (by kernel_rfl) (fun _ _ _ h => h) gnone (TTany _) (p_move rfl) rfl ?_
         refine tk 7 rfl (by kernel_rfl) (fun _ _ _ h => h) (gyes rfl rfl rfl rfl) (TTany _) (gpu (p_fa fa25_2 rfl)) rfl ?_
         refine tk 8 rfl (by kernel_rfl) (fun _ _ _ h => h) (gyes rfl rfl rfl rfl) (TTat (List.Mem.tail _ (List.Mem.tail _ (List.Mem.head _)))) (gpu (p_ld Tryz.isAgg22 rfl)) rfl ?_
         refine tk 9 rfl (by kernel_rfl) (fun _ _ _ h => h) (gyes rfl rfl rfl rfl) (TTany _) (gpu (p_move rfl)) rfl ?_
         refine tk 10 rfl (by kernel_rfl) (fun _ _ _ h => h) (gyes rfl rfl rfl rfl) (TTany _) (gpu (p_ia k hAp hk1 rfl Tryz.underlying22 Tryz.sizeOf3 rfl rfl)) rfl ?_
         refine tk 11 rfl (by kernel_rfl) (fun _ _ _ h => h) (gyes rfl rfl rfl rfl) (TTat (List.Mem.tail _ (List.Mem.tail _ (List.Mem.tail _ (List.Mem.head _))))) (gpu (p_ld Tryz.isAgg3 rfl)) rfl ?_
         refine tk 12 rfl (by kernel_rfl) (fun _ _ _ h => h) (gyes rfl rfl rfl rfl) (TTany _) (gpu (p_icmp rfl rfl rfl)) rfl ?_
         rw [show decide ((1000000000 : Int) < p.deps[k]) = true from decide_eq_true g2]
         refine tk 13 rfl (by kernel_rfl) (fun _ _ _ h => h) gnone (TTany _) (p_pickf rfl rfl) rfl ?_
         refine tk 14 rfl (by kernel_rfl) (fun _ _ _ h => h) gnone (TTany _) (p_move rfl) rfl ?_
         refine tks 15 rfl (by kernel_rfl) (fun _ _ _ h => h) rfl rfl rfl rfl rfl ?_
         refine tks 16 rfl (by kernel_rfl) (fun _ _ _ h => h) rfl rfl rfl rfl rfl ?_
         refine tks 17 rfl (by kernel_rfl) (fun _ _ _ h => h) rfl rfl rfl rfl rfl ?_
         refine tks 18 rfl (by kernel_rfl) (fun _ _ _ h => h) rfl rfl rfl rfl rfl ?_
         refine tks 19 rfl (by kernel_rfl) (fun _ _ _ h => h) rfl rfl rfl rfl rfl ?_
         refine tks 20 rfl (by kernel_rfl) (fun _ _ _ h => h) rfl rfl rfl rfl rfl ?_
         refine tks 21 rfl (by kernel_rfl) (fun _ _ _ h => h) rfl rfl rfl rfl rfl ?_
         refine tks 22 rfl (by kernel_rfl) (fun _ _ _ h => h) rfl rfl rfl rfl rfl ?_
         refine tk 23 rfl (by kernel_rfl) (fun _ _ _ h => h) gnone (TTany _) (p_pickt rfl rfl) rfl ?_
         refine tk 24 rfl (by kernel_rfl) (fun _ _ _ h => h) gnone (TTany _) (p_move rfl) rfl ?_
         refine tks 25 rfl (by kernel_rfl) (fun _ _ _ h => h) rfl rfl rfl rfl rfl ?_
         refine tks 26 rfl (by kernel_rfl) (fun _ _ _ h => h) rfl rfl rfl rfl rfl ?_
         refine tks 27 rfl (by kernel_rfl) (fun _ _ _ h => h) rfl rfl rfl rfl rfl ?_
         refine tksu 28 rfl (by kernel_rfl) (fun _ _ _ h => h) rfl rfl rfl rfl ?_
         refine tksu 29 rfl (by kernel_rfl) (fun _ _ _ h => h) rfl rfl rfl rfl ?_
         refine tksu 30 rfl (by kernel_rfl) (fun _ _ _ h => h) rfl rfl rfl rfl ?_
         refine tksu 31 rfl (by kernel_rfl) (fun _ _ _ h => h) rfl rfl rfl rfl ?_
         refine tksu 32 rfl (by kernel_rfl) (fun _ _ _ h => h) rfl rfl rfl rfl ?_
         refine tksu 33 rfl (by kernel_rfl) (fun _ _ _ h => h) rfl rfl rfl rfl ?_
         refine tksu 34 rfl (by kernel_rfl) (fun _ _ _ h => h) rfl rfl rfl rfl ?_
         refine tksu 35 rfl (by kernel_rfl) (fun _ _ _ h => h) rfl rfl rfl rfl ?_
         refine tksu 36 rfl (by kernel_rfl) (fun _ _ _ h => h) rfl rfl rfl rfl ?_
         refine tksu 37 rfl (by kernel_rfl) (fun _ _ _ h => h) rfl rfl rfl rfl ?_
         refine tksu 38 rfl (by kernel_rfl) (fun _ _ _ h => h) rfl rfl rfl rfl ?_
         refine tksu 39 rfl (by kernel_rfl) (fun _ _ _ h => h) rfl rfl rfl rfl ?_
         refine tks 40 rfl (by kernel_rfl) (fun _ _ _ h => h) rfl rfl rfl rfl rfl ?_
         refine tk 41 rfl (by kernel_rfl) (fun _ _ _ h => h) gnone (TTany _) (p_pickt rfl rfl) rfl ?_
         refine dn (by kernel_rfl) ?_
         refine nthen ?_
         refine cc rfl (fun h => ?_) (fun h => by cases h)
         refine cs ?_
         refine cr ?_
         refine ls (op (p_asg rfl) rfl) ?_
         refine ln ?_
         refine nthen ?_
         refine cret ?_
         refine xret (fun _ _ h => h) ?_
         refine rret (is := []) () (Or.inl rfl) (Res.t rfl Res.d) ?_ rfl (by repeat' (first | constructor | apply Sub.suf))
         simp only [packV]; rw [right_f3 (by rw [hkk]; grind)]
        ·
         refine elC (by repeat' constructor) k (List.getElem?_eq_getElem (l := p.deps) hk1) ?_; rintro zbp zop zyp hAp
         refine cd [] [(1, b1, 2, _), (4, zbp, zop + k * Rp.size Int, _), (8, b1, 2, _), (11, zbp, zop + k * Rp.size Int, _), (16, b1, 2, _), (19, zbp, zop + k * Rp.size Int, _), (21, b1, 0, _)] TryzX.mixed (TOk.t (isBoxS (by repeat' constructor) (k := 1) (by repeat (first | exact Cut.d | apply Cut.t | apply Cut.s))) (TOk.t (isInS (by repeat' constructor) (k := 0) rfl (z := 1) (by repeat (first | exact Cut.d | apply Cut.t | apply Cut.s))) (TOk.t (isBoxS (by repeat' constructor) (k := 1) (by repeat (first | exact Cut.d | apply Cut.t | apply Cut.s))) (TOk.t (isInS (by repeat' constructor) (k := 0) rfl (z := 1) (by repeat (first | exact Cut.d | apply Cut.t | apply Cut.s))) (TOk.t (isBoxS (by repeat' constructor) (k := 1) (by repeat (first | exact Cut.d | apply Cut.t | apply Cut.s))) (TOk.t (isInS (by repeat' constructor) (k := 0) rfl (z := 1) (by repeat (first | exact Cut.d | apply Cut.t | apply Cut.s))) (TOk.t (isBoxS (by repeat' constructor) (k := 1) (by repeat (first | exact Cut.d | apply Cut.t | apply Cut.s))) TOk.d))))))) ?_
         refine tk 0 rfl (by kernel_rfl) (fun _ _ _ h => h) gnone (TTany _) (p_fa fa25_2 rfl) rfl ?_
         refine tk 1 rfl (by kernel_rfl) (fun _ _ _ h => h) gnone (TTat (List.Mem.head _)) (p_ld Tryz.isAgg22 rfl) rfl ?_
         refine tk 2 rfl (by kernel_rfl) (fun _ _ _ h => h) gnone (TTany _) (p_move rfl) rfl ?_
         refine tk 3 rfl (by kernel_rfl) (fun _ _ _ h => h) gnone (TTany _) (p_ia k hAp hk1 rfl Tryz.underlying22 Tryz.sizeOf3 rfl rfl) rfl ?_
         refine tk 4 rfl (by kernel_rfl) (fun _ _ _ h => h) gnone (TTat (List.Mem.tail _ (List.Mem.head _))) (p_ld Tryz.isAgg3 rfl) rfl ?_
         refine tk 5 rfl (by kernel_rfl) (fun _ _ _ h => h) gnone (TTany _) (p_icmp rfl rfl rfl) rfl ?_
         rw [show decide (p.deps[k] < 1) = false from decide_eq_false g1]
         refine tk 6 rfl (by kernel_rfl) (fun _ _ _ h => h) gnone (TTany _) (p_move rfl) rfl ?_
         refine tk 7 rfl (by kernel_rfl) (fun _ _ _ h => h) (gyes rfl rfl rfl rfl) (TTany _) (gpu (p_fa fa25_2 rfl)) rfl ?_
         refine tk 8 rfl (by kernel_rfl) (fun _ _ _ h => h) (gyes rfl rfl rfl rfl) (TTat (List.Mem.tail _ (List.Mem.tail _ (List.Mem.head _)))) (gpu (p_ld Tryz.isAgg22 rfl)) rfl ?_
         refine tk 9 rfl (by kernel_rfl) (fun _ _ _ h => h) (gyes rfl rfl rfl rfl) (TTany _) (gpu (p_move rfl)) rfl ?_
         refine tk 10 rfl (by kernel_rfl) (fun _ _ _ h => h) (gyes rfl rfl rfl rfl) (TTany _) (gpu (p_ia k hAp hk1 rfl Tryz.underlying22 Tryz.sizeOf3 rfl rfl)) rfl ?_
         refine tk 11 rfl (by kernel_rfl) (fun _ _ _ h => h) (gyes rfl rfl rfl rfl) (TTat (List.Mem.tail _ (List.Mem.tail _ (List.Mem.tail _ (List.Mem.head _))))) (gpu (p_ld Tryz.isAgg3 rfl)) rfl ?_
         refine tk 12 rfl (by kernel_rfl) (fun _ _ _ h => h) (gyes rfl rfl rfl rfl) (TTany _) (gpu (p_icmp rfl rfl rfl)) rfl ?_
         rw [show decide ((1000000000 : Int) < p.deps[k]) = false from decide_eq_false g2]
         refine tk 13 rfl (by kernel_rfl) (fun _ _ _ h => h) gnone (TTany _) (p_pickf rfl rfl) rfl ?_
         refine tk 14 rfl (by kernel_rfl) (fun _ _ _ h => h) gnone (TTany _) (p_move rfl) rfl ?_
         refine tk 15 rfl (by kernel_rfl) (fun _ _ _ h => h) (gyes rfl rfl rfl rfl) (TTany _) (gpu (p_fa fa25_2 rfl)) rfl ?_
         refine tk 16 rfl (by kernel_rfl) (fun _ _ _ h => h) (gyes rfl rfl rfl rfl) (TTat (List.Mem.tail _ (List.Mem.tail _ (List.Mem.tail _ (List.Mem.tail _ (List.Mem.head _)))))) (gpu (p_ld Tryz.isAgg22 rfl)) rfl ?_
         refine tk 17 rfl (by kernel_rfl) (fun _ _ _ h => h) (gyes rfl rfl rfl rfl) (TTany _) (gpu (p_move rfl)) rfl ?_
         refine tk 18 rfl (by kernel_rfl) (fun _ _ _ h => h) (gyes rfl rfl rfl rfl) (TTany _) (gpu (p_ia k hAp hk1 rfl Tryz.underlying22 Tryz.sizeOf3 rfl rfl)) rfl ?_
         refine tk 19 rfl (by kernel_rfl) (fun _ _ _ h => h) (gyes rfl rfl rfl rfl) (TTat (List.Mem.tail _ (List.Mem.tail _ (List.Mem.tail _ (List.Mem.tail _ (List.Mem.tail _ (List.Mem.head _))))))) (gpu (p_ld Tryz.isAgg3 rfl)) rfl ?_
         refine tk 20 rfl (by kernel_rfl) (fun _ _ _ h => h) (gyes rfl rfl rfl rfl) (TTany _) (gpu (p_fa fa25_0 rfl)) rfl ?_
         refine tk 21 rfl (by kernel_rfl) (fun _ _ _ h => h) (gyes rfl rfl rfl rfl) (TTat (List.Mem.tail _ (List.Mem.tail _ (List.Mem.tail _ (List.Mem.tail _ (List.Mem.tail _ (List.Mem.tail _ (List.Mem.head _)))))))) (gpu (p_ld Tryz.isAgg3 rfl)) rfl ?_
         refine tk 22 rfl (by kernel_rfl) (fun _ _ _ h => h) (gyes rfl rfl rfl rfl) (TTany _) (gpu (p_icmp rfl rfl rfl)) rfl ?_
         rw [show decide (p.deps[k] = p.id) = true from decide_eq_true g3]
         refine tk 23 rfl (by kernel_rfl) (fun _ _ _ h => h) gnone (TTany _) (p_pickf rfl rfl) rfl ?_
         refine tk 24 rfl (by kernel_rfl) (fun _ _ _ h => h) gnone (TTany _) (p_move rfl) rfl ?_
         refine tks 25 rfl (by kernel_rfl) (fun _ _ _ h => h) rfl rfl rfl rfl rfl ?_
         refine tks 26 rfl (by kernel_rfl) (fun _ _ _ h => h) rfl rfl rfl rfl rfl ?_
         refine tks 27 rfl (by kernel_rfl) (fun _ _ _ h => h) rfl rfl rfl rfl rfl ?_
         refine tksu 28 rfl (by kernel_rfl) (fun _ _ _ h => h) rfl rfl rfl rfl ?_
         refine tksu 29 rfl (by kernel_rfl) (fun _ _ _ h => h) rfl rfl rfl rfl ?_
         refine tksu 30 rfl (by kernel_rfl) (fun _ _ _ h => h) rfl rfl rfl rfl ?_
         refine tksu 31 rfl (by kernel_rfl) (fun _ _ _ h => h) rfl rfl rfl rfl ?_
         refine tksu 32 rfl (by kernel_rfl) (fun _ _ _ h => h) rfl rfl rfl rfl ?_
         refine tksu 33 rfl (by kernel_rfl) (fun _ _ _ h => h) rfl rfl rfl rfl ?_
         refine tksu 34 rfl (by kernel_rfl) (fun _ _ _ h => h) rfl rfl rfl rfl ?_
         refine tksu 35 rfl (by kernel_rfl) (fun _ _ _ h => h) rfl rfl rfl rfl ?_
         refine tksu 36 rfl (by kernel_rfl) (fun _ _ _ h => h) rfl rfl rfl rfl ?_
         refine tksu 37 rfl (by kernel_rfl) (fun _ _ _ h => h) rfl rfl rfl rfl ?_
         refine tksu 38 rfl (by kernel_rfl) (fun _ _ _ h => h) rfl rfl rfl rfl ?_
         refine tksu 39 rfl (by kernel_rfl) (fun _ _ _ h => h) rfl rfl rfl rfl ?_
         refine tks 40 rfl (by kernel_rfl) (fun _ _ _ h => h) rfl rfl rfl rfl rfl ?_
         refine tk 41 rfl (by kernel_rfl) (fun _ _ _ h => h) gnone (TTany _) (p_pickt rfl rfl) rfl ?_
         refine dn (by kernel_rfl) ?_
         refine nthen ?_
         refine cc rfl (fun h => ?_) (fun h => by cases h)
         refine cs ?_
         refine cr ?_
         refine ls (op (p_asg rfl) rfl) ?_
         refine ln ?_
         refine nthen ?_
         refine cret ?_
         refine xret (fun _ _ h => h) ?_
         refine rret (is := []) () (Or.inl rfl) (Res.t rfl Res.d) ?_ rfl (by repeat' (first | constructor | apply Sub.suf))
         simp only [packV]; rw [right_f3 (by rw [hkk]; grind)]
        ·
         refine elC (by repeat' constructor) k (List.getElem?_eq_getElem (l := p.deps) hk1) ?_; rintro zbp zop zyp hAp
         refine cd [] [(1, b1, 2, _), (4, zbp, zop + k * Rp.size Int, _), (8, b1, 2, _), (11, zbp, zop + k * Rp.size Int, _), (16, b1, 2, _), (19, zbp, zop + k * Rp.size Int, _), (21, b1, 0, _)] TryzX.mixed (TOk.t (isBoxS (by repeat' constructor) (k := 1) (by repeat (first | exact Cut.d | apply Cut.t | apply Cut.s))) (TOk.t (isInS (by repeat' constructor) (k := 0) rfl (z := 1) (by repeat (first | exact Cut.d | apply Cut.t | apply Cut.s))) (TOk.t (isBoxS (by repeat' constructor) (k := 1) (by repeat (first | exact Cut.d | apply Cut.t | apply Cut.s))) (TOk.t (isInS (by repeat' constructor) (k := 0) rfl (z := 1) (by repeat (first | exact Cut.d | apply Cut.t | apply Cut.s))) (TOk.t (isBoxS (by repeat' constructor) (k := 1) (by repeat (first | exact Cut.d | apply Cut.t | apply Cut.s))) (TOk.t (isInS (by repeat' constructor) (k := 0) rfl (z := 1) (by repeat (first | exact Cut.d | apply Cut.t | apply Cut.s))) (TOk.t (isBoxS (by repeat' constructor) (k := 1) (by repeat (first | exact Cut.d | apply Cut.t | apply Cut.s))) TOk.d))))))) ?_
         refine tk 0 rfl (by kernel_rfl) (fun _ _ _ h => h) gnone (TTany _) (p_fa fa25_2 rfl) rfl ?_
         refine tk 1 rfl (by kernel_rfl) (fun _ _ _ h => h) gnone (TTat (List.Mem.head _)) (p_ld Tryz.isAgg22 rfl) rfl ?_
         refine tk 2 rfl (by kernel_rfl) (fun _ _ _ h => h) gnone (TTany _) (p_move rfl) rfl ?_
         refine tk 3 rfl (by kernel_rfl) (fun _ _ _ h => h) gnone (TTany _) (p_ia k hAp hk1 rfl Tryz.underlying22 Tryz.sizeOf3 rfl rfl) rfl ?_
         refine tk 4 rfl (by kernel_rfl) (fun _ _ _ h => h) gnone (TTat (List.Mem.tail _ (List.Mem.head _))) (p_ld Tryz.isAgg3 rfl) rfl ?_
         refine tk 5 rfl (by kernel_rfl) (fun _ _ _ h => h) gnone (TTany _) (p_icmp rfl rfl rfl) rfl ?_
         rw [show decide (p.deps[k] < 1) = false from decide_eq_false g1]
         refine tk 6 rfl (by kernel_rfl) (fun _ _ _ h => h) gnone (TTany _) (p_move rfl) rfl ?_
         refine tk 7 rfl (by kernel_rfl) (fun _ _ _ h => h) (gyes rfl rfl rfl rfl) (TTany _) (gpu (p_fa fa25_2 rfl)) rfl ?_
         refine tk 8 rfl (by kernel_rfl) (fun _ _ _ h => h) (gyes rfl rfl rfl rfl) (TTat (List.Mem.tail _ (List.Mem.tail _ (List.Mem.head _)))) (gpu (p_ld Tryz.isAgg22 rfl)) rfl ?_
         refine tk 9 rfl (by kernel_rfl) (fun _ _ _ h => h) (gyes rfl rfl rfl rfl) (TTany _) (gpu (p_move rfl)) rfl ?_
         refine tk 10 rfl (by kernel_rfl) (fun _ _ _ h => h) (gyes rfl rfl rfl rfl) (TTany _) (gpu (p_ia k hAp hk1 rfl Tryz.underlying22 Tryz.sizeOf3 rfl rfl)) rfl ?_
         refine tk 11 rfl (by kernel_rfl) (fun _ _ _ h => h) (gyes rfl rfl rfl rfl) (TTat (List.Mem.tail _ (List.Mem.tail _ (List.Mem.tail _ (List.Mem.head _))))) (gpu (p_ld Tryz.isAgg3 rfl)) rfl ?_
         refine tk 12 rfl (by kernel_rfl) (fun _ _ _ h => h) (gyes rfl rfl rfl rfl) (TTany _) (gpu (p_icmp rfl rfl rfl)) rfl ?_
         rw [show decide ((1000000000 : Int) < p.deps[k]) = false from decide_eq_false g2]
         refine tk 13 rfl (by kernel_rfl) (fun _ _ _ h => h) gnone (TTany _) (p_pickf rfl rfl) rfl ?_
         refine tk 14 rfl (by kernel_rfl) (fun _ _ _ h => h) gnone (TTany _) (p_move rfl) rfl ?_
         refine tk 15 rfl (by kernel_rfl) (fun _ _ _ h => h) (gyes rfl rfl rfl rfl) (TTany _) (gpu (p_fa fa25_2 rfl)) rfl ?_
         refine tk 16 rfl (by kernel_rfl) (fun _ _ _ h => h) (gyes rfl rfl rfl rfl) (TTat (List.Mem.tail _ (List.Mem.tail _ (List.Mem.tail _ (List.Mem.tail _ (List.Mem.head _)))))) (gpu (p_ld Tryz.isAgg22 rfl)) rfl ?_
         refine tk 17 rfl (by kernel_rfl) (fun _ _ _ h => h) (gyes rfl rfl rfl rfl) (TTany _) (gpu (p_move rfl)) rfl ?_
         refine tk 18 rfl (by kernel_rfl) (fun _ _ _ h => h) (gyes rfl rfl rfl rfl) (TTany _) (gpu (p_ia k hAp hk1 rfl Tryz.underlying22 Tryz.sizeOf3 rfl rfl)) rfl ?_
         refine tk 19 rfl (by kernel_rfl) (fun _ _ _ h => h) (gyes rfl rfl rfl rfl) (TTat (List.Mem.tail _ (List.Mem.tail _ (List.Mem.tail _ (List.Mem.tail _ (List.Mem.tail _ (List.Mem.head _))))))) (gpu (p_ld Tryz.isAgg3 rfl)) rfl ?_
         refine tk 20 rfl (by kernel_rfl) (fun _ _ _ h => h) (gyes rfl rfl rfl rfl) (TTany _) (gpu (p_fa fa25_0 rfl)) rfl ?_
         refine tk 21 rfl (by kernel_rfl) (fun _ _ _ h => h) (gyes rfl rfl rfl rfl) (TTat (List.Mem.tail _ (List.Mem.tail _ (List.Mem.tail _ (List.Mem.tail _ (List.Mem.tail _ (List.Mem.tail _ (List.Mem.head _)))))))) (gpu (p_ld Tryz.isAgg3 rfl)) rfl ?_
         refine tk 22 rfl (by kernel_rfl) (fun _ _ _ h => h) (gyes rfl rfl rfl rfl) (TTany _) (gpu (p_icmp rfl rfl rfl)) rfl ?_
         rw [show decide (p.deps[k] = p.id) = false from decide_eq_false g3]
         refine tk 23 rfl (by kernel_rfl) (fun _ _ _ h => h) gnone (TTany _) (p_pickf rfl rfl) rfl ?_
         refine tk 24 rfl (by kernel_rfl) (fun _ _ _ h => h) gnone (TTany _) (p_move rfl) rfl ?_
         refine tk 25 rfl (by kernel_rfl) (fun _ _ _ h => h) (gyes rfl rfl rfl rfl) (TTany _) (gpu (p_move rfl)) rfl ?_
         refine tk 26 rfl (by kernel_rfl) (fun _ _ _ h => h) (gyes rfl rfl rfl rfl) (TTany _) (gpu (p_icmp rfl rfl rfl)) rfl ?_
         rw [show decide ((0 : Int) < (k : Int)) = false from decide_eq_false (by omega)]
         refine tk 27 rfl (by kernel_rfl) (fun _ _ _ h => h) (gyes rfl rfl rfl rfl) (TTany _) (gpu (p_move rfl)) rfl ?_
         refine tks 28 rfl (by kernel_rfl) (fun _ _ _ h => h) rfl rfl rfl rfl rfl ?_
         refine tks 29 rfl (by kernel_rfl) (fun _ _ _ h => h) rfl rfl rfl rfl rfl ?_
         refine tks 30 rfl (by kernel_rfl) (fun _ _ _ h => h) rfl rfl rfl rfl rfl ?_
         refine tks 31 rfl (by kernel_rfl) (fun _ _ _ h => h) rfl rfl rfl rfl rfl ?_
         refine tks 32 rfl (by kernel_rfl) (fun _ _ _ h => h) rfl rfl rfl rfl rfl ?_
         refine tks 33 rfl (by kernel_rfl) (fun _ _ _ h => h) rfl rfl rfl rfl rfl ?_
         refine tks 34 rfl (by kernel_rfl) (fun _ _ _ h => h) rfl rfl rfl rfl rfl ?_
         refine tks 35 rfl (by kernel_rfl) (fun _ _ _ h => h) rfl rfl rfl rfl rfl ?_
         refine tks 36 rfl (by kernel_rfl) (fun _ _ _ h => h) rfl rfl rfl rfl rfl ?_
         refine tks 37 rfl (by kernel_rfl) (fun _ _ _ h => h) rfl rfl rfl rfl rfl ?_
         refine tks 38 rfl (by kernel_rfl) (fun _ _ _ h => h) rfl rfl rfl rfl rfl ?_
         refine tks 39 rfl (by kernel_rfl) (fun _ _ _ h => h) rfl rfl rfl rfl rfl ?_
         refine tk 40 rfl (by kernel_rfl) (fun _ _ _ h => h) (gyes rfl rfl rfl rfl) (TTany _) (gpu (p_pickf rfl rfl)) rfl ?_
         refine tk 41 rfl (by kernel_rfl) (fun _ _ _ h => h) gnone (TTany _) (p_pickf rfl rfl) rfl ?_
         refine dn (by kernel_rfl) ?_
         refine nthen ?_
         refine cc rfl (fun h => by cases h) (fun h => ?_)
         refine cskip ?_
         refine nblock ?_
         refine nthen ?_
         refine cr ?_
         refine ls (op (p_move rfl) rfl) ?_
         refine ls (op (p_add rfl rfl (by omega)) rfl) ?_
         refine ls (op (p_asg rfl) rfl) ?_
         refine ln ?_
         refine nnext ⟨(k + 1, p.deps[k]), hk1, by rw [hkk]; grind, by dsimp only; omega, fun h => by simp at h, fun _ => List.getElem?_eq_getElem hk1⟩ (by dsimp only; omega) (wk0 (by repeat (first | exact subσ.nil _ | refine subσ.cons rfl ?_)) (by repeat' (first | constructor | apply Sub.suf)))
        ·
         have hk2 := hs g4
         refine elC (by repeat' constructor) (k - 1) (hk2) ?_; rintro zbq zoq zyq hAq
         refine elC (by repeat' constructor) k (List.getElem?_eq_getElem (l := p.deps) hk1) ?_; rintro zbp zop zyp hAp
         refine cd [] [(1, b1, 2, _), (4, zbp, zop + k * Rp.size Int, _), (8, b1, 2, _), (11, zbp, zop + k * Rp.size Int, _), (16, b1, 2, _), (19, zbp, zop + k * Rp.size Int, _), (21, b1, 0, _), (29, b1, 2, _), (32, zbp, zop + k * Rp.size Int, _), (34, b1, 2, _), (38, zbq, zoq + (k - 1) * Rp.size Int, _)] TryzX.mixed (TOk.t (isBoxS (by repeat' constructor) (k := 1) (by repeat (first | exact Cut.d | apply Cut.t | apply Cut.s))) (TOk.t (isInS (by repeat' constructor) (k := 0) rfl (z := 1) (by repeat (first | exact Cut.d | apply Cut.t | apply Cut.s))) (TOk.t (isBoxS (by repeat' constructor) (k := 1) (by repeat (first | exact Cut.d | apply Cut.t | apply Cut.s))) (TOk.t (isInS (by repeat' constructor) (k := 0) rfl (z := 1) (by repeat (first | exact Cut.d | apply Cut.t | apply Cut.s))) (TOk.t (isBoxS (by repeat' constructor) (k := 1) (by repeat (first | exact Cut.d | apply Cut.t | apply Cut.s))) (TOk.t (isInS (by repeat' constructor) (k := 0) rfl (z := 1) (by repeat (first | exact Cut.d | apply Cut.t | apply Cut.s))) (TOk.t (isBoxS (by repeat' constructor) (k := 1) (by repeat (first | exact Cut.d | apply Cut.t | apply Cut.s))) (TOk.t (isBoxS (by repeat' constructor) (k := 1) (by repeat (first | exact Cut.d | apply Cut.t | apply Cut.s))) (TOk.t (isInS (by repeat' constructor) (k := 0) rfl (z := 1) (by repeat (first | exact Cut.d | apply Cut.t | apply Cut.s))) (TOk.t (isBoxS (by repeat' constructor) (k := 1) (by repeat (first | exact Cut.d | apply Cut.t | apply Cut.s))) (TOk.t (isInS (by repeat' constructor) (k := 0) rfl (z := 1) (by repeat (first | exact Cut.d | apply Cut.t | apply Cut.s))) TOk.d))))))))))) ?_
         refine tk 0 rfl (by kernel_rfl) (fun _ _ _ h => h) gnone (TTany _) (p_fa fa25_2 rfl) rfl ?_
         refine tk 1 rfl (by kernel_rfl) (fun _ _ _ h => h) gnone (TTat (List.Mem.head _)) (p_ld Tryz.isAgg22 rfl) rfl ?_
         refine tk 2 rfl (by kernel_rfl) (fun _ _ _ h => h) gnone (TTany _) (p_move rfl) rfl ?_
         refine tk 3 rfl (by kernel_rfl) (fun _ _ _ h => h) gnone (TTany _) (p_ia k hAp hk1 rfl Tryz.underlying22 Tryz.sizeOf3 rfl rfl) rfl ?_
         refine tk 4 rfl (by kernel_rfl) (fun _ _ _ h => h) gnone (TTat (List.Mem.tail _ (List.Mem.head _))) (p_ld Tryz.isAgg3 rfl) rfl ?_
         refine tk 5 rfl (by kernel_rfl) (fun _ _ _ h => h) gnone (TTany _) (p_icmp rfl rfl rfl) rfl ?_
         rw [show decide (p.deps[k] < 1) = false from decide_eq_false g1]
         refine tk 6 rfl (by kernel_rfl) (fun _ _ _ h => h) gnone (TTany _) (p_move rfl) rfl ?_
         refine tk 7 rfl (by kernel_rfl) (fun _ _ _ h => h) (gyes rfl rfl rfl rfl) (TTany _) (gpu (p_fa fa25_2 rfl)) rfl ?_
         refine tk 8 rfl (by kernel_rfl) (fun _ _ _ h => h) (gyes rfl rfl rfl rfl) (TTat (List.Mem.tail _ (List.Mem.tail _ (List.Mem.head _)))) (gpu (p_ld Tryz.isAgg22 rfl)) rfl ?_
         refine tk 9 rfl (by kernel_rfl) (fun _ _ _ h => h) (gyes rfl rfl rfl rfl) (TTany _) (gpu (p_move rfl)) rfl ?_
         refine tk 10 rfl (by kernel_rfl) (fun _ _ _ h => h) (gyes rfl rfl rfl rfl) (TTany _) (gpu (p_ia k hAp hk1 rfl Tryz.underlying22 Tryz.sizeOf3 rfl rfl)) rfl ?_
         refine tk 11 rfl (by kernel_rfl) (fun _ _ _ h => h) (gyes rfl rfl rfl rfl) (TTat (List.Mem.tail _ (List.Mem.tail _ (List.Mem.tail _ (List.Mem.head _))))) (gpu (p_ld Tryz.isAgg3 rfl)) rfl ?_
         refine tk 12 rfl (by kernel_rfl) (fun _ _ _ h => h) (gyes rfl rfl rfl rfl) (TTany _) (gpu (p_icmp rfl rfl rfl)) rfl ?_
         rw [show decide ((1000000000 : Int) < p.deps[k]) = false from decide_eq_false g2]
         refine tk 13 rfl (by kernel_rfl) (fun _ _ _ h => h) gnone (TTany _) (p_pickf rfl rfl) rfl ?_
         refine tk 14 rfl (by kernel_rfl) (fun _ _ _ h => h) gnone (TTany _) (p_move rfl) rfl ?_
         refine tk 15 rfl (by kernel_rfl) (fun _ _ _ h => h) (gyes rfl rfl rfl rfl) (TTany _) (gpu (p_fa fa25_2 rfl)) rfl ?_
         refine tk 16 rfl (by kernel_rfl) (fun _ _ _ h => h) (gyes rfl rfl rfl rfl) (TTat (List.Mem.tail _ (List.Mem.tail _ (List.Mem.tail _ (List.Mem.tail _ (List.Mem.head _)))))) (gpu (p_ld Tryz.isAgg22 rfl)) rfl ?_
         refine tk 17 rfl (by kernel_rfl) (fun _ _ _ h => h) (gyes rfl rfl rfl rfl) (TTany _) (gpu (p_move rfl)) rfl ?_
         refine tk 18 rfl (by kernel_rfl) (fun _ _ _ h => h) (gyes rfl rfl rfl rfl) (TTany _) (gpu (p_ia k hAp hk1 rfl Tryz.underlying22 Tryz.sizeOf3 rfl rfl)) rfl ?_
         refine tk 19 rfl (by kernel_rfl) (fun _ _ _ h => h) (gyes rfl rfl rfl rfl) (TTat (List.Mem.tail _ (List.Mem.tail _ (List.Mem.tail _ (List.Mem.tail _ (List.Mem.tail _ (List.Mem.head _))))))) (gpu (p_ld Tryz.isAgg3 rfl)) rfl ?_
         refine tk 20 rfl (by kernel_rfl) (fun _ _ _ h => h) (gyes rfl rfl rfl rfl) (TTany _) (gpu (p_fa fa25_0 rfl)) rfl ?_
         refine tk 21 rfl (by kernel_rfl) (fun _ _ _ h => h) (gyes rfl rfl rfl rfl) (TTat (List.Mem.tail _ (List.Mem.tail _ (List.Mem.tail _ (List.Mem.tail _ (List.Mem.tail _ (List.Mem.tail _ (List.Mem.head _)))))))) (gpu (p_ld Tryz.isAgg3 rfl)) rfl ?_
         refine tk 22 rfl (by kernel_rfl) (fun _ _ _ h => h) (gyes rfl rfl rfl rfl) (TTany _) (gpu (p_icmp rfl rfl rfl)) rfl ?_
         rw [show decide (p.deps[k] = p.id) = false from decide_eq_false g3]
         refine tk 23 rfl (by kernel_rfl) (fun _ _ _ h => h) gnone (TTany _) (p_pickf rfl rfl) rfl ?_
         refine tk 24 rfl (by kernel_rfl) (fun _ _ _ h => h) gnone (TTany _) (p_move rfl) rfl ?_
         refine tk 25 rfl (by kernel_rfl) (fun _ _ _ h => h) (gyes rfl rfl rfl rfl) (TTany _) (gpu (p_move rfl)) rfl ?_
         refine tk 26 rfl (by kernel_rfl) (fun _ _ _ h => h) (gyes rfl rfl rfl rfl) (TTany _) (gpu (p_icmp rfl rfl rfl)) rfl ?_
         rw [show decide ((0 : Int) < (k : Int)) = true from decide_eq_true (by omega)]
         refine tk 27 rfl (by kernel_rfl) (fun _ _ _ h => h) (gyes rfl rfl rfl rfl) (TTany _) (gpu (p_move rfl)) rfl ?_
         refine tk 28 rfl (by kernel_rfl) (fun _ _ _ h => h) (gyes rfl rfl rfl rfl) (TTany _) (gpu (p_fa fa25_2 rfl)) rfl ?_
         refine tk 29 rfl (by kernel_rfl) (fun _ _ _ h => h) (gyes rfl rfl rfl rfl) (TTat (List.Mem.tail _ (List.Mem.tail _ (List.Mem.tail _ (List.Mem.tail _ (List.Mem.tail _ (List.Mem.tail _ (List.Mem.tail _ (List.Mem.head _))))))))) (gpu (p_ld Tryz.isAgg22 rfl)) rfl ?_
         refine tk 30 rfl (by kernel_rfl) (fun _ _ _ h => h) (gyes rfl rfl rfl rfl) (TTany _) (gpu (p_move rfl)) rfl ?_
         refine tk 31 rfl (by kernel_rfl) (fun _ _ _ h => h) (gyes rfl rfl rfl rfl) (TTany _) (gpu (p_ia k hAp hk1 rfl Tryz.underlying22 Tryz.sizeOf3 rfl rfl)) rfl ?_
         refine tk 32 rfl (by kernel_rfl) (fun _ _ _ h => h) (gyes rfl rfl rfl rfl) (TTat (List.Mem.tail _ (List.Mem.tail _ (List.Mem.tail _ (List.Mem.tail _ (List.Mem.tail _ (List.Mem.tail _ (List.Mem.tail _ (List.Mem.tail _ (List.Mem.head _)))))))))) (gpu (p_ld Tryz.isAgg3 rfl)) rfl ?_
         refine tk 33 rfl (by kernel_rfl) (fun _ _ _ h => h) (gyes rfl rfl rfl rfl) (TTany _) (gpu (p_fa fa25_2 rfl)) rfl ?_
         refine tk 34 rfl (by kernel_rfl) (fun _ _ _ h => h) (gyes rfl rfl rfl rfl) (TTat (List.Mem.tail _ (List.Mem.tail _ (List.Mem.tail _ (List.Mem.tail _ (List.Mem.tail _ (List.Mem.tail _ (List.Mem.tail _ (List.Mem.tail _ (List.Mem.tail _ (List.Mem.head _))))))))))) (gpu (p_ld Tryz.isAgg22 rfl)) rfl ?_
         refine tk 35 rfl (by kernel_rfl) (fun _ _ _ h => h) (gyes rfl rfl rfl rfl) (TTany _) (gpu (p_move rfl)) rfl ?_
         refine tk 36 rfl (by kernel_rfl) (fun _ _ _ h => h) (gyes rfl rfl rfl rfl) (TTany _) (gpu (p_sub rfl rfl (by omega))) rfl ?_
         refine tk 37 rfl (by kernel_rfl) (fun _ _ _ h => h) (gyes rfl rfl rfl rfl) (TTany _) (gpu (p_ia (k - 1) hAq (by omega) (by omega) Tryz.underlying22 Tryz.sizeOf3 rfl rfl)) rfl ?_
         refine tk 38 rfl (by kernel_rfl) (fun _ _ _ h => h) (gyes rfl rfl rfl rfl) (TTat (List.Mem.tail _ (List.Mem.tail _ (List.Mem.tail _ (List.Mem.tail _ (List.Mem.tail _ (List.Mem.tail _ (List.Mem.tail _ (List.Mem.tail _ (List.Mem.tail _ (List.Mem.tail _ (List.Mem.head _)))))))))))) (gpu (p_ld Tryz.isAgg3 rfl)) rfl ?_
         refine tk 39 rfl (by kernel_rfl) (fun _ _ _ h => h) (gyes rfl rfl rfl rfl) (TTany _) (gpu (p_icmp rfl rfl rfl)) rfl ?_
         rw [show decide (p.deps[k] ≤ la) = true from decide_eq_true g5]
         refine tk 40 rfl (by kernel_rfl) (fun _ _ _ h => h) (gyes rfl rfl rfl rfl) (TTany _) (gpu (p_pickt rfl rfl)) rfl ?_
         refine tk 41 rfl (by kernel_rfl) (fun _ _ _ h => h) gnone (TTany _) (p_pickf rfl rfl) rfl ?_
         refine dn (by kernel_rfl) ?_
         refine nthen ?_
         refine cc rfl (fun h => ?_) (fun h => by cases h)
         refine cs ?_
         refine cr ?_
         refine ls (op (p_asg rfl) rfl) ?_
         refine ln ?_
         refine nthen ?_
         refine cret ?_
         refine xret (fun _ _ h => h) ?_
         refine rret (is := []) () (Or.inl rfl) (Res.t rfl Res.d) ?_ rfl (by repeat' (first | constructor | apply Sub.suf))
         simp only [packV]; rw [right_f3 (by rw [hkk]; grind)]
        ·
         have hk2 := hs g4
         refine elC (by repeat' constructor) (k - 1) (hk2) ?_; rintro zbq zoq zyq hAq
         refine elC (by repeat' constructor) k (List.getElem?_eq_getElem (l := p.deps) hk1) ?_; rintro zbp zop zyp hAp
         refine cd [] [(1, b1, 2, _), (4, zbp, zop + k * Rp.size Int, _), (8, b1, 2, _), (11, zbp, zop + k * Rp.size Int, _), (16, b1, 2, _), (19, zbp, zop + k * Rp.size Int, _), (21, b1, 0, _), (29, b1, 2, _), (32, zbp, zop + k * Rp.size Int, _), (34, b1, 2, _), (38, zbq, zoq + (k - 1) * Rp.size Int, _)] TryzX.mixed (TOk.t (isBoxS (by repeat' constructor) (k := 1) (by repeat (first | exact Cut.d | apply Cut.t | apply Cut.s))) (TOk.t (isInS (by repeat' constructor) (k := 0) rfl (z := 1) (by repeat (first | exact Cut.d | apply Cut.t | apply Cut.s))) (TOk.t (isBoxS (by repeat' constructor) (k := 1) (by repeat (first | exact Cut.d | apply Cut.t | apply Cut.s))) (TOk.t (isInS (by repeat' constructor) (k := 0) rfl (z := 1) (by repeat (first | exact Cut.d | apply Cut.t | apply Cut.s))) (TOk.t (isBoxS (by repeat' constructor) (k := 1) (by repeat (first | exact Cut.d | apply Cut.t | apply Cut.s))) (TOk.t (isInS (by repeat' constructor) (k := 0) rfl (z := 1) (by repeat (first | exact Cut.d | apply Cut.t | apply Cut.s))) (TOk.t (isBoxS (by repeat' constructor) (k := 1) (by repeat (first | exact Cut.d | apply Cut.t | apply Cut.s))) (TOk.t (isBoxS (by repeat' constructor) (k := 1) (by repeat (first | exact Cut.d | apply Cut.t | apply Cut.s))) (TOk.t (isInS (by repeat' constructor) (k := 0) rfl (z := 1) (by repeat (first | exact Cut.d | apply Cut.t | apply Cut.s))) (TOk.t (isBoxS (by repeat' constructor) (k := 1) (by repeat (first | exact Cut.d | apply Cut.t | apply Cut.s))) (TOk.t (isInS (by repeat' constructor) (k := 0) rfl (z := 1) (by repeat (first | exact Cut.d | apply Cut.t | apply Cut.s))) TOk.d))))))))))) ?_
         refine tk 0 rfl (by kernel_rfl) (fun _ _ _ h => h) gnone (TTany _) (p_fa fa25_2 rfl) rfl ?_
         refine tk 1 rfl (by kernel_rfl) (fun _ _ _ h => h) gnone (TTat (List.Mem.head _)) (p_ld Tryz.isAgg22 rfl) rfl ?_
         refine tk 2 rfl (by kernel_rfl) (fun _ _ _ h => h) gnone (TTany _) (p_move rfl) rfl ?_
         refine tk 3 rfl (by kernel_rfl) (fun _ _ _ h => h) gnone (TTany _) (p_ia k hAp hk1 rfl Tryz.underlying22 Tryz.sizeOf3 rfl rfl) rfl ?_
         refine tk 4 rfl (by kernel_rfl) (fun _ _ _ h => h) gnone (TTat (List.Mem.tail _ (List.Mem.head _))) (p_ld Tryz.isAgg3 rfl) rfl ?_
         refine tk 5 rfl (by kernel_rfl) (fun _ _ _ h => h) gnone (TTany _) (p_icmp rfl rfl rfl) rfl ?_
         rw [show decide (p.deps[k] < 1) = false from decide_eq_false g1]
         refine tk 6 rfl (by kernel_rfl) (fun _ _ _ h => h) gnone (TTany _) (p_move rfl) rfl ?_
         refine tk 7 rfl (by kernel_rfl) (fun _ _ _ h => h) (gyes rfl rfl rfl rfl) (TTany _) (gpu (p_fa fa25_2 rfl)) rfl ?_
         refine tk 8 rfl (by kernel_rfl) (fun _ _ _ h => h) (gyes rfl rfl rfl rfl) (TTat (List.Mem.tail _ (List.Mem.tail _ (List.Mem.head _)))) (gpu (p_ld Tryz.isAgg22 rfl)) rfl ?_
         refine tk 9 rfl (by kernel_rfl) (fun _ _ _ h => h) (gyes rfl rfl rfl rfl) (TTany _) (gpu (p_move rfl)) rfl ?_
         refine tk 10 rfl (by kernel_rfl) (fun _ _ _ h => h) (gyes rfl rfl rfl rfl) (TTany _) (gpu (p_ia k hAp hk1 rfl Tryz.underlying22 Tryz.sizeOf3 rfl rfl)) rfl ?_
         refine tk 11 rfl (by kernel_rfl) (fun _ _ _ h => h) (gyes rfl rfl rfl rfl) (TTat (List.Mem.tail _ (List.Mem.tail _ (List.Mem.tail _ (List.Mem.head _))))) (gpu (p_ld Tryz.isAgg3 rfl)) rfl ?_
         refine tk 12 rfl (by kernel_rfl) (fun _ _ _ h => h) (gyes rfl rfl rfl rfl) (TTany _) (gpu (p_icmp rfl rfl rfl)) rfl ?_
         rw [show decide ((1000000000 : Int) < p.deps[k]) = false from decide_eq_false g2]
         refine tk 13 rfl (by kernel_rfl) (fun _ _ _ h => h) gnone (TTany _) (p_pickf rfl rfl) rfl ?_
         refine tk 14 rfl (by kernel_rfl) (fun _ _ _ h => h) gnone (TTany _) (p_move rfl) rfl ?_
         refine tk 15 rfl (by kernel_rfl) (fun _ _ _ h => h) (gyes rfl rfl rfl rfl) (TTany _) (gpu (p_fa fa25_2 rfl)) rfl ?_
         refine tk 16 rfl (by kernel_rfl) (fun _ _ _ h => h) (gyes rfl rfl rfl rfl) (TTat (List.Mem.tail _ (List.Mem.tail _ (List.Mem.tail _ (List.Mem.tail _ (List.Mem.head _)))))) (gpu (p_ld Tryz.isAgg22 rfl)) rfl ?_
         refine tk 17 rfl (by kernel_rfl) (fun _ _ _ h => h) (gyes rfl rfl rfl rfl) (TTany _) (gpu (p_move rfl)) rfl ?_
         refine tk 18 rfl (by kernel_rfl) (fun _ _ _ h => h) (gyes rfl rfl rfl rfl) (TTany _) (gpu (p_ia k hAp hk1 rfl Tryz.underlying22 Tryz.sizeOf3 rfl rfl)) rfl ?_
         refine tk 19 rfl (by kernel_rfl) (fun _ _ _ h => h) (gyes rfl rfl rfl rfl) (TTat (List.Mem.tail _ (List.Mem.tail _ (List.Mem.tail _ (List.Mem.tail _ (List.Mem.tail _ (List.Mem.head _))))))) (gpu (p_ld Tryz.isAgg3 rfl)) rfl ?_
         refine tk 20 rfl (by kernel_rfl) (fun _ _ _ h => h) (gyes rfl rfl rfl rfl) (TTany _) (gpu (p_fa fa25_0 rfl)) rfl ?_
         refine tk 21 rfl (by kernel_rfl) (fun _ _ _ h => h) (gyes rfl rfl rfl rfl) (TTat (List.Mem.tail _ (List.Mem.tail _ (List.Mem.tail _ (List.Mem.tail _ (List.Mem.tail _ (List.Mem.tail _ (List.Mem.head _)))))))) (gpu (p_ld Tryz.isAgg3 rfl)) rfl ?_
         refine tk 22 rfl (by kernel_rfl) (fun _ _ _ h => h) (gyes rfl rfl rfl rfl) (TTany _) (gpu (p_icmp rfl rfl rfl)) rfl ?_
         rw [show decide (p.deps[k] = p.id) = false from decide_eq_false g3]
         refine tk 23 rfl (by kernel_rfl) (fun _ _ _ h => h) gnone (TTany _) (p_pickf rfl rfl) rfl ?_
         refine tk 24 rfl (by kernel_rfl) (fun _ _ _ h => h) gnone (TTany _) (p_move rfl) rfl ?_
         refine tk 25 rfl (by kernel_rfl) (fun _ _ _ h => h) (gyes rfl rfl rfl rfl) (TTany _) (gpu (p_move rfl)) rfl ?_
         refine tk 26 rfl (by kernel_rfl) (fun _ _ _ h => h) (gyes rfl rfl rfl rfl) (TTany _) (gpu (p_icmp rfl rfl rfl)) rfl ?_
         rw [show decide ((0 : Int) < (k : Int)) = true from decide_eq_true (by omega)]
         refine tk 27 rfl (by kernel_rfl) (fun _ _ _ h => h) (gyes rfl rfl rfl rfl) (TTany _) (gpu (p_move rfl)) rfl ?_
         refine tk 28 rfl (by kernel_rfl) (fun _ _ _ h => h) (gyes rfl rfl rfl rfl) (TTany _) (gpu (p_fa fa25_2 rfl)) rfl ?_
         refine tk 29 rfl (by kernel_rfl) (fun _ _ _ h => h) (gyes rfl rfl rfl rfl) (TTat (List.Mem.tail _ (List.Mem.tail _ (List.Mem.tail _ (List.Mem.tail _ (List.Mem.tail _ (List.Mem.tail _ (List.Mem.tail _ (List.Mem.head _))))))))) (gpu (p_ld Tryz.isAgg22 rfl)) rfl ?_
         refine tk 30 rfl (by kernel_rfl) (fun _ _ _ h => h) (gyes rfl rfl rfl rfl) (TTany _) (gpu (p_move rfl)) rfl ?_
         refine tk 31 rfl (by kernel_rfl) (fun _ _ _ h => h) (gyes rfl rfl rfl rfl) (TTany _) (gpu (p_ia k hAp hk1 rfl Tryz.underlying22 Tryz.sizeOf3 rfl rfl)) rfl ?_
         refine tk 32 rfl (by kernel_rfl) (fun _ _ _ h => h) (gyes rfl rfl rfl rfl) (TTat (List.Mem.tail _ (List.Mem.tail _ (List.Mem.tail _ (List.Mem.tail _ (List.Mem.tail _ (List.Mem.tail _ (List.Mem.tail _ (List.Mem.tail _ (List.Mem.head _)))))))))) (gpu (p_ld Tryz.isAgg3 rfl)) rfl ?_
         refine tk 33 rfl (by kernel_rfl) (fun _ _ _ h => h) (gyes rfl rfl rfl rfl) (TTany _) (gpu (p_fa fa25_2 rfl)) rfl ?_
         refine tk 34 rfl (by kernel_rfl) (fun _ _ _ h => h) (gyes rfl rfl rfl rfl) (TTat (List.Mem.tail _ (List.Mem.tail _ (List.Mem.tail _ (List.Mem.tail _ (List.Mem.tail _ (List.Mem.tail _ (List.Mem.tail _ (List.Mem.tail _ (List.Mem.tail _ (List.Mem.head _))))))))))) (gpu (p_ld Tryz.isAgg22 rfl)) rfl ?_
         refine tk 35 rfl (by kernel_rfl) (fun _ _ _ h => h) (gyes rfl rfl rfl rfl) (TTany _) (gpu (p_move rfl)) rfl ?_
         refine tk 36 rfl (by kernel_rfl) (fun _ _ _ h => h) (gyes rfl rfl rfl rfl) (TTany _) (gpu (p_sub rfl rfl (by omega))) rfl ?_
         refine tk 37 rfl (by kernel_rfl) (fun _ _ _ h => h) (gyes rfl rfl rfl rfl) (TTany _) (gpu (p_ia (k - 1) hAq (by omega) (by omega) Tryz.underlying22 Tryz.sizeOf3 rfl rfl)) rfl ?_
         refine tk 38 rfl (by kernel_rfl) (fun _ _ _ h => h) (gyes rfl rfl rfl rfl) (TTat (List.Mem.tail _ (List.Mem.tail _ (List.Mem.tail _ (List.Mem.tail _ (List.Mem.tail _ (List.Mem.tail _ (List.Mem.tail _ (List.Mem.tail _ (List.Mem.tail _ (List.Mem.tail _ (List.Mem.head _)))))))))))) (gpu (p_ld Tryz.isAgg3 rfl)) rfl ?_
         refine tk 39 rfl (by kernel_rfl) (fun _ _ _ h => h) (gyes rfl rfl rfl rfl) (TTany _) (gpu (p_icmp rfl rfl rfl)) rfl ?_
         rw [show decide (p.deps[k] ≤ la) = false from decide_eq_false g5]
         refine tk 40 rfl (by kernel_rfl) (fun _ _ _ h => h) (gyes rfl rfl rfl rfl) (TTany _) (gpu (p_pickt rfl rfl)) rfl ?_
         refine tk 41 rfl (by kernel_rfl) (fun _ _ _ h => h) gnone (TTany _) (p_pickf rfl rfl) rfl ?_
         refine dn (by kernel_rfl) ?_
         refine nthen ?_
         refine cc rfl (fun h => by cases h) (fun h => ?_)
         refine cskip ?_
         refine nblock ?_
         refine nthen ?_
         refine cr ?_
         refine ls (op (p_move rfl) rfl) ?_
         refine ls (op (p_add rfl rfl (by omega)) rfl) ?_
         refine ls (op (p_asg rfl) rfl) ?_
         refine ln ?_
         refine nnext ⟨(k + 1, p.deps[k]), hk1, by rw [hkk]; grind, by dsimp only; omega, fun h => by simp at h, fun _ => List.getElem?_eq_getElem hk1⟩ (by dsimp only; omega) (wk0 (by repeat (first | exact subσ.nil _ | refine subσ.cons rfl ?_)) (by repeat' (first | constructor | apply Sub.suf)))
       ·
        intro h40
        dsimp only at hk hkk hz hz0 hs
        try simp only [decide_eq_true_eq, decide_eq_false_iff_not, Bool.not_eq_true', Bool.not_eq_false', Int.not_lt, Int.not_le, ge_iff_le, Bool.not_true, Bool.not_false] at h40
        refine cexit ?_
        refine xthen ?_
        refine xthen ?_
        refine xblock ?_
        refine nthen ?_
        refine cs ?_
        refine cr ?_
        refine ls (op (p_fa fa25_3 rfl) rfl) ?_
        refine ls (o_ld Tryz.isAgg23 rfl (by repeat' constructor) (by repeat' constructor) rfl) ?_
        refine ls (o_call (is := []) Tryz.call58 (c_ref5Right p.l _ _ hp.ll hp.lf) rfl rfl (by repeat' (first | constructor | apply Sub.suf)) rfl) ?_
        refine le ?_; intro x87
        refine ls (op (p_asg rfl) rfl) ?_
        refine ln ?_
        refine nthen ?_
        refine cret ?_
        refine xret (fun _ _ h => h) ?_
        refine rret (is := []) () (Or.inl rfl) (Res.t rfl Res.d) ?_ rfl (by repeat' (first | constructor | apply Sub.suf))
        simp only [packV]; rw [right_g2 h35 (by rw [hkk, List.drop_eq_nil_of_le (by omega)]; rfl)]

end Go.Proofs.YtdbiillompeclaaGreatDoor.X

end
section
set_option linter.unusedVariables false
set_option linter.unusedSimpArgs false
namespace Go.Proofs.YtdbiillompeclaaGreatDoor.X
open Go Go.RowKit Go.Proofs Go.Sx
attribute [local irreducible] slA isA box row

abbrev PTwo (f : Patch × Patch × Bool) := { x : (Patch × Patch × Bool) × (Rp.Lay Patch × Rp.Lay Patch) // x.1 = f }
def PTwo.v {f} (x : PTwo f) : Value := .tuple #[sv x.1.1.1 x.1.2.1, sv x.1.1.2.1 x.1.2.2, .bool x.1.1.2.2]
def PTwo.g {f} (x : PTwo f) : List Asn := [slA x.1.2.1.1.1 x.1.1.1.deps, slA x.1.2.1.2.1 x.1.1.1.l, capA x.1.2.1.2.2 x.1.1.1.l.length, slA x.1.2.2.1.1 x.1.1.2.1.deps, slA x.1.2.2.2.1 x.1.1.2.1.l, capA x.1.2.2.2.2 x.1.1.2.1.l.length]
theorem may_t {p q : Patch} (h : (!p.right || !q.right || decide (p.id = q.id) || (q.deps.any fun s => decide (s = p.id)) || (p.deps.any fun s => decide (s = q.id))) = true) : pswap p q = (Patch.zero, Patch.zero, false) := by
 have : pmay p q = false := by
  unfold pmay
  rw [Bool.eq_false_iff]; intro e
  simp only [Bool.and_eq_true, Bool.not_eq_true'] at e
  obtain ⟨⟨⟨⟨e1, e2⟩, e3⟩, e4⟩, e5⟩ := e
  rw [e1, e2, e3, e4, e5] at h
  simp at h
 unfold pswap
 rw [this]; simp
theorem may_f {p q : Patch} (h : (!p.right || !q.right || decide (p.id = q.id) || (q.deps.any fun s => decide (s = p.id)) || (p.deps.any fun s => decide (s = q.id))) = false) : pmay p q = true := by
 unfold pmay
 simp only [Bool.or_eq_false_iff, Bool.not_eq_false'] at h
 obtain ⟨⟨⟨⟨e1, e2⟩, e3⟩, e4⟩, e5⟩ := h
 rw [e1, e2, e3, e4, e5]; rfl
theorem may_t' {p q : Patch} (h : (!p.right || !q.right || decide (p.id = q.id) || (p.deps.any fun s => decide (s = q.id)) || (q.deps.any fun s => decide (s = p.id))) = true) : pswap p q = (Patch.zero, Patch.zero, false) := may_t (by
 rw [← h]; cases p.right <;> cases q.right <;> cases decide (p.id = q.id) <;> cases (p.deps.any fun s => decide (s = q.id)) <;> cases (q.deps.any fun s => decide (s = p.id)) <;> rfl)
theorem may_f' {p q : Patch} (h : (!p.right || !q.right || decide (p.id = q.id) || (p.deps.any fun s => decide (s = q.id)) || (q.deps.any fun s => decide (s = p.id))) = false) : pmay p q = true := may_f (by
 rw [← h]; cases p.right <;> cases q.right <;> cases decide (p.id = q.id) <;> cases (p.deps.any fun s => decide (s = q.id)) <;> cases (q.deps.any fun s => decide (s = p.id)) <;> rfl)
theorem pswap_f {p q : Patch} {f s : List Prim} (h : (f, s, false) = swT p.l q.l) : pswap p q = (Patch.zero, Patch.zero, false) := by
 unfold pswap; rw [← h]; simp
theorem pswap_t {p q : Patch} {f s : List Prim} (hm : pmay p q = true) (h : (f, s, true) = swT p.l q.l) : pswap p q = ({ q with l := f }, { p with l := s }, true) := by
 unfold pswap; rw [← h, hm]; simp
theorem may_ne {p q : Patch} (h : pmay p q = true) : p.l ≠ [] ∧ q.l ≠ [] := by
 unfold pmay at h
 simp only [Bool.and_eq_true] at h
 obtain ⟨⟨⟨⟨e1, e2⟩, _⟩, _⟩, _⟩ := h
 unfold Patch.right at e1 e2
 simp only [Bool.and_eq_true, decide_eq_true_eq] at e1 e2
 constructor
 ·
  intro e; rw [e] at e1; simp at e1
 ·
  intro e; rw [e] at e2; simp at e2
theorem pswap_fit2 {p q a b : Patch} {c : Bool} (h : (a, b, c) = pswap p q) (hp : p.fit) (hq : q.fit) : a.fit ∧ b.fit := by
 have e := pswap_fit hp hq
 rw [← h] at e
 exact e
theorem rep_set {k j : Nat} {rest : List Patch} {b : Patch} {n : Nat} (hk : k + j + 1 = n) : (List.replicate (n - j) Patch.zero ++ rest).set k b = List.replicate (n - (j + 1)) Patch.zero ++ (b :: rest) := by
 rw [show n - j = k + 1 by omega, show n - (j + 1) = k by omega, List.replicate_succ', List.append_assoc, List.singleton_append]
 rw [List.set_append_right _ _ (by simp)]
 simp


set_option maxRecDepth 100000 in
theorem c_nSwap (p q : Patch) (yp yq : Rp.Lay Patch) (hp : p.fit) (hq : q.fit) : Con Tryz.prog 14 [sv p yp, sv q yq] [] [slA yp.1.1 p.deps, slA yp.2.1 p.l, capA yp.2.2 p.l.length, slA yq.1.1 q.deps, slA yq.2.1 q.l, capA yq.2.2 q.l.length] (PTwo (pswap p q)) (fun x => x.v) (fun _ => []) (fun x => x.g) := by
 refine con Tryz.func14 rfl Tryz.ntmps14 rfl ?_
 intro M0 F0 w0
 refine cs ?_
 refine cr ?_
 refine ls (o_box rfl rfl rfl) ?_
 refine le ?_; intro b2
 refine ls (o_box rfl rfl rfl) ?_
 refine le ?_; intro b3
 refine ls (o_alloc Tryz.zeroValue31 rfl rfl) ?_
 refine le ?_; intro b4
 refine ls (o_alloc Tryz.zeroValue31 rfl rfl) ?_
 refine le ?_; intro b5
 refine ls (op (p_asg rfl) rfl) ?_
 refine ln ?_
 refine nthen ?_
 refine cs ?_
 refine cs ?_
 refine cr ?_
 refine ls (o_ldw Tryz.isAgg31 Tryz.sizeOf31 rfl (by repeat' constructor) (by rfl) rfl) ?_
 refine ls (o_call (is := []) Tryz.call62 (c_nRight p yp hp) rfl rfl (by repeat' (first | constructor | apply Sub.suf)) rfl) ?_
 refine le ?_; intro x10
 refine ls (op (p_not rfl) rfl) ?_
 refine ls (op (p_move rfl) rfl) ?_
 refine orX 4 12 16 rfl (subσ.cons (t := 0) rfl (subσ.cons (t := 1) rfl (subσ.cons (t := 2) rfl (subσ.cons (t := 3) rfl (subσ.cons (t := 4) rfl (subσ.cons (t := 5) rfl (subσ.cons (t := 6) rfl (subσ.nil _)))))))) ?_ ?_
 ·
  intro h12
  refine lskip rfl rfl rfl rfl rfl ?_
  refine lskip rfl rfl rfl rfl rfl ?_
  refine lskip rfl rfl rfl rfl rfl ?_
  refine ls (op (p_pickt rfl rfl) rfl) ?_
  refine ln (nmid (wk0 (by repeat (first | exact subσ.nil _ | refine subσ.cons rfl ?_)) (by repeat' (first | constructor | apply Sub.suf))))
 apply exI
 ·
  intro h12
  refine lwant rfl rfl rfl rfl (o_ldw Tryz.isAgg31 Tryz.sizeOf31 rfl (by repeat' constructor) (by rfl) rfl) ?_
  refine lwant rfl rfl rfl rfl (o_call (is := []) Tryz.call62 (c_nRight q yq hq) rfl rfl (by repeat' (first | constructor | apply Sub.suf)) rfl) ?_
  refine le ?_; intro x14
  refine lwant rfl rfl rfl rfl (op (p_not rfl) rfl) ?_
  refine ls (op (p_pickf rfl rfl) rfl) ?_
  refine ln (nmid (wk0 (by repeat (first | exact subσ.nil _ | refine subσ.cons rfl ?_)) (by repeat' (first | constructor | apply Sub.suf))))
 ·
  refine ls (op (p_move rfl) rfl) ?_
  refine orX 6 17 23 rfl (subσ.cons (t := 0) rfl (subσ.cons (t := 1) rfl (subσ.cons (t := 2) rfl (subσ.cons (t := 3) rfl (subσ.cons (t := 4) rfl (subσ.cons (t := 5) rfl (subσ.cons (t := 6) rfl (subσ.nil _)))))))) ?_ ?_
  ·
   intro h17
   refine lskip rfl rfl rfl rfl rfl ?_
   refine lskip rfl rfl rfl rfl rfl ?_
   refine lskip rfl rfl rfl rfl rfl ?_
   refine lskip rfl rfl rfl rfl rfl ?_
   refine lskip rfl rfl rfl rfl rfl ?_
   refine ls (op (p_pickt rfl rfl) rfl) ?_
   refine ln (nmid (wk0 (by repeat (first | exact subσ.nil _ | refine subσ.cons rfl ?_)) (by repeat' (first | constructor | apply Sub.suf))))
  apply exI
  ·
   intro h17
   refine lwant rfl rfl rfl rfl (op (p_fa fa31_0 rfl) rfl) ?_
   refine lwant rfl rfl rfl rfl (o_ld Tryz.isAgg3 rfl (by repeat' constructor) (by repeat' constructor) rfl) ?_
   refine lwant rfl rfl rfl rfl (op (p_fa fa31_0 rfl) rfl) ?_
   refine lwant rfl rfl rfl rfl (o_ld Tryz.isAgg3 rfl (by repeat' constructor) (by repeat' constructor) rfl) ?_
   refine lwant rfl rfl rfl rfl (op (p_icmp rfl rfl rfl) rfl) ?_
   refine ls (op (p_pickf rfl rfl) rfl) ?_
   refine ln (nmid (wk0 (by repeat (first | exact subσ.nil _ | refine subσ.cons rfl ?_)) (by repeat' (first | constructor | apply Sub.suf))))
  ·
   refine ls (op (p_move rfl) rfl) ?_
   refine orX 6 24 30 rfl (subσ.cons (t := 0) rfl (subσ.cons (t := 1) rfl (subσ.cons (t := 2) rfl (subσ.cons (t := 3) rfl (subσ.cons (t := 4) rfl (subσ.cons (t := 5) rfl (subσ.cons (t := 6) rfl (subσ.nil _)))))))) ?_ ?_
   ·
    intro h24
    refine lskip rfl rfl rfl rfl rfl ?_
    refine lskip rfl rfl rfl rfl rfl ?_
    refine lskip rfl rfl rfl rfl rfl ?_
    refine lskip rfl rfl rfl rfl rfl ?_
    refine lskip rfl rfl rfl rfl rfl ?_
    refine ls (op (p_pickt rfl rfl) rfl) ?_
    refine ln (nmid (wk0 (by repeat (first | exact subσ.nil _ | refine subσ.cons rfl ?_)) (by repeat' (first | constructor | apply Sub.suf))))
   apply exI
   ·
    intro h24
    refine lwant rfl rfl rfl rfl (op (p_fa fa31_2 rfl) rfl) ?_
    refine lwant rfl rfl rfl rfl (o_ld Tryz.isAgg22 rfl (by repeat' constructor) (by repeat' constructor) rfl) ?_
    refine lwant rfl rfl rfl rfl (op (p_fa fa31_0 rfl) rfl) ?_
    refine lwant rfl rfl rfl rfl (o_ld Tryz.isAgg3 rfl (by repeat' constructor) (by repeat' constructor) rfl) ?_
    refine lwant rfl rfl rfl rfl (o_call (is := []) Tryz.call64 (c_ContainsI q.deps _ _ hq.dl p.id) rfl rfl (by repeat' (first | constructor | apply Sub.suf)) rfl) ?_
    refine le ?_; intro x29
    refine ls (op (p_pickf rfl rfl) rfl) ?_
    refine ln (nmid (wk0 (by repeat (first | exact subσ.nil _ | refine subσ.cons rfl ?_)) (by repeat' (first | constructor | apply Sub.suf))))
   ·
    refine ls (op (p_move rfl) rfl) ?_
    refine orX 6 31 37 rfl (subσ.cons (t := 0) rfl (subσ.cons (t := 1) rfl (subσ.cons (t := 2) rfl (subσ.cons (t := 3) rfl (subσ.cons (t := 4) rfl (subσ.cons (t := 5) rfl (subσ.cons (t := 6) rfl (subσ.nil _)))))))) ?_ ?_
    ·
     intro h31
     refine lskip rfl rfl rfl rfl rfl ?_
     refine lskip rfl rfl rfl rfl rfl ?_
     refine lskip rfl rfl rfl rfl rfl ?_
     refine lskip rfl rfl rfl rfl rfl ?_
     refine lskip rfl rfl rfl rfl rfl ?_
     refine ls (op (p_pickt rfl rfl) rfl) ?_
     refine ln (nmid (wk0 (by repeat (first | exact subσ.nil _ | refine subσ.cons rfl ?_)) (by repeat' (first | constructor | apply Sub.suf))))
    apply exI
    ·
     intro h31
     refine lwant rfl rfl rfl rfl (op (p_fa fa31_2 rfl) rfl) ?_
     refine lwant rfl rfl rfl rfl (o_ld Tryz.isAgg22 rfl (by repeat' constructor) (by repeat' constructor) rfl) ?_
     refine lwant rfl rfl rfl rfl (op (p_fa fa31_0 rfl) rfl) ?_
     refine lwant rfl rfl rfl rfl (o_ld Tryz.isAgg3 rfl (by repeat' constructor) (by repeat' constructor) rfl) ?_
     refine lwant rfl rfl rfl rfl (o_call (is := []) Tryz.call64 (c_ContainsI p.deps _ _ hp.dl q.id) rfl rfl (by repeat' (first | constructor | apply Sub.suf)) rfl) ?_
     refine le ?_; intro x36
     refine ls (op (p_pickf rfl rfl) rfl) ?_
     refine ln (nmid (wk0 (by repeat (first | exact subσ.nil _ | refine subσ.cons rfl ?_)) (by repeat' (first | constructor | apply Sub.suf))))
    ·
     refine ln ?_
     refine nthen ?_
     refine cc rfl ?_ ?_
     ·
      intro h37
      try simp only [decide_eq_true_eq, decide_eq_false_iff_not, Bool.not_eq_true', Bool.not_eq_false', Int.not_lt, Int.not_le, ge_iff_le, Bool.not_true, Bool.not_false] at h37
      refine cs ?_
      refine cmono (fun a w h => nilC (α := Prim) h) ?_
      refine cmono (fun a w h => nilSl (α := Int) h) ?_
      refine cr ?_
      refine ls (op (p_bld sb31 rfl Fill.d) rfl) ?_
      refine ls (op (p_bld sb31 rfl Fill.d) rfl) ?_
      refine ls (o_st rfl Tryz.sizeOf31 rfl rfl rfl rfl rfl (by repeat' constructor) (by repeat' constructor) (by repeat' constructor)) ?_
      refine ls (o_st rfl Tryz.sizeOf31 rfl rfl rfl rfl rfl (by repeat' constructor) (by repeat' constructor) (by repeat' constructor)) ?_
      refine ls (op (p_asg rfl) rfl) ?_
      refine ln ?_
      refine nthen ?_
      refine cret ?_
      refine xret (fun _ _ h => h) ?_
      refine rret (is := []) ⟨((Patch.zero, Patch.zero, false), (((none, 0), (none, 0)), ((none, 0), (none, 0)))), by rw [may_t h37]⟩ (Or.inl rfl) (Res.c rfl Tryz.isAgg31 Tryz.sizeOf31 (by repeat' constructor) (by rfl) (Res.c rfl Tryz.isAgg31 Tryz.sizeOf31 (by repeat' constructor) (by rfl) (Res.t rfl Res.d))) (rfl) rfl (by repeat' (first | constructor | apply Sub.suf))
     ·
      intro h37
      try simp only [decide_eq_true_eq, decide_eq_false_iff_not, Bool.not_eq_true', Bool.not_eq_false', Int.not_lt, Int.not_le, ge_iff_le, Bool.not_true, Bool.not_false] at h37
      refine cskip ?_
      refine nthen ?_
      refine cs ?_
      refine cr ?_
      refine ls (op (p_fa fa31_3 rfl) rfl) ?_
      refine ls (o_ld Tryz.isAgg29 rfl (by repeat' constructor) (by repeat' constructor) rfl) ?_
      refine ls (op (p_fa fa31_3 rfl) rfl) ?_
      refine ls (o_ld Tryz.isAgg29 rfl (by repeat' constructor) (by repeat' constructor) rfl) ?_
      refine ls (o_call (is := []) Tryz.call65 (c_seqSwap p.l q.l _ _ _ _ hp.ll hq.ll hp.lf hq.lf) rfl rfl (by repeat' (first | constructor | apply Sub.suf)) rfl) ?_
      refine le ?_; rintro ⟨⟨⟨f, s, b3⟩, ⟨ya, yb⟩⟩, hr⟩
      dsimp only at hr
      refine ls (op (p_move rfl) rfl) ?_
      refine ls (op (p_ext rfl (by repeat' constructor)) rfl) ?_
      refine ls (op (p_ext rfl (by repeat' constructor)) rfl) ?_
      refine ls (op (p_ext rfl (by repeat' constructor)) rfl) ?_
      refine ls (op (p_asg rfl) rfl) ?_
      refine ls (op (p_asg rfl) rfl) ?_
      refine ls (op (p_asg rfl) rfl) ?_
      refine ln ?_
      refine nthen ?_
      refine cs ?_
      refine cs ?_
      refine cr ?_
      refine ls (op (p_move rfl) rfl) ?_
      refine ls (op (p_not rfl) rfl) ?_
      refine ln ?_
      refine nthen ?_
      refine cc rfl ?_ ?_
      ·
       intro h50
       obtain rfl : false = b3 := by cases b3 <;> first | rfl | (simp at h50)
       refine cs ?_
       refine cmono (fun a w h => nilC (α := Prim) h) ?_
       refine cmono (fun a w h => nilSl (α := Int) h) ?_
       refine cr ?_
       refine ls (op (p_bld sb31 rfl Fill.d) rfl) ?_
       refine ls (op (p_bld sb31 rfl Fill.d) rfl) ?_
       refine ls (o_st rfl Tryz.sizeOf31 rfl rfl rfl rfl rfl (by repeat' constructor) (by repeat' constructor) (by repeat' constructor)) ?_
       refine ls (o_st rfl Tryz.sizeOf31 rfl rfl rfl rfl rfl (by repeat' constructor) (by repeat' constructor) (by repeat' constructor)) ?_
       refine ls (op (p_asg rfl) rfl) ?_
       refine ln ?_
       refine nthen ?_
       refine cret ?_
       refine xret (fun _ _ h => h) ?_
       refine rret (is := []) ⟨((Patch.zero, Patch.zero, false), (((none, 0), (none, 0)), ((none, 0), (none, 0)))), by rw [pswap_f hr]⟩ (Or.inl rfl) (Res.c rfl Tryz.isAgg31 Tryz.sizeOf31 (by repeat' constructor) (by rfl) (Res.c rfl Tryz.isAgg31 Tryz.sizeOf31 (by repeat' constructor) (by rfl) (Res.t rfl Res.d))) (rfl) rfl (by repeat' (first | constructor | apply Sub.suf))
      ·
       intro h50
       obtain rfl : true = b3 := by cases b3 <;> first | rfl | (simp at h50)
       have hok := swT_ok hr hp.lf hq.lf
       have hfl := hok.1; have hsl := hok.2.1; have hpl := hp.ll; have hql := hq.ll
       refine cskip ?_
       refine nthen ?_
       refine cs ?_
       refine cd [2, 5, 6, 7] [(0, b3, 0, _), (3, b2, 0, _)] TryzX.mixed (TOk.t (isBoxS (by repeat' constructor) (k := 4) (by repeat (first | exact Cut.d | apply Cut.t | apply Cut.s))) (TOk.t (isBoxS (by repeat' constructor) (k := 4) (by repeat (first | exact Cut.d | apply Cut.t | apply Cut.s))) TOk.d)) ?_
       refine tk 0 rfl (by kernel_rfl) (fun _ _ _ h => h) gnone (TTat (List.Mem.head _)) (p_lda Tryz.isAgg31 Tryz.sizeOf31 rfl rfl) rfl ?_
       refine tk 1 rfl (by kernel_rfl) (fun _ _ _ h => h) gnone (TTany _) (p_move rfl) rfl ?_
       refine tk 3 rfl (by kernel_rfl) (fun _ _ _ h => h) gnone (TTat (List.Mem.tail _ (List.Mem.head _))) (p_lda Tryz.isAgg31 Tryz.sizeOf31 rfl rfl) rfl ?_
       refine tk 4 rfl (by kernel_rfl) (fun _ _ _ h => h) gnone (TTany _) (p_move rfl) rfl ?_
       refine df 2 (by kernel_rfl) ?_
       refine doR rfl (o_call (is := []) Tryz.call63 (c_with q yq hq f ya.1 ya.2 (by omega) hok.2.2.1) rfl rfl (by repeat' (first | constructor | apply Sub.suf)) rfl) (TOk.x (by kernel_rfl) (TOk.t (isBoxE fun _ => isBoxS (by repeat' constructor) (k := 4) (by repeat (first | exact Cut.d | apply Cut.t | apply Cut.s))) TOk.d)) ?_
       refine ea ?_; intro y55
       refine df 5 (by kernel_rfl) ?_
       refine doR rfl (o_call (is := []) Tryz.call63 (c_with p yp hp s yb.1 yb.2 (by omega) hok.2.2.2) rfl rfl (by repeat' (first | constructor | apply Sub.suf)) rfl) (TOk.x (by kernel_rfl) (TOk.x (by kernel_rfl) TOk.d)) ?_
       refine ea ?_; intro y58
       refine df 6 (by kernel_rfl) ?_
       refine doR rfl (o_st rfl Tryz.sizeOf31 rfl rfl rfl rfl rfl (by repeat' constructor) (by repeat' constructor) (by repeat' constructor)) (TOk.x (by kernel_rfl) (TOk.x (by kernel_rfl) TOk.d)) ?_
       refine df 7 (by kernel_rfl) ?_
       refine doR rfl (o_st rfl Tryz.sizeOf31 rfl rfl rfl rfl rfl (by repeat' constructor) (by repeat' constructor) (by repeat' constructor)) (TOk.x (by kernel_rfl) (TOk.x (by kernel_rfl) TOk.d)) ?_
       refine tk 8 rfl (by kernel_rfl) (fun _ _ _ h => h) gnone (TTany _) (p_asg rfl) rfl ?_
       refine dn (by kernel_rfl) ?_
       refine nthen ?_
       refine cret ?_
       refine xret (fun _ _ h => h) ?_
       refine rret (is := []) ⟨(({ q with l := f }, { p with l := s }, true), (y55, y58)), by rw [pswap_t (may_f h37) hr]⟩ (Or.inl rfl) (Res.c rfl Tryz.isAgg31 Tryz.sizeOf31 (by repeat' constructor) (by rfl) (Res.c rfl Tryz.isAgg31 Tryz.sizeOf31 (by repeat' constructor) (by rfl) (Res.t rfl Res.d))) (rfl) rfl (by repeat' (first | constructor | apply Sub.suf))

set_option maxRecDepth 100000 in
theorem c_nNeeds (p q : Patch) (yp yq : Rp.Lay Patch) (hp : p.fit) (hq : q.fit) : Con Tryz.prog 61 [sv p yp, sv q yq] [] [slA yp.1.1 p.deps, slA yp.2.1 p.l, capA yp.2.2 p.l.length, slA yq.1.1 q.deps, slA yq.2.1 q.l, capA yq.2.2 q.l.length] Unit (fun _ => .bool (!(pswap p q).2.2)) (fun _ => []) (fun _ => []) := by
 refine con Tryz.func61 rfl Tryz.ntmps61 rfl ?_
 intro M0 F0 w0
 refine cs ?_
 refine cr ?_
 refine ls (o_box rfl rfl rfl) ?_
 refine le ?_; intro b2
 refine ls (o_box rfl rfl rfl) ?_
 refine le ?_; intro b3
 refine ls (op (p_asg rfl) rfl) ?_
 refine ln ?_
 refine nthen ?_
 refine cs ?_
 refine cr ?_
 refine ls (o_ldw Tryz.isAgg31 Tryz.sizeOf31 rfl (by repeat' constructor) (by rfl) rfl) ?_
 refine ls (o_ldw Tryz.isAgg31 Tryz.sizeOf31 rfl (by repeat' constructor) (by rfl) rfl) ?_
 refine ls (o_call (is := []) Tryz.call14 (c_nSwap p q yp yq hp hq) rfl rfl (by repeat' (first | constructor | apply Sub.suf)) rfl) ?_
 refine le ?_; rintro ⟨⟨⟨r1, r2, r3⟩, z1, z2⟩, hr⟩
 obtain ⟨e1, e2⟩ := pswap_fit2 hr hp hq; dsimp only at hr e1 e2
 refine ls (op (p_move rfl) rfl) ?_
 refine ls (op (p_ext rfl (by repeat' constructor)) rfl) ?_
 refine ls (op (p_ext rfl (by repeat' constructor)) rfl) ?_
 refine ls (op (p_ext rfl (by repeat' constructor)) rfl) ?_
 refine ls (o_alloc Tryz.zeroValue31 rfl rfl) ?_
 refine le ?_; intro b5
 refine ls (o_alloc Tryz.zeroValue31 rfl rfl) ?_
 refine le ?_; intro b6
 refine ls (o_st rfl Tryz.sizeOf31 rfl rfl rfl rfl rfl (by repeat' constructor) (by repeat' constructor) (by repeat' constructor)) ?_
 refine ls (o_st rfl Tryz.sizeOf31 rfl rfl rfl rfl rfl (by repeat' constructor) (by repeat' constructor) (by repeat' constructor)) ?_
 refine ls (op (p_asg rfl) rfl) ?_
 refine ln ?_
 refine nthen ?_
 refine cs ?_
 refine cr ?_
 refine ls (op (p_move rfl) rfl) ?_
 refine ls (op (p_not rfl) rfl) ?_
 refine ls (op (p_asg rfl) rfl) ?_
 refine ln ?_
 refine nthen ?_
 refine cret ?_
 refine xret (fun _ _ h => h) ?_
 refine rret (is := []) () (Or.inl rfl) (Res.t rfl Res.d) ?_ rfl (by repeat' (first | constructor | apply Sub.suf))
 dsimp only [packV]; rw [← hr]

set_option maxRecDepth 100000 in
theorem c_BackwardP (l : List Patch) (A : Option Addr) (c : Nat) : Con Tryz.prog 110 [.slice A l.length c] [] [] Nat (fun b => .func (.func 142) #[] #[.pointer (some ⟨b, 0, none⟩)]) (fun b => [box b 36 [.slice A l.length c]]) (fun _ => []) := by
 refine con Tryz.func110 rfl Tryz.ntmps110 rfl ?_
 intro M0 F0 w0
 refine cs ?_
 refine cr ?_
 refine ls (o_box rfl rfl rfl) ?_
 refine le ?_; intro b1
 refine ls (op (p_asg rfl) rfl) ?_
 refine ln ?_
 refine nthen ?_
 refine cs ?_
 refine cr ?_
 refine ls (op (p_mkf rfl) rfl) ?_
 refine ls (op (p_asg rfl) rfl) ?_
 refine ln ?_
 refine nthen ?_
 refine cret ?_
 refine xret (fun _ _ h => h) ?_
 refine rret (is := [0]) b1 (Or.inl rfl) (Res.t rfl Res.d) (rfl) rfl (by repeat' (first | constructor | apply Sub.suf))

set_option maxRecDepth 100000 in
theorem c_BackwardP1 (l : List Patch) (A : Option Addr) (c : Nat) (hl : l.length ≤ 2000000) (B : Nat) : Iter Tryz.prog 142 [.pointer (some ⟨B, 0, none⟩)] (fun x : {x : Nat × Rp.Lay Patch // x.1 < l.length} => [.int .i64 (x.1.1 : Int), sv (l[x.1.1]'x.2) x.1.2]) (fun x => Rp.asn (l[x.1.1]'x.2) x.1.2) (fun pre x => x.1.1 + pre.length + 1 = l.length) (fun xs => xs.length = l.length) [box B 36 [.slice A l.length c]] [slA A l] := by
 intro lp J Jx hY
 refine con Tryz.func142 rfl Tryz.ntmps142 rfl ?_
 intro M0 F0 w0
 refine cs ?_
 refine cr ?_
 refine ls (o_ld Tryz.isAgg36 rfl (by repeat' constructor) (by repeat' constructor) rfl) ?_
 refine ls (op (p_lenl rfl Tryz.underlying36) rfl) ?_
 refine ls (op (p_sub rfl rfl (by omega)) rfl) ?_
 refine ls (op (p_asg rfl) rfl) ?_
 refine ln ?_
 refine nthen ?_
 refine cb ?_
 refine cl (ι := {q : List {x : Nat × Rp.Lay Patch // x.1 < l.length} × Int // q.1.length ≤ l.length ∧ q.2 = (l.length : Int) - 1 - (q.1.length : Int)}) (fun i => St M0 F0 w0 19 [(0, .func (.yield lp) #[] #[]), (1, .pointer (some ⟨B, 0, none⟩)), (3, .int .i64 i.1.2)] [J i.1.1, box B 36 [.slice A l.length c]] [slA A l]) (fun i => l.length - (i.1.1).length) ⟨([], (l.length : Int) - 1), Nat.zero_le _, by simp⟩ (wk0 (by repeat (first | exact subσ.nil _ | refine subσ.cons rfl ?_)) (by repeat' (first | constructor | apply Sub.suf))) ?_
 rintro ⟨⟨pre, z⟩, hpre, hz⟩
 refine cmono (S' := St M0 F0 w0 19 [(0, .func (.yield lp) #[] #[]), (1, .pointer (some ⟨B, 0, none⟩)), (3, .int .i64 z)] [J pre, box B 36 [.slice A l.length c]] [slA A l]) (fun _ _ h => h) ?_
 refine cs ?_
 refine cs ?_
 refine cr ?_
 refine ls (op (p_move rfl) rfl) ?_
 refine ls (op (p_icmp rfl rfl rfl) rfl) ?_
 refine ln ?_
 refine nthen ?_
 refine cc rfl ?_ ?_
 ·
  intro h8
  dsimp only at hpre hz
  try simp only [decide_eq_true_eq, decide_eq_false_iff_not, Bool.not_eq_true', Bool.not_eq_false', Int.not_lt, Int.not_le, ge_iff_le, Bool.not_true, Bool.not_false] at h8
  have hk1 : l.length - 1 - pre.length < l.length := by omega
  refine cskip ?_
  refine nthen ?_
  refine cs ?_
  refine cb ?_
  refine cs ?_
  refine elC (by repeat' constructor) (l.length - 1 - pre.length) (List.getElem?_eq_getElem (l := l) hk1) ?_; rintro zbp zop zyp hAp
  refine cr ?_
  refine ls (op (p_move rfl) rfl) ?_
  refine ls (op (p_move rfl) rfl) ?_
  refine ls (o_ld Tryz.isAgg36 rfl (by repeat' constructor) (by repeat' constructor) rfl) ?_
  refine ls (op (p_move rfl) rfl) ?_
  refine ls (op (p_ia (l.length - 1 - pre.length) hAp hk1 (by omega) Tryz.underlying36 Tryz.sizeOf31 rfl rfl) rfl) ?_
  refine ls (o_ldj Tryz.isAgg31 Tryz.sizeOf31 rfl (by repeat' constructor) 0 rfl (by repeat (first | exact Cut.d | apply Cut.t | apply Cut.s)) rfl) ?_
  refine ls (o_yield (i := 0) rfl (by have := hY pre ⟨(l.length - 1 - pre.length, zyp), hk1⟩ (by dsimp only; omega); dsimp only at this; rw [show ((l.length - 1 - pre.length : Nat) : Int) = z by omega] at this; exact this) rfl rfl (by repeat' (first | constructor | apply Sub.suf)) rfl) ?_
  refine le ?_; intro bb
  refine ls (op (p_not rfl) rfl) ?_
  refine ln ?_
  refine nthen ?_
  refine cc rfl ?_ ?_
  ·
   intro h18
   obtain rfl : false = bb := by cases bb <;> first | rfl | (simp at h18)
   refine cret ?_
   refine xret (fun _ _ h => h) ?_
   refine rret (is := [0, 0]) ⟨none, fun _ h => by cases h⟩ (Or.inl rfl) Res.d (rfl) rfl (by repeat' (first | constructor | apply Sub.suf))
  ·
   intro h18
   obtain rfl : true = bb := by cases bb <;> first | rfl | (simp at h18)
   refine cskip ?_
   refine nblock ?_
   refine nthen ?_
   refine cr ?_
   refine ls (op (p_move rfl) rfl) ?_
   refine ls (op (p_sub rfl rfl (by omega)) rfl) ?_
   refine ls (op (p_asg rfl) rfl) ?_
   refine ln ?_
   refine nnext ⟨(pre ++ [⟨(l.length - 1 - pre.length, zyp), hk1⟩], z - 1), by simp; omega, by simp; omega⟩ (by simp; omega) (wk (is := [0, 0]) (by repeat (first | exact subσ.nil _ | refine subσ.cons rfl ?_)) rfl (by repeat' (first | constructor | apply Sub.suf)))
 ·
  intro h8
  dsimp only at hpre hz
  try simp only [decide_eq_true_eq, decide_eq_false_iff_not, Bool.not_eq_true', Bool.not_eq_false', Int.not_lt, Int.not_le, ge_iff_le, Bool.not_true, Bool.not_false] at h8
  refine cexit ?_
  refine xthen ?_
  refine xthen ?_
  refine xblock ?_
  refine rret (is := [0, 0]) ⟨some pre, fun xs h => by cases h; omega⟩ (Or.inr rfl) Res.d (rfl) rfl (by repeat' (first | constructor | apply Sub.suf))

set_option maxRecDepth 100000 in
theorem c_BackwardR1 (l : List Patch) (A : Option Addr) (c : Nat) (hl : l.length ≤ 2000000) (B : Nat) : Iter Tryz.prog 142 [.pointer (some ⟨B, 0, none⟩)] (fun x : {x : Nat × Rp.Lay Patch // x.1 < l.length} => [.int .i64 (x.1.1 : Int), sv (l[x.1.1]'x.2) x.1.2]) (fun x => Rp.asn (l[x.1.1]'x.2) x.1.2) (fun pre x => x.1.1 + pre.length + 1 = l.length) (fun xs => xs.length = l.length) [box B 36 [.slice A l.length c], row 31 A c l] [] := by
 intro lp J Jx hY
 refine con Tryz.func142 rfl Tryz.ntmps142 rfl ?_
 intro M0 F0 w0
 refine cs ?_
 refine cr ?_
 refine ls (o_ld Tryz.isAgg36 rfl (by repeat' constructor) (by repeat' constructor) rfl) ?_
 refine ls (op (p_lenl rfl Tryz.underlying36) rfl) ?_
 refine ls (op (p_sub rfl rfl (by omega)) rfl) ?_
 refine ls (op (p_asg rfl) rfl) ?_
 refine ln ?_
 refine nthen ?_
 refine cb ?_
 refine cl (ι := {q : List {x : Nat × Rp.Lay Patch // x.1 < l.length} × Int // q.1.length ≤ l.length ∧ q.2 = (l.length : Int) - 1 - (q.1.length : Int)}) (fun i => St M0 F0 w0 19 [(0, .func (.yield lp) #[] #[]), (1, .pointer (some ⟨B, 0, none⟩)), (3, .int .i64 i.1.2)] [J i.1.1, box B 36 [.slice A l.length c], row 31 A c l] []) (fun i => l.length - (i.1.1).length) ⟨([], (l.length : Int) - 1), Nat.zero_le _, by simp⟩ (wk0 (by repeat (first | exact subσ.nil _ | refine subσ.cons rfl ?_)) (by repeat' (first | constructor | apply Sub.suf))) ?_
 rintro ⟨⟨pre, z⟩, hpre, hz⟩
 refine cmono (S' := St M0 F0 w0 19 [(0, .func (.yield lp) #[] #[]), (1, .pointer (some ⟨B, 0, none⟩)), (3, .int .i64 z)] [J pre, box B 36 [.slice A l.length c], row 31 A c l] []) (fun _ _ h => h) ?_
 refine cs ?_
 refine cs ?_
 refine cr ?_
 refine ls (op (p_move rfl) rfl) ?_
 refine ls (op (p_icmp rfl rfl rfl) rfl) ?_
 refine ln ?_
 refine nthen ?_
 refine cc rfl ?_ ?_
 ·
  intro h8
  dsimp only at hpre hz
  try simp only [decide_eq_true_eq, decide_eq_false_iff_not, Bool.not_eq_true', Bool.not_eq_false', Int.not_lt, Int.not_le, ge_iff_le, Bool.not_true, Bool.not_false] at h8
  have hk1 : l.length - 1 - pre.length < l.length := by omega
  refine cskip ?_
  refine nthen ?_
  refine cs ?_
  refine cb ?_
  refine cs ?_
  refine rowC (by repeat' constructor) (fun e => absurd (show l.length = 0 by rw [e]; rfl) (by omega)) ?_; rintro g rfl
  refine cr ?_
  refine ls (op (p_move rfl) rfl) ?_
  refine ls (op (p_move rfl) rfl) ?_
  refine ls (o_ld Tryz.isAgg36 rfl (by repeat' constructor) (by repeat' constructor) rfl) ?_
  refine ls (op (p_move rfl) rfl) ?_
  refine ls (op (p_ia (l.length - 1 - pre.length) rfl hk1 (by omega) Tryz.underlying36 Tryz.sizeOf31 rfl rfl) rfl) ?_
  refine ls (o_ldrow Tryz.isAgg31 Tryz.sizeOf31 rfl (by repeat' constructor) (List.getElem?_eq_getElem hk1) rfl) ?_
  refine le ?_; intro zyp
  refine ls (o_yield (i := 0) rfl (by have := hY pre ⟨(l.length - 1 - pre.length, zyp), hk1⟩ (by dsimp only; omega); dsimp only at this; rw [show ((l.length - 1 - pre.length : Nat) : Int) = z by omega] at this; exact this) rfl rfl (by repeat' (first | constructor | apply Sub.suf)) rfl) ?_
  refine le ?_; intro bb
  refine ls (op (p_not rfl) rfl) ?_
  refine ln ?_
  refine nthen ?_
  refine cc rfl ?_ ?_
  ·
   intro h18
   obtain rfl : false = bb := by cases bb <;> first | rfl | (simp at h18)
   refine cret ?_
   refine xret (fun _ _ h => h) ?_
   refine rret (is := [0, 0, 0]) ⟨none, fun _ h => by cases h⟩ (Or.inl rfl) Res.d (rfl) rfl (by repeat' (first | constructor | apply Sub.suf))
  ·
   intro h18
   obtain rfl : true = bb := by cases bb <;> first | rfl | (simp at h18)
   refine cskip ?_
   refine nblock ?_
   refine nthen ?_
   refine cr ?_
   refine ls (op (p_move rfl) rfl) ?_
   refine ls (op (p_sub rfl rfl (by omega)) rfl) ?_
   refine ls (op (p_asg rfl) rfl) ?_
   refine ln ?_
   refine nnext ⟨(pre ++ [⟨(l.length - 1 - pre.length, zyp), hk1⟩], z - 1), by simp; omega, by simp; omega⟩ (by simp; omega) (wk (is := [0, 0, 0]) (by repeat (first | exact subσ.nil _ | refine subσ.cons rfl ?_)) rfl (by repeat' (first | constructor | apply Sub.suf)))
 ·
  intro h8
  dsimp only at hpre hz
  try simp only [decide_eq_true_eq, decide_eq_false_iff_not, Bool.not_eq_true', Bool.not_eq_false', Int.not_lt, Int.not_le, ge_iff_le, Bool.not_true, Bool.not_false] at h8
  refine cexit ?_
  refine xthen ?_
  refine xthen ?_
  refine xblock ?_
  refine rret (is := [0, 0, 0]) ⟨some pre, fun xs h => by cases h; omega⟩ (Or.inr rfl) Res.d (rfl) rfl (by repeat' (first | constructor | apply Sub.suf))

set_option maxRecDepth 100000 in
theorem c_nPastD (l : List Patch) (A : Option Addr) (c : Nat) (hl : l.length ≤ 2000000) (hf : ∀ x ∈ l, x.fit) (q0 : Patch) (y : Rp.Lay Patch) (hq : q0.fit) : Con Tryz.prog 59 [.slice A l.length c, sv q0 y] [] [slA y.1.1 q0.deps, slA y.2.1 q0.l, capA y.2.2 q0.l.length, slA A l] {x : (Patch × List Patch × Bool) × (Rp.Lay Patch × (Option Addr × Nat)) // x.1 = ppast l q0} (fun x => .tuple #[sv x.1.1.1 x.1.2.1, .slice x.1.2.2.1 x.1.1.2.1.length x.1.2.2.2, .bool x.1.1.2.2]) (fun x => [row 31 x.1.2.2.1 x.1.2.2.2 x.1.1.2.1]) (fun x => [slA x.1.2.1.1.1 x.1.1.1.deps, slA x.1.2.1.2.1 x.1.1.1.l, capA x.1.2.1.2.2 x.1.1.1.l.length]) := by
 refine con Tryz.func59 rfl Tryz.ntmps59 rfl ?_
 intro M0 F0 w0
 refine cs ?_
 refine cr ?_
 refine ls (o_box rfl rfl rfl) ?_
 refine le ?_; intro b3
 refine ls (o_alloc Tryz.zeroValue31 rfl rfl) ?_
 refine le ?_; intro b4
 refine ls (o_alloc Tryz.zeroValue36 rfl rfl) ?_
 refine le ?_; intro b5
 refine ls (o_alloc Tryz.zeroValue4 rfl rfl) ?_
 refine le ?_; intro b6
 refine ln ?_
 refine nthen ?_
 refine cs ?_
 refine cr ?_
 refine ls (op (p_move rfl) rfl) ?_
 refine ls (op (p_lenl rfl Tryz.underlying36) rfl) ?_
 refine ls (o_mk Patch.zero ((none, 0), (none, 0)) l.length Tryz.underlying36 inf31 rfl (by decide) (fun M w p hp => by simp only [Rp.asn, List.mem_cons, List.mem_nil_iff, or_false] at hp; rcases hp with rfl | rfl | rfl <;> first | exact slA_none M w | exact Nat.le_refl 0) rfl rfl rfl rfl (by omega) (by omega) rfl) ?_
 refine le ?_; intro g
 rw [List.length_replicate]
 refine ls (o_st rfl Tryz.sizeOf36 rfl rfl rfl rfl rfl (by repeat' constructor) (by repeat' constructor) (by repeat' constructor)) ?_
 refine ln ?_
 refine nthen ?_
 refine cs ?_
 refine cr ?_
 refine ls (o_ldw Tryz.isAgg31 Tryz.sizeOf31 rfl (by repeat' constructor) (by rfl) rfl) ?_
 refine ls (o_call (is := []) Tryz.call12 (c_nClone q0 y hq) rfl rfl (by repeat' (first | constructor | apply Sub.suf)) rfl) ?_
 refine le ?_; intro y16
 refine ls (o_st rfl Tryz.sizeOf31 rfl rfl rfl rfl rfl (by repeat' constructor) (by repeat' constructor) (by repeat' constructor)) ?_
 refine ln ?_
 refine nthen ?_
 refine cs ?_
 refine cs ?_
 refine cr ?_
 refine ls (op (p_move rfl) rfl) ?_
 refine ls (o_call (is := []) Tryz.call110 (c_BackwardP l A c) rfl rfl (by repeat' (first | constructor | apply Sub.suf)) rfl) ?_
 refine le ?_; intro b18
 refine ln ?_
 refine nthen ?_
 refine cb ?_
 rw [show List.replicate l.length Patch.zero = List.replicate (l.length - 0) Patch.zero ++ [] by simp]
 refine crng (ι := fun pre => {q : Patch × List Patch × Rp.Lay Patch // PP l q0 pre.length q.1 q.2.1}) rfl Tryz.call142 (c_BackwardP1 l A c hl b18) (fun _ => rfl) rfl (fun pre i => [box b4 31 (Rp.enc i.1.1 i.1.2.2), box b5 36 [.slice (some ⟨g, 0, none⟩) l.length l.length], box b6 4 [.bool false], row 31 (some ⟨g, 0, none⟩) l.length (List.replicate (l.length - pre.length) Patch.zero ++ i.1.2.1)]) (fun pre i => [slA i.1.2.2.1.1 i.1.1.deps, slA i.1.2.2.2.1 i.1.1.l, capA i.1.2.2.2.2 i.1.1.l.length]) (⟨(q0, [], y16), PP.start hq⟩) (Y := {u : Unit // ppast l q0 = (Patch.zero, [], false)}) (fun _ => [box b4 31 (Rp.enc Patch.zero ((none, 0), (none, 0))), box b5 36 [.slice none 0 0], box b6 4 [.bool false]]) (fun _ => []) (is := [4, 3, 2, 1, 0]) rfl (by repeat' (first | constructor | apply Sub.suf)) (by repeat' (first | constructor | apply Sub.suf)) ?_ ?_ ?_
 ·
  rintro M0 F0 w0 lp κ pre ⟨⟨k, yk⟩, hk⟩ hx ⟨⟨q, rest, yq⟩, hI⟩
  dsimp only at hk hx hI
  have hrl := hI.len; have hfk := hf _ (List.getElem_mem hk)
  refine cmono (S' := St M0 F0 w0 ⟨38, []⟩ [(4, .pointer (some ⟨b4, 0, none⟩)), (5, .pointer (some ⟨b5, 0, none⟩)), (6, .pointer (some ⟨b6, 0, none⟩)), (19, .int .i64 (k : Int)), (20, sv l[k] yk)] [lrec lp κ .ready none, box b4 31 (Rp.enc q yq), box b5 36 [.slice (some ⟨g, 0, none⟩) l.length l.length], box b6 4 [.bool false], row 31 (some ⟨g, 0, none⟩) l.length (List.replicate (l.length - pre.length) Patch.zero ++ rest)] [slA yq.1.1 q.deps, slA yq.2.1 q.l, capA yq.2.2 q.l.length, slA yk.1.1 l[k].deps, slA yk.2.1 l[k].l, capA yk.2.2 l[k].l.length]) (wk0 (by repeat (first | exact subσ.nil _ | refine subσ.cons rfl ?_)) (by repeat' (first | constructor | apply Sub.suf))) ?_
  refine cs ?_
  refine cr ?_
  refine ls (op (p_asg rfl) rfl) ?_
  refine ln ?_
  refine nthen ?_
  refine cr ?_
  refine ls (o_alloc Tryz.zeroValue31 rfl rfl) ?_
  refine le ?_; intro b8
  refine ls (o_st rfl Tryz.sizeOf31 rfl rfl rfl rfl rfl (by repeat' constructor) (by repeat' constructor) (by repeat' constructor)) ?_
  refine ln ?_
  refine nbegin (i := 1) rfl ?_
  refine cb ?_
  refine cs ?_
  refine cr ?_
  refine ls (o_ldw Tryz.isAgg31 Tryz.sizeOf31 rfl (by repeat' constructor) (by rfl) rfl) ?_
  refine ls (o_ldw Tryz.isAgg31 Tryz.sizeOf31 rfl (by repeat' constructor) (by rfl) rfl) ?_
  refine ls (o_call (is := []) Tryz.call14 (c_nSwap l[k] q yk yq hfk hI.fq) rfl rfl (by repeat' (first | constructor | apply Sub.suf)) rfl) ?_
  refine le ?_; rintro ⟨⟨⟨r1, r2, r3⟩, z1, z2⟩, hr⟩
  obtain ⟨e1, e2⟩ := pswap_fit2 hr hfk hI.fq; dsimp only at hr e1 e2
  refine ls (op (p_move rfl) rfl) ?_
  refine ls (op (p_ext rfl (by repeat' constructor)) rfl) ?_
  refine ls (op (p_ext rfl (by repeat' constructor)) rfl) ?_
  refine ls (op (p_ext rfl (by repeat' constructor)) rfl) ?_
  refine ls (o_alloc Tryz.zeroValue31 rfl rfl) ?_
  refine le ?_; intro b9
  refine ls (o_alloc Tryz.zeroValue31 rfl rfl) ?_
  refine le ?_; intro b10
  refine ls (o_st rfl Tryz.sizeOf31 rfl rfl rfl rfl rfl (by repeat' constructor) (by repeat' constructor) (by repeat' constructor)) ?_
  refine ls (o_st rfl Tryz.sizeOf31 rfl rfl rfl rfl rfl (by repeat' constructor) (by repeat' constructor) (by repeat' constructor)) ?_
  refine ls (op (p_asg rfl) rfl) ?_
  refine ln ?_
  refine nthen ?_
  refine cs ?_
  refine cs ?_
  refine cr ?_
  refine ls (op (p_move rfl) rfl) ?_
  refine ls (op (p_not rfl) rfl) ?_
  refine ln ?_
  refine nthen ?_
  refine cc rfl ?_ ?_
  ·
   intro h29
   obtain rfl : false = r3 := by cases r3 <;> first | rfl | (simp at h29)
   refine cs ?_
   refine cr ?_
   refine ls (op (p_bld sb31 rfl Fill.d) rfl) ?_
   refine ls (o_st rfl Tryz.sizeOf31 rfl rfl rfl rfl rfl (by repeat' constructor) (by repeat' constructor) (by repeat' constructor)) ?_
   refine ls (o_st rfl Tryz.sizeOf36 rfl rfl rfl rfl rfl (by repeat' constructor) (by repeat' constructor) (by repeat' constructor)) ?_
   refine ls (o_st rfl Tryz.sizeOf4 rfl rfl rfl rfl rfl (by repeat' constructor) (by repeat' constructor) (by repeat' constructor)) ?_
   refine ln ?_
   refine nthen ?_
   refine cret ?_
   refine xretR (fun _ _ h => h) ?_
   exact nrret ⟨(), hI.stop (by omega) hr⟩ (is := [2, 3, 3, 3]) rfl (by repeat' (first | constructor | apply Sub.suf))
  ·
   intro h29
   obtain rfl : true = r3 := by cases r3 <;> first | rfl | (simp at h29)
   refine cskip ?_
   refine nthen ?_
   refine cd [4, 6] [(0, b5, 0, _), (2, b9, 0, _), (3, b10, 0, _)] TryzX.mixed (TOk.t (isBoxS (by repeat' constructor) (k := 1) (by repeat (first | exact Cut.d | apply Cut.t | apply Cut.s))) (TOk.t (isBoxS (by repeat' constructor) (k := 4) (by repeat (first | exact Cut.d | apply Cut.t | apply Cut.s))) (TOk.t (isBoxS (by repeat' constructor) (k := 4) (by repeat (first | exact Cut.d | apply Cut.t | apply Cut.s))) TOk.d))) ?_
   refine tk 0 rfl (by kernel_rfl) (fun _ _ _ h => h) gnone (TTat (List.Mem.head _)) (p_ld Tryz.isAgg36 rfl) rfl ?_
   refine tk 1 rfl (by kernel_rfl) (fun _ _ _ h => h) gnone (TTany _) (p_move rfl) rfl ?_
   refine tk 2 rfl (by kernel_rfl) (fun _ _ _ h => h) gnone (TTat (List.Mem.tail _ (List.Mem.head _))) (p_lda Tryz.isAgg31 Tryz.sizeOf31 rfl rfl) rfl ?_
   refine tk 3 rfl (by kernel_rfl) (fun _ _ _ h => h) gnone (TTat (List.Mem.tail _ (List.Mem.tail _ (List.Mem.head _)))) (p_lda Tryz.isAgg31 Tryz.sizeOf31 rfl rfl) rfl ?_
   refine df 4 (by kernel_rfl) ?_
   refine doR rfl (o_st rfl Tryz.sizeOf31 rfl rfl rfl rfl rfl (by repeat' constructor) (by repeat' constructor) (by repeat' constructor)) (TOk.t (isBoxS (by repeat' constructor) (k := 1) (by repeat (first | exact Cut.d | apply Cut.t | apply Cut.s))) (TOk.x (by kernel_rfl) (TOk.t (isBoxS (by repeat' constructor) (k := 4) (by repeat (first | exact Cut.d | apply Cut.t | apply Cut.s))) TOk.d))) ?_
   refine tk 5 rfl (by kernel_rfl) (fun _ _ _ h => h) gnone (TTany _) (p_ia k rfl hk rfl Tryz.underlying36 Tryz.sizeOf31 rfl rfl) rfl ?_
   refine df 6 (by kernel_rfl) ?_
   refine doR rfl (o_strow (z := r2) (yz := z2) rfl Tryz.sizeOf31 rfl rfl rfl (by repeat' constructor) (by simp; omega) (by repeat' constructor) (by repeat' (first | constructor | apply Sub.suf))) (TOk.x (by kernel_rfl) (TOk.x (by kernel_rfl) (TOk.x (by kernel_rfl) TOk.d))) ?_
   refine dn (by kernel_rfl) ?_
   refine nblock ?_
   rw [rep_set (by omega), show pre.length + 1 = (pre ++ [(⟨(k, yk), hk⟩ : {x : Nat × Rp.Lay Patch // x.1 < l.length})]).length by simp]
   exact nround ⟨(r1, r2 :: rest, z1), by rw [List.length_append]; exact hI.step (by omega) hf hr⟩ (is := [2, 3, 3, 3, 3]) rfl (by repeat' (first | constructor | apply Sub.suf))
 ·
  rintro D xs hC ⟨⟨q, rest, yq⟩, hI⟩
  dsimp only at hC hI
  have hd := hI.done hC; have hrl := hI.len
  rw [show List.replicate (l.length - xs.length) Patch.zero ++ rest = rest by rw [hC]; simp]
  refine nblock ?_
  refine nthen ?_
  refine cs ?_
  skip
  refine cd [2, 3, 4] [(0, b4, 0, _), (1, b5, 0, _)] TryzX.mixed (TOk.t (isBoxS (by repeat' constructor) (k := 4) (by repeat (first | exact Cut.d | apply Cut.t | apply Cut.s))) (TOk.t (isBoxS (by repeat' constructor) (k := 1) (by repeat (first | exact Cut.d | apply Cut.t | apply Cut.s))) TOk.d)) ?_
  refine tk 0 rfl (by kernel_rfl) (fun _ _ _ h => h) gnone (TTat (List.Mem.head _)) (p_lda Tryz.isAgg31 Tryz.sizeOf31 rfl rfl) rfl ?_
  refine tk 1 rfl (by kernel_rfl) (fun _ _ _ h => h) gnone (TTat (List.Mem.tail _ (List.Mem.head _))) (p_ld Tryz.isAgg36 rfl) rfl ?_
  refine df 2 (by kernel_rfl) ?_
  refine doR rfl (o_st rfl Tryz.sizeOf31 rfl rfl rfl rfl rfl (by repeat' constructor) (by repeat' constructor) (by repeat' constructor)) (TOk.x (by kernel_rfl) (TOk.t (isBoxS (by repeat' constructor) (k := 1) (by repeat (first | exact Cut.d | apply Cut.t | apply Cut.s))) TOk.d)) ?_
  refine df 3 (by kernel_rfl) ?_
  refine doR rfl (o_st rfl Tryz.sizeOf36 rfl rfl rfl rfl rfl (by repeat' constructor) (by repeat' constructor) (by repeat' constructor)) (TOk.x (by kernel_rfl) (TOk.x (by kernel_rfl) TOk.d)) ?_
  refine df 4 (by kernel_rfl) ?_
  refine doR rfl (o_st rfl Tryz.sizeOf4 rfl rfl rfl rfl rfl (by repeat' constructor) (by repeat' constructor) (by repeat' constructor)) (TOk.x (by kernel_rfl) (TOk.x (by kernel_rfl) TOk.d)) ?_
  refine dn (by kernel_rfl) ?_
  refine nthen ?_
  refine cret ?_
  refine xret (fun _ _ h => h) ?_
  refine rretm (Dfr.c (i := 5) rfl Dfr.d) (is := [3]) ⟨((q, rest, true), (yq, (some ⟨g, 0, none⟩, l.length))), hd.symm⟩ (Or.inl rfl) (Res.c rfl Tryz.isAgg31 Tryz.sizeOf31 (by repeat' constructor) (by rfl) (Res.c1 rfl Tryz.isAgg36 (by repeat' constructor) (Res.c1 rfl Tryz.isAgg4 (by repeat' constructor) Res.d))) ?_ rfl (by repeat' (first | constructor | apply Sub.suf))
  dsimp only [packV]; rw [show rest.length = l.length by omega]; rfl
 ·
  rintro D ⟨_, hst⟩
  refine nmono (fun a w h => nilC (α := Prim) h) ?_
  refine nmono (fun a w h => nilSl (α := Int) h) ?_
  refine nmono (fun a w h => nilRow (α := Patch) 31 h) ?_
  refine xret (fun _ _ h => h) ?_
  refine rretm (Dfr.c (i := 5) rfl Dfr.d) (is := [0]) ⟨((Patch.zero, [], false), (((none, 0), (none, 0)), (none, 0))), hst.symm⟩ (Or.inl rfl) (Res.c rfl Tryz.isAgg31 Tryz.sizeOf31 (by repeat' constructor) (by rfl) (Res.c1 rfl Tryz.isAgg36 (by repeat' constructor) (Res.c1 rfl Tryz.isAgg4 (by repeat' constructor) Res.d))) (rfl) rfl (by repeat' (first | constructor | apply Sub.suf))

set_option maxRecDepth 100000 in
theorem c_nPastR (l : List Patch) (A : Option Addr) (c : Nat) (hl : l.length ≤ 2000000) (hf : ∀ x ∈ l, x.fit) (q0 : Patch) (y : Rp.Lay Patch) (hq : q0.fit) : Con Tryz.prog 59 [.slice A l.length c, sv q0 y] [row 31 A c l] [slA y.1.1 q0.deps, slA y.2.1 q0.l, capA y.2.2 q0.l.length] {x : (Patch × List Patch × Bool) × (Rp.Lay Patch × (Option Addr × Nat)) // x.1 = ppast l q0} (fun x => .tuple #[sv x.1.1.1 x.1.2.1, .slice x.1.2.2.1 x.1.1.2.1.length x.1.2.2.2, .bool x.1.1.2.2]) (fun x => [row 31 x.1.2.2.1 x.1.2.2.2 x.1.1.2.1, row 31 A c l]) (fun x => [slA x.1.2.1.1.1 x.1.1.1.deps, slA x.1.2.1.2.1 x.1.1.1.l, capA x.1.2.1.2.2 x.1.1.1.l.length]) := by
 refine con Tryz.func59 rfl Tryz.ntmps59 rfl ?_
 intro M0 F0 w0
 refine cs ?_
 refine cr ?_
 refine ls (o_box rfl rfl rfl) ?_
 refine le ?_; intro b3
 refine ls (o_alloc Tryz.zeroValue31 rfl rfl) ?_
 refine le ?_; intro b4
 refine ls (o_alloc Tryz.zeroValue36 rfl rfl) ?_
 refine le ?_; intro b5
 refine ls (o_alloc Tryz.zeroValue4 rfl rfl) ?_
 refine le ?_; intro b6
 refine ln ?_
 refine nthen ?_
 refine cs ?_
 refine cr ?_
 refine ls (op (p_move rfl) rfl) ?_
 refine ls (op (p_lenl rfl Tryz.underlying36) rfl) ?_
 refine ls (o_mk Patch.zero ((none, 0), (none, 0)) l.length Tryz.underlying36 inf31 rfl (by decide) (fun M w p hp => by simp only [Rp.asn, List.mem_cons, List.mem_nil_iff, or_false] at hp; rcases hp with rfl | rfl | rfl <;> first | exact slA_none M w | exact Nat.le_refl 0) rfl rfl rfl rfl (by omega) (by omega) rfl) ?_
 refine le ?_; intro g
 rw [List.length_replicate]
 refine ls (o_st rfl Tryz.sizeOf36 rfl rfl rfl rfl rfl (by repeat' constructor) (by repeat' constructor) (by repeat' constructor)) ?_
 refine ln ?_
 refine nthen ?_
 refine cs ?_
 refine cr ?_
 refine ls (o_ldw Tryz.isAgg31 Tryz.sizeOf31 rfl (by repeat' constructor) (by rfl) rfl) ?_
 refine ls (o_call (is := []) Tryz.call12 (c_nClone q0 y hq) rfl rfl (by repeat' (first | constructor | apply Sub.suf)) rfl) ?_
 refine le ?_; intro y16
 refine ls (o_st rfl Tryz.sizeOf31 rfl rfl rfl rfl rfl (by repeat' constructor) (by repeat' constructor) (by repeat' constructor)) ?_
 refine ln ?_
 refine nthen ?_
 refine cs ?_
 refine cs ?_
 refine cr ?_
 refine ls (op (p_move rfl) rfl) ?_
 refine ls (o_call (is := []) Tryz.call110 (c_BackwardP l A c) rfl rfl (by repeat' (first | constructor | apply Sub.suf)) rfl) ?_
 refine le ?_; intro b18
 refine ln ?_
 refine nthen ?_
 refine cb ?_
 rw [show List.replicate l.length Patch.zero = List.replicate (l.length - 0) Patch.zero ++ [] by simp]
 refine crng (ι := fun pre => {q : Patch × List Patch × Rp.Lay Patch // PP l q0 pre.length q.1 q.2.1}) rfl Tryz.call142 (c_BackwardR1 l A c hl b18) (fun _ => rfl) rfl (fun pre i => [box b4 31 (Rp.enc i.1.1 i.1.2.2), box b5 36 [.slice (some ⟨g, 0, none⟩) l.length l.length], box b6 4 [.bool false], row 31 (some ⟨g, 0, none⟩) l.length (List.replicate (l.length - pre.length) Patch.zero ++ i.1.2.1)]) (fun pre i => [slA i.1.2.2.1.1 i.1.1.deps, slA i.1.2.2.2.1 i.1.1.l, capA i.1.2.2.2.2 i.1.1.l.length]) (⟨(q0, [], y16), PP.start hq⟩) (Y := {u : Unit // ppast l q0 = (Patch.zero, [], false)}) (fun _ => [box b4 31 (Rp.enc Patch.zero ((none, 0), (none, 0))), box b5 36 [.slice none 0 0], box b6 4 [.bool false]]) (fun _ => []) (is := [4, 3, 2, 1, 0, 1]) rfl (by repeat' (first | constructor | apply Sub.suf)) (by repeat' (first | constructor | apply Sub.suf)) ?_ ?_ ?_
 ·
  rintro M0 F0 w0 lp κ pre ⟨⟨k, yk⟩, hk⟩ hx ⟨⟨q, rest, yq⟩, hI⟩
  dsimp only at hk hx hI
  have hrl := hI.len; have hfk := hf _ (List.getElem_mem hk)
  refine cmono (S' := St M0 F0 w0 ⟨38, []⟩ [(4, .pointer (some ⟨b4, 0, none⟩)), (5, .pointer (some ⟨b5, 0, none⟩)), (6, .pointer (some ⟨b6, 0, none⟩)), (19, .int .i64 (k : Int)), (20, sv l[k] yk)] [lrec lp κ .ready none, box b4 31 (Rp.enc q yq), box b5 36 [.slice (some ⟨g, 0, none⟩) l.length l.length], box b6 4 [.bool false], row 31 (some ⟨g, 0, none⟩) l.length (List.replicate (l.length - pre.length) Patch.zero ++ rest)] [slA yq.1.1 q.deps, slA yq.2.1 q.l, capA yq.2.2 q.l.length, slA yk.1.1 l[k].deps, slA yk.2.1 l[k].l, capA yk.2.2 l[k].l.length]) (wk0 (by repeat (first | exact subσ.nil _ | refine subσ.cons rfl ?_)) (by repeat' (first | constructor | apply Sub.suf))) ?_
  refine cs ?_
  refine cr ?_
  refine ls (op (p_asg rfl) rfl) ?_
  refine ln ?_
  refine nthen ?_
  refine cr ?_
  refine ls (o_alloc Tryz.zeroValue31 rfl rfl) ?_
  refine le ?_; intro b8
  refine ls (o_st rfl Tryz.sizeOf31 rfl rfl rfl rfl rfl (by repeat' constructor) (by repeat' constructor) (by repeat' constructor)) ?_
  refine ln ?_
  refine nbegin (i := 1) rfl ?_
  refine cb ?_
  refine cs ?_
  refine cr ?_
  refine ls (o_ldw Tryz.isAgg31 Tryz.sizeOf31 rfl (by repeat' constructor) (by rfl) rfl) ?_
  refine ls (o_ldw Tryz.isAgg31 Tryz.sizeOf31 rfl (by repeat' constructor) (by rfl) rfl) ?_
  refine ls (o_call (is := []) Tryz.call14 (c_nSwap l[k] q yk yq hfk hI.fq) rfl rfl (by repeat' (first | constructor | apply Sub.suf)) rfl) ?_
  refine le ?_; rintro ⟨⟨⟨r1, r2, r3⟩, z1, z2⟩, hr⟩
  obtain ⟨e1, e2⟩ := pswap_fit2 hr hfk hI.fq; dsimp only at hr e1 e2
  refine ls (op (p_move rfl) rfl) ?_
  refine ls (op (p_ext rfl (by repeat' constructor)) rfl) ?_
  refine ls (op (p_ext rfl (by repeat' constructor)) rfl) ?_
  refine ls (op (p_ext rfl (by repeat' constructor)) rfl) ?_
  refine ls (o_alloc Tryz.zeroValue31 rfl rfl) ?_
  refine le ?_; intro b9
  refine ls (o_alloc Tryz.zeroValue31 rfl rfl) ?_
  refine le ?_; intro b10
  refine ls (o_st rfl Tryz.sizeOf31 rfl rfl rfl rfl rfl (by repeat' constructor) (by repeat' constructor) (by repeat' constructor)) ?_
  refine ls (o_st rfl Tryz.sizeOf31 rfl rfl rfl rfl rfl (by repeat' constructor) (by repeat' constructor) (by repeat' constructor)) ?_
  refine ls (op (p_asg rfl) rfl) ?_
  refine ln ?_
  refine nthen ?_
  refine cs ?_
  refine cs ?_
  refine cr ?_
  refine ls (op (p_move rfl) rfl) ?_
  refine ls (op (p_not rfl) rfl) ?_
  refine ln ?_
  refine nthen ?_
  refine cc rfl ?_ ?_
  ·
   intro h29
   obtain rfl : false = r3 := by cases r3 <;> first | rfl | (simp at h29)
   refine cs ?_
   refine cr ?_
   refine ls (op (p_bld sb31 rfl Fill.d) rfl) ?_
   refine ls (o_st rfl Tryz.sizeOf31 rfl rfl rfl rfl rfl (by repeat' constructor) (by repeat' constructor) (by repeat' constructor)) ?_
   refine ls (o_st rfl Tryz.sizeOf36 rfl rfl rfl rfl rfl (by repeat' constructor) (by repeat' constructor) (by repeat' constructor)) ?_
   refine ls (o_st rfl Tryz.sizeOf4 rfl rfl rfl rfl rfl (by repeat' constructor) (by repeat' constructor) (by repeat' constructor)) ?_
   refine ln ?_
   refine nthen ?_
   refine cret ?_
   refine xretR (fun _ _ h => h) ?_
   exact nrret ⟨(), hI.stop (by omega) hr⟩ (is := [2, 3, 3, 3]) rfl (by repeat' (first | constructor | apply Sub.suf))
  ·
   intro h29
   obtain rfl : true = r3 := by cases r3 <;> first | rfl | (simp at h29)
   refine cskip ?_
   refine nthen ?_
   refine cd [4, 6] [(0, b5, 0, _), (2, b9, 0, _), (3, b10, 0, _)] TryzX.mixed (TOk.t (isBoxS (by repeat' constructor) (k := 1) (by repeat (first | exact Cut.d | apply Cut.t | apply Cut.s))) (TOk.t (isBoxS (by repeat' constructor) (k := 4) (by repeat (first | exact Cut.d | apply Cut.t | apply Cut.s))) (TOk.t (isBoxS (by repeat' constructor) (k := 4) (by repeat (first | exact Cut.d | apply Cut.t | apply Cut.s))) TOk.d))) ?_
   refine tk 0 rfl (by kernel_rfl) (fun _ _ _ h => h) gnone (TTat (List.Mem.head _)) (p_ld Tryz.isAgg36 rfl) rfl ?_
   refine tk 1 rfl (by kernel_rfl) (fun _ _ _ h => h) gnone (TTany _) (p_move rfl) rfl ?_
   refine tk 2 rfl (by kernel_rfl) (fun _ _ _ h => h) gnone (TTat (List.Mem.tail _ (List.Mem.head _))) (p_lda Tryz.isAgg31 Tryz.sizeOf31 rfl rfl) rfl ?_
   refine tk 3 rfl (by kernel_rfl) (fun _ _ _ h => h) gnone (TTat (List.Mem.tail _ (List.Mem.tail _ (List.Mem.head _)))) (p_lda Tryz.isAgg31 Tryz.sizeOf31 rfl rfl) rfl ?_
   refine df 4 (by kernel_rfl) ?_
   refine doR rfl (o_st rfl Tryz.sizeOf31 rfl rfl rfl rfl rfl (by repeat' constructor) (by repeat' constructor) (by repeat' constructor)) (TOk.t (isBoxS (by repeat' constructor) (k := 1) (by repeat (first | exact Cut.d | apply Cut.t | apply Cut.s))) (TOk.x (by kernel_rfl) (TOk.t (isBoxS (by repeat' constructor) (k := 4) (by repeat (first | exact Cut.d | apply Cut.t | apply Cut.s))) TOk.d))) ?_
   refine tk 5 rfl (by kernel_rfl) (fun _ _ _ h => h) gnone (TTany _) (p_ia k rfl hk rfl Tryz.underlying36 Tryz.sizeOf31 rfl rfl) rfl ?_
   refine df 6 (by kernel_rfl) ?_
   refine doR rfl (o_strow (z := r2) (yz := z2) rfl Tryz.sizeOf31 rfl rfl rfl (by repeat' constructor) (by simp; omega) (by repeat' constructor) (by repeat' (first | constructor | apply Sub.suf))) (TOk.x (by kernel_rfl) (TOk.x (by kernel_rfl) (TOk.x (by kernel_rfl) TOk.d))) ?_
   refine dn (by kernel_rfl) ?_
   refine nblock ?_
   rw [rep_set (by omega), show pre.length + 1 = (pre ++ [(⟨(k, yk), hk⟩ : {x : Nat × Rp.Lay Patch // x.1 < l.length})]).length by simp]
   exact nround ⟨(r1, r2 :: rest, z1), by rw [List.length_append]; exact hI.step (by omega) hf hr⟩ (is := [2, 3, 3, 3, 3]) rfl (by repeat' (first | constructor | apply Sub.suf))
 ·
  rintro D xs hC ⟨⟨q, rest, yq⟩, hI⟩
  dsimp only at hC hI
  have hd := hI.done hC; have hrl := hI.len
  rw [show List.replicate (l.length - xs.length) Patch.zero ++ rest = rest by rw [hC]; simp]
  refine nblock ?_
  refine nthen ?_
  refine cs ?_
  skip
  refine cd [2, 3, 4] [(0, b4, 0, _), (1, b5, 0, _)] TryzX.mixed (TOk.t (isBoxS (by repeat' constructor) (k := 4) (by repeat (first | exact Cut.d | apply Cut.t | apply Cut.s))) (TOk.t (isBoxS (by repeat' constructor) (k := 1) (by repeat (first | exact Cut.d | apply Cut.t | apply Cut.s))) TOk.d)) ?_
  refine tk 0 rfl (by kernel_rfl) (fun _ _ _ h => h) gnone (TTat (List.Mem.head _)) (p_lda Tryz.isAgg31 Tryz.sizeOf31 rfl rfl) rfl ?_
  refine tk 1 rfl (by kernel_rfl) (fun _ _ _ h => h) gnone (TTat (List.Mem.tail _ (List.Mem.head _))) (p_ld Tryz.isAgg36 rfl) rfl ?_
  refine df 2 (by kernel_rfl) ?_
  refine doR rfl (o_st rfl Tryz.sizeOf31 rfl rfl rfl rfl rfl (by repeat' constructor) (by repeat' constructor) (by repeat' constructor)) (TOk.x (by kernel_rfl) (TOk.t (isBoxS (by repeat' constructor) (k := 1) (by repeat (first | exact Cut.d | apply Cut.t | apply Cut.s))) TOk.d)) ?_
  refine df 3 (by kernel_rfl) ?_
  refine doR rfl (o_st rfl Tryz.sizeOf36 rfl rfl rfl rfl rfl (by repeat' constructor) (by repeat' constructor) (by repeat' constructor)) (TOk.x (by kernel_rfl) (TOk.x (by kernel_rfl) TOk.d)) ?_
  refine df 4 (by kernel_rfl) ?_
  refine doR rfl (o_st rfl Tryz.sizeOf4 rfl rfl rfl rfl rfl (by repeat' constructor) (by repeat' constructor) (by repeat' constructor)) (TOk.x (by kernel_rfl) (TOk.x (by kernel_rfl) TOk.d)) ?_
  refine dn (by kernel_rfl) ?_
  refine nthen ?_
  refine cret ?_
  refine xret (fun _ _ h => h) ?_
  refine rretm (Dfr.c (i := 6) rfl Dfr.d) (is := [3, 4]) ⟨((q, rest, true), (yq, (some ⟨g, 0, none⟩, l.length))), hd.symm⟩ (Or.inl rfl) (Res.c rfl Tryz.isAgg31 Tryz.sizeOf31 (by repeat' constructor) (by rfl) (Res.c1 rfl Tryz.isAgg36 (by repeat' constructor) (Res.c1 rfl Tryz.isAgg4 (by repeat' constructor) Res.d))) ?_ rfl (by repeat' (first | constructor | apply Sub.suf))
  dsimp only [packV]; rw [show rest.length = l.length by omega]; rfl
 ·
  rintro D ⟨_, hst⟩
  refine nmono (fun a w h => nilC (α := Prim) h) ?_
  refine nmono (fun a w h => nilSl (α := Int) h) ?_
  refine nmono (fun a w h => nilRow (α := Patch) 31 h) ?_
  refine xret (fun _ _ h => h) ?_
  refine rretm (Dfr.c (i := 6) rfl Dfr.d) (is := [0, 4]) ⟨((Patch.zero, [], false), (((none, 0), (none, 0)), (none, 0))), hst.symm⟩ (Or.inl rfl) (Res.c rfl Tryz.isAgg31 Tryz.sizeOf31 (by repeat' constructor) (by rfl) (Res.c1 rfl Tryz.isAgg36 (by repeat' constructor) (Res.c1 rfl Tryz.isAgg4 (by repeat' constructor) Res.d))) (rfl) rfl (by repeat' (first | constructor | apply Sub.suf))

end Go.Proofs.YtdbiillompeclaaGreatDoor.X

end
section
set_option linter.unusedVariables false
set_option linter.unusedSimpArgs false
namespace Go.Proofs.YtdbiillompeclaaGreatDoor.X
open Go Go.RowKit Go.Proofs Go.Sx
attribute [local irreducible] slA isA box row


set_option maxRecDepth 100000 in
theorem c_nGroup (l : List Patch) (A : Option Addr) (c : Nat) (hl : l.length ≤ 2000000) (hf : ∀ x ∈ l, x.fit) : Con Tryz.prog 55 [.slice A l.length c] [] [slA A l] {x : (List Patch × List Patch) × ((Option Addr × Nat) × (Option Addr × Nat)) // x.1 = group l} (fun x => .tuple #[.slice x.1.2.1.1 x.1.1.1.length x.1.2.1.2, .slice x.1.2.2.1 x.1.1.2.length x.1.2.2.2]) (fun _ => []) (fun x => [slA x.1.2.1.1 x.1.1.1, slA x.1.2.2.1 x.1.1.2]) := by
 refine con Tryz.func55 rfl Tryz.ntmps55 rfl ?_
 intro M0 F0 w0
 refine cs ?_
 refine cr ?_
 refine ls (op (p_asg rfl) rfl) ?_
 refine ls (op (p_asg rfl) rfl) ?_
 refine ln ?_
 refine nthen ?_
 refine cs ?_
 refine cs ?_
 refine cmono (fun a w h => nilRow (α := Patch) 31 h) ?_
 refine cmono (fun a w h => nilRow (α := Patch) 31 h) ?_
 refine cr ?_
 refine ls (op (p_move rfl) rfl) ?_
 refine ls (op (p_lenl rfl Tryz.underlying36) rfl) ?_
 refine ls (op (p_move rfl) rfl) ?_
 refine ln ?_
 refine nthen ?_
 refine cb ?_
 refine cl (ι := {q : Nat × List Patch × List Patch × (Option Addr × Nat) × (Option Addr × Nat) // q.1 ≤ l.length ∧ GI l q.1 q.2.1 q.2.2.1}) (fun i => St M0 F0 w0 42 [(2, .slice i.1.2.2.2.1.1 (i.1.2.1).length i.1.2.2.2.1.2), (3, .slice i.1.2.2.2.2.1 (i.1.2.2.1).length i.1.2.2.2.2.2), (9, .slice A l.length c), (10, .int .i64 (l.length : Int)), (11, .int .i64 (i.1.1 : Int))] [row 31 (i.1.2.2.2.1.1) (i.1.2.2.2.1.2) i.1.2.1, row 31 (i.1.2.2.2.2.1) (i.1.2.2.2.2.2) i.1.2.2.1] [slA A l]) (fun i => l.length - i.1.1) ⟨(0, [], [], (none, 0), (none, 0)), Nat.zero_le _, GI.start l⟩ (wk (is := [0, 0]) (by repeat (first | exact subσ.nil _ | refine subσ.cons rfl ?_)) rfl (by repeat' (first | constructor | apply Sub.suf))) ?_
 rintro ⟨⟨k, g, r, ⟨Ag, cg⟩, ⟨Ax, cx⟩⟩, hk, hI⟩
 refine cmono (S' := St M0 F0 w0 42 [(2, .slice Ag (g).length cg), (3, .slice Ax (r).length cx), (9, .slice A l.length c), (10, .int .i64 (l.length : Int)), (11, .int .i64 (k : Int))] [row 31 (Ag) (cg) g, row 31 (Ax) (cx) r] [slA A l]) (fun _ _ h => h) ?_
 refine cs ?_
 refine cr ?_
 refine ls (op (p_icmp rfl rfl rfl) rfl) ?_
 refine ln ?_
 refine nthen ?_
 refine cs ?_
 refine cc rfl ?_ ?_
 ·
  intro h12
  dsimp only at hk hI
  try simp only [decide_eq_true_eq, decide_eq_false_iff_not, Bool.not_eq_true', Bool.not_eq_false', Int.not_lt, Int.not_le, ge_iff_le, Bool.not_true, Bool.not_false] at h12
  have hk1 : k < l.length := by omega
  have hgl := hI.len; have hfk := hf _ (List.getElem_mem hk1)
  refine cskip ?_
  refine nthen ?_
  refine cs ?_
  refine cb ?_
  refine cs ?_
  refine elC (by repeat' constructor) k (List.getElem?_eq_getElem (l := l) hk1) ?_; rintro zbp zop zyp hAp
  refine cr ?_
  refine ls (op (p_move rfl) rfl) ?_
  refine ls (op (p_ia k hAp hk1 rfl Tryz.underlying36 Tryz.sizeOf31 rfl rfl) rfl) ?_
  refine ls (o_ldj Tryz.isAgg31 Tryz.sizeOf31 rfl (by repeat' constructor) 0 rfl (by repeat (first | exact Cut.d | apply Cut.t | apply Cut.s)) rfl) ?_
  refine ls (o_alloc Tryz.zeroValue31 rfl rfl) ?_
  refine le ?_; intro b5
  refine ls (op (p_asg rfl) rfl) ?_
  refine ls (o_st rfl Tryz.sizeOf31 rfl rfl rfl rfl rfl (by repeat' constructor) (by repeat' constructor) (by repeat' constructor)) ?_
  refine ln ?_
  refine nthen ?_
  refine cs ?_
  refine cr ?_
  refine ls (op (p_move rfl) rfl) ?_
  refine ls (o_ldw Tryz.isAgg31 Tryz.sizeOf31 rfl (by repeat' constructor) (by rfl) rfl) ?_
  refine ls (o_call (is := [1]) Tryz.call59 (c_nPastR g Ag cg (by omega) hI.fg l[k] zyp hfk) rfl rfl (by repeat' (first | constructor | apply Sub.suf)) rfl) ?_
  refine le ?_; rintro ⟨⟨⟨q1, rest1, b3⟩, ⟨yq1, ⟨A1, c1⟩⟩⟩, hr⟩
  dsimp only at hr
  refine ls (op (p_move rfl) rfl) ?_
  refine ls (op (p_ext rfl (by repeat' constructor)) rfl) ?_
  refine ls (op (p_ext rfl (by repeat' constructor)) rfl) ?_
  refine ls (op (p_ext rfl (by repeat' constructor)) rfl) ?_
  refine ls (o_alloc Tryz.zeroValue31 rfl rfl) ?_
  refine le ?_; intro b6
  refine ls (o_st rfl Tryz.sizeOf31 rfl rfl rfl rfl rfl (by repeat' constructor) (by repeat' constructor) (by repeat' constructor)) ?_
  refine ls (op (p_asg rfl) rfl) ?_
  refine ls (op (p_asg rfl) rfl) ?_
  refine ln ?_
  refine nthen ?_
  refine cs ?_
  refine cs ?_
  refine cr ?_
  refine ls (op (p_move rfl) rfl) ?_
  refine ls (op (p_icmp rfl rfl rfl) rfl) ?_
  refine ls (op (p_move rfl) rfl) ?_
  refine orX 3 25 28 rfl (subσ.cons (t := 2) rfl (subσ.cons (t := 3) rfl (subσ.cons (t := 9) rfl (subσ.cons (t := 10) rfl (subσ.cons (t := 11) rfl (subσ.cons (t := 12) rfl (subσ.cons (t := 13) rfl (subσ.cons (t := 14) rfl (subσ.cons (t := 15) rfl (subσ.cons (t := 5) rfl (subσ.cons (t := 17) rfl (subσ.cons (t := 18) rfl (subσ.cons (t := 19) rfl (subσ.cons (t := 16) rfl (subσ.cons (t := 20) rfl (subσ.cons (t := 21) rfl (subσ.cons (t := 22) rfl (subσ.cons (t := 6) rfl (subσ.cons (t := 7) rfl (subσ.nil _)))))))))))))))))))) ?_ ?_
  ·
   intro h25
   refine lskip rfl rfl rfl rfl rfl ?_
   refine lskip rfl rfl rfl rfl rfl ?_
   refine ls (op (p_pickt rfl rfl) rfl) ?_
   refine ln (nmid (wk0 (by repeat (first | exact subσ.nil _ | refine subσ.cons rfl ?_)) (by repeat' (first | constructor | apply Sub.suf))))
  apply exI
  ·
   intro h25
   refine lwant rfl rfl rfl rfl (op (p_move rfl) rfl) ?_
   refine lwant rfl rfl rfl rfl (op (p_not rfl) rfl) ?_
   refine ls (op (p_pickf rfl rfl) rfl) ?_
   refine ln (nmid (wk0 (by repeat (first | exact subσ.nil _ | refine subσ.cons rfl ?_)) (by repeat' (first | constructor | apply Sub.suf))))
  ·
   refine ln ?_
   refine nthen ?_
   refine cc rfl ?_ ?_
   ·
    intro h28
    have hno : k = 0 ∨ (q1, rest1, false) = ppast g l[k] := by (rcases Nat.eq_zero_or_pos k with h0 | h0; · exact .inl h0); · right; rw [← hr]; cases b3 <;> first | rfl | (simp at h28; omega)
    refine cs ?_
    refine cr ?_
    refine ls (op (p_move rfl) rfl) ?_
    refine ls (o_ldw Tryz.isAgg31 Tryz.sizeOf31 rfl (by repeat' constructor) (by rfl) rfl) ?_
    refine ls (o_call (is := []) Tryz.call12 (c_nClone l[k] zyp hfk) rfl rfl (by repeat' (first | constructor | apply Sub.suf)) rfl) ?_
    refine le ?_; intro y31
    refine ls (o_bsl [l[k]] Tryz.underlying36 Tryz.sizeOf31 Tryz.zeroValue31 rfl (Enum.t Enum.d) (RV.t y31 rfl (by repeat' (first | constructor | apply Sub.suf)) RV.d) rfl (by decide) (by decide) rfl) ?_
    refine le ?_; intro b32
    refine lmono (fun a w h => Go.Sx.freeze (i := 0) rfl h) ?_
    refine ls (o_app (is := [2]) Tryz.underlying36 inf31 rfl (by decide) (by decide) rfl rfl (by simp only [List.length_cons, List.length_nil]; omega) (fun h => by cases h) rfl (by repeat' (first | constructor | apply Sub.suf)) rfl) ?_
    refine le ?_; rintro ⟨A2, c2⟩
    refine ls (op (p_asg rfl) rfl) ?_
    refine ln ?_
    refine nthen ?_
    refine cexit ?_
    refine xthen ?_
    refine xblock ?_
    refine nthen ?_
    refine cr ?_
    refine ls (op (p_add rfl rfl (by omega)) rfl) ?_
    refine ls (op (p_move rfl) rfl) ?_
    refine ln ?_
    refine nnext ⟨(k + 1, g ++ [l[k]], r, (A2, c2), (Ax, cx)), hk1, hI.no hk1 hf hno⟩ (by dsimp only; omega) (wk (is := [0, 3]) (by repeat (first | exact subσ.nil _ | refine subσ.cons rfl ?_)) rfl (by repeat' (first | constructor | apply Sub.suf)))
   ·
    intro h28
    have hyes : k ≠ 0 ∧ b3 = true := by cases b3 <;> simp at h28 ⊢; omega
    obtain ⟨hk0, rfl⟩ := hyes
    have hok := ppast_ok hr hI.fg hfk
    refine cskip ?_
    refine nthen ?_
    refine cr ?_
    refine ls (op (p_move rfl) rfl) ?_
    refine ls (op (p_move rfl) rfl) ?_
    refine ls (o_ldw Tryz.isAgg31 Tryz.sizeOf31 rfl (by repeat' constructor) (by rfl) rfl) ?_
    refine ls (o_bsl [q1] Tryz.underlying36 Tryz.sizeOf31 Tryz.zeroValue31 rfl (Enum.t Enum.d) (RV.t yq1 rfl (by repeat' (first | constructor | apply Sub.suf)) RV.d) rfl (by decide) (by decide) rfl) ?_
    refine le ?_; intro b37
    refine lmono (fun a w h => Go.Sx.freeze (i := 0) rfl h) ?_
    refine ls (o_app (is := [4]) Tryz.underlying36 inf31 rfl (by decide) (by decide) rfl rfl (by simp only [List.length_cons, List.length_nil]; omega) (fun h => by cases h) rfl (by repeat' (first | constructor | apply Sub.suf)) rfl) ?_
    refine le ?_; rintro ⟨A2, c2⟩
    refine ls (op (p_asg rfl) rfl) ?_
    refine ls (op (p_asg rfl) rfl) ?_
    refine ln ?_
    refine nblock ?_
    refine nthen ?_
    refine cr ?_
    refine ls (op (p_add rfl rfl (by omega)) rfl) ?_
    refine ls (op (p_move rfl) rfl) ?_
    refine ln ?_
    refine nnext ⟨(k + 1, rest1, r ++ [q1], (A1, c1), (A2, c2)), hk1, hI.yes hk1 hk0 hf hr⟩ (by dsimp only; omega) (wk (is := [2, 0]) (by repeat (first | exact subσ.nil _ | refine subσ.cons rfl ?_)) rfl (by repeat' (first | constructor | apply Sub.suf)))
 ·
  intro h12
  dsimp only at hk hI
  try simp only [decide_eq_true_eq, decide_eq_false_iff_not, Bool.not_eq_true', Bool.not_eq_false', Int.not_lt, Int.not_le, ge_iff_le, Bool.not_true, Bool.not_false] at h12
  have hd := hI.done (by omega)
  refine cexit ?_
  refine xthen ?_
  refine xthen ?_
  refine xblock ?_
  refine nthen ?_
  refine cs ?_
  refine cmono (fun a w h => Go.Sx.freeze (i := 0) rfl h) ?_
  refine cmono (fun a w h => Go.Sx.freeze (i := 0) rfl h) ?_
  refine cr ?_
  refine ls (op (p_move rfl) rfl) ?_
  refine ls (op (p_move rfl) rfl) ?_
  refine ls (op (p_asg rfl) rfl) ?_
  refine ls (op (p_asg rfl) rfl) ?_
  refine ln ?_
  refine nthen ?_
  refine cret ?_
  refine xret (fun _ _ h => h) ?_
  refine rret (is := []) ⟨((g, r), ((Ag, cg), (Ax, cx))), hd.symm⟩ (Or.inl rfl) (Res.t rfl (Res.t rfl Res.d)) (rfl) rfl (by repeat' (first | constructor | apply Sub.suf))

end Go.Proofs.YtdbiillompeclaaGreatDoor.X

end
