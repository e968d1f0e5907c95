/- OWN WORK: a part of the proof of a law of the seat YtdbiillompeclaaGreatDoor: the walk through functions of the program. -/
import Derived.Test.YtdbiillompeclaaGreatDoorProg
import Derived.Test.YtdbiillompeclaaGreatDoorXTy
import Derived.Test.YtdbiillompeclaaGreatDoorXSx2
import Derived.Test.YtdbiillompeclaaGreatDoorXDef
import Derived.Test.YtdbiillompeclaaGreatDoorXShelf
section
set_option linter.unusedVariables false
set_option linter.unusedSimpArgs false
namespace Go.Proofs.YtdbiillompeclaaGreatDoor.X
open Go Go.RowKit Go.Proofs Go.Sx
attribute [local irreducible] slA isA box row

theorem TryzX.mixed : Tryz.prog.follows .mixedOrders = true := by kernel_rfl
set_option maxRecDepth 100000 in
theorem c_Equal (l m : List ByteArray) (A B : Option Addr) (c c' : Nat) (hl : l.length ≤ 2000000) : Con Tryz.prog 134 [.slice A l.length c, .slice B m.length c'] [] [slA A l, slA B m] Unit (fun _ => .bool (decide (l = m))) (fun _ => []) (fun _ => []) := by
 refine con Tryz.func134 rfl Tryz.ntmps134 rfl ?_
 intro M0 F0 w0
 refine cs ?_
 refine cr ?_
 refine ls (op (p_asg rfl) rfl) ?_
 refine ln ?_
 refine nthen ?_
 refine cs ?_
 refine cs ?_
 refine cr ?_
 refine ls (op (p_move rfl) rfl) ?_
 refine ls (op (p_lenl rfl Tryz.underlying37) rfl) ?_
 refine ls (op (p_move rfl) rfl) ?_
 refine ls (op (p_lenl rfl Tryz.underlying37) rfl) ?_
 refine ls (op (p_icmp rfl rfl rfl) rfl) ?_
 refine ln ?_
 refine nthen ?_
 refine cc rfl ?_ ?_
 ·
  intro h10
  try simp only [decide_eq_true_eq, decide_eq_false_iff_not, Bool.not_eq_true', Bool.not_eq_false', Int.not_lt, Int.not_le, ge_iff_le, Bool.not_true, Bool.not_false] at h10
  refine cs ?_
  refine cr ?_
  refine ls (op (p_asg rfl) rfl) ?_
  refine ln ?_
  refine nthen ?_
  refine cret ?_
  refine xret (fun _ _ h => h) ?_
  refine rret (is := []) () (Or.inl rfl) (Res.t rfl Res.d) ?_ rfl (by repeat' (first | constructor | apply Sub.suf))
  simp [packV]; intro e; rw [e] at h10; exact h10 rfl
 ·
  intro h10
  try simp only [decide_eq_true_eq, decide_eq_false_iff_not, Bool.not_eq_true', Bool.not_eq_false', Int.not_lt, Int.not_le, ge_iff_le, Bool.not_true, Bool.not_false] at h10
  refine cskip ?_
  refine nthen ?_
  refine cs ?_
  refine cs ?_
  refine cr ?_
  refine ls (op (p_move rfl) rfl) ?_
  refine ls (op (p_lenl rfl Tryz.underlying37) rfl) ?_
  refine ls (op (p_move rfl) rfl) ?_
  refine ln ?_
  refine nthen ?_
  refine cb ?_
  refine cl (ι := {k : Nat // k ≤ l.length ∧ l.take k = m.take k}) (fun i => St M0 F0 w0 26 [(0, .slice A l.length c), (1, .slice B m.length c'), (12, .int .i64 (l.length : Int)), (13, .int .i64 (i.1 : Int))] [] [slA A l, slA B m]) (fun i => l.length - i.1) ⟨0, by simp⟩ (wk0 (by repeat (first | exact subσ.nil _ | refine subσ.cons rfl ?_)) (by repeat' (first | constructor | apply Sub.suf))) ?_
  rintro ⟨k, hk, hkk⟩
  refine cmono (S' := St M0 F0 w0 26 [(0, .slice A l.length c), (1, .slice B m.length c'), (12, .int .i64 (l.length : Int)), (13, .int .i64 (k : Int))] [] [slA A l, slA B m]) (fun _ _ h => h) ?_
  refine cs ?_
  refine cr ?_
  refine ls (op (p_icmp rfl rfl rfl) rfl) ?_
  refine ln ?_
  refine nthen ?_
  refine cs ?_
  refine cc rfl ?_ ?_
  ·
   intro h14
   try simp only [decide_eq_true_eq, decide_eq_false_iff_not, Bool.not_eq_true', Bool.not_eq_false', Int.not_lt, Int.not_le, ge_iff_le, Bool.not_true, Bool.not_false] at h14
   have hk1 : k < l.length := by omega
   have hk2 : k < m.length := by omega
   refine cskip ?_
   refine nthen ?_
   refine cs ?_
   refine cb ?_
   refine cs ?_
   refine cr ?_
   refine ls (op (p_move rfl) rfl) ?_
   refine ls (op (p_asg rfl) rfl) ?_
   refine ln ?_
   refine nthen ?_
   refine cs ?_
   refine elC (by repeat' constructor) k (List.getElem?_eq_getElem (l := l) hk1) ?_; rintro zbp zop zyp hAp
   refine elC (by repeat' constructor) k (List.getElem?_eq_getElem (l := m) hk2) ?_; rintro zbq zoq zyq hAq
   refine cd [] [(3, zbp, zop + k * Rp.size ByteArray, _), (7, zbq, zoq + k * Rp.size ByteArray, _)] TryzX.mixed (TOk.t (isInS (by repeat' constructor) (k := 0) rfl (z := 1) (by repeat (first | exact Cut.d | apply Cut.t | apply Cut.s))) (TOk.t (isInS (by repeat' constructor) (k := 0) rfl (z := 1) (by repeat (first | exact Cut.d | apply Cut.t | apply Cut.s))) TOk.d)) ?_
   refine tk 0 rfl (by kernel_rfl) (fun _ _ _ h => h) gnone (TTany _) (p_move rfl) rfl ?_
   refine tk 1 rfl (by kernel_rfl) (fun _ _ _ h => h) gnone (TTany _) (p_move rfl) rfl ?_
   refine tk 2 rfl (by kernel_rfl) (fun _ _ _ h => h) gnone (TTany _) (p_ia k hAp hk1 rfl Tryz.underlying37 Tryz.sizeOf9 rfl rfl) rfl ?_
   refine tk 3 rfl (by kernel_rfl) (fun _ _ _ h => h) gnone (TTat (List.Mem.head _)) (p_ld Tryz.isAgg9 rfl) rfl ?_
   refine tk 4 rfl (by kernel_rfl) (fun _ _ _ h => h) gnone (TTany _) (p_move rfl) rfl ?_
   refine tk 5 rfl (by kernel_rfl) (fun _ _ _ h => h) gnone (TTany _) (p_move rfl) rfl ?_
   refine tk 6 rfl (by kernel_rfl) (fun _ _ _ h => h) gnone (TTany _) (p_ia k hAq hk2 rfl Tryz.underlying37 Tryz.sizeOf9 rfl rfl) rfl ?_
   refine tk 7 rfl (by kernel_rfl) (fun _ _ _ h => h) gnone (TTat (List.Mem.tail _ (List.Mem.head _))) (p_ld Tryz.isAgg9 rfl) rfl ?_
   refine tk 8 rfl (by kernel_rfl) (fun _ _ _ h => h) gnone (TTany _) (p_sne rfl rfl) rfl ?_
   refine dn (by kernel_rfl) ?_
   refine nthen ?_
   refine cc rfl ?_ ?_
   ·
    intro h24
    try simp only [decide_eq_true_eq, decide_eq_false_iff_not, Bool.not_eq_true', Bool.not_eq_false', Int.not_lt, Int.not_le, ge_iff_le, Bool.not_true, Bool.not_false] at h24
    refine cs ?_
    refine cr ?_
    refine ls (op (p_asg rfl) rfl) ?_
    refine ln ?_
    refine nthen ?_
    refine cret ?_
    refine xret (fun _ _ h => h) ?_
    refine rret (is := []) () (Or.inl rfl) (Res.t rfl Res.d) ?_ rfl (by repeat' (first | constructor | apply Sub.suf))
    simp [packV]; rintro rfl; exact h24 rfl
   ·
    intro h24
    try simp only [decide_eq_true_eq, decide_eq_false_iff_not, Bool.not_eq_true', Bool.not_eq_false', Int.not_lt, Int.not_le, ge_iff_le, Bool.not_true, Bool.not_false] at h24
    refine cskip ?_
    refine nblock ?_
    refine nthen ?_
    refine cr ?_
    refine ls (op (p_add rfl rfl (by omega)) rfl) ?_
    refine ls (op (p_move rfl) rfl) ?_
    refine ln ?_
    refine nnext ⟨k + 1, hk1, by rw [List.take_succ_eq_append_getElem hk1, List.take_succ_eq_append_getElem hk2, hkk, h24]⟩ (by dsimp only; omega) (wk0 (by repeat (first | exact subσ.nil _ | refine subσ.cons rfl ?_)) (by repeat' (first | constructor | apply Sub.suf)))
  ·
   intro h14
   try simp only [decide_eq_true_eq, decide_eq_false_iff_not, Bool.not_eq_true', Bool.not_eq_false', Int.not_lt, Int.not_le, ge_iff_le, Bool.not_true, Bool.not_false] at h14
   refine cexit ?_
   refine xthen ?_
   refine xthen ?_
   refine xblock ?_
   refine nthen ?_
   refine cs ?_
   refine cr ?_
   refine ls (op (p_asg rfl) rfl) ?_
   refine ln ?_
   refine nthen ?_
   refine cret ?_
   refine xret (fun _ _ h => h) ?_
   refine rret (is := []) () (Or.inl rfl) (Res.t rfl Res.d) ?_ rfl (by repeat' (first | constructor | apply Sub.suf))
   simp [packV]; have := List.take_of_length_le (l := l) (i := k) (by omega); have := List.take_of_length_le (l := m) (i := k) (by omega); simp_all

set_option maxRecDepth 100000 in
theorem c_lineSame (l m : List ByteArray) (A B : Option Addr) (c c' : Nat) (hl : l.length ≤ 2000000) : Con Tryz.prog 83 [.slice A l.length c, .slice B m.length c'] [] [slA A l, slA B m] Unit (fun _ => .bool (decide (l = m))) (fun _ => []) (fun _ => []) := by
 refine con Tryz.func83 rfl Tryz.ntmps83 rfl ?_
 intro M0 F0 w0
 refine cs ?_
 refine cr ?_
 refine ls (op (p_asg rfl) rfl) ?_
 refine ln ?_
 refine nthen ?_
 refine cs ?_
 refine cr ?_
 refine ls (op (p_move rfl) rfl) ?_
 refine ls (op (p_move rfl) rfl) ?_
 refine ls (o_call (is := []) Tryz.call134 (c_Equal l m A B c c' hl) rfl rfl (by repeat' (first | constructor | apply Sub.suf)) rfl) ?_
 refine le ?_; intro x7
 refine ls (op (p_asg rfl) rfl) ?_
 refine ln ?_
 refine nthen ?_
 refine cret ?_
 refine xret (fun _ _ h => h) ?_
 refine rret (is := []) () (Or.inl rfl) (Res.t rfl Res.d) (rfl) rfl (by repeat' (first | constructor | apply Sub.suf))

end Go.Proofs.YtdbiillompeclaaGreatDoor.X

end
section
set_option linter.unusedVariables false
set_option linter.unusedSimpArgs false
namespace Go.Proofs.YtdbiillompeclaaGreatDoor.X
open Go Go.RowKit Go.Proofs Go.Sx
attribute [local irreducible] slA isA box row

set_option maxRecDepth 100000 in
theorem c_IndexFunc0 (l : List ByteArray) (A : Option Addr) (c : Nat) (hl : l.length ≤ 2000000) (f : ByteArray → Bool) (g : FuncId) (cap : List Value) (Γf : List Asn) (hcf : ∀ args w, (callFunc g args).run Tryz.prog w = .ok (.enter g args) w) (hg : ∀ s ∈ l, Con Tryz.prog g (.string s :: cap) [] Γf Unit (fun _ => .bool (f s)) (fun _ => []) (fun _ => [])) : Con Tryz.prog 156 [.slice A l.length c, .func (.func g) #[] cap.toArray] [] (slA A l :: Γf) {r : Int // -1 ≤ r ∧ r ≤ 2000000 ∧ (0 ≤ r ↔ l.any f = true)} (fun r => .int .i64 r.1) (fun _ => []) (fun _ => []) := by
 refine con Tryz.func156 rfl Tryz.ntmps156 rfl ?_
 intro M0 F0 w0
 refine cs ?_
 refine cr ?_
 refine ls (op (p_asg rfl) rfl) ?_
 refine ln ?_
 refine nthen ?_
 refine cs ?_
 refine cs ?_
 refine cr ?_
 refine ls (op (p_move rfl) rfl) ?_
 refine ls (op (p_lenl rfl Tryz.underlying37) rfl) ?_
 refine ls (op (p_move rfl) rfl) ?_
 refine ln ?_
 refine nthen ?_
 refine cb ?_
 refine cl (ι := {k : Nat // k ≤ l.length ∧ (l.take k).any f = false}) (fun i => St M0 F0 w0 19 [(0, .slice A l.length c), (1, .func (.func g) #[] cap.toArray), (7, .int .i64 (l.length : Int)), (8, .int .i64 (i.1 : Int))] [] (slA A l :: Γf)) (fun i => l.length - i.1) ⟨0, by simp⟩ (wk0 (by repeat (first | exact subσ.nil _ | refine subσ.cons rfl ?_)) (by repeat' (first | constructor | apply Sub.suf))) ?_
 rintro ⟨k, hk, hkk⟩
 refine cmono (S' := St M0 F0 w0 19 [(0, .slice A l.length c), (1, .func (.func g) #[] cap.toArray), (7, .int .i64 (l.length : Int)), (8, .int .i64 (k : Int))] [] (slA A l :: Γf)) (fun _ _ h => h) ?_
 refine cs ?_
 refine cr ?_
 refine ls (op (p_icmp rfl rfl rfl) rfl) ?_
 refine ln ?_
 refine nthen ?_
 refine cs ?_
 refine cc rfl ?_ ?_
 ·
  intro h9
  try simp only [decide_eq_true_eq, decide_eq_false_iff_not, Bool.not_eq_true', Bool.not_eq_false', Int.not_lt, Int.not_le, ge_iff_le, Bool.not_true, Bool.not_false] at h9
  have hk1 : k < l.length := by omega
  refine cskip ?_
  refine nthen ?_
  refine cs ?_
  refine cb ?_
  refine cs ?_
  refine cr ?_
  refine ls (op (p_move rfl) rfl) ?_
  refine ls (op (p_asg rfl) rfl) ?_
  refine ln ?_
  refine nthen ?_
  refine cs ?_
  refine elC (by repeat' constructor) k (List.getElem?_eq_getElem (l := l) hk1) ?_; rintro zbp zop zyp hAp
  refine cr ?_
  refine ls (op (p_move rfl) rfl) ?_
  refine ls (op (p_move rfl) rfl) ?_
  refine ls (op (p_move rfl) rfl) ?_
  refine ls (op (p_ia k hAp hk1 rfl Tryz.underlying37 Tryz.sizeOf9 rfl rfl) rfl) ?_
  refine ls (o_ldi Tryz.isAgg9 rfl (by repeat' constructor) 0 rfl (by repeat (first | exact Cut.d | apply Cut.t | apply Cut.s)) rfl) ?_
  refine ls (o_callv (is := []) rfl hcf (hg _ (List.getElem_mem hk1)) rfl rfl rfl (by repeat' (first | constructor | apply Sub.suf)) rfl) ?_
  refine le ?_; intro x16
  refine ln ?_
  refine nthen ?_
  refine cc rfl ?_ ?_
  ·
   intro h16
   try simp only [decide_eq_true_eq, decide_eq_false_iff_not, Bool.not_eq_true', Bool.not_eq_false', Int.not_lt, Int.not_le, ge_iff_le, Bool.not_true, Bool.not_false] at h16
   refine cs ?_
   refine cr ?_
   refine ls (op (p_move rfl) rfl) ?_
   refine ls (op (p_asg rfl) rfl) ?_
   refine ln ?_
   refine nthen ?_
   refine cret ?_
   refine xret (fun _ _ h => h) ?_
   refine rret (is := []) ⟨(k : Int), by omega, by omega, by simp only [List.any_eq_true]; exact ⟨fun _ => ⟨_, List.getElem_mem hk1, h16⟩, fun _ => by omega⟩⟩ (Or.inl rfl) (Res.t rfl Res.d) (rfl) rfl (by repeat' (first | constructor | apply Sub.suf))
  ·
   intro h16
   try simp only [decide_eq_true_eq, decide_eq_false_iff_not, Bool.not_eq_true', Bool.not_eq_false', Int.not_lt, Int.not_le, ge_iff_le, Bool.not_true, Bool.not_false] at h16
   refine cskip ?_
   refine nblock ?_
   refine nthen ?_
   refine cr ?_
   refine ls (op (p_add rfl rfl (by omega)) rfl) ?_
   refine ls (op (p_move rfl) rfl) ?_
   refine ln ?_
   refine nnext ⟨k + 1, hk1, by rw [List.take_succ_eq_append_getElem hk1, List.any_append, hkk]; simp [h16]⟩ (by dsimp only; omega) (wk0 (by repeat (first | exact subσ.nil _ | refine subσ.cons rfl ?_)) (by repeat' (first | constructor | apply Sub.suf)))
 ·
  intro h9
  try simp only [decide_eq_true_eq, decide_eq_false_iff_not, Bool.not_eq_true', Bool.not_eq_false', Int.not_lt, Int.not_le, ge_iff_le, Bool.not_true, Bool.not_false] at h9
  refine cexit ?_
  refine xthen ?_
  refine xthen ?_
  refine xblock ?_
  refine nthen ?_
  refine cs ?_
  refine cr ?_
  refine ls (op (p_asg rfl) rfl) ?_
  refine ln ?_
  refine nthen ?_
  refine cret ?_
  refine xret (fun _ _ h => h) ?_
  refine rret (is := []) ⟨-1, by omega, by omega, by rw [List.take_of_length_le (by omega)] at hkk; simp [hkk]⟩ (Or.inl rfl) (Res.t rfl Res.d) (rfl) rfl (by repeat' (first | constructor | apply Sub.suf))

set_option maxRecDepth 100000 in
theorem c_ContainsFunc0 (l : List ByteArray) (A : Option Addr) (c : Nat) (hl : l.length ≤ 2000000) (f : ByteArray → Bool) (g : FuncId) (cap : List Value) (Γf : List Asn) (hcf : ∀ args w, (callFunc g args).run Tryz.prog w = .ok (.enter g args) w) (hg : ∀ s ∈ l, Con Tryz.prog g (.string s :: cap) [] Γf Unit (fun _ => .bool (f s)) (fun _ => []) (fun _ => [])) : Con Tryz.prog 124 [.slice A l.length c, .func (.func g) #[] cap.toArray] [] (slA A l :: Γf) Unit (fun _ => .bool (l.any f)) (fun _ => []) (fun _ => []) := by
 refine con Tryz.func124 rfl Tryz.ntmps124 rfl ?_
 intro M0 F0 w0
 refine cs ?_
 refine cr ?_
 refine ls (op (p_asg rfl) rfl) ?_
 refine ln ?_
 refine nthen ?_
 refine cs ?_
 refine cr ?_
 refine ls (op (p_move rfl) rfl) ?_
 refine ls (op (p_move rfl) rfl) ?_
 refine ls (o_call (is := []) Tryz.call156 (c_IndexFunc0 l A c hl f g cap Γf  hcf hg) rfl rfl (by repeat' (first | constructor | apply Sub.suf)) rfl) ?_
 refine le ?_; rintro ⟨r, hr1, hr2, hr3⟩
 refine ls (op (p_icmp rfl rfl rfl) rfl) ?_
 refine ls (op (p_asg rfl) rfl) ?_
 refine ln ?_
 refine nthen ?_
 refine cret ?_
 refine xret (fun _ _ h => h) ?_
 refine rret (is := []) () (Or.inl rfl) (Res.t rfl Res.d) ?_ rfl (by repeat' (first | constructor | apply Sub.suf))
 simp [packV]; rw [Bool.eq_iff_iff]; simp [← hr3]

set_option maxRecDepth 100000 in
theorem c_IndexFunc1 (l : List ByteArray) (A : Option Addr) (c : Nat) (hl : l.length ≤ 2000000) (f : ByteArray → Bool) (g : FuncId) (cap : List Value) (Γf : List Asn) (x : Xsn) (hcf : ∀ args w, (callFunc g args).run Tryz.prog w = .ok (.enter g args) w) (hg : ∀ s ∈ l, Con Tryz.prog g (.string s :: cap) [x] Γf Unit (fun _ => .bool (f s)) (fun _ => [x]) (fun _ => [])) : Con Tryz.prog 156 [.slice A l.length c, .func (.func g) #[] cap.toArray] [x] (slA A l :: Γf) {r : Int // -1 ≤ r ∧ r ≤ 2000000 ∧ (0 ≤ r ↔ l.any f = true)} (fun r => .int .i64 r.1) (fun _ => [x]) (fun _ => []) := by
 refine con Tryz.func156 rfl Tryz.ntmps156 rfl ?_
 intro M0 F0 w0
 refine cs ?_
 refine cr ?_
 refine ls (op (p_asg rfl) rfl) ?_
 refine ln ?_
 refine nthen ?_
 refine cs ?_
 refine cs ?_
 refine cr ?_
 refine ls (op (p_move rfl) rfl) ?_
 refine ls (op (p_lenl rfl Tryz.underlying37) rfl) ?_
 refine ls (op (p_move rfl) rfl) ?_
 refine ln ?_
 refine nthen ?_
 refine cb ?_
 refine cl (ι := {k : Nat // k ≤ l.length ∧ (l.take k).any f = false}) (fun i => St M0 F0 w0 19 [(0, .slice A l.length c), (1, .func (.func g) #[] cap.toArray), (7, .int .i64 (l.length : Int)), (8, .int .i64 (i.1 : Int))] [x] (slA A l :: Γf)) (fun i => l.length - i.1) ⟨0, by simp⟩ (wk0 (by repeat (first | exact subσ.nil _ | refine subσ.cons rfl ?_)) (by repeat' (first | constructor | apply Sub.suf))) ?_
 rintro ⟨k, hk, hkk⟩
 refine cmono (S' := St M0 F0 w0 19 [(0, .slice A l.length c), (1, .func (.func g) #[] cap.toArray), (7, .int .i64 (l.length : Int)), (8, .int .i64 (k : Int))] [x] (slA A l :: Γf)) (fun _ _ h => h) ?_
 refine cs ?_
 refine cr ?_
 refine ls (op (p_icmp rfl rfl rfl) rfl) ?_
 refine ln ?_
 refine nthen ?_
 refine cs ?_
 refine cc rfl ?_ ?_
 ·
  intro h9
  try simp only [decide_eq_true_eq, decide_eq_false_iff_not, Bool.not_eq_true', Bool.not_eq_false', Int.not_lt, Int.not_le, ge_iff_le, Bool.not_true, Bool.not_false] at h9
  have hk1 : k < l.length := by omega
  refine cskip ?_
  refine nthen ?_
  refine cs ?_
  refine cb ?_
  refine cs ?_
  refine cr ?_
  refine ls (op (p_move rfl) rfl) ?_
  refine ls (op (p_asg rfl) rfl) ?_
  refine ln ?_
  refine nthen ?_
  refine cs ?_
  refine elC (by repeat' constructor) k (List.getElem?_eq_getElem (l := l) hk1) ?_; rintro zbp zop zyp hAp
  refine cr ?_
  refine ls (op (p_move rfl) rfl) ?_
  refine ls (op (p_move rfl) rfl) ?_
  refine ls (op (p_move rfl) rfl) ?_
  refine ls (op (p_ia k hAp hk1 rfl Tryz.underlying37 Tryz.sizeOf9 rfl rfl) rfl) ?_
  refine ls (o_ldi Tryz.isAgg9 rfl (by repeat' constructor) 0 rfl (by repeat (first | exact Cut.d | apply Cut.t | apply Cut.s)) rfl) ?_
  refine ls (o_callv (is := [0]) rfl hcf (hg _ (List.getElem_mem hk1)) rfl rfl rfl (by repeat' (first | constructor | apply Sub.suf)) rfl) ?_
  refine le ?_; intro x16
  refine ln ?_
  refine nthen ?_
  refine cc rfl ?_ ?_
  ·
   intro h16
   try simp only [decide_eq_true_eq, decide_eq_false_iff_not, Bool.not_eq_true', Bool.not_eq_false', Int.not_lt, Int.not_le, ge_iff_le, Bool.not_true, Bool.not_false] at h16
   refine cs ?_
   refine cr ?_
   refine ls (op (p_move rfl) rfl) ?_
   refine ls (op (p_asg rfl) rfl) ?_
   refine ln ?_
   refine nthen ?_
   refine cret ?_
   refine xret (fun _ _ h => h) ?_
   refine rret (is := [0]) ⟨(k : Int), by omega, by omega, by simp only [List.any_eq_true]; exact ⟨fun _ => ⟨_, List.getElem_mem hk1, h16⟩, fun _ => by omega⟩⟩ (Or.inl rfl) (Res.t rfl Res.d) (rfl) rfl (by repeat' (first | constructor | apply Sub.suf))
  ·
   intro h16
   try simp only [decide_eq_true_eq, decide_eq_false_iff_not, Bool.not_eq_true', Bool.not_eq_false', Int.not_lt, Int.not_le, ge_iff_le, Bool.not_true, Bool.not_false] at h16
   refine cskip ?_
   refine nblock ?_
   refine nthen ?_
   refine cr ?_
   refine ls (op (p_add rfl rfl (by omega)) rfl) ?_
   refine ls (op (p_move rfl) rfl) ?_
   refine ln ?_
   refine nnext ⟨k + 1, hk1, by rw [List.take_succ_eq_append_getElem hk1, List.any_append, hkk]; simp [h16]⟩ (by dsimp only; omega) (wk0 (by repeat (first | exact subσ.nil _ | refine subσ.cons rfl ?_)) (by repeat' (first | constructor | apply Sub.suf)))
 ·
  intro h9
  try simp only [decide_eq_true_eq, decide_eq_false_iff_not, Bool.not_eq_true', Bool.not_eq_false', Int.not_lt, Int.not_le, ge_iff_le, Bool.not_true, Bool.not_false] at h9
  refine cexit ?_
  refine xthen ?_
  refine xthen ?_
  refine xblock ?_
  refine nthen ?_
  refine cs ?_
  refine cr ?_
  refine ls (op (p_asg rfl) rfl) ?_
  refine ln ?_
  refine nthen ?_
  refine cret ?_
  refine xret (fun _ _ h => h) ?_
  refine rret (is := [0]) ⟨-1, by omega, by omega, by rw [List.take_of_length_le (by omega)] at hkk; simp [hkk]⟩ (Or.inl rfl) (Res.t rfl Res.d) (rfl) rfl (by repeat' (first | constructor | apply Sub.suf))

set_option maxRecDepth 100000 in
theorem c_ContainsFunc1 (l : List ByteArray) (A : Option Addr) (c : Nat) (hl : l.length ≤ 2000000) (f : ByteArray → Bool) (g : FuncId) (cap : List Value) (Γf : List Asn) (x : Xsn) (hcf : ∀ args w, (callFunc g args).run Tryz.prog w = .ok (.enter g args) w) (hg : ∀ s ∈ l, Con Tryz.prog g (.string s :: cap) [x] Γf Unit (fun _ => .bool (f s)) (fun _ => [x]) (fun _ => [])) : Con Tryz.prog 124 [.slice A l.length c, .func (.func g) #[] cap.toArray] [x] (slA A l :: Γf) Unit (fun _ => .bool (l.any f)) (fun _ => [x]) (fun _ => []) := by
 refine con Tryz.func124 rfl Tryz.ntmps124 rfl ?_
 intro M0 F0 w0
 refine cs ?_
 refine cr ?_
 refine ls (op (p_asg rfl) rfl) ?_
 refine ln ?_
 refine nthen ?_
 refine cs ?_
 refine cr ?_
 refine ls (op (p_move rfl) rfl) ?_
 refine ls (op (p_move rfl) rfl) ?_
 refine ls (o_call (is := [0]) Tryz.call156 (c_IndexFunc1 l A c hl f g cap Γf x hcf hg) rfl rfl (by repeat' (first | constructor | apply Sub.suf)) rfl) ?_
 refine le ?_; rintro ⟨r, hr1, hr2, hr3⟩
 refine ls (op (p_icmp rfl rfl rfl) rfl) ?_
 refine ls (op (p_asg rfl) rfl) ?_
 refine ln ?_
 refine nthen ?_
 refine cret ?_
 refine xret (fun _ _ h => h) ?_
 refine rret (is := [0]) () (Or.inl rfl) (Res.t rfl Res.d) ?_ rfl (by repeat' (first | constructor | apply Sub.suf))
 simp [packV]; rw [Bool.eq_iff_iff]; simp [← hr3]

set_option maxRecDepth 100000 in
theorem c_Index (l : List ByteArray) (A : Option Addr) (c : Nat) (hl : l.length ≤ 2000000) (v : ByteArray) : Con Tryz.prog 217 [.slice A l.length c, .string v] [] [slA A l] {r : Int // -1 ≤ r ∧ r ≤ 2000000 ∧ (0 ≤ r ↔ v ∈ l)} (fun r => .int .i64 r.1) (fun _ => []) (fun _ => []) := by
 refine con Tryz.func217 rfl Tryz.ntmps217 rfl ?_
 intro M0 F0 w0
 refine cs ?_
 refine cr ?_
 refine ls (op (p_asg rfl) rfl) ?_
 refine ln ?_
 refine nthen ?_
 refine cs ?_
 refine cs ?_
 refine cr ?_
 refine ls (op (p_move rfl) rfl) ?_
 refine ls (op (p_lenl rfl Tryz.underlying37) rfl) ?_
 refine ls (op (p_move rfl) rfl) ?_
 refine ln ?_
 refine nthen ?_
 refine cb ?_
 refine cl (ι := {k : Nat // k ≤ l.length ∧ v ∉ l.take k}) (fun i => St M0 F0 w0 19 [(0, .slice A l.length c), (1, .string v), (7, .int .i64 (l.length : Int)), (8, .int .i64 (i.1 : Int))] [] [slA A l]) (fun i => l.length - i.1) ⟨0, by simp⟩ (wk0 (by repeat (first | exact subσ.nil _ | refine subσ.cons rfl ?_)) (by repeat' (first | constructor | apply Sub.suf))) ?_
 rintro ⟨k, hk, hkk⟩
 refine cmono (S' := St M0 F0 w0 19 [(0, .slice A l.length c), (1, .string v), (7, .int .i64 (l.length : Int)), (8, .int .i64 (k : Int))] [] [slA A l]) (fun _ _ h => h) ?_
 refine cs ?_
 refine cr ?_
 refine ls (op (p_icmp rfl rfl rfl) rfl) ?_
 refine ln ?_
 refine nthen ?_
 refine cs ?_
 refine cc rfl ?_ ?_
 ·
  intro h9
  try simp only [decide_eq_true_eq, decide_eq_false_iff_not, Bool.not_eq_true', Bool.not_eq_false', Int.not_lt, Int.not_le, ge_iff_le, Bool.not_true, Bool.not_false] at h9
  have hk1 : k < l.length := by omega
  refine cskip ?_
  refine nthen ?_
  refine cs ?_
  refine cb ?_
  refine cs ?_
  refine cr ?_
  refine ls (op (p_move rfl) rfl) ?_
  refine ls (op (p_asg rfl) rfl) ?_
  refine ln ?_
  refine nthen ?_
  refine cs ?_
  refine elC (by repeat' constructor) k (List.getElem?_eq_getElem (l := l) hk1) ?_; rintro zbp zop zyp hAp
  refine cr ?_
  refine ls (op (p_move rfl) rfl) ?_
  refine ls (op (p_move rfl) rfl) ?_
  refine ls (op (p_move rfl) rfl) ?_
  refine ls (op (p_ia k hAp hk1 rfl Tryz.underlying37 Tryz.sizeOf9 rfl rfl) rfl) ?_
  refine ls (o_ldi Tryz.isAgg9 rfl (by repeat' constructor) 0 rfl (by repeat (first | exact Cut.d | apply Cut.t | apply Cut.s)) rfl) ?_
  refine ls (op (p_seq rfl rfl) rfl) ?_
  refine ln ?_
  refine nthen ?_
  refine cc rfl ?_ ?_
  ·
   intro h16
   try simp only [decide_eq_true_eq, decide_eq_false_iff_not, Bool.not_eq_true', Bool.not_eq_false', Int.not_lt, Int.not_le, ge_iff_le, Bool.not_true, Bool.not_false] at h16
   refine cs ?_
   refine cr ?_
   refine ls (op (p_move rfl) rfl) ?_
   refine ls (op (p_asg rfl) rfl) ?_
   refine ln ?_
   refine nthen ?_
   refine cret ?_
   refine xret (fun _ _ h => h) ?_
   refine rret (is := []) ⟨(k : Int), by omega, by omega, ⟨fun _ => h16 ▸ List.getElem_mem hk1, fun _ => by omega⟩⟩ (Or.inl rfl) (Res.t rfl Res.d) (rfl) rfl (by repeat' (first | constructor | apply Sub.suf))
  ·
   intro h16
   try simp only [decide_eq_true_eq, decide_eq_false_iff_not, Bool.not_eq_true', Bool.not_eq_false', Int.not_lt, Int.not_le, ge_iff_le, Bool.not_true, Bool.not_false] at h16
   refine cskip ?_
   refine nblock ?_
   refine nthen ?_
   refine cr ?_
   refine ls (op (p_add rfl rfl (by omega)) rfl) ?_
   refine ls (op (p_move rfl) rfl) ?_
   refine ln ?_
   refine nnext ⟨k + 1, hk1, by rw [List.take_succ_eq_append_getElem hk1, List.mem_append]; simp [h16, hkk]⟩ (by dsimp only; omega) (wk0 (by repeat (first | exact subσ.nil _ | refine subσ.cons rfl ?_)) (by repeat' (first | constructor | apply Sub.suf)))
 ·
  intro h9
  try simp only [decide_eq_true_eq, decide_eq_false_iff_not, Bool.not_eq_true', Bool.not_eq_false', Int.not_lt, Int.not_le, ge_iff_le, Bool.not_true, Bool.not_false] at h9
  refine cexit ?_
  refine xthen ?_
  refine xthen ?_
  refine xblock ?_
  refine nthen ?_
  refine cs ?_
  refine cr ?_
  refine ls (op (p_asg rfl) rfl) ?_
  refine ln ?_
  refine nthen ?_
  refine cret ?_
  refine xret (fun _ _ h => h) ?_
  refine rret (is := []) ⟨-1, by omega, by omega, by rw [List.take_of_length_le (by omega)] at hkk; simp [hkk]⟩ (Or.inl rfl) (Res.t rfl Res.d) (rfl) rfl (by repeat' (first | constructor | apply Sub.suf))

set_option maxRecDepth 100000 in
theorem c_Contains (l : List ByteArray) (A : Option Addr) (c : Nat) (hl : l.length ≤ 2000000) (v : ByteArray) : Con Tryz.prog 209 [.slice A l.length c, .string v] [] [slA A l] Unit (fun _ => .bool (l.any fun s => decide (s = v))) (fun _ => []) (fun _ => []) := by
 refine con Tryz.func209 rfl Tryz.ntmps209 rfl ?_
 intro M0 F0 w0
 refine cs ?_
 refine cr ?_
 refine ls (op (p_asg rfl) rfl) ?_
 refine ln ?_
 refine nthen ?_
 refine cs ?_
 refine cr ?_
 refine ls (op (p_move rfl) rfl) ?_
 refine ls (op (p_move rfl) rfl) ?_
 refine ls (o_call (is := []) Tryz.call217 (c_Index l A c hl v) rfl rfl (by repeat' (first | constructor | apply Sub.suf)) rfl) ?_
 refine le ?_; rintro ⟨r, hr1, hr2, hr3⟩
 refine ls (op (p_icmp rfl rfl rfl) rfl) ?_
 refine ls (op (p_asg rfl) rfl) ?_
 refine ln ?_
 refine nthen ?_
 refine cret ?_
 refine xret (fun _ _ h => h) ?_
 refine rret (is := []) () (Or.inl rfl) (Res.t rfl Res.d) ?_ rfl (by repeat' (first | constructor | apply Sub.suf))
 simp [packV]; rw [Bool.eq_iff_iff]; simp [hr3]

end Go.Proofs.YtdbiillompeclaaGreatDoor.X

end
section
set_option linter.unusedVariables false
set_option linter.unusedSimpArgs false
namespace Go.Proofs.YtdbiillompeclaaGreatDoor.X
open Go Go.RowKit Go.Proofs Go.Sx
attribute [local irreducible] slA isA box row
open Go.Shelf

def alpha : ByteArray := ⟨#[97, 98, 99, 100, 101, 102, 103, 104, 105, 106, 107, 108, 109, 110, 111, 112, 113, 114, 115, 116, 117, 118, 119, 120, 121, 122, 48, 49, 50, 51, 52, 53, 54, 55, 56, 57, 46, 45, 95, 47]⟩
theorem alpha_nameB : ∀ b : UInt8, (ofB alpha).contains b = nameB b := fun b => by
 have h : ∀ n : Fin 256, (ofB alpha).contains (UInt8.ofFin n) = nameB (UInt8.ofFin n) := by decide +kernel
 exact h b.toFin
theorem l_Contains (s : ByteArray) : Con Tryz.prog 144 [.string s, .string ⟨#[10]⟩] [] [] Unit (fun _ => .bool ((ofB s).contains 10)) (fun _ => []) (fun _ => []) := by
 refine con_same fun w => ?_
 have h := Tryz.strings_Contains_one s 10 w
 have e : decide (0 ≤ Lib.indexByte s.data.toList 10) = (ofB s).contains 10 := (Lib.contains_iff_indexByte _ _).symm
 rw [e] at h
 exact h
theorem l_Trim (s : ByteArray) (hs : s.size ≤ 2000000) : Con Tryz.prog 123 [.string s, .string alpha] [] [] Unit (fun _ => .string ⟨(Lib.trimS (ofB s) (ofB alpha)).toArray⟩) (fun _ => []) (fun _ => []) := by
 refine con_below fun M0 w _ => ?_
 exact Any.strings_Trim_laid Tryz.lays160 (by kernel_rfl) s alpha w (by omega) (by decide) (ascii_of_all (by decide))
theorem trim_name (s : ByteArray) : decide ((⟨(Lib.trimS (ofB s) (ofB alpha)).toArray⟩ : ByteArray) = ⟨#[]⟩) = (ofB s).all nameB := by
 rw [Bool.eq_iff_iff, decide_eq_true_iff, List.all_eq_true]
 have : ((⟨(Lib.trimS (ofB s) (ofB alpha)).toArray⟩ : ByteArray) = ⟨#[]⟩) ↔ Lib.trimS (ofB s) (ofB alpha) = [] := by
  constructor
  ·
   intro h
   have := congrArg (fun b : ByteArray => b.data.toList) h
   simpa using this
  ·
   intro h; rw [h]
 rw [this, trimS_nil]
 simp only [alpha_nameB]
theorem l_Sort (e : TypeId) (A : Option Addr) (c : Nat) (l : List ByteArray) (hl : l.length ≤ 2000000) : Con Tryz.prog 138 [.slice A l.length c] [row e A c l] [] Unit (fun _ => .tuple #[]) (fun _ => [row e A c (sortB l)]) (fun _ => []) :=
 con_sort e A c l hl (fun w => Tryz.slices_Sort_string_none none 0 w) (fun blk cap ss w h1 h2 h3 => Tryz.slices_Sort_string blk 0 cap ss w h1 h2 h3)

theorem fa39_0 : FA Tryz.prog 39 0 0 := fun b o w => by kernel_rfl
theorem fa39_1 : FA Tryz.prog 39 1 1 := fun b o w => by kernel_rfl
theorem fa39_2 : FA Tryz.prog 39 2 2 := fun b o w => by kernel_rfl
theorem fa39_3 : FA Tryz.prog 39 3 3 := fun b o w => by kernel_rfl
theorem fa39_4 : FA Tryz.prog 39 4 4 := fun b o w => by kernel_rfl
theorem fa39_5 : FA Tryz.prog 39 5 5 := fun b o w => by kernel_rfl
set_option maxRecDepth 100000 in
theorem c_lineRight (s : ByteArray) : Con Tryz.prog 114 [.string s] [] [] Unit (fun _ => .bool (lineOk s)) (fun _ => []) (fun _ => []) := by
 refine con Tryz.func114 rfl Tryz.ntmps114 rfl ?_
 intro M0 F0 w0
 refine cs ?_
 refine cr ?_
 refine ls (op (p_asg rfl) rfl) ?_
 refine ln ?_
 refine nthen ?_
 refine cs ?_
 refine cr ?_
 refine ls (op (p_move rfl) rfl) ?_
 refine ls (op (p_lens rfl Tryz.underlying9) rfl) ?_
 refine ls (op (p_icmp rfl rfl rfl) rfl) ?_
 refine ls (op (p_move rfl) rfl) ?_
 refine andX 4 6 10 rfl (subσ.cons (t := 2) rfl (subσ.nil _)) ?_ ?_
 ·
  intro h6
  refine lskip rfl rfl rfl rfl rfl ?_
  refine lskip rfl rfl rfl rfl rfl ?_
  refine lskip rfl rfl rfl rfl rfl ?_
  refine ls (op (p_pickf rfl rfl) rfl) ?_
  refine ln (nmid (wk0 (by repeat (first | exact subσ.nil _ | refine subσ.cons rfl ?_)) (by repeat' (first | constructor | apply Sub.suf))))
 apply exI
 ·
  intro h6
  refine lwant rfl rfl rfl rfl (op (p_move rfl) rfl) ?_
  refine lwant rfl rfl rfl rfl (o_call (is := []) Tryz.call144 (l_Contains s) rfl rfl (by repeat' (first | constructor | apply Sub.suf)) rfl) ?_
  refine le ?_; intro x8
  refine lwant rfl rfl rfl rfl (op (p_not rfl) rfl) ?_
  refine ls (op (p_pickt rfl rfl) rfl) ?_
  refine ln (nmid (wk0 (by repeat (first | exact subσ.nil _ | refine subσ.cons rfl ?_)) (by repeat' (first | constructor | apply Sub.suf))))
 ·
  refine ls (op (p_asg rfl) rfl) ?_
  refine ln ?_
  refine nthen ?_
  refine cret ?_
  refine xret (fun _ _ h => h) ?_
  refine rret (is := []) () (Or.inl rfl) (Res.t rfl Res.d) (rfl) rfl (by repeat' (first | constructor | apply Sub.suf))

set_option maxRecDepth 100000 in
theorem c_lineAll1 (s : ByteArray) : Con Tryz.prog 125 [.string s] [] [] Unit (fun _ => .bool (!lineOk s)) (fun _ => []) (fun _ => []) := by
 refine con Tryz.func125 rfl Tryz.ntmps125 rfl ?_
 intro M0 F0 w0
 refine cs ?_
 refine cr ?_
 refine ls (op (p_asg rfl) rfl) ?_
 refine ln ?_
 refine nthen ?_
 refine cs ?_
 refine cr ?_
 refine ls (op (p_move rfl) rfl) ?_
 refine ls (o_call (is := []) Tryz.call114 (c_lineRight s) rfl rfl (by repeat' (first | constructor | apply Sub.suf)) rfl) ?_
 refine le ?_; intro x4
 refine ls (op (p_not rfl) rfl) ?_
 refine ls (op (p_asg rfl) rfl) ?_
 refine ln ?_
 refine nthen ?_
 refine cret ?_
 refine xret (fun _ _ h => h) ?_
 refine rret (is := []) () (Or.inl rfl) (Res.t rfl Res.d) (rfl) rfl (by repeat' (first | constructor | apply Sub.suf))

set_option maxRecDepth 100000 in
theorem c_lineAll (l : List ByteArray) (A : Option Addr) (c : Nat) (hl : l.length ≤ 2000000) : Con Tryz.prog 73 [.slice A l.length c] [] [slA A l] Unit (fun _ => .bool (l.all lineOk)) (fun _ => []) (fun _ => []) := by
 refine con Tryz.func73 rfl Tryz.ntmps73 rfl ?_
 intro M0 F0 w0
 refine cs ?_
 refine cr ?_
 refine ls (op (p_asg rfl) rfl) ?_
 refine ln ?_
 refine nthen ?_
 refine cs ?_
 refine cr ?_
 refine ls (op (p_move rfl) rfl) ?_
 refine ls (o_call (is := []) Tryz.call124 (c_ContainsFunc0 l A c hl (fun s => !lineOk s) 125 [] [] Tryz.call125 (fun s _ => c_lineAll1 s)) rfl rfl (by repeat' (first | constructor | apply Sub.suf)) rfl) ?_
 refine le ?_; intro x4
 refine ls (op (p_not rfl) rfl) ?_
 refine ls (op (p_asg rfl) rfl) ?_
 refine ln ?_
 refine nthen ?_
 refine cret ?_
 refine xret (fun _ _ h => h) ?_
 refine rret (is := []) () (Or.inl rfl) (Res.t rfl Res.d) ?_ rfl (by repeat' (first | constructor | apply Sub.suf))
 simp [packV, List.any_eq_not_all_not]

set_option maxRecDepth 100000 in
theorem c_treeNamed (s : ByteArray) : Con Tryz.prog 71 [.string s] [] [] Unit (fun _ => .bool (nameOk s)) (fun _ => []) (fun _ => []) := by
 refine con Tryz.func71 rfl Tryz.ntmps71 rfl ?_
 intro M0 F0 w0
 refine cs ?_
 refine cr ?_
 refine ls (op (p_asg rfl) rfl) ?_
 refine ln ?_
 refine nthen ?_
 refine cs ?_
 refine cr ?_
 refine ls (op (p_move rfl) rfl) ?_
 refine ls (op (p_lens rfl Tryz.underlying9) rfl) ?_
 refine ls (op (p_icmp rfl rfl rfl) rfl) ?_
 refine ls (op (p_move rfl) rfl) ?_
 refine andX 4 6 10 rfl (subσ.cons (t := 0) rfl (subσ.cons (t := 2) rfl (subσ.nil _))) ?_ ?_
 ·
  intro h6
  refine lskip rfl rfl rfl rfl rfl ?_
  refine lskip rfl rfl rfl rfl rfl ?_
  refine lskip rfl rfl rfl rfl rfl ?_
  refine ls (op (p_pickf rfl rfl) rfl) ?_
  refine ln (nmid (wk0 (by repeat (first | exact subσ.nil _ | refine subσ.cons rfl ?_)) (by repeat' (first | constructor | apply Sub.suf))))
 apply exI
 ·
  intro h6
  refine lwant rfl rfl rfl rfl (op (p_move rfl) rfl) ?_
  refine lwant rfl rfl rfl rfl (op (p_lens rfl Tryz.underlying9) rfl) ?_
  refine lwant rfl rfl rfl rfl (op (p_icmp rfl rfl rfl) rfl) ?_
  refine ls (op (p_pickt rfl rfl) rfl) ?_
  refine ln (nmid (wk0 (by repeat (first | exact subσ.nil _ | refine subσ.cons rfl ?_)) (by repeat' (first | constructor | apply Sub.suf))))
 ·
  refine ls (op (p_move rfl) rfl) ?_
  refine andX 4 11 15 rfl (subσ.cons (t := 2) rfl (subσ.nil _)) ?_ ?_
  ·
   intro h11
   refine lskip rfl rfl rfl rfl rfl ?_
   refine lskip rfl rfl rfl rfl rfl ?_
   refine lskip rfl rfl rfl rfl rfl ?_
   refine ls (op (p_pickf rfl rfl) rfl) ?_
   refine ln (nmid (wk0 (by repeat (first | exact subσ.nil _ | refine subσ.cons rfl ?_)) (by repeat' (first | constructor | apply Sub.suf))))
  apply exI
  ·
   intro h11
   refine lwant rfl rfl rfl rfl (op (p_move rfl) rfl) ?_
   refine lwant rfl rfl rfl rfl (o_call (is := []) Tryz.call123 (l_Trim s (by simp only [Bool.and_eq_true, decide_eq_true_eq] at h11; omega)) rfl rfl (by repeat' (first | constructor | apply Sub.suf)) rfl) ?_
   refine le ?_; intro x13
   refine lwant rfl rfl rfl rfl (op (p_seq rfl rfl) rfl) ?_
   refine ls (op (p_pickt rfl rfl) rfl) ?_
   refine ln (nmid (wk0 (by repeat (first | exact subσ.nil _ | refine subσ.cons rfl ?_)) (by repeat' (first | constructor | apply Sub.suf))))
  ·
   refine ls (op (p_asg rfl) rfl) ?_
   refine ln ?_
   refine nthen ?_
   refine cret ?_
   refine xret (fun _ _ h => h) ?_
   refine rret (is := []) () (Or.inl rfl) (Res.t rfl Res.d) ?_ rfl (by repeat' (first | constructor | apply Sub.suf))
   simp only [packV, nameOk, ← trim_name]

set_option maxRecDepth 100000 in
theorem c_primRight (p : Prim) (y : Rp.Lay Prim) (hp : p.fit) : Con Tryz.prog 101 [sv p y] [] (Rp.asn p y) Unit (fun _ => .bool (p.right)) (fun _ => []) (fun _ => []) := by
 refine con Tryz.func101 rfl Tryz.ntmps101 rfl ?_
 intro M0 F0 w0
 refine cs ?_
 refine cr ?_
 refine ls (o_box rfl rfl rfl) ?_
 refine le ?_; intro b1
 refine ls (op (p_asg rfl) rfl) ?_
 refine ln ?_
 refine nthen ?_
 refine cs ?_
 refine cr ?_
 refine ls (op (p_fa fa39_3 rfl) rfl) ?_
 refine ls (o_ld Tryz.isAgg3 rfl (by repeat' constructor) (by repeat' constructor) rfl) ?_
 refine ls (op (p_icmp rfl rfl rfl) rfl) ?_
 refine ls (op (p_move rfl) rfl) ?_
 refine andX 5 7 12 rfl (subσ.cons (t := 0) rfl (subσ.cons (t := 1) rfl (subσ.cons (t := 2) rfl (subσ.nil _)))) ?_ ?_
 ·
  intro h7
  refine lskip rfl rfl rfl rfl rfl ?_
  refine lskip rfl rfl rfl rfl rfl ?_
  refine lskip rfl rfl rfl rfl rfl ?_
  refine lskip rfl rfl rfl rfl rfl ?_
  refine ls (op (p_pickf rfl rfl) rfl) ?_
  refine ln (nmid (wk0 (by repeat (first | exact subσ.nil _ | refine subσ.cons rfl ?_)) (by repeat' (first | constructor | apply Sub.suf))))
 apply exI
 ·
  intro h7
  refine lwant rfl rfl rfl rfl (op (p_fa fa39_4 rfl) rfl) ?_
  refine lwant rfl rfl rfl rfl (o_ld Tryz.isAgg37 rfl (by repeat' constructor) (by repeat' constructor) rfl) ?_
  refine lwant rfl rfl rfl rfl (op (p_lenl rfl Tryz.underlying37) rfl) ?_
  refine lwant rfl rfl rfl rfl (op (p_icmp rfl rfl rfl) rfl) ?_
  refine ls (op (p_pickt rfl rfl) rfl) ?_
  refine ln (nmid (wk0 (by repeat (first | exact subσ.nil _ | refine subσ.cons rfl ?_)) (by repeat' (first | constructor | apply Sub.suf))))
 ·
  refine ls (op (p_move rfl) rfl) ?_
  refine andX 5 13 18 rfl (subσ.cons (t := 0) rfl (subσ.cons (t := 1) rfl (subσ.cons (t := 2) rfl (subσ.nil _)))) ?_ ?_
  ·
   intro h13
   refine lskip rfl rfl rfl rfl rfl ?_
   refine lskip rfl rfl rfl rfl rfl ?_
   refine lskip rfl rfl rfl rfl rfl ?_
   refine lskip rfl rfl rfl rfl rfl ?_
   refine ls (op (p_pickf rfl rfl) rfl) ?_
   refine ln (nmid (wk0 (by repeat (first | exact subσ.nil _ | refine subσ.cons rfl ?_)) (by repeat' (first | constructor | apply Sub.suf))))
  apply exI
  ·
   intro h13
   refine lwant rfl rfl rfl rfl (op (p_fa fa39_5 rfl) rfl) ?_
   refine lwant rfl rfl rfl rfl (o_ld Tryz.isAgg37 rfl (by repeat' constructor) (by repeat' constructor) rfl) ?_
   refine lwant rfl rfl rfl rfl (op (p_lenl rfl Tryz.underlying37) rfl) ?_
   refine lwant rfl rfl rfl rfl (op (p_icmp rfl rfl rfl) rfl) ?_
   refine ls (op (p_pickt rfl rfl) rfl) ?_
   refine ln (nmid (wk0 (by repeat (first | exact subσ.nil _ | refine subσ.cons rfl ?_)) (by repeat' (first | constructor | apply Sub.suf))))
  ·
   refine ls (op (p_asg rfl) rfl) ?_
   refine ln ?_
   refine nthen ?_
   refine cs ?_
   refine cb ?_
   refine cs ?_
   refine cr ?_
   refine ls (op (p_fa fa39_1 rfl) rfl) ?_
   refine ls (o_ld Tryz.isAgg9 rfl (by repeat' constructor) (by repeat' constructor) rfl) ?_
   refine ls (o_call (is := []) Tryz.call71 (c_treeNamed _) rfl rfl (by repeat' (first | constructor | apply Sub.suf)) rfl) ?_
   refine le ?_; intro x22
   refine ls (op (p_not rfl) rfl) ?_
   refine ls (op (p_asg rfl) rfl) ?_
   refine ln ?_
   refine nthen ?_
   refine cc rfl ?_ ?_
   ·
    intro h19
    try simp only [decide_eq_true_eq, decide_eq_false_iff_not, Bool.not_eq_true', Bool.not_eq_false', Int.not_lt, Int.not_le, ge_iff_le, Bool.not_true, Bool.not_false] at h19
    refine cs ?_
    refine cr ?_
    refine ls (op (p_asg rfl) rfl) ?_
    refine ln ?_
    refine nthen ?_
    refine cret ?_
    refine xret (fun _ _ h => h) ?_
    refine rret (is := []) () (Or.inl rfl) (Res.t rfl Res.d) ?_ rfl (by repeat' (first | constructor | apply Sub.suf))
    simp [packV, Prim.right, Prim.bare, *]
   ·
    intro h19
    try simp only [decide_eq_true_eq, decide_eq_false_iff_not, Bool.not_eq_true', Bool.not_eq_false', Int.not_lt, Int.not_le, ge_iff_le, Bool.not_true, Bool.not_false] at h19
    refine cs ?_
    refine cr ?_
    refine ls (op (p_fa fa39_0 rfl) rfl) ?_
    refine ls (o_ld Tryz.isAgg3 rfl (by repeat' constructor) (by repeat' constructor) rfl) ?_
    refine ls (op (p_icmp rfl rfl rfl) rfl) ?_
    refine ls (op (p_asg rfl) rfl) ?_
    refine ln ?_
    refine nthen ?_
    refine cc rfl ?_ ?_
    ·
     intro h24
     try simp only [decide_eq_true_eq, decide_eq_false_iff_not, Bool.not_eq_true', Bool.not_eq_false', Int.not_lt, Int.not_le, ge_iff_le, Bool.not_true, Bool.not_false] at h24
     refine cs ?_
     refine cr ?_
     refine ls (op (p_fa fa39_2 rfl) rfl) ?_
     refine ls (o_ld Tryz.isAgg9 rfl (by repeat' constructor) (by repeat' constructor) rfl) ?_
     refine ls (op (p_seq rfl rfl) rfl) ?_
     refine ls (op (p_move rfl) rfl) ?_
     refine andX 4 31 35 rfl (subσ.cons (t := 0) rfl (subσ.cons (t := 1) rfl (subσ.cons (t := 2) rfl (subσ.cons (t := 18) rfl (subσ.cons (t := 3) rfl (subσ.cons (t := 20) rfl (subσ.cons (t := 21) rfl (subσ.cons (t := 22) rfl (subσ.cons (t := 23) rfl (subσ.cons (t := 19) rfl (subσ.cons (t := 25) rfl (subσ.cons (t := 26) rfl (subσ.cons (t := 27) rfl (subσ.cons (t := 24) rfl (subσ.nil _))))))))))))))) ?_ ?_
     ·
      intro h31
      refine lskip rfl rfl rfl rfl rfl ?_
      refine lskip rfl rfl rfl rfl rfl ?_
      refine lskip rfl rfl rfl rfl rfl ?_
      refine ls (op (p_pickf rfl rfl) rfl) ?_
      refine ln (nmid (wk0 (by repeat (first | exact subσ.nil _ | refine subσ.cons rfl ?_)) (by repeat' (first | constructor | apply Sub.suf))))
     apply exI
     ·
      intro h31
      refine lwant rfl rfl rfl rfl (op (p_fa fa39_3 rfl) rfl) ?_
      refine lwant rfl rfl rfl rfl (o_ld Tryz.isAgg3 rfl (by repeat' constructor) (by repeat' constructor) rfl) ?_
      refine lwant rfl rfl rfl rfl (op (p_icmp rfl rfl rfl) rfl) ?_
      refine ls (op (p_pickt rfl rfl) rfl) ?_
      refine ln (nmid (wk0 (by repeat (first | exact subσ.nil _ | refine subσ.cons rfl ?_)) (by repeat' (first | constructor | apply Sub.suf))))
     ·
      refine ls (op (p_move rfl) rfl) ?_
      refine andX 4 36 40 rfl (subσ.cons (t := 0) rfl (subσ.cons (t := 1) rfl (subσ.cons (t := 2) rfl (subσ.cons (t := 18) rfl (subσ.cons (t := 3) rfl (subσ.cons (t := 20) rfl (subσ.cons (t := 21) rfl (subσ.cons (t := 22) rfl (subσ.cons (t := 23) rfl (subσ.cons (t := 19) rfl (subσ.cons (t := 25) rfl (subσ.cons (t := 26) rfl (subσ.cons (t := 27) rfl (subσ.cons (t := 24) rfl (subσ.nil _))))))))))))))) ?_ ?_
      ·
       intro h36
       refine lskip rfl rfl rfl rfl rfl ?_
       refine lskip rfl rfl rfl rfl rfl ?_
       refine lskip rfl rfl rfl rfl rfl ?_
       refine ls (op (p_pickf rfl rfl) rfl) ?_
       refine ln (nmid (wk0 (by repeat (first | exact subσ.nil _ | refine subσ.cons rfl ?_)) (by repeat' (first | constructor | apply Sub.suf))))
      apply exI
      ·
       intro h36
       refine lwant rfl rfl rfl rfl (op (p_fa fa39_3 rfl) rfl) ?_
       refine lwant rfl rfl rfl rfl (o_ld Tryz.isAgg3 rfl (by repeat' constructor) (by repeat' constructor) rfl) ?_
       refine lwant rfl rfl rfl rfl (op (p_icmp rfl rfl rfl) rfl) ?_
       refine ls (op (p_pickt rfl rfl) rfl) ?_
       refine ln (nmid (wk0 (by repeat (first | exact subσ.nil _ | refine subσ.cons rfl ?_)) (by repeat' (first | constructor | apply Sub.suf))))
      ·
       refine ls (op (p_move rfl) rfl) ?_
       refine andX 4 41 45 rfl (subσ.cons (t := 0) rfl (subσ.cons (t := 1) rfl (subσ.cons (t := 2) rfl (subσ.cons (t := 18) rfl (subσ.cons (t := 3) rfl (subσ.cons (t := 20) rfl (subσ.cons (t := 21) rfl (subσ.cons (t := 22) rfl (subσ.cons (t := 23) rfl (subσ.cons (t := 19) rfl (subσ.cons (t := 25) rfl (subσ.cons (t := 26) rfl (subσ.cons (t := 27) rfl (subσ.cons (t := 24) rfl (subσ.nil _))))))))))))))) ?_ ?_
       ·
        intro h41
        refine lskip rfl rfl rfl rfl rfl ?_
        refine lskip rfl rfl rfl rfl rfl ?_
        refine lskip rfl rfl rfl rfl rfl ?_
        refine ls (op (p_pickf rfl rfl) rfl) ?_
        refine ln (nmid (wk0 (by repeat (first | exact subσ.nil _ | refine subσ.cons rfl ?_)) (by repeat' (first | constructor | apply Sub.suf))))
       apply exI
       ·
        intro h41
        refine lwant rfl rfl rfl rfl (op (p_fa fa39_4 rfl) rfl) ?_
        refine lwant rfl rfl rfl rfl (o_ld Tryz.isAgg37 rfl (by repeat' constructor) (by repeat' constructor) rfl) ?_
        refine lwant rfl rfl rfl rfl (o_call (is := []) Tryz.call73 (c_lineAll p.old _ _ hp.o) rfl rfl (by repeat' (first | constructor | apply Sub.suf)) rfl) ?_
        refine le ?_; intro x44
        refine ls (op (p_pickt rfl rfl) rfl) ?_
        refine ln (nmid (wk0 (by repeat (first | exact subσ.nil _ | refine subσ.cons rfl ?_)) (by repeat' (first | constructor | apply Sub.suf))))
       ·
        refine ls (op (p_move rfl) rfl) ?_
        refine andX 4 46 50 rfl (subσ.cons (t := 0) rfl (subσ.cons (t := 1) rfl (subσ.cons (t := 2) rfl (subσ.cons (t := 18) rfl (subσ.cons (t := 3) rfl (subσ.cons (t := 20) rfl (subσ.cons (t := 21) rfl (subσ.cons (t := 22) rfl (subσ.cons (t := 23) rfl (subσ.cons (t := 19) rfl (subσ.cons (t := 25) rfl (subσ.cons (t := 26) rfl (subσ.cons (t := 27) rfl (subσ.cons (t := 24) rfl (subσ.nil _))))))))))))))) ?_ ?_
        ·
         intro h46
         refine lskip rfl rfl rfl rfl rfl ?_
         refine lskip rfl rfl rfl rfl rfl ?_
         refine lskip rfl rfl rfl rfl rfl ?_
         refine ls (op (p_pickf rfl rfl) rfl) ?_
         refine ln (nmid (wk0 (by repeat (first | exact subσ.nil _ | refine subσ.cons rfl ?_)) (by repeat' (first | constructor | apply Sub.suf))))
        apply exI
        ·
         intro h46
         refine lwant rfl rfl rfl rfl (op (p_fa fa39_5 rfl) rfl) ?_
         refine lwant rfl rfl rfl rfl (o_ld Tryz.isAgg37 rfl (by repeat' constructor) (by repeat' constructor) rfl) ?_
         refine lwant rfl rfl rfl rfl (o_call (is := []) Tryz.call73 (c_lineAll p.new _ _ hp.n) rfl rfl (by repeat' (first | constructor | apply Sub.suf)) rfl) ?_
         refine le ?_; intro x49
         refine ls (op (p_pickt rfl rfl) rfl) ?_
         refine ln (nmid (wk0 (by repeat (first | exact subσ.nil _ | refine subσ.cons rfl ?_)) (by repeat' (first | constructor | apply Sub.suf))))
        ·
         refine ls (op (p_move rfl) rfl) ?_
         refine andX 7 51 58 rfl (subσ.cons (t := 0) rfl (subσ.cons (t := 1) rfl (subσ.cons (t := 2) rfl (subσ.cons (t := 18) rfl (subσ.cons (t := 3) rfl (subσ.cons (t := 20) rfl (subσ.cons (t := 21) rfl (subσ.cons (t := 22) rfl (subσ.cons (t := 23) rfl (subσ.cons (t := 19) rfl (subσ.cons (t := 25) rfl (subσ.cons (t := 26) rfl (subσ.cons (t := 27) rfl (subσ.cons (t := 24) rfl (subσ.nil _))))))))))))))) ?_ ?_
         ·
          intro h51
          refine lskip rfl rfl rfl rfl rfl ?_
          refine lskip rfl rfl rfl rfl rfl ?_
          refine lskip rfl rfl rfl rfl rfl ?_
          refine lskip rfl rfl rfl rfl rfl ?_
          refine lskip rfl rfl rfl rfl rfl ?_
          refine lskip rfl rfl rfl rfl rfl ?_
          refine ls (op (p_pickf rfl rfl) rfl) ?_
          refine ln (nmid (wk0 (by repeat (first | exact subσ.nil _ | refine subσ.cons rfl ?_)) (by repeat' (first | constructor | apply Sub.suf))))
         apply exI
         ·
          intro h51
          refine lwant rfl rfl rfl rfl (op (p_fa fa39_4 rfl) rfl) ?_
          refine lwant rfl rfl rfl rfl (o_ld Tryz.isAgg37 rfl (by repeat' constructor) (by repeat' constructor) rfl) ?_
          refine lwant rfl rfl rfl rfl (op (p_fa fa39_5 rfl) rfl) ?_
          refine lwant rfl rfl rfl rfl (o_ld Tryz.isAgg37 rfl (by repeat' constructor) (by repeat' constructor) rfl) ?_
          refine lwant rfl rfl rfl rfl (o_call (is := []) Tryz.call83 (c_lineSame p.old p.new _ _ _ _ hp.o) rfl rfl (by repeat' (first | constructor | apply Sub.suf)) rfl) ?_
          refine le ?_; intro x56
          refine lwant rfl rfl rfl rfl (op (p_not rfl) rfl) ?_
          refine ls (op (p_pickt rfl rfl) rfl) ?_
          refine ln (nmid (wk0 (by repeat (first | exact subσ.nil _ | refine subσ.cons rfl ?_)) (by repeat' (first | constructor | apply Sub.suf))))
         ·
          refine ls (op (p_asg rfl) rfl) ?_
          refine ln ?_
          refine nthen ?_
          refine cret ?_
          refine xret (fun _ _ h => h) ?_
          refine rret (is := []) () (Or.inl rfl) (Res.t rfl Res.d) ?_ rfl (by repeat' (first | constructor | apply Sub.suf))
          simp [packV, Prim.right, Prim.bare, *]
    ·
     intro h24
     try simp only [decide_eq_true_eq, decide_eq_false_iff_not, Bool.not_eq_true', Bool.not_eq_false', Int.not_lt, Int.not_le, ge_iff_le, Bool.not_true, Bool.not_false] at h24
     refine cs ?_
     refine cr ?_
     refine ls (op (p_fa fa39_0 rfl) rfl) ?_
     refine ls (o_ld Tryz.isAgg3 rfl (by repeat' constructor) (by repeat' constructor) rfl) ?_
     refine ls (op (p_icmp rfl rfl rfl) rfl) ?_
     refine ls (op (p_asg rfl) rfl) ?_
     refine ln ?_
     refine nthen ?_
     refine cc rfl ?_ ?_
     ·
      intro h59
      try simp only [decide_eq_true_eq, decide_eq_false_iff_not, Bool.not_eq_true', Bool.not_eq_false', Int.not_lt, Int.not_le, ge_iff_le, Bool.not_true, Bool.not_false] at h59
      refine cs ?_
      refine cr ?_
      refine ls (op (p_move rfl) rfl) ?_
      refine ls (op (p_move rfl) rfl) ?_
      refine andX 4 64 68 rfl (subσ.cons (t := 0) rfl (subσ.cons (t := 1) rfl (subσ.cons (t := 2) rfl (subσ.cons (t := 18) rfl (subσ.cons (t := 3) rfl (subσ.cons (t := 20) rfl (subσ.cons (t := 21) rfl (subσ.cons (t := 22) rfl (subσ.cons (t := 23) rfl (subσ.cons (t := 19) rfl (subσ.cons (t := 25) rfl (subσ.cons (t := 26) rfl (subσ.cons (t := 27) rfl (subσ.cons (t := 24) rfl (subσ.cons (t := 60) rfl (subσ.cons (t := 61) rfl (subσ.cons (t := 62) rfl (subσ.cons (t := 59) rfl (subσ.nil _))))))))))))))))))) ?_ ?_
      ·
       intro h64
       refine lskip rfl rfl rfl rfl rfl ?_
       refine lskip rfl rfl rfl rfl rfl ?_
       refine lskip rfl rfl rfl rfl rfl ?_
       refine ls (op (p_pickf rfl rfl) rfl) ?_
       refine ln (nmid (wk0 (by repeat (first | exact subσ.nil _ | refine subσ.cons rfl ?_)) (by repeat' (first | constructor | apply Sub.suf))))
      apply exI
      ·
       intro h64
       refine lwant rfl rfl rfl rfl (op (p_fa fa39_2 rfl) rfl) ?_
       refine lwant rfl rfl rfl rfl (o_ld Tryz.isAgg9 rfl (by repeat' constructor) (by repeat' constructor) rfl) ?_
       refine lwant rfl rfl rfl rfl (o_call (is := []) Tryz.call71 (c_treeNamed _) rfl rfl (by repeat' (first | constructor | apply Sub.suf)) rfl) ?_
       refine le ?_; intro x67
       refine ls (op (p_pickt rfl rfl) rfl) ?_
       refine ln (nmid (wk0 (by repeat (first | exact subσ.nil _ | refine subσ.cons rfl ?_)) (by repeat' (first | constructor | apply Sub.suf))))
      ·
       refine ls (op (p_move rfl) rfl) ?_
       refine andX 6 69 75 rfl (subσ.cons (t := 0) rfl (subσ.cons (t := 1) rfl (subσ.cons (t := 2) rfl (subσ.cons (t := 18) rfl (subσ.cons (t := 3) rfl (subσ.cons (t := 20) rfl (subσ.cons (t := 21) rfl (subσ.cons (t := 22) rfl (subσ.cons (t := 23) rfl (subσ.cons (t := 19) rfl (subσ.cons (t := 25) rfl (subσ.cons (t := 26) rfl (subσ.cons (t := 27) rfl (subσ.cons (t := 24) rfl (subσ.cons (t := 60) rfl (subσ.cons (t := 61) rfl (subσ.cons (t := 62) rfl (subσ.cons (t := 59) rfl (subσ.nil _))))))))))))))))))) ?_ ?_
       ·
        intro h69
        refine lskip rfl rfl rfl rfl rfl ?_
        refine lskip rfl rfl rfl rfl rfl ?_
        refine lskip rfl rfl rfl rfl rfl ?_
        refine lskip rfl rfl rfl rfl rfl ?_
        refine lskip rfl rfl rfl rfl rfl ?_
        refine ls (op (p_pickf rfl rfl) rfl) ?_
        refine ln (nmid (wk0 (by repeat (first | exact subσ.nil _ | refine subσ.cons rfl ?_)) (by repeat' (first | constructor | apply Sub.suf))))
       apply exI
       ·
        intro h69
        refine lwant rfl rfl rfl rfl (op (p_fa fa39_2 rfl) rfl) ?_
        refine lwant rfl rfl rfl rfl (o_ld Tryz.isAgg9 rfl (by repeat' constructor) (by repeat' constructor) rfl) ?_
        refine lwant rfl rfl rfl rfl (op (p_fa fa39_1 rfl) rfl) ?_
        refine lwant rfl rfl rfl rfl (o_ld Tryz.isAgg9 rfl (by repeat' constructor) (by repeat' constructor) rfl) ?_
        refine lwant rfl rfl rfl rfl (op (p_sne rfl rfl) rfl) ?_
        refine ls (op (p_pickt rfl rfl) rfl) ?_
        refine ln (nmid (wk0 (by repeat (first | exact subσ.nil _ | refine subσ.cons rfl ?_)) (by repeat' (first | constructor | apply Sub.suf))))
       ·
        refine ls (op (p_asg rfl) rfl) ?_
        refine ln ?_
        refine nthen ?_
        refine cret ?_
        refine xret (fun _ _ h => h) ?_
        refine rret (is := []) () (Or.inl rfl) (Res.t rfl Res.d) ?_ rfl (by repeat' (first | constructor | apply Sub.suf))
        simp [packV, Prim.right, Prim.bare, *]
     ·
      intro h59
      try simp only [decide_eq_true_eq, decide_eq_false_iff_not, Bool.not_eq_true', Bool.not_eq_false', Int.not_lt, Int.not_le, ge_iff_le, Bool.not_true, Bool.not_false] at h59
      refine cskip ?_
      refine nblock ?_
      refine nthen ?_
      refine cs ?_
      refine cr ?_
      refine ls (op (p_move rfl) rfl) ?_
      refine ls (op (p_move rfl) rfl) ?_
      refine andX 4 77 81 rfl (subσ.cons (t := 0) rfl (subσ.cons (t := 1) rfl (subσ.cons (t := 2) rfl (subσ.cons (t := 18) rfl (subσ.cons (t := 3) rfl (subσ.cons (t := 20) rfl (subσ.cons (t := 21) rfl (subσ.cons (t := 22) rfl (subσ.cons (t := 23) rfl (subσ.cons (t := 19) rfl (subσ.cons (t := 25) rfl (subσ.cons (t := 26) rfl (subσ.cons (t := 27) rfl (subσ.cons (t := 24) rfl (subσ.cons (t := 60) rfl (subσ.cons (t := 61) rfl (subσ.cons (t := 62) rfl (subσ.cons (t := 59) rfl (subσ.nil _))))))))))))))))))) ?_ ?_
      ·
       intro h77
       refine lskip rfl rfl rfl rfl rfl ?_
       refine lskip rfl rfl rfl rfl rfl ?_
       refine lskip rfl rfl rfl rfl rfl ?_
       refine ls (op (p_pickf rfl rfl) rfl) ?_
       refine ln (nmid (wk0 (by repeat (first | exact subσ.nil _ | refine subσ.cons rfl ?_)) (by repeat' (first | constructor | apply Sub.suf))))
      apply exI
      ·
       intro h77
       refine lwant rfl rfl rfl rfl (op (p_fa fa39_2 rfl) rfl) ?_
       refine lwant rfl rfl rfl rfl (o_ld Tryz.isAgg9 rfl (by repeat' constructor) (by repeat' constructor) rfl) ?_
       refine lwant rfl rfl rfl rfl (op (p_seq rfl rfl) rfl) ?_
       refine ls (op (p_pickt rfl rfl) rfl) ?_
       refine ln (nmid (wk0 (by repeat (first | exact subσ.nil _ | refine subσ.cons rfl ?_)) (by repeat' (first | constructor | apply Sub.suf))))
      ·
       refine ls (op (p_move rfl) rfl) ?_
       refine andX 9 82 91 rfl (subσ.cons (t := 0) rfl (subσ.cons (t := 1) rfl (subσ.cons (t := 2) rfl (subσ.cons (t := 18) rfl (subσ.cons (t := 3) rfl (subσ.cons (t := 20) rfl (subσ.cons (t := 21) rfl (subσ.cons (t := 22) rfl (subσ.cons (t := 23) rfl (subσ.cons (t := 19) rfl (subσ.cons (t := 25) rfl (subσ.cons (t := 26) rfl (subσ.cons (t := 27) rfl (subσ.cons (t := 24) rfl (subσ.cons (t := 60) rfl (subσ.cons (t := 61) rfl (subσ.cons (t := 62) rfl (subσ.cons (t := 59) rfl (subσ.nil _))))))))))))))))))) ?_ ?_
       ·
        intro h82
        refine lskip rfl rfl rfl rfl rfl ?_
        refine lskip rfl rfl rfl rfl rfl ?_
        refine lskip rfl rfl rfl rfl rfl ?_
        refine lskip rfl rfl rfl rfl rfl ?_
        refine lskipu rfl rfl rfl rfl ?_
        refine lskipu rfl rfl rfl rfl ?_
        refine lskipu rfl rfl rfl rfl ?_
        refine lskip rfl rfl rfl rfl rfl ?_
        refine ls (op (p_pickf rfl rfl) rfl) ?_
        refine ln (nmid (wk0 (by repeat (first | exact subσ.nil _ | refine subσ.cons rfl ?_)) (by repeat' (first | constructor | apply Sub.suf))))
       apply exI
       ·
        intro h82
        refine lwant rfl rfl rfl rfl (op (p_fa fa39_0 rfl) rfl) ?_
        refine lwant rfl rfl rfl rfl (o_ld Tryz.isAgg3 rfl (by repeat' constructor) (by repeat' constructor) rfl) ?_
        refine lwant rfl rfl rfl rfl (op (p_icmp rfl rfl rfl) rfl) ?_
        refine lwant rfl rfl rfl rfl (op (p_move rfl) rfl) ?_
        refine orX 4 86 90 rfl (subσ.cons (t := 0) rfl (subσ.cons (t := 1) rfl (subσ.cons (t := 2) rfl (subσ.cons (t := 18) rfl (subσ.cons (t := 3) rfl (subσ.cons (t := 20) rfl (subσ.cons (t := 21) rfl (subσ.cons (t := 22) rfl (subσ.cons (t := 23) rfl (subσ.cons (t := 19) rfl (subσ.cons (t := 25) rfl (subσ.cons (t := 26) rfl (subσ.cons (t := 27) rfl (subσ.cons (t := 24) rfl (subσ.cons (t := 60) rfl (subσ.cons (t := 61) rfl (subσ.cons (t := 62) rfl (subσ.cons (t := 59) rfl (subσ.cons (t := 82) rfl (subσ.nil _)))))))))))))))))))) ?_ ?_
        ·
         intro h86
         refine lskip rfl rfl rfl rfl rfl ?_
         refine lskip rfl rfl rfl rfl rfl ?_
         refine lskip rfl rfl rfl rfl rfl ?_
         refine lwant rfl rfl rfl rfl (op (p_pickt rfl rfl) rfl) ?_
         refine ln (nmid (wk0 (by repeat (first | exact subσ.nil _ | refine subσ.cons rfl ?_)) (by repeat' (first | constructor | apply Sub.suf))))
        apply exI
        ·
         intro h86
         refine lwant rfl rfl rfl rfl (op (p_fa fa39_0 rfl) rfl) ?_
         refine lwant rfl rfl rfl rfl (o_ld Tryz.isAgg3 rfl (by repeat' constructor) (by repeat' constructor) rfl) ?_
         refine lwant rfl rfl rfl rfl (op (p_icmp rfl rfl rfl) rfl) ?_
         refine lwant rfl rfl rfl rfl (op (p_pickf rfl rfl) rfl) ?_
         refine ln (nmid (wk0 (by repeat (first | exact subσ.nil _ | refine subσ.cons rfl ?_)) (by repeat' (first | constructor | apply Sub.suf))))
        ·
         refine ls (op (p_pickt rfl rfl) rfl) ?_
         refine ln (nmid (wk0 (by repeat (first | exact subσ.nil _ | refine subσ.cons rfl ?_)) (by repeat' (first | constructor | apply Sub.suf))))
       ·
        refine ls (op (p_asg rfl) rfl) ?_
        refine ln ?_
        refine nthen ?_
        refine cret ?_
        refine xret (fun _ _ h => h) ?_
        refine rret (is := []) () (Or.inl rfl) (Res.t rfl Res.d) ?_ rfl (by repeat' (first | constructor | apply Sub.suf))
        simp [packV, Prim.right, Prim.bare, *]

end Go.Proofs.YtdbiillompeclaaGreatDoor.X

end
section
set_option linter.unusedVariables false
set_option linter.unusedSimpArgs false
namespace Go.Proofs.YtdbiillompeclaaGreatDoor.X
open Go Go.RowKit Go.Proofs Go.Sx
attribute [local irreducible] slA isA box row

theorem dec_prim (p q : Prim) : (decide (p.kind = q.kind) && decide (p.name = q.name) && decide (p.to = q.to) && decide (p.pos = q.pos) && decide (p.old = q.old) && decide (p.new = q.new)) = decide (p = q) := by
 rw [Bool.eq_iff_iff]
 cases p; cases q
 simp [and_assoc]

theorem inf9 : (Tryz.prog.info? 9).map (fun i => (i.zero, i.size, i.bytes)) = some (some (.string ⟨#[]⟩), 1, 16) := by kernel_rfl
set_option maxRecDepth 100000 in
theorem c_primSame (p q : Prim) (yp yq : Rp.Lay Prim) (hp : p.fit) : Con Tryz.prog 100 [sv p yp, sv q yq] [] (Rp.asn p yp ++ Rp.asn q yq) Unit (fun _ => .bool (decide (p = q))) (fun _ => []) (fun _ => []) := by
 refine con Tryz.func100 rfl Tryz.ntmps100 rfl ?_
 intro M0 F0 w0
 refine cs ?_
 refine cr ?_
 refine ls (o_box rfl rfl rfl) ?_
 refine le ?_; intro b2
 refine ls (o_box rfl rfl rfl) ?_
 refine le ?_; intro b3
 refine ls (op (p_asg rfl) rfl) ?_
 refine ln ?_
 refine nthen ?_
 refine cs ?_
 refine cr ?_
 refine ls (op (p_fa fa39_0 rfl) rfl) ?_
 refine ls (o_ld Tryz.isAgg3 rfl (by repeat' constructor) (by repeat' constructor) rfl) ?_
 refine ls (op (p_fa fa39_0 rfl) rfl) ?_
 refine ls (o_ld Tryz.isAgg3 rfl (by repeat' constructor) (by repeat' constructor) rfl) ?_
 refine ls (op (p_icmp rfl rfl rfl) rfl) ?_
 refine ls (op (p_move rfl) rfl) ?_
 refine andX 6 10 16 rfl (subσ.cons (t := 0) rfl (subσ.cons (t := 1) rfl (subσ.cons (t := 2) rfl (subσ.cons (t := 3) rfl (subσ.cons (t := 4) rfl (subσ.nil _)))))) ?_ ?_
 ·
  intro h10
  refine lskip rfl rfl rfl rfl rfl ?_
  refine lskip rfl rfl rfl rfl rfl ?_
  refine lskip rfl rfl rfl rfl rfl ?_
  refine lskip rfl rfl rfl rfl rfl ?_
  refine lskip rfl rfl rfl rfl rfl ?_
  refine ls (op (p_pickf rfl rfl) rfl) ?_
  refine ln (nmid (wk0 (by repeat (first | exact subσ.nil _ | refine subσ.cons rfl ?_)) (by repeat' (first | constructor | apply Sub.suf))))
 apply exI
 ·
  intro h10
  refine lwant rfl rfl rfl rfl (op (p_fa fa39_1 rfl) rfl) ?_
  refine lwant rfl rfl rfl rfl (o_ld Tryz.isAgg9 rfl (by repeat' constructor) (by repeat' constructor) rfl) ?_
  refine lwant rfl rfl rfl rfl (op (p_fa fa39_1 rfl) rfl) ?_
  refine lwant rfl rfl rfl rfl (o_ld Tryz.isAgg9 rfl (by repeat' constructor) (by repeat' constructor) rfl) ?_
  refine lwant rfl rfl rfl rfl (op (p_seq rfl rfl) rfl) ?_
  refine ls (op (p_pickt rfl rfl) rfl) ?_
  refine ln (nmid (wk0 (by repeat (first | exact subσ.nil _ | refine subσ.cons rfl ?_)) (by repeat' (first | constructor | apply Sub.suf))))
 ·
  refine ls (op (p_move rfl) rfl) ?_
  refine andX 6 17 23 rfl (subσ.cons (t := 0) rfl (subσ.cons (t := 1) rfl (subσ.cons (t := 2) rfl (subσ.cons (t := 3) rfl (subσ.cons (t := 4) rfl (subσ.nil _)))))) ?_ ?_
  ·
   intro h17
   refine lskip rfl rfl rfl rfl rfl ?_
   refine lskip rfl rfl rfl rfl rfl ?_
   refine lskip rfl rfl rfl rfl rfl ?_
   refine lskip rfl rfl rfl rfl rfl ?_
   refine lskip rfl rfl rfl rfl rfl ?_
   refine ls (op (p_pickf rfl rfl) rfl) ?_
   refine ln (nmid (wk0 (by repeat (first | exact subσ.nil _ | refine subσ.cons rfl ?_)) (by repeat' (first | constructor | apply Sub.suf))))
  apply exI
  ·
   intro h17
   refine lwant rfl rfl rfl rfl (op (p_fa fa39_2 rfl) rfl) ?_
   refine lwant rfl rfl rfl rfl (o_ld Tryz.isAgg9 rfl (by repeat' constructor) (by repeat' constructor) rfl) ?_
   refine lwant rfl rfl rfl rfl (op (p_fa fa39_2 rfl) rfl) ?_
   refine lwant rfl rfl rfl rfl (o_ld Tryz.isAgg9 rfl (by repeat' constructor) (by repeat' constructor) rfl) ?_
   refine lwant rfl rfl rfl rfl (op (p_seq rfl rfl) rfl) ?_
   refine ls (op (p_pickt rfl rfl) rfl) ?_
   refine ln (nmid (wk0 (by repeat (first | exact subσ.nil _ | refine subσ.cons rfl ?_)) (by repeat' (first | constructor | apply Sub.suf))))
  ·
   refine ls (op (p_move rfl) rfl) ?_
   refine andX 6 24 30 rfl (subσ.cons (t := 0) rfl (subσ.cons (t := 1) rfl (subσ.cons (t := 2) rfl (subσ.cons (t := 3) rfl (subσ.cons (t := 4) rfl (subσ.nil _)))))) ?_ ?_
   ·
    intro h24
    refine lskip rfl rfl rfl rfl rfl ?_
    refine lskip rfl rfl rfl rfl rfl ?_
    refine lskip rfl rfl rfl rfl rfl ?_
    refine lskip rfl rfl rfl rfl rfl ?_
    refine lskip rfl rfl rfl rfl rfl ?_
    refine ls (op (p_pickf rfl rfl) rfl) ?_
    refine ln (nmid (wk0 (by repeat (first | exact subσ.nil _ | refine subσ.cons rfl ?_)) (by repeat' (first | constructor | apply Sub.suf))))
   apply exI
   ·
    intro h24
    refine lwant rfl rfl rfl rfl (op (p_fa fa39_3 rfl) rfl) ?_
    refine lwant rfl rfl rfl rfl (o_ld Tryz.isAgg3 rfl (by repeat' constructor) (by repeat' constructor) rfl) ?_
    refine lwant rfl rfl rfl rfl (op (p_fa fa39_3 rfl) rfl) ?_
    refine lwant rfl rfl rfl rfl (o_ld Tryz.isAgg3 rfl (by repeat' constructor) (by repeat' constructor) rfl) ?_
    refine lwant rfl rfl rfl rfl (op (p_icmp rfl rfl rfl) rfl) ?_
    refine ls (op (p_pickt rfl rfl) rfl) ?_
    refine ln (nmid (wk0 (by repeat (first | exact subσ.nil _ | refine subσ.cons rfl ?_)) (by repeat' (first | constructor | apply Sub.suf))))
   ·
    refine ls (op (p_move rfl) rfl) ?_
    refine andX 6 31 37 rfl (subσ.cons (t := 0) rfl (subσ.cons (t := 1) rfl (subσ.cons (t := 2) rfl (subσ.cons (t := 3) rfl (subσ.cons (t := 4) rfl (subσ.nil _)))))) ?_ ?_
    ·
     intro h31
     refine lskip rfl rfl rfl rfl rfl ?_
     refine lskip rfl rfl rfl rfl rfl ?_
     refine lskip rfl rfl rfl rfl rfl ?_
     refine lskip rfl rfl rfl rfl rfl ?_
     refine lskip rfl rfl rfl rfl rfl ?_
     refine ls (op (p_pickf rfl rfl) rfl) ?_
     refine ln (nmid (wk0 (by repeat (first | exact subσ.nil _ | refine subσ.cons rfl ?_)) (by repeat' (first | constructor | apply Sub.suf))))
    apply exI
    ·
     intro h31
     refine lwant rfl rfl rfl rfl (op (p_fa fa39_4 rfl) rfl) ?_
     refine lwant rfl rfl rfl rfl (o_ld Tryz.isAgg37 rfl (by repeat' constructor) (by repeat' constructor) rfl) ?_
     refine lwant rfl rfl rfl rfl (op (p_fa fa39_4 rfl) rfl) ?_
     refine lwant rfl rfl rfl rfl (o_ld Tryz.isAgg37 rfl (by repeat' constructor) (by repeat' constructor) rfl) ?_
     refine lwant rfl rfl rfl rfl (o_call (is := []) Tryz.call83 (c_lineSame p.old q.old _ _ _ _ hp.o) rfl rfl (by repeat' (first | constructor | apply Sub.suf)) rfl) ?_
     refine le ?_; intro x36
     refine ls (op (p_pickt rfl rfl) rfl) ?_
     refine ln (nmid (wk0 (by repeat (first | exact subσ.nil _ | refine subσ.cons rfl ?_)) (by repeat' (first | constructor | apply Sub.suf))))
    ·
     refine ls (op (p_move rfl) rfl) ?_
     refine andX 6 38 44 rfl (subσ.cons (t := 0) rfl (subσ.cons (t := 1) rfl (subσ.cons (t := 4) rfl (subσ.nil _)))) ?_ ?_
     ·
      intro h38
      refine lskip rfl rfl rfl rfl rfl ?_
      refine lskip rfl rfl rfl rfl rfl ?_
      refine lskip rfl rfl rfl rfl rfl ?_
      refine lskip rfl rfl rfl rfl rfl ?_
      refine lskip rfl rfl rfl rfl rfl ?_
      refine ls (op (p_pickf rfl rfl) rfl) ?_
      refine ln (nmid (wk0 (by repeat (first | exact subσ.nil _ | refine subσ.cons rfl ?_)) (by repeat' (first | constructor | apply Sub.suf))))
     apply exI
     ·
      intro h38
      refine lwant rfl rfl rfl rfl (op (p_fa fa39_5 rfl) rfl) ?_
      refine lwant rfl rfl rfl rfl (o_ld Tryz.isAgg37 rfl (by repeat' constructor) (by repeat' constructor) rfl) ?_
      refine lwant rfl rfl rfl rfl (op (p_fa fa39_5 rfl) rfl) ?_
      refine lwant rfl rfl rfl rfl (o_ld Tryz.isAgg37 rfl (by repeat' constructor) (by repeat' constructor) rfl) ?_
      refine lwant rfl rfl rfl rfl (o_call (is := []) Tryz.call83 (c_lineSame p.new q.new _ _ _ _ hp.n) rfl rfl (by repeat' (first | constructor | apply Sub.suf)) rfl) ?_
      refine le ?_; intro x43
      refine ls (op (p_pickt rfl rfl) rfl) ?_
      refine ln (nmid (wk0 (by repeat (first | exact subσ.nil _ | refine subσ.cons rfl ?_)) (by repeat' (first | constructor | apply Sub.suf))))
     ·
      refine ls (op (p_asg rfl) rfl) ?_
      refine ln ?_
      refine nthen ?_
      refine cret ?_
      refine xret (fun _ _ h => h) ?_
      refine rret (is := []) () (Or.inl rfl) (Res.t rfl Res.d) ?_ rfl (by repeat' (first | constructor | apply Sub.suf))
      simp only [packV, dec_prim]

set_option maxRecDepth 100000 in
theorem c_sClone (l : List ByteArray) (A : Option Addr) (c : Nat) (hl : l.length ≤ 2000000) : Con Tryz.prog 74 [.slice A l.length c] [] [slA A l] (Option Addr × Nat) (fun y => .slice y.1 l.length y.2) (fun _ => []) (fun y => [slA y.1 l]) := by
 refine con Tryz.func74 rfl Tryz.ntmps74 rfl ?_
 intro M0 F0 w0
 refine cs ?_
 refine cr ?_
 refine ls (op (p_asg rfl) rfl) ?_
 refine ln ?_
 refine nthen ?_
 refine cs ?_
 refine cs ?_
 refine cr ?_
 refine ls (op (p_move rfl) rfl) ?_
 refine ls (op (p_slnil Tryz.underlying37 rfl rfl) rfl) ?_
 refine ln ?_
 refine nthen ?_
 refine cc rfl ?_ ?_
 ·
  intro h4
  have h5 : A = none := by simpa using h4
  refine cs ?_
  subst h5
  refine cmono (fun a w h => nil_len (l := l) (i := 0) At.z h) ?_
  refine cf ?_; rintro rfl
  refine cr ?_
  refine ls (op (p_asg rfl) rfl) ?_
  refine ln ?_
  refine nthen ?_
  refine cret ?_
  refine xret (fun _ _ h => h) ?_
  refine rret (is := []) (none, 0) (Or.inl rfl) (Res.t rfl Res.d) (rfl) rfl (by repeat' (first | constructor | apply Sub.suf))
 ·
  intro h4
  have h5 : ¬ A = none := by intro e; rw [e] at h4; cases h4
  refine cskip ?_
  refine nthen ?_
  refine cs ?_
  refine cr ?_
  refine ls (o_bsl ([] : List ByteArray) Tryz.underlying37 Tryz.sizeOf9 Tryz.zeroValue9 rfl Enum.d RV.d rfl (by decide) (by decide) rfl) ?_
  refine le ?_; intro b5
  refine ls (op (p_move rfl) rfl) ?_
  refine ls (o_app (is := [0]) Tryz.underlying37 inf9 rfl (by decide) (by decide) rfl rfl (by simp; omega) (fun _ h => absurd h h5) rfl (by repeat' (first | constructor | apply Sub.suf)) rfl) ?_
  refine le ?_; rintro ⟨A', c2⟩
  refine lmono (fun a w h => Go.Sx.freeze (i := 0) rfl h) ?_
  rw [List.nil_append]
  refine ls (op (p_asg rfl) rfl) ?_
  refine ln ?_
  refine nthen ?_
  refine cret ?_
  refine xret (fun _ _ h => h) ?_
  refine rret (is := []) (A', c2) (Or.inl rfl) (Res.t rfl Res.d) (rfl) rfl (by repeat' (first | constructor | apply Sub.suf))

set_option maxRecDepth 100000 in
theorem c_primClone (p : Prim) (y : Rp.Lay Prim) (hp : p.fit) : Con Tryz.prog 48 [sv p y] [] (Rp.asn p y) (Rp.Lay Prim) (fun y' => sv p y') (fun _ => []) (fun y' => Rp.asn p y') := by
 refine con Tryz.func48 rfl Tryz.ntmps48 rfl ?_
 intro M0 F0 w0
 refine cs ?_
 refine cr ?_
 refine ls (o_box rfl rfl rfl) ?_
 refine le ?_; intro b1
 refine ls (o_alloc Tryz.zeroValue39 rfl rfl) ?_
 refine le ?_; intro b2
 refine ln ?_
 refine nthen ?_
 refine cs ?_
 refine cd [2, 5, 7, 9] [(1, b1, 4, _), (4, b1, 5, _)] TryzX.mixed (TOk.t (isBoxS (by repeat' constructor) (k := 1) (by repeat (first | exact Cut.d | apply Cut.t | apply Cut.s))) (TOk.t (isBoxS (by repeat' constructor) (k := 1) (by repeat (first | exact Cut.d | apply Cut.t | apply Cut.s))) TOk.d)) ?_
 refine tk 0 rfl (by kernel_rfl) (fun _ _ _ h => h) gnone (TTany _) (p_fa fa39_4 rfl) rfl ?_
 refine tk 1 rfl (by kernel_rfl) (fun _ _ _ h => h) gnone (TTat (List.Mem.head _)) (p_ld Tryz.isAgg37 rfl) rfl ?_
 refine tk 3 rfl (by kernel_rfl) (fun _ _ _ h => h) gnone (TTany _) (p_fa fa39_5 rfl) rfl ?_
 refine tk 4 rfl (by kernel_rfl) (fun _ _ _ h => h) gnone (TTat (List.Mem.tail _ (List.Mem.head _))) (p_ld Tryz.isAgg37 rfl) rfl ?_
 refine df 2 (by kernel_rfl) ?_
 refine doR rfl (o_call (is := []) Tryz.call74 (c_sClone p.old _ _ hp.o) rfl rfl (by repeat' (first | constructor | apply Sub.suf)) rfl) (TOk.x (by kernel_rfl) (TOk.t (isBoxE fun _ => isBoxS (by repeat' constructor) (k := 1) (by repeat (first | exact Cut.d | apply Cut.t | apply Cut.s))) TOk.d)) ?_
 refine ea ?_; intro y1
 refine tk 6 rfl (by kernel_rfl) (fun _ _ _ h => h) gnone (TTany _) (p_fa fa39_4 rfl) rfl ?_
 refine df 5 (by kernel_rfl) ?_
 refine doR rfl (o_call (is := []) Tryz.call74 (c_sClone p.new _ _ hp.n) rfl rfl (by repeat' (first | constructor | apply Sub.suf)) rfl) (TOk.x (by kernel_rfl) (TOk.x (by kernel_rfl) TOk.d)) ?_
 refine ea ?_; intro y2
 refine df 7 (by kernel_rfl) ?_
 refine doR rfl (o_st rfl Tryz.sizeOf37 rfl rfl rfl rfl rfl (by repeat' constructor) (by repeat' constructor) (by repeat' constructor)) (TOk.x (by kernel_rfl) (TOk.x (by kernel_rfl) TOk.d)) ?_
 refine tk 8 rfl (by kernel_rfl) (fun _ _ _ h => h) gnone (TTany _) (p_fa fa39_5 rfl) rfl ?_
 refine df 9 (by kernel_rfl) ?_
 refine doR rfl (o_st rfl Tryz.sizeOf37 rfl rfl rfl rfl rfl (by repeat' constructor) (by repeat' constructor) (by repeat' constructor)) (TOk.x (by kernel_rfl) (TOk.x (by kernel_rfl) TOk.d)) ?_
 refine dn (by kernel_rfl) ?_
 refine nthen ?_
 refine cs ?_
 refine cr ?_
 refine ls (o_ldw Tryz.isAgg39 Tryz.sizeOf39 rfl (by repeat' constructor) (by rfl) rfl) ?_
 refine ls (o_st rfl Tryz.sizeOf39 rfl rfl rfl rfl rfl (by repeat' constructor) (by repeat' constructor) (by repeat' constructor)) ?_
 refine ln ?_
 refine nthen ?_
 refine cret ?_
 refine xret (fun _ _ h => h) ?_
 refine rret (is := []) (y1, y2) (Or.inl rfl) (Res.c rfl Tryz.isAgg39 Tryz.sizeOf39 (by repeat' constructor) (by rfl) Res.d) (rfl) rfl (by repeat' (first | constructor | apply Sub.suf))

end Go.Proofs.YtdbiillompeclaaGreatDoor.X

end
section
set_option linter.unusedVariables false
set_option linter.unusedSimpArgs false
namespace Go.Proofs.YtdbiillompeclaaGreatDoor.X
open Go Go.RowKit Go.Proofs Go.Sx
attribute [local irreducible] slA isA box row

theorem meets_sort (p q : Prim) : ((sortB p.names).any fun s => (sortB q.names).any fun t => decide (t = s)) = p.meets q := by
 unfold Prim.meets
 rw [any_perm (sortB_perm p.names)]
 congr 1
 funext s
 exact any_perm (sortB_perm q.names)


set_option maxRecDepth 100000 in
theorem c_primNames (p : Prim) (y : Rp.Lay Prim) : Con Tryz.prog 99 [sv p y] [] (Rp.asn p y) {x : List ByteArray × (Option Addr × Nat) // x.1 = sortB p.names} (fun x => .slice x.1.2.1 x.1.1.length x.1.2.2) (fun _ => []) (fun x => [slA x.1.2.1 x.1.1]) := by
 refine con Tryz.func99 rfl Tryz.ntmps99 rfl ?_
 intro M0 F0 w0
 refine cs ?_
 refine cr ?_
 refine ls (o_box rfl rfl rfl) ?_
 refine le ?_; intro b1
 refine ls (op (p_asg rfl) rfl) ?_
 refine ln ?_
 refine nthen ?_
 refine cs ?_
 refine cr ?_
 refine ls (op (p_fa fa39_1 rfl) rfl) ?_
 refine ls (o_ld Tryz.isAgg9 rfl (by repeat' constructor) (by repeat' constructor) rfl) ?_
 refine ls (o_bsl [p.name] Tryz.underlying37 Tryz.sizeOf9 Tryz.zeroValue9 rfl (Enum.t Enum.d) (RV.t () rfl Sub.d RV.d) rfl (by decide) (by decide) rfl) ?_
 refine le ?_; intro b6
 refine ls (op (p_asg rfl) rfl) ?_
 refine ln ?_
 refine nthen ?_
 refine cs ?_
 refine cs ?_
 refine cr ?_
 refine ls (op (p_fa fa39_0 rfl) rfl) ?_
 refine ls (o_ld Tryz.isAgg3 rfl (by repeat' constructor) (by repeat' constructor) rfl) ?_
 refine ls (op (p_icmp rfl rfl rfl) rfl) ?_
 refine ln ?_
 refine nthen ?_
 refine cc rfl ?_ ?_
 ·
  intro h9
  try simp only [decide_eq_true_eq, decide_eq_false_iff_not, Bool.not_eq_true', Bool.not_eq_false', Int.not_lt, Int.not_le, ge_iff_le, Bool.not_true, Bool.not_false] at h9
  refine cr ?_
  refine ls (op (p_move rfl) rfl) ?_
  refine ls (op (p_fa fa39_2 rfl) rfl) ?_
  refine ls (o_ld Tryz.isAgg9 rfl (by repeat' constructor) (by repeat' constructor) rfl) ?_
  refine ls (o_bsl [p.to] Tryz.underlying37 Tryz.sizeOf9 Tryz.zeroValue9 rfl (Enum.t Enum.d) (RV.t () rfl Sub.d RV.d) rfl (by decide) (by decide) rfl) ?_
  refine le ?_; intro b13
  refine lmono (fun a w h => Go.Sx.freeze (i := 0) rfl h) ?_
  refine ls (o_app (is := [0]) Tryz.underlying37 inf9 rfl (by decide) (by decide) rfl rfl (by simp) (fun h => by cases h) rfl (by repeat' (first | constructor | apply Sub.suf)) rfl) ?_
  refine le ?_; rintro ⟨A', c2⟩
  refine ls (op (p_asg rfl) rfl) ?_
  refine ln ?_
  refine nthen ?_
  refine cs ?_
  refine cr ?_
  refine ls (op (p_move rfl) rfl) ?_
  refine ls (o_call (is := [0]) Tryz.call138 (l_Sort 9 _ _ ([p.name] ++ [p.to]) (by simp)) rfl rfl (by repeat' (first | constructor | apply Sub.suf)) rfl) ?_
  refine le ?_; intro x16
  refine ln ?_
  refine nthen ?_
  refine cs ?_
  refine cmono (fun a w h => Go.Sx.freeze (i := 0) rfl h) ?_
  refine cr ?_
  refine ls (op (p_move rfl) rfl) ?_
  refine ls (op (p_asg rfl) rfl) ?_
  refine ln ?_
  refine nthen ?_
  refine cret ?_
  refine xret (fun _ _ h => h) ?_
  refine rret (is := []) ⟨(sortB ([p.name] ++ [p.to]), A', c2), by rw [Prim.names, if_pos h9]; rfl⟩ (Or.inl rfl) (Res.t rfl Res.d) ?_ rfl (by repeat' (first | constructor | apply Sub.suf))
  simp only [packV, sortB_length]
 ·
  intro h9
  try simp only [decide_eq_true_eq, decide_eq_false_iff_not, Bool.not_eq_true', Bool.not_eq_false', Int.not_lt, Int.not_le, ge_iff_le, Bool.not_true, Bool.not_false] at h9
  refine cskip ?_
  refine nthen ?_
  refine cs ?_
  refine cr ?_
  refine ls (op (p_move rfl) rfl) ?_
  refine ls (o_call (is := [0]) Tryz.call138 (l_Sort 9 _ _ [p.name] (by simp)) rfl rfl (by repeat' (first | constructor | apply Sub.suf)) rfl) ?_
  refine le ?_; intro x16
  refine ln ?_
  refine nthen ?_
  refine cs ?_
  refine cmono (fun a w h => Go.Sx.freeze (i := 0) rfl h) ?_
  refine cr ?_
  refine ls (op (p_move rfl) rfl) ?_
  refine ls (op (p_asg rfl) rfl) ?_
  refine ln ?_
  refine nthen ?_
  refine cret ?_
  refine xret (fun _ _ h => h) ?_
  refine rret (is := []) ⟨(sortB [p.name], some ⟨b6, 0, none⟩, 1), by rw [Prim.names, if_neg h9]⟩ (Or.inl rfl) (Res.t rfl Res.d) ?_ rfl (by repeat' (first | constructor | apply Sub.suf))
  simp only [packV, sortB_length]; rfl

set_option maxRecDepth 100000 in
theorem c_shares1 (q : Prim) (yq : Rp.Lay Prim) (b : Nat) (s : ByteArray) : Con Tryz.prog 208 [.string s, .pointer (some ⟨b, 0, none⟩)] [box b 39 (Rp.enc q yq)] (Rp.asn q yq) Unit (fun _ => .bool ((sortB q.names).any fun t => decide (t = s))) (fun _ => [box b 39 (Rp.enc q yq)]) (fun _ => []) := by
 refine con Tryz.func208 rfl Tryz.ntmps208 rfl ?_
 intro M0 F0 w0
 refine cs ?_
 refine cr ?_
 refine ls (op (p_asg rfl) rfl) ?_
 refine ln ?_
 refine nthen ?_
 refine cs ?_
 refine cr ?_
 refine ls (o_ldw Tryz.isAgg39 Tryz.sizeOf39 rfl (by repeat' constructor) (by rfl) rfl) ?_
 refine ls (o_call (is := []) Tryz.call99 (c_primNames q yq) rfl rfl (by repeat' (first | constructor | apply Sub.suf)) rfl) ?_
 refine le ?_; rintro ⟨⟨l1, y1⟩, hl1⟩
 obtain rfl : l1 = sortB q.names := hl1
 refine ls (op (p_move rfl) rfl) ?_
 refine ls (o_call (is := []) Tryz.call209 (c_Contains (sortB q.names) y1.1 y1.2 (by rw [sortB_length]; unfold Prim.names; split <;> simp) s) rfl rfl (by repeat' (first | constructor | apply Sub.suf)) rfl) ?_
 refine le ?_; intro x7
 refine ls (op (p_asg rfl) rfl) ?_
 refine ln ?_
 refine nthen ?_
 refine cret ?_
 refine xret (fun _ _ h => h) ?_
 refine rret (is := [0]) () (Or.inl rfl) (Res.t rfl Res.d) (rfl) rfl (by repeat' (first | constructor | apply Sub.suf))

set_option maxRecDepth 100000 in
theorem c_shares (p q : Prim) (yp yq : Rp.Lay Prim) : Con Tryz.prog 189 [sv p yp, sv q yq] [] (Rp.asn p yp ++ Rp.asn q yq) Unit (fun _ => .bool (p.meets q)) (fun _ => []) (fun _ => []) := by
 refine con Tryz.func189 rfl Tryz.ntmps189 rfl ?_
 intro M0 F0 w0
 refine cs ?_
 refine cr ?_
 refine ls (o_box rfl rfl rfl) ?_
 refine le ?_; intro b2
 refine ls (o_box rfl rfl rfl) ?_
 refine le ?_; intro b3
 refine ls (op (p_asg rfl) rfl) ?_
 refine ln ?_
 refine nthen ?_
 refine cs ?_
 refine cr ?_
 refine ls (o_ldw Tryz.isAgg39 Tryz.sizeOf39 rfl (by repeat' constructor) (by rfl) rfl) ?_
 refine ls (o_call (is := []) Tryz.call99 (c_primNames p yp) rfl rfl (by repeat' (first | constructor | apply Sub.suf)) rfl) ?_
 refine le ?_; rintro ⟨⟨l1, y1⟩, hl1⟩
 obtain rfl : l1 = sortB p.names := hl1
 refine ls (op (p_mkf rfl) rfl) ?_
 refine ls (o_call (is := [0]) Tryz.call124 (c_ContainsFunc1 (sortB p.names) y1.1 y1.2 (by rw [sortB_length]; unfold Prim.names; split <;> simp) (fun s => (sortB q.names).any fun t => decide (t = s)) 208 [.pointer (some ⟨b3, 0, none⟩)] (Rp.asn q yq) (box b3 39 (Rp.enc q yq)) Tryz.call208 (fun s _ => c_shares1 q yq b3 s)) rfl rfl (by repeat' (first | constructor | apply Sub.suf)) rfl) ?_
 refine le ?_; intro x8
 refine ls (op (p_asg rfl) rfl) ?_
 refine ln ?_
 refine nthen ?_
 refine cret ?_
 refine xret (fun _ _ h => h) ?_
 refine rret (is := []) () (Or.inl rfl) (Res.t rfl Res.d) ?_ rfl (by repeat' (first | constructor | apply Sub.suf))
 simp only [packV, meets_sort]

set_option maxRecDepth 100000 in
theorem c_grows (p : Prim) (y : Rp.Lay Prim) (hp : p.fit) : Con Tryz.prog 207 [sv p y] [] (Rp.asn p y) Unit (fun _ => .int .i64 ((p.new.length : Int) - p.old.length)) (fun _ => []) (fun _ => []) := by
 refine con Tryz.func207 rfl Tryz.ntmps207 rfl ?_
 intro M0 F0 w0
 refine cs ?_
 refine cr ?_
 refine ls (o_box rfl rfl rfl) ?_
 refine le ?_; intro b1
 refine ls (op (p_asg rfl) rfl) ?_
 refine ln ?_
 refine nthen ?_
 refine cs ?_
 refine cr ?_
 refine ls (op (p_fa fa39_5 rfl) rfl) ?_
 refine ls (o_ld Tryz.isAgg37 rfl (by repeat' constructor) (by repeat' constructor) rfl) ?_
 refine ls (op (p_lenl rfl Tryz.underlying37) rfl) ?_
 refine ls (op (p_fa fa39_4 rfl) rfl) ?_
 refine ls (o_ld Tryz.isAgg37 rfl (by repeat' constructor) (by repeat' constructor) rfl) ?_
 refine ls (op (p_lenl rfl Tryz.underlying37) rfl) ?_
 have h1 := hp.o; have h2 := hp.n
 refine ls (op (p_sub rfl rfl (by omega)) rfl) ?_
 refine ls (op (p_asg rfl) rfl) ?_
 refine ln ?_
 refine nthen ?_
 refine cret ?_
 refine xret (fun _ _ h => h) ?_
 refine rret (is := []) () (Or.inl rfl) (Res.t rfl Res.d) (rfl) rfl (by repeat' (first | constructor | apply Sub.suf))

set_option maxRecDepth 100000 in
theorem c_hunks (p q : Prim) (yp yq : Rp.Lay Prim) (hp : p.fit) (hq : q.fit) (hpa : 0 ≤ p.pos ∧ p.pos ≤ 1048576) (hqa : 0 ≤ q.pos ∧ q.pos ≤ 1048576) : Con Tryz.prog 188 [sv p yp, sv q yq] [] (Rp.asn p yp ++ Rp.asn q yq) (Two (hunks p q)) (fun x => x.v) (fun _ => []) (fun x => x.g) := by
 refine con Tryz.func188 rfl Tryz.ntmps188 rfl ?_
 intro M0 F0 w0
 refine cs ?_
 have hp1 := hp.o; have hp2 := hp.n; have hq1 := hq.o; have hq2 := hq.n
 refine cr ?_
 refine ls (o_box rfl rfl rfl) ?_
 refine le ?_; intro b2
 refine ls (o_box rfl rfl rfl) ?_
 refine le ?_; intro b3
 refine ls (o_alloc Tryz.zeroValue39 rfl rfl) ?_
 refine le ?_; intro b4
 refine ls (o_alloc Tryz.zeroValue39 rfl rfl) ?_
 refine le ?_; intro b5
 refine ls (op (p_asg rfl) rfl) ?_
 refine ln ?_
 refine nthen ?_
 refine cs ?_
 refine cb ?_
 refine cs ?_
 refine cr ?_
 refine ls (op (p_fa fa39_3 rfl) rfl) ?_
 refine ls (o_ld Tryz.isAgg3 rfl (by repeat' constructor) (by repeat' constructor) rfl) ?_
 refine ls (op (p_fa fa39_3 rfl) rfl) ?_
 refine ls (o_ld Tryz.isAgg3 rfl (by repeat' constructor) (by repeat' constructor) rfl) ?_
 refine ls (op (p_fa fa39_5 rfl) rfl) ?_
 refine ls (o_ld Tryz.isAgg37 rfl (by repeat' constructor) (by repeat' constructor) rfl) ?_
 refine ls (op (p_lenl rfl Tryz.underlying37) rfl) ?_
 refine ls (op (p_add rfl rfl (by omega)) rfl) ?_
 refine ls (op (p_icmp rfl rfl rfl) rfl) ?_
 refine ls (op (p_asg rfl) rfl) ?_
 refine ln ?_
 refine nthen ?_
 refine cc rfl ?_ ?_
 ·
  intro h9
  try simp only [decide_eq_true_eq, decide_eq_false_iff_not, Bool.not_eq_true', Bool.not_eq_false', Int.not_lt, Int.not_le, ge_iff_le, Bool.not_true, Bool.not_false] at h9
  refine cd [3, 6] [(1, b3, 3, _), (2, b2, 0, _)] TryzX.mixed (TOk.t (isBoxS (by repeat' constructor) (k := 1) (by repeat (first | exact Cut.d | apply Cut.t | apply Cut.s))) (TOk.t (isBoxS (by repeat' constructor) (k := 6) (by repeat (first | exact Cut.d | apply Cut.t | apply Cut.s))) TOk.d)) ?_
  refine tk 0 rfl (by kernel_rfl) (fun _ _ _ h => h) gnone (TTany _) (p_fa fa39_3 rfl) rfl ?_
  refine tk 1 rfl (by kernel_rfl) (fun _ _ _ h => h) gnone (TTat (List.Mem.head _)) (p_ld Tryz.isAgg3 rfl) rfl ?_
  refine tk 2 rfl (by kernel_rfl) (fun _ _ _ h => h) gnone (TTat (List.Mem.tail _ (List.Mem.head _))) (p_lda Tryz.isAgg39 Tryz.sizeOf39 rfl rfl) rfl ?_
  refine df 3 (by kernel_rfl) ?_
  refine doR rfl (o_call (is := []) Tryz.call207 (c_grows p yp hp) rfl rfl (by repeat' (first | constructor | apply Sub.suf)) rfl) (TOk.t (isBoxE fun _ => isBoxS (by repeat' constructor) (k := 1) (by repeat (first | exact Cut.d | apply Cut.t | apply Cut.s))) (TOk.x (by kernel_rfl) TOk.d)) ?_
  refine ea ?_; intro x22
  refine tk 4 rfl (by kernel_rfl) (fun _ _ _ h => h) gnone (TTany _) (p_sub rfl rfl (by omega)) rfl ?_
  refine tk 5 rfl (by kernel_rfl) (fun _ _ _ h => h) gnone (TTany _) (p_fa fa39_3 rfl) rfl ?_
  refine df 6 (by kernel_rfl) ?_
  refine doR rfl (o_st rfl Tryz.sizeOf3 rfl rfl rfl rfl rfl (by repeat' constructor) (by repeat' constructor) (by repeat' constructor)) (TOk.x (by kernel_rfl) (TOk.x (by kernel_rfl) TOk.d)) ?_
  refine dn (by kernel_rfl) ?_
  refine nblock ?_
  refine nthen ?_
  refine cs ?_
  refine cd [2, 3] [(0, b3, 0, _), (1, b2, 0, _)] TryzX.mixed (TOk.t (isBoxS (by repeat' constructor) (k := 6) (by repeat (first | exact Cut.d | apply Cut.t | apply Cut.s))) (TOk.t (isBoxS (by repeat' constructor) (k := 6) (by repeat (first | exact Cut.d | apply Cut.t | apply Cut.s))) TOk.d)) ?_
  refine tk 0 rfl (by kernel_rfl) (fun _ _ _ h => h) gnone (TTat (List.Mem.head _)) (p_lda Tryz.isAgg39 Tryz.sizeOf39 rfl rfl) rfl ?_
  refine tk 1 rfl (by kernel_rfl) (fun _ _ _ h => h) gnone (TTat (List.Mem.tail _ (List.Mem.head _))) (p_lda Tryz.isAgg39 Tryz.sizeOf39 rfl rfl) rfl ?_
  refine df 2 (by kernel_rfl) ?_
  refine doR rfl (o_st rfl Tryz.sizeOf39 rfl rfl rfl rfl rfl (by repeat' constructor) (by repeat' constructor) (by repeat' constructor)) (TOk.x (by kernel_rfl) (TOk.t (isBoxS (by repeat' constructor) (k := 6) (by repeat (first | exact Cut.d | apply Cut.t | apply Cut.s))) TOk.d)) ?_
  refine df 3 (by kernel_rfl) ?_
  refine doR rfl (o_st rfl Tryz.sizeOf39 rfl rfl rfl rfl rfl (by repeat' constructor) (by repeat' constructor) (by repeat' constructor)) (TOk.x (by kernel_rfl) (TOk.x (by kernel_rfl) TOk.d)) ?_
  refine tk 4 rfl (by kernel_rfl) (fun _ _ _ h => h) gnone (TTany _) (p_asg rfl) rfl ?_
  refine dn (by kernel_rfl) ?_
  refine nthen ?_
  refine cret ?_
  refine xret (fun _ _ h => h) ?_
  refine rret (is := []) ⟨(({ q with pos := q.pos - ((p.new.length : Int) - p.old.length) }, p, true), (yq, yp)), by rw [hunks, if_pos h9]⟩ (Or.inl rfl) (Res.c rfl Tryz.isAgg39 Tryz.sizeOf39 (by repeat' constructor) (by rfl) (Res.c rfl Tryz.isAgg39 Tryz.sizeOf39 (by repeat' constructor) (by rfl) (Res.t rfl Res.d))) (rfl) rfl (by repeat' (first | constructor | apply Sub.suf))
 ·
  intro h9
  try simp only [decide_eq_true_eq, decide_eq_false_iff_not, Bool.not_eq_true', Bool.not_eq_false', Int.not_lt, Int.not_le, ge_iff_le, Bool.not_true, Bool.not_false] at h9
  refine cs ?_
  refine cr ?_
  refine ls (op (p_fa fa39_3 rfl) rfl) ?_
  refine ls (o_ld Tryz.isAgg3 rfl (by repeat' constructor) (by repeat' constructor) rfl) ?_
  refine ls (op (p_fa fa39_4 rfl) rfl) ?_
  refine ls (o_ld Tryz.isAgg37 rfl (by repeat' constructor) (by repeat' constructor) rfl) ?_
  refine ls (op (p_lenl rfl Tryz.underlying37) rfl) ?_
  refine ls (op (p_add rfl rfl (by omega)) rfl) ?_
  refine ls (op (p_fa fa39_3 rfl) rfl) ?_
  refine ls (o_ld Tryz.isAgg3 rfl (by repeat' constructor) (by repeat' constructor) rfl) ?_
  refine ls (op (p_icmp rfl rfl rfl) rfl) ?_
  refine ls (op (p_asg rfl) rfl) ?_
  refine ln ?_
  refine nthen ?_
  refine cc rfl ?_ ?_
  ·
   intro h25
   try simp only [decide_eq_true_eq, decide_eq_false_iff_not, Bool.not_eq_true', Bool.not_eq_false', Int.not_lt, Int.not_le, ge_iff_le, Bool.not_true, Bool.not_false] at h25
   refine cd [3, 6] [(1, b2, 3, _), (2, b3, 0, _)] TryzX.mixed (TOk.t (isBoxS (by repeat' constructor) (k := 1) (by repeat (first | exact Cut.d | apply Cut.t | apply Cut.s))) (TOk.t (isBoxS (by repeat' constructor) (k := 6) (by repeat (first | exact Cut.d | apply Cut.t | apply Cut.s))) TOk.d)) ?_
   refine tk 0 rfl (by kernel_rfl) (fun _ _ _ h => h) gnone (TTany _) (p_fa fa39_3 rfl) rfl ?_
   refine tk 1 rfl (by kernel_rfl) (fun _ _ _ h => h) gnone (TTat (List.Mem.head _)) (p_ld Tryz.isAgg3 rfl) rfl ?_
   refine tk 2 rfl (by kernel_rfl) (fun _ _ _ h => h) gnone (TTat (List.Mem.tail _ (List.Mem.head _))) (p_lda Tryz.isAgg39 Tryz.sizeOf39 rfl rfl) rfl ?_
   refine df 3 (by kernel_rfl) ?_
   refine doR rfl (o_call (is := []) Tryz.call207 (c_grows q yq hq) rfl rfl (by repeat' (first | constructor | apply Sub.suf)) rfl) (TOk.t (isBoxE fun _ => isBoxS (by repeat' constructor) (k := 1) (by repeat (first | exact Cut.d | apply Cut.t | apply Cut.s))) (TOk.x (by kernel_rfl) TOk.d)) ?_
   refine ea ?_; intro x38
   refine tk 4 rfl (by kernel_rfl) (fun _ _ _ h => h) gnone (TTany _) (p_add rfl rfl (by omega)) rfl ?_
   refine tk 5 rfl (by kernel_rfl) (fun _ _ _ h => h) gnone (TTany _) (p_fa fa39_3 rfl) rfl ?_
   refine df 6 (by kernel_rfl) ?_
   refine doR rfl (o_st rfl Tryz.sizeOf3 rfl rfl rfl rfl rfl (by repeat' constructor) (by repeat' constructor) (by repeat' constructor)) (TOk.x (by kernel_rfl) (TOk.x (by kernel_rfl) TOk.d)) ?_
   refine dn (by kernel_rfl) ?_
   refine nblock ?_
   refine nthen ?_
   refine cs ?_
   refine cd [2, 3] [(0, b3, 0, _), (1, b2, 0, _)] TryzX.mixed (TOk.t (isBoxS (by repeat' constructor) (k := 6) (by repeat (first | exact Cut.d | apply Cut.t | apply Cut.s))) (TOk.t (isBoxS (by repeat' constructor) (k := 6) (by repeat (first | exact Cut.d | apply Cut.t | apply Cut.s))) TOk.d)) ?_
   refine tk 0 rfl (by kernel_rfl) (fun _ _ _ h => h) gnone (TTat (List.Mem.head _)) (p_lda Tryz.isAgg39 Tryz.sizeOf39 rfl rfl) rfl ?_
   refine tk 1 rfl (by kernel_rfl) (fun _ _ _ h => h) gnone (TTat (List.Mem.tail _ (List.Mem.head _))) (p_lda Tryz.isAgg39 Tryz.sizeOf39 rfl rfl) rfl ?_
   refine df 2 (by kernel_rfl) ?_
   refine doR rfl (o_st rfl Tryz.sizeOf39 rfl rfl rfl rfl rfl (by repeat' constructor) (by repeat' constructor) (by repeat' constructor)) (TOk.x (by kernel_rfl) (TOk.t (isBoxS (by repeat' constructor) (k := 6) (by repeat (first | exact Cut.d | apply Cut.t | apply Cut.s))) TOk.d)) ?_
   refine df 3 (by kernel_rfl) ?_
   refine doR rfl (o_st rfl Tryz.sizeOf39 rfl rfl rfl rfl rfl (by repeat' constructor) (by repeat' constructor) (by repeat' constructor)) (TOk.x (by kernel_rfl) (TOk.x (by kernel_rfl) TOk.d)) ?_
   refine tk 4 rfl (by kernel_rfl) (fun _ _ _ h => h) gnone (TTany _) (p_asg rfl) rfl ?_
   refine dn (by kernel_rfl) ?_
   refine nthen ?_
   refine cret ?_
   refine xret (fun _ _ h => h) ?_
   refine rret (is := []) ⟨((q, { p with pos := p.pos + ((q.new.length : Int) - q.old.length) }, true), (yq, yp)), by rw [hunks, if_neg (by omega), if_pos h25]⟩ (Or.inl rfl) (Res.c rfl Tryz.isAgg39 Tryz.sizeOf39 (by repeat' constructor) (by rfl) (Res.c rfl Tryz.isAgg39 Tryz.sizeOf39 (by repeat' constructor) (by rfl) (Res.t rfl Res.d))) (rfl) rfl (by repeat' (first | constructor | apply Sub.suf))
  ·
   intro h25
   try simp only [decide_eq_true_eq, decide_eq_false_iff_not, Bool.not_eq_true', Bool.not_eq_false', Int.not_lt, Int.not_le, ge_iff_le, Bool.not_true, Bool.not_false] at h25
   refine cs ?_
   refine cd [2, 3] [(0, b2, 0, _), (1, b3, 0, _)] TryzX.mixed (TOk.t (isBoxS (by repeat' constructor) (k := 6) (by repeat (first | exact Cut.d | apply Cut.t | apply Cut.s))) (TOk.t (isBoxS (by repeat' constructor) (k := 6) (by repeat (first | exact Cut.d | apply Cut.t | apply Cut.s))) TOk.d)) ?_
   refine tk 0 rfl (by kernel_rfl) (fun _ _ _ h => h) gnone (TTat (List.Mem.head _)) (p_lda Tryz.isAgg39 Tryz.sizeOf39 rfl rfl) rfl ?_
   refine tk 1 rfl (by kernel_rfl) (fun _ _ _ h => h) gnone (TTat (List.Mem.tail _ (List.Mem.head _))) (p_lda Tryz.isAgg39 Tryz.sizeOf39 rfl rfl) rfl ?_
   refine df 2 (by kernel_rfl) ?_
   refine doR rfl (o_st rfl Tryz.sizeOf39 rfl rfl rfl rfl rfl (by repeat' constructor) (by repeat' constructor) (by repeat' constructor)) (TOk.x (by kernel_rfl) (TOk.t (isBoxS (by repeat' constructor) (k := 6) (by repeat (first | exact Cut.d | apply Cut.t | apply Cut.s))) TOk.d)) ?_
   refine df 3 (by kernel_rfl) ?_
   refine doR rfl (o_st rfl Tryz.sizeOf39 rfl rfl rfl rfl rfl (by repeat' constructor) (by repeat' constructor) (by repeat' constructor)) (TOk.x (by kernel_rfl) (TOk.x (by kernel_rfl) TOk.d)) ?_
   refine tk 4 rfl (by kernel_rfl) (fun _ _ _ h => h) gnone (TTany _) (p_asg rfl) rfl ?_
   refine dn (by kernel_rfl) ?_
   refine nthen ?_
   refine cret ?_
   refine xret (fun _ _ h => h) ?_
   refine rret (is := []) ⟨((p, q, false), (yp, yq)), by rw [hunks, if_neg (by omega), if_neg (by omega)]⟩ (Or.inl rfl) (Res.c rfl Tryz.isAgg39 Tryz.sizeOf39 (by repeat' constructor) (by rfl) (Res.c rfl Tryz.isAgg39 Tryz.sizeOf39 (by repeat' constructor) (by rfl) (Res.t rfl Res.d))) (rfl) rfl (by repeat' (first | constructor | apply Sub.suf))

end Go.Proofs.YtdbiillompeclaaGreatDoor.X

end
