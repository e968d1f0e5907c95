/- OWN WORK: a part of the proof of a law of the seat YtdbiillompeclaaDoor: contracts. -/
import Derived.Test.YtdbiillompeclaaDoorProg
import Derived.Test.YtdbiillompeclaaDoorXGC
import Derived.Test.YtdbiillompeclaaDoorXGB
section
set_option linter.unusedVariables false
set_option linter.unusedSimpArgs false
namespace Go.Proofs.YtdbiillompeclaaDoor.X
open Go Go.RowKit Go.Proofs Go.Sx
attribute [local irreducible] slA isA box row
theorem hunk_some {l m : List ByteArray} {p q : Nat × Nat} (h1 : p.1 ≤ q.1) (h2 : p.2 ≤ q.2) (h3 : q.1 ≤ l.length) (h4 : q.2 ≤ m.length) : decide (p.1 < q.1 ∨ p.2 < q.2) = decide ((0 : Int) < (((l.drop p.1).take (q.1 - p.1)).length : Int) + (((m.drop p.2).take (q.2 - p.2)).length : Int)) := by
 rw [decide_eq_decide, List.length_take, List.length_take, List.length_drop, List.length_drop]
 omega

theorem fa31_0 : FA Tryd.prog 31 0 0 := fun b o w => by kernel_rfl
theorem fa31_1 : FA Tryd.prog 31 1 1 := fun b o w => by kernel_rfl
theorem inf3 : (Tryd.prog.info? 3).map (fun i => (i.zero, i.size, i.bytes)) = some (some (.int .i64 0), 1, 8) := by kernel_rfl
theorem inf31 : (Tryd.prog.info? 31).map (fun i => (i.zero, i.size, i.bytes)) = some (some (.agg #[.int .i64 0, .int .i64 0]), 2, 16) := by kernel_rfl
theorem inf61 : (Tryd.prog.info? 61).map (fun i => (i.zero, i.size, i.bytes)) = some (some (.slice none 0 0), 1, 24) := by kernel_rfl
theorem sb31 : SB Tryd.prog 31 [(0, 1), (1, 1)] [.int .i64 0, .int .i64 0] := SB.struct Tryd.zeroValue31 rfl Tryd.underlying31 (fun w => by kernel_rfl)
set_option maxRecDepth 100000 in
theorem c_dLong (l m : List ByteArray) (A B : Option Addr) (c c' : Nat) : Con Tryd.prog 26 [.slice A l.length c, .slice B m.length c'] [] [] Unit (fun _ => .bool (longB l m)) (fun _ => []) (fun _ => []) := by
 refine con Tryd.func26 rfl Tryd.ntmps26 rfl ?_
 intro M0 F0 w0
 refine cs ?_
 refine cr ?_
 refine ls (op (p_asg rfl) rfl) ?_
 refine ln ?_
 refine nthen ?_
 refine cs ?_
 refine cr ?_
 refine ls (op (p_move rfl) rfl) ?_
 refine ls (op (p_lenl rfl Tryd.underlying22) rfl) ?_
 refine ls (op (p_icmp rfl rfl rfl) rfl) ?_
 refine ls (op (p_move rfl) rfl) ?_
 refine orX 4 8 12 rfl (subσ.cons (t := 4) rfl (subσ.nil _)) ?_ ?_
 ·
  intro h8
  refine lskip rfl rfl rfl rfl rfl ?_
  refine lskip rfl rfl rfl rfl rfl ?_
  refine lskip rfl rfl rfl rfl rfl ?_
  refine ls (op (p_pickt rfl rfl) rfl) ?_
  refine ln (nmid (wk0 (by repeat (first | exact subσ.nil _ | refine subσ.cons rfl ?_)) (by repeat' (first | constructor | apply Sub.suf))))
 apply exI
 ·
  intro h8
  refine lwant rfl rfl rfl rfl (op (p_move rfl) rfl) ?_
  refine lwant rfl rfl rfl rfl (op (p_lenl rfl Tryd.underlying22) rfl) ?_
  refine lwant rfl rfl rfl rfl (op (p_icmp rfl rfl rfl) rfl) ?_
  refine ls (op (p_pickf rfl rfl) rfl) ?_
  refine ln (nmid (wk0 (by repeat (first | exact subσ.nil _ | refine subσ.cons rfl ?_)) (by repeat' (first | constructor | apply Sub.suf))))
 ·
  refine ls (op (p_asg rfl) rfl) ?_
  refine ln ?_
  refine nthen ?_
  refine cret ?_
  refine xret (fun _ _ h => h) ?_
  refine rret (is := []) () (Or.inl rfl) (Res.t rfl Res.d) (rfl) rfl (by repeat' (first | constructor | apply Sub.suf))

set_option maxRecDepth 100000 in
theorem c_dLengths (l m : List ByteArray) (A B : Option Addr) (c c' : Nat) (hl : l.length ≤ 200) (hm : m.length ≤ 200) : Con Tryd.prog 27 [.slice A l.length c, .slice B m.length c'] [] [slA A l, slA B m] (Option Addr × Nat) (fun x => .slice x.1 (l.length + 1) x.2) (fun _ => []) (fun x => [slA x.1 (mkT (l.length + 1) (m.length + 1) (tf l m (0) (m.length)))]) := by
 refine con Tryd.func27 rfl Tryd.ntmps27 rfl ?_
 intro M0 F0 w0
 refine cs ?_
 refine cr ?_
 refine ls (op (p_asg rfl) rfl) ?_
 refine ln ?_
 refine nthen ?_
 refine cs ?_
 refine cr ?_
 refine ls (op (p_move rfl) rfl) ?_
 refine ls (op (p_lenl rfl Tryd.underlying22) rfl) ?_
 refine ls (op (p_add rfl rfl (by omega)) rfl) ?_
 refine ls (o_mk (⟨none, 0, 0⟩ : Hdr) () (l.length + 1) Tryd.underlying59 inf61 rfl (by decide) (fun _ _ p hp => by cases hp) (by omega) (by omega) rfl rfl (by omega) (by omega) rfl) ?_
 refine le ?_; intro g
 rw [List.length_replicate]
 refine lmono (fun a w h => tab0 (β := Int) (e2 := 3) (m := (m.length + 1)) (ls := List.replicate 0 (List.replicate (m.length + 1) 0)) (by repeat' constructor) (hd_0 (m.length + 1) (l.length + 1)) rfl (by repeat' constructor) h) ?_
 refine ls (op (p_asg rfl) rfl) ?_
 refine ln ?_
 refine nthen ?_
 refine cs ?_
 refine cs ?_
 refine cr ?_
 refine ls (op (p_move rfl) rfl) ?_
 refine ls (op (p_lenl rfl Tryd.underlying59) rfl) ?_
 refine ls (op (p_move rfl) rfl) ?_
 refine ln ?_
 refine nthen ?_
 refine cb ?_
 refine cl (ι := {q : Nat × List Nat // q.2.length = q.1 ∧ q.1 ≤ l.length + 1}) (fun i => St M0 F0 w0 89 [(0, .slice A l.length c), (1, .slice B m.length c'), (5, .slice (some ⟨g, 0, none⟩) (l.length + 1) (l.length + 1)), (14, .int .i64 ((l.length + 1 : Nat) : Int)), (15, .int .i64 ((i.1.1 : Nat) : Int))] [tab 61 3 g (l.length + 1) (hd (m.length + 1) i.1.2 (l.length + 1)) (m.length + 1) i.1.2 (List.replicate (i.1.1) (List.replicate (m.length + 1) 0))] [slA A l, slA B m]) (fun i => l.length + 1 - i.1.1) ⟨(0, []), rfl, Nat.zero_le _⟩ (wk0 (by repeat (first | exact subσ.nil _ | refine subσ.cons rfl ?_)) (by repeat' (first | constructor | apply Sub.suf))) ?_
 rintro ⟨⟨k, gs⟩, hgk, hk⟩
 refine cmono (S' := St M0 F0 w0 89 [(0, .slice A l.length c), (1, .slice B m.length c'), (5, .slice (some ⟨g, 0, none⟩) (l.length + 1) (l.length + 1)), (14, .int .i64 ((l.length + 1 : Nat) : Int)), (15, .int .i64 ((k : Nat) : Int))] [tab 61 3 g (l.length + 1) (hd (m.length + 1) gs (l.length + 1)) (m.length + 1) gs (List.replicate (k) (List.replicate (m.length + 1) 0))] [slA A l, slA B m]) (fun _ _ h => h) ?_
 refine cs ?_
 refine cr ?_
 refine ls (op (p_icmp rfl rfl rfl) rfl) ?_
 refine ln ?_
 refine nthen ?_
 refine cs ?_
 refine cc rfl ?_ ?_
 ·
  intro h16
  dsimp only at hgk hk
  try simp only [decide_eq_true_eq, decide_eq_false_iff_not, Bool.not_eq_true', Bool.not_eq_false', Int.not_lt, Int.not_le, ge_iff_le, Bool.not_true, Bool.not_false] at h16
  subst hgk
  have hg1 : gs.length < l.length + 1 := by omega
  refine cskip ?_
  refine nthen ?_
  refine cs ?_
  refine cb ?_
  refine cs ?_
  refine cr ?_
  refine ls (op (p_move rfl) rfl) ?_
  refine ls (op (p_asg rfl) rfl) ?_
  refine ln ?_
  refine nthen ?_
  refine cr ?_
  refine ls (op (p_move rfl) rfl) ?_
  refine ls (op (p_move rfl) rfl) ?_
  refine ls (op (p_move rfl) rfl) ?_
  refine ls (op (p_lenl rfl Tryd.underlying22) rfl) ?_
  refine ls (op (p_add rfl rfl (by omega)) rfl) ?_
  refine ls (o_mk (0 : Int) () (m.length + 1) Tryd.underlying61 inf3 rfl (by decide) (fun _ _ p hp => by cases hp) (by omega) (by omega) rfl rfl (by omega) (by omega) rfl) ?_
  refine le ?_; intro b23
  rw [List.length_replicate]
  refine ls (op (p_ia gs.length rfl hg1 rfl Tryd.underlying59 Tryd.sizeOf61 rfl rfl) rfl) ?_
  refine ls (o_tput (i := 1) (k := 0) (j := gs.length) rfl Tryd.sizeOf61 rfl rfl rfl (by rw [hd_length (by omega)]; exact hg1) (hd_set hg1) List.replicate_succ'.symm) ?_
  refine ln ?_
  refine nblock ?_
  refine nthen ?_
  refine cr ?_
  refine ls (op (p_add rfl rfl (by omega)) rfl) ?_
  refine ls (op (p_move rfl) rfl) ?_
  refine ln ?_
  refine nnext ⟨(gs.length + 1, gs ++ [b23]), by simp, by dsimp only; omega⟩ (by dsimp only; omega) (wk0 (by repeat (first | exact subσ.nil _ | refine subσ.cons rfl ?_)) (by repeat' (first | constructor | apply Sub.suf)))
 ·
  intro h16
  dsimp only at hgk hk
  try simp only [decide_eq_true_eq, decide_eq_false_iff_not, Bool.not_eq_true', Bool.not_eq_false', Int.not_lt, Int.not_le, ge_iff_le, Bool.not_true, Bool.not_false] at h16
  obtain rfl : k = l.length + 1 := by omega
  have hgs : gs.length = l.length + 1 := hgk
  refine cexit ?_
  refine xthen ?_
  refine xthen ?_
  refine xblock ?_
  refine nthen ?_
  refine cs ?_
  refine cs ?_
  refine cr ?_
  refine ls (op (p_move rfl) rfl) ?_
  refine ls (op (p_lenl rfl Tryd.underlying22) rfl) ?_
  refine ls (op (p_sub rfl rfl (by omega)) rfl) ?_
  refine ls (op (p_asg rfl) rfl) ?_
  refine ln ?_
  refine nthen ?_
  refine cb ?_
  refine cl (ι := {p : Nat // p ≤ l.length}) (fun i => St M0 F0 w0 89 [(0, .slice A l.length c), (1, .slice B m.length c'), (5, .slice (some ⟨g, 0, none⟩) (l.length + 1) (l.length + 1)), (7, .int .i64 ((i.1 : Int) - 1))] [tab 61 3 g (l.length + 1) (hd (m.length + 1) gs (l.length + 1)) (m.length + 1) gs (mkT (l.length + 1) (m.length + 1) (tf l m (i.1) (m.length)))] [slA A l, slA B m]) (fun i => i.1) ⟨l.length, Nat.le_refl _⟩ ((fun a w h => by dsimp only; rw [← len_init]; exact wk0 (by repeat (first | exact subσ.nil _ | refine subσ.cons rfl ?_)) (by repeat' (first | constructor | apply Sub.suf)) a w h)) ?_
  rintro ⟨p, hp⟩
  refine cmono (S' := St M0 F0 w0 89 [(0, .slice A l.length c), (1, .slice B m.length c'), (5, .slice (some ⟨g, 0, none⟩) (l.length + 1) (l.length + 1)), (7, .int .i64 ((p : Int) - 1))] [tab 61 3 g (l.length + 1) (hd (m.length + 1) gs (l.length + 1)) (m.length + 1) gs (mkT (l.length + 1) (m.length + 1) (tf l m (p) (m.length)))] [slA A l, slA B m]) (fun _ _ h => h) ?_
  refine cs ?_
  refine cs ?_
  refine cr ?_
  refine ls (op (p_move rfl) rfl) ?_
  refine ls (op (p_icmp rfl rfl rfl) rfl) ?_
  refine ln ?_
  refine nthen ?_
  refine cc rfl ?_ ?_
  ·
   intro h30
   try simp only [decide_eq_true_eq, decide_eq_false_iff_not, Bool.not_eq_true', Bool.not_eq_false', Int.not_lt, Int.not_le, ge_iff_le, Bool.not_true, Bool.not_false] at h30
   obtain ⟨p, rfl⟩ : ∃ p', p = p' + 1 := ⟨p - 1, by omega⟩
   refine cskip ?_
   refine nthen ?_
   refine cs ?_
   refine cb ?_
   refine cs ?_
   refine cr ?_
   refine ls (op (p_move rfl) rfl) ?_
   refine ls (op (p_lenl rfl Tryd.underlying22) rfl) ?_
   refine ls (op (p_sub rfl rfl (by omega)) rfl) ?_
   refine ls (op (p_asg rfl) rfl) ?_
   refine ln ?_
   refine nthen ?_
   refine cb ?_
   refine cl (ι := {q : Nat // q ≤ m.length}) (fun i => St M0 F0 w0 89 [(0, .slice A l.length c), (1, .slice B m.length c'), (5, .slice (some ⟨g, 0, none⟩) (l.length + 1) (l.length + 1)), (7, .int .i64 (((p + 1 : Nat) : Int) - 1)), (8, .int .i64 ((i.1 : Int) - 1))] [tab 61 3 g (l.length + 1) (hd (m.length + 1) gs (l.length + 1)) (m.length + 1) gs (mkT (l.length + 1) (m.length + 1) (tf l m (p + 1) (i.1)))] [slA A l, slA B m]) (fun i => i.1) ⟨m.length, Nat.le_refl _⟩ (wk0 (by repeat (first | exact subσ.nil _ | refine subσ.cons rfl ?_)) (by repeat' (first | constructor | apply Sub.suf))) ?_
   rintro ⟨q, hq⟩
   refine cmono (S' := St M0 F0 w0 89 [(0, .slice A l.length c), (1, .slice B m.length c'), (5, .slice (some ⟨g, 0, none⟩) (l.length + 1) (l.length + 1)), (7, .int .i64 (((p + 1 : Nat) : Int) - 1)), (8, .int .i64 ((q : Int) - 1))] [tab 61 3 g (l.length + 1) (hd (m.length + 1) gs (l.length + 1)) (m.length + 1) gs (mkT (l.length + 1) (m.length + 1) (tf l m (p + 1) (q)))] [slA A l, slA B m]) (fun _ _ h => h) ?_
   refine cs ?_
   refine cs ?_
   refine cr ?_
   refine ls (op (p_move rfl) rfl) ?_
   refine ls (op (p_icmp rfl rfl rfl) rfl) ?_
   refine ln ?_
   refine nthen ?_
   refine cc rfl ?_ ?_
   ·
    intro h37
    try simp only [decide_eq_true_eq, decide_eq_false_iff_not, Bool.not_eq_true', Bool.not_eq_false', Int.not_lt, Int.not_le, ge_iff_le, Bool.not_true, Bool.not_false] at h37
    obtain ⟨q, rfl⟩ : ∃ q', q = q' + 1 := ⟨q - 1, by omega⟩
    have hp1 : p < l.length := by omega
    have hq1 : q < m.length := by omega
    refine cskip ?_
    refine nthen ?_
    refine cs ?_
    refine cb ?_
    refine cs ?_
    refine cdB [23] [(3, g, 0 + p * Rp.size Hdr, _), (9, g, 0 + (p + 1) * Rp.size Hdr, _), (12, gs[p + 1], 0 + q * Rp.size Int, _), (16, g, 0 + p * Rp.size Hdr, _), (20, gs[p], 0 + (q + 1) * Rp.size Int, _)] TrydX.mixed (by kernel_rfl) (by kernel_rfl) (TOk.t (isTabH (by repeat' constructor) (hd_at hgs (by omega))) (TOk.t (isTabH (by repeat' constructor) (hd_at hgs (by omega))) (TOk.t (isTabI (by repeat' constructor) (List.getElem?_eq_getElem (by omega : (p + 1) < gs.length)) (mkT_row (f := tf l m (p + 1) (q + 1)) (by omega)) (mkR_at (f := (tf l m (p + 1) (q + 1)) (p + 1)) (by omega))) (TOk.t (isTabH (by repeat' constructor) (hd_at hgs (by omega))) (TOk.t (isTabI (by repeat' constructor) (List.getElem?_eq_getElem (by omega : p < gs.length)) (mkT_row (f := tf l m (p + 1) (q + 1)) (by omega)) (mkR_at (f := (tf l m (p + 1) (q + 1)) p) (by omega))) TOk.d))))) ?_
    refine tkB 0 rfl (by kernel_rfl) (fun _ _ _ h => h) gnone (TTany _) (p_move rfl) rfl ?_
    refine tkB 1 rfl (by kernel_rfl) (fun _ _ _ h => h) gnone (TTany _) (p_move rfl) rfl ?_
    refine tkB 2 rfl (by kernel_rfl) (fun _ _ _ h => h) gnone (TTany _) (p_ia p rfl (by omega) (by omega) Tryd.underlying59 Tryd.sizeOf61 rfl rfl) rfl ?_
    refine tkB 3 rfl (by kernel_rfl) (fun _ _ _ h => h) gnone (TTat (List.Mem.head _)) (p_ld Tryd.isAgg61 rfl) rfl ?_
    refine tkB 4 rfl (by kernel_rfl) (fun _ _ _ h => h) gnone (TTany _) (p_move rfl) rfl ?_
    refine tkB 5 rfl (by kernel_rfl) (fun _ _ _ h => h) gnone (TTany _) (p_move rfl) rfl ?_
    refine tkB 6 rfl (by kernel_rfl) (fun _ _ _ h => h) gnone (TTany _) (p_move rfl) rfl ?_
    refine tkB 7 rfl (by kernel_rfl) (fun _ _ _ h => h) gnone (TTany _) (p_add rfl rfl (by omega)) rfl ?_
    refine tkB 8 rfl (by kernel_rfl) (fun _ _ _ h => h) gnone (TTany _) (p_ia (p + 1) rfl (by omega) (by omega) Tryd.underlying59 Tryd.sizeOf61 rfl rfl) rfl ?_
    refine tkB 9 rfl (by kernel_rfl) (fun _ _ _ h => h) gnone (TTat (List.Mem.tail _ (List.Mem.head _))) (p_ld Tryd.isAgg61 rfl) rfl ?_
    refine tkB 10 rfl (by kernel_rfl) (fun _ _ _ h => h) gnone (TTany _) (p_move rfl) rfl ?_
    refine tkB 11 rfl (by kernel_rfl) (fun _ _ _ h => h) gnone (TTany _) (p_ia q rfl (show q < m.length + 1 by omega) (by omega) Tryd.underlying61 Tryd.sizeOf3 rfl rfl) rfl ?_
    refine tkB 12 rfl (by kernel_rfl) (fun _ _ _ h => h) gnone (TTat (List.Mem.tail _ (List.Mem.tail _ (List.Mem.head _)))) (p_ld Tryd.isAgg3 rfl) rfl ?_
    refine tkB 13 rfl (by kernel_rfl) (fun _ _ _ h => h) gnone (TTany _) (p_move rfl) rfl ?_
    refine tkB 14 rfl (by kernel_rfl) (fun _ _ _ h => h) gnone (TTany _) (p_move rfl) rfl ?_
    refine tkB 15 rfl (by kernel_rfl) (fun _ _ _ h => h) gnone (TTany _) (p_ia p rfl (by omega) (by omega) Tryd.underlying59 Tryd.sizeOf61 rfl rfl) rfl ?_
    refine tkB 16 rfl (by kernel_rfl) (fun _ _ _ h => h) gnone (TTat (List.Mem.tail _ (List.Mem.tail _ (List.Mem.tail _ (List.Mem.head _))))) (p_ld Tryd.isAgg61 rfl) rfl ?_
    refine tkB 17 rfl (by kernel_rfl) (fun _ _ _ h => h) gnone (TTany _) (p_move rfl) rfl ?_
    refine tkB 18 rfl (by kernel_rfl) (fun _ _ _ h => h) gnone (TTany _) (p_add rfl rfl (by omega)) rfl ?_
    refine tkB 19 rfl (by kernel_rfl) (fun _ _ _ h => h) gnone (TTany _) (p_ia (q + 1) rfl (show (q + 1) < m.length + 1 by omega) (by omega) Tryd.underlying61 Tryd.sizeOf3 rfl rfl) rfl ?_
    refine tkB 20 rfl (by kernel_rfl) (fun _ _ _ h => h) gnone (TTat (List.Mem.tail _ (List.Mem.tail _ (List.Mem.tail _ (List.Mem.tail _ (List.Mem.head _)))))) (p_ld Tryd.isAgg3 rfl) rfl ?_
    refine tkB 21 rfl (by kernel_rfl) (fun _ _ _ h => h) gnone (TTany _) (p_max rfl rfl) rfl ?_
    refine tkB 22 rfl (by kernel_rfl) (fun _ _ _ h => h) gnone (TTany _) (p_ia q rfl (show q < m.length + 1 by omega) (by omega) Tryd.underlying61 Tryd.sizeOf3 rfl rfl) rfl ?_
    refine dfB 23 (by kernel_rfl) ?_
    refine doRB rfl (o_tst (j := p) (k := q) (b := gs[p]) (l := (List.range (m.length + 1)).map ((tf l m (p + 1) (q + 1)) p)) (z := max (tf l m (p + 1) (q + 1) (p + 1) q) (tf l m (p + 1) (q + 1) p (q + 1))) (yz := ()) rfl Tryd.sizeOf3 rfl rfl rfl (by repeat' constructor) (List.getElem?_eq_getElem (by omega : p < gs.length)) (mkT_row (by omega)) (by rw [mkR_length]; omega) (mkT_set (g := upF (tf l m (p + 1) (q + 1)) p q (max (tf l m (p + 1) (q + 1) (p + 1) q) (tf l m (p + 1) (q + 1) p (q + 1)))) (fun _ _ _ _ => rfl)) (by repeat' constructor) (by repeat' (first | constructor | apply Sub.suf))) (TOk.xP 23 [] (by kernel_rfl) (TOk.xP 23 [] (by kernel_rfl) (TOk.xP 23 [] (by kernel_rfl) (TOk.xP 23 [] (by kernel_rfl) (TOk.xP 23 [] (by kernel_rfl) TOk.d))))) ?_
    refine dnB (by kernel_rfl) ?_
    refine nthen ?_
    refine cs ?_
    refine elC (A := A) (l := l) (by repeat' constructor) p (List.getElem?_eq_getElem (l := l) hp1) ?_; rintro zba zoa zya hAa
    refine elC (A := B) (l := m) (by repeat' constructor) q (List.getElem?_eq_getElem (l := m) hq1) ?_; rintro zbb zob zyb hAb
    refine cdB [] [(3, zba, zoa + p * Rp.size ByteArray, _), (7, zbb, zob + q * Rp.size ByteArray, _)] TrydX.mixed (by kernel_rfl) (by kernel_rfl) (TOk.t (isInS (by repeat' constructor) (k := 0) rfl (z := 1) (by repeat (first | exact Cut.d | apply Cut.t | apply Cut.s))) (TOk.t (isInS (by repeat' constructor) (k := 0) rfl (z := 1) (by repeat (first | exact Cut.d | apply Cut.t | apply Cut.s))) TOk.d)) ?_
    refine tkB 0 rfl (by kernel_rfl) (fun _ _ _ h => h) gnone (TTany _) (p_move rfl) rfl ?_
    refine tkB 1 rfl (by kernel_rfl) (fun _ _ _ h => h) gnone (TTany _) (p_move rfl) rfl ?_
    refine tkB 2 rfl (by kernel_rfl) (fun _ _ _ h => h) gnone (TTany _) (p_ia p hAa hp1 (by omega) Tryd.underlying22 Tryd.sizeOf9 rfl rfl) rfl ?_
    refine tkB 3 rfl (by kernel_rfl) (fun _ _ _ h => h) gnone (TTat (List.Mem.head _)) (p_ld Tryd.isAgg9 rfl) rfl ?_
    refine tkB 4 rfl (by kernel_rfl) (fun _ _ _ h => h) gnone (TTany _) (p_move rfl) rfl ?_
    refine tkB 5 rfl (by kernel_rfl) (fun _ _ _ h => h) gnone (TTany _) (p_move rfl) rfl ?_
    refine tkB 6 rfl (by kernel_rfl) (fun _ _ _ h => h) gnone (TTany _) (p_ia q hAb hq1 (by omega) Tryd.underlying22 Tryd.sizeOf9 rfl rfl) rfl ?_
    refine tkB 7 rfl (by kernel_rfl) (fun _ _ _ h => h) gnone (TTat (List.Mem.tail _ (List.Mem.head _))) (p_ld Tryd.isAgg9 rfl) rfl ?_
    refine tkB 8 rfl (by kernel_rfl) (fun _ _ _ h => h) gnone (TTany _) (p_seq rfl rfl) rfl ?_
    refine dnB (by kernel_rfl) ?_
    refine nthen ?_
    refine cc rfl ?_ ?_
    ·
     intro h71
     try simp only [decide_eq_true_eq, decide_eq_false_iff_not, Bool.not_eq_true', Bool.not_eq_false', Int.not_lt, Int.not_le, ge_iff_le, Bool.not_true, Bool.not_false] at h71
     refine cdB [16] [(3, g, 0 + p * Rp.size Hdr, _), (9, g, 0 + (p + 1) * Rp.size Hdr, _), (13, gs[p + 1], 0 + (q + 1) * Rp.size Int, _)] TrydX.mixed (by kernel_rfl) (by kernel_rfl) (TOk.t (isTabH (by repeat' constructor) (hd_at hgs (by omega))) (TOk.t (isTabH (by repeat' constructor) (hd_at hgs (by omega))) (TOk.t (isTabI (by repeat' constructor) (List.getElem?_eq_getElem (by omega : (p + 1) < gs.length)) (mkT_row (f := upF (tf l m (p + 1) (q + 1)) p q (max (tf l m (p + 1) (q + 1) (p + 1) q) (tf l m (p + 1) (q + 1) p (q + 1)))) (by omega)) (mkR_at (f := (upF (tf l m (p + 1) (q + 1)) p q (max (tf l m (p + 1) (q + 1) (p + 1) q) (tf l m (p + 1) (q + 1) p (q + 1)))) (p + 1)) (by omega))) TOk.d))) ?_
     refine tkB 0 rfl (by kernel_rfl) (fun _ _ _ h => h) gnone (TTany _) (p_move rfl) rfl ?_
     refine tkB 1 rfl (by kernel_rfl) (fun _ _ _ h => h) gnone (TTany _) (p_move rfl) rfl ?_
     refine tkB 2 rfl (by kernel_rfl) (fun _ _ _ h => h) gnone (TTany _) (p_ia p rfl (by omega) (by omega) Tryd.underlying59 Tryd.sizeOf61 rfl rfl) rfl ?_
     refine tkB 3 rfl (by kernel_rfl) (fun _ _ _ h => h) gnone (TTat (List.Mem.head _)) (p_ld Tryd.isAgg61 rfl) rfl ?_
     refine tkB 4 rfl (by kernel_rfl) (fun _ _ _ h => h) gnone (TTany _) (p_move rfl) rfl ?_
     refine tkB 5 rfl (by kernel_rfl) (fun _ _ _ h => h) gnone (TTany _) (p_move rfl) rfl ?_
     refine tkB 6 rfl (by kernel_rfl) (fun _ _ _ h => h) gnone (TTany _) (p_move rfl) rfl ?_
     refine tkB 7 rfl (by kernel_rfl) (fun _ _ _ h => h) gnone (TTany _) (p_add rfl rfl (by omega)) rfl ?_
     refine tkB 8 rfl (by kernel_rfl) (fun _ _ _ h => h) gnone (TTany _) (p_ia (p + 1) rfl (by omega) (by omega) Tryd.underlying59 Tryd.sizeOf61 rfl rfl) rfl ?_
     refine tkB 9 rfl (by kernel_rfl) (fun _ _ _ h => h) gnone (TTat (List.Mem.tail _ (List.Mem.head _))) (p_ld Tryd.isAgg61 rfl) rfl ?_
     refine tkB 10 rfl (by kernel_rfl) (fun _ _ _ h => h) gnone (TTany _) (p_move rfl) rfl ?_
     refine tkB 11 rfl (by kernel_rfl) (fun _ _ _ h => h) gnone (TTany _) (p_add rfl rfl (by omega)) rfl ?_
     refine tkB 12 rfl (by kernel_rfl) (fun _ _ _ h => h) gnone (TTany _) (p_ia (q + 1) rfl (show (q + 1) < m.length + 1 by omega) (by omega) Tryd.underlying61 Tryd.sizeOf3 rfl rfl) rfl ?_
     refine tkB 13 rfl (by kernel_rfl) (fun _ _ _ h => h) gnone (TTat (List.Mem.tail _ (List.Mem.tail _ (List.Mem.head _)))) (p_ld Tryd.isAgg3 rfl) rfl ?_
     refine tkB 14 rfl (by kernel_rfl) (fun _ _ _ h => h) gnone (TTany _) (p_add rfl rfl (by rw [upF_at, if_neg (by omega), tf_in (.inl (Nat.le_refl _))]; have := cmn_le (a := l) (b := m) (i := p + 1) (k := q + 1); omega)) rfl ?_
     refine tkB 15 rfl (by kernel_rfl) (fun _ _ _ h => h) gnone (TTany _) (p_ia q rfl (show q < m.length + 1 by omega) (by omega) Tryd.underlying61 Tryd.sizeOf3 rfl rfl) rfl ?_
     refine dfB 16 (by kernel_rfl) ?_
     refine doRB rfl (o_tst (j := p) (k := q) (b := gs[p]) (l := (List.range (m.length + 1)).map ((upF (tf l m (p + 1) (q + 1)) p q (max (tf l m (p + 1) (q + 1) (p + 1) q) (tf l m (p + 1) (q + 1) p (q + 1)))) p)) (z := (upF (tf l m (p + 1) (q + 1)) p q (max (tf l m (p + 1) (q + 1) (p + 1) q) (tf l m (p + 1) (q + 1) p (q + 1)))) (p + 1) (q + 1) + 1) (yz := ()) rfl Tryd.sizeOf3 rfl rfl rfl (by repeat' constructor) (List.getElem?_eq_getElem (by omega : p < gs.length)) (mkT_row (by omega)) (by rw [mkR_length]; omega) (mkT_set (g := upF (upF (tf l m (p + 1) (q + 1)) p q (max (tf l m (p + 1) (q + 1) (p + 1) q) (tf l m (p + 1) (q + 1) p (q + 1)))) p q ((upF (tf l m (p + 1) (q + 1)) p q (max (tf l m (p + 1) (q + 1) (p + 1) q) (tf l m (p + 1) (q + 1) p (q + 1)))) (p + 1) (q + 1) + 1)) (fun _ _ _ _ => rfl)) (by repeat' constructor) (by repeat' (first | constructor | apply Sub.suf))) (TOk.xP 16 [] (by kernel_rfl) (TOk.xP 16 [] (by kernel_rfl) (TOk.xP 16 [] (by kernel_rfl) TOk.d))) ?_
     refine dnB (by kernel_rfl) ?_
     refine nblock ?_
     refine nthen ?_
     refine cr ?_
     refine ls (op (p_move rfl) rfl) ?_
     refine ls (op (p_sub rfl rfl (by omega)) rfl) ?_
     refine fixL (v' := .int .i64 ((q : Int) - 1)) (by congr 1; omega) ?_
     refine ls (op (p_asg rfl) rfl) ?_
     refine ln ?_
     refine nnext ⟨q, by omega⟩ (by dsimp only; omega) (fun a w h => by dsimp only; rw [← len_eq hp1 hq1 h71]; exact wk0 (by repeat (first | exact subσ.nil _ | refine subσ.cons rfl ?_)) (by repeat' (first | constructor | apply Sub.suf)) a w h)
    ·
     intro h71
     try simp only [decide_eq_true_eq, decide_eq_false_iff_not, Bool.not_eq_true', Bool.not_eq_false', Int.not_lt, Int.not_le, ge_iff_le, Bool.not_true, Bool.not_false] at h71
     refine cskip ?_
     refine nblock ?_
     refine nthen ?_
     refine cr ?_
     refine ls (op (p_move rfl) rfl) ?_
     refine ls (op (p_sub rfl rfl (by omega)) rfl) ?_
     refine fixL (v' := .int .i64 ((q : Int) - 1)) (by congr 1; omega) ?_
     refine ls (op (p_asg rfl) rfl) ?_
     refine ln ?_
     refine nnext ⟨q, by omega⟩ (by dsimp only; omega) (fun a w h => by dsimp only; rw [← len_ne hp1 hq1 h71]; exact wk0 (by repeat (first | exact subσ.nil _ | refine subσ.cons rfl ?_)) (by repeat' (first | constructor | apply Sub.suf)) a w h)
   ·
    intro h37
    try simp only [decide_eq_true_eq, decide_eq_false_iff_not, Bool.not_eq_true', Bool.not_eq_false', Int.not_lt, Int.not_le, ge_iff_le, Bool.not_true, Bool.not_false] at h37
    obtain rfl : q = 0 := by omega
    refine cexit ?_
    refine xthen ?_
    refine xthen ?_
    refine xblock ?_
    refine nblock ?_
    refine nthen ?_
    refine cr ?_
    refine ls (op (p_move rfl) rfl) ?_
    refine ls (op (p_sub rfl rfl (by omega)) rfl) ?_
    refine fixL (v' := .int .i64 ((p : Int) - 1)) (by congr 1; omega) ?_
    refine ls (op (p_asg rfl) rfl) ?_
    refine ln ?_
    refine nnext ⟨p, by omega⟩ (by dsimp only; omega) (fun a w h => by dsimp only; rw [← len_row l m p (by omega)]; exact wk0 (by repeat (first | exact subσ.nil _ | refine subσ.cons rfl ?_)) (by repeat' (first | constructor | apply Sub.suf)) a w h)
  ·
   intro h30
   try simp only [decide_eq_true_eq, decide_eq_false_iff_not, Bool.not_eq_true', Bool.not_eq_false', Int.not_lt, Int.not_le, ge_iff_le, Bool.not_true, Bool.not_false] at h30
   obtain rfl : p = 0 := by omega
   refine cexit ?_
   refine xthen ?_
   refine xthen ?_
   refine xblock ?_
   refine nthen ?_
   refine cs ?_
   refine cmono (fun a w h => freezeTab (i := 0) rfl (hd_all hgs) mkT_mem h) ?_
   refine cr ?_
   refine ls (op (p_move rfl) rfl) ?_
   refine ls (op (p_asg rfl) rfl) ?_
   refine ln ?_
   refine nthen ?_
   refine cret ?_
   refine xret (fun _ _ h => h) ?_
   refine rret (is := []) (some ⟨g, 0, none⟩, l.length + 1) (Or.inl rfl) (Res.t rfl Res.d) (rfl) rfl (by repeat' (first | constructor | apply Sub.suf))

set_option maxRecDepth 100000 in
theorem c_dCommon (l m : List ByteArray) (A B : Option Addr) (c c' : Nat) (hl : l.length ≤ 1000000) (hm : m.length ≤ 1000000) : Con Tryd.prog 10 [.slice A l.length c, .slice B m.length c'] [] [slA A l, slA B m] {x : List (Nat × Nat) × (Option Addr × Nat) // (longB l m = true → x.1 = []) ∧ (longB l m = false → Comm l m x.1)} (fun x => .slice x.1.2.1 x.1.1.length x.1.2.2) (fun x => [row 31 x.1.2.1 x.1.2.2 x.1.1]) (fun _ => []) := by
 refine con Tryd.func10 rfl Tryd.ntmps10 rfl ?_
 intro M0 F0 w0
 refine cs ?_
 refine cr ?_
 refine ls (op (p_asg rfl) rfl) ?_
 refine ln ?_
 refine nthen ?_
 refine cscope ?_
 refine cs ?_
 refine cs ?_
 refine cr ?_
 refine ls (op (p_move rfl) rfl) ?_
 refine ls (op (p_move rfl) rfl) ?_
 refine ls (o_call (is := []) Tryd.call26 (c_dLong l m A B c c') rfl rfl (by repeat' (first | constructor | apply Sub.suf)) rfl) ?_
 refine le ?_; intro x13
 refine ln ?_
 refine nthen ?_
 refine cc rfl ?_ ?_
 ·
  intro h13
  skip
  refine cs ?_
  refine cmono (fun a w h => nilRow (α := Nat × Nat) 31 h) ?_
  refine cr ?_
  refine ls (op (p_asg rfl) rfl) ?_
  refine ln ?_
  refine nthen ?_
  refine cret ?_
  refine xret (fun _ _ h => h) ?_
  refine rret (is := [0]) ⟨([], (none, 0)), fun _ => rfl, fun h => by rw [h13] at h; cases h⟩ (Or.inl rfl) (Res.t rfl Res.d) (rfl) rfl (by repeat' (first | constructor | apply Sub.suf))
 ·
  intro h13
  obtain ⟨hl2, hm2⟩ := longB_no h13
  refine cskip ?_
  refine nthen ?_
  refine cs ?_
  refine cr ?_
  refine ls (op (p_move rfl) rfl) ?_
  refine ls (op (p_move rfl) rfl) ?_
  refine ls (o_call (is := []) Tryd.call27 (c_dLengths l m A B c c' hl2 hm2) rfl rfl (by repeat' (first | constructor | apply Sub.suf)) rfl) ?_
  refine le ?_; rintro ⟨A5, c5⟩
  refine ls (op (p_asg rfl) rfl) ?_
  refine ln ?_
  refine nthen ?_
  refine cs ?_
  refine cmono (fun a w h => nilRow (α := Nat × Nat) 31 h) ?_
  refine cr ?_
  refine ls (op (p_asg rfl) rfl) ?_
  refine ln ?_
  refine nthen ?_
  refine cs ?_
  refine cr ?_
  refine ls (op (p_asg rfl) rfl) ?_
  refine ls (op (p_asg rfl) rfl) ?_
  refine ln ?_
  refine nthen ?_
  refine cs ?_
  refine clabel ?_
  refine nthen ?_
  refine cs ?_
  refine cb ?_
  refine cl (ι := {q : List (Nat × Nat) × (Nat × Nat) × (Option Addr × Nat) // Chain l m q.1 q.2.1.1 q.2.1.2}) (fun i => St M0 F0 w0 76 [(0, .slice A l.length c), (1, .slice B m.length c'), (5, .slice A5 (l.length + 1) c5), (6, .slice i.1.2.2.1 (i.1.1).length i.1.2.2.2), (7, .int .i64 ((i.1.2.1.1 : Nat) : Int)), (8, .int .i64 ((i.1.2.1.2 : Nat) : Int))] [row 31 (i.1.2.2.1) (i.1.2.2.2) i.1.1] [slA A l, slA B m, slA A5 (mkT (l.length + 1) (m.length + 1) (tf l m (0) (m.length)))]) (fun i => cmn l m (i.1.2.1.1) (i.1.2.1.2)) ⟨([], (0, 0), (none, 0)), Chain.nil⟩ (wk0 (by repeat (first | exact subσ.nil _ | refine subσ.cons rfl ?_)) (by repeat' (first | constructor | apply Sub.suf))) ?_
  rintro ⟨⟨o, ⟨u, k⟩, ⟨A6, c6⟩⟩, hch⟩
  refine cmono (S' := St M0 F0 w0 76 [(0, .slice A l.length c), (1, .slice B m.length c'), (5, .slice A5 (l.length + 1) c5), (6, .slice A6 (o).length c6), (7, .int .i64 ((u : Nat) : Int)), (8, .int .i64 ((k : Nat) : Int))] [row 31 (A6) (c6) o] [slA A l, slA B m, slA A5 (mkT (l.length + 1) (m.length + 1) (tf l m (0) (m.length)))]) (fun _ _ h => h) ?_
  refine cs ?_
  refine cs ?_
  dsimp only at hch
  have hle := hch.le
  refine elC (A := A5) (l := mkT (l.length + 1) (m.length + 1) (tf l m (0) (m.length))) (by repeat' constructor) u (mkT_row (by omega)) ?_; rintro zbt zot zyt hAt
  refine elC (A := zyt.1) (l := (List.range (m.length + 1)).map ((tf l m (0) (m.length)) u)) (by repeat' constructor) k (mkR_at (by omega)) ?_; rintro zbu zou zyu hAu
  refine cr ?_
  refine ls (op (p_move rfl) rfl) ?_
  refine ls (op (p_move rfl) rfl) ?_
  refine ls (op (p_ia u hAt (by omega) rfl Tryd.underlying59 Tryd.sizeOf61 rfl rfl) rfl) ?_
  refine ls (o_ldi Tryd.isAgg61 rfl (by repeat' constructor) 0 rfl (by repeat (first | exact Cut.d | apply Cut.t | apply Cut.s)) rfl) ?_
  refine ls (op (p_move rfl) rfl) ?_
  refine ls (op (p_ia k hAu (by rw [mkR_length]; omega) rfl Tryd.underlying61 Tryd.sizeOf3 rfl rfl) rfl) ?_
  refine ls (o_ldi Tryd.isAgg3 rfl (by repeat' constructor) 0 rfl (by repeat (first | exact Cut.d | apply Cut.t | apply Cut.s)) rfl) ?_
  refine ls (op (p_icmp rfl rfl rfl) rfl) ?_
  refine ln ?_
  refine nthen ?_
  refine cc rfl ?_ ?_
  ·
   intro h24
   have hpos : 0 < cmn l m u k := by have h := h24; rw [tf0] at h; simp at h; omega
   refine cskip ?_
   refine nthen ?_
   refine cb ?_
   refine cs ?_
   refine cr ?_
   refine ls (op (p_move rfl) rfl) ?_
   refine ls (op (p_asg rfl) rfl) ?_
   refine ln ?_
   refine nthen ?_
   refine cb ?_
   refine cl (ι := {x : Nat // u ≤ x ∧ x ≤ l.length ∧ NoneB l m u k x k}) (fun i => St M0 F0 w0 76 [(0, .slice A l.length c), (1, .slice B m.length c'), (5, .slice A5 (l.length + 1) c5), (6, .slice A6 (o).length c6), (7, .int .i64 ((u : Nat) : Int)), (8, .int .i64 ((k : Nat) : Int)), (9, .int .i64 ((i.1 : Nat) : Int))] [row 31 A6 c6 o] [slA A l, slA B m, slA A5 (mkT (l.length + 1) (m.length + 1) (tf l m (0) (m.length)))]) (fun i => l.length - i.1) ⟨u, Nat.le_refl _, hle.1, noneB_0 l m u k⟩ (wk0 (by repeat (first | exact subσ.nil _ | refine subσ.cons rfl ?_)) (by repeat' (first | constructor | apply Sub.suf))) ?_
   rintro ⟨x, hix, hxl, hnx⟩
   refine cmono (S' := St M0 F0 w0 76 [(0, .slice A l.length c), (1, .slice B m.length c'), (5, .slice A5 (l.length + 1) c5), (6, .slice A6 (o).length c6), (7, .int .i64 ((u : Nat) : Int)), (8, .int .i64 ((k : Nat) : Int)), (9, .int .i64 ((x : Nat) : Int))] [row 31 A6 c6 o] [slA A l, slA B m, slA A5 (mkT (l.length + 1) (m.length + 1) (tf l m (0) (m.length)))]) (fun _ _ h => h) ?_
   refine cs ?_
   refine cs ?_
   refine cr ?_
   refine ls (op (p_move rfl) rfl) ?_
   refine ls (op (p_move rfl) rfl) ?_
   refine ls (op (p_lenl rfl Tryd.underlying22) rfl) ?_
   refine ls (op (p_icmp rfl rfl rfl) rfl) ?_
   refine ln ?_
   refine nthen ?_
   refine cc rfl ?_ ?_
   ·
    intro h29
    try simp only [decide_eq_true_eq, decide_eq_false_iff_not, Bool.not_eq_true', Bool.not_eq_false', Int.not_lt, Int.not_le, ge_iff_le, Bool.not_true, Bool.not_false] at h29
    have hx1 : x < l.length := by omega
    refine cskip ?_
    refine nthen ?_
    refine cs ?_
    refine cb ?_
    refine cs ?_
    refine cr ?_
    refine ls (op (p_move rfl) rfl) ?_
    refine ls (op (p_asg rfl) rfl) ?_
    refine ln ?_
    refine nthen ?_
    refine cb ?_
    refine cl (ι := {y : Nat // k ≤ y ∧ y ≤ m.length ∧ NoneB l m u k x y}) (fun i => St M0 F0 w0 76 [(0, .slice A l.length c), (1, .slice B m.length c'), (5, .slice A5 (l.length + 1) c5), (6, .slice A6 (o).length c6), (7, .int .i64 ((u : Nat) : Int)), (8, .int .i64 ((k : Nat) : Int)), (9, .int .i64 ((x : Nat) : Int)), (10, .int .i64 ((i.1 : Nat) : Int))] [row 31 A6 c6 o] [slA A l, slA B m, slA A5 (mkT (l.length + 1) (m.length + 1) (tf l m (0) (m.length)))]) (fun i => m.length - i.1) ⟨k, Nat.le_refl _, hle.2, hnx⟩ (wk0 (by repeat (first | exact subσ.nil _ | refine subσ.cons rfl ?_)) (by repeat' (first | constructor | apply Sub.suf))) ?_
    rintro ⟨y, hky, hyl, hny⟩
    refine cmono (S' := St M0 F0 w0 76 [(0, .slice A l.length c), (1, .slice B m.length c'), (5, .slice A5 (l.length + 1) c5), (6, .slice A6 (o).length c6), (7, .int .i64 ((u : Nat) : Int)), (8, .int .i64 ((k : Nat) : Int)), (9, .int .i64 ((x : Nat) : Int)), (10, .int .i64 ((y : Nat) : Int))] [row 31 A6 c6 o] [slA A l, slA B m, slA A5 (mkT (l.length + 1) (m.length + 1) (tf l m (0) (m.length)))]) (fun _ _ h => h) ?_
    refine cs ?_
    refine cs ?_
    refine cr ?_
    refine ls (op (p_move rfl) rfl) ?_
    refine ls (op (p_move rfl) rfl) ?_
    refine ls (op (p_lenl rfl Tryd.underlying22) rfl) ?_
    refine ls (op (p_icmp rfl rfl rfl) rfl) ?_
    refine ln ?_
    refine nthen ?_
    refine cc rfl ?_ ?_
    ·
     intro h36
     try simp only [decide_eq_true_eq, decide_eq_false_iff_not, Bool.not_eq_true', Bool.not_eq_false', Int.not_lt, Int.not_le, ge_iff_le, Bool.not_true, Bool.not_false] at h36
     have hy1 : y < m.length := by omega
     refine cskip ?_
     refine nthen ?_
     refine cs ?_
     refine cb ?_
     refine cs ?_
     rcases Classical.em (l[x] = m[y]) with heq | heq
     ·
      refine elC (A := A) (l := l) (by repeat' constructor) x (List.getElem?_eq_getElem (l := l) hx1) ?_; rintro zba zoa zya hAa
      refine elC (A := B) (l := m) (by repeat' constructor) y (List.getElem?_eq_getElem (l := m) hy1) ?_; rintro zbb zob zyb hAb
      refine elC (A := A5) (l := mkT (l.length + 1) (m.length + 1) (tf l m (0) (m.length))) (by repeat' constructor) x (mkT_row (by omega)) ?_; rintro zbt2 zot2 zyt2 hAt2
      refine elC (A := zyt2.1) (l := (List.range (m.length + 1)).map ((tf l m (0) (m.length)) x)) (by repeat' constructor) y (mkR_at (by omega)) ?_; rintro zbu2 zou2 zyu2 hAu2
      refine elC (A := A5) (l := mkT (l.length + 1) (m.length + 1) (tf l m (0) (m.length))) (by repeat' constructor) u (mkT_row (by omega)) ?_; rintro zbt3 zot3 zyt3 hAt3
      refine elC (A := zyt3.1) (l := (List.range (m.length + 1)).map ((tf l m (0) (m.length)) u)) (by repeat' constructor) k (mkR_at (by omega)) ?_; rintro zbu3 zou3 zyu3 hAu3
      refine cdB [] [(3, zba, zoa + x * Rp.size ByteArray, _), (7, zbb, zob + y * Rp.size ByteArray, _), (13, zbt2, zot2 + x * Rp.size (List Int), _), (16, zbu2, zou2 + y * Rp.size Int, _), (20, zbt3, zot3 + u * Rp.size (List Int), _), (23, zbu3, zou3 + k * Rp.size Int, _)] TrydX.mixed (by kernel_rfl) (by kernel_rfl) (TOk.t (isInS (by repeat' constructor) (k := 0) rfl (z := 1) (by repeat (first | exact Cut.d | apply Cut.t | apply Cut.s))) (TOk.t (isInS (by repeat' constructor) (k := 0) rfl (z := 1) (by repeat (first | exact Cut.d | apply Cut.t | apply Cut.s))) (TOk.t (isInS (by repeat' constructor) (k := 0) rfl (z := 1) (by repeat (first | exact Cut.d | apply Cut.t | apply Cut.s))) (TOk.t (isInS (by repeat' constructor) (k := 0) rfl (z := 1) (by repeat (first | exact Cut.d | apply Cut.t | apply Cut.s))) (TOk.t (isInS (by repeat' constructor) (k := 0) rfl (z := 1) (by repeat (first | exact Cut.d | apply Cut.t | apply Cut.s))) (TOk.t (isInS (by repeat' constructor) (k := 0) rfl (z := 1) (by repeat (first | exact Cut.d | apply Cut.t | apply Cut.s))) TOk.d)))))) ?_
      refine tkB 0 rfl (by kernel_rfl) (fun _ _ _ h => h) gnone (TTany _) (p_move rfl) rfl ?_
      refine tkB 1 rfl (by kernel_rfl) (fun _ _ _ h => h) gnone (TTany _) (p_move rfl) rfl ?_
      refine tkB 2 rfl (by kernel_rfl) (fun _ _ _ h => h) gnone (TTany _) (p_ia x hAa hx1 rfl Tryd.underlying22 Tryd.sizeOf9 rfl rfl) rfl ?_
      refine tkB 3 rfl (by kernel_rfl) (fun _ _ _ h => h) gnone (TTat (List.Mem.head _)) (p_ld Tryd.isAgg9 rfl) rfl ?_
      refine tkB 4 rfl (by kernel_rfl) (fun _ _ _ h => h) gnone (TTany _) (p_move rfl) rfl ?_
      refine tkB 5 rfl (by kernel_rfl) (fun _ _ _ h => h) gnone (TTany _) (p_move rfl) rfl ?_
      refine tkB 6 rfl (by kernel_rfl) (fun _ _ _ h => h) gnone (TTany _) (p_ia y hAb hy1 rfl Tryd.underlying22 Tryd.sizeOf9 rfl rfl) rfl ?_
      refine tkB 7 rfl (by kernel_rfl) (fun _ _ _ h => h) gnone (TTat (List.Mem.tail _ (List.Mem.head _))) (p_ld Tryd.isAgg9 rfl) rfl ?_
      refine tkB 8 rfl (by kernel_rfl) (fun _ _ _ h => h) gnone (TTany _) (p_seq rfl rfl) rfl ?_
      refine fixB (congrArg Value.bool (decide_eq_true heq)) ?_
      refine tkB 9 rfl (by kernel_rfl) (fun _ _ _ h => h) gnone (TTany _) (p_move rfl) rfl ?_
      refine tkB 10 rfl (by kernel_rfl) (fun _ _ _ h => h) (gyes rfl rfl rfl rfl) (TTany _) (p_move rfl) rfl ?_
      refine tkB 11 rfl (by kernel_rfl) (fun _ _ _ h => h) (gyes rfl rfl rfl rfl) (TTany _) (p_move rfl) rfl ?_
      refine tkB 12 rfl (by kernel_rfl) (fun _ _ _ h => h) (gyes rfl rfl rfl rfl) (TTany _) (p_ia x hAt2 (by first | omega | (rw [mkR_length]; omega)) rfl Tryd.underlying59 Tryd.sizeOf61 rfl rfl) rfl ?_
      refine tkB 13 rfl (by kernel_rfl) (fun _ _ _ h => h) (gyes rfl rfl rfl rfl) (TTat (List.Mem.tail _ (List.Mem.tail _ (List.Mem.head _)))) (p_ld Tryd.isAgg61 rfl) rfl ?_
      refine tkB 14 rfl (by kernel_rfl) (fun _ _ _ h => h) (gyes rfl rfl rfl rfl) (TTany _) (p_move rfl) rfl ?_
      refine tkB 15 rfl (by kernel_rfl) (fun _ _ _ h => h) (gyes rfl rfl rfl rfl) (TTany _) (p_ia y hAu2 (by first | omega | (rw [mkR_length]; omega)) rfl Tryd.underlying61 Tryd.sizeOf3 rfl rfl) rfl ?_
      refine tkB 16 rfl (by kernel_rfl) (fun _ _ _ h => h) (gyes rfl rfl rfl rfl) (TTat (List.Mem.tail _ (List.Mem.tail _ (List.Mem.tail _ (List.Mem.head _))))) (p_ld Tryd.isAgg3 rfl) rfl ?_
      refine tkB 17 rfl (by kernel_rfl) (fun _ _ _ h => h) (gyes rfl rfl rfl rfl) (TTany _) (p_move rfl) rfl ?_
      refine tkB 18 rfl (by kernel_rfl) (fun _ _ _ h => h) (gyes rfl rfl rfl rfl) (TTany _) (p_move rfl) rfl ?_
      refine tkB 19 rfl (by kernel_rfl) (fun _ _ _ h => h) (gyes rfl rfl rfl rfl) (TTany _) (p_ia u hAt3 (by first | omega | (rw [mkR_length]; omega)) rfl Tryd.underlying59 Tryd.sizeOf61 rfl rfl) rfl ?_
      refine tkB 20 rfl (by kernel_rfl) (fun _ _ _ h => h) (gyes rfl rfl rfl rfl) (TTat (List.Mem.tail _ (List.Mem.tail _ (List.Mem.tail _ (List.Mem.tail _ (List.Mem.head _)))))) (p_ld Tryd.isAgg61 rfl) rfl ?_
      refine tkB 21 rfl (by kernel_rfl) (fun _ _ _ h => h) (gyes rfl rfl rfl rfl) (TTany _) (p_move rfl) rfl ?_
      refine tkB 22 rfl (by kernel_rfl) (fun _ _ _ h => h) (gyes rfl rfl rfl rfl) (TTany _) (p_ia k hAu3 (by first | omega | (rw [mkR_length]; omega)) rfl Tryd.underlying61 Tryd.sizeOf3 rfl rfl) rfl ?_
      refine tkB 23 rfl (by kernel_rfl) (fun _ _ _ h => h) (gyes rfl rfl rfl rfl) (TTat (List.Mem.tail _ (List.Mem.tail _ (List.Mem.tail _ (List.Mem.tail _ (List.Mem.tail _ (List.Mem.head _))))))) (p_ld Tryd.isAgg3 rfl) rfl ?_
      refine tkB 24 rfl (by kernel_rfl) (fun _ _ _ h => h) (gyes rfl rfl rfl rfl) (TTany _) (p_icmp rfl rfl rfl) rfl ?_
      refine tkB 25 rfl (by kernel_rfl) (fun _ _ _ h => h) gnone (TTany _) (p_pickt rfl rfl) rfl ?_
      refine dnB (by kernel_rfl) ?_
      refine nthen ?_
      refine cc rfl ?_ ?_
      ·
       intro h64
       have hc : Cand l m u k x y := ⟨hix, hky, hx1, hy1, heq, by have h := h64; rw [tf0, tf0] at h; simp at h; omega⟩
       have hnp : NextP l m u k x y := ⟨hc, hny⟩
       have hlen := hch.len
       refine cs ?_
       refine cr ?_
       refine ls (op (p_move rfl) rfl) ?_
       refine ls (op (p_move rfl) rfl) ?_
       refine ls (op (p_move rfl) rfl) ?_
       refine ls (op (p_bld sb31 rfl (Fill.t (by repeat' constructor) rfl rfl (by repeat' constructor) (Fill.t (by repeat' constructor) rfl rfl (by repeat' constructor) Fill.d))) rfl) ?_
       refine ls (o_bsl [(x, y)] Tryd.underlying25 Tryd.sizeOf31 Tryd.zeroValue31 rfl (Enum.t Enum.d) (RV.t () rfl (by repeat' (first | constructor | apply Sub.suf)) RV.d) rfl (by decide) (by decide) rfl) ?_
       refine le ?_; intro b69
       refine lmono (fun a w h => Go.Sx.freeze (i := 0) rfl h) ?_
       refine ls (o_app (is := [0]) Tryd.underlying25 inf31 rfl (by decide) (by decide) rfl rfl (by simp only [List.length_cons, List.length_nil]; have := lcs_lenl l m; omega) (fun h => by cases h) rfl (by repeat' (first | constructor | apply Sub.suf)) rfl) ?_
       refine le ?_; rintro ⟨A70, c70⟩
       refine ls (op (p_asg rfl) rfl) ?_
       refine ln ?_
       refine nthen ?_
       refine cs ?_
       refine cr ?_
       refine ls (op (p_move rfl) rfl) ?_
       refine ls (op (p_add rfl rfl (by omega)) rfl) ?_
       refine ls (op (p_move rfl) rfl) ?_
       refine ls (op (p_add rfl rfl (by omega)) rfl) ?_
       refine ls (op (p_asg rfl) rfl) ?_
       refine ls (op (p_asg rfl) rfl) ?_
       refine ln ?_
       refine nthen ?_
       refine cexit ?_
       refine xblock' rfl ?_
       refine xthen ?_
       refine xthen ?_
       refine xblock' rfl ?_
       refine xblock' rfl ?_
       refine xthen ?_
       refine xthen ?_
       refine xblock' rfl ?_
       refine xblock ?_
       refine nnext ⟨(o ++ [(x, y)], (x + 1, y + 1), (A70, c70)), hch.snoc hpos hnp⟩ (by have := next_cmn hc; dsimp only; omega) (wk0 (by repeat (first | exact subσ.nil _ | refine subσ.cons rfl ?_)) (by repeat' (first | constructor | apply Sub.suf)))
      ·
       intro h64
       have hc : ¬ Cand l m u k x y := fun c => by have h := h64; rw [tf0, tf0, c.n] at h; simp at h
       refine cskip ?_
       refine nblock ?_
       refine nthen ?_
       refine cr ?_
       refine ls (op (p_move rfl) rfl) ?_
       refine ls (op (p_add rfl rfl (by omega)) rfl) ?_
       refine ls (op (p_asg rfl) rfl) ?_
       refine ln ?_
       refine nnext ⟨y + 1, by omega, hy1, noneB_y hny hc⟩ (by dsimp only; omega) (wk0 (by repeat (first | exact subσ.nil _ | refine subσ.cons rfl ?_)) (by repeat' (first | constructor | apply Sub.suf)))
     ·
      refine elC (A := A) (l := l) (by repeat' constructor) x (List.getElem?_eq_getElem (l := l) hx1) ?_; rintro zba zoa zya hAa
      refine elC (A := B) (l := m) (by repeat' constructor) y (List.getElem?_eq_getElem (l := m) hy1) ?_; rintro zbb zob zyb hAb
      refine cdB [] [(3, zba, zoa + x * Rp.size ByteArray, _), (7, zbb, zob + y * Rp.size ByteArray, _)] TrydX.mixed (by kernel_rfl) (by kernel_rfl) (TOk.t (isInS (by repeat' constructor) (k := 0) rfl (z := 1) (by repeat (first | exact Cut.d | apply Cut.t | apply Cut.s))) (TOk.t (isInS (by repeat' constructor) (k := 0) rfl (z := 1) (by repeat (first | exact Cut.d | apply Cut.t | apply Cut.s))) TOk.d)) ?_
      refine tkB 0 rfl (by kernel_rfl) (fun _ _ _ h => h) gnone (TTany _) (p_move rfl) rfl ?_
      refine tkB 1 rfl (by kernel_rfl) (fun _ _ _ h => h) gnone (TTany _) (p_move rfl) rfl ?_
      refine tkB 2 rfl (by kernel_rfl) (fun _ _ _ h => h) gnone (TTany _) (p_ia x hAa hx1 rfl Tryd.underlying22 Tryd.sizeOf9 rfl rfl) rfl ?_
      refine tkB 3 rfl (by kernel_rfl) (fun _ _ _ h => h) gnone (TTat (List.Mem.head _)) (p_ld Tryd.isAgg9 rfl) rfl ?_
      refine tkB 4 rfl (by kernel_rfl) (fun _ _ _ h => h) gnone (TTany _) (p_move rfl) rfl ?_
      refine tkB 5 rfl (by kernel_rfl) (fun _ _ _ h => h) gnone (TTany _) (p_move rfl) rfl ?_
      refine tkB 6 rfl (by kernel_rfl) (fun _ _ _ h => h) gnone (TTany _) (p_ia y hAb hy1 rfl Tryd.underlying22 Tryd.sizeOf9 rfl rfl) rfl ?_
      refine tkB 7 rfl (by kernel_rfl) (fun _ _ _ h => h) gnone (TTat (List.Mem.tail _ (List.Mem.head _))) (p_ld Tryd.isAgg9 rfl) rfl ?_
      refine tkB 8 rfl (by kernel_rfl) (fun _ _ _ h => h) gnone (TTany _) (p_seq rfl rfl) rfl ?_
      refine fixB (congrArg Value.bool (decide_eq_false heq)) ?_
      refine tkB 9 rfl (by kernel_rfl) (fun _ _ _ h => h) gnone (TTany _) (p_move rfl) rfl ?_
      refine tksB 10 rfl (by kernel_rfl) (fun _ _ _ h => h) rfl rfl rfl rfl rfl ?_
      refine tksB 11 rfl (by kernel_rfl) (fun _ _ _ h => h) rfl rfl rfl rfl rfl ?_
      refine tksB 12 rfl (by kernel_rfl) (fun _ _ _ h => h) rfl rfl rfl rfl rfl ?_
      refine tksB 13 rfl (by kernel_rfl) (fun _ _ _ h => h) rfl rfl rfl rfl rfl ?_
      refine tksB 14 rfl (by kernel_rfl) (fun _ _ _ h => h) rfl rfl rfl rfl rfl ?_
      refine tksB 15 rfl (by kernel_rfl) (fun _ _ _ h => h) rfl rfl rfl rfl rfl ?_
      refine tksB 16 rfl (by kernel_rfl) (fun _ _ _ h => h) rfl rfl rfl rfl rfl ?_
      refine tksB 17 rfl (by kernel_rfl) (fun _ _ _ h => h) rfl rfl rfl rfl rfl ?_
      refine tksB 18 rfl (by kernel_rfl) (fun _ _ _ h => h) rfl rfl rfl rfl rfl ?_
      refine tksB 19 rfl (by kernel_rfl) (fun _ _ _ h => h) rfl rfl rfl rfl rfl ?_
      refine tksB 20 rfl (by kernel_rfl) (fun _ _ _ h => h) rfl rfl rfl rfl rfl ?_
      refine tksB 21 rfl (by kernel_rfl) (fun _ _ _ h => h) rfl rfl rfl rfl rfl ?_
      refine tksB 22 rfl (by kernel_rfl) (fun _ _ _ h => h) rfl rfl rfl rfl rfl ?_
      refine tksB 23 rfl (by kernel_rfl) (fun _ _ _ h => h) rfl rfl rfl rfl rfl ?_
      refine tksB 24 rfl (by kernel_rfl) (fun _ _ _ h => h) rfl rfl rfl rfl rfl ?_
      refine tkB 25 rfl (by kernel_rfl) (fun _ _ _ h => h) gnone (TTany _) (p_pickf rfl rfl) rfl ?_
      refine dnB (by kernel_rfl) ?_
      refine nthen ?_
      refine cc rfl (fun h => by cases h) (fun h => ?_)
      refine cskip ?_
      refine nblock ?_
      refine nthen ?_
      refine cr ?_
      refine ls (op (p_move rfl) rfl) ?_
      refine ls (op (p_add rfl rfl (by omega)) rfl) ?_
      refine ls (op (p_asg rfl) rfl) ?_
      refine ln ?_
      refine nnext ⟨y + 1, by omega, hy1, noneB_y hny (fun c => heq c.eq)⟩ (by dsimp only; omega) (wk0 (by repeat (first | exact subσ.nil _ | refine subσ.cons rfl ?_)) (by repeat' (first | constructor | apply Sub.suf)))
    ·
     intro h36
     try simp only [decide_eq_true_eq, decide_eq_false_iff_not, Bool.not_eq_true', Bool.not_eq_false', Int.not_lt, Int.not_le, ge_iff_le, Bool.not_true, Bool.not_false] at h36
     refine cexit ?_
     refine xthen ?_
     refine xthen ?_
     refine xblock ?_
     refine nblock ?_
     refine nthen ?_
     refine cr ?_
     refine ls (op (p_move rfl) rfl) ?_
     refine ls (op (p_add rfl rfl (by omega)) rfl) ?_
     refine ls (op (p_asg rfl) rfl) ?_
     refine ln ?_
     refine nnext ⟨x + 1, by omega, hx1, noneB_x hny (by omega)⟩ (by dsimp only; omega) (wk0 (by repeat (first | exact subσ.nil _ | refine subσ.cons rfl ?_)) (by repeat' (first | constructor | apply Sub.suf)))
   ·
    intro h29
    try simp only [decide_eq_true_eq, decide_eq_false_iff_not, Bool.not_eq_true', Bool.not_eq_false', Int.not_lt, Int.not_le, ge_iff_le, Bool.not_true, Bool.not_false] at h29
    refine cexit ?_
    refine xthen ?_
    refine xthen ?_
    refine xblock ?_
    refine nblock ?_
    exact absurd hpos (noneB_end hnx (by omega))
  ·
   intro h24
   have hzero : cmn l m u k = 0 := by have h := h24; rw [tf0] at h; simp at h; omega
   refine cexit ?_
   refine xthen ?_
   refine xthen ?_
   refine xblock ?_
   refine nthen ?_
   refine cs ?_
   refine cr ?_
   refine ls (op (p_move rfl) rfl) ?_
   refine ls (op (p_asg rfl) rfl) ?_
   refine ln ?_
   refine nthen ?_
   refine cret ?_
   refine xret (fun _ _ h => h) ?_
   refine rret (is := [0]) ⟨(o, (A6, c6)), (fun h => by rw [h13] at h; cases h), fun _ => ⟨u, k, hch, hzero⟩⟩ (Or.inl rfl) (Res.t rfl Res.d) (rfl) rfl (by repeat' (first | constructor | apply Sub.suf))

set_option maxRecDepth 100000 in
theorem c_dHunk (nm : ByteArray) (l m : List ByteArray) (A B : Option Addr) (c c' : Nat) (hl : l.length ≤ 1000000) (hm : m.length ≤ 1000000) (hc : l.length ≤ c) (hc' : m.length ≤ c') (p q : Nat × Nat) (h1 : p.1 ≤ q.1) (h2 : p.2 ≤ q.2) (h3 : q.1 ≤ l.length) (h4 : q.2 ≤ m.length) : Con Tryd.prog 30 [.string nm, .slice A l.length c, .slice B m.length c', .agg #[.int .i64 ((p.1 : Nat) : Int), .int .i64 ((p.2 : Nat) : Int)], .agg #[.int .i64 ((q.1 : Nat) : Int), .int .i64 ((q.2 : Nat) : Int)]] [] [slA A l, slA B m] (Rp.Lay Prim) (fun y => .tuple #[sv (hunkP nm l m p q) y, .bool (decide (p.1 < q.1 ∨ p.2 < q.2))]) (fun _ => []) (fun y => Rp.asn (hunkP nm l m p q) y) := by
 refine con Tryd.func30 rfl Tryd.ntmps30 rfl ?_
 intro M0 F0 w0
 refine cs ?_
 refine cr ?_
 refine ls (o_box rfl rfl rfl) ?_
 refine le ?_; intro b8
 refine ls (o_box rfl rfl rfl) ?_
 refine le ?_; intro b9
 refine ls (o_alloc Tryd.zeroValue51 rfl rfl) ?_
 refine le ?_; intro b10
 refine ls (op (p_asg rfl) rfl) ?_
 refine ln ?_
 refine nthen ?_
 refine cs ?_
 refine cmono (fun a w h => subS (A := A) (l := l) (l' := (l.drop p.1).take (q.1 - p.1)) (c := c) p.1 q.1 (by repeat (first | exact In.z | apply In.s)) (by omega) (by omega) (by omega) rfl h) ?_
 refine cmono (fun a w h => subS (A := B) (l := m) (l' := (m.drop p.2).take (q.2 - p.2)) (c := c') p.2 q.2 (by repeat (first | exact In.z | apply In.s)) (by omega) (by omega) (by omega) rfl h) ?_
 refine cdB [9, 16, 18, 19] [(2, b8, 1, _), (5, b8, 0, _), (7, b9, 0, _), (12, b8, 1, _), (14, b9, 1, _)] TrydX.mixed (by kernel_rfl) (by kernel_rfl) (TOk.t (isBoxS (by repeat' constructor) (k := 1) (by repeat (first | exact Cut.d | apply Cut.t | apply Cut.s))) (TOk.t (isBoxS (by repeat' constructor) (k := 1) (by repeat (first | exact Cut.d | apply Cut.t | apply Cut.s))) (TOk.t (isBoxS (by repeat' constructor) (k := 1) (by repeat (first | exact Cut.d | apply Cut.t | apply Cut.s))) (TOk.t (isBoxS (by repeat' constructor) (k := 1) (by repeat (first | exact Cut.d | apply Cut.t | apply Cut.s))) (TOk.t (isBoxS (by repeat' constructor) (k := 1) (by repeat (first | exact Cut.d | apply Cut.t | apply Cut.s))) TOk.d))))) ?_
 refine tkB 0 rfl (by kernel_rfl) (fun _ _ _ h => h) gnone (TTany _) (p_move rfl) rfl ?_
 refine tkB 1 rfl (by kernel_rfl) (fun _ _ _ h => h) gnone (TTany _) (p_fa fa31_1 rfl) rfl ?_
 refine tkB 2 rfl (by kernel_rfl) (fun _ _ _ h => h) gnone (TTat (List.Mem.head _)) (p_ld Tryd.isAgg3 rfl) rfl ?_
 refine tkB 3 rfl (by kernel_rfl) (fun _ _ _ h => h) gnone (TTany _) (p_move rfl) rfl ?_
 refine tkB 4 rfl (by kernel_rfl) (fun _ _ _ h => h) gnone (TTany _) (p_fa fa31_0 rfl) rfl ?_
 refine tkB 5 rfl (by kernel_rfl) (fun _ _ _ h => h) gnone (TTat (List.Mem.tail _ (List.Mem.head _))) (p_ld Tryd.isAgg3 rfl) rfl ?_
 refine tkB 6 rfl (by kernel_rfl) (fun _ _ _ h => h) gnone (TTany _) (p_fa fa31_0 rfl) rfl ?_
 refine tkB 7 rfl (by kernel_rfl) (fun _ _ _ h => h) gnone (TTat (List.Mem.tail _ (List.Mem.tail _ (List.Mem.head _)))) (p_ld Tryd.isAgg3 rfl) rfl ?_
 refine tkB 8 rfl (by kernel_rfl) (fun _ _ _ h => h) gnone (TTany _) (p_sl p.1 q.1 (by omega) (by omega) rfl rfl Tryd.underlying22 Tryd.sizeOf9 rfl rfl rfl) rfl ?_
 refine fixB (slen (m' := ((l.drop p.1).take (q.1 - p.1)).length) (by rw [List.length_take, List.length_drop]; omega)) ?_
 refine tkB 10 rfl (by kernel_rfl) (fun _ _ _ h => h) gnone (TTany _) (p_move rfl) rfl ?_
 refine tkB 11 rfl (by kernel_rfl) (fun _ _ _ h => h) gnone (TTany _) (p_fa fa31_1 rfl) rfl ?_
 refine tkB 12 rfl (by kernel_rfl) (fun _ _ _ h => h) gnone (TTat (List.Mem.tail _ (List.Mem.tail _ (List.Mem.tail _ (List.Mem.head _))))) (p_ld Tryd.isAgg3 rfl) rfl ?_
 refine tkB 13 rfl (by kernel_rfl) (fun _ _ _ h => h) gnone (TTany _) (p_fa fa31_1 rfl) rfl ?_
 refine tkB 14 rfl (by kernel_rfl) (fun _ _ _ h => h) gnone (TTat (List.Mem.tail _ (List.Mem.tail _ (List.Mem.tail _ (List.Mem.tail _ (List.Mem.head _)))))) (p_ld Tryd.isAgg3 rfl) rfl ?_
 refine tkB 15 rfl (by kernel_rfl) (fun _ _ _ h => h) gnone (TTany _) (p_sl p.2 q.2 (by omega) (by omega) rfl rfl Tryd.underlying22 Tryd.sizeOf9 rfl rfl rfl) rfl ?_
 refine fixB (slen (m' := ((m.drop p.2).take (q.2 - p.2)).length) (by rw [List.length_take, List.length_drop]; omega)) ?_
 refine dallB (is := [9, 18]) (by kernel_rfl) rfl ?_
 intro i hi; simp only [List.mem_cons, List.mem_nil_iff, or_false] at hi; rcases hi with rfl | rfl
 ·
  refine doRB rfl (o_call (is := []) Tryd.call43 (c_sClone ((l.drop p.1).take (q.1 - p.1)) (if c = p.1 then A else A.map (·.add (p.1 * Rp.size ByteArray))) (c - p.1) (by rw [List.length_take, List.length_drop]; omega)) rfl rfl (by repeat' (first | constructor | apply Sub.suf)) rfl) (TOk.t (isBoxE fun _ => isBoxS (by repeat' constructor) (k := 1) (by repeat (first | exact Cut.d | apply Cut.t | apply Cut.s))) (TOk.xP 9 [8] (by kernel_rfl) (TOk.xP 9 [8] (by kernel_rfl) (TOk.t (isBoxE fun _ => isBoxS (by repeat' constructor) (k := 1) (by repeat (first | exact Cut.d | apply Cut.t | apply Cut.s))) (TOk.t (isBoxE fun _ => isBoxS (by repeat' constructor) (k := 1) (by repeat (first | exact Cut.d | apply Cut.t | apply Cut.s))) TOk.d))))) ?_
  refine eaB ?_; rintro ⟨A22, c22⟩
  refine dallB (is := [16, 18]) (by kernel_rfl) rfl ?_
  intro i hi; simp only [List.mem_cons, List.mem_nil_iff, or_false] at hi; rcases hi with rfl | rfl
  ·
   refine doRB rfl (o_call (is := []) Tryd.call43 (c_sClone ((m.drop p.2).take (q.2 - p.2)) (if c' = p.2 then B else B.map (·.add (p.2 * Rp.size ByteArray))) (c' - p.2) (by rw [List.length_take, List.length_drop]; omega)) rfl rfl (by repeat' (first | constructor | apply Sub.suf)) rfl) (TOk.t (isBoxE fun _ => isBoxS (by repeat' constructor) (k := 1) (by repeat (first | exact Cut.d | apply Cut.t | apply Cut.s))) (TOk.xP 9 [8] (by kernel_rfl) (TOk.xP 9 [8] (by kernel_rfl) (TOk.xP 16 [15] (by kernel_rfl) (TOk.xP 16 [15] (by kernel_rfl) TOk.d))))) ?_
   refine eaB ?_; rintro ⟨A29, c29⟩
   refine tkB 17 rfl (by kernel_rfl) (fun _ _ _ h => h) gnone (TTany _) (p_bld sb51 rfl (Fill.t (by repeat' constructor) rfl rfl (by repeat' constructor) (Fill.t (by repeat' constructor) rfl rfl (by repeat' constructor) (Fill.t (by repeat' constructor) rfl rfl (by repeat' constructor) (Fill.t (by repeat' constructor) rfl rfl (by repeat' constructor) (Fill.t (by repeat' constructor) rfl rfl (by repeat' constructor) Fill.d)))))) rfl ?_
   refine dfB 18 (by kernel_rfl) ?_
   refine doRB rfl (o_alloc Tryd.zeroValue51 rfl rfl) (TOk.t (isBoxE fun _ => isBoxS (by repeat' constructor) (k := 1) (by repeat (first | exact Cut.d | apply Cut.t | apply Cut.s))) (TOk.xP 9 [8] (by kernel_rfl) (TOk.xP 9 [8] (by kernel_rfl) (TOk.xP 16 [15] (by kernel_rfl) (TOk.xP 16 [15] (by kernel_rfl) TOk.d))))) ?_
   refine eaB ?_; intro b12
   refine dfB 19 (by kernel_rfl) ?_
   refine doRB rfl (o_st rfl Tryd.sizeOf51 rfl rfl rfl rfl rfl (by repeat' constructor) (by repeat' constructor) (by repeat' constructor)) (TOk.xP 19 [] (by kernel_rfl) (TOk.xP 9 [8] (by kernel_rfl) (TOk.xP 9 [8] (by kernel_rfl) (TOk.xP 16 [15] (by kernel_rfl) (TOk.xP 16 [15] (by kernel_rfl) TOk.d))))) ?_
   refine dnB (by kernel_rfl) ?_
   refine nthen ?_
   refine cs ?_
   refine cdB [9] [(0, b12, 0, _), (2, b12, 4, _), (5, b12, 5, _)] TrydX.mixed (by kernel_rfl) (by kernel_rfl) (TOk.t (isBoxS (by repeat' constructor) (k := 6) (by repeat (first | exact Cut.d | apply Cut.t | apply Cut.s))) (TOk.t (isBoxS (by repeat' constructor) (k := 1) (by repeat (first | exact Cut.d | apply Cut.t | apply Cut.s))) (TOk.t (isBoxS (by repeat' constructor) (k := 1) (by repeat (first | exact Cut.d | apply Cut.t | apply Cut.s))) TOk.d))) ?_
   refine tkB 0 rfl (by kernel_rfl) (fun _ _ _ h => h) gnone (TTat (List.Mem.head _)) (p_lda Tryd.isAgg51 Tryd.sizeOf51 rfl rfl) rfl ?_
   refine tkB 1 rfl (by kernel_rfl) (fun _ _ _ h => h) gnone (TTany _) (p_fa fa51_4 rfl) rfl ?_
   refine tkB 2 rfl (by kernel_rfl) (fun _ _ _ h => h) gnone (TTat (List.Mem.tail _ (List.Mem.head _))) (p_ld Tryd.isAgg22 rfl) rfl ?_
   refine tkB 3 rfl (by kernel_rfl) (fun _ _ _ h => h) gnone (TTany _) (p_lenl rfl Tryd.underlying22) rfl ?_
   refine tkB 4 rfl (by kernel_rfl) (fun _ _ _ h => h) gnone (TTany _) (p_fa fa51_5 rfl) rfl ?_
   refine tkB 5 rfl (by kernel_rfl) (fun _ _ _ h => h) gnone (TTat (List.Mem.tail _ (List.Mem.tail _ (List.Mem.head _)))) (p_ld Tryd.isAgg22 rfl) rfl ?_
   refine tkB 6 rfl (by kernel_rfl) (fun _ _ _ h => h) gnone (TTany _) (p_lenl rfl Tryd.underlying22) rfl ?_
   refine tkB 7 rfl (by kernel_rfl) (fun _ _ _ h => h) gnone (TTany _) (p_add rfl rfl (by rw [List.length_take, List.length_take, List.length_drop, List.length_drop]; omega)) rfl ?_
   refine tkB 8 rfl (by kernel_rfl) (fun _ _ _ h => h) gnone (TTany _) (p_icmp rfl rfl rfl) rfl ?_
   refine dfB 9 (by kernel_rfl) ?_
   refine doRB rfl (o_st rfl Tryd.sizeOf51 rfl rfl rfl rfl rfl (by repeat' constructor) (by repeat' constructor) (by repeat' constructor)) (TOk.xP 9 [] (by kernel_rfl) (TOk.t (isBoxS (by repeat' constructor) (k := 1) (by repeat (first | exact Cut.d | apply Cut.t | apply Cut.s))) (TOk.t (isBoxS (by repeat' constructor) (k := 1) (by repeat (first | exact Cut.d | apply Cut.t | apply Cut.s))) TOk.d))) ?_
   refine tkB 10 rfl (by kernel_rfl) (fun _ _ _ h => h) gnone (TTany _) (p_asg rfl) rfl ?_
   refine dnB (by kernel_rfl) ?_
   refine nthen ?_
   refine cret ?_
   refine xret (fun _ _ h => h) ?_
   refine rret (is := []) ((A22, c22), (A29, c29)) (Or.inl rfl) (Res.c rfl Tryd.isAgg51 Tryd.sizeOf51 (by repeat' constructor) (by rfl) (Res.t rfl Res.d)) ?_ rfl (by repeat' (first | constructor | apply Sub.suf))
   simp only [packV]; rw [hunk_some h1 h2 h3 h4]; rfl
  ·
   refine doRB rfl (o_alloc Tryd.zeroValue51 rfl rfl) (TOk.t (isBoxE fun _ => isBoxS (by repeat' constructor) (k := 1) (by repeat (first | exact Cut.d | apply Cut.t | apply Cut.s))) (TOk.xP 9 [8] (by kernel_rfl) (TOk.xP 9 [8] (by kernel_rfl) (TOk.t (isBoxE fun _ => isBoxS (by repeat' constructor) (k := 1) (by repeat (first | exact Cut.d | apply Cut.t | apply Cut.s))) (TOk.t (isBoxE fun _ => isBoxS (by repeat' constructor) (k := 1) (by repeat (first | exact Cut.d | apply Cut.t | apply Cut.s))) TOk.d))))) ?_
   refine eaB ?_; intro b12
   refine dfB 16 (by kernel_rfl) ?_
   refine doRB rfl (o_call (is := []) Tryd.call43 (c_sClone ((m.drop p.2).take (q.2 - p.2)) (if c' = p.2 then B else B.map (·.add (p.2 * Rp.size ByteArray))) (c' - p.2) (by rw [List.length_take, List.length_drop]; omega)) rfl rfl (by repeat' (first | constructor | apply Sub.suf)) rfl) (TOk.t (isBoxE fun _ => isBoxS (by repeat' constructor) (k := 1) (by repeat (first | exact Cut.d | apply Cut.t | apply Cut.s))) (TOk.xP 9 [8] (by kernel_rfl) (TOk.xP 9 [8] (by kernel_rfl) (TOk.xP 16 [15] (by kernel_rfl) (TOk.xP 16 [15] (by kernel_rfl) TOk.d))))) ?_
   refine eaB ?_; rintro ⟨A29, c29⟩
   refine tkB 17 rfl (by kernel_rfl) (fun _ _ _ h => h) gnone (TTany _) (p_bld sb51 rfl (Fill.t (by repeat' constructor) rfl rfl (by repeat' constructor) (Fill.t (by repeat' constructor) rfl rfl (by repeat' constructor) (Fill.t (by repeat' constructor) rfl rfl (by repeat' constructor) (Fill.t (by repeat' constructor) rfl rfl (by repeat' constructor) (Fill.t (by repeat' constructor) rfl rfl (by repeat' constructor) Fill.d)))))) rfl ?_
   refine dfB 19 (by kernel_rfl) ?_
   refine doRB rfl (o_st rfl Tryd.sizeOf51 rfl rfl rfl rfl rfl (by repeat' constructor) (by repeat' constructor) (by repeat' constructor)) (TOk.xP 19 [] (by kernel_rfl) (TOk.xP 9 [8] (by kernel_rfl) (TOk.xP 9 [8] (by kernel_rfl) (TOk.xP 16 [15] (by kernel_rfl) (TOk.xP 16 [15] (by kernel_rfl) TOk.d))))) ?_
   refine dnB (by kernel_rfl) ?_
   refine nthen ?_
   refine cs ?_
   refine cdB [9] [(0, b12, 0, _), (2, b12, 4, _), (5, b12, 5, _)] TrydX.mixed (by kernel_rfl) (by kernel_rfl) (TOk.t (isBoxS (by repeat' constructor) (k := 6) (by repeat (first | exact Cut.d | apply Cut.t | apply Cut.s))) (TOk.t (isBoxS (by repeat' constructor) (k := 1) (by repeat (first | exact Cut.d | apply Cut.t | apply Cut.s))) (TOk.t (isBoxS (by repeat' constructor) (k := 1) (by repeat (first | exact Cut.d | apply Cut.t | apply Cut.s))) TOk.d))) ?_
   refine tkB 0 rfl (by kernel_rfl) (fun _ _ _ h => h) gnone (TTat (List.Mem.head _)) (p_lda Tryd.isAgg51 Tryd.sizeOf51 rfl rfl) rfl ?_
   refine tkB 1 rfl (by kernel_rfl) (fun _ _ _ h => h) gnone (TTany _) (p_fa fa51_4 rfl) rfl ?_
   refine tkB 2 rfl (by kernel_rfl) (fun _ _ _ h => h) gnone (TTat (List.Mem.tail _ (List.Mem.head _))) (p_ld Tryd.isAgg22 rfl) rfl ?_
   refine tkB 3 rfl (by kernel_rfl) (fun _ _ _ h => h) gnone (TTany _) (p_lenl rfl Tryd.underlying22) rfl ?_
   refine tkB 4 rfl (by kernel_rfl) (fun _ _ _ h => h) gnone (TTany _) (p_fa fa51_5 rfl) rfl ?_
   refine tkB 5 rfl (by kernel_rfl) (fun _ _ _ h => h) gnone (TTat (List.Mem.tail _ (List.Mem.tail _ (List.Mem.head _)))) (p_ld Tryd.isAgg22 rfl) rfl ?_
   refine tkB 6 rfl (by kernel_rfl) (fun _ _ _ h => h) gnone (TTany _) (p_lenl rfl Tryd.underlying22) rfl ?_
   refine tkB 7 rfl (by kernel_rfl) (fun _ _ _ h => h) gnone (TTany _) (p_add rfl rfl (by rw [List.length_take, List.length_take, List.length_drop, List.length_drop]; omega)) rfl ?_
   refine tkB 8 rfl (by kernel_rfl) (fun _ _ _ h => h) gnone (TTany _) (p_icmp rfl rfl rfl) rfl ?_
   refine dfB 9 (by kernel_rfl) ?_
   refine doRB rfl (o_st rfl Tryd.sizeOf51 rfl rfl rfl rfl rfl (by repeat' constructor) (by repeat' constructor) (by repeat' constructor)) (TOk.xP 9 [] (by kernel_rfl) (TOk.t (isBoxS (by repeat' constructor) (k := 1) (by repeat (first | exact Cut.d | apply Cut.t | apply Cut.s))) (TOk.t (isBoxS (by repeat' constructor) (k := 1) (by repeat (first | exact Cut.d | apply Cut.t | apply Cut.s))) TOk.d))) ?_
   refine tkB 10 rfl (by kernel_rfl) (fun _ _ _ h => h) gnone (TTany _) (p_asg rfl) rfl ?_
   refine dnB (by kernel_rfl) ?_
   refine nthen ?_
   refine cret ?_
   refine xret (fun _ _ h => h) ?_
   refine rret (is := []) ((A22, c22), (A29, c29)) (Or.inl rfl) (Res.c rfl Tryd.isAgg51 Tryd.sizeOf51 (by repeat' constructor) (by rfl) (Res.t rfl Res.d)) ?_ rfl (by repeat' (first | constructor | apply Sub.suf))
   simp only [packV]; rw [hunk_some h1 h2 h3 h4]; rfl
 ·
  refine doRB rfl (o_alloc Tryd.zeroValue51 rfl rfl) (TOk.t (isBoxE fun _ => isBoxS (by repeat' constructor) (k := 1) (by repeat (first | exact Cut.d | apply Cut.t | apply Cut.s))) (TOk.t (isBoxE fun _ => isBoxS (by repeat' constructor) (k := 1) (by repeat (first | exact Cut.d | apply Cut.t | apply Cut.s))) (TOk.t (isBoxE fun _ => isBoxS (by repeat' constructor) (k := 1) (by repeat (first | exact Cut.d | apply Cut.t | apply Cut.s))) (TOk.t (isBoxE fun _ => isBoxS (by repeat' constructor) (k := 1) (by repeat (first | exact Cut.d | apply Cut.t | apply Cut.s))) (TOk.t (isBoxE fun _ => isBoxS (by repeat' constructor) (k := 1) (by repeat (first | exact Cut.d | apply Cut.t | apply Cut.s))) TOk.d))))) ?_
  refine eaB ?_; intro b12
  refine dfB 9 (by kernel_rfl) ?_
  refine doRB rfl (o_call (is := []) Tryd.call43 (c_sClone ((l.drop p.1).take (q.1 - p.1)) (if c = p.1 then A else A.map (·.add (p.1 * Rp.size ByteArray))) (c - p.1) (by rw [List.length_take, List.length_drop]; omega)) rfl rfl (by repeat' (first | constructor | apply Sub.suf)) rfl) (TOk.t (isBoxE fun _ => isBoxS (by repeat' constructor) (k := 1) (by repeat (first | exact Cut.d | apply Cut.t | apply Cut.s))) (TOk.xP 9 [8] (by kernel_rfl) (TOk.xP 9 [8] (by kernel_rfl) (TOk.t (isBoxE fun _ => isBoxS (by repeat' constructor) (k := 1) (by repeat (first | exact Cut.d | apply Cut.t | apply Cut.s))) (TOk.t (isBoxE fun _ => isBoxS (by repeat' constructor) (k := 1) (by repeat (first | exact Cut.d | apply Cut.t | apply Cut.s))) TOk.d))))) ?_
  refine eaB ?_; rintro ⟨A22, c22⟩
  refine dfB 16 (by kernel_rfl) ?_
  refine doRB rfl (o_call (is := []) Tryd.call43 (c_sClone ((m.drop p.2).take (q.2 - p.2)) (if c' = p.2 then B else B.map (·.add (p.2 * Rp.size ByteArray))) (c' - p.2) (by rw [List.length_take, List.length_drop]; omega)) rfl rfl (by repeat' (first | constructor | apply Sub.suf)) rfl) (TOk.t (isBoxE fun _ => isBoxS (by repeat' constructor) (k := 1) (by repeat (first | exact Cut.d | apply Cut.t | apply Cut.s))) (TOk.xP 9 [8] (by kernel_rfl) (TOk.xP 9 [8] (by kernel_rfl) (TOk.xP 16 [15] (by kernel_rfl) (TOk.xP 16 [15] (by kernel_rfl) TOk.d))))) ?_
  refine eaB ?_; rintro ⟨A29, c29⟩
  refine tkB 17 rfl (by kernel_rfl) (fun _ _ _ h => h) gnone (TTany _) (p_bld sb51 rfl (Fill.t (by repeat' constructor) rfl rfl (by repeat' constructor) (Fill.t (by repeat' constructor) rfl rfl (by repeat' constructor) (Fill.t (by repeat' constructor) rfl rfl (by repeat' constructor) (Fill.t (by repeat' constructor) rfl rfl (by repeat' constructor) (Fill.t (by repeat' constructor) rfl rfl (by repeat' constructor) Fill.d)))))) rfl ?_
  refine dfB 19 (by kernel_rfl) ?_
  refine doRB rfl (o_st rfl Tryd.sizeOf51 rfl rfl rfl rfl rfl (by repeat' constructor) (by repeat' constructor) (by repeat' constructor)) (TOk.xP 19 [] (by kernel_rfl) (TOk.xP 9 [8] (by kernel_rfl) (TOk.xP 9 [8] (by kernel_rfl) (TOk.xP 16 [15] (by kernel_rfl) (TOk.xP 16 [15] (by kernel_rfl) TOk.d))))) ?_
  refine dnB (by kernel_rfl) ?_
  refine nthen ?_
  refine cs ?_
  refine cdB [9] [(0, b12, 0, _), (2, b12, 4, _), (5, b12, 5, _)] TrydX.mixed (by kernel_rfl) (by kernel_rfl) (TOk.t (isBoxS (by repeat' constructor) (k := 6) (by repeat (first | exact Cut.d | apply Cut.t | apply Cut.s))) (TOk.t (isBoxS (by repeat' constructor) (k := 1) (by repeat (first | exact Cut.d | apply Cut.t | apply Cut.s))) (TOk.t (isBoxS (by repeat' constructor) (k := 1) (by repeat (first | exact Cut.d | apply Cut.t | apply Cut.s))) TOk.d))) ?_
  refine tkB 0 rfl (by kernel_rfl) (fun _ _ _ h => h) gnone (TTat (List.Mem.head _)) (p_lda Tryd.isAgg51 Tryd.sizeOf51 rfl rfl) rfl ?_
  refine tkB 1 rfl (by kernel_rfl) (fun _ _ _ h => h) gnone (TTany _) (p_fa fa51_4 rfl) rfl ?_
  refine tkB 2 rfl (by kernel_rfl) (fun _ _ _ h => h) gnone (TTat (List.Mem.tail _ (List.Mem.head _))) (p_ld Tryd.isAgg22 rfl) rfl ?_
  refine tkB 3 rfl (by kernel_rfl) (fun _ _ _ h => h) gnone (TTany _) (p_lenl rfl Tryd.underlying22) rfl ?_
  refine tkB 4 rfl (by kernel_rfl) (fun _ _ _ h => h) gnone (TTany _) (p_fa fa51_5 rfl) rfl ?_
  refine tkB 5 rfl (by kernel_rfl) (fun _ _ _ h => h) gnone (TTat (List.Mem.tail _ (List.Mem.tail _ (List.Mem.head _)))) (p_ld Tryd.isAgg22 rfl) rfl ?_
  refine tkB 6 rfl (by kernel_rfl) (fun _ _ _ h => h) gnone (TTany _) (p_lenl rfl Tryd.underlying22) rfl ?_
  refine tkB 7 rfl (by kernel_rfl) (fun _ _ _ h => h) gnone (TTany _) (p_add rfl rfl (by rw [List.length_take, List.length_take, List.length_drop, List.length_drop]; omega)) rfl ?_
  refine tkB 8 rfl (by kernel_rfl) (fun _ _ _ h => h) gnone (TTany _) (p_icmp rfl rfl rfl) rfl ?_
  refine dfB 9 (by kernel_rfl) ?_
  refine doRB rfl (o_st rfl Tryd.sizeOf51 rfl rfl rfl rfl rfl (by repeat' constructor) (by repeat' constructor) (by repeat' constructor)) (TOk.xP 9 [] (by kernel_rfl) (TOk.t (isBoxS (by repeat' constructor) (k := 1) (by repeat (first | exact Cut.d | apply Cut.t | apply Cut.s))) (TOk.t (isBoxS (by repeat' constructor) (k := 1) (by repeat (first | exact Cut.d | apply Cut.t | apply Cut.s))) TOk.d))) ?_
  refine tkB 10 rfl (by kernel_rfl) (fun _ _ _ h => h) gnone (TTany _) (p_asg rfl) rfl ?_
  refine dnB (by kernel_rfl) ?_
  refine nthen ?_
  refine cret ?_
  refine xret (fun _ _ h => h) ?_
  refine rret (is := []) ((A22, c22), (A29, c29)) (Or.inl rfl) (Res.c rfl Tryd.isAgg51 Tryd.sizeOf51 (by repeat' constructor) (by rfl) (Res.t rfl Res.d)) ?_ rfl (by repeat' (first | constructor | apply Sub.suf))
  simp only [packV]; rw [hunk_some h1 h2 h3 h4]; rfl

end Go.Proofs.YtdbiillompeclaaDoor.X

end
section
set_option linter.unusedVariables false
set_option linter.unusedSimpArgs false
namespace Go.Proofs.YtdbiillompeclaaDoor.X
open Go Go.RowKit Go.Proofs Go.Sx
attribute [local irreducible] slA isA box row
theorem rev_step {l : List ByteArray} {n : Nat} (h : n < l.length) : (l.drop n).reverse = (l.drop (n + 1)).reverse ++ [l[n]] := by
 rw [List.drop_eq_getElem_cons h, List.reverse_cons]
theorem beg_small (l m : List ByteArray) (i k : Nat) : beg l m i k ≤ m.length := by
 unfold beg
 refine Nat.le_trans (lcs_lenr _ _) ?_
 rw [List.length_reverse, List.length_take]; omega
theorem bf_00 (l m : List ByteArray) : bf l.reverse m.reverse l.length m.length = ((cmn l m 0 0 : Nat) : Int) := by
 unfold bf
 rw [← beg_rev l m (Nat.zero_le _) (Nat.zero_le _), Nat.sub_zero, Nat.sub_zero]
theorem bf_xy {l m : List ByteArray} {x y : Nat} (hx : x < l.length) (hy : y < m.length) : bf l.reverse m.reverse (l.length - x - 1) (m.length - y - 1) = ((cmn l m (x + 1) (y + 1) : Nat) : Int) := by
 unfold bf
 rw [← beg_rev l m (Nat.succ_le_of_lt hx) (Nat.succ_le_of_lt hy), Nat.sub_sub, Nat.sub_sub]
def ms (l m : List ByteArray) (x y : Nat) : Nat := (l.length - x) * (m.length + 1) + (m.length - y)
theorem ms_y {l m : List ByteArray} {x y : Nat} (h : y < m.length) : ms l m x (y + 1) < ms l m x y := by unfold ms; omega
theorem ms_x {l m : List ByteArray} {x y k : Nat} (h : x < l.length) (hk : k ≤ m.length) : ms l m (x + 1) k < ms l m x y := by
 unfold ms
 have : (l.length - x) * (m.length + 1) = (l.length - (x + 1)) * (m.length + 1) + (m.length + 1) := by
  rw [show l.length - x = (l.length - (x + 1)) + 1 by omega, Nat.succ_mul]
 omega

theorem inf32 : (Tryd.prog.info? 32).map (fun i => (i.zero, i.size, i.bytes)) = some (some (.agg #[.int .i64 0, .int .i64 0]), 2, 16) := by kernel_rfl
theorem sb32 : SB Tryd.prog 32 [(0, 1), (1, 1)] [.int .i64 0, .int .i64 0] := SB.struct Tryd.zeroValue32 rfl Tryd.underlying32 (fun w => by kernel_rfl)
set_option maxRecDepth 100000 in
theorem c_rTurned (l : List ByteArray) (A : Option Addr) (c : Nat) (hl : l.length ≤ 1000000) : Con Tryd.prog 29 [.slice A l.length c] [] [slA A l] (Option Addr × Nat) (fun y => .slice y.1 l.reverse.length y.2) (fun _ => []) (fun y => [slA y.1 l.reverse]) := by
 refine con Tryd.func29 rfl Tryd.ntmps29 rfl ?_
 intro M0 F0 w0
 refine cs ?_
 refine cr ?_
 refine ls (op (p_asg rfl) rfl) ?_
 refine ln ?_
 refine nthen ?_
 refine cs ?_
 refine cr ?_
 refine ls (op (p_asg rfl) rfl) ?_
 refine ln ?_
 refine nthen ?_
 refine cs ?_
 refine cs ?_
 refine cmono (fun a w h => nilRow (α := ByteArray) 9 h) ?_
 refine cr ?_
 refine ls (op (p_move rfl) rfl) ?_
 refine ls (op (p_lenl rfl Tryd.underlying22) rfl) ?_
 refine ls (op (p_sub rfl rfl (by omega)) rfl) ?_
 refine ls (op (p_asg rfl) rfl) ?_
 refine ln ?_
 refine nthen ?_
 refine cb ?_
 refine cl (ι := {q : Nat × Option Addr × Nat // q.1 ≤ l.length}) (fun i => St M0 F0 w0 20 [(0, .slice A l.length c), (3, .slice i.1.2.1 ((l.drop i.1.1).reverse).length i.1.2.2), (4, .int .i64 ((i.1.1 : Int) - 1))] [row 9 (i.1.2.1) (i.1.2.2) ((l.drop i.1.1).reverse)] [slA A l]) (fun i => i.1.1) ⟨(l.length, none, 0), Nat.le_refl _⟩ ((fun a w h => by dsimp only; rw [List.drop_length]; exact wk0 (by repeat (first | exact subσ.nil _ | refine subσ.cons rfl ?_)) (by repeat' (first | constructor | apply Sub.suf)) a w h)) ?_
 rintro ⟨⟨n, A2, c2⟩, hn⟩
 refine cmono (S' := St M0 F0 w0 20 [(0, .slice A l.length c), (3, .slice A2 ((l.drop n).reverse).length c2), (4, .int .i64 ((n : Int) - 1))] [row 9 (A2) (c2) ((l.drop n).reverse)] [slA A l]) (fun _ _ h => h) ?_
 refine cs ?_
 refine cs ?_
 refine cr ?_
 refine ls (op (p_move rfl) rfl) ?_
 refine ls (op (p_icmp rfl rfl rfl) rfl) ?_
 refine ln ?_
 refine nthen ?_
 refine cc rfl ?_ ?_
 ·
  intro h9
  dsimp only at hn
  try simp only [decide_eq_true_eq, decide_eq_false_iff_not, Bool.not_eq_true', Bool.not_eq_false', Int.not_lt, Int.not_le, ge_iff_le, Bool.not_true, Bool.not_false] at h9
  obtain ⟨n, rfl⟩ : ∃ n', n = n' + 1 := ⟨n - 1, by omega⟩
  have hn1 : n < l.length := by omega
  refine cskip ?_
  refine nthen ?_
  refine cs ?_
  refine cb ?_
  refine elC (by repeat' constructor) n (List.getElem?_eq_getElem (l := l) hn1) ?_; rintro zbp zop zyp hAp
  refine cr ?_
  refine ls (op (p_move rfl) rfl) ?_
  refine ls (op (p_move rfl) rfl) ?_
  refine ls (op (p_move rfl) rfl) ?_
  refine ls (op (p_ia n hAp hn1 (by omega) Tryd.underlying22 Tryd.sizeOf9 rfl rfl) rfl) ?_
  refine ls (o_ldi Tryd.isAgg9 rfl (by repeat' constructor) 0 rfl (by repeat (first | exact Cut.d | apply Cut.t | apply Cut.s)) rfl) ?_
  refine ls (o_bsl [l[n]] Tryd.underlying22 Tryd.sizeOf9 Tryd.zeroValue9 rfl (Enum.t Enum.d) (RV.t () rfl (by repeat' (first | constructor | apply Sub.suf)) RV.d) rfl (by decide) (by decide) rfl) ?_
  refine le ?_; intro b17
  refine lmono (fun a w h => Go.Sx.freeze (i := 0) rfl h) ?_
  refine ls (o_app (is := [0]) Tryd.underlying22 inf9 rfl (by decide) (by decide) rfl rfl (by simp only [List.length_reverse, List.length_drop, List.length_cons, List.length_nil]; omega) (fun h => by cases h) rfl (by repeat' (first | constructor | apply Sub.suf)) rfl) ?_
  refine le ?_; rintro ⟨A18, c18⟩
  refine ls (op (p_asg rfl) rfl) ?_
  refine ln ?_
  refine nblock ?_
  refine nthen ?_
  refine cr ?_
  refine ls (op (p_move rfl) rfl) ?_
  refine ls (op (p_sub rfl rfl (by omega)) rfl) ?_
  refine fixL (v' := .int .i64 ((n : Int) - 1)) (by congr 1; omega) ?_
  refine ls (op (p_asg rfl) rfl) ?_
  refine ln ?_
  refine nnext ⟨(n, A18, c18), by dsimp only; omega⟩ (by dsimp only; omega) (fun a w h => by dsimp only; rw [rev_step hn1]; exact wk0 (by repeat (first | exact subσ.nil _ | refine subσ.cons rfl ?_)) (by repeat' (first | constructor | apply Sub.suf)) a w h)
 ·
  intro h9
  dsimp only at hn
  try simp only [decide_eq_true_eq, decide_eq_false_iff_not, Bool.not_eq_true', Bool.not_eq_false', Int.not_lt, Int.not_le, ge_iff_le, Bool.not_true, Bool.not_false] at h9
  obtain rfl : n = 0 := by omega
  refine cexit ?_
  refine xthen ?_
  refine xthen ?_
  refine xblock ?_
  refine nthen ?_
  refine cs ?_
  refine cmono (fun a w h => Go.Sx.freeze (i := 0) rfl h) ?_
  refine cr ?_
  refine ls (op (p_move rfl) rfl) ?_
  refine ls (op (p_asg rfl) rfl) ?_
  refine ln ?_
  refine nthen ?_
  refine cret ?_
  refine xret (fun _ _ h => h) ?_
  refine rret (is := []) (A2, c2) (Or.inl rfl) (Res.t rfl Res.d) (rfl) rfl (by repeat' (first | constructor | apply Sub.suf))

set_option maxRecDepth 100000 in
theorem c_rMost (l m : List ByteArray) (A B : Option Addr) (c c' : Nat) (hl : l.length ≤ 200) (hm : m.length ≤ 200) : Con Tryd.prog 28 [.slice A l.length c, .slice B m.length c'] [] [slA A l, slA B m] (Option Addr × Nat) (fun x => .slice x.1 (l.length + 1) x.2) (fun _ => []) (fun x => [slA x.1 (mkT (l.length + 1) (m.length + 1) (bf l m))]) := by
 refine con Tryd.func28 rfl Tryd.ntmps28 rfl ?_
 intro M0 F0 w0
 refine cs ?_
 refine cr ?_
 refine ls (op (p_asg rfl) rfl) ?_
 refine ln ?_
 refine nthen ?_
 refine cs ?_
 refine cr ?_
 refine ls (op (p_asg rfl) rfl) ?_
 refine ln ?_
 refine nthen ?_
 refine cs ?_
 refine cs ?_
 refine cmono (fun a w h => nilRow (α := List Int) 61 h) ?_
 refine cr ?_
 refine ls (op (p_asg rfl) rfl) ?_
 refine ln ?_
 refine nthen ?_
 refine cb ?_
 refine cl (ι := {q : Nat × Option Addr × Nat // q.1 ≤ l.length + 1}) (fun i => St M0 F0 w0 106 [(0, .slice A l.length c), (1, .slice B m.length c'), (5, .slice i.1.2.1 (mkT (i.1.1) (m.length + 1) (bf l m)).length i.1.2.2), (6, .int .i64 ((i.1.1 : Nat) : Int))] [row 61 (i.1.2.1) (i.1.2.2) (mkT (i.1.1) (m.length + 1) (bf l m))] [slA A l, slA B m]) (fun i => l.length + 1 - i.1.1) ⟨(0, none, 0), Nat.zero_le _⟩ (wk0 (by repeat (first | exact subσ.nil _ | refine subσ.cons rfl ?_)) (by repeat' (first | constructor | apply Sub.suf))) ?_
 rintro ⟨⟨u, A5, c5⟩, hi⟩
 refine cmono (S' := St M0 F0 w0 106 [(0, .slice A l.length c), (1, .slice B m.length c'), (5, .slice A5 (mkT (u) (m.length + 1) (bf l m)).length c5), (6, .int .i64 ((u : Nat) : Int))] [row 61 (A5) (c5) (mkT (u) (m.length + 1) (bf l m))] [slA A l, slA B m]) (fun _ _ h => h) ?_
 refine cs ?_
 refine cs ?_
 refine cr ?_
 refine ls (op (p_move rfl) rfl) ?_
 refine ls (op (p_move rfl) rfl) ?_
 refine ls (op (p_lenl rfl Tryd.underlying22) rfl) ?_
 refine ls (op (p_icmp rfl rfl rfl) rfl) ?_
 refine ln ?_
 refine nthen ?_
 refine cc rfl ?_ ?_
 ·
  intro h12
  dsimp only at hi
  try simp only [decide_eq_true_eq, decide_eq_false_iff_not, Bool.not_eq_true', Bool.not_eq_false', Int.not_lt, Int.not_le, ge_iff_le, Bool.not_true, Bool.not_false] at h12
  have hi2 : u ≤ l.length := by omega
  refine cskip ?_
  refine nthen ?_
  refine cs ?_
  refine cb ?_
  refine cs ?_
  refine cr ?_
  refine ls (op (p_move rfl) rfl) ?_
  refine ls (op (p_lenl rfl Tryd.underlying22) rfl) ?_
  refine ls (op (p_add rfl rfl (by omega)) rfl) ?_
  refine ls (o_mk (0 : Int) () (m.length + 1) Tryd.underlying61 inf3 rfl (by decide) (fun _ _ p hp => by cases hp) (by omega) (by omega) rfl rfl (by omega) (by omega) rfl) ?_
  refine le ?_; intro b18
  rw [List.length_replicate]
  refine lmono (fun a w h => rowEq (α := Int) (by repeat' constructor) (ct_0 l m u (m.length + 1)) (by repeat' constructor) h) ?_
  refine ls (op (p_asg rfl) rfl) ?_
  refine ln ?_
  refine nthen ?_
  refine cs ?_
  refine cs ?_
  refine cr ?_
  refine ls (op (p_asg rfl) rfl) ?_
  refine ln ?_
  refine nthen ?_
  refine cb ?_
  refine cl (ι := {k : Nat // k ≤ m.length + 1}) (fun i => St M0 F0 w0 106 [(0, .slice A l.length c), (1, .slice B m.length c'), (5, .slice A5 (mkT u (m.length + 1) (bf l m)).length c5), (6, .int .i64 ((u : Nat) : Int)), (7, .slice (some ⟨b18, 0, none⟩) (m.length + 1) (m.length + 1)), (8, .int .i64 ((i.1 : Nat) : Int))] [row 3 (some ⟨b18, 0, none⟩) (m.length + 1) (mkR (m.length + 1) (ct l m u (i.1))), row 61 (A5) (c5) (mkT (u) (m.length + 1) (bf l m))] [slA A l, slA B m]) (fun i => m.length + 1 - i.1) ⟨0, Nat.zero_le _⟩ (wk0 (by repeat (first | exact subσ.nil _ | refine subσ.cons rfl ?_)) (by repeat' (first | constructor | apply Sub.suf))) ?_
  rintro ⟨k, hk⟩
  refine cmono (S' := St M0 F0 w0 106 [(0, .slice A l.length c), (1, .slice B m.length c'), (5, .slice A5 (mkT u (m.length + 1) (bf l m)).length c5), (6, .int .i64 ((u : Nat) : Int)), (7, .slice (some ⟨b18, 0, none⟩) (m.length + 1) (m.length + 1)), (8, .int .i64 ((k : Nat) : Int))] [row 3 (some ⟨b18, 0, none⟩) (m.length + 1) (mkR (m.length + 1) (ct l m u (k))), row 61 (A5) (c5) (mkT (u) (m.length + 1) (bf l m))] [slA A l, slA B m]) (fun _ _ h => h) ?_
  refine cs ?_
  refine cs ?_
  refine cr ?_
  refine ls (op (p_move rfl) rfl) ?_
  refine ls (op (p_move rfl) rfl) ?_
  refine ls (op (p_lenl rfl Tryd.underlying22) rfl) ?_
  refine ls (op (p_icmp rfl rfl rfl) rfl) ?_
  refine ln ?_
  refine nthen ?_
  refine cc rfl ?_ ?_
  ·
   intro h22
   try simp only [decide_eq_true_eq, decide_eq_false_iff_not, Bool.not_eq_true', Bool.not_eq_false', Int.not_lt, Int.not_le, ge_iff_le, Bool.not_true, Bool.not_false] at h22
   have hk2 : k ≤ m.length := by omega
   refine cskip ?_
   refine nthen ?_
   refine cs ?_
   refine cb ?_
   refine cs ?_
   refine cr ?_
   refine ls (op (p_move rfl) rfl) ?_
   refine ls (op (p_icmp rfl rfl rfl) rfl) ?_
   refine ls (op (p_move rfl) rfl) ?_
   refine andX 3 27 30 rfl (subσ.cons (t := 0) rfl (subσ.cons (t := 1) rfl (subσ.cons (t := 5) rfl (subσ.cons (t := 6) rfl (subσ.cons (t := 7) rfl (subσ.cons (t := 8) rfl (subσ.cons (t := 19) rfl (subσ.cons (t := 20) rfl (subσ.cons (t := 21) rfl (subσ.cons (t := 22) rfl (subσ.nil _))))))))))) ?_ ?_
   ·
    intro h27
    refine lskip rfl rfl rfl rfl rfl ?_
    refine lskip rfl rfl rfl rfl rfl ?_
    refine ls (op (p_pickf rfl rfl) rfl) ?_
    refine ln (nmid (wk0 (by repeat (first | exact subσ.nil _ | refine subσ.cons rfl ?_)) (by repeat' (first | constructor | apply Sub.suf))))
   apply exI
   ·
    intro h27
    refine lwant rfl rfl rfl rfl (op (p_move rfl) rfl) ?_
    refine lwant rfl rfl rfl rfl (op (p_icmp rfl rfl rfl) rfl) ?_
    refine ls (op (p_pickt rfl rfl) rfl) ?_
    refine ln (nmid (wk0 (by repeat (first | exact subσ.nil _ | refine subσ.cons rfl ?_)) (by repeat' (first | constructor | apply Sub.suf))))
   ·
    refine ln ?_
    refine nthen ?_
    refine cc rfl ?_ ?_
    ·
     intro h30
     have h30' : 0 < u ∧ 0 < k := by have h := h30; simp at h; omega
     obtain ⟨u, rfl⟩ : ∃ u', u = u' + 1 := ⟨u - 1, by omega⟩
     obtain ⟨k, rfl⟩ : ∃ k', k = k' + 1 := ⟨k - 1, by omega⟩
     have hi1 : u < l.length := by omega
     have hk1 : k < m.length := by omega
     refine cs ?_
     refine rowC (α := List Int) (A := A5) (by repeat' constructor) (fun h => by have h2 := congrArg List.length h; rw [mkT_length] at h2; cases h2) ?_
     rintro g5 rfl
     refine cmono (fun a w h => pin0 (α := List Int) (by repeat' constructor) (by repeat' constructor) h) ?_
     refine pinC (α := List Int) u (by repeat' constructor) (mkT_row (by omega)) (fun y => (by repeat' constructor)) ?_
     intro yp
     refine elC (A := yp.1) (l := (List.range (m.length + 1)).map (bf l m u)) (by repeat' constructor) (k + 1) (mkR_at (by omega)) ?_; rintro zbu zou zyu hAu
     refine elC (A := yp.1) (l := (List.range (m.length + 1)).map (bf l m u)) (by repeat' constructor) k (mkR_at (by omega)) ?_; rintro zbv zov zyv hAv
     refine cr ?_
     refine ls (op (p_move rfl) rfl) ?_
     refine ls (op (p_move rfl) rfl) ?_
     refine ls (op (p_move rfl) rfl) ?_
     refine ls (op (p_move rfl) rfl) ?_
     refine ls (op (p_sub rfl rfl (by omega)) rfl) ?_
     refine ls (op (p_ia u rfl (by rw [mkT_length]; omega) (by omega) Tryd.underlying59 Tryd.sizeOf61 rfl rfl) rfl) ?_
     refine ls (o_pT (p_ld Tryd.isAgg61 rfl) (isPin (α := List Int) (by repeat' constructor) (List.Mem.head _)) rfl) ?_
     refine ls (op (p_move rfl) rfl) ?_
     refine ls (op (p_ia (k + 1) hAu (by rw [mkR_length]; omega) rfl Tryd.underlying61 Tryd.sizeOf3 rfl rfl) rfl) ?_
     refine ls (o_ldi Tryd.isAgg3 rfl (by repeat' constructor) 0 rfl (by repeat (first | exact Cut.d | apply Cut.t | apply Cut.s)) rfl) ?_
     refine ls (op (p_ia (k + 1) rfl (by omega) rfl Tryd.underlying61 Tryd.sizeOf3 rfl rfl) rfl) ?_
     refine ls (o_strowE (j := k + 1) (z := bf l m u (k + 1)) (yz := ()) rfl Tryd.sizeOf3 rfl rfl rfl (by repeat' constructor) (by rw [mkR_len]; omega) (mkR_upd st_a) (by repeat' constructor) (by repeat' (first | constructor | apply Sub.suf))) ?_
     refine ln ?_
     refine nthen ?_
     refine cs ?_
     refine cs ?_
     refine cdB [] [(4, b18, 0 + k * Rp.size Int, _), (8, b18, 0 + (k + 1) * Rp.size Int, _)] TrydX.mixed (by kernel_rfl) (by kernel_rfl) (TOk.t (isRowI (by repeat' constructor) (mkR_get (by omega))) (TOk.t (isRowI (by repeat' constructor) (mkR_get (by omega))) TOk.d)) ?_
     refine tkB 0 rfl (by kernel_rfl) (fun _ _ _ h => h) gnone (TTany _) (p_move rfl) rfl ?_
     refine tkB 1 rfl (by kernel_rfl) (fun _ _ _ h => h) gnone (TTany _) (p_move rfl) rfl ?_
     refine tkB 2 rfl (by kernel_rfl) (fun _ _ _ h => h) gnone (TTany _) (p_sub rfl rfl (by omega)) rfl ?_
     refine tkB 3 rfl (by kernel_rfl) (fun _ _ _ h => h) gnone (TTany _) (p_ia k rfl (by omega) (by omega) Tryd.underlying61 Tryd.sizeOf3 rfl rfl) rfl ?_
     refine tkB 4 rfl (by kernel_rfl) (fun _ _ _ h => h) gnone (TTat (List.Mem.head _)) (p_ld Tryd.isAgg3 rfl) rfl ?_
     refine tkB 5 rfl (by kernel_rfl) (fun _ _ _ h => h) gnone (TTany _) (p_move rfl) rfl ?_
     refine tkB 6 rfl (by kernel_rfl) (fun _ _ _ h => h) gnone (TTany _) (p_move rfl) rfl ?_
     refine tkB 7 rfl (by kernel_rfl) (fun _ _ _ h => h) gnone (TTany _) (p_ia (k + 1) rfl (by omega) (by omega) Tryd.underlying61 Tryd.sizeOf3 rfl rfl) rfl ?_
     refine tkB 8 rfl (by kernel_rfl) (fun _ _ _ h => h) gnone (TTat (List.Mem.tail _ (List.Mem.head _))) (p_ld Tryd.isAgg3 rfl) rfl ?_
     refine tkB 9 rfl (by kernel_rfl) (fun _ _ _ h => h) gnone (TTany _) (p_icmp rfl rfl rfl) rfl ?_
     refine dnB (by kernel_rfl) ?_
     refine nthen ?_
     refine cc rfl ?_ ?_
     ·
      intro h51
      have hlt : bf l m u (k + 1) < bf l m (u + 1) k := by have h := h51; rw [st_v1, st_v0] at h; simpa using h
      refine cr ?_
      refine ls (op (p_move rfl) rfl) ?_
      refine ls (op (p_move rfl) rfl) ?_
      refine ls (op (p_move rfl) rfl) ?_
      refine ls (op (p_move rfl) rfl) ?_
      refine ls (op (p_sub rfl rfl (by omega)) rfl) ?_
      refine ls (op (p_ia k rfl (by omega) (by omega) Tryd.underlying61 Tryd.sizeOf3 rfl rfl) rfl) ?_
      refine ls (o_pT (p_ld Tryd.isAgg3 rfl) (isRowI (j := k) (by repeat' constructor) (mkR_get (by omega))) rfl) ?_
      refine fixL (v' := .int .i64 (bf l m (u + 1) k)) (by rw [st_v0]) ?_
      refine ls (op (p_ia (k + 1) rfl (by omega) rfl Tryd.underlying61 Tryd.sizeOf3 rfl rfl) rfl) ?_
      refine ls (o_strowE (j := k + 1) (z := bf l m (u + 1) k) (yz := ()) rfl Tryd.sizeOf3 rfl rfl rfl (by repeat' constructor) (by rw [mkR_len]; omega) (mkR_upd (st_T hlt)) (by repeat' constructor) (by repeat' (first | constructor | apply Sub.suf))) ?_
      refine ln ?_
      refine nthen ?_
      refine cs ?_
      rcases Classical.em (l[u] = m[k]) with heq | heq
      ·
       refine elC (A := A) (l := l) (by repeat' constructor) u (List.getElem?_eq_getElem (l := l) hi1) ?_; rintro zba zoa zya hAa
       refine elC (A := B) (l := m) (by repeat' constructor) k (List.getElem?_eq_getElem (l := m) hk1) ?_; rintro zbb zob zyb hAb
       refine cdB [] [(4, zba, zoa + u * Rp.size ByteArray, _), (9, zbb, zob + k * Rp.size ByteArray, _), (16, g5, 0 + u * Rp.size (List Int), _), (20, zbv, zov + k * Rp.size Int, _), (25, b18, 0 + (k + 1) * Rp.size Int, _)] TrydX.mixed (by kernel_rfl) (by kernel_rfl) (TOk.t (isInS (by repeat' constructor) (k := 0) rfl (z := 1) (by repeat (first | exact Cut.d | apply Cut.t | apply Cut.s))) (TOk.t (isInS (by repeat' constructor) (k := 0) rfl (z := 1) (by repeat (first | exact Cut.d | apply Cut.t | apply Cut.s))) (TOk.t (isPin (by repeat' constructor) (List.Mem.head _)) (TOk.t (isInS (by repeat' constructor) (k := 0) rfl (z := 1) (by repeat (first | exact Cut.d | apply Cut.t | apply Cut.s))) (TOk.t (isRowI (by repeat' constructor) (mkR_get (by omega))) TOk.d))))) ?_
       refine tkB 0 rfl (by kernel_rfl) (fun _ _ _ h => h) gnone (TTany _) (p_move rfl) rfl ?_
       refine tkB 1 rfl (by kernel_rfl) (fun _ _ _ h => h) gnone (TTany _) (p_move rfl) rfl ?_
       refine tkB 2 rfl (by kernel_rfl) (fun _ _ _ h => h) gnone (TTany _) (p_sub rfl rfl (by omega)) rfl ?_
       refine tkB 3 rfl (by kernel_rfl) (fun _ _ _ h => h) gnone (TTany _) (p_ia u hAa hi1 (by omega) Tryd.underlying22 Tryd.sizeOf9 rfl rfl) rfl ?_
       refine tkB 4 rfl (by kernel_rfl) (fun _ _ _ h => h) gnone (TTat (List.Mem.head _)) (p_ld Tryd.isAgg9 rfl) rfl ?_
       refine tkB 5 rfl (by kernel_rfl) (fun _ _ _ h => h) gnone (TTany _) (p_move rfl) rfl ?_
       refine tkB 6 rfl (by kernel_rfl) (fun _ _ _ h => h) gnone (TTany _) (p_move rfl) rfl ?_
       refine tkB 7 rfl (by kernel_rfl) (fun _ _ _ h => h) gnone (TTany _) (p_sub rfl rfl (by omega)) rfl ?_
       refine tkB 8 rfl (by kernel_rfl) (fun _ _ _ h => h) gnone (TTany _) (p_ia k hAb hk1 (by omega) Tryd.underlying22 Tryd.sizeOf9 rfl rfl) rfl ?_
       refine tkB 9 rfl (by kernel_rfl) (fun _ _ _ h => h) gnone (TTat (List.Mem.tail _ (List.Mem.head _))) (p_ld Tryd.isAgg9 rfl) rfl ?_
       refine tkB 10 rfl (by kernel_rfl) (fun _ _ _ h => h) gnone (TTany _) (p_seq rfl rfl) rfl ?_
       refine tkB 11 rfl (by kernel_rfl) (fun _ _ _ h => h) gnone (TTany _) (p_move rfl) rfl ?_
       refine fixB (congrArg Value.bool (decide_eq_true heq)) ?_
       refine tkB 12 rfl (by kernel_rfl) (fun _ _ _ h => h) (gyes rfl rfl rfl rfl) (TTany _) (p_move rfl) rfl ?_
       refine tkB 13 rfl (by kernel_rfl) (fun _ _ _ h => h) (gyes rfl rfl rfl rfl) (TTany _) (p_move rfl) rfl ?_
       refine tkB 14 rfl (by kernel_rfl) (fun _ _ _ h => h) (gyes rfl rfl rfl rfl) (TTany _) (p_sub rfl rfl (by omega)) rfl ?_
       refine tkB 15 rfl (by kernel_rfl) (fun _ _ _ h => h) (gyes rfl rfl rfl rfl) (TTany _) (p_ia u rfl (by rw [mkT_length]; omega) (by omega) Tryd.underlying59 Tryd.sizeOf61 rfl rfl) rfl ?_
       refine tkB 16 rfl (by kernel_rfl) (fun _ _ _ h => h) (gyes rfl rfl rfl rfl) (TTat (List.Mem.tail _ (List.Mem.tail _ (List.Mem.head _)))) (p_ld Tryd.isAgg61 rfl) rfl ?_
       refine tkB 17 rfl (by kernel_rfl) (fun _ _ _ h => h) (gyes rfl rfl rfl rfl) (TTany _) (p_move rfl) rfl ?_
       refine tkB 18 rfl (by kernel_rfl) (fun _ _ _ h => h) (gyes rfl rfl rfl rfl) (TTany _) (p_sub rfl rfl (by omega)) rfl ?_
       refine tkB 19 rfl (by kernel_rfl) (fun _ _ _ h => h) (gyes rfl rfl rfl rfl) (TTany _) (p_ia k hAv (by rw [mkR_length]; omega) (by omega) Tryd.underlying61 Tryd.sizeOf3 rfl rfl) rfl ?_
       refine tkB 20 rfl (by kernel_rfl) (fun _ _ _ h => h) (gyes rfl rfl rfl rfl) (TTat (List.Mem.tail _ (List.Mem.tail _ (List.Mem.tail _ (List.Mem.head _))))) (p_ld Tryd.isAgg3 rfl) rfl ?_
       refine tkB 21 rfl (by kernel_rfl) (fun _ _ _ h => h) (gyes rfl rfl rfl rfl) (TTany _) (p_add rfl rfl (by unfold bf; have := beg_small l m u k; omega)) rfl ?_
       refine tkB 22 rfl (by kernel_rfl) (fun _ _ _ h => h) (gyes rfl rfl rfl rfl) (TTany _) (p_move rfl) rfl ?_
       refine tkB 23 rfl (by kernel_rfl) (fun _ _ _ h => h) (gyes rfl rfl rfl rfl) (TTany _) (p_move rfl) rfl ?_
       refine tkB 24 rfl (by kernel_rfl) (fun _ _ _ h => h) (gyes rfl rfl rfl rfl) (TTany _) (p_ia (k + 1) rfl (by omega) (by omega) Tryd.underlying61 Tryd.sizeOf3 rfl rfl) rfl ?_
       refine tkB 25 rfl (by kernel_rfl) (fun _ _ _ h => h) (gyes rfl rfl rfl rfl) (TTat (List.Mem.tail _ (List.Mem.tail _ (List.Mem.tail _ (List.Mem.tail _ (List.Mem.head _)))))) (p_ld Tryd.isAgg3 rfl) rfl ?_
       refine tkB 26 rfl (by kernel_rfl) (fun _ _ _ h => h) (gyes rfl rfl rfl rfl) (TTany _) (p_icmp rfl rfl rfl) rfl ?_
       refine tkB 27 rfl (by kernel_rfl) (fun _ _ _ h => h) gnone (TTany _) (p_pickt rfl rfl) rfl ?_
       refine dnB (by kernel_rfl) ?_
       refine nthen ?_
       refine cc rfl ?_ ?_
       ·
        intro h87
        skip
        refine cr ?_
        refine ls (op (p_move rfl) rfl) ?_
        refine ls (op (p_move rfl) rfl) ?_
        refine ls (op (p_move rfl) rfl) ?_
        refine ls (op (p_move rfl) rfl) ?_
        refine ls (op (p_sub rfl rfl (by omega)) rfl) ?_
        refine ls (op (p_ia u rfl (by rw [mkT_length]; omega) (by omega) Tryd.underlying59 Tryd.sizeOf61 rfl rfl) rfl) ?_
        refine ls (o_pT (p_ld Tryd.isAgg61 rfl) (isPin (α := List Int) (by repeat' constructor) (List.Mem.head _)) rfl) ?_
        refine ls (op (p_move rfl) rfl) ?_
        refine ls (op (p_sub rfl rfl (by omega)) rfl) ?_
        refine ls (op (p_ia k hAv (by rw [mkR_length]; omega) (by omega) Tryd.underlying61 Tryd.sizeOf3 rfl rfl) rfl) ?_
        refine ls (o_ldi Tryd.isAgg3 rfl (by repeat' constructor) 0 rfl (by repeat (first | exact Cut.d | apply Cut.t | apply Cut.s)) rfl) ?_
        refine ls (op (p_add rfl rfl (by unfold bf; have := beg_small l m u k; omega)) rfl) ?_
        refine ls (op (p_ia (k + 1) rfl (by omega) rfl Tryd.underlying61 Tryd.sizeOf3 rfl rfl) rfl) ?_
        refine ls (o_strowE (j := k + 1) (z := bf l m u k + 1) (yz := ()) rfl Tryd.sizeOf3 rfl rfl rfl (by repeat' constructor) (by rw [mkR_len]; omega) (mkR_upd (st_gt hi1 hk1 heq)) (by repeat' constructor) (by repeat' (first | constructor | apply Sub.suf))) ?_
        refine ln ?_
        refine nblock ?_
        refine nthen ?_
        refine cr ?_
        refine ls (op (p_move rfl) rfl) ?_
        refine ls (op (p_add rfl rfl (by omega)) rfl) ?_
        refine ls (op (p_asg rfl) rfl) ?_
        refine ln ?_
        refine nmono (fun a w h => unpin (α := List Int) (by repeat' constructor) (by repeat' constructor) h) ?_
        refine nnext ⟨k + 1 + 1, by omega⟩ (by dsimp only; omega) (wk0 (by repeat (first | exact subσ.nil _ | refine subσ.cons rfl ?_)) (by repeat' (first | constructor | apply Sub.suf)))
       ·
        intro h87
        have hng : ¬ mx l m u k < bf l m u k + 1 := by have h := h87; rw [st_vm] at h; simpa using h
        refine cskip ?_
        refine nblock ?_
        refine nthen ?_
        refine cr ?_
        refine ls (op (p_move rfl) rfl) ?_
        refine ls (op (p_add rfl rfl (by omega)) rfl) ?_
        refine ls (op (p_asg rfl) rfl) ?_
        refine ln ?_
        refine nmono (fun a w h => rowEq (α := Int) (by repeat' constructor) (st_le hi1 hk1 heq hng) (by repeat' constructor) h) ?_
        refine nmono (fun a w h => unpin (α := List Int) (by repeat' constructor) (by repeat' constructor) h) ?_
        refine nnext ⟨k + 1 + 1, by omega⟩ (by dsimp only; omega) (wk0 (by repeat (first | exact subσ.nil _ | refine subσ.cons rfl ?_)) (by repeat' (first | constructor | apply Sub.suf)))
      ·
       refine elC (A := A) (l := l) (by repeat' constructor) u (List.getElem?_eq_getElem (l := l) hi1) ?_; rintro zba zoa zya hAa
       refine elC (A := B) (l := m) (by repeat' constructor) k (List.getElem?_eq_getElem (l := m) hk1) ?_; rintro zbb zob zyb hAb
       refine cdB [] [(4, zba, zoa + u * Rp.size ByteArray, _), (9, zbb, zob + k * Rp.size ByteArray, _)] TrydX.mixed (by kernel_rfl) (by kernel_rfl) (TOk.t (isInS (by repeat' constructor) (k := 0) rfl (z := 1) (by repeat (first | exact Cut.d | apply Cut.t | apply Cut.s))) (TOk.t (isInS (by repeat' constructor) (k := 0) rfl (z := 1) (by repeat (first | exact Cut.d | apply Cut.t | apply Cut.s))) TOk.d)) ?_
       refine tkB 0 rfl (by kernel_rfl) (fun _ _ _ h => h) gnone (TTany _) (p_move rfl) rfl ?_
       refine tkB 1 rfl (by kernel_rfl) (fun _ _ _ h => h) gnone (TTany _) (p_move rfl) rfl ?_
       refine tkB 2 rfl (by kernel_rfl) (fun _ _ _ h => h) gnone (TTany _) (p_sub rfl rfl (by omega)) rfl ?_
       refine tkB 3 rfl (by kernel_rfl) (fun _ _ _ h => h) gnone (TTany _) (p_ia u hAa hi1 (by omega) Tryd.underlying22 Tryd.sizeOf9 rfl rfl) rfl ?_
       refine tkB 4 rfl (by kernel_rfl) (fun _ _ _ h => h) gnone (TTat (List.Mem.head _)) (p_ld Tryd.isAgg9 rfl) rfl ?_
       refine tkB 5 rfl (by kernel_rfl) (fun _ _ _ h => h) gnone (TTany _) (p_move rfl) rfl ?_
       refine tkB 6 rfl (by kernel_rfl) (fun _ _ _ h => h) gnone (TTany _) (p_move rfl) rfl ?_
       refine tkB 7 rfl (by kernel_rfl) (fun _ _ _ h => h) gnone (TTany _) (p_sub rfl rfl (by omega)) rfl ?_
       refine tkB 8 rfl (by kernel_rfl) (fun _ _ _ h => h) gnone (TTany _) (p_ia k hAb hk1 (by omega) Tryd.underlying22 Tryd.sizeOf9 rfl rfl) rfl ?_
       refine tkB 9 rfl (by kernel_rfl) (fun _ _ _ h => h) gnone (TTat (List.Mem.tail _ (List.Mem.head _))) (p_ld Tryd.isAgg9 rfl) rfl ?_
       refine tkB 10 rfl (by kernel_rfl) (fun _ _ _ h => h) gnone (TTany _) (p_seq rfl rfl) rfl ?_
       refine tkB 11 rfl (by kernel_rfl) (fun _ _ _ h => h) gnone (TTany _) (p_move rfl) rfl ?_
       refine fixB (congrArg Value.bool (decide_eq_false heq)) ?_
       refine tksB 12 rfl (by kernel_rfl) (fun _ _ _ h => h) rfl rfl rfl rfl rfl ?_
       refine tksB 13 rfl (by kernel_rfl) (fun _ _ _ h => h) rfl rfl rfl rfl rfl ?_
       refine tksB 14 rfl (by kernel_rfl) (fun _ _ _ h => h) rfl rfl rfl rfl rfl ?_
       refine tksB 15 rfl (by kernel_rfl) (fun _ _ _ h => h) rfl rfl rfl rfl rfl ?_
       refine tksB 16 rfl (by kernel_rfl) (fun _ _ _ h => h) rfl rfl rfl rfl rfl ?_
       refine tksB 17 rfl (by kernel_rfl) (fun _ _ _ h => h) rfl rfl rfl rfl rfl ?_
       refine tksB 18 rfl (by kernel_rfl) (fun _ _ _ h => h) rfl rfl rfl rfl rfl ?_
       refine tksB 19 rfl (by kernel_rfl) (fun _ _ _ h => h) rfl rfl rfl rfl rfl ?_
       refine tksB 20 rfl (by kernel_rfl) (fun _ _ _ h => h) rfl rfl rfl rfl rfl ?_
       refine tksB 21 rfl (by kernel_rfl) (fun _ _ _ h => h) rfl rfl rfl rfl rfl ?_
       refine tksB 22 rfl (by kernel_rfl) (fun _ _ _ h => h) rfl rfl rfl rfl rfl ?_
       refine tksB 23 rfl (by kernel_rfl) (fun _ _ _ h => h) rfl rfl rfl rfl rfl ?_
       refine tksB 24 rfl (by kernel_rfl) (fun _ _ _ h => h) rfl rfl rfl rfl rfl ?_
       refine tksB 25 rfl (by kernel_rfl) (fun _ _ _ h => h) rfl rfl rfl rfl rfl ?_
       refine tksB 26 rfl (by kernel_rfl) (fun _ _ _ h => h) rfl rfl rfl rfl rfl ?_
       refine tkB 27 rfl (by kernel_rfl) (fun _ _ _ h => h) gnone (TTany _) (p_pickf rfl rfl) rfl ?_
       refine dnB (by kernel_rfl) ?_
       refine nthen ?_
       refine cc rfl (fun h => by cases h) (fun h => ?_)
       refine cskip ?_
       refine nblock ?_
       refine nthen ?_
       refine cr ?_
       refine ls (op (p_move rfl) rfl) ?_
       refine ls (op (p_add rfl rfl (by omega)) rfl) ?_
       refine ls (op (p_asg rfl) rfl) ?_
       refine ln ?_
       refine nmono (fun a w h => rowEq (α := Int) (by repeat' constructor) (st_ne hi1 hk1 heq) (by repeat' constructor) h) ?_
       refine nmono (fun a w h => unpin (α := List Int) (by repeat' constructor) (by repeat' constructor) h) ?_
       refine nnext ⟨k + 1 + 1, by omega⟩ (by dsimp only; omega) (wk0 (by repeat (first | exact subσ.nil _ | refine subσ.cons rfl ?_)) (by repeat' (first | constructor | apply Sub.suf)))
     ·
      intro h51
      have hlt : ¬ bf l m u (k + 1) < bf l m (u + 1) k := by have h := h51; rw [st_v1, st_v0] at h; simpa using h
      refine cmono (fun a w h => rowEq (α := Int) (by repeat' constructor) (st_F hlt) (by repeat' constructor) h) ?_
      refine cskip ?_
      refine nthen ?_
      refine cs ?_
      rcases Classical.em (l[u] = m[k]) with heq | heq
      ·
       refine elC (A := A) (l := l) (by repeat' constructor) u (List.getElem?_eq_getElem (l := l) hi1) ?_; rintro zba zoa zya hAa
       refine elC (A := B) (l := m) (by repeat' constructor) k (List.getElem?_eq_getElem (l := m) hk1) ?_; rintro zbb zob zyb hAb
       refine cdB [] [(4, zba, zoa + u * Rp.size ByteArray, _), (9, zbb, zob + k * Rp.size ByteArray, _), (16, g5, 0 + u * Rp.size (List Int), _), (20, zbv, zov + k * Rp.size Int, _), (25, b18, 0 + (k + 1) * Rp.size Int, _)] TrydX.mixed (by kernel_rfl) (by kernel_rfl) (TOk.t (isInS (by repeat' constructor) (k := 0) rfl (z := 1) (by repeat (first | exact Cut.d | apply Cut.t | apply Cut.s))) (TOk.t (isInS (by repeat' constructor) (k := 0) rfl (z := 1) (by repeat (first | exact Cut.d | apply Cut.t | apply Cut.s))) (TOk.t (isPin (by repeat' constructor) (List.Mem.head _)) (TOk.t (isInS (by repeat' constructor) (k := 0) rfl (z := 1) (by repeat (first | exact Cut.d | apply Cut.t | apply Cut.s))) (TOk.t (isRowI (by repeat' constructor) (mkR_get (by omega))) TOk.d))))) ?_
       refine tkB 0 rfl (by kernel_rfl) (fun _ _ _ h => h) gnone (TTany _) (p_move rfl) rfl ?_
       refine tkB 1 rfl (by kernel_rfl) (fun _ _ _ h => h) gnone (TTany _) (p_move rfl) rfl ?_
       refine tkB 2 rfl (by kernel_rfl) (fun _ _ _ h => h) gnone (TTany _) (p_sub rfl rfl (by omega)) rfl ?_
       refine tkB 3 rfl (by kernel_rfl) (fun _ _ _ h => h) gnone (TTany _) (p_ia u hAa hi1 (by omega) Tryd.underlying22 Tryd.sizeOf9 rfl rfl) rfl ?_
       refine tkB 4 rfl (by kernel_rfl) (fun _ _ _ h => h) gnone (TTat (List.Mem.head _)) (p_ld Tryd.isAgg9 rfl) rfl ?_
       refine tkB 5 rfl (by kernel_rfl) (fun _ _ _ h => h) gnone (TTany _) (p_move rfl) rfl ?_
       refine tkB 6 rfl (by kernel_rfl) (fun _ _ _ h => h) gnone (TTany _) (p_move rfl) rfl ?_
       refine tkB 7 rfl (by kernel_rfl) (fun _ _ _ h => h) gnone (TTany _) (p_sub rfl rfl (by omega)) rfl ?_
       refine tkB 8 rfl (by kernel_rfl) (fun _ _ _ h => h) gnone (TTany _) (p_ia k hAb hk1 (by omega) Tryd.underlying22 Tryd.sizeOf9 rfl rfl) rfl ?_
       refine tkB 9 rfl (by kernel_rfl) (fun _ _ _ h => h) gnone (TTat (List.Mem.tail _ (List.Mem.head _))) (p_ld Tryd.isAgg9 rfl) rfl ?_
       refine tkB 10 rfl (by kernel_rfl) (fun _ _ _ h => h) gnone (TTany _) (p_seq rfl rfl) rfl ?_
       refine tkB 11 rfl (by kernel_rfl) (fun _ _ _ h => h) gnone (TTany _) (p_move rfl) rfl ?_
       refine fixB (congrArg Value.bool (decide_eq_true heq)) ?_
       refine tkB 12 rfl (by kernel_rfl) (fun _ _ _ h => h) (gyes rfl rfl rfl rfl) (TTany _) (p_move rfl) rfl ?_
       refine tkB 13 rfl (by kernel_rfl) (fun _ _ _ h => h) (gyes rfl rfl rfl rfl) (TTany _) (p_move rfl) rfl ?_
       refine tkB 14 rfl (by kernel_rfl) (fun _ _ _ h => h) (gyes rfl rfl rfl rfl) (TTany _) (p_sub rfl rfl (by omega)) rfl ?_
       refine tkB 15 rfl (by kernel_rfl) (fun _ _ _ h => h) (gyes rfl rfl rfl rfl) (TTany _) (p_ia u rfl (by rw [mkT_length]; omega) (by omega) Tryd.underlying59 Tryd.sizeOf61 rfl rfl) rfl ?_
       refine tkB 16 rfl (by kernel_rfl) (fun _ _ _ h => h) (gyes rfl rfl rfl rfl) (TTat (List.Mem.tail _ (List.Mem.tail _ (List.Mem.head _)))) (p_ld Tryd.isAgg61 rfl) rfl ?_
       refine tkB 17 rfl (by kernel_rfl) (fun _ _ _ h => h) (gyes rfl rfl rfl rfl) (TTany _) (p_move rfl) rfl ?_
       refine tkB 18 rfl (by kernel_rfl) (fun _ _ _ h => h) (gyes rfl rfl rfl rfl) (TTany _) (p_sub rfl rfl (by omega)) rfl ?_
       refine tkB 19 rfl (by kernel_rfl) (fun _ _ _ h => h) (gyes rfl rfl rfl rfl) (TTany _) (p_ia k hAv (by rw [mkR_length]; omega) (by omega) Tryd.underlying61 Tryd.sizeOf3 rfl rfl) rfl ?_
       refine tkB 20 rfl (by kernel_rfl) (fun _ _ _ h => h) (gyes rfl rfl rfl rfl) (TTat (List.Mem.tail _ (List.Mem.tail _ (List.Mem.tail _ (List.Mem.head _))))) (p_ld Tryd.isAgg3 rfl) rfl ?_
       refine tkB 21 rfl (by kernel_rfl) (fun _ _ _ h => h) (gyes rfl rfl rfl rfl) (TTany _) (p_add rfl rfl (by unfold bf; have := beg_small l m u k; omega)) rfl ?_
       refine tkB 22 rfl (by kernel_rfl) (fun _ _ _ h => h) (gyes rfl rfl rfl rfl) (TTany _) (p_move rfl) rfl ?_
       refine tkB 23 rfl (by kernel_rfl) (fun _ _ _ h => h) (gyes rfl rfl rfl rfl) (TTany _) (p_move rfl) rfl ?_
       refine tkB 24 rfl (by kernel_rfl) (fun _ _ _ h => h) (gyes rfl rfl rfl rfl) (TTany _) (p_ia (k + 1) rfl (by omega) (by omega) Tryd.underlying61 Tryd.sizeOf3 rfl rfl) rfl ?_
       refine tkB 25 rfl (by kernel_rfl) (fun _ _ _ h => h) (gyes rfl rfl rfl rfl) (TTat (List.Mem.tail _ (List.Mem.tail _ (List.Mem.tail _ (List.Mem.tail _ (List.Mem.head _)))))) (p_ld Tryd.isAgg3 rfl) rfl ?_
       refine tkB 26 rfl (by kernel_rfl) (fun _ _ _ h => h) (gyes rfl rfl rfl rfl) (TTany _) (p_icmp rfl rfl rfl) rfl ?_
       refine tkB 27 rfl (by kernel_rfl) (fun _ _ _ h => h) gnone (TTany _) (p_pickt rfl rfl) rfl ?_
       refine dnB (by kernel_rfl) ?_
       refine nthen ?_
       refine cc rfl ?_ ?_
       ·
        intro h87
        skip
        refine cr ?_
        refine ls (op (p_move rfl) rfl) ?_
        refine ls (op (p_move rfl) rfl) ?_
        refine ls (op (p_move rfl) rfl) ?_
        refine ls (op (p_move rfl) rfl) ?_
        refine ls (op (p_sub rfl rfl (by omega)) rfl) ?_
        refine ls (op (p_ia u rfl (by rw [mkT_length]; omega) (by omega) Tryd.underlying59 Tryd.sizeOf61 rfl rfl) rfl) ?_
        refine ls (o_pT (p_ld Tryd.isAgg61 rfl) (isPin (α := List Int) (by repeat' constructor) (List.Mem.head _)) rfl) ?_
        refine ls (op (p_move rfl) rfl) ?_
        refine ls (op (p_sub rfl rfl (by omega)) rfl) ?_
        refine ls (op (p_ia k hAv (by rw [mkR_length]; omega) (by omega) Tryd.underlying61 Tryd.sizeOf3 rfl rfl) rfl) ?_
        refine ls (o_ldi Tryd.isAgg3 rfl (by repeat' constructor) 0 rfl (by repeat (first | exact Cut.d | apply Cut.t | apply Cut.s)) rfl) ?_
        refine ls (op (p_add rfl rfl (by unfold bf; have := beg_small l m u k; omega)) rfl) ?_
        refine ls (op (p_ia (k + 1) rfl (by omega) rfl Tryd.underlying61 Tryd.sizeOf3 rfl rfl) rfl) ?_
        refine ls (o_strowE (j := k + 1) (z := bf l m u k + 1) (yz := ()) rfl Tryd.sizeOf3 rfl rfl rfl (by repeat' constructor) (by rw [mkR_len]; omega) (mkR_upd (st_gt hi1 hk1 heq)) (by repeat' constructor) (by repeat' (first | constructor | apply Sub.suf))) ?_
        refine ln ?_
        refine nblock ?_
        refine nthen ?_
        refine cr ?_
        refine ls (op (p_move rfl) rfl) ?_
        refine ls (op (p_add rfl rfl (by omega)) rfl) ?_
        refine ls (op (p_asg rfl) rfl) ?_
        refine ln ?_
        refine nmono (fun a w h => unpin (α := List Int) (by repeat' constructor) (by repeat' constructor) h) ?_
        refine nnext ⟨k + 1 + 1, by omega⟩ (by dsimp only; omega) (wk0 (by repeat (first | exact subσ.nil _ | refine subσ.cons rfl ?_)) (by repeat' (first | constructor | apply Sub.suf)))
       ·
        intro h87
        have hng : ¬ mx l m u k < bf l m u k + 1 := by have h := h87; rw [st_vm] at h; simpa using h
        refine cskip ?_
        refine nblock ?_
        refine nthen ?_
        refine cr ?_
        refine ls (op (p_move rfl) rfl) ?_
        refine ls (op (p_add rfl rfl (by omega)) rfl) ?_
        refine ls (op (p_asg rfl) rfl) ?_
        refine ln ?_
        refine nmono (fun a w h => rowEq (α := Int) (by repeat' constructor) (st_le hi1 hk1 heq hng) (by repeat' constructor) h) ?_
        refine nmono (fun a w h => unpin (α := List Int) (by repeat' constructor) (by repeat' constructor) h) ?_
        refine nnext ⟨k + 1 + 1, by omega⟩ (by dsimp only; omega) (wk0 (by repeat (first | exact subσ.nil _ | refine subσ.cons rfl ?_)) (by repeat' (first | constructor | apply Sub.suf)))
      ·
       refine elC (A := A) (l := l) (by repeat' constructor) u (List.getElem?_eq_getElem (l := l) hi1) ?_; rintro zba zoa zya hAa
       refine elC (A := B) (l := m) (by repeat' constructor) k (List.getElem?_eq_getElem (l := m) hk1) ?_; rintro zbb zob zyb hAb
       refine cdB [] [(4, zba, zoa + u * Rp.size ByteArray, _), (9, zbb, zob + k * Rp.size ByteArray, _)] TrydX.mixed (by kernel_rfl) (by kernel_rfl) (TOk.t (isInS (by repeat' constructor) (k := 0) rfl (z := 1) (by repeat (first | exact Cut.d | apply Cut.t | apply Cut.s))) (TOk.t (isInS (by repeat' constructor) (k := 0) rfl (z := 1) (by repeat (first | exact Cut.d | apply Cut.t | apply Cut.s))) TOk.d)) ?_
       refine tkB 0 rfl (by kernel_rfl) (fun _ _ _ h => h) gnone (TTany _) (p_move rfl) rfl ?_
       refine tkB 1 rfl (by kernel_rfl) (fun _ _ _ h => h) gnone (TTany _) (p_move rfl) rfl ?_
       refine tkB 2 rfl (by kernel_rfl) (fun _ _ _ h => h) gnone (TTany _) (p_sub rfl rfl (by omega)) rfl ?_
       refine tkB 3 rfl (by kernel_rfl) (fun _ _ _ h => h) gnone (TTany _) (p_ia u hAa hi1 (by omega) Tryd.underlying22 Tryd.sizeOf9 rfl rfl) rfl ?_
       refine tkB 4 rfl (by kernel_rfl) (fun _ _ _ h => h) gnone (TTat (List.Mem.head _)) (p_ld Tryd.isAgg9 rfl) rfl ?_
       refine tkB 5 rfl (by kernel_rfl) (fun _ _ _ h => h) gnone (TTany _) (p_move rfl) rfl ?_
       refine tkB 6 rfl (by kernel_rfl) (fun _ _ _ h => h) gnone (TTany _) (p_move rfl) rfl ?_
       refine tkB 7 rfl (by kernel_rfl) (fun _ _ _ h => h) gnone (TTany _) (p_sub rfl rfl (by omega)) rfl ?_
       refine tkB 8 rfl (by kernel_rfl) (fun _ _ _ h => h) gnone (TTany _) (p_ia k hAb hk1 (by omega) Tryd.underlying22 Tryd.sizeOf9 rfl rfl) rfl ?_
       refine tkB 9 rfl (by kernel_rfl) (fun _ _ _ h => h) gnone (TTat (List.Mem.tail _ (List.Mem.head _))) (p_ld Tryd.isAgg9 rfl) rfl ?_
       refine tkB 10 rfl (by kernel_rfl) (fun _ _ _ h => h) gnone (TTany _) (p_seq rfl rfl) rfl ?_
       refine tkB 11 rfl (by kernel_rfl) (fun _ _ _ h => h) gnone (TTany _) (p_move rfl) rfl ?_
       refine fixB (congrArg Value.bool (decide_eq_false heq)) ?_
       refine tksB 12 rfl (by kernel_rfl) (fun _ _ _ h => h) rfl rfl rfl rfl rfl ?_
       refine tksB 13 rfl (by kernel_rfl) (fun _ _ _ h => h) rfl rfl rfl rfl rfl ?_
       refine tksB 14 rfl (by kernel_rfl) (fun _ _ _ h => h) rfl rfl rfl rfl rfl ?_
       refine tksB 15 rfl (by kernel_rfl) (fun _ _ _ h => h) rfl rfl rfl rfl rfl ?_
       refine tksB 16 rfl (by kernel_rfl) (fun _ _ _ h => h) rfl rfl rfl rfl rfl ?_
       refine tksB 17 rfl (by kernel_rfl) (fun _ _ _ h => h) rfl rfl rfl rfl rfl ?_
       refine tksB 18 rfl (by kernel_rfl) (fun _ _ _ h => h) rfl rfl rfl rfl rfl ?_
       refine tksB 19 rfl (by kernel_rfl) (fun _ _ _ h => h) rfl rfl rfl rfl rfl ?_
       refine tksB 20 rfl (by kernel_rfl) (fun _ _ _ h => h) rfl rfl rfl rfl rfl ?_
       refine tksB 21 rfl (by kernel_rfl) (fun _ _ _ h => h) rfl rfl rfl rfl rfl ?_
       refine tksB 22 rfl (by kernel_rfl) (fun _ _ _ h => h) rfl rfl rfl rfl rfl ?_
       refine tksB 23 rfl (by kernel_rfl) (fun _ _ _ h => h) rfl rfl rfl rfl rfl ?_
       refine tksB 24 rfl (by kernel_rfl) (fun _ _ _ h => h) rfl rfl rfl rfl rfl ?_
       refine tksB 25 rfl (by kernel_rfl) (fun _ _ _ h => h) rfl rfl rfl rfl rfl ?_
       refine tksB 26 rfl (by kernel_rfl) (fun _ _ _ h => h) rfl rfl rfl rfl rfl ?_
       refine tkB 27 rfl (by kernel_rfl) (fun _ _ _ h => h) gnone (TTany _) (p_pickf rfl rfl) rfl ?_
       refine dnB (by kernel_rfl) ?_
       refine nthen ?_
       refine cc rfl (fun h => by cases h) (fun h => ?_)
       refine cskip ?_
       refine nblock ?_
       refine nthen ?_
       refine cr ?_
       refine ls (op (p_move rfl) rfl) ?_
       refine ls (op (p_add rfl rfl (by omega)) rfl) ?_
       refine ls (op (p_asg rfl) rfl) ?_
       refine ln ?_
       refine nmono (fun a w h => rowEq (α := Int) (by repeat' constructor) (st_ne hi1 hk1 heq) (by repeat' constructor) h) ?_
       refine nmono (fun a w h => unpin (α := List Int) (by repeat' constructor) (by repeat' constructor) h) ?_
       refine nnext ⟨k + 1 + 1, by omega⟩ (by dsimp only; omega) (wk0 (by repeat (first | exact subσ.nil _ | refine subσ.cons rfl ?_)) (by repeat' (first | constructor | apply Sub.suf)))
    ·
     intro h30
     have h30' : u = 0 ∨ k = 0 := by have h := h30; simp at h; omega
     refine cskip ?_
     refine nblock ?_
     refine nthen ?_
     refine cr ?_
     refine ls (op (p_move rfl) rfl) ?_
     refine ls (op (p_add rfl rfl (by omega)) rfl) ?_
     refine ls (op (p_asg rfl) rfl) ?_
     refine ln ?_
     refine nmono (fun a w h => rowEq (α := Int) (by repeat' constructor) (ct_zero h30') (by repeat' constructor) h) ?_
     refine nnext ⟨k + 1, by omega⟩ (by dsimp only; omega) (wk0 (by repeat (first | exact subσ.nil _ | refine subσ.cons rfl ?_)) (by repeat' (first | constructor | apply Sub.suf)))
  ·
   intro h22
   try simp only [decide_eq_true_eq, decide_eq_false_iff_not, Bool.not_eq_true', Bool.not_eq_false', Int.not_lt, Int.not_le, ge_iff_le, Bool.not_true, Bool.not_false] at h22
   obtain rfl : k = m.length + 1 := by omega
   refine cexit ?_
   refine xthen ?_
   refine xthen ?_
   refine xblock ?_
   refine nthen ?_
   refine cmono (fun a w h => rowEq (α := Int) (by repeat' constructor) (ct_all l m u) (by repeat' constructor) h) ?_
   refine cmono (fun a w h => freezeN (i := 0) rfl h) ?_
   refine cr ?_
   refine ls (op (p_move rfl) rfl) ?_
   refine ls (op (p_move rfl) rfl) ?_
   refine fixL (slen (m' := (mkR (m.length + 1) (bf l m u)).length) (mkR_len _ _).symm) ?_
   refine ls (o_bsl [mkR (m.length + 1) (bf l m u)] Tryd.underlying59 Tryd.sizeOf61 Tryd.zeroValue61 rfl (Enum.t Enum.d) (RV.t (some ⟨b18, 0, none⟩, (m.length + 1)) rfl (by repeat' (first | constructor | apply Sub.suf)) RV.d) rfl (by decide) (by decide) rfl) ?_
   refine le ?_; intro b103
   refine lmono (fun a w h => Go.Sx.freeze (i := 0) rfl h) ?_
   refine ls (o_app (is := [0]) Tryd.underlying59 inf61 rfl (by decide) (by decide) rfl rfl (by simp only [mkT_length, List.length_cons, List.length_nil]; omega) (fun h => by cases h) rfl (by repeat' (first | constructor | apply Sub.suf)) rfl) ?_
   refine le ?_; rintro ⟨A104, c104⟩
   rw [mkT_snoc]
   refine ls (op (p_asg rfl) rfl) ?_
   refine ln ?_
   refine nblock ?_
   refine nthen ?_
   refine cr ?_
   refine ls (op (p_move rfl) rfl) ?_
   refine ls (op (p_add rfl rfl (by omega)) rfl) ?_
   refine ls (op (p_asg rfl) rfl) ?_
   refine ln ?_
   refine nnext ⟨(u + 1, A104, c104), by dsimp only; omega⟩ (by dsimp only; omega) (wk0 (by repeat (first | exact subσ.nil _ | refine subσ.cons rfl ?_)) (by repeat' (first | constructor | apply Sub.suf)))
 ·
  intro h12
  dsimp only at hi
  try simp only [decide_eq_true_eq, decide_eq_false_iff_not, Bool.not_eq_true', Bool.not_eq_false', Int.not_lt, Int.not_le, ge_iff_le, Bool.not_true, Bool.not_false] at h12
  obtain rfl : u = l.length + 1 := by omega
  refine cexit ?_
  refine xthen ?_
  refine xthen ?_
  refine xblock ?_
  refine nthen ?_
  refine cs ?_
  refine cmono (fun a w h => Go.Sx.freeze (i := 0) rfl h) ?_
  refine cr ?_
  refine ls (op (p_move rfl) rfl) ?_
  refine ls (op (p_asg rfl) rfl) ?_
  refine ln ?_
  refine nthen ?_
  refine cret ?_
  refine xret (fun _ _ h => h) ?_
  refine rret (is := []) (A5, c5) (Or.inl rfl) (Res.t rfl Res.d) ?_ rfl (by repeat' (first | constructor | apply Sub.suf))
  simp only [packV, mkT_length]

set_option maxRecDepth 100000 in
theorem c_rMany (l m : List ByteArray) (A B : Option Addr) (c c' : Nat) (hl : l.length ≤ 200) (hm : m.length ≤ 200) : Con Tryd.prog 12 [.slice A l.length c, .slice B m.length c'] [] [slA A l, slA B m] Unit (fun _ => .int .i64 (lcs l m : Int)) (fun _ => []) (fun _ => []) := by
 refine con Tryd.func12 rfl Tryd.ntmps12 rfl ?_
 intro M0 F0 w0
 refine cs ?_
 refine cr ?_
 refine ls (op (p_asg rfl) rfl) ?_
 refine ln ?_
 refine nthen ?_
 refine cs ?_
 refine cr ?_
 refine ls (op (p_move rfl) rfl) ?_
 refine ls (op (p_move rfl) rfl) ?_
 refine ls (o_call (is := []) Tryd.call28 (c_rMost l m A B c c' hl hm) rfl rfl (by repeat' (first | constructor | apply Sub.suf)) rfl) ?_
 refine le ?_; rintro ⟨A7, c7⟩
 refine elL (A := A7) (l := mkT (l.length + 1) (m.length + 1) (bf l m)) (by repeat' constructor) l.length (mkT_row (by omega)) ?_; rintro zbt zot zyt hAt
 refine elL (A := zyt.1) (l := (List.range (m.length + 1)).map (bf l m l.length)) (by repeat' constructor) m.length (mkR_at (by omega)) ?_; rintro zbu zou zyu hAu
 refine ls (op (p_move rfl) rfl) ?_
 refine ls (op (p_lenl rfl Tryd.underlying22) rfl) ?_
 refine ls (op (p_ia l.length hAt (by omega) rfl Tryd.underlying59 Tryd.sizeOf61 rfl rfl) rfl) ?_
 refine ls (o_ldi Tryd.isAgg61 rfl (by repeat' constructor) 0 rfl (by repeat (first | exact Cut.d | apply Cut.t | apply Cut.s)) rfl) ?_
 refine ls (op (p_move rfl) rfl) ?_
 refine ls (op (p_lenl rfl Tryd.underlying22) rfl) ?_
 refine ls (op (p_ia m.length hAu (by rw [mkR_length]; omega) rfl Tryd.underlying61 Tryd.sizeOf3 rfl rfl) rfl) ?_
 refine ls (o_ldi Tryd.isAgg3 rfl (by repeat' constructor) 0 rfl (by repeat (first | exact Cut.d | apply Cut.t | apply Cut.s)) rfl) ?_
 refine ls (op (p_asg rfl) rfl) ?_
 refine ln ?_
 refine nthen ?_
 refine cret ?_
 refine xret (fun _ _ h => h) ?_
 refine rret (is := []) () (Or.inl rfl) (Res.t rfl Res.d) ?_ rfl (by repeat' (first | constructor | apply Sub.suf))
 simp only [packV, bf, beg_all]

set_option maxRecDepth 100000 in
theorem c_rCommon (l m : List ByteArray) (A B : Option Addr) (c c' : Nat) (hl : l.length ≤ 1000000) (hm : m.length ≤ 1000000) : Con Tryd.prog 11 [.slice A l.length c, .slice B m.length c'] [] [slA A l, slA B m] {x : List (Nat × Nat) × (Option Addr × Nat) // (longB l m = true → x.1 = []) ∧ (longB l m = false → Comm l m x.1)} (fun x => .slice x.1.2.1 x.1.1.length x.1.2.2) (fun x => [row 32 x.1.2.1 x.1.2.2 x.1.1]) (fun _ => []) := by
 refine con Tryd.func11 rfl Tryd.ntmps11 rfl ?_
 intro M0 F0 w0
 refine cs ?_
 refine cr ?_
 refine ls (op (p_asg rfl) rfl) ?_
 refine ln ?_
 refine nthen ?_
 refine cs ?_
 refine cs ?_
 refine cr ?_
 refine ls (op (p_move rfl) rfl) ?_
 refine ls (op (p_lenl rfl Tryd.underlying22) rfl) ?_
 refine ls (op (p_icmp rfl rfl rfl) rfl) ?_
 refine ls (op (p_move rfl) rfl) ?_
 refine orX 4 15 19 rfl (subσ.cons (t := 0) rfl (subσ.cons (t := 1) rfl (subσ.cons (t := 4) rfl (subσ.nil _)))) ?_ ?_
 ·
  intro h15
  refine lskip rfl rfl rfl rfl rfl ?_
  refine lskip rfl rfl rfl rfl rfl ?_
  refine lskip rfl rfl rfl rfl rfl ?_
  refine ls (op (p_pickt rfl rfl) rfl) ?_
  refine ln (nmid (wk0 (by repeat (first | exact subσ.nil _ | refine subσ.cons rfl ?_)) (by repeat' (first | constructor | apply Sub.suf))))
 apply exI
 ·
  intro h15
  refine lwant rfl rfl rfl rfl (op (p_move rfl) rfl) ?_
  refine lwant rfl rfl rfl rfl (op (p_lenl rfl Tryd.underlying22) rfl) ?_
  refine lwant rfl rfl rfl rfl (op (p_icmp rfl rfl rfl) rfl) ?_
  refine ls (op (p_pickf rfl rfl) rfl) ?_
  refine ln (nmid (wk0 (by repeat (first | exact subσ.nil _ | refine subσ.cons rfl ?_)) (by repeat' (first | constructor | apply Sub.suf))))
 ·
  refine ln ?_
  refine nthen ?_
  refine cc rfl ?_ ?_
  ·
   intro h19
   have hlo : longB l m = true := h19
   refine cs ?_
   refine cmono (fun a w h => nilRow (α := Nat × Nat) 32 h) ?_
   refine cr ?_
   refine ls (op (p_asg rfl) rfl) ?_
   refine ln ?_
   refine nthen ?_
   refine cret ?_
   refine xret (fun _ _ h => h) ?_
   refine rret (is := [0]) ⟨([], (none, 0)), fun _ => rfl, fun h => by rw [hlo] at h; cases h⟩ (Or.inl rfl) (Res.t rfl Res.d) (rfl) rfl (by repeat' (first | constructor | apply Sub.suf))
  ·
   intro h19
   have hlo : longB l m = false := h19
   obtain ⟨hl2, hm2⟩ := longB_no hlo
   refine cskip ?_
   refine nthen ?_
   refine cs ?_
   refine cr ?_
   refine ls (op (p_move rfl) rfl) ?_
   refine ls (o_call (is := []) Tryd.call29 (c_rTurned l A c hl) rfl rfl (by repeat' (first | constructor | apply Sub.suf)) rfl) ?_
   refine le ?_; rintro ⟨A21, c21⟩
   refine ls (op (p_move rfl) rfl) ?_
   refine ls (o_call (is := []) Tryd.call29 (c_rTurned m B c' hm) rfl rfl (by repeat' (first | constructor | apply Sub.suf)) rfl) ?_
   refine le ?_; rintro ⟨A23, c23⟩
   refine ls (o_call (is := []) Tryd.call28 (c_rMost l.reverse m.reverse A21 A23 c21 c23 (by rw [List.length_reverse]; exact hl2) (by rw [List.length_reverse]; exact hm2)) rfl rfl (by repeat' (first | constructor | apply Sub.suf)) rfl) ?_
   refine le ?_; rintro ⟨A24, c24⟩
   refine ls (op (p_asg rfl) rfl) ?_
   refine ln ?_
   refine nthen ?_
   refine cs ?_
   refine elC (A := A24) (l := mkT (l.reverse.length + 1) (m.reverse.length + 1) (bf l.reverse m.reverse)) (by repeat' constructor) (l.length) (mkT_row (by rw [List.length_reverse]; omega)) ?_; rintro zbt zot zyt hAt
   refine elC (A := zyt.1) (l := (List.range (m.reverse.length + 1)).map (bf l.reverse m.reverse (l.length))) (by repeat' constructor) (m.length) (mkR_at (by rw [List.length_reverse]; omega)) ?_; rintro zbu zou zyu hAu
   refine cr ?_
   refine ls (op (p_move rfl) rfl) ?_
   refine ls (op (p_move rfl) rfl) ?_
   refine ls (op (p_lenl rfl Tryd.underlying22) rfl) ?_
   refine ls (op (p_ia l.length hAt (by rw [List.length_reverse]; omega) rfl Tryd.underlying59 Tryd.sizeOf61 rfl rfl) rfl) ?_
   refine ls (o_ldi Tryd.isAgg61 rfl (by repeat' constructor) 0 rfl (by repeat (first | exact Cut.d | apply Cut.t | apply Cut.s)) rfl) ?_
   refine ls (op (p_move rfl) rfl) ?_
   refine ls (op (p_lenl rfl Tryd.underlying22) rfl) ?_
   refine ls (op (p_ia m.length hAu (by rw [mkR_length, List.length_reverse]; omega) rfl Tryd.underlying61 Tryd.sizeOf3 rfl rfl) rfl) ?_
   refine ls (o_ldi Tryd.isAgg3 rfl (by repeat' constructor) 0 rfl (by repeat (first | exact Cut.d | apply Cut.t | apply Cut.s)) rfl) ?_
   refine fixL (v' := .int .i64 ((cmn l m 0 0 : Nat) : Int)) (by rw [bf_00]) ?_
   refine ls (op (p_asg rfl) rfl) ?_
   refine ln ?_
   refine nthen ?_
   refine cs ?_
   refine cmono (fun a w h => nilRow (α := Nat × Nat) 32 h) ?_
   refine cr ?_
   refine ls (op (p_asg rfl) rfl) ?_
   refine ln ?_
   refine nthen ?_
   refine cs ?_
   refine cr ?_
   refine ls (op (p_asg rfl) rfl) ?_
   refine ln ?_
   refine nthen ?_
   refine cs ?_
   refine cr ?_
   refine ls (op (p_asg rfl) rfl) ?_
   refine ln ?_
   refine nthen ?_
   refine cs ?_
   refine cb ?_
   refine cl (ι := {q : List (Nat × Nat) × (Nat × Nat) × (Option Addr × Nat) // Chain l m q.1 q.2.1.1 q.2.1.2}) (fun i => St M0 F0 w0 89 [(0, .slice A l.length c), (1, .slice B m.length c'), (5, .slice A24 (l.reverse.length + 1) c24), (6, .int .i64 ((cmn l m (i.1.2.1.1) (i.1.2.1.2) : Nat) : Int)), (7, .slice i.1.2.2.1 (i.1.1).length i.1.2.2.2), (8, .int .i64 ((i.1.2.1.1 : Nat) : Int)), (9, .int .i64 ((i.1.2.1.2 : Nat) : Int))] [row 32 (i.1.2.2.1) (i.1.2.2.2) i.1.1] [slA A l, slA B m, slA A24 (mkT (l.reverse.length + 1) (m.reverse.length + 1) (bf l.reverse m.reverse))]) (fun i => cmn l m (i.1.2.1.1) (i.1.2.1.2)) ⟨([], (0, 0), (none, 0)), Chain.nil⟩ (wk0 (by repeat (first | exact subσ.nil _ | refine subσ.cons rfl ?_)) (by repeat' (first | constructor | apply Sub.suf))) ?_
   rintro ⟨⟨o, ⟨u, k⟩, ⟨A6, c6⟩⟩, hch⟩
   refine cmono (S' := St M0 F0 w0 89 [(0, .slice A l.length c), (1, .slice B m.length c'), (5, .slice A24 (l.reverse.length + 1) c24), (6, .int .i64 ((cmn l m (u) (k) : Nat) : Int)), (7, .slice A6 (o).length c6), (8, .int .i64 ((u : Nat) : Int)), (9, .int .i64 ((k : Nat) : Int))] [row 32 (A6) (c6) o] [slA A l, slA B m, slA A24 (mkT (l.reverse.length + 1) (m.reverse.length + 1) (bf l.reverse m.reverse))]) (fun _ _ h => h) ?_
   refine cs ?_
   refine cs ?_
   refine cr ?_
   refine ls (op (p_move rfl) rfl) ?_
   refine ls (op (p_icmp rfl rfl rfl) rfl) ?_
   refine ln ?_
   refine nthen ?_
   refine cc rfl ?_ ?_
   ·
    intro h35
    dsimp only at hch
    have hpos : 0 < cmn l m u k := by have h := h35; simp at h; omega
    have hkm : k < m.length := by rcases Nat.lt_or_ge k m.length with h | h; exact h; rw [cmn_end (.inr h)] at hpos; omega
    refine cskip ?_
    refine nthen ?_
    refine cb ?_
    refine cs ?_
    refine cr ?_
    refine ls (op (p_move rfl) rfl) ?_
    refine ls (op (p_asg rfl) rfl) ?_
    refine ln ?_
    refine nthen ?_
    refine cs ?_
    refine cr ?_
    refine ls (op (p_move rfl) rfl) ?_
    refine ls (op (p_asg rfl) rfl) ?_
    refine ln ?_
    refine nthen ?_
    refine cs ?_
    refine cb ?_
    refine cl (ι := {q : Nat × Nat // u ≤ q.1 ∧ k ≤ q.2 ∧ q.2 < m.length ∧ NoneB l m u k q.1 q.2}) (fun i => St M0 F0 w0 89 [(0, .slice A l.length c), (1, .slice B m.length c'), (5, .slice A24 (l.reverse.length + 1) c24), (6, .int .i64 ((cmn l m (u) (k) : Nat) : Int)), (7, .slice A6 (o).length c6), (8, .int .i64 ((u : Nat) : Int)), (9, .int .i64 ((k : Nat) : Int)), (10, .int .i64 ((i.1.1 : Nat) : Int)), (11, .int .i64 ((i.1.2 : Nat) : Int))] [row 32 A6 c6 o] [slA A l, slA B m, slA A24 (mkT (l.reverse.length + 1) (m.reverse.length + 1) (bf l.reverse m.reverse))]) (fun i => ms l m (i.1.1) (i.1.2)) ⟨(u, k), Nat.le_refl _, Nat.le_refl _, hkm, noneB_0 l m u k⟩ (wk0 (by repeat (first | exact subσ.nil _ | refine subσ.cons rfl ?_)) (by repeat' (first | constructor | apply Sub.suf))) ?_
    rintro ⟨⟨x, y⟩, hix, hky, hym, hn⟩
    refine cmono (S' := St M0 F0 w0 89 [(0, .slice A l.length c), (1, .slice B m.length c'), (5, .slice A24 (l.reverse.length + 1) c24), (6, .int .i64 ((cmn l m (u) (k) : Nat) : Int)), (7, .slice A6 (o).length c6), (8, .int .i64 ((u : Nat) : Int)), (9, .int .i64 ((k : Nat) : Int)), (10, .int .i64 ((x : Nat) : Int)), (11, .int .i64 ((y : Nat) : Int))] [row 32 A6 c6 o] [slA A l, slA B m, slA A24 (mkT (l.reverse.length + 1) (m.reverse.length + 1) (bf l.reverse m.reverse))]) (fun _ _ h => h) ?_
    refine cs ?_
    refine cs ?_
    dsimp only at hix hky hym hn
    have hx1 : x < l.length := noneB_lt hn hpos
    rcases Classical.em (l[x] = m[y]) with heq | heq
    ·
     refine elC (A := A) (l := l) (by repeat' constructor) x (List.getElem?_eq_getElem (l := l) hx1) ?_; rintro zba zoa zya hAa
     refine elC (A := B) (l := m) (by repeat' constructor) y (List.getElem?_eq_getElem (l := m) hym) ?_; rintro zbb zob zyb hAb
     refine elC (A := A24) (l := mkT (l.reverse.length + 1) (m.reverse.length + 1) (bf l.reverse m.reverse)) (by repeat' constructor) (l.length - x - 1) (mkT_row (by rw [List.length_reverse]; omega)) ?_; rintro zbt2 zot2 zyt2 hAt2
     refine elC (A := zyt2.1) (l := (List.range (m.reverse.length + 1)).map (bf l.reverse m.reverse (l.length - x - 1))) (by repeat' constructor) (m.length - y - 1) (mkR_at (by rw [List.length_reverse]; omega)) ?_; rintro zbu2 zou2 zyu2 hAu2
     refine cdB [] [(3, zba, zoa + x * Rp.size ByteArray, _), (7, zbb, zob + y * Rp.size ByteArray, _), (17, zbt2, zot2 + (l.length - x - 1) * Rp.size (List Int), _), (24, zbu2, zou2 + (m.length - y - 1) * Rp.size Int, _)] TrydX.mixed (by kernel_rfl) (by kernel_rfl) (TOk.t (isInS (by repeat' constructor) (k := 0) rfl (z := 1) (by repeat (first | exact Cut.d | apply Cut.t | apply Cut.s))) (TOk.t (isInS (by repeat' constructor) (k := 0) rfl (z := 1) (by repeat (first | exact Cut.d | apply Cut.t | apply Cut.s))) (TOk.t (isInS (by repeat' constructor) (k := 0) rfl (z := 1) (by repeat (first | exact Cut.d | apply Cut.t | apply Cut.s))) (TOk.t (isInS (by repeat' constructor) (k := 0) rfl (z := 1) (by repeat (first | exact Cut.d | apply Cut.t | apply Cut.s))) TOk.d)))) ?_
     refine tkB 0 rfl (by kernel_rfl) (fun _ _ _ h => h) gnone (TTany _) (p_move rfl) rfl ?_
     refine tkB 1 rfl (by kernel_rfl) (fun _ _ _ h => h) gnone (TTany _) (p_move rfl) rfl ?_
     refine tkB 2 rfl (by kernel_rfl) (fun _ _ _ h => h) gnone (TTany _) (p_ia x hAa hx1 rfl Tryd.underlying22 Tryd.sizeOf9 rfl rfl) rfl ?_
     refine tkB 3 rfl (by kernel_rfl) (fun _ _ _ h => h) gnone (TTat (List.Mem.head _)) (p_ld Tryd.isAgg9 rfl) rfl ?_
     refine tkB 4 rfl (by kernel_rfl) (fun _ _ _ h => h) gnone (TTany _) (p_move rfl) rfl ?_
     refine tkB 5 rfl (by kernel_rfl) (fun _ _ _ h => h) gnone (TTany _) (p_move rfl) rfl ?_
     refine tkB 6 rfl (by kernel_rfl) (fun _ _ _ h => h) gnone (TTany _) (p_ia y hAb hym rfl Tryd.underlying22 Tryd.sizeOf9 rfl rfl) rfl ?_
     refine tkB 7 rfl (by kernel_rfl) (fun _ _ _ h => h) gnone (TTat (List.Mem.tail _ (List.Mem.head _))) (p_ld Tryd.isAgg9 rfl) rfl ?_
     refine tkB 8 rfl (by kernel_rfl) (fun _ _ _ h => h) gnone (TTany _) (p_sne rfl rfl) rfl ?_
     refine tkB 9 rfl (by kernel_rfl) (fun _ _ _ h => h) gnone (TTany _) (p_move rfl) rfl ?_
     refine fixB (v' := .bool false) (by rw [decide_eq_true heq]; rfl) ?_
     refine tkB 10 rfl (by kernel_rfl) (fun _ _ _ h => h) (gyes rfl rfl rfl rfl) (TTany _) (p_move rfl) rfl ?_
     refine tkB 11 rfl (by kernel_rfl) (fun _ _ _ h => h) (gyes rfl rfl rfl rfl) (TTany _) (p_move rfl) rfl ?_
     refine tkB 12 rfl (by kernel_rfl) (fun _ _ _ h => h) (gyes rfl rfl rfl rfl) (TTany _) (p_lenl rfl Tryd.underlying22) rfl ?_
     refine tkB 13 rfl (by kernel_rfl) (fun _ _ _ h => h) (gyes rfl rfl rfl rfl) (TTany _) (p_move rfl) rfl ?_
     refine tkB 14 rfl (by kernel_rfl) (fun _ _ _ h => h) (gyes rfl rfl rfl rfl) (TTany _) (p_sub rfl rfl (by omega)) rfl ?_
     refine tkB 15 rfl (by kernel_rfl) (fun _ _ _ h => h) (gyes rfl rfl rfl rfl) (TTany _) (p_sub rfl rfl (by omega)) rfl ?_
     refine tkB 16 rfl (by kernel_rfl) (fun _ _ _ h => h) (gyes rfl rfl rfl rfl) (TTany _) (p_ia (l.length - x - 1) hAt2 (by rw [List.length_reverse]; omega) (by omega) Tryd.underlying59 Tryd.sizeOf61 rfl rfl) rfl ?_
     refine tkB 17 rfl (by kernel_rfl) (fun _ _ _ h => h) (gyes rfl rfl rfl rfl) (TTat (List.Mem.tail _ (List.Mem.tail _ (List.Mem.head _)))) (p_ld Tryd.isAgg61 rfl) rfl ?_
     refine tkB 18 rfl (by kernel_rfl) (fun _ _ _ h => h) (gyes rfl rfl rfl rfl) (TTany _) (p_move rfl) rfl ?_
     refine tkB 19 rfl (by kernel_rfl) (fun _ _ _ h => h) (gyes rfl rfl rfl rfl) (TTany _) (p_lenl rfl Tryd.underlying22) rfl ?_
     refine tkB 20 rfl (by kernel_rfl) (fun _ _ _ h => h) (gyes rfl rfl rfl rfl) (TTany _) (p_move rfl) rfl ?_
     refine tkB 21 rfl (by kernel_rfl) (fun _ _ _ h => h) (gyes rfl rfl rfl rfl) (TTany _) (p_sub rfl rfl (by omega)) rfl ?_
     refine tkB 22 rfl (by kernel_rfl) (fun _ _ _ h => h) (gyes rfl rfl rfl rfl) (TTany _) (p_sub rfl rfl (by omega)) rfl ?_
     refine tkB 23 rfl (by kernel_rfl) (fun _ _ _ h => h) (gyes rfl rfl rfl rfl) (TTany _) (p_ia (m.length - y - 1) hAu2 (by rw [mkR_length, List.length_reverse]; omega) (by omega) Tryd.underlying61 Tryd.sizeOf3 rfl rfl) rfl ?_
     refine tkB 24 rfl (by kernel_rfl) (fun _ _ _ h => h) (gyes rfl rfl rfl rfl) (TTat (List.Mem.tail _ (List.Mem.tail _ (List.Mem.tail _ (List.Mem.head _))))) (p_ld Tryd.isAgg3 rfl) rfl ?_
     refine tkB 25 rfl (by kernel_rfl) (fun _ _ _ h => h) (gyes rfl rfl rfl rfl) (TTany _) (p_add rfl rfl (by rw [bf_xy hx1 hym]; have := cmn_le (a := l) (b := m) (i := x + 1) (k := y + 1); omega)) rfl ?_
     refine tkB 26 rfl (by kernel_rfl) (fun _ _ _ h => h) (gyes rfl rfl rfl rfl) (TTany _) (p_move rfl) rfl ?_
     refine tkB 27 rfl (by kernel_rfl) (fun _ _ _ h => h) (gyes rfl rfl rfl rfl) (TTany _) (p_icmp rfl rfl rfl) rfl ?_
     refine tkB 28 rfl (by kernel_rfl) (fun _ _ _ h => h) gnone (TTany _) (p_pickf rfl rfl) rfl ?_
     refine dnB (by kernel_rfl) ?_
     refine nthen ?_
     refine cc rfl ?_ ?_
     ·
      intro h66
      have hc : ¬ Cand l m u k x y := fun c => by have h := h66; rw [bf_xy hx1 hym] at h; have h2 := next_cmn c; simp at h; omega
      refine cskip ?_
      refine nthen ?_
      refine cb ?_
      refine cs ?_
      refine cr ?_
      refine ls (op (p_move rfl) rfl) ?_
      refine ls (op (p_add rfl rfl (by omega)) rfl) ?_
      refine ls (op (p_asg rfl) rfl) ?_
      refine ln ?_
      refine nthen ?_
      refine cs ?_
      refine cr ?_
      refine ls (op (p_move rfl) rfl) ?_
      refine ls (op (p_move rfl) rfl) ?_
      refine ls (op (p_lenl rfl Tryd.underlying22) rfl) ?_
      refine ls (op (p_icmp rfl rfl rfl) rfl) ?_
      refine ln ?_
      refine nthen ?_
      refine cc rfl ?_ ?_
      ·
       intro h72
       have hye : y + 1 = m.length := by have h := h72; simp at h; omega
       refine cs ?_
       refine cr ?_
       refine ls (op (p_move rfl) rfl) ?_
       refine ls (op (p_asg rfl) rfl) ?_
       refine ln ?_
       refine nthen ?_
       refine cr ?_
       refine ls (op (p_move rfl) rfl) ?_
       refine ls (op (p_add rfl rfl (by omega)) rfl) ?_
       refine ls (op (p_asg rfl) rfl) ?_
       refine ln ?_
       refine nblock ?_
       refine nnext ⟨(x + 1, k), by dsimp only; omega, Nat.le_refl _, by dsimp only; omega, noneB_x (noneB_y hn hc) (by omega)⟩ (by dsimp only; exact ms_x hx1 (by omega)) (wk0 (by repeat (first | exact subσ.nil _ | refine subσ.cons rfl ?_)) (by repeat' (first | constructor | apply Sub.suf)))
      ·
       intro h72
       have hye : ¬ y + 1 = m.length := by have h := h72; simp at h; omega
       refine cskip ?_
       refine nblock ?_
       refine nnext ⟨(x, y + 1), hix, by dsimp only; omega, by dsimp only; omega, noneB_y hn hc⟩ (by dsimp only; exact ms_y hym) (wk0 (by repeat (first | exact subσ.nil _ | refine subσ.cons rfl ?_)) (by repeat' (first | constructor | apply Sub.suf)))
     ·
      intro h66
      have hc : Cand l m u k x y := ⟨hix, hky, hx1, hym, heq, by have h := h66; rw [bf_xy hx1 hym] at h; simp at h; rw [cmn_eq hx1 hym heq]; omega⟩
      have hlen := hch.len
      refine cexit ?_
      refine xthen ?_
      refine xthen ?_
      refine xblock ?_
      refine nthen ?_
      refine cs ?_
      refine cr ?_
      refine ls (op (p_move rfl) rfl) ?_
      refine ls (op (p_move rfl) rfl) ?_
      refine ls (op (p_move rfl) rfl) ?_
      refine ls (op (p_bld sb32 rfl (Fill.t (by repeat' constructor) rfl rfl (by repeat' constructor) (Fill.t (by repeat' constructor) rfl rfl (by repeat' constructor) Fill.d))) rfl) ?_
      refine ls (o_bsl [(x, y)] Tryd.underlying27 Tryd.sizeOf32 Tryd.zeroValue32 rfl (Enum.t Enum.d) (RV.t () rfl (by repeat' (first | constructor | apply Sub.suf)) RV.d) rfl (by decide) (by decide) rfl) ?_
      refine le ?_; intro b80
      refine lmono (fun a w h => Go.Sx.freeze (i := 0) rfl h) ?_
      refine ls (o_app (is := [0]) Tryd.underlying27 inf32 rfl (by decide) (by decide) rfl rfl (by simp only [List.length_cons, List.length_nil]; have := lcs_lenl l m; omega) (fun h => by cases h) rfl (by repeat' (first | constructor | apply Sub.suf)) rfl) ?_
      refine le ?_; rintro ⟨A81, c81⟩
      refine ls (op (p_asg rfl) rfl) ?_
      refine ln ?_
      refine nthen ?_
      refine cs ?_
      refine cr ?_
      refine ls (op (p_move rfl) rfl) ?_
      refine ls (op (p_add rfl rfl (by omega)) rfl) ?_
      refine ls (op (p_asg rfl) rfl) ?_
      refine ln ?_
      refine nthen ?_
      refine cs ?_
      refine cr ?_
      refine ls (op (p_move rfl) rfl) ?_
      refine ls (op (p_add rfl rfl (by omega)) rfl) ?_
      refine ls (op (p_asg rfl) rfl) ?_
      refine ln ?_
      refine nthen ?_
      refine cr ?_
      refine ls (op (p_move rfl) rfl) ?_
      refine ls (op (p_sub rfl rfl (by have := cmn_le (a := l) (b := m) (i := u) (k := k); omega)) rfl) ?_
      refine fixL (v' := .int .i64 ((cmn l m (x + 1) (y + 1) : Nat) : Int)) (by have := next_cmn hc; congr 1; omega) ?_
      refine ls (op (p_asg rfl) rfl) ?_
      refine ln ?_
      refine nblock ?_
      refine nnext ⟨(o ++ [(x, y)], (x + 1, y + 1), (A81, c81)), hch.snoc hpos ⟨hc, hn⟩⟩ (by have := next_cmn hc; dsimp only; omega) (wk0 (by repeat (first | exact subσ.nil _ | refine subσ.cons rfl ?_)) (by repeat' (first | constructor | apply Sub.suf)))
    ·
     refine elC (A := A) (l := l) (by repeat' constructor) x (List.getElem?_eq_getElem (l := l) hx1) ?_; rintro zba zoa zya hAa
     refine elC (A := B) (l := m) (by repeat' constructor) y (List.getElem?_eq_getElem (l := m) hym) ?_; rintro zbb zob zyb hAb
     refine cdB [] [(3, zba, zoa + x * Rp.size ByteArray, _), (7, zbb, zob + y * Rp.size ByteArray, _)] TrydX.mixed (by kernel_rfl) (by kernel_rfl) (TOk.t (isInS (by repeat' constructor) (k := 0) rfl (z := 1) (by repeat (first | exact Cut.d | apply Cut.t | apply Cut.s))) (TOk.t (isInS (by repeat' constructor) (k := 0) rfl (z := 1) (by repeat (first | exact Cut.d | apply Cut.t | apply Cut.s))) TOk.d)) ?_
     refine tkB 0 rfl (by kernel_rfl) (fun _ _ _ h => h) gnone (TTany _) (p_move rfl) rfl ?_
     refine tkB 1 rfl (by kernel_rfl) (fun _ _ _ h => h) gnone (TTany _) (p_move rfl) rfl ?_
     refine tkB 2 rfl (by kernel_rfl) (fun _ _ _ h => h) gnone (TTany _) (p_ia x hAa hx1 rfl Tryd.underlying22 Tryd.sizeOf9 rfl rfl) rfl ?_
     refine tkB 3 rfl (by kernel_rfl) (fun _ _ _ h => h) gnone (TTat (List.Mem.head _)) (p_ld Tryd.isAgg9 rfl) rfl ?_
     refine tkB 4 rfl (by kernel_rfl) (fun _ _ _ h => h) gnone (TTany _) (p_move rfl) rfl ?_
     refine tkB 5 rfl (by kernel_rfl) (fun _ _ _ h => h) gnone (TTany _) (p_move rfl) rfl ?_
     refine tkB 6 rfl (by kernel_rfl) (fun _ _ _ h => h) gnone (TTany _) (p_ia y hAb hym rfl Tryd.underlying22 Tryd.sizeOf9 rfl rfl) rfl ?_
     refine tkB 7 rfl (by kernel_rfl) (fun _ _ _ h => h) gnone (TTat (List.Mem.tail _ (List.Mem.head _))) (p_ld Tryd.isAgg9 rfl) rfl ?_
     refine tkB 8 rfl (by kernel_rfl) (fun _ _ _ h => h) gnone (TTany _) (p_sne rfl rfl) rfl ?_
     refine tkB 9 rfl (by kernel_rfl) (fun _ _ _ h => h) gnone (TTany _) (p_move rfl) rfl ?_
     refine fixB (v' := .bool true) (by rw [decide_eq_false heq]; rfl) ?_
     refine tksB 10 rfl (by kernel_rfl) (fun _ _ _ h => h) rfl rfl rfl rfl rfl ?_
     refine tksB 11 rfl (by kernel_rfl) (fun _ _ _ h => h) rfl rfl rfl rfl rfl ?_
     refine tksB 12 rfl (by kernel_rfl) (fun _ _ _ h => h) rfl rfl rfl rfl rfl ?_
     refine tksB 13 rfl (by kernel_rfl) (fun _ _ _ h => h) rfl rfl rfl rfl rfl ?_
     refine tksB 14 rfl (by kernel_rfl) (fun _ _ _ h => h) rfl rfl rfl rfl rfl ?_
     refine tksB 15 rfl (by kernel_rfl) (fun _ _ _ h => h) rfl rfl rfl rfl rfl ?_
     refine tksB 16 rfl (by kernel_rfl) (fun _ _ _ h => h) rfl rfl rfl rfl rfl ?_
     refine tksB 17 rfl (by kernel_rfl) (fun _ _ _ h => h) rfl rfl rfl rfl rfl ?_
     refine tksB 18 rfl (by kernel_rfl) (fun _ _ _ h => h) rfl rfl rfl rfl rfl ?_
     refine tksB 19 rfl (by kernel_rfl) (fun _ _ _ h => h) rfl rfl rfl rfl rfl ?_
     refine tksB 20 rfl (by kernel_rfl) (fun _ _ _ h => h) rfl rfl rfl rfl rfl ?_
     refine tksB 21 rfl (by kernel_rfl) (fun _ _ _ h => h) rfl rfl rfl rfl rfl ?_
     refine tksB 22 rfl (by kernel_rfl) (fun _ _ _ h => h) rfl rfl rfl rfl rfl ?_
     refine tksB 23 rfl (by kernel_rfl) (fun _ _ _ h => h) rfl rfl rfl rfl rfl ?_
     refine tksB 24 rfl (by kernel_rfl) (fun _ _ _ h => h) rfl rfl rfl rfl rfl ?_
     refine tksB 25 rfl (by kernel_rfl) (fun _ _ _ h => h) rfl rfl rfl rfl rfl ?_
     refine tksB 26 rfl (by kernel_rfl) (fun _ _ _ h => h) rfl rfl rfl rfl rfl ?_
     refine tksB 27 rfl (by kernel_rfl) (fun _ _ _ h => h) rfl rfl rfl rfl rfl ?_
     refine tkB 28 rfl (by kernel_rfl) (fun _ _ _ h => h) gnone (TTany _) (p_pickt rfl rfl) rfl ?_
     refine dnB (by kernel_rfl) ?_
     refine nthen ?_
     have hc : ¬ Cand l m u k x y := fun c => heq c.eq
     refine cc rfl (fun h => ?_) (fun h => by cases h)
     refine cskip ?_
     refine nthen ?_
     refine cb ?_
     refine cs ?_
     refine cr ?_
     refine ls (op (p_move rfl) rfl) ?_
     refine ls (op (p_add rfl rfl (by omega)) rfl) ?_
     refine ls (op (p_asg rfl) rfl) ?_
     refine ln ?_
     refine nthen ?_
     refine cs ?_
     refine cr ?_
     refine ls (op (p_move rfl) rfl) ?_
     refine ls (op (p_move rfl) rfl) ?_
     refine ls (op (p_lenl rfl Tryd.underlying22) rfl) ?_
     refine ls (op (p_icmp rfl rfl rfl) rfl) ?_
     refine ln ?_
     refine nthen ?_
     refine cc rfl ?_ ?_
     ·
      intro h72
      have hye : y + 1 = m.length := by have h := h72; simp at h; omega
      refine cs ?_
      refine cr ?_
      refine ls (op (p_move rfl) rfl) ?_
      refine ls (op (p_asg rfl) rfl) ?_
      refine ln ?_
      refine nthen ?_
      refine cr ?_
      refine ls (op (p_move rfl) rfl) ?_
      refine ls (op (p_add rfl rfl (by omega)) rfl) ?_
      refine ls (op (p_asg rfl) rfl) ?_
      refine ln ?_
      refine nblock ?_
      refine nnext ⟨(x + 1, k), by dsimp only; omega, Nat.le_refl _, by dsimp only; omega, noneB_x (noneB_y hn hc) (by omega)⟩ (by dsimp only; exact ms_x hx1 (by omega)) (wk0 (by repeat (first | exact subσ.nil _ | refine subσ.cons rfl ?_)) (by repeat' (first | constructor | apply Sub.suf)))
     ·
      intro h72
      have hye : ¬ y + 1 = m.length := by have h := h72; simp at h; omega
      refine cskip ?_
      refine nblock ?_
      refine nnext ⟨(x, y + 1), hix, by dsimp only; omega, by dsimp only; omega, noneB_y hn hc⟩ (by dsimp only; exact ms_y hym) (wk0 (by repeat (first | exact subσ.nil _ | refine subσ.cons rfl ?_)) (by repeat' (first | constructor | apply Sub.suf)))
   ·
    intro h35
    dsimp only at hch
    have hzero : cmn l m u k = 0 := by have h := h35; simp at h; omega
    refine cexit ?_
    refine xthen ?_
    refine xthen ?_
    refine xblock ?_
    refine nthen ?_
    refine cs ?_
    refine cr ?_
    refine ls (op (p_move rfl) rfl) ?_
    refine ls (op (p_asg rfl) rfl) ?_
    refine ln ?_
    refine nthen ?_
    refine cret ?_
    refine xret (fun _ _ h => h) ?_
    refine rret (is := [0]) ⟨(o, (A6, c6)), (fun h => by rw [hlo] at h; cases h), fun _ => ⟨u, k, hch, hzero⟩⟩ (Or.inl rfl) (Res.t rfl Res.d) (rfl) rfl (by repeat' (first | constructor | apply Sub.suf))

end Go.Proofs.YtdbiillompeclaaDoor.X

end
section
set_option linter.unusedVariables false
set_option linter.unusedSimpArgs false
namespace Go.Proofs.YtdbiillompeclaaDoor.X
open Go Go.RowKit Go.Proofs Go.Sx
attribute [local irreducible] slA isA box row

def pre (l : List Prim) (k : Nat) : Nat := ((l.take k).map Prim.many).sum
theorem pre_succ {l : List Prim} {k : Nat} (h : k < l.length) : pre l (k + 1) = pre l k + l[k].many := by
 unfold pre
 rw [List.take_succ_eq_append_getElem h, List.map_append, List.sum_append]
 simp only [List.map_cons, List.map_nil, List.sum_cons, List.sum_nil, Nat.add_zero]
theorem pre_all (l : List Prim) : l.length + pre l l.length = many l := by
 unfold pre many
 rw [List.take_length]
theorem sum_take (l : List Nat) (k : Nat) : (l.take k).sum ≤ l.sum := by
 have h := congrArg List.sum (List.take_append_drop k l)
 rw [List.sum_append] at h
 omega
theorem pre_le (l : List Prim) (k : Nat) : l.length + pre l k ≤ many l := by
 unfold pre many
 have := sum_take (l.map Prim.many) k
 rw [← List.map_take] at this
 omega
theorem sizes_succ {l : List ByteArray} {k : Nat} (h : k < l.length) : sizes (l.take (k + 1)) = sizes (l.take k) + l[k].size := by
 unfold sizes
 rw [List.take_succ_eq_append_getElem h, List.map_append, List.sum_append]
 simp only [List.map_cons, List.map_nil, List.sum_cons, List.sum_nil, Nat.add_zero]
theorem sizes_le (l : List ByteArray) (k : Nat) : sizes (l.take k) ≤ sizes l := by
 unfold sizes
 have := sum_take (l.map ByteArray.size) k
 rw [← List.map_take] at this
 exact this



end Go.Proofs.YtdbiillompeclaaDoor.X

end
section
set_option linter.unusedVariables false
set_option linter.unusedSimpArgs false
namespace Go.Proofs.YtdbiillompeclaaDoor.X
open Go Go.RowKit Go.Proofs Go.Sx
attribute [local irreducible] slA isA box row

def Tfit (T : List File) : Prop := ∀ x ∈ T, x.2.length ≤ 2000000
theorem Tfit.get {T : List File} (h : Tfit T) (k : ByteArray) : (getL T k).length ≤ 2000000 := by
 unfold getL getT
 cases e : T.find? (fun x => decide (x.1 = k)) with
 | none => simp
 | some x => simpa using h x (List.mem_of_find?_eq_some e)

theorem fa75_0 : FA Tryd.prog 75 0 0 := fun b o w => by kernel_rfl
theorem sb75 : SB Tryd.prog 75 [(0, 1)] [.map none] := SB.struct Tryd.zeroValue75 rfl Tryd.underlying75 (fun w => by kernel_rfl)
set_option maxRecDepth 100000 in
theorem c_sCloneR (l : List ByteArray) (A : Option Addr) (c : Nat) (hl : l.length ≤ 2000000) : Con Tryd.prog 43 [.slice A l.length c] [] [slA A l] (Option Addr × Nat) (fun y => .slice y.1 l.length y.2) (fun y => [row 9 y.1 y.2 l]) (fun _ => []) := by
 refine con Tryd.func43 rfl Tryd.ntmps43 rfl ?_
 intro M0 F0 w0
 refine cs ?_
 refine cr ?_
 refine ls (op (p_asg rfl) rfl) ?_
 refine ln ?_
 refine nthen ?_
 refine cs ?_
 refine cs ?_
 refine cr ?_
 refine ls (op (p_move rfl) rfl) ?_
 refine ls (op (p_slnil Tryd.underlying22 rfl rfl) rfl) ?_
 refine ln ?_
 refine nthen ?_
 refine cc rfl ?_ ?_
 ·
  intro h4
  have h5 : A = none := by simpa using h4
  refine cs ?_
  subst h5
  refine cmono (fun a w h => nil_len (l := l) (i := 0) At.z h) ?_
  refine cf ?_; rintro rfl
  refine cmono (fun a w h => nilRow (α := ByteArray) 9 h) ?_
  refine cr ?_
  refine ls (op (p_asg rfl) rfl) ?_
  refine ln ?_
  refine nthen ?_
  refine cret ?_
  refine xret (fun _ _ h => h) ?_
  refine rret (is := [0]) (none, 0) (Or.inl rfl) (Res.t rfl Res.d) (rfl) rfl (by repeat' (first | constructor | apply Sub.suf))
 ·
  intro h4
  have h5 : ¬ A = none := by intro e; rw [e] at h4; cases h4
  refine cskip ?_
  refine nthen ?_
  refine cs ?_
  refine cr ?_
  refine ls (o_bsl ([] : List ByteArray) Tryd.underlying22 Tryd.sizeOf9 Tryd.zeroValue9 rfl Enum.d RV.d rfl (by decide) (by decide) rfl) ?_
  refine le ?_; intro b5
  refine ls (op (p_move rfl) rfl) ?_
  refine ls (o_app (is := [0]) Tryd.underlying22 inf9 rfl (by decide) (by decide) rfl rfl (by simp; omega) (fun _ h => absurd h h5) rfl (by repeat' (first | constructor | apply Sub.suf)) rfl) ?_
  refine le ?_; rintro ⟨A', c2⟩
  rw [List.nil_append]
  refine ls (op (p_asg rfl) rfl) ?_
  refine ln ?_
  refine nthen ?_
  refine cret ?_
  refine xret (fun _ _ h => h) ?_
  refine rret (is := [0]) (A', c2) (Or.inl rfl) (Res.t rfl Res.d) (rfl) rfl (by repeat' (first | constructor | apply Sub.suf))

set_option maxRecDepth 100000 in
theorem c_tNew : Con Tryd.prog 24 [] [] [] (Nat × Nat) (fun y => .pointer (some ⟨y.1, 0, none⟩)) (fun y => [box y.1 75 [.map (some y.2)], tr y.2 []]) (fun _ => []) := by
 refine con Tryd.func24 rfl Tryd.ntmps24 rfl ?_
 intro M0 F0 w0
 refine cs ?_
 refine cr ?_
 refine ls (op (p_asg rfl) rfl) ?_
 refine ln ?_
 refine nthen ?_
 refine cs ?_
 refine cr ?_
 refine ls (o_mmk rfl) ?_
 refine le ?_; intro m1
 refine ls (op (p_bld sb75 rfl (Fill.t (by repeat' constructor) rfl rfl (by repeat' constructor) Fill.d)) rfl) ?_
 refine ls (o_box rfl rfl rfl) ?_
 refine le ?_; intro b3
 refine ls (op (p_asg rfl) rfl) ?_
 refine ln ?_
 refine nthen ?_
 refine cret ?_
 refine xret (fun _ _ h => h) ?_
 refine rret (is := [0, 0]) (b3, m1) (Or.inl rfl) (Res.t rfl Res.d) (rfl) rfl (by repeat' (first | constructor | apply Sub.suf))

set_option maxRecDepth 100000 in
theorem c_tHas (p b : Nat) (T : List File) (k : ByteArray) : Con Tryd.prog 42 [.pointer (some ⟨p, 0, none⟩), .string k] [box p 75 [.map (some b)], tr b T] [] Unit (fun _ => .bool (hasT T k)) (fun _ => [box p 75 [.map (some b)], tr b T]) (fun _ => []) := by
 refine con Tryd.func42 rfl Tryd.ntmps42 rfl ?_
 intro M0 F0 w0
 refine cs ?_
 refine cr ?_
 refine ls (op (p_asg rfl) rfl) ?_
 refine ln ?_
 refine nthen ?_
 refine cs ?_
 refine cr ?_
 refine ls (op (p_move rfl) rfl) ?_
 refine ls (op (p_nilck rfl) rfl) ?_
 refine ls (op (p_fa fa75_0 rfl) rfl) ?_
 refine ls (o_ld Tryd.isAgg73 rfl (by repeat' constructor) (by repeat' constructor) rfl) ?_
 refine ls (op (p_move rfl) rfl) ?_
 refine ls (o_look Tryd.underlying73 Tryd.underlying9 Tryd.zeroValue22 rfl rfl (by repeat' constructor) rfl) ?_
 refine le ?_; rintro y13
 refine ls (op (p_move rfl) rfl) ?_
 refine ls (op (p_ext rfl (by repeat' constructor)) rfl) ?_
 refine ls (op (p_ext rfl (by repeat' constructor)) rfl) ?_
 refine ls (op (p_asg rfl) rfl) ?_
 refine ls (op (p_asg rfl) rfl) ?_
 refine ln ?_
 refine nthen ?_
 refine cs ?_
 refine cr ?_
 refine ls (op (p_move rfl) rfl) ?_
 refine ls (op (p_asg rfl) rfl) ?_
 refine ln ?_
 refine nthen ?_
 refine cret ?_
 refine xret (fun _ _ h => h) ?_
 refine rret (is := [0, 0]) () (Or.inl rfl) (Res.t rfl Res.d) (rfl) rfl (by repeat' (first | constructor | apply Sub.suf))

set_option maxRecDepth 100000 in
theorem c_tAdd (p b : Nat) (T : List File) (k : ByteArray) : Con Tryd.prog 25 [.pointer (some ⟨p, 0, none⟩), .string k] [box p 75 [.map (some b)], tr b T] [] {q : List File × Int // q = tAdd T k} (fun q => .int .i64 q.1.2) (fun q => [box p 75 [.map (some b)], tr b q.1.1]) (fun _ => []) := by
 refine con Tryd.func25 rfl Tryd.ntmps25 rfl ?_
 intro M0 F0 w0
 refine cs ?_
 refine cr ?_
 refine ls (op (p_asg rfl) rfl) ?_
 refine ln ?_
 refine nthen ?_
 refine cs ?_
 refine cb ?_
 refine cs ?_
 refine cr ?_
 refine ls (op (p_move rfl) rfl) ?_
 refine ls (o_call (is := []) Tryd.call41 (c_treeNamed k) rfl rfl (by repeat' (first | constructor | apply Sub.suf)) rfl) ?_
 refine le ?_; intro x7
 refine ls (op (p_not rfl) rfl) ?_
 refine ls (op (p_asg rfl) rfl) ?_
 refine ln ?_
 refine nthen ?_
 refine cc rfl ?_ ?_
 ·
  intro h5
  refine cs ?_
  refine cr ?_
  refine ls (op (p_asg rfl) rfl) ?_
  refine ln ?_
  refine nthen ?_
  refine cret ?_
  refine xret (fun _ _ h => h) ?_
  refine rret (is := [0, 0]) ⟨(T, 20), by simp only [Bool.not_eq_true'] at h5; simp [tAdd, h5]⟩ (Or.inl rfl) (Res.t rfl Res.d) (rfl) rfl (by repeat' (first | constructor | apply Sub.suf))
 ·
  intro h5
  refine cs ?_
  refine cr ?_
  refine ls (op (p_move rfl) rfl) ?_
  refine ls (op (p_move rfl) rfl) ?_
  refine ls (o_call (is := [0, 0]) Tryd.call42 (c_tHas p b T k) rfl rfl (by repeat' (first | constructor | apply Sub.suf)) rfl) ?_
  refine le ?_; intro x12
  refine ls (op (p_asg rfl) rfl) ?_
  refine ln ?_
  refine nthen ?_
  refine cc rfl ?_ ?_
  ·
   intro h9
   refine cs ?_
   refine cr ?_
   refine ls (op (p_asg rfl) rfl) ?_
   refine ln ?_
   refine nthen ?_
   refine cret ?_
   refine xret (fun _ _ h => h) ?_
   refine rret (is := [0, 0]) ⟨(T, 21), by simp only [Bool.not_eq_false'] at h5; simp [tAdd, h5, h9]⟩ (Or.inl rfl) (Res.t rfl Res.d) (rfl) rfl (by repeat' (first | constructor | apply Sub.suf))
  ·
   intro h9
   refine cskip ?_
   refine nblock ?_
   refine nthen ?_
   refine cs ?_
   refine cr ?_
   refine ls (op (p_move rfl) rfl) ?_
   refine ls (op (p_nilck rfl) rfl) ?_
   refine ls (op (p_fa fa75_0 rfl) rfl) ?_
   refine ls (o_ld Tryd.isAgg73 rfl (by repeat' constructor) (by repeat' constructor) rfl) ?_
   refine ls (op (p_move rfl) rfl) ?_
   refine ls (o_mupdN (i := 1) Tryd.underlying73 Tryd.underlying9 rfl rfl rfl rfl) ?_
   refine ln ?_
   refine nthen ?_
   refine cs ?_
   refine cr ?_
   refine ls (op (p_asg rfl) rfl) ?_
   refine ln ?_
   refine nthen ?_
   refine cret ?_
   refine xret (fun _ _ h => h) ?_
   refine rret (is := [1, 0]) ⟨(putT T k [], 0), by simp only [Bool.not_eq_false'] at h5; simp [tAdd, h5, h9]⟩ (Or.inl rfl) (Res.t rfl Res.d) (rfl) rfl (by repeat' (first | constructor | apply Sub.suf))

set_option maxRecDepth 100000 in
theorem c_tRem (p b : Nat) (T : List File) (k : ByteArray) : Con Tryd.prog 48 [.pointer (some ⟨p, 0, none⟩), .string k] [box p 75 [.map (some b)], tr b T] [] {q : List File × Int // q = tRem T k} (fun q => .int .i64 q.1.2) (fun q => [box p 75 [.map (some b)], tr b q.1.1]) (fun _ => []) := by
 refine con Tryd.func48 rfl Tryd.ntmps48 rfl ?_
 intro M0 F0 w0
 refine cs ?_
 refine cr ?_
 refine ls (op (p_asg rfl) rfl) ?_
 refine ln ?_
 refine nthen ?_
 refine cs ?_
 refine cb ?_
 refine cs ?_
 refine cr ?_
 refine ls (op (p_move rfl) rfl) ?_
 refine ls (op (p_move rfl) rfl) ?_
 refine ls (o_call (is := [0, 0]) Tryd.call42 (c_tHas p b T k) rfl rfl (by repeat' (first | constructor | apply Sub.suf)) rfl) ?_
 refine le ?_; intro x8
 refine ls (op (p_not rfl) rfl) ?_
 refine ls (op (p_asg rfl) rfl) ?_
 refine ln ?_
 refine nthen ?_
 refine cc rfl ?_ ?_
 ·
  intro h5
  refine cs ?_
  refine cr ?_
  refine ls (op (p_asg rfl) rfl) ?_
  refine ln ?_
  refine nthen ?_
  refine cret ?_
  refine xret (fun _ _ h => h) ?_
  refine rret (is := [0, 0]) ⟨(T, 20), by simp only [Bool.not_eq_true'] at h5; simp [tRem, h5]⟩ (Or.inl rfl) (Res.t rfl Res.d) (rfl) rfl (by repeat' (first | constructor | apply Sub.suf))
 ·
  intro h5
  refine cs ?_
  refine cr ?_
  refine ls (op (p_move rfl) rfl) ?_
  refine ls (op (p_nilck rfl) rfl) ?_
  refine ls (op (p_fa fa75_0 rfl) rfl) ?_
  refine ls (o_ld Tryd.isAgg73 rfl (by repeat' constructor) (by repeat' constructor) rfl) ?_
  refine ls (op (p_move rfl) rfl) ?_
  refine ls (o_look1 Tryd.underlying73 Tryd.underlying9 Tryd.zeroValue22 rfl rfl (by repeat' constructor) rfl) ?_
  refine le ?_; rintro y16
  refine ls (op (p_lenl rfl Tryd.underlying22) rfl) ?_
  refine ls (op (p_icmp rfl rfl rfl) rfl) ?_
  refine ls (op (p_asg rfl) rfl) ?_
  refine ln ?_
  refine nthen ?_
  refine cc rfl ?_ ?_
  ·
   intro h10
   refine cs ?_
   refine cr ?_
   refine ls (op (p_asg rfl) rfl) ?_
   refine ln ?_
   refine nthen ?_
   refine cret ?_
   refine xret (fun _ _ h => h) ?_
   refine rret (is := [0, 0]) ⟨(T, 22), by simp only [Bool.not_eq_false'] at h5; have h : 0 < (getL T k).length := (by simp at h10; omega); simp [tRem, h5, h]⟩ (Or.inl rfl) (Res.t rfl Res.d) (rfl) rfl (by repeat' (first | constructor | apply Sub.suf))
  ·
   intro h10
   refine cskip ?_
   refine nblock ?_
   refine nthen ?_
   refine cs ?_
   refine cr ?_
   refine ls (op (p_move rfl) rfl) ?_
   refine ls (op (p_nilck rfl) rfl) ?_
   refine ls (op (p_fa fa75_0 rfl) rfl) ?_
   refine ls (o_ld Tryd.isAgg73 rfl (by repeat' constructor) (by repeat' constructor) rfl) ?_
   refine ls (op (p_move rfl) rfl) ?_
   refine ls (o_mdel0 (i := 1) Tryd.underlying73 Tryd.underlying9 rfl rfl rfl) ?_
   refine ln ?_
   refine nthen ?_
   refine cs ?_
   refine cr ?_
   refine ls (op (p_asg rfl) rfl) ?_
   refine ln ?_
   refine nthen ?_
   refine cret ?_
   refine xret (fun _ _ h => h) ?_
   refine rret (is := [1, 0]) ⟨(delT T k, 0), by simp only [Bool.not_eq_false'] at h5; have h : ¬ 0 < (getL T k).length := (by simp at h10; simp [h10]); simp [tRem, h5, h]⟩ (Or.inl rfl) (Res.t rfl Res.d) (rfl) rfl (by repeat' (first | constructor | apply Sub.suf))

set_option maxRecDepth 100000 in
theorem c_tMove (p b : Nat) (T : List File) (k u : ByteArray) : Con Tryd.prog 49 [.pointer (some ⟨p, 0, none⟩), .string k, .string u] [box p 75 [.map (some b)], tr b T] [] {q : List File × Int // q = tMove T k u} (fun q => .int .i64 q.1.2) (fun q => [box p 75 [.map (some b)], tr b q.1.1]) (fun _ => []) := by
 refine con Tryd.func49 rfl Tryd.ntmps49 rfl ?_
 intro M0 F0 w0
 refine cs ?_
 refine cr ?_
 refine ls (op (p_asg rfl) rfl) ?_
 refine ln ?_
 refine nthen ?_
 refine cs ?_
 refine cb ?_
 refine cs ?_
 refine cr ?_
 refine ls (op (p_move rfl) rfl) ?_
 refine ls (op (p_move rfl) rfl) ?_
 refine ls (o_call (is := [0, 0]) Tryd.call42 (c_tHas p b T k) rfl rfl (by repeat' (first | constructor | apply Sub.suf)) rfl) ?_
 refine le ?_; intro x10
 refine ls (op (p_not rfl) rfl) ?_
 refine ls (op (p_move rfl) rfl) ?_
 refine orX 4 12 16 rfl (subσ.cons (t := 0) rfl (subσ.cons (t := 1) rfl (subσ.cons (t := 2) rfl (subσ.cons (t := 6) rfl (subσ.nil _))))) ?_ ?_
 ·
  intro h12
  refine lskip rfl rfl rfl rfl rfl ?_
  refine lskip rfl rfl rfl rfl rfl ?_
  refine lskip rfl rfl rfl rfl rfl ?_
  refine ls (op (p_pickt rfl rfl) rfl) ?_
  refine ln (nmid (wk0 (by repeat (first | exact subσ.nil _ | refine subσ.cons rfl ?_)) (by repeat' (first | constructor | apply Sub.suf))))
 apply exI
 ·
  intro h12
  refine lwant rfl rfl rfl rfl (op (p_move rfl) rfl) ?_
  refine lwant rfl rfl rfl rfl (o_call (is := []) Tryd.call41 (c_treeNamed u) rfl rfl (by repeat' (first | constructor | apply Sub.suf)) rfl) ?_
  refine le ?_; intro x14
  refine lwant rfl rfl rfl rfl (op (p_not rfl) rfl) ?_
  refine ls (op (p_pickf rfl rfl) rfl) ?_
  refine ln (nmid (wk0 (by repeat (first | exact subσ.nil _ | refine subσ.cons rfl ?_)) (by repeat' (first | constructor | apply Sub.suf))))
 ·
  refine ls (op (p_asg rfl) rfl) ?_
  refine ln ?_
  refine nthen ?_
  refine cc rfl ?_ ?_
  ·
   intro h7
   refine cs ?_
   refine cr ?_
   refine ls (op (p_asg rfl) rfl) ?_
   refine ln ?_
   refine nthen ?_
   refine cret ?_
   refine xret (fun _ _ h => h) ?_
   refine rret (is := [0, 0]) ⟨(T, 20), by simp at h7; simp [tMove, h7]⟩ (Or.inl rfl) (Res.t rfl Res.d) (rfl) rfl (by repeat' (first | constructor | apply Sub.suf))
  ·
   intro h7
   refine cs ?_
   refine cr ?_
   refine ls (op (p_move rfl) rfl) ?_
   refine ls (op (p_move rfl) rfl) ?_
   refine ls (o_call (is := [0, 0]) Tryd.call42 (c_tHas p b T u) rfl rfl (by repeat' (first | constructor | apply Sub.suf)) rfl) ?_
   refine le ?_; intro x20
   refine ls (op (p_asg rfl) rfl) ?_
   refine ln ?_
   refine nthen ?_
   refine cc rfl ?_ ?_
   ·
    intro h17
    refine cs ?_
    refine cr ?_
    refine ls (op (p_asg rfl) rfl) ?_
    refine ln ?_
    refine nthen ?_
    refine cret ?_
    refine xret (fun _ _ h => h) ?_
    refine rret (is := [0, 0]) ⟨(T, 21), by simp at h7; simp [tMove, h7, h17]⟩ (Or.inl rfl) (Res.t rfl Res.d) (rfl) rfl (by repeat' (first | constructor | apply Sub.suf))
   ·
    intro h17
    refine cskip ?_
    refine nblock ?_
    refine nthen ?_
    refine cs ?_
    refine cd [10, 11] [(3, p, 0, _), (8, p, 0, _)] TrydX.mixed (TOk.t (isBoxS (by repeat' constructor) (k := 1) (by repeat (first | exact Cut.d | apply Cut.t | apply Cut.s))) (TOk.t (isBoxS (by repeat' constructor) (k := 1) (by repeat (first | exact Cut.d | apply Cut.t | apply Cut.s))) TOk.d)) ?_
    refine tk 0 rfl (by kernel_rfl) (fun _ _ _ h => h) gnone (TTany _) (p_move rfl) rfl ?_
    refine tk 1 rfl (by kernel_rfl) (fun _ _ _ h => h) gnone (TTany _) (p_nilck rfl) rfl ?_
    refine tk 2 rfl (by kernel_rfl) (fun _ _ _ h => h) gnone (TTany _) (p_fa fa75_0 rfl) rfl ?_
    refine tk 3 rfl (by kernel_rfl) (fun _ _ _ h => h) gnone (TTat (List.Mem.head _)) (p_ld Tryd.isAgg73 rfl) rfl ?_
    refine tk 4 rfl (by kernel_rfl) (fun _ _ _ h => h) gnone (TTany _) (p_move rfl) rfl ?_
    refine tk 5 rfl (by kernel_rfl) (fun _ _ _ h => h) gnone (TTany _) (p_move rfl) rfl ?_
    refine tk 6 rfl (by kernel_rfl) (fun _ _ _ h => h) gnone (TTany _) (p_nilck rfl) rfl ?_
    refine tk 7 rfl (by kernel_rfl) (fun _ _ _ h => h) gnone (TTany _) (p_fa fa75_0 rfl) rfl ?_
    refine tk 8 rfl (by kernel_rfl) (fun _ _ _ h => h) gnone (TTat (List.Mem.tail _ (List.Mem.head _))) (p_ld Tryd.isAgg73 rfl) rfl ?_
    refine tk 9 rfl (by kernel_rfl) (fun _ _ _ h => h) gnone (TTany _) (p_move rfl) rfl ?_
    refine df 10 (by kernel_rfl) ?_
    refine doR rfl (o_look1 Tryd.underlying73 Tryd.underlying9 Tryd.zeroValue22 rfl rfl (by repeat' constructor) rfl) (TOk.t (isBoxE fun _ => isBoxS (by repeat' constructor) (k := 1) (by repeat (first | exact Cut.d | apply Cut.t | apply Cut.s))) (TOk.x (by kernel_rfl) TOk.d)) ?_
    refine ea ?_; rintro y31
    refine df 11 (by kernel_rfl) ?_
    refine doR rfl (o_mupd (i := 1) Tryd.underlying73 Tryd.underlying9 rfl rfl rfl rfl (by repeat' (first | constructor | apply Sub.suf))) (TOk.x (by kernel_rfl) (TOk.x (by kernel_rfl) TOk.d)) ?_
    refine dn (by kernel_rfl) ?_
    refine nthen ?_
    refine cs ?_
    refine cr ?_
    refine ls (op (p_move rfl) rfl) ?_
    refine ls (op (p_nilck rfl) rfl) ?_
    refine ls (op (p_fa fa75_0 rfl) rfl) ?_
    refine ls (o_ld Tryd.isAgg73 rfl (by repeat' constructor) (by repeat' constructor) rfl) ?_
    refine ls (op (p_move rfl) rfl) ?_
    refine ls (o_mdel0 (i := 0) Tryd.underlying73 Tryd.underlying9 rfl rfl rfl) ?_
    refine ln ?_
    refine nthen ?_
    refine cs ?_
    refine cr ?_
    refine ls (op (p_asg rfl) rfl) ?_
    refine ln ?_
    refine nthen ?_
    refine cret ?_
    refine xret (fun _ _ h => h) ?_
    refine rret (is := [1, 0]) ⟨(delT (putT T u (getL T k)) k, 0), by simp at h7; simp [tMove, h7, h17]⟩ (Or.inl rfl) (Res.t rfl Res.d) (rfl) rfl (by repeat' (first | constructor | apply Sub.suf))

set_option maxRecDepth 100000 in
theorem c_tPut (p b : Nat) (T : List File) (k : ByteArray) (l : List ByteArray) (A : Option Addr) (c : Nat) (hl : l.length ≤ 2000000) : Con Tryd.prog 50 [.pointer (some ⟨p, 0, none⟩), .string k, .slice A l.length c] [box p 75 [.map (some b)], tr b T] [slA A l] {q : List File × Int // q = tPut T k l} (fun q => .int .i64 q.1.2) (fun q => [box p 75 [.map (some b)], tr b q.1.1]) (fun _ => []) := by
 refine con Tryd.func50 rfl Tryd.ntmps50 rfl ?_
 intro M0 F0 w0
 refine cs ?_
 refine cr ?_
 refine ls (op (p_asg rfl) rfl) ?_
 refine ln ?_
 refine nthen ?_
 refine cs ?_
 refine cb ?_
 refine cs ?_
 refine cr ?_
 refine ls (op (p_move rfl) rfl) ?_
 refine ls (op (p_move rfl) rfl) ?_
 refine ls (o_call (is := [0, 0]) Tryd.call42 (c_tHas p b T k) rfl rfl (by repeat' (first | constructor | apply Sub.suf)) rfl) ?_
 refine le ?_; intro x10
 refine ls (op (p_not rfl) rfl) ?_
 refine ls (op (p_asg rfl) rfl) ?_
 refine ln ?_
 refine nthen ?_
 refine cc rfl ?_ ?_
 ·
  intro h7
  refine cs ?_
  refine cr ?_
  refine ls (op (p_asg rfl) rfl) ?_
  refine ln ?_
  refine nthen ?_
  refine cret ?_
  refine xret (fun _ _ h => h) ?_
  refine rret (is := [0, 0]) ⟨(T, 20), by simp only [Bool.not_eq_true'] at h7; simp [tPut, h7]⟩ (Or.inl rfl) (Res.t rfl Res.d) (rfl) rfl (by repeat' (first | constructor | apply Sub.suf))
 ·
  intro h7
  refine cs ?_
  refine cr ?_
  refine ls (op (p_move rfl) rfl) ?_
  refine ls (o_call (is := []) Tryd.call57 (c_lineAll l A c hl) rfl rfl (by repeat' (first | constructor | apply Sub.suf)) rfl) ?_
  refine le ?_; intro x14
  refine ls (op (p_not rfl) rfl) ?_
  refine ls (op (p_asg rfl) rfl) ?_
  refine ln ?_
  refine nthen ?_
  refine cc rfl ?_ ?_
  ·
   intro h12
   refine cs ?_
   refine cr ?_
   refine ls (op (p_asg rfl) rfl) ?_
   refine ln ?_
   refine nthen ?_
   refine cret ?_
   refine xret (fun _ _ h => h) ?_
   refine rret (is := [0, 0]) ⟨(T, 1), by simp only [Bool.not_eq_false'] at h7; simp only [Bool.not_eq_true'] at h12; simp [tPut, h7, h12]⟩ (Or.inl rfl) (Res.t rfl Res.d) (rfl) rfl (by repeat' (first | constructor | apply Sub.suf))
  ·
   intro h12
   refine cskip ?_
   refine nblock ?_
   refine nthen ?_
   refine cs ?_
   refine cd [6, 7] [(3, p, 0, _)] TrydX.mixed (TOk.t (isBoxS (by repeat' constructor) (k := 1) (by repeat (first | exact Cut.d | apply Cut.t | apply Cut.s))) TOk.d) ?_
   refine tk 0 rfl (by kernel_rfl) (fun _ _ _ h => h) gnone (TTany _) (p_move rfl) rfl ?_
   refine tk 1 rfl (by kernel_rfl) (fun _ _ _ h => h) gnone (TTany _) (p_nilck rfl) rfl ?_
   refine tk 2 rfl (by kernel_rfl) (fun _ _ _ h => h) gnone (TTany _) (p_fa fa75_0 rfl) rfl ?_
   refine tk 3 rfl (by kernel_rfl) (fun _ _ _ h => h) gnone (TTat (List.Mem.head _)) (p_ld Tryd.isAgg73 rfl) rfl ?_
   refine tk 4 rfl (by kernel_rfl) (fun _ _ _ h => h) gnone (TTany _) (p_move rfl) rfl ?_
   refine tk 5 rfl (by kernel_rfl) (fun _ _ _ h => h) gnone (TTany _) (p_move rfl) rfl ?_
   refine df 6 (by kernel_rfl) ?_
   refine doR rfl (o_call (is := []) Tryd.call43 (c_sCloneR l A c hl) rfl rfl (by repeat' (first | constructor | apply Sub.suf)) rfl) (TOk.t (isBoxE fun _ => isBoxS (by repeat' constructor) (k := 1) (by repeat (first | exact Cut.d | apply Cut.t | apply Cut.s))) TOk.d) ?_
   refine ea ?_; rintro ⟨A2, c2⟩
   refine amono (fun a w h => freezeN (i := 0) rfl h) ?_
   refine df 7 (by kernel_rfl) ?_
   refine doR rfl (o_mupd (i := 1) Tryd.underlying73 Tryd.underlying9 rfl rfl rfl rfl (by repeat' (first | constructor | apply Sub.suf))) (TOk.x (by kernel_rfl) TOk.d) ?_
   refine dn (by kernel_rfl) ?_
   refine nthen ?_
   refine cs ?_
   refine cr ?_
   refine ls (op (p_asg rfl) rfl) ?_
   refine ln ?_
   refine nthen ?_
   refine cret ?_
   refine xret (fun _ _ h => h) ?_
   refine rret (is := [1, 0]) ⟨(putT T k l, 0), by simp only [Bool.not_eq_false'] at h7 h12; simp [tPut, h7, h12]⟩ (Or.inl rfl) (Res.t rfl Res.d) (rfl) rfl (by repeat' (first | constructor | apply Sub.suf))

set_option maxRecDepth 100000 in
theorem c_tGet (p b : Nat) (T : List File) (hT : Tfit T) (k : ByteArray) : Con Tryd.prog 35 [.pointer (some ⟨p, 0, none⟩), .string k] [box p 75 [.map (some b)], tr b T] [] (Option Addr × Nat) (fun y => .tuple #[.slice y.1 (getL T k).length y.2, .bool (hasT T k)]) (fun y => [row 9 y.1 y.2 (getL T k), box p 75 [.map (some b)], tr b T]) (fun _ => []) := by
 refine con Tryd.func35 rfl Tryd.ntmps35 rfl ?_
 intro M0 F0 w0
 refine cs ?_
 refine cr ?_
 refine ls (op (p_asg rfl) rfl) ?_
 refine ls (op (p_asg rfl) rfl) ?_
 refine ln ?_
 refine nthen ?_
 refine cs ?_
 refine cr ?_
 refine ls (op (p_move rfl) rfl) ?_
 refine ls (op (p_nilck rfl) rfl) ?_
 refine ls (op (p_fa fa75_0 rfl) rfl) ?_
 refine ls (o_ld Tryd.isAgg73 rfl (by repeat' constructor) (by repeat' constructor) rfl) ?_
 refine ls (op (p_move rfl) rfl) ?_
 refine ls (o_look Tryd.underlying73 Tryd.underlying9 Tryd.zeroValue22 rfl rfl (by repeat' constructor) rfl) ?_
 refine le ?_; rintro y14
 refine ls (op (p_move rfl) rfl) ?_
 refine ls (op (p_ext rfl (by repeat' constructor)) rfl) ?_
 refine ls (op (p_ext rfl (by repeat' constructor)) rfl) ?_
 refine ls (op (p_asg rfl) rfl) ?_
 refine ls (op (p_asg rfl) rfl) ?_
 refine ln ?_
 refine nthen ?_
 refine cs ?_
 refine cr ?_
 refine ls (op (p_move rfl) rfl) ?_
 refine ls (o_call (is := []) Tryd.call43 (c_sCloneR (getL T k) y14.1 y14.2 (hT.get k)) rfl rfl (by repeat' (first | constructor | apply Sub.suf)) rfl) ?_
 refine le ?_; intro y18
 refine ls (op (p_move rfl) rfl) ?_
 refine ls (op (p_asg rfl) rfl) ?_
 refine ls (op (p_asg rfl) rfl) ?_
 refine ln ?_
 refine nthen ?_
 refine cret ?_
 refine xret (fun _ _ h => h) ?_
 refine rret (is := [0, 0, 0]) y18 (Or.inl rfl) (Res.t rfl (Res.t rfl Res.d)) (rfl) rfl (by repeat' (first | constructor | apply Sub.suf))

set_option maxRecDepth 100000 in
theorem c_mClone (b : Nat) (T : List File) : Con Tryd.prog 62 [.map (some b)] [tr b T] [] Nat (fun b' => .map (some b')) (fun b' => [tr b' T, tr b T]) (fun _ => []) := by
 refine con Tryd.func62 rfl Tryd.ntmps62 rfl ?_
 intro M0 F0 w0
 refine cs ?_
 refine cr ?_
 refine ls (op (p_asg rfl) rfl) ?_
 refine ln ?_
 refine nthen ?_
 refine cs ?_
 refine cs ?_
 refine cr ?_
 refine ls (op (p_move rfl) rfl) ?_
 refine ls (op (p_mapnil Tryd.underlying73 rfl) rfl) ?_
 refine ln ?_
 refine nthen ?_
 refine cc rfl (fun h => by cases h) (fun h => ?_)
 refine cskip ?_
 refine nthen ?_
 refine cs ?_
 refine cr ?_
 refine ls (op (p_move rfl) rfl) ?_
 refine ls (op (p_mkif Tryd.underlying73 rfl) rfl) ?_
 refine ls (o_mclone Tryd.func79 (by kernel_rfl) (by kernel_rfl) (by kernel_rfl) (by kernel_rfl) rfl (by repeat' constructor) rfl) ?_
 refine le ?_; intro b7
 refine ls (op (p_tas Tryd.underlying73 rfl) rfl) ?_
 refine ls (op (p_asg rfl) rfl) ?_
 refine ln ?_
 refine nthen ?_
 refine cret ?_
 refine xret (fun _ _ h => h) ?_
 refine rret (is := [0, 0]) b7 (Or.inl rfl) (Res.t rfl Res.d) (rfl) rfl (by repeat' (first | constructor | apply Sub.suf))

set_option maxRecDepth 100000 in
theorem c_tCopy (p b : Nat) (T : List File) : Con Tryd.prog 51 [.pointer (some ⟨p, 0, none⟩)] [box p 75 [.map (some b)], tr b T] [] (Nat × Nat) (fun y => .pointer (some ⟨y.1, 0, none⟩)) (fun y => [box y.1 75 [.map (some y.2)], tr y.2 T, box p 75 [.map (some b)], tr b T]) (fun _ => []) := by
 refine con Tryd.func51 rfl Tryd.ntmps51 rfl ?_
 intro M0 F0 w0
 refine cs ?_
 refine cr ?_
 refine ls (op (p_asg rfl) rfl) ?_
 refine ln ?_
 refine nthen ?_
 refine cs ?_
 refine cr ?_
 refine ls (op (p_move rfl) rfl) ?_
 refine ls (op (p_nilck rfl) rfl) ?_
 refine ls (op (p_fa fa75_0 rfl) rfl) ?_
 refine ls (o_ld Tryd.isAgg73 rfl (by repeat' constructor) (by repeat' constructor) rfl) ?_
 refine ls (o_call (is := [1]) Tryd.call62 (c_mClone b T) rfl rfl (by repeat' (first | constructor | apply Sub.suf)) rfl) ?_
 refine le ?_; intro b7
 refine ls (op (p_bld sb75 rfl (Fill.t (by repeat' constructor) rfl rfl (by repeat' constructor) Fill.d)) rfl) ?_
 refine ls (o_box rfl rfl rfl) ?_
 refine le ?_; intro b9
 refine ls (op (p_asg rfl) rfl) ?_
 refine ln ?_
 refine nthen ?_
 refine cret ?_
 refine xret (fun _ _ h => h) ?_
 refine rret (is := [0, 0, 1, 0]) (b9, b7) (Or.inl rfl) (Res.t rfl Res.d) (rfl) rfl (by repeat' (first | constructor | apply Sub.suf))

end Go.Proofs.YtdbiillompeclaaDoor.X

end
section
set_option linter.unusedVariables false
set_option linter.unusedSimpArgs false
namespace Go.Proofs.YtdbiillompeclaaDoor.X
open Go Go.RowKit Go.Proofs Go.Sx
attribute [local irreducible] slA isA box row
theorem mapk (pre : List File) (k : ByteArray) (l : List ByteArray) : (pre ++ [(k, l)]).map (·.1) = pre.map (·.1) ++ [k] := by simp

set_option maxRecDepth 100000 in
theorem c_mKeys (b : Nat) : Con Tryd.prog 64 [.map (some b)] [] [] Nat (fun q => .func (.func 82) #[] #[.pointer (some ⟨q, 0, none⟩)]) (fun q => [box q 73 [.map (some b)]]) (fun _ => []) := by
 refine con Tryd.func64 rfl Tryd.ntmps64 rfl ?_
 intro M0 F0 w0
 refine cs ?_
 refine cr ?_
 refine ls (o_box rfl rfl rfl) ?_
 refine le ?_; intro b1
 refine ls (op (p_asg rfl) rfl) ?_
 refine ln ?_
 refine nthen ?_
 refine cs ?_
 refine cr ?_
 refine ls (op (p_mkf rfl) rfl) ?_
 refine ls (op (p_asg rfl) rfl) ?_
 refine ln ?_
 refine nthen ?_
 refine cret ?_
 refine xret (fun _ _ h => h) ?_
 refine rret (is := [0]) b1 (Or.inl rfl) (Res.t rfl Res.d) (rfl) rfl (by repeat' (first | constructor | apply Sub.suf))

set_option maxRecDepth 100000 in
theorem c_mKeys1 (b : Nat) (T : List File) (q : Nat) : Iter Tryd.prog 82 [.pointer (some ⟨q, 0, none⟩)] (fun x : File => [.string x.1]) (fun _ => []) (fun pre x => x ∈ T ∧ x ∉ pre ∧ pre.length < T.length) (fun xs => xs.Perm T) [box q 73 [.map (some b)], tr b T] [] := by
 intro lp J Jx hY
 refine con Tryd.func82 rfl Tryd.ntmps82 rfl ?_
 intro M0 F0 w0
 refine cs ?_
 refine cr ?_
 refine ls (o_ld Tryd.isAgg73 rfl (by repeat' constructor) (by repeat' constructor) rfl) ?_
 refine ls (o_mrange (i := 2) Tryd.underlying73 rfl rfl rfl) ?_
 refine le ?_; intro r5
 refine ln ?_
 refine nthen ?_
 refine cb ?_
 refine cl (ι := List File) (fun i => St M0 F0 w0 14 [(0, .func (.yield lp) #[] #[]), (1, .pointer (some ⟨q, 0, none⟩)), (5, .pointer (some ⟨r5, 0, none⟩))] [mit b r5 T i, J i, box q 73 [.map (some b)]] []) (fun i => T.length - (i).length) [] (wk (is := [0, 0, 0]) (by repeat (first | exact subσ.nil _ | refine subσ.cons rfl ?_)) rfl (by repeat' (first | constructor | apply Sub.suf))) ?_
 rintro K
 refine cmono (S' := St M0 F0 w0 14 [(0, .func (.yield lp) #[] #[]), (1, .pointer (some ⟨q, 0, none⟩)), (5, .pointer (some ⟨r5, 0, none⟩))] [mit b r5 T K, J K, box q 73 [.map (some b)]] []) (fun _ _ h => h) ?_
 refine cs ?_
 refine cpure (St.mit (by repeat' constructor)) ?_
 rintro ⟨hso, hKn, hKT⟩
 rcases Classical.em (∃ x ∈ T, x ∉ K) with hK | hK
 ·
  have hlt := nodup_lt hKn hKT hK
  refine cr ?_
  refine ls (o_mnextS (i := 0) rfl rfl hK rfl) ?_
  refine le ?_; rintro ⟨⟨⟨k, l⟩, y⟩, hxT, hxK⟩
  refine ls (op (p_ext rfl (by repeat' constructor)) rfl) ?_
  refine ln ?_
  refine nthen ?_
  refine cs ?_
  refine cc rfl (fun h => ?_) (fun h => by cases h)
  refine cskip ?_
  refine nthen ?_
  refine cb ?_
  refine cs ?_
  refine cr ?_
  refine ls (o_mentry rfl (by repeat' constructor) rfl) ?_
  refine le ?_; rintro y8
  refine ls (op (p_ext rfl (by repeat' constructor)) rfl) ?_
  refine ls (op (p_asg rfl) rfl) ?_
  refine ln ?_
  refine nthen ?_
  refine cs ?_
  refine cr ?_
  refine ls (op (p_move rfl) rfl) ?_
  refine ls (op (p_move rfl) rfl) ?_
  refine ls (o_yield (i := 1) rfl (hY K (k, l) ⟨hxT, hxK, hlt⟩) rfl rfl (by repeat' (first | constructor | apply Sub.suf)) rfl) ?_
  refine le ?_; intro bb
  refine ls (op (p_not rfl) rfl) ?_
  refine ln ?_
  refine nthen ?_
  refine cc rfl ?_ ?_
  ·
   intro h13
   obtain rfl : false = bb := by cases bb <;> first | rfl | (simp at h13)
   refine cret ?_
   refine xret (fun _ _ h => h) ?_
   refine nmono (conv (i := 1) rfl mit_tr) ?_
   refine rret (is := [1, 1, 0]) ⟨none, fun _ h => by cases h⟩ (Or.inl rfl) Res.d (rfl) rfl (by repeat' (first | constructor | apply Sub.suf))
  ·
   intro h13
   obtain rfl : true = bb := by cases bb <;> first | rfl | (simp at h13)
   refine cskip ?_
   refine nblock ?_
   refine nnext (K ++ [(k, l)]) (by simp; omega) (wk (is := [1, 0, 0]) (by repeat (first | exact subσ.nil _ | refine subσ.cons rfl ?_)) rfl (by repeat' (first | constructor | apply Sub.suf)))
 ·
  refine cr ?_
  refine ls (o_mnextN rfl (by repeat' constructor) hK rfl) ?_
  refine ls (op (p_ext rfl (by repeat' constructor)) rfl) ?_
  refine ln ?_
  refine nthen ?_
  refine cs ?_
  refine cc rfl (fun h => by cases h) (fun h => ?_)
  refine cexit ?_
  refine xthen ?_
  refine xthen ?_
  refine xblock ?_
  refine nmono (conv (i := 0) rfl mit_tr) ?_
  refine rret (is := [1, 1, 0]) ⟨some K, fun xs h => by cases h; exact perm_of_all hso hKn hKT hK⟩ (Or.inr rfl) Res.d (rfl) rfl (by repeat' (first | constructor | apply Sub.suf))

set_option maxRecDepth 100000 in
theorem c_appSeq (b q : Nat) (T : List File) (hn : T.length ≤ 2000000) : Con Tryd.prog 89 [.slice none 0 0, .func (.func 82) #[] #[.pointer (some ⟨q, 0, none⟩)]] [box q 73 [.map (some b)], tr b T] [] {y : (Option Addr × Nat) × List ByteArray // y.2.Perm (T.map (·.1))} (fun y => .slice y.1.1.1 y.1.2.length y.1.1.2) (fun y => [row 9 y.1.1.1 y.1.1.2 y.1.2, box q 73 [.map (some b)], tr b T]) (fun _ => []) := by
 refine con Tryd.func89 rfl Tryd.ntmps89 rfl ?_
 intro M0 F0 w0
 refine cs ?_
 refine cr ?_
 refine ls (o_box rfl rfl rfl) ?_
 refine le ?_; intro b2
 refine ls (op (p_asg rfl) rfl) ?_
 refine ln ?_
 refine nthen ?_
 refine cs ?_
 refine cs ?_
 refine cmono (fun a w h => nilRow (α := ByteArray) 9 h) ?_
 refine cr ?_
 refine ls (op (p_move rfl) rfl) ?_
 refine ln ?_
 refine nthen ?_
 refine cb ?_
 refine crng (ι := fun _ => Option Addr × Nat) rfl Tryd.call82 (c_mKeys1 b T q) (fun _ => rfl) rfl (fun pre i => [box b2 22 [.slice i.1 (pre.map (·.1)).length i.2], row 9 i.1 i.2 (pre.map (·.1))]) (fun _ _ => []) ((none, 0)) (Y := Empty) (fun _ => []) (fun _ => []) (is := [1, 0, 0, 0]) rfl (by repeat' (first | constructor | apply Sub.suf)) (by repeat' (first | constructor | apply Sub.suf)) ?_ ?_ ?_
 ·
  rintro M0 F0 w0 lp κ pre ⟨k, l⟩ ⟨hxT, hxn, hlt⟩ ⟨A, c⟩
  refine cmono (S' := St M0 F0 w0 ⟨13, []⟩ [(2, .pointer (some ⟨b2, 0, none⟩)), (7, .string k)] [lrec lp κ .ready none, box b2 22 [.slice A (pre.map (·.1)).length c], row 9 A c (pre.map (·.1))] []) (wk0 (by repeat (first | exact subσ.nil _ | refine subσ.cons rfl ?_)) (by repeat' (first | constructor | apply Sub.suf))) ?_
  refine cr ?_
  refine ls (op (p_asg rfl) rfl) ?_
  refine ln ?_
  refine nbegin (i := 0) rfl ?_
  refine cb ?_
  refine cr ?_
  refine ls (o_ld Tryd.isAgg22 rfl (by repeat' constructor) (by repeat' constructor) rfl) ?_
  refine ls (op (p_move rfl) rfl) ?_
  refine ls (o_bsl [k] Tryd.underlying22 Tryd.sizeOf9 Tryd.zeroValue9 rfl (Enum.t Enum.d) (RV.t () rfl Sub.d RV.d) rfl (by decide) (by decide) rfl) ?_
  refine le ?_; intro b10
  refine lmono (fun a w h => Go.Sx.freeze (i := 0) rfl h) ?_
  refine ls (o_app (is := [2]) Tryd.underlying22 inf9 rfl (by decide) (by decide) rfl rfl (by simp only [List.length_map, List.length_cons, List.length_nil]; omega) (fun h => by cases h) rfl (by repeat' (first | constructor | apply Sub.suf)) rfl) ?_
  refine le ?_; rintro ⟨A2, c2⟩
  refine ls (o_st rfl Tryd.sizeOf22 rfl rfl rfl rfl rfl (by repeat' constructor) (by repeat' constructor) (by repeat' constructor)) ?_
  refine ln ?_
  refine nblock ?_
  refine nmono (fun a w h => by rw [← mapk pre k l] at h; exact h) ?_
  exact nround (A2, c2) (is := [1, 1, 0]) rfl (by repeat' (first | constructor | apply Sub.suf))
 ·
  rintro D xs hC ⟨A, c⟩
  refine nblock ?_
  refine nthen ?_
  refine cs ?_
  refine cr ?_
  refine ls (o_ld Tryd.isAgg22 rfl (by repeat' constructor) (by repeat' constructor) rfl) ?_
  refine ls (op (p_asg rfl) rfl) ?_
  refine ln ?_
  refine nthen ?_
  refine cret ?_
  refine xret (fun _ _ h => h) ?_
  refine rretm (Dfr.c (i := 4) rfl Dfr.d) (is := [1, 1, 1]) ⟨((A, c), xs.map (·.1)), hC.map _⟩ (Or.inl rfl) (Res.t rfl Res.d) (rfl) rfl (by repeat' (first | constructor | apply Sub.suf))
 ·
  intro D y
  exact y.elim

set_option maxRecDepth 100000 in
theorem c_tCollect (b q : Nat) (T : List File) (hn : T.length ≤ 2000000) : Con Tryd.prog 80 [.func (.func 82) #[] #[.pointer (some ⟨q, 0, none⟩)]] [box q 73 [.map (some b)], tr b T] [] {y : (Option Addr × Nat) × List ByteArray // y.2.Perm (T.map (·.1))} (fun y => .slice y.1.1.1 y.1.2.length y.1.1.2) (fun y => [row 9 y.1.1.1 y.1.1.2 y.1.2, box q 73 [.map (some b)], tr b T]) (fun _ => []) := by
 refine con Tryd.func80 rfl Tryd.ntmps80 rfl ?_
 intro M0 F0 w0
 refine cs ?_
 refine cr ?_
 refine ls (op (p_asg rfl) rfl) ?_
 refine ln ?_
 refine nthen ?_
 refine cs ?_
 refine cr ?_
 refine ls (op (p_move rfl) rfl) ?_
 refine ls (o_call (is := [0, 0]) Tryd.call89 (c_appSeq b q T hn) rfl rfl (by repeat' (first | constructor | apply Sub.suf)) rfl) ?_
 refine le ?_; intro x4
 refine ls (op (p_asg rfl) rfl) ?_
 refine ln ?_
 refine nthen ?_
 refine cret ?_
 refine xret (fun _ _ h => h) ?_
 refine rret (is := [0, 0, 0]) x4 (Or.inl rfl) (Res.t rfl Res.d) (rfl) rfl (by repeat' (first | constructor | apply Sub.suf))

set_option maxRecDepth 100000 in
theorem c_tSorted (b q : Nat) (T : List File) (hn : T.length ≤ 2000000) : Con Tryd.prog 63 [.func (.func 82) #[] #[.pointer (some ⟨q, 0, none⟩)]] [box q 73 [.map (some b)], tr b T] [] (Option Addr × Nat) (fun y => .slice y.1 T.length y.2) (fun y => [row 9 y.1 y.2 (T.map (·.1)), box q 73 [.map (some b)], tr b T]) (fun _ => []) := by
 refine con Tryd.func63 rfl Tryd.ntmps63 rfl ?_
 intro M0 F0 w0
 refine cs ?_
 refine cr ?_
 refine ls (op (p_asg rfl) rfl) ?_
 refine ln ?_
 refine nthen ?_
 refine cs ?_
 refine cr ?_
 refine ls (op (p_move rfl) rfl) ?_
 refine ls (o_call (is := [0, 0]) Tryd.call80 (c_tCollect b q T hn) rfl rfl (by repeat' (first | constructor | apply Sub.suf)) rfl) ?_
 refine le ?_; rintro ⟨⟨⟨A5, c5⟩, ks⟩, hks⟩
 refine ls (op (p_asg rfl) rfl) ?_
 refine ln ?_
 refine nthen ?_
 refine cs ?_
 dsimp only at hks
 refine cpure (St.tr (b := b) (by repeat' constructor)) ?_
 intro hso
 have hlen : ks.length = T.length := by have := hks.length_eq; simpa using this
 have hsb := sortB_keys hso hks
 refine cr ?_
 refine ls (op (p_move rfl) rfl) ?_
 refine ls (o_call (is := [0]) Tryd.call81 (l_Sort 9 A5 c5 ks (by omega)) rfl rfl (by repeat' (first | constructor | apply Sub.suf)) rfl) ?_
 refine le ?_; intro u7
 refine ln ?_
 refine nthen ?_
 refine cs ?_
 rw [hsb]
 refine cr ?_
 refine ls (op (p_move rfl) rfl) ?_
 refine ls (op (p_asg rfl) rfl) ?_
 refine ln ?_
 refine nthen ?_
 refine cret ?_
 refine xret (fun _ _ h => h) ?_
 refine rret (is := [0, 0, 0]) (A5, c5) (Or.inl rfl) (Res.t rfl Res.d) ?_ rfl (by repeat' (first | constructor | apply Sub.suf))
 simp [packV, hlen]

set_option maxRecDepth 100000 in
theorem c_tNames (p b : Nat) (T : List File) (hn : T.length ≤ 2000000) : Con Tryd.prog 52 [.pointer (some ⟨p, 0, none⟩)] [box p 75 [.map (some b)], tr b T] [] (Option Addr × Nat) (fun y => .slice y.1 T.length y.2) (fun y => [row 9 y.1 y.2 (T.map (·.1)), box p 75 [.map (some b)], tr b T]) (fun _ => []) := by
 refine con Tryd.func52 rfl Tryd.ntmps52 rfl ?_
 intro M0 F0 w0
 refine cs ?_
 refine cr ?_
 refine ls (op (p_asg rfl) rfl) ?_
 refine ln ?_
 refine nthen ?_
 refine cs ?_
 refine cr ?_
 refine ls (op (p_move rfl) rfl) ?_
 refine ls (op (p_nilck rfl) rfl) ?_
 refine ls (op (p_fa fa75_0 rfl) rfl) ?_
 refine ls (o_ld Tryd.isAgg73 rfl (by repeat' constructor) (by repeat' constructor) rfl) ?_
 refine ls (o_call (is := []) Tryd.call64 (c_mKeys b) rfl rfl (by repeat' (first | constructor | apply Sub.suf)) rfl) ?_
 refine le ?_; intro b7
 refine ls (o_call (is := [0, 1]) Tryd.call63 (c_tSorted b b7 T hn) rfl rfl (by repeat' (first | constructor | apply Sub.suf)) rfl) ?_
 refine le ?_; rintro ⟨A8, c8⟩
 refine ls (op (p_asg rfl) rfl) ?_
 refine ln ?_
 refine nthen ?_
 refine cret ?_
 refine xret (fun _ _ h => h) ?_
 refine rret (is := [0, 2, 1]) (A8, c8) (Or.inl rfl) (Res.t rfl Res.d) (rfl) rfl (by repeat' (first | constructor | apply Sub.suf))

end Go.Proofs.YtdbiillompeclaaDoor.X

end
section
set_option linter.unusedVariables false
set_option linter.unusedSimpArgs false
namespace Go.Proofs.YtdbiillompeclaaDoor.X
open Go Go.RowKit Go.Proofs Go.Sx
attribute [local irreducible] slA isA box row
theorem app3 {α : Type} (a : List α) (b : α) (d e : List α) : (a ++ b :: d) ++ e = a ++ b :: (d ++ e) := by simp
theorem app_len3 {a d : List File} {x y : File} {m k : Nat} (h1 : a.length ≤ m) (h2 : d.length ≤ m) (hm : m ≤ 2000000) (hk : k ≤ 100) : ((a ++ x :: d).length + [y].length) * k ≤ 140737488355328 := by
 refine Nat.le_trans (Nat.mul_le_mul (n₂ := 4000002) ?_ hk) (by decide)
 rw [List.length_append, List.length_cons, List.length_singleton]
 omega
theorem fa66_0 : FA Tryd.prog 66 0 0 := fun b o w => by kernel_rfl
theorem fa66_1 : FA Tryd.prog 66 1 1 := fun b o w => by kernel_rfl
theorem fa66_2 : FA Tryd.prog 66 2 2 := fun b o w => by kernel_rfl
theorem fa66_3 : FA Tryd.prog 66 3 3 := fun b o w => by kernel_rfl
theorem fa72_0 : FA Tryd.prog 72 0 0 := fun b o w => by kernel_rfl
theorem fa72_1 : FA Tryd.prog 72 1 1 := fun b o w => by kernel_rfl
theorem inf72 : (Tryd.prog.info? 72).map (fun i => (i.zero, i.size, i.bytes)) = some (some (.agg #[.string ⟨#[]⟩, .slice none 0 0]), 2, 40) := by kernel_rfl
theorem sb72 : SB Tryd.prog 72 [(0, 1), (1, 1)] [.string ⟨#[]⟩, .slice none 0 0] := SB.struct Tryd.zeroValue72 rfl Tryd.underlying72 (fun w => by kernel_rfl)
set_option maxRecDepth 100000 in
theorem c_rGet (T : List File) (A : Option Addr) (c : Nat) (hn : T.length ≤ 2000000) (u : ByteArray) : Con Tryd.prog 44 [.slice A T.length c, .string u] [] [slA A T] (Option Addr × Nat) (fun y => .tuple #[.slice y.1 (getL T u).length y.2, .bool (hasT T u)]) (fun _ => []) (fun y => [slA y.1 (getL T u), nilA y, capA y.2 (getL T u).length]) := by
 refine con Tryd.func44 rfl Tryd.ntmps44 rfl ?_
 intro M0 F0 w0
 refine cs ?_
 refine cr ?_
 refine ls (op (p_asg rfl) rfl) ?_
 refine ls (op (p_asg rfl) rfl) ?_
 refine ln ?_
 refine nthen ?_
 refine cs ?_
 refine cs ?_
 refine cr ?_
 refine ls (op (p_asg rfl) rfl) ?_
 refine ln ?_
 refine nthen ?_
 refine cb ?_
 refine cl (ι := {q : Nat // q ≤ T.length ∧ getT (T.take q) u = none}) (fun i => St M0 F0 w0 25 [(0, .slice A T.length c), (1, .string u), (6, .int .i64 (i.1 : Int))] [] [slA A T]) (fun i => T.length - i.1) ⟨0, Nat.zero_le _, rfl⟩ (wk0 (by repeat (first | exact subσ.nil _ | refine subσ.cons rfl ?_)) (by repeat' (first | constructor | apply Sub.suf))) ?_
 rintro ⟨k, hk, hg⟩
 refine cmono (S' := St M0 F0 w0 25 [(0, .slice A T.length c), (1, .string u), (6, .int .i64 (k : Int))] [] [slA A T]) (fun _ _ h => h) ?_
 refine cs ?_
 refine cs ?_
 refine cr ?_
 refine ls (op (p_move rfl) rfl) ?_
 refine ls (op (p_move rfl) rfl) ?_
 refine ls (op (p_lenl rfl Tryd.underlying41) rfl) ?_
 refine ls (op (p_icmp rfl rfl rfl) rfl) ?_
 refine ln ?_
 refine nthen ?_
 refine cc rfl ?_ ?_
 ·
  intro h10
  try dsimp only at hk hg
  try simp only [decide_eq_true_eq, decide_eq_false_iff_not, Bool.not_eq_true', Bool.not_eq_false', Int.not_lt, Int.not_le, ge_iff_le, Bool.not_true, Bool.not_false] at h10
  have hk1 : k < T.length := by omega
  refine cskip ?_
  refine nthen ?_
  refine cs ?_
  refine cb ?_
  refine cs ?_
  refine elC (by repeat' constructor) k (List.getElem?_eq_getElem (l := T) hk1) ?_; rintro zbp zop zyp hAp
  refine cr ?_
  refine ls (op (p_move rfl) rfl) ?_
  refine ls (op (p_move rfl) rfl) ?_
  refine ls (op (p_ia k hAp hk1 rfl Tryd.underlying41 Tryd.sizeOf72 rfl rfl) rfl) ?_
  refine ls (op (p_fa fa72_0 rfl) rfl) ?_
  refine ls (o_ldi Tryd.isAgg9 rfl (by repeat' constructor) 0 rfl (by repeat (first | exact Cut.d | apply Cut.t | apply Cut.s)) rfl) ?_
  refine ls (op (p_move rfl) rfl) ?_
  refine ls (op (p_seq rfl rfl) rfl) ?_
  refine ln ?_
  refine nthen ?_
  refine cc rfl ?_ ?_
  ·
   intro h19
   try simp only [decide_eq_true_eq, decide_eq_false_iff_not, Bool.not_eq_true', Bool.not_eq_false', Int.not_lt, Int.not_le, ge_iff_le, Bool.not_true, Bool.not_false] at h19
   have hgt := getT_at hk1 hg h19
   have hl : getL T u = T[k].2 := by simp [getL, hgt]
   have hh : hasT T u = true := by simp [hasT, hgt]
   refine cs ?_
   refine cr ?_
   refine ls (op (p_move rfl) rfl) ?_
   refine ls (op (p_move rfl) rfl) ?_
   refine ls (op (p_ia k hAp hk1 rfl Tryd.underlying41 Tryd.sizeOf72 rfl rfl) rfl) ?_
   refine ls (op (p_fa fa72_1 rfl) rfl) ?_
   refine ls (o_ldi Tryd.isAgg22 rfl (by repeat' constructor) 1 rfl (by repeat (first | exact Cut.d | apply Cut.t | apply Cut.s)) rfl) ?_
   refine ls (op (p_asg rfl) rfl) ?_
   refine ls (op (p_asg rfl) rfl) ?_
   refine ln ?_
   refine nthen ?_
   refine cret ?_
   refine xret (fun _ _ h => h) ?_
   rw [hl, hh]
   refine rret (is := []) zyp (Or.inl rfl) (Res.t rfl (Res.t rfl Res.d)) (rfl) rfl (by repeat' (first | constructor | apply Sub.suf))
  ·
   intro h19
   try simp only [decide_eq_true_eq, decide_eq_false_iff_not, Bool.not_eq_true', Bool.not_eq_false', Int.not_lt, Int.not_le, ge_iff_le, Bool.not_true, Bool.not_false] at h19
   have hg2 := getT_take hk1 hg
   rw [if_neg h19] at hg2
   refine cskip ?_
   refine nblock ?_
   refine nthen ?_
   refine cr ?_
   refine ls (op (p_move rfl) rfl) ?_
   refine ls (op (p_add rfl rfl (by omega)) rfl) ?_
   refine ls (op (p_asg rfl) rfl) ?_
   refine ln ?_
   refine nnext ⟨k + 1, hk1, hg2⟩ (by dsimp only; omega) (wk0 (by repeat (first | exact subσ.nil _ | refine subσ.cons rfl ?_)) (by repeat' (first | constructor | apply Sub.suf)))
 ·
  intro h10
  try dsimp only at hk hg
  try simp only [decide_eq_true_eq, decide_eq_false_iff_not, Bool.not_eq_true', Bool.not_eq_false', Int.not_lt, Int.not_le, ge_iff_le, Bool.not_true, Bool.not_false] at h10
  rw [List.take_of_length_le (by omega)] at hg
  refine cexit ?_
  refine xthen ?_
  refine xthen ?_
  refine xblock ?_
  refine nthen ?_
  refine cs ?_
  have hl : getL T u = [] := by simp [getL, hg]
  have hh : hasT T u = false := by simp [hasT, hg]
  refine cmono (fun a w h => nilN h) ?_
  refine cr ?_
  refine ls (op (p_asg rfl) rfl) ?_
  refine ls (op (p_asg rfl) rfl) ?_
  refine ln ?_
  refine nthen ?_
  refine cret ?_
  refine xret (fun _ _ h => h) ?_
  rw [hl, hh]
  refine rret (is := []) (none, 0) (Or.inl rfl) (Res.t rfl (Res.t rfl Res.d)) (rfl) rfl (by repeat' (first | constructor | apply Sub.suf))

set_option maxRecDepth 100000 in
theorem c_rWithout (T : List File) (A : Option Addr) (c : Nat) (hn : T.length ≤ 2000000) (u : ByteArray) : Con Tryd.prog 47 [.slice A T.length c, .string u] [] [slA A T] (Option Addr × Nat) (fun y => .slice y.1 (delT T u).length y.2) (fun _ => []) (fun y => [slA y.1 (delT T u), nilA y]) := by
 refine con Tryd.func47 rfl Tryd.ntmps47 rfl ?_
 intro M0 F0 w0
 refine cs ?_
 refine cr ?_
 refine ls (op (p_asg rfl) rfl) ?_
 refine ln ?_
 refine nthen ?_
 refine cs ?_
 refine cr ?_
 refine ls (op (p_asg rfl) rfl) ?_
 refine ln ?_
 refine nthen ?_
 refine cs ?_
 refine cs ?_
 refine cmono (fun a w h => nilRow (α := File) 72 h) ?_
 refine cr ?_
 refine ls (op (p_asg rfl) rfl) ?_
 refine ln ?_
 refine nthen ?_
 refine cb ?_
 refine cl (ι := {q : Nat × Option Addr × Nat // q.1 ≤ T.length}) (fun i => St M0 F0 w0 28 [(0, .slice A T.length c), (1, .string u), (6, .int .i64 (i.1.1 : Int)), (5, .slice i.1.2.1 (delT (T.take i.1.1) u).length i.1.2.2)] [row 72 (i.1.2.1) (i.1.2.2) (delT (T.take i.1.1) u)] [slA A T]) (fun i => T.length - i.1.1) ⟨(0, none, 0), Nat.zero_le _⟩ (wk0 (by repeat (first | exact subσ.nil _ | refine subσ.cons rfl ?_)) (by repeat' (first | constructor | apply Sub.suf))) ?_
 rintro ⟨⟨k, A2, c2⟩, hk⟩
 refine cmono (S' := St M0 F0 w0 28 [(0, .slice A T.length c), (1, .string u), (6, .int .i64 (k : Int)), (5, .slice A2 (delT (T.take k) u).length c2)] [row 72 (A2) (c2) (delT (T.take k) u)] [slA A T]) (fun _ _ h => h) ?_
 refine cs ?_
 refine cs ?_
 refine cr ?_
 refine ls (op (p_move rfl) rfl) ?_
 refine ls (op (p_move rfl) rfl) ?_
 refine ls (op (p_lenl rfl Tryd.underlying41) rfl) ?_
 refine ls (op (p_icmp rfl rfl rfl) rfl) ?_
 refine ln ?_
 refine nthen ?_
 refine cc rfl ?_ ?_
 ·
  intro h10
  dsimp only at hk
  try simp only [decide_eq_true_eq, decide_eq_false_iff_not, Bool.not_eq_true', Bool.not_eq_false', Int.not_lt, Int.not_le, ge_iff_le, Bool.not_true, Bool.not_false] at h10
  have hk1 : k < T.length := by omega
  have hde := delT_succ (k := u) hk1
  have hdl : (delT (T.take k) u).length ≤ T.length := Nat.le_trans (List.length_filter_le _ _) (by rw [List.length_take]; omega)
  refine cskip ?_
  refine nthen ?_
  refine cs ?_
  refine cb ?_
  refine cs ?_
  refine elC (by repeat' constructor) k (List.getElem?_eq_getElem (l := T) hk1) ?_; rintro zbp zop zyp hAp
  refine cr ?_
  refine ls (op (p_move rfl) rfl) ?_
  refine ls (op (p_move rfl) rfl) ?_
  refine ls (op (p_ia k hAp hk1 rfl Tryd.underlying41 Tryd.sizeOf72 rfl rfl) rfl) ?_
  refine ls (op (p_fa fa72_0 rfl) rfl) ?_
  refine ls (o_ldi Tryd.isAgg9 rfl (by repeat' constructor) 0 rfl (by repeat (first | exact Cut.d | apply Cut.t | apply Cut.s)) rfl) ?_
  refine ls (op (p_move rfl) rfl) ?_
  refine ls (op (p_sne rfl rfl) rfl) ?_
  refine ln ?_
  refine nthen ?_
  refine cc rfl ?_ ?_
  ·
   intro h19
   have h20 : ¬ T[k].1 = u := by simpa using h19
   rw [if_neg h20] at hde
   refine cr ?_
   refine ls (op (p_move rfl) rfl) ?_
   refine ls (op (p_move rfl) rfl) ?_
   refine ls (op (p_move rfl) rfl) ?_
   refine ls (op (p_ia k hAp hk1 rfl Tryd.underlying41 Tryd.sizeOf72 rfl rfl) rfl) ?_
   refine ls (o_ldj Tryd.isAgg72 Tryd.sizeOf72 rfl (by repeat' constructor) 0 rfl (by repeat (first | exact Cut.d | apply Cut.t | apply Cut.s)) rfl) ?_
   refine ls (o_bsl [T[k]] Tryd.underlying41 Tryd.sizeOf72 Tryd.zeroValue72 rfl (Enum.t Enum.d) (RV.t zyp rfl (by repeat' (first | constructor | apply Sub.suf)) RV.d) rfl (by decide) (by decide) rfl) ?_
   refine le ?_; intro b25
   refine lmono (fun a w h => Go.Sx.freeze (i := 0) rfl h) ?_
   refine ls (o_app (is := [0]) Tryd.underlying41 inf72 rfl (by decide) (by decide) rfl rfl (by simp only [List.length_cons, List.length_nil]; omega) (fun h => by cases h) rfl (by repeat' (first | constructor | apply Sub.suf)) rfl) ?_
   refine le ?_; rintro ⟨A3, c3⟩
   rw [← hde]
   refine ls (op (p_asg rfl) rfl) ?_
   refine ln ?_
   refine nblock ?_
   refine nthen ?_
   refine cr ?_
   refine ls (op (p_move rfl) rfl) ?_
   refine ls (op (p_add rfl rfl (by omega)) rfl) ?_
   refine ls (op (p_asg rfl) rfl) ?_
   refine ln ?_
   refine nnext ⟨(k + 1, A3, c3), hk1⟩ (by dsimp only; omega) (wk (is := [0]) (by repeat (first | exact subσ.nil _ | refine subσ.cons rfl ?_)) rfl (by repeat' (first | constructor | apply Sub.suf)))
  ·
   intro h19
   have h20 : T[k].1 = u := by simpa using h19
   rw [if_pos h20, List.append_nil] at hde
   refine cskip ?_
   refine nblock ?_
   refine nthen ?_
   refine cr ?_
   refine ls (op (p_move rfl) rfl) ?_
   refine ls (op (p_add rfl rfl (by omega)) rfl) ?_
   refine ls (op (p_asg rfl) rfl) ?_
   refine ln ?_
   rw [← hde]
   refine nnext ⟨(k + 1, A2, c2), hk1⟩ (by dsimp only; omega) (wk (is := [0]) (by repeat (first | exact subσ.nil _ | refine subσ.cons rfl ?_)) rfl (by repeat' (first | constructor | apply Sub.suf)))
 ·
  intro h10
  dsimp only at hk
  try simp only [decide_eq_true_eq, decide_eq_false_iff_not, Bool.not_eq_true', Bool.not_eq_false', Int.not_lt, Int.not_le, ge_iff_le, Bool.not_true, Bool.not_false] at h10
  rw [List.take_of_length_le (by omega)]
  refine cexit ?_
  refine xthen ?_
  refine xthen ?_
  refine xblock ?_
  refine nthen ?_
  refine cs ?_
  refine cmono (fun a w h => freezeN (i := 0) rfl h) ?_
  refine cr ?_
  refine ls (op (p_move rfl) rfl) ?_
  refine ls (op (p_asg rfl) rfl) ?_
  refine ln ?_
  refine nthen ?_
  refine cret ?_
  refine xret (fun _ _ h => h) ?_
  refine rret (is := []) (A2, c2) (Or.inl rfl) (Res.t rfl Res.d) (rfl) rfl (by repeat' (first | constructor | apply Sub.suf))

set_option maxRecDepth 100000 in
theorem c_rWith (T : List File) (A : Option Addr) (c : Nat) (hn : T.length ≤ 2000000) (u : ByteArray) (l : List ByteArray) (B : Option Addr) (c' : Nat) : Con Tryd.prog 46 [.slice A T.length c, .string u, .slice B l.length c'] [] [slA A T, slA B l, nilA (B, c'), capA c' l.length] (Option Addr × Nat) (fun y => .slice y.1 (putT T u l).length y.2) (fun _ => []) (fun y => [slA y.1 (putT T u l), nilA y]) := by
 refine con Tryd.func46 rfl Tryd.ntmps46 rfl ?_
 intro M0 F0 w0
 refine cs ?_
 refine cr ?_
 refine ls (op (p_asg rfl) rfl) ?_
 refine ln ?_
 refine nthen ?_
 refine cs ?_
 refine cr ?_
 refine ls (op (p_asg rfl) rfl) ?_
 refine ln ?_
 refine nthen ?_
 refine cs ?_
 refine cr ?_
 refine ls (op (p_move rfl) rfl) ?_
 refine ls (op (p_move rfl) rfl) ?_
 refine ls (o_call (is := []) Tryd.call47 (c_rWithout T A c hn u) rfl rfl (by repeat' (first | constructor | apply Sub.suf)) rfl) ?_
 refine le ?_; rintro ⟨A1, c1⟩
 refine ls (op (p_asg rfl) rfl) ?_
 refine ln ?_
 refine nthen ?_
 refine cs ?_
 refine cs ?_
 have hD1 : (delT T u).length ≤ T.length := List.length_filter_le _ _
 have hput : putT T u l = (delT T u).filter (fun x => decide (kl x.1 u)) ++ (u, l) :: (delT T u).filter (fun x => decide (kl u x.1)) := rfl
 rw [hput]
 generalize delT T u = D at *
 refine cmono (fun a w h => nilRow (α := File) 72 h) ?_
 refine cr ?_
 refine ls (op (p_asg rfl) rfl) ?_
 refine ln ?_
 refine nthen ?_
 refine cb ?_
 refine cl (ι := {q : Nat × Option Addr × Nat // q.1 ≤ D.length}) (fun i => St M0 F0 w0 61 [(1, .string u), (2, .slice B l.length c'), (8, .slice A1 D.length c1), (9, .int .i64 (i.1.1 : Int)), (7, .slice i.1.2.1 ((D.take i.1.1).filter (fun x => decide (kl x.1 u))).length i.1.2.2)] [row 72 (i.1.2.1) (i.1.2.2) ((D.take i.1.1).filter (fun x => decide (kl x.1 u)))] [slA A1 D, slA B l, nilA (B, c'), capA c' l.length]) (fun i => D.length - i.1.1) ⟨(0, none, 0), Nat.zero_le _⟩ (wk0 (by repeat (first | exact subσ.nil _ | refine subσ.cons rfl ?_)) (by repeat' (first | constructor | apply Sub.suf))) ?_
 rintro ⟨⟨k, A2, c2⟩, hk⟩
 refine cmono (S' := St M0 F0 w0 61 [(1, .string u), (2, .slice B l.length c'), (8, .slice A1 D.length c1), (9, .int .i64 (k : Int)), (7, .slice A2 ((D.take k).filter (fun x => decide (kl x.1 u))).length c2)] [row 72 (A2) (c2) ((D.take k).filter (fun x => decide (kl x.1 u)))] [slA A1 D, slA B l, nilA (B, c'), capA c' l.length]) (fun _ _ h => h) ?_
 refine cs ?_
 refine cs ?_
 refine cr ?_
 refine ls (op (p_move rfl) rfl) ?_
 refine ls (op (p_move rfl) rfl) ?_
 refine ls (op (p_lenl rfl Tryd.underlying41) rfl) ?_
 refine ls (op (p_icmp rfl rfl rfl) rfl) ?_
 refine ln ?_
 refine nthen ?_
 refine cc rfl ?_ ?_
 ·
  intro h17
  dsimp only at hk
  try simp only [decide_eq_true_eq, decide_eq_false_iff_not, Bool.not_eq_true', Bool.not_eq_false', Int.not_lt, Int.not_le, ge_iff_le, Bool.not_true, Bool.not_false] at h17
  have hk1 : k < D.length := by omega
  have hde := filt_succ (p := fun x => decide (kl x.1 u)) hk1
  have hdl : ((D.take k).filter (fun x => decide (kl x.1 u))).length ≤ D.length := Nat.le_trans (List.length_filter_le _ _) (by rw [List.length_take]; omega)
  refine cskip ?_
  refine nthen ?_
  refine cs ?_
  refine cb ?_
  refine cs ?_
  refine elC (by repeat' constructor) k (List.getElem?_eq_getElem (l := D) hk1) ?_; rintro zbp zop zyp hAp
  refine cr ?_
  refine ls (op (p_move rfl) rfl) ?_
  refine ls (op (p_move rfl) rfl) ?_
  refine ls (op (p_ia k hAp hk1 rfl Tryd.underlying41 Tryd.sizeOf72 rfl rfl) rfl) ?_
  refine ls (op (p_fa fa72_0 rfl) rfl) ?_
  refine ls (o_ldi Tryd.isAgg9 rfl (by repeat' constructor) 0 rfl (by repeat (first | exact Cut.d | apply Cut.t | apply Cut.s)) rfl) ?_
  refine ls (op (p_move rfl) rfl) ?_
  refine ls (op (p_slt rfl rfl) rfl) ?_
  refine ln ?_
  refine nthen ?_
  refine cc rfl ?_ ?_
  ·
   intro h26
   have h27 : decide (kl D[k].1 u) = true := by rw [less_kl] at h26; exact h26
   rw [if_pos h27] at hde
   refine cr ?_
   refine ls (op (p_move rfl) rfl) ?_
   refine ls (op (p_move rfl) rfl) ?_
   refine ls (op (p_move rfl) rfl) ?_
   refine ls (op (p_ia k hAp hk1 rfl Tryd.underlying41 Tryd.sizeOf72 rfl rfl) rfl) ?_
   refine ls (o_ldj Tryd.isAgg72 Tryd.sizeOf72 rfl (by repeat' constructor) 0 rfl (by repeat (first | exact Cut.d | apply Cut.t | apply Cut.s)) rfl) ?_
   refine ls (o_bsl [D[k]] Tryd.underlying41 Tryd.sizeOf72 Tryd.zeroValue72 rfl (Enum.t Enum.d) (RV.t zyp rfl (by repeat' (first | constructor | apply Sub.suf)) RV.d) rfl (by decide) (by decide) rfl) ?_
   refine le ?_; intro b32
   refine lmono (fun a w h => Go.Sx.freeze (i := 0) rfl h) ?_
   refine ls (o_app (is := [0]) Tryd.underlying41 inf72 rfl (by decide) (by decide) rfl rfl (by simp only [List.length_cons, List.length_nil]; omega) (fun h => by cases h) rfl (by repeat' (first | constructor | apply Sub.suf)) rfl) ?_
   refine le ?_; rintro ⟨A3, c3⟩
   rw [← hde]
   refine ls (op (p_asg rfl) rfl) ?_
   refine ln ?_
   refine nblock ?_
   refine nthen ?_
   refine cr ?_
   refine ls (op (p_move rfl) rfl) ?_
   refine ls (op (p_add rfl rfl (by omega)) rfl) ?_
   refine ls (op (p_asg rfl) rfl) ?_
   refine ln ?_
   refine nnext ⟨(k + 1, A3, c3), hk1⟩ (by dsimp only; omega) (wk (is := [0]) (by repeat (first | exact subσ.nil _ | refine subσ.cons rfl ?_)) rfl (by repeat' (first | constructor | apply Sub.suf)))
  ·
   intro h26
   have h27 : ¬ decide (kl D[k].1 u) = true := by rw [less_kl] at h26; rw [h26]; decide
   rw [if_neg h27, List.append_nil] at hde
   refine cskip ?_
   refine nblock ?_
   refine nthen ?_
   refine cr ?_
   refine ls (op (p_move rfl) rfl) ?_
   refine ls (op (p_add rfl rfl (by omega)) rfl) ?_
   refine ls (op (p_asg rfl) rfl) ?_
   refine ln ?_
   rw [← hde]
   refine nnext ⟨(k + 1, A2, c2), hk1⟩ (by dsimp only; omega) (wk (is := [0]) (by repeat (first | exact subσ.nil _ | refine subσ.cons rfl ?_)) rfl (by repeat' (first | constructor | apply Sub.suf)))
 ·
  intro h17
  dsimp only at hk
  try simp only [decide_eq_true_eq, decide_eq_false_iff_not, Bool.not_eq_true', Bool.not_eq_false', Int.not_lt, Int.not_le, ge_iff_le, Bool.not_true, Bool.not_false] at h17
  rw [List.take_of_length_le (by omega)]
  have hd2 : (D.filter (fun x => decide (kl x.1 u))).length ≤ D.length := List.length_filter_le _ _
  refine cexit ?_
  refine xthen ?_
  refine xthen ?_
  refine xblock ?_
  refine nthen ?_
  refine cs ?_
  refine cr ?_
  refine ls (op (p_move rfl) rfl) ?_
  refine ls (op (p_move rfl) rfl) ?_
  refine ls (op (p_move rfl) rfl) ?_
  refine ls (op (p_bld sb72 rfl (Fill.t (by repeat' constructor) rfl rfl (by repeat' constructor) (Fill.t (by repeat' constructor) rfl rfl (by repeat' constructor) Fill.d))) rfl) ?_
  refine ls (o_bsl [((u, l) : File)] Tryd.underlying41 Tryd.sizeOf72 Tryd.zeroValue72 rfl (Enum.t Enum.d) (RV.t (B, c') rfl (by repeat' (first | constructor | apply Sub.suf)) RV.d) rfl (by decide) (by decide) rfl) ?_
  refine le ?_; intro b38
  refine lmono (fun a w h => Go.Sx.freeze (i := 0) rfl h) ?_
  refine ls (o_app (is := [0]) Tryd.underlying41 inf72 rfl (by decide) (by decide) rfl rfl (by simp only [List.length_cons, List.length_nil]; omega) (fun h => by cases h) rfl (by repeat' (first | constructor | apply Sub.suf)) rfl) ?_
  refine le ?_; rintro ⟨A4, c4⟩
  refine ls (op (p_asg rfl) rfl) ?_
  refine ln ?_
  refine nthen ?_
  refine cs ?_
  refine cs ?_
  refine cr ?_
  refine ls (op (p_asg rfl) rfl) ?_
  refine ln ?_
  refine nthen ?_
  refine cb ?_
  refine cl (ι := {q : Nat × Option Addr × Nat // q.1 ≤ D.length}) (fun i => St M0 F0 w0 61 [(1, .string u), (8, .slice A1 D.length c1), (10, .int .i64 (i.1.1 : Int)), (7, .slice i.1.2.1 (D.filter (fun x => decide (kl x.1 u)) ++ (u, l) :: (D.take i.1.1).filter (fun x => decide (kl u x.1))).length i.1.2.2)] [row 72 (i.1.2.1) (i.1.2.2) (D.filter (fun x => decide (kl x.1 u)) ++ (u, l) :: (D.take i.1.1).filter (fun x => decide (kl u x.1)))] [slA A1 D]) (fun i => D.length - i.1.1) ⟨(0, A4, c4), Nat.zero_le _⟩ (wk0 (by repeat (first | exact subσ.nil _ | refine subσ.cons rfl ?_)) (by repeat' (first | constructor | apply Sub.suf))) ?_
  rintro ⟨⟨j, A5, c5⟩, hj⟩
  refine cmono (S' := St M0 F0 w0 61 [(1, .string u), (8, .slice A1 D.length c1), (10, .int .i64 (j : Int)), (7, .slice A5 (D.filter (fun x => decide (kl x.1 u)) ++ (u, l) :: (D.take j).filter (fun x => decide (kl u x.1))).length c5)] [row 72 (A5) (c5) (D.filter (fun x => decide (kl x.1 u)) ++ (u, l) :: (D.take j).filter (fun x => decide (kl u x.1)))] [slA A1 D]) (fun _ _ h => h) ?_
  refine cs ?_
  refine cs ?_
  refine cr ?_
  refine ls (op (p_move rfl) rfl) ?_
  refine ls (op (p_move rfl) rfl) ?_
  refine ls (op (p_lenl rfl Tryd.underlying41) rfl) ?_
  refine ls (op (p_icmp rfl rfl rfl) rfl) ?_
  refine ln ?_
  refine nthen ?_
  refine cc rfl ?_ ?_
  ·
   intro h43
   dsimp only at hj
   try simp only [decide_eq_true_eq, decide_eq_false_iff_not, Bool.not_eq_true', Bool.not_eq_false', Int.not_lt, Int.not_le, ge_iff_le, Bool.not_true, Bool.not_false] at h43
   have hj1 : j < D.length := by omega
   have hdf := filt_succ (p := fun x => decide (kl u x.1)) hj1
   have hdl2 : ((D.take j).filter (fun x => decide (kl u x.1))).length ≤ D.length := Nat.le_trans (List.length_filter_le _ _) (by rw [List.length_take]; omega)
   refine cskip ?_
   refine nthen ?_
   refine cs ?_
   refine cb ?_
   refine cs ?_
   refine elC (by repeat' constructor) j (List.getElem?_eq_getElem (l := D) hj1) ?_; rintro zbq zoq zyq hAq
   refine cr ?_
   refine ls (op (p_move rfl) rfl) ?_
   refine ls (op (p_move rfl) rfl) ?_
   refine ls (op (p_ia j hAq hj1 rfl Tryd.underlying41 Tryd.sizeOf72 rfl rfl) rfl) ?_
   refine ls (op (p_fa fa72_0 rfl) rfl) ?_
   refine ls (o_ldi Tryd.isAgg9 rfl (by repeat' constructor) 0 rfl (by repeat (first | exact Cut.d | apply Cut.t | apply Cut.s)) rfl) ?_
   refine ls (op (p_move rfl) rfl) ?_
   refine ls (op (p_sgt rfl rfl) rfl) ?_
   refine ln ?_
   refine nthen ?_
   refine cc rfl ?_ ?_
   ·
    intro h52
    have h53 : decide (kl u D[j].1) = true := by rw [more_kl] at h52; exact h52
    rw [if_pos h53] at hdf
    refine cr ?_
    refine ls (op (p_move rfl) rfl) ?_
    refine ls (op (p_move rfl) rfl) ?_
    refine ls (op (p_move rfl) rfl) ?_
    refine ls (op (p_ia j hAq hj1 rfl Tryd.underlying41 Tryd.sizeOf72 rfl rfl) rfl) ?_
    refine ls (o_ldj Tryd.isAgg72 Tryd.sizeOf72 rfl (by repeat' constructor) 0 rfl (by repeat (first | exact Cut.d | apply Cut.t | apply Cut.s)) rfl) ?_
    refine ls (o_bsl [D[j]] Tryd.underlying41 Tryd.sizeOf72 Tryd.zeroValue72 rfl (Enum.t Enum.d) (RV.t zyq rfl (by repeat' (first | constructor | apply Sub.suf)) RV.d) rfl (by decide) (by decide) rfl) ?_
    refine le ?_; intro b58
    refine lmono (fun a w h => Go.Sx.freeze (i := 0) rfl h) ?_
    refine ls (o_app (is := [0]) Tryd.underlying41 inf72 rfl (by decide) (by decide) rfl rfl (app_len3 (m := D.length) hd2 hdl2 (by omega) (by decide)) (fun h => by cases h) rfl (by repeat' (first | constructor | apply Sub.suf)) rfl) ?_
    refine le ?_; rintro ⟨A6, c6⟩
    rw [app3, ← hdf]
    refine ls (op (p_asg rfl) rfl) ?_
    refine ln ?_
    refine nblock ?_
    refine nthen ?_
    refine cr ?_
    refine ls (op (p_move rfl) rfl) ?_
    refine ls (op (p_add rfl rfl (by omega)) rfl) ?_
    refine ls (op (p_asg rfl) rfl) ?_
    refine ln ?_
    refine nnext ⟨(j + 1, A6, c6), hj1⟩ (by dsimp only; omega) (wk (is := [0]) (by repeat (first | exact subσ.nil _ | refine subσ.cons rfl ?_)) rfl (by repeat' (first | constructor | apply Sub.suf)))
   ·
    intro h52
    have h53 : ¬ decide (kl u D[j].1) = true := by rw [more_kl] at h52; rw [h52]; decide
    rw [if_neg h53, List.append_nil] at hdf
    refine cskip ?_
    refine nblock ?_
    refine nthen ?_
    refine cr ?_
    refine ls (op (p_move rfl) rfl) ?_
    refine ls (op (p_add rfl rfl (by omega)) rfl) ?_
    refine ls (op (p_asg rfl) rfl) ?_
    refine ln ?_
    rw [← hdf]
    refine nnext ⟨(j + 1, A5, c5), hj1⟩ (by dsimp only; omega) (wk (is := [0]) (by repeat (first | exact subσ.nil _ | refine subσ.cons rfl ?_)) rfl (by repeat' (first | constructor | apply Sub.suf)))
  ·
   intro h43
   dsimp only at hj
   try simp only [decide_eq_true_eq, decide_eq_false_iff_not, Bool.not_eq_true', Bool.not_eq_false', Int.not_lt, Int.not_le, ge_iff_le, Bool.not_true, Bool.not_false] at h43
   rw [List.take_of_length_le (by omega)]
   refine cexit ?_
   refine xthen ?_
   refine xthen ?_
   refine xblock ?_
   refine nthen ?_
   refine cs ?_
   refine cmono (fun a w h => freezeN (i := 0) rfl h) ?_
   refine cr ?_
   refine ls (op (p_move rfl) rfl) ?_
   refine ls (op (p_asg rfl) rfl) ?_
   refine ln ?_
   refine nthen ?_
   refine cret ?_
   refine xret (fun _ _ h => h) ?_
   refine rret (is := []) (A5, c5) (Or.inl rfl) (Res.t rfl Res.d) (rfl) rfl (by repeat' (first | constructor | apply Sub.suf))

set_option maxRecDepth 100000 in
theorem c_rDo (T : List File) (A : Option Addr) (c : Nat) (hn : T.length ≤ 2000000) (o : TOp) (y : Option Addr × Nat) (ho : o.fit) (hg : ∀ k, (getL T k).length ≤ 2000000) : Con Tryd.prog 31 [.slice A T.length c, sv o y] [] [slA A T, slA y.1 o.l, nilA y] {q : (List File × Int) × (Option Addr × Nat) // q.1 = doT T o} (fun q => .tuple #[.slice q.1.2.1 q.1.1.1.length q.1.2.2, .int .i64 q.1.1.2]) (fun _ => []) (fun q => [slA q.1.2.1 q.1.1.1]) := by
 refine con Tryd.func31 rfl Tryd.ntmps31 rfl ?_
 intro M0 F0 w0
 refine cs ?_
 refine cr ?_
 refine ls (o_box rfl rfl rfl) ?_
 refine le ?_; intro b3
 refine ls (op (p_asg rfl) rfl) ?_
 refine ls (op (p_asg rfl) rfl) ?_
 refine ln ?_
 refine nthen ?_
 refine cs ?_
 refine cr ?_
 refine ls (op (p_move rfl) rfl) ?_
 refine ls (op (p_fa fa66_1 rfl) rfl) ?_
 refine ls (o_ld Tryd.isAgg9 rfl (by repeat' constructor) (by repeat' constructor) rfl) ?_
 refine ls (o_call (is := []) Tryd.call44 (c_rGet T A c hn o.name) rfl rfl (by repeat' (first | constructor | apply Sub.suf)) rfl) ?_
 refine le ?_; rintro ⟨B1, e1⟩
 refine ls (op (p_move rfl) rfl) ?_
 refine ls (op (p_ext rfl (by repeat' constructor)) rfl) ?_
 refine ls (op (p_ext rfl (by repeat' constructor)) rfl) ?_
 refine ls (op (p_asg rfl) rfl) ?_
 refine ls (op (p_asg rfl) rfl) ?_
 refine ln ?_
 refine nthen ?_
 refine cs ?_
 refine cs ?_
 refine cr ?_
 refine ls (op (p_fa fa66_0 rfl) rfl) ?_
 refine ls (o_ld Tryd.isAgg3 rfl (by repeat' constructor) (by repeat' constructor) rfl) ?_
 refine ln ?_
 refine nthen ?_
 refine cb ?_
 refine cs ?_
 refine cr ?_
 refine ls (op (p_icmp rfl rfl rfl) rfl) ?_
 refine ls (op (p_asg rfl) rfl) ?_
 refine ln ?_
 refine nthen ?_
 refine cc rfl ?_ ?_
 ·
  intro h19
  have k0 : o.kind = 0 := by simpa using h19
  refine cs ?_
  refine cs ?_
  refine cr ?_
  refine ls (op (p_fa fa66_1 rfl) rfl) ?_
  refine ls (o_ld Tryd.isAgg9 rfl (by repeat' constructor) (by repeat' constructor) rfl) ?_
  refine ls (o_call (is := []) Tryd.call45 (c_refNamed o.name ho.1) rfl rfl (by repeat' (first | constructor | apply Sub.suf)) rfl) ?_
  refine le ?_; intro x23
  refine ls (op (p_not rfl) rfl) ?_
  refine ln ?_
  refine nthen ?_
  refine cc rfl ?_ ?_
  ·
   intro h24
   refine cs ?_
   refine cr ?_
   refine ls (op (p_move rfl) rfl) ?_
   refine ls (op (p_asg rfl) rfl) ?_
   refine ls (op (p_asg rfl) rfl) ?_
   refine ln ?_
   refine nthen ?_
   refine cret ?_
   refine xret (fun _ _ h => h) ?_
   refine rret (is := []) ⟨((T, 20), (A, c)), by simp at h24; simp [doT, k0, tAdd, h24]⟩ (Or.inl rfl) (Res.t rfl (Res.t rfl Res.d)) (rfl) rfl (by repeat' (first | constructor | apply Sub.suf))
  ·
   intro h24
   refine cskip ?_
   refine nthen ?_
   refine cs ?_
   refine cs ?_
   refine cr ?_
   refine ls (op (p_move rfl) rfl) ?_
   refine ln ?_
   refine nthen ?_
   refine cc rfl ?_ ?_
   ·
    intro h26
    refine cs ?_
    refine cr ?_
    refine ls (op (p_move rfl) rfl) ?_
    refine ls (op (p_asg rfl) rfl) ?_
    refine ls (op (p_asg rfl) rfl) ?_
    refine ln ?_
    refine nthen ?_
    refine cret ?_
    refine xret (fun _ _ h => h) ?_
    refine rret (is := []) ⟨((T, 21), (A, c)), by simp at h24; simp [doT, k0, tAdd, h24, h26]⟩ (Or.inl rfl) (Res.t rfl (Res.t rfl Res.d)) (rfl) rfl (by repeat' (first | constructor | apply Sub.suf))
   ·
    intro h26
    refine cskip ?_
    refine nthen ?_
    refine cs ?_
    refine cmono (fun a w h => nilN h) ?_
    refine cr ?_
    refine ls (op (p_move rfl) rfl) ?_
    refine ls (op (p_fa fa66_1 rfl) rfl) ?_
    refine ls (o_ld Tryd.isAgg9 rfl (by repeat' constructor) (by repeat' constructor) rfl) ?_
    refine ls (o_call (is := []) Tryd.call46 (c_rWith T A c hn o.name [] none 0) rfl rfl (by repeat' (first | constructor | apply Sub.suf)) rfl) ?_
    refine le ?_; intro z31
    refine ls (op (p_asg rfl) rfl) ?_
    refine ls (op (p_asg rfl) rfl) ?_
    refine ln ?_
    refine nthen ?_
    refine cret ?_
    refine xret (fun _ _ h => h) ?_
    refine rret (is := []) ⟨((putT T o.name [], 0), z31), by simp at h24; simp [doT, k0, tAdd, h24, h26]⟩ (Or.inl rfl) (Res.t rfl (Res.t rfl Res.d)) (rfl) rfl (by repeat' (first | constructor | apply Sub.suf))
 ·
  intro h19
  have k0 : ¬ o.kind = 0 := by simpa using h19
  refine cs ?_
  refine cr ?_
  refine ls (op (p_icmp rfl rfl rfl) rfl) ?_
  refine ls (op (p_asg rfl) rfl) ?_
  refine ln ?_
  refine nthen ?_
  refine cc rfl ?_ ?_
  ·
   intro h32
   have k1 : o.kind = 1 := by simpa using h32
   refine cs ?_
   refine cs ?_
   refine cr ?_
   refine ls (op (p_move rfl) rfl) ?_
   refine ls (op (p_not rfl) rfl) ?_
   refine ln ?_
   refine nthen ?_
   refine cc rfl ?_ ?_
   ·
    intro h35
    refine cs ?_
    refine cr ?_
    refine ls (op (p_move rfl) rfl) ?_
    refine ls (op (p_asg rfl) rfl) ?_
    refine ls (op (p_asg rfl) rfl) ?_
    refine ln ?_
    refine nthen ?_
    refine cret ?_
    refine xret (fun _ _ h => h) ?_
    refine rret (is := []) ⟨((T, 20), (A, c)), by simp at h35; simp [doT, k1, tRem, h35]⟩ (Or.inl rfl) (Res.t rfl (Res.t rfl Res.d)) (rfl) rfl (by repeat' (first | constructor | apply Sub.suf))
   ·
    intro h35
    refine cskip ?_
    refine nthen ?_
    refine cs ?_
    refine cs ?_
    refine cr ?_
    refine ls (op (p_move rfl) rfl) ?_
    refine ls (op (p_lenl rfl Tryd.underlying22) rfl) ?_
    refine ls (op (p_icmp rfl rfl rfl) rfl) ?_
    refine ln ?_
    refine nthen ?_
    refine cc rfl ?_ ?_
    ·
     intro h39
     refine cs ?_
     refine cr ?_
     refine ls (op (p_move rfl) rfl) ?_
     refine ls (op (p_asg rfl) rfl) ?_
     refine ls (op (p_asg rfl) rfl) ?_
     refine ln ?_
     refine nthen ?_
     refine cret ?_
     refine xret (fun _ _ h => h) ?_
     refine rret (is := []) ⟨((T, 22), (A, c)), by simp at h35; have h : 0 < (getL T o.name).length := (by simp at h39; omega); simp [doT, k1, tRem, h35, h]⟩ (Or.inl rfl) (Res.t rfl (Res.t rfl Res.d)) (rfl) rfl (by repeat' (first | constructor | apply Sub.suf))
    ·
     intro h39
     refine cskip ?_
     refine nthen ?_
     refine cs ?_
     refine cr ?_
     refine ls (op (p_move rfl) rfl) ?_
     refine ls (op (p_fa fa66_1 rfl) rfl) ?_
     refine ls (o_ld Tryd.isAgg9 rfl (by repeat' constructor) (by repeat' constructor) rfl) ?_
     refine ls (o_call (is := []) Tryd.call47 (c_rWithout T A c hn o.name) rfl rfl (by repeat' (first | constructor | apply Sub.suf)) rfl) ?_
     refine le ?_; intro z44
     refine ls (op (p_asg rfl) rfl) ?_
     refine ls (op (p_asg rfl) rfl) ?_
     refine ln ?_
     refine nthen ?_
     refine cret ?_
     refine xret (fun _ _ h => h) ?_
     refine rret (is := []) ⟨((delT T o.name, 0), z44), by simp at h35; have h : ¬ 0 < (getL T o.name).length := (by simp at h39; simp [h39]); simp [doT, k1, tRem, h35, h]⟩ (Or.inl rfl) (Res.t rfl (Res.t rfl Res.d)) (rfl) rfl (by repeat' (first | constructor | apply Sub.suf))
  ·
   intro h32
   have k1 : ¬ o.kind = 1 := by simpa using h32
   refine cs ?_
   refine cr ?_
   refine ls (op (p_icmp rfl rfl rfl) rfl) ?_
   refine ls (op (p_asg rfl) rfl) ?_
   refine ln ?_
   refine nthen ?_
   refine cc rfl ?_ ?_
   ·
    intro h45
    have k2 : o.kind = 2 := by simpa using h45
    refine cs ?_
    refine cs ?_
    refine cr ?_
    refine ls (op (p_move rfl) rfl) ?_
    refine ls (op (p_not rfl) rfl) ?_
    refine ls (op (p_move rfl) rfl) ?_
    refine orX 5 49 54 rfl (subσ.cons (t := 0) rfl (subσ.cons (t := 1) rfl (subσ.cons (t := 3) rfl (subσ.cons (t := 4) rfl (subσ.cons (t := 5) rfl (subσ.cons (t := 11) rfl (subσ.cons (t := 12) rfl (subσ.cons (t := 13) rfl (subσ.cons (t := 14) rfl (subσ.cons (t := 10) rfl (subσ.cons (t := 15) rfl (subσ.cons (t := 16) rfl (subσ.cons (t := 6) rfl (subσ.cons (t := 7) rfl (subσ.cons (t := 17) rfl (subσ.cons (t := 18) rfl (subσ.cons (t := 20) rfl (subσ.cons (t := 19) rfl (subσ.cons (t := 33) rfl (subσ.cons (t := 32) rfl (subσ.cons (t := 46) rfl (subσ.cons (t := 45) rfl (subσ.nil _))))))))))))))))))))))) ?_ ?_
    ·
     intro h49
     refine lskip rfl rfl rfl rfl rfl ?_
     refine lskip rfl rfl rfl rfl rfl ?_
     refine lskip rfl rfl rfl rfl rfl ?_
     refine lskip rfl rfl rfl rfl rfl ?_
     refine ls (op (p_pickt rfl rfl) rfl) ?_
     refine ln (nmid (wk0 (by repeat (first | exact subσ.nil _ | refine subσ.cons rfl ?_)) (by repeat' (first | constructor | apply Sub.suf))))
    apply exI
    ·
     intro h49
     refine lwant rfl rfl rfl rfl (op (p_fa fa66_2 rfl) rfl) ?_
     refine lwant rfl rfl rfl rfl (o_ld Tryd.isAgg9 rfl (by repeat' constructor) (by repeat' constructor) rfl) ?_
     refine lwant rfl rfl rfl rfl (o_call (is := []) Tryd.call45 (c_refNamed o.to ho.2.1) rfl rfl (by repeat' (first | constructor | apply Sub.suf)) rfl) ?_
     refine le ?_; intro x52
     refine lwant rfl rfl rfl rfl (op (p_not rfl) rfl) ?_
     refine ls (op (p_pickf rfl rfl) rfl) ?_
     refine ln (nmid (wk0 (by repeat (first | exact subσ.nil _ | refine subσ.cons rfl ?_)) (by repeat' (first | constructor | apply Sub.suf))))
    ·
     refine ln ?_
     refine nthen ?_
     refine cc rfl ?_ ?_
     ·
      intro h54
      refine cs ?_
      refine cr ?_
      refine ls (op (p_move rfl) rfl) ?_
      refine ls (op (p_asg rfl) rfl) ?_
      refine ls (op (p_asg rfl) rfl) ?_
      refine ln ?_
      refine nthen ?_
      refine cret ?_
      refine xret (fun _ _ h => h) ?_
      refine rret (is := []) ⟨((T, 20), (A, c)), by simp at h54; simp [doT, k2, rMove, h54]⟩ (Or.inl rfl) (Res.t rfl (Res.t rfl Res.d)) (rfl) rfl (by repeat' (first | constructor | apply Sub.suf))
     ·
      intro h54
      refine cskip ?_
      refine nthen ?_
      refine cs ?_
      refine cr ?_
      refine ls (op (p_move rfl) rfl) ?_
      refine ls (op (p_fa fa66_2 rfl) rfl) ?_
      refine ls (o_ld Tryd.isAgg9 rfl (by repeat' constructor) (by repeat' constructor) rfl) ?_
      refine ls (o_call (is := []) Tryd.call44 (c_rGet T A c hn o.to) rfl rfl (by repeat' (first | constructor | apply Sub.suf)) rfl) ?_
      refine le ?_; rintro ⟨B2, e2⟩
      refine ls (op (p_move rfl) rfl) ?_
      refine ls (op (p_ext rfl (by repeat' constructor)) rfl) ?_
      refine ls (op (p_ext rfl (by repeat' constructor)) rfl) ?_
      refine ls (op (p_asg rfl) rfl) ?_
      refine ls (op (p_asg rfl) rfl) ?_
      refine ln ?_
      refine nthen ?_
      refine cs ?_
      refine cs ?_
      refine cr ?_
      refine ls (op (p_move rfl) rfl) ?_
      refine ln ?_
      refine nthen ?_
      refine cc rfl ?_ ?_
      ·
       intro h63
       refine cs ?_
       refine cr ?_
       refine ls (op (p_move rfl) rfl) ?_
       refine ls (op (p_asg rfl) rfl) ?_
       refine ls (op (p_asg rfl) rfl) ?_
       refine ln ?_
       refine nthen ?_
       refine cret ?_
       refine xret (fun _ _ h => h) ?_
       refine rret (is := []) ⟨((T, 21), (A, c)), by simp at h54; simp [doT, k2, rMove, h54, h63]⟩ (Or.inl rfl) (Res.t rfl (Res.t rfl Res.d)) (rfl) rfl (by repeat' (first | constructor | apply Sub.suf))
      ·
       intro h63
       refine cskip ?_
       refine nthen ?_
       refine cs ?_
       have hdn : (delT T o.name).length ≤ 2000000 := Nat.le_trans (List.length_filter_le _ _) hn
       refine cd [3, 7] [(2, b3, 1, _), (5, b3, 2, _)] TrydX.mixed (TOk.t (isBoxS (by repeat' constructor) (k := 1) (by repeat (first | exact Cut.d | apply Cut.t | apply Cut.s))) (TOk.t (isBoxS (by repeat' constructor) (k := 1) (by repeat (first | exact Cut.d | apply Cut.t | apply Cut.s))) TOk.d)) ?_
       refine tk 0 rfl (by kernel_rfl) (fun _ _ _ h => h) gnone (TTany _) (p_move rfl) rfl ?_
       refine tk 1 rfl (by kernel_rfl) (fun _ _ _ h => h) gnone (TTany _) (p_fa fa66_1 rfl) rfl ?_
       refine tk 2 rfl (by kernel_rfl) (fun _ _ _ h => h) gnone (TTat (List.Mem.head _)) (p_ld Tryd.isAgg9 rfl) rfl ?_
       refine tk 4 rfl (by kernel_rfl) (fun _ _ _ h => h) gnone (TTany _) (p_fa fa66_2 rfl) rfl ?_
       refine tk 5 rfl (by kernel_rfl) (fun _ _ _ h => h) gnone (TTat (List.Mem.tail _ (List.Mem.head _))) (p_ld Tryd.isAgg9 rfl) rfl ?_
       refine tk 6 rfl (by kernel_rfl) (fun _ _ _ h => h) gnone (TTany _) (p_move rfl) rfl ?_
       refine df 3 (by kernel_rfl) ?_
       refine doR rfl (o_call (is := []) Tryd.call47 (c_rWithout T A c hn o.name) rfl rfl (by repeat' (first | constructor | apply Sub.suf)) rfl) (TOk.x (by kernel_rfl) (TOk.t (isBoxE fun _ => isBoxS (by repeat' constructor) (k := 1) (by repeat (first | exact Cut.d | apply Cut.t | apply Cut.s))) TOk.d)) ?_
       refine ea ?_; rintro ⟨A3, c3⟩
       refine df 7 (by kernel_rfl) ?_
       refine doR rfl (o_call (is := []) Tryd.call46 (c_rWith (delT T o.name) A3 c3 hdn o.to (getL T o.name) B1 e1) rfl rfl (by repeat' (first | constructor | apply Sub.suf)) rfl) (TOk.x (by kernel_rfl) (TOk.x (by kernel_rfl) TOk.d)) ?_
       refine ea ?_; intro z72
       refine tk 8 rfl (by kernel_rfl) (fun _ _ _ h => h) gnone (TTany _) (p_asg rfl) rfl ?_
       refine tk 9 rfl (by kernel_rfl) (fun _ _ _ h => h) gnone (TTany _) (p_asg rfl) rfl ?_
       refine dn (by kernel_rfl) ?_
       refine nthen ?_
       refine cret ?_
       refine xret (fun _ _ h => h) ?_
       refine rret (is := []) ⟨((putT (delT T o.name) o.to (getL T o.name), 0), z72), by simp at h54; simp [doT, k2, rMove, h54, h63]⟩ (Or.inl rfl) (Res.t rfl (Res.t rfl Res.d)) (rfl) rfl (by repeat' (first | constructor | apply Sub.suf))
   ·
    intro h45
    have k2 : ¬ o.kind = 2 := by simpa using h45
    refine cs ?_
    refine cr ?_
    refine ls (op (p_icmp rfl rfl rfl) rfl) ?_
    refine ls (op (p_asg rfl) rfl) ?_
    refine ln ?_
    refine nthen ?_
    refine cc rfl ?_ ?_
    ·
     intro h73
     have k3 : o.kind = 3 := by simpa using h73
     refine cs ?_
     refine cs ?_
     refine cr ?_
     refine ls (op (p_move rfl) rfl) ?_
     refine ls (op (p_not rfl) rfl) ?_
     refine ln ?_
     refine nthen ?_
     refine cc rfl ?_ ?_
     ·
      intro h76
      refine cs ?_
      refine cr ?_
      refine ls (op (p_move rfl) rfl) ?_
      refine ls (op (p_asg rfl) rfl) ?_
      refine ls (op (p_asg rfl) rfl) ?_
      refine ln ?_
      refine nthen ?_
      refine cret ?_
      refine xret (fun _ _ h => h) ?_
      refine rret (is := []) ⟨((T, 20), (A, c)), by simp at h76; simp [doT, k3, tPut, h76]⟩ (Or.inl rfl) (Res.t rfl (Res.t rfl Res.d)) (rfl) rfl (by repeat' (first | constructor | apply Sub.suf))
     ·
      intro h76
      refine cskip ?_
      refine nthen ?_
      refine cs ?_
      refine cs ?_
      refine cr ?_
      refine ls (op (p_fa fa66_3 rfl) rfl) ?_
      refine ls (o_ld Tryd.isAgg22 rfl (by repeat' constructor) (by repeat' constructor) rfl) ?_
      refine ls (o_call (is := []) Tryd.call20 (c_refAll o.l y.1 y.2 ho.2.2.1 ho.2.2.2) rfl rfl (by repeat' (first | constructor | apply Sub.suf)) rfl) ?_
      refine le ?_; intro x80
      refine ls (op (p_not rfl) rfl) ?_
      refine ln ?_
      refine nthen ?_
      refine cc rfl ?_ ?_
      ·
       intro h81
       refine cs ?_
       refine cr ?_
       refine ls (op (p_move rfl) rfl) ?_
       refine ls (op (p_asg rfl) rfl) ?_
       refine ls (op (p_asg rfl) rfl) ?_
       refine ln ?_
       refine nthen ?_
       refine cret ?_
       refine xret (fun _ _ h => h) ?_
       refine rret (is := []) ⟨((T, 1), (A, c)), by simp only [Bool.not_eq_false'] at h76; simp only [Bool.not_eq_true'] at h81; simp only [doT, k3, tPut, h76, h81]; simp⟩ (Or.inl rfl) (Res.t rfl (Res.t rfl Res.d)) (rfl) rfl (by repeat' (first | constructor | apply Sub.suf))
      ·
       intro h81
       refine cskip ?_
       refine nthen ?_
       refine cs ?_
       refine nilP (y := y) (by repeat' constructor) (fun hnl => ?_)
       refine cd [3, 6, 7] [(2, b3, 1, _), (5, b3, 3, _)] TrydX.mixed (TOk.t (isBoxS (by repeat' constructor) (k := 1) (by repeat (first | exact Cut.d | apply Cut.t | apply Cut.s))) (TOk.t (isBoxS (by repeat' constructor) (k := 1) (by repeat (first | exact Cut.d | apply Cut.t | apply Cut.s))) TOk.d)) ?_
       refine tk 0 rfl (by kernel_rfl) (fun _ _ _ h => h) gnone (TTany _) (p_move rfl) rfl ?_
       refine tk 1 rfl (by kernel_rfl) (fun _ _ _ h => h) gnone (TTany _) (p_fa fa66_1 rfl) rfl ?_
       refine tk 2 rfl (by kernel_rfl) (fun _ _ _ h => h) gnone (TTat (List.Mem.head _)) (p_ld Tryd.isAgg9 rfl) rfl ?_
       refine tk 4 rfl (by kernel_rfl) (fun _ _ _ h => h) gnone (TTany _) (p_fa fa66_3 rfl) rfl ?_
       refine tk 5 rfl (by kernel_rfl) (fun _ _ _ h => h) gnone (TTat (List.Mem.tail _ (List.Mem.head _))) (p_ld Tryd.isAgg22 rfl) rfl ?_
       refine df 3 (by kernel_rfl) ?_
       refine doR rfl (o_bsl ([] : List ByteArray) Tryd.underlying22 Tryd.sizeOf9 Tryd.zeroValue9 rfl Enum.d RV.d rfl (by decide) (by decide) rfl) (TOk.t (isBoxE fun _ => isBoxS (by repeat' constructor) (k := 1) (by repeat (first | exact Cut.d | apply Cut.t | apply Cut.s))) (TOk.t (isBoxE fun _ => isBoxS (by repeat' constructor) (k := 1) (by repeat (first | exact Cut.d | apply Cut.t | apply Cut.s))) TOk.d)) ?_
       refine ea ?_; intro b86
       refine df 6 (by kernel_rfl) ?_
       refine doR rfl (o_app (is := [0]) Tryd.underlying22 inf9 rfl (by decide) (by decide) rfl rfl (by have := ho.2.2.1; simp only [List.length_nil]; omega) (fun _ => hnl) rfl (by repeat' (first | constructor | apply Sub.suf)) rfl) (TOk.t (isBoxE fun _ => isBoxS (by repeat' constructor) (k := 1) (by repeat (first | exact Cut.d | apply Cut.t | apply Cut.s))) (TOk.x (by kernel_rfl) TOk.d)) ?_
       refine ea ?_; rintro ⟨A4, c4⟩
       refine amono (fun a w h => freezeN (i := 0) rfl h) ?_
       rw [List.nil_append]
       refine df 7 (by kernel_rfl) ?_
       refine doR rfl (o_call (is := []) Tryd.call46 (c_rWith T A c hn o.name o.l A4 c4) rfl rfl (by repeat' (first | constructor | apply Sub.suf)) rfl) (TOk.x (by kernel_rfl) (TOk.x (by kernel_rfl) TOk.d)) ?_
       refine ea ?_; intro z90
       refine tk 8 rfl (by kernel_rfl) (fun _ _ _ h => h) gnone (TTany _) (p_asg rfl) rfl ?_
       refine tk 9 rfl (by kernel_rfl) (fun _ _ _ h => h) gnone (TTany _) (p_asg rfl) rfl ?_
       refine dn (by kernel_rfl) ?_
       refine nthen ?_
       refine cret ?_
       refine xret (fun _ _ h => h) ?_
       refine rret (is := []) ⟨((putT T o.name o.l, 0), z90), by simp only [Bool.not_eq_false'] at h76 h81; simp only [doT, k3, tPut, h76, h81]; simp⟩ (Or.inl rfl) (Res.t rfl (Res.t rfl Res.d)) (rfl) rfl (by repeat' (first | constructor | apply Sub.suf))
    ·
     intro h73
     have k3 : ¬ o.kind = 3 := by simpa using h73
     refine cskip ?_
     refine nblock ?_
     refine nthen ?_
     refine cs ?_
     refine cr ?_
     refine ls (op (p_move rfl) rfl) ?_
     refine ls (op (p_asg rfl) rfl) ?_
     refine ls (op (p_asg rfl) rfl) ?_
     refine ln ?_
     refine nthen ?_
     refine cret ?_
     refine xret (fun _ _ h => h) ?_
     refine rret (is := []) ⟨((T, 0), (A, c)), by simp [doT, k0, k1, k2, k3]⟩ (Or.inl rfl) (Res.t rfl (Res.t rfl Res.d)) (rfl) rfl (by repeat' (first | constructor | apply Sub.suf))

end Go.Proofs.YtdbiillompeclaaDoor.X

end
