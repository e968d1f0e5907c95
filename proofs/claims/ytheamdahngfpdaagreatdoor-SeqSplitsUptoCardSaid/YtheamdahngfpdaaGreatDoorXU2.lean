/- OWN WORK: a part of the proof of a law of the seat YtheamdahngfpdaaGreatDoor: contracts. -/
import Derived.Test.YtheamdahngfpdaaGreatDoorProg
import Derived.Test.YtheamdahngfpdaaGreatDoorXU1
import Derived.Test.YtheamdahngfpdaaGreatDoorXA2
section
set_option linter.unusedVariables false
set_option linter.unusedSimpArgs false
namespace Go.Proofs.YtheamdahngfpdaaGreatDoor.X
open Go Go.RowKit Go.Proofs Go.Sx
attribute [local irreducible] slA isA box row

theorem inf72 : (Tryz.prog.info? 72).map (fun i => (i.zero, i.size, i.bytes)) = some (some (.agg #[.int .i64 0, .string ⟨#[]⟩, .string ⟨#[]⟩, .int .i64 0, .slice none 0 0, .slice none 0 0]), 6, 96) := by kernel_rfl
set_option maxRecDepth 100000 in
theorem c_ref5Swap (l m : List Prim) (A B : Option Addr) (c c' : Nat) (hl : l.length ≤ 2000000) (hm : m.length ≤ 2000000) (hA0 : l = [] → A = none → c = 0) (hB0 : m = [] → B = none → c' = 0) (hfl : ∀ x ∈ l, x.fit) (hfm : ∀ x ∈ m, x.fit) : Con Tryz.prog 27 [.slice A l.length c, .slice B m.length c'] [] [slA A l, slA B m] {x : (List Prim × List Prim × Bool) × ((Option Addr × Nat) × (Option Addr × Nat)) // x.1 = swT l m} (fun x => .tuple #[.slice x.1.2.1.1 x.1.1.1.length x.1.2.1.2, .slice x.1.2.2.1 x.1.1.2.1.length x.1.2.2.2, .bool x.1.1.2.2]) (fun _ => []) (fun x => [slA x.1.2.1.1 x.1.1.1, slA x.1.2.2.1 x.1.1.2.1]) := by
 refine con Tryz.func27 rfl Tryz.ntmps27 rfl ?_
 intro M0 F0 w0
 refine cs ?_
 refine cr ?_
 refine ls (op (p_asg rfl) rfl) ?_
 refine ls (op (p_asg rfl) rfl) ?_
 refine ls (op (p_asg rfl) rfl) ?_
 refine ln ?_
 refine nthen ?_
 refine cs ?_
 refine cr ?_
 refine ls (o_bsl ([] : List Prim) Tryz.underlying22 Tryz.sizeOf72 Tryz.zeroValue72 rfl Enum.d RV.d rfl (by decide) (by decide) rfl) ?_
 refine le ?_; intro b13
 refine ls (op (p_move rfl) rfl) ?_
 refine ls (o_app (is := [0]) Tryz.underlying22 inf72 rfl (by decide) (by decide) rfl rfl (by simp only [List.length_nil]; omega) (fun h hB => hA0 h hB) rfl (by repeat' (first | constructor | apply Sub.suf)) rfl) ?_
 refine le ?_; rintro ⟨A8, c8⟩
 refine ls (op (p_move rfl) rfl) ?_
 refine ls (o_app (is := [0]) Tryz.underlying22 inf72 rfl (by decide) (by decide) rfl rfl (by simp only [List.length_append, List.length_nil]; omega) (fun h hB => hB0 h hB) rfl (by repeat' (first | constructor | apply Sub.suf)) rfl) ?_
 refine le ?_; rintro ⟨A9, c9⟩
 refine ls (op (p_asg rfl) rfl) ?_
 refine ln ?_
 refine nthen ?_
 refine cs ?_
 refine cs ?_
 skip
 refine cr ?_
 refine ls (op (p_move rfl) rfl) ?_
 refine ls (op (p_lenl rfl Tryz.underlying22) rfl) ?_
 refine ls (op (p_sub rfl rfl (by omega)) rfl) ?_
 refine ls (op (p_asg rfl) rfl) ?_
 refine ln ?_
 refine nthen ?_
 refine cb ?_
 refine cl (ι := {q : Nat × Int × List Prim × List Prim × (Option Addr × Nat) // q.1 ≤ l.length ∧ q.2.1 = (l.length : Int) - 1 - (q.1 : Int) ∧ SI l m q.1 q.2.2.1 q.2.2.2.1}) (fun i => St M0 F0 w0 72 [(0, .slice A l.length c), (1, .slice B m.length c'), (7, .slice i.1.2.2.2.2.1 (l ++ m).length i.1.2.2.2.2.2), (8, .int .i64 i.1.2.1)] [row 72 (i.1.2.2.2.2.1) (i.1.2.2.2.2.2) (l.take (l.length - i.1.1) ++ (i.1.2.2.1 ++ i.1.2.2.2.1))] [slA A l, slA B m]) (fun i => l.length - i.1.1) ⟨(0, (l.length : Int) - 1, m, [], (A9, c9)), Nat.zero_le _, by simp, SI.start hfm⟩ (fun a w h => by dsimp only; rw [show l.take (l.length - 0) ++ (m ++ []) = [] ++ l ++ m by simp]; exact wk (is := [0]) (by repeat (first | exact subσ.nil _ | refine subσ.cons rfl ?_)) rfl (by repeat' (first | constructor | apply Sub.suf)) a w h) ?_
 rintro ⟨⟨j, z, f, s, A1, c1⟩, hj, hz, hI⟩
 refine cmono (S' := St M0 F0 w0 72 [(0, .slice A l.length c), (1, .slice B m.length c'), (7, .slice A1 (l ++ m).length c1), (8, .int .i64 z)] [row 72 (A1) (c1) (l.take (l.length - j) ++ (f ++ s))] [slA A l, slA B m]) (fun _ _ h => h) ?_
 refine cs ?_
 refine cs ?_
 refine cr ?_
 refine ls (op (p_move rfl) rfl) ?_
 refine ls (op (p_icmp rfl rfl rfl) rfl) ?_
 refine ln ?_
 refine nthen ?_
 refine cc rfl ?_ ?_
 ·
  intro h22
  dsimp only at hj hz hI
  try simp only [decide_eq_true_eq, decide_eq_false_iff_not, Bool.not_eq_true', Bool.not_eq_false', Int.not_lt, Int.not_le, ge_iff_le, Bool.not_true, Bool.not_false] at h22
  have hfl1 := hI.fl; have hsl1 := hI.sl
  obtain ⟨u, hi⟩ : ∃ u, u + j + 1 = l.length := ⟨l.length - 1 - j, by omega⟩
  have hi1 : u < l.length := by omega
  have eR : l.take (l.length - j) ++ (f ++ s) = l.take u ++ ([] ++ (l[u] :: (f.drop 0 ++ s))) := by rw [show l.length - j = u + 1 by omega, List.take_succ_eq_append_getElem hi1, List.append_assoc]; rfl
  rw [eR]
  refine cskip ?_
  refine nthen ?_
  refine cs ?_
  refine cb ?_
  refine cs ?_
  refine cr ?_
  refine ls (op (p_asg rfl) rfl) ?_
  refine ln ?_
  refine nthen ?_
  refine cb ?_
  refine cl (ι := {q : Nat × List Prim × Prim × (Option Addr × Nat) // q.1 ≤ f.length ∧ q.2.1.length = q.1 ∧ q.2.2.1.fit ∧ PI l[u] f q.1 q.2.1 q.2.2.1}) (fun i => St M0 F0 w0 72 [(0, .slice A l.length c), (1, .slice B m.length c'), (7, .slice i.1.2.2.2.1 (l ++ m).length i.1.2.2.2.2), (8, .int .i64 z), (9, .int .i64 (i.1.1 : Int))] [row 72 (i.1.2.2.2.1) (i.1.2.2.2.2) (l.take u ++ (i.1.2.1 ++ (i.1.2.2.1 :: (f.drop i.1.1 ++ s))))] [slA A l, slA B m]) (fun i => f.length - i.1.1) ⟨(0, [], l[u], (A1, c1)), Nat.zero_le _, rfl, hfl _ (List.getElem_mem hi1), PI.start _ _⟩ (wk0 (by repeat (first | exact subσ.nil _ | refine subσ.cons rfl ?_)) (by repeat' (first | constructor | apply Sub.suf))) ?_
  rintro ⟨⟨k, d, p1, A2, c2⟩, hk, hdl, hp1, hPI⟩
  refine cmono (S' := St M0 F0 w0 72 [(0, .slice A l.length c), (1, .slice B m.length c'), (7, .slice A2 (l ++ m).length c2), (8, .int .i64 z), (9, .int .i64 (k : Int))] [row 72 (A2) (c2) (l.take u ++ (d ++ (p1 :: (f.drop k ++ s))))] [slA A l, slA B m]) (fun _ _ h => h) ?_
  refine cs ?_
  refine cs ?_
  refine cr ?_
  refine ls (op (p_move rfl) rfl) ?_
  refine ls (op (p_move rfl) rfl) ?_
  refine ls (op (p_lenl rfl Tryz.underlying22) rfl) ?_
  refine ls (op (p_icmp rfl rfl rfl) rfl) ?_
  refine ln ?_
  refine nthen ?_
  refine cc rfl ?_ ?_
  ·
   intro h28
   dsimp only at hk hdl hp1 hPI
   try simp only [decide_eq_true_eq, decide_eq_false_iff_not, Bool.not_eq_true', Bool.not_eq_false', Int.not_lt, Int.not_le, ge_iff_le, Bool.not_true, Bool.not_false] at h28
   have hk1 : k < f.length := by omega
   have hff := hI.ff _ (List.getElem_mem hk1)
   have hti : (l.take u).length = u := by rw [List.length_take]; omega
   have eD : f.drop k ++ s = f[k] :: (f.drop (k + 1) ++ s) := by rw [List.drop_eq_getElem_cons hk1]; rfl
   rw [eD]
   refine rowC (by repeat' constructor) (by intro e; simp at e) ?_; rintro g rfl
   refine cskip ?_
   refine nthen ?_
   refine cs ?_
   refine cb ?_
   refine cs ?_
   refine cmono (fun a w h => pin0 (by repeat' constructor) (by repeat' constructor) h) ?_
   refine pinC (u + k) (by repeat' constructor) (mid_get1 (by omega)) (fun _ => (by repeat' constructor)) ?_; intro yp
   refine pinC (u + k + 1) (by repeat' constructor) (mid_get2 (by omega)) (fun _ => (by repeat' constructor)) ?_; intro yq
   refine cutC (S' := fun a w => ∃ (b10 : Nat) (b11 : Nat) (r1 : Prim) (r2 : Prim) (r3 : Bool) (z1 : Rp.Lay Prim) (z2 : Rp.Lay Prim) (hr : (r1, r2, r3) = swap p1 f[k]) (e1 : r1.fit) (e2 : r2.fit), St M0 F0 w0 72 [(0, .slice A l.length c), (1, .slice B m.length c'), (7, .slice (some ⟨g, 0, none⟩) (l ++ m).length c2), (8, .int .i64 z), (9, .int .i64 (k : Int)), (10, .pointer (some ⟨b10, 0, none⟩)), (11, .pointer (some ⟨b11, 0, none⟩)), (12, .bool r3)] [rowPin 72 g c2 (l.take u ++ (d ++ (p1 :: f[k] :: (f.drop (k + 1) ++ s)))) [(u + k + 1, f[k], yq), (u + k, p1, yp)], box b10 72 (Rp.enc r1 z1), box b11 72 (Rp.enc r2 z2)] [slA z1.1.1 r1.old, slA z1.2.1 r1.new, slA z2.1.1 r2.old, slA z2.2.1 r2.new, slA A l, slA B m] a w) ?_ ?_
   ·
    refine cd [13, 18, 19, 20, 21] [(5, g, 0 + (u + k) * Rp.size Prim, _), (12, g, 0 + (u + k + 1) * Rp.size Prim, _)] TryzX.mixed (TOk.t (isPin (by repeat' constructor) (List.Mem.tail _ (List.Mem.head _))) (TOk.t (isPin (by repeat' constructor) (List.Mem.head _)) TOk.d)) ?_
    refine tk 0 rfl (by kernel_rfl) (fun _ _ _ h => h) gnone (TTany _) (p_move rfl) rfl ?_
    refine tk 1 rfl (by kernel_rfl) (fun _ _ _ h => h) gnone (TTany _) (p_move rfl) rfl ?_
    refine tk 2 rfl (by kernel_rfl) (fun _ _ _ h => h) gnone (TTany _) (p_move rfl) rfl ?_
    refine tk 3 rfl (by kernel_rfl) (fun _ _ _ h => h) gnone (TTany _) (p_add rfl rfl (by omega)) rfl ?_
    refine tk 4 rfl (by kernel_rfl) (fun _ _ _ h => h) gnone (TTany _) (p_ia (u + k) rfl (by rw [List.length_append]; omega) (by omega) Tryz.underlying22 Tryz.sizeOf72 rfl rfl) rfl ?_
    refine tk 5 rfl (by kernel_rfl) (fun _ _ _ h => h) gnone (TTat (List.Mem.head _)) (p_lda Tryz.isAgg72 Tryz.sizeOf72 rfl rfl) rfl ?_
    refine tk 6 rfl (by kernel_rfl) (fun _ _ _ h => h) gnone (TTany _) (p_move rfl) rfl ?_
    refine tk 7 rfl (by kernel_rfl) (fun _ _ _ h => h) gnone (TTany _) (p_move rfl) rfl ?_
    refine tk 8 rfl (by kernel_rfl) (fun _ _ _ h => h) gnone (TTany _) (p_move rfl) rfl ?_
    refine tk 9 rfl (by kernel_rfl) (fun _ _ _ h => h) gnone (TTany _) (p_add rfl rfl (by omega)) rfl ?_
    refine tk 10 rfl (by kernel_rfl) (fun _ _ _ h => h) gnone (TTany _) (p_add rfl rfl (by omega)) rfl ?_
    refine tk 11 rfl (by kernel_rfl) (fun _ _ _ h => h) gnone (TTany _) (p_ia (u + k + 1) rfl (by rw [List.length_append]; omega) (by omega) Tryz.underlying22 Tryz.sizeOf72 rfl rfl) rfl ?_
    refine tk 12 rfl (by kernel_rfl) (fun _ _ _ h => h) gnone (TTat (List.Mem.tail _ (List.Mem.head _))) (p_lda Tryz.isAgg72 Tryz.sizeOf72 rfl rfl) rfl ?_
    refine dall (is := [13, 18, 19]) (by kernel_rfl) rfl ?_
    intro i hi; simp only [List.mem_cons, List.mem_nil_iff, or_false] at hi; rcases hi with rfl | rfl | rfl
    ·
     refine doR rfl (o_call (is := []) Tryz.call67 (c_refSwap p1 f[k] yp yq hp1 hff) rfl rfl (by repeat' (first | constructor | apply Sub.suf)) rfl) (TOk.x (by kernel_rfl) (TOk.x (by kernel_rfl) TOk.d)) ?_
     refine ea ?_; rintro ⟨⟨⟨r1, r2, r3⟩, z1, z2⟩, hr⟩
     obtain ⟨e1, e2⟩ := swap_fit hp1 hff; have hr := hr.trans (swap_eq p1 f[k]); rw [← hr] at e1 e2; dsimp only at hr e1 e2
     refine tk 14 rfl (by kernel_rfl) (fun _ _ _ h => h) gnone (TTany _) (p_move rfl) rfl ?_
     refine tk 15 rfl (by kernel_rfl) (fun _ _ _ h => h) gnone (TTany _) (p_ext rfl (by repeat' constructor)) rfl ?_
     refine tk 16 rfl (by kernel_rfl) (fun _ _ _ h => h) gnone (TTany _) (p_ext rfl (by repeat' constructor)) rfl ?_
     refine tk 17 rfl (by kernel_rfl) (fun _ _ _ h => h) gnone (TTany _) (p_ext rfl (by repeat' constructor)) rfl ?_
     refine dall (is := [18, 19]) (by kernel_rfl) rfl ?_
     intro i hi; simp only [List.mem_cons, List.mem_nil_iff, or_false] at hi; rcases hi with rfl | rfl
     ·
      refine doR rfl (o_alloc Tryz.zeroValue72 rfl rfl) (TOk.x (by kernel_rfl) (TOk.x (by kernel_rfl) TOk.d)) ?_
      refine ea ?_; intro b10
      refine df 19 (by kernel_rfl) ?_
      refine doR rfl (o_alloc Tryz.zeroValue72 rfl rfl) (TOk.x (by kernel_rfl) (TOk.x (by kernel_rfl) TOk.d)) ?_
      refine ea ?_; intro b11
      refine df 20 (by kernel_rfl) ?_
      refine doR rfl (o_st rfl Tryz.sizeOf72 rfl rfl rfl rfl rfl (by repeat' constructor) (by repeat' constructor) (by repeat' constructor)) (TOk.x (by kernel_rfl) (TOk.x (by kernel_rfl) TOk.d)) ?_
      refine df 21 (by kernel_rfl) ?_
      refine doR rfl (o_st rfl Tryz.sizeOf72 rfl rfl rfl rfl rfl (by repeat' constructor) (by repeat' constructor) (by repeat' constructor)) (TOk.x (by kernel_rfl) (TOk.x (by kernel_rfl) TOk.d)) ?_
      refine tk 22 rfl (by kernel_rfl) (fun _ _ _ h => h) gnone (TTany _) (p_asg rfl) rfl ?_
      refine dn (by kernel_rfl) (nmid (fun a w h => by first | exact ⟨b10, b11, r1, r2, r3, z1, z2, hr, e1, e2, wk (is := [2, 1, 0]) (by repeat (first | exact subσ.nil _ | refine subσ.cons rfl ?_)) rfl (by repeat' (first | constructor | apply Sub.suf)) a w h⟩ | exact ⟨b10, b11, r1, r2, r3, z1, z2, hr, e1, e2, wk (is := [2, 0, 0]) (by repeat (first | exact subσ.nil _ | refine subσ.cons rfl ?_)) rfl (by repeat' (first | constructor | apply Sub.suf)) a w h⟩))
     ·
      refine doR rfl (o_alloc Tryz.zeroValue72 rfl rfl) (TOk.x (by kernel_rfl) (TOk.x (by kernel_rfl) TOk.d)) ?_
      refine ea ?_; intro b11
      refine df 18 (by kernel_rfl) ?_
      refine doR rfl (o_alloc Tryz.zeroValue72 rfl rfl) (TOk.x (by kernel_rfl) (TOk.x (by kernel_rfl) TOk.d)) ?_
      refine ea ?_; intro b10
      refine df 20 (by kernel_rfl) ?_
      refine doR rfl (o_st rfl Tryz.sizeOf72 rfl rfl rfl rfl rfl (by repeat' constructor) (by repeat' constructor) (by repeat' constructor)) (TOk.x (by kernel_rfl) (TOk.x (by kernel_rfl) TOk.d)) ?_
      refine df 21 (by kernel_rfl) ?_
      refine doR rfl (o_st rfl Tryz.sizeOf72 rfl rfl rfl rfl rfl (by repeat' constructor) (by repeat' constructor) (by repeat' constructor)) (TOk.x (by kernel_rfl) (TOk.x (by kernel_rfl) TOk.d)) ?_
      refine tk 22 rfl (by kernel_rfl) (fun _ _ _ h => h) gnone (TTany _) (p_asg rfl) rfl ?_
      refine dn (by kernel_rfl) (nmid (fun a w h => by first | exact ⟨b10, b11, r1, r2, r3, z1, z2, hr, e1, e2, wk (is := [2, 1, 0]) (by repeat (first | exact subσ.nil _ | refine subσ.cons rfl ?_)) rfl (by repeat' (first | constructor | apply Sub.suf)) a w h⟩ | exact ⟨b10, b11, r1, r2, r3, z1, z2, hr, e1, e2, wk (is := [2, 0, 0]) (by repeat (first | exact subσ.nil _ | refine subσ.cons rfl ?_)) rfl (by repeat' (first | constructor | apply Sub.suf)) a w h⟩))
    ·
     refine doR rfl (o_alloc Tryz.zeroValue72 rfl rfl) (TOk.t (isBoxE fun _ => isPin (by repeat' constructor) (List.Mem.tail _ (List.Mem.head _))) (TOk.t (isBoxE fun _ => isPin (by repeat' constructor) (List.Mem.head _)) TOk.d)) ?_
     refine ea ?_; intro b10
     refine dall (is := [13, 19]) (by kernel_rfl) rfl ?_
     intro i hi; simp only [List.mem_cons, List.mem_nil_iff, or_false] at hi; rcases hi with rfl | rfl
     ·
      refine doR rfl (o_call (is := []) Tryz.call67 (c_refSwap p1 f[k] yp yq hp1 hff) rfl rfl (by repeat' (first | constructor | apply Sub.suf)) rfl) (TOk.x (by kernel_rfl) (TOk.x (by kernel_rfl) TOk.d)) ?_
      refine ea ?_; rintro ⟨⟨⟨r1, r2, r3⟩, z1, z2⟩, hr⟩
      obtain ⟨e1, e2⟩ := swap_fit hp1 hff; have hr := hr.trans (swap_eq p1 f[k]); rw [← hr] at e1 e2; dsimp only at hr e1 e2
      refine tk 14 rfl (by kernel_rfl) (fun _ _ _ h => h) gnone (TTany _) (p_move rfl) rfl ?_
      refine tk 15 rfl (by kernel_rfl) (fun _ _ _ h => h) gnone (TTany _) (p_ext rfl (by repeat' constructor)) rfl ?_
      refine tk 16 rfl (by kernel_rfl) (fun _ _ _ h => h) gnone (TTany _) (p_ext rfl (by repeat' constructor)) rfl ?_
      refine tk 17 rfl (by kernel_rfl) (fun _ _ _ h => h) gnone (TTany _) (p_ext rfl (by repeat' constructor)) rfl ?_
      refine df 19 (by kernel_rfl) ?_
      refine doR rfl (o_alloc Tryz.zeroValue72 rfl rfl) (TOk.x (by kernel_rfl) (TOk.x (by kernel_rfl) TOk.d)) ?_
      refine ea ?_; intro b11
      refine df 20 (by kernel_rfl) ?_
      refine doR rfl (o_st rfl Tryz.sizeOf72 rfl rfl rfl rfl rfl (by repeat' constructor) (by repeat' constructor) (by repeat' constructor)) (TOk.x (by kernel_rfl) (TOk.x (by kernel_rfl) TOk.d)) ?_
      refine df 21 (by kernel_rfl) ?_
      refine doR rfl (o_st rfl Tryz.sizeOf72 rfl rfl rfl rfl rfl (by repeat' constructor) (by repeat' constructor) (by repeat' constructor)) (TOk.x (by kernel_rfl) (TOk.x (by kernel_rfl) TOk.d)) ?_
      refine tk 22 rfl (by kernel_rfl) (fun _ _ _ h => h) gnone (TTany _) (p_asg rfl) rfl ?_
      refine dn (by kernel_rfl) (nmid (fun a w h => by first | exact ⟨b10, b11, r1, r2, r3, z1, z2, hr, e1, e2, wk (is := [2, 1, 0]) (by repeat (first | exact subσ.nil _ | refine subσ.cons rfl ?_)) rfl (by repeat' (first | constructor | apply Sub.suf)) a w h⟩ | exact ⟨b10, b11, r1, r2, r3, z1, z2, hr, e1, e2, wk (is := [2, 0, 0]) (by repeat (first | exact subσ.nil _ | refine subσ.cons rfl ?_)) rfl (by repeat' (first | constructor | apply Sub.suf)) a w h⟩))
     ·
      refine doR rfl (o_alloc Tryz.zeroValue72 rfl rfl) (TOk.t (isBoxE fun _ => isPin (by repeat' constructor) (List.Mem.tail _ (List.Mem.head _))) (TOk.t (isBoxE fun _ => isPin (by repeat' constructor) (List.Mem.head _)) TOk.d)) ?_
      refine ea ?_; intro b11
      refine df 13 (by kernel_rfl) ?_
      refine doR rfl (o_call (is := []) Tryz.call67 (c_refSwap p1 f[k] yp yq hp1 hff) rfl rfl (by repeat' (first | constructor | apply Sub.suf)) rfl) (TOk.x (by kernel_rfl) (TOk.x (by kernel_rfl) TOk.d)) ?_
      refine ea ?_; rintro ⟨⟨⟨r1, r2, r3⟩, z1, z2⟩, hr⟩
      obtain ⟨e1, e2⟩ := swap_fit hp1 hff; have hr := hr.trans (swap_eq p1 f[k]); rw [← hr] at e1 e2; dsimp only at hr e1 e2
      refine tk 14 rfl (by kernel_rfl) (fun _ _ _ h => h) gnone (TTany _) (p_move rfl) rfl ?_
      refine tk 15 rfl (by kernel_rfl) (fun _ _ _ h => h) gnone (TTany _) (p_ext rfl (by repeat' constructor)) rfl ?_
      refine tk 16 rfl (by kernel_rfl) (fun _ _ _ h => h) gnone (TTany _) (p_ext rfl (by repeat' constructor)) rfl ?_
      refine tk 17 rfl (by kernel_rfl) (fun _ _ _ h => h) gnone (TTany _) (p_ext rfl (by repeat' constructor)) rfl ?_
      refine df 20 (by kernel_rfl) ?_
      refine doR rfl (o_st rfl Tryz.sizeOf72 rfl rfl rfl rfl rfl (by repeat' constructor) (by repeat' constructor) (by repeat' constructor)) (TOk.x (by kernel_rfl) (TOk.x (by kernel_rfl) TOk.d)) ?_
      refine df 21 (by kernel_rfl) ?_
      refine doR rfl (o_st rfl Tryz.sizeOf72 rfl rfl rfl rfl rfl (by repeat' constructor) (by repeat' constructor) (by repeat' constructor)) (TOk.x (by kernel_rfl) (TOk.x (by kernel_rfl) TOk.d)) ?_
      refine tk 22 rfl (by kernel_rfl) (fun _ _ _ h => h) gnone (TTany _) (p_asg rfl) rfl ?_
      refine dn (by kernel_rfl) (nmid (fun a w h => by first | exact ⟨b10, b11, r1, r2, r3, z1, z2, hr, e1, e2, wk (is := [2, 1, 0]) (by repeat (first | exact subσ.nil _ | refine subσ.cons rfl ?_)) rfl (by repeat' (first | constructor | apply Sub.suf)) a w h⟩ | exact ⟨b10, b11, r1, r2, r3, z1, z2, hr, e1, e2, wk (is := [2, 0, 0]) (by repeat (first | exact subσ.nil _ | refine subσ.cons rfl ?_)) rfl (by repeat' (first | constructor | apply Sub.suf)) a w h⟩))
    ·
     refine doR rfl (o_alloc Tryz.zeroValue72 rfl rfl) (TOk.t (isBoxE fun _ => isPin (by repeat' constructor) (List.Mem.tail _ (List.Mem.head _))) (TOk.t (isBoxE fun _ => isPin (by repeat' constructor) (List.Mem.head _)) TOk.d)) ?_
     refine ea ?_; intro b11
     refine dall (is := [13, 18]) (by kernel_rfl) rfl ?_
     intro i hi; simp only [List.mem_cons, List.mem_nil_iff, or_false] at hi; rcases hi with rfl | rfl
     ·
      refine doR rfl (o_call (is := []) Tryz.call67 (c_refSwap p1 f[k] yp yq hp1 hff) rfl rfl (by repeat' (first | constructor | apply Sub.suf)) rfl) (TOk.x (by kernel_rfl) (TOk.x (by kernel_rfl) TOk.d)) ?_
      refine ea ?_; rintro ⟨⟨⟨r1, r2, r3⟩, z1, z2⟩, hr⟩
      obtain ⟨e1, e2⟩ := swap_fit hp1 hff; have hr := hr.trans (swap_eq p1 f[k]); rw [← hr] at e1 e2; dsimp only at hr e1 e2
      refine tk 14 rfl (by kernel_rfl) (fun _ _ _ h => h) gnone (TTany _) (p_move rfl) rfl ?_
      refine tk 15 rfl (by kernel_rfl) (fun _ _ _ h => h) gnone (TTany _) (p_ext rfl (by repeat' constructor)) rfl ?_
      refine tk 16 rfl (by kernel_rfl) (fun _ _ _ h => h) gnone (TTany _) (p_ext rfl (by repeat' constructor)) rfl ?_
      refine tk 17 rfl (by kernel_rfl) (fun _ _ _ h => h) gnone (TTany _) (p_ext rfl (by repeat' constructor)) rfl ?_
      refine df 18 (by kernel_rfl) ?_
      refine doR rfl (o_alloc Tryz.zeroValue72 rfl rfl) (TOk.x (by kernel_rfl) (TOk.x (by kernel_rfl) TOk.d)) ?_
      refine ea ?_; intro b10
      refine df 20 (by kernel_rfl) ?_
      refine doR rfl (o_st rfl Tryz.sizeOf72 rfl rfl rfl rfl rfl (by repeat' constructor) (by repeat' constructor) (by repeat' constructor)) (TOk.x (by kernel_rfl) (TOk.x (by kernel_rfl) TOk.d)) ?_
      refine df 21 (by kernel_rfl) ?_
      refine doR rfl (o_st rfl Tryz.sizeOf72 rfl rfl rfl rfl rfl (by repeat' constructor) (by repeat' constructor) (by repeat' constructor)) (TOk.x (by kernel_rfl) (TOk.x (by kernel_rfl) TOk.d)) ?_
      refine tk 22 rfl (by kernel_rfl) (fun _ _ _ h => h) gnone (TTany _) (p_asg rfl) rfl ?_
      refine dn (by kernel_rfl) (nmid (fun a w h => by first | exact ⟨b10, b11, r1, r2, r3, z1, z2, hr, e1, e2, wk (is := [2, 1, 0]) (by repeat (first | exact subσ.nil _ | refine subσ.cons rfl ?_)) rfl (by repeat' (first | constructor | apply Sub.suf)) a w h⟩ | exact ⟨b10, b11, r1, r2, r3, z1, z2, hr, e1, e2, wk (is := [2, 0, 0]) (by repeat (first | exact subσ.nil _ | refine subσ.cons rfl ?_)) rfl (by repeat' (first | constructor | apply Sub.suf)) a w h⟩))
     ·
      refine doR rfl (o_alloc Tryz.zeroValue72 rfl rfl) (TOk.t (isBoxE fun _ => isPin (by repeat' constructor) (List.Mem.tail _ (List.Mem.head _))) (TOk.t (isBoxE fun _ => isPin (by repeat' constructor) (List.Mem.head _)) TOk.d)) ?_
      refine ea ?_; intro b10
      refine df 13 (by kernel_rfl) ?_
      refine doR rfl (o_call (is := []) Tryz.call67 (c_refSwap p1 f[k] yp yq hp1 hff) rfl rfl (by repeat' (first | constructor | apply Sub.suf)) rfl) (TOk.x (by kernel_rfl) (TOk.x (by kernel_rfl) TOk.d)) ?_
      refine ea ?_; rintro ⟨⟨⟨r1, r2, r3⟩, z1, z2⟩, hr⟩
      obtain ⟨e1, e2⟩ := swap_fit hp1 hff; have hr := hr.trans (swap_eq p1 f[k]); rw [← hr] at e1 e2; dsimp only at hr e1 e2
      refine tk 14 rfl (by kernel_rfl) (fun _ _ _ h => h) gnone (TTany _) (p_move rfl) rfl ?_
      refine tk 15 rfl (by kernel_rfl) (fun _ _ _ h => h) gnone (TTany _) (p_ext rfl (by repeat' constructor)) rfl ?_
      refine tk 16 rfl (by kernel_rfl) (fun _ _ _ h => h) gnone (TTany _) (p_ext rfl (by repeat' constructor)) rfl ?_
      refine tk 17 rfl (by kernel_rfl) (fun _ _ _ h => h) gnone (TTany _) (p_ext rfl (by repeat' constructor)) rfl ?_
      refine df 20 (by kernel_rfl) ?_
      refine doR rfl (o_st rfl Tryz.sizeOf72 rfl rfl rfl rfl rfl (by repeat' constructor) (by repeat' constructor) (by repeat' constructor)) (TOk.x (by kernel_rfl) (TOk.x (by kernel_rfl) TOk.d)) ?_
      refine df 21 (by kernel_rfl) ?_
      refine doR rfl (o_st rfl Tryz.sizeOf72 rfl rfl rfl rfl rfl (by repeat' constructor) (by repeat' constructor) (by repeat' constructor)) (TOk.x (by kernel_rfl) (TOk.x (by kernel_rfl) TOk.d)) ?_
      refine tk 22 rfl (by kernel_rfl) (fun _ _ _ h => h) gnone (TTany _) (p_asg rfl) rfl ?_
      refine dn (by kernel_rfl) (nmid (fun a w h => by first | exact ⟨b10, b11, r1, r2, r3, z1, z2, hr, e1, e2, wk (is := [2, 1, 0]) (by repeat (first | exact subσ.nil _ | refine subσ.cons rfl ?_)) rfl (by repeat' (first | constructor | apply Sub.suf)) a w h⟩ | exact ⟨b10, b11, r1, r2, r3, z1, z2, hr, e1, e2, wk (is := [2, 0, 0]) (by repeat (first | exact subσ.nil _ | refine subσ.cons rfl ?_)) rfl (by repeat' (first | constructor | apply Sub.suf)) a w h⟩))
   ·
    refine nex fun b10 => nex fun b11 => nex fun r1 => nex fun r2 => nex fun r3 => nex fun z1 => nex fun z2 => nex fun hr => nex fun e1 => nex fun e2 => ?_
    refine nthen ?_
    refine cs ?_
    refine cs ?_
    refine cr ?_
    refine ls (op (p_move rfl) rfl) ?_
    refine ls (op (p_not rfl) rfl) ?_
    refine ln ?_
    refine nthen ?_
    refine cc rfl ?_ ?_
    ·
     intro h50
     obtain rfl : false = r3 := by cases r3 <;> first | rfl | (simp at h50)
     refine cs ?_
     refine cmono (fun a w h => nilSl (α := Prim) h) ?_
     refine cr ?_
     refine ls (op (p_asg rfl) rfl) ?_
     refine ls (op (p_asg rfl) rfl) ?_
     refine ls (op (p_asg rfl) rfl) ?_
     refine ln ?_
     refine nthen ?_
     refine cret ?_
     refine xret (fun _ _ h => h) ?_
     refine rret (is := []) ⟨(([], [], false), ((none, 0), (none, 0))), by rw [hI.stop hi (hPI.stop hk1 hr).symm]⟩ (Or.inl rfl) (Res.t rfl (Res.t rfl (Res.t rfl Res.d))) (rfl) rfl (by repeat' (first | constructor | apply Sub.suf))
    ·
     intro h50
     obtain rfl : true = r3 := by cases r3 <;> first | rfl | (simp at h50)
     refine cskip ?_
     refine nthen ?_
     refine cs ?_
     refine cmono (fun a w h => unpin (by repeat' constructor) (by repeat' constructor) h) ?_
     refine cr ?_
     refine ls (op (p_move rfl) rfl) ?_
     refine ls (op (p_move rfl) rfl) ?_
     refine ls (op (p_move rfl) rfl) ?_
     refine ls (op (p_add rfl rfl (by omega)) rfl) ?_
     refine ls (o_ldw Tryz.isAgg72 Tryz.sizeOf72 rfl (by repeat' constructor) (by rfl) rfl) ?_
     refine ls (op (p_ia (u + k) rfl (by rw [List.length_append]; omega) (by omega) Tryz.underlying22 Tryz.sizeOf72 rfl rfl) rfl) ?_
     refine ls (o_strow (z := r1) (yz := z1) rfl Tryz.sizeOf72 rfl rfl rfl (by repeat' constructor) (by simp; omega) (by repeat' constructor) (by repeat' (first | constructor | apply Sub.suf))) ?_
     refine ln ?_
     refine nthen ?_
     refine cr ?_
     refine ls (op (p_move rfl) rfl) ?_
     refine ls (op (p_move rfl) rfl) ?_
     refine ls (op (p_move rfl) rfl) ?_
     refine ls (op (p_add rfl rfl (by omega)) rfl) ?_
     refine ls (op (p_add rfl rfl (by omega)) rfl) ?_
     refine ls (o_ldw Tryz.isAgg72 Tryz.sizeOf72 rfl (by repeat' constructor) (by rfl) rfl) ?_
     refine ls (op (p_ia (u + k + 1) rfl (by rw [List.length_append]; omega) (by omega) Tryz.underlying22 Tryz.sizeOf72 rfl rfl) rfl) ?_
     refine ls (o_strow (z := r2) (yz := z2) rfl Tryz.sizeOf72 rfl rfl rfl (by repeat' constructor) (by simp; omega) (by repeat' constructor) (by repeat' (first | constructor | apply Sub.suf))) ?_
     refine ln ?_
     refine nblock ?_
     refine nthen ?_
     refine cr ?_
     refine ls (op (p_move rfl) rfl) ?_
     refine ls (op (p_add rfl rfl (by omega)) rfl) ?_
     refine ls (op (p_asg rfl) rfl) ?_
     refine ln ?_
     rw [mid_set (by omega)]
     refine nnext ⟨(k + 1, d ++ [r1], r2, (some ⟨g, 0, none⟩, c2)), hk1, by simp [hdl], e2, hPI.step hk1 hr⟩ (by dsimp only; omega) (wk (is := [0]) (by repeat (first | exact subσ.nil _ | refine subσ.cons rfl ?_)) rfl (by repeat' (first | constructor | apply Sub.suf)))
  ·
   intro h28
   dsimp only at hk hdl hp1 hPI
   try simp only [decide_eq_true_eq, decide_eq_false_iff_not, Bool.not_eq_true', Bool.not_eq_false', Int.not_lt, Int.not_le, ge_iff_le, Bool.not_true, Bool.not_false] at h28
   refine cexit ?_
   refine xthen ?_
   refine xthen ?_
   refine xblock ?_
   refine nblock ?_
   refine nthen ?_
   refine cr ?_
   refine ls (op (p_move rfl) rfl) ?_
   refine ls (op (p_sub rfl rfl (by omega)) rfl) ?_
   refine ls (op (p_asg rfl) rfl) ?_
   refine ln ?_
   have hpd := hPI.done (show ¬ k < f.length by omega)
   have eR2 : l.take u ++ (d ++ (p1 :: (f.drop k ++ s))) = l.take (l.length - (j + 1)) ++ (d ++ (p1 :: s)) := by rw [show l.length - (j + 1) = u by omega, List.drop_eq_nil_of_le (by omega)]; simp
   rw [eR2]
   refine nnext ⟨(j + 1, z - 1, d, p1 :: s, (A2, c2)), by dsimp only; omega, by dsimp only; omega, hI.step hi hfl hpd.symm⟩ (by dsimp only; omega) (wk0 (by repeat (first | exact subσ.nil _ | refine subσ.cons rfl ?_)) (by repeat' (first | constructor | apply Sub.suf)))
 ·
  intro h22
  dsimp only at hj hz hI
  try simp only [decide_eq_true_eq, decide_eq_false_iff_not, Bool.not_eq_true', Bool.not_eq_false', Int.not_lt, Int.not_le, ge_iff_le, Bool.not_true, Bool.not_false] at h22
  obtain rfl : j = l.length := by omega
  have hfl1 := hI.fl; have hsl1 := hI.sl; have hd := hI.done rfl
  rw [show l.take (l.length - l.length) ++ (f ++ s) = f ++ s by simp]
  refine cexit ?_
  refine xthen ?_
  refine xthen ?_
  refine xblock ?_
  refine nthen ?_
  refine cs ?_
  refine rowLeC (by repeat' constructor) (fun hle => ?_)
  refine cmono (fun a w h => Go.Sx.freeze (i := 0) rfl h) ?_
  refine cmono (fun a w h => subS (l' := f) (c := c1) 0 m.length In.z (Nat.zero_le _) (by rw [List.length_append]; omega) hle (by simp [hfl1]) h) ?_
  refine cmono (fun a w h => subS (l' := s) (c := c1) m.length (f ++ s).length (In.s In.z) (by rw [List.length_append]; omega) (Nat.le_refl _) hle (by rw [← hfl1]; simp) h) ?_
  refine cd [] [] TryzX.mixed TOk.d ?_
  refine tk 0 rfl (by kernel_rfl) (fun _ _ _ h => h) gnone (TTany _) (p_move rfl) rfl ?_
  refine tk 1 rfl (by kernel_rfl) (fun _ _ _ h => h) gnone (TTany _) (p_move rfl) rfl ?_
  refine tk 2 rfl (by kernel_rfl) (fun _ _ _ h => h) gnone (TTany _) (p_lenl rfl Tryz.underlying22) rfl ?_
  refine tk 3 rfl (by kernel_rfl) (fun _ _ _ h => h) gnone (TTany _) (p_slh m.length (by rw [List.length_append] at hle; omega) rfl Tryz.underlying22 Tryz.sizeOf72 rfl rfl) rfl ?_
  refine tk 4 rfl (by kernel_rfl) (fun _ _ _ h => h) gnone (TTany _) (p_move rfl) rfl ?_
  refine tk 5 rfl (by kernel_rfl) (fun _ _ _ h => h) gnone (TTany _) (p_move rfl) rfl ?_
  refine tk 6 rfl (by kernel_rfl) (fun _ _ _ h => h) gnone (TTany _) (p_lenl rfl Tryz.underlying22) rfl ?_
  refine tk 7 rfl (by kernel_rfl) (fun _ _ _ h => h) gnone (TTany _) (p_sll m.length (by rw [List.length_append]; omega) (by rw [List.length_append] at hle ⊢; omega) rfl Tryz.underlying22 Tryz.sizeOf72 rfl rfl) rfl ?_
  refine tk 8 rfl (by kernel_rfl) (fun _ _ _ h => h) gnone (TTany _) (p_asg rfl) rfl ?_
  refine tk 9 rfl (by kernel_rfl) (fun _ _ _ h => h) gnone (TTany _) (p_asg rfl) rfl ?_
  refine tk 10 rfl (by kernel_rfl) (fun _ _ _ h => h) gnone (TTany _) (p_asg rfl) rfl ?_
  refine dn (by kernel_rfl) ?_
  refine nthen ?_
  refine cret ?_
  refine xret (fun _ _ h => h) ?_
  refine rret (is := []) ⟨((f, s, true), ((if c1 = 0 then A1 else A1.map (·.add (0 * Rp.size Prim)), c1 - 0), (if c1 = m.length then A1 else A1.map (·.add (m.length * Rp.size Prim)), c1 - m.length))), hd.symm⟩ (Or.inl rfl) (Res.t rfl (Res.t rfl (Res.t rfl Res.d))) ?_ rfl (by repeat' (first | constructor | apply Sub.suf))
  dsimp only [packV]; rw [show f.length = m.length - 0 by omega, show s.length = (l ++ m).length - m.length by rw [List.length_append]; omega]; rfl

set_option maxRecDepth 100000 in
theorem c_lNew (l : List Prim) (A : Option Addr) (c : Nat) (hl : l.length ≤ 2000000) : Con Tryz.prog 13 [.slice A l.length c] [] [slA A l] (Option Addr × Nat) (fun y => .slice y.1 l.length y.2) (fun _ => []) (fun y => [slA y.1 l]) := by
 refine con Tryz.func13 rfl Tryz.ntmps13 rfl ?_
 intro M0 F0 w0
 refine cs ?_
 refine cr ?_
 refine ls (op (p_asg rfl) rfl) ?_
 refine ln ?_
 refine nthen ?_
 refine cs ?_
 refine cr ?_
 refine ls (op (p_asg rfl) rfl) ?_
 refine ln ?_
 refine nthen ?_
 refine cs ?_
 refine cs ?_
 refine cmono (fun a w h => nilRow (α := Prim) 70 h) ?_
 refine cr ?_
 refine ls (op (p_move rfl) rfl) ?_
 refine ls (op (p_lenl rfl Tryz.underlying22) rfl) ?_
 refine ls (op (p_move rfl) rfl) ?_
 refine ln ?_
 refine nthen ?_
 refine cb ?_
 refine cl (ι := {q : Nat × Option Addr × Nat // q.1 ≤ l.length}) (fun i => St M0 F0 w0 18 [(6, .slice A l.length c), (7, .int .i64 (l.length : Int)), (8, .int .i64 (i.1.1 : Int)), (3, .slice i.1.2.1 (l.take i.1.1).length i.1.2.2)] [row 70 (i.1.2.1) (i.1.2.2) (l.take i.1.1)] [slA A l]) (fun i => l.length - i.1.1) ⟨(0, none, 0), Nat.zero_le _⟩ (wk0 (by repeat (first | exact subσ.nil _ | refine subσ.cons rfl ?_)) (by repeat' (first | constructor | apply Sub.suf))) ?_
 rintro ⟨⟨k, A2, c2⟩, hk⟩
 refine cmono (S' := St M0 F0 w0 18 [(6, .slice A l.length c), (7, .int .i64 (l.length : Int)), (8, .int .i64 (k : Int)), (3, .slice A2 (l.take k).length c2)] [row 70 (A2) (c2) (l.take k)] [slA A l]) (fun _ _ h => h) ?_
 refine cs ?_
 refine cr ?_
 refine ls (op (p_icmp rfl rfl rfl) rfl) ?_
 refine ln ?_
 refine nthen ?_
 refine cs ?_
 refine cc rfl ?_ ?_
 ·
  intro h9
  dsimp only at hk
  try simp only [decide_eq_true_eq, decide_eq_false_iff_not, Bool.not_eq_true', Bool.not_eq_false', Int.not_lt, Int.not_le, ge_iff_le, Bool.not_true, Bool.not_false] at h9
  have hk1 : k < l.length := by omega
  refine cskip ?_
  refine nthen ?_
  refine cs ?_
  refine cb ?_
  refine cs ?_
  refine elC (by repeat' constructor) k (List.getElem?_eq_getElem (l := l) hk1) ?_; rintro zbp zop zyp hAp
  refine cr ?_
  refine ls (op (p_ia k hAp hk1 rfl Tryz.underlying22 Tryz.sizeOf72 rfl rfl) rfl) ?_
  refine ls (o_ldj Tryz.isAgg72 Tryz.sizeOf72 rfl (by repeat' constructor) 0 rfl (by repeat (first | exact Cut.d | apply Cut.t | apply Cut.s)) rfl) ?_
  refine ls (o_alloc Tryz.zeroValue72 rfl rfl) ?_
  refine le ?_; intro b5
  refine ls (o_st rfl Tryz.sizeOf72 rfl rfl rfl rfl rfl (by repeat' constructor) (by repeat' constructor) (by repeat' constructor)) ?_
  refine ln ?_
  refine nthen ?_
  refine cr ?_
  refine ls (op (p_move rfl) rfl) ?_
  refine ls (o_ldw Tryz.isAgg72 Tryz.sizeOf72 rfl (by repeat' constructor) (by rfl) rfl) ?_
  refine ls (o_bsl [l[k]] Tryz.underlying25 Tryz.sizeOf70 Tryz.zeroValue70 rfl (Enum.t Enum.d) (RV.t zyp rfl (by repeat' (first | constructor | apply Sub.suf)) RV.d) rfl (by decide) (by decide) rfl) ?_
  refine le ?_; intro b14
  refine lmono (fun a w h => Go.Sx.freeze (i := 0) rfl h) ?_
  refine ls (o_app (is := [1]) Tryz.underlying25 inf70 rfl (by decide) (by decide) rfl rfl (by rw [List.length_take]; simp only [List.length_cons, List.length_nil]; omega) (fun h => by cases h) rfl (by repeat' (first | constructor | apply Sub.suf)) rfl) ?_
  refine le ?_; rintro ⟨A3, c3⟩
  rw [← List.take_succ_eq_append_getElem hk1]
  refine ls (op (p_asg rfl) rfl) ?_
  refine ln ?_
  refine nblock ?_
  refine nthen ?_
  refine cr ?_
  refine ls (op (p_add rfl rfl (by omega)) rfl) ?_
  refine ls (op (p_move rfl) rfl) ?_
  refine ln ?_
  refine nnext ⟨(k + 1, A3, c3), hk1⟩ (by dsimp only; omega) (wk (is := [0]) (by repeat (first | exact subσ.nil _ | refine subσ.cons rfl ?_)) rfl (by repeat' (first | constructor | apply Sub.suf)))
 ·
  intro h9
  dsimp only at hk
  try simp only [decide_eq_true_eq, decide_eq_false_iff_not, Bool.not_eq_true', Bool.not_eq_false', Int.not_lt, Int.not_le, ge_iff_le, Bool.not_true, Bool.not_false] at h9
  obtain rfl : k = l.length := by omega
  rw [List.take_length]
  refine cexit ?_
  refine xthen ?_
  refine xthen ?_
  refine xblock ?_
  refine nthen ?_
  refine cs ?_
  refine cmono (fun a w h => Go.Sx.freeze (i := 0) rfl h) ?_
  refine cr ?_
  refine ls (op (p_move rfl) rfl) ?_
  refine ls (op (p_asg rfl) rfl) ?_
  refine ln ?_
  refine nthen ?_
  refine cret ?_
  refine xret (fun _ _ h => h) ?_
  refine rret (is := []) (A2, c2) (Or.inl rfl) (Res.t rfl Res.d) (rfl) rfl (by repeat' (first | constructor | apply Sub.suf))

set_option maxRecDepth 100000 in
theorem c_lOld (l : List Prim) (A : Option Addr) (c : Nat) (hl : l.length ≤ 2000000) : Con Tryz.prog 23 [.slice A l.length c] [] [slA A l] (Option Addr × Nat) (fun y => .slice y.1 l.length y.2) (fun _ => []) (fun y => [slA y.1 l]) := by
 refine con Tryz.func23 rfl Tryz.ntmps23 rfl ?_
 intro M0 F0 w0
 refine cs ?_
 refine cr ?_
 refine ls (op (p_asg rfl) rfl) ?_
 refine ln ?_
 refine nthen ?_
 refine cs ?_
 refine cr ?_
 refine ls (op (p_asg rfl) rfl) ?_
 refine ln ?_
 refine nthen ?_
 refine cs ?_
 refine cs ?_
 refine cmono (fun a w h => nilRow (α := Prim) 72 h) ?_
 refine cr ?_
 refine ls (op (p_move rfl) rfl) ?_
 refine ls (op (p_lenl rfl Tryz.underlying25) rfl) ?_
 refine ls (op (p_move rfl) rfl) ?_
 refine ln ?_
 refine nthen ?_
 refine cb ?_
 refine cl (ι := {q : Nat × Option Addr × Nat // q.1 ≤ l.length}) (fun i => St M0 F0 w0 18 [(6, .slice A l.length c), (7, .int .i64 (l.length : Int)), (8, .int .i64 (i.1.1 : Int)), (3, .slice i.1.2.1 (l.take i.1.1).length i.1.2.2)] [row 72 (i.1.2.1) (i.1.2.2) (l.take i.1.1)] [slA A l]) (fun i => l.length - i.1.1) ⟨(0, none, 0), Nat.zero_le _⟩ (wk0 (by repeat (first | exact subσ.nil _ | refine subσ.cons rfl ?_)) (by repeat' (first | constructor | apply Sub.suf))) ?_
 rintro ⟨⟨k, A2, c2⟩, hk⟩
 refine cmono (S' := St M0 F0 w0 18 [(6, .slice A l.length c), (7, .int .i64 (l.length : Int)), (8, .int .i64 (k : Int)), (3, .slice A2 (l.take k).length c2)] [row 72 (A2) (c2) (l.take k)] [slA A l]) (fun _ _ h => h) ?_
 refine cs ?_
 refine cr ?_
 refine ls (op (p_icmp rfl rfl rfl) rfl) ?_
 refine ln ?_
 refine nthen ?_
 refine cs ?_
 refine cc rfl ?_ ?_
 ·
  intro h9
  dsimp only at hk
  try simp only [decide_eq_true_eq, decide_eq_false_iff_not, Bool.not_eq_true', Bool.not_eq_false', Int.not_lt, Int.not_le, ge_iff_le, Bool.not_true, Bool.not_false] at h9
  have hk1 : k < l.length := by omega
  refine cskip ?_
  refine nthen ?_
  refine cs ?_
  refine cb ?_
  refine cs ?_
  refine elC (by repeat' constructor) k (List.getElem?_eq_getElem (l := l) hk1) ?_; rintro zbp zop zyp hAp
  refine cr ?_
  refine ls (op (p_ia k hAp hk1 rfl Tryz.underlying25 Tryz.sizeOf70 rfl rfl) rfl) ?_
  refine ls (o_ldj Tryz.isAgg70 Tryz.sizeOf70 rfl (by repeat' constructor) 0 rfl (by repeat (first | exact Cut.d | apply Cut.t | apply Cut.s)) rfl) ?_
  refine ls (o_alloc Tryz.zeroValue70 rfl rfl) ?_
  refine le ?_; intro b5
  refine ls (o_st rfl Tryz.sizeOf70 rfl rfl rfl rfl rfl (by repeat' constructor) (by repeat' constructor) (by repeat' constructor)) ?_
  refine ln ?_
  refine nthen ?_
  refine cr ?_
  refine ls (op (p_move rfl) rfl) ?_
  refine ls (o_ldw Tryz.isAgg70 Tryz.sizeOf70 rfl (by repeat' constructor) (by rfl) rfl) ?_
  refine ls (o_bsl [l[k]] Tryz.underlying22 Tryz.sizeOf72 Tryz.zeroValue72 rfl (Enum.t Enum.d) (RV.t zyp rfl (by repeat' (first | constructor | apply Sub.suf)) RV.d) rfl (by decide) (by decide) rfl) ?_
  refine le ?_; intro b14
  refine lmono (fun a w h => Go.Sx.freeze (i := 0) rfl h) ?_
  refine ls (o_app (is := [1]) Tryz.underlying22 inf72 rfl (by decide) (by decide) rfl rfl (by rw [List.length_take]; simp only [List.length_cons, List.length_nil]; omega) (fun h => by cases h) rfl (by repeat' (first | constructor | apply Sub.suf)) rfl) ?_
  refine le ?_; rintro ⟨A3, c3⟩
  rw [← List.take_succ_eq_append_getElem hk1]
  refine ls (op (p_asg rfl) rfl) ?_
  refine ln ?_
  refine nblock ?_
  refine nthen ?_
  refine cr ?_
  refine ls (op (p_add rfl rfl (by omega)) rfl) ?_
  refine ls (op (p_move rfl) rfl) ?_
  refine ln ?_
  refine nnext ⟨(k + 1, A3, c3), hk1⟩ (by dsimp only; omega) (wk (is := [0]) (by repeat (first | exact subσ.nil _ | refine subσ.cons rfl ?_)) rfl (by repeat' (first | constructor | apply Sub.suf)))
 ·
  intro h9
  dsimp only at hk
  try simp only [decide_eq_true_eq, decide_eq_false_iff_not, Bool.not_eq_true', Bool.not_eq_false', Int.not_lt, Int.not_le, ge_iff_le, Bool.not_true, Bool.not_false] at h9
  obtain rfl : k = l.length := by omega
  rw [List.take_length]
  refine cexit ?_
  refine xthen ?_
  refine xthen ?_
  refine xblock ?_
  refine nthen ?_
  refine cs ?_
  refine cmono (fun a w h => Go.Sx.freeze (i := 0) rfl h) ?_
  refine cr ?_
  refine ls (op (p_move rfl) rfl) ?_
  refine ls (op (p_asg rfl) rfl) ?_
  refine ln ?_
  refine nthen ?_
  refine cret ?_
  refine xret (fun _ _ h => h) ?_
  refine rret (is := []) (A2, c2) (Or.inl rfl) (Res.t rfl Res.d) (rfl) rfl (by repeat' (first | constructor | apply Sub.suf))

end Go.Proofs.YtheamdahngfpdaaGreatDoor.X

end
section
set_option linter.unusedVariables false
set_option linter.unusedSimpArgs false
namespace Go.Proofs.YtheamdahngfpdaaGreatDoor.X
open Go Go.RowKit Go.Proofs Go.Sx
attribute [local irreducible] slA isA box row


set_option maxRecDepth 100000 in
theorem c_seqInvert (l : List Prim) (A : Option Addr) (c : Nat) (hl : l.length ≤ 2000000) (hf : ∀ x ∈ l, x.fit) : Con Tryz.prog 24 [.slice A l.length c] [] [slA A l] (Option Addr × Nat) (fun y => .slice y.1 (invL l).length y.2) (fun _ => []) (fun y => [slA y.1 (invL l)]) := by
 refine con Tryz.func24 rfl Tryz.ntmps24 rfl ?_
 intro M0 F0 w0
 refine cs ?_
 refine cr ?_
 refine ls (op (p_asg rfl) rfl) ?_
 refine ln ?_
 refine nthen ?_
 refine cs ?_
 refine cr ?_
 refine ls (o_alloc Tryz.zeroValue25 rfl rfl) ?_
 refine le ?_; intro b3
 refine ln ?_
 refine nthen ?_
 refine cs ?_
 refine cs ?_
 refine cmono (fun a w h => nilRow (α := Prim) 70 h) ?_
 refine cr ?_
 refine ls (op (p_move rfl) rfl) ?_
 refine ls (o_call (is := []) Tryz.call61 (c_Backward l A c) rfl rfl (by repeat' (first | constructor | apply Sub.suf)) rfl) ?_
 refine le ?_; intro b7
 refine ln ?_
 refine nthen ?_
 refine cb ?_
 refine crng (ι := fun pre => Option Addr × Nat) rfl Tryz.call91 (c_Backward1 l A c hl b7) (fun _ => rfl) rfl (fun pre i => [box b3 25 [.slice i.1 (invP l pre.length).length i.2], row 70 i.1 i.2 (invP l pre.length)]) (fun pre i => []) ((none, 0)) (Y := Empty) (fun _ => []) (fun _ => []) (is := [2, 1, 0]) rfl (by repeat' (first | constructor | apply Sub.suf)) (by repeat' (first | constructor | apply Sub.suf)) ?_ ?_ ?_
 ·
  rintro M0 F0 w0 lp κ pre ⟨⟨k, yk⟩, hk⟩ hx ⟨A2, c2⟩
  dsimp only at hk hx ⊢
  have hfk := hf _ (List.getElem_mem hk)
  have hpl := invP_len l (show pre.length ≤ l.length by omega)
  refine cmono (S' := St M0 F0 w0 ⟨16, []⟩ [(3, .pointer (some ⟨b3, 0, none⟩)), (9, sv l[k] yk)] [lrec lp κ .ready none, box b3 25 [.slice A2 (invP l pre.length).length c2], row 70 A2 c2 (invP l pre.length)] [slA yk.1.1 l[k].old, slA yk.2.1 l[k].new]) (wk0 (by repeat (first | exact subσ.nil _ | refine subσ.cons rfl ?_)) (by repeat' (first | constructor | apply Sub.suf))) ?_
  refine cr ?_
  refine ls (o_alloc Tryz.zeroValue70 rfl rfl) ?_
  refine le ?_; intro b5
  refine ls (o_st rfl Tryz.sizeOf70 rfl rfl rfl rfl rfl (by repeat' constructor) (by repeat' constructor) (by repeat' constructor)) ?_
  refine ln ?_
  refine nbegin (i := 1) rfl ?_
  refine cb ?_
  refine cd [2, 3, 4, 5] [(0, b3, 0, _), (1, b5, 0, _)] TryzX.mixed (TOk.t (isBoxS (by repeat' constructor) (k := 1) (by repeat (first | exact Cut.d | apply Cut.t | apply Cut.s))) (TOk.t (isBoxS (by repeat' constructor) (k := 6) (by repeat (first | exact Cut.d | apply Cut.t | apply Cut.s))) TOk.d)) ?_
  refine tk 0 rfl (by kernel_rfl) (fun _ _ _ h => h) gnone (TTat (List.Mem.head _)) (p_ld Tryz.isAgg25 rfl) rfl ?_
  refine tk 1 rfl (by kernel_rfl) (fun _ _ _ h => h) gnone (TTat (List.Mem.tail _ (List.Mem.head _))) (p_lda Tryz.isAgg70 Tryz.sizeOf70 rfl rfl) rfl ?_
  refine df 2 (by kernel_rfl) ?_
  refine doR rfl (o_call (is := []) Tryz.call62 (c_primInvert l[k] yk hfk) rfl rfl (by repeat' (first | constructor | apply Sub.suf)) rfl) (TOk.t (isBoxE fun _ => isBoxS (by repeat' constructor) (k := 1) (by repeat (first | exact Cut.d | apply Cut.t | apply Cut.s))) (TOk.x (by kernel_rfl) TOk.d)) ?_
  refine ea ?_; rintro ⟨⟨q1, z1⟩, hz1⟩
  obtain rfl : q1 = l[k].flip := hz1
  refine df 3 (by kernel_rfl) ?_
  refine doR rfl (o_bsl [l[k].flip] Tryz.underlying25 Tryz.sizeOf70 Tryz.zeroValue70 rfl (Enum.t Enum.d) (RV.t z1 rfl (by repeat' (first | constructor | apply Sub.suf)) RV.d) rfl (by decide) (by decide) rfl) (TOk.t (isBoxE fun _ => isBoxS (by repeat' constructor) (k := 1) (by repeat (first | exact Cut.d | apply Cut.t | apply Cut.s))) (TOk.x (by kernel_rfl) TOk.d)) ?_
  refine ea ?_; intro b13
  refine amono (fun a w h => Go.Sx.freeze (i := 0) rfl h) ?_
  refine df 4 (by kernel_rfl) ?_
  refine doR rfl (o_app (is := [3]) Tryz.underlying25 inf70 rfl (by decide) (by decide) rfl rfl (by rw [hpl]; simp only [List.length_cons, List.length_nil]; omega) (fun h => by cases h) rfl (by repeat' (first | constructor | apply Sub.suf)) rfl) (TOk.x (by kernel_rfl) (TOk.x (by kernel_rfl) TOk.d)) ?_
  refine ea ?_; rintro ⟨A3, c3⟩
  refine df 5 (by kernel_rfl) ?_
  refine doR rfl (o_st rfl Tryz.sizeOf25 rfl rfl rfl rfl rfl (by repeat' constructor) (by repeat' constructor) (by repeat' constructor)) (TOk.x (by kernel_rfl) (TOk.x (by kernel_rfl) TOk.d)) ?_
  refine dn (by kernel_rfl) ?_
  refine nblock ?_
  rw [← invP_step hx]
  exact nround (A3, c3) (is := [1, 2, 0]) (by rw [List.length_append]; rfl) (by repeat' (first | constructor | apply Sub.suf))
 ·
  rintro D xs hC ⟨A2, c2⟩
  rw [hC, invP_all]
  refine nblock ?_
  refine nthen ?_
  refine cs ?_
  refine cmono (fun a w h => Go.Sx.freeze (i := 1) rfl h) ?_
  refine cr ?_
  refine ls (o_ld Tryz.isAgg25 rfl (by repeat' constructor) (by repeat' constructor) rfl) ?_
  refine ls (op (p_asg rfl) rfl) ?_
  refine ln ?_
  refine nthen ?_
  refine cret ?_
  refine xret (fun _ _ h => h) ?_
  refine rretm (Dfr.c (i := 2) rfl Dfr.d) (is := []) (A2, c2) (Or.inl rfl) (Res.t rfl Res.d) (rfl) rfl (by repeat' (first | constructor | apply Sub.suf))
 ·
  intro D y
  exact y.elim

set_option maxRecDepth 100000 in
theorem c_seqRebase (l m : List Prim) (A B : Option Addr) (c c' : Nat) (hl : l.length ≤ 2000000) (hm : m.length ≤ 2000000) (hfl : ∀ x ∈ l, x.fit) (hfm : ∀ x ∈ m, x.fit) : Con Tryz.prog 28 [.slice B m.length c', .slice A l.length c] [] [slA B m, slA A l] {x : (List Prim × Bool) × (Option Addr × Nat) // x.1 = rebT l m} (fun x => .tuple #[.slice x.1.2.1 x.1.1.1.length x.1.2.2, .bool x.1.1.2]) (fun _ => []) (fun x => [slA x.1.2.1 x.1.1.1]) := by
 refine con Tryz.func28 rfl Tryz.ntmps28 rfl ?_
 intro M0 F0 w0
 refine cs ?_
 refine cr ?_
 refine ls (op (p_asg rfl) rfl) ?_
 refine ls (op (p_asg rfl) rfl) ?_
 refine ln ?_
 refine nthen ?_
 refine cs ?_
 refine cr ?_
 refine ls (op (p_move rfl) rfl) ?_
 refine ls (o_call (is := []) Tryz.call24 (c_seqInvert l A c hl hfl) rfl rfl (by repeat' (first | constructor | apply Sub.suf)) rfl) ?_
 refine le ?_; rintro ⟨A1, c1⟩
 refine ls (op (p_move rfl) rfl) ?_
 refine ls (o_call (is := []) Tryz.call26 (c_seqSwap (invL l) m A1 B c1 c' (by rw [invL_len]; exact hl) hm (invL_fit hfl) hfm) rfl rfl (by repeat' (first | constructor | apply Sub.suf)) rfl) ?_
 refine le ?_; rintro ⟨⟨⟨f, s, b⟩, ⟨⟨A2, c2⟩, ⟨A3, c3⟩⟩⟩, hr⟩
 refine ls (op (p_move rfl) rfl) ?_
 refine ls (op (p_ext rfl (by repeat' constructor)) rfl) ?_
 refine ls (op (p_ext rfl (by repeat' constructor)) rfl) ?_
 refine ls (op (p_ext rfl (by repeat' constructor)) rfl) ?_
 refine ls (op (p_asg rfl) rfl) ?_
 refine ls (op (p_asg rfl) rfl) ?_
 refine ls (op (p_asg rfl) rfl) ?_
 refine ln ?_
 refine nthen ?_
 refine cs ?_
 refine cr ?_
 refine ls (op (p_move rfl) rfl) ?_
 refine ls (op (p_move rfl) rfl) ?_
 refine ls (op (p_asg rfl) rfl) ?_
 refine ls (op (p_asg rfl) rfl) ?_
 refine ln ?_
 refine nthen ?_
 refine cret ?_
 refine xret (fun _ _ h => h) ?_
 refine rret (is := []) ⟨((f, b), (A2, c2)), swT_reb hr⟩ (Or.inl rfl) (Res.t rfl (Res.t rfl Res.d)) (rfl) rfl (by repeat' (first | constructor | apply Sub.suf))

set_option maxRecDepth 100000 in
theorem c_ref5Invert (l : List Prim) (A : Option Addr) (c : Nat) (hl : l.length ≤ 2000000) (hf : ∀ x ∈ l, x.fit) : Con Tryz.prog 25 [.slice A l.length c] [] [slA A l] {y : Option Addr × Nat // invL l = [] → y.1 = none → y.2 = 0} (fun y => .slice y.1.1 (invL l).length y.1.2) (fun _ => []) (fun y => [slA y.1.1 (invL l)]) := by
 refine con Tryz.func25 rfl Tryz.ntmps25 rfl ?_
 intro M0 F0 w0
 refine cs ?_
 refine cr ?_
 refine ls (op (p_asg rfl) rfl) ?_
 refine ln ?_
 refine nthen ?_
 refine cs ?_
 refine cr ?_
 refine ls (op (p_asg rfl) rfl) ?_
 refine ln ?_
 refine nthen ?_
 refine cs ?_
 refine cs ?_
 refine cmono (fun a w h => nilRow (α := Prim) 72 h) ?_
 refine cr ?_
 refine ls (op (p_move rfl) rfl) ?_
 refine ls (op (p_lenl rfl Tryz.underlying22) rfl) ?_
 refine ls (op (p_sub rfl rfl (by omega)) rfl) ?_
 refine ls (op (p_asg rfl) rfl) ?_
 refine ln ?_
 refine nthen ?_
 refine cb ?_
 refine cl (ι := {q : Nat × Int × Option Addr × Nat // q.1 ≤ l.length ∧ q.2.1 = (l.length : Int) - 1 - (q.1 : Int) ∧ (q.1 = 0 → q.2.2.2 = 0)}) (fun i => St M0 F0 w0 21 [(0, .slice A l.length c), (3, .slice i.1.2.2.1 (invP l i.1.1).length i.1.2.2.2), (4, .int .i64 i.1.2.1)] [row 72 (i.1.2.2.1) (i.1.2.2.2) (invP l i.1.1)] [slA A l]) (fun i => l.length - i.1.1) ⟨(0, (l.length : Int) - 1, none, 0), Nat.zero_le _, by simp, fun _ => rfl⟩ (wk0 (by repeat (first | exact subσ.nil _ | refine subσ.cons rfl ?_)) (by repeat' (first | constructor | apply Sub.suf))) ?_
 rintro ⟨⟨j, z, A2, c2⟩, hj, hz, h0⟩
 refine cmono (S' := St M0 F0 w0 21 [(0, .slice A l.length c), (3, .slice A2 (invP l j).length c2), (4, .int .i64 z)] [row 72 (A2) (c2) (invP l j)] [slA A l]) (fun _ _ h => h) ?_
 refine cs ?_
 refine cs ?_
 refine cr ?_
 refine ls (op (p_move rfl) rfl) ?_
 refine ls (op (p_icmp rfl rfl rfl) rfl) ?_
 refine ln ?_
 refine nthen ?_
 refine cc rfl ?_ ?_
 ·
  intro h9
  dsimp only at hj hz h0
  try simp only [decide_eq_true_eq, decide_eq_false_iff_not, Bool.not_eq_true', Bool.not_eq_false', Int.not_lt, Int.not_le, ge_iff_le, Bool.not_true, Bool.not_false] at h9
  obtain ⟨u, hu⟩ : ∃ u, u + j + 1 = l.length := ⟨l.length - 1 - j, by omega⟩
  have hu1 : u < l.length := by omega
  have hpl := invP_len l hj
  refine cskip ?_
  refine nthen ?_
  refine cs ?_
  refine cb ?_
  refine elC (by repeat' constructor) u (List.getElem?_eq_getElem (l := l) hu1) ?_; rintro zbp zop zyp hAp
  refine cr ?_
  refine ls (op (p_move rfl) rfl) ?_
  refine ls (op (p_move rfl) rfl) ?_
  refine ls (op (p_move rfl) rfl) ?_
  refine ls (op (p_ia u hAp hu1 (by omega) Tryz.underlying22 Tryz.sizeOf72 rfl rfl) rfl) ?_
  refine ls (o_ldj Tryz.isAgg72 Tryz.sizeOf72 rfl (by repeat' constructor) 0 rfl (by repeat (first | exact Cut.d | apply Cut.t | apply Cut.s)) rfl) ?_
  refine ls (o_call (is := []) Tryz.call63 (c_refInvert l[u] zyp (hf _ (List.getElem_mem hu1))) rfl rfl (by repeat' (first | constructor | apply Sub.suf)) rfl) ?_
  refine le ?_; rintro ⟨⟨q1, z1⟩, hz1⟩
  obtain rfl : q1 = l[u].flip := hz1
  refine ls (o_bsl [l[u].flip] Tryz.underlying22 Tryz.sizeOf72 Tryz.zeroValue72 rfl (Enum.t Enum.d) (RV.t z1 rfl (by repeat' (first | constructor | apply Sub.suf)) RV.d) rfl (by decide) (by decide) rfl) ?_
  refine le ?_; intro b18
  refine lmono (fun a w h => Go.Sx.freeze (i := 0) rfl h) ?_
  refine ls (o_app (is := [0]) Tryz.underlying22 inf72 rfl (by decide) (by decide) rfl rfl (by rw [hpl]; simp only [List.length_cons, List.length_nil]; omega) (fun h => by cases h) rfl (by repeat' (first | constructor | apply Sub.suf)) rfl) ?_
  refine le ?_; rintro ⟨A3, c3⟩
  rw [← invP_step (show u + j + 1 = l.length by omega)]
  refine ls (op (p_asg rfl) rfl) ?_
  refine ln ?_
  refine nblock ?_
  refine nthen ?_
  refine cr ?_
  refine ls (op (p_move rfl) rfl) ?_
  refine ls (op (p_sub rfl rfl (by omega)) rfl) ?_
  refine ls (op (p_asg rfl) rfl) ?_
  refine ln ?_
  refine nnext ⟨(j + 1, z - 1, A3, c3), by dsimp only; omega, by dsimp only; omega, by dsimp only; omega⟩ (by dsimp only; omega) (wk (is := [0]) (by repeat (first | exact subσ.nil _ | refine subσ.cons rfl ?_)) rfl (by repeat' (first | constructor | apply Sub.suf)))
 ·
  intro h9
  dsimp only at hj hz h0
  try simp only [decide_eq_true_eq, decide_eq_false_iff_not, Bool.not_eq_true', Bool.not_eq_false', Int.not_lt, Int.not_le, ge_iff_le, Bool.not_true, Bool.not_false] at h9
  obtain rfl : j = l.length := by omega
  rw [invP_all]
  refine cexit ?_
  refine xthen ?_
  refine xthen ?_
  refine xblock ?_
  refine nthen ?_
  refine cs ?_
  refine cmono (fun a w h => Go.Sx.freeze (i := 0) rfl h) ?_
  refine cr ?_
  refine ls (op (p_move rfl) rfl) ?_
  refine ls (op (p_asg rfl) rfl) ?_
  refine ln ?_
  refine nthen ?_
  refine cret ?_
  refine xret (fun _ _ h => h) ?_
  refine rret (is := []) ⟨(A2, c2), fun h _ => h0 (by rw [← invL_len l, h]; rfl)⟩ (Or.inl rfl) (Res.t rfl Res.d) (rfl) rfl (by repeat' (first | constructor | apply Sub.suf))

set_option maxRecDepth 100000 in
theorem c_ref5Rebase (l m : List Prim) (A B : Option Addr) (c c' : Nat) (hl : l.length ≤ 2000000) (hm : m.length ≤ 2000000) (hB0 : m = [] → B = none → c' = 0) (hfl : ∀ x ∈ l, x.fit) (hfm : ∀ x ∈ m, x.fit) : Con Tryz.prog 29 [.slice B m.length c', .slice A l.length c] [] [slA B m, slA A l] {x : (List Prim × Bool) × (Option Addr × Nat) // x.1 = rebT l m} (fun x => .tuple #[.slice x.1.2.1 x.1.1.1.length x.1.2.2, .bool x.1.1.2]) (fun _ => []) (fun x => [slA x.1.2.1 x.1.1.1]) := by
 refine con Tryz.func29 rfl Tryz.ntmps29 rfl ?_
 intro M0 F0 w0
 refine cs ?_
 refine cr ?_
 refine ls (op (p_asg rfl) rfl) ?_
 refine ls (op (p_asg rfl) rfl) ?_
 refine ln ?_
 refine nthen ?_
 refine cs ?_
 refine cr ?_
 refine ls (op (p_move rfl) rfl) ?_
 refine ls (o_call (is := []) Tryz.call25 (c_ref5Invert l A c hl hfl) rfl rfl (by repeat' (first | constructor | apply Sub.suf)) rfl) ?_
 refine le ?_; rintro ⟨⟨A1, c1⟩, h10⟩
 dsimp only at h10
 refine ls (op (p_move rfl) rfl) ?_
 refine ls (o_call (is := []) Tryz.call27 (c_ref5Swap (invL l) m A1 B c1 c' (by rw [invL_len]; exact hl) hm h10 hB0 (invL_fit hfl) hfm) rfl rfl (by repeat' (first | constructor | apply Sub.suf)) rfl) ?_
 refine le ?_; rintro ⟨⟨⟨f, s, b⟩, ⟨⟨A2, c2⟩, ⟨A3, c3⟩⟩⟩, hr⟩
 refine ls (op (p_move rfl) rfl) ?_
 refine ls (op (p_ext rfl (by repeat' constructor)) rfl) ?_
 refine ls (op (p_ext rfl (by repeat' constructor)) rfl) ?_
 refine ls (op (p_ext rfl (by repeat' constructor)) rfl) ?_
 refine ls (op (p_asg rfl) rfl) ?_
 refine ls (op (p_asg rfl) rfl) ?_
 refine ls (op (p_asg rfl) rfl) ?_
 refine ln ?_
 refine nthen ?_
 refine cs ?_
 refine cr ?_
 refine ls (op (p_move rfl) rfl) ?_
 refine ls (op (p_move rfl) rfl) ?_
 refine ls (op (p_asg rfl) rfl) ?_
 refine ls (op (p_asg rfl) rfl) ?_
 refine ln ?_
 refine nthen ?_
 refine cret ?_
 refine xret (fun _ _ h => h) ?_
 refine rret (is := []) ⟨((f, b), (A2, c2)), swT_reb hr⟩ (Or.inl rfl) (Res.t rfl (Res.t rfl Res.d)) (rfl) rfl (by repeat' (first | constructor | apply Sub.suf))

end Go.Proofs.YtheamdahngfpdaaGreatDoor.X

end
