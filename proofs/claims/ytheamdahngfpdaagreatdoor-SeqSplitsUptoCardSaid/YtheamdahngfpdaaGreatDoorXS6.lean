/- OWN WORK: a part of the proof of a law of the seat YtheamdahngfpdaaGreatDoor: the rules by which the code is walked. -/
import Derived.Test.YtheamdahngfpdaaGreatDoorXSx1
import Derived.Test.YtheamdahngfpdaaGreatDoorProg
import Derived.Test.YtheamdahngfpdaaGreatDoorXS3
section
set_option linter.unusedVariables false
namespace Go.Sx
open Go
def wantF (wn : List Bool) (k : Nat) : Bool := if h : k < wn.length then wn[k] else false
theorem wantF_at {wn : List Bool} {k : Nat} (h : k < wn.length) : wantF wn k = wn[k] := by unfold wantF; rw [dif_pos h]
theorem wantF_no {wn : List Bool} {k : Nat} (h : ¬ k < wn.length) : wantF wn k = false := by unfold wantF; rw [dif_neg h]
end Go.Sx

end
section
set_option linter.unusedVariables false
set_option linter.unusedSimpArgs false
namespace Go.Proofs.YtheamdahngfpdaaGreatDoor.X
open Go Go.RowKit Go.Proofs Go.Sx
attribute [local irreducible] slA isA box row
theorem few5_two {l m : List Prim} (h : few5 [l, m] = true) : many l + many m ≤ 6000 ∧ l.length + m.length ≤ 40 := by
 unfold few5 at h
 simp only [List.map_cons, List.map_nil, List.sum_cons, List.sum_nil, Bool.and_eq_true, decide_eq_true_eq] at h
 omega
theorem few5_one {l : List Prim} (h : few5 [l] = true) : many l ≤ 6000 ∧ l.length ≤ 40 := by
 unfold few5 at h
 simp only [List.map_cons, List.map_nil, List.sum_cons, List.sum_nil, Bool.and_eq_true, decide_eq_true_eq] at h
 omega
theorem two_R {l m : List Prim} (hl : l.length ≤ 1048576) (hm : m.length ≤ 1048576) : ∀ x ∈ [l, m], x.length ≤ 2000000 := fun x hx => by
 simp only [List.mem_cons, List.mem_nil_iff, or_false] at hx
 rcases hx with rfl | rfl <;> omega
theorem two_S {f : List Prim → Nat} {l m : List Prim} (hl : f l ≤ 1048576) (hm : f m ≤ 1048576) : ([l, m].map f).sum ≤ 1000000000000 := by simp; omega
theorem one_R {l : List Prim} (hl : l.length ≤ 1048576) : ∀ x ∈ [l], x.length ≤ 2000000 := fun x hx => by rw [List.mem_singleton.1 hx]; omega
theorem one_S {f : List Prim → Nat} {l : List Prim} (hl : f l ≤ 1048576) : ([l].map f).sum ≤ 1000000000000 := by simp; omega
theorem wcase (wn : List Bool) (k : Nat) (b : Bool) : (∃ h : k < wn.length, wn[k] = false) ∨ (∃ h : k < wn.length, wn[k] = true ∧ b = false) ∨ (∃ h : k < wn.length, wn[k] = true ∧ b = true) ∨ ¬ k < wn.length := by
 by_cases h : k < wn.length
 ·
  cases hw : wn[k]
  ·
   exact .inl ⟨h, hw⟩
  ·
   cases b
   ·
    exact .inr (.inl ⟨h, hw, rfl⟩)
   ·
    exact .inr (.inr (.inl ⟨h, hw, rfl⟩))
 ·
  exact .inr (.inr (.inr h))
theorem splK_fit (W : Nat → Bool) (l : List Prim) (hf : ∀ x ∈ l, x.fit) : ∀ (k : Nat), k ≤ l.length → (∀ x ∈ (splK W l k).1, x.fit) ∧ ∀ x ∈ (splK W l k).2, x.fit := by
 intro k
 induction k with
 | zero => intro _; exact ⟨(fun x hx => by cases hx), (fun x hx => by cases hx)⟩
 | succ k ih =>
  intro hk
  have ih := ih (by omega)
  have h1 : ∀ x ∈ [l[k]], x.fit := fun x hx => by rw [List.mem_singleton.1 hx]; exact hf _ (List.getElem_mem _)
  rw [splK, List.getElem?_eq_getElem (by omega)]
  dsimp only
  split
  ·
   rename_i hc
   simp only [Bool.and_eq_true] at hc
   have := swT_fit (l := (splK W l k).2) (m := [l[k]]) (f := (swT (splK W l k).2 [l[k]]).1) (s := (swT (splK W l k).2 [l[k]]).2.1) (b := true) (by rw [← hc.2]) ih.2 h1
   exact ⟨fun x hx => (List.mem_append.1 hx).elim (ih.1 x) (this.1 x), this.2⟩
  ·
   exact ⟨ih.1, fun x hx => (List.mem_append.1 hx).elim (ih.2 x) (h1 x)⟩
theorem splK_lns (W : Nat → Bool) (l : List Prim) : ∀ (k : Nat), k ≤ l.length → lns (splK W l k).1 + lns (splK W l k).2 = lns (l.take k) := by
 intro k
 induction k with
 | zero => intro _; rfl
 | succ k ih =>
  intro hk
  have ih := ih (by omega)
  rw [List.take_succ_eq_append_getElem (by omega), lns_app, ← ih, splK, List.getElem?_eq_getElem (by omega)]
  dsimp only
  split
  ·
   rename_i hc
   simp only [Bool.and_eq_true] at hc
   have := swT_lns (l := (splK W l k).2) (m := [l[k]]) (f := (swT (splK W l k).2 [l[k]]).1) (s := (swT (splK W l k).2 [l[k]]).2.1) (by rw [← hc.2])
   dsimp only
   rw [lns_app]
   omega
  ·
   dsimp only; rw [lns_app]; omega


set_option maxRecDepth 100000 in
theorem c_ref5SwapC (l m : List Prim) (A B : Option Addr) (c c' : Nat) (hl : l.length ≤ 2000000) (hm : m.length ≤ 2000000) (hA0 : l = [] → A = none → c = 0) (hB0 : m = [] → B = none → c' = 0) (hfl : ∀ x ∈ l, x.fit) (hfm : ∀ x ∈ m, x.fit) : Con Tryz.prog 27 [.slice A l.length c, .slice B m.length c'] [] [slA A l, slA B m] {x : (List Prim × List Prim × Bool) × ((Option Addr × Nat) × (Option Addr × Nat)) // x.1 = swT l m} (fun x => .tuple #[.slice x.1.2.1.1 x.1.1.1.length x.1.2.1.2, .slice x.1.2.2.1 x.1.1.2.1.length x.1.2.2.2, .bool x.1.1.2.2]) (fun _ => []) (fun x => [slA x.1.2.1.1 x.1.1.1, slA x.1.2.2.1 x.1.1.2.1, nilA x.1.2.2]) := by
 refine con Tryz.func27 rfl Tryz.ntmps27 rfl ?_
 intro M0 F0 w0
 refine cs ?_
 refine cr ?_
 refine ls (op (p_asg rfl) rfl) ?_
 refine ls (op (p_asg rfl) rfl) ?_
 refine ls (op (p_asg rfl) rfl) ?_
 refine ln ?_
 refine nthen ?_
 refine cs ?_
 refine cr ?_
 refine ls (o_bsl ([] : List Prim) Tryz.underlying22 Tryz.sizeOf72 Tryz.zeroValue72 rfl Enum.d RV.d rfl (by decide) (by decide) rfl) ?_
 refine le ?_; intro b13
 refine ls (op (p_move rfl) rfl) ?_
 refine ls (o_app (is := [0]) Tryz.underlying22 inf72 rfl (by decide) (by decide) rfl rfl (by simp only [List.length_nil]; omega) (fun h hB => hA0 h hB) rfl (by repeat' (first | constructor | apply Sub.suf)) rfl) ?_
 refine le ?_; rintro ⟨A8, c8⟩
 refine ls (op (p_move rfl) rfl) ?_
 refine ls (o_app (is := [0]) Tryz.underlying22 inf72 rfl (by decide) (by decide) rfl rfl (by simp only [List.length_append, List.length_nil]; omega) (fun h hB => hB0 h hB) rfl (by repeat' (first | constructor | apply Sub.suf)) rfl) ?_
 refine le ?_; rintro ⟨A9, c9⟩
 refine ls (op (p_asg rfl) rfl) ?_
 refine ln ?_
 refine nthen ?_
 refine cs ?_
 refine cs ?_
 skip
 refine cr ?_
 refine ls (op (p_move rfl) rfl) ?_
 refine ls (op (p_lenl rfl Tryz.underlying22) rfl) ?_
 refine ls (op (p_sub rfl rfl (by omega)) rfl) ?_
 refine ls (op (p_asg rfl) rfl) ?_
 refine ln ?_
 refine nthen ?_
 refine cb ?_
 refine cl (ι := {q : Nat × Int × List Prim × List Prim × (Option Addr × Nat) // q.1 ≤ l.length ∧ q.2.1 = (l.length : Int) - 1 - (q.1 : Int) ∧ SI l m q.1 q.2.2.1 q.2.2.2.1}) (fun i => St M0 F0 w0 72 [(0, .slice A l.length c), (1, .slice B m.length c'), (7, .slice i.1.2.2.2.2.1 (l ++ m).length i.1.2.2.2.2.2), (8, .int .i64 i.1.2.1)] [row 72 (i.1.2.2.2.2.1) (i.1.2.2.2.2.2) (l.take (l.length - i.1.1) ++ (i.1.2.2.1 ++ i.1.2.2.2.1))] [slA A l, slA B m]) (fun i => l.length - i.1.1) ⟨(0, (l.length : Int) - 1, m, [], (A9, c9)), Nat.zero_le _, by simp, SI.start hfm⟩ (fun a w h => by dsimp only; rw [show l.take (l.length - 0) ++ (m ++ []) = [] ++ l ++ m by simp]; exact wk (is := [0]) (by repeat (first | exact subσ.nil _ | refine subσ.cons rfl ?_)) rfl (by repeat' (first | constructor | apply Sub.suf)) a w h) ?_
 rintro ⟨⟨j, z, f, s, A1, c1⟩, hj, hz, hI⟩
 refine cmono (S' := St M0 F0 w0 72 [(0, .slice A l.length c), (1, .slice B m.length c'), (7, .slice A1 (l ++ m).length c1), (8, .int .i64 z)] [row 72 (A1) (c1) (l.take (l.length - j) ++ (f ++ s))] [slA A l, slA B m]) (fun _ _ h => h) ?_
 refine cs ?_
 refine cs ?_
 refine cr ?_
 refine ls (op (p_move rfl) rfl) ?_
 refine ls (op (p_icmp rfl rfl rfl) rfl) ?_
 refine ln ?_
 refine nthen ?_
 refine cc rfl ?_ ?_
 ·
  intro h22
  dsimp only at hj hz hI
  try simp only [decide_eq_true_eq, decide_eq_false_iff_not, Bool.not_eq_true', Bool.not_eq_false', Int.not_lt, Int.not_le, ge_iff_le, Bool.not_true, Bool.not_false] at h22
  have hfl1 := hI.fl; have hsl1 := hI.sl
  obtain ⟨u, hi⟩ : ∃ u, u + j + 1 = l.length := ⟨l.length - 1 - j, by omega⟩
  have hi1 : u < l.length := by omega
  have eR : l.take (l.length - j) ++ (f ++ s) = l.take u ++ ([] ++ (l[u] :: (f.drop 0 ++ s))) := by rw [show l.length - j = u + 1 by omega, List.take_succ_eq_append_getElem hi1, List.append_assoc]; rfl
  rw [eR]
  refine cskip ?_
  refine nthen ?_
  refine cs ?_
  refine cb ?_
  refine cs ?_
  refine cr ?_
  refine ls (op (p_asg rfl) rfl) ?_
  refine ln ?_
  refine nthen ?_
  refine cb ?_
  refine cl (ι := {q : Nat × List Prim × Prim × (Option Addr × Nat) // q.1 ≤ f.length ∧ q.2.1.length = q.1 ∧ q.2.2.1.fit ∧ PI l[u] f q.1 q.2.1 q.2.2.1}) (fun i => St M0 F0 w0 72 [(0, .slice A l.length c), (1, .slice B m.length c'), (7, .slice i.1.2.2.2.1 (l ++ m).length i.1.2.2.2.2), (8, .int .i64 z), (9, .int .i64 (i.1.1 : Int))] [row 72 (i.1.2.2.2.1) (i.1.2.2.2.2) (l.take u ++ (i.1.2.1 ++ (i.1.2.2.1 :: (f.drop i.1.1 ++ s))))] [slA A l, slA B m]) (fun i => f.length - i.1.1) ⟨(0, [], l[u], (A1, c1)), Nat.zero_le _, rfl, hfl _ (List.getElem_mem hi1), PI.start _ _⟩ (wk0 (by repeat (first | exact subσ.nil _ | refine subσ.cons rfl ?_)) (by repeat' (first | constructor | apply Sub.suf))) ?_
  rintro ⟨⟨k, d, p1, A2, c2⟩, hk, hdl, hp1, hPI⟩
  refine cmono (S' := St M0 F0 w0 72 [(0, .slice A l.length c), (1, .slice B m.length c'), (7, .slice A2 (l ++ m).length c2), (8, .int .i64 z), (9, .int .i64 (k : Int))] [row 72 (A2) (c2) (l.take u ++ (d ++ (p1 :: (f.drop k ++ s))))] [slA A l, slA B m]) (fun _ _ h => h) ?_
  refine cs ?_
  refine cs ?_
  refine cr ?_
  refine ls (op (p_move rfl) rfl) ?_
  refine ls (op (p_move rfl) rfl) ?_
  refine ls (op (p_lenl rfl Tryz.underlying22) rfl) ?_
  refine ls (op (p_icmp rfl rfl rfl) rfl) ?_
  refine ln ?_
  refine nthen ?_
  refine cc rfl ?_ ?_
  ·
   intro h28
   dsimp only at hk hdl hp1 hPI
   try simp only [decide_eq_true_eq, decide_eq_false_iff_not, Bool.not_eq_true', Bool.not_eq_false', Int.not_lt, Int.not_le, ge_iff_le, Bool.not_true, Bool.not_false] at h28
   have hk1 : k < f.length := by omega
   have hff := hI.ff _ (List.getElem_mem hk1)
   have hti : (l.take u).length = u := by rw [List.length_take]; omega
   have eD : f.drop k ++ s = f[k] :: (f.drop (k + 1) ++ s) := by rw [List.drop_eq_getElem_cons hk1]; rfl
   rw [eD]
   refine rowC (by repeat' constructor) (by intro e; simp at e) ?_; rintro g rfl
   refine cskip ?_
   refine nthen ?_
   refine cs ?_
   refine cb ?_
   refine cs ?_
   refine cmono (fun a w h => pin0 (by repeat' constructor) (by repeat' constructor) h) ?_
   refine pinC (u + k) (by repeat' constructor) (mid_get1 (by omega)) (fun _ => (by repeat' constructor)) ?_; intro yp
   refine pinC (u + k + 1) (by repeat' constructor) (mid_get2 (by omega)) (fun _ => (by repeat' constructor)) ?_; intro yq
   refine cutC (S' := fun a w => ∃ (b10 : Nat) (b11 : Nat) (r1 : Prim) (r2 : Prim) (r3 : Bool) (z1 : Rp.Lay Prim) (z2 : Rp.Lay Prim) (hr : (r1, r2, r3) = swap p1 f[k]) (e1 : r1.fit) (e2 : r2.fit), St M0 F0 w0 72 [(0, .slice A l.length c), (1, .slice B m.length c'), (7, .slice (some ⟨g, 0, none⟩) (l ++ m).length c2), (8, .int .i64 z), (9, .int .i64 (k : Int)), (10, .pointer (some ⟨b10, 0, none⟩)), (11, .pointer (some ⟨b11, 0, none⟩)), (12, .bool r3)] [rowPin 72 g c2 (l.take u ++ (d ++ (p1 :: f[k] :: (f.drop (k + 1) ++ s)))) [(u + k + 1, f[k], yq), (u + k, p1, yp)], box b10 72 (Rp.enc r1 z1), box b11 72 (Rp.enc r2 z2)] [slA z1.1.1 r1.old, slA z1.2.1 r1.new, slA z2.1.1 r2.old, slA z2.2.1 r2.new, slA A l, slA B m] a w) ?_ ?_
   ·
    refine cd [13, 18, 19, 20, 21] [(5, g, 0 + (u + k) * Rp.size Prim, _), (12, g, 0 + (u + k + 1) * Rp.size Prim, _)] TryzX.mixed (TOk.t (isPin (by repeat' constructor) (List.Mem.tail _ (List.Mem.head _))) (TOk.t (isPin (by repeat' constructor) (List.Mem.head _)) TOk.d)) ?_
    refine tk 0 rfl (by kernel_rfl) (fun _ _ _ h => h) gnone (TTany _) (p_move rfl) rfl ?_
    refine tk 1 rfl (by kernel_rfl) (fun _ _ _ h => h) gnone (TTany _) (p_move rfl) rfl ?_
    refine tk 2 rfl (by kernel_rfl) (fun _ _ _ h => h) gnone (TTany _) (p_move rfl) rfl ?_
    refine tk 3 rfl (by kernel_rfl) (fun _ _ _ h => h) gnone (TTany _) (p_add rfl rfl (by omega)) rfl ?_
    refine tk 4 rfl (by kernel_rfl) (fun _ _ _ h => h) gnone (TTany _) (p_ia (u + k) rfl (by rw [List.length_append]; omega) (by omega) Tryz.underlying22 Tryz.sizeOf72 rfl rfl) rfl ?_
    refine tk 5 rfl (by kernel_rfl) (fun _ _ _ h => h) gnone (TTat (List.Mem.head _)) (p_lda Tryz.isAgg72 Tryz.sizeOf72 rfl rfl) rfl ?_
    refine tk 6 rfl (by kernel_rfl) (fun _ _ _ h => h) gnone (TTany _) (p_move rfl) rfl ?_
    refine tk 7 rfl (by kernel_rfl) (fun _ _ _ h => h) gnone (TTany _) (p_move rfl) rfl ?_
    refine tk 8 rfl (by kernel_rfl) (fun _ _ _ h => h) gnone (TTany _) (p_move rfl) rfl ?_
    refine tk 9 rfl (by kernel_rfl) (fun _ _ _ h => h) gnone (TTany _) (p_add rfl rfl (by omega)) rfl ?_
    refine tk 10 rfl (by kernel_rfl) (fun _ _ _ h => h) gnone (TTany _) (p_add rfl rfl (by omega)) rfl ?_
    refine tk 11 rfl (by kernel_rfl) (fun _ _ _ h => h) gnone (TTany _) (p_ia (u + k + 1) rfl (by rw [List.length_append]; omega) (by omega) Tryz.underlying22 Tryz.sizeOf72 rfl rfl) rfl ?_
    refine tk 12 rfl (by kernel_rfl) (fun _ _ _ h => h) gnone (TTat (List.Mem.tail _ (List.Mem.head _))) (p_lda Tryz.isAgg72 Tryz.sizeOf72 rfl rfl) rfl ?_
    refine dall (is := [13, 18, 19]) (by kernel_rfl) rfl ?_
    intro i hi; simp only [List.mem_cons, List.mem_nil_iff, or_false] at hi; rcases hi with rfl | rfl | rfl
    ·
     refine doR rfl (o_call (is := []) Tryz.call67 (c_refSwap p1 f[k] yp yq hp1 hff) rfl rfl (by repeat' (first | constructor | apply Sub.suf)) rfl) (TOk.x (by kernel_rfl) (TOk.x (by kernel_rfl) TOk.d)) ?_
     refine ea ?_; rintro ⟨⟨⟨r1, r2, r3⟩, z1, z2⟩, hr⟩
     obtain ⟨e1, e2⟩ := swap_fit hp1 hff; have hr := hr.trans (swap_eq p1 f[k]); rw [← hr] at e1 e2; dsimp only at hr e1 e2
     refine tk 14 rfl (by kernel_rfl) (fun _ _ _ h => h) gnone (TTany _) (p_move rfl) rfl ?_
     refine tk 15 rfl (by kernel_rfl) (fun _ _ _ h => h) gnone (TTany _) (p_ext rfl (by repeat' constructor)) rfl ?_
     refine tk 16 rfl (by kernel_rfl) (fun _ _ _ h => h) gnone (TTany _) (p_ext rfl (by repeat' constructor)) rfl ?_
     refine tk 17 rfl (by kernel_rfl) (fun _ _ _ h => h) gnone (TTany _) (p_ext rfl (by repeat' constructor)) rfl ?_
     refine dall (is := [18, 19]) (by kernel_rfl) rfl ?_
     intro i hi; simp only [List.mem_cons, List.mem_nil_iff, or_false] at hi; rcases hi with rfl | rfl
     ·
      refine doR rfl (o_alloc Tryz.zeroValue72 rfl rfl) (TOk.x (by kernel_rfl) (TOk.x (by kernel_rfl) TOk.d)) ?_
      refine ea ?_; intro b10
      refine df 19 (by kernel_rfl) ?_
      refine doR rfl (o_alloc Tryz.zeroValue72 rfl rfl) (TOk.x (by kernel_rfl) (TOk.x (by kernel_rfl) TOk.d)) ?_
      refine ea ?_; intro b11
      refine df 20 (by kernel_rfl) ?_
      refine doR rfl (o_st rfl Tryz.sizeOf72 rfl rfl rfl rfl rfl (by repeat' constructor) (by repeat' constructor) (by repeat' constructor)) (TOk.x (by kernel_rfl) (TOk.x (by kernel_rfl) TOk.d)) ?_
      refine df 21 (by kernel_rfl) ?_
      refine doR rfl (o_st rfl Tryz.sizeOf72 rfl rfl rfl rfl rfl (by repeat' constructor) (by repeat' constructor) (by repeat' constructor)) (TOk.x (by kernel_rfl) (TOk.x (by kernel_rfl) TOk.d)) ?_
      refine tk 22 rfl (by kernel_rfl) (fun _ _ _ h => h) gnone (TTany _) (p_asg rfl) rfl ?_
      refine dn (by kernel_rfl) (nmid (fun a w h => by first | exact ⟨b10, b11, r1, r2, r3, z1, z2, hr, e1, e2, wk (is := [2, 1, 0]) (by repeat (first | exact subσ.nil _ | refine subσ.cons rfl ?_)) rfl (by repeat' (first | constructor | apply Sub.suf)) a w h⟩ | exact ⟨b10, b11, r1, r2, r3, z1, z2, hr, e1, e2, wk (is := [2, 0, 0]) (by repeat (first | exact subσ.nil _ | refine subσ.cons rfl ?_)) rfl (by repeat' (first | constructor | apply Sub.suf)) a w h⟩))
     ·
      refine doR rfl (o_alloc Tryz.zeroValue72 rfl rfl) (TOk.x (by kernel_rfl) (TOk.x (by kernel_rfl) TOk.d)) ?_
      refine ea ?_; intro b11
      refine df 18 (by kernel_rfl) ?_
      refine doR rfl (o_alloc Tryz.zeroValue72 rfl rfl) (TOk.x (by kernel_rfl) (TOk.x (by kernel_rfl) TOk.d)) ?_
      refine ea ?_; intro b10
      refine df 20 (by kernel_rfl) ?_
      refine doR rfl (o_st rfl Tryz.sizeOf72 rfl rfl rfl rfl rfl (by repeat' constructor) (by repeat' constructor) (by repeat' constructor)) (TOk.x (by kernel_rfl) (TOk.x (by kernel_rfl) TOk.d)) ?_
      refine df 21 (by kernel_rfl) ?_
      refine doR rfl (o_st rfl Tryz.sizeOf72 rfl rfl rfl rfl rfl (by repeat' constructor) (by repeat' constructor) (by repeat' constructor)) (TOk.x (by kernel_rfl) (TOk.x (by kernel_rfl) TOk.d)) ?_
      refine tk 22 rfl (by kernel_rfl) (fun _ _ _ h => h) gnone (TTany _) (p_asg rfl) rfl ?_
      refine dn (by kernel_rfl) (nmid (fun a w h => by first | exact ⟨b10, b11, r1, r2, r3, z1, z2, hr, e1, e2, wk (is := [2, 1, 0]) (by repeat (first | exact subσ.nil _ | refine subσ.cons rfl ?_)) rfl (by repeat' (first | constructor | apply Sub.suf)) a w h⟩ | exact ⟨b10, b11, r1, r2, r3, z1, z2, hr, e1, e2, wk (is := [2, 0, 0]) (by repeat (first | exact subσ.nil _ | refine subσ.cons rfl ?_)) rfl (by repeat' (first | constructor | apply Sub.suf)) a w h⟩))
    ·
     refine doR rfl (o_alloc Tryz.zeroValue72 rfl rfl) (TOk.t (isBoxE fun _ => isPin (by repeat' constructor) (List.Mem.tail _ (List.Mem.head _))) (TOk.t (isBoxE fun _ => isPin (by repeat' constructor) (List.Mem.head _)) TOk.d)) ?_
     refine ea ?_; intro b10
     refine dall (is := [13, 19]) (by kernel_rfl) rfl ?_
     intro i hi; simp only [List.mem_cons, List.mem_nil_iff, or_false] at hi; rcases hi with rfl | rfl
     ·
      refine doR rfl (o_call (is := []) Tryz.call67 (c_refSwap p1 f[k] yp yq hp1 hff) rfl rfl (by repeat' (first | constructor | apply Sub.suf)) rfl) (TOk.x (by kernel_rfl) (TOk.x (by kernel_rfl) TOk.d)) ?_
      refine ea ?_; rintro ⟨⟨⟨r1, r2, r3⟩, z1, z2⟩, hr⟩
      obtain ⟨e1, e2⟩ := swap_fit hp1 hff; have hr := hr.trans (swap_eq p1 f[k]); rw [← hr] at e1 e2; dsimp only at hr e1 e2
      refine tk 14 rfl (by kernel_rfl) (fun _ _ _ h => h) gnone (TTany _) (p_move rfl) rfl ?_
      refine tk 15 rfl (by kernel_rfl) (fun _ _ _ h => h) gnone (TTany _) (p_ext rfl (by repeat' constructor)) rfl ?_
      refine tk 16 rfl (by kernel_rfl) (fun _ _ _ h => h) gnone (TTany _) (p_ext rfl (by repeat' constructor)) rfl ?_
      refine tk 17 rfl (by kernel_rfl) (fun _ _ _ h => h) gnone (TTany _) (p_ext rfl (by repeat' constructor)) rfl ?_
      refine df 19 (by kernel_rfl) ?_
      refine doR rfl (o_alloc Tryz.zeroValue72 rfl rfl) (TOk.x (by kernel_rfl) (TOk.x (by kernel_rfl) TOk.d)) ?_
      refine ea ?_; intro b11
      refine df 20 (by kernel_rfl) ?_
      refine doR rfl (o_st rfl Tryz.sizeOf72 rfl rfl rfl rfl rfl (by repeat' constructor) (by repeat' constructor) (by repeat' constructor)) (TOk.x (by kernel_rfl) (TOk.x (by kernel_rfl) TOk.d)) ?_
      refine df 21 (by kernel_rfl) ?_
      refine doR rfl (o_st rfl Tryz.sizeOf72 rfl rfl rfl rfl rfl (by repeat' constructor) (by repeat' constructor) (by repeat' constructor)) (TOk.x (by kernel_rfl) (TOk.x (by kernel_rfl) TOk.d)) ?_
      refine tk 22 rfl (by kernel_rfl) (fun _ _ _ h => h) gnone (TTany _) (p_asg rfl) rfl ?_
      refine dn (by kernel_rfl) (nmid (fun a w h => by first | exact ⟨b10, b11, r1, r2, r3, z1, z2, hr, e1, e2, wk (is := [2, 1, 0]) (by repeat (first | exact subσ.nil _ | refine subσ.cons rfl ?_)) rfl (by repeat' (first | constructor | apply Sub.suf)) a w h⟩ | exact ⟨b10, b11, r1, r2, r3, z1, z2, hr, e1, e2, wk (is := [2, 0, 0]) (by repeat (first | exact subσ.nil _ | refine subσ.cons rfl ?_)) rfl (by repeat' (first | constructor | apply Sub.suf)) a w h⟩))
     ·
      refine doR rfl (o_alloc Tryz.zeroValue72 rfl rfl) (TOk.t (isBoxE fun _ => isPin (by repeat' constructor) (List.Mem.tail _ (List.Mem.head _))) (TOk.t (isBoxE fun _ => isPin (by repeat' constructor) (List.Mem.head _)) TOk.d)) ?_
      refine ea ?_; intro b11
      refine df 13 (by kernel_rfl) ?_
      refine doR rfl (o_call (is := []) Tryz.call67 (c_refSwap p1 f[k] yp yq hp1 hff) rfl rfl (by repeat' (first | constructor | apply Sub.suf)) rfl) (TOk.x (by kernel_rfl) (TOk.x (by kernel_rfl) TOk.d)) ?_
      refine ea ?_; rintro ⟨⟨⟨r1, r2, r3⟩, z1, z2⟩, hr⟩
      obtain ⟨e1, e2⟩ := swap_fit hp1 hff; have hr := hr.trans (swap_eq p1 f[k]); rw [← hr] at e1 e2; dsimp only at hr e1 e2
      refine tk 14 rfl (by kernel_rfl) (fun _ _ _ h => h) gnone (TTany _) (p_move rfl) rfl ?_
      refine tk 15 rfl (by kernel_rfl) (fun _ _ _ h => h) gnone (TTany _) (p_ext rfl (by repeat' constructor)) rfl ?_
      refine tk 16 rfl (by kernel_rfl) (fun _ _ _ h => h) gnone (TTany _) (p_ext rfl (by repeat' constructor)) rfl ?_
      refine tk 17 rfl (by kernel_rfl) (fun _ _ _ h => h) gnone (TTany _) (p_ext rfl (by repeat' constructor)) rfl ?_
      refine df 20 (by kernel_rfl) ?_
      refine doR rfl (o_st rfl Tryz.sizeOf72 rfl rfl rfl rfl rfl (by repeat' constructor) (by repeat' constructor) (by repeat' constructor)) (TOk.x (by kernel_rfl) (TOk.x (by kernel_rfl) TOk.d)) ?_
      refine df 21 (by kernel_rfl) ?_
      refine doR rfl (o_st rfl Tryz.sizeOf72 rfl rfl rfl rfl rfl (by repeat' constructor) (by repeat' constructor) (by repeat' constructor)) (TOk.x (by kernel_rfl) (TOk.x (by kernel_rfl) TOk.d)) ?_
      refine tk 22 rfl (by kernel_rfl) (fun _ _ _ h => h) gnone (TTany _) (p_asg rfl) rfl ?_
      refine dn (by kernel_rfl) (nmid (fun a w h => by first | exact ⟨b10, b11, r1, r2, r3, z1, z2, hr, e1, e2, wk (is := [2, 1, 0]) (by repeat (first | exact subσ.nil _ | refine subσ.cons rfl ?_)) rfl (by repeat' (first | constructor | apply Sub.suf)) a w h⟩ | exact ⟨b10, b11, r1, r2, r3, z1, z2, hr, e1, e2, wk (is := [2, 0, 0]) (by repeat (first | exact subσ.nil _ | refine subσ.cons rfl ?_)) rfl (by repeat' (first | constructor | apply Sub.suf)) a w h⟩))
    ·
     refine doR rfl (o_alloc Tryz.zeroValue72 rfl rfl) (TOk.t (isBoxE fun _ => isPin (by repeat' constructor) (List.Mem.tail _ (List.Mem.head _))) (TOk.t (isBoxE fun _ => isPin (by repeat' constructor) (List.Mem.head _)) TOk.d)) ?_
     refine ea ?_; intro b11
     refine dall (is := [13, 18]) (by kernel_rfl) rfl ?_
     intro i hi; simp only [List.mem_cons, List.mem_nil_iff, or_false] at hi; rcases hi with rfl | rfl
     ·
      refine doR rfl (o_call (is := []) Tryz.call67 (c_refSwap p1 f[k] yp yq hp1 hff) rfl rfl (by repeat' (first | constructor | apply Sub.suf)) rfl) (TOk.x (by kernel_rfl) (TOk.x (by kernel_rfl) TOk.d)) ?_
      refine ea ?_; rintro ⟨⟨⟨r1, r2, r3⟩, z1, z2⟩, hr⟩
      obtain ⟨e1, e2⟩ := swap_fit hp1 hff; have hr := hr.trans (swap_eq p1 f[k]); rw [← hr] at e1 e2; dsimp only at hr e1 e2
      refine tk 14 rfl (by kernel_rfl) (fun _ _ _ h => h) gnone (TTany _) (p_move rfl) rfl ?_
      refine tk 15 rfl (by kernel_rfl) (fun _ _ _ h => h) gnone (TTany _) (p_ext rfl (by repeat' constructor)) rfl ?_
      refine tk 16 rfl (by kernel_rfl) (fun _ _ _ h => h) gnone (TTany _) (p_ext rfl (by repeat' constructor)) rfl ?_
      refine tk 17 rfl (by kernel_rfl) (fun _ _ _ h => h) gnone (TTany _) (p_ext rfl (by repeat' constructor)) rfl ?_
      refine df 18 (by kernel_rfl) ?_
      refine doR rfl (o_alloc Tryz.zeroValue72 rfl rfl) (TOk.x (by kernel_rfl) (TOk.x (by kernel_rfl) TOk.d)) ?_
      refine ea ?_; intro b10
      refine df 20 (by kernel_rfl) ?_
      refine doR rfl (o_st rfl Tryz.sizeOf72 rfl rfl rfl rfl rfl (by repeat' constructor) (by repeat' constructor) (by repeat' constructor)) (TOk.x (by kernel_rfl) (TOk.x (by kernel_rfl) TOk.d)) ?_
      refine df 21 (by kernel_rfl) ?_
      refine doR rfl (o_st rfl Tryz.sizeOf72 rfl rfl rfl rfl rfl (by repeat' constructor) (by repeat' constructor) (by repeat' constructor)) (TOk.x (by kernel_rfl) (TOk.x (by kernel_rfl) TOk.d)) ?_
      refine tk 22 rfl (by kernel_rfl) (fun _ _ _ h => h) gnone (TTany _) (p_asg rfl) rfl ?_
      refine dn (by kernel_rfl) (nmid (fun a w h => by first | exact ⟨b10, b11, r1, r2, r3, z1, z2, hr, e1, e2, wk (is := [2, 1, 0]) (by repeat (first | exact subσ.nil _ | refine subσ.cons rfl ?_)) rfl (by repeat' (first | constructor | apply Sub.suf)) a w h⟩ | exact ⟨b10, b11, r1, r2, r3, z1, z2, hr, e1, e2, wk (is := [2, 0, 0]) (by repeat (first | exact subσ.nil _ | refine subσ.cons rfl ?_)) rfl (by repeat' (first | constructor | apply Sub.suf)) a w h⟩))
     ·
      refine doR rfl (o_alloc Tryz.zeroValue72 rfl rfl) (TOk.t (isBoxE fun _ => isPin (by repeat' constructor) (List.Mem.tail _ (List.Mem.head _))) (TOk.t (isBoxE fun _ => isPin (by repeat' constructor) (List.Mem.head _)) TOk.d)) ?_
      refine ea ?_; intro b10
      refine df 13 (by kernel_rfl) ?_
      refine doR rfl (o_call (is := []) Tryz.call67 (c_refSwap p1 f[k] yp yq hp1 hff) rfl rfl (by repeat' (first | constructor | apply Sub.suf)) rfl) (TOk.x (by kernel_rfl) (TOk.x (by kernel_rfl) TOk.d)) ?_
      refine ea ?_; rintro ⟨⟨⟨r1, r2, r3⟩, z1, z2⟩, hr⟩
      obtain ⟨e1, e2⟩ := swap_fit hp1 hff; have hr := hr.trans (swap_eq p1 f[k]); rw [← hr] at e1 e2; dsimp only at hr e1 e2
      refine tk 14 rfl (by kernel_rfl) (fun _ _ _ h => h) gnone (TTany _) (p_move rfl) rfl ?_
      refine tk 15 rfl (by kernel_rfl) (fun _ _ _ h => h) gnone (TTany _) (p_ext rfl (by repeat' constructor)) rfl ?_
      refine tk 16 rfl (by kernel_rfl) (fun _ _ _ h => h) gnone (TTany _) (p_ext rfl (by repeat' constructor)) rfl ?_
      refine tk 17 rfl (by kernel_rfl) (fun _ _ _ h => h) gnone (TTany _) (p_ext rfl (by repeat' constructor)) rfl ?_
      refine df 20 (by kernel_rfl) ?_
      refine doR rfl (o_st rfl Tryz.sizeOf72 rfl rfl rfl rfl rfl (by repeat' constructor) (by repeat' constructor) (by repeat' constructor)) (TOk.x (by kernel_rfl) (TOk.x (by kernel_rfl) TOk.d)) ?_
      refine df 21 (by kernel_rfl) ?_
      refine doR rfl (o_st rfl Tryz.sizeOf72 rfl rfl rfl rfl rfl (by repeat' constructor) (by repeat' constructor) (by repeat' constructor)) (TOk.x (by kernel_rfl) (TOk.x (by kernel_rfl) TOk.d)) ?_
      refine tk 22 rfl (by kernel_rfl) (fun _ _ _ h => h) gnone (TTany _) (p_asg rfl) rfl ?_
      refine dn (by kernel_rfl) (nmid (fun a w h => by first | exact ⟨b10, b11, r1, r2, r3, z1, z2, hr, e1, e2, wk (is := [2, 1, 0]) (by repeat (first | exact subσ.nil _ | refine subσ.cons rfl ?_)) rfl (by repeat' (first | constructor | apply Sub.suf)) a w h⟩ | exact ⟨b10, b11, r1, r2, r3, z1, z2, hr, e1, e2, wk (is := [2, 0, 0]) (by repeat (first | exact subσ.nil _ | refine subσ.cons rfl ?_)) rfl (by repeat' (first | constructor | apply Sub.suf)) a w h⟩))
   ·
    refine nex fun b10 => nex fun b11 => nex fun r1 => nex fun r2 => nex fun r3 => nex fun z1 => nex fun z2 => nex fun hr => nex fun e1 => nex fun e2 => ?_
    refine nthen ?_
    refine cs ?_
    refine cs ?_
    refine cr ?_
    refine ls (op (p_move rfl) rfl) ?_
    refine ls (op (p_not rfl) rfl) ?_
    refine ln ?_
    refine nthen ?_
    refine cc rfl ?_ ?_
    ·
     intro h50
     obtain rfl : false = r3 := by cases r3 <;> first | rfl | (simp at h50)
     refine cs ?_
     refine cmono (fun a w h => nilC (α := Prim) h) ?_
     refine cr ?_
     refine ls (op (p_asg rfl) rfl) ?_
     refine ls (op (p_asg rfl) rfl) ?_
     refine ls (op (p_asg rfl) rfl) ?_
     refine ln ?_
     refine nthen ?_
     refine cret ?_
     refine xret (fun _ _ h => h) ?_
     refine rret (is := []) ⟨(([], [], false), ((none, 0), (none, 0))), by rw [hI.stop hi (hPI.stop hk1 hr).symm]⟩ (Or.inl rfl) (Res.t rfl (Res.t rfl (Res.t rfl Res.d))) (rfl) rfl (by repeat' (first | constructor | apply Sub.suf))
    ·
     intro h50
     obtain rfl : true = r3 := by cases r3 <;> first | rfl | (simp at h50)
     refine cskip ?_
     refine nthen ?_
     refine cs ?_
     refine cmono (fun a w h => unpin (by repeat' constructor) (by repeat' constructor) h) ?_
     refine cr ?_
     refine ls (op (p_move rfl) rfl) ?_
     refine ls (op (p_move rfl) rfl) ?_
     refine ls (op (p_move rfl) rfl) ?_
     refine ls (op (p_add rfl rfl (by omega)) rfl) ?_
     refine ls (o_ldw Tryz.isAgg72 Tryz.sizeOf72 rfl (by repeat' constructor) (by rfl) rfl) ?_
     refine ls (op (p_ia (u + k) rfl (by rw [List.length_append]; omega) (by omega) Tryz.underlying22 Tryz.sizeOf72 rfl rfl) rfl) ?_
     refine ls (o_strow (z := r1) (yz := z1) rfl Tryz.sizeOf72 rfl rfl rfl (by repeat' constructor) (by simp; omega) (by repeat' constructor) (by repeat' (first | constructor | apply Sub.suf))) ?_
     refine ln ?_
     refine nthen ?_
     refine cr ?_
     refine ls (op (p_move rfl) rfl) ?_
     refine ls (op (p_move rfl) rfl) ?_
     refine ls (op (p_move rfl) rfl) ?_
     refine ls (op (p_add rfl rfl (by omega)) rfl) ?_
     refine ls (op (p_add rfl rfl (by omega)) rfl) ?_
     refine ls (o_ldw Tryz.isAgg72 Tryz.sizeOf72 rfl (by repeat' constructor) (by rfl) rfl) ?_
     refine ls (op (p_ia (u + k + 1) rfl (by rw [List.length_append]; omega) (by omega) Tryz.underlying22 Tryz.sizeOf72 rfl rfl) rfl) ?_
     refine ls (o_strow (z := r2) (yz := z2) rfl Tryz.sizeOf72 rfl rfl rfl (by repeat' constructor) (by simp; omega) (by repeat' constructor) (by repeat' (first | constructor | apply Sub.suf))) ?_
     refine ln ?_
     refine nblock ?_
     refine nthen ?_
     refine cr ?_
     refine ls (op (p_move rfl) rfl) ?_
     refine ls (op (p_add rfl rfl (by omega)) rfl) ?_
     refine ls (op (p_asg rfl) rfl) ?_
     refine ln ?_
     rw [mid_set (by omega)]
     refine nnext ⟨(k + 1, d ++ [r1], r2, (some ⟨g, 0, none⟩, c2)), hk1, by simp [hdl], e2, hPI.step hk1 hr⟩ (by dsimp only; omega) (wk (is := [0]) (by repeat (first | exact subσ.nil _ | refine subσ.cons rfl ?_)) rfl (by repeat' (first | constructor | apply Sub.suf)))
  ·
   intro h28
   dsimp only at hk hdl hp1 hPI
   try simp only [decide_eq_true_eq, decide_eq_false_iff_not, Bool.not_eq_true', Bool.not_eq_false', Int.not_lt, Int.not_le, ge_iff_le, Bool.not_true, Bool.not_false] at h28
   refine cexit ?_
   refine xthen ?_
   refine xthen ?_
   refine xblock ?_
   refine nblock ?_
   refine nthen ?_
   refine cr ?_
   refine ls (op (p_move rfl) rfl) ?_
   refine ls (op (p_sub rfl rfl (by omega)) rfl) ?_
   refine ls (op (p_asg rfl) rfl) ?_
   refine ln ?_
   have hpd := hPI.done (show ¬ k < f.length by omega)
   have eR2 : l.take u ++ (d ++ (p1 :: (f.drop k ++ s))) = l.take (l.length - (j + 1)) ++ (d ++ (p1 :: s)) := by rw [show l.length - (j + 1) = u by omega, List.drop_eq_nil_of_le (by omega)]; simp
   rw [eR2]
   refine nnext ⟨(j + 1, z - 1, d, p1 :: s, (A2, c2)), by dsimp only; omega, by dsimp only; omega, hI.step hi hfl hpd.symm⟩ (by dsimp only; omega) (wk0 (by repeat (first | exact subσ.nil _ | refine subσ.cons rfl ?_)) (by repeat' (first | constructor | apply Sub.suf)))
 ·
  intro h22
  dsimp only at hj hz hI
  try simp only [decide_eq_true_eq, decide_eq_false_iff_not, Bool.not_eq_true', Bool.not_eq_false', Int.not_lt, Int.not_le, ge_iff_le, Bool.not_true, Bool.not_false] at h22
  obtain rfl : j = l.length := by omega
  have hfl1 := hI.fl; have hsl1 := hI.sl; have hd := hI.done rfl
  rw [show l.take (l.length - l.length) ++ (f ++ s) = f ++ s by simp]
  refine cexit ?_
  refine xthen ?_
  refine xthen ?_
  refine xblock ?_
  refine nthen ?_
  refine cs ?_
  refine rowLeC (by repeat' constructor) (fun hle => ?_)
  refine cmono (fun a w h => freezeN (i := 0) rfl h) ?_
  refine nilP (y := (A1, c1)) (by repeat' constructor) (fun hn1 => ?_)
  refine cmono (fun a w h => nilQ (y := (if c1 = m.length then A1 else A1.map (·.add (m.length * Rp.size Prim)), c1 - m.length)) (fun hh => by { dsimp only at hh ⊢; have h0 : A1 = none := by { split at hh; exact hh; simpa using hh }; have := hn1 h0; dsimp only at this; omega }) h) ?_
  refine cmono (fun a w h => subS (l' := f) (c := c1) 0 m.length (In.s In.z) (Nat.zero_le _) (by rw [List.length_append]; omega) hle (by simp [hfl1]) h) ?_
  refine cmono (fun a w h => subS (l' := s) (c := c1) m.length (f ++ s).length (In.s (In.s In.z)) (by rw [List.length_append]; omega) (Nat.le_refl _) hle (by rw [← hfl1]; simp) h) ?_
  refine cd [] [] TryzX.mixed TOk.d ?_
  refine tk 0 rfl (by kernel_rfl) (fun _ _ _ h => h) gnone (TTany _) (p_move rfl) rfl ?_
  refine tk 1 rfl (by kernel_rfl) (fun _ _ _ h => h) gnone (TTany _) (p_move rfl) rfl ?_
  refine tk 2 rfl (by kernel_rfl) (fun _ _ _ h => h) gnone (TTany _) (p_lenl rfl Tryz.underlying22) rfl ?_
  refine tk 3 rfl (by kernel_rfl) (fun _ _ _ h => h) gnone (TTany _) (p_slh m.length (by rw [List.length_append] at hle; omega) rfl Tryz.underlying22 Tryz.sizeOf72 rfl rfl) rfl ?_
  refine tk 4 rfl (by kernel_rfl) (fun _ _ _ h => h) gnone (TTany _) (p_move rfl) rfl ?_
  refine tk 5 rfl (by kernel_rfl) (fun _ _ _ h => h) gnone (TTany _) (p_move rfl) rfl ?_
  refine tk 6 rfl (by kernel_rfl) (fun _ _ _ h => h) gnone (TTany _) (p_lenl rfl Tryz.underlying22) rfl ?_
  refine tk 7 rfl (by kernel_rfl) (fun _ _ _ h => h) gnone (TTany _) (p_sll m.length (by rw [List.length_append]; omega) (by rw [List.length_append] at hle ⊢; omega) rfl Tryz.underlying22 Tryz.sizeOf72 rfl rfl) rfl ?_
  refine tk 8 rfl (by kernel_rfl) (fun _ _ _ h => h) gnone (TTany _) (p_asg rfl) rfl ?_
  refine tk 9 rfl (by kernel_rfl) (fun _ _ _ h => h) gnone (TTany _) (p_asg rfl) rfl ?_
  refine tk 10 rfl (by kernel_rfl) (fun _ _ _ h => h) gnone (TTany _) (p_asg rfl) rfl ?_
  refine dn (by kernel_rfl) ?_
  refine nthen ?_
  refine cret ?_
  refine xret (fun _ _ h => h) ?_
  refine rret (is := []) ⟨((f, s, true), ((if c1 = 0 then A1 else A1.map (·.add (0 * Rp.size Prim)), c1 - 0), (if c1 = m.length then A1 else A1.map (·.add (m.length * Rp.size Prim)), c1 - m.length))), hd.symm⟩ (Or.inl rfl) (Res.t rfl (Res.t rfl (Res.t rfl Res.d))) ?_ rfl (by repeat' (first | constructor | apply Sub.suf))
  dsimp only [packV]; rw [show f.length = m.length - 0 by omega, show s.length = (l ++ m).length - m.length by rw [List.length_append]; omega]; rfl

set_option maxRecDepth 100000 in
theorem c_ref5Split (l : List Prim) (A : Option Addr) (c : Nat) (hc : l.length ≤ c) (hl : l.length ≤ 900000) (hf : ∀ x ∈ l, x.fit) (wn : List Bool) (D : Option Addr) (d' : Nat) : Con Tryz.prog 41 [.slice A l.length c, .slice D wn.length d'] [] [slA A l, slA D wn] {x : (List Prim × List Prim) × ((Option Addr × Nat) × (Option Addr × Nat)) // x.1 = splK (wantF wn) l l.length} (fun x => .tuple #[.slice x.1.2.1.1 x.1.1.1.length x.1.2.1.2, .slice x.1.2.2.1 x.1.1.2.length x.1.2.2.2]) (fun _ => []) (fun x => [slA x.1.2.1.1 x.1.1.1, slA x.1.2.2.1 x.1.1.2]) := by
 refine con Tryz.func41 rfl Tryz.ntmps41 rfl ?_
 intro M0 F0 w0
 refine cs ?_
 refine cr ?_
 refine ls (op (p_asg rfl) rfl) ?_
 refine ls (op (p_asg rfl) rfl) ?_
 refine ln ?_
 refine nthen ?_
 refine cs ?_
 refine cmono (fun a w h => nilRow (α := Prim) 72 h) ?_
 refine cmono (fun a w h => nilC (α := Prim) h) ?_
 refine cr ?_
 refine ls (op (p_asg rfl) rfl) ?_
 refine ln ?_
 refine nthen ?_
 refine cs ?_
 refine cr ?_
 refine ls (op (p_asg rfl) rfl) ?_
 refine ln ?_
 refine nthen ?_
 refine cs ?_
 refine cs ?_
 refine cr ?_
 refine ls (op (p_asg rfl) rfl) ?_
 refine ln ?_
 refine nthen ?_
 refine cb ?_
 refine cl (ι := {q : Nat × (List Prim × (Option Addr × Nat)) × (List Prim × (Option Addr × Nat)) // q.1 ≤ l.length ∧ (q.2.1.1, q.2.2.1) = splK (wantF wn) l q.1 ∧ (∀ x ∈ q.2.2.1, x.fit)}) (fun i => St M0 F0 w0 57 [(0, .slice A l.length c), (1, .slice D wn.length d'), (6, .slice i.1.2.1.2.1 (i.1.2.1.1).length i.1.2.1.2.2), (7, .slice i.1.2.2.2.1 (i.1.2.2.1).length i.1.2.2.2.2), (8, .int .i64 (i.1.1 : Int))] [row 72 (i.1.2.1.2.1) (i.1.2.1.2.2) i.1.2.1.1] [slA i.1.2.2.2.1 i.1.2.2.1, nilA (i.1.2.2.2.1, i.1.2.2.2.2), slA A l, slA D wn]) (fun i => l.length - i.1.1) ⟨(0, ([], (none, 0)), ([], (none, 0))), Nat.zero_le _, rfl, (fun x hx => by cases hx)⟩ (wk0 (by repeat (first | exact subσ.nil _ | refine subσ.cons rfl ?_)) (by repeat' (first | constructor | apply Sub.suf))) ?_
 rintro ⟨⟨k, ⟨F, ⟨A6, c6⟩⟩, ⟨R, ⟨A7, c7⟩⟩⟩, hk, hFR, hRf⟩
 refine cmono (S' := St M0 F0 w0 57 [(0, .slice A l.length c), (1, .slice D wn.length d'), (6, .slice A6 (F).length c6), (7, .slice A7 (R).length c7), (8, .int .i64 (k : Int))] [row 72 (A6) (c6) F] [slA A7 R, nilA (A7, c7), slA A l, slA D wn]) (fun _ _ h => h) ?_
 refine cs ?_
 refine cs ?_
 refine cr ?_
 refine ls (op (p_move rfl) rfl) ?_
 refine ls (op (p_move rfl) rfl) ?_
 refine ls (op (p_lenl rfl Tryz.underlying22) rfl) ?_
 refine ls (op (p_icmp rfl rfl rfl) rfl) ?_
 refine ln ?_
 refine nthen ?_
 refine cc rfl ?_ ?_
 ·
  intro h15
  dsimp only at hk hFR hRf
  try simp only [decide_eq_true_eq, decide_eq_false_iff_not, Bool.not_eq_true', Bool.not_eq_false', Int.not_lt, Int.not_le, ge_iff_le, Bool.not_true, Bool.not_false] at h15
  have hk1 : k < l.length := by omega
  have hfk := hf _ (List.getElem_mem hk1)
  have hsl := splK_len (wantF wn) l k hk
  rw [← hFR] at hsl
  dsimp only at hsl
  have hf1 : ∀ x ∈ [l[k]], x.fit := fun x hx => by rw [List.mem_singleton.1 hx]; exact hfk
  refine nilP (y := (A7, c7)) (by repeat' constructor) (fun hn7 => ?_)
  refine cmono (fun a w h => subS (A := A) (l := l) (l' := [l[k]]) (c := c) k (k + 1) (by repeat (first | exact In.z | apply In.s)) (by omega) (by omega) hc (by rw [show k + 1 - k = 1 by omega, List.drop_eq_getElem_cons hk1]; rfl) h) ?_
  refine cskip ?_
  refine nthen ?_
  refine cs ?_
  refine cb ?_
  refine cs ?_
  refine cr ?_
  refine ls (op (p_move rfl) rfl) ?_
  refine ls (op (p_move rfl) rfl) ?_
  refine ls (op (p_move rfl) rfl) ?_
  refine ls (op (p_move rfl) rfl) ?_
  refine ls (op (p_add rfl rfl (by omega)) rfl) ?_
  refine ls (op (p_sl k (k + 1) (by omega) (by omega) rfl (by omega) Tryz.underlying22 Tryz.sizeOf72 rfl rfl rfl) rfl) ?_
  refine fixL (slen (m' := [l[k]].length) (by simp)) ?_
  refine ls (o_call (is := []) Tryz.call27 (c_ref5SwapC R [l[k]] A7 _ c7 _ (by omega) (by simp) (fun _ => hn7) (fun h => by cases h) hRf hf1) rfl rfl (by repeat' (first | constructor | apply Sub.suf)) rfl) ?_
  refine le ?_; rintro ⟨⟨⟨f', s', b'⟩, ⟨⟨A9, c9⟩, ⟨A10, c10⟩⟩⟩, hr⟩
  dsimp only at hr
  refine ls (op (p_move rfl) rfl) ?_
  refine ls (op (p_ext rfl (by repeat' constructor)) rfl) ?_
  refine ls (op (p_ext rfl (by repeat' constructor)) rfl) ?_
  refine ls (op (p_ext rfl (by repeat' constructor)) rfl) ?_
  refine ls (op (p_asg rfl) rfl) ?_
  refine ls (op (p_asg rfl) rfl) ?_
  refine ls (op (p_asg rfl) rfl) ?_
  refine ln ?_
  refine nthen ?_
  refine cs ?_
  rcases wcase wn k b' with ⟨hw, hwv⟩ | ⟨hw, hwv, rfl⟩ | ⟨hw, hwv, rfl⟩ | hw
  ·
   refine elC (A := D) (l := wn) (by repeat' constructor) k (List.getElem?_eq_getElem hw) ?_; rintro zbw zow zyw hAw
   have hz := splK_no' hFR hk1 ((wantF_at hw).trans hwv)
   refine cr ?_
   refine ls (op (p_move rfl) rfl) ?_
   refine ls (op (p_move rfl) rfl) ?_
   refine ls (op (p_lenl rfl Tryz.underlying66) rfl) ?_
   refine ls (op (p_icmp rfl rfl rfl) rfl) ?_
   refine fixL (congrArg Value.bool (decide_eq_true (by omega))) ?_
   refine ls (op (p_move rfl) rfl) ?_
   refine lwant rfl rfl rfl rfl (op (p_move rfl) rfl) ?_
   refine lwant rfl rfl rfl rfl (op (p_move rfl) rfl) ?_
   refine lwant rfl rfl rfl rfl (op (p_ia k hAw hw rfl Tryz.underlying66 Tryz.sizeOf4 rfl rfl) rfl) ?_
   refine lwant rfl rfl rfl rfl (o_ldi Tryz.isAgg4 rfl (by repeat' constructor) 0 rfl (by repeat (first | exact Cut.d | apply Cut.t | apply Cut.s)) rfl) ?_
   refine fixL (congrArg Value.bool hwv) ?_
   refine ls (op (p_pickt rfl rfl) rfl) ?_
   refine ls (op (p_move rfl) rfl) ?_
   refine lskip rfl rfl rfl rfl rfl ?_
   refine ls (op (p_pickf rfl rfl) rfl) ?_
   refine ln ?_
   refine nthen ?_
   refine cc rfl (fun h => by cases h) (fun h => ?_)
   refine elC (A := A) (l := l) (by repeat' constructor) k (List.getElem?_eq_getElem (l := l) hk1) ?_; rintro zbp zop zyp hAp
   refine cutC (S' := fun a w => ∃ (A54 : Option Addr) (c54 : Nat), St M0 F0 w0 57 [(0, .slice A l.length c), (1, .slice D wn.length d'), (6, .slice A6 F.length c6), (7, .slice A54 (R ++ [l[k]]).length c54), (8, .int .i64 (k : Int))] [row 72 A54 c54 (R ++ [l[k]]), row 72 A6 c6 F] [slA A l, slA D wn] a w) ?_ ?_
   ·
    refine cdB [0, 2, 7, 8] [(6, zbp, zop + k * Rp.size Prim, _)] TryzX.mixed (by kernel_rfl) (by kernel_rfl) (TOk.t (isInS (by repeat' constructor) (k := 0) rfl (z := 6) (by repeat (first | exact Cut.d | apply Cut.t | apply Cut.s))) TOk.d) ?_
    refine tkB 1 rfl (by kernel_rfl) (fun _ _ _ h => h) gnone (TTany _) (p_move rfl) rfl ?_
    refine tkB 3 rfl (by kernel_rfl) (fun _ _ _ h => h) gnone (TTany _) (p_move rfl) rfl ?_
    refine tkB 4 rfl (by kernel_rfl) (fun _ _ _ h => h) gnone (TTany _) (p_move rfl) rfl ?_
    refine tkB 5 rfl (by kernel_rfl) (fun _ _ _ h => h) gnone (TTany _) (p_ia k hAp hk1 rfl Tryz.underlying22 Tryz.sizeOf72 rfl rfl) rfl ?_
    refine tkB 6 rfl (by kernel_rfl) (fun _ _ _ h => h) gnone (TTat (List.Mem.head _)) (p_lda Tryz.isAgg72 Tryz.sizeOf72 rfl rfl) rfl ?_
    refine dallB (is := [0, 7]) (by kernel_rfl) rfl ?_
    intro i hi; simp only [List.mem_cons, List.mem_nil_iff, or_false] at hi; rcases hi with rfl | rfl
    ·
     refine doRB rfl (o_bsl ([] : List Prim) Tryz.underlying22 Tryz.sizeOf72 Tryz.zeroValue72 rfl Enum.d RV.d rfl (by decide) (by decide) rfl) (TOk.t (isBoxE fun _ => isInS (by repeat' constructor) (k := 0) rfl (z := 6) (by repeat (first | exact Cut.d | apply Cut.t | apply Cut.s))) TOk.d) ?_
     refine eaB ?_; intro b46
     refine dallB (is := [2, 7]) (by kernel_rfl) rfl ?_
     intro i hi; simp only [List.mem_cons, List.mem_nil_iff, or_false] at hi; rcases hi with rfl | rfl
     ·
      refine doRB rfl (o_app (is := [0]) Tryz.underlying22 inf72 rfl (by decide) (by decide) rfl rfl (by simp only [List.length_nil]; omega) (fun _ h => hn7 h) rfl (by repeat' (first | constructor | apply Sub.suf)) rfl) (TOk.t (isBoxE fun _ => isInS (by repeat' constructor) (k := 0) rfl (z := 6) (by repeat (first | exact Cut.d | apply Cut.t | apply Cut.s))) TOk.d) ?_
      refine eaB ?_; rintro ⟨A48, c48⟩
      refine dfB 7 (by kernel_rfl) ?_
      refine doRB rfl (o_bsl [l[k]] Tryz.underlying22 Tryz.sizeOf72 Tryz.zeroValue72 rfl (Enum.t Enum.d) (RV.t zyp rfl (by repeat' (first | constructor | apply Sub.suf)) RV.d) rfl (by decide) (by decide) rfl) (TOk.xP 7 [] (by kernel_rfl) TOk.d) ?_
      refine eaB ?_; intro b53
      refine amonoB (fun a w h => Go.Sx.freeze (i := 0) rfl h) ?_
      refine dfB 8 (by kernel_rfl) ?_
      refine doRB rfl (o_app (is := [0]) Tryz.underlying22 inf72 rfl (by decide) (by decide) rfl rfl (by simp only [List.length_append, List.length_nil, List.length_cons]; omega) (fun h => by cases h) rfl (by repeat' (first | constructor | apply Sub.suf)) rfl) (TOk.xP 7 [] (by kernel_rfl) TOk.d) ?_
      refine eaB ?_; rintro ⟨A54, c54⟩
      refine tkB 9 rfl (by kernel_rfl) (fun _ _ _ h => h) gnone (TTany _) (p_asg rfl) rfl ?_
      refine dnB (by kernel_rfl) (nmid (fun a w h => by first | exact ⟨A54, c54, wk (is := [0, 0]) (by repeat (first | exact subσ.nil _ | refine subσ.cons rfl ?_)) rfl (by repeat' (first | constructor | apply Sub.suf)) a w h⟩))
     ·
      refine doRB rfl (o_bsl [l[k]] Tryz.underlying22 Tryz.sizeOf72 Tryz.zeroValue72 rfl (Enum.t Enum.d) (RV.t zyp rfl (by repeat' (first | constructor | apply Sub.suf)) RV.d) rfl (by decide) (by decide) rfl) (TOk.xP 7 [] (by kernel_rfl) TOk.d) ?_
      refine eaB ?_; intro b53
      refine amonoB (fun a w h => Go.Sx.freeze (i := 0) rfl h) ?_
      refine dfB 2 (by kernel_rfl) ?_
      refine doRB rfl (o_app (is := [0]) Tryz.underlying22 inf72 rfl (by decide) (by decide) rfl rfl (by simp only [List.length_nil]; omega) (fun _ h => hn7 h) rfl (by repeat' (first | constructor | apply Sub.suf)) rfl) (TOk.xP 7 [] (by kernel_rfl) TOk.d) ?_
      refine eaB ?_; rintro ⟨A48, c48⟩
      refine dfB 8 (by kernel_rfl) ?_
      refine doRB rfl (o_app (is := [0]) Tryz.underlying22 inf72 rfl (by decide) (by decide) rfl rfl (by simp only [List.length_append, List.length_nil, List.length_cons]; omega) (fun h => by cases h) rfl (by repeat' (first | constructor | apply Sub.suf)) rfl) (TOk.xP 7 [] (by kernel_rfl) TOk.d) ?_
      refine eaB ?_; rintro ⟨A54, c54⟩
      refine tkB 9 rfl (by kernel_rfl) (fun _ _ _ h => h) gnone (TTany _) (p_asg rfl) rfl ?_
      refine dnB (by kernel_rfl) (nmid (fun a w h => by first | exact ⟨A54, c54, wk (is := [0, 0]) (by repeat (first | exact subσ.nil _ | refine subσ.cons rfl ?_)) rfl (by repeat' (first | constructor | apply Sub.suf)) a w h⟩))
    ·
     refine doRB rfl (o_bsl [l[k]] Tryz.underlying22 Tryz.sizeOf72 Tryz.zeroValue72 rfl (Enum.t Enum.d) (RV.t zyp rfl (by repeat' (first | constructor | apply Sub.suf)) RV.d) rfl (by decide) (by decide) rfl) (TOk.xP 7 [] (by kernel_rfl) TOk.d) ?_
     refine eaB ?_; intro b53
     refine amonoB (fun a w h => Go.Sx.freeze (i := 0) rfl h) ?_
     refine dfB 0 (by kernel_rfl) ?_
     refine doRB rfl (o_bsl ([] : List Prim) Tryz.underlying22 Tryz.sizeOf72 Tryz.zeroValue72 rfl Enum.d RV.d rfl (by decide) (by decide) rfl) (TOk.xP 7 [] (by kernel_rfl) TOk.d) ?_
     refine eaB ?_; intro b46
     refine dfB 2 (by kernel_rfl) ?_
     refine doRB rfl (o_app (is := [0]) Tryz.underlying22 inf72 rfl (by decide) (by decide) rfl rfl (by simp only [List.length_nil]; omega) (fun _ h => hn7 h) rfl (by repeat' (first | constructor | apply Sub.suf)) rfl) (TOk.xP 7 [] (by kernel_rfl) TOk.d) ?_
     refine eaB ?_; rintro ⟨A48, c48⟩
     refine dfB 8 (by kernel_rfl) ?_
     refine doRB rfl (o_app (is := [0]) Tryz.underlying22 inf72 rfl (by decide) (by decide) rfl rfl (by simp only [List.length_append, List.length_nil, List.length_cons]; omega) (fun h => by cases h) rfl (by repeat' (first | constructor | apply Sub.suf)) rfl) (TOk.xP 7 [] (by kernel_rfl) TOk.d) ?_
     refine eaB ?_; rintro ⟨A54, c54⟩
     refine tkB 9 rfl (by kernel_rfl) (fun _ _ _ h => h) gnone (TTany _) (p_asg rfl) rfl ?_
     refine dnB (by kernel_rfl) (nmid (fun a w h => by first | exact ⟨A54, c54, wk (is := [0, 0]) (by repeat (first | exact subσ.nil _ | refine subσ.cons rfl ?_)) rfl (by repeat' (first | constructor | apply Sub.suf)) a w h⟩))
   ·
    refine nex fun A54 => nex fun c54 => ?_
    refine nblock ?_
    refine nthen ?_
    refine cr ?_
    refine ls (op (p_move rfl) rfl) ?_
    refine ls (op (p_add rfl rfl (by omega)) rfl) ?_
    refine ls (op (p_asg rfl) rfl) ?_
    refine ln ?_
    refine nmono (fun a w h => freezeN (i := 0) rfl h) ?_
    refine nnext ⟨(k + 1, (F, (A6, c6)), (R ++ [l[k]], (A54, c54))), hk1, hz, (fun x hx => (List.mem_append.1 hx).elim (hRf x) (hf1 x))⟩ (by dsimp only; omega) (wk (is := [0]) (by repeat (first | exact subσ.nil _ | refine subσ.cons rfl ?_)) rfl (by repeat' (first | constructor | apply Sub.suf)))
  ·
   refine elC (A := D) (l := wn) (by repeat' constructor) k (List.getElem?_eq_getElem hw) ?_; rintro zbw zow zyw hAw
   have hz := splK_no hFR hk1 hr (Bool.and_false _)
   refine cr ?_
   refine ls (op (p_move rfl) rfl) ?_
   refine ls (op (p_move rfl) rfl) ?_
   refine ls (op (p_lenl rfl Tryz.underlying66) rfl) ?_
   refine ls (op (p_icmp rfl rfl rfl) rfl) ?_
   refine fixL (congrArg Value.bool (decide_eq_true (by omega))) ?_
   refine ls (op (p_move rfl) rfl) ?_
   refine lwant rfl rfl rfl rfl (op (p_move rfl) rfl) ?_
   refine lwant rfl rfl rfl rfl (op (p_move rfl) rfl) ?_
   refine lwant rfl rfl rfl rfl (op (p_ia k hAw hw rfl Tryz.underlying66 Tryz.sizeOf4 rfl rfl) rfl) ?_
   refine lwant rfl rfl rfl rfl (o_ldi Tryz.isAgg4 rfl (by repeat' constructor) 0 rfl (by repeat (first | exact Cut.d | apply Cut.t | apply Cut.s)) rfl) ?_
   refine fixL (congrArg Value.bool hwv) ?_
   refine ls (op (p_pickt rfl rfl) rfl) ?_
   refine ls (op (p_move rfl) rfl) ?_
   refine lwant rfl rfl rfl rfl (op (p_move rfl) rfl) ?_
   refine ls (op (p_pickt rfl rfl) rfl) ?_
   refine ln ?_
   refine nthen ?_
   refine cc rfl (fun h => by cases h) (fun h => ?_)
   refine elC (A := A) (l := l) (by repeat' constructor) k (List.getElem?_eq_getElem (l := l) hk1) ?_; rintro zbp zop zyp hAp
   refine cutC (S' := fun a w => ∃ (A54 : Option Addr) (c54 : Nat), St M0 F0 w0 57 [(0, .slice A l.length c), (1, .slice D wn.length d'), (6, .slice A6 F.length c6), (7, .slice A54 (R ++ [l[k]]).length c54), (8, .int .i64 (k : Int))] [row 72 A54 c54 (R ++ [l[k]]), row 72 A6 c6 F] [slA A l, slA D wn] a w) ?_ ?_
   ·
    refine cdB [0, 2, 7, 8] [(6, zbp, zop + k * Rp.size Prim, _)] TryzX.mixed (by kernel_rfl) (by kernel_rfl) (TOk.t (isInS (by repeat' constructor) (k := 0) rfl (z := 6) (by repeat (first | exact Cut.d | apply Cut.t | apply Cut.s))) TOk.d) ?_
    refine tkB 1 rfl (by kernel_rfl) (fun _ _ _ h => h) gnone (TTany _) (p_move rfl) rfl ?_
    refine tkB 3 rfl (by kernel_rfl) (fun _ _ _ h => h) gnone (TTany _) (p_move rfl) rfl ?_
    refine tkB 4 rfl (by kernel_rfl) (fun _ _ _ h => h) gnone (TTany _) (p_move rfl) rfl ?_
    refine tkB 5 rfl (by kernel_rfl) (fun _ _ _ h => h) gnone (TTany _) (p_ia k hAp hk1 rfl Tryz.underlying22 Tryz.sizeOf72 rfl rfl) rfl ?_
    refine tkB 6 rfl (by kernel_rfl) (fun _ _ _ h => h) gnone (TTat (List.Mem.head _)) (p_lda Tryz.isAgg72 Tryz.sizeOf72 rfl rfl) rfl ?_
    refine dallB (is := [0, 7]) (by kernel_rfl) rfl ?_
    intro i hi; simp only [List.mem_cons, List.mem_nil_iff, or_false] at hi; rcases hi with rfl | rfl
    ·
     refine doRB rfl (o_bsl ([] : List Prim) Tryz.underlying22 Tryz.sizeOf72 Tryz.zeroValue72 rfl Enum.d RV.d rfl (by decide) (by decide) rfl) (TOk.t (isBoxE fun _ => isInS (by repeat' constructor) (k := 0) rfl (z := 6) (by repeat (first | exact Cut.d | apply Cut.t | apply Cut.s))) TOk.d) ?_
     refine eaB ?_; intro b46
     refine dallB (is := [2, 7]) (by kernel_rfl) rfl ?_
     intro i hi; simp only [List.mem_cons, List.mem_nil_iff, or_false] at hi; rcases hi with rfl | rfl
     ·
      refine doRB rfl (o_app (is := [0]) Tryz.underlying22 inf72 rfl (by decide) (by decide) rfl rfl (by simp only [List.length_nil]; omega) (fun _ h => hn7 h) rfl (by repeat' (first | constructor | apply Sub.suf)) rfl) (TOk.t (isBoxE fun _ => isInS (by repeat' constructor) (k := 0) rfl (z := 6) (by repeat (first | exact Cut.d | apply Cut.t | apply Cut.s))) TOk.d) ?_
      refine eaB ?_; rintro ⟨A48, c48⟩
      refine dfB 7 (by kernel_rfl) ?_
      refine doRB rfl (o_bsl [l[k]] Tryz.underlying22 Tryz.sizeOf72 Tryz.zeroValue72 rfl (Enum.t Enum.d) (RV.t zyp rfl (by repeat' (first | constructor | apply Sub.suf)) RV.d) rfl (by decide) (by decide) rfl) (TOk.xP 7 [] (by kernel_rfl) TOk.d) ?_
      refine eaB ?_; intro b53
      refine amonoB (fun a w h => Go.Sx.freeze (i := 0) rfl h) ?_
      refine dfB 8 (by kernel_rfl) ?_
      refine doRB rfl (o_app (is := [0]) Tryz.underlying22 inf72 rfl (by decide) (by decide) rfl rfl (by simp only [List.length_append, List.length_nil, List.length_cons]; omega) (fun h => by cases h) rfl (by repeat' (first | constructor | apply Sub.suf)) rfl) (TOk.xP 7 [] (by kernel_rfl) TOk.d) ?_
      refine eaB ?_; rintro ⟨A54, c54⟩
      refine tkB 9 rfl (by kernel_rfl) (fun _ _ _ h => h) gnone (TTany _) (p_asg rfl) rfl ?_
      refine dnB (by kernel_rfl) (nmid (fun a w h => by first | exact ⟨A54, c54, wk (is := [0, 0]) (by repeat (first | exact subσ.nil _ | refine subσ.cons rfl ?_)) rfl (by repeat' (first | constructor | apply Sub.suf)) a w h⟩))
     ·
      refine doRB rfl (o_bsl [l[k]] Tryz.underlying22 Tryz.sizeOf72 Tryz.zeroValue72 rfl (Enum.t Enum.d) (RV.t zyp rfl (by repeat' (first | constructor | apply Sub.suf)) RV.d) rfl (by decide) (by decide) rfl) (TOk.xP 7 [] (by kernel_rfl) TOk.d) ?_
      refine eaB ?_; intro b53
      refine amonoB (fun a w h => Go.Sx.freeze (i := 0) rfl h) ?_
      refine dfB 2 (by kernel_rfl) ?_
      refine doRB rfl (o_app (is := [0]) Tryz.underlying22 inf72 rfl (by decide) (by decide) rfl rfl (by simp only [List.length_nil]; omega) (fun _ h => hn7 h) rfl (by repeat' (first | constructor | apply Sub.suf)) rfl) (TOk.xP 7 [] (by kernel_rfl) TOk.d) ?_
      refine eaB ?_; rintro ⟨A48, c48⟩
      refine dfB 8 (by kernel_rfl) ?_
      refine doRB rfl (o_app (is := [0]) Tryz.underlying22 inf72 rfl (by decide) (by decide) rfl rfl (by simp only [List.length_append, List.length_nil, List.length_cons]; omega) (fun h => by cases h) rfl (by repeat' (first | constructor | apply Sub.suf)) rfl) (TOk.xP 7 [] (by kernel_rfl) TOk.d) ?_
      refine eaB ?_; rintro ⟨A54, c54⟩
      refine tkB 9 rfl (by kernel_rfl) (fun _ _ _ h => h) gnone (TTany _) (p_asg rfl) rfl ?_
      refine dnB (by kernel_rfl) (nmid (fun a w h => by first | exact ⟨A54, c54, wk (is := [0, 0]) (by repeat (first | exact subσ.nil _ | refine subσ.cons rfl ?_)) rfl (by repeat' (first | constructor | apply Sub.suf)) a w h⟩))
    ·
     refine doRB rfl (o_bsl [l[k]] Tryz.underlying22 Tryz.sizeOf72 Tryz.zeroValue72 rfl (Enum.t Enum.d) (RV.t zyp rfl (by repeat' (first | constructor | apply Sub.suf)) RV.d) rfl (by decide) (by decide) rfl) (TOk.xP 7 [] (by kernel_rfl) TOk.d) ?_
     refine eaB ?_; intro b53
     refine amonoB (fun a w h => Go.Sx.freeze (i := 0) rfl h) ?_
     refine dfB 0 (by kernel_rfl) ?_
     refine doRB rfl (o_bsl ([] : List Prim) Tryz.underlying22 Tryz.sizeOf72 Tryz.zeroValue72 rfl Enum.d RV.d rfl (by decide) (by decide) rfl) (TOk.xP 7 [] (by kernel_rfl) TOk.d) ?_
     refine eaB ?_; intro b46
     refine dfB 2 (by kernel_rfl) ?_
     refine doRB rfl (o_app (is := [0]) Tryz.underlying22 inf72 rfl (by decide) (by decide) rfl rfl (by simp only [List.length_nil]; omega) (fun _ h => hn7 h) rfl (by repeat' (first | constructor | apply Sub.suf)) rfl) (TOk.xP 7 [] (by kernel_rfl) TOk.d) ?_
     refine eaB ?_; rintro ⟨A48, c48⟩
     refine dfB 8 (by kernel_rfl) ?_
     refine doRB rfl (o_app (is := [0]) Tryz.underlying22 inf72 rfl (by decide) (by decide) rfl rfl (by simp only [List.length_append, List.length_nil, List.length_cons]; omega) (fun h => by cases h) rfl (by repeat' (first | constructor | apply Sub.suf)) rfl) (TOk.xP 7 [] (by kernel_rfl) TOk.d) ?_
     refine eaB ?_; rintro ⟨A54, c54⟩
     refine tkB 9 rfl (by kernel_rfl) (fun _ _ _ h => h) gnone (TTany _) (p_asg rfl) rfl ?_
     refine dnB (by kernel_rfl) (nmid (fun a w h => by first | exact ⟨A54, c54, wk (is := [0, 0]) (by repeat (first | exact subσ.nil _ | refine subσ.cons rfl ?_)) rfl (by repeat' (first | constructor | apply Sub.suf)) a w h⟩))
   ·
    refine nex fun A54 => nex fun c54 => ?_
    refine nblock ?_
    refine nthen ?_
    refine cr ?_
    refine ls (op (p_move rfl) rfl) ?_
    refine ls (op (p_add rfl rfl (by omega)) rfl) ?_
    refine ls (op (p_asg rfl) rfl) ?_
    refine ln ?_
    refine nmono (fun a w h => freezeN (i := 0) rfl h) ?_
    refine nnext ⟨(k + 1, (F, (A6, c6)), (R ++ [l[k]], (A54, c54))), hk1, hz, (fun x hx => (List.mem_append.1 hx).elim (hRf x) (hf1 x))⟩ (by dsimp only; omega) (wk (is := [0]) (by repeat (first | exact subσ.nil _ | refine subσ.cons rfl ?_)) rfl (by repeat' (first | constructor | apply Sub.suf)))
  ·
   refine elC (A := D) (l := wn) (by repeat' constructor) k (List.getElem?_eq_getElem hw) ?_; rintro zbw zow zyw hAw
   have hz := splK_yes hFR hk1 ((wantF_at hw).trans hwv) hr
   have hln := swT_len hr
   have hft := swT_fit hr hRf hf1
   have hl1 : [l[k]].length = 1 := rfl
   refine cr ?_
   refine ls (op (p_move rfl) rfl) ?_
   refine ls (op (p_move rfl) rfl) ?_
   refine ls (op (p_lenl rfl Tryz.underlying66) rfl) ?_
   refine ls (op (p_icmp rfl rfl rfl) rfl) ?_
   refine fixL (congrArg Value.bool (decide_eq_true (by omega))) ?_
   refine ls (op (p_move rfl) rfl) ?_
   refine lwant rfl rfl rfl rfl (op (p_move rfl) rfl) ?_
   refine lwant rfl rfl rfl rfl (op (p_move rfl) rfl) ?_
   refine lwant rfl rfl rfl rfl (op (p_ia k hAw hw rfl Tryz.underlying66 Tryz.sizeOf4 rfl rfl) rfl) ?_
   refine lwant rfl rfl rfl rfl (o_ldi Tryz.isAgg4 rfl (by repeat' constructor) 0 rfl (by repeat (first | exact Cut.d | apply Cut.t | apply Cut.s)) rfl) ?_
   refine fixL (congrArg Value.bool hwv) ?_
   refine ls (op (p_pickt rfl rfl) rfl) ?_
   refine ls (op (p_move rfl) rfl) ?_
   refine lwant rfl rfl rfl rfl (op (p_move rfl) rfl) ?_
   refine ls (op (p_pickt rfl rfl) rfl) ?_
   refine ln ?_
   refine nthen ?_
   refine cc rfl (fun h => ?_) (fun h => by cases h)
   refine cs ?_
   refine cr ?_
   refine ls (op (p_move rfl) rfl) ?_
   refine ls (op (p_move rfl) rfl) ?_
   refine ls (o_app (is := [0]) Tryz.underlying22 inf72 rfl (by decide) (by decide) rfl rfl (by dsimp only; omega) (fun h => by dsimp only at h; rw [h] at hln; simp at hln) rfl (by repeat' (first | constructor | apply Sub.suf)) rfl) ?_
   refine le ?_; rintro ⟨A44, c44⟩
   refine ls (op (p_asg rfl) rfl) ?_
   refine ln ?_
   refine nthen ?_
   refine cr ?_
   refine ls (op (p_move rfl) rfl) ?_
   refine ls (op (p_asg rfl) rfl) ?_
   refine ln ?_
   refine nblock ?_
   refine nthen ?_
   refine cr ?_
   refine ls (op (p_move rfl) rfl) ?_
   refine ls (op (p_add rfl rfl (by omega)) rfl) ?_
   refine ls (op (p_asg rfl) rfl) ?_
   refine ln ?_
   refine nnext ⟨(k + 1, (F ++ f', (A44, c44)), (s', (A10, c10))), hk1, hz, hft.2⟩ (by dsimp only; omega) (wk (is := [0]) (by repeat (first | exact subσ.nil _ | refine subσ.cons rfl ?_)) rfl (by repeat' (first | constructor | apply Sub.suf)))
  ·
   have hz := splK_no' hFR hk1 (wantF_no hw)
   refine cr ?_
   refine ls (op (p_move rfl) rfl) ?_
   refine ls (op (p_move rfl) rfl) ?_
   refine ls (op (p_lenl rfl Tryz.underlying66) rfl) ?_
   refine ls (op (p_icmp rfl rfl rfl) rfl) ?_
   refine fixL (congrArg Value.bool (decide_eq_false (by omega))) ?_
   refine ls (op (p_move rfl) rfl) ?_
   refine lskip rfl rfl rfl rfl rfl ?_
   refine lskip rfl rfl rfl rfl rfl ?_
   refine lskip rfl rfl rfl rfl rfl ?_
   refine lskip rfl rfl rfl rfl rfl ?_
   refine ls (op (p_pickf rfl rfl) rfl) ?_
   refine ls (op (p_move rfl) rfl) ?_
   refine lskip rfl rfl rfl rfl rfl ?_
   refine ls (op (p_pickf rfl rfl) rfl) ?_
   refine ln ?_
   refine nthen ?_
   refine cc rfl (fun h => by cases h) (fun h => ?_)
   refine elC (A := A) (l := l) (by repeat' constructor) k (List.getElem?_eq_getElem (l := l) hk1) ?_; rintro zbp zop zyp hAp
   refine cutC (S' := fun a w => ∃ (A54 : Option Addr) (c54 : Nat), St M0 F0 w0 57 [(0, .slice A l.length c), (1, .slice D wn.length d'), (6, .slice A6 F.length c6), (7, .slice A54 (R ++ [l[k]]).length c54), (8, .int .i64 (k : Int))] [row 72 A54 c54 (R ++ [l[k]]), row 72 A6 c6 F] [slA A l, slA D wn] a w) ?_ ?_
   ·
    refine cdB [0, 2, 7, 8] [(6, zbp, zop + k * Rp.size Prim, _)] TryzX.mixed (by kernel_rfl) (by kernel_rfl) (TOk.t (isInS (by repeat' constructor) (k := 0) rfl (z := 6) (by repeat (first | exact Cut.d | apply Cut.t | apply Cut.s))) TOk.d) ?_
    refine tkB 1 rfl (by kernel_rfl) (fun _ _ _ h => h) gnone (TTany _) (p_move rfl) rfl ?_
    refine tkB 3 rfl (by kernel_rfl) (fun _ _ _ h => h) gnone (TTany _) (p_move rfl) rfl ?_
    refine tkB 4 rfl (by kernel_rfl) (fun _ _ _ h => h) gnone (TTany _) (p_move rfl) rfl ?_
    refine tkB 5 rfl (by kernel_rfl) (fun _ _ _ h => h) gnone (TTany _) (p_ia k hAp hk1 rfl Tryz.underlying22 Tryz.sizeOf72 rfl rfl) rfl ?_
    refine tkB 6 rfl (by kernel_rfl) (fun _ _ _ h => h) gnone (TTat (List.Mem.head _)) (p_lda Tryz.isAgg72 Tryz.sizeOf72 rfl rfl) rfl ?_
    refine dallB (is := [0, 7]) (by kernel_rfl) rfl ?_
    intro i hi; simp only [List.mem_cons, List.mem_nil_iff, or_false] at hi; rcases hi with rfl | rfl
    ·
     refine doRB rfl (o_bsl ([] : List Prim) Tryz.underlying22 Tryz.sizeOf72 Tryz.zeroValue72 rfl Enum.d RV.d rfl (by decide) (by decide) rfl) (TOk.t (isBoxE fun _ => isInS (by repeat' constructor) (k := 0) rfl (z := 6) (by repeat (first | exact Cut.d | apply Cut.t | apply Cut.s))) TOk.d) ?_
     refine eaB ?_; intro b46
     refine dallB (is := [2, 7]) (by kernel_rfl) rfl ?_
     intro i hi; simp only [List.mem_cons, List.mem_nil_iff, or_false] at hi; rcases hi with rfl | rfl
     ·
      refine doRB rfl (o_app (is := [0]) Tryz.underlying22 inf72 rfl (by decide) (by decide) rfl rfl (by simp only [List.length_nil]; omega) (fun _ h => hn7 h) rfl (by repeat' (first | constructor | apply Sub.suf)) rfl) (TOk.t (isBoxE fun _ => isInS (by repeat' constructor) (k := 0) rfl (z := 6) (by repeat (first | exact Cut.d | apply Cut.t | apply Cut.s))) TOk.d) ?_
      refine eaB ?_; rintro ⟨A48, c48⟩
      refine dfB 7 (by kernel_rfl) ?_
      refine doRB rfl (o_bsl [l[k]] Tryz.underlying22 Tryz.sizeOf72 Tryz.zeroValue72 rfl (Enum.t Enum.d) (RV.t zyp rfl (by repeat' (first | constructor | apply Sub.suf)) RV.d) rfl (by decide) (by decide) rfl) (TOk.xP 7 [] (by kernel_rfl) TOk.d) ?_
      refine eaB ?_; intro b53
      refine amonoB (fun a w h => Go.Sx.freeze (i := 0) rfl h) ?_
      refine dfB 8 (by kernel_rfl) ?_
      refine doRB rfl (o_app (is := [0]) Tryz.underlying22 inf72 rfl (by decide) (by decide) rfl rfl (by simp only [List.length_append, List.length_nil, List.length_cons]; omega) (fun h => by cases h) rfl (by repeat' (first | constructor | apply Sub.suf)) rfl) (TOk.xP 7 [] (by kernel_rfl) TOk.d) ?_
      refine eaB ?_; rintro ⟨A54, c54⟩
      refine tkB 9 rfl (by kernel_rfl) (fun _ _ _ h => h) gnone (TTany _) (p_asg rfl) rfl ?_
      refine dnB (by kernel_rfl) (nmid (fun a w h => by first | exact ⟨A54, c54, wk (is := [0, 0]) (by repeat (first | exact subσ.nil _ | refine subσ.cons rfl ?_)) rfl (by repeat' (first | constructor | apply Sub.suf)) a w h⟩))
     ·
      refine doRB rfl (o_bsl [l[k]] Tryz.underlying22 Tryz.sizeOf72 Tryz.zeroValue72 rfl (Enum.t Enum.d) (RV.t zyp rfl (by repeat' (first | constructor | apply Sub.suf)) RV.d) rfl (by decide) (by decide) rfl) (TOk.xP 7 [] (by kernel_rfl) TOk.d) ?_
      refine eaB ?_; intro b53
      refine amonoB (fun a w h => Go.Sx.freeze (i := 0) rfl h) ?_
      refine dfB 2 (by kernel_rfl) ?_
      refine doRB rfl (o_app (is := [0]) Tryz.underlying22 inf72 rfl (by decide) (by decide) rfl rfl (by simp only [List.length_nil]; omega) (fun _ h => hn7 h) rfl (by repeat' (first | constructor | apply Sub.suf)) rfl) (TOk.xP 7 [] (by kernel_rfl) TOk.d) ?_
      refine eaB ?_; rintro ⟨A48, c48⟩
      refine dfB 8 (by kernel_rfl) ?_
      refine doRB rfl (o_app (is := [0]) Tryz.underlying22 inf72 rfl (by decide) (by decide) rfl rfl (by simp only [List.length_append, List.length_nil, List.length_cons]; omega) (fun h => by cases h) rfl (by repeat' (first | constructor | apply Sub.suf)) rfl) (TOk.xP 7 [] (by kernel_rfl) TOk.d) ?_
      refine eaB ?_; rintro ⟨A54, c54⟩
      refine tkB 9 rfl (by kernel_rfl) (fun _ _ _ h => h) gnone (TTany _) (p_asg rfl) rfl ?_
      refine dnB (by kernel_rfl) (nmid (fun a w h => by first | exact ⟨A54, c54, wk (is := [0, 0]) (by repeat (first | exact subσ.nil _ | refine subσ.cons rfl ?_)) rfl (by repeat' (first | constructor | apply Sub.suf)) a w h⟩))
    ·
     refine doRB rfl (o_bsl [l[k]] Tryz.underlying22 Tryz.sizeOf72 Tryz.zeroValue72 rfl (Enum.t Enum.d) (RV.t zyp rfl (by repeat' (first | constructor | apply Sub.suf)) RV.d) rfl (by decide) (by decide) rfl) (TOk.xP 7 [] (by kernel_rfl) TOk.d) ?_
     refine eaB ?_; intro b53
     refine amonoB (fun a w h => Go.Sx.freeze (i := 0) rfl h) ?_
     refine dfB 0 (by kernel_rfl) ?_
     refine doRB rfl (o_bsl ([] : List Prim) Tryz.underlying22 Tryz.sizeOf72 Tryz.zeroValue72 rfl Enum.d RV.d rfl (by decide) (by decide) rfl) (TOk.xP 7 [] (by kernel_rfl) TOk.d) ?_
     refine eaB ?_; intro b46
     refine dfB 2 (by kernel_rfl) ?_
     refine doRB rfl (o_app (is := [0]) Tryz.underlying22 inf72 rfl (by decide) (by decide) rfl rfl (by simp only [List.length_nil]; omega) (fun _ h => hn7 h) rfl (by repeat' (first | constructor | apply Sub.suf)) rfl) (TOk.xP 7 [] (by kernel_rfl) TOk.d) ?_
     refine eaB ?_; rintro ⟨A48, c48⟩
     refine dfB 8 (by kernel_rfl) ?_
     refine doRB rfl (o_app (is := [0]) Tryz.underlying22 inf72 rfl (by decide) (by decide) rfl rfl (by simp only [List.length_append, List.length_nil, List.length_cons]; omega) (fun h => by cases h) rfl (by repeat' (first | constructor | apply Sub.suf)) rfl) (TOk.xP 7 [] (by kernel_rfl) TOk.d) ?_
     refine eaB ?_; rintro ⟨A54, c54⟩
     refine tkB 9 rfl (by kernel_rfl) (fun _ _ _ h => h) gnone (TTany _) (p_asg rfl) rfl ?_
     refine dnB (by kernel_rfl) (nmid (fun a w h => by first | exact ⟨A54, c54, wk (is := [0, 0]) (by repeat (first | exact subσ.nil _ | refine subσ.cons rfl ?_)) rfl (by repeat' (first | constructor | apply Sub.suf)) a w h⟩))
   ·
    refine nex fun A54 => nex fun c54 => ?_
    refine nblock ?_
    refine nthen ?_
    refine cr ?_
    refine ls (op (p_move rfl) rfl) ?_
    refine ls (op (p_add rfl rfl (by omega)) rfl) ?_
    refine ls (op (p_asg rfl) rfl) ?_
    refine ln ?_
    refine nmono (fun a w h => freezeN (i := 0) rfl h) ?_
    refine nnext ⟨(k + 1, (F, (A6, c6)), (R ++ [l[k]], (A54, c54))), hk1, hz, (fun x hx => (List.mem_append.1 hx).elim (hRf x) (hf1 x))⟩ (by dsimp only; omega) (wk (is := [0]) (by repeat (first | exact subσ.nil _ | refine subσ.cons rfl ?_)) rfl (by repeat' (first | constructor | apply Sub.suf)))
 ·
  intro h15
  dsimp only at hk hFR hRf
  try simp only [decide_eq_true_eq, decide_eq_false_iff_not, Bool.not_eq_true', Bool.not_eq_false', Int.not_lt, Int.not_le, ge_iff_le, Bool.not_true, Bool.not_false] at h15
  obtain rfl : k = l.length := by omega
  refine cexit ?_
  refine xthen ?_
  refine xthen ?_
  refine xblock ?_
  refine nthen ?_
  refine cs ?_
  refine cmono (fun a w h => freezeN (i := 0) rfl h) ?_
  refine cr ?_
  refine ls (op (p_move rfl) rfl) ?_
  refine ls (op (p_move rfl) rfl) ?_
  refine ls (op (p_asg rfl) rfl) ?_
  refine ls (op (p_asg rfl) rfl) ?_
  refine ln ?_
  refine nthen ?_
  refine cret ?_
  refine xret (fun _ _ h => h) ?_
  refine rret (is := []) ⟨((F, R), ((A6, c6), (A7, c7))), hFR⟩ (Or.inl rfl) (Res.t rfl (Res.t rfl Res.d)) (rfl) rfl (by repeat' (first | constructor | apply Sub.suf))

set_option maxRecDepth 100000 in
theorem c_Splits1 (l : List Prim) (A : Option Addr) (c : Nat) (hl : l.length ≤ 1048576) (hf : ∀ x ∈ l, x.fit) (wn : List Bool) (D : Option Addr) (d' : Nat) (bo bn bl bw : Nat) (k : Nat) (hk : k < l.length) (y : Rp.Lay Prim) : Con Tryz.prog 39 [.int .i64 (k : Int), sv l[k] y, .pointer (some ⟨bo, 0, none⟩), .pointer (some ⟨bn, 0, none⟩), .pointer (some ⟨bl, 0, none⟩), .pointer (some ⟨bw, 0, none⟩)] [box bo 4 [.bool true], box bn 3 [.int .i64 ((k : Nat) : Int)], box bl 22 [.slice A l.length c], box bw 66 [.slice D wn.length d']] (Rp.asn l[k] y ++ [slA A l, slA D wn]) Unit (fun _ => .bool (wantF wn k)) (fun _ => [box bo 4 [.bool true], box bn 3 [.int .i64 ((k + 1 : Nat) : Int)], box bl 22 [.slice A l.length c], box bw 66 [.slice D wn.length d']]) (fun _ => []) := by
 refine con Tryz.func39 rfl Tryz.ntmps39 rfl ?_
 intro M0 F0 w0
 refine cs ?_
 refine cr ?_
 refine ls (o_box rfl rfl rfl) ?_
 refine le ?_; intro b7
 refine ls (op (p_asg rfl) rfl) ?_
 refine ln ?_
 refine nthen ?_
 refine cs ?_
 refine elC (A := A) (l := l) (by repeat' constructor) k (List.getElem?_eq_getElem (l := l) hk) ?_; rintro zbp zop zyp hAp
 refine cdB [18, 20] [(0, bo, 0, _), (3, bn, 0, _), (8, bl, 0, _), (13, b7, 0, _), (14, bl, 0, _), (17, zbp, zop + k * Rp.size Prim, _)] TryzX.mixed (by kernel_rfl) (by kernel_rfl) (TOk.t (isBoxS (by repeat' constructor) (k := 1) (by repeat (first | exact Cut.d | apply Cut.t | apply Cut.s))) (TOk.t (isBoxS (by repeat' constructor) (k := 1) (by repeat (first | exact Cut.d | apply Cut.t | apply Cut.s))) (TOk.t (isBoxS (by repeat' constructor) (k := 1) (by repeat (first | exact Cut.d | apply Cut.t | apply Cut.s))) (TOk.t (isBoxS (by repeat' constructor) (k := 6) (by repeat (first | exact Cut.d | apply Cut.t | apply Cut.s))) (TOk.t (isBoxS (by repeat' constructor) (k := 1) (by repeat (first | exact Cut.d | apply Cut.t | apply Cut.s))) (TOk.t (isInS (by repeat' constructor) (k := 0) rfl (z := 6) (by repeat (first | exact Cut.d | apply Cut.t | apply Cut.s))) TOk.d)))))) ?_
 refine tkB 0 rfl (by kernel_rfl) (fun _ _ _ h => h) gnone (TTat (List.Mem.head _)) (p_ld Tryz.isAgg4 rfl) rfl ?_
 refine tkB 1 rfl (by kernel_rfl) (fun _ _ _ h => h) gnone (TTany _) (p_move rfl) rfl ?_
 refine tkB 2 rfl (by kernel_rfl) (fun _ _ _ h => h) (gyes rfl rfl rfl rfl) (TTany _) (p_move rfl) rfl ?_
 refine tkB 3 rfl (by kernel_rfl) (fun _ _ _ h => h) (gyes rfl rfl rfl rfl) (TTat (List.Mem.tail _ (List.Mem.head _))) (p_ld Tryz.isAgg3 rfl) rfl ?_
 refine tkB 4 rfl (by kernel_rfl) (fun _ _ _ h => h) (gyes rfl rfl rfl rfl) (TTany _) (p_icmp rfl rfl rfl) rfl ?_
 refine fixB (congrArg Value.bool (decide_eq_true rfl)) ?_
 refine tkB 5 rfl (by kernel_rfl) (fun _ _ _ h => h) gnone (TTany _) (p_pickt rfl rfl) rfl ?_
 refine tkB 6 rfl (by kernel_rfl) (fun _ _ _ h => h) gnone (TTany _) (p_move rfl) rfl ?_
 refine tkB 7 rfl (by kernel_rfl) (fun _ _ _ h => h) (gyes rfl rfl rfl rfl) (TTany _) (p_move rfl) rfl ?_
 refine tkB 8 rfl (by kernel_rfl) (fun _ _ _ h => h) (gyes rfl rfl rfl rfl) (TTat (List.Mem.tail _ (List.Mem.tail _ (List.Mem.head _)))) (p_ld Tryz.isAgg22 rfl) rfl ?_
 refine tkB 9 rfl (by kernel_rfl) (fun _ _ _ h => h) (gyes rfl rfl rfl rfl) (TTany _) (p_lenl rfl Tryz.underlying22) rfl ?_
 refine tkB 10 rfl (by kernel_rfl) (fun _ _ _ h => h) (gyes rfl rfl rfl rfl) (TTany _) (p_icmp rfl rfl rfl) rfl ?_
 refine fixB (congrArg Value.bool (decide_eq_true (by omega))) ?_
 refine tkB 11 rfl (by kernel_rfl) (fun _ _ _ h => h) gnone (TTany _) (p_pickt rfl rfl) rfl ?_
 refine tkB 12 rfl (by kernel_rfl) (fun _ _ _ h => h) gnone (TTany _) (p_move rfl) rfl ?_
 refine tkB 13 rfl (by kernel_rfl) (fun _ _ _ h => h) (gyes rfl rfl rfl rfl) (TTat (List.Mem.tail _ (List.Mem.tail _ (List.Mem.tail _ (List.Mem.head _))))) (p_lda Tryz.isAgg70 Tryz.sizeOf70 rfl rfl) rfl ?_
 refine tkB 14 rfl (by kernel_rfl) (fun _ _ _ h => h) (gyes rfl rfl rfl rfl) (TTat (List.Mem.tail _ (List.Mem.tail _ (List.Mem.tail _ (List.Mem.tail _ (List.Mem.head _)))))) (p_ld Tryz.isAgg22 rfl) rfl ?_
 refine tkB 15 rfl (by kernel_rfl) (fun _ _ _ h => h) (gyes rfl rfl rfl rfl) (TTany _) (p_move rfl) rfl ?_
 refine tkB 16 rfl (by kernel_rfl) (fun _ _ _ h => h) (gyes rfl rfl rfl rfl) (TTany _) (p_ia k hAp hk rfl Tryz.underlying22 Tryz.sizeOf72 rfl rfl) rfl ?_
 refine tkB 17 rfl (by kernel_rfl) (fun _ _ _ h => h) (gyes rfl rfl rfl rfl) (TTat (List.Mem.tail _ (List.Mem.tail _ (List.Mem.tail _ (List.Mem.tail _ (List.Mem.tail _ (List.Mem.head _))))))) (p_lda Tryz.isAgg72 Tryz.sizeOf72 rfl rfl) rfl ?_
 refine dfB 18 (by kernel_rfl) ?_
 refine doGB rfl rfl rfl rfl rfl (o_call (is := []) Tryz.call40 (c_refSame l[k] l[k] y zyp (hf _ (List.getElem_mem hk))) rfl rfl (by repeat' (first | constructor | apply Sub.suf)) rfl) (TOk.xP 18 [12, 6, 1] (by kernel_rfl) (TOk.xP 18 [12, 6, 5, 4] (by kernel_rfl) (TOk.xP 18 [12, 11, 10, 9] (by kernel_rfl) (TOk.xP 18 [] (by kernel_rfl) (TOk.xP 18 [17, 16] (by kernel_rfl) (TOk.xP 18 [] (by kernel_rfl) TOk.d)))))) ?_
 refine eaB ?_; intro x27
 refine fixB (congrArg Value.bool (decide_eq_true rfl)) ?_
 refine tkB 19 rfl (by kernel_rfl) (fun _ _ _ h => h) gnone (TTany _) (p_pickt rfl rfl) rfl ?_
 refine dfB 20 (by kernel_rfl) ?_
 refine doRB rfl (o_st rfl Tryz.sizeOf4 rfl rfl rfl rfl rfl (by repeat' constructor) (by repeat' constructor) (by repeat' constructor)) (TOk.xP 18 [12, 6, 1] (by kernel_rfl) (TOk.xP 18 [12, 6, 5, 4] (by kernel_rfl) (TOk.xP 18 [12, 11, 10, 9] (by kernel_rfl) (TOk.xP 18 [] (by kernel_rfl) (TOk.xP 18 [17, 16] (by kernel_rfl) (TOk.xP 18 [] (by kernel_rfl) TOk.d)))))) ?_
 refine dnB (by kernel_rfl) ?_
 refine nthen ?_
 refine cs ?_
 refine cr ?_
 refine ls (o_ld Tryz.isAgg3 rfl (by repeat' constructor) (by repeat' constructor) rfl) ?_
 refine ls (op (p_add rfl rfl (by omega)) rfl) ?_
 refine ls (o_st rfl Tryz.sizeOf3 rfl rfl rfl rfl rfl (by repeat' constructor) (by repeat' constructor) (by repeat' constructor)) ?_
 refine ln ?_
 refine nthen ?_
 refine cs ?_
 rcases Classical.em (k < wn.length) with hw | hw
 ·
  refine elC (A := D) (l := wn) (by repeat' constructor) k (List.getElem?_eq_getElem hw) ?_; rintro zbw zow zyw hAw
  refine cr ?_
  refine ls (op (p_move rfl) rfl) ?_
  refine ls (o_ld Tryz.isAgg66 rfl (by repeat' constructor) (by repeat' constructor) rfl) ?_
  refine ls (op (p_lenl rfl Tryz.underlying66) rfl) ?_
  refine ls (op (p_icmp rfl rfl rfl) rfl) ?_
  refine fixL (congrArg Value.bool (decide_eq_true (by omega))) ?_
  refine ls (op (p_move rfl) rfl) ?_
  refine lwant rfl rfl rfl rfl (o_ld Tryz.isAgg66 rfl (by repeat' constructor) (by repeat' constructor) rfl) ?_
  refine lwant rfl rfl rfl rfl (op (p_move rfl) rfl) ?_
  refine lwant rfl rfl rfl rfl (op (p_ia k hAw hw rfl Tryz.underlying66 Tryz.sizeOf4 rfl rfl) rfl) ?_
  refine lwant rfl rfl rfl rfl (o_ldi Tryz.isAgg4 rfl (by repeat' constructor) 0 rfl (by repeat (first | exact Cut.d | apply Cut.t | apply Cut.s)) rfl) ?_
  refine ls (op (p_pickt rfl rfl) rfl) ?_
  refine ls (op (p_asg rfl) rfl) ?_
  refine ln ?_
  refine nthen ?_
  refine cret ?_
  refine xret (fun _ _ h => h) ?_
  refine rret (is := [1, 1, 1, 1]) () (Or.inl rfl) (Res.t rfl Res.d) ?_ rfl (by repeat' (first | constructor | apply Sub.suf))
  simp only [packV, wantF_at hw]
 ·
  refine cr ?_
  refine ls (op (p_move rfl) rfl) ?_
  refine ls (o_ld Tryz.isAgg66 rfl (by repeat' constructor) (by repeat' constructor) rfl) ?_
  refine ls (op (p_lenl rfl Tryz.underlying66) rfl) ?_
  refine ls (op (p_icmp rfl rfl rfl) rfl) ?_
  refine fixL (congrArg Value.bool (decide_eq_false (by omega))) ?_
  refine ls (op (p_move rfl) rfl) ?_
  refine lskip rfl rfl rfl rfl rfl ?_
  refine lskip rfl rfl rfl rfl rfl ?_
  refine lskip rfl rfl rfl rfl rfl ?_
  refine lskip rfl rfl rfl rfl rfl ?_
  refine ls (op (p_pickf rfl rfl) rfl) ?_
  refine ls (op (p_asg rfl) rfl) ?_
  refine ln ?_
  refine nthen ?_
  refine cret ?_
  refine xret (fun _ _ h => h) ?_
  refine rret (is := [1, 1, 1, 1]) () (Or.inl rfl) (Res.t rfl Res.d) ?_ rfl (by repeat' (first | constructor | apply Sub.suf))
  simp only [packV, wantF_no hw]

set_option maxRecDepth 100000 in
theorem c_seqSplit4 (l : List Prim) (A : Option Addr) (c : Nat) (hl : l.length ≤ 900000) (hf : ∀ x ∈ l, x.fit) (W : Nat → Bool) (g : FuncId) (cap : List Value) (Γf : List Asn) (x0 : Nat → Xsn) (x1 : Nat → Xsn) (x2 : Nat → Xsn) (x3 : Nat → Xsn) (hcf : ∀ args w, (callFunc g args).run Tryz.prog w = .ok (.enter g args) w) (hg : ∀ (k : Nat) (hk : k < l.length) (y : Rp.Lay Prim), Con Tryz.prog g (.int .i64 (k : Int) :: sv l[k] y :: cap) [x0 (k), x1 (k), x2 (k), x3 (k)] (Rp.asn l[k] y ++ Γf) Unit (fun _ => .bool (W k)) (fun _ => [x0 (k + 1), x1 (k + 1), x2 (k + 1), x3 (k + 1)]) (fun _ => [])) : Con Tryz.prog 38 [.slice A l.length c, .func (.func g) #[] cap.toArray] [x0 (0), x1 (0), x2 (0), x3 (0)] (slA A l :: Γf) {x : (List Prim × List Prim) × ((Option Addr × Nat) × (Option Addr × Nat)) // x.1 = splK W l l.length} (fun x => .tuple #[.slice x.1.2.1.1 x.1.1.1.length x.1.2.1.2, .slice x.1.2.2.1 x.1.1.2.length x.1.2.2.2]) (fun _ => [x0 (l.length), x1 (l.length), x2 (l.length), x3 (l.length)]) (fun x => [slA x.1.2.1.1 x.1.1.1, nilA x.1.2.1, capA x.1.2.1.2 x.1.1.1.length, slA x.1.2.2.1 x.1.1.2, nilA x.1.2.2, capA x.1.2.2.2 x.1.1.2.length]) := by
 refine con Tryz.func38 rfl Tryz.ntmps38 rfl ?_
 intro M0 F0 w0
 refine cs ?_
 refine cr ?_
 refine ls (op (p_asg rfl) rfl) ?_
 refine ls (op (p_asg rfl) rfl) ?_
 refine ln ?_
 refine nthen ?_
 refine cs ?_
 refine cs ?_
 refine cmono (fun a w h => nilRow (α := Prim) 70 h) ?_
 refine cmono (fun a w h => nilRow (α := Prim) 70 h) ?_
 refine cr ?_
 refine ls (op (p_move rfl) rfl) ?_
 refine ls (o_call (is := []) Tryz.call64 (c_seqCloned l A c (by omega) hf) rfl rfl (by repeat' (first | constructor | apply Sub.suf)) rfl) ?_
 refine le ?_; rintro ⟨A12, c12⟩
 refine lmono (fun a w h => freezeN (i := 0) rfl h) ?_
 refine ls (op (p_lenl rfl Tryz.underlying25) rfl) ?_
 refine ls (op (p_move rfl) rfl) ?_
 refine ln ?_
 refine nthen ?_
 refine cb ?_
 refine cl (ι := {q : Nat × (List Prim × (Option Addr × Nat)) × (List Prim × (Option Addr × Nat)) // q.1 ≤ l.length ∧ (q.2.1.1, q.2.2.1) = splK W l q.1 ∧ ∀ x ∈ q.2.2.1, x.fit}) (fun i => St M0 F0 w0 44 [(1, .func (.func g) #[] cap.toArray), (4, .slice i.1.2.1.2.1 (i.1.2.1.1).length i.1.2.1.2.2), (5, .slice i.1.2.2.2.1 (i.1.2.2.1).length i.1.2.2.2.2), (12, .slice A12 l.length c12), (13, .int .i64 (l.length : Int)), (14, .int .i64 (i.1.1 : Int))] [row 70 (i.1.2.1.2.1) (i.1.2.1.2.2) i.1.2.1.1, row 70 (i.1.2.2.2.1) (i.1.2.2.2.2) i.1.2.2.1, x0 (i.1.1), x1 (i.1.1), x2 (i.1.1), x3 (i.1.1)] (slA A12 l :: Γf)) (fun i => l.length - i.1.1) ⟨(0, ([], (none, 0)), ([], (none, 0))), Nat.zero_le _, rfl, (fun x hx => by cases hx)⟩ (wk (is := [0, 0, 0, 0, 0, 0]) (by repeat (first | exact subσ.nil _ | refine subσ.cons rfl ?_)) rfl (by repeat' (first | constructor | apply Sub.suf))) ?_
 rintro ⟨⟨k, ⟨F, ⟨A4, c4⟩⟩, ⟨R, ⟨A5, c5⟩⟩⟩, hk, hFR, hRf⟩
 refine cmono (S' := St M0 F0 w0 44 [(1, .func (.func g) #[] cap.toArray), (4, .slice A4 (F).length c4), (5, .slice A5 (R).length c5), (12, .slice A12 l.length c12), (13, .int .i64 (l.length : Int)), (14, .int .i64 (k : Int))] [row 70 (A4) (c4) F, row 70 (A5) (c5) R, x0 (k), x1 (k), x2 (k), x3 (k)] (slA A12 l :: Γf)) (fun _ _ h => h) ?_
 refine cs ?_
 refine cr ?_
 refine ls (op (p_icmp rfl rfl rfl) rfl) ?_
 refine ln ?_
 refine nthen ?_
 refine cs ?_
 refine cc rfl ?_ ?_
 ·
  intro h15
  dsimp only at hk hFR hRf
  try simp only [decide_eq_true_eq, decide_eq_false_iff_not, Bool.not_eq_true', Bool.not_eq_false', Int.not_lt, Int.not_le, ge_iff_le, Bool.not_true, Bool.not_false] at h15
  have hk1 : k < l.length := by omega
  have hfk := hf _ (List.getElem_mem hk1)
  have hsl := splK_len W l k hk
  rw [← hFR] at hsl
  dsimp only at hsl
  have hf1 : ∀ x ∈ [l[k]], x.fit := fun x hx => by rw [List.mem_singleton.1 hx]; exact hfk
  refine cskip ?_
  refine nthen ?_
  refine cs ?_
  refine cb ?_
  refine cs ?_
  refine elC (by repeat' constructor) k (List.getElem?_eq_getElem (l := l) hk1) ?_; rintro zbp zop zyp hAp
  refine cr ?_
  refine ls (op (p_move rfl) rfl) ?_
  refine ls (op (p_ia k hAp hk1 rfl Tryz.underlying25 Tryz.sizeOf70 rfl rfl) rfl) ?_
  refine ls (o_ldj Tryz.isAgg70 Tryz.sizeOf70 rfl (by repeat' constructor) 0 rfl (by repeat (first | exact Cut.d | apply Cut.t | apply Cut.s)) rfl) ?_
  refine ls (o_alloc Tryz.zeroValue70 rfl rfl) ?_
  refine le ?_; intro b7
  refine ls (op (p_asg rfl) rfl) ?_
  refine ls (o_st rfl Tryz.sizeOf70 rfl rfl rfl rfl rfl (by repeat' constructor) (by repeat' constructor) (by repeat' constructor)) ?_
  refine ln ?_
  refine nthen ?_
  refine cs ?_
  refine cs ?_
  refine cr ?_
  refine ls (op (p_move rfl) rfl) ?_
  refine ls (op (p_move rfl) rfl) ?_
  refine ls (o_ldw Tryz.isAgg70 Tryz.sizeOf70 rfl (by repeat' constructor) (by rfl) rfl) ?_
  refine ls (o_call (is := []) Tryz.call66 (c_primClone l[k] zyp hfk) rfl rfl (by repeat' (first | constructor | apply Sub.suf)) rfl) ?_
  refine le ?_; intro y22
  refine ls (o_callv (is := [3, 3, 3, 3]) rfl hcf (hg k hk1 y22) rfl rfl rfl (Sub.app (by repeat' (first | constructor | apply Sub.suf)) (by repeat' (first | constructor | apply Sub.suf))) rfl) ?_
  refine le ?_; intro x23
  refine ln ?_
  refine nthen ?_
  refine cc rfl ?_ ?_
  ·
   intro h23
   have hw : W k = true := h23
   refine cs ?_
   refine cr ?_
   refine ls (op (p_move rfl) rfl) ?_
   refine ls (o_ldw Tryz.isAgg70 Tryz.sizeOf70 rfl (by repeat' constructor) (by rfl) rfl) ?_
   refine ls (o_bsl [l[k]] Tryz.underlying25 Tryz.sizeOf70 Tryz.zeroValue70 rfl (Enum.t Enum.d) (RV.t zyp rfl (by repeat' (first | constructor | apply Sub.suf)) RV.d) rfl (by decide) (by decide) rfl) ?_
   refine le ?_; intro b27
   refine lmono (fun a w h => Go.Sx.freeze (i := 0) rfl h) ?_
   refine ls (o_call (is := [6]) Tryz.call26 (borrow2 (fun x => !x.1.1.2.2) (c_seqSwapR R [l[k]] A5 (some ⟨b27, 0, none⟩) c5 1 (by omega) (by simp) hRf hf1)) rfl rfl (by repeat' (first | constructor | apply Sub.suf)) rfl) ?_
   refine le ?_; rintro ⟨⟨⟨f', s', b'⟩, ⟨⟨A8, c8⟩, ⟨A9, c9⟩⟩⟩, hr⟩
   dsimp only at hr
   refine ls (op (p_move rfl) rfl) ?_
   refine ls (op (p_ext rfl (by repeat' constructor)) rfl) ?_
   refine ls (op (p_ext rfl (by repeat' constructor)) rfl) ?_
   refine ls (op (p_ext rfl (by repeat' constructor)) rfl) ?_
   refine ls (op (p_asg rfl) rfl) ?_
   refine ls (op (p_asg rfl) rfl) ?_
   refine ls (op (p_asg rfl) rfl) ?_
   refine ln ?_
   refine nthen ?_
   refine cs ?_
   cases b'
   ·
    obtain ⟨_, rfl, rfl⟩ := swT_false hr
    refine cr ?_
    refine ls (op (p_move rfl) rfl) ?_
    refine ln ?_
    refine nthen ?_
    refine cc rfl (fun h => by cases h) (fun h => ?_)
    refine cskip ?_
    refine nthen ?_
    refine cr ?_
    refine ls (op (p_move rfl) rfl) ?_
    refine ls (o_ldw Tryz.isAgg70 Tryz.sizeOf70 rfl (by repeat' constructor) (by rfl) rfl) ?_
    refine ls (o_bsl [l[k]] Tryz.underlying25 Tryz.sizeOf70 Tryz.zeroValue70 rfl (Enum.t Enum.d) (RV.t zyp rfl (by repeat' (first | constructor | apply Sub.suf)) RV.d) rfl (by decide) (by decide) rfl) ?_
    refine le ?_; intro b39
    refine lmono (fun a w h => Go.Sx.freeze (i := 0) rfl h) ?_
    refine ls (o_app (is := [0]) Tryz.underlying25 inf70 rfl (by decide) (by decide) rfl rfl (by simp only [List.length_cons, List.length_nil]; omega) (fun h => by cases h) rfl (by repeat' (first | constructor | apply Sub.suf)) rfl) ?_
    refine le ?_; rintro ⟨A40, c40⟩
    refine ls (op (p_asg rfl) rfl) ?_
    refine ln ?_
    refine nblock ?_
    refine nthen ?_
    refine cr ?_
    refine ls (op (p_add rfl rfl (by omega)) rfl) ?_
    refine ls (op (p_move rfl) rfl) ?_
    refine ln ?_
    refine nnext ⟨(k + 1, (F, (A4, c4)), (R ++ [l[k]], (A40, c40))), hk1, splK_no hFR hk1 hr (by rw [hw]; rfl), (fun x hx => (List.mem_append.1 hx).elim (hRf x) (hf1 x))⟩ (by dsimp only; omega) (wk (is := [6, 0, 0, 0, 0, 0]) (by repeat (first | exact subσ.nil _ | refine subσ.cons rfl ?_)) rfl (by repeat' (first | constructor | apply Sub.suf)))
   ·
    have hln := swT_len hr
    have hft := swT_fit hr hRf hf1
    have hl1 : [l[k]].length = 1 := rfl
    refine cr ?_
    refine ls (op (p_move rfl) rfl) ?_
    refine ln ?_
    refine nthen ?_
    refine cc rfl (fun h => ?_) (fun h => by cases h)
    refine cs ?_
    refine cr ?_
    refine ls (op (p_move rfl) rfl) ?_
    refine ls (op (p_move rfl) rfl) ?_
    refine ls (o_app (is := [6]) Tryz.underlying25 inf70 rfl (by decide) (by decide) rfl rfl (by dsimp only; omega) (fun h => by dsimp only at h; rw [h] at hln; simp at hln) rfl (by repeat' (first | constructor | apply Sub.suf)) rfl) ?_
    refine le ?_; rintro ⟨A35, c35⟩
    refine ls (op (p_move rfl) rfl) ?_
    refine ls (op (p_asg rfl) rfl) ?_
    refine ls (op (p_asg rfl) rfl) ?_
    refine ln ?_
    refine nthen ?_
    refine cexit ?_
    refine xthen ?_
    refine xblock ?_
    refine nthen ?_
    refine cr ?_
    refine ls (op (p_add rfl rfl (by omega)) rfl) ?_
    refine ls (op (p_move rfl) rfl) ?_
    refine ln ?_
    refine nnext ⟨(k + 1, (F ++ f', (A35, c35)), (s', (A9, c9))), hk1, splK_yes hFR hk1 hw hr, hft.2⟩ (by dsimp only; omega) (wk (is := [0, 0, 0, 0, 0, 0]) (by repeat (first | exact subσ.nil _ | refine subσ.cons rfl ?_)) rfl (by repeat' (first | constructor | apply Sub.suf)))
  ·
   intro h23
   have hw : W k = false := by simpa using h23
   refine cskip ?_
   refine nthen ?_
   refine cr ?_
   refine ls (op (p_move rfl) rfl) ?_
   refine ls (o_ldw Tryz.isAgg70 Tryz.sizeOf70 rfl (by repeat' constructor) (by rfl) rfl) ?_
   refine ls (o_bsl [l[k]] Tryz.underlying25 Tryz.sizeOf70 Tryz.zeroValue70 rfl (Enum.t Enum.d) (RV.t zyp rfl (by repeat' (first | constructor | apply Sub.suf)) RV.d) rfl (by decide) (by decide) rfl) ?_
   refine le ?_; intro b39
   refine lmono (fun a w h => Go.Sx.freeze (i := 0) rfl h) ?_
   refine ls (o_app (is := [6]) Tryz.underlying25 inf70 rfl (by decide) (by decide) rfl rfl (by simp only [List.length_cons, List.length_nil]; omega) (fun h => by cases h) rfl (by repeat' (first | constructor | apply Sub.suf)) rfl) ?_
   refine le ?_; rintro ⟨A40, c40⟩
   refine ls (op (p_asg rfl) rfl) ?_
   refine ln ?_
   refine nblock ?_
   refine nthen ?_
   refine cr ?_
   refine ls (op (p_add rfl rfl (by omega)) rfl) ?_
   refine ls (op (p_move rfl) rfl) ?_
   refine ln ?_
   refine nnext ⟨(k + 1, (F, (A4, c4)), (R ++ [l[k]], (A40, c40))), hk1, splK_no' hFR hk1 hw, (fun x hx => (List.mem_append.1 hx).elim (hRf x) (hf1 x))⟩ (by dsimp only; omega) (wk (is := [6, 0, 0, 0, 0, 0]) (by repeat (first | exact subσ.nil _ | refine subσ.cons rfl ?_)) rfl (by repeat' (first | constructor | apply Sub.suf)))
 ·
  intro h15
  dsimp only at hk hFR hRf
  try simp only [decide_eq_true_eq, decide_eq_false_iff_not, Bool.not_eq_true', Bool.not_eq_false', Int.not_lt, Int.not_le, ge_iff_le, Bool.not_true, Bool.not_false] at h15
  obtain rfl : k = l.length := by omega
  refine cexit ?_
  refine xthen ?_
  refine xthen ?_
  refine xblock ?_
  refine nthen ?_
  refine cs ?_
  refine cmono (fun a w h => freezeN (i := 0) rfl h) ?_
  refine cmono (fun a w h => freezeN (i := 0) rfl h) ?_
  refine cr ?_
  refine ls (op (p_move rfl) rfl) ?_
  refine ls (op (p_move rfl) rfl) ?_
  refine ls (op (p_asg rfl) rfl) ?_
  refine ls (op (p_asg rfl) rfl) ?_
  refine ln ?_
  refine nthen ?_
  refine cret ?_
  refine xret (fun _ _ h => h) ?_
  refine rret (is := [0, 0, 0, 0]) ⟨((F, R), ((A4, c4), (A5, c5))), hFR⟩ (Or.inl rfl) (Res.t rfl (Res.t rfl Res.d)) (rfl) rfl (by repeat' (first | constructor | apply Sub.suf))

set_option maxRecDepth 100000 in
theorem c_SeqSplits (l : List TOp) (A : Option Addr) (c : Nat) (hl : l.length ≤ 1048576) (hM : omany l ≤ 1048576) (ps : List Prim) (B : Option Addr) (c' : Nat) (hB : B = none → c' = 0) (hlps : ps.length ≤ 1048576) (hfps : ∀ x ∈ ps, x.fit) (hmps : many ps ≤ 1048576) (hcB : ps.length ≤ c') (wn : List Bool) (D : Option Addr) (d' : Nat) : Con Tryz.prog 9 [.slice A l.length c, .slice B ps.length c', .slice D wn.length d'] [] [slA A l, slA B ps, slA D wn] Unit (fun _ => .bool true) (fun _ => []) (fun _ => []) := by
 have hMo : ∀ o ∈ l, o.many ≤ 2000000 := fun o ho => by have := omany_mem ho; omega
 have htok : Tok l.length 2000000 (madeT l) := madeT_tok hMo
 have hlen := htok.len
 have hfit : Tfit (madeT l) := fun x hx => (htok.fit x hx).1
 have hso := madeT_sor l
 have hgood := madeT_good l
 have hinv := AppInv.made l
 refine con Tryz.func9 rfl Tryz.ntmps9 rfl ?_
 intro M0 F0 w0
 refine cs ?_
 refine cr ?_
 refine ls (o_box rfl rfl rfl) ?_
 refine le ?_; intro b4
 refine ls (o_box rfl rfl rfl) ?_
 refine le ?_; intro b5
 refine ls (op (p_asg rfl) rfl) ?_
 refine ln ?_
 refine nthen ?_
 refine cs ?_
 refine cs ?_
 refine cmono (fun a w h => nilQ (y := (B, c')) hB h) ?_
 refine cr ?_
 refine ls (op (p_move rfl) rfl) ?_
 refine ls (o_call (is := []) Tryz.call30 (c_Few02 l A c (by omega) (by omega)) rfl rfl (by repeat' (first | constructor | apply Sub.suf)) rfl) ?_
 refine le ?_; intro x17
 refine ls (op (p_icmp rfl rfl rfl) rfl) ?_
 refine ls (op (p_move rfl) rfl) ?_
 refine orX 5 19 24 rfl (subσ.cons (t := 0) rfl (subσ.cons (t := 1) rfl (subσ.cons (t := 2) rfl (subσ.cons (t := 4) rfl (subσ.cons (t := 5) rfl (subσ.cons (t := 6) rfl (subσ.nil _))))))) ?_ ?_
 ·
  intro h19
  refine lskip rfl rfl rfl rfl rfl ?_
  refine lskip rfl rfl rfl rfl rfl ?_
  refine lskip rfl rfl rfl rfl rfl ?_
  refine lskip rfl rfl rfl rfl rfl ?_
  refine ls (op (p_pickt rfl rfl) rfl) ?_
  refine ln (nmid (wk0 (by repeat (first | exact subσ.nil _ | refine subσ.cons rfl ?_)) (by repeat' (first | constructor | apply Sub.suf))))
 apply exI
 ·
  intro h19
  refine lwant rfl rfl rfl rfl (o_ld Tryz.isAgg22 rfl (by repeat' constructor) (by repeat' constructor) rfl) ?_
  refine lwant rfl rfl rfl rfl (o_bsl [ps] Tryz.underlying80 Tryz.sizeOf22 Tryz.zeroValue22 rfl (Enum.t Enum.d) (RV.t (B, c') rfl (by repeat' (first | constructor | apply Sub.suf)) RV.d) rfl (by decide) (by decide) rfl) ?_
  refine le ?_; intro b21
  refine lmono (fun a w h => Go.Sx.freeze (i := 0) rfl h) ?_
  refine lwant rfl rfl rfl rfl (o_call (is := []) Tryz.call11 (c_few5 [ps] (some ⟨b21, 0, none⟩) 1 (by simp) (one_R hlps) (one_S hmps) (one_S hlps)) rfl rfl (by repeat' (first | constructor | apply Sub.suf)) rfl) ?_
  refine le ?_; intro x22
  refine lwant rfl rfl rfl rfl (op (p_not rfl) rfl) ?_
  refine ls (op (p_pickf rfl rfl) rfl) ?_
  refine ln (nmid (wk0 (by repeat (first | exact subσ.nil _ | refine subσ.cons rfl ?_)) (by repeat' (first | constructor | apply Sub.suf))))
 ·
  refine ls (op (p_move rfl) rfl) ?_
  refine orX 4 25 29 rfl (subσ.cons (t := 0) rfl (subσ.cons (t := 1) rfl (subσ.cons (t := 2) rfl (subσ.cons (t := 4) rfl (subσ.cons (t := 5) rfl (subσ.cons (t := 6) rfl (subσ.nil _))))))) ?_ ?_
  ·
   intro h25
   refine lskip rfl rfl rfl rfl rfl ?_
   refine lskip rfl rfl rfl rfl rfl ?_
   refine lskip rfl rfl rfl rfl rfl ?_
   refine ls (op (p_pickt rfl rfl) rfl) ?_
   refine ln (nmid (wk0 (by repeat (first | exact subσ.nil _ | refine subσ.cons rfl ?_)) (by repeat' (first | constructor | apply Sub.suf))))
  apply exI
  ·
   intro h25
   refine lwant rfl rfl rfl rfl (o_ld Tryz.isAgg66 rfl (by repeat' constructor) (by repeat' constructor) rfl) ?_
   refine lwant rfl rfl rfl rfl (op (p_lenl rfl Tryz.underlying66) rfl) ?_
   refine lwant rfl rfl rfl rfl (op (p_icmp rfl rfl rfl) rfl) ?_
   refine ls (op (p_pickf rfl rfl) rfl) ?_
   refine ln (nmid (wk0 (by repeat (first | exact subσ.nil _ | refine subσ.cons rfl ?_)) (by repeat' (first | constructor | apply Sub.suf))))
  ·
   refine ln ?_
   refine nthen ?_
   refine cc rfl ?_ ?_
   ·
    intro h29
    skip
    refine cs ?_
    refine cr ?_
    refine ls (o_call (is := []) Tryz.call12 (c_alive05) rfl rfl (by repeat' (first | constructor | apply Sub.suf)) rfl) ?_
    refine le ?_; intro x30
    refine ls (op (p_asg rfl) rfl) ?_
    refine ln ?_
    refine nthen ?_
    refine cret ?_
    refine xret (fun _ _ h => h) ?_
    refine rret (is := []) () (Or.inl rfl) (Res.t rfl Res.d) (rfl) rfl (by repeat' (first | constructor | apply Sub.suf))
   ·
    intro h29
    have hf0 : few5 [ps] = true := by have h := h29; simp at h; exact h.1.2
    obtain ⟨hf1, hf2⟩ := few5_one hf0
    have hLp := lns_many ps
    refine cskip ?_
    refine nthen ?_
    refine cs ?_
    refine cr ?_
    refine ls (o_alloc Tryz.zeroValue3 rfl rfl) ?_
    refine le ?_; intro b7
    refine ls (o_st rfl Tryz.sizeOf3 rfl rfl rfl rfl rfl (by repeat' constructor) (by repeat' constructor) (by repeat' constructor)) ?_
    refine ln ?_
    refine nthen ?_
    refine cs ?_
    refine cr ?_
    refine ls (o_alloc Tryz.zeroValue4 rfl rfl) ?_
    refine le ?_; intro b8
    refine ls (o_st rfl Tryz.sizeOf4 rfl rfl rfl rfl rfl (by repeat' constructor) (by repeat' constructor) (by repeat' constructor)) ?_
    refine ln ?_
    refine nthen ?_
    refine cs ?_
    refine cr ?_
    refine ls (o_ld Tryz.isAgg22 rfl (by repeat' constructor) (by repeat' constructor) rfl) ?_
    refine ls (o_call (is := []) Tryz.call13 (c_lNewC ps B c' (by omega)) rfl rfl (by repeat' (first | constructor | apply Sub.suf)) rfl) ?_
    refine le ?_; rintro ⟨A33, c33⟩
    refine ls (op (p_mkf rfl) rfl) ?_
    refine ls (o_call (is := [0, 0, 1, 0]) Tryz.call38 (c_seqSplit4 ps A33 c33 (by omega) hfps (wantF wn) 39 [.pointer (some ⟨b8, 0, none⟩), .pointer (some ⟨b7, 0, none⟩), .pointer (some ⟨b4, 0, none⟩), .pointer (some ⟨b5, 0, none⟩)] [slA B ps, slA D wn] (fun _ => box b8 4 [.bool true]) (fun k => box b7 3 [.int .i64 ((k : Nat) : Int)]) (fun _ => box b4 22 [.slice B ps.length c']) (fun _ => box b5 66 [.slice D wn.length d']) Tryz.call39 (fun k hk y => c_Splits1 ps B c' hlps hfps wn D d' b8 b7 b4 b5 k hk y)) rfl rfl (by repeat' (first | constructor | apply Sub.suf)) rfl) ?_
    refine le ?_; rintro ⟨⟨⟨f, s⟩, ⟨⟨A9, c9⟩, ⟨A10, c10⟩⟩⟩, hsp⟩
    dsimp only at hsp
    have hsl := splK_len (wantF wn) ps ps.length (Nat.le_refl _)
    have hsf := splK_fit (wantF wn) ps hfps ps.length (Nat.le_refl _)
    have hsn := splK_lns (wantF wn) ps ps.length (Nat.le_refl _)
    rw [List.take_length] at hsn
    rw [← hsp] at hsl hsf hsn
    dsimp only at hsl hsf hsn
    refine lpure (St.cap (m := f.length) (c := c9) (by repeat' constructor)) ?_
    intro hcap9
    refine lpure (St.cap (m := s.length) (c := c10) (by repeat' constructor)) ?_
    intro hcap10
    refine ls (op (p_move rfl) rfl) ?_
    refine ls (op (p_ext rfl (by repeat' constructor)) rfl) ?_
    refine ls (op (p_ext rfl (by repeat' constructor)) rfl) ?_
    refine ls (op (p_asg rfl) rfl) ?_
    refine ls (op (p_asg rfl) rfl) ?_
    refine ln ?_
    refine nthen ?_
    refine cs ?_
    refine cr ?_
    refine ls (o_ld Tryz.isAgg22 rfl (by repeat' constructor) (by repeat' constructor) rfl) ?_
    refine ls (o_ld Tryz.isAgg66 rfl (by repeat' constructor) (by repeat' constructor) rfl) ?_
    refine ls (o_call (is := []) Tryz.call41 (c_ref5Split ps B c' hcB (by omega) hfps wn D d') rfl rfl (by repeat' (first | constructor | apply Sub.suf)) rfl) ?_
    refine le ?_; rintro ⟨⟨⟨f2, s2⟩, ⟨⟨A11, c11⟩, ⟨A12, c12⟩⟩⟩, hsp2⟩
    dsimp only at hsp2
    obtain ⟨rfl, rfl⟩ := Prod.mk.inj (hsp.trans hsp2.symm)
    refine ls (op (p_move rfl) rfl) ?_
    refine ls (op (p_ext rfl (by repeat' constructor)) rfl) ?_
    refine ls (op (p_ext rfl (by repeat' constructor)) rfl) ?_
    refine ls (op (p_asg rfl) rfl) ?_
    refine ls (op (p_asg rfl) rfl) ?_
    refine ln ?_
    refine nthen ?_
    refine cs ?_
    refine cs ?_
    refine cr ?_
    refine ls (o_ld Tryz.isAgg4 rfl (by repeat' constructor) (by repeat' constructor) rfl) ?_
    refine ls (op (p_not rfl) rfl) ?_
    refine ls (op (p_move rfl) rfl) ?_
    refine lwant rfl rfl rfl rfl (o_ld Tryz.isAgg3 rfl (by repeat' constructor) (by repeat' constructor) rfl) ?_
    refine lwant rfl rfl rfl rfl (o_ld Tryz.isAgg22 rfl (by repeat' constructor) (by repeat' constructor) rfl) ?_
    refine lwant rfl rfl rfl rfl (op (p_lenl rfl Tryz.underlying22) rfl) ?_
    refine lwant rfl rfl rfl rfl (op (p_icmp rfl rfl rfl) rfl) ?_
    refine fixL (congrArg Value.bool (bne_self' _)) ?_
    refine ls (op (p_pickf rfl rfl) rfl) ?_
    refine ls (op (p_move rfl) rfl) ?_
    refine lwant rfl rfl rfl rfl (op (p_move rfl) rfl) ?_
    refine lwant rfl rfl rfl rfl (o_call (is := []) Tryz.call23 (c_lOld f A9 c9 (by omega)) rfl rfl (by repeat' (first | constructor | apply Sub.suf)) rfl) ?_
    refine le ?_; rintro ⟨A54, c54⟩
    refine lwant rfl rfl rfl rfl (op (p_move rfl) rfl) ?_
    refine lwant rfl rfl rfl rfl (o_call (is := []) Tryz.call17 (c_refAllP f f A54 A11 c54 c11 (by omega) hsf.1) rfl rfl (by repeat' (first | constructor | apply Sub.suf)) rfl) ?_
    refine le ?_; intro x56
    refine fixL (congrArg Value.bool (decide_eq_true rfl)) ?_
    refine lwant rfl rfl rfl rfl (op (p_not rfl) rfl) ?_
    refine ls (op (p_pickf rfl rfl) rfl) ?_
    refine ls (op (p_move rfl) rfl) ?_
    refine lwant rfl rfl rfl rfl (op (p_move rfl) rfl) ?_
    refine lwant rfl rfl rfl rfl (o_call (is := []) Tryz.call23 (c_lOld s A10 c10 (by omega)) rfl rfl (by repeat' (first | constructor | apply Sub.suf)) rfl) ?_
    refine le ?_; rintro ⟨A61, c61⟩
    refine lwant rfl rfl rfl rfl (op (p_move rfl) rfl) ?_
    refine lwant rfl rfl rfl rfl (o_call (is := []) Tryz.call17 (c_refAllP s s A61 A12 c61 c12 (by omega) hsf.2) rfl rfl (by repeat' (first | constructor | apply Sub.suf)) rfl) ?_
    refine le ?_; intro x63
    refine fixL (congrArg Value.bool (decide_eq_true rfl)) ?_
    refine lwant rfl rfl rfl rfl (op (p_not rfl) rfl) ?_
    refine ls (op (p_pickf rfl rfl) rfl) ?_
    refine ln ?_
    refine nthen ?_
    refine cc rfl (fun h => by cases h) (fun h => ?_)
    refine cskip ?_
    refine nthen ?_
    refine cs ?_
    refine cr ?_
    refine ls (op (p_move rfl) rfl) ?_
    refine ls (o_call (is := []) Tryz.call31 (c_Made02 l A c (by omega) hMo) rfl rfl (by repeat' (first | constructor | apply Sub.suf)) rfl) ?_
    refine le ?_; rintro ⟨⟨p, b⟩, ⟨A2, c2⟩⟩
    refine ls (op (p_move rfl) rfl) ?_
    refine ls (op (p_ext rfl (by repeat' constructor)) rfl) ?_
    refine ls (op (p_ext rfl (by repeat' constructor)) rfl) ?_
    refine ls (op (p_asg rfl) rfl) ?_
    refine ls (op (p_asg rfl) rfl) ?_
    refine ln ?_
    refine nthen ?_
    refine cs ?_
    refine cs ?_
    refine cr ?_
    refine ls (op (p_move rfl) rfl) ?_
    refine ls (op (p_ptrnil Tryz.underlying51 rfl rfl) rfl) ?_
    refine ln ?_
    refine nthen ?_
    refine cc rfl (fun h => by cases h) (fun h => ?_)
    refine cskip ?_
    refine nthen ?_
    refine cs ?_
    refine cr ?_
    refine ls (op (p_move rfl) rfl) ?_
    refine ls (o_call (is := [0, 0]) Tryz.call36 (c_tCopy p b (madeT l)) rfl rfl (by repeat' (first | constructor | apply Sub.suf)) rfl) ?_
    refine le ?_; rintro ⟨p4, b4t⟩
    refine ls (op (p_asg rfl) rfl) ?_
    refine ln ?_
    refine nthen ?_
    refine cs ?_
    refine cs ?_
    refine cr ?_
    refine ls (op (p_move rfl) rfl) ?_
    refine ls (o_ld Tryz.isAgg22 rfl (by repeat' constructor) (by repeat' constructor) rfl) ?_
    refine ls (o_call (is := []) Tryz.call13 (c_lNewC ps B c' (by omega)) rfl rfl (by repeat' (first | constructor | apply Sub.suf)) rfl) ?_
    refine le ?_; rintro ⟨A77, c77⟩
    refine lpure (St.cap (m := ps.length) (c := c77) (by repeat' constructor)) ?_
    intro hcap77
    refine ls (o_call (is := [2, 2]) Tryz.call33 (c_seqApply p b (madeT l) (omany l) (l.length) hinv ps A77 c77 hcap77 (by omega) hfps (by omega) (by omega)) rfl rfl (by repeat' (first | constructor | apply Sub.suf)) rfl) ?_
    refine le ?_; rintro ⟨⟨T1, e1⟩, hq1⟩
    try dsimp only at hq1
    have hin1 := rowT_inv hinv hq1
    have hft1 : Tfit T1 := inv_fit hin1 (by omega)
    refine ls (op (p_icmp rfl rfl rfl) rfl) ?_
    refine ln ?_
    refine nthen ?_
    refine cc rfl ?_ ?_
    ·
     intro h79
     skip
     refine cs ?_
     refine cr ?_
     refine ls (o_call (is := []) Tryz.call12 (c_alive05) rfl rfl (by repeat' (first | constructor | apply Sub.suf)) rfl) ?_
     refine le ?_; intro x80
     refine ls (op (p_asg rfl) rfl) ?_
     refine ln ?_
     refine nthen ?_
     refine cret ?_
     refine xret (fun _ _ h => h) ?_
     refine rret (is := []) () (Or.inl rfl) (Res.t rfl Res.d) (rfl) rfl (by repeat' (first | constructor | apply Sub.suf))
    ·
     intro h79
     obtain rfl : e1 = 0 := by simpa using h79
     have hX := splK_runs (wantF wn) ps hso ps.length (Nat.le_refl _) (by rw [List.take_length]; exact rowT_runs hq1.symm)
     rw [← hsp] at hX
     obtain ⟨X, hX1, hX2⟩ := runs_app.1 hX
     have hin3 := rowT_inv hinv (rowT_ok hX1).symm
     refine cskip ?_
     refine nthen ?_
     refine cs ?_
     refine cr ?_
     refine ls (o_call (is := []) Tryz.call12 (c_alive05) rfl rfl (by repeat' (first | constructor | apply Sub.suf)) rfl) ?_
     refine le ?_; intro x81
     refine ls (op (p_move rfl) rfl) ?_
     refine lwant rfl rfl rfl rfl (op (p_move rfl) rfl) ?_
     refine lwant rfl rfl rfl rfl (op (p_move rfl) rfl) ?_
     refine lwant rfl rfl rfl rfl (o_call (is := [2, 2]) Tryz.call33 (c_seqApply p4 b4t (madeT l) (omany l) (l.length) hinv f A9 c9 hcap9 (by omega) hsf.1 (by omega) (by omega)) rfl rfl (by repeat' (first | constructor | apply Sub.suf)) rfl) ?_
     refine le ?_; rintro ⟨⟨T3, e3⟩, hq3⟩
     try dsimp only at hq3
     obtain ⟨rfl, rfl⟩ := Prod.mk.inj ((rowT_ok hX1).symm.trans hq3.symm)
     refine lwant rfl rfl rfl rfl (op (p_icmp rfl rfl rfl) rfl) ?_
     refine fixL (congrArg Value.bool (decide_eq_true rfl)) ?_
     refine ls (op (p_pickt rfl rfl) rfl) ?_
     refine ls (op (p_move rfl) rfl) ?_
     refine lwant rfl rfl rfl rfl (op (p_move rfl) rfl) ?_
     refine lwant rfl rfl rfl rfl (op (p_move rfl) rfl) ?_
     refine lwant rfl rfl rfl rfl (o_call (is := [0, 0]) Tryz.call33 (c_seqApply p4 b4t X (omany l + lns f) (l.length + f.length) hin3 s A10 c10 hcap10 (by omega) hsf.2 (by omega) (by omega)) rfl rfl (by repeat' (first | constructor | apply Sub.suf)) rfl) ?_
     refine le ?_; rintro ⟨⟨T4, e4⟩, hq4⟩
     try dsimp only at hq4
     obtain ⟨rfl, rfl⟩ := Prod.mk.inj ((rowT_ok hX2).symm.trans hq4.symm)
     refine lwant rfl rfl rfl rfl (op (p_icmp rfl rfl rfl) rfl) ?_
     refine fixL (congrArg Value.bool (decide_eq_true rfl)) ?_
     refine ls (op (p_pickt rfl rfl) rfl) ?_
     refine ls (op (p_move rfl) rfl) ?_
     refine lwant rfl rfl rfl rfl (op (p_move rfl) rfl) ?_
     refine lwant rfl rfl rfl rfl (op (p_move rfl) rfl) ?_
     refine lwant rfl rfl rfl rfl (o_call (is := [2, 2, 0, 0]) Tryz.call37 (c_tSame p b p4 b4t T1 T1 hft1) rfl rfl (by repeat' (first | constructor | apply Sub.suf)) rfl) ?_
     refine le ?_; intro x97
     refine fixL (congrArg Value.bool (decide_eq_true rfl)) ?_
     refine ls (op (p_pickt rfl rfl) rfl) ?_
     refine ls (op (p_asg rfl) rfl) ?_
     refine ln ?_
     refine nthen ?_
     refine cret ?_
     refine xret (fun _ _ h => h) ?_
     refine rret (is := []) () (Or.inl rfl) (Res.t rfl Res.d) (rfl) rfl (by repeat' (first | constructor | apply Sub.suf))

end Go.Proofs.YtheamdahngfpdaaGreatDoor.X

end
