/- OWN WORK: a part of the proof of a law of the seat YtonmgdamojingaaDoor: contracts. -/
import Derived.Test.YtonmgdamojingaaDoorProg
import Derived.Test.YtonmgdamojingaaDoorXC3
import Derived.Test.YtonmgdamojingaaDoorXSx2
set_option linter.unusedVariables false
set_option linter.unusedSimpArgs false
namespace Go.Proofs.YtonmgdamojingaaDoor.X
open Go Go.RowKit Go.Proofs Go.Sx
attribute [local irreducible] slA isA box row

theorem known0 {n q : Nat} (h1 : n ≤ 64) (h2 : q ≤ n) : known 0 n ((0 + q : Nat) : Int) = true := by
 unfold known least
 rw [Bool.and_eq_true, decide_eq_true_eq, decide_eq_true_eq]
 omega
theorem preb0 {rows : List (List Prim)} {q : Nat} {m : List Prim} (h1 : rows.length ≤ 64) (h2 : q ≤ rows.length) : prebT 0 rows (q : Int) m = match reb (rows.drop q).flatten m with | some r => (r, 0) | none => ([], 151) := by
 have h := prebT_yes (m := m) (known0 h1 h2)
 rwa [Nat.zero_add] at h
theorem steps {rows : List (List Prim)} {l l1 l2 : List Prim} {e1 e2 : Int} {p k : Nat} (hn : rows.length ≤ 64) (hk : k ≤ rows.length) (hp : p ≤ k) (h1 : (l1, e1) = prebT 0 (rows.take k) (p : Int) l) (h2 : (l2, e2) = prebT 0 rows (p : Int) l) :
  (¬ e1 = 0 → e2 = e1) ∧ (e1 = 0 → prebT 0 rows (k : Int) l1 = (l2, e2)) := by
 have hl : (rows.take k).length = k := by rw [List.length_take]; omega
 rw [preb0 (by omega) (by omega)] at h1
 rw [preb0 hn (by omega)] at h2
 have hd : rows.drop p = (rows.take k).drop p ++ rows.drop k := by
  have e := congrArg (List.drop p) (List.take_append_drop k rows)
  rw [List.drop_append_of_le_length (by omega)] at e
  exact e.symm
 rw [hd, List.flatten_append, reb_app] at h2
 cases hr : reb ((rows.take k).drop p).flatten l with
 | none =>
  rw [hr] at h1 h2
  cases h1; cases h2
  exact ⟨fun _ => rfl, fun h => by cases h⟩
 | some r =>
  rw [hr] at h1 h2
  cases h1
  refine ⟨fun h => absurd rfl h, fun _ => ?_⟩
  rw [preb0 hn hk]
  exact h2.symm
theorem empties {rows : List (List Prim)} {l : List Prim} {k n : Nat} (hn : rows.length + n ≤ 64) (hk : k ≤ rows.length) : prebT 0 (rows ++ List.replicate n []) (k : Int) l = prebT 0 rows (k : Int) l := by
 rw [preb0 (by simp; omega) (by simp; omega), preb0 (by omega) hk, List.drop_append_of_le_length hk, List.flatten_append]
 have : (List.replicate n ([] : List Prim)).flatten = [] := by simp
 rw [this, List.append_nil]

theorem fa25_0 : FA Tryd.prog 25 0 0 := fun b o w => by kernel_rfl
theorem fa25_1 : FA Tryd.prog 25 1 1 := fun b o w => by kernel_rfl
set_option maxRecDepth 100000 in
theorem c_PastSteps (rows : List (List Prim)) (A : Option Addr) (c : Nat) (hn : rows.length ≤ 1048576)(hR : ∀ l ∈ rows, l.length ≤ 2000000 ∧ ∀ x ∈ l, x.fit) (hM : (rows.map many).sum ≤ 1048576) (hc : rows.length ≤ c) (z : Int) (l : List Prim) (B : Option Addr) (c' : Nat) (hl : l.length ≤ 1048576) (hfl : ∀ x ∈ l, x.fit) (hML : many l ≤ 1048576) (y : Int) : Con Tryd.prog 3 [.slice A rows.length c, .agg #[.int .i64 z, .slice B l.length c'], .int .i64 y] [] [slA A rows, slA B l] Unit (fun _ => .bool true) (fun _ => []) (fun _ => []) := by
 refine con Tryd.func3 rfl Tryd.ntmps3 rfl ?_
 intro M0 F0 w0
 refine cs ?_
 refine cr ?_
 refine ls (o_box rfl rfl rfl) ?_
 refine le ?_; intro b4
 refine ls (op (p_asg rfl) rfl) ?_
 refine ln ?_
 refine nthen ?_
 refine cs ?_
 refine cs ?_
 refine cr ?_
 refine ls (op (p_move rfl) rfl) ?_
 refine ls (op (p_fa fa25_1 rfl) rfl) ?_
 refine ls (o_ld Tryd.isAgg23 rfl (by repeat (first | exact At.z | apply At.s)) (by repeat (first | exact At.z | apply At.s)) rfl) ?_
 refine ls (o_call (is := []) Tryd.call5 (c_few15 rows A c l B c' (by omega) (by omega) (fun l hl => (hR l hl).1) (by omega) (by have h : (rows.map List.length).sum ≤ (rows.map many).sum := lens_le rows; omega)) rfl rfl (by repeat (first | exact Sub.d | (refine Sub.s ?_ ?_; (repeat (first | exact In.z | apply In.s))) | (refine Sub.suf ?_; (repeat (first | exact Suf.z | apply Suf.s))))) rfl) ?_
 refine le ?_; intro x20
 refine ls (op (p_not rfl) rfl) ?_
 refine ls (op (p_move rfl) rfl) ?_
 refine orX 4 22 26 rfl (subσ.cons (t := 0) rfl (subσ.cons (t := 1) rfl (subσ.cons (t := 2) rfl (subσ.cons (t := 4) rfl (subσ.cons (t := 6) rfl (subσ.nil _)))))) ?_ ?_
 ·
  intro h22
  refine lskip rfl rfl rfl rfl rfl ?_
  refine lskip rfl rfl rfl rfl rfl ?_
  refine lskip rfl rfl rfl rfl rfl ?_
  refine ls (op (p_pickt rfl rfl) rfl) ?_
  refine ln (nmid (wk0 (by repeat (first | exact subσ.nil _ | refine subσ.cons rfl ?_)) (by repeat (first | exact Sub.d | (refine Sub.s ?_ ?_; (repeat (first | exact In.z | apply In.s))) | (refine Sub.suf ?_; (repeat (first | exact Suf.z | apply Suf.s)))))))
 apply exI
 ·
  intro h22
  refine lwant rfl rfl rfl rfl (op (p_fa fa25_0 rfl) rfl) ?_
  refine lwant rfl rfl rfl rfl (o_ld Tryd.isAgg3 rfl (by repeat (first | exact At.z | apply At.s)) (by repeat (first | exact At.z | apply At.s)) rfl) ?_
  refine lwant rfl rfl rfl rfl (op (p_icmp rfl rfl rfl) rfl) ?_
  refine ls (op (p_pickf rfl rfl) rfl) ?_
  refine ln (nmid (wk0 (by repeat (first | exact subσ.nil _ | refine subσ.cons rfl ?_)) (by repeat (first | exact Sub.d | (refine Sub.s ?_ ?_; (repeat (first | exact In.z | apply In.s))) | (refine Sub.suf ?_; (repeat (first | exact Suf.z | apply Suf.s)))))))
 ·
  refine ls (op (p_move rfl) rfl) ?_
  refine orX 5 27 32 rfl (subσ.cons (t := 0) rfl (subσ.cons (t := 1) rfl (subσ.cons (t := 2) rfl (subσ.cons (t := 4) rfl (subσ.cons (t := 6) rfl (subσ.nil _)))))) ?_ ?_
  ·
   intro h27
   refine lskip rfl rfl rfl rfl rfl ?_
   refine lskip rfl rfl rfl rfl rfl ?_
   refine lskip rfl rfl rfl rfl rfl ?_
   refine lskip rfl rfl rfl rfl rfl ?_
   refine ls (op (p_pickt rfl rfl) rfl) ?_
   refine ln (nmid (wk0 (by repeat (first | exact subσ.nil _ | refine subσ.cons rfl ?_)) (by repeat (first | exact Sub.d | (refine Sub.s ?_ ?_; (repeat (first | exact In.z | apply In.s))) | (refine Sub.suf ?_; (repeat (first | exact Suf.z | apply Suf.s)))))))
  apply exI
  ·
   intro h27
   refine lwant rfl rfl rfl rfl (op (p_move rfl) rfl) ?_
   refine lwant rfl rfl rfl rfl (op (p_fa fa25_0 rfl) rfl) ?_
   refine lwant rfl rfl rfl rfl (o_ld Tryd.isAgg3 rfl (by repeat (first | exact At.z | apply At.s)) (by repeat (first | exact At.z | apply At.s)) rfl) ?_
   refine lwant rfl rfl rfl rfl (op (p_icmp rfl rfl rfl) rfl) ?_
   refine ls (op (p_pickf rfl rfl) rfl) ?_
   refine ln (nmid (wk0 (by repeat (first | exact subσ.nil _ | refine subσ.cons rfl ?_)) (by repeat (first | exact Sub.d | (refine Sub.s ?_ ?_; (repeat (first | exact In.z | apply In.s))) | (refine Sub.suf ?_; (repeat (first | exact Suf.z | apply Suf.s)))))))
  ·
   refine ls (op (p_move rfl) rfl) ?_
   refine orX 5 33 38 rfl (subσ.cons (t := 0) rfl (subσ.cons (t := 1) rfl (subσ.cons (t := 2) rfl (subσ.cons (t := 4) rfl (subσ.cons (t := 6) rfl (subσ.nil _)))))) ?_ ?_
   ·
    intro h33
    refine lskip rfl rfl rfl rfl rfl ?_
    refine lskip rfl rfl rfl rfl rfl ?_
    refine lskip rfl rfl rfl rfl rfl ?_
    refine lskip rfl rfl rfl rfl rfl ?_
    refine ls (op (p_pickt rfl rfl) rfl) ?_
    refine ln (nmid (wk0 (by repeat (first | exact subσ.nil _ | refine subσ.cons rfl ?_)) (by repeat (first | exact Sub.d | (refine Sub.s ?_ ?_; (repeat (first | exact In.z | apply In.s))) | (refine Sub.suf ?_; (repeat (first | exact Suf.z | apply Suf.s)))))))
   apply exI
   ·
    intro h33
    refine lwant rfl rfl rfl rfl (op (p_move rfl) rfl) ?_
    refine lwant rfl rfl rfl rfl (op (p_move rfl) rfl) ?_
    refine lwant rfl rfl rfl rfl (op (p_lenl rfl Tryd.underlying22) rfl) ?_
    refine lwant rfl rfl rfl rfl (op (p_icmp rfl rfl rfl) rfl) ?_
    refine ls (op (p_pickf rfl rfl) rfl) ?_
    refine ln (nmid (wk0 (by repeat (first | exact subσ.nil _ | refine subσ.cons rfl ?_)) (by repeat (first | exact Sub.d | (refine Sub.s ?_ ?_; (repeat (first | exact In.z | apply In.s))) | (refine Sub.suf ?_; (repeat (first | exact Suf.z | apply Suf.s)))))))
   ·
    refine ls (op (p_move rfl) rfl) ?_
    refine orX 4 39 43 rfl (subσ.cons (t := 0) rfl (subσ.cons (t := 1) rfl (subσ.cons (t := 2) rfl (subσ.cons (t := 4) rfl (subσ.cons (t := 6) rfl (subσ.nil _)))))) ?_ ?_
    ·
     intro h39
     refine lskip rfl rfl rfl rfl rfl ?_
     refine lskip rfl rfl rfl rfl rfl ?_
     refine lskip rfl rfl rfl rfl rfl ?_
     refine ls (op (p_pickt rfl rfl) rfl) ?_
     refine ln (nmid (wk0 (by repeat (first | exact subσ.nil _ | refine subσ.cons rfl ?_)) (by repeat (first | exact Sub.d | (refine Sub.s ?_ ?_; (repeat (first | exact In.z | apply In.s))) | (refine Sub.suf ?_; (repeat (first | exact Suf.z | apply Suf.s)))))))
    apply exI
    ·
     intro h39
     refine lwant rfl rfl rfl rfl (op (p_move rfl) rfl) ?_
     refine lwant rfl rfl rfl rfl (op (p_lenl rfl Tryd.underlying22) rfl) ?_
     refine lwant rfl rfl rfl rfl (op (p_icmp rfl rfl rfl) rfl) ?_
     refine ls (op (p_pickf rfl rfl) rfl) ?_
     refine ln (nmid (wk0 (by repeat (first | exact subσ.nil _ | refine subσ.cons rfl ?_)) (by repeat (first | exact Sub.d | (refine Sub.s ?_ ?_; (repeat (first | exact In.z | apply In.s))) | (refine Sub.suf ?_; (repeat (first | exact Suf.z | apply Suf.s)))))))
    ·
     refine ln ?_
     refine nthen ?_
     refine cc rfl ?_ ?_
     ·
      intro h43
      skip
      refine cs ?_
      refine cr ?_
      refine ls (o_call (is := []) Tryd.call6 (c_alive15) rfl rfl (by repeat (first | exact Sub.d | (refine Sub.s ?_ ?_; (repeat (first | exact In.z | apply In.s))) | (refine Sub.suf ?_; (repeat (first | exact Suf.z | apply Suf.s))))) rfl) ?_
      refine le ?_; intro x44
      refine ls (op (p_asg rfl) rfl) ?_
      refine ln ?_
      refine nthen ?_
      refine cret ?_
      refine xret (fun _ _ h => h) ?_
      refine rret (is := []) () (Or.inl rfl) (Res.t rfl Res.d) (rfl) rfl (by repeat (first | exact Sub.d | (refine Sub.s ?_ ?_; (repeat (first | exact In.z | apply In.s))) | (refine Sub.suf ?_; (repeat (first | exact Suf.z | apply Suf.s)))))
     ·
      intro h43
      have hc1 : (((fewT rows l = true ∧ 0 ≤ z) ∧ z ≤ y) ∧ y ≤ (rows.length : Int)) ∧ rows.length ≤ 64 := by have := h43; simp at this; exact ⟨this.1, by have h2 := this.2; omega⟩
      obtain ⟨⟨⟨⟨hc2, hz0⟩, hzy⟩, hyn⟩, h64⟩ := hc1
      obtain ⟨p, rfl⟩ : ∃ p : Nat, z = (p : Int) := ⟨z.toNat, by omega⟩
      obtain ⟨k, rfl⟩ : ∃ k : Nat, y = (k : Int) := ⟨y.toNat, by omega⟩
      have hk : k ≤ rows.length := by omega
      have hpk : p ≤ k := by omega
      refine cskip ?_
      refine nthen ?_
      refine cs ?_
      refine cmono (fun a w h => subS (l' := rows.take k) (c := c) 0 k (by repeat (first | exact In.z | apply In.s)) (Nat.zero_le _) hk hc rfl h) ?_
      refine cr ?_
      refine ls (op (p_move rfl) rfl) ?_
      refine ls (op (p_move rfl) rfl) ?_
      refine ls (op (p_slh k (by omega) rfl Tryd.underlying22 Tryd.sizeOf23 rfl rfl) rfl) ?_
      refine fixL (show Value.slice (if c = 0 then A else A.map (·.add (0 * Rp.size (List Prim)))) (k - 0) (c - 0) = Value.slice (if c = 0 then A else A.map (·.add (0 * Rp.size (List Prim)))) (rows.take k).length (c - 0) by rw [List.length_take, Nat.min_eq_left hk, Nat.sub_zero]) ?_
      refine ls (o_call (is := []) Tryd.call7 (c_made15 0 0 rfl (rows.take k) (if c = 0 then A else A.map (·.add (0 * Rp.size (List Prim)))) (c - 0) (by rw [List.length_take]; omega) (by rw [List.length_take]; omega) (fun l hl => hR l (List.mem_of_mem_take hl))) rfl rfl (by repeat (first | exact Sub.d | (refine Sub.s ?_ ?_; (repeat (first | exact In.z | apply In.s))) | (refine Sub.suf ?_; (repeat (first | exact Suf.z | apply Suf.s))))) rfl) ?_
      refine le ?_; rintro ⟨⟨b1, r1, ⟨A1, c1⟩⟩, hI1, hc1, h01⟩
      dsimp only at hI1 hc1 h01
      refine ls (op (p_move rfl) rfl) ?_
      refine ls (op (p_ext rfl (by repeat (first | exact At.z | apply At.s))) rfl) ?_
      refine ls (op (p_ext rfl (by repeat (first | exact At.z | apply At.s))) rfl) ?_
      refine ls (o_alloc Tryd.zeroValue30 rfl rfl) ?_
      refine le ?_; intro b8
      refine ls (op (p_asg rfl) rfl) ?_
      refine ls (o_st rfl Tryd.sizeOf30 rfl rfl rfl rfl rfl (by repeat (first | exact At.z | apply At.s)) (by repeat (first | exact Put.d | apply Put.t | apply Put.s)) (by repeat (first | exact SetAt.z | apply SetAt.s))) ?_
      refine ln ?_
      refine nthen ?_
      refine cs ?_
      refine cr ?_
      refine ls (op (p_move rfl) rfl) ?_
      refine ls (o_call (is := []) Tryd.call7 (c_made15 0 0 rfl rows A c (by omega) (by omega) hR) rfl rfl (by repeat (first | exact Sub.d | (refine Sub.s ?_ ?_; (repeat (first | exact In.z | apply In.s))) | (refine Sub.suf ?_; (repeat (first | exact Suf.z | apply Suf.s))))) rfl) ?_
      refine le ?_; rintro ⟨⟨b2, r2, ⟨A2, c2⟩⟩, hI2, hc2, h02⟩
      dsimp only at hI2 hc2 h02
      refine ls (op (p_move rfl) rfl) ?_
      refine ls (op (p_ext rfl (by repeat (first | exact At.z | apply At.s))) rfl) ?_
      refine ls (op (p_ext rfl (by repeat (first | exact At.z | apply At.s))) rfl) ?_
      refine ls (o_alloc Tryd.zeroValue30 rfl rfl) ?_
      refine le ?_; intro b10
      refine ls (op (p_asg rfl) rfl) ?_
      refine ls (o_st rfl Tryd.sizeOf30 rfl rfl rfl rfl rfl (by repeat (first | exact At.z | apply At.s)) (by repeat (first | exact Put.d | apply Put.t | apply Put.s)) (by repeat (first | exact SetAt.z | apply SetAt.s))) ?_
      refine ln ?_
      refine nthen ?_
      refine cs ?_
      refine cs ?_
      refine cr ?_
      refine ls (op (p_move rfl) rfl) ?_
      refine ls (op (p_ptrnil Tryd.underlying28 rfl rfl) rfl) ?_
      refine ls (op (p_move rfl) rfl) ?_
      refine lwant rfl rfl rfl rfl (op (p_move rfl) rfl) ?_
      refine lwant rfl rfl rfl rfl (op (p_ptrnil Tryd.underlying28 rfl rfl) rfl) ?_
      refine ls (op (p_pickf rfl rfl) rfl) ?_
      refine ln ?_
      refine nthen ?_
      refine cc rfl (fun h => by cases h) (fun h => ?_)
      refine cskip ?_
      refine nthen ?_
      refine cs ?_
      refine cd [3, 6] [(2, b4, 1, _), (5, b4, 0, _)] TrydX.mixed (TOk.t (isBoxS (by repeat (first | exact At.z | apply At.s)) (k := 1) (by repeat (first | exact Cut.d | apply Cut.t | apply Cut.s))) (TOk.t (isBoxS (by repeat (first | exact At.z | apply At.s)) (k := 1) (by repeat (first | exact Cut.d | apply Cut.t | apply Cut.s))) TOk.d)) ?_
      refine tk 0 rfl (by kernel_rfl) (fun _ _ _ h => h) gnone (TTany _) (p_move rfl) rfl ?_
      refine tk 1 rfl (by kernel_rfl) (fun _ _ _ h => h) gnone (TTany _) (p_fa fa25_1 rfl) rfl ?_
      refine tk 2 rfl (by kernel_rfl) (fun _ _ _ h => h) gnone (TTat (List.Mem.head _)) (p_ld Tryd.isAgg23 rfl) rfl ?_
      refine tk 4 rfl (by kernel_rfl) (fun _ _ _ h => h) gnone (TTany _) (p_fa fa25_0 rfl) rfl ?_
      refine tk 5 rfl (by kernel_rfl) (fun _ _ _ h => h) gnone (TTat (List.Mem.tail _ (List.Mem.head _))) (p_ld Tryd.isAgg3 rfl) rfl ?_
      refine df 3 (by kernel_rfl) ?_
      refine doR rfl (o_call (is := []) Tryd.call9 (c_lNew l B c' (by omega)) rfl rfl (by repeat (first | exact Sub.d | (refine Sub.s ?_ ?_; (repeat (first | exact In.z | apply In.s))) | (refine Sub.suf ?_; (repeat (first | exact Suf.z | apply Suf.s))))) rfl) (TOk.x (by kernel_rfl) (TOk.t (isBoxE fun _ => isBoxS (by repeat (first | exact At.z | apply At.s)) (k := 1) (by repeat (first | exact Cut.d | apply Cut.t | apply Cut.s))) TOk.d)) ?_
      refine ea ?_; rintro ⟨A5, c5⟩
      refine df 6 (by kernel_rfl) ?_
      refine doR rfl (o_call (is := [3]) Tryd.call8 (c_pRebase b1 0 (rows.take k) r1 hI1 (by rw [List.length_take]; omega) (fun l hl => hR l (List.mem_of_mem_take hl)) (p : Int) l A5 c5 (by omega) hfl) rfl rfl (by repeat (first | exact Sub.d | (refine Sub.s ?_ ?_; (repeat (first | exact In.z | apply In.s))) | (refine Sub.suf ?_; (repeat (first | exact Suf.z | apply Suf.s))))) rfl) (TOk.x (by kernel_rfl) (TOk.x (by kernel_rfl) TOk.d)) ?_
      refine ea ?_; rintro ⟨⟨⟨l3, e3⟩, ⟨A3, c3⟩⟩, hr3⟩
      refine tk 7 rfl (by kernel_rfl) (fun _ _ _ h => h) gnone (TTany _) (p_move rfl) rfl ?_
      refine tk 8 rfl (by kernel_rfl) (fun _ _ _ h => h) gnone (TTany _) (p_ext rfl (by repeat (first | exact At.z | apply At.s))) rfl ?_
      refine tk 9 rfl (by kernel_rfl) (fun _ _ _ h => h) gnone (TTany _) (p_ext rfl (by repeat (first | exact At.z | apply At.s))) rfl ?_
      refine tk 10 rfl (by kernel_rfl) (fun _ _ _ h => h) gnone (TTany _) (p_asg rfl) rfl ?_
      refine tk 11 rfl (by kernel_rfl) (fun _ _ _ h => h) gnone (TTany _) (p_asg rfl) rfl ?_
      refine dn (by kernel_rfl) ?_
      refine nthen ?_
      refine cs ?_
      refine cd [3, 6] [(2, b4, 1, _), (5, b4, 0, _)] TrydX.mixed (TOk.t (isBoxS (by repeat (first | exact At.z | apply At.s)) (k := 1) (by repeat (first | exact Cut.d | apply Cut.t | apply Cut.s))) (TOk.t (isBoxS (by repeat (first | exact At.z | apply At.s)) (k := 1) (by repeat (first | exact Cut.d | apply Cut.t | apply Cut.s))) TOk.d)) ?_
      refine tk 0 rfl (by kernel_rfl) (fun _ _ _ h => h) gnone (TTany _) (p_move rfl) rfl ?_
      refine tk 1 rfl (by kernel_rfl) (fun _ _ _ h => h) gnone (TTany _) (p_fa fa25_1 rfl) rfl ?_
      refine tk 2 rfl (by kernel_rfl) (fun _ _ _ h => h) gnone (TTat (List.Mem.head _)) (p_ld Tryd.isAgg23 rfl) rfl ?_
      refine tk 4 rfl (by kernel_rfl) (fun _ _ _ h => h) gnone (TTany _) (p_fa fa25_0 rfl) rfl ?_
      refine tk 5 rfl (by kernel_rfl) (fun _ _ _ h => h) gnone (TTat (List.Mem.tail _ (List.Mem.head _))) (p_ld Tryd.isAgg3 rfl) rfl ?_
      refine df 3 (by kernel_rfl) ?_
      refine doR rfl (o_call (is := []) Tryd.call9 (c_lNew l B c' (by omega)) rfl rfl (by repeat (first | exact Sub.d | (refine Sub.s ?_ ?_; (repeat (first | exact In.z | apply In.s))) | (refine Sub.suf ?_; (repeat (first | exact Suf.z | apply Suf.s))))) rfl) (TOk.x (by kernel_rfl) (TOk.t (isBoxE fun _ => isBoxS (by repeat (first | exact At.z | apply At.s)) (k := 1) (by repeat (first | exact Cut.d | apply Cut.t | apply Cut.s))) TOk.d)) ?_
      refine ea ?_; rintro ⟨A6, c6⟩
      refine df 6 (by kernel_rfl) ?_
      refine doR rfl (o_call (is := [2]) Tryd.call8 (c_pRebase b2 0 rows r2 hI2 (by omega) hR (p : Int) l A6 c6 (by omega) hfl) rfl rfl (by repeat (first | exact Sub.d | (refine Sub.s ?_ ?_; (repeat (first | exact In.z | apply In.s))) | (refine Sub.suf ?_; (repeat (first | exact Suf.z | apply Suf.s))))) rfl) (TOk.x (by kernel_rfl) (TOk.x (by kernel_rfl) TOk.d)) ?_
      refine ea ?_; rintro ⟨⟨⟨l4, e4⟩, ⟨A4, c4⟩⟩, hr4⟩
      refine tk 7 rfl (by kernel_rfl) (fun _ _ _ h => h) gnone (TTany _) (p_move rfl) rfl ?_
      refine tk 8 rfl (by kernel_rfl) (fun _ _ _ h => h) gnone (TTany _) (p_ext rfl (by repeat (first | exact At.z | apply At.s))) rfl ?_
      refine tk 9 rfl (by kernel_rfl) (fun _ _ _ h => h) gnone (TTany _) (p_ext rfl (by repeat (first | exact At.z | apply At.s))) rfl ?_
      refine tk 10 rfl (by kernel_rfl) (fun _ _ _ h => h) gnone (TTany _) (p_asg rfl) rfl ?_
      refine tk 11 rfl (by kernel_rfl) (fun _ _ _ h => h) gnone (TTany _) (p_asg rfl) rfl ?_
      refine dn (by kernel_rfl) ?_
      refine nthen ?_
      refine cs ?_
      refine cs ?_
      have hst := steps h64 hk hpk hr3 hr4
      have hk3 := prebT_ok2 hr3 (fun l hl => hR l (List.mem_of_mem_take hl)) (by omega) hfl
      have hk4 := prebT_ok2 hr4 hR (by omega) hfl
      refine cr ?_
      refine ls (op (p_move rfl) rfl) ?_
      refine ls (op (p_icmp rfl rfl rfl) rfl) ?_
      refine ln ?_
      refine nthen ?_
      refine cc rfl ?_ ?_
      ·
       intro h84
       try simp only [decide_eq_true_eq, decide_eq_false_iff_not, Bool.not_eq_true', Bool.not_eq_false', Int.not_lt, Int.not_le, ge_iff_le, Bool.not_true, Bool.not_false] at h84
       obtain rfl := hst.1 (by simpa using h84)
       refine cs ?_
       refine cr ?_
       refine ls (o_call (is := []) Tryd.call6 (c_alive15) rfl rfl (by repeat (first | exact Sub.d | (refine Sub.s ?_ ?_; (repeat (first | exact In.z | apply In.s))) | (refine Sub.suf ?_; (repeat (first | exact Suf.z | apply Suf.s))))) rfl) ?_
       refine le ?_; intro x85
       refine ls (op (p_move rfl) rfl) ?_
       refine lwant rfl rfl rfl rfl (op (p_move rfl) rfl) ?_
       refine lwant rfl rfl rfl rfl (op (p_move rfl) rfl) ?_
       refine lwant rfl rfl rfl rfl (op (p_icmp rfl rfl rfl) rfl) ?_
       refine fixL (congrArg Value.bool (decide_eq_true rfl)) ?_
       refine ls (op (p_pickt rfl rfl) rfl) ?_
       refine ls (op (p_asg rfl) rfl) ?_
       refine ln ?_
       refine nthen ?_
       refine cret ?_
       refine xret (fun _ _ h => h) ?_
       refine rret (is := []) () (Or.inl rfl) (Res.t rfl Res.d) (rfl) rfl (by repeat (first | exact Sub.d | (refine Sub.s ?_ ?_; (repeat (first | exact In.z | apply In.s))) | (refine Sub.suf ?_; (repeat (first | exact Suf.z | apply Suf.s)))))
      ·
       intro h84
       try simp only [decide_eq_true_eq, decide_eq_false_iff_not, Bool.not_eq_true', Bool.not_eq_false', Int.not_lt, Int.not_le, ge_iff_le, Bool.not_true, Bool.not_false] at h84
       obtain rfl : 0 = e3 := by have := h84; first | exact this.symm | (simp at this; omega)
       have hs2 := hst.2 rfl
       refine cskip ?_
       refine nthen ?_
       refine cs ?_
       refine cr ?_
       refine ls (op (p_move rfl) rfl) ?_
       refine ls (op (p_move rfl) rfl) ?_
       refine ls (op (p_move rfl) rfl) ?_
       refine ls (o_call (is := [0]) Tryd.call8 (c_pRebase b2 0 rows r2 hI2 (by omega) hR (k : Int) l3 A3 c3 hk3.1 hk3.2) rfl rfl (by repeat (first | exact Sub.d | (refine Sub.s ?_ ?_; (repeat (first | exact In.z | apply In.s))) | (refine Sub.suf ?_; (repeat (first | exact Suf.z | apply Suf.s))))) rfl) ?_
       refine le ?_; rintro ⟨⟨⟨l7, e7⟩, ⟨A7, c7⟩⟩, hr7⟩
       obtain ⟨rfl, rfl⟩ := two_eq (hr7.trans hs2)
       refine ls (op (p_move rfl) rfl) ?_
       refine ls (op (p_ext rfl (by repeat (first | exact At.z | apply At.s))) rfl) ?_
       refine ls (op (p_ext rfl (by repeat (first | exact At.z | apply At.s))) rfl) ?_
       refine ls (op (p_asg rfl) rfl) ?_
       refine ls (op (p_asg rfl) rfl) ?_
       refine ln ?_
       refine nthen ?_
       refine cs ?_
       refine cr ?_
       refine ls (o_call (is := []) Tryd.call6 (c_alive15) rfl rfl (by repeat (first | exact Sub.d | (refine Sub.s ?_ ?_; (repeat (first | exact In.z | apply In.s))) | (refine Sub.suf ?_; (repeat (first | exact Suf.z | apply Suf.s))))) rfl) ?_
       refine le ?_; intro x98
       refine ls (op (p_move rfl) rfl) ?_
       refine lwant rfl rfl rfl rfl (op (p_move rfl) rfl) ?_
       refine lwant rfl rfl rfl rfl (op (p_move rfl) rfl) ?_
       refine lwant rfl rfl rfl rfl (op (p_icmp rfl rfl rfl) rfl) ?_
       refine fixL (congrArg Value.bool (decide_eq_true rfl)) ?_
       refine ls (op (p_pickt rfl rfl) rfl) ?_
       refine ls (op (p_move rfl) rfl) ?_
       refine lwant rfl rfl rfl rfl (op (p_move rfl) rfl) ?_
       refine lwant rfl rfl rfl rfl (op (p_move rfl) rfl) ?_
       refine lwant rfl rfl rfl rfl (o_call (is := []) Tryd.call10 (c_seqSame l7 l7 A7 A4 c7 c4 hk4.1 hk4.2) rfl rfl (by repeat (first | exact Sub.d | (refine Sub.s ?_ ?_; (repeat (first | exact In.z | apply In.s))) | (refine Sub.suf ?_; (repeat (first | exact Suf.z | apply Suf.s))))) rfl) ?_
       refine le ?_; intro x107
       refine fixL (congrArg Value.bool (decide_eq_true rfl)) ?_
       refine ls (op (p_pickt rfl rfl) rfl) ?_
       refine ls (op (p_asg rfl) rfl) ?_
       refine ln ?_
       refine nthen ?_
       refine cret ?_
       refine xret (fun _ _ h => h) ?_
       refine rret (is := []) () (Or.inl rfl) (Res.t rfl Res.d) (rfl) rfl (by repeat (first | exact Sub.d | (refine Sub.s ?_ ?_; (repeat (first | exact In.z | apply In.s))) | (refine Sub.suf ?_; (repeat (first | exact Suf.z | apply Suf.s)))))

set_option maxRecDepth 100000 in
theorem c_PastEmpty (rows : List (List Prim)) (A : Option Addr) (c : Nat) (hn : rows.length ≤ 1048576)(hR : ∀ l ∈ rows, l.length ≤ 2000000 ∧ ∀ x ∈ l, x.fit) (hM : (rows.map many).sum ≤ 1048576) (l : List Prim) (B : Option Addr) (c' : Nat) (hl : l.length ≤ 1048576) (hfl : ∀ x ∈ l, x.fit) (hML : many l ≤ 1048576) (y : Int) : Con Tryd.prog 4 [.slice A rows.length c, .slice B l.length c', .int .i64 y] [] [slA A rows, slA B l] Unit (fun _ => .bool true) (fun _ => []) (fun _ => []) := by
 refine con Tryd.func4 rfl Tryd.ntmps4 rfl ?_
 intro M0 F0 w0
 refine cs ?_
 refine cr ?_
 refine ls (op (p_asg rfl) rfl) ?_
 refine ln ?_
 refine nthen ?_
 refine cs ?_
 refine cs ?_
 refine cr ?_
 refine ls (op (p_move rfl) rfl) ?_
 refine ls (op (p_move rfl) rfl) ?_
 refine ls (o_call (is := []) Tryd.call5 (c_few15 rows A c l B c' (by omega) (by omega) (fun l hl => (hR l hl).1) (by omega) (by have h : (rows.map List.length).sum ≤ (rows.map many).sum := lens_le rows; omega)) rfl rfl (by repeat (first | exact Sub.d | (refine Sub.s ?_ ?_; (repeat (first | exact In.z | apply In.s))) | (refine Sub.suf ?_; (repeat (first | exact Suf.z | apply Suf.s))))) rfl) ?_
 refine le ?_; intro x18
 refine ls (op (p_not rfl) rfl) ?_
 refine ls (op (p_move rfl) rfl) ?_
 refine orX 3 20 23 rfl (subσ.cons (t := 0) rfl (subσ.cons (t := 1) rfl (subσ.cons (t := 2) rfl (subσ.cons (t := 6) rfl (subσ.nil _))))) ?_ ?_
 ·
  intro h20
  refine lskip rfl rfl rfl rfl rfl ?_
  refine lskip rfl rfl rfl rfl rfl ?_
  refine ls (op (p_pickt rfl rfl) rfl) ?_
  refine ln (nmid (wk0 (by repeat (first | exact subσ.nil _ | refine subσ.cons rfl ?_)) (by repeat (first | exact Sub.d | (refine Sub.s ?_ ?_; (repeat (first | exact In.z | apply In.s))) | (refine Sub.suf ?_; (repeat (first | exact Suf.z | apply Suf.s)))))))
 apply exI
 ·
  intro h20
  refine lwant rfl rfl rfl rfl (op (p_move rfl) rfl) ?_
  refine lwant rfl rfl rfl rfl (op (p_icmp rfl rfl rfl) rfl) ?_
  refine ls (op (p_pickf rfl rfl) rfl) ?_
  refine ln (nmid (wk0 (by repeat (first | exact subσ.nil _ | refine subσ.cons rfl ?_)) (by repeat (first | exact Sub.d | (refine Sub.s ?_ ?_; (repeat (first | exact In.z | apply In.s))) | (refine Sub.suf ?_; (repeat (first | exact Suf.z | apply Suf.s)))))))
 ·
  refine ls (op (p_move rfl) rfl) ?_
  refine orX 3 24 27 rfl (subσ.cons (t := 0) rfl (subσ.cons (t := 1) rfl (subσ.cons (t := 2) rfl (subσ.cons (t := 6) rfl (subσ.nil _))))) ?_ ?_
  ·
   intro h24
   refine lskip rfl rfl rfl rfl rfl ?_
   refine lskip rfl rfl rfl rfl rfl ?_
   refine ls (op (p_pickt rfl rfl) rfl) ?_
   refine ln (nmid (wk0 (by repeat (first | exact subσ.nil _ | refine subσ.cons rfl ?_)) (by repeat (first | exact Sub.d | (refine Sub.s ?_ ?_; (repeat (first | exact In.z | apply In.s))) | (refine Sub.suf ?_; (repeat (first | exact Suf.z | apply Suf.s)))))))
  apply exI
  ·
   intro h24
   refine lwant rfl rfl rfl rfl (op (p_move rfl) rfl) ?_
   refine lwant rfl rfl rfl rfl (op (p_icmp rfl rfl rfl) rfl) ?_
   refine ls (op (p_pickf rfl rfl) rfl) ?_
   refine ln (nmid (wk0 (by repeat (first | exact subσ.nil _ | refine subσ.cons rfl ?_)) (by repeat (first | exact Sub.d | (refine Sub.s ?_ ?_; (repeat (first | exact In.z | apply In.s))) | (refine Sub.suf ?_; (repeat (first | exact Suf.z | apply Suf.s)))))))
  ·
   refine ls (op (p_move rfl) rfl) ?_
   refine orX 4 28 32 rfl (subσ.cons (t := 0) rfl (subσ.cons (t := 1) rfl (subσ.cons (t := 2) rfl (subσ.cons (t := 6) rfl (subσ.nil _))))) ?_ ?_
   ·
    intro h28
    refine lskip rfl rfl rfl rfl rfl ?_
    refine lskip rfl rfl rfl rfl rfl ?_
    refine lskip rfl rfl rfl rfl rfl ?_
    refine ls (op (p_pickt rfl rfl) rfl) ?_
    refine ln (nmid (wk0 (by repeat (first | exact subσ.nil _ | refine subσ.cons rfl ?_)) (by repeat (first | exact Sub.d | (refine Sub.s ?_ ?_; (repeat (first | exact In.z | apply In.s))) | (refine Sub.suf ?_; (repeat (first | exact Suf.z | apply Suf.s)))))))
   apply exI
   ·
    intro h28
    refine lwant rfl rfl rfl rfl (op (p_move rfl) rfl) ?_
    refine lwant rfl rfl rfl rfl (op (p_lenl rfl Tryd.underlying22) rfl) ?_
    refine lwant rfl rfl rfl rfl (op (p_icmp rfl rfl rfl) rfl) ?_
    refine ls (op (p_pickf rfl rfl) rfl) ?_
    refine ln (nmid (wk0 (by repeat (first | exact subσ.nil _ | refine subσ.cons rfl ?_)) (by repeat (first | exact Sub.d | (refine Sub.s ?_ ?_; (repeat (first | exact In.z | apply In.s))) | (refine Sub.suf ?_; (repeat (first | exact Suf.z | apply Suf.s)))))))
   ·
    refine ln ?_
    refine nthen ?_
    refine cc rfl ?_ ?_
    ·
     intro h32
     skip
     refine cs ?_
     refine cr ?_
     refine ls (o_call (is := []) Tryd.call6 (c_alive15) rfl rfl (by repeat (first | exact Sub.d | (refine Sub.s ?_ ?_; (repeat (first | exact In.z | apply In.s))) | (refine Sub.suf ?_; (repeat (first | exact Suf.z | apply Suf.s))))) rfl) ?_
     refine le ?_; intro x33
     refine ls (op (p_asg rfl) rfl) ?_
     refine ln ?_
     refine nthen ?_
     refine cret ?_
     refine xret (fun _ _ h => h) ?_
     refine rret (is := []) () (Or.inl rfl) (Res.t rfl Res.d) (rfl) rfl (by repeat (first | exact Sub.d | (refine Sub.s ?_ ?_; (repeat (first | exact In.z | apply In.s))) | (refine Sub.suf ?_; (repeat (first | exact Suf.z | apply Suf.s)))))
    ·
     intro h32
     have hc1 : ((fewT rows l = true ∧ 0 ≤ y) ∧ y ≤ 30) ∧ rows.length ≤ 20 := by have := h32; simp at this; exact ⟨this.1, by have h2 := this.2; omega⟩
     obtain ⟨⟨⟨hc2, hy0⟩, hy30⟩, h20⟩ := hc1
     obtain ⟨n, rfl⟩ : ∃ n : Nat, y = (n : Int) := ⟨y.toNat, by omega⟩
     have hn30 : n ≤ 30 := by omega
     refine cskip ?_
     refine nthen ?_
     refine cs ?_
     refine cr ?_
     refine ls (op (p_move rfl) rfl) ?_
     refine ls (o_call (is := []) Tryd.call7 (c_made15 0 0 rfl rows A c (by omega) (by omega) hR) rfl rfl (by repeat (first | exact Sub.d | (refine Sub.s ?_ ?_; (repeat (first | exact In.z | apply In.s))) | (refine Sub.suf ?_; (repeat (first | exact Suf.z | apply Suf.s))))) rfl) ?_
     refine le ?_; rintro ⟨⟨b1, r1, ⟨A1, c1⟩⟩, hI1, hc1, h01⟩
     dsimp only at hI1 hc1 h01
     refine ls (op (p_move rfl) rfl) ?_
     refine ls (op (p_ext rfl (by repeat (first | exact At.z | apply At.s))) rfl) ?_
     refine ls (op (p_ext rfl (by repeat (first | exact At.z | apply At.s))) rfl) ?_
     refine ls (o_alloc Tryd.zeroValue30 rfl rfl) ?_
     refine le ?_; intro b8
     refine ls (op (p_asg rfl) rfl) ?_
     refine ls (o_st rfl Tryd.sizeOf30 rfl rfl rfl rfl rfl (by repeat (first | exact At.z | apply At.s)) (by repeat (first | exact Put.d | apply Put.t | apply Put.s)) (by repeat (first | exact SetAt.z | apply SetAt.s))) ?_
     refine ln ?_
     refine nthen ?_
     refine cs ?_
     refine cr ?_
     refine ls (op (p_move rfl) rfl) ?_
     refine ls (o_call (is := []) Tryd.call7 (c_made15 0 0 rfl rows A c (by omega) (by omega) hR) rfl rfl (by repeat (first | exact Sub.d | (refine Sub.s ?_ ?_; (repeat (first | exact In.z | apply In.s))) | (refine Sub.suf ?_; (repeat (first | exact Suf.z | apply Suf.s))))) rfl) ?_
     refine le ?_; rintro ⟨⟨b2, r2, ⟨A2, c2⟩⟩, hI2, hc2, h02⟩
     dsimp only at hI2 hc2 h02
     refine ls (op (p_move rfl) rfl) ?_
     refine ls (op (p_ext rfl (by repeat (first | exact At.z | apply At.s))) rfl) ?_
     refine ls (op (p_ext rfl (by repeat (first | exact At.z | apply At.s))) rfl) ?_
     refine ls (o_alloc Tryd.zeroValue30 rfl rfl) ?_
     refine le ?_; intro b10
     refine ls (op (p_asg rfl) rfl) ?_
     refine ls (o_st rfl Tryd.sizeOf30 rfl rfl rfl rfl rfl (by repeat (first | exact At.z | apply At.s)) (by repeat (first | exact Put.d | apply Put.t | apply Put.s)) (by repeat (first | exact SetAt.z | apply SetAt.s))) ?_
     refine ln ?_
     refine nthen ?_
     refine cs ?_
     refine cs ?_
     refine cr ?_
     refine ls (op (p_move rfl) rfl) ?_
     refine ls (op (p_ptrnil Tryd.underlying28 rfl rfl) rfl) ?_
     refine ls (op (p_move rfl) rfl) ?_
     refine lwant rfl rfl rfl rfl (op (p_move rfl) rfl) ?_
     refine lwant rfl rfl rfl rfl (op (p_ptrnil Tryd.underlying28 rfl rfl) rfl) ?_
     refine ls (op (p_pickf rfl rfl) rfl) ?_
     refine ln ?_
     refine nthen ?_
     refine cc rfl (fun h => by cases h) (fun h => ?_)
     refine cskip ?_
     refine nthen ?_
     refine cs ?_
     refine cs ?_
     refine cr ?_
     refine ls (op (p_move rfl) rfl) ?_
     refine ls (op (p_move rfl) rfl) ?_
     refine ln ?_
     refine nthen ?_
     refine cb ?_
     refine cl (ι := {x : Nat × Ring // x.1 ≤ n ∧ RI 0 (rows ++ List.replicate x.1 []) x.2}) (fun i => St M0 F0 w0 98 [(0, .slice A rows.length c), (1, .slice B l.length c'), (2, .int .i64 (n : Int)), (7, .pointer (some ⟨b1, 0, none⟩)), (9, .pointer (some ⟨b2, 0, none⟩)), (50, .int .i64 (n : Int)), (51, .int .i64 (i.1.1 : Int))] [box b1 64 r1.cells, box b2 64 (i.1.2).cells] [ringA r1.rg, ringA (i.1.2).rg, slA B l]) (fun i => n - i.1.1) ⟨(0, r2), Nat.zero_le _, by rw [List.replicate_zero, List.append_nil]; exact hI2⟩ (wk (is := [3, 1]) (by repeat (first | exact subσ.nil _ | refine subσ.cons rfl ?_)) rfl (by repeat (first | exact Sub.d | (refine Sub.s ?_ ?_; (repeat (first | exact In.z | apply In.s))) | (refine Sub.suf ?_; (repeat (first | exact Suf.z | apply Suf.s)))))) ?_
     rintro ⟨⟨j, r⟩, hj, hI⟩
     refine cmono (S' := St M0 F0 w0 98 [(0, .slice A rows.length c), (1, .slice B l.length c'), (2, .int .i64 (n : Int)), (7, .pointer (some ⟨b1, 0, none⟩)), (9, .pointer (some ⟨b2, 0, none⟩)), (50, .int .i64 (n : Int)), (51, .int .i64 (j : Int))] [box b1 64 r1.cells, box b2 64 (r).cells] [ringA r1.rg, ringA (r).rg, slA B l]) (fun _ _ h => h) ?_
     refine cs ?_
     refine cr ?_
     refine ls (op (p_icmp rfl rfl rfl) rfl) ?_
     refine ln ?_
     refine nthen ?_
     refine cs ?_
     refine cc rfl ?_ ?_
     ·
      intro h52
      dsimp only at hj hI
      try simp only [decide_eq_true_eq, decide_eq_false_iff_not, Bool.not_eq_true', Bool.not_eq_false', Int.not_lt, Int.not_le, ge_iff_le, Bool.not_true, Bool.not_false] at h52
      have hj1 : j < n := by omega
      refine cskip ?_
      refine nthen ?_
      refine cs ?_
      refine cb ?_
      refine cmono (fun a w h => nilSl (α := Prim) h) ?_
      refine cr ?_
      refine ls (op (p_move rfl) rfl) ?_
      refine ls (o_call (is := [1]) Tryd.call11 (c_pAdd b2 0 (rows ++ List.replicate j []) r hI (by simp; omega) [] none 0 (by decide) (by simp)) rfl rfl (by repeat (first | exact Sub.d | (refine Sub.s ?_ ?_; (repeat (first | exact In.z | apply In.s))) | (refine Sub.suf ?_; (repeat (first | exact Suf.z | apply Suf.s))))) rfl) ?_
      refine le ?_; rintro ⟨A5, c5⟩
      have hI3 := hI.add (l := []) (A := A5) (c := c5) (by decide) (by simp)
      rw [List.append_assoc, ← List.replicate_succ'] at hI3
      refine ln ?_
      refine nblock ?_
      refine nthen ?_
      refine cr ?_
      refine ls (op (p_add rfl rfl (by omega)) rfl) ?_
      refine ls (op (p_move rfl) rfl) ?_
      refine ln ?_
      refine nnext ⟨(j + 1, r.add ((0 + (rows ++ List.replicate j []).length + 1) % 64) ([], A5, c5)), hj1, hI3⟩ (by dsimp only; omega) (wk (is := [1, 0]) (by repeat (first | exact subσ.nil _ | refine subσ.cons rfl ?_)) rfl (by repeat (first | exact Sub.d | (refine Sub.s ?_ ?_; (repeat (first | exact In.z | apply In.s))) | (refine Sub.suf ?_; (repeat (first | exact Suf.z | apply Suf.s))))))
     ·
      intro h52
      dsimp only at hj hI
      try simp only [decide_eq_true_eq, decide_eq_false_iff_not, Bool.not_eq_true', Bool.not_eq_false', Int.not_lt, Int.not_le, ge_iff_le, Bool.not_true, Bool.not_false] at h52
      obtain rfl : j = n := by omega
      refine cexit ?_
      refine xthen ?_
      refine xthen ?_
      refine xblock ?_
      refine nthen ?_
      refine cs ?_
      refine cs ?_
      have hRn : ∀ l ∈ rows ++ List.replicate j [], l.length ≤ 2000000 ∧ ∀ x ∈ l, x.fit := by intro l hl; rcases List.mem_append.1 hl with h | h; exact hR l h; rw [List.eq_of_mem_replicate h]; simp
      refine cr ?_
      refine ls (op (p_move rfl) rfl) ?_
      refine ls (op (p_lenl rfl Tryd.underlying22) rfl) ?_
      refine ls (op (p_add rfl rfl (by omega)) rfl) ?_
      refine ls (op (p_move rfl) rfl) ?_
      refine ln ?_
      refine nthen ?_
      refine cb ?_
      refine cl (ι := {k : Nat // k ≤ rows.length + 1}) (fun i => St M0 F0 w0 98 [(1, .slice B l.length c'), (2, .int .i64 (j : Int)), (7, .pointer (some ⟨b1, 0, none⟩)), (9, .pointer (some ⟨b2, 0, none⟩)), (58, .int .i64 ((rows.length : Int) + 1)), (59, .int .i64 (i.1 : Int))] [box b1 64 r1.cells, box b2 64 r.cells] [ringA r1.rg, ringA r.rg, slA B l]) (fun i => rows.length + 1 - i.1) ⟨0, Nat.zero_le _⟩ (wk (is := [0, 0]) (by repeat (first | exact subσ.nil _ | refine subσ.cons rfl ?_)) rfl (by repeat (first | exact Sub.d | (refine Sub.s ?_ ?_; (repeat (first | exact In.z | apply In.s))) | (refine Sub.suf ?_; (repeat (first | exact Suf.z | apply Suf.s)))))) ?_
      rintro ⟨k, hk⟩
      refine cmono (S' := St M0 F0 w0 98 [(1, .slice B l.length c'), (2, .int .i64 (j : Int)), (7, .pointer (some ⟨b1, 0, none⟩)), (9, .pointer (some ⟨b2, 0, none⟩)), (58, .int .i64 ((rows.length : Int) + 1)), (59, .int .i64 (k : Int))] [box b1 64 r1.cells, box b2 64 r.cells] [ringA r1.rg, ringA r.rg, slA B l]) (fun _ _ h => h) ?_
      refine cs ?_
      refine cr ?_
      refine ls (op (p_icmp rfl rfl rfl) rfl) ?_
      refine ln ?_
      refine nthen ?_
      refine cs ?_
      refine cc rfl ?_ ?_
      ·
       intro h60
       try simp only [decide_eq_true_eq, decide_eq_false_iff_not, Bool.not_eq_true', Bool.not_eq_false', Int.not_lt, Int.not_le, ge_iff_le, Bool.not_true, Bool.not_false] at h60
       have hk1 : k ≤ rows.length := by omega
       refine cskip ?_
       refine nthen ?_
       refine cs ?_
       refine cb ?_
       refine cs ?_
       refine cr ?_
       refine ls (op (p_move rfl) rfl) ?_
       refine ls (op (p_asg rfl) rfl) ?_
       refine ln ?_
       refine nthen ?_
       refine cs ?_
       refine cr ?_
       refine ls (op (p_move rfl) rfl) ?_
       refine ls (op (p_move rfl) rfl) ?_
       refine ls (o_call (is := []) Tryd.call9 (c_lNew l B c' (by omega)) rfl rfl (by repeat (first | exact Sub.d | (refine Sub.s ?_ ?_; (repeat (first | exact In.z | apply In.s))) | (refine Sub.suf ?_; (repeat (first | exact Suf.z | apply Suf.s))))) rfl) ?_
       refine le ?_; rintro ⟨A6, c6⟩
       refine ls (op (p_move rfl) rfl) ?_
       refine ls (o_call (is := [0]) Tryd.call8 (c_pRebase b1 0 rows r1 hI1 (by omega) hR (k : Int) l A6 c6 (by omega) hfl) rfl rfl (by repeat (first | exact Sub.d | (refine Sub.s ?_ ?_; (repeat (first | exact In.z | apply In.s))) | (refine Sub.suf ?_; (repeat (first | exact Suf.z | apply Suf.s))))) rfl) ?_
       refine le ?_; rintro ⟨⟨⟨l3, e3⟩, ⟨A3, c3⟩⟩, hr3⟩
       refine ls (op (p_move rfl) rfl) ?_
       refine ls (op (p_ext rfl (by repeat (first | exact At.z | apply At.s))) rfl) ?_
       refine ls (op (p_ext rfl (by repeat (first | exact At.z | apply At.s))) rfl) ?_
       refine ls (op (p_asg rfl) rfl) ?_
       refine ls (op (p_asg rfl) rfl) ?_
       refine ln ?_
       refine nthen ?_
       refine cs ?_
       refine cr ?_
       refine ls (op (p_move rfl) rfl) ?_
       refine ls (op (p_move rfl) rfl) ?_
       refine ls (o_call (is := []) Tryd.call9 (c_lNew l B c' (by omega)) rfl rfl (by repeat (first | exact Sub.d | (refine Sub.s ?_ ?_; (repeat (first | exact In.z | apply In.s))) | (refine Sub.suf ?_; (repeat (first | exact Suf.z | apply Suf.s))))) rfl) ?_
       refine le ?_; rintro ⟨A7, c7⟩
       refine ls (op (p_move rfl) rfl) ?_
       refine ls (o_call (is := [1]) Tryd.call8 (c_pRebase b2 0 (rows ++ List.replicate j []) r hI (by simp; omega) hRn (k : Int) l A7 c7 (by omega) hfl) rfl rfl (by repeat (first | exact Sub.d | (refine Sub.s ?_ ?_; (repeat (first | exact In.z | apply In.s))) | (refine Sub.suf ?_; (repeat (first | exact Suf.z | apply Suf.s))))) rfl) ?_
       refine le ?_; rintro ⟨⟨⟨l4, e4⟩, ⟨A4, c4⟩⟩, hr4⟩
       obtain ⟨rfl, rfl⟩ := two_eq ((hr4.trans (empties (by omega) hk1)).trans hr3.symm)
       have hk4 := prebT_ok2 hr3 hR (by omega) hfl
       refine ls (op (p_move rfl) rfl) ?_
       refine ls (op (p_ext rfl (by repeat (first | exact At.z | apply At.s))) rfl) ?_
       refine ls (op (p_ext rfl (by repeat (first | exact At.z | apply At.s))) rfl) ?_
       refine ls (op (p_asg rfl) rfl) ?_
       refine ls (op (p_asg rfl) rfl) ?_
       refine ln ?_
       refine nthen ?_
       refine cs ?_
       refine cr ?_
       refine ls (op (p_move rfl) rfl) ?_
       refine ls (op (p_move rfl) rfl) ?_
       refine ls (op (p_icmp rfl rfl rfl) rfl) ?_
       refine fixL (congrArg Value.bool (show (!decide (_ = _)) = false by simp)) ?_
       refine ls (op (p_move rfl) rfl) ?_
       refine lwant rfl rfl rfl rfl (op (p_move rfl) rfl) ?_
       refine lwant rfl rfl rfl rfl (op (p_move rfl) rfl) ?_
       refine lwant rfl rfl rfl rfl (o_call (is := []) Tryd.call10 (c_seqSame l4 l4 A3 A4 c3 c4 hk4.1 hk4.2) rfl rfl (by repeat (first | exact Sub.d | (refine Sub.s ?_ ?_; (repeat (first | exact In.z | apply In.s))) | (refine Sub.suf ?_; (repeat (first | exact Suf.z | apply Suf.s))))) rfl) ?_
       refine le ?_; intro x84
       refine fixL (congrArg Value.bool (decide_eq_true rfl)) ?_
       refine lwant rfl rfl rfl rfl (op (p_not rfl) rfl) ?_
       refine ls (op (p_pickf rfl rfl) rfl) ?_
       refine ln ?_
       refine nthen ?_
       refine cc rfl (fun h => by cases h) (fun h => ?_)
       refine cskip ?_
       refine nblock ?_
       refine nthen ?_
       refine cr ?_
       refine ls (op (p_add rfl rfl (by omega)) rfl) ?_
       refine ls (op (p_move rfl) rfl) ?_
       refine ln ?_
       refine nnext ⟨k + 1, by omega⟩ (by dsimp only; omega) (wk (is := [1, 0]) (by repeat (first | exact subσ.nil _ | refine subσ.cons rfl ?_)) rfl (by repeat (first | exact Sub.d | (refine Sub.s ?_ ?_; (repeat (first | exact In.z | apply In.s))) | (refine Sub.suf ?_; (repeat (first | exact Suf.z | apply Suf.s))))))
      ·
       intro h60
       try simp only [decide_eq_true_eq, decide_eq_false_iff_not, Bool.not_eq_true', Bool.not_eq_false', Int.not_lt, Int.not_le, ge_iff_le, Bool.not_true, Bool.not_false] at h60
       refine cexit ?_
       refine xthen ?_
       refine xthen ?_
       refine xblock ?_
       refine nthen ?_
       refine cs ?_
       refine cr ?_
       refine ls (o_call (is := []) Tryd.call6 (c_alive15) rfl rfl (by repeat (first | exact Sub.d | (refine Sub.s ?_ ?_; (repeat (first | exact In.z | apply In.s))) | (refine Sub.suf ?_; (repeat (first | exact Suf.z | apply Suf.s))))) rfl) ?_
       refine le ?_; intro x88
       refine ls (op (p_move rfl) rfl) ?_
       refine lwant rfl rfl rfl rfl (op (p_move rfl) rfl) ?_
       refine lwant rfl rfl rfl rfl (o_call (is := [1]) Tryd.call12 (c_pVersion b2 r) rfl rfl (by repeat (first | exact Sub.d | (refine Sub.s ?_ ?_; (repeat (first | exact In.z | apply In.s))) | (refine Sub.suf ?_; (repeat (first | exact Suf.z | apply Suf.s))))) rfl) ?_
       refine le ?_; intro x91
       refine lwant rfl rfl rfl rfl (op (p_move rfl) rfl) ?_
       refine lwant rfl rfl rfl rfl (o_call (is := [1]) Tryd.call12 (c_pVersion b1 r1) rfl rfl (by repeat (first | exact Sub.d | (refine Sub.s ?_ ?_; (repeat (first | exact In.z | apply In.s))) | (refine Sub.suf ?_; (repeat (first | exact Suf.z | apply Suf.s))))) rfl) ?_
       refine le ?_; intro x93
       refine lwant rfl rfl rfl rfl (op (p_move rfl) rfl) ?_
       refine lwant rfl rfl rfl rfl (op (p_add rfl rfl (by have := hI1.ver; omega)) rfl) ?_
       refine lwant rfl rfl rfl rfl (op (p_icmp rfl rfl rfl) rfl) ?_
       refine fixL (congrArg Value.bool (decide_eq_true (show r.ver = r1.ver + (j : Int) by rw [hI.ver, hI1.ver]; simp))) ?_
       refine ls (op (p_pickt rfl rfl) rfl) ?_
       refine ls (op (p_asg rfl) rfl) ?_
       refine ln ?_
       refine nthen ?_
       refine cret ?_
       refine xret (fun _ _ h => h) ?_
       refine rret (is := []) () (Or.inl rfl) (Res.t rfl Res.d) (rfl) rfl (by repeat (first | exact Sub.d | (refine Sub.s ?_ ?_; (repeat (first | exact In.z | apply In.s))) | (refine Sub.suf ?_; (repeat (first | exact Suf.z | apply Suf.s)))))

end Go.Proofs.YtonmgdamojingaaDoor.X
