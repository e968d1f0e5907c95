/- OWN WORK: a part of the proof of a law of the seat YtogcgfdfabnjhaaGreatDoor: the walk through functions of the program. -/
import Derived.Test.YtogcgfdfabnjhaaGreatDoorProg
import Derived.Test.YtogcgfdfabnjhaaGreatDoorXB3
import Derived.Test.YtogcgfdfabnjhaaGreatDoorXA2
import Derived.Test.YtogcgfdfabnjhaaGreatDoorXSx2
set_option linter.unusedVariables false
set_option linter.unusedSimpArgs false
namespace Go.Proofs.YtogcgfdfabnjhaaGreatDoor.X
open Go Go.RowKit Go.Proofs Go.Sx
attribute [local irreducible] slA isA box row

theorem bne_same (b : Bool) : (!(b == b)) = false := by cases b <;> rfl
theorem needs_ne {p q a b : Patch} {c : Bool} (h : (a, b, c) = pswap p q) : ((!(pswap p q).2.2) == c) = false := by rw [← h]; cases c <;> rfl
theorem group_GI {l : List Patch} (hl : ∀ x ∈ l, x.fit) : GI l l.length (group l).1 (group l).2 := by
 have key : ∀ (n k : Nat) (g r : List Patch), l.length - k = n → k ≤ l.length → GI l k g r → GI l l.length (group l).1 (group l).2 := by
  intro n
  induction n with
  | zero =>
   intro k g r hn hk hI
   have hkl : k = l.length := by omega
   rw [hI.done (by omega), ← hkl]
   exact hI
  | succ n ih =>
   intro k g r hn hk hI
   have hk1 : k < l.length := by omega
   cases hp : ppast g l[k] with
   | mk q t =>
    obtain ⟨rest, b⟩ := t
    by_cases h0 : k = 0
    ·
     exact ih (k + 1) _ _ (by omega) hk1 (hI.no (rest := []) (q := Patch.zero) hk1 hl (.inl h0))
    ·
     cases b with
     | true => exact ih (k + 1) _ _ (by omega) hk1 (hI.yes hk1 h0 hl hp.symm)
     | false => exact ih (k + 1) _ _ (by omega) hk1 (hI.no hk1 hl (.inr hp.symm))
 exact key _ 0 [] [] rfl (Nat.zero_le _) (GI.start l)

theorem ppast_fit {l rest : List Patch} {q0 q : Patch} {b : Bool} (h : (q, rest, b) = ppast l q0) (hl : ∀ x ∈ l, x.fit) (hq : q0.fit) : q.fit ∧ (∀ x ∈ rest, x.fit) ∧ rest.length ≤ l.length := by
 cases b with
 | true => obtain ⟨h1, h2, h3⟩ := ppast_ok h hl hq; exact ⟨h2, h3, by omega⟩
 | false =>
  unfold ppast at h
  split at h
  ·
   simp at h
  ·
   simp only [Prod.mk.injEq, and_true] at h
   obtain ⟨rfl, rfl⟩ := h
   exact ⟨pzero_fit, (fun x hx => by cases hx), Nat.zero_le _⟩
theorem full_eq {A : Option Addr} {b o n sz : Nat} (h : A = some ⟨b, o, none⟩) (hn : ¬ n = 0) : (Value.slice (if n = 0 then A else A.map (·.add (0 * sz))) (n - 0) (n - 0)) = .slice (some ⟨b, o, none⟩) n n := by
 subst h
 rw [if_neg hn]
 simp [Addr.add_lit]


set_option maxRecDepth 100000 in
theorem c_NamedRight (p q : Patch) (yp yq : Rp.Lay Patch) (hp : p.fit) (hq : q.fit) (hM : pmany [p, q] ≤ 1000000000000) : Con Tryz.prog 3 [sv p yp, sv q yq] [] [slA yp.1.1 p.deps, slA yp.2.1 p.l, slA yq.1.1 q.deps, slA yq.2.1 q.l] Unit (fun _ => .bool (true)) (fun _ => []) (fun _ => []) := by
 refine con Tryz.func3 rfl Tryz.ntmps3 rfl ?_
 intro M0 F0 w0
 refine cs ?_
 refine cr ?_
 refine ls (o_box rfl rfl rfl) ?_
 refine le ?_; intro b2
 refine ls (o_box rfl rfl rfl) ?_
 refine le ?_; intro b3
 refine ls (op (p_asg rfl) rfl) ?_
 refine ln ?_
 refine nthen ?_
 refine cs ?_
 refine cs ?_
 refine cr ?_
 refine ls (o_ldw Tryz.isAgg25 Tryz.sizeOf25 rfl (by repeat (first | exact At.z | apply At.s)) (by rfl) rfl) ?_
 refine ls (o_ldw Tryz.isAgg25 Tryz.sizeOf25 rfl (by repeat (first | exact At.z | apply At.s)) (by rfl) rfl) ?_
 refine ls (o_bsl [p, q] Tryz.underlying42 Tryz.sizeOf25 Tryz.zeroValue25 rfl (Enum.t (Enum.t Enum.d)) (RV.t yp rfl (by repeat (first | exact Sub.d | (refine Sub.s ?_ ?_; (repeat (first | exact In.z | apply In.s))) | (refine Sub.suf ?_; (repeat (first | exact Suf.z | apply Suf.s))))) (RV.t yq rfl (by repeat (first | exact Sub.d | (refine Sub.s ?_ ?_; (repeat (first | exact In.z | apply In.s))) | (refine Sub.suf ?_; (repeat (first | exact Suf.z | apply Suf.s))))) RV.d)) rfl (by decide) (by decide) rfl) ?_
 refine le ?_; intro b7
 refine lmono (fun a w h => Go.Sx.freeze (i := 0) rfl h) ?_
 refine ls (o_call (is := []) Tryz.call9 (c_few7 [p, q] _ _ (by simp) (by intro x hx; simp at hx; rcases hx with rfl | rfl; exact hp; exact hq) hM) rfl rfl (by repeat (first | exact Sub.d | (refine Sub.s ?_ ?_; (repeat (first | exact In.z | apply In.s))) | (refine Sub.suf ?_; (repeat (first | exact Suf.z | apply Suf.s))))) rfl) ?_
 refine le ?_; intro x8
 refine ls (op (p_not rfl) rfl) ?_
 refine ln ?_
 refine nthen ?_
 refine cc rfl ?_ ?_
 ·
  intro h9
  try simp only [decide_eq_true_eq, decide_eq_false_iff_not, Bool.not_eq_true', Bool.not_eq_false', Int.not_lt, Int.not_le, ge_iff_le, Bool.not_true, Bool.not_false] at h9
  refine cs ?_
  refine cr ?_
  refine ls (o_call (is := []) Tryz.call10 (c_alive7) rfl rfl (by repeat (first | exact Sub.d | (refine Sub.s ?_ ?_; (repeat (first | exact In.z | apply In.s))) | (refine Sub.suf ?_; (repeat (first | exact Suf.z | apply Suf.s))))) rfl) ?_
  refine le ?_; intro x10
  refine ls (op (p_asg rfl) rfl) ?_
  refine ln ?_
  refine nthen ?_
  refine cret ?_
  refine xret (fun _ _ h => h) ?_
  refine rret (is := []) () (Or.inl rfl) (Res.t rfl Res.d) (rfl) rfl (by repeat (first | exact Sub.d | (refine Sub.s ?_ ?_; (repeat (first | exact In.z | apply In.s))) | (refine Sub.suf ?_; (repeat (first | exact Suf.z | apply Suf.s)))))
 ·
  intro h9
  try simp only [decide_eq_true_eq, decide_eq_false_iff_not, Bool.not_eq_true', Bool.not_eq_false', Int.not_lt, Int.not_le, ge_iff_le, Bool.not_true, Bool.not_false] at h9
  refine cskip ?_
  refine nthen ?_
  refine cs ?_
  refine cdB [0, 3, 4, 6, 11, 13, 14, 17, 22, 24, 25, 26] [(2, b2, 0, _), (5, b2, 0, _), (10, b2, 0, _), (12, b3, 0, _), (15, b2, 0, _), (16, b3, 0, _), (21, b2, 0, _), (23, b2, 0, _)] TryzX.mixed (by kernel_rfl) (by kernel_rfl) (TOk.t (isBoxS (by repeat (first | exact At.z | apply At.s)) (k := 4) (by repeat (first | exact Cut.d | apply Cut.t | apply Cut.s))) (TOk.t (isBoxS (by repeat (first | exact At.z | apply At.s)) (k := 4) (by repeat (first | exact Cut.d | apply Cut.t | apply Cut.s))) (TOk.t (isBoxS (by repeat (first | exact At.z | apply At.s)) (k := 4) (by repeat (first | exact Cut.d | apply Cut.t | apply Cut.s))) (TOk.t (isBoxS (by repeat (first | exact At.z | apply At.s)) (k := 4) (by repeat (first | exact Cut.d | apply Cut.t | apply Cut.s))) (TOk.t (isBoxS (by repeat (first | exact At.z | apply At.s)) (k := 4) (by repeat (first | exact Cut.d | apply Cut.t | apply Cut.s))) (TOk.t (isBoxS (by repeat (first | exact At.z | apply At.s)) (k := 4) (by repeat (first | exact Cut.d | apply Cut.t | apply Cut.s))) (TOk.t (isBoxS (by repeat (first | exact At.z | apply At.s)) (k := 4) (by repeat (first | exact Cut.d | apply Cut.t | apply Cut.s))) (TOk.t (isBoxS (by repeat (first | exact At.z | apply At.s)) (k := 4) (by repeat (first | exact Cut.d | apply Cut.t | apply Cut.s))) TOk.d)))))))) ?_
  refine dfB 0 (by kernel_rfl) ?_
  refine doRB rfl (o_call (is := []) Tryz.call10 (c_alive7) rfl rfl (by repeat (first | exact Sub.d | (refine Sub.s ?_ ?_; (repeat (first | exact In.z | apply In.s))) | (refine Sub.suf ?_; (repeat (first | exact Suf.z | apply Suf.s))))) rfl) (TOk.t (isBoxE fun _ => isBoxS (by repeat (first | exact At.z | apply At.s)) (k := 4) (by repeat (first | exact Cut.d | apply Cut.t | apply Cut.s))) (TOk.t (isBoxE fun _ => isBoxS (by repeat (first | exact At.z | apply At.s)) (k := 4) (by repeat (first | exact Cut.d | apply Cut.t | apply Cut.s))) (TOk.t (isBoxE fun _ => isBoxS (by repeat (first | exact At.z | apply At.s)) (k := 4) (by repeat (first | exact Cut.d | apply Cut.t | apply Cut.s))) (TOk.t (isBoxE fun _ => isBoxS (by repeat (first | exact At.z | apply At.s)) (k := 4) (by repeat (first | exact Cut.d | apply Cut.t | apply Cut.s))) (TOk.t (isBoxE fun _ => isBoxS (by repeat (first | exact At.z | apply At.s)) (k := 4) (by repeat (first | exact Cut.d | apply Cut.t | apply Cut.s))) (TOk.t (isBoxE fun _ => isBoxS (by repeat (first | exact At.z | apply At.s)) (k := 4) (by repeat (first | exact Cut.d | apply Cut.t | apply Cut.s))) (TOk.t (isBoxE fun _ => isBoxS (by repeat (first | exact At.z | apply At.s)) (k := 4) (by repeat (first | exact Cut.d | apply Cut.t | apply Cut.s))) (TOk.t (isBoxE fun _ => isBoxS (by repeat (first | exact At.z | apply At.s)) (k := 4) (by repeat (first | exact Cut.d | apply Cut.t | apply Cut.s))) TOk.d)))))))) ?_
  refine eaB ?_; intro x11
  refine tkB 1 rfl (by kernel_rfl) (fun _ _ _ h => h) gnone (TTany _) (p_move rfl) rfl ?_
  refine tkB 2 rfl (by kernel_rfl) (fun _ _ _ h => h) (gyes rfl rfl rfl rfl) (TTat (List.Mem.head _)) (p_lda Tryz.isAgg25 Tryz.sizeOf25 rfl rfl) rfl ?_
  refine tkB 5 rfl (by kernel_rfl) (fun _ _ _ h => h) (gyes rfl rfl rfl rfl) (TTat (List.Mem.tail _ (List.Mem.head _))) (p_lda Tryz.isAgg25 Tryz.sizeOf25 rfl rfl) rfl ?_
  refine dfB 3 (by kernel_rfl) ?_
  refine doGB rfl rfl rfl rfl rfl (o_call (is := []) Tryz.call12 (c_New7 p yp hp) rfl rfl (by repeat (first | exact Sub.d | (refine Sub.s ?_ ?_; (repeat (first | exact In.z | apply In.s))) | (refine Sub.suf ?_; (repeat (first | exact Suf.z | apply Suf.s))))) rfl) (TOk.xP 3 [] (by kernel_rfl) (TOk.t (isBoxE fun _ => isBoxS (by repeat (first | exact At.z | apply At.s)) (k := 4) (by repeat (first | exact Cut.d | apply Cut.t | apply Cut.s))) (TOk.t (isBoxE fun _ => isBoxS (by repeat (first | exact At.z | apply At.s)) (k := 4) (by repeat (first | exact Cut.d | apply Cut.t | apply Cut.s))) (TOk.t (isBoxE fun _ => isBoxS (by repeat (first | exact At.z | apply At.s)) (k := 4) (by repeat (first | exact Cut.d | apply Cut.t | apply Cut.s))) (TOk.t (isBoxE fun _ => isBoxS (by repeat (first | exact At.z | apply At.s)) (k := 4) (by repeat (first | exact Cut.d | apply Cut.t | apply Cut.s))) (TOk.t (isBoxE fun _ => isBoxS (by repeat (first | exact At.z | apply At.s)) (k := 4) (by repeat (first | exact Cut.d | apply Cut.t | apply Cut.s))) (TOk.t (isBoxE fun _ => isBoxS (by repeat (first | exact At.z | apply At.s)) (k := 4) (by repeat (first | exact Cut.d | apply Cut.t | apply Cut.s))) (TOk.t (isBoxE fun _ => isBoxS (by repeat (first | exact At.z | apply At.s)) (k := 4) (by repeat (first | exact Cut.d | apply Cut.t | apply Cut.s))) TOk.d)))))))) ?_
  refine eaB ?_; intro y14
  refine dfB 4 (by kernel_rfl) ?_
  refine doGB rfl rfl rfl rfl rfl (o_call (is := []) Tryz.call11 (c_nRight p y14 hp) rfl rfl (by repeat (first | exact Sub.d | (refine Sub.s ?_ ?_; (repeat (first | exact In.z | apply In.s))) | (refine Sub.suf ?_; (repeat (first | exact Suf.z | apply Suf.s))))) rfl) (TOk.xP 3 [] (by kernel_rfl) (TOk.t (isBoxE fun _ => isBoxS (by repeat (first | exact At.z | apply At.s)) (k := 4) (by repeat (first | exact Cut.d | apply Cut.t | apply Cut.s))) (TOk.t (isBoxE fun _ => isBoxS (by repeat (first | exact At.z | apply At.s)) (k := 4) (by repeat (first | exact Cut.d | apply Cut.t | apply Cut.s))) (TOk.t (isBoxE fun _ => isBoxS (by repeat (first | exact At.z | apply At.s)) (k := 4) (by repeat (first | exact Cut.d | apply Cut.t | apply Cut.s))) (TOk.t (isBoxE fun _ => isBoxS (by repeat (first | exact At.z | apply At.s)) (k := 4) (by repeat (first | exact Cut.d | apply Cut.t | apply Cut.s))) (TOk.t (isBoxE fun _ => isBoxS (by repeat (first | exact At.z | apply At.s)) (k := 4) (by repeat (first | exact Cut.d | apply Cut.t | apply Cut.s))) (TOk.t (isBoxE fun _ => isBoxS (by repeat (first | exact At.z | apply At.s)) (k := 4) (by repeat (first | exact Cut.d | apply Cut.t | apply Cut.s))) (TOk.t (isBoxE fun _ => isBoxS (by repeat (first | exact At.z | apply At.s)) (k := 4) (by repeat (first | exact Cut.d | apply Cut.t | apply Cut.s))) TOk.d)))))))) ?_
  refine eaB ?_; intro x15
  refine dfB 6 (by kernel_rfl) ?_
  refine doGB rfl rfl rfl rfl rfl (o_call (is := []) Tryz.call13 (c_rRight p yp hp) rfl rfl (by repeat (first | exact Sub.d | (refine Sub.s ?_ ?_; (repeat (first | exact In.z | apply In.s))) | (refine Sub.suf ?_; (repeat (first | exact Suf.z | apply Suf.s))))) rfl) (TOk.xP 3 [] (by kernel_rfl) (TOk.xP 6 [] (by kernel_rfl) (TOk.t (isBoxE fun _ => isBoxS (by repeat (first | exact At.z | apply At.s)) (k := 4) (by repeat (first | exact Cut.d | apply Cut.t | apply Cut.s))) (TOk.t (isBoxE fun _ => isBoxS (by repeat (first | exact At.z | apply At.s)) (k := 4) (by repeat (first | exact Cut.d | apply Cut.t | apply Cut.s))) (TOk.t (isBoxE fun _ => isBoxS (by repeat (first | exact At.z | apply At.s)) (k := 4) (by repeat (first | exact Cut.d | apply Cut.t | apply Cut.s))) (TOk.t (isBoxE fun _ => isBoxS (by repeat (first | exact At.z | apply At.s)) (k := 4) (by repeat (first | exact Cut.d | apply Cut.t | apply Cut.s))) (TOk.t (isBoxE fun _ => isBoxS (by repeat (first | exact At.z | apply At.s)) (k := 4) (by repeat (first | exact Cut.d | apply Cut.t | apply Cut.s))) (TOk.t (isBoxE fun _ => isBoxS (by repeat (first | exact At.z | apply At.s)) (k := 4) (by repeat (first | exact Cut.d | apply Cut.t | apply Cut.s))) TOk.d)))))))) ?_
  refine eaB ?_; intro x17
  refine tkB 7 rfl (by kernel_rfl) (fun _ _ _ h => h) (gyes rfl rfl rfl rfl) (TTany _) (p_beq Tryz.underlying4 rfl rfl) rfl ?_
  refine fixB (congrArg Value.bool (beq_self_eq_true _)) ?_
  refine tkB 8 rfl (by kernel_rfl) (fun _ _ _ h => h) gnone (TTany _) (p_pickt rfl rfl) rfl ?_
  refine tkB 9 rfl (by kernel_rfl) (fun _ _ _ h => h) gnone (TTany _) (p_move rfl) rfl ?_
  refine tkB 10 rfl (by kernel_rfl) (fun _ _ _ h => h) (gyes rfl rfl rfl rfl) (TTat (List.Mem.tail _ (List.Mem.tail _ (List.Mem.head _)))) (p_lda Tryz.isAgg25 Tryz.sizeOf25 rfl rfl) rfl ?_
  refine tkB 12 rfl (by kernel_rfl) (fun _ _ _ h => h) (gyes rfl rfl rfl rfl) (TTat (List.Mem.tail _ (List.Mem.tail _ (List.Mem.tail _ (List.Mem.head _))))) (p_lda Tryz.isAgg25 Tryz.sizeOf25 rfl rfl) rfl ?_
  refine tkB 15 rfl (by kernel_rfl) (fun _ _ _ h => h) (gyes rfl rfl rfl rfl) (TTat (List.Mem.tail _ (List.Mem.tail _ (List.Mem.tail _ (List.Mem.tail _ (List.Mem.head _)))))) (p_lda Tryz.isAgg25 Tryz.sizeOf25 rfl rfl) rfl ?_
  refine tkB 16 rfl (by kernel_rfl) (fun _ _ _ h => h) (gyes rfl rfl rfl rfl) (TTat (List.Mem.tail _ (List.Mem.tail _ (List.Mem.tail _ (List.Mem.tail _ (List.Mem.tail _ (List.Mem.head _))))))) (p_lda Tryz.isAgg25 Tryz.sizeOf25 rfl rfl) rfl ?_
  refine dfB 11 (by kernel_rfl) ?_
  refine doGB rfl rfl rfl rfl rfl (o_call (is := []) Tryz.call12 (c_New7 p yp hp) rfl rfl (by repeat (first | exact Sub.d | (refine Sub.s ?_ ?_; (repeat (first | exact In.z | apply In.s))) | (refine Sub.suf ?_; (repeat (first | exact Suf.z | apply Suf.s))))) rfl) (TOk.xP 3 [] (by kernel_rfl) (TOk.xP 6 [] (by kernel_rfl) (TOk.xP 11 [] (by kernel_rfl) (TOk.t (isBoxE fun _ => isBoxS (by repeat (first | exact At.z | apply At.s)) (k := 4) (by repeat (first | exact Cut.d | apply Cut.t | apply Cut.s))) (TOk.t (isBoxE fun _ => isBoxS (by repeat (first | exact At.z | apply At.s)) (k := 4) (by repeat (first | exact Cut.d | apply Cut.t | apply Cut.s))) (TOk.t (isBoxE fun _ => isBoxS (by repeat (first | exact At.z | apply At.s)) (k := 4) (by repeat (first | exact Cut.d | apply Cut.t | apply Cut.s))) (TOk.t (isBoxE fun _ => isBoxS (by repeat (first | exact At.z | apply At.s)) (k := 4) (by repeat (first | exact Cut.d | apply Cut.t | apply Cut.s))) (TOk.t (isBoxE fun _ => isBoxS (by repeat (first | exact At.z | apply At.s)) (k := 4) (by repeat (first | exact Cut.d | apply Cut.t | apply Cut.s))) TOk.d)))))))) ?_
  refine eaB ?_; intro y22
  refine dfB 13 (by kernel_rfl) ?_
  refine doGB rfl rfl rfl rfl rfl (o_call (is := []) Tryz.call12 (c_New7 q yq hq) rfl rfl (by repeat (first | exact Sub.d | (refine Sub.s ?_ ?_; (repeat (first | exact In.z | apply In.s))) | (refine Sub.suf ?_; (repeat (first | exact Suf.z | apply Suf.s))))) rfl) (TOk.xP 3 [] (by kernel_rfl) (TOk.xP 6 [] (by kernel_rfl) (TOk.xP 11 [] (by kernel_rfl) (TOk.xP 13 [] (by kernel_rfl) (TOk.t (isBoxE fun _ => isBoxS (by repeat (first | exact At.z | apply At.s)) (k := 4) (by repeat (first | exact Cut.d | apply Cut.t | apply Cut.s))) (TOk.t (isBoxE fun _ => isBoxS (by repeat (first | exact At.z | apply At.s)) (k := 4) (by repeat (first | exact Cut.d | apply Cut.t | apply Cut.s))) (TOk.t (isBoxE fun _ => isBoxS (by repeat (first | exact At.z | apply At.s)) (k := 4) (by repeat (first | exact Cut.d | apply Cut.t | apply Cut.s))) (TOk.t (isBoxE fun _ => isBoxS (by repeat (first | exact At.z | apply At.s)) (k := 4) (by repeat (first | exact Cut.d | apply Cut.t | apply Cut.s))) TOk.d)))))))) ?_
  refine eaB ?_; intro y24
  refine dfB 14 (by kernel_rfl) ?_
  refine doGB rfl rfl rfl rfl rfl (o_call (is := []) Tryz.call14 (c_nSame p q y22 y24 hp hq) rfl rfl (by repeat (first | exact Sub.d | (refine Sub.s ?_ ?_; (repeat (first | exact In.z | apply In.s))) | (refine Sub.suf ?_; (repeat (first | exact Suf.z | apply Suf.s))))) rfl) (TOk.xP 3 [] (by kernel_rfl) (TOk.xP 6 [] (by kernel_rfl) (TOk.xP 11 [] (by kernel_rfl) (TOk.xP 13 [] (by kernel_rfl) (TOk.t (isBoxE fun _ => isBoxS (by repeat (first | exact At.z | apply At.s)) (k := 4) (by repeat (first | exact Cut.d | apply Cut.t | apply Cut.s))) (TOk.t (isBoxE fun _ => isBoxS (by repeat (first | exact At.z | apply At.s)) (k := 4) (by repeat (first | exact Cut.d | apply Cut.t | apply Cut.s))) (TOk.t (isBoxE fun _ => isBoxS (by repeat (first | exact At.z | apply At.s)) (k := 4) (by repeat (first | exact Cut.d | apply Cut.t | apply Cut.s))) (TOk.t (isBoxE fun _ => isBoxS (by repeat (first | exact At.z | apply At.s)) (k := 4) (by repeat (first | exact Cut.d | apply Cut.t | apply Cut.s))) TOk.d)))))))) ?_
  refine eaB ?_; intro x25
  refine dfB 17 (by kernel_rfl) ?_
  refine doGB rfl rfl rfl rfl rfl (o_call (is := []) Tryz.call15 (c_rSame p q yp yq hp hq) rfl rfl (by repeat (first | exact Sub.d | (refine Sub.s ?_ ?_; (repeat (first | exact In.z | apply In.s))) | (refine Sub.suf ?_; (repeat (first | exact Suf.z | apply Suf.s))))) rfl) (TOk.xP 3 [] (by kernel_rfl) (TOk.xP 6 [] (by kernel_rfl) (TOk.xP 11 [] (by kernel_rfl) (TOk.xP 13 [] (by kernel_rfl) (TOk.xP 17 [] (by kernel_rfl) (TOk.xP 17 [] (by kernel_rfl) (TOk.t (isBoxE fun _ => isBoxS (by repeat (first | exact At.z | apply At.s)) (k := 4) (by repeat (first | exact Cut.d | apply Cut.t | apply Cut.s))) (TOk.t (isBoxE fun _ => isBoxS (by repeat (first | exact At.z | apply At.s)) (k := 4) (by repeat (first | exact Cut.d | apply Cut.t | apply Cut.s))) TOk.d)))))))) ?_
  refine eaB ?_; intro x28
  refine tkB 18 rfl (by kernel_rfl) (fun _ _ _ h => h) (gyes rfl rfl rfl rfl) (TTany _) (p_beq Tryz.underlying4 rfl rfl) rfl ?_
  refine fixB (congrArg Value.bool (beq_self_eq_true _)) ?_
  refine tkB 19 rfl (by kernel_rfl) (fun _ _ _ h => h) gnone (TTany _) (p_pickt rfl rfl) rfl ?_
  refine tkB 20 rfl (by kernel_rfl) (fun _ _ _ h => h) gnone (TTany _) (p_move rfl) rfl ?_
  refine tkB 21 rfl (by kernel_rfl) (fun _ _ _ h => h) (gyes rfl rfl rfl rfl) (TTat (List.Mem.tail _ (List.Mem.tail _ (List.Mem.tail _ (List.Mem.tail _ (List.Mem.tail _ (List.Mem.tail _ (List.Mem.head _)))))))) (p_lda Tryz.isAgg25 Tryz.sizeOf25 rfl rfl) rfl ?_
  refine tkB 23 rfl (by kernel_rfl) (fun _ _ _ h => h) (gyes rfl rfl rfl rfl) (TTat (List.Mem.tail _ (List.Mem.tail _ (List.Mem.tail _ (List.Mem.tail _ (List.Mem.tail _ (List.Mem.tail _ (List.Mem.tail _ (List.Mem.head _))))))))) (p_lda Tryz.isAgg25 Tryz.sizeOf25 rfl rfl) rfl ?_
  refine dfB 22 (by kernel_rfl) ?_
  refine doGB rfl rfl rfl rfl rfl (o_call (is := []) Tryz.call12 (c_New7 p yp hp) rfl rfl (by repeat (first | exact Sub.d | (refine Sub.s ?_ ?_; (repeat (first | exact In.z | apply In.s))) | (refine Sub.suf ?_; (repeat (first | exact Suf.z | apply Suf.s))))) rfl) (TOk.xP 3 [] (by kernel_rfl) (TOk.xP 6 [] (by kernel_rfl) (TOk.xP 11 [] (by kernel_rfl) (TOk.xP 13 [] (by kernel_rfl) (TOk.xP 17 [] (by kernel_rfl) (TOk.xP 17 [] (by kernel_rfl) (TOk.xP 22 [] (by kernel_rfl) (TOk.t (isBoxE fun _ => isBoxS (by repeat (first | exact At.z | apply At.s)) (k := 4) (by repeat (first | exact Cut.d | apply Cut.t | apply Cut.s))) TOk.d)))))))) ?_
  refine eaB ?_; intro y33
  refine dfB 24 (by kernel_rfl) ?_
  refine doGB rfl rfl rfl rfl rfl (o_call (is := []) Tryz.call12 (c_New7 p yp hp) rfl rfl (by repeat (first | exact Sub.d | (refine Sub.s ?_ ?_; (repeat (first | exact In.z | apply In.s))) | (refine Sub.suf ?_; (repeat (first | exact Suf.z | apply Suf.s))))) rfl) (TOk.xP 3 [] (by kernel_rfl) (TOk.xP 6 [] (by kernel_rfl) (TOk.xP 11 [] (by kernel_rfl) (TOk.xP 13 [] (by kernel_rfl) (TOk.xP 17 [] (by kernel_rfl) (TOk.xP 17 [] (by kernel_rfl) (TOk.xP 22 [] (by kernel_rfl) (TOk.xP 24 [] (by kernel_rfl) TOk.d)))))))) ?_
  refine eaB ?_; intro y35
  refine dfB 25 (by kernel_rfl) ?_
  refine doGB rfl rfl rfl rfl rfl (o_call (is := []) Tryz.call16 (c_nClone p y35 hp) rfl rfl (by repeat (first | exact Sub.d | (refine Sub.s ?_ ?_; (repeat (first | exact In.z | apply In.s))) | (refine Sub.suf ?_; (repeat (first | exact Suf.z | apply Suf.s))))) rfl) (TOk.xP 3 [] (by kernel_rfl) (TOk.xP 6 [] (by kernel_rfl) (TOk.xP 11 [] (by kernel_rfl) (TOk.xP 13 [] (by kernel_rfl) (TOk.xP 17 [] (by kernel_rfl) (TOk.xP 17 [] (by kernel_rfl) (TOk.xP 22 [] (by kernel_rfl) (TOk.xP 24 [] (by kernel_rfl) TOk.d)))))))) ?_
  refine eaB ?_; intro y36
  refine dfB 26 (by kernel_rfl) ?_
  refine doGB rfl rfl rfl rfl rfl (o_call (is := []) Tryz.call14 (c_nSame p p y33 y36 hp hp) rfl rfl (by repeat (first | exact Sub.d | (refine Sub.s ?_ ?_; (repeat (first | exact In.z | apply In.s))) | (refine Sub.suf ?_; (repeat (first | exact Suf.z | apply Suf.s))))) rfl) (TOk.xP 3 [] (by kernel_rfl) (TOk.xP 6 [] (by kernel_rfl) (TOk.xP 11 [] (by kernel_rfl) (TOk.xP 13 [] (by kernel_rfl) (TOk.xP 17 [] (by kernel_rfl) (TOk.xP 17 [] (by kernel_rfl) (TOk.xP 22 [] (by kernel_rfl) (TOk.xP 24 [] (by kernel_rfl) TOk.d)))))))) ?_
  refine eaB ?_; intro x37
  refine fixB (congrArg Value.bool (decide_eq_true rfl)) ?_
  refine tkB 27 rfl (by kernel_rfl) (fun _ _ _ h => h) gnone (TTany _) (p_pickt rfl rfl) rfl ?_
  refine tkB 28 rfl (by kernel_rfl) (fun _ _ _ h => h) gnone (TTany _) (p_asg rfl) rfl ?_
  refine dnB (by kernel_rfl) ?_
  refine nthen ?_
  refine cret ?_
  refine xret (fun _ _ h => h) ?_
  refine rret (is := []) () (Or.inl rfl) (Res.t rfl Res.d) (rfl) rfl (by repeat (first | exact Sub.d | (refine Sub.s ?_ ?_; (repeat (first | exact In.z | apply In.s))) | (refine Sub.suf ?_; (repeat (first | exact Suf.z | apply Suf.s)))))

set_option maxRecDepth 100000 in
theorem c_NamedSwaps (p q : Patch) (yp yq : Rp.Lay Patch) (hp : p.fit) (hq : q.fit) (hM : pmany [p, q] ≤ 1000000000000) : Con Tryz.prog 4 [sv p yp, sv q yq] [] [slA yp.1.1 p.deps, slA yp.2.1 p.l, slA yq.1.1 q.deps, slA yq.2.1 q.l] Unit (fun _ => .bool (true)) (fun _ => []) (fun _ => []) := by
 refine con Tryz.func4 rfl Tryz.ntmps4 rfl ?_
 intro M0 F0 w0
 refine cs ?_
 refine cr ?_
 refine ls (o_box rfl rfl rfl) ?_
 refine le ?_; intro b2
 refine ls (o_box rfl rfl rfl) ?_
 refine le ?_; intro b3
 refine ls (op (p_asg rfl) rfl) ?_
 refine ln ?_
 refine nthen ?_
 refine cs ?_
 refine cs ?_
 refine cr ?_
 refine ls (o_ldw Tryz.isAgg25 Tryz.sizeOf25 rfl (by repeat (first | exact At.z | apply At.s)) (by rfl) rfl) ?_
 refine ls (o_ldw Tryz.isAgg25 Tryz.sizeOf25 rfl (by repeat (first | exact At.z | apply At.s)) (by rfl) rfl) ?_
 refine ls (o_bsl [p, q] Tryz.underlying42 Tryz.sizeOf25 Tryz.zeroValue25 rfl (Enum.t (Enum.t Enum.d)) (RV.t yp rfl (by repeat (first | exact Sub.d | (refine Sub.s ?_ ?_; (repeat (first | exact In.z | apply In.s))) | (refine Sub.suf ?_; (repeat (first | exact Suf.z | apply Suf.s))))) (RV.t yq rfl (by repeat (first | exact Sub.d | (refine Sub.s ?_ ?_; (repeat (first | exact In.z | apply In.s))) | (refine Sub.suf ?_; (repeat (first | exact Suf.z | apply Suf.s))))) RV.d)) rfl (by decide) (by decide) rfl) ?_
 refine le ?_; intro b16
 refine lmono (fun a w h => Go.Sx.freeze (i := 0) rfl h) ?_
 refine ls (o_call (is := []) Tryz.call9 (c_few7 [p, q] _ _ (by simp) (by intro x hx; simp at hx; rcases hx with rfl | rfl; exact hp; exact hq) hM) rfl rfl (by repeat (first | exact Sub.d | (refine Sub.s ?_ ?_; (repeat (first | exact In.z | apply In.s))) | (refine Sub.suf ?_; (repeat (first | exact Suf.z | apply Suf.s))))) rfl) ?_
 refine le ?_; intro x17
 refine ls (op (p_not rfl) rfl) ?_
 refine ln ?_
 refine nthen ?_
 refine cc rfl ?_ ?_
 ·
  intro h18
  try simp only [decide_eq_true_eq, decide_eq_false_iff_not, Bool.not_eq_true', Bool.not_eq_false', Int.not_lt, Int.not_le, ge_iff_le, Bool.not_true, Bool.not_false] at h18
  refine cs ?_
  refine cr ?_
  refine ls (o_call (is := []) Tryz.call10 (c_alive7) rfl rfl (by repeat (first | exact Sub.d | (refine Sub.s ?_ ?_; (repeat (first | exact In.z | apply In.s))) | (refine Sub.suf ?_; (repeat (first | exact Suf.z | apply Suf.s))))) rfl) ?_
  refine le ?_; intro x19
  refine ls (op (p_asg rfl) rfl) ?_
  refine ln ?_
  refine nthen ?_
  refine cret ?_
  refine xret (fun _ _ h => h) ?_
  refine rret (is := []) () (Or.inl rfl) (Res.t rfl Res.d) (rfl) rfl (by repeat (first | exact Sub.d | (refine Sub.s ?_ ?_; (repeat (first | exact In.z | apply In.s))) | (refine Sub.suf ?_; (repeat (first | exact Suf.z | apply Suf.s)))))
 ·
  intro h18
  try simp only [decide_eq_true_eq, decide_eq_false_iff_not, Bool.not_eq_true', Bool.not_eq_false', Int.not_lt, Int.not_le, ge_iff_le, Bool.not_true, Bool.not_false] at h18
  refine cskip ?_
  refine nthen ?_
  refine cs ?_
  refine cutC (S' := fun a w => ∃ (b5 : Nat) (b6 : Nat) (r1 : Patch) (r2 : Patch) (r3 : Bool) (z1 : Rp.Lay Patch) (z2 : Rp.Lay Patch) (hr : (r1, r2, r3) = pswap p q) (e1 : r1.fit) (e2 : r2.fit), St M0 F0 w0 88 [(2, .pointer (some ⟨b2, 0, none⟩)), (3, .pointer (some ⟨b3, 0, none⟩)), (5, .pointer (some ⟨b5, 0, none⟩)), (6, .pointer (some ⟨b6, 0, none⟩)), (7, .bool r3)] [box b5 31 (Rp.enc r1 z1), box b6 31 (Rp.enc r2 z2), box b3 25 (Rp.enc q yq), box b2 25 (Rp.enc p yp)] [slA z1.1.1 r1.deps, slA z1.2.1 r1.l, slA z2.1.1 r2.deps, slA z2.2.1 r2.l, slA yp.1.1 p.deps, slA yp.2.1 p.l, slA yq.1.1 q.deps, slA yq.2.1 q.l] a w) ?_ ?_
  ·
   refine cdB [1, 3, 4, 9, 10, 11, 12] [(0, b2, 0, _), (2, b3, 0, _)] TryzX.mixed (by kernel_rfl) (by kernel_rfl) (TOk.t (isBoxS (by repeat (first | exact At.z | apply At.s)) (k := 4) (by repeat (first | exact Cut.d | apply Cut.t | apply Cut.s))) (TOk.t (isBoxS (by repeat (first | exact At.z | apply At.s)) (k := 4) (by repeat (first | exact Cut.d | apply Cut.t | apply Cut.s))) TOk.d)) ?_
   refine tkB 0 rfl (by kernel_rfl) (fun _ _ _ h => h) gnone (TTat (List.Mem.head _)) (p_lda Tryz.isAgg25 Tryz.sizeOf25 rfl rfl) rfl ?_
   refine tkB 2 rfl (by kernel_rfl) (fun _ _ _ h => h) gnone (TTat (List.Mem.tail _ (List.Mem.head _))) (p_lda Tryz.isAgg25 Tryz.sizeOf25 rfl rfl) rfl ?_
   refine dallB (is := [1, 9, 10]) (by kernel_rfl) rfl ?_
   intro i hi; simp only [List.mem_cons, List.mem_nil_iff, or_false] at hi; rcases hi with rfl | rfl | rfl
   ·
    refine doRB rfl (o_call (is := []) Tryz.call12 (c_New7 p yp hp) rfl rfl (by repeat (first | exact Sub.d | (refine Sub.s ?_ ?_; (repeat (first | exact In.z | apply In.s))) | (refine Sub.suf ?_; (repeat (first | exact Suf.z | apply Suf.s))))) rfl) (TOk.xP 1 [] (by kernel_rfl) (TOk.t (isBoxE fun _ => isBoxS (by repeat (first | exact At.z | apply At.s)) (k := 4) (by repeat (first | exact Cut.d | apply Cut.t | apply Cut.s))) TOk.d)) ?_
    refine eaB ?_; intro y22
    refine dallB (is := [3, 9, 10]) (by kernel_rfl) rfl ?_
    intro i hi; simp only [List.mem_cons, List.mem_nil_iff, or_false] at hi; rcases hi with rfl | rfl | rfl
    ·
     refine doRB rfl (o_call (is := []) Tryz.call12 (c_New7 q yq hq) rfl rfl (by repeat (first | exact Sub.d | (refine Sub.s ?_ ?_; (repeat (first | exact In.z | apply In.s))) | (refine Sub.suf ?_; (repeat (first | exact Suf.z | apply Suf.s))))) rfl) (TOk.xP 1 [] (by kernel_rfl) (TOk.xP 3 [] (by kernel_rfl) TOk.d)) ?_
     refine eaB ?_; intro y24
     refine dallB (is := [4, 9, 10]) (by kernel_rfl) rfl ?_
     intro i hi; simp only [List.mem_cons, List.mem_nil_iff, or_false] at hi; rcases hi with rfl | rfl | rfl
     ·
      refine doRB rfl (o_call (is := []) Tryz.call17 (c_nSwap p q y22 y24 hp hq) rfl rfl (by repeat (first | exact Sub.d | (refine Sub.s ?_ ?_; (repeat (first | exact In.z | apply In.s))) | (refine Sub.suf ?_; (repeat (first | exact Suf.z | apply Suf.s))))) rfl) (TOk.xP 1 [] (by kernel_rfl) (TOk.xP 3 [] (by kernel_rfl) TOk.d)) ?_
      refine eaB ?_; rintro ⟨⟨⟨r1, r2, r3⟩, z1, z2⟩, hr⟩
      obtain ⟨e1, e2⟩ := pswap_fit2 hr hp hq; dsimp only at hr e1 e2
      refine tkB 5 rfl (by kernel_rfl) (fun _ _ _ h => h) gnone (TTany _) (p_move rfl) rfl ?_
      refine tkB 6 rfl (by kernel_rfl) (fun _ _ _ h => h) gnone (TTany _) (p_ext rfl (by repeat (first | exact At.z | apply At.s))) rfl ?_
      refine tkB 7 rfl (by kernel_rfl) (fun _ _ _ h => h) gnone (TTany _) (p_ext rfl (by repeat (first | exact At.z | apply At.s))) rfl ?_
      refine tkB 8 rfl (by kernel_rfl) (fun _ _ _ h => h) gnone (TTany _) (p_ext rfl (by repeat (first | exact At.z | apply At.s))) rfl ?_
      refine dallB (is := [9, 10]) (by kernel_rfl) rfl ?_
      intro i hi; simp only [List.mem_cons, List.mem_nil_iff, or_false] at hi; rcases hi with rfl | rfl
      ·
       refine doRB rfl (o_alloc Tryz.zeroValue31 rfl rfl) (TOk.xP 1 [] (by kernel_rfl) (TOk.xP 3 [] (by kernel_rfl) TOk.d)) ?_
       refine eaB ?_; intro b5
       refine dfB 10 (by kernel_rfl) ?_
       refine doRB rfl (o_alloc Tryz.zeroValue31 rfl rfl) (TOk.xP 1 [] (by kernel_rfl) (TOk.xP 3 [] (by kernel_rfl) TOk.d)) ?_
       refine eaB ?_; intro b6
       refine dfB 11 (by kernel_rfl) ?_
       refine doRB rfl (o_st rfl Tryz.sizeOf31 rfl rfl rfl rfl rfl (by repeat (first | exact At.z | apply At.s)) (by repeat (first | exact Put.d | apply Put.t | apply Put.s)) (by repeat (first | exact SetAt.z | apply SetAt.s))) (TOk.xP 1 [] (by kernel_rfl) (TOk.xP 3 [] (by kernel_rfl) TOk.d)) ?_
       refine dfB 12 (by kernel_rfl) ?_
       refine doRB rfl (o_st rfl Tryz.sizeOf31 rfl rfl rfl rfl rfl (by repeat (first | exact At.z | apply At.s)) (by repeat (first | exact Put.d | apply Put.t | apply Put.s)) (by repeat (first | exact SetAt.z | apply SetAt.s))) (TOk.xP 1 [] (by kernel_rfl) (TOk.xP 3 [] (by kernel_rfl) TOk.d)) ?_
       refine tkB 13 rfl (by kernel_rfl) (fun _ _ _ h => h) gnone (TTany _) (p_asg rfl) rfl ?_
       refine dnB (by kernel_rfl) (nmid (fun a w h => by first | exact ⟨b5, b6, r1, r2, r3, z1, z2, hr, e1, e2, wk (is := [1, 0, 0, 0]) (by repeat (first | exact subσ.nil _ | refine subσ.cons rfl ?_)) rfl (by repeat (first | exact Sub.d | (refine Sub.s ?_ ?_; (repeat (first | exact In.z | apply In.s))) | (refine Sub.suf ?_; (repeat (first | exact Suf.z | apply Suf.s))))) a w h⟩ | exact ⟨b5, b6, r1, r2, r3, z1, z2, hr, e1, e2, wk (is := [0, 0, 0, 0]) (by repeat (first | exact subσ.nil _ | refine subσ.cons rfl ?_)) rfl (by repeat (first | exact Sub.d | (refine Sub.s ?_ ?_; (repeat (first | exact In.z | apply In.s))) | (refine Sub.suf ?_; (repeat (first | exact Suf.z | apply Suf.s))))) a w h⟩))
      ·
       refine doRB rfl (o_alloc Tryz.zeroValue31 rfl rfl) (TOk.xP 1 [] (by kernel_rfl) (TOk.xP 3 [] (by kernel_rfl) TOk.d)) ?_
       refine eaB ?_; intro b6
       refine dfB 9 (by kernel_rfl) ?_
       refine doRB rfl (o_alloc Tryz.zeroValue31 rfl rfl) (TOk.xP 1 [] (by kernel_rfl) (TOk.xP 3 [] (by kernel_rfl) TOk.d)) ?_
       refine eaB ?_; intro b5
       refine dfB 11 (by kernel_rfl) ?_
       refine doRB rfl (o_st rfl Tryz.sizeOf31 rfl rfl rfl rfl rfl (by repeat (first | exact At.z | apply At.s)) (by repeat (first | exact Put.d | apply Put.t | apply Put.s)) (by repeat (first | exact SetAt.z | apply SetAt.s))) (TOk.xP 1 [] (by kernel_rfl) (TOk.xP 3 [] (by kernel_rfl) TOk.d)) ?_
       refine dfB 12 (by kernel_rfl) ?_
       refine doRB rfl (o_st rfl Tryz.sizeOf31 rfl rfl rfl rfl rfl (by repeat (first | exact At.z | apply At.s)) (by repeat (first | exact Put.d | apply Put.t | apply Put.s)) (by repeat (first | exact SetAt.z | apply SetAt.s))) (TOk.xP 1 [] (by kernel_rfl) (TOk.xP 3 [] (by kernel_rfl) TOk.d)) ?_
       refine tkB 13 rfl (by kernel_rfl) (fun _ _ _ h => h) gnone (TTany _) (p_asg rfl) rfl ?_
       refine dnB (by kernel_rfl) (nmid (fun a w h => by first | exact ⟨b5, b6, r1, r2, r3, z1, z2, hr, e1, e2, wk (is := [1, 0, 0, 0]) (by repeat (first | exact subσ.nil _ | refine subσ.cons rfl ?_)) rfl (by repeat (first | exact Sub.d | (refine Sub.s ?_ ?_; (repeat (first | exact In.z | apply In.s))) | (refine Sub.suf ?_; (repeat (first | exact Suf.z | apply Suf.s))))) a w h⟩ | exact ⟨b5, b6, r1, r2, r3, z1, z2, hr, e1, e2, wk (is := [0, 0, 0, 0]) (by repeat (first | exact subσ.nil _ | refine subσ.cons rfl ?_)) rfl (by repeat (first | exact Sub.d | (refine Sub.s ?_ ?_; (repeat (first | exact In.z | apply In.s))) | (refine Sub.suf ?_; (repeat (first | exact Suf.z | apply Suf.s))))) a w h⟩))
     ·
      refine doRB rfl (o_alloc Tryz.zeroValue31 rfl rfl) (TOk.xP 1 [] (by kernel_rfl) (TOk.xP 3 [] (by kernel_rfl) TOk.d)) ?_
      refine eaB ?_; intro b5
      refine dallB (is := [4, 10]) (by kernel_rfl) rfl ?_
      intro i hi; simp only [List.mem_cons, List.mem_nil_iff, or_false] at hi; rcases hi with rfl | rfl
      ·
       refine doRB rfl (o_call (is := []) Tryz.call17 (c_nSwap p q y22 y24 hp hq) rfl rfl (by repeat (first | exact Sub.d | (refine Sub.s ?_ ?_; (repeat (first | exact In.z | apply In.s))) | (refine Sub.suf ?_; (repeat (first | exact Suf.z | apply Suf.s))))) rfl) (TOk.xP 1 [] (by kernel_rfl) (TOk.xP 3 [] (by kernel_rfl) TOk.d)) ?_
       refine eaB ?_; rintro ⟨⟨⟨r1, r2, r3⟩, z1, z2⟩, hr⟩
       obtain ⟨e1, e2⟩ := pswap_fit2 hr hp hq; dsimp only at hr e1 e2
       refine tkB 5 rfl (by kernel_rfl) (fun _ _ _ h => h) gnone (TTany _) (p_move rfl) rfl ?_
       refine tkB 6 rfl (by kernel_rfl) (fun _ _ _ h => h) gnone (TTany _) (p_ext rfl (by repeat (first | exact At.z | apply At.s))) rfl ?_
       refine tkB 7 rfl (by kernel_rfl) (fun _ _ _ h => h) gnone (TTany _) (p_ext rfl (by repeat (first | exact At.z | apply At.s))) rfl ?_
       refine tkB 8 rfl (by kernel_rfl) (fun _ _ _ h => h) gnone (TTany _) (p_ext rfl (by repeat (first | exact At.z | apply At.s))) rfl ?_
       refine dfB 10 (by kernel_rfl) ?_
       refine doRB rfl (o_alloc Tryz.zeroValue31 rfl rfl) (TOk.xP 1 [] (by kernel_rfl) (TOk.xP 3 [] (by kernel_rfl) TOk.d)) ?_
       refine eaB ?_; intro b6
       refine dfB 11 (by kernel_rfl) ?_
       refine doRB rfl (o_st rfl Tryz.sizeOf31 rfl rfl rfl rfl rfl (by repeat (first | exact At.z | apply At.s)) (by repeat (first | exact Put.d | apply Put.t | apply Put.s)) (by repeat (first | exact SetAt.z | apply SetAt.s))) (TOk.xP 1 [] (by kernel_rfl) (TOk.xP 3 [] (by kernel_rfl) TOk.d)) ?_
       refine dfB 12 (by kernel_rfl) ?_
       refine doRB rfl (o_st rfl Tryz.sizeOf31 rfl rfl rfl rfl rfl (by repeat (first | exact At.z | apply At.s)) (by repeat (first | exact Put.d | apply Put.t | apply Put.s)) (by repeat (first | exact SetAt.z | apply SetAt.s))) (TOk.xP 1 [] (by kernel_rfl) (TOk.xP 3 [] (by kernel_rfl) TOk.d)) ?_
       refine tkB 13 rfl (by kernel_rfl) (fun _ _ _ h => h) gnone (TTany _) (p_asg rfl) rfl ?_
       refine dnB (by kernel_rfl) (nmid (fun a w h => by first | exact ⟨b5, b6, r1, r2, r3, z1, z2, hr, e1, e2, wk (is := [1, 0, 0, 0]) (by repeat (first | exact subσ.nil _ | refine subσ.cons rfl ?_)) rfl (by repeat (first | exact Sub.d | (refine Sub.s ?_ ?_; (repeat (first | exact In.z | apply In.s))) | (refine Sub.suf ?_; (repeat (first | exact Suf.z | apply Suf.s))))) a w h⟩ | exact ⟨b5, b6, r1, r2, r3, z1, z2, hr, e1, e2, wk (is := [0, 0, 0, 0]) (by repeat (first | exact subσ.nil _ | refine subσ.cons rfl ?_)) rfl (by repeat (first | exact Sub.d | (refine Sub.s ?_ ?_; (repeat (first | exact In.z | apply In.s))) | (refine Sub.suf ?_; (repeat (first | exact Suf.z | apply Suf.s))))) a w h⟩))
      ·
       refine doRB rfl (o_alloc Tryz.zeroValue31 rfl rfl) (TOk.xP 1 [] (by kernel_rfl) (TOk.xP 3 [] (by kernel_rfl) TOk.d)) ?_
       refine eaB ?_; intro b6
       refine dfB 4 (by kernel_rfl) ?_
       refine doRB rfl (o_call (is := []) Tryz.call17 (c_nSwap p q y22 y24 hp hq) rfl rfl (by repeat (first | exact Sub.d | (refine Sub.s ?_ ?_; (repeat (first | exact In.z | apply In.s))) | (refine Sub.suf ?_; (repeat (first | exact Suf.z | apply Suf.s))))) rfl) (TOk.xP 1 [] (by kernel_rfl) (TOk.xP 3 [] (by kernel_rfl) TOk.d)) ?_
       refine eaB ?_; rintro ⟨⟨⟨r1, r2, r3⟩, z1, z2⟩, hr⟩
       obtain ⟨e1, e2⟩ := pswap_fit2 hr hp hq; dsimp only at hr e1 e2
       refine tkB 5 rfl (by kernel_rfl) (fun _ _ _ h => h) gnone (TTany _) (p_move rfl) rfl ?_
       refine tkB 6 rfl (by kernel_rfl) (fun _ _ _ h => h) gnone (TTany _) (p_ext rfl (by repeat (first | exact At.z | apply At.s))) rfl ?_
       refine tkB 7 rfl (by kernel_rfl) (fun _ _ _ h => h) gnone (TTany _) (p_ext rfl (by repeat (first | exact At.z | apply At.s))) rfl ?_
       refine tkB 8 rfl (by kernel_rfl) (fun _ _ _ h => h) gnone (TTany _) (p_ext rfl (by repeat (first | exact At.z | apply At.s))) rfl ?_
       refine dfB 11 (by kernel_rfl) ?_
       refine doRB rfl (o_st rfl Tryz.sizeOf31 rfl rfl rfl rfl rfl (by repeat (first | exact At.z | apply At.s)) (by repeat (first | exact Put.d | apply Put.t | apply Put.s)) (by repeat (first | exact SetAt.z | apply SetAt.s))) (TOk.xP 1 [] (by kernel_rfl) (TOk.xP 3 [] (by kernel_rfl) TOk.d)) ?_
       refine dfB 12 (by kernel_rfl) ?_
       refine doRB rfl (o_st rfl Tryz.sizeOf31 rfl rfl rfl rfl rfl (by repeat (first | exact At.z | apply At.s)) (by repeat (first | exact Put.d | apply Put.t | apply Put.s)) (by repeat (first | exact SetAt.z | apply SetAt.s))) (TOk.xP 1 [] (by kernel_rfl) (TOk.xP 3 [] (by kernel_rfl) TOk.d)) ?_
       refine tkB 13 rfl (by kernel_rfl) (fun _ _ _ h => h) gnone (TTany _) (p_asg rfl) rfl ?_
       refine dnB (by kernel_rfl) (nmid (fun a w h => by first | exact ⟨b5, b6, r1, r2, r3, z1, z2, hr, e1, e2, wk (is := [1, 0, 0, 0]) (by repeat (first | exact subσ.nil _ | refine subσ.cons rfl ?_)) rfl (by repeat (first | exact Sub.d | (refine Sub.s ?_ ?_; (repeat (first | exact In.z | apply In.s))) | (refine Sub.suf ?_; (repeat (first | exact Suf.z | apply Suf.s))))) a w h⟩ | exact ⟨b5, b6, r1, r2, r3, z1, z2, hr, e1, e2, wk (is := [0, 0, 0, 0]) (by repeat (first | exact subσ.nil _ | refine subσ.cons rfl ?_)) rfl (by repeat (first | exact Sub.d | (refine Sub.s ?_ ?_; (repeat (first | exact In.z | apply In.s))) | (refine Sub.suf ?_; (repeat (first | exact Suf.z | apply Suf.s))))) a w h⟩))
     ·
      refine doRB rfl (o_alloc Tryz.zeroValue31 rfl rfl) (TOk.xP 1 [] (by kernel_rfl) (TOk.xP 3 [] (by kernel_rfl) TOk.d)) ?_
      refine eaB ?_; intro b6
      refine dallB (is := [4, 9]) (by kernel_rfl) rfl ?_
      intro i hi; simp only [List.mem_cons, List.mem_nil_iff, or_false] at hi; rcases hi with rfl | rfl
      ·
       refine doRB rfl (o_call (is := []) Tryz.call17 (c_nSwap p q y22 y24 hp hq) rfl rfl (by repeat (first | exact Sub.d | (refine Sub.s ?_ ?_; (repeat (first | exact In.z | apply In.s))) | (refine Sub.suf ?_; (repeat (first | exact Suf.z | apply Suf.s))))) rfl) (TOk.xP 1 [] (by kernel_rfl) (TOk.xP 3 [] (by kernel_rfl) TOk.d)) ?_
       refine eaB ?_; rintro ⟨⟨⟨r1, r2, r3⟩, z1, z2⟩, hr⟩
       obtain ⟨e1, e2⟩ := pswap_fit2 hr hp hq; dsimp only at hr e1 e2
       refine tkB 5 rfl (by kernel_rfl) (fun _ _ _ h => h) gnone (TTany _) (p_move rfl) rfl ?_
       refine tkB 6 rfl (by kernel_rfl) (fun _ _ _ h => h) gnone (TTany _) (p_ext rfl (by repeat (first | exact At.z | apply At.s))) rfl ?_
       refine tkB 7 rfl (by kernel_rfl) (fun _ _ _ h => h) gnone (TTany _) (p_ext rfl (by repeat (first | exact At.z | apply At.s))) rfl ?_
       refine tkB 8 rfl (by kernel_rfl) (fun _ _ _ h => h) gnone (TTany _) (p_ext rfl (by repeat (first | exact At.z | apply At.s))) rfl ?_
       refine dfB 9 (by kernel_rfl) ?_
       refine doRB rfl (o_alloc Tryz.zeroValue31 rfl rfl) (TOk.xP 1 [] (by kernel_rfl) (TOk.xP 3 [] (by kernel_rfl) TOk.d)) ?_
       refine eaB ?_; intro b5
       refine dfB 11 (by kernel_rfl) ?_
       refine doRB rfl (o_st rfl Tryz.sizeOf31 rfl rfl rfl rfl rfl (by repeat (first | exact At.z | apply At.s)) (by repeat (first | exact Put.d | apply Put.t | apply Put.s)) (by repeat (first | exact SetAt.z | apply SetAt.s))) (TOk.xP 1 [] (by kernel_rfl) (TOk.xP 3 [] (by kernel_rfl) TOk.d)) ?_
       refine dfB 12 (by kernel_rfl) ?_
       refine doRB rfl (o_st rfl Tryz.sizeOf31 rfl rfl rfl rfl rfl (by repeat (first | exact At.z | apply At.s)) (by repeat (first | exact Put.d | apply Put.t | apply Put.s)) (by repeat (first | exact SetAt.z | apply SetAt.s))) (TOk.xP 1 [] (by kernel_rfl) (TOk.xP 3 [] (by kernel_rfl) TOk.d)) ?_
       refine tkB 13 rfl (by kernel_rfl) (fun _ _ _ h => h) gnone (TTany _) (p_asg rfl) rfl ?_
       refine dnB (by kernel_rfl) (nmid (fun a w h => by first | exact ⟨b5, b6, r1, r2, r3, z1, z2, hr, e1, e2, wk (is := [1, 0, 0, 0]) (by repeat (first | exact subσ.nil _ | refine subσ.cons rfl ?_)) rfl (by repeat (first | exact Sub.d | (refine Sub.s ?_ ?_; (repeat (first | exact In.z | apply In.s))) | (refine Sub.suf ?_; (repeat (first | exact Suf.z | apply Suf.s))))) a w h⟩ | exact ⟨b5, b6, r1, r2, r3, z1, z2, hr, e1, e2, wk (is := [0, 0, 0, 0]) (by repeat (first | exact subσ.nil _ | refine subσ.cons rfl ?_)) rfl (by repeat (first | exact Sub.d | (refine Sub.s ?_ ?_; (repeat (first | exact In.z | apply In.s))) | (refine Sub.suf ?_; (repeat (first | exact Suf.z | apply Suf.s))))) a w h⟩))
      ·
       refine doRB rfl (o_alloc Tryz.zeroValue31 rfl rfl) (TOk.xP 1 [] (by kernel_rfl) (TOk.xP 3 [] (by kernel_rfl) TOk.d)) ?_
       refine eaB ?_; intro b5
       refine dfB 4 (by kernel_rfl) ?_
       refine doRB rfl (o_call (is := []) Tryz.call17 (c_nSwap p q y22 y24 hp hq) rfl rfl (by repeat (first | exact Sub.d | (refine Sub.s ?_ ?_; (repeat (first | exact In.z | apply In.s))) | (refine Sub.suf ?_; (repeat (first | exact Suf.z | apply Suf.s))))) rfl) (TOk.xP 1 [] (by kernel_rfl) (TOk.xP 3 [] (by kernel_rfl) TOk.d)) ?_
       refine eaB ?_; rintro ⟨⟨⟨r1, r2, r3⟩, z1, z2⟩, hr⟩
       obtain ⟨e1, e2⟩ := pswap_fit2 hr hp hq; dsimp only at hr e1 e2
       refine tkB 5 rfl (by kernel_rfl) (fun _ _ _ h => h) gnone (TTany _) (p_move rfl) rfl ?_
       refine tkB 6 rfl (by kernel_rfl) (fun _ _ _ h => h) gnone (TTany _) (p_ext rfl (by repeat (first | exact At.z | apply At.s))) rfl ?_
       refine tkB 7 rfl (by kernel_rfl) (fun _ _ _ h => h) gnone (TTany _) (p_ext rfl (by repeat (first | exact At.z | apply At.s))) rfl ?_
       refine tkB 8 rfl (by kernel_rfl) (fun _ _ _ h => h) gnone (TTany _) (p_ext rfl (by repeat (first | exact At.z | apply At.s))) rfl ?_
       refine dfB 11 (by kernel_rfl) ?_
       refine doRB rfl (o_st rfl Tryz.sizeOf31 rfl rfl rfl rfl rfl (by repeat (first | exact At.z | apply At.s)) (by repeat (first | exact Put.d | apply Put.t | apply Put.s)) (by repeat (first | exact SetAt.z | apply SetAt.s))) (TOk.xP 1 [] (by kernel_rfl) (TOk.xP 3 [] (by kernel_rfl) TOk.d)) ?_
       refine dfB 12 (by kernel_rfl) ?_
       refine doRB rfl (o_st rfl Tryz.sizeOf31 rfl rfl rfl rfl rfl (by repeat (first | exact At.z | apply At.s)) (by repeat (first | exact Put.d | apply Put.t | apply Put.s)) (by repeat (first | exact SetAt.z | apply SetAt.s))) (TOk.xP 1 [] (by kernel_rfl) (TOk.xP 3 [] (by kernel_rfl) TOk.d)) ?_
       refine tkB 13 rfl (by kernel_rfl) (fun _ _ _ h => h) gnone (TTany _) (p_asg rfl) rfl ?_
       refine dnB (by kernel_rfl) (nmid (fun a w h => by first | exact ⟨b5, b6, r1, r2, r3, z1, z2, hr, e1, e2, wk (is := [1, 0, 0, 0]) (by repeat (first | exact subσ.nil _ | refine subσ.cons rfl ?_)) rfl (by repeat (first | exact Sub.d | (refine Sub.s ?_ ?_; (repeat (first | exact In.z | apply In.s))) | (refine Sub.suf ?_; (repeat (first | exact Suf.z | apply Suf.s))))) a w h⟩ | exact ⟨b5, b6, r1, r2, r3, z1, z2, hr, e1, e2, wk (is := [0, 0, 0, 0]) (by repeat (first | exact subσ.nil _ | refine subσ.cons rfl ?_)) rfl (by repeat (first | exact Sub.d | (refine Sub.s ?_ ?_; (repeat (first | exact In.z | apply In.s))) | (refine Sub.suf ?_; (repeat (first | exact Suf.z | apply Suf.s))))) a w h⟩))
    ·
     refine doRB rfl (o_alloc Tryz.zeroValue31 rfl rfl) (TOk.xP 1 [] (by kernel_rfl) (TOk.t (isBoxE fun _ => isBoxS (by repeat (first | exact At.z | apply At.s)) (k := 4) (by repeat (first | exact Cut.d | apply Cut.t | apply Cut.s))) TOk.d)) ?_
     refine eaB ?_; intro b5
     refine dallB (is := [3, 10]) (by kernel_rfl) rfl ?_
     intro i hi; simp only [List.mem_cons, List.mem_nil_iff, or_false] at hi; rcases hi with rfl | rfl
     ·
      refine doRB rfl (o_call (is := []) Tryz.call12 (c_New7 q yq hq) rfl rfl (by repeat (first | exact Sub.d | (refine Sub.s ?_ ?_; (repeat (first | exact In.z | apply In.s))) | (refine Sub.suf ?_; (repeat (first | exact Suf.z | apply Suf.s))))) rfl) (TOk.xP 1 [] (by kernel_rfl) (TOk.xP 3 [] (by kernel_rfl) TOk.d)) ?_
      refine eaB ?_; intro y24
      refine dallB (is := [4, 10]) (by kernel_rfl) rfl ?_
      intro i hi; simp only [List.mem_cons, List.mem_nil_iff, or_false] at hi; rcases hi with rfl | rfl
      ·
       refine doRB rfl (o_call (is := []) Tryz.call17 (c_nSwap p q y22 y24 hp hq) rfl rfl (by repeat (first | exact Sub.d | (refine Sub.s ?_ ?_; (repeat (first | exact In.z | apply In.s))) | (refine Sub.suf ?_; (repeat (first | exact Suf.z | apply Suf.s))))) rfl) (TOk.xP 1 [] (by kernel_rfl) (TOk.xP 3 [] (by kernel_rfl) TOk.d)) ?_
       refine eaB ?_; rintro ⟨⟨⟨r1, r2, r3⟩, z1, z2⟩, hr⟩
       obtain ⟨e1, e2⟩ := pswap_fit2 hr hp hq; dsimp only at hr e1 e2
       refine tkB 5 rfl (by kernel_rfl) (fun _ _ _ h => h) gnone (TTany _) (p_move rfl) rfl ?_
       refine tkB 6 rfl (by kernel_rfl) (fun _ _ _ h => h) gnone (TTany _) (p_ext rfl (by repeat (first | exact At.z | apply At.s))) rfl ?_
       refine tkB 7 rfl (by kernel_rfl) (fun _ _ _ h => h) gnone (TTany _) (p_ext rfl (by repeat (first | exact At.z | apply At.s))) rfl ?_
       refine tkB 8 rfl (by kernel_rfl) (fun _ _ _ h => h) gnone (TTany _) (p_ext rfl (by repeat (first | exact At.z | apply At.s))) rfl ?_
       refine dfB 10 (by kernel_rfl) ?_
       refine doRB rfl (o_alloc Tryz.zeroValue31 rfl rfl) (TOk.xP 1 [] (by kernel_rfl) (TOk.xP 3 [] (by kernel_rfl) TOk.d)) ?_
       refine eaB ?_; intro b6
       refine dfB 11 (by kernel_rfl) ?_
       refine doRB rfl (o_st rfl Tryz.sizeOf31 rfl rfl rfl rfl rfl (by repeat (first | exact At.z | apply At.s)) (by repeat (first | exact Put.d | apply Put.t | apply Put.s)) (by repeat (first | exact SetAt.z | apply SetAt.s))) (TOk.xP 1 [] (by kernel_rfl) (TOk.xP 3 [] (by kernel_rfl) TOk.d)) ?_
       refine dfB 12 (by kernel_rfl) ?_
       refine doRB rfl (o_st rfl Tryz.sizeOf31 rfl rfl rfl rfl rfl (by repeat (first | exact At.z | apply At.s)) (by repeat (first | exact Put.d | apply Put.t | apply Put.s)) (by repeat (first | exact SetAt.z | apply SetAt.s))) (TOk.xP 1 [] (by kernel_rfl) (TOk.xP 3 [] (by kernel_rfl) TOk.d)) ?_
       refine tkB 13 rfl (by kernel_rfl) (fun _ _ _ h => h) gnone (TTany _) (p_asg rfl) rfl ?_
       refine dnB (by kernel_rfl) (nmid (fun a w h => by first | exact ⟨b5, b6, r1, r2, r3, z1, z2, hr, e1, e2, wk (is := [1, 0, 0, 0]) (by repeat (first | exact subσ.nil _ | refine subσ.cons rfl ?_)) rfl (by repeat (first | exact Sub.d | (refine Sub.s ?_ ?_; (repeat (first | exact In.z | apply In.s))) | (refine Sub.suf ?_; (repeat (first | exact Suf.z | apply Suf.s))))) a w h⟩ | exact ⟨b5, b6, r1, r2, r3, z1, z2, hr, e1, e2, wk (is := [0, 0, 0, 0]) (by repeat (first | exact subσ.nil _ | refine subσ.cons rfl ?_)) rfl (by repeat (first | exact Sub.d | (refine Sub.s ?_ ?_; (repeat (first | exact In.z | apply In.s))) | (refine Sub.suf ?_; (repeat (first | exact Suf.z | apply Suf.s))))) a w h⟩))
      ·
       refine doRB rfl (o_alloc Tryz.zeroValue31 rfl rfl) (TOk.xP 1 [] (by kernel_rfl) (TOk.xP 3 [] (by kernel_rfl) TOk.d)) ?_
       refine eaB ?_; intro b6
       refine dfB 4 (by kernel_rfl) ?_
       refine doRB rfl (o_call (is := []) Tryz.call17 (c_nSwap p q y22 y24 hp hq) rfl rfl (by repeat (first | exact Sub.d | (refine Sub.s ?_ ?_; (repeat (first | exact In.z | apply In.s))) | (refine Sub.suf ?_; (repeat (first | exact Suf.z | apply Suf.s))))) rfl) (TOk.xP 1 [] (by kernel_rfl) (TOk.xP 3 [] (by kernel_rfl) TOk.d)) ?_
       refine eaB ?_; rintro ⟨⟨⟨r1, r2, r3⟩, z1, z2⟩, hr⟩
       obtain ⟨e1, e2⟩ := pswap_fit2 hr hp hq; dsimp only at hr e1 e2
       refine tkB 5 rfl (by kernel_rfl) (fun _ _ _ h => h) gnone (TTany _) (p_move rfl) rfl ?_
       refine tkB 6 rfl (by kernel_rfl) (fun _ _ _ h => h) gnone (TTany _) (p_ext rfl (by repeat (first | exact At.z | apply At.s))) rfl ?_
       refine tkB 7 rfl (by kernel_rfl) (fun _ _ _ h => h) gnone (TTany _) (p_ext rfl (by repeat (first | exact At.z | apply At.s))) rfl ?_
       refine tkB 8 rfl (by kernel_rfl) (fun _ _ _ h => h) gnone (TTany _) (p_ext rfl (by repeat (first | exact At.z | apply At.s))) rfl ?_
       refine dfB 11 (by kernel_rfl) ?_
       refine doRB rfl (o_st rfl Tryz.sizeOf31 rfl rfl rfl rfl rfl (by repeat (first | exact At.z | apply At.s)) (by repeat (first | exact Put.d | apply Put.t | apply Put.s)) (by repeat (first | exact SetAt.z | apply SetAt.s))) (TOk.xP 1 [] (by kernel_rfl) (TOk.xP 3 [] (by kernel_rfl) TOk.d)) ?_
       refine dfB 12 (by kernel_rfl) ?_
       refine doRB rfl (o_st rfl Tryz.sizeOf31 rfl rfl rfl rfl rfl (by repeat (first | exact At.z | apply At.s)) (by repeat (first | exact Put.d | apply Put.t | apply Put.s)) (by repeat (first | exact SetAt.z | apply SetAt.s))) (TOk.xP 1 [] (by kernel_rfl) (TOk.xP 3 [] (by kernel_rfl) TOk.d)) ?_
       refine tkB 13 rfl (by kernel_rfl) (fun _ _ _ h => h) gnone (TTany _) (p_asg rfl) rfl ?_
       refine dnB (by kernel_rfl) (nmid (fun a w h => by first | exact ⟨b5, b6, r1, r2, r3, z1, z2, hr, e1, e2, wk (is := [1, 0, 0, 0]) (by repeat (first | exact subσ.nil _ | refine subσ.cons rfl ?_)) rfl (by repeat (first | exact Sub.d | (refine Sub.s ?_ ?_; (repeat (first | exact In.z | apply In.s))) | (refine Sub.suf ?_; (repeat (first | exact Suf.z | apply Suf.s))))) a w h⟩ | exact ⟨b5, b6, r1, r2, r3, z1, z2, hr, e1, e2, wk (is := [0, 0, 0, 0]) (by repeat (first | exact subσ.nil _ | refine subσ.cons rfl ?_)) rfl (by repeat (first | exact Sub.d | (refine Sub.s ?_ ?_; (repeat (first | exact In.z | apply In.s))) | (refine Sub.suf ?_; (repeat (first | exact Suf.z | apply Suf.s))))) a w h⟩))
     ·
      refine doRB rfl (o_alloc Tryz.zeroValue31 rfl rfl) (TOk.xP 1 [] (by kernel_rfl) (TOk.t (isBoxE fun _ => isBoxS (by repeat (first | exact At.z | apply At.s)) (k := 4) (by repeat (first | exact Cut.d | apply Cut.t | apply Cut.s))) TOk.d)) ?_
      refine eaB ?_; intro b6
      refine dfB 3 (by kernel_rfl) ?_
      refine doRB rfl (o_call (is := []) Tryz.call12 (c_New7 q yq hq) rfl rfl (by repeat (first | exact Sub.d | (refine Sub.s ?_ ?_; (repeat (first | exact In.z | apply In.s))) | (refine Sub.suf ?_; (repeat (first | exact Suf.z | apply Suf.s))))) rfl) (TOk.xP 1 [] (by kernel_rfl) (TOk.xP 3 [] (by kernel_rfl) TOk.d)) ?_
      refine eaB ?_; intro y24
      refine dfB 4 (by kernel_rfl) ?_
      refine doRB rfl (o_call (is := []) Tryz.call17 (c_nSwap p q y22 y24 hp hq) rfl rfl (by repeat (first | exact Sub.d | (refine Sub.s ?_ ?_; (repeat (first | exact In.z | apply In.s))) | (refine Sub.suf ?_; (repeat (first | exact Suf.z | apply Suf.s))))) rfl) (TOk.xP 1 [] (by kernel_rfl) (TOk.xP 3 [] (by kernel_rfl) TOk.d)) ?_
      refine eaB ?_; rintro ⟨⟨⟨r1, r2, r3⟩, z1, z2⟩, hr⟩
      obtain ⟨e1, e2⟩ := pswap_fit2 hr hp hq; dsimp only at hr e1 e2
      refine tkB 5 rfl (by kernel_rfl) (fun _ _ _ h => h) gnone (TTany _) (p_move rfl) rfl ?_
      refine tkB 6 rfl (by kernel_rfl) (fun _ _ _ h => h) gnone (TTany _) (p_ext rfl (by repeat (first | exact At.z | apply At.s))) rfl ?_
      refine tkB 7 rfl (by kernel_rfl) (fun _ _ _ h => h) gnone (TTany _) (p_ext rfl (by repeat (first | exact At.z | apply At.s))) rfl ?_
      refine tkB 8 rfl (by kernel_rfl) (fun _ _ _ h => h) gnone (TTany _) (p_ext rfl (by repeat (first | exact At.z | apply At.s))) rfl ?_
      refine dfB 11 (by kernel_rfl) ?_
      refine doRB rfl (o_st rfl Tryz.sizeOf31 rfl rfl rfl rfl rfl (by repeat (first | exact At.z | apply At.s)) (by repeat (first | exact Put.d | apply Put.t | apply Put.s)) (by repeat (first | exact SetAt.z | apply SetAt.s))) (TOk.xP 1 [] (by kernel_rfl) (TOk.xP 3 [] (by kernel_rfl) TOk.d)) ?_
      refine dfB 12 (by kernel_rfl) ?_
      refine doRB rfl (o_st rfl Tryz.sizeOf31 rfl rfl rfl rfl rfl (by repeat (first | exact At.z | apply At.s)) (by repeat (first | exact Put.d | apply Put.t | apply Put.s)) (by repeat (first | exact SetAt.z | apply SetAt.s))) (TOk.xP 1 [] (by kernel_rfl) (TOk.xP 3 [] (by kernel_rfl) TOk.d)) ?_
      refine tkB 13 rfl (by kernel_rfl) (fun _ _ _ h => h) gnone (TTany _) (p_asg rfl) rfl ?_
      refine dnB (by kernel_rfl) (nmid (fun a w h => by first | exact ⟨b5, b6, r1, r2, r3, z1, z2, hr, e1, e2, wk (is := [1, 0, 0, 0]) (by repeat (first | exact subσ.nil _ | refine subσ.cons rfl ?_)) rfl (by repeat (first | exact Sub.d | (refine Sub.s ?_ ?_; (repeat (first | exact In.z | apply In.s))) | (refine Sub.suf ?_; (repeat (first | exact Suf.z | apply Suf.s))))) a w h⟩ | exact ⟨b5, b6, r1, r2, r3, z1, z2, hr, e1, e2, wk (is := [0, 0, 0, 0]) (by repeat (first | exact subσ.nil _ | refine subσ.cons rfl ?_)) rfl (by repeat (first | exact Sub.d | (refine Sub.s ?_ ?_; (repeat (first | exact In.z | apply In.s))) | (refine Sub.suf ?_; (repeat (first | exact Suf.z | apply Suf.s))))) a w h⟩))
    ·
     refine doRB rfl (o_alloc Tryz.zeroValue31 rfl rfl) (TOk.xP 1 [] (by kernel_rfl) (TOk.t (isBoxE fun _ => isBoxS (by repeat (first | exact At.z | apply At.s)) (k := 4) (by repeat (first | exact Cut.d | apply Cut.t | apply Cut.s))) TOk.d)) ?_
     refine eaB ?_; intro b6
     refine dallB (is := [3, 9]) (by kernel_rfl) rfl ?_
     intro i hi; simp only [List.mem_cons, List.mem_nil_iff, or_false] at hi; rcases hi with rfl | rfl
     ·
      refine doRB rfl (o_call (is := []) Tryz.call12 (c_New7 q yq hq) rfl rfl (by repeat (first | exact Sub.d | (refine Sub.s ?_ ?_; (repeat (first | exact In.z | apply In.s))) | (refine Sub.suf ?_; (repeat (first | exact Suf.z | apply Suf.s))))) rfl) (TOk.xP 1 [] (by kernel_rfl) (TOk.xP 3 [] (by kernel_rfl) TOk.d)) ?_
      refine eaB ?_; intro y24
      refine dallB (is := [4, 9]) (by kernel_rfl) rfl ?_
      intro i hi; simp only [List.mem_cons, List.mem_nil_iff, or_false] at hi; rcases hi with rfl | rfl
      ·
       refine doRB rfl (o_call (is := []) Tryz.call17 (c_nSwap p q y22 y24 hp hq) rfl rfl (by repeat (first | exact Sub.d | (refine Sub.s ?_ ?_; (repeat (first | exact In.z | apply In.s))) | (refine Sub.suf ?_; (repeat (first | exact Suf.z | apply Suf.s))))) rfl) (TOk.xP 1 [] (by kernel_rfl) (TOk.xP 3 [] (by kernel_rfl) TOk.d)) ?_
       refine eaB ?_; rintro ⟨⟨⟨r1, r2, r3⟩, z1, z2⟩, hr⟩
       obtain ⟨e1, e2⟩ := pswap_fit2 hr hp hq; dsimp only at hr e1 e2
       refine tkB 5 rfl (by kernel_rfl) (fun _ _ _ h => h) gnone (TTany _) (p_move rfl) rfl ?_
       refine tkB 6 rfl (by kernel_rfl) (fun _ _ _ h => h) gnone (TTany _) (p_ext rfl (by repeat (first | exact At.z | apply At.s))) rfl ?_
       refine tkB 7 rfl (by kernel_rfl) (fun _ _ _ h => h) gnone (TTany _) (p_ext rfl (by repeat (first | exact At.z | apply At.s))) rfl ?_
       refine tkB 8 rfl (by kernel_rfl) (fun _ _ _ h => h) gnone (TTany _) (p_ext rfl (by repeat (first | exact At.z | apply At.s))) rfl ?_
       refine dfB 9 (by kernel_rfl) ?_
       refine doRB rfl (o_alloc Tryz.zeroValue31 rfl rfl) (TOk.xP 1 [] (by kernel_rfl) (TOk.xP 3 [] (by kernel_rfl) TOk.d)) ?_
       refine eaB ?_; intro b5
       refine dfB 11 (by kernel_rfl) ?_
       refine doRB rfl (o_st rfl Tryz.sizeOf31 rfl rfl rfl rfl rfl (by repeat (first | exact At.z | apply At.s)) (by repeat (first | exact Put.d | apply Put.t | apply Put.s)) (by repeat (first | exact SetAt.z | apply SetAt.s))) (TOk.xP 1 [] (by kernel_rfl) (TOk.xP 3 [] (by kernel_rfl) TOk.d)) ?_
       refine dfB 12 (by kernel_rfl) ?_
       refine doRB rfl (o_st rfl Tryz.sizeOf31 rfl rfl rfl rfl rfl (by repeat (first | exact At.z | apply At.s)) (by repeat (first | exact Put.d | apply Put.t | apply Put.s)) (by repeat (first | exact SetAt.z | apply SetAt.s))) (TOk.xP 1 [] (by kernel_rfl) (TOk.xP 3 [] (by kernel_rfl) TOk.d)) ?_
       refine tkB 13 rfl (by kernel_rfl) (fun _ _ _ h => h) gnone (TTany _) (p_asg rfl) rfl ?_
       refine dnB (by kernel_rfl) (nmid (fun a w h => by first | exact ⟨b5, b6, r1, r2, r3, z1, z2, hr, e1, e2, wk (is := [1, 0, 0, 0]) (by repeat (first | exact subσ.nil _ | refine subσ.cons rfl ?_)) rfl (by repeat (first | exact Sub.d | (refine Sub.s ?_ ?_; (repeat (first | exact In.z | apply In.s))) | (refine Sub.suf ?_; (repeat (first | exact Suf.z | apply Suf.s))))) a w h⟩ | exact ⟨b5, b6, r1, r2, r3, z1, z2, hr, e1, e2, wk (is := [0, 0, 0, 0]) (by repeat (first | exact subσ.nil _ | refine subσ.cons rfl ?_)) rfl (by repeat (first | exact Sub.d | (refine Sub.s ?_ ?_; (repeat (first | exact In.z | apply In.s))) | (refine Sub.suf ?_; (repeat (first | exact Suf.z | apply Suf.s))))) a w h⟩))
      ·
       refine doRB rfl (o_alloc Tryz.zeroValue31 rfl rfl) (TOk.xP 1 [] (by kernel_rfl) (TOk.xP 3 [] (by kernel_rfl) TOk.d)) ?_
       refine eaB ?_; intro b5
       refine dfB 4 (by kernel_rfl) ?_
       refine doRB rfl (o_call (is := []) Tryz.call17 (c_nSwap p q y22 y24 hp hq) rfl rfl (by repeat (first | exact Sub.d | (refine Sub.s ?_ ?_; (repeat (first | exact In.z | apply In.s))) | (refine Sub.suf ?_; (repeat (first | exact Suf.z | apply Suf.s))))) rfl) (TOk.xP 1 [] (by kernel_rfl) (TOk.xP 3 [] (by kernel_rfl) TOk.d)) ?_
       refine eaB ?_; rintro ⟨⟨⟨r1, r2, r3⟩, z1, z2⟩, hr⟩
       obtain ⟨e1, e2⟩ := pswap_fit2 hr hp hq; dsimp only at hr e1 e2
       refine tkB 5 rfl (by kernel_rfl) (fun _ _ _ h => h) gnone (TTany _) (p_move rfl) rfl ?_
       refine tkB 6 rfl (by kernel_rfl) (fun _ _ _ h => h) gnone (TTany _) (p_ext rfl (by repeat (first | exact At.z | apply At.s))) rfl ?_
       refine tkB 7 rfl (by kernel_rfl) (fun _ _ _ h => h) gnone (TTany _) (p_ext rfl (by repeat (first | exact At.z | apply At.s))) rfl ?_
       refine tkB 8 rfl (by kernel_rfl) (fun _ _ _ h => h) gnone (TTany _) (p_ext rfl (by repeat (first | exact At.z | apply At.s))) rfl ?_
       refine dfB 11 (by kernel_rfl) ?_
       refine doRB rfl (o_st rfl Tryz.sizeOf31 rfl rfl rfl rfl rfl (by repeat (first | exact At.z | apply At.s)) (by repeat (first | exact Put.d | apply Put.t | apply Put.s)) (by repeat (first | exact SetAt.z | apply SetAt.s))) (TOk.xP 1 [] (by kernel_rfl) (TOk.xP 3 [] (by kernel_rfl) TOk.d)) ?_
       refine dfB 12 (by kernel_rfl) ?_
       refine doRB rfl (o_st rfl Tryz.sizeOf31 rfl rfl rfl rfl rfl (by repeat (first | exact At.z | apply At.s)) (by repeat (first | exact Put.d | apply Put.t | apply Put.s)) (by repeat (first | exact SetAt.z | apply SetAt.s))) (TOk.xP 1 [] (by kernel_rfl) (TOk.xP 3 [] (by kernel_rfl) TOk.d)) ?_
       refine tkB 13 rfl (by kernel_rfl) (fun _ _ _ h => h) gnone (TTany _) (p_asg rfl) rfl ?_
       refine dnB (by kernel_rfl) (nmid (fun a w h => by first | exact ⟨b5, b6, r1, r2, r3, z1, z2, hr, e1, e2, wk (is := [1, 0, 0, 0]) (by repeat (first | exact subσ.nil _ | refine subσ.cons rfl ?_)) rfl (by repeat (first | exact Sub.d | (refine Sub.s ?_ ?_; (repeat (first | exact In.z | apply In.s))) | (refine Sub.suf ?_; (repeat (first | exact Suf.z | apply Suf.s))))) a w h⟩ | exact ⟨b5, b6, r1, r2, r3, z1, z2, hr, e1, e2, wk (is := [0, 0, 0, 0]) (by repeat (first | exact subσ.nil _ | refine subσ.cons rfl ?_)) rfl (by repeat (first | exact Sub.d | (refine Sub.s ?_ ?_; (repeat (first | exact In.z | apply In.s))) | (refine Sub.suf ?_; (repeat (first | exact Suf.z | apply Suf.s))))) a w h⟩))
     ·
      refine doRB rfl (o_alloc Tryz.zeroValue31 rfl rfl) (TOk.xP 1 [] (by kernel_rfl) (TOk.t (isBoxE fun _ => isBoxS (by repeat (first | exact At.z | apply At.s)) (k := 4) (by repeat (first | exact Cut.d | apply Cut.t | apply Cut.s))) TOk.d)) ?_
      refine eaB ?_; intro b5
      refine dfB 3 (by kernel_rfl) ?_
      refine doRB rfl (o_call (is := []) Tryz.call12 (c_New7 q yq hq) rfl rfl (by repeat (first | exact Sub.d | (refine Sub.s ?_ ?_; (repeat (first | exact In.z | apply In.s))) | (refine Sub.suf ?_; (repeat (first | exact Suf.z | apply Suf.s))))) rfl) (TOk.xP 1 [] (by kernel_rfl) (TOk.xP 3 [] (by kernel_rfl) TOk.d)) ?_
      refine eaB ?_; intro y24
      refine dfB 4 (by kernel_rfl) ?_
      refine doRB rfl (o_call (is := []) Tryz.call17 (c_nSwap p q y22 y24 hp hq) rfl rfl (by repeat (first | exact Sub.d | (refine Sub.s ?_ ?_; (repeat (first | exact In.z | apply In.s))) | (refine Sub.suf ?_; (repeat (first | exact Suf.z | apply Suf.s))))) rfl) (TOk.xP 1 [] (by kernel_rfl) (TOk.xP 3 [] (by kernel_rfl) TOk.d)) ?_
      refine eaB ?_; rintro ⟨⟨⟨r1, r2, r3⟩, z1, z2⟩, hr⟩
      obtain ⟨e1, e2⟩ := pswap_fit2 hr hp hq; dsimp only at hr e1 e2
      refine tkB 5 rfl (by kernel_rfl) (fun _ _ _ h => h) gnone (TTany _) (p_move rfl) rfl ?_
      refine tkB 6 rfl (by kernel_rfl) (fun _ _ _ h => h) gnone (TTany _) (p_ext rfl (by repeat (first | exact At.z | apply At.s))) rfl ?_
      refine tkB 7 rfl (by kernel_rfl) (fun _ _ _ h => h) gnone (TTany _) (p_ext rfl (by repeat (first | exact At.z | apply At.s))) rfl ?_
      refine tkB 8 rfl (by kernel_rfl) (fun _ _ _ h => h) gnone (TTany _) (p_ext rfl (by repeat (first | exact At.z | apply At.s))) rfl ?_
      refine dfB 11 (by kernel_rfl) ?_
      refine doRB rfl (o_st rfl Tryz.sizeOf31 rfl rfl rfl rfl rfl (by repeat (first | exact At.z | apply At.s)) (by repeat (first | exact Put.d | apply Put.t | apply Put.s)) (by repeat (first | exact SetAt.z | apply SetAt.s))) (TOk.xP 1 [] (by kernel_rfl) (TOk.xP 3 [] (by kernel_rfl) TOk.d)) ?_
      refine dfB 12 (by kernel_rfl) ?_
      refine doRB rfl (o_st rfl Tryz.sizeOf31 rfl rfl rfl rfl rfl (by repeat (first | exact At.z | apply At.s)) (by repeat (first | exact Put.d | apply Put.t | apply Put.s)) (by repeat (first | exact SetAt.z | apply SetAt.s))) (TOk.xP 1 [] (by kernel_rfl) (TOk.xP 3 [] (by kernel_rfl) TOk.d)) ?_
      refine tkB 13 rfl (by kernel_rfl) (fun _ _ _ h => h) gnone (TTany _) (p_asg rfl) rfl ?_
      refine dnB (by kernel_rfl) (nmid (fun a w h => by first | exact ⟨b5, b6, r1, r2, r3, z1, z2, hr, e1, e2, wk (is := [1, 0, 0, 0]) (by repeat (first | exact subσ.nil _ | refine subσ.cons rfl ?_)) rfl (by repeat (first | exact Sub.d | (refine Sub.s ?_ ?_; (repeat (first | exact In.z | apply In.s))) | (refine Sub.suf ?_; (repeat (first | exact Suf.z | apply Suf.s))))) a w h⟩ | exact ⟨b5, b6, r1, r2, r3, z1, z2, hr, e1, e2, wk (is := [0, 0, 0, 0]) (by repeat (first | exact subσ.nil _ | refine subσ.cons rfl ?_)) rfl (by repeat (first | exact Sub.d | (refine Sub.s ?_ ?_; (repeat (first | exact In.z | apply In.s))) | (refine Sub.suf ?_; (repeat (first | exact Suf.z | apply Suf.s))))) a w h⟩))
   ·
    refine doRB rfl (o_alloc Tryz.zeroValue31 rfl rfl) (TOk.t (isBoxE fun _ => isBoxS (by repeat (first | exact At.z | apply At.s)) (k := 4) (by repeat (first | exact Cut.d | apply Cut.t | apply Cut.s))) (TOk.t (isBoxE fun _ => isBoxS (by repeat (first | exact At.z | apply At.s)) (k := 4) (by repeat (first | exact Cut.d | apply Cut.t | apply Cut.s))) TOk.d)) ?_
    refine eaB ?_; intro b5
    refine dallB (is := [1, 10]) (by kernel_rfl) rfl ?_
    intro i hi; simp only [List.mem_cons, List.mem_nil_iff, or_false] at hi; rcases hi with rfl | rfl
    ·
     refine doRB rfl (o_call (is := []) Tryz.call12 (c_New7 p yp hp) rfl rfl (by repeat (first | exact Sub.d | (refine Sub.s ?_ ?_; (repeat (first | exact In.z | apply In.s))) | (refine Sub.suf ?_; (repeat (first | exact Suf.z | apply Suf.s))))) rfl) (TOk.xP 1 [] (by kernel_rfl) (TOk.t (isBoxE fun _ => isBoxS (by repeat (first | exact At.z | apply At.s)) (k := 4) (by repeat (first | exact Cut.d | apply Cut.t | apply Cut.s))) TOk.d)) ?_
     refine eaB ?_; intro y22
     refine dallB (is := [3, 10]) (by kernel_rfl) rfl ?_
     intro i hi; simp only [List.mem_cons, List.mem_nil_iff, or_false] at hi; rcases hi with rfl | rfl
     ·
      refine doRB rfl (o_call (is := []) Tryz.call12 (c_New7 q yq hq) rfl rfl (by repeat (first | exact Sub.d | (refine Sub.s ?_ ?_; (repeat (first | exact In.z | apply In.s))) | (refine Sub.suf ?_; (repeat (first | exact Suf.z | apply Suf.s))))) rfl) (TOk.xP 1 [] (by kernel_rfl) (TOk.xP 3 [] (by kernel_rfl) TOk.d)) ?_
      refine eaB ?_; intro y24
      refine dallB (is := [4, 10]) (by kernel_rfl) rfl ?_
      intro i hi; simp only [List.mem_cons, List.mem_nil_iff, or_false] at hi; rcases hi with rfl | rfl
      ·
       refine doRB rfl (o_call (is := []) Tryz.call17 (c_nSwap p q y22 y24 hp hq) rfl rfl (by repeat (first | exact Sub.d | (refine Sub.s ?_ ?_; (repeat (first | exact In.z | apply In.s))) | (refine Sub.suf ?_; (repeat (first | exact Suf.z | apply Suf.s))))) rfl) (TOk.xP 1 [] (by kernel_rfl) (TOk.xP 3 [] (by kernel_rfl) TOk.d)) ?_
       refine eaB ?_; rintro ⟨⟨⟨r1, r2, r3⟩, z1, z2⟩, hr⟩
       obtain ⟨e1, e2⟩ := pswap_fit2 hr hp hq; dsimp only at hr e1 e2
       refine tkB 5 rfl (by kernel_rfl) (fun _ _ _ h => h) gnone (TTany _) (p_move rfl) rfl ?_
       refine tkB 6 rfl (by kernel_rfl) (fun _ _ _ h => h) gnone (TTany _) (p_ext rfl (by repeat (first | exact At.z | apply At.s))) rfl ?_
       refine tkB 7 rfl (by kernel_rfl) (fun _ _ _ h => h) gnone (TTany _) (p_ext rfl (by repeat (first | exact At.z | apply At.s))) rfl ?_
       refine tkB 8 rfl (by kernel_rfl) (fun _ _ _ h => h) gnone (TTany _) (p_ext rfl (by repeat (first | exact At.z | apply At.s))) rfl ?_
       refine dfB 10 (by kernel_rfl) ?_
       refine doRB rfl (o_alloc Tryz.zeroValue31 rfl rfl) (TOk.xP 1 [] (by kernel_rfl) (TOk.xP 3 [] (by kernel_rfl) TOk.d)) ?_
       refine eaB ?_; intro b6
       refine dfB 11 (by kernel_rfl) ?_
       refine doRB rfl (o_st rfl Tryz.sizeOf31 rfl rfl rfl rfl rfl (by repeat (first | exact At.z | apply At.s)) (by repeat (first | exact Put.d | apply Put.t | apply Put.s)) (by repeat (first | exact SetAt.z | apply SetAt.s))) (TOk.xP 1 [] (by kernel_rfl) (TOk.xP 3 [] (by kernel_rfl) TOk.d)) ?_
       refine dfB 12 (by kernel_rfl) ?_
       refine doRB rfl (o_st rfl Tryz.sizeOf31 rfl rfl rfl rfl rfl (by repeat (first | exact At.z | apply At.s)) (by repeat (first | exact Put.d | apply Put.t | apply Put.s)) (by repeat (first | exact SetAt.z | apply SetAt.s))) (TOk.xP 1 [] (by kernel_rfl) (TOk.xP 3 [] (by kernel_rfl) TOk.d)) ?_
       refine tkB 13 rfl (by kernel_rfl) (fun _ _ _ h => h) gnone (TTany _) (p_asg rfl) rfl ?_
       refine dnB (by kernel_rfl) (nmid (fun a w h => by first | exact ⟨b5, b6, r1, r2, r3, z1, z2, hr, e1, e2, wk (is := [1, 0, 0, 0]) (by repeat (first | exact subσ.nil _ | refine subσ.cons rfl ?_)) rfl (by repeat (first | exact Sub.d | (refine Sub.s ?_ ?_; (repeat (first | exact In.z | apply In.s))) | (refine Sub.suf ?_; (repeat (first | exact Suf.z | apply Suf.s))))) a w h⟩ | exact ⟨b5, b6, r1, r2, r3, z1, z2, hr, e1, e2, wk (is := [0, 0, 0, 0]) (by repeat (first | exact subσ.nil _ | refine subσ.cons rfl ?_)) rfl (by repeat (first | exact Sub.d | (refine Sub.s ?_ ?_; (repeat (first | exact In.z | apply In.s))) | (refine Sub.suf ?_; (repeat (first | exact Suf.z | apply Suf.s))))) a w h⟩))
      ·
       refine doRB rfl (o_alloc Tryz.zeroValue31 rfl rfl) (TOk.xP 1 [] (by kernel_rfl) (TOk.xP 3 [] (by kernel_rfl) TOk.d)) ?_
       refine eaB ?_; intro b6
       refine dfB 4 (by kernel_rfl) ?_
       refine doRB rfl (o_call (is := []) Tryz.call17 (c_nSwap p q y22 y24 hp hq) rfl rfl (by repeat (first | exact Sub.d | (refine Sub.s ?_ ?_; (repeat (first | exact In.z | apply In.s))) | (refine Sub.suf ?_; (repeat (first | exact Suf.z | apply Suf.s))))) rfl) (TOk.xP 1 [] (by kernel_rfl) (TOk.xP 3 [] (by kernel_rfl) TOk.d)) ?_
       refine eaB ?_; rintro ⟨⟨⟨r1, r2, r3⟩, z1, z2⟩, hr⟩
       obtain ⟨e1, e2⟩ := pswap_fit2 hr hp hq; dsimp only at hr e1 e2
       refine tkB 5 rfl (by kernel_rfl) (fun _ _ _ h => h) gnone (TTany _) (p_move rfl) rfl ?_
       refine tkB 6 rfl (by kernel_rfl) (fun _ _ _ h => h) gnone (TTany _) (p_ext rfl (by repeat (first | exact At.z | apply At.s))) rfl ?_
       refine tkB 7 rfl (by kernel_rfl) (fun _ _ _ h => h) gnone (TTany _) (p_ext rfl (by repeat (first | exact At.z | apply At.s))) rfl ?_
       refine tkB 8 rfl (by kernel_rfl) (fun _ _ _ h => h) gnone (TTany _) (p_ext rfl (by repeat (first | exact At.z | apply At.s))) rfl ?_
       refine dfB 11 (by kernel_rfl) ?_
       refine doRB rfl (o_st rfl Tryz.sizeOf31 rfl rfl rfl rfl rfl (by repeat (first | exact At.z | apply At.s)) (by repeat (first | exact Put.d | apply Put.t | apply Put.s)) (by repeat (first | exact SetAt.z | apply SetAt.s))) (TOk.xP 1 [] (by kernel_rfl) (TOk.xP 3 [] (by kernel_rfl) TOk.d)) ?_
       refine dfB 12 (by kernel_rfl) ?_
       refine doRB rfl (o_st rfl Tryz.sizeOf31 rfl rfl rfl rfl rfl (by repeat (first | exact At.z | apply At.s)) (by repeat (first | exact Put.d | apply Put.t | apply Put.s)) (by repeat (first | exact SetAt.z | apply SetAt.s))) (TOk.xP 1 [] (by kernel_rfl) (TOk.xP 3 [] (by kernel_rfl) TOk.d)) ?_
       refine tkB 13 rfl (by kernel_rfl) (fun _ _ _ h => h) gnone (TTany _) (p_asg rfl) rfl ?_
       refine dnB (by kernel_rfl) (nmid (fun a w h => by first | exact ⟨b5, b6, r1, r2, r3, z1, z2, hr, e1, e2, wk (is := [1, 0, 0, 0]) (by repeat (first | exact subσ.nil _ | refine subσ.cons rfl ?_)) rfl (by repeat (first | exact Sub.d | (refine Sub.s ?_ ?_; (repeat (first | exact In.z | apply In.s))) | (refine Sub.suf ?_; (repeat (first | exact Suf.z | apply Suf.s))))) a w h⟩ | exact ⟨b5, b6, r1, r2, r3, z1, z2, hr, e1, e2, wk (is := [0, 0, 0, 0]) (by repeat (first | exact subσ.nil _ | refine subσ.cons rfl ?_)) rfl (by repeat (first | exact Sub.d | (refine Sub.s ?_ ?_; (repeat (first | exact In.z | apply In.s))) | (refine Sub.suf ?_; (repeat (first | exact Suf.z | apply Suf.s))))) a w h⟩))
     ·
      refine doRB rfl (o_alloc Tryz.zeroValue31 rfl rfl) (TOk.xP 1 [] (by kernel_rfl) (TOk.t (isBoxE fun _ => isBoxS (by repeat (first | exact At.z | apply At.s)) (k := 4) (by repeat (first | exact Cut.d | apply Cut.t | apply Cut.s))) TOk.d)) ?_
      refine eaB ?_; intro b6
      refine dfB 3 (by kernel_rfl) ?_
      refine doRB rfl (o_call (is := []) Tryz.call12 (c_New7 q yq hq) rfl rfl (by repeat (first | exact Sub.d | (refine Sub.s ?_ ?_; (repeat (first | exact In.z | apply In.s))) | (refine Sub.suf ?_; (repeat (first | exact Suf.z | apply Suf.s))))) rfl) (TOk.xP 1 [] (by kernel_rfl) (TOk.xP 3 [] (by kernel_rfl) TOk.d)) ?_
      refine eaB ?_; intro y24
      refine dfB 4 (by kernel_rfl) ?_
      refine doRB rfl (o_call (is := []) Tryz.call17 (c_nSwap p q y22 y24 hp hq) rfl rfl (by repeat (first | exact Sub.d | (refine Sub.s ?_ ?_; (repeat (first | exact In.z | apply In.s))) | (refine Sub.suf ?_; (repeat (first | exact Suf.z | apply Suf.s))))) rfl) (TOk.xP 1 [] (by kernel_rfl) (TOk.xP 3 [] (by kernel_rfl) TOk.d)) ?_
      refine eaB ?_; rintro ⟨⟨⟨r1, r2, r3⟩, z1, z2⟩, hr⟩
      obtain ⟨e1, e2⟩ := pswap_fit2 hr hp hq; dsimp only at hr e1 e2
      refine tkB 5 rfl (by kernel_rfl) (fun _ _ _ h => h) gnone (TTany _) (p_move rfl) rfl ?_
      refine tkB 6 rfl (by kernel_rfl) (fun _ _ _ h => h) gnone (TTany _) (p_ext rfl (by repeat (first | exact At.z | apply At.s))) rfl ?_
      refine tkB 7 rfl (by kernel_rfl) (fun _ _ _ h => h) gnone (TTany _) (p_ext rfl (by repeat (first | exact At.z | apply At.s))) rfl ?_
      refine tkB 8 rfl (by kernel_rfl) (fun _ _ _ h => h) gnone (TTany _) (p_ext rfl (by repeat (first | exact At.z | apply At.s))) rfl ?_
      refine dfB 11 (by kernel_rfl) ?_
      refine doRB rfl (o_st rfl Tryz.sizeOf31 rfl rfl rfl rfl rfl (by repeat (first | exact At.z | apply At.s)) (by repeat (first | exact Put.d | apply Put.t | apply Put.s)) (by repeat (first | exact SetAt.z | apply SetAt.s))) (TOk.xP 1 [] (by kernel_rfl) (TOk.xP 3 [] (by kernel_rfl) TOk.d)) ?_
      refine dfB 12 (by kernel_rfl) ?_
      refine doRB rfl (o_st rfl Tryz.sizeOf31 rfl rfl rfl rfl rfl (by repeat (first | exact At.z | apply At.s)) (by repeat (first | exact Put.d | apply Put.t | apply Put.s)) (by repeat (first | exact SetAt.z | apply SetAt.s))) (TOk.xP 1 [] (by kernel_rfl) (TOk.xP 3 [] (by kernel_rfl) TOk.d)) ?_
      refine tkB 13 rfl (by kernel_rfl) (fun _ _ _ h => h) gnone (TTany _) (p_asg rfl) rfl ?_
      refine dnB (by kernel_rfl) (nmid (fun a w h => by first | exact ⟨b5, b6, r1, r2, r3, z1, z2, hr, e1, e2, wk (is := [1, 0, 0, 0]) (by repeat (first | exact subσ.nil _ | refine subσ.cons rfl ?_)) rfl (by repeat (first | exact Sub.d | (refine Sub.s ?_ ?_; (repeat (first | exact In.z | apply In.s))) | (refine Sub.suf ?_; (repeat (first | exact Suf.z | apply Suf.s))))) a w h⟩ | exact ⟨b5, b6, r1, r2, r3, z1, z2, hr, e1, e2, wk (is := [0, 0, 0, 0]) (by repeat (first | exact subσ.nil _ | refine subσ.cons rfl ?_)) rfl (by repeat (first | exact Sub.d | (refine Sub.s ?_ ?_; (repeat (first | exact In.z | apply In.s))) | (refine Sub.suf ?_; (repeat (first | exact Suf.z | apply Suf.s))))) a w h⟩))
    ·
     refine doRB rfl (o_alloc Tryz.zeroValue31 rfl rfl) (TOk.t (isBoxE fun _ => isBoxS (by repeat (first | exact At.z | apply At.s)) (k := 4) (by repeat (first | exact Cut.d | apply Cut.t | apply Cut.s))) (TOk.t (isBoxE fun _ => isBoxS (by repeat (first | exact At.z | apply At.s)) (k := 4) (by repeat (first | exact Cut.d | apply Cut.t | apply Cut.s))) TOk.d)) ?_
     refine eaB ?_; intro b6
     refine dfB 1 (by kernel_rfl) ?_
     refine doRB rfl (o_call (is := []) Tryz.call12 (c_New7 p yp hp) rfl rfl (by repeat (first | exact Sub.d | (refine Sub.s ?_ ?_; (repeat (first | exact In.z | apply In.s))) | (refine Sub.suf ?_; (repeat (first | exact Suf.z | apply Suf.s))))) rfl) (TOk.xP 1 [] (by kernel_rfl) (TOk.t (isBoxE fun _ => isBoxS (by repeat (first | exact At.z | apply At.s)) (k := 4) (by repeat (first | exact Cut.d | apply Cut.t | apply Cut.s))) TOk.d)) ?_
     refine eaB ?_; intro y22
     refine dfB 3 (by kernel_rfl) ?_
     refine doRB rfl (o_call (is := []) Tryz.call12 (c_New7 q yq hq) rfl rfl (by repeat (first | exact Sub.d | (refine Sub.s ?_ ?_; (repeat (first | exact In.z | apply In.s))) | (refine Sub.suf ?_; (repeat (first | exact Suf.z | apply Suf.s))))) rfl) (TOk.xP 1 [] (by kernel_rfl) (TOk.xP 3 [] (by kernel_rfl) TOk.d)) ?_
     refine eaB ?_; intro y24
     refine dfB 4 (by kernel_rfl) ?_
     refine doRB rfl (o_call (is := []) Tryz.call17 (c_nSwap p q y22 y24 hp hq) rfl rfl (by repeat (first | exact Sub.d | (refine Sub.s ?_ ?_; (repeat (first | exact In.z | apply In.s))) | (refine Sub.suf ?_; (repeat (first | exact Suf.z | apply Suf.s))))) rfl) (TOk.xP 1 [] (by kernel_rfl) (TOk.xP 3 [] (by kernel_rfl) TOk.d)) ?_
     refine eaB ?_; rintro ⟨⟨⟨r1, r2, r3⟩, z1, z2⟩, hr⟩
     obtain ⟨e1, e2⟩ := pswap_fit2 hr hp hq; dsimp only at hr e1 e2
     refine tkB 5 rfl (by kernel_rfl) (fun _ _ _ h => h) gnone (TTany _) (p_move rfl) rfl ?_
     refine tkB 6 rfl (by kernel_rfl) (fun _ _ _ h => h) gnone (TTany _) (p_ext rfl (by repeat (first | exact At.z | apply At.s))) rfl ?_
     refine tkB 7 rfl (by kernel_rfl) (fun _ _ _ h => h) gnone (TTany _) (p_ext rfl (by repeat (first | exact At.z | apply At.s))) rfl ?_
     refine tkB 8 rfl (by kernel_rfl) (fun _ _ _ h => h) gnone (TTany _) (p_ext rfl (by repeat (first | exact At.z | apply At.s))) rfl ?_
     refine dfB 11 (by kernel_rfl) ?_
     refine doRB rfl (o_st rfl Tryz.sizeOf31 rfl rfl rfl rfl rfl (by repeat (first | exact At.z | apply At.s)) (by repeat (first | exact Put.d | apply Put.t | apply Put.s)) (by repeat (first | exact SetAt.z | apply SetAt.s))) (TOk.xP 1 [] (by kernel_rfl) (TOk.xP 3 [] (by kernel_rfl) TOk.d)) ?_
     refine dfB 12 (by kernel_rfl) ?_
     refine doRB rfl (o_st rfl Tryz.sizeOf31 rfl rfl rfl rfl rfl (by repeat (first | exact At.z | apply At.s)) (by repeat (first | exact Put.d | apply Put.t | apply Put.s)) (by repeat (first | exact SetAt.z | apply SetAt.s))) (TOk.xP 1 [] (by kernel_rfl) (TOk.xP 3 [] (by kernel_rfl) TOk.d)) ?_
     refine tkB 13 rfl (by kernel_rfl) (fun _ _ _ h => h) gnone (TTany _) (p_asg rfl) rfl ?_
     refine dnB (by kernel_rfl) (nmid (fun a w h => by first | exact ⟨b5, b6, r1, r2, r3, z1, z2, hr, e1, e2, wk (is := [1, 0, 0, 0]) (by repeat (first | exact subσ.nil _ | refine subσ.cons rfl ?_)) rfl (by repeat (first | exact Sub.d | (refine Sub.s ?_ ?_; (repeat (first | exact In.z | apply In.s))) | (refine Sub.suf ?_; (repeat (first | exact Suf.z | apply Suf.s))))) a w h⟩ | exact ⟨b5, b6, r1, r2, r3, z1, z2, hr, e1, e2, wk (is := [0, 0, 0, 0]) (by repeat (first | exact subσ.nil _ | refine subσ.cons rfl ?_)) rfl (by repeat (first | exact Sub.d | (refine Sub.s ?_ ?_; (repeat (first | exact In.z | apply In.s))) | (refine Sub.suf ?_; (repeat (first | exact Suf.z | apply Suf.s))))) a w h⟩))
   ·
    refine doRB rfl (o_alloc Tryz.zeroValue31 rfl rfl) (TOk.t (isBoxE fun _ => isBoxS (by repeat (first | exact At.z | apply At.s)) (k := 4) (by repeat (first | exact Cut.d | apply Cut.t | apply Cut.s))) (TOk.t (isBoxE fun _ => isBoxS (by repeat (first | exact At.z | apply At.s)) (k := 4) (by repeat (first | exact Cut.d | apply Cut.t | apply Cut.s))) TOk.d)) ?_
    refine eaB ?_; intro b6
    refine dallB (is := [1, 9]) (by kernel_rfl) rfl ?_
    intro i hi; simp only [List.mem_cons, List.mem_nil_iff, or_false] at hi; rcases hi with rfl | rfl
    ·
     refine doRB rfl (o_call (is := []) Tryz.call12 (c_New7 p yp hp) rfl rfl (by repeat (first | exact Sub.d | (refine Sub.s ?_ ?_; (repeat (first | exact In.z | apply In.s))) | (refine Sub.suf ?_; (repeat (first | exact Suf.z | apply Suf.s))))) rfl) (TOk.xP 1 [] (by kernel_rfl) (TOk.t (isBoxE fun _ => isBoxS (by repeat (first | exact At.z | apply At.s)) (k := 4) (by repeat (first | exact Cut.d | apply Cut.t | apply Cut.s))) TOk.d)) ?_
     refine eaB ?_; intro y22
     refine dallB (is := [3, 9]) (by kernel_rfl) rfl ?_
     intro i hi; simp only [List.mem_cons, List.mem_nil_iff, or_false] at hi; rcases hi with rfl | rfl
     ·
      refine doRB rfl (o_call (is := []) Tryz.call12 (c_New7 q yq hq) rfl rfl (by repeat (first | exact Sub.d | (refine Sub.s ?_ ?_; (repeat (first | exact In.z | apply In.s))) | (refine Sub.suf ?_; (repeat (first | exact Suf.z | apply Suf.s))))) rfl) (TOk.xP 1 [] (by kernel_rfl) (TOk.xP 3 [] (by kernel_rfl) TOk.d)) ?_
      refine eaB ?_; intro y24
      refine dallB (is := [4, 9]) (by kernel_rfl) rfl ?_
      intro i hi; simp only [List.mem_cons, List.mem_nil_iff, or_false] at hi; rcases hi with rfl | rfl
      ·
       refine doRB rfl (o_call (is := []) Tryz.call17 (c_nSwap p q y22 y24 hp hq) rfl rfl (by repeat (first | exact Sub.d | (refine Sub.s ?_ ?_; (repeat (first | exact In.z | apply In.s))) | (refine Sub.suf ?_; (repeat (first | exact Suf.z | apply Suf.s))))) rfl) (TOk.xP 1 [] (by kernel_rfl) (TOk.xP 3 [] (by kernel_rfl) TOk.d)) ?_
       refine eaB ?_; rintro ⟨⟨⟨r1, r2, r3⟩, z1, z2⟩, hr⟩
       obtain ⟨e1, e2⟩ := pswap_fit2 hr hp hq; dsimp only at hr e1 e2
       refine tkB 5 rfl (by kernel_rfl) (fun _ _ _ h => h) gnone (TTany _) (p_move rfl) rfl ?_
       refine tkB 6 rfl (by kernel_rfl) (fun _ _ _ h => h) gnone (TTany _) (p_ext rfl (by repeat (first | exact At.z | apply At.s))) rfl ?_
       refine tkB 7 rfl (by kernel_rfl) (fun _ _ _ h => h) gnone (TTany _) (p_ext rfl (by repeat (first | exact At.z | apply At.s))) rfl ?_
       refine tkB 8 rfl (by kernel_rfl) (fun _ _ _ h => h) gnone (TTany _) (p_ext rfl (by repeat (first | exact At.z | apply At.s))) rfl ?_
       refine dfB 9 (by kernel_rfl) ?_
       refine doRB rfl (o_alloc Tryz.zeroValue31 rfl rfl) (TOk.xP 1 [] (by kernel_rfl) (TOk.xP 3 [] (by kernel_rfl) TOk.d)) ?_
       refine eaB ?_; intro b5
       refine dfB 11 (by kernel_rfl) ?_
       refine doRB rfl (o_st rfl Tryz.sizeOf31 rfl rfl rfl rfl rfl (by repeat (first | exact At.z | apply At.s)) (by repeat (first | exact Put.d | apply Put.t | apply Put.s)) (by repeat (first | exact SetAt.z | apply SetAt.s))) (TOk.xP 1 [] (by kernel_rfl) (TOk.xP 3 [] (by kernel_rfl) TOk.d)) ?_
       refine dfB 12 (by kernel_rfl) ?_
       refine doRB rfl (o_st rfl Tryz.sizeOf31 rfl rfl rfl rfl rfl (by repeat (first | exact At.z | apply At.s)) (by repeat (first | exact Put.d | apply Put.t | apply Put.s)) (by repeat (first | exact SetAt.z | apply SetAt.s))) (TOk.xP 1 [] (by kernel_rfl) (TOk.xP 3 [] (by kernel_rfl) TOk.d)) ?_
       refine tkB 13 rfl (by kernel_rfl) (fun _ _ _ h => h) gnone (TTany _) (p_asg rfl) rfl ?_
       refine dnB (by kernel_rfl) (nmid (fun a w h => by first | exact ⟨b5, b6, r1, r2, r3, z1, z2, hr, e1, e2, wk (is := [1, 0, 0, 0]) (by repeat (first | exact subσ.nil _ | refine subσ.cons rfl ?_)) rfl (by repeat (first | exact Sub.d | (refine Sub.s ?_ ?_; (repeat (first | exact In.z | apply In.s))) | (refine Sub.suf ?_; (repeat (first | exact Suf.z | apply Suf.s))))) a w h⟩ | exact ⟨b5, b6, r1, r2, r3, z1, z2, hr, e1, e2, wk (is := [0, 0, 0, 0]) (by repeat (first | exact subσ.nil _ | refine subσ.cons rfl ?_)) rfl (by repeat (first | exact Sub.d | (refine Sub.s ?_ ?_; (repeat (first | exact In.z | apply In.s))) | (refine Sub.suf ?_; (repeat (first | exact Suf.z | apply Suf.s))))) a w h⟩))
      ·
       refine doRB rfl (o_alloc Tryz.zeroValue31 rfl rfl) (TOk.xP 1 [] (by kernel_rfl) (TOk.xP 3 [] (by kernel_rfl) TOk.d)) ?_
       refine eaB ?_; intro b5
       refine dfB 4 (by kernel_rfl) ?_
       refine doRB rfl (o_call (is := []) Tryz.call17 (c_nSwap p q y22 y24 hp hq) rfl rfl (by repeat (first | exact Sub.d | (refine Sub.s ?_ ?_; (repeat (first | exact In.z | apply In.s))) | (refine Sub.suf ?_; (repeat (first | exact Suf.z | apply Suf.s))))) rfl) (TOk.xP 1 [] (by kernel_rfl) (TOk.xP 3 [] (by kernel_rfl) TOk.d)) ?_
       refine eaB ?_; rintro ⟨⟨⟨r1, r2, r3⟩, z1, z2⟩, hr⟩
       obtain ⟨e1, e2⟩ := pswap_fit2 hr hp hq; dsimp only at hr e1 e2
       refine tkB 5 rfl (by kernel_rfl) (fun _ _ _ h => h) gnone (TTany _) (p_move rfl) rfl ?_
       refine tkB 6 rfl (by kernel_rfl) (fun _ _ _ h => h) gnone (TTany _) (p_ext rfl (by repeat (first | exact At.z | apply At.s))) rfl ?_
       refine tkB 7 rfl (by kernel_rfl) (fun _ _ _ h => h) gnone (TTany _) (p_ext rfl (by repeat (first | exact At.z | apply At.s))) rfl ?_
       refine tkB 8 rfl (by kernel_rfl) (fun _ _ _ h => h) gnone (TTany _) (p_ext rfl (by repeat (first | exact At.z | apply At.s))) rfl ?_
       refine dfB 11 (by kernel_rfl) ?_
       refine doRB rfl (o_st rfl Tryz.sizeOf31 rfl rfl rfl rfl rfl (by repeat (first | exact At.z | apply At.s)) (by repeat (first | exact Put.d | apply Put.t | apply Put.s)) (by repeat (first | exact SetAt.z | apply SetAt.s))) (TOk.xP 1 [] (by kernel_rfl) (TOk.xP 3 [] (by kernel_rfl) TOk.d)) ?_
       refine dfB 12 (by kernel_rfl) ?_
       refine doRB rfl (o_st rfl Tryz.sizeOf31 rfl rfl rfl rfl rfl (by repeat (first | exact At.z | apply At.s)) (by repeat (first | exact Put.d | apply Put.t | apply Put.s)) (by repeat (first | exact SetAt.z | apply SetAt.s))) (TOk.xP 1 [] (by kernel_rfl) (TOk.xP 3 [] (by kernel_rfl) TOk.d)) ?_
       refine tkB 13 rfl (by kernel_rfl) (fun _ _ _ h => h) gnone (TTany _) (p_asg rfl) rfl ?_
       refine dnB (by kernel_rfl) (nmid (fun a w h => by first | exact ⟨b5, b6, r1, r2, r3, z1, z2, hr, e1, e2, wk (is := [1, 0, 0, 0]) (by repeat (first | exact subσ.nil _ | refine subσ.cons rfl ?_)) rfl (by repeat (first | exact Sub.d | (refine Sub.s ?_ ?_; (repeat (first | exact In.z | apply In.s))) | (refine Sub.suf ?_; (repeat (first | exact Suf.z | apply Suf.s))))) a w h⟩ | exact ⟨b5, b6, r1, r2, r3, z1, z2, hr, e1, e2, wk (is := [0, 0, 0, 0]) (by repeat (first | exact subσ.nil _ | refine subσ.cons rfl ?_)) rfl (by repeat (first | exact Sub.d | (refine Sub.s ?_ ?_; (repeat (first | exact In.z | apply In.s))) | (refine Sub.suf ?_; (repeat (first | exact Suf.z | apply Suf.s))))) a w h⟩))
     ·
      refine doRB rfl (o_alloc Tryz.zeroValue31 rfl rfl) (TOk.xP 1 [] (by kernel_rfl) (TOk.t (isBoxE fun _ => isBoxS (by repeat (first | exact At.z | apply At.s)) (k := 4) (by repeat (first | exact Cut.d | apply Cut.t | apply Cut.s))) TOk.d)) ?_
      refine eaB ?_; intro b5
      refine dfB 3 (by kernel_rfl) ?_
      refine doRB rfl (o_call (is := []) Tryz.call12 (c_New7 q yq hq) rfl rfl (by repeat (first | exact Sub.d | (refine Sub.s ?_ ?_; (repeat (first | exact In.z | apply In.s))) | (refine Sub.suf ?_; (repeat (first | exact Suf.z | apply Suf.s))))) rfl) (TOk.xP 1 [] (by kernel_rfl) (TOk.xP 3 [] (by kernel_rfl) TOk.d)) ?_
      refine eaB ?_; intro y24
      refine dfB 4 (by kernel_rfl) ?_
      refine doRB rfl (o_call (is := []) Tryz.call17 (c_nSwap p q y22 y24 hp hq) rfl rfl (by repeat (first | exact Sub.d | (refine Sub.s ?_ ?_; (repeat (first | exact In.z | apply In.s))) | (refine Sub.suf ?_; (repeat (first | exact Suf.z | apply Suf.s))))) rfl) (TOk.xP 1 [] (by kernel_rfl) (TOk.xP 3 [] (by kernel_rfl) TOk.d)) ?_
      refine eaB ?_; rintro ⟨⟨⟨r1, r2, r3⟩, z1, z2⟩, hr⟩
      obtain ⟨e1, e2⟩ := pswap_fit2 hr hp hq; dsimp only at hr e1 e2
      refine tkB 5 rfl (by kernel_rfl) (fun _ _ _ h => h) gnone (TTany _) (p_move rfl) rfl ?_
      refine tkB 6 rfl (by kernel_rfl) (fun _ _ _ h => h) gnone (TTany _) (p_ext rfl (by repeat (first | exact At.z | apply At.s))) rfl ?_
      refine tkB 7 rfl (by kernel_rfl) (fun _ _ _ h => h) gnone (TTany _) (p_ext rfl (by repeat (first | exact At.z | apply At.s))) rfl ?_
      refine tkB 8 rfl (by kernel_rfl) (fun _ _ _ h => h) gnone (TTany _) (p_ext rfl (by repeat (first | exact At.z | apply At.s))) rfl ?_
      refine dfB 11 (by kernel_rfl) ?_
      refine doRB rfl (o_st rfl Tryz.sizeOf31 rfl rfl rfl rfl rfl (by repeat (first | exact At.z | apply At.s)) (by repeat (first | exact Put.d | apply Put.t | apply Put.s)) (by repeat (first | exact SetAt.z | apply SetAt.s))) (TOk.xP 1 [] (by kernel_rfl) (TOk.xP 3 [] (by kernel_rfl) TOk.d)) ?_
      refine dfB 12 (by kernel_rfl) ?_
      refine doRB rfl (o_st rfl Tryz.sizeOf31 rfl rfl rfl rfl rfl (by repeat (first | exact At.z | apply At.s)) (by repeat (first | exact Put.d | apply Put.t | apply Put.s)) (by repeat (first | exact SetAt.z | apply SetAt.s))) (TOk.xP 1 [] (by kernel_rfl) (TOk.xP 3 [] (by kernel_rfl) TOk.d)) ?_
      refine tkB 13 rfl (by kernel_rfl) (fun _ _ _ h => h) gnone (TTany _) (p_asg rfl) rfl ?_
      refine dnB (by kernel_rfl) (nmid (fun a w h => by first | exact ⟨b5, b6, r1, r2, r3, z1, z2, hr, e1, e2, wk (is := [1, 0, 0, 0]) (by repeat (first | exact subσ.nil _ | refine subσ.cons rfl ?_)) rfl (by repeat (first | exact Sub.d | (refine Sub.s ?_ ?_; (repeat (first | exact In.z | apply In.s))) | (refine Sub.suf ?_; (repeat (first | exact Suf.z | apply Suf.s))))) a w h⟩ | exact ⟨b5, b6, r1, r2, r3, z1, z2, hr, e1, e2, wk (is := [0, 0, 0, 0]) (by repeat (first | exact subσ.nil _ | refine subσ.cons rfl ?_)) rfl (by repeat (first | exact Sub.d | (refine Sub.s ?_ ?_; (repeat (first | exact In.z | apply In.s))) | (refine Sub.suf ?_; (repeat (first | exact Suf.z | apply Suf.s))))) a w h⟩))
    ·
     refine doRB rfl (o_alloc Tryz.zeroValue31 rfl rfl) (TOk.t (isBoxE fun _ => isBoxS (by repeat (first | exact At.z | apply At.s)) (k := 4) (by repeat (first | exact Cut.d | apply Cut.t | apply Cut.s))) (TOk.t (isBoxE fun _ => isBoxS (by repeat (first | exact At.z | apply At.s)) (k := 4) (by repeat (first | exact Cut.d | apply Cut.t | apply Cut.s))) TOk.d)) ?_
     refine eaB ?_; intro b5
     refine dfB 1 (by kernel_rfl) ?_
     refine doRB rfl (o_call (is := []) Tryz.call12 (c_New7 p yp hp) rfl rfl (by repeat (first | exact Sub.d | (refine Sub.s ?_ ?_; (repeat (first | exact In.z | apply In.s))) | (refine Sub.suf ?_; (repeat (first | exact Suf.z | apply Suf.s))))) rfl) (TOk.xP 1 [] (by kernel_rfl) (TOk.t (isBoxE fun _ => isBoxS (by repeat (first | exact At.z | apply At.s)) (k := 4) (by repeat (first | exact Cut.d | apply Cut.t | apply Cut.s))) TOk.d)) ?_
     refine eaB ?_; intro y22
     refine dfB 3 (by kernel_rfl) ?_
     refine doRB rfl (o_call (is := []) Tryz.call12 (c_New7 q yq hq) rfl rfl (by repeat (first | exact Sub.d | (refine Sub.s ?_ ?_; (repeat (first | exact In.z | apply In.s))) | (refine Sub.suf ?_; (repeat (first | exact Suf.z | apply Suf.s))))) rfl) (TOk.xP 1 [] (by kernel_rfl) (TOk.xP 3 [] (by kernel_rfl) TOk.d)) ?_
     refine eaB ?_; intro y24
     refine dfB 4 (by kernel_rfl) ?_
     refine doRB rfl (o_call (is := []) Tryz.call17 (c_nSwap p q y22 y24 hp hq) rfl rfl (by repeat (first | exact Sub.d | (refine Sub.s ?_ ?_; (repeat (first | exact In.z | apply In.s))) | (refine Sub.suf ?_; (repeat (first | exact Suf.z | apply Suf.s))))) rfl) (TOk.xP 1 [] (by kernel_rfl) (TOk.xP 3 [] (by kernel_rfl) TOk.d)) ?_
     refine eaB ?_; rintro ⟨⟨⟨r1, r2, r3⟩, z1, z2⟩, hr⟩
     obtain ⟨e1, e2⟩ := pswap_fit2 hr hp hq; dsimp only at hr e1 e2
     refine tkB 5 rfl (by kernel_rfl) (fun _ _ _ h => h) gnone (TTany _) (p_move rfl) rfl ?_
     refine tkB 6 rfl (by kernel_rfl) (fun _ _ _ h => h) gnone (TTany _) (p_ext rfl (by repeat (first | exact At.z | apply At.s))) rfl ?_
     refine tkB 7 rfl (by kernel_rfl) (fun _ _ _ h => h) gnone (TTany _) (p_ext rfl (by repeat (first | exact At.z | apply At.s))) rfl ?_
     refine tkB 8 rfl (by kernel_rfl) (fun _ _ _ h => h) gnone (TTany _) (p_ext rfl (by repeat (first | exact At.z | apply At.s))) rfl ?_
     refine dfB 11 (by kernel_rfl) ?_
     refine doRB rfl (o_st rfl Tryz.sizeOf31 rfl rfl rfl rfl rfl (by repeat (first | exact At.z | apply At.s)) (by repeat (first | exact Put.d | apply Put.t | apply Put.s)) (by repeat (first | exact SetAt.z | apply SetAt.s))) (TOk.xP 1 [] (by kernel_rfl) (TOk.xP 3 [] (by kernel_rfl) TOk.d)) ?_
     refine dfB 12 (by kernel_rfl) ?_
     refine doRB rfl (o_st rfl Tryz.sizeOf31 rfl rfl rfl rfl rfl (by repeat (first | exact At.z | apply At.s)) (by repeat (first | exact Put.d | apply Put.t | apply Put.s)) (by repeat (first | exact SetAt.z | apply SetAt.s))) (TOk.xP 1 [] (by kernel_rfl) (TOk.xP 3 [] (by kernel_rfl) TOk.d)) ?_
     refine tkB 13 rfl (by kernel_rfl) (fun _ _ _ h => h) gnone (TTany _) (p_asg rfl) rfl ?_
     refine dnB (by kernel_rfl) (nmid (fun a w h => by first | exact ⟨b5, b6, r1, r2, r3, z1, z2, hr, e1, e2, wk (is := [1, 0, 0, 0]) (by repeat (first | exact subσ.nil _ | refine subσ.cons rfl ?_)) rfl (by repeat (first | exact Sub.d | (refine Sub.s ?_ ?_; (repeat (first | exact In.z | apply In.s))) | (refine Sub.suf ?_; (repeat (first | exact Suf.z | apply Suf.s))))) a w h⟩ | exact ⟨b5, b6, r1, r2, r3, z1, z2, hr, e1, e2, wk (is := [0, 0, 0, 0]) (by repeat (first | exact subσ.nil _ | refine subσ.cons rfl ?_)) rfl (by repeat (first | exact Sub.d | (refine Sub.s ?_ ?_; (repeat (first | exact In.z | apply In.s))) | (refine Sub.suf ?_; (repeat (first | exact Suf.z | apply Suf.s))))) a w h⟩))
  ·
   refine nex fun b5 => nex fun b6 => nex fun r1 => nex fun r2 => nex fun r3 => nex fun z1 => nex fun z2 => nex fun hr => nex fun e1 => nex fun e2 => ?_
   refine nthen ?_
   refine cs ?_
   refine cr ?_
   refine ls (o_ldw Tryz.isAgg25 Tryz.sizeOf25 rfl (by repeat (first | exact At.z | apply At.s)) (by rfl) rfl) ?_
   refine ls (o_ldw Tryz.isAgg25 Tryz.sizeOf25 rfl (by repeat (first | exact At.z | apply At.s)) (by rfl) rfl) ?_
   refine ls (o_call (is := []) Tryz.call18 (c_rSwap p q yp yq hp hq) rfl rfl (by repeat (first | exact Sub.d | (refine Sub.s ?_ ?_; (repeat (first | exact In.z | apply In.s))) | (refine Sub.suf ?_; (repeat (first | exact Suf.z | apply Suf.s))))) rfl) ?_
   refine le ?_; rintro ⟨⟨⟨s1, s2, s3⟩, v1, v2⟩, hs⟩
   dsimp only at hs
   obtain ⟨rfl, rfl, rfl⟩ := pthree (hr.trans hs.symm)
   refine ls (op (p_move rfl) rfl) ?_
   refine ls (op (p_ext rfl (by repeat (first | exact At.z | apply At.s))) rfl) ?_
   refine ls (op (p_ext rfl (by repeat (first | exact At.z | apply At.s))) rfl) ?_
   refine ls (op (p_ext rfl (by repeat (first | exact At.z | apply At.s))) rfl) ?_
   refine ls (o_alloc Tryz.zeroValue25 rfl rfl) ?_
   refine le ?_; intro b8
   refine ls (o_alloc Tryz.zeroValue25 rfl rfl) ?_
   refine le ?_; intro b9
   refine ls (o_st rfl Tryz.sizeOf25 rfl rfl rfl rfl rfl (by repeat (first | exact At.z | apply At.s)) (by repeat (first | exact Put.d | apply Put.t | apply Put.s)) (by repeat (first | exact SetAt.z | apply SetAt.s))) ?_
   refine ls (o_st rfl Tryz.sizeOf25 rfl rfl rfl rfl rfl (by repeat (first | exact At.z | apply At.s)) (by repeat (first | exact Put.d | apply Put.t | apply Put.s)) (by repeat (first | exact SetAt.z | apply SetAt.s))) ?_
   refine ls (op (p_asg rfl) rfl) ?_
   refine ln ?_
   refine nthen ?_
   refine cs ?_
   refine cs ?_
   refine cdB [5, 7, 12, 14, 19, 21, 22] [(4, b5, 0, _), (6, b8, 0, _), (11, b6, 0, _), (13, b9, 0, _), (18, b2, 0, _), (20, b3, 0, _)] TryzX.mixed (by kernel_rfl) (by kernel_rfl) (TOk.t (isBoxS (by repeat (first | exact At.z | apply At.s)) (k := 4) (by repeat (first | exact Cut.d | apply Cut.t | apply Cut.s))) (TOk.t (isBoxS (by repeat (first | exact At.z | apply At.s)) (k := 4) (by repeat (first | exact Cut.d | apply Cut.t | apply Cut.s))) (TOk.t (isBoxS (by repeat (first | exact At.z | apply At.s)) (k := 4) (by repeat (first | exact Cut.d | apply Cut.t | apply Cut.s))) (TOk.t (isBoxS (by repeat (first | exact At.z | apply At.s)) (k := 4) (by repeat (first | exact Cut.d | apply Cut.t | apply Cut.s))) (TOk.t (isBoxS (by repeat (first | exact At.z | apply At.s)) (k := 4) (by repeat (first | exact Cut.d | apply Cut.t | apply Cut.s))) (TOk.t (isBoxS (by repeat (first | exact At.z | apply At.s)) (k := 4) (by repeat (first | exact Cut.d | apply Cut.t | apply Cut.s))) TOk.d)))))) ?_
   refine tkB 0 rfl (by kernel_rfl) (fun _ _ _ h => h) gnone (TTany _) (p_move rfl) rfl ?_
   refine tkB 1 rfl (by kernel_rfl) (fun _ _ _ h => h) gnone (TTany _) (p_move rfl) rfl ?_
   refine tkB 2 rfl (by kernel_rfl) (fun _ _ _ h => h) gnone (TTany _) (p_bne Tryz.underlying4 rfl rfl) rfl ?_
   refine fixB (congrArg Value.bool (bne_same _)) ?_
   refine tkB 3 rfl (by kernel_rfl) (fun _ _ _ h => h) gnone (TTany _) (p_move rfl) rfl ?_
   refine tkB 4 rfl (by kernel_rfl) (fun _ _ _ h => h) (gyes rfl rfl rfl rfl) (TTat (List.Mem.head _)) (p_lda Tryz.isAgg31 Tryz.sizeOf31 rfl rfl) rfl ?_
   refine tkB 6 rfl (by kernel_rfl) (fun _ _ _ h => h) (gyes rfl rfl rfl rfl) (TTat (List.Mem.tail _ (List.Mem.head _))) (p_lda Tryz.isAgg25 Tryz.sizeOf25 rfl rfl) rfl ?_
   refine dfB 5 (by kernel_rfl) ?_
   refine doGB rfl rfl rfl rfl rfl (o_call (is := []) Tryz.call19 (c_Old7 r1 z1 e1) rfl rfl (by repeat (first | exact Sub.d | (refine Sub.s ?_ ?_; (repeat (first | exact In.z | apply In.s))) | (refine Sub.suf ?_; (repeat (first | exact Suf.z | apply Suf.s))))) rfl) (TOk.xP 5 [] (by kernel_rfl) (TOk.t (isBoxE fun _ => isBoxS (by repeat (first | exact At.z | apply At.s)) (k := 4) (by repeat (first | exact Cut.d | apply Cut.t | apply Cut.s))) (TOk.t (isBoxE fun _ => isBoxS (by repeat (first | exact At.z | apply At.s)) (k := 4) (by repeat (first | exact Cut.d | apply Cut.t | apply Cut.s))) (TOk.t (isBoxE fun _ => isBoxS (by repeat (first | exact At.z | apply At.s)) (k := 4) (by repeat (first | exact Cut.d | apply Cut.t | apply Cut.s))) (TOk.t (isBoxE fun _ => isBoxS (by repeat (first | exact At.z | apply At.s)) (k := 4) (by repeat (first | exact Cut.d | apply Cut.t | apply Cut.s))) (TOk.t (isBoxE fun _ => isBoxS (by repeat (first | exact At.z | apply At.s)) (k := 4) (by repeat (first | exact Cut.d | apply Cut.t | apply Cut.s))) TOk.d)))))) ?_
   refine eaB ?_; intro y41
   refine dfB 7 (by kernel_rfl) ?_
   refine doGB rfl rfl rfl rfl rfl (o_call (is := []) Tryz.call15 (c_rSame r1 r1 y41 v1 e1 e1) rfl rfl (by repeat (first | exact Sub.d | (refine Sub.s ?_ ?_; (repeat (first | exact In.z | apply In.s))) | (refine Sub.suf ?_; (repeat (first | exact Suf.z | apply Suf.s))))) rfl) (TOk.xP 5 [] (by kernel_rfl) (TOk.xP 7 [] (by kernel_rfl) (TOk.t (isBoxE fun _ => isBoxS (by repeat (first | exact At.z | apply At.s)) (k := 4) (by repeat (first | exact Cut.d | apply Cut.t | apply Cut.s))) (TOk.t (isBoxE fun _ => isBoxS (by repeat (first | exact At.z | apply At.s)) (k := 4) (by repeat (first | exact Cut.d | apply Cut.t | apply Cut.s))) (TOk.t (isBoxE fun _ => isBoxS (by repeat (first | exact At.z | apply At.s)) (k := 4) (by repeat (first | exact Cut.d | apply Cut.t | apply Cut.s))) (TOk.t (isBoxE fun _ => isBoxS (by repeat (first | exact At.z | apply At.s)) (k := 4) (by repeat (first | exact Cut.d | apply Cut.t | apply Cut.s))) TOk.d)))))) ?_
   refine eaB ?_; intro x43
   refine fixB (congrArg Value.bool (decide_eq_true rfl)) ?_
   refine tkB 8 rfl (by kernel_rfl) (fun _ _ _ h => h) (gyes rfl rfl rfl rfl) (TTany _) (p_not rfl) rfl ?_
   refine tkB 9 rfl (by kernel_rfl) (fun _ _ _ h => h) gnone (TTany _) (p_pickf rfl rfl) rfl ?_
   refine tkB 10 rfl (by kernel_rfl) (fun _ _ _ h => h) gnone (TTany _) (p_move rfl) rfl ?_
   refine tkB 11 rfl (by kernel_rfl) (fun _ _ _ h => h) (gyes rfl rfl rfl rfl) (TTat (List.Mem.tail _ (List.Mem.tail _ (List.Mem.head _)))) (p_lda Tryz.isAgg31 Tryz.sizeOf31 rfl rfl) rfl ?_
   refine tkB 13 rfl (by kernel_rfl) (fun _ _ _ h => h) (gyes rfl rfl rfl rfl) (TTat (List.Mem.tail _ (List.Mem.tail _ (List.Mem.tail _ (List.Mem.head _))))) (p_lda Tryz.isAgg25 Tryz.sizeOf25 rfl rfl) rfl ?_
   refine dfB 12 (by kernel_rfl) ?_
   refine doGB rfl rfl rfl rfl rfl (o_call (is := []) Tryz.call19 (c_Old7 r2 z2 e2) rfl rfl (by repeat (first | exact Sub.d | (refine Sub.s ?_ ?_; (repeat (first | exact In.z | apply In.s))) | (refine Sub.suf ?_; (repeat (first | exact Suf.z | apply Suf.s))))) rfl) (TOk.xP 5 [] (by kernel_rfl) (TOk.xP 7 [] (by kernel_rfl) (TOk.xP 12 [] (by kernel_rfl) (TOk.t (isBoxE fun _ => isBoxS (by repeat (first | exact At.z | apply At.s)) (k := 4) (by repeat (first | exact Cut.d | apply Cut.t | apply Cut.s))) (TOk.t (isBoxE fun _ => isBoxS (by repeat (first | exact At.z | apply At.s)) (k := 4) (by repeat (first | exact Cut.d | apply Cut.t | apply Cut.s))) (TOk.t (isBoxE fun _ => isBoxS (by repeat (first | exact At.z | apply At.s)) (k := 4) (by repeat (first | exact Cut.d | apply Cut.t | apply Cut.s))) TOk.d)))))) ?_
   refine eaB ?_; intro y48
   refine dfB 14 (by kernel_rfl) ?_
   refine doGB rfl rfl rfl rfl rfl (o_call (is := []) Tryz.call15 (c_rSame r2 r2 y48 v2 e2 e2) rfl rfl (by repeat (first | exact Sub.d | (refine Sub.s ?_ ?_; (repeat (first | exact In.z | apply In.s))) | (refine Sub.suf ?_; (repeat (first | exact Suf.z | apply Suf.s))))) rfl) (TOk.xP 5 [] (by kernel_rfl) (TOk.xP 7 [] (by kernel_rfl) (TOk.xP 12 [] (by kernel_rfl) (TOk.xP 14 [] (by kernel_rfl) (TOk.t (isBoxE fun _ => isBoxS (by repeat (first | exact At.z | apply At.s)) (k := 4) (by repeat (first | exact Cut.d | apply Cut.t | apply Cut.s))) (TOk.t (isBoxE fun _ => isBoxS (by repeat (first | exact At.z | apply At.s)) (k := 4) (by repeat (first | exact Cut.d | apply Cut.t | apply Cut.s))) TOk.d)))))) ?_
   refine eaB ?_; intro x50
   refine fixB (congrArg Value.bool (decide_eq_true rfl)) ?_
   refine tkB 15 rfl (by kernel_rfl) (fun _ _ _ h => h) (gyes rfl rfl rfl rfl) (TTany _) (p_not rfl) rfl ?_
   refine tkB 16 rfl (by kernel_rfl) (fun _ _ _ h => h) gnone (TTany _) (p_pickf rfl rfl) rfl ?_
   refine tkB 17 rfl (by kernel_rfl) (fun _ _ _ h => h) gnone (TTany _) (p_move rfl) rfl ?_
   refine tkB 18 rfl (by kernel_rfl) (fun _ _ _ h => h) (gyes rfl rfl rfl rfl) (TTat (List.Mem.tail _ (List.Mem.tail _ (List.Mem.tail _ (List.Mem.tail _ (List.Mem.head _)))))) (p_lda Tryz.isAgg25 Tryz.sizeOf25 rfl rfl) rfl ?_
   refine tkB 20 rfl (by kernel_rfl) (fun _ _ _ h => h) (gyes rfl rfl rfl rfl) (TTat (List.Mem.tail _ (List.Mem.tail _ (List.Mem.tail _ (List.Mem.tail _ (List.Mem.tail _ (List.Mem.head _))))))) (p_lda Tryz.isAgg25 Tryz.sizeOf25 rfl rfl) rfl ?_
   refine tkB 23 rfl (by kernel_rfl) (fun _ _ _ h => h) (gyes rfl rfl rfl rfl) (TTany _) (p_move rfl) rfl ?_
   refine dfB 19 (by kernel_rfl) ?_
   refine doGB rfl rfl rfl rfl rfl (o_call (is := []) Tryz.call12 (c_New7 p yp hp) rfl rfl (by repeat (first | exact Sub.d | (refine Sub.s ?_ ?_; (repeat (first | exact In.z | apply In.s))) | (refine Sub.suf ?_; (repeat (first | exact Suf.z | apply Suf.s))))) rfl) (TOk.xP 5 [] (by kernel_rfl) (TOk.xP 7 [] (by kernel_rfl) (TOk.xP 12 [] (by kernel_rfl) (TOk.xP 14 [] (by kernel_rfl) (TOk.xP 19 [] (by kernel_rfl) (TOk.t (isBoxE fun _ => isBoxS (by repeat (first | exact At.z | apply At.s)) (k := 4) (by repeat (first | exact Cut.d | apply Cut.t | apply Cut.s))) TOk.d)))))) ?_
   refine eaB ?_; intro y55
   refine dfB 21 (by kernel_rfl) ?_
   refine doGB rfl rfl rfl rfl rfl (o_call (is := []) Tryz.call12 (c_New7 q yq hq) rfl rfl (by repeat (first | exact Sub.d | (refine Sub.s ?_ ?_; (repeat (first | exact In.z | apply In.s))) | (refine Sub.suf ?_; (repeat (first | exact Suf.z | apply Suf.s))))) rfl) (TOk.xP 5 [] (by kernel_rfl) (TOk.xP 7 [] (by kernel_rfl) (TOk.xP 12 [] (by kernel_rfl) (TOk.xP 14 [] (by kernel_rfl) (TOk.xP 19 [] (by kernel_rfl) (TOk.xP 21 [] (by kernel_rfl) TOk.d)))))) ?_
   refine eaB ?_; intro y57
   refine dfB 22 (by kernel_rfl) ?_
   refine doGB rfl rfl rfl rfl rfl (o_call (is := []) Tryz.call20 (c_nNeeds p q y55 y57 hp hq) rfl rfl (by repeat (first | exact Sub.d | (refine Sub.s ?_ ?_; (repeat (first | exact In.z | apply In.s))) | (refine Sub.suf ?_; (repeat (first | exact Suf.z | apply Suf.s))))) rfl) (TOk.xP 5 [] (by kernel_rfl) (TOk.xP 7 [] (by kernel_rfl) (TOk.xP 12 [] (by kernel_rfl) (TOk.xP 14 [] (by kernel_rfl) (TOk.xP 19 [] (by kernel_rfl) (TOk.xP 21 [] (by kernel_rfl) TOk.d)))))) ?_
   refine eaB ?_; intro x58
   refine tkB 24 rfl (by kernel_rfl) (fun _ _ _ h => h) (gyes rfl rfl rfl rfl) (TTany _) (p_beq Tryz.underlying4 rfl rfl) rfl ?_
   refine fixB (congrArg Value.bool (needs_ne hr)) ?_
   refine tkB 25 rfl (by kernel_rfl) (fun _ _ _ h => h) gnone (TTany _) (p_pickf rfl rfl) rfl ?_
   refine dnB (by kernel_rfl) ?_
   refine nthen ?_
   refine cc rfl (fun h => by cases h) (fun h => ?_)
   refine cskip ?_
   refine nthen ?_
   refine cs ?_
   refine cs ?_
   refine cr ?_
   refine ls (op (p_move rfl) rfl) ?_
   refine ls (op (p_not rfl) rfl) ?_
   refine ln ?_
   refine nthen ?_
   refine cc rfl ?_ ?_
   ·
    intro h63
    skip
    refine cs ?_
    refine cr ?_
    refine ls (o_call (is := []) Tryz.call10 (c_alive7) rfl rfl (by repeat (first | exact Sub.d | (refine Sub.s ?_ ?_; (repeat (first | exact In.z | apply In.s))) | (refine Sub.suf ?_; (repeat (first | exact Suf.z | apply Suf.s))))) rfl) ?_
    refine le ?_; intro x64
    refine ls (op (p_asg rfl) rfl) ?_
    refine ln ?_
    refine nthen ?_
    refine cret ?_
    refine xret (fun _ _ h => h) ?_
    refine rret (is := []) () (Or.inl rfl) (Res.t rfl Res.d) (rfl) rfl (by repeat (first | exact Sub.d | (refine Sub.s ?_ ?_; (repeat (first | exact In.z | apply In.s))) | (refine Sub.suf ?_; (repeat (first | exact Suf.z | apply Suf.s)))))
   ·
    intro h63
    obtain rfl : true = r3 := by cases r3 <;> first | rfl | (simp at h63)
    refine cskip ?_
    refine nthen ?_
    refine cs ?_
    refine cr ?_
    refine ls (o_ldw Tryz.isAgg31 Tryz.sizeOf31 rfl (by repeat (first | exact At.z | apply At.s)) (by rfl) rfl) ?_
    refine ls (o_ldw Tryz.isAgg31 Tryz.sizeOf31 rfl (by repeat (first | exact At.z | apply At.s)) (by rfl) rfl) ?_
    refine ls (o_call (is := []) Tryz.call17 (c_nSwap r1 r2 z1 z2 e1 e2) rfl rfl (by repeat (first | exact Sub.d | (refine Sub.s ?_ ?_; (repeat (first | exact In.z | apply In.s))) | (refine Sub.suf ?_; (repeat (first | exact Suf.z | apply Suf.s))))) rfl) ?_
    refine le ?_; rintro ⟨⟨⟨c1, c2, c3⟩, u1, u2⟩, hc⟩
    dsimp only at hc
    obtain ⟨rfl, rfl, rfl⟩ := pthree ((pswap_back hr).trans hc.symm)
    refine ls (op (p_move rfl) rfl) ?_
    refine ls (op (p_ext rfl (by repeat (first | exact At.z | apply At.s))) rfl) ?_
    refine ls (op (p_ext rfl (by repeat (first | exact At.z | apply At.s))) rfl) ?_
    refine ls (op (p_ext rfl (by repeat (first | exact At.z | apply At.s))) rfl) ?_
    refine ls (o_alloc Tryz.zeroValue31 rfl rfl) ?_
    refine le ?_; intro b11
    refine ls (o_alloc Tryz.zeroValue31 rfl rfl) ?_
    refine le ?_; intro b12
    refine ls (o_st rfl Tryz.sizeOf31 rfl rfl rfl rfl rfl (by repeat (first | exact At.z | apply At.s)) (by repeat (first | exact Put.d | apply Put.t | apply Put.s)) (by repeat (first | exact SetAt.z | apply SetAt.s))) ?_
    refine ls (o_st rfl Tryz.sizeOf31 rfl rfl rfl rfl rfl (by repeat (first | exact At.z | apply At.s)) (by repeat (first | exact Put.d | apply Put.t | apply Put.s)) (by repeat (first | exact SetAt.z | apply SetAt.s))) ?_
    refine ls (op (p_asg rfl) rfl) ?_
    refine ln ?_
    refine nthen ?_
    refine cs ?_
    refine cdB [0, 6, 8, 12, 14] [(5, b11, 0, _), (7, b2, 0, _), (11, b12, 0, _), (13, b3, 0, _)] TryzX.mixed (by kernel_rfl) (by kernel_rfl) (TOk.t (isBoxS (by repeat (first | exact At.z | apply At.s)) (k := 4) (by repeat (first | exact Cut.d | apply Cut.t | apply Cut.s))) (TOk.t (isBoxS (by repeat (first | exact At.z | apply At.s)) (k := 4) (by repeat (first | exact Cut.d | apply Cut.t | apply Cut.s))) (TOk.t (isBoxS (by repeat (first | exact At.z | apply At.s)) (k := 4) (by repeat (first | exact Cut.d | apply Cut.t | apply Cut.s))) (TOk.t (isBoxS (by repeat (first | exact At.z | apply At.s)) (k := 4) (by repeat (first | exact Cut.d | apply Cut.t | apply Cut.s))) TOk.d)))) ?_
    refine dfB 0 (by kernel_rfl) ?_
    refine doRB rfl (o_call (is := []) Tryz.call10 (c_alive7) rfl rfl (by repeat (first | exact Sub.d | (refine Sub.s ?_ ?_; (repeat (first | exact In.z | apply In.s))) | (refine Sub.suf ?_; (repeat (first | exact Suf.z | apply Suf.s))))) rfl) (TOk.t (isBoxE fun _ => isBoxS (by repeat (first | exact At.z | apply At.s)) (k := 4) (by repeat (first | exact Cut.d | apply Cut.t | apply Cut.s))) (TOk.t (isBoxE fun _ => isBoxS (by repeat (first | exact At.z | apply At.s)) (k := 4) (by repeat (first | exact Cut.d | apply Cut.t | apply Cut.s))) (TOk.t (isBoxE fun _ => isBoxS (by repeat (first | exact At.z | apply At.s)) (k := 4) (by repeat (first | exact Cut.d | apply Cut.t | apply Cut.s))) (TOk.t (isBoxE fun _ => isBoxS (by repeat (first | exact At.z | apply At.s)) (k := 4) (by repeat (first | exact Cut.d | apply Cut.t | apply Cut.s))) TOk.d)))) ?_
    refine eaB ?_; intro x72
    refine tkB 1 rfl (by kernel_rfl) (fun _ _ _ h => h) gnone (TTany _) (p_move rfl) rfl ?_
    refine tkB 2 rfl (by kernel_rfl) (fun _ _ _ h => h) (gyes rfl rfl rfl rfl) (TTany _) (p_move rfl) rfl ?_
    refine tkB 3 rfl (by kernel_rfl) (fun _ _ _ h => h) gnone (TTany _) (p_pickt rfl rfl) rfl ?_
    refine tkB 4 rfl (by kernel_rfl) (fun _ _ _ h => h) gnone (TTany _) (p_move rfl) rfl ?_
    refine tkB 5 rfl (by kernel_rfl) (fun _ _ _ h => h) (gyes rfl rfl rfl rfl) (TTat (List.Mem.head _)) (p_lda Tryz.isAgg31 Tryz.sizeOf31 rfl rfl) rfl ?_
    refine tkB 7 rfl (by kernel_rfl) (fun _ _ _ h => h) (gyes rfl rfl rfl rfl) (TTat (List.Mem.tail _ (List.Mem.head _))) (p_lda Tryz.isAgg25 Tryz.sizeOf25 rfl rfl) rfl ?_
    refine dfB 6 (by kernel_rfl) ?_
    refine doGB rfl rfl rfl rfl rfl (o_call (is := []) Tryz.call19 (c_Old7 p u1 hp) rfl rfl (by repeat (first | exact Sub.d | (refine Sub.s ?_ ?_; (repeat (first | exact In.z | apply In.s))) | (refine Sub.suf ?_; (repeat (first | exact Suf.z | apply Suf.s))))) rfl) (TOk.xP 6 [] (by kernel_rfl) (TOk.t (isBoxE fun _ => isBoxS (by repeat (first | exact At.z | apply At.s)) (k := 4) (by repeat (first | exact Cut.d | apply Cut.t | apply Cut.s))) (TOk.t (isBoxE fun _ => isBoxS (by repeat (first | exact At.z | apply At.s)) (k := 4) (by repeat (first | exact Cut.d | apply Cut.t | apply Cut.s))) (TOk.t (isBoxE fun _ => isBoxS (by repeat (first | exact At.z | apply At.s)) (k := 4) (by repeat (first | exact Cut.d | apply Cut.t | apply Cut.s))) TOk.d)))) ?_
    refine eaB ?_; intro y78
    refine dfB 8 (by kernel_rfl) ?_
    refine doGB rfl rfl rfl rfl rfl (o_call (is := []) Tryz.call15 (c_rSame p p y78 yp hp hp) rfl rfl (by repeat (first | exact Sub.d | (refine Sub.s ?_ ?_; (repeat (first | exact In.z | apply In.s))) | (refine Sub.suf ?_; (repeat (first | exact Suf.z | apply Suf.s))))) rfl) (TOk.xP 6 [] (by kernel_rfl) (TOk.xP 8 [] (by kernel_rfl) (TOk.t (isBoxE fun _ => isBoxS (by repeat (first | exact At.z | apply At.s)) (k := 4) (by repeat (first | exact Cut.d | apply Cut.t | apply Cut.s))) (TOk.t (isBoxE fun _ => isBoxS (by repeat (first | exact At.z | apply At.s)) (k := 4) (by repeat (first | exact Cut.d | apply Cut.t | apply Cut.s))) TOk.d)))) ?_
    refine eaB ?_; intro x80
    refine fixB (congrArg Value.bool (decide_eq_true rfl)) ?_
    refine tkB 9 rfl (by kernel_rfl) (fun _ _ _ h => h) gnone (TTany _) (p_pickt rfl rfl) rfl ?_
    refine tkB 10 rfl (by kernel_rfl) (fun _ _ _ h => h) gnone (TTany _) (p_move rfl) rfl ?_
    refine tkB 11 rfl (by kernel_rfl) (fun _ _ _ h => h) (gyes rfl rfl rfl rfl) (TTat (List.Mem.tail _ (List.Mem.tail _ (List.Mem.head _)))) (p_lda Tryz.isAgg31 Tryz.sizeOf31 rfl rfl) rfl ?_
    refine tkB 13 rfl (by kernel_rfl) (fun _ _ _ h => h) (gyes rfl rfl rfl rfl) (TTat (List.Mem.tail _ (List.Mem.tail _ (List.Mem.tail _ (List.Mem.head _))))) (p_lda Tryz.isAgg25 Tryz.sizeOf25 rfl rfl) rfl ?_
    refine dfB 12 (by kernel_rfl) ?_
    refine doGB rfl rfl rfl rfl rfl (o_call (is := []) Tryz.call19 (c_Old7 q u2 hq) rfl rfl (by repeat (first | exact Sub.d | (refine Sub.s ?_ ?_; (repeat (first | exact In.z | apply In.s))) | (refine Sub.suf ?_; (repeat (first | exact Suf.z | apply Suf.s))))) rfl) (TOk.xP 6 [] (by kernel_rfl) (TOk.xP 8 [] (by kernel_rfl) (TOk.xP 12 [] (by kernel_rfl) (TOk.t (isBoxE fun _ => isBoxS (by repeat (first | exact At.z | apply At.s)) (k := 4) (by repeat (first | exact Cut.d | apply Cut.t | apply Cut.s))) TOk.d)))) ?_
    refine eaB ?_; intro y84
    refine dfB 14 (by kernel_rfl) ?_
    refine doGB rfl rfl rfl rfl rfl (o_call (is := []) Tryz.call15 (c_rSame q q y84 yq hq hq) rfl rfl (by repeat (first | exact Sub.d | (refine Sub.s ?_ ?_; (repeat (first | exact In.z | apply In.s))) | (refine Sub.suf ?_; (repeat (first | exact Suf.z | apply Suf.s))))) rfl) (TOk.xP 6 [] (by kernel_rfl) (TOk.xP 8 [] (by kernel_rfl) (TOk.xP 12 [] (by kernel_rfl) (TOk.xP 14 [] (by kernel_rfl) TOk.d)))) ?_
    refine eaB ?_; intro x86
    refine fixB (congrArg Value.bool (decide_eq_true rfl)) ?_
    refine tkB 15 rfl (by kernel_rfl) (fun _ _ _ h => h) gnone (TTany _) (p_pickt rfl rfl) rfl ?_
    refine tkB 16 rfl (by kernel_rfl) (fun _ _ _ h => h) gnone (TTany _) (p_asg rfl) rfl ?_
    refine dnB (by kernel_rfl) ?_
    refine nthen ?_
    refine cret ?_
    refine xret (fun _ _ h => h) ?_
    refine rret (is := []) () (Or.inl rfl) (Res.t rfl Res.d) (rfl) rfl (by repeat (first | exact Sub.d | (refine Sub.s ?_ ?_; (repeat (first | exact In.z | apply In.s))) | (refine Sub.suf ?_; (repeat (first | exact Suf.z | apply Suf.s)))))

set_option maxRecDepth 100000 in
theorem c_NamedGroups (l : List Patch) (A : Option Addr) (c : Nat) (hl : l.length ≤ 2000000) (hf : ∀ x ∈ l, x.fit) (hM : pmany l ≤ 1000000000000) : Con Tryz.prog 6 [.slice A l.length c] [] [slA A l] Unit (fun _ => .bool (true)) (fun _ => []) (fun _ => []) := by
 refine con Tryz.func6 rfl Tryz.ntmps6 rfl ?_
 intro M0 F0 w0
 refine cs ?_
 refine cr ?_
 refine ls (op (p_asg rfl) rfl) ?_
 refine ln ?_
 refine nthen ?_
 refine cs ?_
 refine cs ?_
 refine cr ?_
 refine ls (op (p_move rfl) rfl) ?_
 refine ls (o_call (is := []) Tryz.call9 (c_few7 l A c hl hf hM) rfl rfl (by repeat (first | exact Sub.d | (refine Sub.s ?_ ?_; (repeat (first | exact In.z | apply In.s))) | (refine Sub.suf ?_; (repeat (first | exact Suf.z | apply Suf.s))))) rfl) ?_
 refine le ?_; intro x8
 refine ls (op (p_not rfl) rfl) ?_
 refine ln ?_
 refine nthen ?_
 refine cc rfl ?_ ?_
 ·
  intro h9
  try simp only [decide_eq_true_eq, decide_eq_false_iff_not, Bool.not_eq_true', Bool.not_eq_false', Int.not_lt, Int.not_le, ge_iff_le, Bool.not_true, Bool.not_false] at h9
  refine cs ?_
  refine cr ?_
  refine ls (o_call (is := []) Tryz.call10 (c_alive7) rfl rfl (by repeat (first | exact Sub.d | (refine Sub.s ?_ ?_; (repeat (first | exact In.z | apply In.s))) | (refine Sub.suf ?_; (repeat (first | exact Suf.z | apply Suf.s))))) rfl) ?_
  refine le ?_; intro x10
  refine ls (op (p_asg rfl) rfl) ?_
  refine ln ?_
  refine nthen ?_
  refine cret ?_
  refine xret (fun _ _ h => h) ?_
  refine rret (is := []) () (Or.inl rfl) (Res.t rfl Res.d) (rfl) rfl (by repeat (first | exact Sub.d | (refine Sub.s ?_ ?_; (repeat (first | exact In.z | apply In.s))) | (refine Sub.suf ?_; (repeat (first | exact Suf.z | apply Suf.s)))))
 ·
  intro h9
  try simp only [decide_eq_true_eq, decide_eq_false_iff_not, Bool.not_eq_true', Bool.not_eq_false', Int.not_lt, Int.not_le, ge_iff_le, Bool.not_true, Bool.not_false] at h9
  refine cskip ?_
  refine nthen ?_
  refine cs ?_
  refine cr ?_
  refine ls (op (p_move rfl) rfl) ?_
  refine ls (o_call (is := []) Tryz.call22 (c_Rows7 l A c hl hf) rfl rfl (by repeat (first | exact Sub.d | (refine Sub.s ?_ ?_; (repeat (first | exact In.z | apply In.s))) | (refine Sub.suf ?_; (repeat (first | exact Suf.z | apply Suf.s))))) rfl) ?_
  refine le ?_; rintro ⟨A1, c1⟩
  refine ls (o_call (is := []) Tryz.call26 (c_nGroup l A1 c1 hl hf) rfl rfl (by repeat (first | exact Sub.d | (refine Sub.s ?_ ?_; (repeat (first | exact In.z | apply In.s))) | (refine Sub.suf ?_; (repeat (first | exact Suf.z | apply Suf.s))))) rfl) ?_
  refine le ?_; rintro ⟨⟨⟨g, r⟩, ⟨⟨Ag, cg⟩, ⟨Ax, cx⟩⟩⟩, hg⟩
  dsimp only at hg
  refine ls (op (p_move rfl) rfl) ?_
  refine ls (op (p_ext rfl (by repeat (first | exact At.z | apply At.s))) rfl) ?_
  refine ls (op (p_ext rfl (by repeat (first | exact At.z | apply At.s))) rfl) ?_
  refine ls (op (p_asg rfl) rfl) ?_
  refine ls (op (p_asg rfl) rfl) ?_
  refine ln ?_
  refine nthen ?_
  refine cs ?_
  refine cr ?_
  refine ls (op (p_move rfl) rfl) ?_
  refine ls (o_call (is := []) Tryz.call27 (c_rGroup l A c hl hf) rfl rfl (by repeat (first | exact Sub.d | (refine Sub.s ?_ ?_; (repeat (first | exact In.z | apply In.s))) | (refine Sub.suf ?_; (repeat (first | exact Suf.z | apply Suf.s))))) rfl) ?_
  refine le ?_; rintro ⟨⟨⟨g2, r2⟩, ⟨⟨Ag2, cg2⟩, ⟨Ax2, cx2⟩⟩⟩, hg2⟩
  dsimp only at hg2
  obtain ⟨rfl, rfl⟩ := ptwo_eq (hg.trans hg2.symm)
  have hG := group_GI hf; rw [← hg] at hG; have hgl := hG.len; have hfg := hG.fg; have hfr := hG.fr; dsimp only at hgl hfg hfr
  refine ls (op (p_move rfl) rfl) ?_
  refine ls (op (p_ext rfl (by repeat (first | exact At.z | apply At.s))) rfl) ?_
  refine ls (op (p_ext rfl (by repeat (first | exact At.z | apply At.s))) rfl) ?_
  refine ls (op (p_asg rfl) rfl) ?_
  refine ls (op (p_asg rfl) rfl) ?_
  refine ln ?_
  refine nthen ?_
  refine cs ?_
  refine cr ?_
  refine ls (o_call (is := []) Tryz.call10 (c_alive7) rfl rfl (by repeat (first | exact Sub.d | (refine Sub.s ?_ ?_; (repeat (first | exact In.z | apply In.s))) | (refine Sub.suf ?_; (repeat (first | exact Suf.z | apply Suf.s))))) rfl) ?_
  refine le ?_; intro x22
  refine ls (op (p_move rfl) rfl) ?_
  refine andX 5 23 28 rfl (subσ.cons (t := 0) rfl (subσ.cons (t := 2) rfl (subσ.cons (t := 7) rfl (subσ.cons (t := 8) rfl (subσ.cons (t := 9) rfl (subσ.cons (t := 12) rfl (subσ.cons (t := 13) rfl (subσ.cons (t := 14) rfl (subσ.cons (t := 11) rfl (subσ.cons (t := 15) rfl (subσ.cons (t := 16) rfl (subσ.cons (t := 3) rfl (subσ.cons (t := 4) rfl (subσ.cons (t := 18) rfl (subσ.cons (t := 19) rfl (subσ.cons (t := 17) rfl (subσ.cons (t := 20) rfl (subσ.cons (t := 21) rfl (subσ.cons (t := 6) rfl (subσ.nil _)))))))))))))))))))) ?_ ?_
  ·
   intro h23
   refine lskip rfl rfl rfl rfl rfl ?_
   refine lskip rfl rfl rfl rfl rfl ?_
   refine lskip rfl rfl rfl rfl rfl ?_
   refine lskip rfl rfl rfl rfl rfl ?_
   refine ls (op (p_pickf rfl rfl) rfl) ?_
   refine ln (nmid (wk0 (by repeat (first | exact subσ.nil _ | refine subσ.cons rfl ?_)) (by repeat (first | exact Sub.d | (refine Sub.s ?_ ?_; (repeat (first | exact In.z | apply In.s))) | (refine Sub.suf ?_; (repeat (first | exact Suf.z | apply Suf.s)))))))
  apply exI
  ·
   intro h23
   refine lwant rfl rfl rfl rfl (op (p_move rfl) rfl) ?_
   refine lwant rfl rfl rfl rfl (o_call (is := []) Tryz.call25 (c_Olds7 g Ag cg (by omega) hfg) rfl rfl (by repeat (first | exact Sub.d | (refine Sub.s ?_ ?_; (repeat (first | exact In.z | apply In.s))) | (refine Sub.suf ?_; (repeat (first | exact Suf.z | apply Suf.s))))) rfl) ?_
   refine le ?_; rintro ⟨A3, c3⟩
   refine lwant rfl rfl rfl rfl (op (p_move rfl) rfl) ?_
   refine lwant rfl rfl rfl rfl (o_call (is := []) Tryz.call24 (c_rAll g g A3 Ag2 c3 cg2 (by omega) hfg hfg) rfl rfl (by repeat (first | exact Sub.d | (refine Sub.s ?_ ?_; (repeat (first | exact In.z | apply In.s))) | (refine Sub.suf ?_; (repeat (first | exact Suf.z | apply Suf.s))))) rfl) ?_
   refine le ?_; intro x27
   refine ls (op (p_pickt rfl rfl) rfl) ?_
   refine ln (nmid (wk0 (by repeat (first | exact subσ.nil _ | refine subσ.cons rfl ?_)) (by repeat (first | exact Sub.d | (refine Sub.s ?_ ?_; (repeat (first | exact In.z | apply In.s))) | (refine Sub.suf ?_; (repeat (first | exact Suf.z | apply Suf.s)))))))
  ·
   refine ls (op (p_move rfl) rfl) ?_
   refine andX 5 29 34 rfl (subσ.cons (t := 0) rfl (subσ.cons (t := 2) rfl (subσ.cons (t := 7) rfl (subσ.cons (t := 8) rfl (subσ.cons (t := 9) rfl (subσ.cons (t := 12) rfl (subσ.cons (t := 13) rfl (subσ.cons (t := 14) rfl (subσ.cons (t := 11) rfl (subσ.cons (t := 15) rfl (subσ.cons (t := 16) rfl (subσ.cons (t := 3) rfl (subσ.cons (t := 4) rfl (subσ.cons (t := 18) rfl (subσ.cons (t := 19) rfl (subσ.cons (t := 17) rfl (subσ.cons (t := 20) rfl (subσ.cons (t := 21) rfl (subσ.nil _))))))))))))))))))) ?_ ?_
   ·
    intro h29
    refine lskip rfl rfl rfl rfl rfl ?_
    refine lskip rfl rfl rfl rfl rfl ?_
    refine lskip rfl rfl rfl rfl rfl ?_
    refine lskip rfl rfl rfl rfl rfl ?_
    refine ls (op (p_pickf rfl rfl) rfl) ?_
    refine ln (nmid (wk0 (by repeat (first | exact subσ.nil _ | refine subσ.cons rfl ?_)) (by repeat (first | exact Sub.d | (refine Sub.s ?_ ?_; (repeat (first | exact In.z | apply In.s))) | (refine Sub.suf ?_; (repeat (first | exact Suf.z | apply Suf.s)))))))
   apply exI
   ·
    intro h29
    refine lwant rfl rfl rfl rfl (op (p_move rfl) rfl) ?_
    refine lwant rfl rfl rfl rfl (o_call (is := []) Tryz.call25 (c_Olds7 r Ax cx (by omega) hfr) rfl rfl (by repeat (first | exact Sub.d | (refine Sub.s ?_ ?_; (repeat (first | exact In.z | apply In.s))) | (refine Sub.suf ?_; (repeat (first | exact Suf.z | apply Suf.s))))) rfl) ?_
    refine le ?_; rintro ⟨A4, c4⟩
    refine lwant rfl rfl rfl rfl (op (p_move rfl) rfl) ?_
    refine lwant rfl rfl rfl rfl (o_call (is := []) Tryz.call24 (c_rAll r r A4 Ax2 c4 cx2 (by omega) hfr hfr) rfl rfl (by repeat (first | exact Sub.d | (refine Sub.s ?_ ?_; (repeat (first | exact In.z | apply In.s))) | (refine Sub.suf ?_; (repeat (first | exact Suf.z | apply Suf.s))))) rfl) ?_
    refine le ?_; intro x33
    refine ls (op (p_pickt rfl rfl) rfl) ?_
    refine ln (nmid (wk0 (by repeat (first | exact subσ.nil _ | refine subσ.cons rfl ?_)) (by repeat (first | exact Sub.d | (refine Sub.s ?_ ?_; (repeat (first | exact In.z | apply In.s))) | (refine Sub.suf ?_; (repeat (first | exact Suf.z | apply Suf.s)))))))
   ·
    refine ls (op (p_move rfl) rfl) ?_
    refine andX 9 35 44 rfl (subσ.cons (t := 0) rfl (subσ.cons (t := 2) rfl (subσ.cons (t := 7) rfl (subσ.cons (t := 8) rfl (subσ.cons (t := 9) rfl (subσ.cons (t := 12) rfl (subσ.cons (t := 13) rfl (subσ.cons (t := 14) rfl (subσ.cons (t := 11) rfl (subσ.cons (t := 15) rfl (subσ.cons (t := 16) rfl (subσ.cons (t := 18) rfl (subσ.cons (t := 19) rfl (subσ.cons (t := 17) rfl (subσ.cons (t := 20) rfl (subσ.cons (t := 21) rfl (subσ.nil _))))))))))))))))) ?_ ?_
    ·
     intro h35
     refine lskip rfl rfl rfl rfl rfl ?_
     refine lskip rfl rfl rfl rfl rfl ?_
     refine lskip rfl rfl rfl rfl rfl ?_
     refine lskip rfl rfl rfl rfl rfl ?_
     refine lskip rfl rfl rfl rfl rfl ?_
     refine lskip rfl rfl rfl rfl rfl ?_
     refine lskip rfl rfl rfl rfl rfl ?_
     refine lskip rfl rfl rfl rfl rfl ?_
     refine ls (op (p_pickf rfl rfl) rfl) ?_
     refine ln (nmid (wk0 (by repeat (first | exact subσ.nil _ | refine subσ.cons rfl ?_)) (by repeat (first | exact Sub.d | (refine Sub.s ?_ ?_; (repeat (first | exact In.z | apply In.s))) | (refine Sub.suf ?_; (repeat (first | exact Suf.z | apply Suf.s)))))))
    apply exI
    ·
     intro h35
     refine lwant rfl rfl rfl rfl (op (p_move rfl) rfl) ?_
     refine lwant rfl rfl rfl rfl (op (p_lenl rfl Tryz.underlying43) rfl) ?_
     refine lwant rfl rfl rfl rfl (op (p_move rfl) rfl) ?_
     refine lwant rfl rfl rfl rfl (op (p_lenl rfl Tryz.underlying43) rfl) ?_
     refine lwant rfl rfl rfl rfl (op (p_add rfl rfl (by dsimp only; omega)) rfl) ?_
     refine lwant rfl rfl rfl rfl (op (p_move rfl) rfl) ?_
     refine lwant rfl rfl rfl rfl (op (p_lenl rfl Tryz.underlying42) rfl) ?_
     refine lwant rfl rfl rfl rfl (op (p_icmp rfl rfl rfl) rfl) ?_
     refine ls (op (p_pickt rfl rfl) rfl) ?_
     refine ln (nmid (wk0 (by repeat (first | exact subσ.nil _ | refine subσ.cons rfl ?_)) (by repeat (first | exact Sub.d | (refine Sub.s ?_ ?_; (repeat (first | exact In.z | apply In.s))) | (refine Sub.suf ?_; (repeat (first | exact Suf.z | apply Suf.s)))))))
    ·
     refine ls (op (p_asg rfl) rfl) ?_
     refine ln ?_
     refine nthen ?_
     refine cret ?_
     refine xret (fun _ _ h => h) ?_
     refine rret (is := []) () (Or.inl rfl) (Res.t rfl Res.d) ?_ rfl (by repeat (first | exact Sub.d | (refine Sub.s ?_ ?_; (repeat (first | exact In.z | apply In.s))) | (refine Sub.suf ?_; (repeat (first | exact Suf.z | apply Suf.s)))))
     simp only [packV]; simp; omega

set_option maxRecDepth 100000 in
theorem c_NamedPast (l : List Patch) (A : Option Addr) (c : Nat) (hl : l.length ≤ 1900000) (hcap : l.length ≤ c) (hf : ∀ x ∈ l, x.fit) (q0 : Patch) (y : Rp.Lay Patch) (hq : q0.fit) (hM : pmany (l ++ [q0]) ≤ 1000000000000) : Con Tryz.prog 5 [.slice A l.length c, sv q0 y] [] [slA A l, slA y.1.1 q0.deps, slA y.2.1 q0.l] Unit (fun _ => .bool (true)) (fun _ => []) (fun _ => []) := by
 refine con Tryz.func5 rfl Tryz.ntmps5 rfl ?_
 intro M0 F0 w0
 refine cs ?_
 refine cr ?_
 refine ls (o_box rfl rfl rfl) ?_
 refine le ?_; intro b3
 refine ls (op (p_asg rfl) rfl) ?_
 refine ln ?_
 refine nthen ?_
 refine cs ?_
 refine cs ?_
 have hfa : ∀ x ∈ l ++ [q0], x.fit := by intro x hx; rcases List.mem_append.1 hx with h | h; exact hf x h; simp at h; subst h; exact hq
 have hla : (l ++ [q0]).length ≤ 2000000 := by rw [List.length_append]; simp only [List.length_cons, List.length_nil]; omega
 have hc3 : A = none ∨ (l = [] ∧ ∃ ad, A = some ad) ∨ l ≠ [] := by cases A with
   | none => exact .inl rfl
   | some ad => (by_cases h : l = []; exact .inr (.inl ⟨h, ad, rfl⟩); exact .inr (.inr h))
 rcases hc3 with rfl | ⟨rfl, ad, rfl⟩ | hne
 ·
  refine cmono (fun a w h => nil_lenA (l := l) (by repeat (first | exact At.z | apply At.s)) h) ?_
  refine cf ?_; rintro rfl
  refine cmono (fun a w h => nilRow (α := Patch) 25 h) ?_
  refine cdB [7, 8, 9] [(6, b3, 0, _)] TryzX.mixed (by kernel_rfl) (by kernel_rfl) (TOk.t (isBoxS (by repeat (first | exact At.z | apply At.s)) (k := 4) (by repeat (first | exact Cut.d | apply Cut.t | apply Cut.s))) TOk.d) ?_
  refine tkB 0 rfl (by kernel_rfl) (fun _ _ _ h => h) gnone (TTany _) (p_move rfl) rfl ?_
  refine tkB 1 rfl (by kernel_rfl) (fun _ _ _ h => h) gnone (TTany _) (p_move rfl) rfl ?_
  refine tkB 2 rfl (by kernel_rfl) (fun _ _ _ h => h) gnone (TTany _) (p_lenl rfl Tryz.underlying42) rfl ?_
  refine tkB 3 rfl (by kernel_rfl) (fun _ _ _ h => h) gnone (TTany _) (p_move rfl) rfl ?_
  refine tkB 4 rfl (by kernel_rfl) (fun _ _ _ h => h) gnone (TTany _) (p_lenl rfl Tryz.underlying42) rfl ?_
  refine tkB 5 rfl (by kernel_rfl) (fun _ _ _ h => h) gnone (TTany _) (p_slm _ _ (Nat.le_refl _) hcap rfl rfl Tryz.underlying42 Tryz.sizeOf25 rfl rfl rfl) rfl ?_
  skip
  refine tkB 6 rfl (by kernel_rfl) (fun _ _ _ h => h) gnone (TTat (List.Mem.head _)) (p_lda Tryz.isAgg25 Tryz.sizeOf25 rfl rfl) rfl ?_
  refine dfB 7 (by kernel_rfl) ?_
  refine doRB rfl (o_bsl [q0] Tryz.underlying42 Tryz.sizeOf25 Tryz.zeroValue25 rfl (Enum.t Enum.d) (RV.t y rfl (by repeat (first | exact Sub.d | (refine Sub.s ?_ ?_; (repeat (first | exact In.z | apply In.s))) | (refine Sub.suf ?_; (repeat (first | exact Suf.z | apply Suf.s))))) RV.d) rfl (by decide) (by decide) rfl) (TOk.xP 7 [] (by kernel_rfl) TOk.d) ?_
  refine eaB ?_; intro b18
  refine amonoB (fun a w h => Go.Sx.freeze (i := 0) rfl h) ?_
  refine dfB 8 (by kernel_rfl) ?_
  refine doRB rfl (o_app (is := [0]) Tryz.underlying42 inf25 rfl (by decide) (by decide) rfl rfl (by simp only [List.length_cons, List.length_nil]; omega) (fun h => by cases h) rfl (by repeat (first | exact Sub.d | (refine Sub.s ?_ ?_; (repeat (first | exact In.z | apply In.s))) | (refine Sub.suf ?_; (repeat (first | exact Suf.z | apply Suf.s))))) rfl) (TOk.xP 7 [] (by kernel_rfl) TOk.d) ?_
  refine eaB ?_; rintro ⟨A2, c2⟩
  refine amonoB (fun a w h => Go.Sx.freeze (i := 0) rfl h) ?_
  refine dfB 9 (by kernel_rfl) ?_
  refine doRB rfl (o_call (is := []) Tryz.call9 (c_few7 _ _ _ hla hfa hM) rfl rfl (by repeat (first | exact Sub.d | (refine Sub.s ?_ ?_; (repeat (first | exact In.z | apply In.s))) | (refine Sub.suf ?_; (repeat (first | exact Suf.z | apply Suf.s))))) rfl) (TOk.xP 7 [] (by kernel_rfl) TOk.d) ?_
  refine eaB ?_; intro x20
  refine tkB 10 rfl (by kernel_rfl) (fun _ _ _ h => h) gnone (TTany _) (p_not rfl) rfl ?_
  refine dnB (by kernel_rfl) ?_
  refine nthen ?_
  refine cc rfl ?_ ?_
  ·
   intro h21
   try simp only [decide_eq_true_eq, decide_eq_false_iff_not, Bool.not_eq_true', Bool.not_eq_false', Int.not_lt, Int.not_le, ge_iff_le, Bool.not_true, Bool.not_false] at h21
   refine cs ?_
   refine cr ?_
   refine ls (o_call (is := []) Tryz.call10 (c_alive7) rfl rfl (by repeat (first | exact Sub.d | (refine Sub.s ?_ ?_; (repeat (first | exact In.z | apply In.s))) | (refine Sub.suf ?_; (repeat (first | exact Suf.z | apply Suf.s))))) rfl) ?_
   refine le ?_; intro x22
   refine ls (op (p_asg rfl) rfl) ?_
   refine ln ?_
   refine nthen ?_
   refine cret ?_
   refine xret (fun _ _ h => h) ?_
   refine rret (is := []) () (Or.inl rfl) (Res.t rfl Res.d) (rfl) rfl (by repeat (first | exact Sub.d | (refine Sub.s ?_ ?_; (repeat (first | exact In.z | apply In.s))) | (refine Sub.suf ?_; (repeat (first | exact Suf.z | apply Suf.s)))))
  ·
   intro h21
   try simp only [decide_eq_true_eq, decide_eq_false_iff_not, Bool.not_eq_true', Bool.not_eq_false', Int.not_lt, Int.not_le, ge_iff_le, Bool.not_true, Bool.not_false] at h21
   refine cskip ?_
   refine nthen ?_
   refine cs ?_
   refine cutC (S' := fun a w => ∃ (b5 : Nat) (r1 : Patch) (rest : List Patch) (r3 : Bool) (yq1 : Rp.Lay Patch) (A4 : Option Addr) (c4 : Nat) (hr : (r1, rest, r3) = ppast [] q0), St M0 F0 w0 61 [(0, .slice none ([] : List Patch).length c), (3, .pointer (some ⟨b3, 0, none⟩)), (5, .pointer (some ⟨b5, 0, none⟩)), (6, .slice A4 rest.length c4), (7, .bool r3)] [box b5 31 (Rp.enc r1 yq1), box b3 25 (Rp.enc q0 y)] [slA yq1.1.1 r1.deps, slA yq1.2.1 r1.l, slA A4 rest, slA none ([] : List Patch), slA y.1.1 q0.deps, slA y.2.1 q0.l] a w) ?_ ?_
   ·
    refine cdB [1, 3, 4, 9, 10] [(2, b3, 0, _)] TryzX.mixed (by kernel_rfl) (by kernel_rfl) (TOk.t (isBoxS (by repeat (first | exact At.z | apply At.s)) (k := 4) (by repeat (first | exact Cut.d | apply Cut.t | apply Cut.s))) TOk.d) ?_
    refine tkB 0 rfl (by kernel_rfl) (fun _ _ _ h => h) gnone (TTany _) (p_move rfl) rfl ?_
    refine tkB 2 rfl (by kernel_rfl) (fun _ _ _ h => h) gnone (TTat (List.Mem.head _)) (p_lda Tryz.isAgg25 Tryz.sizeOf25 rfl rfl) rfl ?_
    refine dallB (is := [1, 9]) (by kernel_rfl) rfl ?_
    intro i hi; simp only [List.mem_cons, List.mem_nil_iff, or_false] at hi; rcases hi with rfl | rfl
    ·
     refine doRB rfl (o_call (is := []) Tryz.call22 (c_Rows7 _ _ c (by omega) hf) rfl rfl (by repeat (first | exact Sub.d | (refine Sub.s ?_ ?_; (repeat (first | exact In.z | apply In.s))) | (refine Sub.suf ?_; (repeat (first | exact Suf.z | apply Suf.s))))) rfl) (TOk.t (isBoxE fun _ => isBoxS (by repeat (first | exact At.z | apply At.s)) (k := 4) (by repeat (first | exact Cut.d | apply Cut.t | apply Cut.s))) TOk.d) ?_
     refine eaB ?_; rintro ⟨A3, c3⟩
     refine dallB (is := [3, 9]) (by kernel_rfl) rfl ?_
     intro i hi; simp only [List.mem_cons, List.mem_nil_iff, or_false] at hi; rcases hi with rfl | rfl
     ·
      refine doRB rfl (o_call (is := []) Tryz.call12 (c_New7 q0 y hq) rfl rfl (by repeat (first | exact Sub.d | (refine Sub.s ?_ ?_; (repeat (first | exact In.z | apply In.s))) | (refine Sub.suf ?_; (repeat (first | exact Suf.z | apply Suf.s))))) rfl) (TOk.xP 3 [] (by kernel_rfl) TOk.d) ?_
      refine eaB ?_; intro y27
      refine dallB (is := [4, 9]) (by kernel_rfl) rfl ?_
      intro i hi; simp only [List.mem_cons, List.mem_nil_iff, or_false] at hi; rcases hi with rfl | rfl
      ·
       refine doRB rfl (o_call (is := []) Tryz.call21 (c_nPastD _ A3 c3 (by omega) hf q0 y27 hq) rfl rfl (by repeat (first | exact Sub.d | (refine Sub.s ?_ ?_; (repeat (first | exact In.z | apply In.s))) | (refine Sub.suf ?_; (repeat (first | exact Suf.z | apply Suf.s))))) rfl) (TOk.xP 3 [] (by kernel_rfl) TOk.d) ?_
       refine eaB ?_; rintro ⟨⟨⟨r1, rest, r3⟩, ⟨yq1, ⟨A4, c4⟩⟩⟩, hr⟩
       dsimp only at hr
       refine amonoB (fun a w h => Go.Sx.freeze (i := 0) rfl h) ?_
       refine tkB 5 rfl (by kernel_rfl) (fun _ _ _ h => h) gnone (TTany _) (p_move rfl) rfl ?_
       refine tkB 6 rfl (by kernel_rfl) (fun _ _ _ h => h) gnone (TTany _) (p_ext rfl (by repeat (first | exact At.z | apply At.s))) rfl ?_
       refine tkB 7 rfl (by kernel_rfl) (fun _ _ _ h => h) gnone (TTany _) (p_ext rfl (by repeat (first | exact At.z | apply At.s))) rfl ?_
       refine tkB 8 rfl (by kernel_rfl) (fun _ _ _ h => h) gnone (TTany _) (p_ext rfl (by repeat (first | exact At.z | apply At.s))) rfl ?_
       refine dfB 9 (by kernel_rfl) ?_
       refine doRB rfl (o_alloc Tryz.zeroValue31 rfl rfl) (TOk.xP 3 [] (by kernel_rfl) TOk.d) ?_
       refine eaB ?_; intro b5
       refine dfB 10 (by kernel_rfl) ?_
       refine doRB rfl (o_st rfl Tryz.sizeOf31 rfl rfl rfl rfl rfl (by repeat (first | exact At.z | apply At.s)) (by repeat (first | exact Put.d | apply Put.t | apply Put.s)) (by repeat (first | exact SetAt.z | apply SetAt.s))) (TOk.xP 3 [] (by kernel_rfl) TOk.d) ?_
       refine tkB 11 rfl (by kernel_rfl) (fun _ _ _ h => h) gnone (TTany _) (p_asg rfl) rfl ?_
       refine tkB 12 rfl (by kernel_rfl) (fun _ _ _ h => h) gnone (TTany _) (p_asg rfl) rfl ?_
       refine dnB (by kernel_rfl) (nmid (fun a w h => by first | exact ⟨b5, r1, rest, r3, yq1, A4, c4, hr, wk (is := [0, 0]) (by repeat (first | exact subσ.nil _ | refine subσ.cons rfl ?_)) rfl (by repeat (first | exact Sub.d | (refine Sub.s ?_ ?_; (repeat (first | exact In.z | apply In.s))) | (refine Sub.suf ?_; (repeat (first | exact Suf.z | apply Suf.s))))) a w h⟩))
      ·
       refine doRB rfl (o_alloc Tryz.zeroValue31 rfl rfl) (TOk.xP 3 [] (by kernel_rfl) TOk.d) ?_
       refine eaB ?_; intro b5
       refine dfB 4 (by kernel_rfl) ?_
       refine doRB rfl (o_call (is := []) Tryz.call21 (c_nPastD _ A3 c3 (by omega) hf q0 y27 hq) rfl rfl (by repeat (first | exact Sub.d | (refine Sub.s ?_ ?_; (repeat (first | exact In.z | apply In.s))) | (refine Sub.suf ?_; (repeat (first | exact Suf.z | apply Suf.s))))) rfl) (TOk.xP 3 [] (by kernel_rfl) TOk.d) ?_
       refine eaB ?_; rintro ⟨⟨⟨r1, rest, r3⟩, ⟨yq1, ⟨A4, c4⟩⟩⟩, hr⟩
       dsimp only at hr
       refine amonoB (fun a w h => Go.Sx.freeze (i := 0) rfl h) ?_
       refine tkB 5 rfl (by kernel_rfl) (fun _ _ _ h => h) gnone (TTany _) (p_move rfl) rfl ?_
       refine tkB 6 rfl (by kernel_rfl) (fun _ _ _ h => h) gnone (TTany _) (p_ext rfl (by repeat (first | exact At.z | apply At.s))) rfl ?_
       refine tkB 7 rfl (by kernel_rfl) (fun _ _ _ h => h) gnone (TTany _) (p_ext rfl (by repeat (first | exact At.z | apply At.s))) rfl ?_
       refine tkB 8 rfl (by kernel_rfl) (fun _ _ _ h => h) gnone (TTany _) (p_ext rfl (by repeat (first | exact At.z | apply At.s))) rfl ?_
       refine dfB 10 (by kernel_rfl) ?_
       refine doRB rfl (o_st rfl Tryz.sizeOf31 rfl rfl rfl rfl rfl (by repeat (first | exact At.z | apply At.s)) (by repeat (first | exact Put.d | apply Put.t | apply Put.s)) (by repeat (first | exact SetAt.z | apply SetAt.s))) (TOk.xP 3 [] (by kernel_rfl) TOk.d) ?_
       refine tkB 11 rfl (by kernel_rfl) (fun _ _ _ h => h) gnone (TTany _) (p_asg rfl) rfl ?_
       refine tkB 12 rfl (by kernel_rfl) (fun _ _ _ h => h) gnone (TTany _) (p_asg rfl) rfl ?_
       refine dnB (by kernel_rfl) (nmid (fun a w h => by first | exact ⟨b5, r1, rest, r3, yq1, A4, c4, hr, wk (is := [0, 0]) (by repeat (first | exact subσ.nil _ | refine subσ.cons rfl ?_)) rfl (by repeat (first | exact Sub.d | (refine Sub.s ?_ ?_; (repeat (first | exact In.z | apply In.s))) | (refine Sub.suf ?_; (repeat (first | exact Suf.z | apply Suf.s))))) a w h⟩))
     ·
      refine doRB rfl (o_alloc Tryz.zeroValue31 rfl rfl) (TOk.t (isBoxE fun _ => isBoxS (by repeat (first | exact At.z | apply At.s)) (k := 4) (by repeat (first | exact Cut.d | apply Cut.t | apply Cut.s))) TOk.d) ?_
      refine eaB ?_; intro b5
      refine dfB 3 (by kernel_rfl) ?_
      refine doRB rfl (o_call (is := []) Tryz.call12 (c_New7 q0 y hq) rfl rfl (by repeat (first | exact Sub.d | (refine Sub.s ?_ ?_; (repeat (first | exact In.z | apply In.s))) | (refine Sub.suf ?_; (repeat (first | exact Suf.z | apply Suf.s))))) rfl) (TOk.xP 3 [] (by kernel_rfl) TOk.d) ?_
      refine eaB ?_; intro y27
      refine dfB 4 (by kernel_rfl) ?_
      refine doRB rfl (o_call (is := []) Tryz.call21 (c_nPastD _ A3 c3 (by omega) hf q0 y27 hq) rfl rfl (by repeat (first | exact Sub.d | (refine Sub.s ?_ ?_; (repeat (first | exact In.z | apply In.s))) | (refine Sub.suf ?_; (repeat (first | exact Suf.z | apply Suf.s))))) rfl) (TOk.xP 3 [] (by kernel_rfl) TOk.d) ?_
      refine eaB ?_; rintro ⟨⟨⟨r1, rest, r3⟩, ⟨yq1, ⟨A4, c4⟩⟩⟩, hr⟩
      dsimp only at hr
      refine amonoB (fun a w h => Go.Sx.freeze (i := 0) rfl h) ?_
      refine tkB 5 rfl (by kernel_rfl) (fun _ _ _ h => h) gnone (TTany _) (p_move rfl) rfl ?_
      refine tkB 6 rfl (by kernel_rfl) (fun _ _ _ h => h) gnone (TTany _) (p_ext rfl (by repeat (first | exact At.z | apply At.s))) rfl ?_
      refine tkB 7 rfl (by kernel_rfl) (fun _ _ _ h => h) gnone (TTany _) (p_ext rfl (by repeat (first | exact At.z | apply At.s))) rfl ?_
      refine tkB 8 rfl (by kernel_rfl) (fun _ _ _ h => h) gnone (TTany _) (p_ext rfl (by repeat (first | exact At.z | apply At.s))) rfl ?_
      refine dfB 10 (by kernel_rfl) ?_
      refine doRB rfl (o_st rfl Tryz.sizeOf31 rfl rfl rfl rfl rfl (by repeat (first | exact At.z | apply At.s)) (by repeat (first | exact Put.d | apply Put.t | apply Put.s)) (by repeat (first | exact SetAt.z | apply SetAt.s))) (TOk.xP 3 [] (by kernel_rfl) TOk.d) ?_
      refine tkB 11 rfl (by kernel_rfl) (fun _ _ _ h => h) gnone (TTany _) (p_asg rfl) rfl ?_
      refine tkB 12 rfl (by kernel_rfl) (fun _ _ _ h => h) gnone (TTany _) (p_asg rfl) rfl ?_
      refine dnB (by kernel_rfl) (nmid (fun a w h => by first | exact ⟨b5, r1, rest, r3, yq1, A4, c4, hr, wk (is := [0, 0]) (by repeat (first | exact subσ.nil _ | refine subσ.cons rfl ?_)) rfl (by repeat (first | exact Sub.d | (refine Sub.s ?_ ?_; (repeat (first | exact In.z | apply In.s))) | (refine Sub.suf ?_; (repeat (first | exact Suf.z | apply Suf.s))))) a w h⟩))
    ·
     refine doRB rfl (o_alloc Tryz.zeroValue31 rfl rfl) (TOk.t (isBoxE fun _ => isBoxS (by repeat (first | exact At.z | apply At.s)) (k := 4) (by repeat (first | exact Cut.d | apply Cut.t | apply Cut.s))) TOk.d) ?_
     refine eaB ?_; intro b5
     refine dfB 1 (by kernel_rfl) ?_
     refine doRB rfl (o_call (is := []) Tryz.call22 (c_Rows7 _ _ c (by omega) hf) rfl rfl (by repeat (first | exact Sub.d | (refine Sub.s ?_ ?_; (repeat (first | exact In.z | apply In.s))) | (refine Sub.suf ?_; (repeat (first | exact Suf.z | apply Suf.s))))) rfl) (TOk.t (isBoxE fun _ => isBoxS (by repeat (first | exact At.z | apply At.s)) (k := 4) (by repeat (first | exact Cut.d | apply Cut.t | apply Cut.s))) TOk.d) ?_
     refine eaB ?_; rintro ⟨A3, c3⟩
     refine dfB 3 (by kernel_rfl) ?_
     refine doRB rfl (o_call (is := []) Tryz.call12 (c_New7 q0 y hq) rfl rfl (by repeat (first | exact Sub.d | (refine Sub.s ?_ ?_; (repeat (first | exact In.z | apply In.s))) | (refine Sub.suf ?_; (repeat (first | exact Suf.z | apply Suf.s))))) rfl) (TOk.xP 3 [] (by kernel_rfl) TOk.d) ?_
     refine eaB ?_; intro y27
     refine dfB 4 (by kernel_rfl) ?_
     refine doRB rfl (o_call (is := []) Tryz.call21 (c_nPastD _ A3 c3 (by omega) hf q0 y27 hq) rfl rfl (by repeat (first | exact Sub.d | (refine Sub.s ?_ ?_; (repeat (first | exact In.z | apply In.s))) | (refine Sub.suf ?_; (repeat (first | exact Suf.z | apply Suf.s))))) rfl) (TOk.xP 3 [] (by kernel_rfl) TOk.d) ?_
     refine eaB ?_; rintro ⟨⟨⟨r1, rest, r3⟩, ⟨yq1, ⟨A4, c4⟩⟩⟩, hr⟩
     dsimp only at hr
     refine amonoB (fun a w h => Go.Sx.freeze (i := 0) rfl h) ?_
     refine tkB 5 rfl (by kernel_rfl) (fun _ _ _ h => h) gnone (TTany _) (p_move rfl) rfl ?_
     refine tkB 6 rfl (by kernel_rfl) (fun _ _ _ h => h) gnone (TTany _) (p_ext rfl (by repeat (first | exact At.z | apply At.s))) rfl ?_
     refine tkB 7 rfl (by kernel_rfl) (fun _ _ _ h => h) gnone (TTany _) (p_ext rfl (by repeat (first | exact At.z | apply At.s))) rfl ?_
     refine tkB 8 rfl (by kernel_rfl) (fun _ _ _ h => h) gnone (TTany _) (p_ext rfl (by repeat (first | exact At.z | apply At.s))) rfl ?_
     refine dfB 10 (by kernel_rfl) ?_
     refine doRB rfl (o_st rfl Tryz.sizeOf31 rfl rfl rfl rfl rfl (by repeat (first | exact At.z | apply At.s)) (by repeat (first | exact Put.d | apply Put.t | apply Put.s)) (by repeat (first | exact SetAt.z | apply SetAt.s))) (TOk.xP 3 [] (by kernel_rfl) TOk.d) ?_
     refine tkB 11 rfl (by kernel_rfl) (fun _ _ _ h => h) gnone (TTany _) (p_asg rfl) rfl ?_
     refine tkB 12 rfl (by kernel_rfl) (fun _ _ _ h => h) gnone (TTany _) (p_asg rfl) rfl ?_
     refine dnB (by kernel_rfl) (nmid (fun a w h => by first | exact ⟨b5, r1, rest, r3, yq1, A4, c4, hr, wk (is := [0, 0]) (by repeat (first | exact subσ.nil _ | refine subσ.cons rfl ?_)) rfl (by repeat (first | exact Sub.d | (refine Sub.s ?_ ?_; (repeat (first | exact In.z | apply In.s))) | (refine Sub.suf ?_; (repeat (first | exact Suf.z | apply Suf.s))))) a w h⟩))
   ·
    refine nex fun b5 => nex fun r1 => nex fun rest => nex fun r3 => nex fun yq1 => nex fun A4 => nex fun c4 => nex fun hr => ?_
    refine nthen ?_
    refine cs ?_
    refine cr ?_
    refine ls (op (p_move rfl) rfl) ?_
    refine ls (o_ldw Tryz.isAgg25 Tryz.sizeOf25 rfl (by repeat (first | exact At.z | apply At.s)) (by rfl) rfl) ?_
    refine ls (o_call (is := []) Tryz.call23 (c_rPast _ _ c (by omega) hf q0 y hq) rfl rfl (by repeat (first | exact Sub.d | (refine Sub.s ?_ ?_; (repeat (first | exact In.z | apply In.s))) | (refine Sub.suf ?_; (repeat (first | exact Suf.z | apply Suf.s))))) rfl) ?_
    refine le ?_; rintro ⟨⟨⟨s1, srest, s3⟩, ⟨ys1, ⟨A5, c5⟩⟩⟩, hs⟩
    dsimp only at hs
    obtain ⟨rfl, rfl, rfl⟩ := pthr2 (hr.trans hs.symm)
    obtain ⟨f1, f2, f3⟩ := ppast_fit hr hf hq
    refine ls (op (p_move rfl) rfl) ?_
    refine ls (op (p_ext rfl (by repeat (first | exact At.z | apply At.s))) rfl) ?_
    refine ls (op (p_ext rfl (by repeat (first | exact At.z | apply At.s))) rfl) ?_
    refine ls (op (p_ext rfl (by repeat (first | exact At.z | apply At.s))) rfl) ?_
    refine ls (o_alloc Tryz.zeroValue25 rfl rfl) ?_
    refine le ?_; intro b8
    refine ls (o_st rfl Tryz.sizeOf25 rfl rfl rfl rfl rfl (by repeat (first | exact At.z | apply At.s)) (by repeat (first | exact Put.d | apply Put.t | apply Put.s)) (by repeat (first | exact SetAt.z | apply SetAt.s))) ?_
    refine ls (op (p_asg rfl) rfl) ?_
    refine ls (op (p_asg rfl) rfl) ?_
    refine ln ?_
    refine nthen ?_
    refine cs ?_
    have hr3 : r3 = true ∨ r3 = false := by cases r3 <;> simp
    rcases hr3 with rfl | rfl
    ·
     refine cdB [0, 11, 13, 18, 20] [(10, b5, 0, _), (12, b8, 0, _)] TryzX.mixed (by kernel_rfl) (by kernel_rfl) (TOk.t (isBoxS (by repeat (first | exact At.z | apply At.s)) (k := 4) (by repeat (first | exact Cut.d | apply Cut.t | apply Cut.s))) (TOk.t (isBoxS (by repeat (first | exact At.z | apply At.s)) (k := 4) (by repeat (first | exact Cut.d | apply Cut.t | apply Cut.s))) TOk.d)) ?_
     refine dfB 0 (by kernel_rfl) ?_
     refine doRB rfl (o_call (is := []) Tryz.call10 (c_alive7) rfl rfl (by repeat (first | exact Sub.d | (refine Sub.s ?_ ?_; (repeat (first | exact In.z | apply In.s))) | (refine Sub.suf ?_; (repeat (first | exact Suf.z | apply Suf.s))))) rfl) (TOk.t (isBoxE fun _ => isBoxS (by repeat (first | exact At.z | apply At.s)) (k := 4) (by repeat (first | exact Cut.d | apply Cut.t | apply Cut.s))) (TOk.t (isBoxE fun _ => isBoxS (by repeat (first | exact At.z | apply At.s)) (k := 4) (by repeat (first | exact Cut.d | apply Cut.t | apply Cut.s))) TOk.d)) ?_
     refine eaB ?_; intro x39
     refine tkB 1 rfl (by kernel_rfl) (fun _ _ _ h => h) gnone (TTany _) (p_move rfl) rfl ?_
     refine tkB 2 rfl (by kernel_rfl) (fun _ _ _ h => h) (gyes rfl rfl rfl rfl) (TTany _) (p_move rfl) rfl ?_
     refine tkB 3 rfl (by kernel_rfl) (fun _ _ _ h => h) (gyes rfl rfl rfl rfl) (TTany _) (p_move rfl) rfl ?_
     refine tkB 4 rfl (by kernel_rfl) (fun _ _ _ h => h) (gyes rfl rfl rfl rfl) (TTany _) (p_beq Tryz.underlying4 rfl rfl) rfl ?_
     refine fixB (congrArg Value.bool (beq_self_eq_true _)) ?_
     refine tkB 5 rfl (by kernel_rfl) (fun _ _ _ h => h) gnone (TTany _) (p_pickt rfl rfl) rfl ?_
     refine tkB 6 rfl (by kernel_rfl) (fun _ _ _ h => h) gnone (TTany _) (p_move rfl) rfl ?_
     refine tkB 7 rfl (by kernel_rfl) (fun _ _ _ h => h) (gyes rfl rfl rfl rfl) (TTany _) (p_move rfl) rfl ?_
     refine tkB 8 rfl (by kernel_rfl) (fun _ _ _ h => h) (gyes rfl rfl rfl rfl) (TTany _) (p_not rfl) rfl ?_
     refine tkB 9 rfl (by kernel_rfl) (fun _ _ _ h => h) (gyes rfl rfl rfl rfl) (TTany _) (p_move rfl) rfl ?_
     refine tkB 10 rfl (by kernel_rfl) (fun _ _ _ h => h) (gyes rfl rfl rfl rfl) (TTat (List.Mem.head _)) (p_lda Tryz.isAgg31 Tryz.sizeOf31 rfl rfl) rfl ?_
     refine tkB 12 rfl (by kernel_rfl) (fun _ _ _ h => h) (gyes rfl rfl rfl rfl) (TTat (List.Mem.tail _ (List.Mem.head _))) (p_lda Tryz.isAgg25 Tryz.sizeOf25 rfl rfl) rfl ?_
     refine dfB 11 (by kernel_rfl) ?_
     refine doGB rfl rfl rfl rfl rfl (o_call (is := []) Tryz.call19 (c_Old7 r1 yq1 f1) rfl rfl (by repeat (first | exact Sub.d | (refine Sub.s ?_ ?_; (repeat (first | exact In.z | apply In.s))) | (refine Sub.suf ?_; (repeat (first | exact Suf.z | apply Suf.s))))) rfl) (TOk.xP 11 [] (by kernel_rfl) (TOk.t (isBoxE fun _ => isBoxS (by repeat (first | exact At.z | apply At.s)) (k := 4) (by repeat (first | exact Cut.d | apply Cut.t | apply Cut.s))) TOk.d)) ?_
     refine eaB ?_; intro y50
     refine dfB 13 (by kernel_rfl) ?_
     refine doGB rfl rfl rfl rfl rfl (o_call (is := []) Tryz.call15 (c_rSame r1 r1 y50 ys1 f1 f1) rfl rfl (by repeat (first | exact Sub.d | (refine Sub.s ?_ ?_; (repeat (first | exact In.z | apply In.s))) | (refine Sub.suf ?_; (repeat (first | exact Suf.z | apply Suf.s))))) rfl) (TOk.xP 11 [] (by kernel_rfl) (TOk.xP 13 [] (by kernel_rfl) TOk.d)) ?_
     refine eaB ?_; intro x52
     refine fixB (congrArg Value.bool (decide_eq_true rfl)) ?_
     refine tkB 14 rfl (by kernel_rfl) (fun _ _ _ h => h) (gyes rfl rfl rfl rfl) (TTany _) (p_pickf rfl rfl) rfl ?_
     refine tkB 15 rfl (by kernel_rfl) (fun _ _ _ h => h) gnone (TTany _) (p_pickt rfl rfl) rfl ?_
     refine tkB 16 rfl (by kernel_rfl) (fun _ _ _ h => h) gnone (TTany _) (p_move rfl) rfl ?_
     refine tkB 17 rfl (by kernel_rfl) (fun _ _ _ h => h) (gyes rfl rfl rfl rfl) (TTany _) (p_move rfl) rfl ?_
     refine tkB 19 rfl (by kernel_rfl) (fun _ _ _ h => h) (gyes rfl rfl rfl rfl) (TTany _) (p_move rfl) rfl ?_
     refine dfB 18 (by kernel_rfl) ?_
     refine doGB rfl rfl rfl rfl rfl (o_call (is := []) Tryz.call25 (c_Olds7 rest A4 c4 (by omega) f2) rfl rfl (by repeat (first | exact Sub.d | (refine Sub.s ?_ ?_; (repeat (first | exact In.z | apply In.s))) | (refine Sub.suf ?_; (repeat (first | exact Suf.z | apply Suf.s))))) rfl) (TOk.xP 11 [] (by kernel_rfl) (TOk.xP 13 [] (by kernel_rfl) TOk.d)) ?_
     refine eaB ?_; rintro ⟨A6, c6⟩
     refine dfB 20 (by kernel_rfl) ?_
     refine doGB rfl rfl rfl rfl rfl (o_call (is := []) Tryz.call24 (c_rAll rest rest A6 A5 c6 c5 (by omega) f2 f2) rfl rfl (by repeat (first | exact Sub.d | (refine Sub.s ?_ ?_; (repeat (first | exact In.z | apply In.s))) | (refine Sub.suf ?_; (repeat (first | exact Suf.z | apply Suf.s))))) rfl) (TOk.xP 11 [] (by kernel_rfl) (TOk.xP 13 [] (by kernel_rfl) TOk.d)) ?_
     refine eaB ?_; intro x59
     refine fixB (congrArg Value.bool (decide_eq_true rfl)) ?_
     refine tkB 21 rfl (by kernel_rfl) (fun _ _ _ h => h) gnone (TTany _) (p_pickt rfl rfl) rfl ?_
     refine tkB 22 rfl (by kernel_rfl) (fun _ _ _ h => h) gnone (TTany _) (p_asg rfl) rfl ?_
     refine dnB (by kernel_rfl) ?_
     refine nthen ?_
     refine cret ?_
     refine xret (fun _ _ h => h) ?_
     refine rret (is := []) () (Or.inl rfl) (Res.t rfl Res.d) (rfl) rfl (by repeat (first | exact Sub.d | (refine Sub.s ?_ ?_; (repeat (first | exact In.z | apply In.s))) | (refine Sub.suf ?_; (repeat (first | exact Suf.z | apply Suf.s)))))
    ·
     refine cdB [0, 18, 20] [] TryzX.mixed (by kernel_rfl) (by kernel_rfl) TOk.d ?_
     refine dfB 0 (by kernel_rfl) ?_
     refine doRB rfl (o_call (is := []) Tryz.call10 (c_alive7) rfl rfl (by repeat (first | exact Sub.d | (refine Sub.s ?_ ?_; (repeat (first | exact In.z | apply In.s))) | (refine Sub.suf ?_; (repeat (first | exact Suf.z | apply Suf.s))))) rfl) TOk.d ?_
     refine eaB ?_; intro x39
     refine tkB 1 rfl (by kernel_rfl) (fun _ _ _ h => h) gnone (TTany _) (p_move rfl) rfl ?_
     refine tkB 2 rfl (by kernel_rfl) (fun _ _ _ h => h) (gyes rfl rfl rfl rfl) (TTany _) (p_move rfl) rfl ?_
     refine tkB 3 rfl (by kernel_rfl) (fun _ _ _ h => h) (gyes rfl rfl rfl rfl) (TTany _) (p_move rfl) rfl ?_
     refine tkB 4 rfl (by kernel_rfl) (fun _ _ _ h => h) (gyes rfl rfl rfl rfl) (TTany _) (p_beq Tryz.underlying4 rfl rfl) rfl ?_
     refine fixB (congrArg Value.bool (beq_self_eq_true _)) ?_
     refine tkB 5 rfl (by kernel_rfl) (fun _ _ _ h => h) gnone (TTany _) (p_pickt rfl rfl) rfl ?_
     refine tkB 6 rfl (by kernel_rfl) (fun _ _ _ h => h) gnone (TTany _) (p_move rfl) rfl ?_
     refine tkB 7 rfl (by kernel_rfl) (fun _ _ _ h => h) (gyes rfl rfl rfl rfl) (TTany _) (p_move rfl) rfl ?_
     refine tkB 8 rfl (by kernel_rfl) (fun _ _ _ h => h) (gyes rfl rfl rfl rfl) (TTany _) (p_not rfl) rfl ?_
     refine tkB 9 rfl (by kernel_rfl) (fun _ _ _ h => h) (gyes rfl rfl rfl rfl) (TTany _) (p_move rfl) rfl ?_
     refine tksB 10 rfl (by kernel_rfl) (fun _ _ _ h => h) rfl rfl rfl rfl rfl ?_
     refine tksB 11 rfl (by kernel_rfl) (fun _ _ _ h => h) rfl rfl rfl rfl rfl ?_
     refine tksB 12 rfl (by kernel_rfl) (fun _ _ _ h => h) rfl rfl rfl rfl rfl ?_
     refine tksB 13 rfl (by kernel_rfl) (fun _ _ _ h => h) rfl rfl rfl rfl rfl ?_
     refine tkB 14 rfl (by kernel_rfl) (fun _ _ _ h => h) (gyes rfl rfl rfl rfl) (TTany _) (p_pickt rfl rfl) rfl ?_
     refine tkB 15 rfl (by kernel_rfl) (fun _ _ _ h => h) gnone (TTany _) (p_pickt rfl rfl) rfl ?_
     refine tkB 16 rfl (by kernel_rfl) (fun _ _ _ h => h) gnone (TTany _) (p_move rfl) rfl ?_
     refine tkB 17 rfl (by kernel_rfl) (fun _ _ _ h => h) (gyes rfl rfl rfl rfl) (TTany _) (p_move rfl) rfl ?_
     refine tkB 19 rfl (by kernel_rfl) (fun _ _ _ h => h) (gyes rfl rfl rfl rfl) (TTany _) (p_move rfl) rfl ?_
     refine dfB 18 (by kernel_rfl) ?_
     refine doGB rfl rfl rfl rfl rfl (o_call (is := []) Tryz.call25 (c_Olds7 rest A4 c4 (by omega) f2) rfl rfl (by repeat (first | exact Sub.d | (refine Sub.s ?_ ?_; (repeat (first | exact In.z | apply In.s))) | (refine Sub.suf ?_; (repeat (first | exact Suf.z | apply Suf.s))))) rfl) TOk.d ?_
     refine eaB ?_; rintro ⟨A6, c6⟩
     refine dfB 20 (by kernel_rfl) ?_
     refine doGB rfl rfl rfl rfl rfl (o_call (is := []) Tryz.call24 (c_rAll rest rest A6 A5 c6 c5 (by omega) f2 f2) rfl rfl (by repeat (first | exact Sub.d | (refine Sub.s ?_ ?_; (repeat (first | exact In.z | apply In.s))) | (refine Sub.suf ?_; (repeat (first | exact Suf.z | apply Suf.s))))) rfl) TOk.d ?_
     refine eaB ?_; intro x59
     refine fixB (congrArg Value.bool (decide_eq_true rfl)) ?_
     refine tkB 21 rfl (by kernel_rfl) (fun _ _ _ h => h) gnone (TTany _) (p_pickt rfl rfl) rfl ?_
     refine tkB 22 rfl (by kernel_rfl) (fun _ _ _ h => h) gnone (TTany _) (p_asg rfl) rfl ?_
     refine dnB (by kernel_rfl) ?_
     refine nthen ?_
     refine cret ?_
     refine xret (fun _ _ h => h) ?_
     refine rret (is := []) () (Or.inl rfl) (Res.t rfl Res.d) (rfl) rfl (by repeat (first | exact Sub.d | (refine Sub.s ?_ ?_; (repeat (first | exact In.z | apply In.s))) | (refine Sub.suf ?_; (repeat (first | exact Suf.z | apply Suf.s)))))
 ·
  refine cdB [7, 8, 9] [(6, b3, 0, _)] TryzX.mixed (by kernel_rfl) (by kernel_rfl) (TOk.t (isBoxS (by repeat (first | exact At.z | apply At.s)) (k := 4) (by repeat (first | exact Cut.d | apply Cut.t | apply Cut.s))) TOk.d) ?_
  refine tkB 0 rfl (by kernel_rfl) (fun _ _ _ h => h) gnone (TTany _) (p_move rfl) rfl ?_
  refine tkB 1 rfl (by kernel_rfl) (fun _ _ _ h => h) gnone (TTany _) (p_move rfl) rfl ?_
  refine tkB 2 rfl (by kernel_rfl) (fun _ _ _ h => h) gnone (TTany _) (p_lenl rfl Tryz.underlying42) rfl ?_
  refine tkB 3 rfl (by kernel_rfl) (fun _ _ _ h => h) gnone (TTany _) (p_move rfl) rfl ?_
  refine tkB 4 rfl (by kernel_rfl) (fun _ _ _ h => h) gnone (TTany _) (p_lenl rfl Tryz.underlying42) rfl ?_
  refine tkB 5 rfl (by kernel_rfl) (fun _ _ _ h => h) gnone (TTany _) (p_slm _ _ (Nat.le_refl _) hcap rfl rfl Tryz.underlying42 Tryz.sizeOf25 rfl rfl rfl) rfl ?_
  skip
  refine tkB 6 rfl (by kernel_rfl) (fun _ _ _ h => h) gnone (TTat (List.Mem.head _)) (p_lda Tryz.isAgg25 Tryz.sizeOf25 rfl rfl) rfl ?_
  refine dfB 7 (by kernel_rfl) ?_
  refine doRB rfl (o_bsl [q0] Tryz.underlying42 Tryz.sizeOf25 Tryz.zeroValue25 rfl (Enum.t Enum.d) (RV.t y rfl (by repeat (first | exact Sub.d | (refine Sub.s ?_ ?_; (repeat (first | exact In.z | apply In.s))) | (refine Sub.suf ?_; (repeat (first | exact Suf.z | apply Suf.s))))) RV.d) rfl (by decide) (by decide) rfl) (TOk.xP 7 [] (by kernel_rfl) TOk.d) ?_
  refine eaB ?_; intro b18
  refine amonoB (fun a w h => Go.Sx.freeze (i := 0) rfl h) ?_
  refine dfB 8 (by kernel_rfl) ?_
  refine doRB rfl (o_appf Tryz.underlying42 inf25 rfl (by decide) (by decide) rfl rfl rfl (by simp only [List.length_cons, List.length_nil]; omega) (by simp) (by repeat (first | exact Sub.d | (refine Sub.s ?_ ?_; (repeat (first | exact In.z | apply In.s))) | (refine Sub.suf ?_; (repeat (first | exact Suf.z | apply Suf.s))))) rfl) (TOk.xP 7 [] (by kernel_rfl) TOk.d) ?_
  refine eaB ?_; rintro ⟨A2, c2⟩
  refine amonoB (fun a w h => Go.Sx.freeze (i := 0) rfl h) ?_
  refine dfB 9 (by kernel_rfl) ?_
  refine doRB rfl (o_call (is := []) Tryz.call9 (c_few7 _ _ _ hla hfa hM) rfl rfl (by repeat (first | exact Sub.d | (refine Sub.s ?_ ?_; (repeat (first | exact In.z | apply In.s))) | (refine Sub.suf ?_; (repeat (first | exact Suf.z | apply Suf.s))))) rfl) (TOk.xP 7 [] (by kernel_rfl) TOk.d) ?_
  refine eaB ?_; intro x20
  refine tkB 10 rfl (by kernel_rfl) (fun _ _ _ h => h) gnone (TTany _) (p_not rfl) rfl ?_
  refine dnB (by kernel_rfl) ?_
  refine nthen ?_
  refine cc rfl ?_ ?_
  ·
   intro h21
   try simp only [decide_eq_true_eq, decide_eq_false_iff_not, Bool.not_eq_true', Bool.not_eq_false', Int.not_lt, Int.not_le, ge_iff_le, Bool.not_true, Bool.not_false] at h21
   refine cs ?_
   refine cr ?_
   refine ls (o_call (is := []) Tryz.call10 (c_alive7) rfl rfl (by repeat (first | exact Sub.d | (refine Sub.s ?_ ?_; (repeat (first | exact In.z | apply In.s))) | (refine Sub.suf ?_; (repeat (first | exact Suf.z | apply Suf.s))))) rfl) ?_
   refine le ?_; intro x22
   refine ls (op (p_asg rfl) rfl) ?_
   refine ln ?_
   refine nthen ?_
   refine cret ?_
   refine xret (fun _ _ h => h) ?_
   refine rret (is := []) () (Or.inl rfl) (Res.t rfl Res.d) (rfl) rfl (by repeat (first | exact Sub.d | (refine Sub.s ?_ ?_; (repeat (first | exact In.z | apply In.s))) | (refine Sub.suf ?_; (repeat (first | exact Suf.z | apply Suf.s)))))
  ·
   intro h21
   try simp only [decide_eq_true_eq, decide_eq_false_iff_not, Bool.not_eq_true', Bool.not_eq_false', Int.not_lt, Int.not_le, ge_iff_le, Bool.not_true, Bool.not_false] at h21
   refine cskip ?_
   refine nthen ?_
   refine cs ?_
   refine cutC (S' := fun a w => ∃ (b5 : Nat) (r1 : Patch) (rest : List Patch) (r3 : Bool) (yq1 : Rp.Lay Patch) (A4 : Option Addr) (c4 : Nat) (hr : (r1, rest, r3) = ppast [] q0), St M0 F0 w0 61 [(0, .slice (some ad) ([] : List Patch).length c), (3, .pointer (some ⟨b3, 0, none⟩)), (5, .pointer (some ⟨b5, 0, none⟩)), (6, .slice A4 rest.length c4), (7, .bool r3)] [box b5 31 (Rp.enc r1 yq1), box b3 25 (Rp.enc q0 y)] [slA yq1.1.1 r1.deps, slA yq1.2.1 r1.l, slA A4 rest, slA (some ad) ([] : List Patch), slA y.1.1 q0.deps, slA y.2.1 q0.l] a w) ?_ ?_
   ·
    refine cdB [1, 3, 4, 9, 10] [(2, b3, 0, _)] TryzX.mixed (by kernel_rfl) (by kernel_rfl) (TOk.t (isBoxS (by repeat (first | exact At.z | apply At.s)) (k := 4) (by repeat (first | exact Cut.d | apply Cut.t | apply Cut.s))) TOk.d) ?_
    refine tkB 0 rfl (by kernel_rfl) (fun _ _ _ h => h) gnone (TTany _) (p_move rfl) rfl ?_
    refine tkB 2 rfl (by kernel_rfl) (fun _ _ _ h => h) gnone (TTat (List.Mem.head _)) (p_lda Tryz.isAgg25 Tryz.sizeOf25 rfl rfl) rfl ?_
    refine dallB (is := [1, 9]) (by kernel_rfl) rfl ?_
    intro i hi; simp only [List.mem_cons, List.mem_nil_iff, or_false] at hi; rcases hi with rfl | rfl
    ·
     refine doRB rfl (o_call (is := []) Tryz.call22 (c_Rows7 _ _ c (by omega) hf) rfl rfl (by repeat (first | exact Sub.d | (refine Sub.s ?_ ?_; (repeat (first | exact In.z | apply In.s))) | (refine Sub.suf ?_; (repeat (first | exact Suf.z | apply Suf.s))))) rfl) (TOk.t (isBoxE fun _ => isBoxS (by repeat (first | exact At.z | apply At.s)) (k := 4) (by repeat (first | exact Cut.d | apply Cut.t | apply Cut.s))) TOk.d) ?_
     refine eaB ?_; rintro ⟨A3, c3⟩
     refine dallB (is := [3, 9]) (by kernel_rfl) rfl ?_
     intro i hi; simp only [List.mem_cons, List.mem_nil_iff, or_false] at hi; rcases hi with rfl | rfl
     ·
      refine doRB rfl (o_call (is := []) Tryz.call12 (c_New7 q0 y hq) rfl rfl (by repeat (first | exact Sub.d | (refine Sub.s ?_ ?_; (repeat (first | exact In.z | apply In.s))) | (refine Sub.suf ?_; (repeat (first | exact Suf.z | apply Suf.s))))) rfl) (TOk.xP 3 [] (by kernel_rfl) TOk.d) ?_
      refine eaB ?_; intro y27
      refine dallB (is := [4, 9]) (by kernel_rfl) rfl ?_
      intro i hi; simp only [List.mem_cons, List.mem_nil_iff, or_false] at hi; rcases hi with rfl | rfl
      ·
       refine doRB rfl (o_call (is := []) Tryz.call21 (c_nPastD _ A3 c3 (by omega) hf q0 y27 hq) rfl rfl (by repeat (first | exact Sub.d | (refine Sub.s ?_ ?_; (repeat (first | exact In.z | apply In.s))) | (refine Sub.suf ?_; (repeat (first | exact Suf.z | apply Suf.s))))) rfl) (TOk.xP 3 [] (by kernel_rfl) TOk.d) ?_
       refine eaB ?_; rintro ⟨⟨⟨r1, rest, r3⟩, ⟨yq1, ⟨A4, c4⟩⟩⟩, hr⟩
       dsimp only at hr
       refine amonoB (fun a w h => Go.Sx.freeze (i := 0) rfl h) ?_
       refine tkB 5 rfl (by kernel_rfl) (fun _ _ _ h => h) gnone (TTany _) (p_move rfl) rfl ?_
       refine tkB 6 rfl (by kernel_rfl) (fun _ _ _ h => h) gnone (TTany _) (p_ext rfl (by repeat (first | exact At.z | apply At.s))) rfl ?_
       refine tkB 7 rfl (by kernel_rfl) (fun _ _ _ h => h) gnone (TTany _) (p_ext rfl (by repeat (first | exact At.z | apply At.s))) rfl ?_
       refine tkB 8 rfl (by kernel_rfl) (fun _ _ _ h => h) gnone (TTany _) (p_ext rfl (by repeat (first | exact At.z | apply At.s))) rfl ?_
       refine dfB 9 (by kernel_rfl) ?_
       refine doRB rfl (o_alloc Tryz.zeroValue31 rfl rfl) (TOk.xP 3 [] (by kernel_rfl) TOk.d) ?_
       refine eaB ?_; intro b5
       refine dfB 10 (by kernel_rfl) ?_
       refine doRB rfl (o_st rfl Tryz.sizeOf31 rfl rfl rfl rfl rfl (by repeat (first | exact At.z | apply At.s)) (by repeat (first | exact Put.d | apply Put.t | apply Put.s)) (by repeat (first | exact SetAt.z | apply SetAt.s))) (TOk.xP 3 [] (by kernel_rfl) TOk.d) ?_
       refine tkB 11 rfl (by kernel_rfl) (fun _ _ _ h => h) gnone (TTany _) (p_asg rfl) rfl ?_
       refine tkB 12 rfl (by kernel_rfl) (fun _ _ _ h => h) gnone (TTany _) (p_asg rfl) rfl ?_
       refine dnB (by kernel_rfl) (nmid (fun a w h => by first | exact ⟨b5, r1, rest, r3, yq1, A4, c4, hr, wk (is := [0, 0]) (by repeat (first | exact subσ.nil _ | refine subσ.cons rfl ?_)) rfl (by repeat (first | exact Sub.d | (refine Sub.s ?_ ?_; (repeat (first | exact In.z | apply In.s))) | (refine Sub.suf ?_; (repeat (first | exact Suf.z | apply Suf.s))))) a w h⟩))
      ·
       refine doRB rfl (o_alloc Tryz.zeroValue31 rfl rfl) (TOk.xP 3 [] (by kernel_rfl) TOk.d) ?_
       refine eaB ?_; intro b5
       refine dfB 4 (by kernel_rfl) ?_
       refine doRB rfl (o_call (is := []) Tryz.call21 (c_nPastD _ A3 c3 (by omega) hf q0 y27 hq) rfl rfl (by repeat (first | exact Sub.d | (refine Sub.s ?_ ?_; (repeat (first | exact In.z | apply In.s))) | (refine Sub.suf ?_; (repeat (first | exact Suf.z | apply Suf.s))))) rfl) (TOk.xP 3 [] (by kernel_rfl) TOk.d) ?_
       refine eaB ?_; rintro ⟨⟨⟨r1, rest, r3⟩, ⟨yq1, ⟨A4, c4⟩⟩⟩, hr⟩
       dsimp only at hr
       refine amonoB (fun a w h => Go.Sx.freeze (i := 0) rfl h) ?_
       refine tkB 5 rfl (by kernel_rfl) (fun _ _ _ h => h) gnone (TTany _) (p_move rfl) rfl ?_
       refine tkB 6 rfl (by kernel_rfl) (fun _ _ _ h => h) gnone (TTany _) (p_ext rfl (by repeat (first | exact At.z | apply At.s))) rfl ?_
       refine tkB 7 rfl (by kernel_rfl) (fun _ _ _ h => h) gnone (TTany _) (p_ext rfl (by repeat (first | exact At.z | apply At.s))) rfl ?_
       refine tkB 8 rfl (by kernel_rfl) (fun _ _ _ h => h) gnone (TTany _) (p_ext rfl (by repeat (first | exact At.z | apply At.s))) rfl ?_
       refine dfB 10 (by kernel_rfl) ?_
       refine doRB rfl (o_st rfl Tryz.sizeOf31 rfl rfl rfl rfl rfl (by repeat (first | exact At.z | apply At.s)) (by repeat (first | exact Put.d | apply Put.t | apply Put.s)) (by repeat (first | exact SetAt.z | apply SetAt.s))) (TOk.xP 3 [] (by kernel_rfl) TOk.d) ?_
       refine tkB 11 rfl (by kernel_rfl) (fun _ _ _ h => h) gnone (TTany _) (p_asg rfl) rfl ?_
       refine tkB 12 rfl (by kernel_rfl) (fun _ _ _ h => h) gnone (TTany _) (p_asg rfl) rfl ?_
       refine dnB (by kernel_rfl) (nmid (fun a w h => by first | exact ⟨b5, r1, rest, r3, yq1, A4, c4, hr, wk (is := [0, 0]) (by repeat (first | exact subσ.nil _ | refine subσ.cons rfl ?_)) rfl (by repeat (first | exact Sub.d | (refine Sub.s ?_ ?_; (repeat (first | exact In.z | apply In.s))) | (refine Sub.suf ?_; (repeat (first | exact Suf.z | apply Suf.s))))) a w h⟩))
     ·
      refine doRB rfl (o_alloc Tryz.zeroValue31 rfl rfl) (TOk.t (isBoxE fun _ => isBoxS (by repeat (first | exact At.z | apply At.s)) (k := 4) (by repeat (first | exact Cut.d | apply Cut.t | apply Cut.s))) TOk.d) ?_
      refine eaB ?_; intro b5
      refine dfB 3 (by kernel_rfl) ?_
      refine doRB rfl (o_call (is := []) Tryz.call12 (c_New7 q0 y hq) rfl rfl (by repeat (first | exact Sub.d | (refine Sub.s ?_ ?_; (repeat (first | exact In.z | apply In.s))) | (refine Sub.suf ?_; (repeat (first | exact Suf.z | apply Suf.s))))) rfl) (TOk.xP 3 [] (by kernel_rfl) TOk.d) ?_
      refine eaB ?_; intro y27
      refine dfB 4 (by kernel_rfl) ?_
      refine doRB rfl (o_call (is := []) Tryz.call21 (c_nPastD _ A3 c3 (by omega) hf q0 y27 hq) rfl rfl (by repeat (first | exact Sub.d | (refine Sub.s ?_ ?_; (repeat (first | exact In.z | apply In.s))) | (refine Sub.suf ?_; (repeat (first | exact Suf.z | apply Suf.s))))) rfl) (TOk.xP 3 [] (by kernel_rfl) TOk.d) ?_
      refine eaB ?_; rintro ⟨⟨⟨r1, rest, r3⟩, ⟨yq1, ⟨A4, c4⟩⟩⟩, hr⟩
      dsimp only at hr
      refine amonoB (fun a w h => Go.Sx.freeze (i := 0) rfl h) ?_
      refine tkB 5 rfl (by kernel_rfl) (fun _ _ _ h => h) gnone (TTany _) (p_move rfl) rfl ?_
      refine tkB 6 rfl (by kernel_rfl) (fun _ _ _ h => h) gnone (TTany _) (p_ext rfl (by repeat (first | exact At.z | apply At.s))) rfl ?_
      refine tkB 7 rfl (by kernel_rfl) (fun _ _ _ h => h) gnone (TTany _) (p_ext rfl (by repeat (first | exact At.z | apply At.s))) rfl ?_
      refine tkB 8 rfl (by kernel_rfl) (fun _ _ _ h => h) gnone (TTany _) (p_ext rfl (by repeat (first | exact At.z | apply At.s))) rfl ?_
      refine dfB 10 (by kernel_rfl) ?_
      refine doRB rfl (o_st rfl Tryz.sizeOf31 rfl rfl rfl rfl rfl (by repeat (first | exact At.z | apply At.s)) (by repeat (first | exact Put.d | apply Put.t | apply Put.s)) (by repeat (first | exact SetAt.z | apply SetAt.s))) (TOk.xP 3 [] (by kernel_rfl) TOk.d) ?_
      refine tkB 11 rfl (by kernel_rfl) (fun _ _ _ h => h) gnone (TTany _) (p_asg rfl) rfl ?_
      refine tkB 12 rfl (by kernel_rfl) (fun _ _ _ h => h) gnone (TTany _) (p_asg rfl) rfl ?_
      refine dnB (by kernel_rfl) (nmid (fun a w h => by first | exact ⟨b5, r1, rest, r3, yq1, A4, c4, hr, wk (is := [0, 0]) (by repeat (first | exact subσ.nil _ | refine subσ.cons rfl ?_)) rfl (by repeat (first | exact Sub.d | (refine Sub.s ?_ ?_; (repeat (first | exact In.z | apply In.s))) | (refine Sub.suf ?_; (repeat (first | exact Suf.z | apply Suf.s))))) a w h⟩))
    ·
     refine doRB rfl (o_alloc Tryz.zeroValue31 rfl rfl) (TOk.t (isBoxE fun _ => isBoxS (by repeat (first | exact At.z | apply At.s)) (k := 4) (by repeat (first | exact Cut.d | apply Cut.t | apply Cut.s))) TOk.d) ?_
     refine eaB ?_; intro b5
     refine dfB 1 (by kernel_rfl) ?_
     refine doRB rfl (o_call (is := []) Tryz.call22 (c_Rows7 _ _ c (by omega) hf) rfl rfl (by repeat (first | exact Sub.d | (refine Sub.s ?_ ?_; (repeat (first | exact In.z | apply In.s))) | (refine Sub.suf ?_; (repeat (first | exact Suf.z | apply Suf.s))))) rfl) (TOk.t (isBoxE fun _ => isBoxS (by repeat (first | exact At.z | apply At.s)) (k := 4) (by repeat (first | exact Cut.d | apply Cut.t | apply Cut.s))) TOk.d) ?_
     refine eaB ?_; rintro ⟨A3, c3⟩
     refine dfB 3 (by kernel_rfl) ?_
     refine doRB rfl (o_call (is := []) Tryz.call12 (c_New7 q0 y hq) rfl rfl (by repeat (first | exact Sub.d | (refine Sub.s ?_ ?_; (repeat (first | exact In.z | apply In.s))) | (refine Sub.suf ?_; (repeat (first | exact Suf.z | apply Suf.s))))) rfl) (TOk.xP 3 [] (by kernel_rfl) TOk.d) ?_
     refine eaB ?_; intro y27
     refine dfB 4 (by kernel_rfl) ?_
     refine doRB rfl (o_call (is := []) Tryz.call21 (c_nPastD _ A3 c3 (by omega) hf q0 y27 hq) rfl rfl (by repeat (first | exact Sub.d | (refine Sub.s ?_ ?_; (repeat (first | exact In.z | apply In.s))) | (refine Sub.suf ?_; (repeat (first | exact Suf.z | apply Suf.s))))) rfl) (TOk.xP 3 [] (by kernel_rfl) TOk.d) ?_
     refine eaB ?_; rintro ⟨⟨⟨r1, rest, r3⟩, ⟨yq1, ⟨A4, c4⟩⟩⟩, hr⟩
     dsimp only at hr
     refine amonoB (fun a w h => Go.Sx.freeze (i := 0) rfl h) ?_
     refine tkB 5 rfl (by kernel_rfl) (fun _ _ _ h => h) gnone (TTany _) (p_move rfl) rfl ?_
     refine tkB 6 rfl (by kernel_rfl) (fun _ _ _ h => h) gnone (TTany _) (p_ext rfl (by repeat (first | exact At.z | apply At.s))) rfl ?_
     refine tkB 7 rfl (by kernel_rfl) (fun _ _ _ h => h) gnone (TTany _) (p_ext rfl (by repeat (first | exact At.z | apply At.s))) rfl ?_
     refine tkB 8 rfl (by kernel_rfl) (fun _ _ _ h => h) gnone (TTany _) (p_ext rfl (by repeat (first | exact At.z | apply At.s))) rfl ?_
     refine dfB 10 (by kernel_rfl) ?_
     refine doRB rfl (o_st rfl Tryz.sizeOf31 rfl rfl rfl rfl rfl (by repeat (first | exact At.z | apply At.s)) (by repeat (first | exact Put.d | apply Put.t | apply Put.s)) (by repeat (first | exact SetAt.z | apply SetAt.s))) (TOk.xP 3 [] (by kernel_rfl) TOk.d) ?_
     refine tkB 11 rfl (by kernel_rfl) (fun _ _ _ h => h) gnone (TTany _) (p_asg rfl) rfl ?_
     refine tkB 12 rfl (by kernel_rfl) (fun _ _ _ h => h) gnone (TTany _) (p_asg rfl) rfl ?_
     refine dnB (by kernel_rfl) (nmid (fun a w h => by first | exact ⟨b5, r1, rest, r3, yq1, A4, c4, hr, wk (is := [0, 0]) (by repeat (first | exact subσ.nil _ | refine subσ.cons rfl ?_)) rfl (by repeat (first | exact Sub.d | (refine Sub.s ?_ ?_; (repeat (first | exact In.z | apply In.s))) | (refine Sub.suf ?_; (repeat (first | exact Suf.z | apply Suf.s))))) a w h⟩))
   ·
    refine nex fun b5 => nex fun r1 => nex fun rest => nex fun r3 => nex fun yq1 => nex fun A4 => nex fun c4 => nex fun hr => ?_
    refine nthen ?_
    refine cs ?_
    refine cr ?_
    refine ls (op (p_move rfl) rfl) ?_
    refine ls (o_ldw Tryz.isAgg25 Tryz.sizeOf25 rfl (by repeat (first | exact At.z | apply At.s)) (by rfl) rfl) ?_
    refine ls (o_call (is := []) Tryz.call23 (c_rPast _ _ c (by omega) hf q0 y hq) rfl rfl (by repeat (first | exact Sub.d | (refine Sub.s ?_ ?_; (repeat (first | exact In.z | apply In.s))) | (refine Sub.suf ?_; (repeat (first | exact Suf.z | apply Suf.s))))) rfl) ?_
    refine le ?_; rintro ⟨⟨⟨s1, srest, s3⟩, ⟨ys1, ⟨A5, c5⟩⟩⟩, hs⟩
    dsimp only at hs
    obtain ⟨rfl, rfl, rfl⟩ := pthr2 (hr.trans hs.symm)
    obtain ⟨f1, f2, f3⟩ := ppast_fit hr hf hq
    refine ls (op (p_move rfl) rfl) ?_
    refine ls (op (p_ext rfl (by repeat (first | exact At.z | apply At.s))) rfl) ?_
    refine ls (op (p_ext rfl (by repeat (first | exact At.z | apply At.s))) rfl) ?_
    refine ls (op (p_ext rfl (by repeat (first | exact At.z | apply At.s))) rfl) ?_
    refine ls (o_alloc Tryz.zeroValue25 rfl rfl) ?_
    refine le ?_; intro b8
    refine ls (o_st rfl Tryz.sizeOf25 rfl rfl rfl rfl rfl (by repeat (first | exact At.z | apply At.s)) (by repeat (first | exact Put.d | apply Put.t | apply Put.s)) (by repeat (first | exact SetAt.z | apply SetAt.s))) ?_
    refine ls (op (p_asg rfl) rfl) ?_
    refine ls (op (p_asg rfl) rfl) ?_
    refine ln ?_
    refine nthen ?_
    refine cs ?_
    have hr3 : r3 = true ∨ r3 = false := by cases r3 <;> simp
    rcases hr3 with rfl | rfl
    ·
     refine cdB [0, 11, 13, 18, 20] [(10, b5, 0, _), (12, b8, 0, _)] TryzX.mixed (by kernel_rfl) (by kernel_rfl) (TOk.t (isBoxS (by repeat (first | exact At.z | apply At.s)) (k := 4) (by repeat (first | exact Cut.d | apply Cut.t | apply Cut.s))) (TOk.t (isBoxS (by repeat (first | exact At.z | apply At.s)) (k := 4) (by repeat (first | exact Cut.d | apply Cut.t | apply Cut.s))) TOk.d)) ?_
     refine dfB 0 (by kernel_rfl) ?_
     refine doRB rfl (o_call (is := []) Tryz.call10 (c_alive7) rfl rfl (by repeat (first | exact Sub.d | (refine Sub.s ?_ ?_; (repeat (first | exact In.z | apply In.s))) | (refine Sub.suf ?_; (repeat (first | exact Suf.z | apply Suf.s))))) rfl) (TOk.t (isBoxE fun _ => isBoxS (by repeat (first | exact At.z | apply At.s)) (k := 4) (by repeat (first | exact Cut.d | apply Cut.t | apply Cut.s))) (TOk.t (isBoxE fun _ => isBoxS (by repeat (first | exact At.z | apply At.s)) (k := 4) (by repeat (first | exact Cut.d | apply Cut.t | apply Cut.s))) TOk.d)) ?_
     refine eaB ?_; intro x39
     refine tkB 1 rfl (by kernel_rfl) (fun _ _ _ h => h) gnone (TTany _) (p_move rfl) rfl ?_
     refine tkB 2 rfl (by kernel_rfl) (fun _ _ _ h => h) (gyes rfl rfl rfl rfl) (TTany _) (p_move rfl) rfl ?_
     refine tkB 3 rfl (by kernel_rfl) (fun _ _ _ h => h) (gyes rfl rfl rfl rfl) (TTany _) (p_move rfl) rfl ?_
     refine tkB 4 rfl (by kernel_rfl) (fun _ _ _ h => h) (gyes rfl rfl rfl rfl) (TTany _) (p_beq Tryz.underlying4 rfl rfl) rfl ?_
     refine fixB (congrArg Value.bool (beq_self_eq_true _)) ?_
     refine tkB 5 rfl (by kernel_rfl) (fun _ _ _ h => h) gnone (TTany _) (p_pickt rfl rfl) rfl ?_
     refine tkB 6 rfl (by kernel_rfl) (fun _ _ _ h => h) gnone (TTany _) (p_move rfl) rfl ?_
     refine tkB 7 rfl (by kernel_rfl) (fun _ _ _ h => h) (gyes rfl rfl rfl rfl) (TTany _) (p_move rfl) rfl ?_
     refine tkB 8 rfl (by kernel_rfl) (fun _ _ _ h => h) (gyes rfl rfl rfl rfl) (TTany _) (p_not rfl) rfl ?_
     refine tkB 9 rfl (by kernel_rfl) (fun _ _ _ h => h) (gyes rfl rfl rfl rfl) (TTany _) (p_move rfl) rfl ?_
     refine tkB 10 rfl (by kernel_rfl) (fun _ _ _ h => h) (gyes rfl rfl rfl rfl) (TTat (List.Mem.head _)) (p_lda Tryz.isAgg31 Tryz.sizeOf31 rfl rfl) rfl ?_
     refine tkB 12 rfl (by kernel_rfl) (fun _ _ _ h => h) (gyes rfl rfl rfl rfl) (TTat (List.Mem.tail _ (List.Mem.head _))) (p_lda Tryz.isAgg25 Tryz.sizeOf25 rfl rfl) rfl ?_
     refine dfB 11 (by kernel_rfl) ?_
     refine doGB rfl rfl rfl rfl rfl (o_call (is := []) Tryz.call19 (c_Old7 r1 yq1 f1) rfl rfl (by repeat (first | exact Sub.d | (refine Sub.s ?_ ?_; (repeat (first | exact In.z | apply In.s))) | (refine Sub.suf ?_; (repeat (first | exact Suf.z | apply Suf.s))))) rfl) (TOk.xP 11 [] (by kernel_rfl) (TOk.t (isBoxE fun _ => isBoxS (by repeat (first | exact At.z | apply At.s)) (k := 4) (by repeat (first | exact Cut.d | apply Cut.t | apply Cut.s))) TOk.d)) ?_
     refine eaB ?_; intro y50
     refine dfB 13 (by kernel_rfl) ?_
     refine doGB rfl rfl rfl rfl rfl (o_call (is := []) Tryz.call15 (c_rSame r1 r1 y50 ys1 f1 f1) rfl rfl (by repeat (first | exact Sub.d | (refine Sub.s ?_ ?_; (repeat (first | exact In.z | apply In.s))) | (refine Sub.suf ?_; (repeat (first | exact Suf.z | apply Suf.s))))) rfl) (TOk.xP 11 [] (by kernel_rfl) (TOk.xP 13 [] (by kernel_rfl) TOk.d)) ?_
     refine eaB ?_; intro x52
     refine fixB (congrArg Value.bool (decide_eq_true rfl)) ?_
     refine tkB 14 rfl (by kernel_rfl) (fun _ _ _ h => h) (gyes rfl rfl rfl rfl) (TTany _) (p_pickf rfl rfl) rfl ?_
     refine tkB 15 rfl (by kernel_rfl) (fun _ _ _ h => h) gnone (TTany _) (p_pickt rfl rfl) rfl ?_
     refine tkB 16 rfl (by kernel_rfl) (fun _ _ _ h => h) gnone (TTany _) (p_move rfl) rfl ?_
     refine tkB 17 rfl (by kernel_rfl) (fun _ _ _ h => h) (gyes rfl rfl rfl rfl) (TTany _) (p_move rfl) rfl ?_
     refine tkB 19 rfl (by kernel_rfl) (fun _ _ _ h => h) (gyes rfl rfl rfl rfl) (TTany _) (p_move rfl) rfl ?_
     refine dfB 18 (by kernel_rfl) ?_
     refine doGB rfl rfl rfl rfl rfl (o_call (is := []) Tryz.call25 (c_Olds7 rest A4 c4 (by omega) f2) rfl rfl (by repeat (first | exact Sub.d | (refine Sub.s ?_ ?_; (repeat (first | exact In.z | apply In.s))) | (refine Sub.suf ?_; (repeat (first | exact Suf.z | apply Suf.s))))) rfl) (TOk.xP 11 [] (by kernel_rfl) (TOk.xP 13 [] (by kernel_rfl) TOk.d)) ?_
     refine eaB ?_; rintro ⟨A6, c6⟩
     refine dfB 20 (by kernel_rfl) ?_
     refine doGB rfl rfl rfl rfl rfl (o_call (is := []) Tryz.call24 (c_rAll rest rest A6 A5 c6 c5 (by omega) f2 f2) rfl rfl (by repeat (first | exact Sub.d | (refine Sub.s ?_ ?_; (repeat (first | exact In.z | apply In.s))) | (refine Sub.suf ?_; (repeat (first | exact Suf.z | apply Suf.s))))) rfl) (TOk.xP 11 [] (by kernel_rfl) (TOk.xP 13 [] (by kernel_rfl) TOk.d)) ?_
     refine eaB ?_; intro x59
     refine fixB (congrArg Value.bool (decide_eq_true rfl)) ?_
     refine tkB 21 rfl (by kernel_rfl) (fun _ _ _ h => h) gnone (TTany _) (p_pickt rfl rfl) rfl ?_
     refine tkB 22 rfl (by kernel_rfl) (fun _ _ _ h => h) gnone (TTany _) (p_asg rfl) rfl ?_
     refine dnB (by kernel_rfl) ?_
     refine nthen ?_
     refine cret ?_
     refine xret (fun _ _ h => h) ?_
     refine rret (is := []) () (Or.inl rfl) (Res.t rfl Res.d) (rfl) rfl (by repeat (first | exact Sub.d | (refine Sub.s ?_ ?_; (repeat (first | exact In.z | apply In.s))) | (refine Sub.suf ?_; (repeat (first | exact Suf.z | apply Suf.s)))))
    ·
     refine cdB [0, 18, 20] [] TryzX.mixed (by kernel_rfl) (by kernel_rfl) TOk.d ?_
     refine dfB 0 (by kernel_rfl) ?_
     refine doRB rfl (o_call (is := []) Tryz.call10 (c_alive7) rfl rfl (by repeat (first | exact Sub.d | (refine Sub.s ?_ ?_; (repeat (first | exact In.z | apply In.s))) | (refine Sub.suf ?_; (repeat (first | exact Suf.z | apply Suf.s))))) rfl) TOk.d ?_
     refine eaB ?_; intro x39
     refine tkB 1 rfl (by kernel_rfl) (fun _ _ _ h => h) gnone (TTany _) (p_move rfl) rfl ?_
     refine tkB 2 rfl (by kernel_rfl) (fun _ _ _ h => h) (gyes rfl rfl rfl rfl) (TTany _) (p_move rfl) rfl ?_
     refine tkB 3 rfl (by kernel_rfl) (fun _ _ _ h => h) (gyes rfl rfl rfl rfl) (TTany _) (p_move rfl) rfl ?_
     refine tkB 4 rfl (by kernel_rfl) (fun _ _ _ h => h) (gyes rfl rfl rfl rfl) (TTany _) (p_beq Tryz.underlying4 rfl rfl) rfl ?_
     refine fixB (congrArg Value.bool (beq_self_eq_true _)) ?_
     refine tkB 5 rfl (by kernel_rfl) (fun _ _ _ h => h) gnone (TTany _) (p_pickt rfl rfl) rfl ?_
     refine tkB 6 rfl (by kernel_rfl) (fun _ _ _ h => h) gnone (TTany _) (p_move rfl) rfl ?_
     refine tkB 7 rfl (by kernel_rfl) (fun _ _ _ h => h) (gyes rfl rfl rfl rfl) (TTany _) (p_move rfl) rfl ?_
     refine tkB 8 rfl (by kernel_rfl) (fun _ _ _ h => h) (gyes rfl rfl rfl rfl) (TTany _) (p_not rfl) rfl ?_
     refine tkB 9 rfl (by kernel_rfl) (fun _ _ _ h => h) (gyes rfl rfl rfl rfl) (TTany _) (p_move rfl) rfl ?_
     refine tksB 10 rfl (by kernel_rfl) (fun _ _ _ h => h) rfl rfl rfl rfl rfl ?_
     refine tksB 11 rfl (by kernel_rfl) (fun _ _ _ h => h) rfl rfl rfl rfl rfl ?_
     refine tksB 12 rfl (by kernel_rfl) (fun _ _ _ h => h) rfl rfl rfl rfl rfl ?_
     refine tksB 13 rfl (by kernel_rfl) (fun _ _ _ h => h) rfl rfl rfl rfl rfl ?_
     refine tkB 14 rfl (by kernel_rfl) (fun _ _ _ h => h) (gyes rfl rfl rfl rfl) (TTany _) (p_pickt rfl rfl) rfl ?_
     refine tkB 15 rfl (by kernel_rfl) (fun _ _ _ h => h) gnone (TTany _) (p_pickt rfl rfl) rfl ?_
     refine tkB 16 rfl (by kernel_rfl) (fun _ _ _ h => h) gnone (TTany _) (p_move rfl) rfl ?_
     refine tkB 17 rfl (by kernel_rfl) (fun _ _ _ h => h) (gyes rfl rfl rfl rfl) (TTany _) (p_move rfl) rfl ?_
     refine tkB 19 rfl (by kernel_rfl) (fun _ _ _ h => h) (gyes rfl rfl rfl rfl) (TTany _) (p_move rfl) rfl ?_
     refine dfB 18 (by kernel_rfl) ?_
     refine doGB rfl rfl rfl rfl rfl (o_call (is := []) Tryz.call25 (c_Olds7 rest A4 c4 (by omega) f2) rfl rfl (by repeat (first | exact Sub.d | (refine Sub.s ?_ ?_; (repeat (first | exact In.z | apply In.s))) | (refine Sub.suf ?_; (repeat (first | exact Suf.z | apply Suf.s))))) rfl) TOk.d ?_
     refine eaB ?_; rintro ⟨A6, c6⟩
     refine dfB 20 (by kernel_rfl) ?_
     refine doGB rfl rfl rfl rfl rfl (o_call (is := []) Tryz.call24 (c_rAll rest rest A6 A5 c6 c5 (by omega) f2 f2) rfl rfl (by repeat (first | exact Sub.d | (refine Sub.s ?_ ?_; (repeat (first | exact In.z | apply In.s))) | (refine Sub.suf ?_; (repeat (first | exact Suf.z | apply Suf.s))))) rfl) TOk.d ?_
     refine eaB ?_; intro x59
     refine fixB (congrArg Value.bool (decide_eq_true rfl)) ?_
     refine tkB 21 rfl (by kernel_rfl) (fun _ _ _ h => h) gnone (TTany _) (p_pickt rfl rfl) rfl ?_
     refine tkB 22 rfl (by kernel_rfl) (fun _ _ _ h => h) gnone (TTany _) (p_asg rfl) rfl ?_
     refine dnB (by kernel_rfl) ?_
     refine nthen ?_
     refine cret ?_
     refine xret (fun _ _ h => h) ?_
     refine rret (is := []) () (Or.inl rfl) (Res.t rfl Res.d) (rfl) rfl (by repeat (first | exact Sub.d | (refine Sub.s ?_ ?_; (repeat (first | exact In.z | apply In.s))) | (refine Sub.suf ?_; (repeat (first | exact Suf.z | apply Suf.s)))))
 ·
  have hp0 : 0 < l.length := List.length_pos_iff.2 hne
  refine elC (by repeat (first | exact At.z | apply At.s)) 0 ((List.getElem?_eq_getElem hp0)) ?_; rintro zbp zop zyp hAp
  subst hAp
  refine cdB [7, 8, 9] [(6, b3, 0, _)] TryzX.mixed (by kernel_rfl) (by kernel_rfl) (TOk.t (isBoxS (by repeat (first | exact At.z | apply At.s)) (k := 4) (by repeat (first | exact Cut.d | apply Cut.t | apply Cut.s))) TOk.d) ?_
  refine tkB 0 rfl (by kernel_rfl) (fun _ _ _ h => h) gnone (TTany _) (p_move rfl) rfl ?_
  refine tkB 1 rfl (by kernel_rfl) (fun _ _ _ h => h) gnone (TTany _) (p_move rfl) rfl ?_
  refine tkB 2 rfl (by kernel_rfl) (fun _ _ _ h => h) gnone (TTany _) (p_lenl rfl Tryz.underlying42) rfl ?_
  refine tkB 3 rfl (by kernel_rfl) (fun _ _ _ h => h) gnone (TTany _) (p_move rfl) rfl ?_
  refine tkB 4 rfl (by kernel_rfl) (fun _ _ _ h => h) gnone (TTany _) (p_lenl rfl Tryz.underlying42) rfl ?_
  refine tkB 5 rfl (by kernel_rfl) (fun _ _ _ h => h) gnone (TTany _) (p_slm _ _ (Nat.le_refl _) hcap rfl rfl Tryz.underlying42 Tryz.sizeOf25 rfl rfl rfl) rfl ?_
  refine fixB (full_eq rfl (by omega)) ?_
  refine tkB 6 rfl (by kernel_rfl) (fun _ _ _ h => h) gnone (TTat (List.Mem.head _)) (p_lda Tryz.isAgg25 Tryz.sizeOf25 rfl rfl) rfl ?_
  refine dfB 7 (by kernel_rfl) ?_
  refine doRB rfl (o_bsl [q0] Tryz.underlying42 Tryz.sizeOf25 Tryz.zeroValue25 rfl (Enum.t Enum.d) (RV.t y rfl (by repeat (first | exact Sub.d | (refine Sub.s ?_ ?_; (repeat (first | exact In.z | apply In.s))) | (refine Sub.suf ?_; (repeat (first | exact Suf.z | apply Suf.s))))) RV.d) rfl (by decide) (by decide) rfl) (TOk.xP 7 [] (by kernel_rfl) TOk.d) ?_
  refine eaB ?_; intro b18
  refine amonoB (fun a w h => Go.Sx.freeze (i := 0) rfl h) ?_
  refine dfB 8 (by kernel_rfl) ?_
  refine doRB rfl (o_appf Tryz.underlying42 inf25 rfl (by decide) (by decide) rfl rfl rfl (by simp only [List.length_cons, List.length_nil]; omega) (by simp) (by repeat (first | exact Sub.d | (refine Sub.s ?_ ?_; (repeat (first | exact In.z | apply In.s))) | (refine Sub.suf ?_; (repeat (first | exact Suf.z | apply Suf.s))))) rfl) (TOk.xP 7 [] (by kernel_rfl) TOk.d) ?_
  refine eaB ?_; rintro ⟨A2, c2⟩
  refine amonoB (fun a w h => Go.Sx.freeze (i := 0) rfl h) ?_
  refine dfB 9 (by kernel_rfl) ?_
  refine doRB rfl (o_call (is := []) Tryz.call9 (c_few7 _ _ _ hla hfa hM) rfl rfl (by repeat (first | exact Sub.d | (refine Sub.s ?_ ?_; (repeat (first | exact In.z | apply In.s))) | (refine Sub.suf ?_; (repeat (first | exact Suf.z | apply Suf.s))))) rfl) (TOk.xP 7 [] (by kernel_rfl) TOk.d) ?_
  refine eaB ?_; intro x20
  refine tkB 10 rfl (by kernel_rfl) (fun _ _ _ h => h) gnone (TTany _) (p_not rfl) rfl ?_
  refine dnB (by kernel_rfl) ?_
  refine nthen ?_
  refine cc rfl ?_ ?_
  ·
   intro h21
   try simp only [decide_eq_true_eq, decide_eq_false_iff_not, Bool.not_eq_true', Bool.not_eq_false', Int.not_lt, Int.not_le, ge_iff_le, Bool.not_true, Bool.not_false] at h21
   refine cs ?_
   refine cr ?_
   refine ls (o_call (is := []) Tryz.call10 (c_alive7) rfl rfl (by repeat (first | exact Sub.d | (refine Sub.s ?_ ?_; (repeat (first | exact In.z | apply In.s))) | (refine Sub.suf ?_; (repeat (first | exact Suf.z | apply Suf.s))))) rfl) ?_
   refine le ?_; intro x22
   refine ls (op (p_asg rfl) rfl) ?_
   refine ln ?_
   refine nthen ?_
   refine cret ?_
   refine xret (fun _ _ h => h) ?_
   refine rret (is := []) () (Or.inl rfl) (Res.t rfl Res.d) (rfl) rfl (by repeat (first | exact Sub.d | (refine Sub.s ?_ ?_; (repeat (first | exact In.z | apply In.s))) | (refine Sub.suf ?_; (repeat (first | exact Suf.z | apply Suf.s)))))
  ·
   intro h21
   try simp only [decide_eq_true_eq, decide_eq_false_iff_not, Bool.not_eq_true', Bool.not_eq_false', Int.not_lt, Int.not_le, ge_iff_le, Bool.not_true, Bool.not_false] at h21
   refine cskip ?_
   refine nthen ?_
   refine cs ?_
   refine cutC (S' := fun a w => ∃ (b5 : Nat) (r1 : Patch) (rest : List Patch) (r3 : Bool) (yq1 : Rp.Lay Patch) (A4 : Option Addr) (c4 : Nat) (hr : (r1, rest, r3) = ppast l q0), St M0 F0 w0 61 [(0, .slice (some ⟨zbp, zop, none⟩) (l : List Patch).length c), (3, .pointer (some ⟨b3, 0, none⟩)), (5, .pointer (some ⟨b5, 0, none⟩)), (6, .slice A4 rest.length c4), (7, .bool r3)] [box b5 31 (Rp.enc r1 yq1), box b3 25 (Rp.enc q0 y)] [slA yq1.1.1 r1.deps, slA yq1.2.1 r1.l, slA A4 rest, slA (some ⟨zbp, zop, none⟩) (l : List Patch), slA y.1.1 q0.deps, slA y.2.1 q0.l] a w) ?_ ?_
   ·
    refine cdB [1, 3, 4, 9, 10] [(2, b3, 0, _)] TryzX.mixed (by kernel_rfl) (by kernel_rfl) (TOk.t (isBoxS (by repeat (first | exact At.z | apply At.s)) (k := 4) (by repeat (first | exact Cut.d | apply Cut.t | apply Cut.s))) TOk.d) ?_
    refine tkB 0 rfl (by kernel_rfl) (fun _ _ _ h => h) gnone (TTany _) (p_move rfl) rfl ?_
    refine tkB 2 rfl (by kernel_rfl) (fun _ _ _ h => h) gnone (TTat (List.Mem.head _)) (p_lda Tryz.isAgg25 Tryz.sizeOf25 rfl rfl) rfl ?_
    refine dallB (is := [1, 9]) (by kernel_rfl) rfl ?_
    intro i hi; simp only [List.mem_cons, List.mem_nil_iff, or_false] at hi; rcases hi with rfl | rfl
    ·
     refine doRB rfl (o_call (is := []) Tryz.call22 (c_Rows7 _ _ c (by omega) hf) rfl rfl (by repeat (first | exact Sub.d | (refine Sub.s ?_ ?_; (repeat (first | exact In.z | apply In.s))) | (refine Sub.suf ?_; (repeat (first | exact Suf.z | apply Suf.s))))) rfl) (TOk.t (isBoxE fun _ => isBoxS (by repeat (first | exact At.z | apply At.s)) (k := 4) (by repeat (first | exact Cut.d | apply Cut.t | apply Cut.s))) TOk.d) ?_
     refine eaB ?_; rintro ⟨A3, c3⟩
     refine dallB (is := [3, 9]) (by kernel_rfl) rfl ?_
     intro i hi; simp only [List.mem_cons, List.mem_nil_iff, or_false] at hi; rcases hi with rfl | rfl
     ·
      refine doRB rfl (o_call (is := []) Tryz.call12 (c_New7 q0 y hq) rfl rfl (by repeat (first | exact Sub.d | (refine Sub.s ?_ ?_; (repeat (first | exact In.z | apply In.s))) | (refine Sub.suf ?_; (repeat (first | exact Suf.z | apply Suf.s))))) rfl) (TOk.xP 3 [] (by kernel_rfl) TOk.d) ?_
      refine eaB ?_; intro y27
      refine dallB (is := [4, 9]) (by kernel_rfl) rfl ?_
      intro i hi; simp only [List.mem_cons, List.mem_nil_iff, or_false] at hi; rcases hi with rfl | rfl
      ·
       refine doRB rfl (o_call (is := []) Tryz.call21 (c_nPastD _ A3 c3 (by omega) hf q0 y27 hq) rfl rfl (by repeat (first | exact Sub.d | (refine Sub.s ?_ ?_; (repeat (first | exact In.z | apply In.s))) | (refine Sub.suf ?_; (repeat (first | exact Suf.z | apply Suf.s))))) rfl) (TOk.xP 3 [] (by kernel_rfl) TOk.d) ?_
       refine eaB ?_; rintro ⟨⟨⟨r1, rest, r3⟩, ⟨yq1, ⟨A4, c4⟩⟩⟩, hr⟩
       dsimp only at hr
       refine amonoB (fun a w h => Go.Sx.freeze (i := 0) rfl h) ?_
       refine tkB 5 rfl (by kernel_rfl) (fun _ _ _ h => h) gnone (TTany _) (p_move rfl) rfl ?_
       refine tkB 6 rfl (by kernel_rfl) (fun _ _ _ h => h) gnone (TTany _) (p_ext rfl (by repeat (first | exact At.z | apply At.s))) rfl ?_
       refine tkB 7 rfl (by kernel_rfl) (fun _ _ _ h => h) gnone (TTany _) (p_ext rfl (by repeat (first | exact At.z | apply At.s))) rfl ?_
       refine tkB 8 rfl (by kernel_rfl) (fun _ _ _ h => h) gnone (TTany _) (p_ext rfl (by repeat (first | exact At.z | apply At.s))) rfl ?_
       refine dfB 9 (by kernel_rfl) ?_
       refine doRB rfl (o_alloc Tryz.zeroValue31 rfl rfl) (TOk.xP 3 [] (by kernel_rfl) TOk.d) ?_
       refine eaB ?_; intro b5
       refine dfB 10 (by kernel_rfl) ?_
       refine doRB rfl (o_st rfl Tryz.sizeOf31 rfl rfl rfl rfl rfl (by repeat (first | exact At.z | apply At.s)) (by repeat (first | exact Put.d | apply Put.t | apply Put.s)) (by repeat (first | exact SetAt.z | apply SetAt.s))) (TOk.xP 3 [] (by kernel_rfl) TOk.d) ?_
       refine tkB 11 rfl (by kernel_rfl) (fun _ _ _ h => h) gnone (TTany _) (p_asg rfl) rfl ?_
       refine tkB 12 rfl (by kernel_rfl) (fun _ _ _ h => h) gnone (TTany _) (p_asg rfl) rfl ?_
       refine dnB (by kernel_rfl) (nmid (fun a w h => by first | exact ⟨b5, r1, rest, r3, yq1, A4, c4, hr, wk (is := [0, 0]) (by repeat (first | exact subσ.nil _ | refine subσ.cons rfl ?_)) rfl (by repeat (first | exact Sub.d | (refine Sub.s ?_ ?_; (repeat (first | exact In.z | apply In.s))) | (refine Sub.suf ?_; (repeat (first | exact Suf.z | apply Suf.s))))) a w h⟩))
      ·
       refine doRB rfl (o_alloc Tryz.zeroValue31 rfl rfl) (TOk.xP 3 [] (by kernel_rfl) TOk.d) ?_
       refine eaB ?_; intro b5
       refine dfB 4 (by kernel_rfl) ?_
       refine doRB rfl (o_call (is := []) Tryz.call21 (c_nPastD _ A3 c3 (by omega) hf q0 y27 hq) rfl rfl (by repeat (first | exact Sub.d | (refine Sub.s ?_ ?_; (repeat (first | exact In.z | apply In.s))) | (refine Sub.suf ?_; (repeat (first | exact Suf.z | apply Suf.s))))) rfl) (TOk.xP 3 [] (by kernel_rfl) TOk.d) ?_
       refine eaB ?_; rintro ⟨⟨⟨r1, rest, r3⟩, ⟨yq1, ⟨A4, c4⟩⟩⟩, hr⟩
       dsimp only at hr
       refine amonoB (fun a w h => Go.Sx.freeze (i := 0) rfl h) ?_
       refine tkB 5 rfl (by kernel_rfl) (fun _ _ _ h => h) gnone (TTany _) (p_move rfl) rfl ?_
       refine tkB 6 rfl (by kernel_rfl) (fun _ _ _ h => h) gnone (TTany _) (p_ext rfl (by repeat (first | exact At.z | apply At.s))) rfl ?_
       refine tkB 7 rfl (by kernel_rfl) (fun _ _ _ h => h) gnone (TTany _) (p_ext rfl (by repeat (first | exact At.z | apply At.s))) rfl ?_
       refine tkB 8 rfl (by kernel_rfl) (fun _ _ _ h => h) gnone (TTany _) (p_ext rfl (by repeat (first | exact At.z | apply At.s))) rfl ?_
       refine dfB 10 (by kernel_rfl) ?_
       refine doRB rfl (o_st rfl Tryz.sizeOf31 rfl rfl rfl rfl rfl (by repeat (first | exact At.z | apply At.s)) (by repeat (first | exact Put.d | apply Put.t | apply Put.s)) (by repeat (first | exact SetAt.z | apply SetAt.s))) (TOk.xP 3 [] (by kernel_rfl) TOk.d) ?_
       refine tkB 11 rfl (by kernel_rfl) (fun _ _ _ h => h) gnone (TTany _) (p_asg rfl) rfl ?_
       refine tkB 12 rfl (by kernel_rfl) (fun _ _ _ h => h) gnone (TTany _) (p_asg rfl) rfl ?_
       refine dnB (by kernel_rfl) (nmid (fun a w h => by first | exact ⟨b5, r1, rest, r3, yq1, A4, c4, hr, wk (is := [0, 0]) (by repeat (first | exact subσ.nil _ | refine subσ.cons rfl ?_)) rfl (by repeat (first | exact Sub.d | (refine Sub.s ?_ ?_; (repeat (first | exact In.z | apply In.s))) | (refine Sub.suf ?_; (repeat (first | exact Suf.z | apply Suf.s))))) a w h⟩))
     ·
      refine doRB rfl (o_alloc Tryz.zeroValue31 rfl rfl) (TOk.t (isBoxE fun _ => isBoxS (by repeat (first | exact At.z | apply At.s)) (k := 4) (by repeat (first | exact Cut.d | apply Cut.t | apply Cut.s))) TOk.d) ?_
      refine eaB ?_; intro b5
      refine dfB 3 (by kernel_rfl) ?_
      refine doRB rfl (o_call (is := []) Tryz.call12 (c_New7 q0 y hq) rfl rfl (by repeat (first | exact Sub.d | (refine Sub.s ?_ ?_; (repeat (first | exact In.z | apply In.s))) | (refine Sub.suf ?_; (repeat (first | exact Suf.z | apply Suf.s))))) rfl) (TOk.xP 3 [] (by kernel_rfl) TOk.d) ?_
      refine eaB ?_; intro y27
      refine dfB 4 (by kernel_rfl) ?_
      refine doRB rfl (o_call (is := []) Tryz.call21 (c_nPastD _ A3 c3 (by omega) hf q0 y27 hq) rfl rfl (by repeat (first | exact Sub.d | (refine Sub.s ?_ ?_; (repeat (first | exact In.z | apply In.s))) | (refine Sub.suf ?_; (repeat (first | exact Suf.z | apply Suf.s))))) rfl) (TOk.xP 3 [] (by kernel_rfl) TOk.d) ?_
      refine eaB ?_; rintro ⟨⟨⟨r1, rest, r3⟩, ⟨yq1, ⟨A4, c4⟩⟩⟩, hr⟩
      dsimp only at hr
      refine amonoB (fun a w h => Go.Sx.freeze (i := 0) rfl h) ?_
      refine tkB 5 rfl (by kernel_rfl) (fun _ _ _ h => h) gnone (TTany _) (p_move rfl) rfl ?_
      refine tkB 6 rfl (by kernel_rfl) (fun _ _ _ h => h) gnone (TTany _) (p_ext rfl (by repeat (first | exact At.z | apply At.s))) rfl ?_
      refine tkB 7 rfl (by kernel_rfl) (fun _ _ _ h => h) gnone (TTany _) (p_ext rfl (by repeat (first | exact At.z | apply At.s))) rfl ?_
      refine tkB 8 rfl (by kernel_rfl) (fun _ _ _ h => h) gnone (TTany _) (p_ext rfl (by repeat (first | exact At.z | apply At.s))) rfl ?_
      refine dfB 10 (by kernel_rfl) ?_
      refine doRB rfl (o_st rfl Tryz.sizeOf31 rfl rfl rfl rfl rfl (by repeat (first | exact At.z | apply At.s)) (by repeat (first | exact Put.d | apply Put.t | apply Put.s)) (by repeat (first | exact SetAt.z | apply SetAt.s))) (TOk.xP 3 [] (by kernel_rfl) TOk.d) ?_
      refine tkB 11 rfl (by kernel_rfl) (fun _ _ _ h => h) gnone (TTany _) (p_asg rfl) rfl ?_
      refine tkB 12 rfl (by kernel_rfl) (fun _ _ _ h => h) gnone (TTany _) (p_asg rfl) rfl ?_
      refine dnB (by kernel_rfl) (nmid (fun a w h => by first | exact ⟨b5, r1, rest, r3, yq1, A4, c4, hr, wk (is := [0, 0]) (by repeat (first | exact subσ.nil _ | refine subσ.cons rfl ?_)) rfl (by repeat (first | exact Sub.d | (refine Sub.s ?_ ?_; (repeat (first | exact In.z | apply In.s))) | (refine Sub.suf ?_; (repeat (first | exact Suf.z | apply Suf.s))))) a w h⟩))
    ·
     refine doRB rfl (o_alloc Tryz.zeroValue31 rfl rfl) (TOk.t (isBoxE fun _ => isBoxS (by repeat (first | exact At.z | apply At.s)) (k := 4) (by repeat (first | exact Cut.d | apply Cut.t | apply Cut.s))) TOk.d) ?_
     refine eaB ?_; intro b5
     refine dfB 1 (by kernel_rfl) ?_
     refine doRB rfl (o_call (is := []) Tryz.call22 (c_Rows7 _ _ c (by omega) hf) rfl rfl (by repeat (first | exact Sub.d | (refine Sub.s ?_ ?_; (repeat (first | exact In.z | apply In.s))) | (refine Sub.suf ?_; (repeat (first | exact Suf.z | apply Suf.s))))) rfl) (TOk.t (isBoxE fun _ => isBoxS (by repeat (first | exact At.z | apply At.s)) (k := 4) (by repeat (first | exact Cut.d | apply Cut.t | apply Cut.s))) TOk.d) ?_
     refine eaB ?_; rintro ⟨A3, c3⟩
     refine dfB 3 (by kernel_rfl) ?_
     refine doRB rfl (o_call (is := []) Tryz.call12 (c_New7 q0 y hq) rfl rfl (by repeat (first | exact Sub.d | (refine Sub.s ?_ ?_; (repeat (first | exact In.z | apply In.s))) | (refine Sub.suf ?_; (repeat (first | exact Suf.z | apply Suf.s))))) rfl) (TOk.xP 3 [] (by kernel_rfl) TOk.d) ?_
     refine eaB ?_; intro y27
     refine dfB 4 (by kernel_rfl) ?_
     refine doRB rfl (o_call (is := []) Tryz.call21 (c_nPastD _ A3 c3 (by omega) hf q0 y27 hq) rfl rfl (by repeat (first | exact Sub.d | (refine Sub.s ?_ ?_; (repeat (first | exact In.z | apply In.s))) | (refine Sub.suf ?_; (repeat (first | exact Suf.z | apply Suf.s))))) rfl) (TOk.xP 3 [] (by kernel_rfl) TOk.d) ?_
     refine eaB ?_; rintro ⟨⟨⟨r1, rest, r3⟩, ⟨yq1, ⟨A4, c4⟩⟩⟩, hr⟩
     dsimp only at hr
     refine amonoB (fun a w h => Go.Sx.freeze (i := 0) rfl h) ?_
     refine tkB 5 rfl (by kernel_rfl) (fun _ _ _ h => h) gnone (TTany _) (p_move rfl) rfl ?_
     refine tkB 6 rfl (by kernel_rfl) (fun _ _ _ h => h) gnone (TTany _) (p_ext rfl (by repeat (first | exact At.z | apply At.s))) rfl ?_
     refine tkB 7 rfl (by kernel_rfl) (fun _ _ _ h => h) gnone (TTany _) (p_ext rfl (by repeat (first | exact At.z | apply At.s))) rfl ?_
     refine tkB 8 rfl (by kernel_rfl) (fun _ _ _ h => h) gnone (TTany _) (p_ext rfl (by repeat (first | exact At.z | apply At.s))) rfl ?_
     refine dfB 10 (by kernel_rfl) ?_
     refine doRB rfl (o_st rfl Tryz.sizeOf31 rfl rfl rfl rfl rfl (by repeat (first | exact At.z | apply At.s)) (by repeat (first | exact Put.d | apply Put.t | apply Put.s)) (by repeat (first | exact SetAt.z | apply SetAt.s))) (TOk.xP 3 [] (by kernel_rfl) TOk.d) ?_
     refine tkB 11 rfl (by kernel_rfl) (fun _ _ _ h => h) gnone (TTany _) (p_asg rfl) rfl ?_
     refine tkB 12 rfl (by kernel_rfl) (fun _ _ _ h => h) gnone (TTany _) (p_asg rfl) rfl ?_
     refine dnB (by kernel_rfl) (nmid (fun a w h => by first | exact ⟨b5, r1, rest, r3, yq1, A4, c4, hr, wk (is := [0, 0]) (by repeat (first | exact subσ.nil _ | refine subσ.cons rfl ?_)) rfl (by repeat (first | exact Sub.d | (refine Sub.s ?_ ?_; (repeat (first | exact In.z | apply In.s))) | (refine Sub.suf ?_; (repeat (first | exact Suf.z | apply Suf.s))))) a w h⟩))
   ·
    refine nex fun b5 => nex fun r1 => nex fun rest => nex fun r3 => nex fun yq1 => nex fun A4 => nex fun c4 => nex fun hr => ?_
    refine nthen ?_
    refine cs ?_
    refine cr ?_
    refine ls (op (p_move rfl) rfl) ?_
    refine ls (o_ldw Tryz.isAgg25 Tryz.sizeOf25 rfl (by repeat (first | exact At.z | apply At.s)) (by rfl) rfl) ?_
    refine ls (o_call (is := []) Tryz.call23 (c_rPast _ _ c (by omega) hf q0 y hq) rfl rfl (by repeat (first | exact Sub.d | (refine Sub.s ?_ ?_; (repeat (first | exact In.z | apply In.s))) | (refine Sub.suf ?_; (repeat (first | exact Suf.z | apply Suf.s))))) rfl) ?_
    refine le ?_; rintro ⟨⟨⟨s1, srest, s3⟩, ⟨ys1, ⟨A5, c5⟩⟩⟩, hs⟩
    dsimp only at hs
    obtain ⟨rfl, rfl, rfl⟩ := pthr2 (hr.trans hs.symm)
    obtain ⟨f1, f2, f3⟩ := ppast_fit hr hf hq
    refine ls (op (p_move rfl) rfl) ?_
    refine ls (op (p_ext rfl (by repeat (first | exact At.z | apply At.s))) rfl) ?_
    refine ls (op (p_ext rfl (by repeat (first | exact At.z | apply At.s))) rfl) ?_
    refine ls (op (p_ext rfl (by repeat (first | exact At.z | apply At.s))) rfl) ?_
    refine ls (o_alloc Tryz.zeroValue25 rfl rfl) ?_
    refine le ?_; intro b8
    refine ls (o_st rfl Tryz.sizeOf25 rfl rfl rfl rfl rfl (by repeat (first | exact At.z | apply At.s)) (by repeat (first | exact Put.d | apply Put.t | apply Put.s)) (by repeat (first | exact SetAt.z | apply SetAt.s))) ?_
    refine ls (op (p_asg rfl) rfl) ?_
    refine ls (op (p_asg rfl) rfl) ?_
    refine ln ?_
    refine nthen ?_
    refine cs ?_
    have hr3 : r3 = true ∨ r3 = false := by cases r3 <;> simp
    rcases hr3 with rfl | rfl
    ·
     refine cdB [0, 11, 13, 18, 20] [(10, b5, 0, _), (12, b8, 0, _)] TryzX.mixed (by kernel_rfl) (by kernel_rfl) (TOk.t (isBoxS (by repeat (first | exact At.z | apply At.s)) (k := 4) (by repeat (first | exact Cut.d | apply Cut.t | apply Cut.s))) (TOk.t (isBoxS (by repeat (first | exact At.z | apply At.s)) (k := 4) (by repeat (first | exact Cut.d | apply Cut.t | apply Cut.s))) TOk.d)) ?_
     refine dfB 0 (by kernel_rfl) ?_
     refine doRB rfl (o_call (is := []) Tryz.call10 (c_alive7) rfl rfl (by repeat (first | exact Sub.d | (refine Sub.s ?_ ?_; (repeat (first | exact In.z | apply In.s))) | (refine Sub.suf ?_; (repeat (first | exact Suf.z | apply Suf.s))))) rfl) (TOk.t (isBoxE fun _ => isBoxS (by repeat (first | exact At.z | apply At.s)) (k := 4) (by repeat (first | exact Cut.d | apply Cut.t | apply Cut.s))) (TOk.t (isBoxE fun _ => isBoxS (by repeat (first | exact At.z | apply At.s)) (k := 4) (by repeat (first | exact Cut.d | apply Cut.t | apply Cut.s))) TOk.d)) ?_
     refine eaB ?_; intro x39
     refine tkB 1 rfl (by kernel_rfl) (fun _ _ _ h => h) gnone (TTany _) (p_move rfl) rfl ?_
     refine tkB 2 rfl (by kernel_rfl) (fun _ _ _ h => h) (gyes rfl rfl rfl rfl) (TTany _) (p_move rfl) rfl ?_
     refine tkB 3 rfl (by kernel_rfl) (fun _ _ _ h => h) (gyes rfl rfl rfl rfl) (TTany _) (p_move rfl) rfl ?_
     refine tkB 4 rfl (by kernel_rfl) (fun _ _ _ h => h) (gyes rfl rfl rfl rfl) (TTany _) (p_beq Tryz.underlying4 rfl rfl) rfl ?_
     refine fixB (congrArg Value.bool (beq_self_eq_true _)) ?_
     refine tkB 5 rfl (by kernel_rfl) (fun _ _ _ h => h) gnone (TTany _) (p_pickt rfl rfl) rfl ?_
     refine tkB 6 rfl (by kernel_rfl) (fun _ _ _ h => h) gnone (TTany _) (p_move rfl) rfl ?_
     refine tkB 7 rfl (by kernel_rfl) (fun _ _ _ h => h) (gyes rfl rfl rfl rfl) (TTany _) (p_move rfl) rfl ?_
     refine tkB 8 rfl (by kernel_rfl) (fun _ _ _ h => h) (gyes rfl rfl rfl rfl) (TTany _) (p_not rfl) rfl ?_
     refine tkB 9 rfl (by kernel_rfl) (fun _ _ _ h => h) (gyes rfl rfl rfl rfl) (TTany _) (p_move rfl) rfl ?_
     refine tkB 10 rfl (by kernel_rfl) (fun _ _ _ h => h) (gyes rfl rfl rfl rfl) (TTat (List.Mem.head _)) (p_lda Tryz.isAgg31 Tryz.sizeOf31 rfl rfl) rfl ?_
     refine tkB 12 rfl (by kernel_rfl) (fun _ _ _ h => h) (gyes rfl rfl rfl rfl) (TTat (List.Mem.tail _ (List.Mem.head _))) (p_lda Tryz.isAgg25 Tryz.sizeOf25 rfl rfl) rfl ?_
     refine dfB 11 (by kernel_rfl) ?_
     refine doGB rfl rfl rfl rfl rfl (o_call (is := []) Tryz.call19 (c_Old7 r1 yq1 f1) rfl rfl (by repeat (first | exact Sub.d | (refine Sub.s ?_ ?_; (repeat (first | exact In.z | apply In.s))) | (refine Sub.suf ?_; (repeat (first | exact Suf.z | apply Suf.s))))) rfl) (TOk.xP 11 [] (by kernel_rfl) (TOk.t (isBoxE fun _ => isBoxS (by repeat (first | exact At.z | apply At.s)) (k := 4) (by repeat (first | exact Cut.d | apply Cut.t | apply Cut.s))) TOk.d)) ?_
     refine eaB ?_; intro y50
     refine dfB 13 (by kernel_rfl) ?_
     refine doGB rfl rfl rfl rfl rfl (o_call (is := []) Tryz.call15 (c_rSame r1 r1 y50 ys1 f1 f1) rfl rfl (by repeat (first | exact Sub.d | (refine Sub.s ?_ ?_; (repeat (first | exact In.z | apply In.s))) | (refine Sub.suf ?_; (repeat (first | exact Suf.z | apply Suf.s))))) rfl) (TOk.xP 11 [] (by kernel_rfl) (TOk.xP 13 [] (by kernel_rfl) TOk.d)) ?_
     refine eaB ?_; intro x52
     refine fixB (congrArg Value.bool (decide_eq_true rfl)) ?_
     refine tkB 14 rfl (by kernel_rfl) (fun _ _ _ h => h) (gyes rfl rfl rfl rfl) (TTany _) (p_pickf rfl rfl) rfl ?_
     refine tkB 15 rfl (by kernel_rfl) (fun _ _ _ h => h) gnone (TTany _) (p_pickt rfl rfl) rfl ?_
     refine tkB 16 rfl (by kernel_rfl) (fun _ _ _ h => h) gnone (TTany _) (p_move rfl) rfl ?_
     refine tkB 17 rfl (by kernel_rfl) (fun _ _ _ h => h) (gyes rfl rfl rfl rfl) (TTany _) (p_move rfl) rfl ?_
     refine tkB 19 rfl (by kernel_rfl) (fun _ _ _ h => h) (gyes rfl rfl rfl rfl) (TTany _) (p_move rfl) rfl ?_
     refine dfB 18 (by kernel_rfl) ?_
     refine doGB rfl rfl rfl rfl rfl (o_call (is := []) Tryz.call25 (c_Olds7 rest A4 c4 (by omega) f2) rfl rfl (by repeat (first | exact Sub.d | (refine Sub.s ?_ ?_; (repeat (first | exact In.z | apply In.s))) | (refine Sub.suf ?_; (repeat (first | exact Suf.z | apply Suf.s))))) rfl) (TOk.xP 11 [] (by kernel_rfl) (TOk.xP 13 [] (by kernel_rfl) TOk.d)) ?_
     refine eaB ?_; rintro ⟨A6, c6⟩
     refine dfB 20 (by kernel_rfl) ?_
     refine doGB rfl rfl rfl rfl rfl (o_call (is := []) Tryz.call24 (c_rAll rest rest A6 A5 c6 c5 (by omega) f2 f2) rfl rfl (by repeat (first | exact Sub.d | (refine Sub.s ?_ ?_; (repeat (first | exact In.z | apply In.s))) | (refine Sub.suf ?_; (repeat (first | exact Suf.z | apply Suf.s))))) rfl) (TOk.xP 11 [] (by kernel_rfl) (TOk.xP 13 [] (by kernel_rfl) TOk.d)) ?_
     refine eaB ?_; intro x59
     refine fixB (congrArg Value.bool (decide_eq_true rfl)) ?_
     refine tkB 21 rfl (by kernel_rfl) (fun _ _ _ h => h) gnone (TTany _) (p_pickt rfl rfl) rfl ?_
     refine tkB 22 rfl (by kernel_rfl) (fun _ _ _ h => h) gnone (TTany _) (p_asg rfl) rfl ?_
     refine dnB (by kernel_rfl) ?_
     refine nthen ?_
     refine cret ?_
     refine xret (fun _ _ h => h) ?_
     refine rret (is := []) () (Or.inl rfl) (Res.t rfl Res.d) (rfl) rfl (by repeat (first | exact Sub.d | (refine Sub.s ?_ ?_; (repeat (first | exact In.z | apply In.s))) | (refine Sub.suf ?_; (repeat (first | exact Suf.z | apply Suf.s)))))
    ·
     refine cdB [0, 18, 20] [] TryzX.mixed (by kernel_rfl) (by kernel_rfl) TOk.d ?_
     refine dfB 0 (by kernel_rfl) ?_
     refine doRB rfl (o_call (is := []) Tryz.call10 (c_alive7) rfl rfl (by repeat (first | exact Sub.d | (refine Sub.s ?_ ?_; (repeat (first | exact In.z | apply In.s))) | (refine Sub.suf ?_; (repeat (first | exact Suf.z | apply Suf.s))))) rfl) TOk.d ?_
     refine eaB ?_; intro x39
     refine tkB 1 rfl (by kernel_rfl) (fun _ _ _ h => h) gnone (TTany _) (p_move rfl) rfl ?_
     refine tkB 2 rfl (by kernel_rfl) (fun _ _ _ h => h) (gyes rfl rfl rfl rfl) (TTany _) (p_move rfl) rfl ?_
     refine tkB 3 rfl (by kernel_rfl) (fun _ _ _ h => h) (gyes rfl rfl rfl rfl) (TTany _) (p_move rfl) rfl ?_
     refine tkB 4 rfl (by kernel_rfl) (fun _ _ _ h => h) (gyes rfl rfl rfl rfl) (TTany _) (p_beq Tryz.underlying4 rfl rfl) rfl ?_
     refine fixB (congrArg Value.bool (beq_self_eq_true _)) ?_
     refine tkB 5 rfl (by kernel_rfl) (fun _ _ _ h => h) gnone (TTany _) (p_pickt rfl rfl) rfl ?_
     refine tkB 6 rfl (by kernel_rfl) (fun _ _ _ h => h) gnone (TTany _) (p_move rfl) rfl ?_
     refine tkB 7 rfl (by kernel_rfl) (fun _ _ _ h => h) (gyes rfl rfl rfl rfl) (TTany _) (p_move rfl) rfl ?_
     refine tkB 8 rfl (by kernel_rfl) (fun _ _ _ h => h) (gyes rfl rfl rfl rfl) (TTany _) (p_not rfl) rfl ?_
     refine tkB 9 rfl (by kernel_rfl) (fun _ _ _ h => h) (gyes rfl rfl rfl rfl) (TTany _) (p_move rfl) rfl ?_
     refine tksB 10 rfl (by kernel_rfl) (fun _ _ _ h => h) rfl rfl rfl rfl rfl ?_
     refine tksB 11 rfl (by kernel_rfl) (fun _ _ _ h => h) rfl rfl rfl rfl rfl ?_
     refine tksB 12 rfl (by kernel_rfl) (fun _ _ _ h => h) rfl rfl rfl rfl rfl ?_
     refine tksB 13 rfl (by kernel_rfl) (fun _ _ _ h => h) rfl rfl rfl rfl rfl ?_
     refine tkB 14 rfl (by kernel_rfl) (fun _ _ _ h => h) (gyes rfl rfl rfl rfl) (TTany _) (p_pickt rfl rfl) rfl ?_
     refine tkB 15 rfl (by kernel_rfl) (fun _ _ _ h => h) gnone (TTany _) (p_pickt rfl rfl) rfl ?_
     refine tkB 16 rfl (by kernel_rfl) (fun _ _ _ h => h) gnone (TTany _) (p_move rfl) rfl ?_
     refine tkB 17 rfl (by kernel_rfl) (fun _ _ _ h => h) (gyes rfl rfl rfl rfl) (TTany _) (p_move rfl) rfl ?_
     refine tkB 19 rfl (by kernel_rfl) (fun _ _ _ h => h) (gyes rfl rfl rfl rfl) (TTany _) (p_move rfl) rfl ?_
     refine dfB 18 (by kernel_rfl) ?_
     refine doGB rfl rfl rfl rfl rfl (o_call (is := []) Tryz.call25 (c_Olds7 rest A4 c4 (by omega) f2) rfl rfl (by repeat (first | exact Sub.d | (refine Sub.s ?_ ?_; (repeat (first | exact In.z | apply In.s))) | (refine Sub.suf ?_; (repeat (first | exact Suf.z | apply Suf.s))))) rfl) TOk.d ?_
     refine eaB ?_; rintro ⟨A6, c6⟩
     refine dfB 20 (by kernel_rfl) ?_
     refine doGB rfl rfl rfl rfl rfl (o_call (is := []) Tryz.call24 (c_rAll rest rest A6 A5 c6 c5 (by omega) f2 f2) rfl rfl (by repeat (first | exact Sub.d | (refine Sub.s ?_ ?_; (repeat (first | exact In.z | apply In.s))) | (refine Sub.suf ?_; (repeat (first | exact Suf.z | apply Suf.s))))) rfl) TOk.d ?_
     refine eaB ?_; intro x59
     refine fixB (congrArg Value.bool (decide_eq_true rfl)) ?_
     refine tkB 21 rfl (by kernel_rfl) (fun _ _ _ h => h) gnone (TTany _) (p_pickt rfl rfl) rfl ?_
     refine tkB 22 rfl (by kernel_rfl) (fun _ _ _ h => h) gnone (TTany _) (p_asg rfl) rfl ?_
     refine dnB (by kernel_rfl) ?_
     refine nthen ?_
     refine cret ?_
     refine xret (fun _ _ h => h) ?_
     refine rret (is := []) () (Or.inl rfl) (Res.t rfl Res.d) (rfl) rfl (by repeat (first | exact Sub.d | (refine Sub.s ?_ ?_; (repeat (first | exact In.z | apply In.s))) | (refine Sub.suf ?_; (repeat (first | exact Suf.z | apply Suf.s)))))

end Go.Proofs.YtogcgfdfabnjhaaGreatDoor.X
