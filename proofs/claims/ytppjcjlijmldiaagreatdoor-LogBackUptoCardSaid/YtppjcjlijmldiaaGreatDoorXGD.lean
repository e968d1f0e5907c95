/- OWN WORK: a part of the proof of a law of the seat YtppjcjlijmldiaaGreatDoor: the rules by which the code is walked, what the functions compute, and the walk through them. -/
import Derived.Test.YtppjcjlijmldiaaGreatDoorXGA
import Derived.Test.YtppjcjlijmldiaaGreatDoorProg
import Derived.Test.YtppjcjlijmldiaaGreatDoorXGC
import Derived.Test.YtppjcjlijmldiaaGreatDoorXGB
import Derived.Lib.AppendZeros
import Derived.Laws.StructEq
import Derived.Scope
section
set_option linter.unusedVariables false
set_option linter.unusedSimpArgs false
namespace Go.Proofs.YtppjcjlijmldiaaGreatDoor.X
open Go Go.RowKit Go.Proofs Go.Sx
open Tryz
attribute [local irreducible] slA isA box row TrL TrC TrN TrA Pu OpR
set_option maxHeartbeats 8000000
set_option maxRecDepth 100000 in
theorem c_lNewC (l : List Prim) (A : Option Addr) (c : Nat) (hl : l.length ≤ 2000000) : Con Tryz.prog 82 [.slice A l.length c] [] [slA A l] (Option Addr × Nat) (fun y => .slice y.1 l.length y.2) (fun _ => []) (fun y => [slA y.1 l, nilA y, capA y.2 l.length]) := by
 refine con func82 rfl ntmps82 rfl ?_
 intro M0 F0 w0
 refine k_ 12 ?_
 refine cmono (fun a w h => nilRow (α := Prim) 80 h) ?_
 refine k_ 7 ?_
 refine cl (ι := {q : Nat × Option Addr × Nat // q.1 ≤ l.length}) (fun i => St M0 F0 w0 18 [(6, .slice A l.length c), (7, .int .i64 (l.length : Int)), (8, .int .i64 (i.1.1 : Int)), (3, .slice i.1.2.1 (l.take i.1.1).length i.1.2.2)] [row 80 (i.1.2.1) (i.1.2.2) (l.take i.1.1)] [slA A l]) (fun i => l.length - i.1.1) ⟨(0, none, 0), Nat.zero_le _⟩ (wk0 Φ Ω) ?_
 rintro ⟨⟨k, A2, c2⟩, hk⟩
 refine cmono (S' := St M0 F0 w0 18 [(6, .slice A l.length c), (7, .int .i64 (l.length : Int)), (8, .int .i64 (k : Int)), (3, .slice A2 (l.take k).length c2)] [row 80 (A2) (c2) (l.take k)] [slA A l]) Ħ ?_
 refine k_ 6 ?_
 refine cc rfl ?_ ?_
 ·
  intro h9
  dsimp only at hk
  try simp only [nrmZ] at h9
  have hk1 : k < l.length := by omega
  refine k_ 5 ?_
  refine elC Θ k (List.getElem?_eq_getElem (l := l) hk1) ?_; rintro zbp zop zyp hAp
  refine cr ?_
  refine ls (op (p_ia k hAp hk1 rfl underlying29 sizeOf151 rfl rfl) rfl) ?_
  refine ls (o_ldj isAgg151 sizeOf151 rfl Θ 0 rfl Δ rfl) ?_
  refine ls (o_alloc zeroValue151 rfl rfl) ?_
  refine le ?_; intro b5
  refine k_ 5 ?_
  refine ls (o_ldw isAgg151 sizeOf151 rfl Θ (by rfl) rfl) ?_
  refine ls (o_bsl [l[k]] underlying53 sizeOf80 zeroValue80 rfl (Enum.t Enum.d) (RV.t zyp rfl Ω RV.d) rfl (by decide) (by decide) rfl) ?_
  refine le ?_; intro b14
  refine lmono (fun a w h => Go.Sx.freeze (i := 0) rfl h) ?_
  refine ls (o_app (is := [1]) underlying53 inf80 rfl (by decide) (by decide) rfl rfl (by rw [List.length_take]; simp only [List.length_cons, List.length_nil]; omega) (fun h => by cases h) rfl Ω rfl) ?_
  refine le ?_; rintro ⟨A3, c3⟩
  rw [← List.take_succ_eq_append_getElem hk1]
  refine k_ 8 ?_
  refine nnext ⟨(k + 1, A3, c3), hk1⟩ (by dsimp only; omega) (wK [0])
 ·
  intro h9
  dsimp only at hk
  try simp only [nrmZ] at h9
  obtain rfl : k = l.length := by omega
  rw [List.take_length]
  refine k_ 6 ?_
  refine cmono (fun a w h => freezeN (i := 0) rfl h) ?_
  refine k_ 7 ?_
  exact rR [] (A2, c2)
set_option maxRecDepth 100000 in
theorem c_lOldC (l : List Prim) (A : Option Addr) (c : Nat) (hl : l.length ≤ 2000000) : Con Tryz.prog 57 [.slice A l.length c] [] [slA A l] (Option Addr × Nat) (fun y => .slice y.1 l.length y.2) (fun _ => []) (fun y => [slA y.1 l, nilA y, capA y.2 l.length]) := by
 refine con func57 rfl ntmps57 rfl ?_
 intro M0 F0 w0
 refine k_ 12 ?_
 refine cmono (fun a w h => nilRow (α := Prim) 151 h) ?_
 refine k_ 7 ?_
 refine cl (ι := {q : Nat × Option Addr × Nat // q.1 ≤ l.length}) (fun i => St M0 F0 w0 18 [(6, .slice A l.length c), (7, .int .i64 (l.length : Int)), (8, .int .i64 (i.1.1 : Int)), (3, .slice i.1.2.1 (l.take i.1.1).length i.1.2.2)] [row 151 (i.1.2.1) (i.1.2.2) (l.take i.1.1)] [slA A l]) (fun i => l.length - i.1.1) ⟨(0, none, 0), Nat.zero_le _⟩ (wk0 Φ Ω) ?_
 rintro ⟨⟨k, A2, c2⟩, hk⟩
 refine cmono (S' := St M0 F0 w0 18 [(6, .slice A l.length c), (7, .int .i64 (l.length : Int)), (8, .int .i64 (k : Int)), (3, .slice A2 (l.take k).length c2)] [row 151 (A2) (c2) (l.take k)] [slA A l]) Ħ ?_
 refine k_ 6 ?_
 refine cc rfl ?_ ?_
 ·
  intro h9
  dsimp only at hk
  try simp only [nrmZ] at h9
  have hk1 : k < l.length := by omega
  refine k_ 5 ?_
  refine elC Θ k (List.getElem?_eq_getElem (l := l) hk1) ?_; rintro zbp zop zyp hAp
  refine cr ?_
  refine ls (op (p_ia k hAp hk1 rfl underlying53 sizeOf80 rfl rfl) rfl) ?_
  refine ls (o_ldj isAgg80 sizeOf80 rfl Θ 0 rfl Δ rfl) ?_
  refine ls (o_alloc zeroValue80 rfl rfl) ?_
  refine le ?_; intro b5
  refine k_ 5 ?_
  refine ls (o_ldw isAgg80 sizeOf80 rfl Θ (by rfl) rfl) ?_
  refine ls (o_bsl [l[k]] underlying29 sizeOf151 zeroValue151 rfl (Enum.t Enum.d) (RV.t zyp rfl Ω RV.d) rfl (by decide) (by decide) rfl) ?_
  refine le ?_; intro b14
  refine lmono (fun a w h => Go.Sx.freeze (i := 0) rfl h) ?_
  refine ls (o_app (is := [1]) underlying29 inf151 rfl (by decide) (by decide) rfl rfl (by rw [List.length_take]; simp only [List.length_cons, List.length_nil]; omega) (fun h => by cases h) rfl Ω rfl) ?_
  refine le ?_; rintro ⟨A3, c3⟩
  rw [← List.take_succ_eq_append_getElem hk1]
  refine k_ 8 ?_
  refine nnext ⟨(k + 1, A3, c3), hk1⟩ (by dsimp only; omega) (wK [0])
 ·
  intro h9
  dsimp only at hk
  try simp only [nrmZ] at h9
  obtain rfl : k = l.length := by omega
  rw [List.take_length]
  refine k_ 6 ?_
  refine cmono (fun a w h => freezeN (i := 0) rfl h) ?_
  refine k_ 7 ?_
  exact rR [] (A2, c2)
set_option maxRecDepth 100000 in
theorem c_seqInvertC (l : List Prim) (A : Option Addr) (c : Nat) (hl : l.length ≤ 2000000) (hf : ∀ x ∈ l, x.fit) : Con Tryz.prog 64 [.slice A l.length c] [] [slA A l] (Option Addr × Nat) (fun y => .slice y.1 (invL l).length y.2) (fun _ => []) (fun y => [slA y.1 (invL l), nilA y, capA y.2 (invL l).length]) := by
 refine con func64 rfl ntmps64 rfl ?_
 intro M0 F0 w0
 refine k_ 7 ?_
 refine ls (o_alloc zeroValue53 rfl rfl) ?_
 refine le ?_; intro b3
 refine k_ 4 ?_
 refine cmono (fun a w h => nilRow (α := Prim) 80 h) ?_
 refine k_ 2 ?_
 refine lC [] call97 (c_Backward l A c) ?_; intro b7
 refine k_ 3 ?_
 refine crng (ι := fun pre => Option Addr × Nat) rfl call133 (c_Backward1 l A c hl b7) (fun _ => rfl) rfl (fun pre i => [box b3 53 [.slice i.1 (invP l pre.length).length i.2], row 80 i.1 i.2 (invP l pre.length)]) (fun pre i => []) ((none, 0)) (Y := Empty) (fun _ => []) (fun _ => []) (is := [2, 1, 0]) rfl Ω Ω ?_ ?_ ?_
 ·
  rintro M0 F0 w0 lp κ pre ⟨⟨k, yk⟩, hk⟩ hx ⟨A2, c2⟩
  dsimp only at hk hx ⊢
  have hfk := hf _ (List.getElem_mem hk)
  have hpl := invP_len l (show pre.length ≤ l.length by omega)
  refine cmono (S' := St M0 F0 w0 ⟨16, []⟩ [(3, .pointer (some ⟨b3, 0, none⟩)), (9, sv l[k] yk)] [lrec lp κ .ready none, box b3 53 [.slice A2 (invP l pre.length).length c2], row 80 A2 c2 (invP l pre.length)] [slA yk.1.1 l[k].old, slA yk.2.1 l[k].new]) (wk0 Φ Ω) ?_
  refine cr ?_
  refine ls (o_alloc zeroValue80 rfl rfl) ?_
  refine le ?_; intro b5
  refine k_ 2 ?_
  refine nbegin (i := 1) rfl ?_
  refine cb ?_
  refine cd [2, 3, 4, 5] [(0, b3, 0, _), (1, b5, 0, _)] TryzX.mixed (TOk.t (isBoxS Θ (k := 1) Δ) (TOk.t (isBoxS Θ (k := 6) Δ) TOk.d)) ?_
  refine u_ 0 2 ?_
  refine df 2 Ψ ?_
  refine doR rfl (o_call (is := []) call98 (c_primInvert l[k] yk hfk) rfl rfl Ω rfl) (TOk.t (isBoxE fun _ => isBoxS Θ (k := 1) Δ) (TOk.x Ψ TOk.d)) ?_
  refine ea ?_; rintro ⟨⟨q1, z1⟩, hz1⟩
  obtain rfl : q1 = l[k].flip := hz1
  refine df 3 Ψ ?_
  refine doR rfl (o_bsl [l[k].flip] underlying53 sizeOf80 zeroValue80 rfl (Enum.t Enum.d) (RV.t z1 rfl Ω RV.d) rfl (by decide) (by decide) rfl) (TOk.t (isBoxE fun _ => isBoxS Θ (k := 1) Δ) (TOk.x Ψ TOk.d)) ?_
  refine ea ?_; intro b13
  refine amono (fun a w h => Go.Sx.freeze (i := 0) rfl h) ?_
  refine df 4 Ψ ?_
  refine doR rfl (o_app (is := [3]) underlying53 inf80 rfl (by decide) (by decide) rfl rfl (by rw [hpl]; simp only [List.length_cons, List.length_nil]; omega) (fun h => by cases h) rfl Ω rfl) tX ?_
  refine ea ?_; rintro ⟨A3, c3⟩
  refine df 5 Ψ ?_
  refine doR rfl (o_st rfl sizeOf53 rfl rfl rfl rfl rfl Θ Θ Θ) tX ?_
  refine dn Ψ ?_
  refine k_ 1 ?_
  rw [← invP_step hx]
  exact nround (A3, c3) (is := [1, 2, 0]) (by rw [List.length_append]; rfl) Ω
 ·
  rintro D xs hC ⟨A2, c2⟩
  rw [hC, invP_all]
  refine k_ 3 ?_
  refine cmono (fun a w h => freezeN (i := 1) rfl h) ?_
  refine k_ 7 ?_
  refine rretm (Dfr.c (i := 2) rfl Dfr.d) (is := []) (A2, c2) (Or.inl rfl) (Res.t rfl Res.d) (rfl) rfl Ω
 ·
  intro D y
  exact y.elim
set_option maxRecDepth 100000 in
theorem c_seqApply (p b : Nat) (T : List File) (mm nn : Nat) (hi : AppInv mm nn T) (l : List Prim) (A : Option Addr) (c : Nat) (hc : l.length ≤ c) (hl : l.length ≤ 900000) (hf : ∀ x ∈ l, x.fit) (hm : mm + 2 * lns l ≤ 1900000) (hn : nn + 2 * l.length ≤ 1900000) : Con Tryz.prog 38 [.pointer (some ⟨p, 0, none⟩), .slice A l.length c] [box p 119 [.map (some b)], tr b T] [slA A l] {q : List File × Int // q = rowT T l} (fun q => .int .i64 q.1.2) (fun q => [box p 119 [.map (some b)], tr b q.1.1]) (fun _ => []) := by
 refine con func38 rfl ntmps38 rfl ?_
 intro M0 F0 w0
 refine k_ 14 ?_
 refine cl (ι := {q : Nat × List File // q.1 ≤ l.length ∧ Runs T (l.take q.1) q.2}) (fun i => St M0 F0 w0 37 [(0, .pointer (some ⟨p, 0, none⟩)), (1, .slice A l.length c), (10, .slice A l.length c), (11, .int .i64 (l.length : Int)), (12, .int .i64 (i.1.1 : Int))] [box p 119 [.map (some b)], tr b i.1.2] [slA A l]) (fun i => l.length - i.1.1) ⟨(0, T), Nat.zero_le _, rfl⟩ (wk0 Φ Ω) ?_
 rintro ⟨⟨k, M⟩, hk, hR⟩
 refine cmono (S' := St M0 F0 w0 37 [(0, .pointer (some ⟨p, 0, none⟩)), (1, .slice A l.length c), (10, .slice A l.length c), (11, .int .i64 (l.length : Int)), (12, .int .i64 (k : Int))] [box p 119 [.map (some b)], tr b M] [slA A l]) Ħ ?_
 refine k_ 6 ?_
 refine cc rfl ?_ ?_
 ·
  intro h13
  dsimp only at hk hR
  try simp only [nrmZ] at h13
  have hk1 : k < l.length := by omega
  have hfk := hf _ (List.getElem_mem hk1)
  have hB := run_b hi hm hn hR hk1
  have hlk : (l.take k).length = k := by rw [List.length_take]; omega
  refine k_ 5 ?_
  refine elC Θ k (List.getElem?_eq_getElem (l := l) hk1) ?_; rintro zbp zop zyp hAp
  refine k_ 2 ?_
  refine ls (op (p_ia k hAp hk1 rfl underlying53 sizeOf80 rfl rfl) rfl) ?_
  refine ls (o_ldj isAgg80 sizeOf80 rfl Θ 0 rfl Δ rfl) ?_
  refine ls (o_alloc zeroValue80 rfl rfl) ?_
  refine le ?_; intro b6
  refine k_ 7 ?_
  refine ls (o_ldw isAgg80 sizeOf80 rfl Θ (by rfl) rfl) ?_
  refine lC [1, 1] call75 (c_pApply p b M l[k] zyp hfk hB.fit hB.b) ?_; rintro ⟨⟨M1, e1⟩, hq⟩
  try dsimp only at hq
  have hqr := hq
  rw [apply_eq hB.so hB.good] at hqr
  refine k_ 9 ?_
  refine cc rfl ?_ ?_
  ·
   intro h21
   have he : ¬ e1 = 0 := by simpa using h21
   obtain rfl := apply_err hq he hB.so hB.good
   refine cmono (fun a w h => subS (l' := l.take k) (c := c) 0 k (by repeat (first | exact In.z | apply In.s)) (by omega) (by omega) hc (by simp) h) ?_
   refine k_ 5 ?_
   refine ls (op (p_slh k (by omega) rfl underlying53 sizeOf80 rfl rfl) rfl) ?_
   refine fixL (slen (m' := (l.take k).length) (by omega)) ?_
   refine lC [] call64 (c_seqInvert (l.take k) _ _ (by omega) (fun x hx => hf x (List.mem_of_mem_take hx))) ?_; rintro ⟨A25, c25⟩
   refine k_ 5 ?_
   refine cl (ι := {q : Nat × List File // q.1 ≤ (invL (l.take k)).length ∧ Undo T l k q.1 M1 q.2}) (fun i => St M0 F0 w0 37 [(0, .pointer (some ⟨p, 0, none⟩)), (7, .int .i64 e1), (25, .slice A25 (invL (l.take k)).length c25), (26, .int .i64 ((invL (l.take k)).length : Int)), (27, .int .i64 (i.1.1 : Int))] [box p 119 [.map (some b)], tr b i.1.2] [slA A25 (invL (l.take k))]) (fun i => (invL (l.take k)).length - i.1.1) ⟨(0, M1), Nat.zero_le _, Undo.start hi.so hi.good hR⟩ (wK [0, 0]) ?_
   rintro ⟨⟨j, N⟩, hj, hU⟩
   refine cmono (S' := St M0 F0 w0 37 [(0, .pointer (some ⟨p, 0, none⟩)), (7, .int .i64 e1), (25, .slice A25 (invL (l.take k)).length c25), (26, .int .i64 ((invL (l.take k)).length : Int)), (27, .int .i64 (j : Int))] [box p 119 [.map (some b)], tr b N] [slA A25 (invL (l.take k))]) Ħ ?_
   refine k_ 6 ?_
   refine cc rfl ?_ ?_
   ·
    intro h28
    dsimp only at hj hU
    try simp only [nrmZ] at h28
    have hj1 : j < (invL (l.take k)).length := by omega
    have hil : (invL (l.take k)).length = k := by rw [invL_len, hlk]
    have hBu := undo_b hi hm hn hR hU hj1
    have hfj := invL_fit (fun x hx => hf x (List.mem_of_mem_take hx)) _ (List.getElem_mem hj1)
    refine k_ 5 ?_
    refine elC Θ j (List.getElem?_eq_getElem (l := (invL (l.take k))) hj1) ?_; rintro zbq zoq zyq hAq
    refine cr ?_
    refine ls (op (p_ia j hAq hj1 rfl underlying53 sizeOf80 rfl rfl) rfl) ?_
    refine ls (o_ldj isAgg80 sizeOf80 rfl Θ 0 rfl Δ rfl) ?_
    refine ls (o_alloc zeroValue80 rfl rfl) ?_
    refine le ?_; intro b9
    refine k_ 5 ?_
    refine ls (o_ldw isAgg80 sizeOf80 rfl Θ (by rfl) rfl) ?_
    refine lC [1, 1] call75 (c_pApply p b N (invL (l.take k))[j] zyq hfj hBu.fit hBu.b) ?_; rintro ⟨⟨N1, e2⟩, hq2⟩
    try dsimp only at hq2
    rw [apply_eq hBu.so hBu.good] at hq2
    obtain rfl : N1 = (rApplyT N (invL (l.take k))[j]).1 := by rw [← hq2]
    refine k_ 7 ?_
    refine nnext ⟨(j + 1, _), hj1, hU.step hj1⟩ (by dsimp only; omega) (wK [0, 0])
   ·
    intro h28
    dsimp only at hj hU
    try simp only [nrmZ] at h28
    obtain rfl := hU.stop (by omega)
    refine k_ 13 ?_
    exact rR [0, 0] ⟨(N, e1), (rowT_err hR hk1 hqr he).symm⟩
  ·
   intro h21
   have he : e1 = 0 := by simpa using h21
   subst he
   refine k_ 7 ?_
   refine nnext ⟨(k + 1, M1), hk1, runs_take hR hk1 hqr⟩ (by dsimp only; omega) (wK [0, 0])
 ·
  intro h13
  dsimp only at hk hR
  try simp only [nrmZ] at h13
  have hall := runs_all hR (by omega)
  refine k_ 12 ?_
  exact rR [0, 0] ⟨(M, 0), (rowT_ok hall).symm⟩
set_option maxRecDepth 100000 in
theorem c_ref5Apply (T : List File) (A : Option Addr) (c : Nat) (hTn : T.length ≤ 2000000) (mm nn : Nat) (hi : AppInv mm nn T) (l : List Prim) (B : Option Addr) (c' : Nat) (hl : l.length ≤ 900000) (hf : ∀ x ∈ l, x.fit) (hm : mm + 2 * lns l ≤ 1900000) (hn : nn + 2 * l.length ≤ 1900000) : Con Tryz.prog 52 [.slice A T.length c, .slice B l.length c'] [] [slA A T, slA B l] {q : (List File × Int) × (Option Addr × Nat) // q.1 = rowT T l} (fun q => .tuple #[.slice q.1.2.1 q.1.1.1.length q.1.2.2, .int .i64 q.1.1.2]) (fun _ => []) (fun q => [slA q.1.2.1 q.1.1.1]) := by
 refine con func52 rfl ntmps52 rfl ?_
 intro M0 F0 w0
 refine k_ 19 ?_
 refine cl (ι := {q : Nat × List File × (Option Addr × Nat) // q.1 ≤ l.length ∧ Runs T (l.take q.1) q.2.1}) (fun i => St M0 F0 w0 32 [(0, .slice A T.length c), (1, .slice B l.length c'), (6, .slice i.1.2.2.1 (i.1.2.1).length i.1.2.2.2), (7, .int .i64 (i.1.1 : Int))] [] [slA A T, slA B l, slA i.1.2.2.1 i.1.2.1]) (fun i => l.length - i.1.1) ⟨(0, T, (A, c)), Nat.zero_le _, rfl⟩ (wk0 Φ Ω) ?_
 rintro ⟨⟨k, M, ⟨A6, c6⟩⟩, hk, hR⟩
 refine cmono (S' := St M0 F0 w0 32 [(0, .slice A T.length c), (1, .slice B l.length c'), (6, .slice A6 (M).length c6), (7, .int .i64 (k : Int))] [] [slA A T, slA B l, slA A6 M]) Ħ ?_
 refine k_ 9 ?_
 refine cc rfl ?_ ?_
 ·
  intro h14
  dsimp only at hk hR
  try simp only [nrmZ] at h14
  have hk1 : k < l.length := by omega
  have hfk := hf _ (List.getElem_mem hk1)
  have hB := run_b hi hm hn hR hk1
  refine k_ 5 ?_
  refine elC Θ k (List.getElem?_eq_getElem (l := l) hk1) ?_; rintro zbp zop zyp hAp
  refine k_ 4 ?_
  refine ls (op (p_ia k hAp hk1 rfl underlying29 sizeOf151 rfl rfl) rfl) ?_
  refine ls (o_ldj isAgg151 sizeOf151 rfl Θ 0 rfl Δ rfl) ?_
  refine lC [] call88 (c_rApply M A6 c6 hB.len l[k] zyp hfk hB.b) ?_; rintro ⟨⟨⟨M1, e1⟩, ⟨A1, c1⟩⟩, hq⟩
  try dsimp only at hq
  refine k_ 14 ?_
  refine cc rfl ?_ ?_
  ·
   intro h27
   have he : ¬ e1 = 0 := by simpa using h27
   refine k_ 10 ?_
   exact rR [] ⟨((T, e1), (A, c)), (rowT_err hR hk1 hq he).symm⟩
  ·
   intro h27
   have he : e1 = 0 := by simpa using h27
   subst he
   refine k_ 13 ?_
   refine nnext ⟨(k + 1, M1, (A1, c1)), hk1, runs_take hR hk1 hq⟩ (by dsimp only; omega) (wk0 Φ Ω)
 ·
  intro h14
  dsimp only at hk hR
  try simp only [nrmZ] at h14
  have hall := runs_all hR (by omega)
  refine k_ 14 ?_
  exact rR [] ⟨((M, 0), (A6, c6)), (rowT_ok hall).symm⟩
end Go.Proofs.YtppjcjlijmldiaaGreatDoor.X
end
section
set_option linter.unusedVariables false
set_option linter.unusedSimpArgs false
namespace Go.Proofs.YtppjcjlijmldiaaGreatDoor.X
open Go Go.RowKit Go.Proofs Go.Sx
open Tryz
attribute [local irreducible] slA isA box row TrL TrC TrN TrA Pu OpR
set_option maxHeartbeats 8000000
theorem inf3 : (Tryz.prog.info? 3).map (fun i => (i.zero, i.size, i.bytes)) = some (some (.int .i64 0), 1, 8) := by kernel_rfl
theorem inf31 : (Tryz.prog.info? 31).map (fun i => (i.zero, i.size, i.bytes)) = some (some (.agg #[.int .i64 0, .string ⟨#[]⟩, .slice none 0 0, .slice none 0 0]), 4, 72) := by kernel_rfl
set_option maxRecDepth 100000 in
theorem c_EqualI (l m : List Int) (A B : Option Addr) (c c' : Nat) (hl : l.length ≤ 2000000) : Con Tryz.prog 60 [.slice A l.length c, .slice B m.length c'] [] [slA A l, slA B m] Unit (fun _ => .bool (decide (l = m))) (fun _ => []) (fun _ => []) := by
 refine con func60 rfl ntmps60 rfl ?_
 intro M0 F0 w0
 refine k_ 15 ?_
 refine cc rfl ?_ ?_
 ·
  intro h10
  try simp only [nrmZ] at h10
  refine k_ 7 ?_
  refine rret (is := []) () (Or.inl rfl) (Res.t rfl Res.d) ?_ rfl Ω
  simp [packV]; intro e; rw [e] at h10; exact h10 rfl
 ·
  intro h10
  try simp only [nrmZ] at h10
  refine k_ 11 ?_
  refine cl (ι := {k : Nat // k ≤ l.length ∧ l.take k = m.take k}) (fun i => St M0 F0 w0 26 [(0, .slice A l.length c), (1, .slice B m.length c'), (12, .int .i64 (l.length : Int)), (13, .int .i64 (i.1 : Int))] [] [slA A l, slA B m]) (fun i => l.length - i.1) ⟨0, by simp⟩ (wk0 Φ Ω) ?_
  rintro ⟨k, hk, hkk⟩
  refine cmono (S' := St M0 F0 w0 26 [(0, .slice A l.length c), (1, .slice B m.length c'), (12, .int .i64 (l.length : Int)), (13, .int .i64 (k : Int))] [] [slA A l, slA B m]) Ħ ?_
  refine k_ 6 ?_
  refine cc rfl ?_ ?_
  ·
   intro h14
   try simp only [nrmZ] at h14
   have hk1 : k < l.length := by omega
   have hk2 : k < m.length := by omega
   refine k_ 11 ?_
   refine elC Θ k (List.getElem?_eq_getElem (l := l) hk1) ?_; rintro zbp zop zyp hAp
   refine elC Θ k (List.getElem?_eq_getElem (l := m) hk2) ?_; rintro zbq zoq zyq hAq
   refine cd [] [(3, zbp, zop + k * Rp.size Int, _), (7, zbq, zoq + k * Rp.size Int, _)] TryzX.mixed (TOk.t (isInS Θ (k := 0) rfl (z := 1) Δ) (TOk.t (isInS Θ (k := 0) rfl (z := 1) Δ) TOk.d)) ?_
   refine u_ 0 2 ?_
   refine tk 2 rfl Ψ Υ gnone (TTany _) (p_ia k hAp hk1 rfl underlying28 sizeOf3 rfl rfl) rfl ?_
   refine u_ 3 3 ?_
   refine tk 6 rfl Ψ Υ gnone (TTany _) (p_ia k hAq hk2 rfl underlying28 sizeOf3 rfl rfl) rfl ?_
   refine u_ 7 2 ?_
   refine dn Ψ ?_
   refine k_ 1 ?_
   refine cc rfl ?_ ?_
   ·
    intro h24
    try simp only [nrmZ] at h24
    refine k_ 7 ?_
    refine rret (is := []) () (Or.inl rfl) (Res.t rfl Res.d) ?_ rfl Ω
    simp [packV]; rintro rfl; exact h24 rfl
   ·
    intro h24
    try simp only [nrmZ] at h24
    refine k_ 7 ?_
    refine nnext ⟨k + 1, hk1, by rw [List.take_succ_eq_append_getElem hk1, List.take_succ_eq_append_getElem hk2, hkk, h24]⟩ (by dsimp only; omega) (wk0 Φ Ω)
  ·
   intro h14
   try simp only [nrmZ] at h14
   refine k_ 12 ?_
   refine rret (is := []) () (Or.inl rfl) (Res.t rfl Res.d) ?_ rfl Ω
   simp [packV]; have := List.take_of_length_le (l := l) (i := k) (by omega); have := List.take_of_length_le (l := m) (i := k) (by omega); simp_all
set_option maxRecDepth 100000 in
theorem c_IndexI (l : List Int) (A : Option Addr) (c : Nat) (hl : l.length ≤ 2000000) (v : Int) : Con Tryz.prog 136 [.slice A l.length c, .int .i64 v] [] [slA A l] {r : Int // -1 ≤ r ∧ r ≤ 2000000 ∧ (0 ≤ r ↔ v ∈ l)} (fun r => .int .i64 r.1) (fun _ => []) (fun _ => []) := by
 refine con func136 rfl ntmps136 rfl ?_
 intro M0 F0 w0
 refine k_ 14 ?_
 refine cl (ι := {k : Nat // k ≤ l.length ∧ v ∉ l.take k}) (fun i => St M0 F0 w0 19 [(0, .slice A l.length c), (1, .int .i64 v), (7, .int .i64 (l.length : Int)), (8, .int .i64 (i.1 : Int))] [] [slA A l]) (fun i => l.length - i.1) ⟨0, by simp⟩ (wk0 Φ Ω) ?_
 rintro ⟨k, hk, hkk⟩
 refine cmono (S' := St M0 F0 w0 19 [(0, .slice A l.length c), (1, .int .i64 v), (7, .int .i64 (l.length : Int)), (8, .int .i64 (k : Int))] [] [slA A l]) Ħ ?_
 refine k_ 6 ?_
 refine cc rfl ?_ ?_
 ·
  intro h9
  try simp only [nrmZ] at h9
  have hk1 : k < l.length := by omega
  refine k_ 11 ?_
  refine elC Θ k (List.getElem?_eq_getElem (l := l) hk1) ?_; rintro zbp zop zyp hAp
  refine k_ 4 ?_
  refine ls (op (p_ia k hAp hk1 rfl underlying28 sizeOf3 rfl rfl) rfl) ?_
  refine ls (o_ldi isAgg3 rfl Θ 0 rfl Δ rfl) ?_
  refine k_ 3 ?_
  refine cc rfl ?_ ?_
  ·
   intro h16
   try simp only [nrmZ] at h16
   refine k_ 8 ?_
   exact rR [] ⟨(k : Int), by omega, by omega, ⟨fun _ => h16 ▸ List.getElem_mem hk1, fun _ => by omega⟩⟩
  ·
   intro h16
   try simp only [nrmZ] at h16
   refine k_ 7 ?_
   refine nnext ⟨k + 1, hk1, by rw [List.take_succ_eq_append_getElem hk1, List.mem_append]; simp [h16, hkk]⟩ (by dsimp only; omega) (wk0 Φ Ω)
 ·
  intro h9
  try simp only [nrmZ] at h9
  refine k_ 12 ?_
  exact rR [] ⟨-1, by omega, by omega, by rw [List.take_of_length_le (by omega)] at hkk; simp [hkk]⟩
set_option maxRecDepth 100000 in
theorem c_ContainsI (l : List Int) (A : Option Addr) (c : Nat) (hl : l.length ≤ 2000000) (v : Int) : Con Tryz.prog 101 [.slice A l.length c, .int .i64 v] [] [slA A l] Unit (fun _ => .bool (l.any fun s => decide (s = v))) (fun _ => []) (fun _ => []) := by
 refine con func101 rfl ntmps101 rfl ?_
 intro M0 F0 w0
 refine k_ 9 ?_
 refine lC [] call136 (c_IndexI l A c hl v) ?_; rintro ⟨r, hr1, hr2, hr3⟩
 refine k_ 6 ?_
 refine rret (is := []) () (Or.inl rfl) (Res.t rfl Res.d) ?_ rfl Ω
 simp [packV]; rw [Bool.eq_iff_iff]; simp [hr3]
set_option maxRecDepth 100000 in
theorem c_with (p : Patch) (y : Rp.Lay Patch) (hp : p.fit) (l : List Prim) (A : Option Addr) (c : Nat) (hl : l.length ≤ 2000000) (hf : ∀ x ∈ l, x.fit) : Con Tryz.prog 83 [sv p y, .slice A l.length c] [] [slA y.1.1 p.deps, slA y.2.1 p.l, capA y.2.2 p.l.length, slA A l] (Rp.Lay Patch) (fun y' => sv { p with l := l } y') (fun _ => []) (fun y' => [slA y'.1.1 p.deps, slA y'.2.1 l, capA y'.2.2 l.length]) := by
 refine con func83 rfl ntmps83 rfl ?_
 intro M0 F0 w0
 refine k_ 2 ?_
 refine ls (o_box rfl rfl rfl) ?_
 refine le ?_; intro b2
 refine ls (o_alloc zeroValue55 rfl rfl) ?_
 refine le ?_; intro b4
 refine k_ 3 ?_
 have hdl := hp.dl
 refine k_ 4 ?_
 refine ls (o_mk (0 : Int) () p.deps.length underlying28 inf3 rfl (by decide) (fun _ _ p hp => by cases hp) rfl rfl rfl rfl (by omega) (by omega) rfl) ?_
 refine le ?_; intro b11
 refine k_ 8 ?_
 refine ls (o_cpy underlying28 Ψ rfl rfl (by simp) Θ Θ Ω rfl) ?_
 rw [List.length_replicate]
 refine k_ 3 ?_
 refine cmono (fun a w h => Go.Sx.freeze (i := 0) rfl h) ?_
 refine cmono (fun a w h => nilRow (α := Prim) 80 h) ?_
 refine k_ 17 ?_
 refine cl (ι := {q : Nat × Option Addr × Nat // q.1 ≤ l.length}) (fun i => St M0 F0 w0 34 [(2, .pointer (some ⟨b2, 0, none⟩)), (4, .pointer (some ⟨b4, 0, none⟩)), (19, .slice A l.length c), (20, .int .i64 (l.length : Int)), (21, .int .i64 (i.1.1 : Int))] [row 80 (i.1.2.1) (i.1.2.2) (l.take i.1.1), box b2 55 [.int .i64 p.id, .string p.note, .slice (some ⟨b11, 0, none⟩) p.deps.length p.deps.length, .slice i.1.2.1 (l.take i.1.1).length i.1.2.2], box b4 55 (Rp.enc Patch.zero ((none, 0), (none, 0)))] [slA (some ⟨b11, 0, none⟩) p.deps, slA A l]) (fun i => l.length - i.1.1) ⟨(0, none, 0), Nat.zero_le _⟩ (wK [0, 1, 0]) ?_
 rintro ⟨⟨k, A2, c2⟩, hk⟩
 refine cmono (S' := St M0 F0 w0 34 [(2, .pointer (some ⟨b2, 0, none⟩)), (4, .pointer (some ⟨b4, 0, none⟩)), (19, .slice A l.length c), (20, .int .i64 (l.length : Int)), (21, .int .i64 (k : Int))] [row 80 (A2) (c2) (l.take k), box b2 55 [.int .i64 p.id, .string p.note, .slice (some ⟨b11, 0, none⟩) p.deps.length p.deps.length, .slice A2 (l.take k).length c2], box b4 55 (Rp.enc Patch.zero ((none, 0), (none, 0)))] [slA (some ⟨b11, 0, none⟩) p.deps, slA A l]) Ħ ?_
 refine k_ 6 ?_
 refine cc rfl ?_ ?_
 ·
  intro h22
  dsimp only at hk
  try simp only [nrmZ] at h22
  have hk1 : k < l.length := by omega
  refine k_ 5 ?_
  refine elC Θ k (List.getElem?_eq_getElem (l := l) hk1) ?_; rintro zbp zop zyp hAp
  refine cr ?_
  refine ls (op (p_ia k hAp hk1 rfl underlying53 sizeOf80 rfl rfl) rfl) ?_
  refine ls (o_ldj isAgg80 sizeOf80 rfl Θ 0 rfl Δ rfl) ?_
  refine ls (o_alloc zeroValue80 rfl rfl) ?_
  refine le ?_; intro b7
  refine k_ 3 ?_
  refine cd [3, 4, 5, 7] [(1, b2, 3, _), (2, b7, 0, _)] TryzX.mixed (TOk.t (isBoxS Θ (k := 1) Δ) (TOk.t (isBoxS Θ (k := 6) Δ) TOk.d)) ?_
  refine u_ 0 3 ?_
  refine df 3 Ψ ?_
  refine doR rfl (o_call (is := []) call119 (c_primClone l[k] zyp (hf _ (List.getElem_mem hk1))) rfl rfl Ω rfl) (TOk.t (isBoxE fun _ => isBoxS Θ (k := 1) Δ) (TOk.x Ψ TOk.d)) ?_
  refine ea ?_; intro y28
  refine df 4 Ψ ?_
  refine doR rfl (o_bsl [l[k]] underlying53 sizeOf80 zeroValue80 rfl (Enum.t Enum.d) (RV.t y28 rfl Ω RV.d) rfl (by decide) (by decide) rfl) (TOk.t (isBoxE fun _ => isBoxS Θ (k := 1) Δ) (TOk.x Ψ TOk.d)) ?_
  refine ea ?_; intro b29
  refine amono (fun a w h => Go.Sx.freeze (i := 0) rfl h) ?_
  refine df 5 Ψ ?_
  refine doR rfl (o_app (is := [1]) underlying53 inf80 rfl (by decide) (by decide) rfl rfl (by rw [List.length_take]; simp only [List.length_cons, List.length_nil]; omega) (fun h => by cases h) rfl Ω rfl) tX ?_
  refine ea ?_; rintro ⟨A3, c3⟩
  rw [← List.take_succ_eq_append_getElem hk1]
  refine u_ 6 1 ?_
  refine df 7 Ψ ?_
  refine doR rfl (o_st rfl sizeOf53 rfl rfl rfl rfl rfl Θ Θ Θ) tX ?_
  refine dn Ψ ?_
  refine k_ 6 ?_
  refine nnext ⟨(k + 1, A3, c3), hk1⟩ (by dsimp only; omega) (wK [0, 1, 1])
 ·
  intro h22
  dsimp only at hk
  try simp only [nrmZ] at h22
  obtain rfl : k = l.length := by omega
  rw [List.take_length]
  refine k_ 6 ?_
  refine cmono (fun a w h => freezeN (i := 0) rfl h) ?_
  refine cr ?_
  refine ls (o_ldw isAgg55 sizeOf55 rfl Θ (by rfl) rfl) ?_
  refine k_ 5 ?_
  refine rret (is := []) ((some ⟨b11, 0, none⟩, p.deps.length), (A2, c2)) (Or.inl rfl) (Res.c rfl isAgg55 sizeOf55 Θ (by rfl) Res.d) (rfl) rfl Ω
set_option maxRecDepth 100000 in
theorem c_nClone (p : Patch) (y : Rp.Lay Patch) (hp : p.fit) : Con Tryz.prog 47 [sv p y] [] [slA y.1.1 p.deps, slA y.2.1 p.l, capA y.2.2 p.l.length] (Rp.Lay Patch) (fun y' => sv p y') (fun _ => []) (fun y' => [slA y'.1.1 p.deps, slA y'.2.1 p.l, capA y'.2.2 p.l.length]) := by
 refine con func47 rfl ntmps47 rfl ?_
 intro M0 F0 w0
 refine k_ 2 ?_
 refine ls (o_box rfl rfl rfl) ?_
 refine le ?_; intro b1
 refine ls (o_alloc zeroValue55 rfl rfl) ?_
 refine le ?_; intro b2
 refine k_ 4 ?_
 refine ls (o_ldw isAgg55 sizeOf55 rfl Θ (by rfl) rfl) ?_
 refine k_ 2 ?_
 refine lC [] call83 (c_with p y hp p.l y.2.1 y.2.2 hp.ll hp.lf) ?_; intro y6
 refine k_ 5 ?_
 refine rret (is := []) y6 (Or.inl rfl) (Res.c rfl isAgg55 sizeOf55 Θ (by rfl) Res.d) (rfl) rfl Ω
set_option maxRecDepth 100000 in
theorem c_New7 (p : Patch) (y : Rp.Lay Patch) (hp : p.fit) : Con Tryz.prog 46 [sv p y] [] [slA y.1.1 p.deps, slA y.2.1 p.l, capA y.2.2 p.l.length] (Rp.Lay Patch) (fun y' => sv p y') (fun _ => []) (fun y' => [slA y'.1.1 p.deps, slA y'.2.1 p.l, capA y'.2.2 p.l.length]) := by
 refine con func46 rfl ntmps46 rfl ?_
 intro M0 F0 w0
 refine k_ 2 ?_
 refine ls (o_box rfl rfl rfl) ?_
 refine le ?_; intro b1
 refine ls (o_alloc zeroValue55 rfl rfl) ?_
 refine le ?_; intro b2
 refine k_ 3 ?_
 refine cd [8, 10] [(1, b1, 0, _), (3, b1, 1, _), (5, b1, 2, _), (7, b1, 3, _)] TryzX.mixed (TOk.t (isBoxS Θ (k := 1) Δ) (TOk.t (isBoxS Θ (k := 1) Δ) (TOk.t (isBoxS Θ (k := 1) Δ) (TOk.t (isBoxS Θ (k := 1) Δ) TOk.d)))) ?_
 refine u_ 0 8 ?_
 refine df 8 Ψ ?_
 refine doR rfl (o_call (is := []) call82 (c_lNewC p.l y.2.1 y.2.2 hp.ll) rfl rfl Ω rfl) (TOk.t (isBoxE fun _ => isBoxS Θ (k := 1) Δ) (TOk.t (isBoxE fun _ => isBoxS Θ (k := 1) Δ) (TOk.t (isBoxE fun _ => isBoxS Θ (k := 1) Δ) (TOk.x Ψ TOk.d)))) ?_
 refine ea ?_; intro y11
 refine u_ 9 1 ?_
 refine df 10 Ψ ?_
 refine doR rfl (o_st rfl sizeOf55 rfl rfl rfl rfl rfl Θ Θ Θ) tX ?_
 refine dn Ψ ?_
 refine k_ 3 ?_
 refine rret (is := []) (y.1, y11) (Or.inl rfl) (Res.c rfl isAgg55 sizeOf55 Θ (by rfl) Res.d) (rfl) rfl Ω
set_option maxRecDepth 100000 in
theorem c_Old7 (p : Patch) (y : Rp.Lay Patch) (hp : p.fit) : Con Tryz.prog 29 [sv p y] [] [slA y.1.1 p.deps, slA y.2.1 p.l, capA y.2.2 p.l.length] (Rp.Lay Patch) (fun y' => sv p y') (fun _ => []) (fun y' => [slA y'.1.1 p.deps, slA y'.2.1 p.l, capA y'.2.2 p.l.length]) := by
 refine con func29 rfl ntmps29 rfl ?_
 intro M0 F0 w0
 refine k_ 2 ?_
 refine ls (o_box rfl rfl rfl) ?_
 refine le ?_; intro b1
 refine ls (o_alloc zeroValue31 rfl rfl) ?_
 refine le ?_; intro b2
 refine k_ 3 ?_
 refine cd [8, 10] [(1, b1, 0, _), (3, b1, 1, _), (5, b1, 2, _), (7, b1, 3, _)] TryzX.mixed (TOk.t (isBoxS Θ (k := 1) Δ) (TOk.t (isBoxS Θ (k := 1) Δ) (TOk.t (isBoxS Θ (k := 1) Δ) (TOk.t (isBoxS Θ (k := 1) Δ) TOk.d)))) ?_
 refine u_ 0 8 ?_
 refine df 8 Ψ ?_
 refine doR rfl (o_call (is := []) call57 (c_lOldC p.l y.2.1 y.2.2 hp.ll) rfl rfl Ω rfl) (TOk.t (isBoxE fun _ => isBoxS Θ (k := 1) Δ) (TOk.t (isBoxE fun _ => isBoxS Θ (k := 1) Δ) (TOk.t (isBoxE fun _ => isBoxS Θ (k := 1) Δ) (TOk.x Ψ TOk.d)))) ?_
 refine ea ?_; intro y11
 refine u_ 9 1 ?_
 refine df 10 Ψ ?_
 refine doR rfl (o_st rfl sizeOf31 rfl rfl rfl rfl rfl Θ Θ Θ) tX ?_
 refine dn Ψ ?_
 refine k_ 3 ?_
 refine rret (is := []) (y.1, y11) (Or.inl rfl) (Res.c rfl isAgg31 sizeOf31 Θ (by rfl) Res.d) (rfl) rfl Ω
set_option maxRecDepth 100000 in
theorem c_Olds7 (l : List Patch) (A : Option Addr) (c : Nat) (hl : l.length ≤ 2000000) (hf : ∀ x ∈ l, x.fit) : Con Tryz.prog 16 [.slice A l.length c] [] [slA A l] (Option Addr × Nat) (fun y => .slice y.1 l.length y.2) (fun _ => []) (fun y => [slA y.1 l]) := by
 refine con func16 rfl ntmps16 rfl ?_
 intro M0 F0 w0
 refine k_ 12 ?_
 refine cmono (fun a w h => nilRow (α := Patch) 31 h) ?_
 refine k_ 7 ?_
 refine cl (ι := {q : Nat × Option Addr × Nat // q.1 ≤ l.length}) (fun i => St M0 F0 w0 19 [(6, .slice A l.length c), (7, .int .i64 (l.length : Int)), (8, .int .i64 (i.1.1 : Int)), (3, .slice i.1.2.1 (l.take i.1.1).length i.1.2.2)] [row 31 (i.1.2.1) (i.1.2.2) (l.take i.1.1)] [slA A l]) (fun i => l.length - i.1.1) ⟨(0, none, 0), Nat.zero_le _⟩ (wk0 Φ Ω) ?_
 rintro ⟨⟨k, A2, c2⟩, hk⟩
 refine cmono (S' := St M0 F0 w0 19 [(6, .slice A l.length c), (7, .int .i64 (l.length : Int)), (8, .int .i64 (k : Int)), (3, .slice A2 (l.take k).length c2)] [row 31 (A2) (c2) (l.take k)] [slA A l]) Ħ ?_
 refine k_ 6 ?_
 refine cc rfl ?_ ?_
 ·
  intro h9
  dsimp only at hk
  try simp only [nrmZ] at h9
  have hk1 : k < l.length := by omega
  refine k_ 5 ?_
  refine elC Θ k (List.getElem?_eq_getElem (l := l) hk1) ?_; rintro zbp zop zyp hAp
  refine cr ?_
  refine ls (op (p_ia k hAp hk1 rfl underlying37 sizeOf55 rfl rfl) rfl) ?_
  refine ls (o_ldj isAgg55 sizeOf55 rfl Θ 0 rfl Δ rfl) ?_
  refine ls (o_alloc zeroValue55 rfl rfl) ?_
  refine le ?_; intro b5
  refine k_ 5 ?_
  refine ls (o_ldw isAgg55 sizeOf55 rfl Θ (by rfl) rfl) ?_
  refine lC [] call29 (c_Old7 l[k] zyp (hf _ (List.getElem_mem hk1))) ?_; intro y14
  refine ls (o_bsl [l[k]] underlying27 sizeOf31 zeroValue31 rfl (Enum.t Enum.d) (RV.t y14 rfl Ω RV.d) rfl (by decide) (by decide) rfl) ?_
  refine le ?_; intro b15
  refine lmono (fun a w h => Go.Sx.freeze (i := 0) rfl h) ?_
  refine ls (o_app (is := [1]) underlying27 inf31 rfl (by decide) (by decide) rfl rfl (by rw [List.length_take]; simp only [List.length_cons, List.length_nil]; omega) (fun h => by cases h) rfl Ω rfl) ?_
  refine le ?_; rintro ⟨A3, c3⟩
  rw [← List.take_succ_eq_append_getElem hk1]
  refine k_ 8 ?_
  refine nnext ⟨(k + 1, A3, c3), hk1⟩ (by dsimp only; omega) (wK [0])
 ·
  intro h9
  dsimp only at hk
  try simp only [nrmZ] at h9
  obtain rfl : k = l.length := by omega
  rw [List.take_length]
  refine k_ 6 ?_
  refine cmono (fun a w h => Go.Sx.freeze (i := 0) rfl h) ?_
  refine k_ 7 ?_
  exact rR [] (A2, c2)
end Go.Proofs.YtppjcjlijmldiaaGreatDoor.X
end
section
set_option linter.unusedVariables false
set_option linter.unusedSimpArgs false
namespace Go.Proofs.YtppjcjlijmldiaaGreatDoor.X
open Go Go.RowKit Go.Proofs Go.Sx
open Tryz
attribute [local irreducible] slA isA box row TrL TrC TrN TrA Pu OpR
set_option maxHeartbeats 8000000
theorem depsOk_drop {id last : Int} {l : List Int} {k : Nat} (hk : k < l.length) : depsOk id last (l.drop k) = (!(decide (l[k] ≤ last) || decide (1000000000 < l[k]) || decide (l[k] = id)) && depsOk id l[k] (l.drop (k + 1))) := by
 rw [List.drop_eq_getElem_cons hk, depsOk]
theorem dec_patch (p q : Patch) : (decide (p.id = q.id) && decide (p.note = q.note) && decide (p.deps = q.deps) && decide (p.l = q.l)) = decide (p = q) := by
 rw [Bool.eq_iff_iff]
 cases p; cases q
 simp [and_assoc]
theorem right_f1 {p : Patch} (h : (decide (p.id < 1) || decide (1000000000 < p.id) || !lineOk p.note) = true) : p.right = false := by
 unfold Patch.right; cases h1 : lineOk p.note <;> simp [h1] at h ⊢ <;> omega
theorem right_f2 {p : Patch} (h : 8 < p.deps.length) : p.right = false := by
 unfold Patch.right; rw [show decide (p.deps.length ≤ 8) = false from decide_eq_false (by omega)]; simp
theorem right_f3 {p : Patch} (h : depsOk p.id 0 p.deps = false) : p.right = false := by
 unfold Patch.right; rw [h]; simp
theorem right_t {p : Patch} (h : (decide (p.id < 1) || decide (1000000000 < p.id) || !lineOk p.note) = false) (h2 : p.deps.length ≤ 8) (h3 : depsOk p.id 0 p.deps = true) :
  p.right = (decide ((1 : Int) ≤ (p.l.length : Int)) && decide ((p.l.length : Int) ≤ 24) && p.l.all Prim.right) := by
 unfold Patch.right
 simp only [Bool.or_eq_false_iff, decide_eq_false_iff_not, Bool.not_eq_false'] at h
 rw [show decide (1 ≤ p.id) = true from decide_eq_true (by omega), show decide (p.id ≤ 1000000000) = true from decide_eq_true (by omega), h.2, h3, show decide (p.deps.length ≤ 8) = true from decide_eq_true h2]
 simp only [Bool.and_true, Bool.true_and]
 congr 2 <;> (rw [decide_eq_decide]; omega)
theorem right_g1 {p : Patch} (h : (decide (p.id < 1) || decide (1000000000 < p.id) || !lineOk p.note || decide ((8 : Int) < (p.deps.length : Int)) || decide ((p.l.length : Int) < 1) || decide ((24 : Int) < (p.l.length : Int))) = true) : p.right = false := by
 unfold Patch.right
 cases h1 : lineOk p.note
 ·
  simp
 ·
  rw [Bool.eq_false_iff]
  intro h2
  simp [h1] at h h2
  omega
theorem right_g2 {p : Patch} (h : (decide (p.id < 1) || decide (1000000000 < p.id) || !lineOk p.note || decide ((8 : Int) < (p.deps.length : Int)) || decide ((p.l.length : Int) < 1) || decide ((24 : Int) < (p.l.length : Int))) = false) (h3 : depsOk p.id 0 p.deps = true) : p.right = p.l.all Prim.right := by
 unfold Patch.right
 simp only [Bool.or_eq_false_iff, decide_eq_false_iff_not, Bool.not_eq_false'] at h
 obtain ⟨⟨⟨⟨⟨a1, a2⟩, a3⟩, a4⟩, a5⟩, a6⟩ := h
 rw [show decide (1 ≤ p.id) = true from decide_eq_true (by omega), show decide (p.id ≤ 1000000000) = true from decide_eq_true (by omega), a3, h3, show decide (p.deps.length ≤ 8) = true from decide_eq_true (by omega), show decide (1 ≤ p.l.length) = true from decide_eq_true (by omega), show decide (p.l.length ≤ 24) = true from decide_eq_true (by omega)]
 simp
theorem rsame_t {p q : Patch} (h : (!decide (p.id = q.id) || !decide (p.note = q.note) || !decide ((p.deps.length : Int) = (q.deps.length : Int))) = true) : ¬ p = q := by
 rintro rfl; simp at h
theorem rsame_f {p q : Patch} (h : (!decide (p.id = q.id) || !decide (p.note = q.note) || !decide ((p.deps.length : Int) = (q.deps.length : Int))) = false) : p.id = q.id ∧ p.note = q.note ∧ p.deps.length = q.deps.length := by
 simp at h
 exact ⟨h.1.1, h.1.2, by omega⟩
set_option maxRecDepth 100000 in
theorem c_nRight1 (nn last : Int) (p : Patch) (y : Rp.Lay Patch) (bl bp : Nat) : Con Tryz.prog 111 [.int .i64 nn, .pointer (some ⟨bl, 0, none⟩), .pointer (some ⟨bp, 0, none⟩)] [box bl 3 [.int .i64 last], box bp 55 (Rp.enc p y)] [] Unit (fun _ => .bool (decide (nn ≤ last) || decide (1000000000 < nn) || decide (nn = p.id))) (fun _ => [box bl 3 [.int .i64 nn], box bp 55 (Rp.enc p y)]) (fun _ => []) := by
 refine con func111 rfl ntmps111 rfl ?_
 intro M0 F0 w0
 refine k_ 23 ?_
 refine orX 3 11 14 rfl (sL [0, 1, 2, 4, 6, 7, 8, 9]) ?_ ?_
 ·
  intro h11
  refine k_ 3 ?_
  refine ln (nmid (wk0 Φ Ω))
 apply exI
 ·
  intro h11
  refine k_ 3 ?_
  refine ln (nmid (wk0 Φ Ω))
 ·
  refine k_ 1 ?_
  refine orX 5 15 20 rfl (sL [0, 1, 4, 6, 7, 8, 9]) ?_ ?_
  ·
   intro h15
   refine k_ 5 ?_
   refine ln (nmid (wk0 Φ Ω))
  apply exI
  ·
   intro h15
   refine k_ 5 ?_
   refine ln (nmid (wk0 Φ Ω))
  ·
   refine k_ 5 ?_
   exact rR [0, 0] ()
set_option maxRecDepth 100000 in
theorem c_IndexFuncI (l : List Int) (A : Option Addr) (c : Nat) (hl : l.length ≤ 2000000) (last : Int) (p : Patch) (y : Rp.Lay Patch) (bl bp : Nat) : Con Tryz.prog 114 [.slice A l.length c, .func (.func 111) #[] #[.pointer (some ⟨bl, 0, none⟩), .pointer (some ⟨bp, 0, none⟩)]] [box bl 3 [.int .i64 last], box bp 55 (Rp.enc p y)] [slA A l] {r : Int × Int // -1 ≤ r.1 ∧ r.1 ≤ 2000000 ∧ (0 ≤ r.1 ↔ depsOk p.id last l = false)} (fun r => .int .i64 r.1.1) (fun r => [box bl 3 [.int .i64 r.1.2], box bp 55 (Rp.enc p y)]) (fun _ => []) := by
 refine con func114 rfl ntmps114 rfl ?_
 intro M0 F0 w0
 refine k_ 14 ?_
 refine cl (ι := {q : Nat × Int // q.1 ≤ l.length ∧ depsOk p.id last l = depsOk p.id q.2 (l.drop q.1)}) (fun i => St M0 F0 w0 19 [(0, .slice A l.length c), (1, .func (.func 111) #[] #[.pointer (some ⟨bl, 0, none⟩), .pointer (some ⟨bp, 0, none⟩)]), (7, .int .i64 (l.length : Int)), (8, .int .i64 (i.1.1 : Int))] [box bl 3 [.int .i64 i.1.2], box bp 55 (Rp.enc p y)] [slA A l]) (fun i => l.length - i.1.1) ⟨(0, last), by simp⟩ (wk0 Φ Ω) ?_
 rintro ⟨⟨k, la⟩, hk, hkk⟩
 refine cmono (S' := St M0 F0 w0 19 [(0, .slice A l.length c), (1, .func (.func 111) #[] #[.pointer (some ⟨bl, 0, none⟩), .pointer (some ⟨bp, 0, none⟩)]), (7, .int .i64 (l.length : Int)), (8, .int .i64 (k : Int))] [box bl 3 [.int .i64 la], box bp 55 (Rp.enc p y)] [slA A l]) Ħ ?_
 refine k_ 6 ?_
 refine cc rfl ?_ ?_
 ·
  intro h9
  dsimp only at hk hkk
  try simp only [nrmZ] at h9
  have hk1 : k < l.length := by omega
  rw [depsOk_drop hk1] at hkk
  refine k_ 11 ?_
  refine elC Θ k (List.getElem?_eq_getElem (l := l) hk1) ?_; rintro zbp zop zyp hAp
  refine k_ 4 ?_
  refine ls (op (p_ia k hAp hk1 rfl underlying28 sizeOf3 rfl rfl) rfl) ?_
  refine ls (o_ldi isAgg3 rfl Θ 0 rfl Δ rfl) ?_
  refine ls (o_callv (is := [0, 0]) rfl call111 (c_nRight1 l[k] la p y bl bp) rfl rfl rfl Ω rfl) ?_
  refine le ?_; intro x16
  refine k_ 2 ?_
  refine cc rfl ?_ ?_
  ·
   intro h16
   rw [h16] at hkk
   refine k_ 8 ?_
   exact rR [0, 0] ⟨((k : Int), l[k]), by dsimp only; omega, by dsimp only; omega, by dsimp only; exact ⟨fun _ => by simpa using hkk, fun _ => by omega⟩⟩
  ·
   intro h16
   rw [h16] at hkk
   refine k_ 7 ?_
   refine nnext ⟨(k + 1, l[k]), hk1, by simpa using hkk⟩ (by dsimp only; omega) (wk0 Φ Ω)
 ·
  intro h9
  dsimp only at hk hkk
  try simp only [nrmZ] at h9
  refine k_ 12 ?_
  exact rR [0, 0] ⟨(-1, la), by dsimp only; omega, by dsimp only; omega, by dsimp only; rw [hkk, List.drop_eq_nil_of_le (by omega)]; simp [depsOk]⟩
set_option maxRecDepth 100000 in
theorem c_ContainsFuncI (l : List Int) (A : Option Addr) (c : Nat) (hl : l.length ≤ 2000000) (last : Int) (p : Patch) (y : Rp.Lay Patch) (bl bp : Nat) : Con Tryz.prog 78 [.slice A l.length c, .func (.func 111) #[] #[.pointer (some ⟨bl, 0, none⟩), .pointer (some ⟨bp, 0, none⟩)]] [box bl 3 [.int .i64 last], box bp 55 (Rp.enc p y)] [slA A l] Int (fun _ => .bool !(depsOk p.id last l)) (fun r => [box bl 3 [.int .i64 r], box bp 55 (Rp.enc p y)]) (fun _ => []) := by
 refine con func78 rfl ntmps78 rfl ?_
 intro M0 F0 w0
 refine k_ 9 ?_
 refine lC [0, 0] call114 (c_IndexFuncI l A c hl last p y bl bp) ?_; rintro ⟨⟨r, rl⟩, hr1, hr2, hr3⟩
 refine k_ 6 ?_
 refine rret (is := [0, 0]) rl (Or.inl rfl) (Res.t rfl Res.d) ?_ rfl Ω
 dsimp only at hr1 hr2 hr3; simp [packV]; rw [Bool.eq_iff_iff]; simp [hr3]
set_option maxRecDepth 100000 in
theorem c_nRight (p : Patch) (y : Rp.Lay Patch) (hp : p.fit) : Con Tryz.prog 77 [sv p y] [] [slA y.1.1 p.deps, slA y.2.1 p.l, capA y.2.2 p.l.length] Unit (fun _ => .bool (p.right)) (fun _ => []) (fun _ => []) := by
 refine con func77 rfl ntmps77 rfl ?_
 intro M0 F0 w0
 refine k_ 2 ?_
 refine ls (o_box rfl rfl rfl) ?_
 refine le ?_; intro b1
 refine k_ 5 ?_
 refine ls (o_alloc zeroValue3 rfl rfl) ?_
 refine le ?_; intro b3
 refine k_ 5 ?_
 refine ls (op (p_mkf rfl) rfl) ?_
 refine k_ 11 ?_
 refine orX 4 10 14 rfl (sL [0, 1, 2, 3, 5, 4]) ?_ ?_
 ·
  intro h10
  refine k_ 4 ?_
  refine ln (nmid (wk0 Φ Ω))
 apply exI
 ·
  intro h10
  refine k_ 4 ?_
  refine ln (nmid (wk0 Φ Ω))
 ·
  refine k_ 1 ?_
  refine orX 5 15 20 rfl (sL [0, 1, 2, 3, 5, 4]) ?_ ?_
  ·
   intro h15
   refine k_ 5 ?_
   refine ln (nmid (wk0 Φ Ω))
  apply exI
  ·
   intro h15
   refine k_ 2 ?_
   refine lwant rfl rfl rfl rfl (o_call (is := []) call112 (c_lineRight p.note) rfl rfl Ω rfl) ?_
   refine le ?_; intro x18
   refine k_ 2 ?_
   refine ln (nmid (wk0 Φ Ω))
  ·
   refine k_ 3 ?_
   refine cc rfl ?_ ?_
   ·
    intro h6
    try simp only [nrmZ] at h6
    refine k_ 7 ?_
    refine rret (is := []) () (Or.inl rfl) (Res.t rfl Res.d) ?_ rfl Ω
    simp only [packV]; rw [right_f1 h6]
   ·
    intro h6
    try simp only [nrmZ] at h6
    refine cs ?_
    have hdl := hp.dl
    refine k_ 6 ?_
    refine splitL 26 rfl ?_ ?_
    ·
     intro h26
     refine k_ 8 ?_
     refine cc rfl (fun h => ?_) (fun h => by cases h)
     refine k_ 7 ?_
     refine rret (is := []) () (Or.inl rfl) (Res.t rfl Res.d) ?_ rfl Ω
     simp only [packV]; rw [right_f2 (by simp at h26; omega)]
    ·
     intro h26
     refine k_ 3 ?_
     refine lwant rfl rfl rfl rfl (o_call (is := [0, 0]) call78 (c_ContainsFuncI p.deps y.1.1 y.1.2 hp.dl 0 p y b3 b1) rfl rfl Ω rfl) ?_
     refine le ?_; intro r30
     refine k_ 4 ?_
     refine cc rfl ?_ ?_
     ·
      intro h21
      try simp only [nrmZ] at h21
      refine k_ 7 ?_
      refine rret (is := []) () (Or.inl rfl) (Res.t rfl Res.d) ?_ rfl Ω
      simp only [packV]; rw [right_f3 (by simpa using h21)]
     ·
      intro h21
      try simp only [nrmZ] at h21
      refine k_ 4 ?_
      have hll := hp.ll
      refine k_ 6 ?_
      refine andX 5 36 41 rfl (sL [0, 1, 2, 3, 5, 4, 20, 6, 22, 23, 24, 25, 26, 27, 28, 29, 30, 31, 21]) ?_ ?_
      ·
       intro h36
       refine k_ 5 ?_
       refine ln (nmid (wk0 Φ Ω))
      apply exI
      ·
       intro h36
       refine k_ 5 ?_
       refine ln (nmid (wk0 Φ Ω))
      ·
       refine k_ 1 ?_
       refine andX 4 42 46 rfl (sL [0, 1, 2, 3, 5, 4, 20, 6, 22, 23, 24, 25, 26, 27, 28, 29, 30, 31, 21]) ?_ ?_
       ·
        intro h42
        refine k_ 4 ?_
        refine ln (nmid (wk0 Φ Ω))
       apply exI
       ·
        intro h42
        refine k_ 2 ?_
        refine lwant rfl rfl rfl rfl (o_call (is := []) call113 (c_seqRight p.l _ _ hp.ll hp.lf) rfl rfl Ω rfl) ?_
        refine le ?_; intro x45
        refine k_ 1 ?_
        refine ln (nmid (wk0 Φ Ω))
       ·
        refine k_ 5 ?_
        refine rret (is := []) () (Or.inl rfl) (Res.t rfl Res.d) ?_ rfl Ω
        simp only [packV]; rw [right_t h6 (by simp at h26; omega) (by simpa using h21)]
set_option maxRecDepth 100000 in
theorem c_nSame (p q : Patch) (yp yq : Rp.Lay Patch) (hp : p.fit) (hq : q.fit) : Con Tryz.prog 74 [sv p yp, sv q yq] [] [slA yp.1.1 p.deps, slA yp.2.1 p.l, capA yp.2.2 p.l.length, slA yq.1.1 q.deps, slA yq.2.1 q.l, capA yq.2.2 q.l.length] Unit (fun _ => .bool (decide (p = q))) (fun _ => []) (fun _ => []) := by
 refine con func74 rfl ntmps74 rfl ?_
 intro M0 F0 w0
 refine k_ 2 ?_
 refine ls (o_box rfl rfl rfl) ?_
 refine le ?_; intro b2
 refine ls (o_box rfl rfl rfl) ?_
 refine le ?_; intro b3
 refine k_ 11 ?_
 refine andX 6 10 16 rfl (sL [0, 1, 2, 3, 4]) ?_ ?_
 ·
  intro h10
  refine k_ 6 ?_
  refine ln (nmid (wk0 Φ Ω))
 apply exI
 ·
  intro h10
  refine k_ 6 ?_
  refine ln (nmid (wk0 Φ Ω))
 ·
  refine k_ 1 ?_
  refine andX 6 17 23 rfl (sL [0, 1, 2, 3, 4]) ?_ ?_
  ·
   intro h17
   refine k_ 6 ?_
   refine ln (nmid (wk0 Φ Ω))
  apply exI
  ·
   intro h17
   refine k_ 4 ?_
   refine lwant rfl rfl rfl rfl (o_call (is := []) call60 (c_EqualI p.deps q.deps _ _ _ _ hp.dl) rfl rfl Ω rfl) ?_
   refine le ?_; intro x22
   refine k_ 1 ?_
   refine ln (nmid (wk0 Φ Ω))
  ·
   refine k_ 1 ?_
   refine andX 6 24 30 rfl (sL [0, 1, 4]) ?_ ?_
   ·
    intro h24
    refine k_ 6 ?_
    refine ln (nmid (wk0 Φ Ω))
   apply exI
   ·
    intro h24
    refine k_ 4 ?_
    refine lwant rfl rfl rfl rfl (o_call (is := []) call105 (c_seqSame p.l q.l _ _ _ _ hp.ll hp.lf) rfl rfl Ω rfl) ?_
    refine le ?_; intro x29
    refine k_ 1 ?_
    refine ln (nmid (wk0 Φ Ω))
   ·
    refine k_ 5 ?_
    refine rret (is := []) () (Or.inl rfl) (Res.t rfl Res.d) ?_ rfl Ω
    simp only [packV, dec_patch]
set_option maxRecDepth 100000 in
theorem c_rRight (p : Patch) (y : Rp.Lay Patch) (hp : p.fit) : Con Tryz.prog 80 [sv p y] [] [slA y.1.1 p.deps, slA y.2.1 p.l, capA y.2.2 p.l.length] Unit (fun _ => .bool (p.right)) (fun _ => []) (fun _ => []) := by
 refine con func80 rfl ntmps80 rfl ?_
 intro M0 F0 w0
 refine k_ 2 ?_
 refine ls (o_box rfl rfl rfl) ?_
 refine le ?_; intro b1
 refine k_ 5 ?_
 have hdl := hp.dl; have hll := hp.ll
 refine k_ 5 ?_
 refine orX 4 7 11 rfl (sL [0, 1, 2]) ?_ ?_
 ·
  intro h7
  refine k_ 4 ?_
  refine ln (nmid (wk0 Φ Ω))
 apply exI
 ·
  intro h7
  refine k_ 4 ?_
  refine ln (nmid (wk0 Φ Ω))
 ·
  refine k_ 1 ?_
  refine orX 5 12 17 rfl (sL [0, 1, 2]) ?_ ?_
  ·
   intro h12
   refine k_ 5 ?_
   refine ln (nmid (wk0 Φ Ω))
  apply exI
  ·
   intro h12
   refine k_ 2 ?_
   refine lwant rfl rfl rfl rfl (o_call (is := []) call115 (c_refLine p.note hp.nb) rfl rfl Ω rfl) ?_
   refine le ?_; intro x15
   refine k_ 2 ?_
   refine ln (nmid (wk0 Φ Ω))
  ·
   refine k_ 1 ?_
   refine orX 5 18 23 rfl (sL [0, 1, 2]) ?_ ?_
   ·
    intro h18
    refine k_ 5 ?_
    refine ln (nmid (wk0 Φ Ω))
   apply exI
   ·
    intro h18
    refine k_ 5 ?_
    refine ln (nmid (wk0 Φ Ω))
   ·
    refine k_ 1 ?_
    refine orX 5 24 29 rfl (sL [0, 1, 2]) ?_ ?_
    ·
     intro h24
     refine k_ 5 ?_
     refine ln (nmid (wk0 Φ Ω))
    apply exI
    ·
     intro h24
     refine k_ 5 ?_
     refine ln (nmid (wk0 Φ Ω))
    ·
     refine k_ 1 ?_
     refine orX 5 30 35 rfl (sL [0, 1, 2]) ?_ ?_
     ·
      intro h30
      refine k_ 5 ?_
      refine ln (nmid (wk0 Φ Ω))
     apply exI
     ·
      intro h30
      refine k_ 5 ?_
      refine ln (nmid (wk0 Φ Ω))
     ·
      refine k_ 2 ?_
      refine cc rfl ?_ ?_
      ·
       intro h35
       try simp only [nrmZ] at h35
       refine k_ 7 ?_
       refine rret (is := []) () (Or.inl rfl) (Res.t rfl Res.d) ?_ rfl Ω
       simp only [packV]; rw [right_g1 h35]
      ·
       intro h35
       try simp only [nrmZ] at h35
       refine k_ 9 ?_
       refine cl (ι := {q : Nat × Int // q.1 ≤ p.deps.length ∧ depsOk p.id 0 p.deps = depsOk p.id q.2 (p.deps.drop q.1) ∧ 0 ≤ q.2 ∧ (q.1 = 0 → q.2 = 0) ∧ (0 < q.1 → p.deps[q.1 - 1]? = some q.2)}) (fun i => St M0 F0 w0 88 [(1, .pointer (some ⟨b1, 0, none⟩)), (3, .int .i64 (i.1.1 : Int))] [box b1 31 (Rp.enc p y)] [slA y.1.1 p.deps, slA y.2.1 p.l, capA y.2.2 p.l.length]) (fun i => p.deps.length - i.1.1) ⟨(0, 0), Nat.zero_le _, by simp, by simp, fun _ => rfl, fun h => by simp at h⟩ (wk0 Φ Ω) ?_
       rintro ⟨⟨k, la⟩, hk, hkk, hz, hz0, hs⟩
       refine cmono (S' := St M0 F0 w0 88 [(1, .pointer (some ⟨b1, 0, none⟩)), (3, .int .i64 (k : Int))] [box b1 31 (Rp.enc p y)] [slA y.1.1 p.deps, slA y.2.1 p.l, capA y.2.2 p.l.length]) Ħ ?_
       refine k_ 10 ?_
       refine cc rfl ?_ ?_
       ·
        intro h40
        dsimp only at hk hkk hz hz0 hs
        try simp only [nrmZ] at h40
        have hk1 : k < p.deps.length := by omega
        rw [depsOk_drop hk1] at hkk
        refine k_ 5 ?_
        have hcase : (p.deps[k] < 1) ∨ (¬ p.deps[k] < 1 ∧ 1000000000 < p.deps[k]) ∨ (¬ p.deps[k] < 1 ∧ ¬ 1000000000 < p.deps[k] ∧ p.deps[k] = p.id) ∨ (¬ p.deps[k] < 1 ∧ ¬ 1000000000 < p.deps[k] ∧ ¬ p.deps[k] = p.id ∧ k = 0) ∨ (¬ p.deps[k] < 1 ∧ ¬ 1000000000 < p.deps[k] ∧ ¬ p.deps[k] = p.id ∧ 0 < k ∧ p.deps[k] ≤ la) ∨ (¬ p.deps[k] < 1 ∧ ¬ 1000000000 < p.deps[k] ∧ ¬ p.deps[k] = p.id ∧ 0 < k ∧ ¬ p.deps[k] ≤ la) := by omega
        rcases hcase with g1 | ⟨g1, g2⟩ | ⟨g1, g2, g3⟩ | ⟨g1, g2, g3, g4⟩ | ⟨g1, g2, g3, g4, g5⟩ | ⟨g1, g2, g3, g4, g5⟩
        ·
         refine elC Θ k (List.getElem?_eq_getElem (l := p.deps) hk1) ?_; rintro zbp zop zyp hAp
         refine cd [] [(1, b1, 2, _), (4, zbp, zop + k * Rp.size Int, _)] TryzX.mixed (TOk.t (isBoxS Θ (k := 1) Δ) (TOk.t (isInS Θ (k := 0) rfl (z := 1) Δ) TOk.d)) ?_
         refine u_ 0 3 ?_
         refine tk 3 rfl Ψ Υ gnone (TTany _) (p_ia k hAp hk1 rfl underlying28 sizeOf3 rfl rfl) rfl ?_
         refine u_ 4 2 ?_
         rw [show decide (p.deps[k] < 1) = true from decide_eq_true g1]
         refine u_ 6 22 ?_
         refine tksu 28 rfl Ψ Υ rfl rfl rfl rfl ?_
         refine tksu 29 rfl Ψ Υ rfl rfl rfl rfl ?_
         refine tksu 30 rfl Ψ Υ rfl rfl rfl rfl ?_
         refine tksu 31 rfl Ψ Υ rfl rfl rfl rfl ?_
         refine tksu 32 rfl Ψ Υ rfl rfl rfl rfl ?_
         refine tksu 33 rfl Ψ Υ rfl rfl rfl rfl ?_
         refine tksu 34 rfl Ψ Υ rfl rfl rfl rfl ?_
         refine tksu 35 rfl Ψ Υ rfl rfl rfl rfl ?_
         refine tksu 36 rfl Ψ Υ rfl rfl rfl rfl ?_
         refine tksu 37 rfl Ψ Υ rfl rfl rfl rfl ?_
         refine tksu 38 rfl Ψ Υ rfl rfl rfl rfl ?_
         refine tksu 39 rfl Ψ Υ rfl rfl rfl rfl ?_
         refine u_ 40 2 ?_
         refine dn Ψ ?_
         refine k_ 1 ?_
         refine cc rfl (fun h => ?_) (fun h => by cases h)
         refine k_ 7 ?_
         refine rret (is := []) () (Or.inl rfl) (Res.t rfl Res.d) ?_ rfl Ω
         simp only [packV]; rw [right_f3 (by rw [hkk]; grind)]
        ·
         refine elC Θ k (List.getElem?_eq_getElem (l := p.deps) hk1) ?_; rintro zbp zop zyp hAp
         refine cd [] [(1, b1, 2, _), (4, zbp, zop + k * Rp.size Int, _), (8, b1, 2, _), (11, zbp, zop + k * Rp.size Int, _)] TryzX.mixed (TOk.t (isBoxS Θ (k := 1) Δ) (TOk.t (isInS Θ (k := 0) rfl (z := 1) Δ) (TOk.t (isBoxS Θ (k := 1) Δ) (TOk.t (isInS Θ (k := 0) rfl (z := 1) Δ) TOk.d)))) ?_
         refine u_ 0 3 ?_
         refine tk 3 rfl Ψ Υ gnone (TTany _) (p_ia k hAp hk1 rfl underlying28 sizeOf3 rfl rfl) rfl ?_
         refine u_ 4 2 ?_
         rw [show decide (p.deps[k] < 1) = false from decide_eq_false g1]
         refine u_ 6 2 ?_
         refine tk 8 rfl Ψ Υ (gyes rfl rfl rfl rfl) (TTat (List.Mem.tail _ (List.Mem.tail _ (List.Mem.head _)))) (gpu (p_ld isAgg28 rfl)) rfl ?_
         refine u_ 9 1 ?_
         refine tk 10 rfl Ψ Υ (gyes rfl rfl rfl rfl) (TTany _) (gpu (p_ia k hAp hk1 rfl underlying28 sizeOf3 rfl rfl)) rfl ?_
         refine tk 11 rfl Ψ Υ (gyes rfl rfl rfl rfl) (TTat (List.Mem.tail _ (List.Mem.tail _ (List.Mem.tail _ (List.Mem.head _))))) (gpu (p_ld isAgg3 rfl)) rfl ?_
         refine u_ 12 1 ?_
         rw [show decide ((1000000000 : Int) < p.deps[k]) = true from decide_eq_true g2]
         refine u_ 13 15 ?_
         refine tksu 28 rfl Ψ Υ rfl rfl rfl rfl ?_
         refine tksu 29 rfl Ψ Υ rfl rfl rfl rfl ?_
         refine tksu 30 rfl Ψ Υ rfl rfl rfl rfl ?_
         refine tksu 31 rfl Ψ Υ rfl rfl rfl rfl ?_
         refine tksu 32 rfl Ψ Υ rfl rfl rfl rfl ?_
         refine tksu 33 rfl Ψ Υ rfl rfl rfl rfl ?_
         refine tksu 34 rfl Ψ Υ rfl rfl rfl rfl ?_
         refine tksu 35 rfl Ψ Υ rfl rfl rfl rfl ?_
         refine tksu 36 rfl Ψ Υ rfl rfl rfl rfl ?_
         refine tksu 37 rfl Ψ Υ rfl rfl rfl rfl ?_
         refine tksu 38 rfl Ψ Υ rfl rfl rfl rfl ?_
         refine tksu 39 rfl Ψ Υ rfl rfl rfl rfl ?_
         refine u_ 40 2 ?_
         refine dn Ψ ?_
         refine k_ 1 ?_
         refine cc rfl (fun h => ?_) (fun h => by cases h)
         refine k_ 7 ?_
         refine rret (is := []) () (Or.inl rfl) (Res.t rfl Res.d) ?_ rfl Ω
         simp only [packV]; rw [right_f3 (by rw [hkk]; grind)]
        ·
         refine elC Θ k (List.getElem?_eq_getElem (l := p.deps) hk1) ?_; rintro zbp zop zyp hAp
         refine cd [] [(1, b1, 2, _), (4, zbp, zop + k * Rp.size Int, _), (8, b1, 2, _), (11, zbp, zop + k * Rp.size Int, _), (16, b1, 2, _), (19, zbp, zop + k * Rp.size Int, _), (21, b1, 0, _)] TryzX.mixed (TOk.t (isBoxS Θ (k := 1) Δ) (TOk.t (isInS Θ (k := 0) rfl (z := 1) Δ) (TOk.t (isBoxS Θ (k := 1) Δ) (TOk.t (isInS Θ (k := 0) rfl (z := 1) Δ) (TOk.t (isBoxS Θ (k := 1) Δ) (TOk.t (isInS Θ (k := 0) rfl (z := 1) Δ) (TOk.t (isBoxS Θ (k := 1) Δ) TOk.d))))))) ?_
         refine u_ 0 3 ?_
         refine tk 3 rfl Ψ Υ gnone (TTany _) (p_ia k hAp hk1 rfl underlying28 sizeOf3 rfl rfl) rfl ?_
         refine u_ 4 2 ?_
         rw [show decide (p.deps[k] < 1) = false from decide_eq_false g1]
         refine u_ 6 2 ?_
         refine tk 8 rfl Ψ Υ (gyes rfl rfl rfl rfl) (TTat (List.Mem.tail _ (List.Mem.tail _ (List.Mem.head _)))) (gpu (p_ld isAgg28 rfl)) rfl ?_
         refine u_ 9 1 ?_
         refine tk 10 rfl Ψ Υ (gyes rfl rfl rfl rfl) (TTany _) (gpu (p_ia k hAp hk1 rfl underlying28 sizeOf3 rfl rfl)) rfl ?_
         refine tk 11 rfl Ψ Υ (gyes rfl rfl rfl rfl) (TTat (List.Mem.tail _ (List.Mem.tail _ (List.Mem.tail _ (List.Mem.head _))))) (gpu (p_ld isAgg3 rfl)) rfl ?_
         refine u_ 12 1 ?_
         rw [show decide ((1000000000 : Int) < p.deps[k]) = false from decide_eq_false g2]
         refine u_ 13 3 ?_
         refine tk 16 rfl Ψ Υ (gyes rfl rfl rfl rfl) (TTat (List.Mem.tail _ (List.Mem.tail _ (List.Mem.tail _ (List.Mem.tail _ (List.Mem.head _)))))) (gpu (p_ld isAgg28 rfl)) rfl ?_
         refine u_ 17 1 ?_
         refine tk 18 rfl Ψ Υ (gyes rfl rfl rfl rfl) (TTany _) (gpu (p_ia k hAp hk1 rfl underlying28 sizeOf3 rfl rfl)) rfl ?_
         refine tk 19 rfl Ψ Υ (gyes rfl rfl rfl rfl) (TTat (List.Mem.tail _ (List.Mem.tail _ (List.Mem.tail _ (List.Mem.tail _ (List.Mem.tail _ (List.Mem.head _))))))) (gpu (p_ld isAgg3 rfl)) rfl ?_
         refine u_ 20 1 ?_
         refine tk 21 rfl Ψ Υ (gyes rfl rfl rfl rfl) (TTat (List.Mem.tail _ (List.Mem.tail _ (List.Mem.tail _ (List.Mem.tail _ (List.Mem.tail _ (List.Mem.tail _ (List.Mem.head _)))))))) (gpu (p_ld isAgg3 rfl)) rfl ?_
         refine u_ 22 1 ?_
         rw [show decide (p.deps[k] = p.id) = true from decide_eq_true g3]
         refine u_ 23 5 ?_
         refine tksu 28 rfl Ψ Υ rfl rfl rfl rfl ?_
         refine tksu 29 rfl Ψ Υ rfl rfl rfl rfl ?_
         refine tksu 30 rfl Ψ Υ rfl rfl rfl rfl ?_
         refine tksu 31 rfl Ψ Υ rfl rfl rfl rfl ?_
         refine tksu 32 rfl Ψ Υ rfl rfl rfl rfl ?_
         refine tksu 33 rfl Ψ Υ rfl rfl rfl rfl ?_
         refine tksu 34 rfl Ψ Υ rfl rfl rfl rfl ?_
         refine tksu 35 rfl Ψ Υ rfl rfl rfl rfl ?_
         refine tksu 36 rfl Ψ Υ rfl rfl rfl rfl ?_
         refine tksu 37 rfl Ψ Υ rfl rfl rfl rfl ?_
         refine tksu 38 rfl Ψ Υ rfl rfl rfl rfl ?_
         refine tksu 39 rfl Ψ Υ rfl rfl rfl rfl ?_
         refine u_ 40 2 ?_
         refine dn Ψ ?_
         refine k_ 1 ?_
         refine cc rfl (fun h => ?_) (fun h => by cases h)
         refine k_ 7 ?_
         refine rret (is := []) () (Or.inl rfl) (Res.t rfl Res.d) ?_ rfl Ω
         simp only [packV]; rw [right_f3 (by rw [hkk]; grind)]
        ·
         refine elC Θ k (List.getElem?_eq_getElem (l := p.deps) hk1) ?_; rintro zbp zop zyp hAp
         refine cd [] [(1, b1, 2, _), (4, zbp, zop + k * Rp.size Int, _), (8, b1, 2, _), (11, zbp, zop + k * Rp.size Int, _), (16, b1, 2, _), (19, zbp, zop + k * Rp.size Int, _), (21, b1, 0, _)] TryzX.mixed (TOk.t (isBoxS Θ (k := 1) Δ) (TOk.t (isInS Θ (k := 0) rfl (z := 1) Δ) (TOk.t (isBoxS Θ (k := 1) Δ) (TOk.t (isInS Θ (k := 0) rfl (z := 1) Δ) (TOk.t (isBoxS Θ (k := 1) Δ) (TOk.t (isInS Θ (k := 0) rfl (z := 1) Δ) (TOk.t (isBoxS Θ (k := 1) Δ) TOk.d))))))) ?_
         refine u_ 0 3 ?_
         refine tk 3 rfl Ψ Υ gnone (TTany _) (p_ia k hAp hk1 rfl underlying28 sizeOf3 rfl rfl) rfl ?_
         refine u_ 4 2 ?_
         rw [show decide (p.deps[k] < 1) = false from decide_eq_false g1]
         refine u_ 6 2 ?_
         refine tk 8 rfl Ψ Υ (gyes rfl rfl rfl rfl) (TTat (List.Mem.tail _ (List.Mem.tail _ (List.Mem.head _)))) (gpu (p_ld isAgg28 rfl)) rfl ?_
         refine u_ 9 1 ?_
         refine tk 10 rfl Ψ Υ (gyes rfl rfl rfl rfl) (TTany _) (gpu (p_ia k hAp hk1 rfl underlying28 sizeOf3 rfl rfl)) rfl ?_
         refine tk 11 rfl Ψ Υ (gyes rfl rfl rfl rfl) (TTat (List.Mem.tail _ (List.Mem.tail _ (List.Mem.tail _ (List.Mem.head _))))) (gpu (p_ld isAgg3 rfl)) rfl ?_
         refine u_ 12 1 ?_
         rw [show decide ((1000000000 : Int) < p.deps[k]) = false from decide_eq_false g2]
         refine u_ 13 3 ?_
         refine tk 16 rfl Ψ Υ (gyes rfl rfl rfl rfl) (TTat (List.Mem.tail _ (List.Mem.tail _ (List.Mem.tail _ (List.Mem.tail _ (List.Mem.head _)))))) (gpu (p_ld isAgg28 rfl)) rfl ?_
         refine u_ 17 1 ?_
         refine tk 18 rfl Ψ Υ (gyes rfl rfl rfl rfl) (TTany _) (gpu (p_ia k hAp hk1 rfl underlying28 sizeOf3 rfl rfl)) rfl ?_
         refine tk 19 rfl Ψ Υ (gyes rfl rfl rfl rfl) (TTat (List.Mem.tail _ (List.Mem.tail _ (List.Mem.tail _ (List.Mem.tail _ (List.Mem.tail _ (List.Mem.head _))))))) (gpu (p_ld isAgg3 rfl)) rfl ?_
         refine u_ 20 1 ?_
         refine tk 21 rfl Ψ Υ (gyes rfl rfl rfl rfl) (TTat (List.Mem.tail _ (List.Mem.tail _ (List.Mem.tail _ (List.Mem.tail _ (List.Mem.tail _ (List.Mem.tail _ (List.Mem.head _)))))))) (gpu (p_ld isAgg3 rfl)) rfl ?_
         refine u_ 22 1 ?_
         rw [show decide (p.deps[k] = p.id) = false from decide_eq_false g3]
         refine u_ 23 4 ?_
         rw [show decide ((0 : Int) < (k : Int)) = false from decide_eq_false (by omega)]
         refine u_ 27 15 ?_
         refine dn Ψ ?_
         refine k_ 1 ?_
         refine cc rfl (fun h => by cases h) (fun h => ?_)
         refine k_ 8 ?_
         refine nnext ⟨(k + 1, p.deps[k]), hk1, by rw [hkk]; grind, by dsimp only; omega, fun h => by simp at h, fun _ => List.getElem?_eq_getElem hk1⟩ (by dsimp only; omega) (wk0 Φ Ω)
        ·
         have hk2 := hs g4
         refine elC Θ (k - 1) (hk2) ?_; rintro zbq zoq zyq hAq
         refine elC Θ k (List.getElem?_eq_getElem (l := p.deps) hk1) ?_; rintro zbp zop zyp hAp
         refine cd [] [(1, b1, 2, _), (4, zbp, zop + k * Rp.size Int, _), (8, b1, 2, _), (11, zbp, zop + k * Rp.size Int, _), (16, b1, 2, _), (19, zbp, zop + k * Rp.size Int, _), (21, b1, 0, _), (29, b1, 2, _), (32, zbp, zop + k * Rp.size Int, _), (34, b1, 2, _), (38, zbq, zoq + (k - 1) * Rp.size Int, _)] TryzX.mixed (TOk.t (isBoxS Θ (k := 1) Δ) (TOk.t (isInS Θ (k := 0) rfl (z := 1) Δ) (TOk.t (isBoxS Θ (k := 1) Δ) (TOk.t (isInS Θ (k := 0) rfl (z := 1) Δ) (TOk.t (isBoxS Θ (k := 1) Δ) (TOk.t (isInS Θ (k := 0) rfl (z := 1) Δ) (TOk.t (isBoxS Θ (k := 1) Δ) (TOk.t (isBoxS Θ (k := 1) Δ) (TOk.t (isInS Θ (k := 0) rfl (z := 1) Δ) (TOk.t (isBoxS Θ (k := 1) Δ) (TOk.t (isInS Θ (k := 0) rfl (z := 1) Δ) TOk.d))))))))))) ?_
         refine u_ 0 3 ?_
         refine tk 3 rfl Ψ Υ gnone (TTany _) (p_ia k hAp hk1 rfl underlying28 sizeOf3 rfl rfl) rfl ?_
         refine u_ 4 2 ?_
         rw [show decide (p.deps[k] < 1) = false from decide_eq_false g1]
         refine u_ 6 2 ?_
         refine tk 8 rfl Ψ Υ (gyes rfl rfl rfl rfl) (TTat (List.Mem.tail _ (List.Mem.tail _ (List.Mem.head _)))) (gpu (p_ld isAgg28 rfl)) rfl ?_
         refine u_ 9 1 ?_
         refine tk 10 rfl Ψ Υ (gyes rfl rfl rfl rfl) (TTany _) (gpu (p_ia k hAp hk1 rfl underlying28 sizeOf3 rfl rfl)) rfl ?_
         refine tk 11 rfl Ψ Υ (gyes rfl rfl rfl rfl) (TTat (List.Mem.tail _ (List.Mem.tail _ (List.Mem.tail _ (List.Mem.head _))))) (gpu (p_ld isAgg3 rfl)) rfl ?_
         refine u_ 12 1 ?_
         rw [show decide ((1000000000 : Int) < p.deps[k]) = false from decide_eq_false g2]
         refine u_ 13 3 ?_
         refine tk 16 rfl Ψ Υ (gyes rfl rfl rfl rfl) (TTat (List.Mem.tail _ (List.Mem.tail _ (List.Mem.tail _ (List.Mem.tail _ (List.Mem.head _)))))) (gpu (p_ld isAgg28 rfl)) rfl ?_
         refine u_ 17 1 ?_
         refine tk 18 rfl Ψ Υ (gyes rfl rfl rfl rfl) (TTany _) (gpu (p_ia k hAp hk1 rfl underlying28 sizeOf3 rfl rfl)) rfl ?_
         refine tk 19 rfl Ψ Υ (gyes rfl rfl rfl rfl) (TTat (List.Mem.tail _ (List.Mem.tail _ (List.Mem.tail _ (List.Mem.tail _ (List.Mem.tail _ (List.Mem.head _))))))) (gpu (p_ld isAgg3 rfl)) rfl ?_
         refine u_ 20 1 ?_
         refine tk 21 rfl Ψ Υ (gyes rfl rfl rfl rfl) (TTat (List.Mem.tail _ (List.Mem.tail _ (List.Mem.tail _ (List.Mem.tail _ (List.Mem.tail _ (List.Mem.tail _ (List.Mem.head _)))))))) (gpu (p_ld isAgg3 rfl)) rfl ?_
         refine u_ 22 1 ?_
         rw [show decide (p.deps[k] = p.id) = false from decide_eq_false g3]
         refine u_ 23 4 ?_
         rw [show decide ((0 : Int) < (k : Int)) = true from decide_eq_true (by omega)]
         refine u_ 27 2 ?_
         refine tk 29 rfl Ψ Υ (gyes rfl rfl rfl rfl) (TTat (List.Mem.tail _ (List.Mem.tail _ (List.Mem.tail _ (List.Mem.tail _ (List.Mem.tail _ (List.Mem.tail _ (List.Mem.tail _ (List.Mem.head _))))))))) (gpu (p_ld isAgg28 rfl)) rfl ?_
         refine u_ 30 1 ?_
         refine tk 31 rfl Ψ Υ (gyes rfl rfl rfl rfl) (TTany _) (gpu (p_ia k hAp hk1 rfl underlying28 sizeOf3 rfl rfl)) rfl ?_
         refine tk 32 rfl Ψ Υ (gyes rfl rfl rfl rfl) (TTat (List.Mem.tail _ (List.Mem.tail _ (List.Mem.tail _ (List.Mem.tail _ (List.Mem.tail _ (List.Mem.tail _ (List.Mem.tail _ (List.Mem.tail _ (List.Mem.head _)))))))))) (gpu (p_ld isAgg3 rfl)) rfl ?_
         refine u_ 33 1 ?_
         refine tk 34 rfl Ψ Υ (gyes rfl rfl rfl rfl) (TTat (List.Mem.tail _ (List.Mem.tail _ (List.Mem.tail _ (List.Mem.tail _ (List.Mem.tail _ (List.Mem.tail _ (List.Mem.tail _ (List.Mem.tail _ (List.Mem.tail _ (List.Mem.head _))))))))))) (gpu (p_ld isAgg28 rfl)) rfl ?_
         refine u_ 35 2 ?_
         refine tk 37 rfl Ψ Υ (gyes rfl rfl rfl rfl) (TTany _) (gpu (p_ia (k - 1) hAq (by omega) (by omega) underlying28 sizeOf3 rfl rfl)) rfl ?_
         refine tk 38 rfl Ψ Υ (gyes rfl rfl rfl rfl) (TTat (List.Mem.tail _ (List.Mem.tail _ (List.Mem.tail _ (List.Mem.tail _ (List.Mem.tail _ (List.Mem.tail _ (List.Mem.tail _ (List.Mem.tail _ (List.Mem.tail _ (List.Mem.tail _ (List.Mem.head _)))))))))))) (gpu (p_ld isAgg3 rfl)) rfl ?_
         refine u_ 39 1 ?_
         rw [show decide (p.deps[k] ≤ la) = true from decide_eq_true g5]
         refine u_ 40 2 ?_
         refine dn Ψ ?_
         refine k_ 1 ?_
         refine cc rfl (fun h => ?_) (fun h => by cases h)
         refine k_ 7 ?_
         refine rret (is := []) () (Or.inl rfl) (Res.t rfl Res.d) ?_ rfl Ω
         simp only [packV]; rw [right_f3 (by rw [hkk]; grind)]
        ·
         have hk2 := hs g4
         refine elC Θ (k - 1) (hk2) ?_; rintro zbq zoq zyq hAq
         refine elC Θ k (List.getElem?_eq_getElem (l := p.deps) hk1) ?_; rintro zbp zop zyp hAp
         refine cd [] [(1, b1, 2, _), (4, zbp, zop + k * Rp.size Int, _), (8, b1, 2, _), (11, zbp, zop + k * Rp.size Int, _), (16, b1, 2, _), (19, zbp, zop + k * Rp.size Int, _), (21, b1, 0, _), (29, b1, 2, _), (32, zbp, zop + k * Rp.size Int, _), (34, b1, 2, _), (38, zbq, zoq + (k - 1) * Rp.size Int, _)] TryzX.mixed (TOk.t (isBoxS Θ (k := 1) Δ) (TOk.t (isInS Θ (k := 0) rfl (z := 1) Δ) (TOk.t (isBoxS Θ (k := 1) Δ) (TOk.t (isInS Θ (k := 0) rfl (z := 1) Δ) (TOk.t (isBoxS Θ (k := 1) Δ) (TOk.t (isInS Θ (k := 0) rfl (z := 1) Δ) (TOk.t (isBoxS Θ (k := 1) Δ) (TOk.t (isBoxS Θ (k := 1) Δ) (TOk.t (isInS Θ (k := 0) rfl (z := 1) Δ) (TOk.t (isBoxS Θ (k := 1) Δ) (TOk.t (isInS Θ (k := 0) rfl (z := 1) Δ) TOk.d))))))))))) ?_
         refine u_ 0 3 ?_
         refine tk 3 rfl Ψ Υ gnone (TTany _) (p_ia k hAp hk1 rfl underlying28 sizeOf3 rfl rfl) rfl ?_
         refine u_ 4 2 ?_
         rw [show decide (p.deps[k] < 1) = false from decide_eq_false g1]
         refine u_ 6 2 ?_
         refine tk 8 rfl Ψ Υ (gyes rfl rfl rfl rfl) (TTat (List.Mem.tail _ (List.Mem.tail _ (List.Mem.head _)))) (gpu (p_ld isAgg28 rfl)) rfl ?_
         refine u_ 9 1 ?_
         refine tk 10 rfl Ψ Υ (gyes rfl rfl rfl rfl) (TTany _) (gpu (p_ia k hAp hk1 rfl underlying28 sizeOf3 rfl rfl)) rfl ?_
         refine tk 11 rfl Ψ Υ (gyes rfl rfl rfl rfl) (TTat (List.Mem.tail _ (List.Mem.tail _ (List.Mem.tail _ (List.Mem.head _))))) (gpu (p_ld isAgg3 rfl)) rfl ?_
         refine u_ 12 1 ?_
         rw [show decide ((1000000000 : Int) < p.deps[k]) = false from decide_eq_false g2]
         refine u_ 13 3 ?_
         refine tk 16 rfl Ψ Υ (gyes rfl rfl rfl rfl) (TTat (List.Mem.tail _ (List.Mem.tail _ (List.Mem.tail _ (List.Mem.tail _ (List.Mem.head _)))))) (gpu (p_ld isAgg28 rfl)) rfl ?_
         refine u_ 17 1 ?_
         refine tk 18 rfl Ψ Υ (gyes rfl rfl rfl rfl) (TTany _) (gpu (p_ia k hAp hk1 rfl underlying28 sizeOf3 rfl rfl)) rfl ?_
         refine tk 19 rfl Ψ Υ (gyes rfl rfl rfl rfl) (TTat (List.Mem.tail _ (List.Mem.tail _ (List.Mem.tail _ (List.Mem.tail _ (List.Mem.tail _ (List.Mem.head _))))))) (gpu (p_ld isAgg3 rfl)) rfl ?_
         refine u_ 20 1 ?_
         refine tk 21 rfl Ψ Υ (gyes rfl rfl rfl rfl) (TTat (List.Mem.tail _ (List.Mem.tail _ (List.Mem.tail _ (List.Mem.tail _ (List.Mem.tail _ (List.Mem.tail _ (List.Mem.head _)))))))) (gpu (p_ld isAgg3 rfl)) rfl ?_
         refine u_ 22 1 ?_
         rw [show decide (p.deps[k] = p.id) = false from decide_eq_false g3]
         refine u_ 23 4 ?_
         rw [show decide ((0 : Int) < (k : Int)) = true from decide_eq_true (by omega)]
         refine u_ 27 2 ?_
         refine tk 29 rfl Ψ Υ (gyes rfl rfl rfl rfl) (TTat (List.Mem.tail _ (List.Mem.tail _ (List.Mem.tail _ (List.Mem.tail _ (List.Mem.tail _ (List.Mem.tail _ (List.Mem.tail _ (List.Mem.head _))))))))) (gpu (p_ld isAgg28 rfl)) rfl ?_
         refine u_ 30 1 ?_
         refine tk 31 rfl Ψ Υ (gyes rfl rfl rfl rfl) (TTany _) (gpu (p_ia k hAp hk1 rfl underlying28 sizeOf3 rfl rfl)) rfl ?_
         refine tk 32 rfl Ψ Υ (gyes rfl rfl rfl rfl) (TTat (List.Mem.tail _ (List.Mem.tail _ (List.Mem.tail _ (List.Mem.tail _ (List.Mem.tail _ (List.Mem.tail _ (List.Mem.tail _ (List.Mem.tail _ (List.Mem.head _)))))))))) (gpu (p_ld isAgg3 rfl)) rfl ?_
         refine u_ 33 1 ?_
         refine tk 34 rfl Ψ Υ (gyes rfl rfl rfl rfl) (TTat (List.Mem.tail _ (List.Mem.tail _ (List.Mem.tail _ (List.Mem.tail _ (List.Mem.tail _ (List.Mem.tail _ (List.Mem.tail _ (List.Mem.tail _ (List.Mem.tail _ (List.Mem.head _))))))))))) (gpu (p_ld isAgg28 rfl)) rfl ?_
         refine u_ 35 2 ?_
         refine tk 37 rfl Ψ Υ (gyes rfl rfl rfl rfl) (TTany _) (gpu (p_ia (k - 1) hAq (by omega) (by omega) underlying28 sizeOf3 rfl rfl)) rfl ?_
         refine tk 38 rfl Ψ Υ (gyes rfl rfl rfl rfl) (TTat (List.Mem.tail _ (List.Mem.tail _ (List.Mem.tail _ (List.Mem.tail _ (List.Mem.tail _ (List.Mem.tail _ (List.Mem.tail _ (List.Mem.tail _ (List.Mem.tail _ (List.Mem.tail _ (List.Mem.head _)))))))))))) (gpu (p_ld isAgg3 rfl)) rfl ?_
         refine u_ 39 1 ?_
         rw [show decide (p.deps[k] ≤ la) = false from decide_eq_false g5]
         refine u_ 40 2 ?_
         refine dn Ψ ?_
         refine k_ 1 ?_
         refine cc rfl (fun h => by cases h) (fun h => ?_)
         refine k_ 8 ?_
         refine nnext ⟨(k + 1, p.deps[k]), hk1, by rw [hkk]; grind, by dsimp only; omega, fun h => by simp at h, fun _ => List.getElem?_eq_getElem hk1⟩ (by dsimp only; omega) (wk0 Φ Ω)
       ·
        intro h40
        dsimp only at hk hkk hz hz0 hs
        try simp only [nrmZ] at h40
        refine k_ 9 ?_
        refine lC [] call116 (c_ref5Right p.l _ _ hp.ll hp.lf) ?_; intro x87
        refine k_ 5 ?_
        refine rret (is := []) () (Or.inl rfl) (Res.t rfl Res.d) ?_ rfl Ω
        simp only [packV]; rw [right_g2 h35 (by rw [hkk, List.drop_eq_nil_of_le (by omega)]; rfl)]
set_option maxRecDepth 100000 in
theorem c_rOn (p : Patch) (y : Rp.Lay Patch) (hp : p.fit) (v : Int) : Con Tryz.prog 117 [sv p y, .int .i64 v] [] [slA y.1.1 p.deps, slA y.2.1 p.l, capA y.2.2 p.l.length] Unit (fun _ => .bool (p.deps.any fun s => decide (s = v))) (fun _ => []) (fun _ => []) := by
 refine con func117 rfl ntmps117 rfl ?_
 intro M0 F0 w0
 refine k_ 2 ?_
 refine ls (o_box rfl rfl rfl) ?_
 refine le ?_; intro b2
 refine k_ 5 ?_
 have hdl := hp.dl
 refine k_ 5 ?_
 refine cl (ι := {k : Nat // k ≤ p.deps.length ∧ ((p.deps.take k).any fun s => decide (s = v)) = false}) (fun i => St M0 F0 w0 20 [(1, .int .i64 v), (2, .pointer (some ⟨b2, 0, none⟩)), (5, .int .i64 (i.1 : Int))] [box b2 31 (Rp.enc p y)] [slA y.1.1 p.deps, slA y.2.1 p.l, capA y.2.2 p.l.length]) (fun i => p.deps.length - i.1) ⟨0, by simp⟩ (wk0 Φ Ω) ?_
 rintro ⟨k, hk, hkk⟩
 refine cmono (S' := St M0 F0 w0 20 [(1, .int .i64 v), (2, .pointer (some ⟨b2, 0, none⟩)), (5, .int .i64 (k : Int))] [box b2 31 (Rp.enc p y)] [slA y.1.1 p.deps, slA y.2.1 p.l, capA y.2.2 p.l.length]) Ħ ?_
 refine k_ 10 ?_
 refine cc rfl ?_ ?_
 ·
  intro h10
  try simp only [nrmZ] at h10
  have hk1 : k < p.deps.length := by omega
  refine k_ 5 ?_
  refine elC Θ k (List.getElem?_eq_getElem (l := p.deps) hk1) ?_; rintro zbp zop zyp hAp
  refine k_ 4 ?_
  refine ls (op (p_ia k hAp hk1 rfl underlying28 sizeOf3 rfl rfl) rfl) ?_
  refine ls (o_ldi isAgg3 rfl Θ 0 rfl Δ rfl) ?_
  refine k_ 4 ?_
  refine cc rfl ?_ ?_
  ·
   intro h19
   try simp only [nrmZ] at h19
   refine k_ 7 ?_
   refine rret (is := []) () (Or.inl rfl) (Res.t rfl Res.d) ?_ rfl Ω
   simp only [packV]; congr 1; symm; rw [List.any_eq_true]; exact ⟨_, List.getElem_mem hk1, by simp [h19]⟩
  ·
   intro h19
   try simp only [nrmZ] at h19
   refine k_ 8 ?_
   refine nnext ⟨k + 1, hk1, by rw [List.take_succ_eq_append_getElem hk1, List.any_append, hkk]; simp [h19]⟩ (by dsimp only; omega) (wk0 Φ Ω)
 ·
  intro h10
  try simp only [nrmZ] at h10
  refine k_ 12 ?_
  refine rret (is := []) () (Or.inl rfl) (Res.t rfl Res.d) ?_ rfl Ω
  simp only [packV]; rw [List.take_of_length_le (by omega)] at hkk; rw [hkk]
set_option maxRecDepth 100000 in
theorem c_rSame (p q : Patch) (yp yq : Rp.Lay Patch) (hp : p.fit) (hq : q.fit) : Con Tryz.prog 28 [sv p yp, sv q yq] [] [slA yp.1.1 p.deps, slA yp.2.1 p.l, capA yp.2.2 p.l.length, slA yq.1.1 q.deps, slA yq.2.1 q.l, capA yq.2.2 q.l.length] Unit (fun _ => .bool (decide (p = q))) (fun _ => []) (fun _ => []) := by
 refine con func28 rfl ntmps28 rfl ?_
 intro M0 F0 w0
 refine k_ 2 ?_
 refine ls (o_box rfl rfl rfl) ?_
 refine le ?_; intro b2
 refine ls (o_box rfl rfl rfl) ?_
 refine le ?_; intro b3
 refine k_ 5 ?_
 have hdl := hp.dl
 refine k_ 7 ?_
 refine orX 6 11 17 rfl (sL [0, 1, 2, 3, 4]) ?_ ?_
 ·
  intro h11
  refine k_ 6 ?_
  refine ln (nmid (wk0 Φ Ω))
 apply exI
 ·
  intro h11
  refine k_ 6 ?_
  refine ln (nmid (wk0 Φ Ω))
 ·
  refine k_ 1 ?_
  refine orX 8 18 26 rfl (sL [0, 1, 2, 3, 4]) ?_ ?_
  ·
   intro h18
   refine k_ 8 ?_
   refine ln (nmid (wk0 Φ Ω))
  apply exI
  ·
   intro h18
   refine k_ 8 ?_
   refine ln (nmid (wk0 Φ Ω))
  ·
   refine k_ 2 ?_
   refine cc rfl ?_ ?_
   ·
    intro h26
    try simp only [nrmZ] at h26
    refine k_ 7 ?_
    refine rret (is := []) () (Or.inl rfl) (Res.t rfl Res.d) ?_ rfl Ω
    simp only [packV]; rw [decide_eq_false (rsame_t h26)]
   ·
    intro h26
    try simp only [nrmZ] at h26
    refine k_ 9 ?_
    refine cl (ι := {k : Nat // k ≤ p.deps.length ∧ p.deps.take k = q.deps.take k}) (fun i => St M0 F0 w0 50 [(2, .pointer (some ⟨b2, 0, none⟩)), (3, .pointer (some ⟨b3, 0, none⟩)), (5, .int .i64 (i.1 : Int))] [box b2 31 (Rp.enc p yp), box b3 31 (Rp.enc q yq)] [slA yp.1.1 p.deps, slA yp.2.1 p.l, capA yp.2.2 p.l.length, slA yq.1.1 q.deps, slA yq.2.1 q.l, capA yq.2.2 q.l.length]) (fun i => p.deps.length - i.1) ⟨0, by simp⟩ (wK [1, 0]) ?_
    rintro ⟨k, hk, hkk⟩
    refine cmono (S' := St M0 F0 w0 50 [(2, .pointer (some ⟨b2, 0, none⟩)), (3, .pointer (some ⟨b3, 0, none⟩)), (5, .int .i64 (k : Int))] [box b2 31 (Rp.enc p yp), box b3 31 (Rp.enc q yq)] [slA yp.1.1 p.deps, slA yp.2.1 p.l, capA yp.2.2 p.l.length, slA yq.1.1 q.deps, slA yq.2.1 q.l, capA yq.2.2 q.l.length]) Ħ ?_
    refine k_ 10 ?_
    refine cc rfl ?_ ?_
    ·
     intro h31
     try simp only [nrmZ] at h31
     have hsm := rsame_f h26
     have hk1 : k < p.deps.length := by omega
     have hk2 : k < q.deps.length := by omega
     refine k_ 5 ?_
     refine elC Θ k (List.getElem?_eq_getElem (l := p.deps) hk1) ?_; rintro zbp zop zyp hAp
     refine elC Θ k (List.getElem?_eq_getElem (l := q.deps) hk2) ?_; rintro zbq zoq zyq hAq
     refine cd [] [(1, b2, 2, _), (4, zbp, zop + k * Rp.size Int, _), (6, b3, 2, _), (9, zbq, zoq + k * Rp.size Int, _)] TryzX.mixed (TOk.t (isBoxS Θ (k := 1) Δ) (TOk.t (isInS Θ (k := 0) rfl (z := 1) Δ) (TOk.t (isBoxS Θ (k := 1) Δ) (TOk.t (isInS Θ (k := 0) rfl (z := 1) Δ) TOk.d)))) ?_
     refine u_ 0 3 ?_
     refine tk 3 rfl Ψ Υ gnone (TTany _) (p_ia k hAp hk1 rfl underlying28 sizeOf3 rfl rfl) rfl ?_
     refine u_ 4 4 ?_
     refine tk 8 rfl Ψ Υ gnone (TTany _) (p_ia k hAq hk2 rfl underlying28 sizeOf3 rfl rfl) rfl ?_
     refine u_ 9 2 ?_
     refine dn Ψ ?_
     refine k_ 1 ?_
     refine cc rfl ?_ ?_
     ·
      intro h44
      try simp only [nrmZ] at h44
      refine k_ 7 ?_
      refine rret (is := []) () (Or.inl rfl) (Res.t rfl Res.d) ?_ rfl Ω
      simp only [packV]; rw [decide_eq_false]; rintro rfl; exact h44 rfl
     ·
      intro h44
      try simp only [nrmZ] at h44
      refine k_ 8 ?_
      refine nnext ⟨k + 1, hk1, by rw [List.take_succ_eq_append_getElem hk1, List.take_succ_eq_append_getElem hk2, hkk, h44]⟩ (by dsimp only; omega) (wk0 Φ Ω)
    ·
     intro h31
     try simp only [nrmZ] at h31
     have hsm := rsame_f h26
     refine k_ 11 ?_
     refine lC [] call56 (c_refAllP p.l q.l _ _ _ _ hp.ll hp.lf) ?_; intro x49
     refine k_ 5 ?_
     refine rret (is := []) () (Or.inl rfl) (Res.t rfl Res.d) ?_ rfl Ω
     simp only [packV]; rw [← dec_patch, hsm.1, hsm.2.1]; have e : p.deps = q.deps := (by have h1 := List.take_of_length_le (l := p.deps) (i := k) (by omega); have h2 := List.take_of_length_le (l := q.deps) (i := k) (by omega); rw [h1, h2] at hkk; exact hkk); simp [e]
set_option maxRecDepth 100000 in
theorem c_rAll (l m : List Patch) (A B : Option Addr) (c c' : Nat) (hl : l.length ≤ 2000000) (hf : ∀ x ∈ l, x.fit) (hm : ∀ x ∈ m, x.fit) : Con Tryz.prog 15 [.slice A l.length c, .slice B m.length c'] [] [slA A l, slA B m] Unit (fun _ => .bool (decide (l = m))) (fun _ => []) (fun _ => []) := by
 refine con func15 rfl ntmps15 rfl ?_
 intro M0 F0 w0
 refine k_ 15 ?_
 refine cc rfl ?_ ?_
 ·
  intro h10
  try simp only [nrmZ] at h10
  refine k_ 7 ?_
  refine rret (is := []) () (Or.inl rfl) (Res.t rfl Res.d) ?_ rfl Ω
  simp [packV]; intro e; rw [e] at h10; exact h10 rfl
 ·
  intro h10
  try simp only [nrmZ] at h10
  refine k_ 9 ?_
  refine cl (ι := {k : Nat // k ≤ l.length ∧ l.take k = m.take k}) (fun i => St M0 F0 w0 27 [(0, .slice A l.length c), (1, .slice B m.length c'), (5, .int .i64 (i.1 : Int))] [] [slA A l, slA B m]) (fun i => l.length - i.1) ⟨0, by simp⟩ (wk0 Φ Ω) ?_
  rintro ⟨k, hk, hkk⟩
  refine cmono (S' := St M0 F0 w0 27 [(0, .slice A l.length c), (1, .slice B m.length c'), (5, .int .i64 (k : Int))] [] [slA A l, slA B m]) Ħ ?_
  refine k_ 9 ?_
  refine cc rfl ?_ ?_
  ·
   intro h14
   try simp only [nrmZ] at h14
   have hk1 : k < l.length := by omega
   have hk2 : k < m.length := by omega
   refine k_ 5 ?_
   refine elC Θ k (List.getElem?_eq_getElem (l := l) hk1) ?_; rintro zbp zop zyp hAp
   refine elC Θ k (List.getElem?_eq_getElem (l := m) hk2) ?_; rintro zbq zoq zyq hAq
   refine cd [8] [(3, zbp, zop + k * Rp.size Patch, _), (7, zbq, zoq + k * Rp.size Patch, _)] TryzX.mixed (TOk.t (isInS Θ (k := 0) rfl (z := 4) Δ) (TOk.t (isInS Θ (k := 0) rfl (z := 4) Δ) TOk.d)) ?_
   refine u_ 0 2 ?_
   refine tk 2 rfl Ψ Υ gnone (TTany _) (p_ia k hAp hk1 rfl underlying27 sizeOf31 rfl rfl) rfl ?_
   refine u_ 3 3 ?_
   refine tk 6 rfl Ψ Υ gnone (TTany _) (p_ia k hAq hk2 rfl underlying27 sizeOf31 rfl rfl) rfl ?_
   refine u_ 7 1 ?_
   refine df 8 Ψ ?_
   refine doR rfl (o_call (is := []) call28 (c_rSame l[k] m[k] zyp zyq (hf _ (List.getElem_mem hk1)) (hm _ (List.getElem_mem hk2))) rfl rfl Ω rfl) tX ?_
   refine ea ?_; intro x25
   refine u_ 9 1 ?_
   refine dn Ψ ?_
   refine k_ 1 ?_
   refine cc rfl ?_ ?_
   ·
    intro h26
    try simp only [nrmZ] at h26
    refine k_ 7 ?_
    refine rret (is := []) () (Or.inl rfl) (Res.t rfl Res.d) ?_ rfl Ω
    simp [packV]; rintro rfl; exact h26 rfl
   ·
    intro h26
    try simp only [nrmZ] at h26
    refine k_ 8 ?_
    refine nnext ⟨k + 1, hk1, by rw [List.take_succ_eq_append_getElem hk1, List.take_succ_eq_append_getElem hk2, hkk, h26]⟩ (by dsimp only; omega) (wK [])
  ·
   intro h14
   try simp only [nrmZ] at h14
   refine k_ 12 ?_
   refine rret (is := []) () (Or.inl rfl) (Res.t rfl Res.d) ?_ rfl Ω
   simp [packV]; have := List.take_of_length_le (l := l) (i := k) (by omega); have := List.take_of_length_le (l := m) (i := k) (by omega); simp_all
end Go.Proofs.YtppjcjlijmldiaaGreatDoor.X
end
section
set_option linter.unusedVariables false
set_option linter.unusedSimpArgs false
namespace Go.Proofs.YtppjcjlijmldiaaGreatDoor.X
open Go Go.RowKit Go.Proofs Go.Sx
open Tryz
attribute [local irreducible] slA isA box row TrL TrC TrN TrA Pu OpR
set_option maxHeartbeats 8000000
abbrev PTwo (f : Patch × Patch × Bool) := { x : (Patch × Patch × Bool) × (Rp.Lay Patch × Rp.Lay Patch) // x.1 = f }
def PTwo.v {f} (x : PTwo f) : Value := .tuple #[sv x.1.1.1 x.1.2.1, sv x.1.1.2.1 x.1.2.2, .bool x.1.1.2.2]
def PTwo.g {f} (x : PTwo f) : List Asn := [slA x.1.2.1.1.1 x.1.1.1.deps, slA x.1.2.1.2.1 x.1.1.1.l, capA x.1.2.1.2.2 x.1.1.1.l.length, slA x.1.2.2.1.1 x.1.1.2.1.deps, slA x.1.2.2.2.1 x.1.1.2.1.l, capA x.1.2.2.2.2 x.1.1.2.1.l.length]
theorem may_t {p q : Patch} (h : (!p.right || !q.right || decide (p.id = q.id) || (q.deps.any fun s => decide (s = p.id)) || (p.deps.any fun s => decide (s = q.id))) = true) : pswap p q = (Patch.zero, Patch.zero, false) := by
 have : pmay p q = false := by
  unfold pmay
  rw [Bool.eq_false_iff]; intro e
  simp only [Bool.and_eq_true, Bool.not_eq_true'] at e
  obtain ⟨⟨⟨⟨e1, e2⟩, e3⟩, e4⟩, e5⟩ := e
  rw [e1, e2, e3, e4, e5] at h
  simp at h
 unfold pswap
 rw [this]; simp
theorem may_f {p q : Patch} (h : (!p.right || !q.right || decide (p.id = q.id) || (q.deps.any fun s => decide (s = p.id)) || (p.deps.any fun s => decide (s = q.id))) = false) : pmay p q = true := by
 unfold pmay
 simp only [Bool.or_eq_false_iff, Bool.not_eq_false'] at h
 obtain ⟨⟨⟨⟨e1, e2⟩, e3⟩, e4⟩, e5⟩ := h
 rw [e1, e2, e3, e4, e5]; rfl
theorem may_t' {p q : Patch} (h : (!p.right || !q.right || decide (p.id = q.id) || (p.deps.any fun s => decide (s = q.id)) || (q.deps.any fun s => decide (s = p.id))) = true) : pswap p q = (Patch.zero, Patch.zero, false) := may_t (by
 rw [← h]; cases p.right <;> cases q.right <;> cases decide (p.id = q.id) <;> cases (p.deps.any fun s => decide (s = q.id)) <;> cases (q.deps.any fun s => decide (s = p.id)) <;> rfl)
theorem may_f' {p q : Patch} (h : (!p.right || !q.right || decide (p.id = q.id) || (p.deps.any fun s => decide (s = q.id)) || (q.deps.any fun s => decide (s = p.id))) = false) : pmay p q = true := may_f (by
 rw [← h]; cases p.right <;> cases q.right <;> cases decide (p.id = q.id) <;> cases (p.deps.any fun s => decide (s = q.id)) <;> cases (q.deps.any fun s => decide (s = p.id)) <;> rfl)
theorem pswap_f {p q : Patch} {f s : List Prim} (h : (f, s, false) = swT p.l q.l) : pswap p q = (Patch.zero, Patch.zero, false) := by
 unfold pswap; rw [← h]; simp
theorem pswap_t {p q : Patch} {f s : List Prim} (hm : pmay p q = true) (h : (f, s, true) = swT p.l q.l) : pswap p q = ({ q with l := f }, { p with l := s }, true) := by
 unfold pswap; rw [← h, hm]; simp
theorem may_ne {p q : Patch} (h : pmay p q = true) : p.l ≠ [] ∧ q.l ≠ [] := by
 unfold pmay at h
 simp only [Bool.and_eq_true] at h
 obtain ⟨⟨⟨⟨e1, e2⟩, _⟩, _⟩, _⟩ := h
 unfold Patch.right at e1 e2
 simp only [Bool.and_eq_true, decide_eq_true_eq] at e1 e2
 constructor
 ·
  intro e; rw [e] at e1; simp at e1
 ·
  intro e; rw [e] at e2; simp at e2
theorem pswap_fit2 {p q a b : Patch} {c : Bool} (h : (a, b, c) = pswap p q) (hp : p.fit) (hq : q.fit) : a.fit ∧ b.fit := by
 have e := pswap_fit hp hq
 rw [← h] at e
 exact e
theorem rep_set {k j : Nat} {rest : List Patch} {b : Patch} {n : Nat} (hk : k + j + 1 = n) : (List.replicate (n - j) Patch.zero ++ rest).set k b = List.replicate (n - (j + 1)) Patch.zero ++ (b :: rest) := by
 rw [show n - j = k + 1 by omega, show n - (j + 1) = k by omega, List.replicate_succ', List.append_assoc, List.singleton_append]
 rw [List.set_append_right _ _ (by simp)]
 simp
theorem inf55 : (Tryz.prog.info? 55).map (fun i => (i.zero, i.size, i.bytes)) = some (some (.agg #[.int .i64 0, .string ⟨#[]⟩, .slice none 0 0, .slice none 0 0]), 4, 72) := by kernel_rfl
set_option maxRecDepth 100000 in
theorem c_nSwap (p q : Patch) (yp yq : Rp.Lay Patch) (hp : p.fit) (hq : q.fit) : Con Tryz.prog 69 [sv p yp, sv q yq] [] [slA yp.1.1 p.deps, slA yp.2.1 p.l, capA yp.2.2 p.l.length, slA yq.1.1 q.deps, slA yq.2.1 q.l, capA yq.2.2 q.l.length] (PTwo (pswap p q)) (fun x => x.v) (fun _ => []) (fun x => x.g) := by
 refine con func69 rfl ntmps69 rfl ?_
 intro M0 F0 w0
 refine k_ 2 ?_
 refine ls (o_box rfl rfl rfl) ?_
 refine le ?_; intro b2
 refine ls (o_box rfl rfl rfl) ?_
 refine le ?_; intro b3
 refine ls (o_alloc zeroValue55 rfl rfl) ?_
 refine le ?_; intro b4
 refine ls (o_alloc zeroValue55 rfl rfl) ?_
 refine le ?_; intro b5
 refine k_ 6 ?_
 refine ls (o_ldw isAgg55 sizeOf55 rfl Θ (by rfl) rfl) ?_
 refine lC [] call77 (c_nRight p yp hp) ?_; intro x10
 refine k_ 2 ?_
 refine orX 4 12 16 rfl (sL [0, 1, 2, 3, 4, 5, 6]) ?_ ?_
 ·
  intro h12
  refine k_ 4 ?_
  refine ln (nmid (wk0 Φ Ω))
 apply exI
 ·
  intro h12
  refine lwant rfl rfl rfl rfl (o_ldw isAgg55 sizeOf55 rfl Θ (by rfl) rfl) ?_
  refine lwant rfl rfl rfl rfl (o_call (is := []) call77 (c_nRight q yq hq) rfl rfl Ω rfl) ?_
  refine le ?_; intro x14
  refine k_ 2 ?_
  refine ln (nmid (wk0 Φ Ω))
 ·
  refine k_ 1 ?_
  refine orX 6 17 23 rfl (sL [0, 1, 2, 3, 4, 5, 6]) ?_ ?_
  ·
   intro h17
   refine k_ 6 ?_
   refine ln (nmid (wk0 Φ Ω))
  apply exI
  ·
   intro h17
   refine k_ 6 ?_
   refine ln (nmid (wk0 Φ Ω))
  ·
   refine k_ 1 ?_
   refine orX 6 24 30 rfl (sL [0, 1, 2, 3, 4, 5, 6]) ?_ ?_
   ·
    intro h24
    refine k_ 6 ?_
    refine ln (nmid (wk0 Φ Ω))
   apply exI
   ·
    intro h24
    refine k_ 4 ?_
    refine lwant rfl rfl rfl rfl (o_call (is := []) call101 (c_ContainsI q.deps _ _ hq.dl p.id) rfl rfl Ω rfl) ?_
    refine le ?_; intro x29
    refine k_ 1 ?_
    refine ln (nmid (wk0 Φ Ω))
   ·
    refine k_ 1 ?_
    refine orX 6 31 37 rfl (sL [0, 1, 2, 3, 4, 5, 6]) ?_ ?_
    ·
     intro h31
     refine k_ 6 ?_
     refine ln (nmid (wk0 Φ Ω))
    apply exI
    ·
     intro h31
     refine k_ 4 ?_
     refine lwant rfl rfl rfl rfl (o_call (is := []) call101 (c_ContainsI p.deps _ _ hp.dl q.id) rfl rfl Ω rfl) ?_
     refine le ?_; intro x36
     refine k_ 1 ?_
     refine ln (nmid (wk0 Φ Ω))
    ·
     refine k_ 2 ?_
     refine cc rfl ?_ ?_
     ·
      intro h37
      try simp only [nrmZ] at h37
      refine cs ?_
      refine cmono (fun a w h => nilC (α := Prim) h) ?_
      refine cmono (fun a w h => nilSl (α := Int) h) ?_
      refine k_ 10 ?_
      refine rret (is := []) ⟨((Patch.zero, Patch.zero, false), (((none, 0), (none, 0)), ((none, 0), (none, 0)))), by rw [may_t h37]⟩ (Or.inl rfl) (Res.c rfl isAgg55 sizeOf55 Θ (by rfl) (Res.c rfl isAgg55 sizeOf55 Θ (by rfl) (Res.t rfl Res.d))) (rfl) rfl Ω
     ·
      intro h37
      try simp only [nrmZ] at h37
      refine k_ 8 ?_
      refine lC [] call102 (c_seqSwap p.l q.l _ _ _ _ hp.ll hq.ll hp.lf hq.lf) ?_; rintro ⟨⟨⟨f, s, b3⟩, ⟨ya, yb⟩⟩, hr⟩
      dsimp only at hr
      refine k_ 16 ?_
      refine cc rfl ?_ ?_
      ·
       intro h50
       obtain rfl : false = b3 := by cases b3 <;> first | rfl | (simp at h50)
       refine cs ?_
       refine cmono (fun a w h => nilC (α := Prim) h) ?_
       refine cmono (fun a w h => nilSl (α := Int) h) ?_
       refine k_ 10 ?_
       refine rret (is := []) ⟨((Patch.zero, Patch.zero, false), (((none, 0), (none, 0)), ((none, 0), (none, 0)))), by rw [pswap_f hr]⟩ (Or.inl rfl) (Res.c rfl isAgg55 sizeOf55 Θ (by rfl) (Res.c rfl isAgg55 sizeOf55 Θ (by rfl) (Res.t rfl Res.d))) (rfl) rfl Ω
      ·
       intro h50
       obtain rfl : true = b3 := by cases b3 <;> first | rfl | (simp at h50)
       have hok := swT_ok hr hp.lf hq.lf
       have hfl := hok.1; have hsl := hok.2.1; have hpl := hp.ll; have hql := hq.ll
       refine k_ 3 ?_
       refine cd [2, 5, 6, 7] [(0, b3, 0, _), (3, b2, 0, _)] TryzX.mixed (TOk.t (isBoxS Θ (k := 4) Δ) (TOk.t (isBoxS Θ (k := 4) Δ) TOk.d)) ?_
       refine u_ 0 2 ?_
       refine u_ 3 2 ?_
       refine df 2 Ψ ?_
       refine doR rfl (o_call (is := []) call83 (c_with q yq hq f ya.1 ya.2 (by omega) hok.2.2.1) rfl rfl Ω rfl) (TOk.x Ψ (TOk.t (isBoxE fun _ => isBoxS Θ (k := 4) Δ) TOk.d)) ?_
       refine ea ?_; intro y55
       refine df 5 Ψ ?_
       refine doR rfl (o_call (is := []) call83 (c_with p yp hp s yb.1 yb.2 (by omega) hok.2.2.2) rfl rfl Ω rfl) tX ?_
       refine ea ?_; intro y58
       refine df 6 Ψ ?_
       refine doR rfl (o_st rfl sizeOf55 rfl rfl rfl rfl rfl Θ Θ Θ) tX ?_
       refine df 7 Ψ ?_
       refine doR rfl (o_st rfl sizeOf55 rfl rfl rfl rfl rfl Θ Θ Θ) tX ?_
       refine u_ 8 1 ?_
       refine dn Ψ ?_
       refine k_ 3 ?_
       refine rret (is := []) ⟨(({ q with l := f }, { p with l := s }, true), (y55, y58)), by rw [pswap_t (may_f h37) hr]⟩ (Or.inl rfl) (Res.c rfl isAgg55 sizeOf55 Θ (by rfl) (Res.c rfl isAgg55 sizeOf55 Θ (by rfl) (Res.t rfl Res.d))) (rfl) rfl Ω
set_option maxRecDepth 100000 in
theorem c_rSwap (p q : Patch) (yp yq : Rp.Lay Patch) (hp : p.fit) (hq : q.fit) : Con Tryz.prog 81 [sv p yp, sv q yq] [] [slA yp.1.1 p.deps, slA yp.2.1 p.l, capA yp.2.2 p.l.length, slA yq.1.1 q.deps, slA yq.2.1 q.l, capA yq.2.2 q.l.length] (PTwo (pswap p q)) (fun x => x.v) (fun _ => []) (fun x => x.g) := by
 refine con func81 rfl ntmps81 rfl ?_
 intro M0 F0 w0
 refine k_ 2 ?_
 refine ls (o_box rfl rfl rfl) ?_
 refine le ?_; intro b2
 refine ls (o_box rfl rfl rfl) ?_
 refine le ?_; intro b3
 refine ls (o_alloc zeroValue31 rfl rfl) ?_
 refine le ?_; intro b4
 refine ls (o_alloc zeroValue31 rfl rfl) ?_
 refine le ?_; intro b5
 refine k_ 6 ?_
 refine ls (o_ldw isAgg31 sizeOf31 rfl Θ (by rfl) rfl) ?_
 refine lC [] call80 (c_rRight p yp hp) ?_; intro x11
 refine k_ 2 ?_
 refine orX 4 13 17 rfl (sL [0, 1, 2, 3, 4, 5, 6]) ?_ ?_
 ·
  intro h13
  refine k_ 4 ?_
  refine ln (nmid (wk0 Φ Ω))
 apply exI
 ·
  intro h13
  refine lwant rfl rfl rfl rfl (o_ldw isAgg31 sizeOf31 rfl Θ (by rfl) rfl) ?_
  refine lwant rfl rfl rfl rfl (o_call (is := []) call80 (c_rRight q yq hq) rfl rfl Ω rfl) ?_
  refine le ?_; intro x15
  refine k_ 2 ?_
  refine ln (nmid (wk0 Φ Ω))
 ·
  refine k_ 1 ?_
  refine orX 6 18 24 rfl (sL [0, 1, 2, 3, 4, 5, 6]) ?_ ?_
  ·
   intro h18
   refine k_ 6 ?_
   refine ln (nmid (wk0 Φ Ω))
  apply exI
  ·
   intro h18
   refine k_ 6 ?_
   refine ln (nmid (wk0 Φ Ω))
  ·
   refine k_ 1 ?_
   refine orX 5 25 30 rfl (sL [0, 1, 2, 3, 4, 5, 6]) ?_ ?_
   ·
    intro h25
    refine k_ 5 ?_
    refine ln (nmid (wk0 Φ Ω))
   apply exI
   ·
    intro h25
    refine lwant rfl rfl rfl rfl (o_ldw isAgg31 sizeOf31 rfl Θ (by rfl) rfl) ?_
    refine k_ 2 ?_
    refine lwant rfl rfl rfl rfl (o_call (is := []) call117 (c_rOn p yp hp q.id) rfl rfl Ω rfl) ?_
    refine le ?_; intro x29
    refine k_ 1 ?_
    refine ln (nmid (wk0 Φ Ω))
   ·
    refine k_ 1 ?_
    refine orX 5 31 36 rfl (sL [0, 1, 2, 3, 4, 5, 6]) ?_ ?_
    ·
     intro h31
     refine k_ 5 ?_
     refine ln (nmid (wk0 Φ Ω))
    apply exI
    ·
     intro h31
     refine lwant rfl rfl rfl rfl (o_ldw isAgg31 sizeOf31 rfl Θ (by rfl) rfl) ?_
     refine k_ 2 ?_
     refine lwant rfl rfl rfl rfl (o_call (is := []) call117 (c_rOn q yq hq p.id) rfl rfl Ω rfl) ?_
     refine le ?_; intro x35
     refine k_ 1 ?_
     refine ln (nmid (wk0 Φ Ω))
    ·
     refine k_ 2 ?_
     refine cc rfl ?_ ?_
     ·
      intro h36
      try simp only [nrmZ] at h36
      refine cs ?_
      refine cmono (fun a w h => nilC (α := Prim) h) ?_
      refine cmono (fun a w h => nilSl (α := Int) h) ?_
      refine k_ 10 ?_
      refine rret (is := []) ⟨((Patch.zero, Patch.zero, false), (((none, 0), (none, 0)), ((none, 0), (none, 0)))), by rw [may_t' h36]⟩ (Or.inl rfl) (Res.c rfl isAgg31 sizeOf31 Θ (by rfl) (Res.c rfl isAgg31 sizeOf31 Θ (by rfl) (Res.t rfl Res.d))) (rfl) rfl Ω
     ·
      intro h36
      try simp only [nrmZ] at h36
      refine k_ 3 ?_
      have hne := may_ne (may_f' h36)
      refine k_ 5 ?_
      refine lC [] call118 (c_ref5Swap p.l q.l _ _ _ _ hp.ll hq.ll (fun h => absurd h hne.1) (fun h => absurd h hne.2) hp.lf hq.lf) ?_; rintro ⟨⟨⟨f, s, b3⟩, ⟨ya, yb⟩⟩, hr⟩
      dsimp only at hr
      refine k_ 16 ?_
      refine cc rfl ?_ ?_
      ·
       intro h49
       obtain rfl : false = b3 := by cases b3 <;> first | rfl | (simp at h49)
       refine cs ?_
       refine cmono (fun a w h => nilC (α := Prim) h) ?_
       refine cmono (fun a w h => nilSl (α := Int) h) ?_
       refine k_ 10 ?_
       refine rret (is := []) ⟨((Patch.zero, Patch.zero, false), (((none, 0), (none, 0)), ((none, 0), (none, 0)))), by rw [pswap_f hr]⟩ (Or.inl rfl) (Res.c rfl isAgg31 sizeOf31 Θ (by rfl) (Res.c rfl isAgg31 sizeOf31 Θ (by rfl) (Res.t rfl Res.d))) (rfl) rfl Ω
      ·
       intro h49
       obtain rfl : true = b3 := by cases b3 <;> first | rfl | (simp at h49)
       refine k_ 3 ?_
       refine cd [16, 17] [(1, b3, 0, _), (3, b3, 1, _), (5, b3, 2, _), (9, b2, 0, _), (11, b2, 1, _), (13, b2, 2, _)] TryzX.mixed (TOk.t (isBoxS Θ (k := 1) Δ) (TOk.t (isBoxS Θ (k := 1) Δ) (TOk.t (isBoxS Θ (k := 1) Δ) (TOk.t (isBoxS Θ (k := 1) Δ) (TOk.t (isBoxS Θ (k := 1) Δ) (TOk.t (isBoxS Θ (k := 1) Δ) TOk.d)))))) ?_
       refine u_ 0 16 ?_
       refine df 16 Ψ ?_
       refine doR rfl (o_st rfl sizeOf31 rfl rfl rfl rfl rfl Θ Θ Θ) (TOk.x Ψ (TOk.x Ψ (TOk.x Ψ (TOk.t (isBoxS Θ (k := 1) Δ) (TOk.t (isBoxS Θ (k := 1) Δ) (TOk.t (isBoxS Θ (k := 1) Δ) TOk.d)))))) ?_
       refine df 17 Ψ ?_
       refine doR rfl (o_st rfl sizeOf31 rfl rfl rfl rfl rfl Θ Θ Θ) tX ?_
       refine u_ 18 1 ?_
       refine dn Ψ ?_
       refine k_ 3 ?_
       refine rret (is := []) ⟨(({ q with l := f }, { p with l := s }, true), ((yq.1, ya), (yp.1, yb))), by rw [pswap_t (may_f' h36) hr]⟩ (Or.inl rfl) (Res.c rfl isAgg31 sizeOf31 Θ (by rfl) (Res.c rfl isAgg31 sizeOf31 Θ (by rfl) (Res.t rfl Res.d))) (rfl) rfl Ω
set_option maxRecDepth 100000 in
theorem c_BackwardP (l : List Patch) (A : Option Addr) (c : Nat) : Con Tryz.prog 72 [.slice A l.length c] [] [] Nat (fun b => .func (.func 104) #[] #[.pointer (some ⟨b, 0, none⟩)]) (fun b => [box b 37 [.slice A l.length c]]) (fun _ => []) := by
 refine con func72 rfl ntmps72 rfl ?_
 intro M0 F0 w0
 refine k_ 2 ?_
 refine ls (o_box rfl rfl rfl) ?_
 refine le ?_; intro b1
 refine k_ 5 ?_
 refine ls (op (p_mkf rfl) rfl) ?_
 refine k_ 5 ?_
 exact rR [0] b1
set_option maxRecDepth 100000 in
theorem c_BackwardP1 (l : List Patch) (A : Option Addr) (c : Nat) (hl : l.length ≤ 2000000) (B : Nat) : Iter Tryz.prog 104 [.pointer (some ⟨B, 0, none⟩)] (fun x : {x : Nat × Rp.Lay Patch // x.1 < l.length} => [.int .i64 (x.1.1 : Int), sv (l[x.1.1]'x.2) x.1.2]) (fun x => Rp.asn (l[x.1.1]'x.2) x.1.2) (fun pre x => x.1.1 + pre.length + 1 = l.length) (fun xs => xs.length = l.length) [box B 37 [.slice A l.length c]] [slA A l] := by
 intro lp J Jx hY
 refine con func104 rfl ntmps104 rfl ?_
 intro M0 F0 w0
 refine k_ 9 ?_
 refine cl (ι := {q : List {x : Nat × Rp.Lay Patch // x.1 < l.length} × Int // q.1.length ≤ l.length ∧ q.2 = (l.length : Int) - 1 - (q.1.length : Int)}) (fun i => St M0 F0 w0 19 [(0, .func (.yield lp) #[] #[]), (1, .pointer (some ⟨B, 0, none⟩)), (3, .int .i64 i.1.2)] [J i.1.1, box B 37 [.slice A l.length c]] [slA A l]) (fun i => l.length - (i.1.1).length) ⟨([], (l.length : Int) - 1), Nat.zero_le _, by simp⟩ (wk0 Φ Ω) ?_
 rintro ⟨⟨pre, z⟩, hpre, hz⟩
 refine cmono (S' := St M0 F0 w0 19 [(0, .func (.yield lp) #[] #[]), (1, .pointer (some ⟨B, 0, none⟩)), (3, .int .i64 z)] [J pre, box B 37 [.slice A l.length c]] [slA A l]) Ħ ?_
 refine k_ 7 ?_
 refine cc rfl ?_ ?_
 ·
  intro h8
  dsimp only at hpre hz
  try simp only [nrmZ] at h8
  have hk1 : l.length - 1 - pre.length < l.length := by omega
  refine k_ 5 ?_
  refine elC Θ (l.length - 1 - pre.length) (List.getElem?_eq_getElem (l := l) hk1) ?_; rintro zbp zop zyp hAp
  refine k_ 5 ?_
  refine ls (op (p_ia (l.length - 1 - pre.length) hAp hk1 (by omega) underlying37 sizeOf55 rfl rfl) rfl) ?_
  refine ls (o_ldj isAgg55 sizeOf55 rfl Θ 0 rfl Δ rfl) ?_
  refine ls (o_yield (i := 0) rfl (by have := hY pre ⟨(l.length - 1 - pre.length, zyp), hk1⟩ (by dsimp only; omega); dsimp only at this; rw [show ((l.length - 1 - pre.length : Nat) : Int) = z by omega] at this; exact this) rfl rfl Ω rfl) ?_
  refine le ?_; intro bb
  refine k_ 3 ?_
  refine cc rfl ?_ ?_
  ·
   intro h18
   obtain rfl : false = bb := by cases bb <;> first | rfl | (simp at h18)
   refine k_ 2 ?_
   exact rR [0, 0] ⟨none, fun _ h => by cases h⟩
  ·
   intro h18
   obtain rfl : true = bb := by cases bb <;> first | rfl | (simp at h18)
   refine k_ 8 ?_
   refine nnext ⟨(pre ++ [⟨(l.length - 1 - pre.length, zyp), hk1⟩], z - 1), by simp; omega, by simp; omega⟩ (by simp; omega) (wK [0, 0])
 ·
  intro h8
  dsimp only at hpre hz
  try simp only [nrmZ] at h8
  refine k_ 4 ?_
  exact rR [0, 0] ⟨some pre, fun xs h => by cases h; omega⟩
set_option maxRecDepth 100000 in
theorem c_BackwardR1 (l : List Patch) (A : Option Addr) (c : Nat) (hl : l.length ≤ 2000000) (B : Nat) : Iter Tryz.prog 104 [.pointer (some ⟨B, 0, none⟩)] (fun x : {x : Nat × Rp.Lay Patch // x.1 < l.length} => [.int .i64 (x.1.1 : Int), sv (l[x.1.1]'x.2) x.1.2]) (fun x => Rp.asn (l[x.1.1]'x.2) x.1.2) (fun pre x => x.1.1 + pre.length + 1 = l.length) (fun xs => xs.length = l.length) [box B 37 [.slice A l.length c], row 55 A c l] [] := by
 intro lp J Jx hY
 refine con func104 rfl ntmps104 rfl ?_
 intro M0 F0 w0
 refine k_ 9 ?_
 refine cl (ι := {q : List {x : Nat × Rp.Lay Patch // x.1 < l.length} × Int // q.1.length ≤ l.length ∧ q.2 = (l.length : Int) - 1 - (q.1.length : Int)}) (fun i => St M0 F0 w0 19 [(0, .func (.yield lp) #[] #[]), (1, .pointer (some ⟨B, 0, none⟩)), (3, .int .i64 i.1.2)] [J i.1.1, box B 37 [.slice A l.length c], row 55 A c l] []) (fun i => l.length - (i.1.1).length) ⟨([], (l.length : Int) - 1), Nat.zero_le _, by simp⟩ (wk0 Φ Ω) ?_
 rintro ⟨⟨pre, z⟩, hpre, hz⟩
 refine cmono (S' := St M0 F0 w0 19 [(0, .func (.yield lp) #[] #[]), (1, .pointer (some ⟨B, 0, none⟩)), (3, .int .i64 z)] [J pre, box B 37 [.slice A l.length c], row 55 A c l] []) Ħ ?_
 refine k_ 7 ?_
 refine cc rfl ?_ ?_
 ·
  intro h8
  dsimp only at hpre hz
  try simp only [nrmZ] at h8
  have hk1 : l.length - 1 - pre.length < l.length := by omega
  refine k_ 5 ?_
  refine rowC Θ (fun e => absurd (show l.length = 0 by rw [e]; rfl) (by omega)) ?_; rintro g rfl
  refine k_ 5 ?_
  refine ls (op (p_ia (l.length - 1 - pre.length) rfl hk1 (by omega) underlying37 sizeOf55 rfl rfl) rfl) ?_
  refine ls (o_ldrow isAgg55 sizeOf55 rfl Θ (List.getElem?_eq_getElem hk1) rfl) ?_
  refine le ?_; intro zyp
  refine ls (o_yield (i := 0) rfl (by have := hY pre ⟨(l.length - 1 - pre.length, zyp), hk1⟩ (by dsimp only; omega); dsimp only at this; rw [show ((l.length - 1 - pre.length : Nat) : Int) = z by omega] at this; exact this) rfl rfl Ω rfl) ?_
  refine le ?_; intro bb
  refine k_ 3 ?_
  refine cc rfl ?_ ?_
  ·
   intro h18
   obtain rfl : false = bb := by cases bb <;> first | rfl | (simp at h18)
   refine k_ 2 ?_
   exact rR [0, 0, 0] ⟨none, fun _ h => by cases h⟩
  ·
   intro h18
   obtain rfl : true = bb := by cases bb <;> first | rfl | (simp at h18)
   refine k_ 8 ?_
   refine nnext ⟨(pre ++ [⟨(l.length - 1 - pre.length, zyp), hk1⟩], z - 1), by simp; omega, by simp; omega⟩ (by simp; omega) (wK [0, 0, 0])
 ·
  intro h8
  dsimp only at hpre hz
  try simp only [nrmZ] at h8
  refine k_ 4 ?_
  exact rR [0, 0, 0] ⟨some pre, fun xs h => by cases h; omega⟩
set_option maxRecDepth 100000 in
theorem c_nPastD (l : List Patch) (A : Option Addr) (c : Nat) (hl : l.length ≤ 2000000) (hf : ∀ x ∈ l, x.fit) (q0 : Patch) (y : Rp.Lay Patch) (hq : q0.fit) : Con Tryz.prog 62 [.slice A l.length c, sv q0 y] [] [slA y.1.1 q0.deps, slA y.2.1 q0.l, capA y.2.2 q0.l.length, slA A l] {x : (Patch × List Patch × Bool) × (Rp.Lay Patch × (Option Addr × Nat)) // x.1 = ppast l q0} (fun x => .tuple #[sv x.1.1.1 x.1.2.1, .slice x.1.2.2.1 x.1.1.2.1.length x.1.2.2.2, .bool x.1.1.2.2]) (fun x => [row 55 x.1.2.2.1 x.1.2.2.2 x.1.1.2.1]) (fun x => [slA x.1.2.1.1.1 x.1.1.1.deps, slA x.1.2.1.2.1 x.1.1.1.l, capA x.1.2.1.2.2 x.1.1.1.l.length]) := by
 refine con func62 rfl ntmps62 rfl ?_
 intro M0 F0 w0
 refine k_ 2 ?_
 refine ls (o_box rfl rfl rfl) ?_
 refine le ?_; intro b3
 refine ls (o_alloc zeroValue55 rfl rfl) ?_
 refine le ?_; intro b4
 refine ls (o_alloc zeroValue37 rfl rfl) ?_
 refine le ?_; intro b5
 refine ls (o_alloc zeroValue4 rfl rfl) ?_
 refine le ?_; intro b6
 refine k_ 6 ?_
 refine ls (o_mk Patch.zero ((none, 0), (none, 0)) l.length underlying37 inf55 rfl (by decide) (fun M w p hp => by simp only [Rp.asn, List.mem_cons, List.mem_nil_iff, or_false] at hp; rcases hp with rfl | rfl | rfl <;> first | exact slA_none M w | exact Nat.le_refl 0) rfl rfl rfl rfl (by omega) (by omega) rfl) ?_
 refine le ?_; intro g
 rw [List.length_replicate]
 refine k_ 5 ?_
 refine ls (o_ldw isAgg55 sizeOf55 rfl Θ (by rfl) rfl) ?_
 refine lC [] call47 (c_nClone q0 y hq) ?_; intro y16
 refine k_ 7 ?_
 refine lC [] call72 (c_BackwardP l A c) ?_; intro b18
 refine k_ 3 ?_
 rw [show List.replicate l.length Patch.zero = List.replicate (l.length - 0) Patch.zero ++ [] by simp]
 refine crng (ι := fun pre => {q : Patch × List Patch × Rp.Lay Patch // PP l q0 pre.length q.1 q.2.1}) rfl call104 (c_BackwardP1 l A c hl b18) (fun _ => rfl) rfl (fun pre i => [box b4 55 (Rp.enc i.1.1 i.1.2.2), box b5 37 [.slice (some ⟨g, 0, none⟩) l.length l.length], box b6 4 [.bool false], row 55 (some ⟨g, 0, none⟩) l.length (List.replicate (l.length - pre.length) Patch.zero ++ i.1.2.1)]) (fun pre i => [slA i.1.2.2.1.1 i.1.1.deps, slA i.1.2.2.2.1 i.1.1.l, capA i.1.2.2.2.2 i.1.1.l.length]) (⟨(q0, [], y16), PP.start hq⟩) (Y := {u : Unit // ppast l q0 = (Patch.zero, [], false)}) (fun _ => [box b4 55 (Rp.enc Patch.zero ((none, 0), (none, 0))), box b5 37 [.slice none 0 0], box b6 4 [.bool false]]) (fun _ => []) (is := [4, 3, 2, 1, 0]) rfl Ω Ω ?_ ?_ ?_
 ·
  rintro M0 F0 w0 lp κ pre ⟨⟨k, yk⟩, hk⟩ hx ⟨⟨q, rest, yq⟩, hI⟩
  dsimp only at hk hx hI
  have hrl := hI.len; have hfk := hf _ (List.getElem_mem hk)
  refine cmono (S' := St M0 F0 w0 ⟨38, []⟩ [(4, .pointer (some ⟨b4, 0, none⟩)), (5, .pointer (some ⟨b5, 0, none⟩)), (6, .pointer (some ⟨b6, 0, none⟩)), (19, .int .i64 (k : Int)), (20, sv l[k] yk)] [lrec lp κ .ready none, box b4 55 (Rp.enc q yq), box b5 37 [.slice (some ⟨g, 0, none⟩) l.length l.length], box b6 4 [.bool false], row 55 (some ⟨g, 0, none⟩) l.length (List.replicate (l.length - pre.length) Patch.zero ++ rest)] [slA yq.1.1 q.deps, slA yq.2.1 q.l, capA yq.2.2 q.l.length, slA yk.1.1 l[k].deps, slA yk.2.1 l[k].l, capA yk.2.2 l[k].l.length]) (wk0 Φ Ω) ?_
  refine k_ 6 ?_
  refine ls (o_alloc zeroValue55 rfl rfl) ?_
  refine le ?_; intro b8
  refine k_ 2 ?_
  refine nbegin (i := 1) rfl ?_
  refine k_ 3 ?_
  refine ls (o_ldw isAgg55 sizeOf55 rfl Θ (by rfl) rfl) ?_
  refine ls (o_ldw isAgg55 sizeOf55 rfl Θ (by rfl) rfl) ?_
  refine lC [] call69 (c_nSwap l[k] q yk yq hfk hI.fq) ?_; rintro ⟨⟨⟨r1, r2, r3⟩, z1, z2⟩, hr⟩
  obtain ⟨e1, e2⟩ := pswap_fit2 hr hfk hI.fq; dsimp only at hr e1 e2
  refine k_ 4 ?_
  refine ls (o_alloc zeroValue55 rfl rfl) ?_
  refine le ?_; intro b9
  refine ls (o_alloc zeroValue55 rfl rfl) ?_
  refine le ?_; intro b10
  refine k_ 12 ?_
  refine cc rfl ?_ ?_
  ·
   intro h29
   obtain rfl : false = r3 := by cases r3 <;> first | rfl | (simp at h29)
   refine k_ 9 ?_
   refine xretR Ħ ?_
   exact nrret ⟨(), hI.stop (by omega) hr⟩ (is := [2, 3, 3, 3]) rfl Ω
  ·
   intro h29
   obtain rfl : true = r3 := by cases r3 <;> first | rfl | (simp at h29)
   refine k_ 2 ?_
   refine cd [4, 6] [(0, b5, 0, _), (2, b9, 0, _), (3, b10, 0, _)] TryzX.mixed (TOk.t (isBoxS Θ (k := 1) Δ) (TOk.t (isBoxS Θ (k := 4) Δ) (TOk.t (isBoxS Θ (k := 4) Δ) TOk.d))) ?_
   refine u_ 0 4 ?_
   refine df 4 Ψ ?_
   refine doR rfl (o_st rfl sizeOf55 rfl rfl rfl rfl rfl Θ Θ Θ) (TOk.t (isBoxS Θ (k := 1) Δ) (TOk.x Ψ (TOk.t (isBoxS Θ (k := 4) Δ) TOk.d))) ?_
   refine tk 5 rfl Ψ Υ gnone (TTany _) (p_ia k rfl hk rfl underlying37 sizeOf55 rfl rfl) rfl ?_
   refine df 6 Ψ ?_
   refine doR rfl (o_strow (z := r2) (yz := z2) rfl sizeOf55 rfl rfl rfl Θ (by simp; omega) Θ Ω) tX ?_
   refine dn Ψ ?_
   refine k_ 1 ?_
   rw [rep_set (by omega), show pre.length + 1 = (pre ++ [(⟨(k, yk), hk⟩ : {x : Nat × Rp.Lay Patch // x.1 < l.length})]).length by simp]
   exact nround ⟨(r1, r2 :: rest, z1), by rw [List.length_append]; exact hI.step (by omega) hf hr⟩ (is := [2, 3, 3, 3, 3]) rfl Ω
 ·
  rintro D xs hC ⟨⟨q, rest, yq⟩, hI⟩
  dsimp only at hC hI
  have hd := hI.done hC; have hrl := hI.len
  rw [show List.replicate (l.length - xs.length) Patch.zero ++ rest = rest by rw [hC]; simp]
  refine k_ 3 ?_
  skip
  refine cd [2, 3, 4] [(0, b4, 0, _), (1, b5, 0, _)] TryzX.mixed (TOk.t (isBoxS Θ (k := 4) Δ) (TOk.t (isBoxS Θ (k := 1) Δ) TOk.d)) ?_
  refine u_ 0 2 ?_
  refine df 2 Ψ ?_
  refine doR rfl (o_st rfl sizeOf55 rfl rfl rfl rfl rfl Θ Θ Θ) (TOk.x Ψ (TOk.t (isBoxS Θ (k := 1) Δ) TOk.d)) ?_
  refine df 3 Ψ ?_
  refine doR rfl (o_st rfl sizeOf37 rfl rfl rfl rfl rfl Θ Θ Θ) tX ?_
  refine df 4 Ψ ?_
  refine doR rfl (o_st rfl sizeOf4 rfl rfl rfl rfl rfl Θ Θ Θ) tX ?_
  refine dn Ψ ?_
  refine k_ 3 ?_
  refine rretm (Dfr.c (i := 5) rfl Dfr.d) (is := [3]) ⟨((q, rest, true), (yq, (some ⟨g, 0, none⟩, l.length))), hd.symm⟩ (Or.inl rfl) (Res.c rfl isAgg55 sizeOf55 Θ (by rfl) (Res.c1 rfl isAgg37 Θ (Res.c1 rfl isAgg4 Θ Res.d))) ?_ rfl Ω
  dsimp only [packV]; rw [show rest.length = l.length by omega]; rfl
 ·
  rintro D ⟨_, hst⟩
  refine nmono (fun a w h => nilC (α := Prim) h) ?_
  refine nmono (fun a w h => nilSl (α := Int) h) ?_
  refine nmono (fun a w h => nilRow (α := Patch) 55 h) ?_
  refine k_ 1 ?_
  refine rretm (Dfr.c (i := 5) rfl Dfr.d) (is := [0]) ⟨((Patch.zero, [], false), (((none, 0), (none, 0)), (none, 0))), hst.symm⟩ (Or.inl rfl) (Res.c rfl isAgg55 sizeOf55 Θ (by rfl) (Res.c1 rfl isAgg37 Θ (Res.c1 rfl isAgg4 Θ Res.d))) (rfl) rfl Ω
set_option maxRecDepth 100000 in
theorem c_nPastR (l : List Patch) (A : Option Addr) (c : Nat) (hl : l.length ≤ 2000000) (hf : ∀ x ∈ l, x.fit) (q0 : Patch) (y : Rp.Lay Patch) (hq : q0.fit) : Con Tryz.prog 62 [.slice A l.length c, sv q0 y] [row 55 A c l] [slA y.1.1 q0.deps, slA y.2.1 q0.l, capA y.2.2 q0.l.length] {x : (Patch × List Patch × Bool) × (Rp.Lay Patch × (Option Addr × Nat)) // x.1 = ppast l q0} (fun x => .tuple #[sv x.1.1.1 x.1.2.1, .slice x.1.2.2.1 x.1.1.2.1.length x.1.2.2.2, .bool x.1.1.2.2]) (fun x => [row 55 x.1.2.2.1 x.1.2.2.2 x.1.1.2.1, row 55 A c l]) (fun x => [slA x.1.2.1.1.1 x.1.1.1.deps, slA x.1.2.1.2.1 x.1.1.1.l, capA x.1.2.1.2.2 x.1.1.1.l.length]) := by
 refine con func62 rfl ntmps62 rfl ?_
 intro M0 F0 w0
 refine k_ 2 ?_
 refine ls (o_box rfl rfl rfl) ?_
 refine le ?_; intro b3
 refine ls (o_alloc zeroValue55 rfl rfl) ?_
 refine le ?_; intro b4
 refine ls (o_alloc zeroValue37 rfl rfl) ?_
 refine le ?_; intro b5
 refine ls (o_alloc zeroValue4 rfl rfl) ?_
 refine le ?_; intro b6
 refine k_ 6 ?_
 refine ls (o_mk Patch.zero ((none, 0), (none, 0)) l.length underlying37 inf55 rfl (by decide) (fun M w p hp => by simp only [Rp.asn, List.mem_cons, List.mem_nil_iff, or_false] at hp; rcases hp with rfl | rfl | rfl <;> first | exact slA_none M w | exact Nat.le_refl 0) rfl rfl rfl rfl (by omega) (by omega) rfl) ?_
 refine le ?_; intro g
 rw [List.length_replicate]
 refine k_ 5 ?_
 refine ls (o_ldw isAgg55 sizeOf55 rfl Θ (by rfl) rfl) ?_
 refine lC [] call47 (c_nClone q0 y hq) ?_; intro y16
 refine k_ 7 ?_
 refine lC [] call72 (c_BackwardP l A c) ?_; intro b18
 refine k_ 3 ?_
 rw [show List.replicate l.length Patch.zero = List.replicate (l.length - 0) Patch.zero ++ [] by simp]
 refine crng (ι := fun pre => {q : Patch × List Patch × Rp.Lay Patch // PP l q0 pre.length q.1 q.2.1}) rfl call104 (c_BackwardR1 l A c hl b18) (fun _ => rfl) rfl (fun pre i => [box b4 55 (Rp.enc i.1.1 i.1.2.2), box b5 37 [.slice (some ⟨g, 0, none⟩) l.length l.length], box b6 4 [.bool false], row 55 (some ⟨g, 0, none⟩) l.length (List.replicate (l.length - pre.length) Patch.zero ++ i.1.2.1)]) (fun pre i => [slA i.1.2.2.1.1 i.1.1.deps, slA i.1.2.2.2.1 i.1.1.l, capA i.1.2.2.2.2 i.1.1.l.length]) (⟨(q0, [], y16), PP.start hq⟩) (Y := {u : Unit // ppast l q0 = (Patch.zero, [], false)}) (fun _ => [box b4 55 (Rp.enc Patch.zero ((none, 0), (none, 0))), box b5 37 [.slice none 0 0], box b6 4 [.bool false]]) (fun _ => []) (is := [4, 3, 2, 1, 0, 1]) rfl Ω Ω ?_ ?_ ?_
 ·
  rintro M0 F0 w0 lp κ pre ⟨⟨k, yk⟩, hk⟩ hx ⟨⟨q, rest, yq⟩, hI⟩
  dsimp only at hk hx hI
  have hrl := hI.len; have hfk := hf _ (List.getElem_mem hk)
  refine cmono (S' := St M0 F0 w0 ⟨38, []⟩ [(4, .pointer (some ⟨b4, 0, none⟩)), (5, .pointer (some ⟨b5, 0, none⟩)), (6, .pointer (some ⟨b6, 0, none⟩)), (19, .int .i64 (k : Int)), (20, sv l[k] yk)] [lrec lp κ .ready none, box b4 55 (Rp.enc q yq), box b5 37 [.slice (some ⟨g, 0, none⟩) l.length l.length], box b6 4 [.bool false], row 55 (some ⟨g, 0, none⟩) l.length (List.replicate (l.length - pre.length) Patch.zero ++ rest)] [slA yq.1.1 q.deps, slA yq.2.1 q.l, capA yq.2.2 q.l.length, slA yk.1.1 l[k].deps, slA yk.2.1 l[k].l, capA yk.2.2 l[k].l.length]) (wk0 Φ Ω) ?_
  refine k_ 6 ?_
  refine ls (o_alloc zeroValue55 rfl rfl) ?_
  refine le ?_; intro b8
  refine k_ 2 ?_
  refine nbegin (i := 1) rfl ?_
  refine k_ 3 ?_
  refine ls (o_ldw isAgg55 sizeOf55 rfl Θ (by rfl) rfl) ?_
  refine ls (o_ldw isAgg55 sizeOf55 rfl Θ (by rfl) rfl) ?_
  refine lC [] call69 (c_nSwap l[k] q yk yq hfk hI.fq) ?_; rintro ⟨⟨⟨r1, r2, r3⟩, z1, z2⟩, hr⟩
  obtain ⟨e1, e2⟩ := pswap_fit2 hr hfk hI.fq; dsimp only at hr e1 e2
  refine k_ 4 ?_
  refine ls (o_alloc zeroValue55 rfl rfl) ?_
  refine le ?_; intro b9
  refine ls (o_alloc zeroValue55 rfl rfl) ?_
  refine le ?_; intro b10
  refine k_ 12 ?_
  refine cc rfl ?_ ?_
  ·
   intro h29
   obtain rfl : false = r3 := by cases r3 <;> first | rfl | (simp at h29)
   refine k_ 9 ?_
   refine xretR Ħ ?_
   exact nrret ⟨(), hI.stop (by omega) hr⟩ (is := [2, 3, 3, 3]) rfl Ω
  ·
   intro h29
   obtain rfl : true = r3 := by cases r3 <;> first | rfl | (simp at h29)
   refine k_ 2 ?_
   refine cd [4, 6] [(0, b5, 0, _), (2, b9, 0, _), (3, b10, 0, _)] TryzX.mixed (TOk.t (isBoxS Θ (k := 1) Δ) (TOk.t (isBoxS Θ (k := 4) Δ) (TOk.t (isBoxS Θ (k := 4) Δ) TOk.d))) ?_
   refine u_ 0 4 ?_
   refine df 4 Ψ ?_
   refine doR rfl (o_st rfl sizeOf55 rfl rfl rfl rfl rfl Θ Θ Θ) (TOk.t (isBoxS Θ (k := 1) Δ) (TOk.x Ψ (TOk.t (isBoxS Θ (k := 4) Δ) TOk.d))) ?_
   refine tk 5 rfl Ψ Υ gnone (TTany _) (p_ia k rfl hk rfl underlying37 sizeOf55 rfl rfl) rfl ?_
   refine df 6 Ψ ?_
   refine doR rfl (o_strow (z := r2) (yz := z2) rfl sizeOf55 rfl rfl rfl Θ (by simp; omega) Θ Ω) tX ?_
   refine dn Ψ ?_
   refine k_ 1 ?_
   rw [rep_set (by omega), show pre.length + 1 = (pre ++ [(⟨(k, yk), hk⟩ : {x : Nat × Rp.Lay Patch // x.1 < l.length})]).length by simp]
   exact nround ⟨(r1, r2 :: rest, z1), by rw [List.length_append]; exact hI.step (by omega) hf hr⟩ (is := [2, 3, 3, 3, 3]) rfl Ω
 ·
  rintro D xs hC ⟨⟨q, rest, yq⟩, hI⟩
  dsimp only at hC hI
  have hd := hI.done hC; have hrl := hI.len
  rw [show List.replicate (l.length - xs.length) Patch.zero ++ rest = rest by rw [hC]; simp]
  refine k_ 3 ?_
  skip
  refine cd [2, 3, 4] [(0, b4, 0, _), (1, b5, 0, _)] TryzX.mixed (TOk.t (isBoxS Θ (k := 4) Δ) (TOk.t (isBoxS Θ (k := 1) Δ) TOk.d)) ?_
  refine u_ 0 2 ?_
  refine df 2 Ψ ?_
  refine doR rfl (o_st rfl sizeOf55 rfl rfl rfl rfl rfl Θ Θ Θ) (TOk.x Ψ (TOk.t (isBoxS Θ (k := 1) Δ) TOk.d)) ?_
  refine df 3 Ψ ?_
  refine doR rfl (o_st rfl sizeOf37 rfl rfl rfl rfl rfl Θ Θ Θ) tX ?_
  refine df 4 Ψ ?_
  refine doR rfl (o_st rfl sizeOf4 rfl rfl rfl rfl rfl Θ Θ Θ) tX ?_
  refine dn Ψ ?_
  refine k_ 3 ?_
  refine rretm (Dfr.c (i := 6) rfl Dfr.d) (is := [3, 4]) ⟨((q, rest, true), (yq, (some ⟨g, 0, none⟩, l.length))), hd.symm⟩ (Or.inl rfl) (Res.c rfl isAgg55 sizeOf55 Θ (by rfl) (Res.c1 rfl isAgg37 Θ (Res.c1 rfl isAgg4 Θ Res.d))) ?_ rfl Ω
  dsimp only [packV]; rw [show rest.length = l.length by omega]; rfl
 ·
  rintro D ⟨_, hst⟩
  refine nmono (fun a w h => nilC (α := Prim) h) ?_
  refine nmono (fun a w h => nilSl (α := Int) h) ?_
  refine nmono (fun a w h => nilRow (α := Patch) 55 h) ?_
  refine k_ 1 ?_
  refine rretm (Dfr.c (i := 6) rfl Dfr.d) (is := [0, 4]) ⟨((Patch.zero, [], false), (((none, 0), (none, 0)), (none, 0))), hst.symm⟩ (Or.inl rfl) (Res.c rfl isAgg55 sizeOf55 Θ (by rfl) (Res.c1 rfl isAgg37 Θ (Res.c1 rfl isAgg4 Θ Res.d))) (rfl) rfl Ω
end Go.Proofs.YtppjcjlijmldiaaGreatDoor.X
end
section
set_option linter.unusedVariables false
set_option linter.unusedSimpArgs false
namespace Go.Proofs.YtppjcjlijmldiaaGreatDoor.X
open Go Go.RowKit Go.Proofs Go.Sx
open Tryz
attribute [local irreducible] slA isA box row TrL TrC TrN TrA Pu OpR
set_option maxHeartbeats 8000000
set_option maxRecDepth 100000 in
theorem c_nGroup (l : List Patch) (A : Option Addr) (c : Nat) (hl : l.length ≤ 2000000) (hf : ∀ x ∈ l, x.fit) : Con Tryz.prog 55 [.slice A l.length c] [] [slA A l] {x : (List Patch × List Patch) × ((Option Addr × Nat) × (Option Addr × Nat)) // x.1 = group l} (fun x => .tuple #[.slice x.1.2.1.1 x.1.1.1.length x.1.2.1.2, .slice x.1.2.2.1 x.1.1.2.length x.1.2.2.2]) (fun _ => []) (fun x => [slA x.1.2.1.1 x.1.1.1, nilA x.1.2.1, capA x.1.2.1.2 x.1.1.1.length, slA x.1.2.2.1 x.1.1.2, nilA x.1.2.2, capA x.1.2.2.2 x.1.1.2.length]) := by
 refine con func55 rfl ntmps55 rfl ?_
 intro M0 F0 w0
 refine k_ 8 ?_
 refine cmono (fun a w h => nilRow (α := Patch) 55 h) ?_
 refine cmono (fun a w h => nilRow (α := Patch) 55 h) ?_
 refine k_ 7 ?_
 refine cl (ι := {q : Nat × List Patch × List Patch × (Option Addr × Nat) × (Option Addr × Nat) // q.1 ≤ l.length ∧ GI l q.1 q.2.1 q.2.2.1}) (fun i => St M0 F0 w0 42 [(2, .slice i.1.2.2.2.1.1 (i.1.2.1).length i.1.2.2.2.1.2), (3, .slice i.1.2.2.2.2.1 (i.1.2.2.1).length i.1.2.2.2.2.2), (9, .slice A l.length c), (10, .int .i64 (l.length : Int)), (11, .int .i64 (i.1.1 : Int))] [row 55 (i.1.2.2.2.1.1) (i.1.2.2.2.1.2) i.1.2.1, row 55 (i.1.2.2.2.2.1) (i.1.2.2.2.2.2) i.1.2.2.1] [slA A l]) (fun i => l.length - i.1.1) ⟨(0, [], [], (none, 0), (none, 0)), Nat.zero_le _, GI.start l⟩ (wK [0, 0]) ?_
 rintro ⟨⟨k, g, r, ⟨Ag, cg⟩, ⟨Ax, cx⟩⟩, hk, hI⟩
 refine cmono (S' := St M0 F0 w0 42 [(2, .slice Ag (g).length cg), (3, .slice Ax (r).length cx), (9, .slice A l.length c), (10, .int .i64 (l.length : Int)), (11, .int .i64 (k : Int))] [row 55 (Ag) (cg) g, row 55 (Ax) (cx) r] [slA A l]) Ħ ?_
 refine k_ 6 ?_
 refine cc rfl ?_ ?_
 ·
  intro h12
  dsimp only at hk hI
  try simp only [nrmZ] at h12
  have hk1 : k < l.length := by omega
  have hgl := hI.len; have hfk := hf _ (List.getElem_mem hk1)
  refine k_ 5 ?_
  refine elC Θ k (List.getElem?_eq_getElem (l := l) hk1) ?_; rintro zbp zop zyp hAp
  refine k_ 2 ?_
  refine ls (op (p_ia k hAp hk1 rfl underlying37 sizeOf55 rfl rfl) rfl) ?_
  refine ls (o_ldj isAgg55 sizeOf55 rfl Θ 0 rfl Δ rfl) ?_
  refine ls (o_alloc zeroValue55 rfl rfl) ?_
  refine le ?_; intro b5
  refine k_ 7 ?_
  refine ls (o_ldw isAgg55 sizeOf55 rfl Θ (by rfl) rfl) ?_
  refine lC [1] call62 (c_nPastR g Ag cg (by omega) hI.fg l[k] zyp hfk) ?_; rintro ⟨⟨⟨q1, rest1, b3⟩, ⟨yq1, ⟨A1, c1⟩⟩⟩, hr⟩
  dsimp only at hr
  refine k_ 4 ?_
  refine ls (o_alloc zeroValue55 rfl rfl) ?_
  refine le ?_; intro b6
  refine k_ 11 ?_
  refine orX 3 25 28 rfl (sL [2, 3, 9, 10, 11, 12, 13, 14, 15, 5, 17, 18, 19, 16, 20, 21, 22, 6, 7]) ?_ ?_
  ·
   intro h25
   refine k_ 3 ?_
   refine ln (nmid (wk0 Φ Ω))
  apply exI
  ·
   intro h25
   refine k_ 3 ?_
   refine ln (nmid (wk0 Φ Ω))
  ·
   refine k_ 2 ?_
   refine cc rfl ?_ ?_
   ·
    intro h28
    have hno : k = 0 ∨ (q1, rest1, false) = ppast g l[k] := by (rcases Nat.eq_zero_or_pos k with h0 | h0; · exact .inl h0); · right; rw [← hr]; cases b3 <;> first | rfl | (simp at h28; omega)
    refine k_ 3 ?_
    refine ls (o_ldw isAgg55 sizeOf55 rfl Θ (by rfl) rfl) ?_
    refine lC [] call47 (c_nClone l[k] zyp hfk) ?_; intro y31
    refine ls (o_bsl [l[k]] underlying37 sizeOf55 zeroValue55 rfl (Enum.t Enum.d) (RV.t y31 rfl Ω RV.d) rfl (by decide) (by decide) rfl) ?_
    refine le ?_; intro b32
    refine lmono (fun a w h => Go.Sx.freeze (i := 0) rfl h) ?_
    refine ls (o_app (is := [2]) underlying37 inf55 rfl (by decide) (by decide) rfl rfl (by simp only [List.length_cons, List.length_nil]; omega) (fun h => by cases h) rfl Ω rfl) ?_
    refine le ?_; rintro ⟨A2, c2⟩
    refine k_ 11 ?_
    refine nnext ⟨(k + 1, g ++ [l[k]], r, (A2, c2), (Ax, cx)), hk1, hI.no hk1 hf hno⟩ (by dsimp only; omega) (wK [0, 3])
   ·
    intro h28
    have hyes : k ≠ 0 ∧ b3 = true := by cases b3 <;> simp at h28 ⊢; omega
    obtain ⟨hk0, rfl⟩ := hyes
    have hok := ppast_ok hr hI.fg hfk
    refine k_ 5 ?_
    refine ls (o_ldw isAgg55 sizeOf55 rfl Θ (by rfl) rfl) ?_
    refine ls (o_bsl [q1] underlying37 sizeOf55 zeroValue55 rfl (Enum.t Enum.d) (RV.t yq1 rfl Ω RV.d) rfl (by decide) (by decide) rfl) ?_
    refine le ?_; intro b37
    refine lmono (fun a w h => Go.Sx.freeze (i := 0) rfl h) ?_
    refine ls (o_app (is := [4]) underlying37 inf55 rfl (by decide) (by decide) rfl rfl (by simp only [List.length_cons, List.length_nil]; omega) (fun h => by cases h) rfl Ω rfl) ?_
    refine le ?_; rintro ⟨A2, c2⟩
    refine k_ 9 ?_
    refine nnext ⟨(k + 1, rest1, r ++ [q1], (A1, c1), (A2, c2)), hk1, hI.yes hk1 hk0 hf hr⟩ (by dsimp only; omega) (wK [2, 0])
 ·
  intro h12
  dsimp only at hk hI
  try simp only [nrmZ] at h12
  have hd := hI.done (by omega)
  refine k_ 6 ?_
  refine cmono (fun a w h => freezeN (i := 0) rfl h) ?_
  refine cmono (fun a w h => freezeN (i := 0) rfl h) ?_
  refine k_ 9 ?_
  exact rR [] ⟨((g, r), ((Ag, cg), (Ax, cx))), hd.symm⟩
set_option maxRecDepth 100000 in
theorem c_rPast (l : List Patch) (A : Option Addr) (c : Nat) (hl : l.length ≤ 2000000) (hf : ∀ x ∈ l, x.fit) (q0 : Patch) (y : Rp.Lay Patch) (hq : q0.fit) : Con Tryz.prog 91 [.slice A l.length c, sv q0 y] [] [slA y.1.1 q0.deps, slA y.2.1 q0.l, capA y.2.2 q0.l.length, slA A l] {x : (Patch × List Patch × Bool) × (Rp.Lay Patch × (Option Addr × Nat)) // x.1 = ppast l q0} (fun x => .tuple #[sv x.1.1.1 x.1.2.1, .slice x.1.2.2.1 x.1.1.2.1.length x.1.2.2.2, .bool x.1.1.2.2]) (fun _ => []) (fun x => [slA x.1.2.1.1.1 x.1.1.1.deps, slA x.1.2.1.2.1 x.1.1.1.l, capA x.1.2.1.2.2 x.1.1.1.l.length, slA x.1.2.2.1 x.1.1.2.1]) := by
 refine con func91 rfl ntmps91 rfl ?_
 intro M0 F0 w0
 refine k_ 2 ?_
 refine ls (o_box rfl rfl rfl) ?_
 refine le ?_; intro b3
 refine ls (o_alloc zeroValue31 rfl rfl) ?_
 refine le ?_; intro b4
 refine k_ 5 ?_
 refine cmono (fun a w h => nilSl (α := Patch) h) ?_
 refine k_ 14 ?_
 refine cl (ι := {q : Nat × Int × Patch × List Patch × Rp.Lay Patch × (Option Addr × Nat) // q.1 ≤ l.length ∧ q.2.1 = (l.length : Int) - 1 - (q.1 : Int) ∧ PP l q0 q.1 q.2.2.1 q.2.2.2.1 ∧ (q.2.2.2.1 = [] → q.2.2.2.2.2.2 = 0)}) (fun i => St M0 F0 w0 39 [(0, .slice A l.length c), (3, .pointer (some ⟨b3, 0, none⟩)), (4, .pointer (some ⟨b4, 0, none⟩)), (7, .slice i.1.2.2.2.2.2.1 (i.1.2.2.2.1).length i.1.2.2.2.2.2.2), (8, .int .i64 i.1.2.1)] [box b3 31 (Rp.enc i.1.2.2.1 i.1.2.2.2.2.1), box b4 31 (Rp.enc Patch.zero ((none, 0), (none, 0)))] [slA (i.1.2.2.2.2.1).1.1 (i.1.2.2.1).deps, slA (i.1.2.2.2.2.1).2.1 (i.1.2.2.1).l, capA (i.1.2.2.2.2.1).2.2 (i.1.2.2.1).l.length, slA (i.1.2.2.2.2.2.1) (i.1.2.2.2.1), slA A l]) (fun i => l.length - i.1.1) ⟨(0, (l.length : Int) - 1, q0, [], y, (none, 0)), Nat.zero_le _, by simp, PP.start hq, fun _ => rfl⟩ (wK [1, 0]) ?_
 rintro ⟨⟨j, z, q, rest, yq, ⟨A2, c2⟩⟩, hj, hz, hI, hA2⟩
 refine cmono (S' := St M0 F0 w0 39 [(0, .slice A l.length c), (3, .pointer (some ⟨b3, 0, none⟩)), (4, .pointer (some ⟨b4, 0, none⟩)), (7, .slice A2 (rest).length c2), (8, .int .i64 z)] [box b3 31 (Rp.enc q yq), box b4 31 (Rp.enc Patch.zero ((none, 0), (none, 0)))] [slA (yq).1.1 (q).deps, slA (yq).2.1 (q).l, capA (yq).2.2 (q).l.length, slA (A2) (rest), slA A l]) Ħ ?_
 refine k_ 7 ?_
 refine cc rfl ?_ ?_
 ·
  intro h16
  dsimp only at hj hz hI hA2
  try simp only [nrmZ] at h16
  have hrl := hI.len
  obtain ⟨u, hu⟩ : ∃ u, u + j + 1 = l.length := ⟨l.length - 1 - j, by omega⟩
  have hu1 : u < l.length := by omega
  have hfk := hf _ (List.getElem_mem hu1)
  refine k_ 5 ?_
  refine elC Θ u (List.getElem?_eq_getElem (l := l) hu1) ?_; rintro zbp zop zyp hAp
  refine cutC (S' := fun a w => ∃ (b9 : Nat) (b10 : Nat) (r1 : Patch) (r2 : Patch) (r3 : Bool) (z1 : Rp.Lay Patch) (z2 : Rp.Lay Patch) (hr : (r1, r2, r3) = pswap l[u] q) (e1 : r1.fit) (e2 : r2.fit), St M0 F0 w0 39 [(0, .slice A l.length c), (3, .pointer (some ⟨b3, 0, none⟩)), (4, .pointer (some ⟨b4, 0, none⟩)), (7, .slice A2 rest.length c2), (8, .int .i64 z), (9, .pointer (some ⟨b9, 0, none⟩)), (10, .pointer (some ⟨b10, 0, none⟩)), (11, .bool r3)] [box b9 31 (Rp.enc r1 z1), box b10 31 (Rp.enc r2 z2), box b3 31 (Rp.enc q yq), box b4 31 (Rp.enc Patch.zero ((none, 0), (none, 0)))] [slA z1.1.1 r1.deps, slA z1.2.1 r1.l, capA z1.2.2 r1.l.length, slA z2.1.1 r2.deps, slA z2.2.1 r2.l, capA z2.2.2 r2.l.length, slA A2 rest, slA A l] a w) ?_ ?_
  ·
   refine cd [5, 10, 11, 12, 13] [(3, zbp, zop + u * Rp.size Patch, _), (4, b3, 0, _)] TryzX.mixed (TOk.t (isInS Θ (k := 0) rfl (z := 4) Δ) (TOk.t (isBoxS Θ (k := 4) Δ) TOk.d)) ?_
   refine u_ 0 2 ?_
   refine tk 2 rfl Ψ Υ gnone (TTany _) (p_ia u hAp hu1 (by omega) underlying27 sizeOf31 rfl rfl) rfl ?_
   refine u_ 3 2 ?_
   refine dall (is := [5, 10, 11]) Ψ rfl ?_
   intro i hi; simp only [List.mem_cons, List.mem_nil_iff, or_false] at hi; rcases hi with rfl | rfl | rfl
   ·
    refine doR rfl (o_call (is := []) call81 (c_rSwap l[u] q zyp yq hfk hI.fq) rfl rfl Ω rfl) tX ?_
    refine ea ?_; rintro ⟨⟨⟨r1, r2, r3⟩, z1, z2⟩, hr⟩
    obtain ⟨e1, e2⟩ := pswap_fit2 hr hfk hI.fq; dsimp only at hr e1 e2
    refine u_ 6 4 ?_
    refine dall (is := [10, 11]) Ψ rfl ?_
    intro i hi; simp only [List.mem_cons, List.mem_nil_iff, or_false] at hi; rcases hi with rfl | rfl
    ·
     refine doR rfl (o_alloc zeroValue31 rfl rfl) tX ?_
     refine ea ?_; intro b9
     refine df 11 Ψ ?_
     refine doR rfl (o_alloc zeroValue31 rfl rfl) tX ?_
     refine ea ?_; intro b10
     refine df 12 Ψ ?_
     refine doR rfl (o_st rfl sizeOf31 rfl rfl rfl rfl rfl Θ Θ Θ) tX ?_
     refine df 13 Ψ ?_
     refine doR rfl (o_st rfl sizeOf31 rfl rfl rfl rfl rfl Θ Θ Θ) tX ?_
     refine u_ 14 1 ?_
     refine dn Ψ (nmid (fun a w h => by first | exact ⟨b9, b10, r1, r2, r3, z1, z2, hr, e1, e2, wL [1, 0, 0, 0] h⟩ | exact ⟨b9, b10, r1, r2, r3, z1, z2, hr, e1, e2, wL [0, 0, 0, 0] h⟩))
    ·
     refine doR rfl (o_alloc zeroValue31 rfl rfl) tX ?_
     refine ea ?_; intro b10
     refine df 10 Ψ ?_
     refine doR rfl (o_alloc zeroValue31 rfl rfl) tX ?_
     refine ea ?_; intro b9
     refine df 12 Ψ ?_
     refine doR rfl (o_st rfl sizeOf31 rfl rfl rfl rfl rfl Θ Θ Θ) tX ?_
     refine df 13 Ψ ?_
     refine doR rfl (o_st rfl sizeOf31 rfl rfl rfl rfl rfl Θ Θ Θ) tX ?_
     refine u_ 14 1 ?_
     refine dn Ψ (nmid (fun a w h => by first | exact ⟨b9, b10, r1, r2, r3, z1, z2, hr, e1, e2, wL [1, 0, 0, 0] h⟩ | exact ⟨b9, b10, r1, r2, r3, z1, z2, hr, e1, e2, wL [0, 0, 0, 0] h⟩))
   ·
    refine doR rfl (o_alloc zeroValue31 rfl rfl) (TOk.t (isBoxE fun _ => isInS Θ (k := 0) rfl (z := 4) Δ) (TOk.t (isBoxE fun _ => isBoxS Θ (k := 4) Δ) TOk.d)) ?_
    refine ea ?_; intro b9
    refine dall (is := [5, 11]) Ψ rfl ?_
    intro i hi; simp only [List.mem_cons, List.mem_nil_iff, or_false] at hi; rcases hi with rfl | rfl
    ·
     refine doR rfl (o_call (is := []) call81 (c_rSwap l[u] q zyp yq hfk hI.fq) rfl rfl Ω rfl) tX ?_
     refine ea ?_; rintro ⟨⟨⟨r1, r2, r3⟩, z1, z2⟩, hr⟩
     obtain ⟨e1, e2⟩ := pswap_fit2 hr hfk hI.fq; dsimp only at hr e1 e2
     refine u_ 6 4 ?_
     refine df 11 Ψ ?_
     refine doR rfl (o_alloc zeroValue31 rfl rfl) tX ?_
     refine ea ?_; intro b10
     refine df 12 Ψ ?_
     refine doR rfl (o_st rfl sizeOf31 rfl rfl rfl rfl rfl Θ Θ Θ) tX ?_
     refine df 13 Ψ ?_
     refine doR rfl (o_st rfl sizeOf31 rfl rfl rfl rfl rfl Θ Θ Θ) tX ?_
     refine u_ 14 1 ?_
     refine dn Ψ (nmid (fun a w h => by first | exact ⟨b9, b10, r1, r2, r3, z1, z2, hr, e1, e2, wL [1, 0, 0, 0] h⟩ | exact ⟨b9, b10, r1, r2, r3, z1, z2, hr, e1, e2, wL [0, 0, 0, 0] h⟩))
    ·
     refine doR rfl (o_alloc zeroValue31 rfl rfl) (TOk.t (isBoxE fun _ => isInS Θ (k := 0) rfl (z := 4) Δ) (TOk.t (isBoxE fun _ => isBoxS Θ (k := 4) Δ) TOk.d)) ?_
     refine ea ?_; intro b10
     refine df 5 Ψ ?_
     refine doR rfl (o_call (is := []) call81 (c_rSwap l[u] q zyp yq hfk hI.fq) rfl rfl Ω rfl) tX ?_
     refine ea ?_; rintro ⟨⟨⟨r1, r2, r3⟩, z1, z2⟩, hr⟩
     obtain ⟨e1, e2⟩ := pswap_fit2 hr hfk hI.fq; dsimp only at hr e1 e2
     refine u_ 6 4 ?_
     refine df 12 Ψ ?_
     refine doR rfl (o_st rfl sizeOf31 rfl rfl rfl rfl rfl Θ Θ Θ) tX ?_
     refine df 13 Ψ ?_
     refine doR rfl (o_st rfl sizeOf31 rfl rfl rfl rfl rfl Θ Θ Θ) tX ?_
     refine u_ 14 1 ?_
     refine dn Ψ (nmid (fun a w h => by first | exact ⟨b9, b10, r1, r2, r3, z1, z2, hr, e1, e2, wL [1, 0, 0, 0] h⟩ | exact ⟨b9, b10, r1, r2, r3, z1, z2, hr, e1, e2, wL [0, 0, 0, 0] h⟩))
   ·
    refine doR rfl (o_alloc zeroValue31 rfl rfl) (TOk.t (isBoxE fun _ => isInS Θ (k := 0) rfl (z := 4) Δ) (TOk.t (isBoxE fun _ => isBoxS Θ (k := 4) Δ) TOk.d)) ?_
    refine ea ?_; intro b10
    refine dall (is := [5, 10]) Ψ rfl ?_
    intro i hi; simp only [List.mem_cons, List.mem_nil_iff, or_false] at hi; rcases hi with rfl | rfl
    ·
     refine doR rfl (o_call (is := []) call81 (c_rSwap l[u] q zyp yq hfk hI.fq) rfl rfl Ω rfl) tX ?_
     refine ea ?_; rintro ⟨⟨⟨r1, r2, r3⟩, z1, z2⟩, hr⟩
     obtain ⟨e1, e2⟩ := pswap_fit2 hr hfk hI.fq; dsimp only at hr e1 e2
     refine u_ 6 4 ?_
     refine df 10 Ψ ?_
     refine doR rfl (o_alloc zeroValue31 rfl rfl) tX ?_
     refine ea ?_; intro b9
     refine df 12 Ψ ?_
     refine doR rfl (o_st rfl sizeOf31 rfl rfl rfl rfl rfl Θ Θ Θ) tX ?_
     refine df 13 Ψ ?_
     refine doR rfl (o_st rfl sizeOf31 rfl rfl rfl rfl rfl Θ Θ Θ) tX ?_
     refine u_ 14 1 ?_
     refine dn Ψ (nmid (fun a w h => by first | exact ⟨b9, b10, r1, r2, r3, z1, z2, hr, e1, e2, wL [1, 0, 0, 0] h⟩ | exact ⟨b9, b10, r1, r2, r3, z1, z2, hr, e1, e2, wL [0, 0, 0, 0] h⟩))
    ·
     refine doR rfl (o_alloc zeroValue31 rfl rfl) (TOk.t (isBoxE fun _ => isInS Θ (k := 0) rfl (z := 4) Δ) (TOk.t (isBoxE fun _ => isBoxS Θ (k := 4) Δ) TOk.d)) ?_
     refine ea ?_; intro b9
     refine df 5 Ψ ?_
     refine doR rfl (o_call (is := []) call81 (c_rSwap l[u] q zyp yq hfk hI.fq) rfl rfl Ω rfl) tX ?_
     refine ea ?_; rintro ⟨⟨⟨r1, r2, r3⟩, z1, z2⟩, hr⟩
     obtain ⟨e1, e2⟩ := pswap_fit2 hr hfk hI.fq; dsimp only at hr e1 e2
     refine u_ 6 4 ?_
     refine df 12 Ψ ?_
     refine doR rfl (o_st rfl sizeOf31 rfl rfl rfl rfl rfl Θ Θ Θ) tX ?_
     refine df 13 Ψ ?_
     refine doR rfl (o_st rfl sizeOf31 rfl rfl rfl rfl rfl Θ Θ Θ) tX ?_
     refine u_ 14 1 ?_
     refine dn Ψ (nmid (fun a w h => by first | exact ⟨b9, b10, r1, r2, r3, z1, z2, hr, e1, e2, wL [1, 0, 0, 0] h⟩ | exact ⟨b9, b10, r1, r2, r3, z1, z2, hr, e1, e2, wL [0, 0, 0, 0] h⟩))
  ·
   refine nex fun b9 => nex fun b10 => nex fun r1 => nex fun r2 => nex fun r3 => nex fun z1 => nex fun z2 => nex fun hr => nex fun e1 => nex fun e2 => ?_
   refine k_ 8 ?_
   refine cc rfl ?_ ?_
   ·
    intro h30
    obtain rfl : false = r3 := by cases r3 <;> first | rfl | (simp at h30)
    refine cs ?_
    refine cmono (fun a w h => nilC (α := Prim) h) ?_
    refine cmono (fun a w h => nilSl (α := Int) h) ?_
    refine cmono (fun a w h => nilSl (α := Patch) h) ?_
    refine k_ 9 ?_
    refine rret (is := []) ⟨((Patch.zero, [], false), (((none, 0), (none, 0)), (none, 0))), by rw [hI.stop hu hr]⟩ (Or.inl rfl) (Res.c rfl isAgg31 sizeOf31 Θ (by rfl) (Res.t rfl (Res.t rfl Res.d))) (rfl) rfl Ω
   ·
    intro h30
    obtain rfl : true = r3 := by cases r3 <;> first | rfl | (simp at h30)
    refine k_ 4 ?_
    refine ls (o_ldw isAgg31 sizeOf31 rfl Θ (by rfl) rfl) ?_
    refine k_ 4 ?_
    refine ls (o_ldw isAgg31 sizeOf31 rfl Θ (by rfl) rfl) ?_
    refine ls (o_bsl [r2] underlying27 sizeOf31 zeroValue31 rfl (Enum.t Enum.d) (RV.t z2 rfl Ω RV.d) rfl (by decide) (by decide) rfl) ?_
    refine le ?_; intro b34
    refine k_ 1 ?_
    refine ls (o_app (is := [0]) underlying27 inf31 rfl (by decide) (by decide) rfl rfl (by simp only [List.length_cons, List.length_nil]; omega) (fun h _ => hA2 h) rfl Ω rfl) ?_
    refine le ?_; rintro ⟨A3, c3⟩
    refine lmono (fun a w h => Go.Sx.freeze (i := 0) rfl h) ?_
    refine k_ 9 ?_
    refine nnext ⟨(j + 1, z - 1, r1, r2 :: rest, z1, (A3, c3)), by dsimp only; omega, by dsimp only; omega, hI.step hu hf hr, fun h => by cases h⟩ (by dsimp only; omega) (wK [2, 2])
 ·
  intro h16
  dsimp only at hj hz hI hA2
  try simp only [nrmZ] at h16
  have hd := hI.done (by omega)
  refine k_ 7 ?_
  refine ls (o_ldw isAgg31 sizeOf31 rfl Θ (by rfl) rfl) ?_
  refine k_ 8 ?_
  refine rret (is := []) ⟨((q, rest, true), (yq, (A2, c2))), hd.symm⟩ (Or.inl rfl) (Res.c rfl isAgg31 sizeOf31 Θ (by rfl) (Res.t rfl (Res.t rfl Res.d))) (rfl) rfl Ω
set_option maxRecDepth 100000 in
theorem c_rGroup (l : List Patch) (A : Option Addr) (c : Nat) (hl : l.length ≤ 2000000) (hf : ∀ x ∈ l, x.fit) : Con Tryz.prog 54 [.slice A l.length c] [] [slA A l] {x : (List Patch × List Patch) × ((Option Addr × Nat) × (Option Addr × Nat)) // x.1 = group l} (fun x => .tuple #[.slice x.1.2.1.1 x.1.1.1.length x.1.2.1.2, .slice x.1.2.2.1 x.1.1.2.length x.1.2.2.2]) (fun _ => []) (fun x => [slA x.1.2.1.1 x.1.1.1, slA x.1.2.2.1 x.1.1.2]) := by
 refine con func54 rfl ntmps54 rfl ?_
 intro M0 F0 w0
 refine k_ 14 ?_
 refine cc rfl ?_ ?_
 ·
  intro h12
  have hl0 : l = [] := by simpa using h12
  refine cs ?_
  refine cmono (fun a w h => nilSl (α := Patch) h) ?_
  refine k_ 7 ?_
  exact rR [] ⟨(([], []), ((none, 0), (none, 0))), by rw [hl0]; rfl⟩
 ·
  intro h12
  have hpos : 0 < l.length := by have h := h12; simp at h; exact List.length_pos_iff.2 h
  refine k_ 3 ?_
  refine elC Θ 0 (List.getElem?_eq_getElem (l := l) hpos) ?_; rintro zbp zop zyp hAp
  refine k_ 2 ?_
  refine ls (op (p_ia 0 hAp hpos rfl underlying27 sizeOf31 rfl rfl) rfl) ?_
  refine ls (o_ldj isAgg31 sizeOf31 rfl Θ 0 rfl Δ rfl) ?_
  refine ls (o_bsl [l[0]] underlying27 sizeOf31 zeroValue31 rfl (Enum.t Enum.d) (RV.t zyp rfl Ω RV.d) rfl (by decide) (by decide) rfl) ?_
  refine le ?_; intro b16
  refine lmono (fun a w h => Go.Sx.freeze (i := 0) rfl h) ?_
  refine k_ 10 ?_
  refine cmono (fun a w h => nilRow (α := Patch) 31 h) ?_
  refine k_ 5 ?_
  refine cl (ι := {q : Nat × List Patch × List Patch × (Option Addr × Nat) × (Option Addr × Nat) // q.1 ≤ l.length ∧ 0 < q.1 ∧ 0 < q.2.1.length ∧ GI l q.1 q.2.1 q.2.2.1}) (fun i => St M0 F0 w0 50 [(0, .slice A l.length c), (4, .slice i.1.2.2.2.1.1 (i.1.2.1).length i.1.2.2.2.1.2), (5, .slice i.1.2.2.2.2.1 (i.1.2.2.1).length i.1.2.2.2.2.2), (6, .int .i64 (i.1.1 : Int))] [row 31 (i.1.2.2.2.2.1) (i.1.2.2.2.2.2) i.1.2.2.1] [slA (i.1.2.2.2.1.1) (i.1.2.1), slA A l]) (fun i => l.length - i.1.1) ⟨(1, [l[0]], [], (some ⟨b16, 0, none⟩, 1), (none, 0)), hpos, Nat.one_pos, by simp, GI.first hpos hf⟩ (wk0 Φ Ω) ?_
  rintro ⟨⟨k, g, r, ⟨Ag, cg⟩, ⟨Ax, cx⟩⟩, hk, hk0, hg0, hI⟩
  refine cmono (S' := St M0 F0 w0 50 [(0, .slice A l.length c), (4, .slice Ag (g).length cg), (5, .slice Ax (r).length cx), (6, .int .i64 (k : Int))] [row 31 (Ax) (cx) r] [slA (Ag) (g), slA A l]) Ħ ?_
  refine k_ 9 ?_
  refine cc rfl ?_ ?_
  ·
   intro h20
   dsimp only at hk hk0 hg0 hI
   try simp only [nrmZ] at h20
   have hk1 : k < l.length := by omega
   have hgl := hI.len; have hfk := hf _ (List.getElem_mem hk1)
   refine k_ 5 ?_
   refine elC Θ k (List.getElem?_eq_getElem (l := l) hk1) ?_; rintro zbq zoq zyq hAq
   refine k_ 4 ?_
   refine ls (op (p_ia k hAq hk1 rfl underlying27 sizeOf31 rfl rfl) rfl) ?_
   refine ls (o_ldj isAgg31 sizeOf31 rfl Θ 0 rfl Δ rfl) ?_
   refine lC [] call91 (c_rPast g Ag cg (by omega) hI.fg l[k] zyq hfk) ?_; rintro ⟨⟨⟨q1, rest1, b3⟩, ⟨yq1, ⟨A1, c1⟩⟩⟩, hr⟩
   dsimp only at hr
   refine k_ 4 ?_
   refine ls (o_alloc zeroValue31 rfl rfl) ?_
   refine le ?_; intro b7
   refine k_ 10 ?_
   refine cc rfl ?_ ?_
   ·
    intro h33
    obtain rfl : true = b3 := by cases b3 <;> first | rfl | (simp at h33)
    have hok := ppast_ok hr hI.fg hfk
    refine k_ 8 ?_
    refine ls (o_ldw isAgg31 sizeOf31 rfl Θ (by rfl) rfl) ?_
    refine ls (o_bsl [q1] underlying27 sizeOf31 zeroValue31 rfl (Enum.t Enum.d) (RV.t yq1 rfl Ω RV.d) rfl (by decide) (by decide) rfl) ?_
    refine le ?_; intro b37
    refine lmono (fun a w h => Go.Sx.freeze (i := 0) rfl h) ?_
    refine ls (o_app (is := [1]) underlying27 inf31 rfl (by decide) (by decide) rfl rfl (by simp only [List.length_cons, List.length_nil]; omega) (fun h => by cases h) rfl Ω rfl) ?_
    refine le ?_; rintro ⟨A2, c2⟩
    refine k_ 9 ?_
    refine nnext ⟨(k + 1, rest1, r ++ [q1], (A1, c1), (A2, c2)), hk1, Nat.succ_pos _, by dsimp only; omega, hI.yes hk1 (by omega) hf hr⟩ (by dsimp only; omega) (wK [0])
   ·
    intro h33
    obtain rfl : false = b3 := by cases b3 <;> first | rfl | (simp at h33)
    refine elC Θ k (List.getElem?_eq_getElem (l := l) hk1) ?_; rintro zbu zou zyu hAu
    refine cutC (S' := fun a w => ∃ (A5 : Option Addr) (c5 : Nat), St M0 F0 w0 50 [(0, .slice A l.length c), (4, .slice A5 (g ++ [l[k]]).length c5), (5, .slice Ax r.length cx), (6, .int .i64 (k : Int))] [row 31 Ax cx r] [slA A5 (g ++ [l[k]]), slA A l] a w) ?_ ?_
    ·
     refine cd [0, 2, 7, 8] [(6, zbu, zou + k * Rp.size Patch, _)] TryzX.mixed (TOk.t (isInS Θ (k := 0) rfl (z := 4) Δ) TOk.d) ?_
     refine u_ 1 1 ?_
     refine u_ 3 2 ?_
     refine tk 5 rfl Ψ Υ gnone (TTany _) (p_ia k hAu hk1 rfl underlying27 sizeOf31 rfl rfl) rfl ?_
     refine u_ 6 1 ?_
     refine dall (is := [0, 7]) Ψ rfl ?_
     intro i hi; simp only [List.mem_cons, List.mem_nil_iff, or_false] at hi; rcases hi with rfl | rfl
     ·
      refine doR rfl (o_bsl ([] : List Patch) underlying27 sizeOf31 zeroValue31 rfl Enum.d RV.d rfl (by decide) (by decide) rfl) (TOk.t (isBoxE fun _ => isInS Θ (k := 0) rfl (z := 4) Δ) TOk.d) ?_
      refine ea ?_; intro b39
      refine dall (is := [2, 7]) Ψ rfl ?_
      intro i hi; simp only [List.mem_cons, List.mem_nil_iff, or_false] at hi; rcases hi with rfl | rfl
      ·
       refine doR rfl (o_app (is := [0]) underlying27 inf31 rfl (by decide) (by decide) rfl rfl (by simp only [List.length_nil]; omega) (fun h => absurd h (by intro e; rw [e] at hg0; simp at hg0)) rfl Ω rfl) (TOk.t (isBoxE fun _ => isInS Θ (k := 0) rfl (z := 4) Δ) TOk.d) ?_
       refine ea ?_; rintro ⟨A4, c4⟩
       refine df 7 Ψ ?_
       refine doR rfl (o_bsl [l[k]] underlying27 sizeOf31 zeroValue31 rfl (Enum.t Enum.d) (RV.t zyu rfl Ω RV.d) rfl (by decide) (by decide) rfl) tX ?_
       refine ea ?_; intro b46
       refine amono (fun a w h => Go.Sx.freeze (i := 0) rfl h) ?_
       refine df 8 Ψ ?_
       refine doR rfl (o_app (is := [0]) underlying27 inf31 rfl (by decide) (by decide) rfl rfl (by simp only [List.length_append, List.length_cons, List.length_nil]; omega) (fun h => by cases h) rfl Ω rfl) tX ?_
       refine ea ?_; rintro ⟨A5, c5⟩
       refine amono (fun a w h => Go.Sx.freeze (i := 0) rfl h) ?_
       refine u_ 9 1 ?_
       refine dn Ψ (nmid (fun a w h => by first | exact ⟨A5, c5, wL [1] h⟩))
      ·
       refine doR rfl (o_bsl [l[k]] underlying27 sizeOf31 zeroValue31 rfl (Enum.t Enum.d) (RV.t zyu rfl Ω RV.d) rfl (by decide) (by decide) rfl) tX ?_
       refine ea ?_; intro b46
       refine amono (fun a w h => Go.Sx.freeze (i := 0) rfl h) ?_
       refine df 2 Ψ ?_
       refine doR rfl (o_app (is := [0]) underlying27 inf31 rfl (by decide) (by decide) rfl rfl (by simp only [List.length_nil]; omega) (fun h => absurd h (by intro e; rw [e] at hg0; simp at hg0)) rfl Ω rfl) tX ?_
       refine ea ?_; rintro ⟨A4, c4⟩
       refine df 8 Ψ ?_
       refine doR rfl (o_app (is := [0]) underlying27 inf31 rfl (by decide) (by decide) rfl rfl (by simp only [List.length_append, List.length_cons, List.length_nil]; omega) (fun h => by cases h) rfl Ω rfl) tX ?_
       refine ea ?_; rintro ⟨A5, c5⟩
       refine amono (fun a w h => Go.Sx.freeze (i := 0) rfl h) ?_
       refine u_ 9 1 ?_
       refine dn Ψ (nmid (fun a w h => by first | exact ⟨A5, c5, wL [1] h⟩))
     ·
      refine doR rfl (o_bsl [l[k]] underlying27 sizeOf31 zeroValue31 rfl (Enum.t Enum.d) (RV.t zyu rfl Ω RV.d) rfl (by decide) (by decide) rfl) tX ?_
      refine ea ?_; intro b46
      refine amono (fun a w h => Go.Sx.freeze (i := 0) rfl h) ?_
      refine df 0 Ψ ?_
      refine doR rfl (o_bsl ([] : List Patch) underlying27 sizeOf31 zeroValue31 rfl Enum.d RV.d rfl (by decide) (by decide) rfl) tX ?_
      refine ea ?_; intro b39
      refine df 2 Ψ ?_
      refine doR rfl (o_app (is := [0]) underlying27 inf31 rfl (by decide) (by decide) rfl rfl (by simp only [List.length_nil]; omega) (fun h => absurd h (by intro e; rw [e] at hg0; simp at hg0)) rfl Ω rfl) tX ?_
      refine ea ?_; rintro ⟨A4, c4⟩
      refine df 8 Ψ ?_
      refine doR rfl (o_app (is := [0]) underlying27 inf31 rfl (by decide) (by decide) rfl rfl (by simp only [List.length_append, List.length_cons, List.length_nil]; omega) (fun h => by cases h) rfl Ω rfl) tX ?_
      refine ea ?_; rintro ⟨A5, c5⟩
      refine amono (fun a w h => Go.Sx.freeze (i := 0) rfl h) ?_
      refine u_ 9 1 ?_
      refine dn Ψ (nmid (fun a w h => by first | exact ⟨A5, c5, wL [1] h⟩))
    ·
     refine nex fun A5 => nex fun c5 => ?_
     refine k_ 7 ?_
     refine nnext ⟨(k + 1, g ++ [l[k]], r, (A5, c5), (Ax, cx)), hk1, Nat.succ_pos _, by simp, hI.no hk1 hf (.inr hr)⟩ (by dsimp only; omega) (wK [0])
  ·
   intro h20
   dsimp only at hk hk0 hg0 hI
   try simp only [nrmZ] at h20
   have hd := hI.done (by omega)
   refine k_ 6 ?_
   refine cmono (fun a w h => Go.Sx.freeze (i := 0) rfl h) ?_
   refine k_ 9 ?_
   exact rR [] ⟨((g, r), ((Ag, cg), (Ax, cx))), hd.symm⟩
end Go.Proofs.YtppjcjlijmldiaaGreatDoor.X
end
section
set_option linter.unusedVariables false
set_option linter.unusedSimpArgs false
namespace Go.Proofs.YtppjcjlijmldiaaGreatDoor.X
open Go Go.RowKit Go.Proofs Go.Sx
open Tryz
attribute [local irreducible] slA isA box row TrL TrC TrN TrA Pu OpR
set_option maxHeartbeats 8000000
def Patch.many (p : Patch) : Nat := 1 + p.note.size + p.deps.length + Sx.many p.l
def pmany (l : List Patch) : Nat := (l.map Patch.many).sum
def ppre (l : List Patch) (k : Nat) : Nat := ((l.take k).map Patch.many).sum
theorem ppre_succ {l : List Patch} {k : Nat} (h : k < l.length) : ppre l (k + 1) = ppre l k + l[k].many := by
 unfold ppre
 rw [List.take_succ_eq_append_getElem h, List.map_append, List.sum_append]
 simp only [List.map_cons, List.map_nil, List.sum_cons, List.sum_nil, Nat.add_zero]
theorem ppre_le (l : List Patch) (k : Nat) : ppre l k ≤ pmany l := by
 unfold ppre pmany
 have := sum_take (l.map Patch.many) k
 rw [← List.map_take] at this
 exact this
theorem many_len (l : List Prim) : l.length ≤ many l := by unfold many; omega
def aA : Prim := ⟨1, ⟨#[97]⟩, ⟨#[]⟩, 0, [], []⟩
def aB : Prim := ⟨1, ⟨#[98]⟩, ⟨#[]⟩, 0, [], []⟩
def aC : Prim := ⟨1, ⟨#[99]⟩, ⟨#[]⟩, 0, [], []⟩
def qA : Patch := ⟨1, ⟨#[]⟩, [], [aA]⟩
theorem fit_of {p : Prim} (h1 : p.old.length ≤ 2000000) (h2 : p.new.length ≤ 2000000) (h3 : p.name.size ≤ 2000000) (h4 : p.to.size ≤ 2000000) (h5 : p.old.all (fun s => decide (s.size ≤ 2000000)) = true) (h6 : p.new.all (fun s => decide (s.size ≤ 2000000)) = true) : p.fit :=
 ⟨h1, h2, h3, h4, (fun s h => by simpa using List.all_eq_true.1 h5 s h), (fun s h => by simpa using List.all_eq_true.1 h6 s h)⟩
theorem fitaA : aA.fit := fit_of (by decide) (by decide) (by decide) (by decide) (by decide) (by decide)
theorem fitaB : aB.fit := fit_of (by decide) (by decide) (by decide) (by decide) (by decide) (by decide)
theorem fitaC : aC.fit := fit_of (by decide) (by decide) (by decide) (by decide) (by decide) (by decide)
theorem fitqA : qA.fit := ⟨by decide, by decide, by decide, fun x h => by simp [qA] at h; subst h; exact fitaA⟩
theorem ptwo_eq {α β : Type} {a c : α} {b d : β} (h : (a, b) = (c, d)) : a = c ∧ b = d := by simpa using h
set_option maxRecDepth 100000 in
theorem c_Many7 (l : List Patch) (A : Option Addr) (c : Nat) (hl : l.length ≤ 2000000) (hf : ∀ x ∈ l, x.fit) (hM : pmany l ≤ 1000000000000) : Con Tryz.prog 41 [.slice A l.length c] [] [slA A l] Unit (fun _ => .int .i64 (pmany l : Int)) (fun _ => []) (fun _ => []) := by
 refine con func41 rfl ntmps41 rfl ?_
 intro M0 F0 w0
 refine k_ 19 ?_
 refine cl (ι := {q : Nat × Int // q.1 ≤ l.length ∧ q.2 = (ppre l q.1 : Nat)}) (fun i => St M0 F0 w0 28 [(6, .slice A l.length c), (7, .int .i64 (l.length : Int)), (8, .int .i64 (i.1.1 : Int)), (3, .int .i64 i.1.2)] [] [slA A l]) (fun i => l.length - i.1.1) ⟨(0, 0), by simp [ppre]⟩ (wk0 Φ Ω) ?_
 rintro ⟨⟨k, n⟩, hk, hn⟩
 refine cmono (S' := St M0 F0 w0 28 [(6, .slice A l.length c), (7, .int .i64 (l.length : Int)), (8, .int .i64 (k : Int)), (3, .int .i64 n)] [] [slA A l]) Ħ ?_
 refine k_ 6 ?_
 refine cc rfl ?_ ?_
 ·
  intro h9
  dsimp only at hk hn
  try simp only [nrmZ] at h9
  have hk1 : k < l.length := by omega
  have hs := ppre_succ hk1
  have ht := ppre_le l (k + 1)
  have hu : l[k].many = 1 + l[k].note.size + l[k].deps.length + many l[k].l := rfl
  refine k_ 5 ?_
  refine elC Θ k (List.getElem?_eq_getElem (l := l) hk1) ?_; rintro zbp zop zyp hAp
  refine cr ?_
  refine ls (op (p_ia k hAp hk1 rfl underlying27 sizeOf31 rfl rfl) rfl) ?_
  refine ls (o_ldj isAgg31 sizeOf31 rfl Θ 0 rfl Δ rfl) ?_
  refine ls (o_alloc zeroValue31 rfl rfl) ?_
  refine le ?_; intro b5
  refine k_ 3 ?_
  refine cdB [11] [(2, b5, 1, _), (6, b5, 2, _), (10, b5, 3, _)] TryzX.mixed Ψ Ψ (TOk.t (isBoxS Θ (k := 1) Δ) (TOk.t (isBoxS Θ (k := 1) Δ) (TOk.t (isBoxS Θ (k := 1) Δ) TOk.d))) ?_
  refine t_ 0 11 ?_
  refine dfB 11 Ψ ?_
  refine doRB rfl (o_call (is := []) call79 (c_Many l[k].l _ _ (hf _ (List.getElem_mem hk1)).ll (by omega)) rfl rfl Ω rfl) (TOk.t (isBoxE fun _ => isBoxS Θ (k := 1) Δ) (TOk.t (isBoxE fun _ => isBoxS Θ (k := 1) Δ) (TOk.xP 11 [] Ψ TOk.d))) ?_
  refine eaB ?_; intro x23
  refine t_ 12 3 ?_
  refine dnB Ψ ?_
  refine k_ 6 ?_
  refine nnext ⟨(k + 1, n + (((1 + (l[k].note.size : Int)) + l[k].deps.length) + (many l[k].l : Int))), hk1, by dsimp only; omega⟩ (by dsimp only; omega) (wK [])
 ·
  intro h9
  dsimp only at hk hn
  try simp only [nrmZ] at h9
  obtain rfl : k = l.length := by omega
  refine k_ 13 ?_
  refine rret (is := []) () (Or.inl rfl) (Res.t rfl Res.d) ?_ rfl Ω
  simp only [packV]; rw [hn]; unfold ppre pmany; rw [List.take_length]
end Go.Proofs.YtppjcjlijmldiaaGreatDoor.X
end
section
set_option linter.unusedVariables false
set_option linter.unusedSimpArgs false
namespace Go.Proofs.YtppjcjlijmldiaaGreatDoor.X
open Go Go.RowKit Go.Proofs Go.Sx
/-! Patches, and what they make of trees. -/
def pl (l : List Patch) : List Prim := (l.map Patch.l).flatten
theorem pl_nil : pl [] = [] := rfl
theorem pl_cons (p : Patch) (l : List Patch) : pl (p :: l) = p.l ++ pl l := rfl
theorem pl_app (a b : List Patch) : pl (a ++ b) = pl a ++ pl b := by unfold pl; rw [List.map_append, List.flatten_append]
theorem pl_one (p : Patch) : pl [p] = p.l := by show p.l ++ [] = _; rw [List.append_nil]
inductive SwR : List Prim → List Prim → Prop
  | refl {a} : SwR a a
  | step {a x l m f s y} : SwR a (x ++ (l ++ m) ++ y) → (f, s, true) = swT l m → SwR a (x ++ (f ++ s) ++ y)
theorem SwR.trans {a b c : List Prim} (h : SwR a b) (k : SwR b c) : SwR a c := by
  induction k with
  | refl => exact h
  | step _ e ih => exact .step ih e
theorem SwR.ctx {a b : List Prim} (h : SwR a b) (u v : List Prim) : SwR (u ++ a ++ v) (u ++ b ++ v) := by
  induction h with
  | refl => exact .refl
  | @step x l m f s y _ e ih =>
    have e1 : u ++ (x ++ (l ++ m) ++ y) ++ v = (u ++ x) ++ (l ++ m) ++ (y ++ v) := by simp only [List.append_assoc]
    have e2 : u ++ (x ++ (f ++ s) ++ y) ++ v = (u ++ x) ++ (f ++ s) ++ (y ++ v) := by simp only [List.append_assoc]
    rw [e1] at ih
    rw [e2]
    exact .step ih e
theorem SwR.one {l m f s : List Prim} (e : (f, s, true) = swT l m) : SwR (l ++ m) (f ++ s) := by
  have h : SwR (l ++ m) ([] ++ (l ++ m) ++ []) := by rw [List.append_nil, List.nil_append]; exact .refl
  have := h.step e
  rwa [List.append_nil, List.nil_append] at this
theorem SwR.runs {a b : List Prim} (h : SwR a b) {T U : List File} (hS : Sor T) (hr : Runs T a U) : Runs T b U := by
  induction h with
  | refl => exact hr
  | @step x l m f s y _ e ih =>
    obtain ⟨N, h1, h2⟩ := runs_app.1 ih
    obtain ⟨M, h3, h4⟩ := runs_app.1 h1
    exact runs_app.2 ⟨N, runs_app.2 ⟨M, h3, runs_swT (runs_sor h3 hS) h4 e⟩, h2⟩
theorem SwR.lns {a b : List Prim} (h : SwR a b) : lns b = lns a ∧ b.length = a.length := by
  induction h with
  | refl => exact ⟨rfl, rfl⟩
  | @step x l m f s y _ e ih =>
    have h1 := swT_lns e
    have h2 := swT_len e
    simp only [lns_app, List.length_append] at ih ⊢
    omega
theorem pswap_swr {p q a b : Patch} (h : (a, b, true) = pswap p q) : SwR (p.l ++ q.l) (a.l ++ b.l) := by
  obtain ⟨f, s, _, h2, rfl, rfl⟩ := pswap_true h
  exact .one h2
theorem pswap_eta (p q : Patch) (h : (pswap p q).2.2 = true) : ((pswap p q).1, (pswap p q).2.1, true) = pswap p q := by
  rw [← h]
theorem pl_split {l : List Patch} {k : Nat} (hk : k < l.length) : pl l = pl (l.take k) ++ (l[k].l ++ pl (l.drop (k + 1))) := by
  conv => lhs; rw [← List.take_append_drop k l, List.drop_eq_getElem_cons hk]
  rw [pl_app, pl_cons]
theorem lns_pl {l : List Patch} {k : Nat} (hk : k < l.length) : lns (pl (l.take k)) + lns l[k].l ≤ lns (pl l) ∧ (pl (l.take k)).length + l[k].l.length ≤ (pl l).length := by
  rw [pl_split hk]
  simp only [lns_app, List.length_append]
  omega
theorem mem_pl {l : List Patch} {p : Patch} (h : p ∈ l) : lns p.l ≤ lns (pl l) ∧ p.l.length ≤ (pl l).length := by
  obtain ⟨k, hk, rfl⟩ := List.mem_iff_getElem.1 h
  have := lns_pl hk
  omega
end Go.Proofs.YtppjcjlijmldiaaGreatDoor.X
end
section
set_option linter.unusedVariables false
set_option linter.unusedSimpArgs false
namespace Go.Proofs.YtppjcjlijmldiaaGreatDoor.X
open Go Go.RowKit Go.Proofs Go.Sx
/-! A log: patches, one behind the other, and what they make. -/
def idsP (l : List Patch) : List Int := l.map (·.id)
def atP (l : List Patch) (i : Int) : Int := match l.findIdx? (fun p => decide (p.id = i)) with
  | some k => (k : Int)
  | none => -1
theorem atP_no {l : List Patch} {i : Int} (h : l.any (fun p => decide (p.id = i)) = false) : atP l i = -1 := by
  unfold atP
  have : l.findIdx? (fun p => decide (p.id = i)) = none := by
    rw [List.findIdx?_eq_none_iff]
    intro x hx
    exact List.any_eq_false.1 h x hx |> fun h => by simpa using h
  rw [this]
theorem atP_yes {l : List Patch} {i : Int} {k : Nat} (hk : k < l.length) (h1 : (l.take k).any (fun p => decide (p.id = i)) = false) (h2 : decide (l[k].id = i) = true) : atP l i = (k : Int) := by
  unfold atP
  have : l.findIdx? (fun p => decide (p.id = i)) = some k := by
    rw [List.findIdx?_eq_some_iff_getElem]
    refine ⟨hk, h2, fun j hj => ?_⟩
    have h3 := List.any_eq_false.1 h1 l[j] (by rw [List.mem_take_iff_getElem]; exact ⟨j, by omega, rfl⟩)
    simpa using h3
  rw [this]
theorem atP_cases (l : List Patch) (i : Int) : (atP l i = -1 ∧ i ∉ idsP l) ∨ ∃ k : Nat, ∃ h : k < l.length, atP l i = (k : Int) ∧ l[k].id = i ∧ ∀ j (hj : j < k), l[j].id ≠ i := by
  unfold atP
  cases e : l.findIdx? (fun p => decide (p.id = i)) with
  | none =>
    left
    refine ⟨rfl, fun h => ?_⟩
    obtain ⟨p, hp, rfl⟩ := List.mem_map.1 h
    have := List.findIdx?_eq_none_iff.1 e p hp
    simp at this
  | some k =>
    right
    obtain ⟨hk, h1, h2⟩ := List.findIdx?_eq_some_iff_getElem.1 e
    exact ⟨k, hk, rfl, by simpa using h1, fun j hj => by simpa using h2 j hj⟩
def treeP (l : List Patch) : List File := l.foldl (fun t p => (rowT t p.l).1) []
theorem treeP_snoc (l : List Patch) (p : Patch) : treeP (l ++ [p]) = (rowT (treeP l) p.l).1 := by
  unfold treeP; rw [List.foldl_append]; rfl
theorem tree_fold : ∀ {l : List Patch} {T U : List File}, Runs T (pl l) U → l.foldl (fun t p => (rowT t p.l).1) T = U := by
  intro l
  induction l with
  | nil => intro T U h; exact h.symm ▸ rfl
  | cons p l ih =>
    intro T U h
    rw [pl_cons] at h
    obtain ⟨M, h1, h2⟩ := runs_app.1 h
    rw [List.foldl_cons, rowT_ok h1]
    exact ih h2
theorem tree_runs {l : List Patch} {T : List File} (h : Runs [] (pl l) T) : treeP l = T := tree_fold h
structure LogOk (l : List Patch) (T : List File) : Prop where
  runs : Runs [] (pl l) T
  nodup : (idsP l).Nodup
  fit : ∀ p ∈ l, p.fit
theorem LogOk.tree {l : List Patch} {T : List File} (h : LogOk l T) : treeP l = T := tree_runs h.runs
theorem LogOk.nil : LogOk [] [] := ⟨rfl, List.nodup_nil, (fun p hp => by cases hp)⟩
theorem LogOk.add {l : List Patch} {T U : List File} {p : Patch} (h : LogOk l T) (hp : p.fit) (ha : atP l p.id = -1) (hr : Runs T p.l U) : LogOk (l ++ [p]) U := by
  refine ⟨by rw [pl_app, pl_one]; exact runs_app.2 ⟨T, h.runs, hr⟩, ?_, fun q hq => ?_⟩
  · have hn : p.id ∉ idsP l := by
      rcases atP_cases l p.id with ⟨_, h1⟩ | ⟨k, hk, h1, _⟩
      · exact h1
      · omega
    unfold idsP at *
    rw [List.map_append, List.nodup_append]
    refine ⟨h.nodup, by simp, fun a ha b hb e => ?_⟩
    simp only [List.map_cons, List.map_nil, List.mem_singleton] at hb
    rw [e, hb] at ha
    exact hn ha
  · rcases List.mem_append.1 hq with hq | hq
    · exact h.fit q hq
    · rw [List.mem_singleton.1 hq]; exact hp
def lastF (p : Patch) : List Patch → Option (List Patch × Patch)
  | [] => some ([], p)
  | q :: r => if (pswap p q).2.2 then (lastF (pswap p q).2.1 r).map fun x => ((pswap p q).1 :: x.1, x.2) else none
theorem lastF_snoc : ∀ {r : List Patch} {p : Patch} {s : List Patch} {b : Patch} (q : Patch), lastF p r = some (s, b) → lastF p (r ++ [q]) = if (pswap b q).2.2 then some (s ++ [(pswap b q).1], (pswap b q).2.1) else none := by
  intro r
  induction r with
  | nil =>
    intro p s b q h
    simp only [lastF, Option.some.injEq, Prod.mk.injEq] at h
    obtain ⟨rfl, rfl⟩ := h
    simp only [List.nil_append, lastF]
    split <;> simp
  | cons x r ih =>
    intro p s b q h
    simp only [lastF] at h
    simp only [List.cons_append, lastF]
    by_cases hc : (pswap p x).2.2 = true
    · rw [if_pos hc] at h ⊢
      cases hl : lastF (pswap p x).2.1 r with
      | none => rw [hl] at h; cases h
      | some y =>
        obtain ⟨s', b'⟩ := y
        rw [hl] at h
        simp only [Option.map_some, Option.some.injEq, Prod.mk.injEq] at h
        obtain ⟨rfl, rfl⟩ := h
        rw [ih q hl]
        split <;> simp
    · rw [if_neg hc] at h; cases h
theorem lastF_none : ∀ {r m : List Patch} {p : Patch}, lastF p r = none → lastF p (r ++ m) = none := by
  intro r
  induction r with
  | nil => intro m p h; cases h
  | cons x r ih =>
    intro m p h
    simp only [lastF] at h
    simp only [List.cons_append, lastF]
    by_cases hc : (pswap p x).2.2 = true
    · rw [if_pos hc] at h ⊢
      cases hl : lastF (pswap p x).2.1 r with
      | none => rw [ih hl]; rfl
      | some y => rw [hl] at h; cases h
    · rw [if_neg hc]
theorem lastF_swr : ∀ {r : List Patch} {p : Patch} {s : List Patch} {b : Patch}, lastF p r = some (s, b) → SwR (p.l ++ pl r) (pl s ++ b.l) := by
  intro r
  induction r with
  | nil =>
    intro p s b h
    simp only [lastF, Option.some.injEq, Prod.mk.injEq] at h
    obtain ⟨rfl, rfl⟩ := h
    rw [pl_nil, List.append_nil, List.nil_append]; exact .refl
  | cons x r ih =>
    intro p s b h
    simp only [lastF] at h
    by_cases hc : (pswap p x).2.2 = true
    · rw [if_pos hc] at h
      cases hl : lastF (pswap p x).2.1 r with
      | none => rw [hl] at h; cases h
      | some y =>
        obtain ⟨s', b'⟩ := y
        rw [hl] at h
        simp only [Option.map_some, Option.some.injEq, Prod.mk.injEq] at h
        obtain ⟨rfl, rfl⟩ := h
        have h1 := (pswap_swr (pswap_eta p x hc)).ctx [] (pl r)
        have h2 := (ih hl).ctx (pswap p x).1.l []
        simp only [List.nil_append, List.append_nil, List.append_assoc] at h1 h2
        rw [pl_cons, pl_cons]
        simp only [List.append_assoc]
        exact h1.trans h2
    · rw [if_neg hc] at h; cases h
theorem pswap_ids {p q : Patch} (h : (pswap p q).2.2 = true) : (pswap p q).1.id = q.id ∧ (pswap p q).2.1.id = p.id := by
  unfold pswap at h ⊢
  split
  · exact ⟨rfl, rfl⟩
  · rename_i hc; rw [if_neg hc] at h; cases h
theorem lastF_ids : ∀ {r : List Patch} {p : Patch} {s : List Patch} {b : Patch}, lastF p r = some (s, b) → idsP s = idsP r ∧ b.id = p.id := by
  intro r
  induction r with
  | nil =>
    intro p s b h
    simp only [lastF, Option.some.injEq, Prod.mk.injEq] at h
    obtain ⟨rfl, rfl⟩ := h
    exact ⟨rfl, rfl⟩
  | cons x r ih =>
    intro p s b h
    simp only [lastF] at h
    by_cases hc : (pswap p x).2.2 = true
    · rw [if_pos hc] at h
      cases hl : lastF (pswap p x).2.1 r with
      | none => rw [hl] at h; cases h
      | some y =>
        obtain ⟨s', b'⟩ := y
        rw [hl] at h
        simp only [Option.map_some, Option.some.injEq, Prod.mk.injEq] at h
        obtain ⟨rfl, rfl⟩ := h
        obtain ⟨h1, h2⟩ := ih hl
        obtain ⟨h3, h4⟩ := pswap_ids hc
        exact ⟨by unfold idsP at *; rw [List.map_cons, List.map_cons, h1, h3], h2.trans h4⟩
    · rw [if_neg hc] at h; cases h
theorem lastF_fit : ∀ {r : List Patch} {p : Patch} {s : List Patch} {b : Patch}, lastF p r = some (s, b) → p.fit → (∀ q ∈ r, q.fit) → (∀ q ∈ s, q.fit) ∧ b.fit := by
  intro r
  induction r with
  | nil =>
    intro p s b h hp _
    simp only [lastF, Option.some.injEq, Prod.mk.injEq] at h
    obtain ⟨rfl, rfl⟩ := h
    exact ⟨(fun q hq => by cases hq), hp⟩
  | cons x r ih =>
    intro p s b h hp hr
    simp only [lastF] at h
    by_cases hc : (pswap p x).2.2 = true
    · rw [if_pos hc] at h
      cases hl : lastF (pswap p x).2.1 r with
      | none => rw [hl] at h; cases h
      | some y =>
        obtain ⟨s', b'⟩ := y
        rw [hl] at h
        simp only [Option.map_some, Option.some.injEq, Prod.mk.injEq] at h
        obtain ⟨rfl, rfl⟩ := h
        have hf := pswap_fit hp (hr x (by simp))
        obtain ⟨h1, h2⟩ := ih hl hf.2 (fun q hq => hr q (by simp [hq]))
        refine ⟨fun q hq => ?_, h2⟩
        rcases List.mem_cons.1 hq with rfl | hq
        · exact hf.1
        · exact h1 q hq
    · rw [if_neg hc] at h; cases h
theorem LogOk.last {l : List Patch} {T : List File} {k : Nat} {s : List Patch} {b : Patch} (h : LogOk l T) (hk : k < l.length) (hl : lastF l[k] (l.drop (k + 1)) = some (s, b)) : LogOk (l.take k ++ s ++ [b]) T := by
  have e : l = l.take k ++ (l[k] :: l.drop (k + 1)) := by rw [← List.drop_eq_getElem_cons hk, List.take_append_drop]
  obtain ⟨h1, h2⟩ := lastF_ids hl
  have hsw := (lastF_swr hl).ctx (pl (l.take k)) []
  refine ⟨?_, ?_, ?_⟩
  · have hr := h.runs
    rw [e, pl_app, pl_cons] at hr
    have := hsw.runs Sor.nil (by simpa [List.append_assoc] using hr)
    rw [pl_app, pl_app, pl_one]
    simpa [List.append_assoc] using this
  · have hn := h.nodup
    rw [e] at hn
    unfold idsP at *
    rw [List.map_append, List.map_cons] at hn
    rw [List.map_append, List.map_append, h1, List.map_cons, List.map_nil, h2]
    refine List.Perm.nodup ?_ hn
    rw [List.append_assoc]
    exact List.Perm.append_left _ (List.perm_append_singleton _ _).symm
  · have hf := lastF_fit hl (h.fit _ (List.getElem_mem hk)) (fun q hq => h.fit q (List.mem_of_mem_drop hq))
    intro q hq
    rcases List.mem_append.1 hq with hq | hq
    · rcases List.mem_append.1 hq with hq | hq
      · exact h.fit q (List.mem_of_mem_take hq)
      · exact hf.1 q hq
    · rw [List.mem_singleton.1 hq]; exact hf.2
theorem LogOk.drop {l : List Patch} {T : List File} {p : Patch} (h : LogOk (l ++ [p]) T) : ∃ U, LogOk l U ∧ Runs T (invL p.l) U := by
  have hr := h.runs
  rw [pl_app, pl_one] at hr
  obtain ⟨M, h1, h2⟩ := runs_app.1 hr
  refine ⟨M, ⟨h1, ?_, fun q hq => h.fit q (by simp [hq])⟩, runs_back (runs_sor h1 Sor.nil) (runs_good h1 (fun x hx => by cases hx)) h2⟩
  have hn := h.nodup
  unfold idsP at *
  rw [List.map_append] at hn
  exact (List.nodup_append.1 hn).1
end Go.Proofs.YtppjcjlijmldiaaGreatDoor.X
end
section
set_option linter.unusedVariables false
set_option linter.unusedSimpArgs false
namespace Go.Proofs.YtppjcjlijmldiaaGreatDoor.X
open Go Go.RowKit Go.Proofs Go.Sx
/-! What the log's calls compute. -/
def getP (l : List Patch) (v : Int) : Patch × Bool := if h : 0 ≤ atP l v ∧ (atP l v).toNat < l.length then (l[(atP l v).toNat]'h.2, true) else (Patch.zero, false)
theorem getP_no {l : List Patch} {v : Int} (h : atP l v < 0) : getP l v = (Patch.zero, false) := by
  unfold getP; rw [dif_neg (by omega)]
theorem getP_yes {l : List Patch} {v : Int} {k : Nat} (hk : k < l.length) (h : atP l v = (k : Int)) : getP l v = (l[k], true) := by
  unfold getP
  have e : (atP l v).toNat = k := by omega
  rw [dif_pos ⟨by omega, by omega⟩]
  simp only [e]
def dropP (l : List Patch) (T : List File) : (List Patch × List File) × (Patch × Bool) := if h : 0 < l.length then ((l.take (l.length - 1), (rowT T (invL (l[l.length - 1]'(by omega)).l)).1), (l[l.length - 1]'(by omega), true)) else ((l, T), (Patch.zero, false))
theorem dropP_no {l : List Patch} {T : List File} (h : ¬ 0 < l.length) : dropP l T = ((l, T), (Patch.zero, false)) := by unfold dropP; rw [dif_neg h]
theorem dropP_yes {l : List Patch} {T U : List File} {e : Int} (h : 0 < l.length) (hq : (U, e) = rowT T (invL (l[l.length - 1]'(by omega)).l)) : dropP l T = ((l.take (l.length - 1), U), (l[l.length - 1]'(by omega), true)) := by
  unfold dropP; rw [dif_pos h, ← hq]
def lastP (l : List Patch) (v : Int) : List Patch × Int := if h : 0 ≤ atP l v ∧ (atP l v).toNat < l.length then
    (match lastF (l[(atP l v).toNat]'h.2) (l.drop ((atP l v).toNat + 1)) with
    | some x => (l.take (atP l v).toNat ++ x.1 ++ [x.2], 0)
    | none => (l, 83)) else (l, 81)
theorem lastP_no {l : List Patch} {v : Int} (h : atP l v < 0) : lastP l v = (l, 81) := by
  unfold lastP; rw [dif_neg (by omega)]
theorem lastP_some {l : List Patch} {v : Int} {k : Nat} {s : List Patch} {b : Patch} (hk : k < l.length) (h : atP l v = (k : Int)) (hl : lastF l[k] (l.drop (k + 1)) = some (s, b)) : lastP l v = (l.take k ++ s ++ [b], 0) := by
  unfold lastP
  have e : (atP l v).toNat = k := by omega
  rw [dif_pos ⟨by omega, by omega⟩]
  simp only [e, hl]
theorem lastP_none {l : List Patch} {v : Int} {k : Nat} (hk : k < l.length) (h : atP l v = (k : Int)) (hl : lastF l[k] (l.drop (k + 1)) = none) : lastP l v = (l, 83) := by
  unfold lastP
  have e : (atP l v).toNat = k := by omega
  rw [dif_pos ⟨by omega, by omega⟩]
  simp only [e, hl]
theorem any_of {α : Type} {l : List α} {f : α → Bool} {r : Int} (h : (r = -1 ∧ l.any f = false) ∨ ∃ k : Nat, r = (k : Int) ∧ ∃ h : k < l.length, (l.take k).any f = false ∧ f l[k] = true) : decide ((0 : Int) ≤ r) = l.any f := by
  rcases h with ⟨rfl, h⟩ | ⟨k, rfl, hk, h1, h2⟩
  · rw [h]; rfl
  · rw [List.any_eq_true.2 ⟨l[k], List.getElem_mem hk, h2⟩]; exact decide_eq_true (by omega)
def addP (l : List Patch) (T : List File) (q : Patch) : (List Patch × List File) × Int :=
  if q.right = false then ((l, T), 70) else if 0 ≤ atP l q.id then ((l, T), 80) else if (q.deps.any fun d => decide (atP l d < 0)) = true then ((l, T), 82) else
  if (rowT T q.l).2 = 0 then ((l ++ [q], (rowT T q.l).1), 0) else ((l, (rowT T q.l).1), (rowT T q.l).2)
theorem addP_form {l : List Patch} {T : List File} {q : Patch} (h : q.right = false) : addP l T q = ((l, T), 70) := by unfold addP; rw [if_pos h]
theorem addP_twice {l : List Patch} {T : List File} {q : Patch} (h : q.right = true) (ha : 0 ≤ atP l q.id) : addP l T q = ((l, T), 80) := by unfold addP; rw [if_neg (by rw [h]; simp), if_pos ha]
theorem addP_deps {l : List Patch} {T : List File} {q : Patch} (h : q.right = true) (ha : ¬ 0 ≤ atP l q.id) (hd : (q.deps.any fun d => decide (atP l d < 0)) = true) : addP l T q = ((l, T), 82) := by unfold addP; rw [if_neg (by rw [h]; simp), if_neg ha, if_pos hd]
theorem addP_no {l : List Patch} {T U : List File} {q : Patch} {e : Int} (h : q.right = true) (ha : ¬ 0 ≤ atP l q.id) (hd : (q.deps.any fun d => decide (atP l d < 0)) = false) (hq : (U, e) = rowT T q.l) (he : ¬ e = 0) : addP l T q = ((l, U), e) := by
  unfold addP; rw [if_neg (by rw [h]; simp), if_neg ha, if_neg (by rw [hd]; simp), ← hq, if_neg he]
theorem addP_yes {l : List Patch} {T U : List File} {q : Patch} (h : q.right = true) (ha : ¬ 0 ≤ atP l q.id) (hd : (q.deps.any fun d => decide (atP l d < 0)) = false) (hq : (U, 0) = rowT T q.l) : addP l T q = ((l ++ [q], U), 0) := by
  unfold addP; rw [if_neg (by rw [h]; simp), if_neg ha, if_neg (by rw [hd]; simp), ← hq, if_pos rfl]
theorem lastF_len : ∀ {r : List Patch} {p : Patch} {s : List Patch} {b : Patch}, lastF p r = some (s, b) → s.length = r.length := by
  intro r p s b h
  have := congrArg List.length (lastF_ids h).1
  simpa [idsP] using this
theorem lastF_stuck {D : List Patch} {q0 b : Patch} {k : Nat} {s : List Patch} {r1 r2 : Patch} (hk : k < D.length) (h : lastF q0 (D.take k) = some (s, b)) (hr : (r1, r2, false) = pswap b D[k]) : lastF q0 D = none := by
  have h1 := lastF_snoc D[k] h
  rw [if_neg (by rw [← hr]; simp), ← List.take_succ_eq_append_getElem hk] at h1
  have h2 := lastF_none (m := D.drop (k + 1)) h1
  rwa [List.take_append_drop] at h2
theorem lastF_step {D : List Patch} {q0 b : Patch} {k : Nat} {s : List Patch} {r1 r2 : Patch} (hk : k < D.length) (h : lastF q0 (D.take k) = some (s, b)) (hr : (r1, r2, true) = pswap b D[k]) : lastF q0 (D.take (k + 1)) = some (s ++ [r1], r2) := by
  rw [List.take_succ_eq_append_getElem hk, lastF_snoc D[k] h, ← hr, if_pos rfl]
theorem ppastR_len : ∀ (r : List Patch) (q : Patch) (rest : List Patch) {q' : Patch} {rest' : List Patch}, ppastR r q rest = some (q', rest') → rest'.length = r.length + rest.length
  | [], q, rest, q', rest', h => by
    simp only [ppastR, Option.some.injEq, Prod.mk.injEq] at h
    rw [← h.2]; simp
  | x :: r, q, rest, q', rest', h => by
    simp only [ppastR] at h
    split at h
    · have := ppastR_len r _ _ h
      simp only [List.length_cons] at this ⊢
      omega
    · cases h
theorem ppast_len {g : List Patch} {q : Patch} (h : (ppast g q).2.2 = true) : (ppast g q).2.1.length = g.length := by
  unfold ppast at h ⊢
  cases e : ppastR g.reverse q [] with
  | none => rw [e] at h; cases h
  | some r =>
    have := ppastR_len g.reverse q [] (q' := r.1) (rest' := r.2) e
    simpa using this
theorem groupF_pos : ∀ (l g r : List Patch), 0 < g.length → 0 < (groupF l g r).1.length
  | [], g, r, h => h
  | q :: l, g, r, h => by
    unfold groupF
    split
    · rename_i hc
      exact groupF_pos l _ _ (by rw [ppast_len hc]; exact h)
    · exact groupF_pos l _ _ (by simp)
theorem group_pos {l g r : List Patch} (h : 0 < l.length) (e : (g, r) = group l) : 0 < g.length := by
  cases l with
  | nil => simp at h
  | cons p l =>
    have := groupF_pos l [p] [] (by simp)
    have e1 : g = (groupF l [p] []).1 := congrArg Prod.fst e
    rw [e1]; exact this
def needsP (l : List Patch) (v : Int) : List Int := if 0 ≤ atP l v then idsP ((group (l.drop (atP l v).toNat)).1.drop 1) else []
theorem needsP_no {l : List Patch} {v : Int} (h : atP l v < 0) : needsP l v = [] := by unfold needsP; rw [if_neg (by omega)]
theorem needsP_yes {l g r : List Patch} {v : Int} {k : Nat} (h : atP l v = (k : Int)) (e : (g, r) = group (l.drop k)) : needsP l v = idsP (g.drop 1) := by
  unfold needsP
  rw [if_pos (by omega), h, Int.toNat_natCast, ← e]
end Go.Proofs.YtppjcjlijmldiaaGreatDoor.X
end
section
set_option linter.unusedVariables false
set_option linter.unusedSimpArgs false
namespace Go.Sx
open Go Go.RowKit Go.Lib
/-! append(nil, make([]T, k)...) -/
theorem loc_appZ {P : Program} {α : Type} [Rp α] (z0 : α) (y0 : Rp.Lay α) {t tn e ty' : TypeId} {zv : Value} {bytes : Nat} {k1 kn : IntKind} (k : Nat) (ht : P.underlying t = some (.slice e)) (htn : P.underlying tn = some (.int kn)) (hinfo : (P.info? e).map (fun i => (i.zero, i.size, i.bytes)) = some (some zv, Rp.size α, bytes))
    (hz : zv.cells = (Rp.enc z0 y0).toArray) (hs0 : 0 < Rp.size α) (hb0 : 0 < bytes) (ha : ∀ M w, ∀ p ∈ Rp.asn z0 y0, p.p M w) (h0 : 0 < k) (hl : k * bytes ≤ 140737488355328) :
    Loc P (fun w => (Builtin.append_ #[t, tn] ty' #[.slice none 0 0, .int k1 (k : Int)]).run P w) [] [] (Nat × {c : Nat // k ≤ c}) (fun y => .slice (some ⟨y.1, 0, none⟩) k y.2.1) (fun y => [row e (some ⟨y.1, 0, none⟩) y.2.1 (List.replicate k z0)]) (fun _ => []) := by
  obtain ⟨i0, hi, hz0, hz1, hz2⟩ := info_parts hinfo
  intro M0 Fs w hh
  have hk1 : k * 1 ≤ k * bytes := Nat.mul_le_mul_left _ hb0
  have hr := run_append_nil_zeros (P := P) w t tn ty' e i0 zv k1 kn ht htn hi hz0 k h0 (by rw [hz1]; exact hs0) (by omega) (by rw [hz2]; omega)
  have hnil : Fs = [] := by
    cases Fs with
    | nil => rfl
    | cons _ _ => exact hh.ex.elim
  subst hnil
  have hd : Hp M0 (own []) w [] [] [] w.drew := ⟨trivial, .nil, fun b hb => absurd hb (own_nil b), fun b hb => absurd hb (own_nil b), fun b hb => absurd hb (own_nil b), (fun p hp => by cases hp), ⟨rfl, rfl, rfl, Nat.le_refl _, fun _ _ _ => rfl⟩, hh.m0, hh.f0⟩
  have hc : k ≤ grownCap w k 0 e := grownCap_ge w k 0 e
  have hm : grownCap w k 0 e ≤ maxLen := grownCap_le_maxLen w k 0 e (by simp only [maxLen]; omega)
  have hlen := Rp.len z0 y0
  have hsz : zv.cells.size = Rp.size α := by rw [hz]; simp [hlen]
  have hmade : (Builtin.zeroCells zv.cells k).toList = (List.replicate k (Rp.enc z0 y0)).flatten := by
    have := made_flat (Rp.enc z0 y0) (by rw [hlen]; exact hs0) k
    rw [← this, hlen]
    show ((Array.range (k * zv.cells.size)).map fun i => zv.cells[i % zv.cells.size]!).toList = _
    rw [hsz, hz]
    unfold madeCells
    rw [show (Rp.enc z0 y0).toArray.size = Rp.size α by simp [hlen]]
  refine ⟨(w.heap.size, ⟨grownCap w k 0 e, hc⟩), _, _, hr, hd.alloc' _ _ ?_⟩
  have hrow := RowE.rep (M := fun b => M0 b ∨ own [] b) (w := w.drew) z0 y0 (fun p hp => ha _ _ p hp) k
  refine ⟨(List.replicate k (Rp.enc z0 y0)).flatten, ⟨hrow.length, .inr ⟨w.heap.size, grownCap w k 0 e, Builtin.zeroCells zv.cells k ++ Builtin.zeroCells zv.cells (grownCap w k 0 e - k), by rw [List.length_replicate], Nat.zero_le _, ?_, ?_, ?_, ?_, ?_⟩⟩, fun x => by simp [Value.ownBlock, eq_comm], ?_⟩
  · show (w.heap.push _)[w.heap.size]? = _
    simp
  · rw [List.length_replicate]; omega
  · exact hm
  · rw [Array.size_append, size_zeroCells, size_zeroCells, hsz, ← Nat.add_mul]; congr 1; omega
  · rw [List.length_replicate, Array.toList_append, ← hmade]
    exact List.take_left' (by rw [Array.length_toList, size_zeroCells, hsz])
  · exact hrow.st (fun b hb _ => Below.heap_alloc w.drew _ b hb) (fun b hb hm => by
      rcases hm with hm | hm
      · exact .inl hm
      · rcases own_cons.1 hm with e' | e'
        · exact absurd e' (Nat.ne_of_lt hb)
        · exact .inr e') (by simp)
section
variable {ro : Option Nat} {P : Program} {M0 F0 : Nat → Prop} {w0 : World} {n : Nm} {σ : List (Nat × Value)} {Ξ : List Xsn} {Γ : List Asn} {d : Nat} {ty : TypeId} {pos : String} {af : Array Edge}
theorem p_cap {T : World → Prop} {x : Operand} {t e : TypeId} {A : Option Addr} {l c : Nat} (hx : ev σ x = some (.slice A l c)) (ht : P.underlying t = some (.slice e)) : Pu P n σ T ⟨some d, .call ⟨.builtin .cap, #[x], #[t]⟩, ty, pos, af, none⟩ (.int .i64 (c : Int)) :=
  fun a hs w _ => by simp [execOp, resolve, invoke, builtin, hs.ev hx, Builtin.cap_, run_underlying ht, goInt]
theorem o_appZ {α : Type} [Rp α] (z0 : α) (y0 : Rp.Lay α) (k : Nat) {x y : Operand} {t tn e : TypeId} {zv : Value} {bytes : Nat} {k1 kn : IntKind} {m1 : Int} (ht : P.underlying t = some (.slice e)) (htn : P.underlying tn = some (.int kn)) (hinfo : (P.info? e).map (fun i => (i.zero, i.size, i.bytes)) = some (some zv, Rp.size α, bytes))
    (hz : zv.cells = (Rp.enc z0 y0).toArray) (hs0 : 0 < Rp.size α) (hb0 : 0 < bytes) (ha : ∀ M w, ∀ p ∈ Rp.asn z0 y0, p.p M w) (h0 : 0 < k) (hl : k * bytes ≤ 140737488355328) (hm1 : m1 = (k : Int)) (hx : ev σ x = some (.slice none 0 0)) (hy : ev σ y = some (.int k1 m1)) (hd : Nat.blt d n.n = true) :
    OpR P ⟨some d, .call ⟨.builtin .append, #[x, y], #[t, tn]⟩, ty, pos, af, none⟩ (St M0 F0 w0 n σ Ξ Γ) (fun a w => ∃ q : Nat × {c : Nat // k ≤ c}, St M0 F0 w0 n ((d, .slice (some ⟨q.1, 0, none⟩) k q.2.1) :: σ) (row e (some ⟨q.1, 0, none⟩) q.2.1 (List.replicate k z0) :: Ξ) Γ a w) := by
  subst hm1
  refine (o_loc (Γi := []) (is := []) (loc_appZ (P := P) (ty' := ty) (k1 := k1) z0 y0 k ht htn hinfo hz hs0 hb0 ha h0 hl) ?_ rfl .d hd).mono fun a w h => h
  intro a hsl w v w' hr
  have h1 := hsl.ev hx
  have h2 := hsl.ev hy
  have hm : (#[x, y] : Array Operand).map a.eval = #[.slice none 0 0, .int k1 (k : Int)] := by simp [h1, h2]
  simp only [execOp, resolve, invoke, builtin, hm]
  simp [hr]
end
end Go.Sx
namespace Go.Sx
open Go Go.RowKit
section
variable {ro : Option Nat} {P : Program} {ops : Array Oper} {l : List Oper} {Q : Exit → Act → World → Prop} {S : Act → World → Prop} {ef : List Nat} {TL : List (Nat × Nat × Nat × List Value)} {fuel : Nat} {L : List Nat}
theorem apure {φ : Prop} (hs : ∀ a w, S a w → φ) (k : φ → TrA ro P ops Q ef TL S fuel L) : TrA ro P ops Q ef TL S fuel L := fun hcl a w h hT => k (hs a w h) hcl a w h hT
end
end Go.Sx
namespace Go.Sx
open Go Go.RowKit
section
variable {M0 F0 : Nat → Prop} {w0 : World} {n : Nm} {σ : List (Nat × Value)} {Ξ : List Xsn} {Γ : List Asn}
theorem sub_nil {A : Option Addr} {c lo : Nat} {f : Addr → Addr} (hA : A = none → c = 0) (e : (if c = lo then A else A.map f) = none) : c - lo = 0 := by
  split at e
  · omega
  · have : A = none := by cases A with | none => rfl | some x => cases e
    have := hA this
    omega
end
end Go.Sx
end
section
set_option linter.unusedVariables false
set_option linter.unusedSimpArgs false
namespace Go.Proofs.YtppjcjlijmldiaaGreatDoor.X
open Go Go.RowKit Go.Proofs Go.Sx
open Tryz
attribute [local irreducible] slA isA box row TrL TrC TrN TrA Pu OpR
set_option maxHeartbeats 8000000
theorem atP_of {l : List Patch} {v : Int} {r : Int} (h : (r = -1 ∧ (l.any fun q => decide (q.id = v)) = false) ∨ ∃ k : Nat, r = (k : Int) ∧ ∃ h : k < l.length, ((l.take k).any fun q => decide (q.id = v)) = false ∧ decide (l[k].id = v) = true) : r = atP l v := by
 rcases h with ⟨rfl, h⟩ | ⟨k, rfl, hk, h1, h2⟩
 ·
  exact (atP_no h).symm
 ·
  exact (atP_yes hk h1 h2).symm
theorem ids_take {l : List Patch} {k : Nat} (h : k < l.length) : idsP (l.take (k + 1)) = idsP (l.take k) ++ [l[k].id] := by
 unfold idsP; rw [List.take_succ_eq_append_getElem h, List.map_append]; rfl
set_option maxRecDepth 100000 in
theorem c_logAt1 (q : Patch) (y : Rp.Lay Patch) (b u : Nat) (v : Int) : Con Tryz.prog 90 [sv q y, .pointer (some ⟨b, 0, none⟩)] [box b 3 [.int .i64 v]] [] Unit (fun _ => .bool (decide (q.id = v))) (fun _ => [box b 3 [.int .i64 v]]) (fun _ => []) := by
 refine con func90 rfl ntmps90 rfl ?_
 intro M0 F0 w0
 refine k_ 2 ?_
 refine ls (o_box rfl rfl rfl) ?_
 refine le ?_; intro b2
 refine k_ 14 ?_
 exact rR [1] ()
set_option maxRecDepth 100000 in
theorem c_IndexFuncO (l : List Patch) (A : Option Addr) (c : Nat) (hl : l.length ≤ 2000000) (f : Patch → Bool) (g : FuncId) (cap : List Value) (x : Xsn) (hcf : ∀ args w, (callFunc g args).run Tryz.prog w = .ok (.enter g args) w) (hg : ∀ q y, Con Tryz.prog g (sv q y :: cap) [x] [] Unit (fun _ => .bool (f q)) (fun _ => [x]) (fun _ => [])) : Con Tryz.prog 89 [.slice A l.length c, .func (.func g) #[] cap.toArray] [x] [slA A l] {r : Int // (r = -1 ∧ l.any f = false) ∨ ∃ k : Nat, r = (k : Int) ∧ ∃ h : k < l.length, (l.take k).any f = false ∧ f l[k] = true} (fun r => .int .i64 r.1) (fun _ => [x]) (fun _ => []) := by
 refine con func89 rfl ntmps89 rfl ?_
 intro M0 F0 w0
 refine k_ 14 ?_
 refine cl (ι := {k : Nat // k ≤ l.length ∧ (l.take k).any f = false}) (fun i => St M0 F0 w0 19 [(0, .slice A l.length c), (1, .func (.func g) #[] cap.toArray), (7, .int .i64 (l.length : Int)), (8, .int .i64 (i.1 : Int))] [x] [slA A l]) (fun i => l.length - i.1) ⟨0, by simp⟩ (wk0 Φ Ω) ?_
 rintro ⟨k, hk, hkk⟩
 refine cmono (S' := St M0 F0 w0 19 [(0, .slice A l.length c), (1, .func (.func g) #[] cap.toArray), (7, .int .i64 (l.length : Int)), (8, .int .i64 (k : Int))] [x] [slA A l]) Ħ ?_
 refine k_ 6 ?_
 refine cc rfl ?_ ?_
 ·
  intro h9
  try simp only [nrmZ] at h9
  have hk1 : k < l.length := by omega
  refine k_ 11 ?_
  refine elC Θ k (List.getElem?_eq_getElem (l := l) hk1) ?_; rintro zbp zop zyp hAp
  refine k_ 4 ?_
  refine ls (op (p_ia k hAp hk1 rfl underlying37 sizeOf55 rfl rfl) rfl) ?_
  refine ls (o_ldj isAgg55 sizeOf55 rfl Θ 0 rfl Δ rfl) ?_
  refine ls (o_callv (is := [0]) rfl hcf (hg l[k] zyp) rfl rfl rfl Ω rfl) ?_
  refine le ?_; intro x16
  refine k_ 2 ?_
  refine cc rfl ?_ ?_
  ·
   intro h16
   try simp only [nrmZ] at h16
   refine k_ 8 ?_
   exact rR [0] ⟨(k : Int), .inr ⟨k, rfl, hk1, hkk, h16⟩⟩
  ·
   intro h16
   try simp only [nrmZ] at h16
   refine k_ 7 ?_
   refine nnext ⟨k + 1, hk1, by rw [List.take_succ_eq_append_getElem hk1, List.any_append, hkk]; simp [h16]⟩ (by dsimp only; omega) (wK [0])
 ·
  intro h9
  try simp only [nrmZ] at h9
  refine k_ 12 ?_
  exact rR [0] ⟨-1, .inl ⟨rfl, by rw [List.take_of_length_le (by omega)] at hkk; exact hkk⟩⟩
set_option maxRecDepth 100000 in
theorem c_IndexFuncW (l : List Patch) (A : Option Addr) (c : Nat) (hl : l.length ≤ 2000000) (f : Patch → Bool) (g : FuncId) (cap : List Value) (x : Xsn) (hcf : ∀ args w, (callFunc g args).run Tryz.prog w = .ok (.enter g args) w) (hg : ∀ q y, Con Tryz.prog g (sv q y :: cap) [x] [] Unit (fun _ => .bool (f q)) (fun _ => [x]) (fun _ => [])) : Con Tryz.prog 89 [.slice A l.length c, .func (.func g) #[] cap.toArray] [row 55 A c l, x] [] {r : Int // (r = -1 ∧ l.any f = false) ∨ ∃ k : Nat, r = (k : Int) ∧ ∃ h : k < l.length, (l.take k).any f = false ∧ f l[k] = true} (fun r => .int .i64 r.1) (fun _ => [row 55 A c l, x]) (fun _ => []) := by
 refine con func89 rfl ntmps89 rfl ?_
 intro M0 F0 w0
 refine k_ 14 ?_
 refine cl (ι := {k : Nat // k ≤ l.length ∧ (l.take k).any f = false}) (fun i => St M0 F0 w0 19 [(0, .slice A l.length c), (1, .func (.func g) #[] cap.toArray), (7, .int .i64 (l.length : Int)), (8, .int .i64 (i.1 : Int))] [row 55 A c l, x] []) (fun i => l.length - i.1) ⟨0, by simp⟩ (wk0 Φ Ω) ?_
 rintro ⟨k, hk, hkk⟩
 refine cmono (S' := St M0 F0 w0 19 [(0, .slice A l.length c), (1, .func (.func g) #[] cap.toArray), (7, .int .i64 (l.length : Int)), (8, .int .i64 (k : Int))] [row 55 A c l, x] []) Ħ ?_
 refine k_ 6 ?_
 refine cc rfl ?_ ?_
 ·
  intro h9
  try simp only [nrmZ] at h9
  have hk1 : k < l.length := by omega
  refine k_ 11 ?_
  refine rowC (α := Patch) (A := A) (l := l) Θ (List.ne_nil_of_length_pos (by omega)) ?_
  rintro g0 rfl
  refine k_ 4 ?_
  refine ls (op (p_ia k rfl hk1 rfl underlying37 sizeOf55 rfl rfl) rfl) ?_
  refine ls (o_ldrow isAgg55 sizeOf55 rfl Θ (List.getElem?_eq_getElem hk1) rfl) ?_
  refine le ?_; intro zyp
  refine ls (o_callv (is := [1]) rfl hcf (hg l[k] zyp) rfl rfl rfl Ω rfl) ?_
  refine le ?_; intro x16
  refine k_ 2 ?_
  refine cc rfl ?_ ?_
  ·
   intro h16
   try simp only [nrmZ] at h16
   refine k_ 8 ?_
   exact rR [1, 0] ⟨(k : Int), .inr ⟨k, rfl, hk1, hkk, h16⟩⟩
  ·
   intro h16
   try simp only [nrmZ] at h16
   refine k_ 7 ?_
   refine nnext ⟨k + 1, hk1, by rw [List.take_succ_eq_append_getElem hk1, List.any_append, hkk]; simp [h16]⟩ (by dsimp only; omega) (wK [1, 0])
 ·
  intro h9
  try simp only [nrmZ] at h9
  refine k_ 12 ?_
  exact rR [0, 0] ⟨-1, .inl ⟨rfl, by rw [List.take_of_length_le (by omega)] at hkk; exact hkk⟩⟩
set_option maxRecDepth 100000 in
theorem c_logAtO (l : List Patch) (A : Option Addr) (c : Nat) (hl : l.length ≤ 2000000) (pl p : Nat) (v : Int) : Con Tryz.prog 53 [.pointer (some ⟨pl, 0, none⟩), .int .i64 v] [box pl 82 [.slice A l.length c, .pointer (some ⟨p, 0, none⟩)]] [slA A l] Unit (fun _ => .int .i64 (atP l v)) (fun _ => [box pl 82 [.slice A l.length c, .pointer (some ⟨p, 0, none⟩)]]) (fun _ => []) := by
 refine con func53 rfl ntmps53 rfl ?_
 intro M0 F0 w0
 refine k_ 2 ?_
 refine ls (o_box rfl rfl rfl) ?_
 refine le ?_; intro b3
 refine k_ 6 ?_
 refine ls (op (p_nilck rfl) rfl) ?_
 refine k_ 2 ?_
 refine ls (op (p_mkf rfl) rfl) ?_
 refine lC [0] call89 (c_IndexFuncO l A c hl (fun q => decide (q.id = v)) 90 [.pointer (some ⟨b3, 0, none⟩)] (box b3 3 [.int .i64 v]) call90 (fun q y => c_logAt1 q y b3 0 v)) ?_; rintro ⟨r, hr⟩
 refine fixL (v' := .int .i64 (atP l v)) (congrArg (Value.int .i64) (atP_of hr)) ?_
 refine k_ 5 ?_
 exact rR [1] ()
set_option maxRecDepth 100000 in
theorem c_logAtW (l : List Patch) (A : Option Addr) (c : Nat) (hl : l.length ≤ 2000000) (pl p : Nat) (v : Int) : Con Tryz.prog 53 [.pointer (some ⟨pl, 0, none⟩), .int .i64 v] [box pl 82 [.slice A l.length c, .pointer (some ⟨p, 0, none⟩)], row 55 A c l] [] Unit (fun _ => .int .i64 (atP l v)) (fun _ => [box pl 82 [.slice A l.length c, .pointer (some ⟨p, 0, none⟩)], row 55 A c l]) (fun _ => []) := by
 refine con func53 rfl ntmps53 rfl ?_
 intro M0 F0 w0
 refine k_ 2 ?_
 refine ls (o_box rfl rfl rfl) ?_
 refine le ?_; intro b3
 refine k_ 6 ?_
 refine ls (op (p_nilck rfl) rfl) ?_
 refine k_ 2 ?_
 refine ls (op (p_mkf rfl) rfl) ?_
 refine lC [2, 0] call89 (c_IndexFuncW l A c hl (fun q => decide (q.id = v)) 90 [.pointer (some ⟨b3, 0, none⟩)] (box b3 3 [.int .i64 v]) call90 (fun q y => c_logAt1 q y b3 0 v)) ?_; rintro ⟨r, hr⟩
 refine fixL (v' := .int .i64 (atP l v)) (congrArg (Value.int .i64) (atP_of hr)) ?_
 refine k_ 5 ?_
 exact rR [2, 0] ()
set_option maxRecDepth 100000 in
theorem c_logNew : Con Tryz.prog 12 [] [] [] (Nat × Nat × Nat) (fun y => .pointer (some ⟨y.1, 0, none⟩)) (fun y => [box y.1 82 [.slice none 0 0, .pointer (some ⟨y.2.1, 0, none⟩)], box y.2.1 119 [.map (some y.2.2)], tr y.2.2 []]) (fun _ => []) := by
 refine con func12 rfl ntmps12 rfl ?_
 intro M0 F0 w0
 refine k_ 7 ?_
 refine lC [] call42 (c_tNew) ?_; rintro ⟨p, b⟩
 refine k_ 1 ?_
 refine ls (o_box rfl rfl rfl) ?_
 refine le ?_; intro b3
 refine k_ 5 ?_
 exact rR [0, 0, 0] (b3, p, b)
set_option maxRecDepth 100000 in
theorem c_logIdsO (l : List Patch) (A : Option Addr) (c : Nat) (hl : l.length ≤ 2000000) (pl p : Nat) : Con Tryz.prog 22 [.pointer (some ⟨pl, 0, none⟩)] [box pl 82 [.slice A l.length c, .pointer (some ⟨p, 0, none⟩)]] [slA A l] (Option Addr × Nat) (fun y => .slice y.1 (idsP l).length y.2) (fun y => [row 3 y.1 y.2 (idsP l), box pl 82 [.slice A l.length c, .pointer (some ⟨p, 0, none⟩)]]) (fun _ => []) := by
 refine con func22 rfl ntmps22 rfl ?_
 intro M0 F0 w0
 refine k_ 6 ?_
 refine cmono (fun a w h => nilRow (α := Int) 3 h) ?_
 refine k_ 8 ?_
 refine ls (op (p_nilck rfl) rfl) ?_
 refine k_ 7 ?_
 refine cl (ι := {q : Nat × (Option Addr × Nat) // q.1 ≤ l.length}) (fun i => St M0 F0 w0 22 [(3, .slice i.1.2.1 (idsP (l.take i.1.1)).length i.1.2.2), (9, .slice A l.length c), (10, .int .i64 (l.length : Int)), (11, .int .i64 ((i.1.1 : Nat) : Int))] [row 3 (i.1.2.1) (i.1.2.2) (idsP (l.take i.1.1)), box pl 82 [.slice A l.length c, .pointer (some ⟨p, 0, none⟩)]] [slA A l]) (fun i => l.length - i.1.1) ⟨(0, (none, 0)), Nat.zero_le _⟩ (wk0 Φ Ω) ?_
 rintro ⟨⟨k, ⟨A3, c3⟩⟩, hk⟩
 refine cmono (S' := St M0 F0 w0 22 [(3, .slice A3 (idsP (l.take k)).length c3), (9, .slice A l.length c), (10, .int .i64 (l.length : Int)), (11, .int .i64 ((k : Nat) : Int))] [row 3 (A3) (c3) (idsP (l.take k)), box pl 82 [.slice A l.length c, .pointer (some ⟨p, 0, none⟩)]] [slA A l]) Ħ ?_
 refine k_ 6 ?_
 refine cc rfl ?_ ?_
 ·
  intro h12
  dsimp only at hk
  try simp only [nrmZ] at h12
  have hk1 : k < l.length := by omega
  refine k_ 5 ?_
  refine elC Θ k (List.getElem?_eq_getElem (l := l) hk1) ?_; rintro zbp zop zyp hAp
  refine cr ?_
  refine ls (op (p_ia k hAp hk1 rfl underlying37 sizeOf55 rfl rfl) rfl) ?_
  refine ls (o_ldj isAgg55 sizeOf55 rfl Θ 0 rfl Δ rfl) ?_
  refine ls (o_alloc zeroValue55 rfl rfl) ?_
  refine le ?_; intro b5
  refine k_ 7 ?_
  refine ls (o_bsl [l[k].id] underlying28 sizeOf3 zeroValue3 rfl (Enum.t Enum.d) (RV.t () rfl Ω RV.d) rfl (by decide) (by decide) rfl) ?_
  refine le ?_; intro b18
  refine lmono (fun a w h => Go.Sx.freeze (i := 0) rfl h) ?_
  refine ls (o_appX (i := 1) underlying28 inf3 rfl (by decide) (by decide) rfl rfl (by simp only [idsP, List.length_map, List.length_take, List.length_cons, List.length_nil]; omega) rfl Ω rfl) ?_
  refine le ?_; rintro ⟨A19, c19⟩
  refine k_ 8 ?_
  refine nnext ⟨(k + 1, (A19, c19)), hk1⟩ (by dsimp only; omega) (fun a w h => by dsimp only; rw [ids_take hk1]; exact wL [0, 1] h)
 ·
  intro h12
  dsimp only at hk
  try simp only [nrmZ] at h12
  obtain rfl : k = l.length := by omega
  rw [List.take_length]
  refine k_ 13 ?_
  exact rR [0, 0] (A3, c3)
set_option maxRecDepth 100000 in
theorem c_logIdsW (l : List Patch) (A : Option Addr) (c : Nat) (hl : l.length ≤ 2000000) (pl p : Nat) : Con Tryz.prog 22 [.pointer (some ⟨pl, 0, none⟩)] [box pl 82 [.slice A l.length c, .pointer (some ⟨p, 0, none⟩)], row 55 A c l] [] (Option Addr × Nat) (fun y => .slice y.1 (idsP l).length y.2) (fun y => [row 3 y.1 y.2 (idsP l), box pl 82 [.slice A l.length c, .pointer (some ⟨p, 0, none⟩)], row 55 A c l]) (fun _ => []) := by
 refine con func22 rfl ntmps22 rfl ?_
 intro M0 F0 w0
 refine k_ 6 ?_
 refine cmono (fun a w h => nilRow (α := Int) 3 h) ?_
 refine k_ 8 ?_
 refine ls (op (p_nilck rfl) rfl) ?_
 refine k_ 7 ?_
 refine cl (ι := {q : Nat × (Option Addr × Nat) // q.1 ≤ l.length}) (fun i => St M0 F0 w0 22 [(3, .slice i.1.2.1 (idsP (l.take i.1.1)).length i.1.2.2), (9, .slice A l.length c), (10, .int .i64 (l.length : Int)), (11, .int .i64 ((i.1.1 : Nat) : Int))] [row 3 (i.1.2.1) (i.1.2.2) (idsP (l.take i.1.1)), box pl 82 [.slice A l.length c, .pointer (some ⟨p, 0, none⟩)], row 55 A c l] []) (fun i => l.length - i.1.1) ⟨(0, (none, 0)), Nat.zero_le _⟩ (wk0 Φ Ω) ?_
 rintro ⟨⟨k, ⟨A3, c3⟩⟩, hk⟩
 refine cmono (S' := St M0 F0 w0 22 [(3, .slice A3 (idsP (l.take k)).length c3), (9, .slice A l.length c), (10, .int .i64 (l.length : Int)), (11, .int .i64 ((k : Nat) : Int))] [row 3 (A3) (c3) (idsP (l.take k)), box pl 82 [.slice A l.length c, .pointer (some ⟨p, 0, none⟩)], row 55 A c l] []) Ħ ?_
 refine k_ 6 ?_
 refine cc rfl ?_ ?_
 ·
  intro h12
  dsimp only at hk
  try simp only [nrmZ] at h12
  have hk1 : k < l.length := by omega
  refine k_ 5 ?_
  refine rowC (α := Patch) (A := A) (l := l) Θ (List.ne_nil_of_length_pos (by omega)) ?_
  rintro g0 rfl
  refine cr ?_
  refine ls (op (p_ia k rfl hk1 rfl underlying37 sizeOf55 rfl rfl) rfl) ?_
  refine ls (o_ldrow isAgg55 sizeOf55 rfl Θ (List.getElem?_eq_getElem hk1) rfl) ?_
  refine le ?_; intro zyp
  refine ls (o_alloc zeroValue55 rfl rfl) ?_
  refine le ?_; intro b5
  refine k_ 7 ?_
  refine ls (o_bsl [l[k].id] underlying28 sizeOf3 zeroValue3 rfl (Enum.t Enum.d) (RV.t () rfl Ω RV.d) rfl (by decide) (by decide) rfl) ?_
  refine le ?_; intro b18
  refine lmono (fun a w h => Go.Sx.freeze (i := 0) rfl h) ?_
  refine ls (o_appX (i := 1) underlying28 inf3 rfl (by decide) (by decide) rfl rfl (by simp only [idsP, List.length_map, List.length_take, List.length_cons, List.length_nil]; omega) rfl Ω rfl) ?_
  refine le ?_; rintro ⟨A19, c19⟩
  refine k_ 8 ?_
  refine nnext ⟨(k + 1, (A19, c19)), hk1⟩ (by dsimp only; omega) (fun a w h => by dsimp only; rw [ids_take hk1]; exact wL [0, 1, 1] h)
 ·
  intro h12
  dsimp only at hk
  try simp only [nrmZ] at h12
  obtain rfl : k = l.length := by omega
  rw [List.take_length]
  refine k_ 13 ?_
  exact rR [0, 0, 0] (A3, c3)
end Go.Proofs.YtppjcjlijmldiaaGreatDoor.X
end
section
set_option linter.unusedVariables false
set_option linter.unusedSimpArgs false
namespace Go.Sx
open Go Go.RowKit
/-! A table: a row of one's own of slices whose arrays are one's own, too. -/
structure Hdr where
  A : Option Addr
  n : Nat
  c : Nat
instance instRpHdr : Rp Hdr where
  Lay := Unit
  size := 1
  enc h _ := [.slice h.A h.n h.c]
  len _ _ := rfl
  one _ _ v hv := by
    simp only [List.mem_cons, List.mem_nil_iff, or_false] at hv
    subst hv; rfl
  asn _ _ := []
section
variable {ro : Option Nat} {P : Program} {M0 F0 : Nat → Prop} {w0 : World} {n : Nm} {σ : List (Nat × Value)} {Ξ : List Xsn} {Γ : List Asn} {d : Nat} {ty : TypeId} {pos : String} {af : Array Edge}
variable {ops : Array Oper} {Q : Exit → Act → World → Prop} {S S' : Act → World → Prop} {β : Type} [Rp β]
theorem rowEq {α : Type} [Rp α] {e : TypeId} {A : Option Addr} {c i : Nat} {l l' : List α} {Ξ' : List Xsn} {a : Act} {w : World} (hi : At (row e A c l) i Ξ) (he : l = l') (hs : SetAt (row e A c l') i Ξ Ξ') (h : St M0 F0 w0 n σ Ξ Γ a w) : St M0 F0 w0 n σ Ξ' Γ a w := by
  subst he
  obtain ⟨rfl, hlt⟩ := hs.eq
  have : Ξ.set i (row e A c l) = Ξ := by
    refine List.ext_getElem? fun j => ?_
    rw [List.getElem?_set]
    split
    · rename_i e1; subst e1; rw [hi.get]
    · rfl
  rw [this]; exact h
end
def hd (M : Nat) (gs : List Nat) (N : Nat) : List Hdr := gs.map (fun b => ⟨some ⟨b, 0, none⟩, M, M⟩) ++ List.replicate (N - gs.length) ⟨none, 0, 0⟩
instance instRpPair : Rp (Nat × Nat) where
  Lay := Unit
  size := 2
  enc x _ := [.int .i64 (x.1 : Int), .int .i64 (x.2 : Int)]
  len _ _ := rfl
  one _ _ v hv := by
    simp only [List.mem_cons, List.mem_nil_iff, or_false] at hv
    rcases hv with rfl | rfl <;> rfl
  asn _ _ := []
end Go.Sx
end
section
set_option linter.unusedVariables false
set_option linter.unusedSimpArgs false
namespace Go.Sx
open Go Go.RowKit
section
variable {ro : Option Nat} {P : Program} {M0 F0 : Nat → Prop} {w0 : World} {n : Nm} {σ : List (Nat × Value)} {Ξ Ξ1 : List Xsn} {Γ Γ1 : List Asn} {d : Nat} {ty : TypeId} {pos : String} {af : Array Edge}
variable {ops : Array Oper} {Q : Exit → Act → World → Prop} {S S' : Act → World → Prop}
/-! bundles -/
theorem Hp.unbunO {Fs : List (Nat → Prop)} {w : World} (h : Hp M0 F0 w0 (Sx.bun Ξ1 Γ1 :: Ξ) Γ Fs w) : ∃ Fs', Hp M0 F0 w0 (Ξ1 ++ Ξ) (Γ1 ++ Γ) Fs' w ∧ ∀ b, own Fs' b ↔ own Fs b := by
  obtain ⟨F, Fs2, rfl⟩ : ∃ F Fs2, Fs = F :: Fs2 := by
    cases Fs with
    | nil => exact h.ex.elim
    | cons F Fs2 => exact ⟨F, Fs2, rfl⟩
  obtain ⟨⟨Gs, h1, h2, h3, h4⟩, h5⟩ := h.ex
  have hpw := List.pairwise_cons.1 h.dis
  have ho : ∀ b, own (Gs ++ Fs2) b ↔ own (F :: Fs2) b := fun b => by rw [own_append, own_cons, h1 b]
  refine ⟨Gs ++ Fs2, h.re ho (List.pairwise_append.2 ⟨h2, hpw.2, fun G hG H hH b hg hh => hpw.1 H hH b ((h1 b).2 ⟨G, hG, hg⟩) hh⟩) (h3.append h5) fun p hp => ?_, ho⟩
  rcases List.mem_append.1 hp with hp | hp
  · exact h4 p hp
  · exact h.ga p hp
theorem Hp.toHead {is : List Nat} {xs Ξ' : List Xsn} {Γi : List Asn} {Fs : List (Nat → Prop)} {w : World} (h : Hp M0 F0 w0 Ξ Γ Fs w) (hs : takeAll is Ξ = some (xs, Ξ')) (hg : ∀ p ∈ Γi, p ∈ Γ) : ∃ Fs', Hp M0 F0 w0 (xs ++ Ξ') (Γi ++ Γ) Fs' w := by
  obtain ⟨Gs, Hs, hp, hin, hr⟩ := h.select hs hg
  exact ⟨_, h.back hp hr hin⟩
theorem stBun {is : List Nat} {Ξ' : List Xsn} {a : Act} {w : World} (hs : takeAll is Ξ = some (Ξ1, Ξ')) (hg : Sub Γ1 Γ) (h : St M0 F0 w0 n σ Ξ Γ a w) : St M0 F0 w0 n σ (bun Ξ1 Γ1 :: Ξ') Γ a w := by
  obtain ⟨hsl, Fs, hh⟩ := h
  obtain ⟨Fs1, h1⟩ := hh.toHead hs hg.mem
  obtain ⟨Fs2, h2, _⟩ := h1.bun (Γ1 := Γ1) (fun p hp => List.mem_append_left _ hp)
  exact ⟨hsl, Fs2, h2.less fun p hp => List.mem_append_right _ hp⟩
theorem stUnbun {i : Nat} {Ξ' : List Xsn} {a : Act} {w : World} (hs : takeAll [i] Ξ = some ([bun Ξ1 Γ1], Ξ')) (h : St M0 F0 w0 n σ Ξ Γ a w) : St M0 F0 w0 n σ (Ξ1 ++ Ξ') (Γ1 ++ Γ) a w := by
  obtain ⟨hsl, Fs, hh⟩ := h
  obtain ⟨Fs1, h1⟩ := hh.toHead (Γi := []) hs (fun p hp => by cases hp)
  obtain ⟨Fs2, h2, _⟩ := Hp.unbunO h1
  exact ⟨hsl, Fs2, h2⟩
theorem St.nil {y : Option Addr × Nat} {i : Nat} (hi : At (nilA y) i Γ) : ∀ a w, St M0 F0 w0 n σ Ξ Γ a w → (y.1 = none → y.2 = 0) := fun a w h => by
  obtain ⟨hs, Fs, hh⟩ := h
  exact hh.ga _ (List.mem_of_getElem? hi.get)
theorem con_bun {f : FuncId} {vs : List Value} {Ξ0 : List Xsn} {Γi : List Asn} {X : Type} {rv : X → Value} {Ξ1' Ξo : X → List Xsn} {Γo : X → List Asn} (h : Con P f vs (Ξ1 ++ Ξ0) Γi X rv (fun x => Ξ1' x ++ Ξo x) Γo) :
    Con P f vs (bun Ξ1 [] :: Ξ0) Γi X rv (fun x => bun (Ξ1' x) [] :: Ξo x) Γo := by
  intro M0 Fs w hh
  obtain ⟨Fs1, h1, ho⟩ := Hp.unbunO hh
  refine (h M0 Fs1 w (h1.own0 (Gs' := Fs1) ho)).mono ?_
  rintro e w' ⟨x, Fs2, rfl, h2⟩
  obtain ⟨Fs3, h3, _⟩ := h2.bun (Γ1 := []) (fun p hp => by cases hp)
  exact ⟨x, Fs3, rfl, h3.own0 (fun b => (ho b).symm)⟩
/-! rows that become shorter -/
theorem RowE.take {α : Type} [Rp α] {M : Nat → Prop} {w : World} {l : List α} {xs : List Value} (h : RowE M w l xs) (k : Nat) (hk : k ≤ l.length) : RowE M w (l.take k) (xs.take (k * Rp.size α)) := by
  obtain ⟨x1, x2, e, h1, h2⟩ := h.split (l.take k) (l.drop k) (List.take_append_drop k l).symm
  have hl := h1.length
  rw [List.length_take, Nat.min_eq_left hk] at hl
  rw [e, ← hl, List.take_left' rfl]
  exact h1
theorem rowTk {α : Type} [Rp α] {e : TypeId} {A : Option Addr} {c i : Nat} {l : List α} {Ξ' : List Xsn} {a : Act} {w : World} (k : Nat) (hk : k ≤ l.length) (hi : At (row e A c l) i Ξ) (hs : SetAt (row e A c (l.take k)) i Ξ Ξ') (h : St M0 F0 w0 n σ Ξ Γ a w) : St M0 F0 w0 n σ Ξ' Γ a w := by
  obtain ⟨hsl, Fs, hh⟩ := h
  obtain ⟨rfl, _⟩ := hs.eq
  refine ⟨hsl, Fs, hh.swapX hi.get fun F hF hp => ?_⟩
  obtain ⟨xs, ho, hFb, hr⟩ := hp
  have hlen : (l.take k).length = k := by rw [List.length_take, Nat.min_eq_left hk]
  have hr2 := hr.take k hk
  refine ⟨xs.take (k * Rp.size α), ⟨by rw [hr2.length], ?_⟩, fun x => by rw [hFb x]; cases A <;> rfl, hr2⟩
  rcases ho.2 with ⟨h0, h1⟩ | ⟨g, cap, cur, hv, hb, hg, hle, hmax, hcs, hxs⟩
  · left
    obtain rfl : l = [] := List.length_eq_zero_iff.1 h1
    simp only [List.take_nil]
    exact ⟨h0, rfl⟩
  · right
    cases hv
    refine ⟨g, c, cur, rfl, hb, hg, by omega, hmax, hcs, ?_⟩
    rw [hlen, ← hxs, List.take_take, Nat.min_eq_left (Nat.mul_le_mul_right _ hk)]
theorem slh_val {A : Option Addr} {k c z : Nat} : Value.slice (if c = 0 then A else A.map (·.add (0 * z))) (k - 0) (c - 0) = .slice A k c := by
  have : (if c = 0 then A else A.map (·.add (0 * z))) = A := by
    split
    · rfl
    · cases A with
      | none => rfl
      | some a => simp [Addr.add]
  rw [this]; rfl
end
end Go.Sx
end
section
set_option linter.unusedVariables false
set_option linter.unusedSimpArgs false
namespace Go.Proofs.YtppjcjlijmldiaaGreatDoor.X
open Go Go.RowKit Go.Proofs Go.Sx
open Tryz
attribute [local irreducible] slA isA box row TrL TrC TrN TrA Pu OpR
set_option maxHeartbeats 8000000
theorem fl_snoc {ls : List (List Patch)} {k : Nat} (h : k < ls.length) : (ls.take (k + 1)).flatten = (ls.take k).flatten ++ ls[k] := by
 rw [List.take_succ_eq_append_getElem h, List.flatten_append]; simp
theorem fl_take {ls : List (List Patch)} {k : Nat} (h : k < ls.length) : (ls.take (k + 1)).flatten.length = (ls.take k).flatten.length + ls[k].length := by
 rw [fl_snoc h, List.length_append]
theorem fl_le (ls : List (List Patch)) (k : Nat) : (ls.take k).flatten.length ≤ ls.flatten.length := by
 conv => rhs; rw [← List.take_append_drop k ls, List.flatten_append, List.length_append]
 omega
set_option maxRecDepth 100000 in
theorem c_logTree (pl p b : Nat) (T : List File) (s0 : Value) : Con Tryz.prog 20 [.pointer (some ⟨pl, 0, none⟩)] [box pl 82 [s0, .pointer (some ⟨p, 0, none⟩)], box p 119 [.map (some b)], tr b T] [] (Nat × Nat) (fun y => .pointer (some ⟨y.1, 0, none⟩)) (fun y => [box y.1 119 [.map (some y.2)], tr y.2 T, box pl 82 [s0, .pointer (some ⟨p, 0, none⟩)], box p 119 [.map (some b)], tr b T]) (fun _ => []) := by
 refine con func20 rfl ntmps20 rfl ?_
 intro M0 F0 w0
 refine k_ 8 ?_
 refine ls (op (p_nilck rfl) rfl) ?_
 refine k_ 2 ?_
 refine lC [1, 1] call51 (c_tCopy p b T) ?_; rintro ⟨p7, b7⟩
 refine k_ 5 ?_
 exact rR [0, 0, 2, 0, 0] (p7, b7)
set_option maxRecDepth 100000 in
theorem c_logAll (l : List Patch) (A : Option Addr) (c : Nat) (hl : l.length ≤ 2000000) (hf : ∀ q ∈ l, q.fit) (pl p : Nat) : Con Tryz.prog 17 [.pointer (some ⟨pl, 0, none⟩)] [box pl 82 [.slice A l.length c, .pointer (some ⟨p, 0, none⟩)], row 55 A c l] [] (Option Addr × Nat) (fun y => .slice y.1 l.length y.2) (fun y => [row 55 y.1 y.2 l, box pl 82 [.slice A l.length c, .pointer (some ⟨p, 0, none⟩)], row 55 A c l]) (fun _ => []) := by
 refine con func17 rfl ntmps17 rfl ?_
 intro M0 F0 w0
 refine k_ 6 ?_
 refine cmono (fun a w h => nilRow (α := Patch) 55 h) ?_
 refine k_ 8 ?_
 refine ls (op (p_nilck rfl) rfl) ?_
 refine k_ 7 ?_
 refine cl (ι := {q : Nat × (Option Addr × Nat) // q.1 ≤ l.length}) (fun i => St M0 F0 w0 22 [(3, .slice i.1.2.1 (l.take i.1.1).length i.1.2.2), (9, .slice A l.length c), (10, .int .i64 (l.length : Int)), (11, .int .i64 ((i.1.1 : Nat) : Int))] [row 55 (i.1.2.1) (i.1.2.2) (l.take i.1.1), box pl 82 [.slice A l.length c, .pointer (some ⟨p, 0, none⟩)], row 55 A c l] []) (fun i => l.length - i.1.1) ⟨(0, (none, 0)), Nat.zero_le _⟩ (wk0 Φ Ω) ?_
 rintro ⟨⟨k, ⟨A3, c3⟩⟩, hk⟩
 refine cmono (S' := St M0 F0 w0 22 [(3, .slice A3 (l.take k).length c3), (9, .slice A l.length c), (10, .int .i64 (l.length : Int)), (11, .int .i64 ((k : Nat) : Int))] [row 55 (A3) (c3) (l.take k), box pl 82 [.slice A l.length c, .pointer (some ⟨p, 0, none⟩)], row 55 A c l] []) Ħ ?_
 refine k_ 6 ?_
 refine cc rfl ?_ ?_
 ·
  intro h12
  dsimp only at hk
  try simp only [nrmZ] at h12
  have hk1 : k < l.length := by omega
  refine k_ 5 ?_
  refine rowC (α := Patch) (A := A) (l := l) Θ (List.ne_nil_of_length_pos (by omega)) ?_
  rintro g0 rfl
  refine cr ?_
  refine ls (op (p_ia k rfl hk1 rfl underlying37 sizeOf55 rfl rfl) rfl) ?_
  refine ls (o_ldrow isAgg55 sizeOf55 rfl Θ (List.getElem?_eq_getElem hk1) rfl) ?_
  refine le ?_; intro zyp
  refine ls (o_alloc zeroValue55 rfl rfl) ?_
  refine le ?_; intro b5
  refine k_ 5 ?_
  refine ls (o_ldw isAgg55 sizeOf55 rfl Θ (by rfl) rfl) ?_
  refine lC [] call47 (c_nClone l[k] zyp (hf _ (List.getElem_mem hk1))) ?_; intro y17
  refine ls (o_bsl [l[k]] underlying37 sizeOf55 zeroValue55 rfl (Enum.t Enum.d) (RV.t y17 rfl Ω RV.d) rfl (by decide) (by decide) rfl) ?_
  refine le ?_; intro b18
  refine lmono (fun a w h => Go.Sx.freeze (i := 0) rfl h) ?_
  refine ls (o_appX (i := 1) underlying37 inf55 rfl (by decide) (by decide) rfl rfl (by simp only [List.length_take, List.length_cons, List.length_nil]; omega) rfl Ω rfl) ?_
  refine le ?_; rintro ⟨A19, c19⟩
  rw [← List.take_succ_eq_append_getElem hk1]
  refine k_ 8 ?_
  refine nnext ⟨(k + 1, (A19, c19)), hk1⟩ (by dsimp only; omega) (wK [0, 1, 1])
 ·
  intro h12
  dsimp only at hk
  try simp only [nrmZ] at h12
  obtain rfl : k = l.length := by omega
  rw [List.take_length]
  refine k_ 13 ?_
  exact rR [0, 0, 0] (A3, c3)
set_option maxRecDepth 100000 in
theorem c_logCopy (l : List Patch) (A : Option Addr) (c : Nat) (hl : l.length ≤ 2000000) (hf : ∀ q ∈ l, q.fit) (pl p b : Nat) (T : List File) : Con Tryz.prog 35 [.pointer (some ⟨pl, 0, none⟩)] [box pl 82 [.slice A l.length c, .pointer (some ⟨p, 0, none⟩)], row 55 A c l, box p 119 [.map (some b)], tr b T] [] ((Option Addr × Nat) × (Nat × Nat × Nat)) (fun y => .pointer (some ⟨y.2.1, 0, none⟩)) (fun y => [box y.2.1 82 [.slice y.1.1 l.length y.1.2, .pointer (some ⟨y.2.2.1, 0, none⟩)], row 55 y.1.1 y.1.2 l, box y.2.2.1 119 [.map (some y.2.2.2)], tr y.2.2.2 T, box pl 82 [.slice A l.length c, .pointer (some ⟨p, 0, none⟩)], row 55 A c l, box p 119 [.map (some b)], tr b T]) (fun _ => []) := by
 refine con func35 rfl ntmps35 rfl ?_
 intro M0 F0 w0
 refine k_ 8 ?_
 refine lC [0, 0] call17 (c_logAll l A c hl hf pl p) ?_; rintro ⟨A4, c4⟩
 refine k_ 1 ?_
 refine lC [1, 2, 2] call20 (c_logTree pl p b T (.slice A l.length c)) ?_; rintro ⟨p6, b6⟩
 refine k_ 1 ?_
 refine ls (o_box rfl rfl rfl) ?_
 refine le ?_; intro b8
 refine k_ 5 ?_
 exact rR [0, 5, 0, 0, 0, 2, 0, 0] ((A4, c4), (b8, p6, b6))
set_option maxRecDepth 100000 in
theorem c_growP (k : Nat) (hk : k ≤ 2000000) : Con Tryz.prog 132 [.slice none 0 0, .int .i64 (k : Int)] [] [] (Option Addr × Nat) (fun y => .slice y.1 0 y.2) (fun y => [row 55 y.1 y.2 ([] : List Patch)]) (fun _ => []) := by
 refine con func132 rfl ntmps132 rfl ?_
 intro M0 F0 w0
 refine k_ 10 ?_
 refine fixL (congrArg Value.bool (decide_eq_false (by omega))) ?_
 refine k_ 2 ?_
 refine cc rfl (fun h => by cases h) (fun h => ?_)
 refine k_ 7 ?_
 refine ls (op (p_cap rfl underlying37) rfl) ?_
 refine k_ 13 ?_
 refine cc rfl ?_ ?_
 ·
  intro h16
  have hk0 : 0 < k := by have h := h16; simp at h; omega
  refine k_ 3 ?_
  refine ls (op (p_cap rfl underlying37) rfl) ?_
  refine ls (op (p_slh 0 (Nat.zero_le _) rfl underlying37 sizeOf55 rfl rfl) rfl) ?_
  refine fixL (v' := .slice none 0 0) rfl ?_
  refine k_ 1 ?_
  refine ls (o_appZ Patch.zero ((none, 0), (none, 0)) k underlying37 underlying3 inf55 rfl (by decide) (by decide) (fun M w p hp => by simp only [Rp.asn, List.mem_cons, List.mem_nil_iff, or_false] at hp; rcases hp with rfl | rfl | rfl <;> first | exact slA_none M w | exact Nat.le_refl 0) hk0 (by omega) (by simp) rfl rfl rfl) ?_
  refine le ?_; rintro ⟨g22, c22, hc22⟩
  refine lmono (fun a w h => rowTk (α := Patch) (l := List.replicate k Patch.zero) 0 (Nat.zero_le _) Θ Θ h) ?_
  refine k_ 2 ?_
  refine ls (op (p_slh 0 (Nat.zero_le _) rfl underlying37 sizeOf55 rfl rfl) rfl) ?_
  refine fixL slh_val ?_
  refine k_ 11 ?_
  exact rR [0] (some ⟨g22, 0, none⟩, c22)
 ·
  intro h16
  have hk0 : k = 0 := by have h := h16; simp at h; omega
  refine k_ 3 ?_
  refine cmono (fun a w h => nilRow (α := Patch) 55 h) ?_
  refine k_ 7 ?_
  exact rR [0] (none, 0)
set_option maxRecDepth 100000 in
theorem c_concatP (rs : List (List Patch)) (B : Option Addr) (c' : Nat) (hls : rs.length ≤ 2000000) (ht : rs.flatten.length ≤ 2000000) : Con Tryz.prog 96 [.slice B rs.length c'] [] [slA B rs] (Option Addr × Nat) (fun y => .slice y.1 rs.flatten.length y.2) (fun y => [row 55 y.1 y.2 rs.flatten]) (fun _ => []) := by
 refine con func96 rfl ntmps96 rfl ?_
 intro M0 F0 w0
 refine k_ 19 ?_
 refine cl (ι := {q : Nat × Int // q.1 ≤ rs.length ∧ q.2 = (((rs.take q.1).flatten.length : Nat) : Int)}) (fun i => St M0 F0 w0 36 [(0, .slice B rs.length c'), (3, .int .i64 i.1.2), (9, .slice B rs.length c'), (10, .int .i64 (rs.length : Int)), (11, .int .i64 ((i.1.1 : Nat) : Int))] [] [slA B rs]) (fun i => rs.length - i.1.1) ⟨(0, 0), Nat.zero_le _, rfl⟩ (wk0 Φ Ω) ?_
 rintro ⟨⟨k, n⟩, hk, hn⟩
 refine cmono (S' := St M0 F0 w0 36 [(0, .slice B rs.length c'), (3, .int .i64 n), (9, .slice B rs.length c'), (10, .int .i64 (rs.length : Int)), (11, .int .i64 ((k : Nat) : Int))] [] [slA B rs]) Ħ ?_
 refine k_ 6 ?_
 refine cc rfl ?_ ?_
 ·
  intro h12
  dsimp only at hk hn
  try simp only [nrmZ] at h12
  have hk1 : k < rs.length := by omega
  have ht1 := fl_take hk1
  have ht2 := fl_le rs (k + 1)
  refine k_ 5 ?_
  refine elC Θ k (List.getElem?_eq_getElem (l := rs) hk1) ?_; rintro zbp zop zyp hAp
  refine cr ?_
  refine ls (op (p_ia k hAp hk1 rfl underlying157 sizeOf37 rfl rfl) rfl) ?_
  refine ls (o_ldi isAgg37 rfl Θ 0 rfl Δ rfl) ?_
  refine k_ 16 ?_
  refine fixL (congrArg Value.bool (decide_eq_false (by omega))) ?_
  refine k_ 2 ?_
  refine cc rfl (fun h => by cases h) (fun h => ?_)
  refine k_ 7 ?_
  refine nnext ⟨(k + 1, n + (rs[k].length : Int)), hk1, by dsimp only; omega⟩ (by dsimp only; omega) (wK [])
 ·
  intro h12
  dsimp only at hk hn
  try simp only [nrmZ] at h12
  obtain rfl : k = rs.length := by omega
  rw [List.take_length] at hn
  refine k_ 8 ?_
  refine fixL (congrArg (Value.int .i64) hn) ?_
  refine lC [] call132 (c_growP rs.flatten.length ht) ?_; rintro ⟨A24, c24⟩
  refine k_ 12 ?_
  refine cl (ι := {q : Nat × (Option Addr × Nat) // q.1 ≤ rs.length}) (fun i => St M0 F0 w0 36 [(0, .slice B rs.length c'), (6, .slice i.1.2.1 (rs.take i.1.1).flatten.length i.1.2.2), (25, .slice B rs.length c'), (26, .int .i64 (rs.length : Int)), (27, .int .i64 ((i.1.1 : Nat) : Int))] [row 55 (i.1.2.1) (i.1.2.2) (rs.take i.1.1).flatten] [slA B rs]) (fun i => rs.length - i.1.1) ⟨(0, (A24, c24)), Nat.zero_le _⟩ (wk0 Φ Ω) ?_
  rintro ⟨⟨k, ⟨A6, c6⟩⟩, hk⟩
  refine cmono (S' := St M0 F0 w0 36 [(0, .slice B rs.length c'), (6, .slice A6 (rs.take k).flatten.length c6), (25, .slice B rs.length c'), (26, .int .i64 (rs.length : Int)), (27, .int .i64 ((k : Nat) : Int))] [row 55 (A6) (c6) (rs.take k).flatten] [slA B rs]) Ħ ?_
  refine k_ 6 ?_
  refine cc rfl ?_ ?_
  ·
   intro h28
   dsimp only at hk
   try simp only [nrmZ] at h28
   have hk1 : k < rs.length := by omega
   have ht1 := fl_take hk1
   have ht2 := fl_le rs (k + 1)
   refine k_ 5 ?_
   refine elC Θ k (List.getElem?_eq_getElem (l := rs) hk1) ?_; rintro zbp zop zyp hAp
   refine cr ?_
   refine ls (op (p_ia k hAp hk1 rfl underlying157 sizeOf37 rfl rfl) rfl) ?_
   refine ls (o_ldi isAgg37 rfl Θ 0 rfl Δ rfl) ?_
   refine k_ 6 ?_
   refine ls (o_appX (i := 0) underlying37 inf55 rfl (by decide) (by decide) rfl rfl (by omega) rfl Ω rfl) ?_
   refine le ?_; rintro ⟨A33, c33⟩
   refine k_ 8 ?_
   refine nnext ⟨(k + 1, (A33, c33)), hk1⟩ (by dsimp only; omega) (fun a w h => by dsimp only; rw [fl_snoc hk1]; exact wL [0] h)
  ·
   intro h28
   dsimp only at hk
   try simp only [nrmZ] at h28
   obtain rfl : k = rs.length := by omega
   rw [List.take_length]
   refine k_ 13 ?_
   exact rR [0] (A6, c6)
set_option maxRecDepth 100000 in
theorem c_logPut (rs : List (List Patch)) (B : Option Addr) (c' : Nat) (hls : rs.length ≤ 2000000) (ht : rs.flatten.length ≤ 2000000) (pl p : Nat) (s0 : Value) : Con Tryz.prog 63 [.pointer (some ⟨pl, 0, none⟩), .slice B rs.length c'] [box pl 82 [s0, .pointer (some ⟨p, 0, none⟩)]] [slA B rs] (Option Addr × Nat) (fun _ => .tuple #[]) (fun y => [box pl 82 [.slice y.1 rs.flatten.length y.2, .pointer (some ⟨p, 0, none⟩)], row 55 y.1 y.2 rs.flatten]) (fun _ => []) := by
 refine con func63 rfl ntmps63 rfl ?_
 intro M0 F0 w0
 refine k_ 3 ?_
 refine lC [] call96 (c_concatP rs B c' hls ht) ?_; rintro ⟨A6, c6⟩
 refine ls (op (p_nilck rfl) rfl) ?_
 refine k_ 3 ?_
 exact rR [1, 0] (A6, c6)
end Go.Proofs.YtppjcjlijmldiaaGreatDoor.X
end
section
set_option linter.unusedVariables false
set_option linter.unusedSimpArgs false
namespace Go.Proofs.YtppjcjlijmldiaaGreatDoor.X
open Go Go.RowKit Go.Proofs Go.Sx
open Tryz
attribute [local irreducible] slA isA box row TrL TrC TrN TrA Pu OpR
set_option maxHeartbeats 8000000
set_option maxRecDepth 100000 in
theorem c_logGet (l : List Patch) (A : Option Addr) (c : Nat) (hl : l.length ≤ 2000000) (hf : ∀ q ∈ l, q.fit) (pl p : Nat) (v : Int) : Con Tryz.prog 24 [.pointer (some ⟨pl, 0, none⟩), .int .i64 v] [box pl 82 [.slice A l.length c, .pointer (some ⟨p, 0, none⟩)], row 55 A c l] [] {x : (Patch × Bool) × Rp.Lay Patch // x.1 = getP l v} (fun x => .tuple #[sv x.1.1.1 x.1.2, .bool x.1.1.2]) (fun _ => [box pl 82 [.slice A l.length c, .pointer (some ⟨p, 0, none⟩)], row 55 A c l]) (fun x => Rp.asn x.1.1.1 x.1.2) := by
 refine con func24 rfl ntmps24 rfl ?_
 intro M0 F0 w0
 refine k_ 2 ?_
 refine ls (o_alloc zeroValue55 rfl rfl) ?_
 refine le ?_; intro b4
 refine k_ 7 ?_
 refine lC [1, 1] call53 (c_logAtW l A c hl pl p v) ?_; intro x9
 refine k_ 10 ?_
 refine cc rfl ?_ ?_
 ·
  intro h11
  have hn : atP l v < 0 := of_decide_eq_true h11
  refine cs ?_
  refine cmono (fun a w h => nilC (α := Prim) h) ?_
  refine cmono (fun a w h => nilSl (α := Int) h) ?_
  refine k_ 8 ?_
  refine rret (is := [0, 0]) ⟨((Patch.zero, false), ((none, 0), (none, 0))), (getP_no hn).symm⟩ (Or.inl rfl) (Res.c rfl isAgg55 sizeOf55 Θ (by rfl) (Res.t rfl Res.d)) (rfl) rfl Ω
 ·
  intro h11
  have hn : ¬ atP l v < 0 := of_decide_eq_false h11
  obtain ⟨k, hk1, hk2, _⟩ : ∃ k : Nat, ∃ h : k < l.length, atP l v = (k : Int) ∧ l[k].id = v ∧ ∀ j (hj : j < k), l[j].id ≠ v := by rcases atP_cases l v with ⟨h, _⟩ | h; omega; exact h
  refine k_ 3 ?_
  refine rowC (α := Patch) (A := A) (l := l) Θ (List.ne_nil_of_length_pos (by omega)) ?_
  rintro g0 rfl
  refine k_ 2 ?_
  refine ls (op (p_nilck rfl) rfl) ?_
  refine k_ 3 ?_
  refine ls (op (p_ia k rfl hk1 hk2 underlying37 sizeOf55 rfl rfl) rfl) ?_
  refine ls (o_ldrow isAgg55 sizeOf55 rfl Θ (List.getElem?_eq_getElem hk1) rfl) ?_
  refine le ?_; intro zyp
  refine lC [] call47 (c_nClone l[k] zyp (hf _ (List.getElem_mem hk1))) ?_; intro y20
  refine k_ 6 ?_
  refine rret (is := [0, 0]) ⟨((l[k], true), y20), (getP_yes hk1 hk2).symm⟩ (Or.inl rfl) (Res.c rfl isAgg55 sizeOf55 Θ (by rfl) (Res.t rfl Res.d)) (rfl) rfl Ω
set_option maxRecDepth 100000 in
theorem c_logDrop (l : List Patch) (A : Option Addr) (c : Nat) (hl : l.length ≤ 2000000) (hf : ∀ q ∈ l, q.fit) (pl p b : Nat) (T : List File) (mm nn : Nat) (hi : AppInv mm nn T) (hm : ∀ q ∈ l, mm + 2 * lns q.l ≤ 1800000) (hn : ∀ q ∈ l, nn + 2 * q.l.length ≤ 1800000) : Con Tryz.prog 31 [.pointer (some ⟨pl, 0, none⟩)] [box pl 82 [.slice A l.length c, .pointer (some ⟨p, 0, none⟩)], row 55 A c l, box p 119 [.map (some b)], tr b T] [] {x : ((List Patch × List File) × (Patch × Bool)) × Rp.Lay Patch // x.1 = dropP l T} (fun x => .tuple #[sv x.1.1.2.1 x.1.2, .bool x.1.1.2.2]) (fun x => [box pl 82 [.slice A x.1.1.1.1.length c, .pointer (some ⟨p, 0, none⟩)], row 55 A c x.1.1.1.1, box p 119 [.map (some b)], tr b x.1.1.1.2]) (fun x => Rp.asn x.1.1.2.1 x.1.2) := by
 refine con func31 rfl ntmps31 rfl ?_
 intro M0 F0 w0
 refine k_ 2 ?_
 refine ls (o_alloc zeroValue55 rfl rfl) ?_
 refine le ?_; intro b2
 refine k_ 6 ?_
 refine ls (op (p_nilck rfl) rfl) ?_
 refine k_ 14 ?_
 refine cc rfl ?_ ?_
 ·
  intro h13
  have hz : ¬ 0 < l.length := by have h := h13; simp at h; omega
  refine cs ?_
  refine cmono (fun a w h => nilC (α := Prim) h) ?_
  refine cmono (fun a w h => nilSl (α := Int) h) ?_
  refine k_ 8 ?_
  refine rret (is := [1, 1, 1, 1]) ⟨(((l, T), (Patch.zero, false)), ((none, 0), (none, 0))), (dropP_no hz).symm⟩ (Or.inl rfl) (Res.c rfl isAgg55 sizeOf55 Θ (by rfl) (Res.t rfl Res.d)) (rfl) rfl Ω
 ·
  intro h13
  have hz : 0 < l.length := by have h := h13; simp at h; omega
  have hk1 : l.length - 1 < l.length := by omega
  have hfk := hf _ (List.getElem_mem hk1)
  have hmk := hm _ (List.getElem_mem hk1)
  have hnk := hn _ (List.getElem_mem hk1)
  have hii := invL_len l[l.length - 1].l
  have hil := lns_inv l[l.length - 1].l
  refine k_ 3 ?_
  refine rowC (α := Patch) (A := A) (l := l) Θ (List.ne_nil_of_length_pos (by omega)) ?_
  rintro g0 rfl
  refine rowLeC (α := Patch) (l := l) Θ (fun hlc => ?_)
  refine k_ 2 ?_
  refine ls (op (p_nilck rfl) rfl) ?_
  refine k_ 3 ?_
  refine ls (op (p_ia (l.length - 1) rfl hk1 (by omega) underlying37 sizeOf55 rfl rfl) rfl) ?_
  refine ls (o_ldrow isAgg55 sizeOf55 rfl Θ (List.getElem?_eq_getElem hk1) rfl) ?_
  refine le ?_; intro zyp
  refine ls (o_alloc zeroValue55 rfl rfl) ?_
  refine le ?_; intro b5
  refine k_ 4 ?_
  refine cd [6, 7] [(3, pl, 1, _), (5, b5, 3, _)] TryzX.mixed (TOk.t (isBoxS Θ (k := 1) Δ) (TOk.t (isBoxS Θ (k := 1) Δ) TOk.d)) ?_
  refine u_ 0 1 ?_
  refine tk 1 rfl Ψ Υ gnone (TTany _) (p_nilck rfl) rfl ?_
  refine u_ 2 4 ?_
  refine df 6 Ψ ?_
  refine doR rfl (o_call (is := []) call64 (c_seqInvertC l[l.length - 1].l zyp.2.1 zyp.2.2 hfk.ll hfk.lf) rfl rfl Ω rfl) (TOk.t (isBoxE fun _ => isBoxS Θ (k := 1) Δ) (TOk.x Ψ TOk.d)) ?_
  refine ea ?_; rintro ⟨A28, c28⟩
  refine apure (St.cap (m := (invL l[l.length - 1].l).length) (c := c28) Θ) ?_
  intro hcap28
  refine df 7 Ψ ?_
  refine doR rfl (o_call (is := [4, 4]) call38 (c_seqApply p b T mm nn hi (invL l[l.length - 1].l) A28 c28 hcap28 (by omega) (invL_fit hfk.lf) (by omega) (by omega)) rfl rfl Ω rfl) tX ?_
  refine ea ?_; rintro ⟨⟨U, e29⟩, hq⟩
  refine dn Ψ ?_
  refine k_ 2 ?_
  refine cmono (fun a w h => rowTk (α := Patch) (l := l) (l.length - 1) (by omega) Θ Θ h) ?_
  refine k_ 3 ?_
  refine ls (op (p_nilck rfl) rfl) ?_
  refine k_ 3 ?_
  refine ls (op (p_slh (l.length - 1) (by omega) (by omega) underlying37 sizeOf55 rfl rfl) rfl) ?_
  refine fixL slh_val ?_
  refine fixL (slen (m' := (l.take (l.length - 1)).length) (by rw [List.length_take]; omega)) ?_
  refine ls (op (p_nilck rfl) rfl) ?_
  refine k_ 6 ?_
  refine ls (o_ldw isAgg55 sizeOf55 rfl Θ (by rfl) rfl) ?_
  refine k_ 6 ?_
  refine rret (is := [4, 4, 0, 0]) ⟨(((l.take (l.length - 1), U), (l[l.length - 1], true)), zyp), (dropP_yes hz hq).symm⟩ (Or.inl rfl) (Res.c rfl isAgg55 sizeOf55 Θ (by rfl) (Res.t rfl Res.d)) (rfl) rfl Ω
end Go.Proofs.YtppjcjlijmldiaaGreatDoor.X
end
section
set_option linter.unusedVariables false
set_option linter.unusedSimpArgs false
namespace Go.Proofs.YtppjcjlijmldiaaGreatDoor.X
open Go Go.RowKit Go.Proofs Go.Sx
open Tryz
attribute [local irreducible] slA isA box row TrL TrC TrN TrA Pu OpR
set_option maxHeartbeats 8000000
set_option maxRecDepth 100000 in
theorem c_IndexFuncX (l : List Int) (A : Option Addr) (c : Nat) (hl : l.length ≤ 2000000) (f : Int → Bool) (g : FuncId) (cap : List Value) (x : Xsn) (hcf : ∀ args w, (callFunc g args).run Tryz.prog w = .ok (.enter g args) w) (hg : ∀ v, Con Tryz.prog g (.int .i64 v :: cap) [x] [] Unit (fun _ => .bool (f v)) (fun _ => [x]) (fun _ => [])) : Con Tryz.prog 114 [.slice A l.length c, .func (.func g) #[] cap.toArray] [x] [slA A l] {r : Int // (r = -1 ∧ l.any f = false) ∨ ∃ k : Nat, r = (k : Int) ∧ ∃ h : k < l.length, (l.take k).any f = false ∧ f l[k] = true} (fun r => .int .i64 r.1) (fun _ => [x]) (fun _ => []) := by
 refine con func114 rfl ntmps114 rfl ?_
 intro M0 F0 w0
 refine k_ 14 ?_
 refine cl (ι := {k : Nat // k ≤ l.length ∧ (l.take k).any f = false}) (fun i => St M0 F0 w0 19 [(0, .slice A l.length c), (1, .func (.func g) #[] cap.toArray), (7, .int .i64 (l.length : Int)), (8, .int .i64 (i.1 : Int))] [x] [slA A l]) (fun i => l.length - i.1) ⟨0, by simp⟩ (wk0 Φ Ω) ?_
 rintro ⟨k, hk, hkk⟩
 refine cmono (S' := St M0 F0 w0 19 [(0, .slice A l.length c), (1, .func (.func g) #[] cap.toArray), (7, .int .i64 (l.length : Int)), (8, .int .i64 (k : Int))] [x] [slA A l]) Ħ ?_
 refine k_ 6 ?_
 refine cc rfl ?_ ?_
 ·
  intro h9
  try simp only [nrmZ] at h9
  have hk1 : k < l.length := by omega
  refine k_ 11 ?_
  refine elC Θ k (List.getElem?_eq_getElem (l := l) hk1) ?_; rintro zbp zop zyp hAp
  refine k_ 4 ?_
  refine ls (op (p_ia k hAp hk1 rfl underlying28 sizeOf3 rfl rfl) rfl) ?_
  refine ls (o_ldi isAgg3 rfl Θ 0 rfl Δ rfl) ?_
  refine ls (o_callv (is := [0]) rfl hcf (hg l[k]) rfl rfl rfl Ω rfl) ?_
  refine le ?_; intro x16
  refine k_ 2 ?_
  refine cc rfl ?_ ?_
  ·
   intro h16
   try simp only [nrmZ] at h16
   refine k_ 8 ?_
   exact rR [0] ⟨(k : Int), .inr ⟨k, rfl, hk1, hkk, h16⟩⟩
  ·
   intro h16
   try simp only [nrmZ] at h16
   refine k_ 7 ?_
   refine nnext ⟨k + 1, hk1, by rw [List.take_succ_eq_append_getElem hk1, List.any_append, hkk]; simp [h16]⟩ (by dsimp only; omega) (wK [0])
 ·
  intro h9
  try simp only [nrmZ] at h9
  refine k_ 12 ?_
  exact rR [0] ⟨-1, .inl ⟨rfl, by rw [List.take_of_length_le (by omega)] at hkk; exact hkk⟩⟩
set_option maxRecDepth 100000 in
theorem c_ContainsFuncX (l : List Int) (A : Option Addr) (c : Nat) (hl : l.length ≤ 2000000) (f : Int → Bool) (g : FuncId) (cap : List Value) (x : Xsn) (hcf : ∀ args w, (callFunc g args).run Tryz.prog w = .ok (.enter g args) w) (hg : ∀ v, Con Tryz.prog g (.int .i64 v :: cap) [x] [] Unit (fun _ => .bool (f v)) (fun _ => [x]) (fun _ => [])) : Con Tryz.prog 78 [.slice A l.length c, .func (.func g) #[] cap.toArray] [x] [slA A l] Unit (fun _ => .bool (l.any f)) (fun _ => [x]) (fun _ => []) := by
 refine con func78 rfl ntmps78 rfl ?_
 intro M0 F0 w0
 refine k_ 9 ?_
 refine lC [0] call114 (c_IndexFuncX l A c hl f g cap x hcf hg) ?_; rintro ⟨r, hr⟩
 refine k_ 1 ?_
 refine fixL (congrArg Value.bool (any_of hr)) ?_
 refine k_ 5 ?_
 exact rR [0] ()
set_option maxRecDepth 100000 in
theorem c_logAdd1 (l : List Patch) (A : Option Addr) (c : Nat) (hl : l.length ≤ 2000000) (pl p b : Nat) (v : Int) : Con Tryz.prog 76 [.int .i64 v, .pointer (some ⟨b, 0, none⟩)] [box b 25 [.pointer (some ⟨pl, 0, none⟩)], box pl 82 [.slice A l.length c, .pointer (some ⟨p, 0, none⟩)], row 55 A c l] [] Unit (fun _ => .bool (decide (atP l v < 0))) (fun _ => [box b 25 [.pointer (some ⟨pl, 0, none⟩)], box pl 82 [.slice A l.length c, .pointer (some ⟨p, 0, none⟩)], row 55 A c l]) (fun _ => []) := by
 refine con func76 rfl ntmps76 rfl ?_
 intro M0 F0 w0
 refine k_ 9 ?_
 refine lC [1, 1] call53 (c_logAtW l A c hl pl p v) ?_; intro x6
 refine k_ 6 ?_
 exact rR [2, 0, 0] ()
set_option maxRecDepth 100000 in
theorem c_logAdd (l : List Patch) (A : Option Addr) (c : Nat) (hl : l.length ≤ 2000000) (pl p b : Nat) (T : List File) (q : Patch) (y : Rp.Lay Patch) (hq : q.fit) (mm nn : Nat) (hi : AppInv mm nn T) (hm : mm + 2 * lns q.l ≤ 1800000) (hn : nn + 2 * q.l.length ≤ 1800000) : Con Tryz.prog 39 [.pointer (some ⟨pl, 0, none⟩), sv q y] [box pl 82 [.slice A l.length c, .pointer (some ⟨p, 0, none⟩)], row 55 A c l, box p 119 [.map (some b)], tr b T] (Rp.asn q y) {x : ((List Patch × List File) × Int) × (Option Addr × Nat) // x.1 = addP l T q} (fun x => .int .i64 x.1.1.2) (fun x => [box pl 82 [.slice x.1.2.1 x.1.1.1.1.length x.1.2.2, .pointer (some ⟨p, 0, none⟩)], row 55 x.1.2.1 x.1.2.2 x.1.1.1.1, box p 119 [.map (some b)], tr b x.1.1.1.2]) (fun _ => []) := by
 refine con func39 rfl ntmps39 rfl ?_
 intro M0 F0 w0
 refine k_ 2 ?_
 refine ls (o_box rfl rfl rfl) ?_
 refine le ?_; intro b2
 refine ls (o_box rfl rfl rfl) ?_
 refine le ?_; intro b3
 refine k_ 5 ?_
 refine ls (op (p_mkf rfl) rfl) ?_
 refine k_ 7 ?_
 refine ls (o_ldw isAgg55 sizeOf55 rfl Θ (by rfl) rfl) ?_
 refine lC [] call77 (c_nRight q y hq) ?_; intro x10
 refine k_ 4 ?_
 refine cc rfl ?_ ?_
 ·
  intro h8
  have hr : q.right = false := by have h := h8; simpa using h
  refine k_ 7 ?_
  exact rR [2, 2, 2, 2] ⟨(((l, T), 70), (A, c)), (addP_form hr).symm⟩
 ·
  intro h8
  have hr : q.right = true := by have h := h8; simpa using h
  refine k_ 5 ?_
  refine lC [2, 2] call53 (c_logAtW l A c hl pl p q.id) ?_; intro x16
  refine k_ 4 ?_
  refine cc rfl ?_ ?_
  ·
   intro h12
   have ha : 0 ≤ atP l q.id := of_decide_eq_true h12
   refine k_ 7 ?_
   exact rR [0, 0, 2, 2] ⟨(((l, T), 80), (A, c)), (addP_twice hr ha).symm⟩
  ·
   intro h12
   have ha : ¬ 0 ≤ atP l q.id := of_decide_eq_false h12
   refine cs ?_
   refine cmono (fun a w h => stBun (is := [3, 0, 0]) (Γ1 := []) rfl Sub.d h) ?_
   refine k_ 4 ?_
   refine lC [0] call78 (c_ContainsFuncX q.deps y.1.1 y.1.2 hq.dl (fun d => decide (atP l d < 0)) 76 [.pointer (some ⟨b2, 0, none⟩)] (bun [box b2 25 [.pointer (some ⟨pl, 0, none⟩)], box pl 82 [.slice A l.length c, .pointer (some ⟨p, 0, none⟩)], row 55 A c l] []) call76 (fun d => con_bun (Ξ0 := []) (Ξo := fun _ => []) (c_logAdd1 l A c hl pl p b2 d))) ?_; intro x22
   refine lmono (fun a w h => stUnbun (i := 0) rfl h) ?_
   refine k_ 3 ?_
   refine cc rfl ?_ ?_
   ·
    intro h18
    have hd : (q.deps.any fun d => decide (atP l d < 0)) = true := h18
    refine k_ 7 ?_
    exact rR [1, 1, 2, 2] ⟨(((l, T), 82), (A, c)), (addP_deps hr ha hd).symm⟩
   ·
    intro h18
    have hd : (q.deps.any fun d => decide (atP l d < 0)) = false := h18
    refine k_ 5 ?_
    refine cpure (St.cap (m := q.l.length) (c := y.2.2) Θ) ?_
    intro hcapq
    refine cd [6] [(0, b2, 0, _), (3, pl, 1, _), (5, b3, 3, _)] TryzX.mixed (TOk.t (isBoxS Θ (k := 1) Δ) (TOk.t (isBoxS Θ (k := 1) Δ) (TOk.t (isBoxS Θ (k := 1) Δ) TOk.d))) ?_
    refine u_ 0 1 ?_
    refine tk 1 rfl Ψ Υ gnone (TTany _) (p_nilck rfl) rfl ?_
    refine u_ 2 4 ?_
    refine df 6 Ψ ?_
    refine doR rfl (o_call (is := [4, 4]) call38 (c_seqApply p b T mm nn hi q.l y.2.1 y.2.2 hcapq (by omega) hq.lf (by omega) (by omega)) rfl rfl Ω rfl) tX ?_
    refine ea ?_; rintro ⟨⟨U, e29⟩, hq29⟩
    refine u_ 7 1 ?_
    refine dn Ψ ?_
    refine k_ 7 ?_
    refine cc rfl ?_ ?_
    ·
     intro h31
     have he : ¬ e29 = 0 := by have h := h31; simpa using h
     refine k_ 8 ?_
     exact rR [3, 3, 0, 0] ⟨(((l, U), e29), (A, c)), (addP_no hr ha hd hq29 he).symm⟩
    ·
     intro h31
     obtain rfl : e29 = 0 := by have h := h31; simpa using h
     refine k_ 3 ?_
     refine cd [6, 7, 8, 11] [(0, b2, 0, _), (1, b2, 0, _), (4, pl, 0, _), (5, b3, 0, _)] TryzX.mixed (TOk.t (isBoxS Θ (k := 1) Δ) (TOk.t (isBoxS Θ (k := 1) Δ) (TOk.t (isBoxS Θ (k := 1) Δ) (TOk.t (isBoxS Θ (k := 4) Δ) TOk.d)))) ?_
     refine u_ 0 2 ?_
     refine tk 2 rfl Ψ Υ gnone (TTany _) (p_nilck rfl) rfl ?_
     refine u_ 3 3 ?_
     refine df 6 Ψ ?_
     refine doR rfl (o_call (is := []) call47 (c_nClone q y hq) rfl rfl Ω rfl) (TOk.t (isBoxE fun _ => isBoxS Θ (k := 1) Δ) (TOk.t (isBoxE fun _ => isBoxS Θ (k := 1) Δ) (TOk.t (isBoxE fun _ => isBoxS Θ (k := 1) Δ) (TOk.x Ψ TOk.d)))) ?_
     refine ea ?_; intro y39
     refine df 7 Ψ ?_
     refine doR rfl (o_bsl [q] underlying37 sizeOf55 zeroValue55 rfl (Enum.t Enum.d) (RV.t y39 rfl Ω RV.d) rfl (by decide) (by decide) rfl) (TOk.t (isBoxE fun _ => isBoxS Θ (k := 1) Δ) (TOk.t (isBoxE fun _ => isBoxS Θ (k := 1) Δ) (TOk.t (isBoxE fun _ => isBoxS Θ (k := 1) Δ) (TOk.x Ψ TOk.d)))) ?_
     refine ea ?_; intro b40
     refine amono (fun a w h => Go.Sx.freeze (i := 0) rfl h) ?_
     refine df 8 Ψ ?_
     refine doR rfl (o_appX (i := 4) underlying37 inf55 rfl (by decide) (by decide) rfl rfl (by simp only [List.length_cons, List.length_nil]; omega) rfl Ω rfl) (TOk.t (isBoxE fun _ => isBoxS Θ (k := 1) Δ) (TOk.x Ψ (TOk.x Ψ (TOk.x Ψ TOk.d)))) ?_
     refine ea ?_; rintro ⟨A41, c41⟩
     refine tk 9 rfl Ψ Υ gnone (TTany _) (p_nilck rfl) rfl ?_
     refine u_ 10 1 ?_
     refine df 11 Ψ ?_
     refine doR rfl (o_st rfl sizeOf37 rfl rfl rfl rfl rfl Θ Θ Θ) tX ?_
     refine dn Ψ ?_
     refine k_ 8 ?_
     exact rR [4, 0, 0, 0] ⟨(((l ++ [q], U), 0), (A41, c41)), (addP_yes hr ha hd hq29).symm⟩
end Go.Proofs.YtppjcjlijmldiaaGreatDoor.X
end
section
set_option linter.unusedVariables false
set_option linter.unusedSimpArgs false
namespace Go.Sx
open Go Go.RowKit
end Go.Sx
end
section
set_option linter.unusedVariables false
set_option linter.unusedSimpArgs false
namespace Go.Sx
open Go Go.RowKit
theorem borrowC {P : Program} {f : FuncId} {args : List Value} {α : Type} [Rp α] {e : TypeId} {A : Option Addr} {c : Nat} {l : List α} {Ξf : List Xsn} {Γi : List Asn} {X : Type} {rv : X → Value} {Ξo : X → List Xsn} {Γo : X → List Asn} (good : X → Bool)
    (h : Con P f args Ξf (slA A l :: Γi) X rv Ξo Γo) (hfree : ∀ x, good x = true → (∀ z ∈ Ξo x, ∀ F M M' w, z.p F M w → z.p F M' w) ∧ Γo x = []) :
    Con P f args (row e A c l :: Ξf) Γi X rv (fun x => if good x = true then row e A c l :: Ξo x else Ξo x) Γo := by
  intro M0 Fs w hh
  obtain ⟨Gs, Hs, hp, hin, hr⟩ := hh.select (is := [0]) (Γi := Γi) rfl (fun p hp => hp)
  have hsl : Slots ⟨0, []⟩ [] { tmps := #[], defers := [] } := ⟨rfl, rfl, fun t v h => by cases h⟩
  obtain ⟨_, Fs', h1⟩ := freeze (i := 0) rfl (⟨hsl, Gs, hin⟩ : St _ (own Gs) w ⟨0, []⟩ [] [row e A c l] Γi { tmps := #[], defers := [] } w)
  have hnil : Fs' = [] := by
    cases Fs' with
    | nil => rfl
    | cons G Gs => exact h1.ex.elim
  subst hnil
  have hown : ∀ b, own Fs b ↔ own Gs b ∨ own Hs b := fun b => (own_perm hp b).trans own_append
  have hpw := List.pairwise_append.1 (perm_pairwise hp hh.dis)
  have hsep : ∀ b, own Gs b → ¬ own Hs b := fun b ⟨G, hG, hg⟩ ⟨H, hH, hb⟩ => hpw.2.2 G hG H hH b hg hb
  have hin2 : Hp M0 (own Hs) w Ξf (slA A l :: Γi) Hs w := ⟨hr.st (fun _ _ _ => rfl) (fun b _ hb => hb.imp id fun hb => (hown b).2 (.inr hb)) (Nat.le_refl _), hpw.2.1, fun b hb => hh.dis0 b ((hown b).2 (.inr hb)), fun b hb => hh.lt b ((hown b).2 (.inr hb)), fun b hb _ => hb,
    fun p hp => p.st _ _ w w (h1.ga p hp) (fun _ _ _ => rfl) (fun b _ hb => .inl hb) (Nat.le_refl _), Upd.refl _ _, hh.m0, fun b hb => hh.dis0 b ((hown b).2 (.inr hb))⟩
  refine (h M0 Hs w hin2).mono ?_
  rintro en w' ⟨x, Ks, rfl, hout⟩
  have hup : Upd (own Fs) w w' := ⟨hout.up.os, hout.up.tape, hout.up.output, hout.up.size, fun b hb hn => hout.up.block b hb (fun h => hn ((hown b).2 (.inr h)))⟩
  cases hg : good x with
  | false =>
    refine ⟨x, Ks, rfl, ?_⟩
    dsimp only
    rw [hg, if_neg (by simp)]
    exact ⟨hout.ex, hout.dis, hout.dis0, hout.lt, fun b hb hl => (hown b).2 (.inr (hout.old b hb hl)), hout.ga, hup, hh.m0, hh.f0⟩
  | true =>
    obtain ⟨hfr, hgo⟩ := hfree x hg
    obtain ⟨G, rfl, hrow⟩ := hin.one_of
    have hGlt : ∀ b, G b → b < w.heap.size := fun b hb => hh.lt b ((hown b).2 (.inl ⟨G, by simp, hb⟩))
    have hGK : ∀ b, G b → ¬ own Ks b := fun b hb hk => hsep b ⟨G, by simp, hb⟩ (hout.old b hk (hGlt b hb))
    refine ⟨x, G :: Ks, rfl, ?_⟩
    dsimp only
    rw [hg, if_pos rfl, hgo]
    refine ⟨⟨?_, ?_⟩, List.pairwise_cons.2 ⟨fun K hK b hb hk => hGK b hb ⟨K, hK, hk⟩, hout.dis⟩, ?_, ?_, ?_, (fun p hp => by cases hp), hup, hh.m0, hh.f0⟩
    · refine (row e A c l).st _ _ _ _ _ hrow (fun b hb hF => hout.up.block b hb (fun hH => ?_)) (fun b hb hM => ?_) hout.up.size
      · rcases hF with hF | hF
        · exact hsep b ⟨G, by simp, hF⟩ hH
        · exact hF (.inl (.inr hH))
      · rcases hM with hM | hM
        · exact .inl (.inl hM)
        · rcases own_cons.1 hM with hM | hM
          · exact .inr ⟨G, by simp, hM⟩
          · exact .inl (.inr (hout.old b hM hb))
    · have : ∀ {Ξ : List Xsn} {Gs : List (Nat → Prop)} {M M' : Nat → Prop}, (∀ z ∈ Ξ, ∀ F M M' w, z.p F M w → z.p F M' w) → all2 M w' Ξ Gs → all2 M' w' Ξ Gs := by
        intro Ξ
        induction Ξ with
        | nil =>
          intro Gs M M' _ h
          cases Gs with
          | nil => trivial
          | cons _ _ => exact h.elim
        | cons z Ξ ih =>
          intro Gs M M' hz h
          cases Gs with
          | nil => exact h.elim
          | cons G Gs => exact ⟨hz z (by simp) _ _ _ _ h.1, ih (fun z' h' => hz z' (by simp [h'])) h.2⟩
      exact this hfr hout.ex
    · intro b hb
      rcases own_cons.1 hb with hb | hb
      · exact hh.dis0 b ((hown b).2 (.inl ⟨G, by simp, hb⟩))
      · exact hout.dis0 b hb
    · intro b hb
      rcases own_cons.1 hb with hb | hb
      · exact Nat.lt_of_lt_of_le (hGlt b hb) hout.up.size
      · exact hout.lt b hb
    · intro b hb hl
      rcases own_cons.1 hb with hb | hb
      · exact (hown b).2 (.inl ⟨G, by simp, hb⟩)
      · exact (hown b).2 (.inr (hout.old b hb hl))
theorem box_free {b : Nat} {t : TypeId} {cs : List Value} : ∀ F M M' w, (box b t cs).p F M w → (box b t cs).p F M' w := fun F M M' w h => h
theorem rowE_free {α : Type} [Rp α] (h0 : ∀ (x : α) (y : Rp.Lay α), Rp.asn x y = []) {M M' : Nat → Prop} {w : World} : ∀ {l : List α} {xs : List Value}, RowE M w l xs → RowE M' w l xs
  | _, _, .nil => .nil
  | _, _, .snoc y h _ => .snoc y (rowE_free h0 h) (fun p hp => by rw [h0] at hp; cases hp)
theorem rowI_free {e : TypeId} {A : Option Addr} {c : Nat} {l : List Int} : ∀ F M M' w, (row e A c l).p F M w → (row e A c l).p F M' w := by
  rintro F M M' w ⟨xs, h1, h2, h3⟩
  exact ⟨xs, h1, h2, rowE_free (fun _ _ => rfl) h3⟩
end Go.Sx
end
section
set_option linter.unusedVariables false
set_option linter.unusedSimpArgs false
namespace Go.Proofs.YtppjcjlijmldiaaGreatDoor.X
open Go Go.RowKit Go.Proofs Go.Sx
open Tryz
attribute [local irreducible] slA isA box row TrL TrC TrN TrA Pu OpR
set_option maxHeartbeats 8000000
set_option maxRecDepth 100000 in
theorem c_logLastO (l : List Patch) (A : Option Addr) (c : Nat) (hl : l.length ≤ 2000000) (hf : ∀ q ∈ l, q.fit) (hc : l.length ≤ c) (hA : A = none → c = 0) (pl p : Nat) (v : Int) : Con Tryz.prog 33 [.pointer (some ⟨pl, 0, none⟩), .int .i64 v] [box pl 82 [.slice A l.length c, .pointer (some ⟨p, 0, none⟩)]] [slA A l] {x : (List Patch × Int) × (Option Addr × Nat) // x.1 = lastP l v} (fun x => .int .i64 x.1.1.2) (fun x => if x.1.1.2 = 0 then [row 55 x.1.2.1 x.1.2.2 x.1.1.1, box pl 82 [.slice x.1.2.1 x.1.1.1.length x.1.2.2, .pointer (some ⟨p, 0, none⟩)]] else [box pl 82 [.slice A l.length c, .pointer (some ⟨p, 0, none⟩)]]) (fun _ => []) := by
 refine con func33 rfl ntmps33 rfl ?_
 intro M0 F0 w0
 refine k_ 9 ?_
 refine lC [0] call53 (c_logAtO l A c hl pl p v) ?_; intro x15
 refine k_ 10 ?_
 refine cc rfl ?_ ?_
 ·
  intro h17
  have hn : atP l v < 0 := of_decide_eq_true h17
  refine k_ 7 ?_
  exact rR [0] ⟨((l, 81), (none, 0)), (lastP_no hn).symm⟩
 ·
  intro h17
  have hn : ¬ atP l v < 0 := of_decide_eq_false h17
  obtain ⟨k, hk1, hk2, _⟩ : ∃ k : Nat, ∃ h : k < l.length, atP l v = (k : Int) ∧ l[k].id = v ∧ ∀ j (hj : j < k), l[j].id ≠ v := by rcases atP_cases l v with ⟨h, _⟩ | h; omega; exact h
  have hfk := hf _ (List.getElem_mem hk1)
  have hDl : (l.drop (k + 1)).length = l.length - (k + 1) := List.length_drop
  have hfD : ∀ q ∈ (l.drop (k + 1)), q.fit := fun q hq => hf q (List.mem_of_mem_drop hq)
  refine k_ 3 ?_
  refine elC (A := A) (l := l) Θ k (List.getElem?_eq_getElem hk1) ?_; rintro zbp zop zyp hAp
  refine k_ 2 ?_
  refine ls (op (p_nilck rfl) rfl) ?_
  refine k_ 3 ?_
  refine ls (op (p_ia k hAp hk1 hk2 underlying37 sizeOf55 rfl rfl) rfl) ?_
  refine ls (o_ldj isAgg55 sizeOf55 rfl Θ 0 rfl Δ rfl) ?_
  refine ls (o_alloc zeroValue55 rfl rfl) ?_
  refine le ?_; intro b6
  refine k_ 4 ?_
  refine cmono (fun a w h => nilRow (α := Patch) 55 h) ?_
  refine k_ 6 ?_
  refine cmono (fun a w h => subS (l' := (l.drop (k + 1))) (c := c) (k + 1) l.length (by repeat (first | exact In.z | apply In.s)) (by omega) (Nat.le_refl _) hc (by rw [List.take_of_length_le (by simp)]) h) ?_
  refine k_ 2 ?_
  refine ls (op (p_nilck rfl) rfl) ?_
  refine k_ 4 ?_
  refine ls (op (p_sll (k + 1) (by omega) (by omega) (by omega) underlying37 sizeOf55 rfl rfl) rfl) ?_
  refine fixL (slen (m' := (l.drop (k + 1)).length) (by omega)) ?_
  refine k_ 5 ?_
  refine cl (ι := {q : (Nat × List Patch) × (Patch × Rp.Lay Patch) × (Option Addr × Nat) // q.1.1 ≤ (l.drop (k + 1)).length ∧ lastF l[k] ((l.drop (k + 1)).take q.1.1) = some (q.1.2, q.2.1.1)}) (fun i => St M0 F0 w0 64 [(0, .pointer (some ⟨pl, 0, none⟩)), (5, .int .i64 (atP l v)), (6, .pointer (some ⟨b6, 0, none⟩)), (7, .slice i.1.2.2.1 (i.1.1.2).length i.1.2.2.2), (31, .slice (if c = k + 1 then A else A.map (·.add ((k + 1) * Rp.size Patch))) (l.drop (k + 1)).length (c - (k + 1))), (32, .int .i64 ((l.drop (k + 1)).length : Int)), (33, .int .i64 ((i.1.1.1 : Nat) : Int))] [row 55 (i.1.2.2.1) (i.1.2.2.2) i.1.1.2, box b6 55 (Rp.enc (i.1.2.1.1) (i.1.2.1.2)), box pl 82 [.slice A l.length c, .pointer (some ⟨p, 0, none⟩)]] [slA (i.1.2.1.2).1.1 (i.1.2.1.1).deps, slA (i.1.2.1.2).2.1 (i.1.2.1.1).l, capA (i.1.2.1.2).2.2 (i.1.2.1.1).l.length, slA A l, slA (if c = k + 1 then A else A.map (·.add ((k + 1) * Rp.size Patch))) (l.drop (k + 1))]) (fun i => (l.drop (k + 1)).length - i.1.1.1) ⟨((0, []), (l[k], zyp), (none, 0)), Nat.zero_le _, rfl⟩ (wK [0, 0, 0]) ?_
  rintro ⟨⟨⟨k2, s0⟩, ⟨b0, yb⟩, ⟨A7, c7⟩⟩, hk3, hlf⟩
  refine cmono (S' := St M0 F0 w0 64 [(0, .pointer (some ⟨pl, 0, none⟩)), (5, .int .i64 (atP l v)), (6, .pointer (some ⟨b6, 0, none⟩)), (7, .slice A7 (s0).length c7), (31, .slice (if c = k + 1 then A else A.map (·.add ((k + 1) * Rp.size Patch))) (l.drop (k + 1)).length (c - (k + 1))), (32, .int .i64 ((l.drop (k + 1)).length : Int)), (33, .int .i64 ((k2 : Nat) : Int))] [row 55 (A7) (c7) s0, box b6 55 (Rp.enc (b0) (yb)), box pl 82 [.slice A l.length c, .pointer (some ⟨p, 0, none⟩)]] [slA (yb).1.1 (b0).deps, slA (yb).2.1 (b0).l, capA (yb).2.2 (b0).l.length, slA A l, slA (if c = k + 1 then A else A.map (·.add ((k + 1) * Rp.size Patch))) (l.drop (k + 1))]) Ħ ?_
  refine k_ 6 ?_
  refine cc rfl ?_ ?_
  ·
   intro h34
   dsimp only at hk3 hlf
   try simp only [nrmZ] at h34
   have hk4 : k2 < (l.drop (k + 1)).length := by omega
   have hfb := (lastF_fit hlf hfk (fun q hq => hfD q (List.mem_of_mem_take hq))).2
   have hls := lastF_len hlf
   have hlt := List.length_take_le k2 (l.drop (k + 1))
   refine k_ 5 ?_
   refine elC (A := (if c = k + 1 then A else A.map (·.add ((k + 1) * Rp.size Patch)))) (l := (l.drop (k + 1))) Θ k2 (List.getElem?_eq_getElem hk4) ?_; rintro zbq zoq zyq hAq
   refine cr ?_
   refine ls (op (p_ia k2 hAq hk4 rfl underlying37 sizeOf55 rfl rfl) rfl) ?_
   refine ls (o_ldj isAgg55 sizeOf55 rfl Θ 0 rfl Δ rfl) ?_
   refine ls (o_alloc zeroValue55 rfl rfl) ?_
   refine le ?_; intro b9
   refine k_ 5 ?_
   refine ls (o_ldw isAgg55 sizeOf55 rfl Θ (by rfl) rfl) ?_
   refine ls (o_ldw isAgg55 sizeOf55 rfl Θ (by rfl) rfl) ?_
   refine lC [] call69 (c_nSwap b0 (l.drop (k + 1))[k2] yb zyq hfb (hfD _ (List.getElem_mem hk4))) ?_; rintro ⟨⟨⟨r1, r2, r3⟩, z1, z2⟩, hr⟩
   dsimp only at hr
   refine k_ 4 ?_
   refine ls (o_alloc zeroValue55 rfl rfl) ?_
   refine le ?_; intro b10
   refine ls (o_alloc zeroValue55 rfl rfl) ?_
   refine le ?_; intro b11
   refine k_ 12 ?_
   refine cc rfl ?_ ?_
   ·
    intro h45
    obtain rfl : r3 = false := by have h := h45; simpa using h
    have hno : lastF l[k] (l.drop (k + 1)) = none := lastF_stuck hk4 hlf hr
    refine k_ 7 ?_
    exact rR [5] ⟨((l, 83), (none, 0)), (lastP_none hk1 hk2 hno).symm⟩
   ·
    intro h45
    obtain rfl : r3 = true := by have h := h45; simpa using h
    refine k_ 2 ?_
    refine cd [2, 3, 6] [(1, b10, 0, _), (4, b11, 0, _)] TryzX.mixed (TOk.t (isBoxS Θ (k := 4) Δ) (TOk.t (isBoxS Θ (k := 4) Δ) TOk.d)) ?_
    refine u_ 0 2 ?_
    refine u_ 4 1 ?_
    refine df 2 Ψ ?_
    refine doR rfl (o_bsl [r1] underlying37 sizeOf55 zeroValue55 rfl (Enum.t Enum.d) (RV.t z1 rfl Ω RV.d) rfl (by decide) (by decide) rfl) (TOk.x Ψ (TOk.t (isBoxE fun _ => isBoxS Θ (k := 4) Δ) TOk.d)) ?_
    refine ea ?_; intro b48
    refine amono (fun a w h => Go.Sx.freeze (i := 0) rfl h) ?_
    refine df 3 Ψ ?_
    refine doR rfl (o_appX (i := 3) underlying37 inf55 rfl (by decide) (by decide) rfl rfl (by simp only [List.length_cons, List.length_nil]; omega) rfl Ω rfl) (TOk.x Ψ (TOk.t (isBoxE fun _ => isBoxS Θ (k := 4) Δ) TOk.d)) ?_
    refine ea ?_; rintro ⟨A49, c49⟩
    refine u_ 5 1 ?_
    refine df 6 Ψ ?_
    refine doR rfl (o_st rfl sizeOf55 rfl rfl rfl rfl rfl Θ Θ Θ) tX ?_
    refine dn Ψ ?_
    refine k_ 6 ?_
    refine nnext ⟨((k2 + 1, s0 ++ [r1]), (r2, z2), (A49, c49)), hk4, lastF_step hk4 hlf hr⟩ (by dsimp only; omega) (wK [0, 3, 3])
  ·
   intro h34
   dsimp only at hk3 hlf
   try simp only [nrmZ] at h34
   obtain rfl : k2 = (l.drop (k + 1)).length := by omega
   rw [List.take_length] at hlf
   have hls := lastF_len hlf
   refine k_ 6 ?_
   refine cmono (fun a w h => freezeN (i := 0) rfl h) ?_
   refine cmono (fun a w h => subS (l' := l.take k) (c := c) 0 k (by repeat (first | exact In.z | apply In.s)) (by omega) (by omega) hc (by simp) h) ?_
   refine cmono (fun a w h => nilQ (y := ((if c = 0 then A else A.map (·.add (0 * Rp.size Patch))), c - 0)) (fun e => sub_nil hA e) h) ?_
   refine cmono (fun a w h => capQ (c := c - 0) (m := (l.take k).length) (by rw [List.length_take]; omega) h) ?_
   refine cd [9, 10, 11] [(4, pl, 0, _), (8, b6, 0, _)] TryzX.mixed (TOk.t (isBoxS Θ (k := 1) Δ) (TOk.t (isBoxS Θ (k := 4) Δ) TOk.d)) ?_
   refine u_ 0 2 ?_
   refine tk 2 rfl Ψ Υ gnone (TTany _) (p_nilck rfl) rfl ?_
   refine u_ 3 3 ?_
   refine tk 6 rfl Ψ Υ gnone (TTany _) (p_slh k (by omega) hk2 underlying37 sizeOf55 rfl rfl) rfl ?_
   refine fixA (slen (m' := (l.take k).length) (by rw [List.length_take]; omega)) ?_
   refine u_ 7 2 ?_
   refine df 9 Ψ ?_
   refine doR rfl (o_bsl [b0] underlying37 sizeOf55 zeroValue55 rfl (Enum.t Enum.d) (RV.t yb rfl Ω RV.d) rfl (by decide) (by decide) rfl) (TOk.t (isBoxE fun _ => isBoxS Θ (k := 1) Δ) (TOk.x Ψ TOk.d)) ?_
   refine ea ?_; intro b61
   refine amono (fun a w h => freezeN (i := 0) rfl h) ?_
   refine df 10 Ψ ?_
   refine doR rfl (o_bsl [l.take k, s0, [b0]] underlying157 sizeOf37 zeroValue37 rfl (Enum.t (Enum.t (Enum.t Enum.d))) (RV.t ((if c = 0 then A else A.map (·.add (0 * Rp.size Patch))), c - 0) rfl Ω (RV.t (A7, c7) rfl Ω (RV.t (some ⟨b61, 0, none⟩, 1) rfl Ω RV.d))) rfl (by decide) (by decide) rfl) tX ?_
   refine ea ?_; intro b62
   refine amono (fun a w h => Go.Sx.freeze (i := 0) rfl h) ?_
   refine df 11 Ψ ?_
   refine doR rfl (o_call (is := [1]) call63 (c_logPut [l.take k, s0, [b0]] (some ⟨b62, 0, none⟩) 3 (by simp) (by simp only [List.flatten_cons, List.flatten_nil, List.length_append, List.length_take, List.length_cons, List.length_nil]; omega) pl p (.slice A l.length c)) rfl rfl Ω rfl) tX ?_
   refine ea ?_; rintro ⟨A63, c63⟩
   refine dn Ψ ?_
   refine k_ 8 ?_
   exact rR [1, 0] ⟨(([l.take k, s0, [b0]].flatten, 0), (A63, c63)), by rw [lastP_some hk1 hk2 hlf]; simp⟩
theorem lastP_fail {l : List Patch} {v : Int} (h : ¬ (lastP l v).2 = 0) : (lastP l v).1 = l := by
 unfold lastP at h ⊢
 split
 ·
  rename_i hk
  rw [dif_pos hk] at h
  cases hl : lastF (l[(atP l v).toNat]'hk.2) (l.drop ((atP l v).toNat + 1)) with
  | some x => rw [hl] at h; exact absurd rfl h
  | none => rfl
 ·
  rfl
theorem c_logLast (l : List Patch) (A : Option Addr) (c : Nat) (hl : l.length ≤ 2000000) (hf : ∀ q ∈ l, q.fit) (hc : l.length ≤ c) (hA : A = none → c = 0) (pl p : Nat) (v : Int) : Con Tryz.prog 33 [.pointer (some ⟨pl, 0, none⟩), .int .i64 v] [row 55 A c l, box pl 82 [.slice A l.length c, .pointer (some ⟨p, 0, none⟩)]] [] {x : (List Patch × Int) × (Option Addr × Nat) // x.1 = lastP l v} (fun x => .int .i64 x.1.1.2) (fun x => [row 55 x.1.2.1 x.1.2.2 x.1.1.1, box pl 82 [.slice x.1.2.1 x.1.1.1.length x.1.2.2, .pointer (some ⟨p, 0, none⟩)]]) (fun _ => []) := by
 intro M0 Fs w hh
 refine ((borrowC (fun x => decide (¬ x.1.1.2 = 0)) (c_logLastO l A c hl hf hc hA pl p v) ?_) M0 Fs w hh).mono ?_
 ·
  intro x hx
  have hx' : ¬ x.1.1.2 = 0 := of_decide_eq_true hx
  try dsimp only
  rw [if_neg hx']
  exact ⟨fun z hz => by rw [List.mem_singleton.1 hz]; exact box_free, rfl⟩
 ·
  rintro e w' ⟨x, Fs', rfl, h⟩
  by_cases hx : x.1.1.2 = 0
  ·
   refine ⟨x, Fs', rfl, ?_⟩
   dsimp only at h
   rw [if_neg (by simp [hx]), if_pos hx] at h
   exact h
  ·
   have hz := x.2
   have e1 := lastP_fail (l := l) (v := v) (by rw [← hz]; exact hx)
   rw [← hz] at e1
   refine ⟨⟨((l, x.1.1.2), (A, c)), (show ((l, x.1.1.2) : List Patch × Int) = x.1.1 from Prod.ext e1.symm rfl).trans hz⟩, Fs', rfl, ?_⟩
   dsimp only at h
   rw [if_pos (by simp [hx]), if_neg hx] at h
   exact h
end Go.Proofs.YtppjcjlijmldiaaGreatDoor.X
end
section
set_option linter.unusedVariables false
set_option linter.unusedSimpArgs false
namespace Go.Proofs.YtppjcjlijmldiaaGreatDoor.X
open Go Go.RowKit Go.Proofs Go.Sx
open Tryz
attribute [local irreducible] slA isA box row TrL TrC TrN TrA Pu OpR
set_option maxHeartbeats 8000000
theorem group_GI8 {l : List Patch} (hl : ∀ x ∈ l, x.fit) : GI l l.length (group l).1 (group l).2 := by
 have key : ∀ (n k : Nat) (g r : List Patch), l.length - k = n → k ≤ l.length → GI l k g r → GI l l.length (group l).1 (group l).2 := by
  intro n
  induction n with
  | zero =>
   intro k g r hn hk hI
   have hkl : k = l.length := by omega
   rw [hI.done (by omega), ← hkl]
   exact hI
  | succ n ih =>
   intro k g r hn hk hI
   have hk1 : k < l.length := by omega
   cases hp : ppast g l[k] with
   | mk q t =>
    obtain ⟨rest, b⟩ := t
    by_cases h0 : k = 0
    ·
     exact ih (k + 1) _ _ (by omega) hk1 (hI.no (rest := []) (q := Patch.zero) hk1 hl (.inl h0))
    ·
     cases b with
     | true => exact ih (k + 1) _ _ (by omega) hk1 (hI.yes hk1 h0 hl hp.symm)
     | false => exact ih (k + 1) _ _ (by omega) hk1 (hI.no hk1 hl (.inr hp.symm))
 exact key _ 0 [] [] rfl (Nat.zero_le _) (GI.start l)
set_option maxRecDepth 100000 in
theorem c_logNeedsO (l : List Patch) (A : Option Addr) (c : Nat) (hl : l.length ≤ 2000000) (hf : ∀ q ∈ l, q.fit) (hc : l.length ≤ c) (pl p : Nat) (v : Int) : Con Tryz.prog 27 [.pointer (some ⟨pl, 0, none⟩), .int .i64 v] [box pl 82 [.slice A l.length c, .pointer (some ⟨p, 0, none⟩)]] [slA A l] (Option Addr × Nat) (fun y => .slice y.1 (needsP l v).length y.2) (fun y => [row 3 y.1 y.2 (needsP l v), box pl 82 [.slice A l.length c, .pointer (some ⟨p, 0, none⟩)]]) (fun _ => []) := by
 refine con func27 rfl ntmps27 rfl ?_
 intro M0 F0 w0
 refine k_ 9 ?_
 refine lC [0] call53 (c_logAtO l A c hl pl p v) ?_; intro x13
 refine k_ 10 ?_
 refine cc rfl ?_ ?_
 ·
  intro h15
  have hn : atP l v < 0 := of_decide_eq_true h15
  refine cs ?_
  refine cmono (fun a w h => nilRow (α := Int) 3 h) ?_
  refine cmono (fun a w h => rowEq (α := Int) Θ (needsP_no hn).symm Θ h) ?_
  refine k_ 6 ?_
  refine rret (is := [0, 0]) (none, 0) (Or.inl rfl) (Res.t rfl Res.d) ?_ rfl Ω
  rw [needsP_no hn]; rfl
 ·
  intro h15
  have hn : ¬ atP l v < 0 := of_decide_eq_false h15
  obtain ⟨k, hk1, hk2, _⟩ : ∃ k : Nat, ∃ h : k < l.length, atP l v = (k : Int) ∧ l[k].id = v ∧ ∀ j (hj : j < k), l[j].id ≠ v := by rcases atP_cases l v with ⟨h, _⟩ | h; omega; exact h
  have hDl : (l.drop k).length = l.length - k := List.length_drop
  have hfD : ∀ q ∈ l.drop k, q.fit := fun q hq => hf q (List.mem_of_mem_drop hq)
  refine k_ 3 ?_
  refine cmono (fun a w h => nilRow (α := Int) 3 h) ?_
  refine k_ 5 ?_
  refine cmono (fun a w h => subS (l' := l.drop k) (c := c) k l.length (by repeat (first | exact In.z | apply In.s)) (by omega) (Nat.le_refl _) hc (by rw [List.take_of_length_le (by simp)]) h) ?_
  refine k_ 2 ?_
  refine ls (op (p_nilck rfl) rfl) ?_
  refine k_ 3 ?_
  refine ls (op (p_sll k (by omega) (by omega) hk2 underlying37 sizeOf55 rfl rfl) rfl) ?_
  refine fixL (slen (m' := (l.drop k).length) (by omega)) ?_
  refine lC [] call55 (c_nGroup (l.drop k) (if c = k then A else A.map (·.add (k * Rp.size Patch))) (c - k) (by omega) hfD) ?_; rintro ⟨⟨⟨g, r⟩, ⟨⟨Ag, cg⟩, ⟨Ar, cR⟩⟩⟩, hg⟩
  dsimp only at hg
  have hgp := group_pos (by omega) hg
  have hG := group_GI8 hfD; rw [← hg] at hG; have hgl := hG.len; dsimp only at hgl
  have hGl : (g.drop 1).length = g.length - 1 := List.length_drop
  refine lpure (St.cap (m := g.length) (c := cg) Θ) ?_
  intro hcg
  refine k_ 9 ?_
  refine cmono (fun a w h => subS (A := Ag) (l := g) (l' := (g.drop 1)) (c := cg) 1 g.length (by repeat (first | exact In.z | apply In.s)) (by omega) (Nat.le_refl _) hcg (by rw [List.take_of_length_le (by simp)]) h) ?_
  refine k_ 2 ?_
  refine ls (op (p_sll 1 (show 1 ≤ g.length by omega) (show g.length ≤ cg by omega) rfl underlying37 sizeOf55 rfl rfl) rfl) ?_
  refine fixL (slen (m' := (g.drop 1).length) (show g.length - 1 = (g.drop 1).length by omega)) ?_
  refine k_ 5 ?_
  refine cl (ι := {q : Nat × (Option Addr × Nat) // q.1 ≤ (g.drop 1).length}) (fun i => St M0 F0 w0 40 [(6, .slice i.1.2.1 (idsP ((g.drop 1).take i.1.1)).length i.1.2.2), (27, .slice (if cg = 1 then Ag else Ag.map (·.add (1 * Rp.size Patch))) (g.drop 1).length (cg - 1)), (28, .int .i64 ((g.drop 1).length : Int)), (29, .int .i64 ((i.1.1 : Nat) : Int))] [row 3 (i.1.2.1) (i.1.2.2) (idsP ((g.drop 1).take i.1.1)), box pl 82 [.slice A l.length c, .pointer (some ⟨p, 0, none⟩)]] [slA (if cg = 1 then Ag else Ag.map (·.add (1 * Rp.size Patch))) (g.drop 1)]) (fun i => (g.drop 1).length - i.1.1) ⟨(0, (none, 0)), Nat.zero_le _⟩ (wk0 Φ Ω) ?_
  rintro ⟨⟨k2, ⟨A6, c6⟩⟩, hk3⟩
  refine cmono (S' := St M0 F0 w0 40 [(6, .slice A6 (idsP ((g.drop 1).take k2)).length c6), (27, .slice (if cg = 1 then Ag else Ag.map (·.add (1 * Rp.size Patch))) (g.drop 1).length (cg - 1)), (28, .int .i64 ((g.drop 1).length : Int)), (29, .int .i64 ((k2 : Nat) : Int))] [row 3 (A6) (c6) (idsP ((g.drop 1).take k2)), box pl 82 [.slice A l.length c, .pointer (some ⟨p, 0, none⟩)]] [slA (if cg = 1 then Ag else Ag.map (·.add (1 * Rp.size Patch))) (g.drop 1)]) Ħ ?_
  refine k_ 6 ?_
  refine cc rfl ?_ ?_
  ·
   intro h30
   dsimp only at hk3
   try simp only [nrmZ] at h30
   have hk4 : k2 < (g.drop 1).length := by omega
   refine k_ 5 ?_
   refine elC (A := (if cg = 1 then Ag else Ag.map (·.add (1 * Rp.size Patch)))) (l := (g.drop 1)) Θ k2 (List.getElem?_eq_getElem hk4) ?_; rintro zbq zoq zyq hAq
   refine cr ?_
   refine ls (op (p_ia k2 hAq hk4 rfl underlying37 sizeOf55 rfl rfl) rfl) ?_
   refine ls (o_ldj isAgg55 sizeOf55 rfl Θ 0 rfl Δ rfl) ?_
   refine ls (o_alloc zeroValue55 rfl rfl) ?_
   refine le ?_; intro b10
   refine k_ 7 ?_
   refine ls (o_bsl [(g.drop 1)[k2].id] underlying28 sizeOf3 zeroValue3 rfl (Enum.t Enum.d) (RV.t () rfl Ω RV.d) rfl (by decide) (by decide) rfl) ?_
   refine le ?_; intro b36
   refine lmono (fun a w h => Go.Sx.freeze (i := 0) rfl h) ?_
   refine ls (o_appX (i := 1) underlying28 inf3 rfl (by decide) (by decide) rfl rfl (by simp only [idsP, List.length_map, List.length_take, List.length_cons, List.length_nil]; omega) rfl Ω rfl) ?_
   refine le ?_; rintro ⟨A37, c37⟩
   refine k_ 8 ?_
   refine nnext ⟨(k2 + 1, (A37, c37)), hk4⟩ (by dsimp only; omega) (fun a w h => by dsimp only; rw [ids_take hk4]; exact wL [0, 1] h)
  ·
   intro h30
   dsimp only at hk3
   try simp only [nrmZ] at h30
   obtain rfl : k2 = (g.drop 1).length := by omega
   rw [List.take_length]
   refine k_ 6 ?_
   refine cmono (fun a w h => rowEq (α := Int) Θ (needsP_yes hk2 hg).symm Θ h) ?_
   refine k_ 7 ?_
   refine rret (is := [0, 0]) (A6, c6) (Or.inl rfl) (Res.t rfl Res.d) ?_ rfl Ω
   rw [needsP_yes hk2 hg]; rfl
theorem c_logNeeds (l : List Patch) (A : Option Addr) (c : Nat) (hl : l.length ≤ 2000000) (hf : ∀ q ∈ l, q.fit) (hc : l.length ≤ c) (pl p : Nat) (v : Int) : Con Tryz.prog 27 [.pointer (some ⟨pl, 0, none⟩), .int .i64 v] [row 55 A c l, box pl 82 [.slice A l.length c, .pointer (some ⟨p, 0, none⟩)]] [] (Option Addr × Nat) (fun y => .slice y.1 (needsP l v).length y.2) (fun y => if true = true then row 55 A c l :: [row 3 y.1 y.2 (needsP l v), box pl 82 [.slice A l.length c, .pointer (some ⟨p, 0, none⟩)]] else [row 3 y.1 y.2 (needsP l v), box pl 82 [.slice A l.length c, .pointer (some ⟨p, 0, none⟩)]]) (fun _ => []) :=
 borrowC (fun _ => true) (c_logNeedsO l A c hl hf hc pl p v) (fun y _ => ⟨fun z hz => by
  rcases List.mem_cons.1 hz with rfl | hz
  ·
   exact rowI_free
  ·
   rw [List.mem_singleton.1 hz]; exact box_free, rfl⟩)
end Go.Proofs.YtppjcjlijmldiaaGreatDoor.X
end
