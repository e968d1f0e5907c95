/- OWN WORK: a part of the proof of a law of the seat YtdbiillompeclaaGreatDoor: contracts. -/
import Derived.Test.YtdbiillompeclaaGreatDoorProg
import Derived.Test.YtdbiillompeclaaGreatDoorXGE
import Derived.Test.YtdbiillompeclaaGreatDoorXGC
import Derived.Test.YtdbiillompeclaaGreatDoorXGB
import Derived.Lib.SlicesCompact
section
set_option linter.unusedVariables false
set_option linter.unusedSimpArgs false
namespace Go.Proofs.YtdbiillompeclaaGreatDoor.X
open Go Go.RowKit Go.Proofs Go.Sx
attribute [local irreducible] slA isA box row


set_option maxRecDepth 100000 in
theorem c_seqInvertC (l : List Prim) (A : Option Addr) (c : Nat) (hl : l.length ≤ 2000000) (hf : ∀ x ∈ l, x.fit) : Con Tryz.prog 30 [.slice A l.length c] [] [slA A l] (Option Addr × Nat) (fun y => .slice y.1 (invL l).length y.2) (fun _ => []) (fun y => [slA y.1 (invL l), nilA y, capA y.2 (invL l).length]) := by
 refine con Tryz.func30 rfl Tryz.ntmps30 rfl ?_
 intro M0 F0 w0
 refine cs ?_
 refine cr ?_
 refine ls (op (p_asg rfl) rfl) ?_
 refine ln ?_
 refine nthen ?_
 refine cs ?_
 refine cr ?_
 refine ls (o_alloc Tryz.zeroValue29 rfl rfl) ?_
 refine le ?_; intro b3
 refine ln ?_
 refine nthen ?_
 refine cs ?_
 refine cs ?_
 refine cmono (fun a w h => nilRow (α := Prim) 39 h) ?_
 refine cr ?_
 refine ls (op (p_move rfl) rfl) ?_
 refine ls (o_call (is := []) Tryz.call75 (c_Backward l A c) rfl rfl (by repeat' (first | constructor | apply Sub.suf)) rfl) ?_
 refine le ?_; intro b7
 refine ln ?_
 refine nthen ?_
 refine cb ?_
 refine crng (ι := fun pre => Option Addr × Nat) rfl Tryz.call126 (c_Backward1 l A c hl b7) (fun _ => rfl) rfl (fun pre i => [box b3 29 [.slice i.1 (invP l pre.length).length i.2], row 39 i.1 i.2 (invP l pre.length)]) (fun pre i => []) ((none, 0)) (Y := Empty) (fun _ => []) (fun _ => []) (is := [2, 1, 0]) rfl (by repeat' (first | constructor | apply Sub.suf)) (by repeat' (first | constructor | apply Sub.suf)) ?_ ?_ ?_
 ·
  rintro M0 F0 w0 lp κ pre ⟨⟨k, yk⟩, hk⟩ hx ⟨A2, c2⟩
  dsimp only at hk hx ⊢
  have hfk := hf _ (List.getElem_mem hk)
  have hpl := invP_len l (show pre.length ≤ l.length by omega)
  refine cmono (S' := St M0 F0 w0 ⟨16, []⟩ [(3, .pointer (some ⟨b3, 0, none⟩)), (9, sv l[k] yk)] [lrec lp κ .ready none, box b3 29 [.slice A2 (invP l pre.length).length c2], row 39 A2 c2 (invP l pre.length)] [slA yk.1.1 l[k].old, slA yk.2.1 l[k].new]) (wk0 (by repeat (first | exact subσ.nil _ | refine subσ.cons rfl ?_)) (by repeat' (first | constructor | apply Sub.suf))) ?_
  refine cr ?_
  refine ls (o_alloc Tryz.zeroValue39 rfl rfl) ?_
  refine le ?_; intro b5
  refine ls (o_st rfl Tryz.sizeOf39 rfl rfl rfl rfl rfl (by repeat' constructor) (by repeat' constructor) (by repeat' constructor)) ?_
  refine ln ?_
  refine nbegin (i := 1) rfl ?_
  refine cb ?_
  refine cd [2, 3, 4, 5] [(0, b3, 0, _), (1, b5, 0, _)] TryzX.mixed (TOk.t (isBoxS (by repeat' constructor) (k := 1) (by repeat (first | exact Cut.d | apply Cut.t | apply Cut.s))) (TOk.t (isBoxS (by repeat' constructor) (k := 6) (by repeat (first | exact Cut.d | apply Cut.t | apply Cut.s))) TOk.d)) ?_
  refine tk 0 rfl (by kernel_rfl) (fun _ _ _ h => h) gnone (TTat (List.Mem.head _)) (p_ld Tryz.isAgg29 rfl) rfl ?_
  refine tk 1 rfl (by kernel_rfl) (fun _ _ _ h => h) gnone (TTat (List.Mem.tail _ (List.Mem.head _))) (p_lda Tryz.isAgg39 Tryz.sizeOf39 rfl rfl) rfl ?_
  refine df 2 (by kernel_rfl) ?_
  refine doR rfl (o_call (is := []) Tryz.call49 (c_primInvert l[k] yk hfk) rfl rfl (by repeat' (first | constructor | apply Sub.suf)) rfl) (TOk.t (isBoxE fun _ => isBoxS (by repeat' constructor) (k := 1) (by repeat (first | exact Cut.d | apply Cut.t | apply Cut.s))) (TOk.x (by kernel_rfl) TOk.d)) ?_
  refine ea ?_; rintro ⟨⟨q1, z1⟩, hz1⟩
  obtain rfl : q1 = l[k].flip := hz1
  refine df 3 (by kernel_rfl) ?_
  refine doR rfl (o_bsl [l[k].flip] Tryz.underlying29 Tryz.sizeOf39 Tryz.zeroValue39 rfl (Enum.t Enum.d) (RV.t z1 rfl (by repeat' (first | constructor | apply Sub.suf)) RV.d) rfl (by decide) (by decide) rfl) (TOk.t (isBoxE fun _ => isBoxS (by repeat' constructor) (k := 1) (by repeat (first | exact Cut.d | apply Cut.t | apply Cut.s))) (TOk.x (by kernel_rfl) TOk.d)) ?_
  refine ea ?_; intro b13
  refine amono (fun a w h => Go.Sx.freeze (i := 0) rfl h) ?_
  refine df 4 (by kernel_rfl) ?_
  refine doR rfl (o_app (is := [3]) Tryz.underlying29 inf39 rfl (by decide) (by decide) rfl rfl (by rw [hpl]; simp only [List.length_cons, List.length_nil]; omega) (fun h => by cases h) rfl (by repeat' (first | constructor | apply Sub.suf)) rfl) (TOk.x (by kernel_rfl) (TOk.x (by kernel_rfl) TOk.d)) ?_
  refine ea ?_; rintro ⟨A3, c3⟩
  refine df 5 (by kernel_rfl) ?_
  refine doR rfl (o_st rfl Tryz.sizeOf29 rfl rfl rfl rfl rfl (by repeat' constructor) (by repeat' constructor) (by repeat' constructor)) (TOk.x (by kernel_rfl) (TOk.x (by kernel_rfl) TOk.d)) ?_
  refine dn (by kernel_rfl) ?_
  refine nblock ?_
  rw [← invP_step hx]
  exact nround (A3, c3) (is := [1, 2, 0]) (by rw [List.length_append]; rfl) (by repeat' (first | constructor | apply Sub.suf))
 ·
  rintro D xs hC ⟨A2, c2⟩
  rw [hC, invP_all]
  refine nblock ?_
  refine nthen ?_
  refine cs ?_
  refine cmono (fun a w h => freezeN (i := 1) rfl h) ?_
  refine cr ?_
  refine ls (o_ld Tryz.isAgg29 rfl (by repeat' constructor) (by repeat' constructor) rfl) ?_
  refine ls (op (p_asg rfl) rfl) ?_
  refine ln ?_
  refine nthen ?_
  refine cret ?_
  refine xret (fun _ _ h => h) ?_
  refine rretm (Dfr.c (i := 2) rfl Dfr.d) (is := []) (A2, c2) (Or.inl rfl) (Res.t rfl Res.d) (rfl) rfl (by repeat' (first | constructor | apply Sub.suf))
 ·
  intro D y
  exact y.elim

set_option maxRecDepth 100000 in
theorem c_seqApply (p b : Nat) (T : List File) (mm nn : Nat) (hi : AppInv mm nn T) (l : List Prim) (A : Option Addr) (c : Nat) (hc : l.length ≤ c) (hl : l.length ≤ 900000) (hf : ∀ x ∈ l, x.fit) (hm : mm + 2 * lns l ≤ 1900000) (hn : nn + 2 * l.length ≤ 1900000) : Con Tryz.prog 27 [.pointer (some ⟨p, 0, none⟩), .slice A l.length c] [box p 120 [.map (some b)], tr b T] [slA A l] {q : List File × Int // q = rowT T l} (fun q => .int .i64 q.1.2) (fun q => [box p 120 [.map (some b)], tr b q.1.1]) (fun _ => []) := by
 refine con Tryz.func27 rfl Tryz.ntmps27 rfl ?_
 intro M0 F0 w0
 refine cs ?_
 refine cr ?_
 refine ls (op (p_asg rfl) rfl) ?_
 refine ln ?_
 refine nthen ?_
 refine cs ?_
 refine cs ?_
 refine cr ?_
 refine ls (op (p_move rfl) rfl) ?_
 refine ls (op (p_lenl rfl Tryz.underlying29) rfl) ?_
 refine ls (op (p_move rfl) rfl) ?_
 refine ln ?_
 refine nthen ?_
 refine cb ?_
 refine cl (ι := {q : Nat × List File // q.1 ≤ l.length ∧ Runs T (l.take q.1) q.2}) (fun i => St M0 F0 w0 37 [(0, .pointer (some ⟨p, 0, none⟩)), (1, .slice A l.length c), (10, .slice A l.length c), (11, .int .i64 (l.length : Int)), (12, .int .i64 (i.1.1 : Int))] [box p 120 [.map (some b)], tr b i.1.2] [slA A l]) (fun i => l.length - i.1.1) ⟨(0, T), Nat.zero_le _, rfl⟩ (wk0 (by repeat (first | exact subσ.nil _ | refine subσ.cons rfl ?_)) (by repeat' (first | constructor | apply Sub.suf))) ?_
 rintro ⟨⟨k, M⟩, hk, hR⟩
 refine cmono (S' := St M0 F0 w0 37 [(0, .pointer (some ⟨p, 0, none⟩)), (1, .slice A l.length c), (10, .slice A l.length c), (11, .int .i64 (l.length : Int)), (12, .int .i64 (k : Int))] [box p 120 [.map (some b)], tr b M] [slA A l]) (fun _ _ h => h) ?_
 refine cs ?_
 refine cr ?_
 refine ls (op (p_icmp rfl rfl rfl) rfl) ?_
 refine ln ?_
 refine nthen ?_
 refine cs ?_
 refine cc rfl ?_ ?_
 ·
  intro h13
  dsimp only at hk hR
  try simp only [decide_eq_true_eq, decide_eq_false_iff_not, Bool.not_eq_true', Bool.not_eq_false', Int.not_lt, Int.not_le, ge_iff_le, Bool.not_true, Bool.not_false] at h13
  have hk1 : k < l.length := by omega
  have hfk := hf _ (List.getElem_mem hk1)
  have hB := run_b hi hm hn hR hk1
  have hlk : (l.take k).length = k := by rw [List.length_take]; omega
  refine cskip ?_
  refine nthen ?_
  refine cs ?_
  refine cb ?_
  refine cs ?_
  refine elC (by repeat' constructor) k (List.getElem?_eq_getElem (l := l) hk1) ?_; rintro zbp zop zyp hAp
  refine cr ?_
  refine ls (op (p_move rfl) rfl) ?_
  refine ls (op (p_ia k hAp hk1 rfl Tryz.underlying29 Tryz.sizeOf39 rfl rfl) rfl) ?_
  refine ls (o_ldj Tryz.isAgg39 Tryz.sizeOf39 rfl (by repeat' constructor) 0 rfl (by repeat (first | exact Cut.d | apply Cut.t | apply Cut.s)) rfl) ?_
  refine ls (o_alloc Tryz.zeroValue39 rfl rfl) ?_
  refine le ?_; intro b6
  refine ls (op (p_asg rfl) rfl) ?_
  refine ls (o_st rfl Tryz.sizeOf39 rfl rfl rfl rfl rfl (by repeat' constructor) (by repeat' constructor) (by repeat' constructor)) ?_
  refine ln ?_
  refine nthen ?_
  refine cs ?_
  refine cr ?_
  refine ls (op (p_move rfl) rfl) ?_
  refine ls (o_ldw Tryz.isAgg39 Tryz.sizeOf39 rfl (by repeat' constructor) (by rfl) rfl) ?_
  refine ls (o_call (is := [1, 1]) Tryz.call51 (c_pApply p b M l[k] zyp hfk hB.fit hB.b) rfl rfl (by repeat' (first | constructor | apply Sub.suf)) rfl) ?_
  refine le ?_; rintro ⟨⟨M1, e1⟩, hq⟩
  try dsimp only at hq
  have hqr := hq
  rw [apply_eq hB.so hB.good] at hqr
  refine ls (op (p_asg rfl) rfl) ?_
  refine ln ?_
  refine nthen ?_
  refine cs ?_
  refine cr ?_
  refine ls (op (p_move rfl) rfl) ?_
  refine ls (op (p_icmp rfl rfl rfl) rfl) ?_
  refine ln ?_
  refine nthen ?_
  refine cc rfl ?_ ?_
  ·
   intro h21
   have he : ¬ e1 = 0 := by simpa using h21
   obtain rfl := apply_err hq he hB.so hB.good
   refine cmono (fun a w h => subS (l' := l.take k) (c := c) 0 k (by repeat (first | exact In.z | apply In.s)) (by omega) (by omega) hc (by simp) h) ?_
   refine cs ?_
   refine cs ?_
   refine cr ?_
   refine ls (op (p_move rfl) rfl) ?_
   refine ls (op (p_move rfl) rfl) ?_
   refine ls (op (p_slh k (by omega) rfl Tryz.underlying29 Tryz.sizeOf39 rfl rfl) rfl) ?_
   refine fixL (slen (m' := (l.take k).length) (by omega)) ?_
   refine ls (o_call (is := []) Tryz.call30 (c_seqInvert (l.take k) _ _ (by omega) (fun x hx => hf x (List.mem_of_mem_take hx))) rfl rfl (by repeat' (first | constructor | apply Sub.suf)) rfl) ?_
   refine le ?_; rintro ⟨A25, c25⟩
   refine ls (op (p_lenl rfl Tryz.underlying29) rfl) ?_
   refine ls (op (p_move rfl) rfl) ?_
   refine ln ?_
   refine nthen ?_
   refine cb ?_
   refine cl (ι := {q : Nat × List File // q.1 ≤ (invL (l.take k)).length ∧ Undo T l k q.1 M1 q.2}) (fun i => St M0 F0 w0 37 [(0, .pointer (some ⟨p, 0, none⟩)), (7, .int .i64 e1), (25, .slice A25 (invL (l.take k)).length c25), (26, .int .i64 ((invL (l.take k)).length : Int)), (27, .int .i64 (i.1.1 : Int))] [box p 120 [.map (some b)], tr b i.1.2] [slA A25 (invL (l.take k))]) (fun i => (invL (l.take k)).length - i.1.1) ⟨(0, M1), Nat.zero_le _, Undo.start hi.so hi.good hR⟩ (wk (is := [0, 0]) (by repeat (first | exact subσ.nil _ | refine subσ.cons rfl ?_)) rfl (by repeat' (first | constructor | apply Sub.suf))) ?_
   rintro ⟨⟨j, N⟩, hj, hU⟩
   refine cmono (S' := St M0 F0 w0 37 [(0, .pointer (some ⟨p, 0, none⟩)), (7, .int .i64 e1), (25, .slice A25 (invL (l.take k)).length c25), (26, .int .i64 ((invL (l.take k)).length : Int)), (27, .int .i64 (j : Int))] [box p 120 [.map (some b)], tr b N] [slA A25 (invL (l.take k))]) (fun _ _ h => h) ?_
   refine cs ?_
   refine cr ?_
   refine ls (op (p_icmp rfl rfl rfl) rfl) ?_
   refine ln ?_
   refine nthen ?_
   refine cs ?_
   refine cc rfl ?_ ?_
   ·
    intro h28
    dsimp only at hj hU
    try simp only [decide_eq_true_eq, decide_eq_false_iff_not, Bool.not_eq_true', Bool.not_eq_false', Int.not_lt, Int.not_le, ge_iff_le, Bool.not_true, Bool.not_false] at h28
    have hj1 : j < (invL (l.take k)).length := by omega
    have hil : (invL (l.take k)).length = k := by rw [invL_len, hlk]
    have hBu := undo_b hi hm hn hR hU hj1
    have hfj := invL_fit (fun x hx => hf x (List.mem_of_mem_take hx)) _ (List.getElem_mem hj1)
    refine cskip ?_
    refine nthen ?_
    refine cs ?_
    refine cb ?_
    refine cs ?_
    refine elC (by repeat' constructor) j (List.getElem?_eq_getElem (l := (invL (l.take k))) hj1) ?_; rintro zbq zoq zyq hAq
    refine cr ?_
    refine ls (op (p_ia j hAq hj1 rfl Tryz.underlying29 Tryz.sizeOf39 rfl rfl) rfl) ?_
    refine ls (o_ldj Tryz.isAgg39 Tryz.sizeOf39 rfl (by repeat' constructor) 0 rfl (by repeat (first | exact Cut.d | apply Cut.t | apply Cut.s)) rfl) ?_
    refine ls (o_alloc Tryz.zeroValue39 rfl rfl) ?_
    refine le ?_; intro b9
    refine ls (o_st rfl Tryz.sizeOf39 rfl rfl rfl rfl rfl (by repeat' constructor) (by repeat' constructor) (by repeat' constructor)) ?_
    refine ln ?_
    refine nthen ?_
    refine cr ?_
    refine ls (op (p_move rfl) rfl) ?_
    refine ls (o_ldw Tryz.isAgg39 Tryz.sizeOf39 rfl (by repeat' constructor) (by rfl) rfl) ?_
    refine ls (o_call (is := [1, 1]) Tryz.call51 (c_pApply p b N (invL (l.take k))[j] zyq hfj hBu.fit hBu.b) rfl rfl (by repeat' (first | constructor | apply Sub.suf)) rfl) ?_
    refine le ?_; rintro ⟨⟨N1, e2⟩, hq2⟩
    try dsimp only at hq2
    rw [apply_eq hBu.so hBu.good] at hq2
    obtain rfl : N1 = (rApplyT N (invL (l.take k))[j]).1 := by rw [← hq2]
    refine ln ?_
    refine nblock ?_
    refine nthen ?_
    refine cr ?_
    refine ls (op (p_add rfl rfl (by omega)) rfl) ?_
    refine ls (op (p_move rfl) rfl) ?_
    refine ln ?_
    refine nnext ⟨(j + 1, _), hj1, hU.step hj1⟩ (by dsimp only; omega) (wk (is := [0, 0]) (by repeat (first | exact subσ.nil _ | refine subσ.cons rfl ?_)) rfl (by repeat' (first | constructor | apply Sub.suf)))
   ·
    intro h28
    dsimp only at hj hU
    try simp only [decide_eq_true_eq, decide_eq_false_iff_not, Bool.not_eq_true', Bool.not_eq_false', Int.not_lt, Int.not_le, ge_iff_le, Bool.not_true, Bool.not_false] at h28
    obtain rfl := hU.stop (by omega)
    refine cexit ?_
    refine xthen ?_
    refine xthen ?_
    refine xblock ?_
    refine nthen ?_
    refine cs ?_
    refine cr ?_
    refine ls (op (p_move rfl) rfl) ?_
    refine ls (op (p_asg rfl) rfl) ?_
    refine ln ?_
    refine nthen ?_
    refine cret ?_
    refine xret (fun _ _ h => h) ?_
    refine rret (is := [0, 0]) ⟨(N, e1), (rowT_err hR hk1 hqr he).symm⟩ (Or.inl rfl) (Res.t rfl Res.d) (rfl) rfl (by repeat' (first | constructor | apply Sub.suf))
  ·
   intro h21
   have he : e1 = 0 := by simpa using h21
   subst he
   refine cskip ?_
   refine nblock ?_
   refine nthen ?_
   refine cr ?_
   refine ls (op (p_add rfl rfl (by omega)) rfl) ?_
   refine ls (op (p_move rfl) rfl) ?_
   refine ln ?_
   refine nnext ⟨(k + 1, M1), hk1, runs_take hR hk1 hqr⟩ (by dsimp only; omega) (wk (is := [0, 0]) (by repeat (first | exact subσ.nil _ | refine subσ.cons rfl ?_)) rfl (by repeat' (first | constructor | apply Sub.suf)))
 ·
  intro h13
  dsimp only at hk hR
  try simp only [decide_eq_true_eq, decide_eq_false_iff_not, Bool.not_eq_true', Bool.not_eq_false', Int.not_lt, Int.not_le, ge_iff_le, Bool.not_true, Bool.not_false] at h13
  have hall := runs_all hR (by omega)
  refine cexit ?_
  refine xthen ?_
  refine xthen ?_
  refine xblock ?_
  refine nthen ?_
  refine cs ?_
  refine cr ?_
  refine ls (op (p_asg rfl) rfl) ?_
  refine ln ?_
  refine nthen ?_
  refine cret ?_
  refine xret (fun _ _ h => h) ?_
  refine rret (is := [0, 0]) ⟨(M, 0), (rowT_ok hall).symm⟩ (Or.inl rfl) (Res.t rfl Res.d) (rfl) rfl (by repeat' (first | constructor | apply Sub.suf))

end Go.Proofs.YtdbiillompeclaaGreatDoor.X

end
section
set_option linter.unusedVariables false
set_option linter.unusedSimpArgs false
namespace Go.Sx
open Go Go.RowKit
/-! Names of rows: sorted, each once. -/
def compB (l : List ByteArray) : List ByteArray := (Lib.compact (l.map ofB)).map toB
open Go.Sort Go.Proofs in
theorem take_putCells2 (cur : Array Value) (cs pad : List (List UInt8)) (h : (cs ++ pad).length ≤ cur.size) : (putCells encStr 0 (cs ++ pad).toArray cur).toList.take cs.length = cs.map encStr := by
  have h1 := take_putCells cur (cs ++ pad) h
  have h2 := congrArg (List.take cs.length) h1
  rw [List.take_take, Nat.min_eq_left (by simp)] at h2
  rw [h2]
  simp
open Go.Sort in
theorem grow_nil (w : World) : grow w #[] = w := by
  cases w; simp [grow]
theorem compactUpTo_len (d : Array (List UInt8)) (m : Nat) : (Lib.compactUpTo d m).length ≤ m := by
  unfold Lib.compactUpTo
  rw [List.length_map]
  exact Nat.le_trans (List.length_filter_le _ _) (by simp)
theorem compB_len (l : List ByteArray) : (compB l).length ≤ l.length := by
  unfold compB Lib.compact
  rw [List.length_map]
  exact Nat.le_trans (compactUpTo_len _ _) (by simp)
open Go.Sort Go.Proofs in
theorem con_compact {P : Program} {f : FuncId} (e : TypeId) (A : Option Addr) (c : Nat) (l : List ByteArray) (hl : l.length ≤ 2000000)
    (h0 : ∀ w, Calls P f #[.slice none 0 0] w fun e w' => e = .returned (.slice none 0 0) ∧ w' = w)
    (h1 : ∀ (blk cap : Nat) (ss : List (List UInt8)) (w : World), Holds encStr w blk 0 ss.toArray → ss.length ≤ 9223372036854775807 → ss.length ≤ cap → Calls P f #[.slice (some ⟨blk, 0, none⟩) ss.length cap] w fun e w' =>
      e = .returned (.slice (some ⟨blk, 0, none⟩) (Lib.compact ss).length cap) ∧ ∃ q, w' = putRow encStr (Sort.ahead w q) blk 0 (Lib.compact ss ++ List.replicate (ss.length - (Lib.compact ss).length) []).toArray) :
    Con P f [.slice A l.length c] [row e A c l] [] Unit (fun _ => .slice A (compB l).length c) (fun _ => [row e A c (compB l)]) (fun _ => []) := by
  intro M0 Fs w hh
  obtain ⟨F, rfl⟩ : ∃ F, Fs = [F] := by
    match Fs, hh.ex with
    | [F], _ => exact ⟨F, rfl⟩
    | _ :: _ :: _, h => exact h.2.elim
  obtain ⟨⟨xs, ho, hF, hr⟩, _⟩ := hh.ex
  have hxs := rowE_strs hr
  subst hxs
  have henc : (l.map ofB).map encStr = l.map (fun b => Value.string b) := by simp [Function.comp_def, encStr, ofB]
  rcases ho.2 with ⟨hnil, h0l⟩ | ⟨g, cap, cur, hv, hbase, hb, h2, h3, h4, h5⟩
  · obtain ⟨rfl, hl', rfl⟩ : A = none ∧ l.length = 0 ∧ c = 0 := by simpa using hnil
    have hl0 : l = [] := List.eq_nil_of_length_eq_zero hl'
    subst hl0
    refine (h0 w).mono ?_
    rintro en w' ⟨rfl, rfl⟩
    refine ⟨(), [F], rfl, ?_⟩
    refine hh.one (Upd.refl _ _) (fun b h => .inl h) (fun b h => hh.lt b (by simp [own, h])) ?_
    exact ⟨[], ho, hF, RowE.nil⟩
  · obtain ⟨rfl, rfl⟩ : A = some ⟨g, 0, none⟩ ∧ c = cap := by simpa using hv
    have hH : Holds encStr w g 0 (l.map ofB).toArray := by
      refine holds_of_block hb ?_
      rw [List.length_map, henc]
      have : l.length * Rp.size ByteArray = l.length := Nat.mul_one _
      rw [this] at h5
      exact h5
    have hlt : g < w.heap.size := (Array.getElem?_eq_some_iff.1 hb).1
    have hc := h1 g c (l.map ofB) w hH (by simp; omega) (by simpa using h2)
    rw [List.length_map] at hc
    refine hc.mono ?_
    rintro en w' ⟨rfl, k, rfl⟩
    have hcl : (Lib.compact (l.map ofB)).length ≤ l.length := by have := compB_len l; unfold compB at this; rwa [List.length_map] at this
    have hcb : (compB l).length = (Lib.compact (l.map ofB)).length := by unfold compB; rw [List.length_map]
    refine ⟨(), [F], by rw [hcb], ?_⟩
    have hg := grownBy_sorted (w := w) (g := g) (n := k) (os := #[]) (Lib.compact (l.map ofB) ++ List.replicate (l.length - (Lib.compact (l.map ofB)).length) []).toArray
    rw [grow_nil] at hg
    have hhs := heap_sorted (n := k) (os := #[]) (Lib.compact (l.map ofB) ++ List.replicate (l.length - (Lib.compact (l.map ofB)).length) []).toArray hb
    rw [grow_nil] at hhs
    have hFg : ∀ b, F b ↔ g = b := fun b => by rw [hF]; simp [Value.ownBlock]
    refine hh.one ⟨hg.os, hg.tape, hg.output, hg.size, fun b hb hn => hg.block b hb (fun e' => hn ((hFg b).2 (by simpa using e'.symm)))⟩ (fun b h => .inl h) (fun b h => Nat.lt_of_lt_of_le (hh.lt b (by simp [own, h])) hg.size) ?_
    refine ⟨(compB l).map fun b => Value.string b, ?_, ?_, strs_rowE _⟩
    · have h4' : cur.size = c := by have : c * Rp.size ByteArray = c := Nat.mul_one _; rw [this] at h4; exact h4
      refine ⟨by simp [show Rp.size ByteArray = 1 from rfl], .inr ⟨g, c, _, rfl, hbase, hhs, by omega, h3, by simp [putCells, h4], ?_⟩⟩
      have ht := take_putCells2 cur (Lib.compact (l.map ofB)) (List.replicate (l.length - (Lib.compact (l.map ofB)).length) []) (by simp; omega)
      have e1 : (Lib.compact (l.map ofB)).map encStr = (compB l).map fun b => Value.string b := by simp [compB, Function.comp_def, encStr, toB]
      rw [← e1, ← ht, hcb]
      congr 1
      exact Nat.mul_one _
    · intro b
      rw [hF]; simp [Value.ownBlock]
/-! what the names are -/
theorem ble_lt {a b : List UInt8} (h : a ≤ b) (hne : a ≠ b) : a < b := by
  rcases List.le_iff_lt_or_eq.1 h with h | h
  · exact h
  · exact absurd h hne
theorem comp_spec (d : Array (List UInt8)) (hs : ∀ i j, i ≤ j → j < d.size → d[i]! ≤ d[j]!) : ∀ m, m ≤ d.size → (Lib.compactUpTo d m).Pairwise (· < ·) ∧ ∀ x, x ∈ Lib.compactUpTo d m ↔ ∃ j, j < m ∧ d[j]! = x := by
  intro m
  induction m with
  | zero => intro _; exact ⟨by simp [Lib.compactUpTo], fun x => by simp [Lib.compactUpTo]⟩
  | succ m ih =>
    intro hm
    obtain ⟨h1, h2⟩ := ih (by omega)
    rw [Lib.compactUpTo_succ]
    by_cases hk : Lib.keeps d m = true
    · rw [if_pos hk]
      refine ⟨List.pairwise_append.2 ⟨h1, by simp, fun a ha b hb => ?_⟩, fun x => ?_⟩
      · obtain ⟨j, hj, rfl⟩ := (h2 a).1 ha
        obtain rfl := List.mem_singleton.1 hb
        have hne : d[m]! ≠ d[m - 1]! := by
          unfold Lib.keeps at hk
          rw [decide_eq_true_eq] at hk
          rcases hk with hk | hk
          · omega
          · exact hk
        have h3 : d[j]! ≤ d[m - 1]! := hs _ _ (by omega) (by omega)
        have h4 : d[m - 1]! < d[m]! := ble_lt (hs _ _ (by omega) (by omega)) (fun e => hne e.symm)
        rcases List.le_iff_lt_or_eq.1 h3 with h5 | h5
        · exact List.lt_trans h5 h4
        · rw [h5]; exact h4
      · rw [List.mem_append, h2, List.mem_singleton]
        constructor
        · rintro (⟨j, hj, rfl⟩ | rfl)
          · exact ⟨j, by omega, rfl⟩
          · exact ⟨m, by omega, rfl⟩
        · rintro ⟨j, hj, rfl⟩
          by_cases e : j = m
          · exact .inr (by rw [e])
          · exact .inl ⟨j, by omega, rfl⟩
    · rw [if_neg hk, List.append_nil]
      refine ⟨h1, fun x => ?_⟩
      rw [h2]
      have hk' : ¬ (m = 0 ∨ d[m]! ≠ d[m - 1]!) := by unfold Lib.keeps at hk; simpa using hk
      constructor
      · rintro ⟨j, hj, rfl⟩; exact ⟨j, by omega, rfl⟩
      · rintro ⟨j, hj, rfl⟩
        by_cases e : j = m
        · subst e
          refine ⟨j - 1, by omega, ?_⟩
          by_cases h : d[j]! = d[j - 1]!
          · exact h.symm
          · exact absurd (.inr h) hk'
        · exact ⟨j, by omega, rfl⟩
def namesL (l : List Prim) : List ByteArray := (l.map refNames).flatten
def namesT (l : List Prim) : List ByteArray := compB (sortB (namesL l))
theorem comp_sort (l : List ByteArray) : (compB (sortB l)).Pairwise kl ∧ ∀ x, x ∈ compB (sortB l) ↔ x ∈ l := by
  have hse : (sortB l).map ofB = (l.map ofB).mergeSort fun x y => decide (x ≤ y) := by
    unfold sortB; rw [List.map_map]
    conv => rhs; rw [← List.map_id ((l.map ofB).mergeSort fun x y => decide (x ≤ y))]
    exact List.map_congr_left fun b _ => rfl
  have hpw : ((sortB l).map ofB).Pairwise (· ≤ ·) := by
    rw [hse]
    have := List.pairwise_mergeSort (le := fun x y : List UInt8 => decide (x ≤ y)) (by intro a b c h1 h2; simp only [decide_eq_true_eq] at *; exact List.le_trans h1 h2) (by intro a b; simp only [Bool.or_eq_true, decide_eq_true_eq]; exact List.le_total a b) (l.map ofB)
    exact this.imp fun h => by simpa using h
  have hs : ∀ i j, i ≤ j → j < ((sortB l).map ofB).toArray.size → ((sortB l).map ofB).toArray[i]! ≤ ((sortB l).map ofB).toArray[j]! := by
    intro i j hij hj
    have hj' : j < ((sortB l).map ofB).length := by simpa using hj
    rw [getElem!_pos _ i (by simpa using (by omega : i < ((sortB l).map ofB).length)), getElem!_pos _ j hj]
    rcases Nat.lt_or_eq_of_le hij with h | h
    · have := List.pairwise_iff_getElem.1 hpw i j (by omega) hj' h
      simpa using this
    · subst h; exact List.le_refl _
  obtain ⟨h1, h2⟩ := comp_spec _ hs _ (Nat.le_refl _)
  have hc : Lib.compact ((sortB l).map ofB) = Lib.compactUpTo ((sortB l).map ofB).toArray ((sortB l).map ofB).toArray.size := by unfold Lib.compact; simp
  unfold compB
  rw [hc]
  refine ⟨?_, fun x => ?_⟩
  · rw [List.pairwise_map]
    exact h1
  · rw [List.mem_map, ← sortB_mem (l := l)]
    constructor
    · rintro ⟨y, hy, rfl⟩
      obtain ⟨j, hj, rfl⟩ := (h2 y).1 hy
      have hj' : j < (sortB l).length := by simpa using hj
      have e : ((sortB l).map ofB).toArray[j]! = ofB (sortB l)[j] := by rw [getElem!_pos _ j hj]; simp
      rw [e, toB_ofB]
      exact List.getElem_mem hj'
    · intro hx
      obtain ⟨j, hj, e⟩ := List.mem_iff_getElem.1 hx
      refine ⟨ofB x, (h2 _).2 ⟨j, by simpa using hj, ?_⟩, rfl⟩
      rw [getElem!_pos _ j (by simpa using hj)]
      simp [e]
theorem kls_ext {a b : List ByteArray} (ha : a.Pairwise kl) (hb : b.Pairwise kl) (h : ∀ x, x ∈ a ↔ x ∈ b) : a = b := by
  have nd : ∀ {l : List ByteArray}, l.Pairwise kl → l.Nodup := fun hl => List.Pairwise.imp (R := kl) (S := fun a b => a ≠ b) (fun h e => kl_ne h e) hl
  exact List.Perm.eq_of_pairwise (le := kl) (fun a b _ _ h1 h2 => absurd (kl_trans h1 h2) (kl_irrefl _)) ha hb ((List.perm_ext_iff_of_nodup (nd ha) (nd hb)).2 h)
theorem kls_nodup {l : List ByteArray} (h : l.Pairwise kl) : l.Nodup := List.Pairwise.imp (R := kl) (S := fun a b => a ≠ b) (fun h e => kl_ne h e) h
structure Sel (all o : List ByteArray) : Prop where
  so : o.Pairwise kl
  sub : ∀ x ∈ o, x ∈ all
  rest : ∀ x ∈ all, x ∈ o ∨ ∀ y ∈ o, kl y x
def above (o : List ByteArray) (x : ByteArray) : Prop := o = [] ∨ ∃ h : o ≠ [], kl (o.getLast h) x
theorem Sel.above {all o : List ByteArray} (h : Sel all o) (x : ByteArray) : above o x ↔ ∀ y ∈ o, kl y x := by
  unfold Go.Sx.above
  constructor
  · rintro (rfl | ⟨h1, h2⟩)
    · intro y hy; cases hy
    · intro y hy
      have e := List.dropLast_concat_getLast h1
      rw [← e, List.mem_append] at hy
      rcases hy with hy | hy
      · have := h.so
        rw [← e, List.pairwise_append] at this
        exact kl_trans (this.2.2 y hy _ (List.mem_singleton_self _)) h2
      · rw [List.mem_singleton.1 hy]; exact h2
  · intro h1
    by_cases e : o = []
    · exact .inl e
    · exact .inr ⟨e, h1 _ (List.getLast_mem e)⟩
theorem Sel.nil (all : List ByteArray) : Sel all [] := ⟨List.Pairwise.nil, (fun x h => by cases h), (fun x _ => .inr (fun y h => by cases h))⟩
def Low (o seen : List ByteArray) (least : ByteArray) (is : Bool) : Prop :=
  (is = false → ∀ x ∈ seen, ¬ above o x) ∧ (is = true → least ∈ seen ∧ above o least ∧ ∀ x ∈ seen, above o x → ¬ kl x least)
theorem Low.nil (o : List ByteArray) (z : ByteArray) : Low o [] z false := ⟨(fun _ x h => by cases h), (fun h => by cases h)⟩
theorem Low.skip {o seen : List ByteArray} {z x : ByteArray} {is : Bool} (h : Low o seen z is) (hx : ¬ (Go.Sx.above o x ∧ (is = false ∨ kl x z))) : Low o (seen ++ [x]) z is := by
  refine ⟨fun e y hy => ?_, fun e => ?_⟩
  · rcases List.mem_append.1 hy with hy | hy
    · exact h.1 e y hy
    · rw [List.mem_singleton.1 hy]; exact fun ha => hx ⟨ha, .inl e⟩
  · obtain ⟨h1, h2, h3⟩ := h.2 e
    refine ⟨List.mem_append_left _ h1, h2, fun y hy ha => ?_⟩
    rcases List.mem_append.1 hy with hy | hy
    · exact h3 y hy ha
    · rw [List.mem_singleton.1 hy] at ha ⊢; exact fun hk => hx ⟨ha, .inr hk⟩
theorem Low.take {o seen : List ByteArray} {z x : ByteArray} {is : Bool} (h : Low o seen z is) (hx : Go.Sx.above o x) (hy : is = false ∨ kl x z) : Low o (seen ++ [x]) x true := by
  refine ⟨(fun e => by cases e), (fun _ => ⟨by simp, hx, fun y hm ha hk => ?_⟩)⟩
  rcases List.mem_append.1 hm with hm | hm
  · cases is with
    | false => exact h.1 rfl y hm ha
    | true =>
      obtain ⟨h1, h2, h3⟩ := h.2 rfl
      rcases hy with hy | hy
      · cases hy
      · exact h3 y hm ha (kl_trans hk hy)
  · rw [List.mem_singleton.1 hm] at hk; exact kl_irrefl _ hk
theorem Sel.step {all o : List ByteArray} {z : ByteArray} (h : Sel all o) (hl : Low o all z true) : Sel all (o ++ [z]) := by
  obtain ⟨h1, h2, h3⟩ := hl.2 rfl
  have h4 := (h.above z).1 h2
  refine ⟨List.pairwise_append.2 ⟨h.so, by simp, fun a ha b hb => by rw [List.mem_singleton.1 hb]; exact h4 a ha⟩, fun x hx => ?_, fun x hx => ?_⟩
  · rcases List.mem_append.1 hx with hx | hx
    · exact h.sub x hx
    · rw [List.mem_singleton.1 hx]; exact h1
  · rcases h.rest x hx with h5 | h5
    · exact .inl (List.mem_append_left _ h5)
    · have h6 := h3 x hx ((h.above x).2 h5)
      by_cases e : x = z
      · exact .inl (by rw [e]; simp)
      · refine .inr fun y hy => ?_
        rcases List.mem_append.1 hy with hy | hy
        · exact h5 y hy
        · rw [List.mem_singleton.1 hy]
          exact Classical.byContradiction fun hn => e (kl_tri h6 hn)
theorem Sel.done {l : List Prim} {o : List ByteArray} {z : ByteArray} (h : Sel (namesL l) o) (hl : Low o (namesL l) z false) : o = namesT l := by
  obtain ⟨h1, h2⟩ := comp_sort (namesL l)
  refine kls_ext h.so h1 fun x => ?_
  show x ∈ o ↔ x ∈ compB (sortB (namesL l))
  rw [h2]
  refine ⟨h.sub x, fun hx => ?_⟩
  rcases h.rest x hx with h3 | h3
  · exact h3
  · exact absurd ((h.above x).2 h3) (hl.1 rfl x hx)
theorem Sel.len {all o : List ByteArray} (h : Sel all o) : o.length ≤ all.length := nodup_le _ _ (kls_nodup h.so) h.sub
theorem namesT_len (l : List Prim) : (namesT l).length ≤ 2 * l.length := by
  have h1 : (namesT l).length ≤ (namesL l).length := by
    unfold namesT
    exact Nat.le_trans (compB_len _) (by rw [sortB_length]; exact Nat.le_refl _)
  have h2 : (namesL l).length ≤ 2 * l.length := by
    clear h1
    unfold namesL
    induction l with
    | nil => simp
    | cons p l ih =>
      simp only [List.map_cons, List.flatten_cons, List.length_append, List.length_cons]
      have h3 : (refNames p).length ≤ 2 := by
        unfold refNames
        split
        · split <;> simp
        · simp
      omega
  omega
theorem namesL_take {l : List Prim} {k : Nat} (h : k < l.length) : namesL (l.take (k + 1)) = namesL (l.take k) ++ refNames l[k] := by
  unfold namesL
  rw [List.take_succ_eq_append_getElem h, List.map_append, List.flatten_append]; simp
def touchT (l : List Prim) (s : ByteArray) : Bool := (namesT l).any fun x => decide (ofB s <+: ofB x)
end Go.Sx

end
section
set_option linter.unusedVariables false
set_option linter.unusedSimpArgs false
namespace Go.Proofs.YtdbiillompeclaaGreatDoor.X
open Go Go.RowKit Go.Proofs Go.Sx
/-! What trees cost. -/
def longest (T : List File) : Nat := (T.map fun x => x.2.length).foldl max 0
theorem foldl_max : ∀ (l : List Nat) (a : Nat), (∀ x ∈ l, x ≤ l.foldl max a) ∧ a ≤ l.foldl max a
  | [], a => ⟨fun x hx => (by cases hx), Nat.le_refl _⟩
  | y :: l, a => by
    have ih := foldl_max l (max a y)
    simp only [List.foldl_cons]
    refine ⟨fun x hx => ?_, by omega⟩
    rcases List.mem_cons.1 hx with rfl | hx
    · omega
    · exact ih.1 x hx
theorem longest_mem {T : List File} {x : File} (h : x ∈ T) : x.2.length ≤ longest T := (foldl_max _ 0).1 _ (List.mem_map_of_mem h)
theorem longest_take {T : List File} {k : Nat} (h : k < T.length) : longest (T.take (k + 1)) = max (longest (T.take k)) T[k].2.length := by
  unfold longest
  rw [List.take_succ_eq_append_getElem h, List.map_append, List.foldl_append]; rfl
theorem longest_le {T : List File} {m : Nat} (h : ∀ x ∈ T, x.2.length ≤ m) : longest T ≤ m := by
  have key : ∀ (l : List Nat) (a : Nat), (∀ x ∈ l, x ≤ m) → a ≤ m → l.foldl max a ≤ m := by
    intro l
    induction l with
    | nil => intro a _ h; exact h
    | cons y l ih =>
      intro a hl ha
      have := hl y (by simp)
      exact ih _ (fun x hx => hl x (by simp [hx])) (by omega)
  refine key _ 0 (fun x hx => ?_) (Nat.zero_le _)
  obtain ⟨y, hy, rfl⟩ := List.mem_map.1 hx
  exact h y hy
theorem short_get {T : List File} (hT : Sor T) (h : ¬ 200 < longest T) (s : ByteArray) : (getL T s).length ≤ 200 := by
  unfold getL
  cases hg : getT T s with
  | none => exact Nat.zero_le _
  | some l =>
    have := longest_mem ((getT_some hT).1 hg)
    simp at this ⊢
    omega
theorem short_wide {T : List File} (hT : Sor T) (h : ¬ 200 < longest T) : wideB T = false := by
  unfold wideB
  rw [List.any_eq_false]
  intro s _
  rw [longB_nilr (short_get hT h s)]; simp
theorem costL_fm {α : Type} (f : α → List Prim) : ∀ (l : List α), costL (l.flatMap f) = (l.map fun x => costL (f x)).sum
  | [] => rfl
  | x :: l => by rw [List.flatMap_cons, costL_app, costL_fm f l]; rfl
theorem cost_to {nm : ByteArray} {l : List ByteArray} (h : l.length ≤ 200) : costL (linesT nm [] l) = l.length := by
  have := cost_lines (nm := nm) (longB_nill h)
  rw [lcs_nil] at this
  simpa using this
theorem cost_from {nm : ByteArray} {l : List ByteArray} (h : l.length ≤ 200) : costL (linesT nm l []) = l.length := by
  have := cost_lines (nm := nm) (longB_nilr h)
  rw [lcs_nilr] at this
  simpa using this
theorem cost_gone {T : List File} {s : ByteArray} (h : (getL T s).length ≤ 200) : costL (goneT T s) = (getL T s).length := by
  unfold goneT; rw [costL_app, cost_from h]; rfl
theorem cost_come {U : List File} {s : ByteArray} (h : (getL U s).length ≤ 200) : costL (comeT U s) = (getL U s).length := by
  unfold comeT; rw [costL_app, cost_to h]; show 0 + _ = _; omega
theorem cost_both {T U : List File} {s : ByteArray} (h : (getL T s).length ≤ 200) (k : (getL U s).length ≤ 200) : costL (bothT T U s) = costL (bothT U T s) := by
  unfold bothT; exact cost_turn (longB_two h k) (longB_two k h)
theorem sor_keys' {T : List File} (h : Sor T) : (T.map (·.1)).Pairwise kl := List.pairwise_map.2 h
theorem mem_filesT {T U : List File} {b : Bool} {s : ByteArray} : s ∈ filesT T U b ↔ hasT T s = true ∧ hasT U s = b := by
  unfold filesT
  rw [List.mem_filter, List.mem_map]
  constructor
  · rintro ⟨⟨x, hx, rfl⟩, h⟩
    exact ⟨hasT_iff.2 ⟨x, hx, rfl⟩, by simpa using h⟩
  · rintro ⟨h1, h2⟩
    obtain ⟨x, hx, e⟩ := hasT_iff.1 h1
    exact ⟨⟨x, hx, e⟩, by simp [h2]⟩
theorem files_sor {T : List File} (h : Sor T) (U : List File) (b : Bool) : (filesT T U b).Pairwise kl := (sor_keys' h).filter _
theorem files_both {T U : List File} (hT : Sor T) (hU : Sor U) : filesT T U true = filesT U T true :=
  kls_ext (files_sor hT U true) (files_sor hU T true) fun s => by rw [mem_filesT, mem_filesT, and_comm]
theorem cost_trees {T U : List File} (hT : Sor T) (hU : Sor U) (h : ¬ 200 < longest T) (k : ¬ 200 < longest U) :
    costL (treesT T U) = ((filesT T U false).map fun s => (getL T s).length).sum + ((filesT U T false).map fun s => (getL U s).length).sum + ((filesT T U true).map fun s => costL (bothT T U s)).sum := by
  rw [treesT_no (by rw [short_wide hT h, short_wide hU k]; rfl), costL_app, costL_app, costL_fm, costL_fm, costL_fm]
  congr 2
  · congr 1
    exact List.map_congr_left fun s _ => cost_gone (short_get hT h s)
  · congr 1
    exact List.map_congr_left fun s _ => cost_come (short_get hU k s)
theorem trees_turn {T U : List File} (hT : Sor T) (hU : Sor U) (h : ¬ 200 < longest T) (k : ¬ 200 < longest U) : costL (treesT T U) = costL (treesT U T) := by
  rw [cost_trees hT hU h k, cost_trees hU hT k h, files_both hT hU]
  have : (filesT U T true).map (fun s => costL (bothT T U s)) = (filesT U T true).map (fun s => costL (bothT U T s)) := List.map_congr_left fun s _ => cost_both (short_get hT h s) (short_get hU k s)
  rw [this]; omega
def linesOf (T : List File) : Nat := (T.map fun x => x.2.length).sum
theorem sum_keys {T : List File} (hT : Sor T) : ((T.map (·.1)).map fun s => (getL T s).length).sum = linesOf T := by
  unfold linesOf
  rw [List.map_map]
  congr 1
  refine List.map_congr_left fun x hx => ?_
  show (getL T x.1).length = _
  unfold getL
  rw [(getT_some hT).2 (show (x.1, x.2) ∈ T from hx)]; rfl
theorem short_nil : ¬ 200 < longest [] := by decide
theorem files_nil (T : List File) : filesT T [] false = T.map (·.1) ∧ filesT T [] true = [] ∧ ∀ b, filesT [] T b = [] := by
  refine ⟨List.filter_eq_self.2 fun x _ => rfl, List.filter_eq_nil_iff.2 fun x _ => ?_, fun b => rfl⟩
  show ¬ (!(!(hasT [] x == true))) = true
  have : hasT [] x = false := rfl
  rw [this]; decide
theorem trees_from {T : List File} (hT : Sor T) (h : ¬ 200 < longest T) : costL (treesT T []) = linesOf T := by
  obtain ⟨h1, h2, h3⟩ := files_nil T
  rw [cost_trees hT Sor.nil h short_nil, h1, h2, h3, ← sum_keys hT]
  simp
theorem trees_to {T : List File} (hT : Sor T) (h : ¬ 200 < longest T) : costL (treesT [] T) = linesOf T := by
  rw [← trees_turn hT Sor.nil h short_nil, trees_from hT h]
/-! bounds -/
theorem costL_fm_le {α : Type} {f : α → List Prim} {m : Nat} (h : ∀ x, costL (f x) ≤ m) : ∀ (l : List α), costL (l.flatMap f) ≤ l.length * m
  | [] => by simp [costL]
  | x :: l => by
    have := costL_fm_le h l
    have := h x
    rw [List.flatMap_cons, costL_app, List.length_cons, Nat.succ_mul]; omega
theorem lines_cost_b (nm : ByteArray) (a b : List ByteArray) : costL (linesT nm a b) ≤ 400 := by
  cases h : longB a b with
  | true => rw [linesT_long h]; exact Nat.zero_le _
  | false => have := cost_lines (nm := nm) h; have := longB_no h; omega
theorem trees_bnd (T U : List File) : (treesT T U).length ≤ (T.length + T.length + U.length) * 202 ∧ costL (treesT T U) ≤ (T.length + T.length + U.length) * 400 := by
  cases h : (wideB T || wideB U) with
  | true => rw [treesT_yes h]; exact ⟨Nat.zero_le _, Nat.zero_le _⟩
  | false =>
    rw [treesT_no h]
    have a1 := fm_len (goneT_len T) (filesT T U false)
    have a2 := fm_len (comeT_len U) (filesT U T false)
    have a3 := fm_len (bothT_len T U) (filesT T U true)
    have f1 := filesT_len T U false
    have f2 := filesT_len U T false
    have f3 := filesT_len T U true
    have c1 := costL_fm_le (f := goneT T) (m := 400) (fun s => by unfold goneT; rw [costL_app]; have := lines_cost_b s (getL T s) []; have e : costL [pRm s] = 0 := rfl; omega) (filesT T U false)
    have c2 := costL_fm_le (f := comeT U) (m := 400) (fun s => by unfold comeT; rw [costL_app]; have := lines_cost_b s [] (getL U s); have e : costL [pAd s] = 0 := rfl; omega) (filesT U T false)
    have c3 := costL_fm_le (f := bothT T U) (m := 400) (fun s => by unfold bothT; exact lines_cost_b s _ _) (filesT T U true)
    simp only [List.length_append, costL_app]
    omega
end Go.Proofs.YtdbiillompeclaaGreatDoor.X

end
section
set_option linter.unusedVariables false
set_option linter.unusedSimpArgs false
namespace Go.Proofs.YtdbiillompeclaaGreatDoor.X
open Go Go.RowKit Go.Proofs Go.Sx
/-! What makes one row, or one tree, of another one makes it. -/
theorem one_sor (nm : ByteArray) (l : List ByteArray) : Sor [(nm, l)] := List.pairwise_singleton _ _
theorem one_get (nm : ByteArray) (l : List ByteArray) : getT [(nm, l)] nm = some l := by simp [getT]
theorem one_getL (nm : ByteArray) (l : List ByteArray) : getL [(nm, l)] nm = l := by unfold getL; rw [one_get]; rfl
theorem one_has (nm : ByteArray) (l : List ByteArray) : hasT [(nm, l)] nm = true := by unfold hasT; rw [one_get]; rfl
theorem one_add {nm : ByteArray} (h : nameOk nm = true) : tAdd [] nm = ([(nm, [])], 0) := by
  unfold tAdd; rw [if_neg (by rw [h]; simp), if_neg (by simp [hasT, getT])]; rfl
theorem one_put {nm : ByteArray} {l : List ByteArray} (h : l.all lineOk = true) : tPut [(nm, [])] nm l = ([(nm, l)], 0) := by
  unfold tPut; rw [if_neg (by rw [one_has]; simp), if_neg (by rw [h]; simp)]
  have : delT [(nm, ([] : List ByteArray))] nm = [] := by simp [delT]
  unfold putT; rw [this]; rfl
theorem one_inv {nm : ByteArray} {l : List ByteArray} {k : Nat} (hn : nameOk nm = true) (h : l.all lineOk = true) (hl : l.length ≤ k) : AppInv k 1 [(nm, l)] :=
  ⟨one_sor nm l, fun x hx => by rw [List.mem_singleton.1 hx]; exact ⟨hn, h⟩, fun x hx => by rw [List.mem_singleton.1 hx]; exact hl, Nat.le_refl _⟩
theorem lines_runs {nm : ByteArray} {l m : List ByteArray} {T : List File} (hS : Sor T) (hg : getT T nm = some l) (hn : nameOk nm = true) (ha : l.all lineOk = true) (hb : m.all lineOk = true) (hf : m.length ≤ 1048576) (hl : longB l m = false) :
    ∃ U, Runs T (linesT nm l m) U ∧ getT U = upd (getT T) nm (some m) := by
  rw [linesT_not hl]; exact comm_runs (commF_spec l m) hS hg hn ha hb hf
theorem lines_one {nm : ByteArray} {l m : List ByteArray} (hn : nameOk nm = true) (ha : l.all lineOk = true) (hb : m.all lineOk = true) (hf : m.length ≤ 1048576) (hl : longB l m = false) : Runs [(nm, l)] (linesT nm l m) [(nm, m)] := by
  obtain ⟨U, h1, h2⟩ := lines_runs (one_sor nm l) (one_get nm l) hn ha hb hf hl
  have e : U = [(nm, m)] := getT_ext (runs_sor h1 (one_sor nm l)) (one_sor nm m) fun k => by
    rw [h2]
    by_cases hk : k = nm
    · subst hk; rw [upd_at, one_get]
    · rw [upd_ne _ _ hk]
      have hk' : ¬ nm = k := fun e => hk e.symm
      simp [getT, hk']
  rw [← e]; exact h1
open Classical in
theorem runs_blocks {blk : ByteArray → List Prim} {v w : ByteArray → Option (List ByteArray)} : ∀ {names : List ByteArray}, names.Nodup →
    (∀ s ∈ names, ∀ M, Sor M → getT M s = v s → ∃ M', Runs M (blk s) M' ∧ getT M' = upd (getT M) s (w s)) →
    ∀ {M : List File}, Sor M → (∀ s ∈ names, getT M s = v s) → ∃ M', Runs M (names.flatMap blk) M' ∧ Sor M' ∧ ∀ x, getT M' x = if x ∈ names then w x else getT M x := by
  intro names
  induction names with
  | nil => intro _ _ M hM _; exact ⟨M, rfl, hM, fun x => by rw [if_neg (by simp)]⟩
  | cons s names ih =>
    intro hnd hb M hM hv
    obtain ⟨h1, h2⟩ := List.nodup_cons.1 hnd
    obtain ⟨M1, r1, g1⟩ := hb s (by simp) M hM (hv s (by simp))
    have hM1 := runs_sor r1 hM
    obtain ⟨M2, r2, hM2, g2⟩ := ih h2 (fun t ht => hb t (by simp [ht])) hM1 (fun t ht => by
      rw [g1, upd_ne _ _ (fun e => h1 (by rw [← e]; exact ht))]; exact hv t (by simp [ht]))
    refine ⟨M2, ?_, hM2, fun x => ?_⟩
    · rw [List.flatMap_cons]; exact runs_app.2 ⟨M1, r1, r2⟩
    · rw [g2 x, g1]
      by_cases hx : x ∈ names
      · rw [if_pos hx, if_pos (by simp [hx])]
      · rw [if_neg hx]
        by_cases e : x = s
        · subst e; rw [upd_at, if_pos (by simp)]
        · rw [upd_ne _ _ e, if_neg (by simp [e, hx])]
theorem keys_has {T : List File} {s : ByteArray} : s ∈ T.map (·.1) ↔ hasT T s = true := by
  rw [hasT_iff, List.mem_map]
theorem files_mem {T U : List File} {b : Bool} {s : ByteArray} : s ∈ filesT T U b ↔ hasT T s = true ∧ hasT U s = b := by
  unfold filesT
  rw [List.mem_filter, keys_has]
  cases hasT U s <;> cases b <;> simp
theorem files_nodup {T U : List File} {b : Bool} (hT : Sor T) : (filesT T U b).Nodup := List.Pairwise.filter _ hT.keys
theorem good_name {T : List File} (hG : Go.Sx.Good T) {s : ByteArray} (h : hasT T s = true) : nameOk s = true := by
  obtain ⟨x, hx, rfl⟩ := hasT_iff.1 h
  exact (hG x hx).1
theorem nil_all : ([] : List ByteArray).all lineOk = true := rfl
theorem right_rm {s : ByteArray} (h : nameOk s = true) : (pRm s).right = true := by
  unfold Prim.right; simp [pRm, h, e0, Prim.bare]
theorem right_ad {s : ByteArray} (h : nameOk s = true) : (pAd s).right = true := by
  unfold Prim.right; simp [pAd, h, e0, Prim.bare]
theorem trees_runs {T U : List File} (hT : Sor T) (hU : Sor U) (gT : Go.Sx.Good T) (gU : Go.Sx.Good U) (h : ¬ 200 < longest T) (k : ¬ 200 < longest U) : Runs T (treesT T U) U := by
  rw [treesT_no (by rw [short_wide hT h, short_wide hU k]; rfl)]
  have gone : ∀ s ∈ filesT T U false, ∀ M, Sor M → getT M s = getT T s → ∃ M', Runs M (goneT T s) M' ∧ getT M' = upd (getT M) s none := by
    intro s hs M hM hv
    obtain ⟨a1, a2⟩ := files_mem.1 hs
    have hn := good_name gT a1
    obtain ⟨M1, r1, g1⟩ := lines_runs (m := []) hM (hv.trans (hasT_yes a1)) hn (gT.get s) nil_all (by simp) (longB_two (short_get hT h s) (by simp))
    have hM1 := runs_sor r1 hM
    obtain ⟨M2, r2, g2⟩ := step_ran (p := pRm s) (g := upd (getT M1) s none) hM1 (right_rm hn) ((step2 rfl).2 ⟨by rw [g1]; exact upd_at _ _ _, rfl⟩)
    refine ⟨M2, runs_app.2 ⟨M1, r1, M2, r2, rfl⟩, ?_⟩
    rw [g2, g1]
    funext x
    by_cases e : x = s
    · subst e; rw [upd_at, upd_at]
    · rw [upd_ne _ _ e, upd_ne _ _ e, upd_ne _ _ e]
  have come : ∀ s ∈ filesT U T false, ∀ M, Sor M → getT M s = none → ∃ M', Runs M (comeT U s) M' ∧ getT M' = upd (getT M) s (getT U s) := by
    intro s hs M hM hv
    obtain ⟨a1, a2⟩ := files_mem.1 hs
    have hn := good_name gU a1
    obtain ⟨M1, r1, g1⟩ := step_ran (p := pAd s) (g := upd (getT M) s (some [])) hM (right_ad hn) ((step1 rfl).2 ⟨hv, rfl⟩)
    have hM1 := ran_sor r1 hM
    obtain ⟨M2, r2, g2⟩ := lines_runs (l := []) (m := getL U s) (T := M1) (nm := s) hM1 (by rw [g1]; exact upd_at _ _ _) hn nil_all (gU.get s) (by have := short_get hU k s; omega) (longB_two (by simp) (short_get hU k s))
    refine ⟨M2, ⟨M1, r1, r2⟩, ?_⟩
    rw [g2, g1, hasT_yes a1]
    funext x
    by_cases e : x = s
    · subst e; rw [upd_at, upd_at]
    · rw [upd_ne _ _ e, upd_ne _ _ e, upd_ne _ _ e]
  have both : ∀ s ∈ filesT T U true, ∀ M, Sor M → getT M s = getT T s → ∃ M', Runs M (bothT T U s) M' ∧ getT M' = upd (getT M) s (getT U s) := by
    intro s hs M hM hv
    obtain ⟨a1, a2⟩ := files_mem.1 hs
    rw [hasT_yes a2]
    exact lines_runs hM (hv.trans (hasT_yes a1)) (good_name gT a1) (gT.get s) (gU.get s) (by have := short_get hU k s; omega) (longB_two (short_get hT h s) (short_get hU k s))
  obtain ⟨M1, r1, s1, g1⟩ := runs_blocks (w := fun _ => none) (files_nodup hT) gone hT (fun _ _ => rfl)
  obtain ⟨M2, r2, s2, g2⟩ := runs_blocks (v := fun _ => none) (w := getT U) (files_nodup hU) come s1 (fun s hs => by
    obtain ⟨a1, a2⟩ := files_mem.1 hs
    rw [g1, if_neg (fun e => by rw [(files_mem.1 e).1] at a2; cases a2)]; exact hasT_no a2)
  obtain ⟨M3, r3, s3, g3⟩ := runs_blocks (v := getT T) (w := getT U) (files_nodup hT) both s2 (fun s hs => by
    obtain ⟨a1, a2⟩ := files_mem.1 hs
    rw [g2, if_neg (fun e => by rw [(files_mem.1 e).2] at a1; cases a1), g1, if_neg (fun e => by rw [(files_mem.1 e).2] at a2; cases a2)])
  have e : M3 = U := getT_ext s3 hU fun x => by
    rw [g3, g2, g1]
    by_cases c1 : hasT T x = true
    · by_cases c2 : hasT U x = true
      · rw [if_pos (files_mem.2 ⟨c1, c2⟩)]
      · have c2' : hasT U x = false := by simpa using c2
        rw [if_neg (fun e => c2 (files_mem.1 e).2), if_neg (fun e => c2 (files_mem.1 e).1), if_pos (files_mem.2 ⟨c1, c2'⟩), hasT_no c2']
    · have c1' : hasT T x = false := by simpa using c1
      rw [if_neg (fun e => c1 (files_mem.1 e).1)]
      by_cases c2 : hasT U x = true
      · rw [if_pos (files_mem.2 ⟨c2, c1'⟩)]
      · have c2' : hasT U x = false := by simpa using c2
        rw [if_neg (fun e => c2 (files_mem.1 e).1), if_neg (fun e => c1 (files_mem.1 e).1), hasT_no c1', hasT_no c2']
  have r := runs_app.2 ⟨M2, runs_app.2 ⟨M1, r1, r2⟩, r3⟩
  rwa [e] at r
theorem trees_same {T : List File} (hT : Sor T) : treesT T T = [] := by
  cases h : (wideB T || wideB T) with
  | true => exact treesT_yes h
  | false =>
    rw [treesT_no h]
    have e1 : filesT T T false = [] := List.eq_nil_iff_forall_not_mem.2 fun s hs => by
      obtain ⟨a, b⟩ := files_mem.1 hs; rw [a] at b; cases b
    have e2 : (filesT T T true).flatMap (bothT T T) = [] := by
      rw [List.flatMap_eq_nil_iff]
      intro s hs
      show linesT s (getL T s) (getL T s) = []
      cases hl : longB (getL T s) (getL T s) with
      | true => exact linesT_long hl
      | false => exact lines_same hl
    rw [e1, e2]; rfl
end Go.Proofs.YtdbiillompeclaaGreatDoor.X

end
section
set_option linter.unusedVariables false
set_option linter.unusedSimpArgs false
namespace Go.Proofs.YtdbiillompeclaaGreatDoor.X
open Go Go.RowKit Go.Proofs Go.Sx
attribute [local irreducible] slA isA box row

theorem fa117_0 : FA Tryz.prog 117 0 0 := fun b o w => by kernel_rfl
theorem fa117_1 : FA Tryz.prog 117 1 1 := fun b o w => by kernel_rfl
theorem sb83 : SB Tryz.prog 83 [(0, 1), (1, 1), (2, 1), (3, 1), (4, 1), (5, 1)] [.int .i64 0, .string ⟨#[]⟩, .string ⟨#[]⟩, .int .i64 0, .slice none 0 0, .slice none 0 0] := SB.struct Tryz.zeroValue83 rfl Tryz.underlying83 (fun w => by kernel_rfl)
set_option maxRecDepth 100000 in
theorem c_rLines (nm : ByteArray) (l m : List ByteArray) (A B : Option Addr) (c c' : Nat) (hl : l.length ≤ 1000000) (hm : m.length ≤ 1000000) (hc : l.length ≤ c) (hc' : m.length ≤ c') : Con Tryz.prog 22 [.string nm, .slice A l.length c, .slice B m.length c'] [] [slA A l, slA B m] (Option Addr × Nat) (fun x => .slice x.1 (linesT nm l m).length x.2) (fun x => [row 83 x.1 x.2 (linesT nm l m)]) (fun _ => []) := by
 refine con Tryz.func22 rfl Tryz.ntmps22 rfl ?_
 intro M0 F0 w0
 refine cs ?_
 refine cr ?_
 refine ls (op (p_asg rfl) rfl) ?_
 refine ln ?_
 refine nthen ?_
 refine cs ?_
 refine cmono (fun a w h => nilRow (α := Prim) 83 h) ?_
 refine cr ?_
 refine ls (op (p_asg rfl) rfl) ?_
 refine ln ?_
 refine nthen ?_
 refine cs ?_
 refine cs ?_
 refine cr ?_
 refine ls (op (p_move rfl) rfl) ?_
 refine ls (op (p_lenl rfl Tryz.underlying37) rfl) ?_
 refine ls (op (p_icmp rfl rfl rfl) rfl) ?_
 refine ls (op (p_move rfl) rfl) ?_
 refine orX 4 15 19 rfl (subσ.cons (t := 0) rfl (subσ.cons (t := 1) rfl (subσ.cons (t := 2) rfl (subσ.cons (t := 6) rfl (subσ.cons (t := 7) rfl (subσ.nil _)))))) ?_ ?_
 ·
  intro h15
  refine lskip rfl rfl rfl rfl rfl ?_
  refine lskip rfl rfl rfl rfl rfl ?_
  refine lskip rfl rfl rfl rfl rfl ?_
  refine ls (op (p_pickt rfl rfl) rfl) ?_
  refine ln (nmid (wk0 (by repeat (first | exact subσ.nil _ | refine subσ.cons rfl ?_)) (by repeat' (first | constructor | apply Sub.suf))))
 apply exI
 ·
  intro h15
  refine lwant rfl rfl rfl rfl (op (p_move rfl) rfl) ?_
  refine lwant rfl rfl rfl rfl (op (p_lenl rfl Tryz.underlying37) rfl) ?_
  refine lwant rfl rfl rfl rfl (op (p_icmp rfl rfl rfl) rfl) ?_
  refine ls (op (p_pickf rfl rfl) rfl) ?_
  refine ln (nmid (wk0 (by repeat (first | exact subσ.nil _ | refine subσ.cons rfl ?_)) (by repeat' (first | constructor | apply Sub.suf))))
 ·
  refine ln ?_
  refine nthen ?_
  refine cc rfl ?_ ?_
  ·
   intro h19
   have hlo : longB l m = true := h19
   refine cs ?_
   refine cmono (fun a w h => rowEq (α := Prim) (by repeat' constructor) (linesT_long (nm := nm) hlo).symm (by repeat' constructor) h) ?_
   refine cr ?_
   refine ls (op (p_asg rfl) rfl) ?_
   refine ln ?_
   refine nthen ?_
   refine cret ?_
   refine xret (fun _ _ h => h) ?_
   refine rret (is := [0]) (none, 0) (Or.inl rfl) (Res.t rfl Res.d) ?_ rfl (by repeat' (first | constructor | apply Sub.suf))
   rw [linesT_long hlo]; rfl
  ·
   intro h19
   have hlo : longB l m = false := h19
   obtain ⟨hl2, hm2⟩ := longB_no hlo
   refine cskip ?_
   refine nthen ?_
   refine cs ?_
   refine cr ?_
   refine ls (op (p_move rfl) rfl) ?_
   refine ls (op (p_move rfl) rfl) ?_
   refine ls (o_call (is := []) Tryz.call70 (c_rCommon l m A B c c' hl hm) rfl rfl (by repeat' (first | constructor | apply Sub.suf)) rfl) ?_
   refine le ?_; rintro ⟨⟨o, ⟨A22, c22⟩⟩, hlo2, hno⟩
   dsimp only at hlo2 hno
   obtain rfl := (hno hlo).eq
   have hcm := commF_spec l m
   have hcl := hcm.len
   have hcl2 := lcs_lenl l m
   refine ls (op (p_asg rfl) rfl) ?_
   refine ln ?_
   refine nthen ?_
   refine cs ?_
   refine cr ?_
   refine ls (op (p_move rfl) rfl) ?_
   refine ls (op (p_move rfl) rfl) ?_
   refine ls (op (p_lenl rfl Tryz.underlying37) rfl) ?_
   refine ls (op (p_move rfl) rfl) ?_
   refine ls (op (p_lenl rfl Tryz.underlying37) rfl) ?_
   refine ls (op (p_bld sb117 rfl (Fill.t (by repeat' constructor) rfl rfl (by repeat' constructor) (Fill.t (by repeat' constructor) rfl rfl (by repeat' constructor) Fill.d))) rfl) ?_
   refine ls (o_bsl [(l.length, m.length)] Tryz.underlying115 Tryz.sizeOf117 Tryz.zeroValue117 rfl (Enum.t Enum.d) (RV.t () rfl (by repeat' (first | constructor | apply Sub.suf)) RV.d) rfl (by decide) (by decide) rfl) ?_
   refine le ?_; intro b29
   refine lmono (fun a w h => Go.Sx.freeze (i := 0) rfl h) ?_
   refine ls (o_app (is := [0]) Tryz.underlying115 inf117 rfl (by decide) (by decide) rfl rfl (by simp only [List.length_cons, List.length_nil]; omega) (fun h => by cases h) rfl (by repeat' (first | constructor | apply Sub.suf)) rfl) ?_
   refine le ?_; rintro ⟨A30, c30⟩
   refine lmono (fun a w h => Go.Sx.freeze (i := 0) rfl h) ?_
   refine ls (op (p_asg rfl) rfl) ?_
   refine ln ?_
   refine nthen ?_
   refine cs ?_
   refine cr ?_
   refine ls (op (p_asg rfl) rfl) ?_
   refine ln ?_
   refine nthen ?_
   refine cs ?_
   refine cr ?_
   refine ls (op (p_asg rfl) rfl) ?_
   refine ln ?_
   refine nthen ?_
   refine cs ?_
   refine cs ?_
   refine cr ?_
   refine ls (op (p_asg rfl) rfl) ?_
   refine ln ?_
   refine nthen ?_
   refine cb ?_
   refine cl (ι := {q : Nat × Option Addr × Nat // q.1 ≤ (commF l m ++ [(l.length, m.length)]).length}) (fun i => St M0 F0 w0 88 [(0, .string nm), (1, .slice A l.length c), (2, .slice B m.length c'), (7, .slice i.1.2.1 (linF nm l m ((commF l m ++ [(l.length, m.length)]).take (i.1.1))).1.length i.1.2.2), (8, .slice A30 (commF l m ++ [(l.length, m.length)]).length c30), (9, .int .i64 (((linF nm l m ((commF l m ++ [(l.length, m.length)]).take (i.1.1))).2.1 : Nat) : Int)), (10, .int .i64 (((linF nm l m ((commF l m ++ [(l.length, m.length)]).take (i.1.1))).2.2 : Nat) : Int)), (11, .int .i64 ((i.1.1 : Nat) : Int))] [row 83 (i.1.2.1) (i.1.2.2) (linF nm l m ((commF l m ++ [(l.length, m.length)]).take (i.1.1))).1] [slA A l, slA B m, slA A30 (commF l m ++ [(l.length, m.length)])]) (fun i => (commF l m ++ [(l.length, m.length)]).length - i.1.1) ⟨(0, none, 0), Nat.zero_le _⟩ (wk (is := [0]) (by repeat (first | exact subσ.nil _ | refine subσ.cons rfl ?_)) rfl (by repeat' (first | constructor | apply Sub.suf))) ?_
   rintro ⟨⟨k, A7, c7⟩, hk⟩
   refine cmono (S' := St M0 F0 w0 88 [(0, .string nm), (1, .slice A l.length c), (2, .slice B m.length c'), (7, .slice A7 (linF nm l m ((commF l m ++ [(l.length, m.length)]).take (k))).1.length c7), (8, .slice A30 (commF l m ++ [(l.length, m.length)]).length c30), (9, .int .i64 (((linF nm l m ((commF l m ++ [(l.length, m.length)]).take (k))).2.1 : Nat) : Int)), (10, .int .i64 (((linF nm l m ((commF l m ++ [(l.length, m.length)]).take (k))).2.2 : Nat) : Int)), (11, .int .i64 ((k : Nat) : Int))] [row 83 (A7) (c7) (linF nm l m ((commF l m ++ [(l.length, m.length)]).take (k))).1] [slA A l, slA B m, slA A30 (commF l m ++ [(l.length, m.length)])]) (fun _ _ h => h) ?_
   refine cs ?_
   refine cs ?_
   refine cr ?_
   refine ls (op (p_move rfl) rfl) ?_
   refine ls (op (p_move rfl) rfl) ?_
   refine ls (op (p_lenl rfl Tryz.underlying115) rfl) ?_
   refine ls (op (p_icmp rfl rfl rfl) rfl) ?_
   refine ln ?_
   refine nthen ?_
   refine cc rfl ?_ ?_
   ·
    intro h34
    dsimp only at hk
    try simp only [decide_eq_true_eq, decide_eq_false_iff_not, Bool.not_eq_true', Bool.not_eq_false', Int.not_lt, Int.not_le, ge_iff_le, Bool.not_true, Bool.not_false] at h34
    have hk1 : k < (commF l m ++ [(l.length, m.length)]).length := by omega
    have hPL : (commF l m ++ [(l.length, m.length)]).length ≤ 201 := by simp only [List.length_append, List.length_singleton]; omega
    obtain ⟨hs1, hs2, hs3, hs4⟩ := hcm.step (nm := nm) k hk1
    have hlt := linF_take (nm := nm) (a := l) (b := m) hk1
    have hln := linF_len nm l m ((commF l m ++ [(l.length, m.length)]).take k)
    have hln2 : ((commF l m ++ [(l.length, m.length)]).take k).length ≤ 201 := by simp only [List.length_take, List.length_append, List.length_singleton]; omega
    refine cskip ?_
    refine nthen ?_
    refine cs ?_
    refine cb ?_
    refine cs ?_
    refine cs ?_
    refine elC (A := A30) (l := (commF l m ++ [(l.length, m.length)])) (by repeat' constructor) k (List.getElem?_eq_getElem hk1) ?_; rintro zbp zop zyp hAp
    refine cr ?_
    refine ls (op (p_move rfl) rfl) ?_
    refine ls (op (p_move rfl) rfl) ?_
    refine ls (op (p_ia k hAp hk1 rfl Tryz.underlying115 Tryz.sizeOf117 rfl rfl) rfl) ?_
    refine ls (op (p_fa fa117_0 rfl) rfl) ?_
    refine ls (o_ldi Tryz.isAgg3 rfl (by repeat' constructor) 0 rfl (by repeat (first | exact Cut.d | apply Cut.t | apply Cut.s)) rfl) ?_
    refine ls (op (p_move rfl) rfl) ?_
    refine ls (op (p_icmp rfl rfl rfl) rfl) ?_
    refine ls (op (p_move rfl) rfl) ?_
    refine orX 8 44 52 rfl (subσ.cons (t := 0) rfl (subσ.cons (t := 1) rfl (subσ.cons (t := 2) rfl (subσ.cons (t := 7) rfl (subσ.cons (t := 8) rfl (subσ.cons (t := 9) rfl (subσ.cons (t := 10) rfl (subσ.cons (t := 11) rfl (subσ.cons (t := 31) rfl (subσ.cons (t := 32) rfl (subσ.cons (t := 33) rfl (subσ.cons (t := 34) rfl (subσ.nil _))))))))))))) ?_ ?_
    ·
     intro h44
     refine lskip rfl rfl rfl rfl rfl ?_
     refine lskip rfl rfl rfl rfl rfl ?_
     refine lskip rfl rfl rfl rfl rfl ?_
     refine lskip rfl rfl rfl rfl rfl ?_
     refine lskip rfl rfl rfl rfl rfl ?_
     refine lskip rfl rfl rfl rfl rfl ?_
     refine lskip rfl rfl rfl rfl rfl ?_
     refine ls (op (p_pickt rfl rfl) rfl) ?_
     refine ln (nmid (wk0 (by repeat (first | exact subσ.nil _ | refine subσ.cons rfl ?_)) (by repeat' (first | constructor | apply Sub.suf))))
    apply exI
    ·
     intro h44
     refine lwant rfl rfl rfl rfl (op (p_move rfl) rfl) ?_
     refine lwant rfl rfl rfl rfl (op (p_move rfl) rfl) ?_
     refine lwant rfl rfl rfl rfl (op (p_ia k hAp hk1 rfl Tryz.underlying115 Tryz.sizeOf117 rfl rfl) rfl) ?_
     refine lwant rfl rfl rfl rfl (op (p_fa fa117_1 rfl) rfl) ?_
     refine lwant rfl rfl rfl rfl (o_ldi Tryz.isAgg3 rfl (by repeat' constructor) 1 rfl (by repeat (first | exact Cut.d | apply Cut.t | apply Cut.s)) rfl) ?_
     refine lwant rfl rfl rfl rfl (op (p_move rfl) rfl) ?_
     refine lwant rfl rfl rfl rfl (op (p_icmp rfl rfl rfl) rfl) ?_
     refine ls (op (p_pickf rfl rfl) rfl) ?_
     refine ln (nmid (wk0 (by repeat (first | exact subσ.nil _ | refine subσ.cons rfl ?_)) (by repeat' (first | constructor | apply Sub.suf))))
    ·
     refine ln ?_
     refine nthen ?_
     refine cc rfl ?_ ?_
     ·
      intro h52
      have hq : (linF nm l m ((commF l m ++ [(l.length, m.length)]).take (k))).2.1 < (commF l m ++ [(l.length, m.length)])[k].1 ∨ (linF nm l m ((commF l m ++ [(l.length, m.length)]).take (k))).2.2 < (commF l m ++ [(l.length, m.length)])[k].2 := by have h := h52; simp at h; omega
      have hh : Go.Proofs.YtdbiillompeclaaGreatDoor.X.hk nm l m (linF nm l m ((commF l m ++ [(l.length, m.length)]).take (k))).2 (commF l m ++ [(l.length, m.length)])[k] = [hunkP nm l m (linF nm l m ((commF l m ++ [(l.length, m.length)]).take (k))).2 (commF l m ++ [(l.length, m.length)])[k]] := if_pos hq
      refine cmono (fun a w h => subS (A := A) (l := l) (l' := (l.drop (linF nm l m ((commF l m ++ [(l.length, m.length)]).take (k))).2.1).take ((commF l m ++ [(l.length, m.length)])[k].1 - (linF nm l m ((commF l m ++ [(l.length, m.length)]).take (k))).2.1)) (c := c) (linF nm l m ((commF l m ++ [(l.length, m.length)]).take (k))).2.1 (commF l m ++ [(l.length, m.length)])[k].1 (by repeat (first | exact In.z | apply In.s)) (by omega) (by omega) (by omega) rfl h) ?_
      refine cmono (fun a w h => subS (A := B) (l := m) (l' := (m.drop (linF nm l m ((commF l m ++ [(l.length, m.length)]).take (k))).2.2).take ((commF l m ++ [(l.length, m.length)])[k].2 - (linF nm l m ((commF l m ++ [(l.length, m.length)]).take (k))).2.2)) (c := c') (linF nm l m ((commF l m ++ [(l.length, m.length)]).take (k))).2.2 (commF l m ++ [(l.length, m.length)])[k].2 (by repeat (first | exact In.z | apply In.s)) (by omega) (by omega) (by omega) rfl h) ?_
      refine cdB [20, 21] [(9, zbp, zop + k * Rp.size (Nat × Nat), _), (17, zbp, zop + k * Rp.size (Nat × Nat) + 1, _)] TryzX.mixed (by kernel_rfl) (by kernel_rfl) (TOk.t (isInS (by repeat' constructor) (k := 0) rfl (z := 1) (by repeat (first | exact Cut.d | apply Cut.t | apply Cut.s))) (TOk.t (isInS (by repeat' constructor) (k := 1) rfl (z := 1) (by repeat (first | exact Cut.d | apply Cut.t | apply Cut.s))) TOk.d)) ?_
      refine tkB 0 rfl (by kernel_rfl) (fun _ _ _ h => h) gnone (TTany _) (p_move rfl) rfl ?_
      refine tkB 1 rfl (by kernel_rfl) (fun _ _ _ h => h) gnone (TTany _) (p_move rfl) rfl ?_
      refine tkB 2 rfl (by kernel_rfl) (fun _ _ _ h => h) gnone (TTany _) (p_move rfl) rfl ?_
      refine tkB 3 rfl (by kernel_rfl) (fun _ _ _ h => h) gnone (TTany _) (p_move rfl) rfl ?_
      refine tkB 4 rfl (by kernel_rfl) (fun _ _ _ h => h) gnone (TTany _) (p_move rfl) rfl ?_
      refine tkB 5 rfl (by kernel_rfl) (fun _ _ _ h => h) gnone (TTany _) (p_move rfl) rfl ?_
      refine tkB 6 rfl (by kernel_rfl) (fun _ _ _ h => h) gnone (TTany _) (p_move rfl) rfl ?_
      refine tkB 7 rfl (by kernel_rfl) (fun _ _ _ h => h) gnone (TTany _) (p_ia k hAp hk1 rfl Tryz.underlying115 Tryz.sizeOf117 rfl rfl) rfl ?_
      refine tkB 8 rfl (by kernel_rfl) (fun _ _ _ h => h) gnone (TTany _) (p_fa fa117_0 rfl) rfl ?_
      refine tkB 9 rfl (by kernel_rfl) (fun _ _ _ h => h) gnone (TTat (List.Mem.head _)) (p_ld Tryz.isAgg3 rfl) rfl ?_
      refine tkB 10 rfl (by kernel_rfl) (fun _ _ _ h => h) gnone (TTany _) (p_sl (linF nm l m ((commF l m ++ [(l.length, m.length)]).take (k))).2.1 (commF l m ++ [(l.length, m.length)])[k].1 (by omega) (by omega) rfl rfl Tryz.underlying37 Tryz.sizeOf9 rfl rfl rfl) rfl ?_
      refine fixB (slen (m' := ((l.drop (linF nm l m ((commF l m ++ [(l.length, m.length)]).take (k))).2.1).take ((commF l m ++ [(l.length, m.length)])[k].1 - (linF nm l m ((commF l m ++ [(l.length, m.length)]).take (k))).2.1)).length) (by rw [List.length_take, List.length_drop]; omega)) ?_
      refine tkB 11 rfl (by kernel_rfl) (fun _ _ _ h => h) gnone (TTany _) (p_move rfl) rfl ?_
      refine tkB 12 rfl (by kernel_rfl) (fun _ _ _ h => h) gnone (TTany _) (p_move rfl) rfl ?_
      refine tkB 13 rfl (by kernel_rfl) (fun _ _ _ h => h) gnone (TTany _) (p_move rfl) rfl ?_
      refine tkB 14 rfl (by kernel_rfl) (fun _ _ _ h => h) gnone (TTany _) (p_move rfl) rfl ?_
      refine tkB 15 rfl (by kernel_rfl) (fun _ _ _ h => h) gnone (TTany _) (p_ia k hAp hk1 rfl Tryz.underlying115 Tryz.sizeOf117 rfl rfl) rfl ?_
      refine tkB 16 rfl (by kernel_rfl) (fun _ _ _ h => h) gnone (TTany _) (p_fa fa117_1 rfl) rfl ?_
      refine tkB 17 rfl (by kernel_rfl) (fun _ _ _ h => h) gnone (TTat (List.Mem.tail _ (List.Mem.head _))) (p_ld Tryz.isAgg3 rfl) rfl ?_
      refine tkB 18 rfl (by kernel_rfl) (fun _ _ _ h => h) gnone (TTany _) (p_sl (linF nm l m ((commF l m ++ [(l.length, m.length)]).take (k))).2.2 (commF l m ++ [(l.length, m.length)])[k].2 (by omega) (by omega) rfl rfl Tryz.underlying37 Tryz.sizeOf9 rfl rfl rfl) rfl ?_
      refine fixB (slen (m' := ((m.drop (linF nm l m ((commF l m ++ [(l.length, m.length)]).take (k))).2.2).take ((commF l m ++ [(l.length, m.length)])[k].2 - (linF nm l m ((commF l m ++ [(l.length, m.length)]).take (k))).2.2)).length) (by rw [List.length_take, List.length_drop]; omega)) ?_
      refine tkB 19 rfl (by kernel_rfl) (fun _ _ _ h => h) gnone (TTany _) (p_bld sb83 rfl (Fill.t (by repeat' constructor) rfl rfl (by repeat' constructor) (Fill.t (by repeat' constructor) rfl rfl (by repeat' constructor) (Fill.t (by repeat' constructor) rfl rfl (by repeat' constructor) (Fill.t (by repeat' constructor) rfl rfl (by repeat' constructor) Fill.d))))) rfl ?_
      refine dfB 20 (by kernel_rfl) ?_
      refine doRB rfl (o_bsl [hunkP nm l m (linF nm l m ((commF l m ++ [(l.length, m.length)]).take (k))).2 (commF l m ++ [(l.length, m.length)])[k]] Tryz.underlying23 Tryz.sizeOf83 Tryz.zeroValue83 rfl (Enum.t Enum.d) (RV.t (((if c = (linF nm l m ((commF l m ++ [(l.length, m.length)]).take (k))).2.1 then A else A.map (·.add ((linF nm l m ((commF l m ++ [(l.length, m.length)]).take (k))).2.1 * Rp.size ByteArray))), c - (linF nm l m ((commF l m ++ [(l.length, m.length)]).take (k))).2.1), ((if c' = (linF nm l m ((commF l m ++ [(l.length, m.length)]).take (k))).2.2 then B else B.map (·.add ((linF nm l m ((commF l m ++ [(l.length, m.length)]).take (k))).2.2 * Rp.size ByteArray))), c' - (linF nm l m ((commF l m ++ [(l.length, m.length)]).take (k))).2.2)) rfl (by repeat' (first | constructor | apply Sub.suf)) RV.d) rfl (by decide) (by decide) rfl) (TOk.xP 20 [19, 10] (by kernel_rfl) (TOk.xP 20 [19, 18] (by kernel_rfl) TOk.d)) ?_
      refine eaB ?_; intro b73
      refine amonoB (fun a w h => Go.Sx.freeze (i := 0) rfl h) ?_
      refine dfB 21 (by kernel_rfl) ?_
      refine doRB rfl (o_app (is := [0]) Tryz.underlying23 inf83 rfl (by decide) (by decide) rfl rfl (by simp only [List.length_cons, List.length_nil]; omega) (fun h => by cases h) rfl (by repeat' (first | constructor | apply Sub.suf)) rfl) (TOk.xP 20 [19, 10] (by kernel_rfl) (TOk.xP 20 [19, 18] (by kernel_rfl) TOk.d)) ?_
      refine eaB ?_; rintro ⟨A74, c74⟩
      refine tkB 22 rfl (by kernel_rfl) (fun _ _ _ h => h) gnone (TTany _) (p_asg rfl) rfl ?_
      refine dnB (by kernel_rfl) ?_
      refine nthen ?_
      refine cs ?_
      refine cr ?_
      refine ls (op (p_move rfl) rfl) ?_
      refine ls (op (p_move rfl) rfl) ?_
      refine ls (op (p_ia k hAp hk1 rfl Tryz.underlying115 Tryz.sizeOf117 rfl rfl) rfl) ?_
      refine ls (op (p_fa fa117_0 rfl) rfl) ?_
      refine ls (o_ldi Tryz.isAgg3 rfl (by repeat' constructor) 0 rfl (by repeat (first | exact Cut.d | apply Cut.t | apply Cut.s)) rfl) ?_
      refine ls (op (p_add rfl rfl (by omega)) rfl) ?_
      refine ls (op (p_asg rfl) rfl) ?_
      refine ln ?_
      refine nthen ?_
      refine cr ?_
      refine ls (op (p_move rfl) rfl) ?_
      refine ls (op (p_move rfl) rfl) ?_
      refine ls (op (p_ia k hAp hk1 rfl Tryz.underlying115 Tryz.sizeOf117 rfl rfl) rfl) ?_
      refine ls (op (p_fa fa117_1 rfl) rfl) ?_
      refine ls (o_ldi Tryz.isAgg3 rfl (by repeat' constructor) 1 rfl (by repeat (first | exact Cut.d | apply Cut.t | apply Cut.s)) rfl) ?_
      refine ls (op (p_add rfl rfl (by omega)) rfl) ?_
      refine ls (op (p_asg rfl) rfl) ?_
      refine ln ?_
      refine nblock ?_
      refine nthen ?_
      refine cr ?_
      refine ls (op (p_move rfl) rfl) ?_
      refine ls (op (p_add rfl rfl (by omega)) rfl) ?_
      refine ls (op (p_asg rfl) rfl) ?_
      refine ln ?_
      refine nnext ⟨(k + 1, A74, c74), hk1⟩ (by dsimp only; omega) (fun a w h => by dsimp only; rw [hlt, hh]; exact wk (is := [0]) (by repeat (first | exact subσ.nil _ | refine subσ.cons rfl ?_)) rfl (by repeat' (first | constructor | apply Sub.suf)) a w h)
     ·
      intro h52
      have hq : ¬ ((linF nm l m ((commF l m ++ [(l.length, m.length)]).take (k))).2.1 < (commF l m ++ [(l.length, m.length)])[k].1 ∨ (linF nm l m ((commF l m ++ [(l.length, m.length)]).take (k))).2.2 < (commF l m ++ [(l.length, m.length)])[k].2) := by have h := h52; simp at h; omega
      have hh : Go.Proofs.YtdbiillompeclaaGreatDoor.X.hk nm l m (linF nm l m ((commF l m ++ [(l.length, m.length)]).take (k))).2 (commF l m ++ [(l.length, m.length)])[k] = [] := if_neg hq
      refine cskip ?_
      refine nthen ?_
      refine cs ?_
      refine cr ?_
      refine ls (op (p_move rfl) rfl) ?_
      refine ls (op (p_move rfl) rfl) ?_
      refine ls (op (p_ia k hAp hk1 rfl Tryz.underlying115 Tryz.sizeOf117 rfl rfl) rfl) ?_
      refine ls (op (p_fa fa117_0 rfl) rfl) ?_
      refine ls (o_ldi Tryz.isAgg3 rfl (by repeat' constructor) 0 rfl (by repeat (first | exact Cut.d | apply Cut.t | apply Cut.s)) rfl) ?_
      refine ls (op (p_add rfl rfl (by omega)) rfl) ?_
      refine ls (op (p_asg rfl) rfl) ?_
      refine ln ?_
      refine nthen ?_
      refine cr ?_
      refine ls (op (p_move rfl) rfl) ?_
      refine ls (op (p_move rfl) rfl) ?_
      refine ls (op (p_ia k hAp hk1 rfl Tryz.underlying115 Tryz.sizeOf117 rfl rfl) rfl) ?_
      refine ls (op (p_fa fa117_1 rfl) rfl) ?_
      refine ls (o_ldi Tryz.isAgg3 rfl (by repeat' constructor) 1 rfl (by repeat (first | exact Cut.d | apply Cut.t | apply Cut.s)) rfl) ?_
      refine ls (op (p_add rfl rfl (by omega)) rfl) ?_
      refine ls (op (p_asg rfl) rfl) ?_
      refine ln ?_
      refine nblock ?_
      refine nthen ?_
      refine cr ?_
      refine ls (op (p_move rfl) rfl) ?_
      refine ls (op (p_add rfl rfl (by omega)) rfl) ?_
      refine ls (op (p_asg rfl) rfl) ?_
      refine ln ?_
      refine nnext ⟨(k + 1, A7, c7), hk1⟩ (by dsimp only; omega) (fun a w h => by dsimp only; rw [hlt, hh, List.append_nil]; exact wk (is := [0]) (by repeat (first | exact subσ.nil _ | refine subσ.cons rfl ?_)) rfl (by repeat' (first | constructor | apply Sub.suf)) a w h)
   ·
    intro h34
    dsimp only at hk
    try simp only [decide_eq_true_eq, decide_eq_false_iff_not, Bool.not_eq_true', Bool.not_eq_false', Int.not_lt, Int.not_le, ge_iff_le, Bool.not_true, Bool.not_false] at h34
    obtain rfl : k = (commF l m ++ [(l.length, m.length)]).length := by omega
    rw [List.take_length]
    refine cexit ?_
    refine xthen ?_
    refine xthen ?_
    refine xblock ?_
    refine nthen ?_
    refine cs ?_
    refine cmono (fun a w h => rowEq (α := Prim) (by repeat' constructor) (linesT_not (nm := nm) hlo).symm (by repeat' constructor) h) ?_
    refine cr ?_
    refine ls (op (p_move rfl) rfl) ?_
    refine ls (op (p_asg rfl) rfl) ?_
    refine ln ?_
    refine nthen ?_
    refine cret ?_
    refine xret (fun _ _ h => h) ?_
    refine rret (is := [0]) (A7, c7) (Or.inl rfl) (Res.t rfl Res.d) ?_ rfl (by repeat' (first | constructor | apply Sub.suf))
    rw [linesT_not hlo]; rfl

set_option maxRecDepth 100000 in
theorem c_DiffLines (l m : List ByteArray) (A B : Option Addr) (c c' : Nat) (hA : A = none → c = 0) (hB : B = none → c' = 0) (hc : l.length ≤ c) (hc' : m.length ≤ c') (hl : l.length ≤ 1048576) (hm : m.length ≤ 1048576) (hs : sizes l + sizes m ≤ 1000000000000) : Con Tryz.prog 4 [.slice A l.length c, .slice B m.length c'] [] [slA A l, slA B m] Unit (fun _ => .bool (true)) (fun _ => []) (fun _ => []) := by
 have hna : nameOk (⟨#[97]⟩ : ByteArray) = true := by kernel_rfl
 refine con Tryz.func4 rfl Tryz.ntmps4 rfl ?_
 intro M0 F0 w0
 refine cs ?_
 refine cr ?_
 refine ls (op (p_asg rfl) rfl) ?_
 refine ln ?_
 refine nthen ?_
 refine cs ?_
 refine cs ?_
 refine cr ?_
 refine ls (op (p_move rfl) rfl) ?_
 refine ls (op (p_move rfl) rfl) ?_
 refine ls (o_call (is := []) Tryz.call17 (c_few06 l m A B c c' hA hB hc hc' hl hm hs) rfl rfl (by repeat' (first | constructor | apply Sub.suf)) rfl) ?_
 refine le ?_; intro x11
 refine ls (op (p_not rfl) rfl) ?_
 refine ln ?_
 refine nthen ?_
 refine cc rfl ?_ ?_
 ·
  intro h12
  skip
  refine cs ?_
  refine cr ?_
  refine ls (o_call (is := []) Tryz.call18 (c_alive06) rfl rfl (by repeat' (first | constructor | apply Sub.suf)) rfl) ?_
  refine le ?_; intro x13
  refine ls (op (p_asg rfl) rfl) ?_
  refine ln ?_
  refine nthen ?_
  refine cret ?_
  refine xret (fun _ _ h => h) ?_
  refine rret (is := []) () (Or.inl rfl) (Res.t rfl Res.d) (rfl) rfl (by repeat' (first | constructor | apply Sub.suf))
 ·
  intro h12
  have hf : few6 l m = true := by have h := h12; simpa using h
  have hf1 := few6_yes hf
  obtain ⟨hg1, hg2, hg3⟩ := few6_long hf
  have hss : ∀ x ∈ l, x.size ≤ 2000000 := fun x hx => by have := sizes_in hx; omega
  have hsm : ∀ x ∈ m, x.size ≤ 2000000 := fun x hx => by have := sizes_in hx; omega
  have hft : ∀ p ∈ (linesT (⟨#[97]⟩ : ByteArray) l m), p.fit := lines_fit (nm := (⟨#[97]⟩ : ByteArray)) hg1 (by decide) hss hsm
  have hLL := linesT_len (⟨#[97]⟩ : ByteArray) l m
  have hcs : lns (linesT (⟨#[97]⟩ : ByteArray) l m) ≤ l.length + m.length := lines_cost_le (nm := (⟨#[97]⟩ : ByteArray)) (l := l) (m := m)
  refine cskip ?_
  refine nthen ?_
  refine cs ?_
  refine cr ?_
  refine ls (op (p_move rfl) rfl) ?_
  refine ls (op (p_move rfl) rfl) ?_
  refine ls (o_call (is := []) Tryz.call19 (c_dLines (⟨#[97]⟩ : ByteArray) l m A B c c' (by omega) (by omega) hc hc') rfl rfl (by repeat' (first | constructor | apply Sub.suf)) rfl) ?_
  refine le ?_; rintro ⟨A16, c16⟩
  refine lmono (fun a w h => freezeN (i := 0) rfl h) ?_
  refine lpure (St.cap (m := (linesT (⟨#[97]⟩ : ByteArray) l m).length) (c := c16) (by repeat' constructor)) ?_
  intro hcap16
  refine ls (op (p_asg rfl) rfl) ?_
  refine ln ?_
  refine nthen ?_
  refine cs ?_
  refine cs ?_
  refine cr ?_
  refine ls (op (p_move rfl) rfl) ?_
  refine ls (o_call (is := []) Tryz.call21 (c_lOld (linesT (⟨#[97]⟩ : ByteArray) l m) A16 c16 (by omega)) rfl rfl (by repeat' (first | constructor | apply Sub.suf)) rfl) ?_
  refine le ?_; rintro ⟨A18, c18⟩
  refine ls (op (p_move rfl) rfl) ?_
  refine ls (op (p_move rfl) rfl) ?_
  refine ls (o_call (is := []) Tryz.call22 (c_rLines (⟨#[97]⟩ : ByteArray) l m A B c c' (by omega) (by omega) hc hc') rfl rfl (by repeat' (first | constructor | apply Sub.suf)) rfl) ?_
  refine le ?_; rintro ⟨A21, c21⟩
  refine lmono (fun a w h => Go.Sx.freeze (i := 0) rfl h) ?_
  refine ls (o_call (is := []) Tryz.call20 (c_refAllP (linesT (⟨#[97]⟩ : ByteArray) l m) (linesT (⟨#[97]⟩ : ByteArray) l m) A18 A21 c18 c21 (by omega) hft) rfl rfl (by repeat' (first | constructor | apply Sub.suf)) rfl) ?_
  refine le ?_; intro x22
  refine fixL (congrArg Value.bool (decide_eq_true rfl)) ?_
  refine ls (op (p_not rfl) rfl) ?_
  refine ln ?_
  refine nthen ?_
  refine cc rfl (fun h => by cases h) (fun h => ?_)
  refine cskip ?_
  refine nthen ?_
  refine cs ?_
  refine cr ?_
  refine ls (o_call (is := []) Tryz.call23 (c_tNew) rfl rfl (by repeat' (first | constructor | apply Sub.suf)) rfl) ?_
  refine le ?_; rintro ⟨p, b⟩
  refine ls (op (p_asg rfl) rfl) ?_
  refine ln ?_
  refine nthen ?_
  refine cs ?_
  refine cs ?_
  refine cr ?_
  refine ls (op (p_move rfl) rfl) ?_
  refine ls (op (p_ptrnil Tryz.underlying47 rfl rfl) rfl) ?_
  refine ls (op (p_move rfl) rfl) ?_
  refine lwant rfl rfl rfl rfl (op (p_move rfl) rfl) ?_
  refine lwant rfl rfl rfl rfl (o_call (is := []) Tryz.call24 (c_refAll l A c (by omega) hss) rfl rfl (by repeat' (first | constructor | apply Sub.suf)) rfl) ?_
  refine le ?_; intro x29
  refine lwant rfl rfl rfl rfl (op (p_not rfl) rfl) ?_
  refine ls (op (p_pickf rfl rfl) rfl) ?_
  refine ls (op (p_move rfl) rfl) ?_
  refine splitL 32 rfl ?_ ?_
  ·
   intro h32
   skip
   refine lskip rfl rfl rfl rfl rfl ?_
   refine lskip rfl rfl rfl rfl rfl ?_
   refine lskip rfl rfl rfl rfl rfl ?_
   refine ls (op (p_pickt rfl rfl) rfl) ?_
   refine ln ?_
   refine nthen ?_
   refine cc rfl (fun h => ?_) (fun h => by cases h)
   refine cs ?_
   refine cr ?_
   refine ls (op (p_move rfl) rfl) ?_
   refine ls (op (p_ptrnn Tryz.underlying47 rfl rfl) rfl) ?_
   refine ls (op (p_move rfl) rfl) ?_
   refine lwant rfl rfl rfl rfl (o_call (is := []) Tryz.call18 (c_alive06) rfl rfl (by repeat' (first | constructor | apply Sub.suf)) rfl) ?_
   refine le ?_; intro x40
   refine ls (op (p_pickt rfl rfl) rfl) ?_
   refine ls (op (p_asg rfl) rfl) ?_
   refine ln ?_
   refine nthen ?_
   refine cret ?_
   refine xret (fun _ _ h => h) ?_
   refine rret (is := []) () (Or.inl rfl) (Res.t rfl Res.d) (rfl) rfl (by repeat' (first | constructor | apply Sub.suf))
  ·
   intro h32
   have hal : l.all lineOk = true := by have h := h32; simpa using h
   refine lwant rfl rfl rfl rfl (op (p_move rfl) rfl) ?_
   refine lwant rfl rfl rfl rfl (o_call (is := []) Tryz.call24 (c_refAll m B c' (by omega) hsm) rfl rfl (by repeat' (first | constructor | apply Sub.suf)) rfl) ?_
   refine le ?_; intro x34
   refine lwant rfl rfl rfl rfl (op (p_not rfl) rfl) ?_
   refine ls (op (p_pickf rfl rfl) rfl) ?_
   refine ln ?_
   refine nthen ?_
   refine cc rfl ?_ ?_
   ·
    intro h36
    skip
    refine cs ?_
    refine cr ?_
    refine ls (op (p_move rfl) rfl) ?_
    refine ls (op (p_ptrnn Tryz.underlying47 rfl rfl) rfl) ?_
    refine ls (op (p_move rfl) rfl) ?_
    refine lwant rfl rfl rfl rfl (o_call (is := []) Tryz.call18 (c_alive06) rfl rfl (by repeat' (first | constructor | apply Sub.suf)) rfl) ?_
    refine le ?_; intro x40
    refine ls (op (p_pickt rfl rfl) rfl) ?_
    refine ls (op (p_asg rfl) rfl) ?_
    refine ln ?_
    refine nthen ?_
    refine cret ?_
    refine xret (fun _ _ h => h) ?_
    refine rret (is := []) () (Or.inl rfl) (Res.t rfl Res.d) (rfl) rfl (by repeat' (first | constructor | apply Sub.suf))
   ·
    intro h36
    have hbl : m.all lineOk = true := by have h := h36; simpa using h
    refine cskip ?_
    refine nthen ?_
    refine cs ?_
    refine cr ?_
    refine ls (op (p_move rfl) rfl) ?_
    refine ls (o_call (is := [0, 0]) Tryz.call25 (c_tAdd p b [] (⟨#[97]⟩ : ByteArray)) rfl rfl (by repeat' (first | constructor | apply Sub.suf)) rfl) ?_
    refine le ?_; rintro ⟨⟨T1, e1⟩, hq1⟩
    try dsimp only at hq1
    obtain ⟨rfl, rfl⟩ := Prod.mk.inj (hq1.trans (one_add hna))
    refine ln ?_
    refine nthen ?_
    refine cs ?_
    refine cr ?_
    refine ls (op (p_move rfl) rfl) ?_
    refine ls (op (p_move rfl) rfl) ?_
    refine ls (o_call (is := [0, 0]) Tryz.call26 (c_tPut p b [((⟨#[97]⟩ : ByteArray), [])] (⟨#[97]⟩ : ByteArray) l A c (by omega)) rfl rfl (by repeat' (first | constructor | apply Sub.suf)) rfl) ?_
    refine le ?_; rintro ⟨⟨T2, e2⟩, hq2⟩
    try dsimp only at hq2
    obtain ⟨rfl, rfl⟩ := Prod.mk.inj (hq2.trans (one_put hal))
    have hrun := lines_one (nm := (⟨#[97]⟩ : ByteArray)) hna hal hbl (by omega) hg1
    have hinv : AppInv l.length 1 [((⟨#[97]⟩ : ByteArray), l)] := one_inv hna hal (Nat.le_refl _)
    have hin1 : AppInv m.length 1 [((⟨#[97]⟩ : ByteArray), m)] := one_inv hna hbl (Nat.le_refl _)
    have hbk := runs_back hinv.so hinv.good hrun
    have hii := invL_len (linesT (⟨#[97]⟩ : ByteArray) l m)
    have hil := lns_inv (linesT (⟨#[97]⟩ : ByteArray) l m)
    refine ln ?_
    refine nthen ?_
    refine cs ?_
    refine cs ?_
    refine cr ?_
    refine ls (op (p_move rfl) rfl) ?_
    refine ls (op (p_move rfl) rfl) ?_
    refine ls (o_call (is := [0, 0]) Tryz.call27 (c_seqApply p b [((⟨#[97]⟩ : ByteArray), l)] (l.length) (1) hinv (linesT (⟨#[97]⟩ : ByteArray) l m) A16 c16 hcap16 (by omega) hft (by omega) (by omega)) rfl rfl (by repeat' (first | constructor | apply Sub.suf)) rfl) ?_
    refine le ?_; rintro ⟨⟨T3, e3⟩, hq3⟩
    try dsimp only at hq3
    obtain ⟨rfl, rfl⟩ := Prod.mk.inj (hq3.trans (rowT_ok hrun))
    refine ls (op (p_icmp rfl rfl rfl) rfl) ?_
    refine ln ?_
    refine nthen ?_
    refine cc rfl (fun h => by cases h) (fun h => ?_)
    refine cskip ?_
    refine nthen ?_
    refine cs ?_
    refine cr ?_
    refine ls (op (p_move rfl) rfl) ?_
    refine ls (o_call (is := [0, 0]) Tryz.call28 (c_tGet p b [((⟨#[97]⟩ : ByteArray), m)] (inv_fit hin1 (by omega)) (⟨#[97]⟩ : ByteArray)) rfl rfl (by repeat' (first | constructor | apply Sub.suf)) rfl) ?_
    refine le ?_; rintro ⟨A53, c53⟩
    rw [one_getL, one_has]
    refine lmono (fun a w h => Go.Sx.freeze (i := 0) rfl h) ?_
    refine ls (op (p_move rfl) rfl) ?_
    refine ls (op (p_ext rfl (by repeat' constructor)) rfl) ?_
    refine ls (op (p_ext rfl (by repeat' constructor)) rfl) ?_
    refine ls (op (p_asg rfl) rfl) ?_
    refine ls (op (p_asg rfl) rfl) ?_
    refine ln ?_
    refine nthen ?_
    refine cs ?_
    refine cs ?_
    refine cr ?_
    refine ls (op (p_move rfl) rfl) ?_
    refine ls (op (p_move rfl) rfl) ?_
    refine ls (o_call (is := []) Tryz.call29 (c_refSame1 m m A53 B c53 c' (by omega)) rfl rfl (by repeat' (first | constructor | apply Sub.suf)) rfl) ?_
    refine le ?_; intro x58
    refine fixL (congrArg Value.bool (decide_eq_true rfl)) ?_
    refine ls (op (p_not rfl) rfl) ?_
    refine ls (op (p_move rfl) rfl) ?_
    refine lwant rfl rfl rfl rfl (op (p_move rfl) rfl) ?_
    refine lwant rfl rfl rfl rfl (op (p_move rfl) rfl) ?_
    refine lwant rfl rfl rfl rfl (o_call (is := []) Tryz.call30 (c_seqInvertC (linesT (⟨#[97]⟩ : ByteArray) l m) A16 c16 (by omega) hft) rfl rfl (by repeat' (first | constructor | apply Sub.suf)) rfl) ?_
    refine le ?_; rintro ⟨A63, c63⟩
    refine lpure (St.cap (m := (invL (linesT (⟨#[97]⟩ : ByteArray) l m)).length) (c := c63) (by repeat' constructor)) ?_
    intro hcap63
    refine lwant rfl rfl rfl rfl (o_call (is := [0, 0]) Tryz.call27 (c_seqApply p b [((⟨#[97]⟩ : ByteArray), m)] (m.length) (1) hin1 (invL (linesT (⟨#[97]⟩ : ByteArray) l m)) A63 c63 hcap63 (by omega) (invL_fit hft) (by omega) (by omega)) rfl rfl (by repeat' (first | constructor | apply Sub.suf)) rfl) ?_
    refine le ?_; rintro ⟨⟨T4, e4⟩, hq4⟩
    try dsimp only at hq4
    obtain ⟨rfl, rfl⟩ := Prod.mk.inj (hq4.trans (rowT_ok hbk))
    refine lwant rfl rfl rfl rfl (op (p_icmp rfl rfl rfl) rfl) ?_
    refine ls (op (p_pickf rfl rfl) rfl) ?_
    refine ln ?_
    refine nthen ?_
    refine cc rfl (fun h => by cases h) (fun h => ?_)
    refine cskip ?_
    refine nthen ?_
    refine cs ?_
    refine cr ?_
    refine ls (op (p_move rfl) rfl) ?_
    refine ls (o_call (is := [0, 0]) Tryz.call28 (c_tGet p b [((⟨#[97]⟩ : ByteArray), l)] (inv_fit hinv (by omega)) (⟨#[97]⟩ : ByteArray)) rfl rfl (by repeat' (first | constructor | apply Sub.suf)) rfl) ?_
    refine le ?_; rintro ⟨A69, c69⟩
    rw [one_getL, one_has]
    refine lmono (fun a w h => Go.Sx.freeze (i := 0) rfl h) ?_
    refine ls (op (p_move rfl) rfl) ?_
    refine ls (op (p_ext rfl (by repeat' constructor)) rfl) ?_
    refine ls (op (p_ext rfl (by repeat' constructor)) rfl) ?_
    refine ls (op (p_asg rfl) rfl) ?_
    refine ln ?_
    refine nthen ?_
    refine cs ?_
    refine cr ?_
    refine ls (o_call (is := []) Tryz.call18 (c_alive06) rfl rfl (by repeat' (first | constructor | apply Sub.suf)) rfl) ?_
    refine le ?_; intro x72
    refine ls (op (p_move rfl) rfl) ?_
    refine lwant rfl rfl rfl rfl (op (p_move rfl) rfl) ?_
    refine lwant rfl rfl rfl rfl (op (p_move rfl) rfl) ?_
    refine lwant rfl rfl rfl rfl (o_call (is := []) Tryz.call29 (c_refSame1 l l A69 A c69 c (by omega)) rfl rfl (by repeat' (first | constructor | apply Sub.suf)) rfl) ?_
    refine le ?_; intro x76
    refine fixL (congrArg Value.bool (decide_eq_true rfl)) ?_
    refine ls (op (p_pickt rfl rfl) rfl) ?_
    refine ls (op (p_asg rfl) rfl) ?_
    refine ln ?_
    refine nthen ?_
    refine cret ?_
    refine xret (fun _ _ h => h) ?_
    refine rret (is := []) () (Or.inl rfl) (Res.t rfl Res.d) (rfl) rfl (by repeat' (first | constructor | apply Sub.suf))

end Go.Proofs.YtdbiillompeclaaGreatDoor.X

end
