/- OWN WORK: a part of the proof of a law of the seat YtheamdahngfpdaaGreatDoor: what the functions compute. -/
import Derived.Test.YtheamdahngfpdaaGreatDoorProg
import Derived.Test.YtheamdahngfpdaaGreatDoorXT3
import Derived.Test.YtheamdahngfpdaaGreatDoorXMp
import Derived.Test.YtheamdahngfpdaaGreatDoorXSx2
section
set_option linter.unusedVariables false
set_option linter.unusedSimpArgs false
namespace Go.Proofs.YtheamdahngfpdaaGreatDoor.X
open Go Go.RowKit Go.Proofs Go.Sx
attribute [local irreducible] slA isA box row


set_option maxRecDepth 100000 in
theorem c_pHunk (p b : Nat) (T : List File) (pr : Prim) (y : Rp.Lay Prim) (hp : pr.fit) (hT : Tfit T) (hb : ∀ u, (getL T u).length + pr.new.length ≤ 2000000) : Con Tryz.prog 102 [.pointer (some ⟨p, 0, none⟩), sv pr y] [box p 118 [.map (some b)], tr b T] (Rp.asn pr y) {q : List File × Int // q = hunkT T pr} (fun q => .int .i64 q.1.2) (fun q => [box p 118 [.map (some b)], tr b q.1.1]) (fun _ => []) := by
 refine con Tryz.func102 rfl Tryz.ntmps102 rfl ?_
 intro M0 F0 w0
 refine cs ?_
 refine cr ?_
 refine ls (o_box rfl rfl rfl) ?_
 refine le ?_; intro b3
 refine ls (op (p_asg rfl) rfl) ?_
 refine ln ?_
 refine nthen ?_
 refine cs ?_
 refine cr ?_
 refine ls (op (p_move rfl) rfl) ?_
 refine ls (op (p_fa fa70_1 rfl) rfl) ?_
 refine ls (o_ld Tryz.isAgg9 rfl (by repeat' constructor) (by repeat' constructor) rfl) ?_
 refine ls (o_call (is := [1, 1]) Tryz.call74 (c_tGet p b T hT pr.name) rfl rfl (by repeat' (first | constructor | apply Sub.suf)) rfl) ?_
 refine le ?_; rintro ⟨A1, c1⟩
 refine lpure (St.rowcap (α := ByteArray) (e := 9) (by repeat' constructor)) ?_
 intro hcap
 refine lmono (fun a w h => freezeN (i := 0) rfl h) ?_
 refine ls (op (p_move rfl) rfl) ?_
 refine ls (op (p_ext rfl (by repeat' constructor)) rfl) ?_
 refine ls (op (p_ext rfl (by repeat' constructor)) rfl) ?_
 refine ls (op (p_asg rfl) rfl) ?_
 refine ls (op (p_asg rfl) rfl) ?_
 refine ln ?_
 refine nthen ?_
 refine cs ?_
 refine cr ?_
 refine ls (op (p_move rfl) rfl) ?_
 refine ls (op (p_fa fa70_3 rfl) rfl) ?_
 refine ls (o_ld Tryz.isAgg3 rfl (by repeat' constructor) (by repeat' constructor) rfl) ?_
 refine ls (op (p_fa fa70_4 rfl) rfl) ?_
 refine ls (o_ld Tryz.isAgg32 rfl (by repeat' constructor) (by repeat' constructor) rfl) ?_
 refine ls (op (p_fa fa70_5 rfl) rfl) ?_
 refine ls (o_ld Tryz.isAgg32 rfl (by repeat' constructor) (by repeat' constructor) rfl) ?_
 refine ls (o_call (is := []) Tryz.call131 (c_lineSplice (getL T pr.name) pr.old pr.new A1 y.1.1 y.2.1 c1 y.1.2 y.2.2 pr.pos (hT.get _) hp.o (hb _) hcap) rfl rfl (by repeat' (first | constructor | apply Sub.suf)) rfl) ?_
 refine le ?_; rintro ⟨A2, c2⟩
 refine lmono (fun a w h => freezeN (i := 0) rfl h) ?_
 refine ls (op (p_move rfl) rfl) ?_
 refine ls (op (p_ext rfl (by repeat' constructor)) rfl) ?_
 refine ls (op (p_ext rfl (by repeat' constructor)) rfl) ?_
 refine ls (op (p_asg rfl) rfl) ?_
 refine ls (op (p_asg rfl) rfl) ?_
 refine ln ?_
 refine nthen ?_
 refine cs ?_
 refine cs ?_
 refine cr ?_
 refine ls (op (p_move rfl) rfl) ?_
 refine ls (op (p_not rfl) rfl) ?_
 refine ls (op (p_move rfl) rfl) ?_
 refine splitL 29 rfl ?_ ?_
 ·
  intro h29
  have hno : hasT T pr.name = false := by simpa using h29
  refine lskip rfl rfl rfl rfl rfl ?_
  refine lskip rfl rfl rfl rfl rfl ?_
  refine ls (op (p_pickt rfl rfl) rfl) ?_
  refine ln ?_
  refine nthen ?_
  refine cc rfl (fun h => ?_) (fun h => by cases h)
  refine cs ?_
  refine cr ?_
  refine ls (op (p_asg rfl) rfl) ?_
  refine ln ?_
  refine nthen ?_
  refine cret ?_
  refine xret (fun _ _ h => h) ?_
  refine rret (is := [0, 0]) ⟨(T, 31), by simp [hunkT, hno]⟩ (Or.inl rfl) (Res.t rfl Res.d) (rfl) rfl (by repeat' (first | constructor | apply Sub.suf))
 ·
  intro h29
  have hyes : hasT T pr.name = true := by simpa using h29
  refine lwant rfl rfl rfl rfl (op (p_move rfl) rfl) ?_
  refine lwant rfl rfl rfl rfl (op (p_not rfl) rfl) ?_
  refine ls (op (p_pickf rfl rfl) rfl) ?_
  refine ln ?_
  refine nthen ?_
  refine cc rfl ?_ ?_
  ·
   intro h32
   have hst : standsB (getL T pr.name) pr.pos pr.old = false := by simpa using h32
   refine cs ?_
   refine cr ?_
   refine ls (op (p_asg rfl) rfl) ?_
   refine ln ?_
   refine nthen ?_
   refine cret ?_
   refine xret (fun _ _ h => h) ?_
   refine rret (is := [0, 0]) ⟨(T, 31), by simp [hunkT, hst]⟩ (Or.inl rfl) (Res.t rfl Res.d) (rfl) rfl (by repeat' (first | constructor | apply Sub.suf))
  ·
   intro h32
   have hst : standsB (getL T pr.name) pr.pos pr.old = true := by simpa using h32
   refine cskip ?_
   refine nthen ?_
   refine cs ?_
   refine cr ?_
   refine ls (op (p_move rfl) rfl) ?_
   refine ls (op (p_fa fa70_1 rfl) rfl) ?_
   refine ls (o_ld Tryz.isAgg9 rfl (by repeat' constructor) (by repeat' constructor) rfl) ?_
   refine ls (op (p_move rfl) rfl) ?_
   refine ls (o_call (is := [0, 0]) Tryz.call100 (c_tPut p b T pr.name (splT (getL T pr.name) pr.pos pr.old pr.new) A2 c2 (Nat.le_trans splT_len (hb _))) rfl rfl (by repeat' (first | constructor | apply Sub.suf)) rfl) ?_
   refine le ?_; rintro ⟨⟨T1, e1⟩, hq⟩
   refine ls (o_call (is := []) Tryz.call103 (c_pFits e1) rfl rfl (by repeat' (first | constructor | apply Sub.suf)) rfl) ?_
   refine le ?_; intro x38
   refine ls (op (p_asg rfl) rfl) ?_
   refine ln ?_
   refine nthen ?_
   refine cret ?_
   refine xret (fun _ _ h => h) ?_
   refine rret (is := [0, 0]) ⟨(T1, if e1 = 0 then 0 else 31), by unfold hunkT; rw [if_neg (show ¬ (hasT T pr.name = false ∨ standsB (getL T pr.name) pr.pos pr.old = false) by simp [hyes, hst]), ← hq]; rfl⟩ (Or.inl rfl) (Res.t rfl Res.d) (rfl) rfl (by repeat' (first | constructor | apply Sub.suf))

set_option maxRecDepth 100000 in
theorem c_pApply (p b : Nat) (T : List File) (pr : Prim) (y : Rp.Lay Prim) (hp : pr.fit) (hT : Tfit T) (hb : ∀ u, (getL T u).length + pr.new.length ≤ 2000000) : Con Tryz.prog 71 [.pointer (some ⟨p, 0, none⟩), sv pr y] [box p 118 [.map (some b)], tr b T] (Rp.asn pr y) {q : List File × Int // q = applyT T pr} (fun q => .int .i64 q.1.2) (fun q => [box p 118 [.map (some b)], tr b q.1.1]) (fun _ => []) := by
 refine con Tryz.func71 rfl Tryz.ntmps71 rfl ?_
 intro M0 F0 w0
 refine cs ?_
 refine cr ?_
 refine ls (o_box rfl rfl rfl) ?_
 refine le ?_; intro b3
 refine ls (op (p_asg rfl) rfl) ?_
 refine ln ?_
 refine nthen ?_
 refine cs ?_
 refine cb ?_
 refine cs ?_
 refine cr ?_
 refine ls (o_ldw Tryz.isAgg70 Tryz.sizeOf70 rfl (by repeat' constructor) (by rfl) rfl) ?_
 refine ls (o_call (is := []) Tryz.call50 (c_primRight pr y hp) rfl rfl (by repeat' (first | constructor | apply Sub.suf)) rfl) ?_
 refine le ?_; intro x7
 refine ls (op (p_not rfl) rfl) ?_
 refine ls (op (p_asg rfl) rfl) ?_
 refine ln ?_
 refine nthen ?_
 refine cc rfl ?_ ?_
 ·
  intro h5
  have hr : pr.right = false := by simpa using h5
  refine cs ?_
  refine cr ?_
  refine ls (op (p_asg rfl) rfl) ?_
  refine ln ?_
  refine nthen ?_
  refine cret ?_
  refine xret (fun _ _ h => h) ?_
  refine rret (is := [1, 1]) ⟨(T, 30), by simp [applyT, hr]⟩ (Or.inl rfl) (Res.t rfl Res.d) (rfl) rfl (by repeat' (first | constructor | apply Sub.suf))
 ·
  intro h5
  have hr : pr.right = true := by simpa using h5
  have hr0 : ¬ pr.right = false := by rw [hr]; decide
  refine cs ?_
  refine cr ?_
  refine ls (op (p_fa fa70_0 rfl) rfl) ?_
  refine ls (o_ld Tryz.isAgg3 rfl (by repeat' constructor) (by repeat' constructor) rfl) ?_
  refine ls (op (p_icmp rfl rfl rfl) rfl) ?_
  refine ls (op (p_asg rfl) rfl) ?_
  refine ln ?_
  refine nthen ?_
  refine cc rfl ?_ ?_
  ·
   intro h9
   have k0 : pr.kind = 0 := by simpa using h9
   refine cs ?_
   refine cr ?_
   refine ls (op (p_move rfl) rfl) ?_
   refine ls (o_ldw Tryz.isAgg70 Tryz.sizeOf70 rfl (by repeat' constructor) (by rfl) rfl) ?_
   refine ls (o_call (is := [1, 1]) Tryz.call102 (c_pHunk p b T pr y hp hT hb) rfl rfl (by repeat' (first | constructor | apply Sub.suf)) rfl) ?_
   refine le ?_; rintro ⟨⟨T1, e1⟩, hq⟩
   refine ls (op (p_asg rfl) rfl) ?_
   refine ln ?_
   refine nthen ?_
   refine cret ?_
   refine xret (fun _ _ h => h) ?_
   refine rret (is := [0, 0]) ⟨(T1, e1), by unfold applyT; rw [if_neg hr0, if_pos k0]; exact hq⟩ (Or.inl rfl) (Res.t rfl Res.d) (rfl) rfl (by repeat' (first | constructor | apply Sub.suf))
  ·
   intro h9
   have k0 : ¬ pr.kind = 0 := by simpa using h9
   refine cs ?_
   refine cr ?_
   refine ls (op (p_fa fa70_0 rfl) rfl) ?_
   refine ls (o_ld Tryz.isAgg3 rfl (by repeat' constructor) (by repeat' constructor) rfl) ?_
   refine ls (op (p_icmp rfl rfl rfl) rfl) ?_
   refine ls (op (p_asg rfl) rfl) ?_
   refine ln ?_
   refine nthen ?_
   refine cc rfl ?_ ?_
   ·
    intro h16
    have k3 : pr.kind = 3 := by simpa using h16
    refine cs ?_
    refine cr ?_
    refine ls (op (p_move rfl) rfl) ?_
    refine ls (op (p_fa fa70_1 rfl) rfl) ?_
    refine ls (o_ld Tryz.isAgg9 rfl (by repeat' constructor) (by repeat' constructor) rfl) ?_
    refine ls (op (p_fa fa70_2 rfl) rfl) ?_
    refine ls (o_ld Tryz.isAgg9 rfl (by repeat' constructor) (by repeat' constructor) rfl) ?_
    refine ls (o_call (is := [1, 1]) Tryz.call99 (c_tMove p b T pr.name pr.to) rfl rfl (by repeat' (first | constructor | apply Sub.suf)) rfl) ?_
    refine le ?_; rintro ⟨⟨T1, e1⟩, hq⟩
    refine ls (o_call (is := []) Tryz.call103 (c_pFits e1) rfl rfl (by repeat' (first | constructor | apply Sub.suf)) rfl) ?_
    refine le ?_; intro x26
    refine ls (op (p_asg rfl) rfl) ?_
    refine ln ?_
    refine nthen ?_
    refine cret ?_
    refine xret (fun _ _ h => h) ?_
    refine rret (is := [0, 0]) ⟨(T1, if e1 = 0 then 0 else 31), by unfold applyT; rw [if_neg hr0, if_neg k0, if_pos k3, ← hq]; rfl⟩ (Or.inl rfl) (Res.t rfl Res.d) (rfl) rfl (by repeat' (first | constructor | apply Sub.suf))
   ·
    intro h16
    have k3 : ¬ pr.kind = 3 := by simpa using h16
    refine cskip ?_
    refine nblock ?_
    refine nthen ?_
    refine cs ?_
    have h12 : pr.kind = 1 ∨ pr.kind = 2 := by rcases right_kind hr with h | h | h | h; exact absurd h k0; exact .inl h; exact .inr h; exact absurd h k3
    rcases h12 with k1 | k1
    ·
     refine cd [0, 3, 7, 8] [(2, b3, 0, _), (6, b3, 1, _)] TryzX.mixed (TOk.t (isBoxS (by repeat' constructor) (k := 1) (by repeat (first | exact Cut.d | apply Cut.t | apply Cut.s))) (TOk.t (isBoxS (by repeat' constructor) (k := 1) (by repeat (first | exact Cut.d | apply Cut.t | apply Cut.s))) TOk.d)) ?_
     refine tk 1 rfl (by kernel_rfl) (fun _ _ _ h => h) gnone (TTany _) (p_fa fa70_0 rfl) rfl ?_
     refine tk 2 rfl (by kernel_rfl) (fun _ _ _ h => h) gnone (TTat (List.Mem.head _)) (p_ld Tryz.isAgg3 rfl) rfl ?_
     refine fixA (congrArg (Value.int .i64) k1) ?_
     refine tk 4 rfl (by kernel_rfl) (fun _ _ _ h => h) gnone (TTany _) (p_move rfl) rfl ?_
     refine tk 5 rfl (by kernel_rfl) (fun _ _ _ h => h) gnone (TTany _) (p_fa fa70_1 rfl) rfl ?_
     refine tk 6 rfl (by kernel_rfl) (fun _ _ _ h => h) gnone (TTat (List.Mem.tail _ (List.Mem.head _))) (p_ld Tryz.isAgg9 rfl) rfl ?_
     refine df 0 (by kernel_rfl) ?_
     refine doR rfl (o_call (is := []) Tryz.call104 (c_pCalls) rfl rfl (by repeat' (first | constructor | apply Sub.suf)) rfl) (TOk.t (isBoxE fun _ => isBoxS (by repeat' constructor) (k := 1) (by repeat (first | exact Cut.d | apply Cut.t | apply Cut.s))) (TOk.t (isBoxE fun _ => isBoxS (by repeat' constructor) (k := 1) (by repeat (first | exact Cut.d | apply Cut.t | apply Cut.s))) TOk.d)) ?_
     refine ea ?_; intro bm
     refine df 3 (by kernel_rfl) ?_
     refine doR rfl (o_lookx Tryz.underlying145 Tryz.underlying3 rfl rfl (by repeat' constructor) (rfl) rfl) (TOk.x (by kernel_rfl) (TOk.t (isBoxS (by repeat' constructor) (k := 1) (by repeat (first | exact Cut.d | apply Cut.t | apply Cut.s))) TOk.d)) ?_
     refine df 7 (by kernel_rfl) ?_
     refine doR rfl (o_callv (is := [2, 2]) rfl Tryz.call97 (c_tAdd p b T pr.name) rfl rfl rfl (by repeat' (first | constructor | apply Sub.suf)) rfl) (TOk.x (by kernel_rfl) (TOk.x (by kernel_rfl) TOk.d)) ?_
     refine ea ?_; rintro ⟨⟨T1, e1⟩, hq⟩
     refine df 8 (by kernel_rfl) ?_
     refine doR rfl (o_call (is := []) Tryz.call103 (c_pFits e1) rfl rfl (by repeat' (first | constructor | apply Sub.suf)) rfl) (TOk.x (by kernel_rfl) (TOk.x (by kernel_rfl) TOk.d)) ?_
     refine ea ?_; intro x35
     refine tk 9 rfl (by kernel_rfl) (fun _ _ _ h => h) gnone (TTany _) (p_asg rfl) rfl ?_
     refine dn (by kernel_rfl) ?_
     refine nthen ?_
     refine cret ?_
     refine xret (fun _ _ h => h) ?_
     refine rret (is := [0, 0]) ⟨(T1, if e1 = 0 then 0 else 31), by unfold applyT; rw [if_neg hr0, if_neg k0, if_neg k3, if_pos k1, ← hq]; rfl⟩ (Or.inl rfl) (Res.t rfl Res.d) (rfl) rfl (by repeat' (first | constructor | apply Sub.suf))
    ·
     refine cd [0, 3, 7, 8] [(2, b3, 0, _), (6, b3, 1, _)] TryzX.mixed (TOk.t (isBoxS (by repeat' constructor) (k := 1) (by repeat (first | exact Cut.d | apply Cut.t | apply Cut.s))) (TOk.t (isBoxS (by repeat' constructor) (k := 1) (by repeat (first | exact Cut.d | apply Cut.t | apply Cut.s))) TOk.d)) ?_
     refine tk 1 rfl (by kernel_rfl) (fun _ _ _ h => h) gnone (TTany _) (p_fa fa70_0 rfl) rfl ?_
     refine tk 2 rfl (by kernel_rfl) (fun _ _ _ h => h) gnone (TTat (List.Mem.head _)) (p_ld Tryz.isAgg3 rfl) rfl ?_
     refine fixA (congrArg (Value.int .i64) k1) ?_
     refine tk 4 rfl (by kernel_rfl) (fun _ _ _ h => h) gnone (TTany _) (p_move rfl) rfl ?_
     refine tk 5 rfl (by kernel_rfl) (fun _ _ _ h => h) gnone (TTany _) (p_fa fa70_1 rfl) rfl ?_
     refine tk 6 rfl (by kernel_rfl) (fun _ _ _ h => h) gnone (TTat (List.Mem.tail _ (List.Mem.head _))) (p_ld Tryz.isAgg9 rfl) rfl ?_
     refine df 0 (by kernel_rfl) ?_
     refine doR rfl (o_call (is := []) Tryz.call104 (c_pCalls) rfl rfl (by repeat' (first | constructor | apply Sub.suf)) rfl) (TOk.t (isBoxE fun _ => isBoxS (by repeat' constructor) (k := 1) (by repeat (first | exact Cut.d | apply Cut.t | apply Cut.s))) (TOk.t (isBoxE fun _ => isBoxS (by repeat' constructor) (k := 1) (by repeat (first | exact Cut.d | apply Cut.t | apply Cut.s))) TOk.d)) ?_
     refine ea ?_; intro bm
     refine df 3 (by kernel_rfl) ?_
     refine doR rfl (o_lookx Tryz.underlying145 Tryz.underlying3 rfl rfl (by repeat' constructor) (rfl) rfl) (TOk.x (by kernel_rfl) (TOk.t (isBoxS (by repeat' constructor) (k := 1) (by repeat (first | exact Cut.d | apply Cut.t | apply Cut.s))) TOk.d)) ?_
     refine df 7 (by kernel_rfl) ?_
     refine doR rfl (o_callv (is := [2, 2]) rfl Tryz.call98 (c_tRem p b T pr.name) rfl rfl rfl (by repeat' (first | constructor | apply Sub.suf)) rfl) (TOk.x (by kernel_rfl) (TOk.x (by kernel_rfl) TOk.d)) ?_
     refine ea ?_; rintro ⟨⟨T1, e1⟩, hq⟩
     refine df 8 (by kernel_rfl) ?_
     refine doR rfl (o_call (is := []) Tryz.call103 (c_pFits e1) rfl rfl (by repeat' (first | constructor | apply Sub.suf)) rfl) (TOk.x (by kernel_rfl) (TOk.x (by kernel_rfl) TOk.d)) ?_
     refine ea ?_; intro x35
     refine tk 9 rfl (by kernel_rfl) (fun _ _ _ h => h) gnone (TTany _) (p_asg rfl) rfl ?_
     refine dn (by kernel_rfl) ?_
     refine nthen ?_
     refine cret ?_
     refine xret (fun _ _ h => h) ?_
     refine rret (is := [0, 0]) ⟨(T1, if e1 = 0 then 0 else 31), by unfold applyT; rw [if_neg hr0, if_neg k0, if_neg k3, if_neg (show ¬ pr.kind = 1 by omega), ← hq]; rfl⟩ (Or.inl rfl) (Res.t rfl Res.d) (rfl) rfl (by repeat' (first | constructor | apply Sub.suf))

set_option maxRecDepth 100000 in
theorem c_rSplice (l old wi : List ByteArray) (A B C : Option Addr) (c c' c2 : Nat) (z : Int) (hl : l.length ≤ 2000000) (ho : old.length ≤ 2000000) (hw : l.length + wi.length ≤ 2000000) (hc : l.length ≤ c) : Con Tryz.prog 101 [.slice A l.length c, .int .i64 z, .slice B old.length c', .slice C wi.length c2] [] [slA A l, slA B old, slA C wi] (Option Addr × Nat) (fun y => .tuple #[.slice y.1 (splT l z old wi).length y.2, .bool (standsB l z old)]) (fun y => [row 9 y.1 y.2 (splT l z old wi)]) (fun _ => []) := by
 refine con Tryz.func101 rfl Tryz.ntmps101 rfl ?_
 intro M0 F0 w0
 refine cs ?_
 refine cr ?_
 refine ls (op (p_asg rfl) rfl) ?_
 refine ls (op (p_asg rfl) rfl) ?_
 refine ln ?_
 refine nthen ?_
 refine cs ?_
 refine cs ?_
 rcases stands_cases l z old with h1 | ⟨h1, h2⟩ | ⟨h1, h2, h3⟩ | ⟨k, rfl, h4⟩
 ·
  have hst : standsB l z old = false := by simp [standsB, h1]
  refine cr ?_
  refine ls (op (p_move rfl) rfl) ?_
  refine ls (op (p_icmp rfl rfl rfl) rfl) ?_
  refine fixL (congrArg Value.bool (decide_eq_true (by omega))) ?_
  refine ls (op (p_move rfl) rfl) ?_
  refine lskip rfl rfl rfl rfl rfl ?_
  refine lskip rfl rfl rfl rfl rfl ?_
  refine lskip rfl rfl rfl rfl rfl ?_
  refine lskip rfl rfl rfl rfl rfl ?_
  refine ls (op (p_pickt rfl rfl) rfl) ?_
  refine ls (op (p_move rfl) rfl) ?_
  refine lskip rfl rfl rfl rfl rfl ?_
  refine lskip rfl rfl rfl rfl rfl ?_
  refine lskip rfl rfl rfl rfl rfl ?_
  refine lskip rfl rfl rfl rfl rfl ?_
  refine lskip rfl rfl rfl rfl rfl ?_
  refine lskip rfl rfl rfl rfl rfl ?_
  refine lskip rfl rfl rfl rfl rfl ?_
  refine ls (op (p_pickt rfl rfl) rfl) ?_
  refine ln ?_
  refine nthen ?_
  refine cc rfl (fun h => ?_) (fun h => by cases h)
  refine cs ?_
  have hsp : splT l z old wi = [] := by simp [splT, hst]
  rw [hsp, hst]
  refine cmono (fun a w h => nilRow (α := ByteArray) 9 h) ?_
  refine cr ?_
  refine ls (op (p_asg rfl) rfl) ?_
  refine ls (op (p_asg rfl) rfl) ?_
  refine ln ?_
  refine nthen ?_
  refine cret ?_
  refine xret (fun _ _ h => h) ?_
  refine rret (is := [0]) (none, 0) (Or.inl rfl) (Res.t rfl (Res.t rfl Res.d)) (rfl) rfl (by repeat' (first | constructor | apply Sub.suf))
 ·
  have hst : standsB l z old = false := by simp [standsB, h2]
  refine cr ?_
  refine ls (op (p_move rfl) rfl) ?_
  refine ls (op (p_icmp rfl rfl rfl) rfl) ?_
  refine fixL (congrArg Value.bool (decide_eq_false (by omega))) ?_
  refine ls (op (p_move rfl) rfl) ?_
  refine lwant rfl rfl rfl rfl (op (p_move rfl) rfl) ?_
  refine lwant rfl rfl rfl rfl (op (p_move rfl) rfl) ?_
  refine lwant rfl rfl rfl rfl (op (p_lenl rfl Tryz.underlying32) rfl) ?_
  refine lwant rfl rfl rfl rfl (op (p_icmp rfl rfl rfl) rfl) ?_
  refine fixL (congrArg Value.bool (decide_eq_true (by omega))) ?_
  refine ls (op (p_pickf rfl rfl) rfl) ?_
  refine ls (op (p_move rfl) rfl) ?_
  refine lskip rfl rfl rfl rfl rfl ?_
  refine lskip rfl rfl rfl rfl rfl ?_
  refine lskip rfl rfl rfl rfl rfl ?_
  refine lskip rfl rfl rfl rfl rfl ?_
  refine lskip rfl rfl rfl rfl rfl ?_
  refine lskip rfl rfl rfl rfl rfl ?_
  refine lskip rfl rfl rfl rfl rfl ?_
  refine ls (op (p_pickt rfl rfl) rfl) ?_
  refine ln ?_
  refine nthen ?_
  refine cc rfl (fun h => ?_) (fun h => by cases h)
  refine cs ?_
  have hsp : splT l z old wi = [] := by simp [splT, hst]
  rw [hsp, hst]
  refine cmono (fun a w h => nilRow (α := ByteArray) 9 h) ?_
  refine cr ?_
  refine ls (op (p_asg rfl) rfl) ?_
  refine ls (op (p_asg rfl) rfl) ?_
  refine ln ?_
  refine nthen ?_
  refine cret ?_
  refine xret (fun _ _ h => h) ?_
  refine rret (is := [0]) (none, 0) (Or.inl rfl) (Res.t rfl (Res.t rfl Res.d)) (rfl) rfl (by repeat' (first | constructor | apply Sub.suf))
 ·
  have hst : standsB l z old = false := by simp only [standsB]; rw [decide_eq_false h3]; simp
  refine cr ?_
  refine ls (op (p_move rfl) rfl) ?_
  refine ls (op (p_icmp rfl rfl rfl) rfl) ?_
  refine fixL (congrArg Value.bool (decide_eq_false (by omega))) ?_
  refine ls (op (p_move rfl) rfl) ?_
  refine lwant rfl rfl rfl rfl (op (p_move rfl) rfl) ?_
  refine lwant rfl rfl rfl rfl (op (p_move rfl) rfl) ?_
  refine lwant rfl rfl rfl rfl (op (p_lenl rfl Tryz.underlying32) rfl) ?_
  refine lwant rfl rfl rfl rfl (op (p_icmp rfl rfl rfl) rfl) ?_
  refine fixL (congrArg Value.bool (decide_eq_false (by omega))) ?_
  refine ls (op (p_pickf rfl rfl) rfl) ?_
  refine ls (op (p_move rfl) rfl) ?_
  refine lwant rfl rfl rfl rfl (op (p_move rfl) rfl) ?_
  refine lwant rfl rfl rfl rfl (op (p_lenl rfl Tryz.underlying32) rfl) ?_
  refine lwant rfl rfl rfl rfl (op (p_move rfl) rfl) ?_
  refine lwant rfl rfl rfl rfl (op (p_lenl rfl Tryz.underlying32) rfl) ?_
  refine lwant rfl rfl rfl rfl (op (p_move rfl) rfl) ?_
  refine lwant rfl rfl rfl rfl (op (p_sub rfl rfl (by omega)) rfl) ?_
  refine lwant rfl rfl rfl rfl (op (p_icmp rfl rfl rfl) rfl) ?_
  refine fixL (congrArg Value.bool (decide_eq_true (by omega))) ?_
  refine ls (op (p_pickf rfl rfl) rfl) ?_
  refine ln ?_
  refine nthen ?_
  refine cc rfl (fun h => ?_) (fun h => by cases h)
  refine cs ?_
  have hsp : splT l z old wi = [] := by simp [splT, hst]
  rw [hsp, hst]
  refine cmono (fun a w h => nilRow (α := ByteArray) 9 h) ?_
  refine cr ?_
  refine ls (op (p_asg rfl) rfl) ?_
  refine ls (op (p_asg rfl) rfl) ?_
  refine ln ?_
  refine nthen ?_
  refine cret ?_
  refine xret (fun _ _ h => h) ?_
  refine rret (is := [0]) (none, 0) (Or.inl rfl) (Res.t rfl (Res.t rfl Res.d)) (rfl) rfl (by repeat' (first | constructor | apply Sub.suf))
 ·
  have hlk : (l.take k).length = k := by rw [List.length_take]; omega
  have hld : (l.drop (k + old.length)).length = l.length - (k + old.length) := List.length_drop
  refine cr ?_
  refine ls (op (p_move rfl) rfl) ?_
  refine ls (op (p_icmp rfl rfl rfl) rfl) ?_
  refine fixL (congrArg Value.bool (decide_eq_false (by omega))) ?_
  refine ls (op (p_move rfl) rfl) ?_
  refine lwant rfl rfl rfl rfl (op (p_move rfl) rfl) ?_
  refine lwant rfl rfl rfl rfl (op (p_move rfl) rfl) ?_
  refine lwant rfl rfl rfl rfl (op (p_lenl rfl Tryz.underlying32) rfl) ?_
  refine lwant rfl rfl rfl rfl (op (p_icmp rfl rfl rfl) rfl) ?_
  refine fixL (congrArg Value.bool (decide_eq_false (by omega))) ?_
  refine ls (op (p_pickf rfl rfl) rfl) ?_
  refine ls (op (p_move rfl) rfl) ?_
  refine lwant rfl rfl rfl rfl (op (p_move rfl) rfl) ?_
  refine lwant rfl rfl rfl rfl (op (p_lenl rfl Tryz.underlying32) rfl) ?_
  refine lwant rfl rfl rfl rfl (op (p_move rfl) rfl) ?_
  refine lwant rfl rfl rfl rfl (op (p_lenl rfl Tryz.underlying32) rfl) ?_
  refine lwant rfl rfl rfl rfl (op (p_move rfl) rfl) ?_
  refine lwant rfl rfl rfl rfl (op (p_sub rfl rfl (by omega)) rfl) ?_
  refine lwant rfl rfl rfl rfl (op (p_icmp rfl rfl rfl) rfl) ?_
  refine fixL (congrArg Value.bool (decide_eq_false (by omega))) ?_
  refine ls (op (p_pickf rfl rfl) rfl) ?_
  refine ln ?_
  refine nthen ?_
  refine cc rfl (fun h => by cases h) (fun h => ?_)
  refine cskip ?_
  refine nthen ?_
  refine cs ?_
  refine cs ?_
  refine cr ?_
  refine ls (op (p_asg rfl) rfl) ?_
  refine ln ?_
  refine nthen ?_
  refine cb ?_
  refine cl (ι := {q : Nat // q ≤ old.length ∧ (l.drop k).take q = old.take q}) (fun i => St M0 F0 w0 62 [(0, .slice A l.length c), (1, .int .i64 (k : Int)), (2, .slice B old.length c'), (3, .slice C wi.length c2), (10, .int .i64 (i.1 : Int))] [] [slA A l, slA B old, slA C wi]) (fun i => old.length - i.1) ⟨0, Nat.zero_le _, rfl⟩ (wk0 (by repeat (first | exact subσ.nil _ | refine subσ.cons rfl ?_)) (by repeat' (first | constructor | apply Sub.suf))) ?_
  rintro ⟨j, hj, he⟩
  refine cmono (S' := St M0 F0 w0 62 [(0, .slice A l.length c), (1, .int .i64 (k : Int)), (2, .slice B old.length c'), (3, .slice C wi.length c2), (10, .int .i64 (j : Int))] [] [slA A l, slA B old, slA C wi]) (fun _ _ h => h) ?_
  refine cs ?_
  refine cs ?_
  refine cr ?_
  refine ls (op (p_move rfl) rfl) ?_
  refine ls (op (p_move rfl) rfl) ?_
  refine ls (op (p_lenl rfl Tryz.underlying32) rfl) ?_
  refine ls (op (p_icmp rfl rfl rfl) rfl) ?_
  refine ln ?_
  refine nthen ?_
  refine cc rfl ?_ ?_
  ·
   intro h32
   try dsimp only at hj he
   try simp only [decide_eq_true_eq, decide_eq_false_iff_not, Bool.not_eq_true', Bool.not_eq_false', Int.not_lt, Int.not_le, ge_iff_le, Bool.not_true, Bool.not_false] at h32
   have hj1 : j < old.length := by omega
   have hj2 : k + j < l.length := by omega
   refine cskip ?_
   refine nthen ?_
   refine cs ?_
   refine cb ?_
   refine cs ?_
   refine elC (by repeat' constructor) (k + j) (List.getElem?_eq_getElem (l := l) hj2) ?_; rintro zbp zop zyp hAp
   refine elC (by repeat' constructor) j (List.getElem?_eq_getElem (l := old) hj1) ?_; rintro zbq zoq zyq hAq
   refine cd [] [(5, zbp, zop + (k + j) * Rp.size ByteArray, _), (9, zbq, zoq + j * Rp.size ByteArray, _)] TryzX.mixed (TOk.t (isInS (by repeat' constructor) (k := 0) rfl (z := 1) (by repeat (first | exact Cut.d | apply Cut.t | apply Cut.s))) (TOk.t (isInS (by repeat' constructor) (k := 0) rfl (z := 1) (by repeat (first | exact Cut.d | apply Cut.t | apply Cut.s))) TOk.d)) ?_
   refine tk 0 rfl (by kernel_rfl) (fun _ _ _ h => h) gnone (TTany _) (p_move rfl) rfl ?_
   refine tk 1 rfl (by kernel_rfl) (fun _ _ _ h => h) gnone (TTany _) (p_move rfl) rfl ?_
   refine tk 2 rfl (by kernel_rfl) (fun _ _ _ h => h) gnone (TTany _) (p_move rfl) rfl ?_
   refine tk 3 rfl (by kernel_rfl) (fun _ _ _ h => h) gnone (TTany _) (p_add rfl rfl (by omega)) rfl ?_
   refine tk 4 rfl (by kernel_rfl) (fun _ _ _ h => h) gnone (TTany _) (p_ia (k + j) hAp hj2 (by omega) Tryz.underlying32 Tryz.sizeOf9 rfl rfl) rfl ?_
   refine tk 5 rfl (by kernel_rfl) (fun _ _ _ h => h) gnone (TTat (List.Mem.head _)) (p_ld Tryz.isAgg9 rfl) rfl ?_
   refine tk 6 rfl (by kernel_rfl) (fun _ _ _ h => h) gnone (TTany _) (p_move rfl) rfl ?_
   refine tk 7 rfl (by kernel_rfl) (fun _ _ _ h => h) gnone (TTany _) (p_move rfl) rfl ?_
   refine tk 8 rfl (by kernel_rfl) (fun _ _ _ h => h) gnone (TTany _) (p_ia j hAq hj1 rfl Tryz.underlying32 Tryz.sizeOf9 rfl rfl) rfl ?_
   refine tk 9 rfl (by kernel_rfl) (fun _ _ _ h => h) gnone (TTat (List.Mem.tail _ (List.Mem.head _))) (p_ld Tryz.isAgg9 rfl) rfl ?_
   refine tk 10 rfl (by kernel_rfl) (fun _ _ _ h => h) gnone (TTany _) (p_sne rfl rfl) rfl ?_
   refine dn (by kernel_rfl) ?_
   refine nthen ?_
   refine cc rfl ?_ ?_
   ·
    intro h45
    have hne : ¬ l[k + j] = old[j] := by simpa using h45
    have hst : standsB l (k : Int) old = false := by rw [standsB_nat h4]; exact decide_eq_false fun e => hne (take_eq_at hj2 hj1 e)
    have hsp : splT l (k : Int) old wi = [] := by simp [splT, hst]
    rw [hsp, hst]
    refine cmono (fun a w h => nilRow (α := ByteArray) 9 h) ?_
    refine cs ?_
    refine cr ?_
    refine ls (op (p_asg rfl) rfl) ?_
    refine ls (op (p_asg rfl) rfl) ?_
    refine ln ?_
    refine nthen ?_
    refine cret ?_
    refine xret (fun _ _ h => h) ?_
    refine rret (is := [0]) (none, 0) (Or.inl rfl) (Res.t rfl (Res.t rfl Res.d)) (rfl) rfl (by repeat' (first | constructor | apply Sub.suf))
   ·
    intro h45
    have heq : l[k + j] = old[j] := by simpa using h45
    refine cskip ?_
    refine nblock ?_
    refine nthen ?_
    refine cr ?_
    refine ls (op (p_move rfl) rfl) ?_
    refine ls (op (p_add rfl rfl (by omega)) rfl) ?_
    refine ls (op (p_asg rfl) rfl) ?_
    refine ln ?_
    refine nnext ⟨j + 1, hj1, take_step hj2 hj1 he heq⟩ (by dsimp only; omega) (wk0 (by repeat (first | exact subσ.nil _ | refine subσ.cons rfl ?_)) (by repeat' (first | constructor | apply Sub.suf)))
  ·
   intro h32
   try dsimp only at hj he
   try simp only [decide_eq_true_eq, decide_eq_false_iff_not, Bool.not_eq_true', Bool.not_eq_false', Int.not_lt, Int.not_le, ge_iff_le, Bool.not_true, Bool.not_false] at h32
   obtain rfl : j = old.length := by omega
   rw [List.take_length] at he
   have hst : standsB l (k : Int) old = true := by rw [standsB_nat h4, decide_eq_true he]
   have hsp : splT l (k : Int) old wi = l.take k ++ wi ++ l.drop (k + old.length) := by unfold splT; rw [if_pos hst]; rfl
   rw [hsp, hst]
   refine cexit ?_
   refine xthen ?_
   refine xthen ?_
   refine xblock ?_
   refine nthen ?_
   refine cs ?_
   refine cmono (fun a w h => subS (l' := l.take k) (c := c) 0 k (by repeat (first | exact In.z | apply In.s)) (by omega) (by omega) hc (by simp) h) ?_
   refine cmono (fun a w h => subS (l' := l.drop (k + old.length)) (c := c) (k + old.length) l.length (by repeat (first | exact In.z | apply In.s)) (by omega) (Nat.le_refl _) hc (by rw [List.take_of_length_le (by simp)]) h) ?_
   refine cr ?_
   refine ls (o_bsl ([] : List ByteArray) Tryz.underlying32 Tryz.sizeOf9 Tryz.zeroValue9 rfl Enum.d RV.d rfl (by decide) (by decide) rfl) ?_
   refine le ?_; intro b46
   refine ls (op (p_move rfl) rfl) ?_
   refine ls (op (p_move rfl) rfl) ?_
   refine ls (op (p_slh k (by omega) rfl Tryz.underlying32 Tryz.sizeOf9 rfl rfl) rfl) ?_
   refine fixL (slen (m' := (l.take k).length) (by omega)) ?_
   refine ls (o_appX (i := 0) Tryz.underlying32 inf9 rfl (by decide) (by decide) rfl rfl (by rw [hlk]; simp only [List.length_nil]; omega) rfl (by repeat' (first | constructor | apply Sub.suf)) rfl) ?_
   refine le ?_; rintro ⟨A5, c5⟩
   rw [List.nil_append]
   refine ls (op (p_asg rfl) rfl) ?_
   refine ln ?_
   refine nthen ?_
   refine cs ?_
   refine cr ?_
   refine ls (op (p_move rfl) rfl) ?_
   refine ls (op (p_move rfl) rfl) ?_
   refine ls (o_appX (i := 0) Tryz.underlying32 inf9 rfl (by decide) (by decide) rfl rfl (by rw [hlk]; omega) rfl (by repeat' (first | constructor | apply Sub.suf)) rfl) ?_
   refine le ?_; rintro ⟨A6, c6⟩
   refine ls (op (p_asg rfl) rfl) ?_
   refine ln ?_
   refine nthen ?_
   refine cs ?_
   refine cr ?_
   refine ls (op (p_move rfl) rfl) ?_
   refine ls (op (p_move rfl) rfl) ?_
   refine ls (op (p_move rfl) rfl) ?_
   refine ls (op (p_move rfl) rfl) ?_
   refine ls (op (p_lenl rfl Tryz.underlying32) rfl) ?_
   refine ls (op (p_add rfl rfl (by omega)) rfl) ?_
   refine ls (op (p_sll (k + old.length) (by omega) (by omega) (by omega) Tryz.underlying32 Tryz.sizeOf9 rfl rfl) rfl) ?_
   refine fixL (slen (m' := (l.drop (k + old.length)).length) (by omega)) ?_
   refine ls (o_appX (i := 0) Tryz.underlying32 inf9 rfl (by decide) (by decide) rfl rfl (by rw [List.length_append, hlk, hld]; omega) rfl (by repeat' (first | constructor | apply Sub.suf)) rfl) ?_
   refine le ?_; rintro ⟨A7, c7⟩
   refine ls (op (p_asg rfl) rfl) ?_
   refine ls (op (p_asg rfl) rfl) ?_
   refine ln ?_
   refine nthen ?_
   refine cret ?_
   refine xret (fun _ _ h => h) ?_
   refine rret (is := [0]) (A7, c7) (Or.inl rfl) (Res.t rfl (Res.t rfl Res.d)) (rfl) rfl (by repeat' (first | constructor | apply Sub.suf))

set_option maxRecDepth 100000 in
theorem c_rApply (T : List File) (A : Option Addr) (c : Nat) (hn : T.length ≤ 2000000) (pr : Prim) (y : Rp.Lay Prim) (hp : pr.fit) (hb : ∀ u, (getL T u).length + pr.new.length ≤ 2000000) : Con Tryz.prog 70 [.slice A T.length c, sv pr y] [] (slA A T :: Rp.asn pr y) {q : (List File × Int) × (Option Addr × Nat) // q.1 = rApplyT T pr} (fun q => .tuple #[.slice q.1.2.1 q.1.1.1.length q.1.2.2, .int .i64 q.1.1.2]) (fun _ => []) (fun q => [slA q.1.2.1 q.1.1.1]) := by
 refine con Tryz.func70 rfl Tryz.ntmps70 rfl ?_
 intro M0 F0 w0
 refine cs ?_
 refine cr ?_
 refine ls (o_box rfl rfl rfl) ?_
 refine le ?_; intro b3
 refine ls (op (p_asg rfl) rfl) ?_
 refine ls (op (p_asg rfl) rfl) ?_
 refine ln ?_
 refine nthen ?_
 refine cs ?_
 refine cs ?_
 refine cr ?_
 refine ls (o_ldw Tryz.isAgg72 Tryz.sizeOf72 rfl (by repeat' constructor) (by rfl) rfl) ?_
 refine ls (o_call (is := []) Tryz.call51 (c_refRight pr y hp) rfl rfl (by repeat' (first | constructor | apply Sub.suf)) rfl) ?_
 refine le ?_; intro x13
 refine ls (op (p_not rfl) rfl) ?_
 refine ln ?_
 refine nthen ?_
 refine cc rfl ?_ ?_
 ·
  intro h14
  have hr : pr.right = false := by simpa using h14
  refine cs ?_
  refine cr ?_
  refine ls (op (p_move rfl) rfl) ?_
  refine ls (op (p_asg rfl) rfl) ?_
  refine ls (op (p_asg rfl) rfl) ?_
  refine ln ?_
  refine nthen ?_
  refine cret ?_
  refine xret (fun _ _ h => h) ?_
  refine rret (is := []) ⟨((T, 30), (A, c)), by simp [rApplyT, hr]⟩ (Or.inl rfl) (Res.t rfl (Res.t rfl Res.d)) (rfl) rfl (by repeat' (first | constructor | apply Sub.suf))
 ·
  intro h14
  have hr : pr.right = true := by simpa using h14
  refine cskip ?_
  refine nthen ?_
  refine cs ?_
  refine cr ?_
  refine ls (op (p_move rfl) rfl) ?_
  refine ls (op (p_fa fa72_1 rfl) rfl) ?_
  refine ls (o_ld Tryz.isAgg9 rfl (by repeat' constructor) (by repeat' constructor) rfl) ?_
  refine ls (o_call (is := []) Tryz.call94 (c_rGet T A c hn pr.name) rfl rfl (by repeat' (first | constructor | apply Sub.suf)) rfl) ?_
  refine le ?_; rintro ⟨A1, c1⟩
  refine lpure (St.cap (m := (getL T pr.name).length) (c := c1) (by repeat' constructor)) ?_
  intro hcap
  refine ls (op (p_move rfl) rfl) ?_
  refine ls (op (p_ext rfl (by repeat' constructor)) rfl) ?_
  refine ls (op (p_ext rfl (by repeat' constructor)) rfl) ?_
  refine ls (op (p_asg rfl) rfl) ?_
  refine ls (op (p_asg rfl) rfl) ?_
  refine ln ?_
  refine nthen ?_
  refine cs ?_
  refine cr ?_
  refine ls (op (p_move rfl) rfl) ?_
  refine ls (op (p_fa fa72_2 rfl) rfl) ?_
  refine ls (o_ld Tryz.isAgg9 rfl (by repeat' constructor) (by repeat' constructor) rfl) ?_
  refine ls (o_call (is := []) Tryz.call94 (c_rGet T A c hn pr.to) rfl rfl (by repeat' (first | constructor | apply Sub.suf)) rfl) ?_
  refine le ?_; rintro ⟨A2, c2⟩
  refine ls (op (p_move rfl) rfl) ?_
  refine ls (op (p_ext rfl (by repeat' constructor)) rfl) ?_
  refine ls (op (p_ext rfl (by repeat' constructor)) rfl) ?_
  refine ls (op (p_asg rfl) rfl) ?_
  refine ls (op (p_asg rfl) rfl) ?_
  refine ln ?_
  refine nthen ?_
  refine cs ?_
  refine cs ?_
  refine cr ?_
  refine ls (op (p_fa fa72_0 rfl) rfl) ?_
  refine ls (o_ld Tryz.isAgg3 rfl (by repeat' constructor) (by repeat' constructor) rfl) ?_
  refine ln ?_
  refine nthen ?_
  refine cb ?_
  refine cs ?_
  refine cr ?_
  refine ls (op (p_icmp rfl rfl rfl) rfl) ?_
  refine ls (op (p_asg rfl) rfl) ?_
  refine ln ?_
  refine nthen ?_
  refine cc rfl ?_ ?_
  ·
   intro h32
   have k0 : pr.kind = 0 := by simpa using h32
   refine cs ?_
   refine cr ?_
   refine ls (op (p_move rfl) rfl) ?_
   refine ls (op (p_fa fa72_3 rfl) rfl) ?_
   refine ls (o_ld Tryz.isAgg3 rfl (by repeat' constructor) (by repeat' constructor) rfl) ?_
   refine ls (op (p_fa fa72_4 rfl) rfl) ?_
   refine ls (o_ld Tryz.isAgg32 rfl (by repeat' constructor) (by repeat' constructor) rfl) ?_
   refine ls (op (p_fa fa72_5 rfl) rfl) ?_
   refine ls (o_ld Tryz.isAgg32 rfl (by repeat' constructor) (by repeat' constructor) rfl) ?_
   refine ls (o_call (is := []) Tryz.call101 (c_rSplice (getL T pr.name) pr.old pr.new A1 y.1.1 y.2.1 c1 y.1.2 y.2.2 pr.pos (by have := hb pr.name; omega) hp.o (hb _) hcap) rfl rfl (by repeat' (first | constructor | apply Sub.suf)) rfl) ?_
   refine le ?_; rintro ⟨A3, c3⟩
   refine lmono (fun a w h => freezeN (i := 0) rfl h) ?_
   refine ls (op (p_move rfl) rfl) ?_
   refine ls (op (p_ext rfl (by repeat' constructor)) rfl) ?_
   refine ls (op (p_ext rfl (by repeat' constructor)) rfl) ?_
   refine ls (op (p_asg rfl) rfl) ?_
   refine ls (op (p_asg rfl) rfl) ?_
   refine ln ?_
   refine nthen ?_
   refine cs ?_
   refine cr ?_
   refine ls (op (p_move rfl) rfl) ?_
   refine ls (op (p_move rfl) rfl) ?_
   refine andX 2 46 48 rfl (subσ.cons (t := 0) rfl (subσ.cons (t := 1) rfl (subσ.cons (t := 3) rfl (subσ.cons (t := 4) rfl (subσ.cons (t := 5) rfl (subσ.cons (t := 12) rfl (subσ.cons (t := 13) rfl (subσ.cons (t := 14) rfl (subσ.cons (t := 17) rfl (subσ.cons (t := 18) rfl (subσ.cons (t := 19) rfl (subσ.cons (t := 20) rfl (subσ.cons (t := 16) rfl (subσ.cons (t := 21) rfl (subσ.cons (t := 22) rfl (subσ.cons (t := 6) rfl (subσ.cons (t := 7) rfl (subσ.cons (t := 24) rfl (subσ.cons (t := 25) rfl (subσ.cons (t := 26) rfl (subσ.cons (t := 27) rfl (subσ.cons (t := 23) rfl (subσ.cons (t := 28) rfl (subσ.cons (t := 29) rfl (subσ.cons (t := 9) rfl (subσ.cons (t := 30) rfl (subσ.cons (t := 31) rfl (subσ.cons (t := 33) rfl (subσ.cons (t := 32) rfl (subσ.cons (t := 35) rfl (subσ.cons (t := 36) rfl (subσ.cons (t := 37) rfl (subσ.cons (t := 38) rfl (subσ.cons (t := 39) rfl (subσ.cons (t := 40) rfl (subσ.cons (t := 41) rfl (subσ.cons (t := 42) rfl (subσ.cons (t := 34) rfl (subσ.cons (t := 43) rfl (subσ.cons (t := 44) rfl (subσ.cons (t := 10) rfl (subσ.nil _)))))))))))))))))))))))))))))))))))))))))) ?_ ?_
   ·
    intro h46
    refine lskip rfl rfl rfl rfl rfl ?_
    refine ls (op (p_pickf rfl rfl) rfl) ?_
    refine ln (nmid (wk0 (by repeat (first | exact subσ.nil _ | refine subσ.cons rfl ?_)) (by repeat' (first | constructor | apply Sub.suf))))
   apply exI
   ·
    intro h46
    refine lwant rfl rfl rfl rfl (op (p_move rfl) rfl) ?_
    refine ls (op (p_pickt rfl rfl) rfl) ?_
    refine ln (nmid (wk0 (by repeat (first | exact subσ.nil _ | refine subσ.cons rfl ?_)) (by repeat' (first | constructor | apply Sub.suf))))
   ·
    refine ln ?_
    refine nthen ?_
    refine cc rfl ?_ ?_
    ·
     intro h48
     have hj : hasT T pr.name = true ∧ standsB (getL T pr.name) pr.pos pr.old = true := by simpa using h48
     refine cs ?_
     refine cr ?_
     refine ls (op (p_move rfl) rfl) ?_
     refine ls (op (p_fa fa72_1 rfl) rfl) ?_
     refine ls (o_ld Tryz.isAgg9 rfl (by repeat' constructor) (by repeat' constructor) rfl) ?_
     refine ls (op (p_move rfl) rfl) ?_
     refine ls (o_call (is := []) Tryz.call95 (c_rWith T A c hn pr.name (splT (getL T pr.name) pr.pos pr.old pr.new) A3 c3) rfl rfl (by repeat' (first | constructor | apply Sub.suf)) rfl) ?_
     refine le ?_; intro z53
     refine ls (op (p_asg rfl) rfl) ?_
     refine ls (op (p_asg rfl) rfl) ?_
     refine ln ?_
     refine nthen ?_
     refine cret ?_
     refine xret (fun _ _ h => h) ?_
     refine rret (is := []) ⟨((putT T pr.name (splT (getL T pr.name) pr.pos pr.old pr.new), 0), z53), by unfold rApplyT; rw [if_neg (by simp [hr]), if_pos k0, if_pos hj]⟩ (Or.inl rfl) (Res.t rfl (Res.t rfl Res.d)) (rfl) rfl (by repeat' (first | constructor | apply Sub.suf))
    ·
     intro h48
     have hj : ¬ (hasT T pr.name = true ∧ standsB (getL T pr.name) pr.pos pr.old = true) := by have h := h48; simp at h; rintro ⟨h1, h2⟩; rw [h h1] at h2; cases h2
     refine cskip ?_
     refine nblock ?_
     refine nthen ?_
     refine cs ?_
     refine cr ?_
     refine ls (op (p_move rfl) rfl) ?_
     refine ls (op (p_asg rfl) rfl) ?_
     refine ls (op (p_asg rfl) rfl) ?_
     refine ln ?_
     refine nthen ?_
     refine cret ?_
     refine xret (fun _ _ h => h) ?_
     refine rret (is := []) ⟨((T, 31), (A, c)), by unfold rApplyT; rw [if_neg (by simp [hr]), if_pos k0, if_neg hj]⟩ (Or.inl rfl) (Res.t rfl (Res.t rfl Res.d)) (rfl) rfl (by repeat' (first | constructor | apply Sub.suf))
  ·
   intro h32
   have k0 : ¬ pr.kind = 0 := by simpa using h32
   refine cs ?_
   refine cr ?_
   refine ls (op (p_icmp rfl rfl rfl) rfl) ?_
   refine ls (op (p_asg rfl) rfl) ?_
   refine ln ?_
   refine nthen ?_
   refine cc rfl ?_ ?_
   ·
    intro h54
    have k1 : pr.kind = 1 := by simpa using h54
    refine cs ?_
    refine cr ?_
    refine ls (op (p_move rfl) rfl) ?_
    refine ls (op (p_not rfl) rfl) ?_
    refine ln ?_
    refine nthen ?_
    refine cc rfl ?_ ?_
    ·
     intro h57
     have hj : hasT T pr.name = false := by simpa using h57
     refine cs ?_
     refine cmono (fun a w h => nilN h) ?_
     refine cr ?_
     refine ls (op (p_move rfl) rfl) ?_
     refine ls (op (p_fa fa72_1 rfl) rfl) ?_
     refine ls (o_ld Tryz.isAgg9 rfl (by repeat' constructor) (by repeat' constructor) rfl) ?_
     refine ls (o_call (is := []) Tryz.call95 (c_rWith T A c hn pr.name [] none 0) rfl rfl (by repeat' (first | constructor | apply Sub.suf)) rfl) ?_
     refine le ?_; intro z61
     refine ls (op (p_asg rfl) rfl) ?_
     refine ls (op (p_asg rfl) rfl) ?_
     refine ln ?_
     refine nthen ?_
     refine cret ?_
     refine xret (fun _ _ h => h) ?_
     refine rret (is := []) ⟨((putT T pr.name [], 0), z61), by unfold rApplyT; rw [if_neg (by simp [hr]), if_neg k0, if_pos k1, if_pos hj]⟩ (Or.inl rfl) (Res.t rfl (Res.t rfl Res.d)) (rfl) rfl (by repeat' (first | constructor | apply Sub.suf))
    ·
     intro h57
     have hj : hasT T pr.name = true := by simpa using h57
     refine cskip ?_
     refine nblock ?_
     refine nthen ?_
     refine cs ?_
     refine cr ?_
     refine ls (op (p_move rfl) rfl) ?_
     refine ls (op (p_asg rfl) rfl) ?_
     refine ls (op (p_asg rfl) rfl) ?_
     refine ln ?_
     refine nthen ?_
     refine cret ?_
     refine xret (fun _ _ h => h) ?_
     refine rret (is := []) ⟨((T, 31), (A, c)), by unfold rApplyT; rw [if_neg (by simp [hr]), if_neg k0, if_pos k1, if_neg (by simp [hj])]⟩ (Or.inl rfl) (Res.t rfl (Res.t rfl Res.d)) (rfl) rfl (by repeat' (first | constructor | apply Sub.suf))
   ·
    intro h54
    have k1 : ¬ pr.kind = 1 := by simpa using h54
    refine cs ?_
    refine cr ?_
    refine ls (op (p_icmp rfl rfl rfl) rfl) ?_
    refine ls (op (p_asg rfl) rfl) ?_
    refine ln ?_
    refine nthen ?_
    refine cc rfl ?_ ?_
    ·
     intro h62
     have k2 : pr.kind = 2 := by simpa using h62
     refine cs ?_
     refine cr ?_
     refine ls (op (p_move rfl) rfl) ?_
     refine ls (op (p_move rfl) rfl) ?_
     refine andX 4 65 69 rfl (subσ.cons (t := 0) rfl (subσ.cons (t := 1) rfl (subσ.cons (t := 3) rfl (subσ.cons (t := 4) rfl (subσ.cons (t := 5) rfl (subσ.cons (t := 12) rfl (subσ.cons (t := 13) rfl (subσ.cons (t := 14) rfl (subσ.cons (t := 17) rfl (subσ.cons (t := 18) rfl (subσ.cons (t := 19) rfl (subσ.cons (t := 20) rfl (subσ.cons (t := 16) rfl (subσ.cons (t := 21) rfl (subσ.cons (t := 22) rfl (subσ.cons (t := 6) rfl (subσ.cons (t := 7) rfl (subσ.cons (t := 24) rfl (subσ.cons (t := 25) rfl (subσ.cons (t := 26) rfl (subσ.cons (t := 27) rfl (subσ.cons (t := 23) rfl (subσ.cons (t := 28) rfl (subσ.cons (t := 29) rfl (subσ.cons (t := 9) rfl (subσ.cons (t := 30) rfl (subσ.cons (t := 31) rfl (subσ.cons (t := 33) rfl (subσ.cons (t := 32) rfl (subσ.cons (t := 55) rfl (subσ.cons (t := 54) rfl (subσ.cons (t := 63) rfl (subσ.cons (t := 62) rfl (subσ.nil _)))))))))))))))))))))))))))))))))) ?_ ?_
     ·
      intro h65
      refine lskip rfl rfl rfl rfl rfl ?_
      refine lskip rfl rfl rfl rfl rfl ?_
      refine lskip rfl rfl rfl rfl rfl ?_
      refine ls (op (p_pickf rfl rfl) rfl) ?_
      refine ln (nmid (wk0 (by repeat (first | exact subσ.nil _ | refine subσ.cons rfl ?_)) (by repeat' (first | constructor | apply Sub.suf))))
     apply exI
     ·
      intro h65
      refine lwant rfl rfl rfl rfl (op (p_move rfl) rfl) ?_
      refine lwant rfl rfl rfl rfl (op (p_lenl rfl Tryz.underlying32) rfl) ?_
      refine lwant rfl rfl rfl rfl (op (p_icmp rfl rfl rfl) rfl) ?_
      refine ls (op (p_pickt rfl rfl) rfl) ?_
      refine ln (nmid (wk0 (by repeat (first | exact subσ.nil _ | refine subσ.cons rfl ?_)) (by repeat' (first | constructor | apply Sub.suf))))
     ·
      refine ln ?_
      refine nthen ?_
      refine cc rfl ?_ ?_
      ·
       intro h69
       have hj : hasT T pr.name = true ∧ (getL T pr.name).length = 0 := by have h := h69; simp at h; exact ⟨h.1, by simp [h.2]⟩
       refine cs ?_
       refine cr ?_
       refine ls (op (p_move rfl) rfl) ?_
       refine ls (op (p_fa fa72_1 rfl) rfl) ?_
       refine ls (o_ld Tryz.isAgg9 rfl (by repeat' constructor) (by repeat' constructor) rfl) ?_
       refine ls (o_call (is := []) Tryz.call96 (c_rWithout T A c hn pr.name) rfl rfl (by repeat' (first | constructor | apply Sub.suf)) rfl) ?_
       refine le ?_; intro z73
       refine ls (op (p_asg rfl) rfl) ?_
       refine ls (op (p_asg rfl) rfl) ?_
       refine ln ?_
       refine nthen ?_
       refine cret ?_
       refine xret (fun _ _ h => h) ?_
       refine rret (is := []) ⟨((delT T pr.name, 0), z73), by unfold rApplyT; rw [if_neg (by simp [hr]), if_neg k0, if_neg k1, if_pos k2, if_pos hj]⟩ (Or.inl rfl) (Res.t rfl (Res.t rfl Res.d)) (rfl) rfl (by repeat' (first | constructor | apply Sub.suf))
      ·
       intro h69
       have hj : ¬ (hasT T pr.name = true ∧ (getL T pr.name).length = 0) := by have h := h69; simp at h; rintro ⟨h1, h2⟩; exact h h1 (List.eq_nil_of_length_eq_zero h2)
       refine cskip ?_
       refine nblock ?_
       refine nthen ?_
       refine cs ?_
       refine cr ?_
       refine ls (op (p_move rfl) rfl) ?_
       refine ls (op (p_asg rfl) rfl) ?_
       refine ls (op (p_asg rfl) rfl) ?_
       refine ln ?_
       refine nthen ?_
       refine cret ?_
       refine xret (fun _ _ h => h) ?_
       refine rret (is := []) ⟨((T, 31), (A, c)), by unfold rApplyT; rw [if_neg (by simp [hr]), if_neg k0, if_neg k1, if_pos k2, if_neg hj]⟩ (Or.inl rfl) (Res.t rfl (Res.t rfl Res.d)) (rfl) rfl (by repeat' (first | constructor | apply Sub.suf))
    ·
     intro h62
     have k2 : ¬ pr.kind = 2 := by simpa using h62
     refine cs ?_
     refine cr ?_
     refine ls (op (p_icmp rfl rfl rfl) rfl) ?_
     refine ls (op (p_asg rfl) rfl) ?_
     refine ln ?_
     refine nthen ?_
     refine cc rfl ?_ ?_
     ·
      intro h74
      have k3 : pr.kind = 3 := by simpa using h74
      refine cs ?_
      refine cr ?_
      refine ls (op (p_move rfl) rfl) ?_
      refine ls (op (p_move rfl) rfl) ?_
      refine andX 3 77 80 rfl (subσ.cons (t := 0) rfl (subσ.cons (t := 1) rfl (subσ.cons (t := 3) rfl (subσ.cons (t := 4) rfl (subσ.cons (t := 5) rfl (subσ.cons (t := 12) rfl (subσ.cons (t := 13) rfl (subσ.cons (t := 14) rfl (subσ.cons (t := 17) rfl (subσ.cons (t := 18) rfl (subσ.cons (t := 19) rfl (subσ.cons (t := 20) rfl (subσ.cons (t := 16) rfl (subσ.cons (t := 21) rfl (subσ.cons (t := 22) rfl (subσ.cons (t := 6) rfl (subσ.cons (t := 7) rfl (subσ.cons (t := 24) rfl (subσ.cons (t := 25) rfl (subσ.cons (t := 26) rfl (subσ.cons (t := 27) rfl (subσ.cons (t := 23) rfl (subσ.cons (t := 28) rfl (subσ.cons (t := 29) rfl (subσ.cons (t := 30) rfl (subσ.cons (t := 31) rfl (subσ.cons (t := 33) rfl (subσ.cons (t := 32) rfl (subσ.cons (t := 55) rfl (subσ.cons (t := 54) rfl (subσ.cons (t := 63) rfl (subσ.cons (t := 62) rfl (subσ.cons (t := 75) rfl (subσ.cons (t := 74) rfl (subσ.nil _))))))))))))))))))))))))))))))))))) ?_ ?_
      ·
       intro h77
       refine lskip rfl rfl rfl rfl rfl ?_
       refine lskip rfl rfl rfl rfl rfl ?_
       refine ls (op (p_pickf rfl rfl) rfl) ?_
       refine ln (nmid (wk0 (by repeat (first | exact subσ.nil _ | refine subσ.cons rfl ?_)) (by repeat' (first | constructor | apply Sub.suf))))
      apply exI
      ·
       intro h77
       refine lwant rfl rfl rfl rfl (op (p_move rfl) rfl) ?_
       refine lwant rfl rfl rfl rfl (op (p_not rfl) rfl) ?_
       refine ls (op (p_pickt rfl rfl) rfl) ?_
       refine ln (nmid (wk0 (by repeat (first | exact subσ.nil _ | refine subσ.cons rfl ?_)) (by repeat' (first | constructor | apply Sub.suf))))
      ·
       refine ln ?_
       refine nthen ?_
       refine cc rfl ?_ ?_
       ·
        intro h80
        have hj : hasT T pr.name = true ∧ hasT T pr.to = false := by have h := h80; simp at h; exact h
        refine cs ?_
        have hdn : (delT T pr.name).length ≤ 2000000 := Nat.le_trans (List.length_filter_le _ _) hn
        refine cd [3, 7] [(2, b3, 1, _), (5, b3, 2, _)] TryzX.mixed (TOk.t (isBoxS (by repeat' constructor) (k := 1) (by repeat (first | exact Cut.d | apply Cut.t | apply Cut.s))) (TOk.t (isBoxS (by repeat' constructor) (k := 1) (by repeat (first | exact Cut.d | apply Cut.t | apply Cut.s))) TOk.d)) ?_
        refine tk 0 rfl (by kernel_rfl) (fun _ _ _ h => h) gnone (TTany _) (p_move rfl) rfl ?_
        refine tk 1 rfl (by kernel_rfl) (fun _ _ _ h => h) gnone (TTany _) (p_fa fa72_1 rfl) rfl ?_
        refine tk 2 rfl (by kernel_rfl) (fun _ _ _ h => h) gnone (TTat (List.Mem.head _)) (p_ld Tryz.isAgg9 rfl) rfl ?_
        refine tk 4 rfl (by kernel_rfl) (fun _ _ _ h => h) gnone (TTany _) (p_fa fa72_2 rfl) rfl ?_
        refine tk 5 rfl (by kernel_rfl) (fun _ _ _ h => h) gnone (TTat (List.Mem.tail _ (List.Mem.head _))) (p_ld Tryz.isAgg9 rfl) rfl ?_
        refine tk 6 rfl (by kernel_rfl) (fun _ _ _ h => h) gnone (TTany _) (p_move rfl) rfl ?_
        refine df 3 (by kernel_rfl) ?_
        refine doR rfl (o_call (is := []) Tryz.call96 (c_rWithout T A c hn pr.name) rfl rfl (by repeat' (first | constructor | apply Sub.suf)) rfl) (TOk.x (by kernel_rfl) (TOk.t (isBoxE fun _ => isBoxS (by repeat' constructor) (k := 1) (by repeat (first | exact Cut.d | apply Cut.t | apply Cut.s))) TOk.d)) ?_
        refine ea ?_; rintro ⟨A4, c4⟩
        refine df 7 (by kernel_rfl) ?_
        refine doR rfl (o_call (is := []) Tryz.call95 (c_rWith (delT T pr.name) A4 c4 hdn pr.to (getL T pr.name) A1 c1) rfl rfl (by repeat' (first | constructor | apply Sub.suf)) rfl) (TOk.x (by kernel_rfl) (TOk.x (by kernel_rfl) TOk.d)) ?_
        refine ea ?_; intro z88
        refine tk 8 rfl (by kernel_rfl) (fun _ _ _ h => h) gnone (TTany _) (p_asg rfl) rfl ?_
        refine tk 9 rfl (by kernel_rfl) (fun _ _ _ h => h) gnone (TTany _) (p_asg rfl) rfl ?_
        refine dn (by kernel_rfl) ?_
        refine nthen ?_
        refine cret ?_
        refine xret (fun _ _ h => h) ?_
        refine rret (is := []) ⟨((putT (delT T pr.name) pr.to (getL T pr.name), 0), z88), by unfold rApplyT; rw [if_neg (by simp [hr]), if_neg k0, if_neg k1, if_neg k2, if_pos k3, if_pos hj]⟩ (Or.inl rfl) (Res.t rfl (Res.t rfl Res.d)) (rfl) rfl (by repeat' (first | constructor | apply Sub.suf))
       ·
        intro h80
        have hj : ¬ (hasT T pr.name = true ∧ hasT T pr.to = false) := by have h := h80; simp at h; rintro ⟨h1, h2⟩; rw [h h1] at h2; cases h2
        refine cskip ?_
        refine nblock ?_
        refine nthen ?_
        refine cs ?_
        refine cr ?_
        refine ls (op (p_move rfl) rfl) ?_
        refine ls (op (p_asg rfl) rfl) ?_
        refine ls (op (p_asg rfl) rfl) ?_
        refine ln ?_
        refine nthen ?_
        refine cret ?_
        refine xret (fun _ _ h => h) ?_
        refine rret (is := []) ⟨((T, 31), (A, c)), by unfold rApplyT; rw [if_neg (by simp [hr]), if_neg k0, if_neg k1, if_neg k2, if_pos k3, if_neg hj]⟩ (Or.inl rfl) (Res.t rfl (Res.t rfl Res.d)) (rfl) rfl (by repeat' (first | constructor | apply Sub.suf))
     ·
      intro h74
      have k3 : ¬ pr.kind = 3 := by simpa using h74
      refine cskip ?_
      refine nblock ?_
      refine nthen ?_
      refine cs ?_
      refine cr ?_
      refine ls (op (p_move rfl) rfl) ?_
      refine ls (op (p_asg rfl) rfl) ?_
      refine ls (op (p_asg rfl) rfl) ?_
      refine ln ?_
      refine nthen ?_
      refine cret ?_
      refine xret (fun _ _ h => h) ?_
      refine rret (is := []) ⟨((T, 31), (A, c)), by unfold rApplyT; rw [if_neg (by simp [hr]), if_neg k0, if_neg k1, if_neg k2, if_neg k3]⟩ (Or.inl rfl) (Res.t rfl (Res.t rfl Res.d)) (rfl) rfl (by repeat' (first | constructor | apply Sub.suf))

end Go.Proofs.YtheamdahngfpdaaGreatDoor.X

end
section
set_option linter.unusedVariables false
set_option linter.unusedSimpArgs false
namespace Go.Proofs.YtheamdahngfpdaaGreatDoor.X
open Go Go.RowKit Go.Proofs Go.Sx
attribute [local irreducible] slA isA box row
def pH : Prim := ⟨0, (⟨#[97]⟩ : ByteArray), e0, 1, [(⟨#[121]⟩ : ByteArray)], [(⟨#[122]⟩ : ByteArray), (⟨#[122]⟩ : ByteArray)]⟩
def pA : Prim := ⟨1, (⟨#[97]⟩ : ByteArray), e0, 0, [], []⟩
def pM : Prim := ⟨3, (⟨#[97]⟩ : ByteArray), (⟨#[98]⟩ : ByteArray), 0, [], []⟩
def pN : Prim := ⟨3, (⟨#[98]⟩ : ByteArray), (⟨#[97]⟩ : ByteArray), 0, [], []⟩
theorem al3_fH : pH.fit := fitP (by decide)
theorem al3_fA : pA.fit := fitP (by decide)
theorem al3_fM : pM.fit := fitP (by decide)
theorem al3_fZ : Prim.zero.fit := fitP (by decide)
theorem al3_1 : applyT [] pA = ([((⟨#[97]⟩ : ByteArray), ([] : List ByteArray))], 0) := by kernel_rfl
theorem al3_2 : applyT [((⟨#[97]⟩ : ByteArray), [(⟨#[120]⟩ : ByteArray), (⟨#[121]⟩ : ByteArray)])] pH = ([((⟨#[97]⟩ : ByteArray), [(⟨#[120]⟩ : ByteArray), (⟨#[122]⟩ : ByteArray), (⟨#[122]⟩ : ByteArray)])], 0) := by kernel_rfl
theorem al3_3 : applyT [((⟨#[97]⟩ : ByteArray), [(⟨#[120]⟩ : ByteArray), (⟨#[122]⟩ : ByteArray), (⟨#[122]⟩ : ByteArray)])] pH.flip = ([((⟨#[97]⟩ : ByteArray), [(⟨#[120]⟩ : ByteArray), (⟨#[121]⟩ : ByteArray)])], 0) := by kernel_rfl
theorem al3_4 : applyT [((⟨#[97]⟩ : ByteArray), [(⟨#[120]⟩ : ByteArray), (⟨#[121]⟩ : ByteArray)])] pM = ([((⟨#[98]⟩ : ByteArray), [(⟨#[120]⟩ : ByteArray), (⟨#[121]⟩ : ByteArray)])], 0) := by kernel_rfl
theorem al3_5 : sortB pN.names = [(⟨#[97]⟩ : ByteArray), (⟨#[98]⟩ : ByteArray)] := (sortB_names pN).trans (by kernel_rfl)
theorem al3_6 : applyT [((⟨#[98]⟩ : ByteArray), [(⟨#[120]⟩ : ByteArray), (⟨#[121]⟩ : ByteArray)])] pH = ([((⟨#[98]⟩ : ByteArray), [(⟨#[120]⟩ : ByteArray), (⟨#[121]⟩ : ByteArray)])], 31) := by kernel_rfl
theorem al3_7 : applyT [((⟨#[98]⟩ : ByteArray), [(⟨#[120]⟩ : ByteArray), (⟨#[121]⟩ : ByteArray)])] Prim.zero = ([((⟨#[98]⟩ : ByteArray), [(⟨#[120]⟩ : ByteArray), (⟨#[121]⟩ : ByteArray)])], 30) := by kernel_rfl
theorem al3_8 : pH.right = true := by kernel_rfl
theorem al3_t : toB (textT [((⟨#[97]⟩ : ByteArray), [(⟨#[120]⟩ : ByteArray), (⟨#[122]⟩ : ByteArray), (⟨#[122]⟩ : ByteArray)])]) = (⟨#[97, 32, 51, 10, 120, 10, 122, 10, 122, 10]⟩ : ByteArray) := by kernel_rfl
theorem al3_l : (textT [((⟨#[97]⟩ : ByteArray), [(⟨#[120]⟩ : ByteArray), (⟨#[122]⟩ : ByteArray), (⟨#[122]⟩ : ByteArray)])]).length = 10 := by kernel_rfl
theorem al3_f4 : Tfit [((⟨#[97]⟩ : ByteArray), [(⟨#[120]⟩ : ByteArray), (⟨#[122]⟩ : ByteArray), (⟨#[122]⟩ : ByteArray)])] := fun x hx => by have : x = _ := List.mem_singleton.1 hx; subst this; decide
theorem al3_f1 : Tfit [((⟨#[97]⟩ : ByteArray), ([] : List ByteArray))] := fun x hx => by have : x = _ := List.mem_singleton.1 hx; subst this; decide
theorem al3_f0 : Tfit [] := fun x hx => by cases hx
theorem hb_of {T : List File} {p : Prim} (h : T.all (fun x => decide (x.2.length ≤ 100)) = true) (hp : p.new.length ≤ 100) (u : ByteArray) : (getL T u).length + p.new.length ≤ 2000000 := by
 have := Lmax.get (m := 100) (T := T) (fun x hx => by simpa using List.all_eq_true.1 h x hx) u
 omega
theorem c_tTextS (p b : Nat) (T : List File) (s : ByteArray) (hs : toB (textT T) = s) (hn : T.length ≤ 2000000) (hf : Tfit T) (hB : (textT T).length ≤ 100000000) (Γt : List Asn) (hI : ∀ x ∈ T, Con Tryz.prog 79 [.int .i64 (x.2.length : Int)] [] Γt Unit (fun _ => .string (toB (Lib.decDigits x.2.length))) (fun _ => []) (fun _ => [])) : Con Tryz.prog 47 [.pointer (some ⟨p, 0, none⟩)] [box p 118 [.map (some b)], tr b T] Γt Unit (fun _ => .string s) (fun _ => [box p 118 [.map (some b)], tr b T]) (fun _ => []) := hs ▸ c_tText p b T hn hf hB Γt hI


set_option maxRecDepth 100000 in
theorem c_primInvert (p : Prim) (y : Rp.Lay Prim) (hp : p.fit) : Con Tryz.prog 62 [sv p y] [] (Rp.asn p y) {x : Prim × Rp.Lay Prim // x.1 = p.flip} (fun x => sv x.1.1 x.1.2) (fun _ => []) (fun x => Rp.asn x.1.1 x.1.2) := by
 refine con Tryz.func62 rfl Tryz.ntmps62 rfl ?_
 intro M0 F0 w0
 refine cs ?_
 refine cr ?_
 refine ls (o_box rfl rfl rfl) ?_
 refine le ?_; intro b1
 refine ls (o_alloc Tryz.zeroValue70 rfl rfl) ?_
 refine le ?_; intro b2
 refine ln ?_
 refine nthen ?_
 refine cs ?_
 refine cr ?_
 refine ls (o_ldw Tryz.isAgg70 Tryz.sizeOf70 rfl (by repeat' constructor) (by rfl) rfl) ?_
 refine ls (o_call (is := []) Tryz.call66 (c_primClone p y hp) rfl rfl (by repeat' (first | constructor | apply Sub.suf)) rfl) ?_
 refine le ?_; intro y1
 refine ls (o_st rfl Tryz.sizeOf70 rfl rfl rfl rfl rfl (by repeat' constructor) (by repeat' constructor) (by repeat' constructor)) ?_
 refine ln ?_
 refine nthen ?_
 refine cs ?_
 refine cs ?_
 refine cr ?_
 refine ls (op (p_fa fa70_0 rfl) rfl) ?_
 refine ls (o_ld Tryz.isAgg3 rfl (by repeat' constructor) (by repeat' constructor) rfl) ?_
 refine ln ?_
 refine nthen ?_
 refine cb ?_
 refine cs ?_
 refine cr ?_
 refine ls (op (p_icmp rfl rfl rfl) rfl) ?_
 refine ls (op (p_asg rfl) rfl) ?_
 refine ln ?_
 refine nthen ?_
 refine cc rfl ?_ ?_
 ·
  intro h7
  try simp only [decide_eq_true_eq, decide_eq_false_iff_not, Bool.not_eq_true', Bool.not_eq_false', Int.not_lt, Int.not_le, ge_iff_le, Bool.not_true, Bool.not_false] at h7
  refine cr ?_
  refine ls (op (p_fa fa70_5 rfl) rfl) ?_
  refine ls (o_ld Tryz.isAgg32 rfl (by repeat' constructor) (by repeat' constructor) rfl) ?_
  refine ls (op (p_fa fa70_4 rfl) rfl) ?_
  refine ls (o_ld Tryz.isAgg32 rfl (by repeat' constructor) (by repeat' constructor) rfl) ?_
  refine ls (op (p_fa fa70_4 rfl) rfl) ?_
  refine ls (o_st rfl Tryz.sizeOf32 rfl rfl rfl rfl rfl (by repeat' constructor) (by repeat' constructor) (by repeat' constructor)) ?_
  refine ls (op (p_fa fa70_5 rfl) rfl) ?_
  refine ls (o_st rfl Tryz.sizeOf32 rfl rfl rfl rfl rfl (by repeat' constructor) (by repeat' constructor) (by repeat' constructor)) ?_
  refine ln ?_
  refine nblock ?_
  refine nthen ?_
  refine cs ?_
  refine cr ?_
  refine ls (o_ldw Tryz.isAgg70 Tryz.sizeOf70 rfl (by repeat' constructor) (by rfl) rfl) ?_
  refine ls (o_st rfl Tryz.sizeOf70 rfl rfl rfl rfl rfl (by repeat' constructor) (by repeat' constructor) (by repeat' constructor)) ?_
  refine ln ?_
  refine nthen ?_
  refine cret ?_
  refine xret (fun _ _ h => h) ?_
  refine rret (is := []) ⟨({ p with old := p.new, new := p.old }, (y1.2, y1.1)), by rw [flip0 h7]⟩ (Or.inl rfl) (Res.c rfl Tryz.isAgg70 Tryz.sizeOf70 (by repeat' constructor) (by rfl) Res.d) (rfl) rfl (by repeat' (first | constructor | apply Sub.suf))
 ·
  intro h7
  try simp only [decide_eq_true_eq, decide_eq_false_iff_not, Bool.not_eq_true', Bool.not_eq_false', Int.not_lt, Int.not_le, ge_iff_le, Bool.not_true, Bool.not_false] at h7
  refine cs ?_
  refine cs ?_
  refine cr ?_
  refine ls (op (p_icmp rfl rfl rfl) rfl) ?_
  refine ls (op (p_asg rfl) rfl) ?_
  refine ln ?_
  refine nthen ?_
  refine cc rfl ?_ ?_
  ·
   intro h15
   try simp only [decide_eq_true_eq, decide_eq_false_iff_not, Bool.not_eq_true', Bool.not_eq_false', Int.not_lt, Int.not_le, ge_iff_le, Bool.not_true, Bool.not_false] at h15
   refine cskip ?_
   refine nthen ?_
   refine cc rfl ?_ ?_
   ·
    intro h15b
    skip
    refine cr ?_
    refine ls (op (p_fa fa70_0 rfl) rfl) ?_
    refine ls (o_ld Tryz.isAgg3 rfl (by repeat' constructor) (by repeat' constructor) rfl) ?_
    refine ls (op (p_sub rfl rfl (by omega)) rfl) ?_
    refine ls (op (p_fa fa70_0 rfl) rfl) ?_
    refine ls (o_st rfl Tryz.sizeOf3 rfl rfl rfl rfl rfl (by repeat' constructor) (by repeat' constructor) (by repeat' constructor)) ?_
    refine ln ?_
    refine nblock ?_
    refine nthen ?_
    refine cs ?_
    refine cr ?_
    refine ls (o_ldw Tryz.isAgg70 Tryz.sizeOf70 rfl (by repeat' constructor) (by rfl) rfl) ?_
    refine ls (o_st rfl Tryz.sizeOf70 rfl rfl rfl rfl rfl (by repeat' constructor) (by repeat' constructor) (by repeat' constructor)) ?_
    refine ln ?_
    refine nthen ?_
    refine cret ?_
    refine xret (fun _ _ h => h) ?_
    refine rret (is := []) ⟨({ p with kind := 3 - p.kind }, y1), by rw [Prim.flip, if_neg h7, if_pos (Or.inl h15)]⟩ (Or.inl rfl) (Res.c rfl Tryz.isAgg70 Tryz.sizeOf70 (by repeat' constructor) (by rfl) Res.d) (rfl) rfl (by repeat' (first | constructor | apply Sub.suf))
   ·
    intro h15b
    simp only [decide_eq_false_iff_not] at h15b; exact absurd h15 h15b
  ·
   intro h15
   try simp only [decide_eq_true_eq, decide_eq_false_iff_not, Bool.not_eq_true', Bool.not_eq_false', Int.not_lt, Int.not_le, ge_iff_le, Bool.not_true, Bool.not_false] at h15
   refine cr ?_
   refine ls (op (p_icmp rfl rfl rfl) rfl) ?_
   refine ls (op (p_asg rfl) rfl) ?_
   refine ln ?_
   refine nthen ?_
   refine cc rfl ?_ ?_
   ·
    intro h15c
    simp only [decide_eq_true_eq] at h15c
    refine cr ?_
    refine ls (op (p_fa fa70_0 rfl) rfl) ?_
    refine ls (o_ld Tryz.isAgg3 rfl (by repeat' constructor) (by repeat' constructor) rfl) ?_
    refine ls (op (p_sub rfl rfl (by omega)) rfl) ?_
    refine ls (op (p_fa fa70_0 rfl) rfl) ?_
    refine ls (o_st rfl Tryz.sizeOf3 rfl rfl rfl rfl rfl (by repeat' constructor) (by repeat' constructor) (by repeat' constructor)) ?_
    refine ln ?_
    refine nblock ?_
    refine nthen ?_
    refine cs ?_
    refine cr ?_
    refine ls (o_ldw Tryz.isAgg70 Tryz.sizeOf70 rfl (by repeat' constructor) (by rfl) rfl) ?_
    refine ls (o_st rfl Tryz.sizeOf70 rfl rfl rfl rfl rfl (by repeat' constructor) (by repeat' constructor) (by repeat' constructor)) ?_
    refine ln ?_
    refine nthen ?_
    refine cret ?_
    refine xret (fun _ _ h => h) ?_
    refine rret (is := []) ⟨({ p with kind := 3 - p.kind }, y1), by rw [Prim.flip, if_neg h7, if_pos (Or.inr h15c)]⟩ (Or.inl rfl) (Res.c rfl Tryz.isAgg70 Tryz.sizeOf70 (by repeat' constructor) (by rfl) Res.d) (rfl) rfl (by repeat' (first | constructor | apply Sub.suf))
   ·
    intro h15c
    simp only [decide_eq_false_iff_not] at h15c
    refine cs ?_
    refine cr ?_
    refine ls (op (p_icmp rfl rfl rfl) rfl) ?_
    refine ls (op (p_asg rfl) rfl) ?_
    refine ln ?_
    refine nthen ?_
    refine cc rfl ?_ ?_
    ·
     intro h22
     try simp only [decide_eq_true_eq, decide_eq_false_iff_not, Bool.not_eq_true', Bool.not_eq_false', Int.not_lt, Int.not_le, ge_iff_le, Bool.not_true, Bool.not_false] at h22
     refine cr ?_
     refine ls (op (p_fa fa70_2 rfl) rfl) ?_
     refine ls (o_ld Tryz.isAgg9 rfl (by repeat' constructor) (by repeat' constructor) rfl) ?_
     refine ls (op (p_fa fa70_1 rfl) rfl) ?_
     refine ls (o_ld Tryz.isAgg9 rfl (by repeat' constructor) (by repeat' constructor) rfl) ?_
     refine ls (op (p_fa fa70_1 rfl) rfl) ?_
     refine ls (o_st rfl Tryz.sizeOf9 rfl rfl rfl rfl rfl (by repeat' constructor) (by repeat' constructor) (by repeat' constructor)) ?_
     refine ls (op (p_fa fa70_2 rfl) rfl) ?_
     refine ls (o_st rfl Tryz.sizeOf9 rfl rfl rfl rfl rfl (by repeat' constructor) (by repeat' constructor) (by repeat' constructor)) ?_
     refine ln ?_
     refine nblock ?_
     refine nthen ?_
     refine cs ?_
     refine cr ?_
     refine ls (o_ldw Tryz.isAgg70 Tryz.sizeOf70 rfl (by repeat' constructor) (by rfl) rfl) ?_
     refine ls (o_st rfl Tryz.sizeOf70 rfl rfl rfl rfl rfl (by repeat' constructor) (by repeat' constructor) (by repeat' constructor)) ?_
     refine ln ?_
     refine nthen ?_
     refine cret ?_
     refine xret (fun _ _ h => h) ?_
     refine rret (is := []) ⟨({ p with name := p.to, to := p.name }, y1), by rw [flip3 h22]⟩ (Or.inl rfl) (Res.c rfl Tryz.isAgg70 Tryz.sizeOf70 (by repeat' constructor) (by rfl) Res.d) (rfl) rfl (by repeat' (first | constructor | apply Sub.suf))
    ·
     intro h22
     try simp only [decide_eq_true_eq, decide_eq_false_iff_not, Bool.not_eq_true', Bool.not_eq_false', Int.not_lt, Int.not_le, ge_iff_le, Bool.not_true, Bool.not_false] at h22
     refine cskip ?_
     refine nblock ?_
     refine nthen ?_
     refine cs ?_
     refine cr ?_
     refine ls (o_ldw Tryz.isAgg70 Tryz.sizeOf70 rfl (by repeat' constructor) (by rfl) rfl) ?_
     refine ls (o_st rfl Tryz.sizeOf70 rfl rfl rfl rfl rfl (by repeat' constructor) (by repeat' constructor) (by repeat' constructor)) ?_
     refine ln ?_
     refine nthen ?_
     refine cret ?_
     refine xret (fun _ _ h => h) ?_
     refine rret (is := []) ⟨(p, y1), by rw [Prim.flip, if_neg h7, if_neg (by omega), if_neg h22]⟩ (Or.inl rfl) (Res.c rfl Tryz.isAgg70 Tryz.sizeOf70 (by repeat' constructor) (by rfl) Res.d) (rfl) rfl (by repeat' (first | constructor | apply Sub.suf))

set_option maxRecDepth 100000 in
theorem c_refInvert (p : Prim) (y : Rp.Lay Prim) (hp : p.fit) : Con Tryz.prog 63 [sv p y] [] (Rp.asn p y) {x : Prim × Rp.Lay Prim // x.1 = p.flip} (fun x => sv x.1.1 x.1.2) (fun _ => []) (fun x => Rp.asn x.1.1 x.1.2) := by
 refine con Tryz.func63 rfl Tryz.ntmps63 rfl ?_
 intro M0 F0 w0
 refine cs ?_
 refine cr ?_
 refine ls (o_box rfl rfl rfl) ?_
 refine le ?_; intro b1
 refine ls (o_alloc Tryz.zeroValue72 rfl rfl) ?_
 refine le ?_; intro b2
 refine ln ?_
 refine nthen ?_
 refine cs ?_
 refine cs ?_
 refine cr ?_
 refine ls (op (p_fa fa72_0 rfl) rfl) ?_
 refine ls (o_ld Tryz.isAgg3 rfl (by repeat' constructor) (by repeat' constructor) rfl) ?_
 refine ln ?_
 refine nthen ?_
 refine cb ?_
 refine cs ?_
 refine cr ?_
 refine ls (op (p_icmp rfl rfl rfl) rfl) ?_
 refine ls (op (p_asg rfl) rfl) ?_
 refine ln ?_
 refine nthen ?_
 refine cc rfl ?_ ?_
 ·
  intro h5
  try simp only [decide_eq_true_eq, decide_eq_false_iff_not, Bool.not_eq_true', Bool.not_eq_false', Int.not_lt, Int.not_le, ge_iff_le, Bool.not_true, Bool.not_false] at h5
  refine cs ?_
  refine cr ?_
  refine ls (op (p_fa fa72_1 rfl) rfl) ?_
  refine ls (o_ld Tryz.isAgg9 rfl (by repeat' constructor) (by repeat' constructor) rfl) ?_
  refine ls (op (p_fa fa72_2 rfl) rfl) ?_
  refine ls (o_ld Tryz.isAgg9 rfl (by repeat' constructor) (by repeat' constructor) rfl) ?_
  refine ls (op (p_fa fa72_3 rfl) rfl) ?_
  refine ls (o_ld Tryz.isAgg3 rfl (by repeat' constructor) (by repeat' constructor) rfl) ?_
  refine ls (op (p_fa fa72_5 rfl) rfl) ?_
  refine ls (o_ld Tryz.isAgg32 rfl (by repeat' constructor) (by repeat' constructor) rfl) ?_
  refine ls (op (p_fa fa72_4 rfl) rfl) ?_
  refine ls (o_ld Tryz.isAgg32 rfl (by repeat' constructor) (by repeat' constructor) rfl) ?_
  refine ls (op (p_bld sb72 rfl (Fill.t (by repeat' constructor) rfl rfl (by repeat' constructor) (Fill.t (by repeat' constructor) rfl rfl (by repeat' constructor) (Fill.t (by repeat' constructor) rfl rfl (by repeat' constructor) (Fill.t (by repeat' constructor) rfl rfl (by repeat' constructor) (Fill.t (by repeat' constructor) rfl rfl (by repeat' constructor) (Fill.t (by repeat' constructor) rfl rfl (by repeat' constructor) Fill.d))))))) rfl) ?_
  refine ls (o_st rfl Tryz.sizeOf72 rfl rfl rfl rfl rfl (by repeat' constructor) (by repeat' constructor) (by repeat' constructor)) ?_
  refine ln ?_
  refine nthen ?_
  refine cret ?_
  refine xret (fun _ _ h => h) ?_
  refine rret (is := []) ⟨({ p with kind := 0, old := p.new, new := p.old }, (y.2, y.1)), by rw [flip0 h5, h5]⟩ (Or.inl rfl) (Res.c rfl Tryz.isAgg72 Tryz.sizeOf72 (by repeat' constructor) (by rfl) Res.d) (rfl) rfl (by repeat' (first | constructor | apply Sub.suf))
 ·
  intro h5
  try simp only [decide_eq_true_eq, decide_eq_false_iff_not, Bool.not_eq_true', Bool.not_eq_false', Int.not_lt, Int.not_le, ge_iff_le, Bool.not_true, Bool.not_false] at h5
  refine cs ?_
  refine cr ?_
  refine ls (op (p_icmp rfl rfl rfl) rfl) ?_
  refine ls (op (p_asg rfl) rfl) ?_
  refine ln ?_
  refine nthen ?_
  refine cc rfl ?_ ?_
  ·
   intro h18
   try simp only [decide_eq_true_eq, decide_eq_false_iff_not, Bool.not_eq_true', Bool.not_eq_false', Int.not_lt, Int.not_le, ge_iff_le, Bool.not_true, Bool.not_false] at h18
   refine cr ?_
   refine ls (op (p_fa fa72_0 rfl) rfl) ?_
   refine ls (o_st rfl Tryz.sizeOf3 rfl rfl rfl rfl rfl (by repeat' constructor) (by repeat' constructor) (by repeat' constructor)) ?_
   refine ln ?_
   refine nblock ?_
   refine nthen ?_
   refine cs ?_
   refine cr ?_
   refine ls (o_ldw Tryz.isAgg72 Tryz.sizeOf72 rfl (by repeat' constructor) (by rfl) rfl) ?_
   refine ls (o_st rfl Tryz.sizeOf72 rfl rfl rfl rfl rfl (by repeat' constructor) (by repeat' constructor) (by repeat' constructor)) ?_
   refine ln ?_
   refine nthen ?_
   refine cret ?_
   refine xret (fun _ _ h => h) ?_
   refine rret (is := []) ⟨({ p with kind := 2 }, y), by rw [Prim.flip, if_neg h5, if_pos (Or.inl h18), h18]; rfl⟩ (Or.inl rfl) (Res.c rfl Tryz.isAgg72 Tryz.sizeOf72 (by repeat' constructor) (by rfl) Res.d) (rfl) rfl (by repeat' (first | constructor | apply Sub.suf))
  ·
   intro h18
   try simp only [decide_eq_true_eq, decide_eq_false_iff_not, Bool.not_eq_true', Bool.not_eq_false', Int.not_lt, Int.not_le, ge_iff_le, Bool.not_true, Bool.not_false] at h18
   refine cs ?_
   refine cr ?_
   refine ls (op (p_icmp rfl rfl rfl) rfl) ?_
   refine ls (op (p_asg rfl) rfl) ?_
   refine ln ?_
   refine nthen ?_
   refine cc rfl ?_ ?_
   ·
    intro h21
    try simp only [decide_eq_true_eq, decide_eq_false_iff_not, Bool.not_eq_true', Bool.not_eq_false', Int.not_lt, Int.not_le, ge_iff_le, Bool.not_true, Bool.not_false] at h21
    refine cr ?_
    refine ls (op (p_fa fa72_0 rfl) rfl) ?_
    refine ls (o_st rfl Tryz.sizeOf3 rfl rfl rfl rfl rfl (by repeat' constructor) (by repeat' constructor) (by repeat' constructor)) ?_
    refine ln ?_
    refine nblock ?_
    refine nthen ?_
    refine cs ?_
    refine cr ?_
    refine ls (o_ldw Tryz.isAgg72 Tryz.sizeOf72 rfl (by repeat' constructor) (by rfl) rfl) ?_
    refine ls (o_st rfl Tryz.sizeOf72 rfl rfl rfl rfl rfl (by repeat' constructor) (by repeat' constructor) (by repeat' constructor)) ?_
    refine ln ?_
    refine nthen ?_
    refine cret ?_
    refine xret (fun _ _ h => h) ?_
    refine rret (is := []) ⟨({ p with kind := 1 }, y), by rw [Prim.flip, if_neg h5, if_pos (Or.inr h21), h21]; rfl⟩ (Or.inl rfl) (Res.c rfl Tryz.isAgg72 Tryz.sizeOf72 (by repeat' constructor) (by rfl) Res.d) (rfl) rfl (by repeat' (first | constructor | apply Sub.suf))
   ·
    intro h21
    try simp only [decide_eq_true_eq, decide_eq_false_iff_not, Bool.not_eq_true', Bool.not_eq_false', Int.not_lt, Int.not_le, ge_iff_le, Bool.not_true, Bool.not_false] at h21
    refine cs ?_
    refine cr ?_
    refine ls (op (p_icmp rfl rfl rfl) rfl) ?_
    refine ls (op (p_asg rfl) rfl) ?_
    refine ln ?_
    refine nthen ?_
    refine cc rfl ?_ ?_
    ·
     intro h24
     try simp only [decide_eq_true_eq, decide_eq_false_iff_not, Bool.not_eq_true', Bool.not_eq_false', Int.not_lt, Int.not_le, ge_iff_le, Bool.not_true, Bool.not_false] at h24
     refine cs ?_
     refine cr ?_
     refine ls (op (p_fa fa72_2 rfl) rfl) ?_
     refine ls (o_ld Tryz.isAgg9 rfl (by repeat' constructor) (by repeat' constructor) rfl) ?_
     refine ls (op (p_fa fa72_1 rfl) rfl) ?_
     refine ls (o_ld Tryz.isAgg9 rfl (by repeat' constructor) (by repeat' constructor) rfl) ?_
     refine ls (op (p_fa fa72_3 rfl) rfl) ?_
     refine ls (o_ld Tryz.isAgg3 rfl (by repeat' constructor) (by repeat' constructor) rfl) ?_
     refine ls (op (p_fa fa72_4 rfl) rfl) ?_
     refine ls (o_ld Tryz.isAgg32 rfl (by repeat' constructor) (by repeat' constructor) rfl) ?_
     refine ls (op (p_fa fa72_5 rfl) rfl) ?_
     refine ls (o_ld Tryz.isAgg32 rfl (by repeat' constructor) (by repeat' constructor) rfl) ?_
     refine ls (op (p_bld sb72 rfl (Fill.t (by repeat' constructor) rfl rfl (by repeat' constructor) (Fill.t (by repeat' constructor) rfl rfl (by repeat' constructor) (Fill.t (by repeat' constructor) rfl rfl (by repeat' constructor) (Fill.t (by repeat' constructor) rfl rfl (by repeat' constructor) (Fill.t (by repeat' constructor) rfl rfl (by repeat' constructor) (Fill.t (by repeat' constructor) rfl rfl (by repeat' constructor) Fill.d))))))) rfl) ?_
     refine ls (o_st rfl Tryz.sizeOf72 rfl rfl rfl rfl rfl (by repeat' constructor) (by repeat' constructor) (by repeat' constructor)) ?_
     refine ln ?_
     refine nthen ?_
     refine cret ?_
     refine xret (fun _ _ h => h) ?_
     refine rret (is := []) ⟨({ p with kind := 3, name := p.to, to := p.name }, y), by rw [flip3 h24, h24]⟩ (Or.inl rfl) (Res.c rfl Tryz.isAgg72 Tryz.sizeOf72 (by repeat' constructor) (by rfl) Res.d) (rfl) rfl (by repeat' (first | constructor | apply Sub.suf))
    ·
     intro h24
     try simp only [decide_eq_true_eq, decide_eq_false_iff_not, Bool.not_eq_true', Bool.not_eq_false', Int.not_lt, Int.not_le, ge_iff_le, Bool.not_true, Bool.not_false] at h24
     refine cskip ?_
     refine nblock ?_
     refine nthen ?_
     refine cs ?_
     refine cr ?_
     refine ls (o_ldw Tryz.isAgg72 Tryz.sizeOf72 rfl (by repeat' constructor) (by rfl) rfl) ?_
     refine ls (o_st rfl Tryz.sizeOf72 rfl rfl rfl rfl rfl (by repeat' constructor) (by repeat' constructor) (by repeat' constructor)) ?_
     refine ln ?_
     refine nthen ?_
     refine cret ?_
     refine xret (fun _ _ h => h) ?_
     refine rret (is := []) ⟨(p, y), by rw [Prim.flip, if_neg h5, if_neg (by omega), if_neg h24]⟩ (Or.inl rfl) (Res.c rfl Tryz.isAgg72 Tryz.sizeOf72 (by repeat' constructor) (by rfl) Res.d) (rfl) rfl (by repeat' (first | constructor | apply Sub.suf))

end Go.Proofs.YtheamdahngfpdaaGreatDoor.X

end
