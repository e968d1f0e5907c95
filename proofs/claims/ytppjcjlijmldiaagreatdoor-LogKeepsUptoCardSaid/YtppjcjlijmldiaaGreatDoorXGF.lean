/- OWN WORK: a part of the proof of a law of the seat YtppjcjlijmldiaaGreatDoor: the rules by which the code is walked, what the functions compute, and the walk through them. -/
import Derived.Test.YtppjcjlijmldiaaGreatDoorXGA
import Derived.Test.YtppjcjlijmldiaaGreatDoorProg
import Derived.Test.YtppjcjlijmldiaaGreatDoorXGE
import Derived.Test.YtppjcjlijmldiaaGreatDoorXGB
import Derived.Test.YtppjcjlijmldiaaGreatDoorXGD
section
set_option linter.unusedVariables false
set_option linter.unusedSimpArgs false
namespace Go.Proofs.YtppjcjlijmldiaaGreatDoor.X
open Go Go.RowKit Go.Proofs Go.Sx
open Tryz
attribute [local irreducible] slA isA box row TrL TrC TrN TrA Pu OpR
set_option maxHeartbeats 8000000
theorem add_step {m n : Nat} {a g : List Patch} {p : Patch} {T : List File} (h : LogI m n (a ++ p :: g) T) : rowT (treeP a) p.l = (treeP (a ++ [p]), 0) := by
 have h1 : LogI m n ((a ++ [p]) ++ g) T := by simpa using h
 obtain ⟨V, h2, _⟩ := h1.sub
 obtain ⟨U, h3, h4⟩ := h2.sub
 rw [pl_one] at h4
 rw [h2.tree, h3.tree, rowT_ok h4]
theorem LogI.pre {m n : Nat} {a g : List Patch} {T : List File} (h : LogI m n (a ++ g) T) : LogI m n a (treeP a) := by
 obtain ⟨U, h1, _⟩ := h.sub
 exact h1.self
theorem take_cut {a g : List Patch} {k : Nat} (hk : k < g.length) : a ++ g = (a ++ g.take k) ++ g[k] :: g.drop (k + 1) := by
 rw [List.append_assoc, ← List.drop_eq_getElem_cons hk, List.take_append_drop]
set_option maxRecDepth 100000 in
theorem c_LogTakes (ops : List LOp) (A0 : Option Addr) (c0 : Nat) (hlo : ops.length ≤ 2000000) (hfo : ∀ o ∈ ops, o.p.fit) (hM : (ops.map (fun o : LOp => pmany [o.p])).sum ≤ 1000000000000) (hM2 : (ops.map (fun o : LOp => o.ids.length + o.p.l.length)).sum ≤ 1000000000000) (v : Int) : Con Tryz.prog 8 [.slice A0 ops.length c0, .int .i64 v] [] [slA A0 ops] Unit (fun _ => .bool true) (fun _ => []) (fun _ => []) := by
 refine con func8 rfl ntmps8 rfl ?_
 intro M0 F0 w0
 refine k_ 9 ?_
 refine lC [] call10 (c_few8 ops A0 c0 hlo hfo hM hM2) ?_; intro x15
 refine k_ 3 ?_
 refine cc rfl ?_ ?_
 ·
  intro h16
  refine k_ 2 ?_
  refine lC [] call11 (c_alive08) ?_; intro x17
  refine k_ 5 ?_
  exact rR [] ()
 ·
  intro h16
  obtain ⟨hw1, hz8, hy8, hi8⟩ := few8_yes (ops := ops) (by have h := h16; simp at h; exact h)
  refine k_ 5 ?_
  refine lC [] call23 (c_made8 ops A0 c0 hlo hfo hz8 hy8 hi8) ?_; rintro ⟨⟨⟨A, c⟩, ⟨pl, p, b⟩⟩, ⟨A5, c5⟩⟩
  have hI := madeL_ok (ops := ops) hfo
  have hll := hI.len
  have hf := hI.ok.fit
  have hnd := hI.ok.nodup
  refine k_ 11 ?_
  refine ls (op (p_ptrnil underlying25 rfl rfl) rfl) ?_
  refine k_ 2 ?_
  refine cc rfl (fun h => by cases h) (fun h => ?_)
  refine k_ 5 ?_
  refine lC [0, 0, 0, 0] call35 (c_logCopy (madeL ops) A c (by omega) hf pl p b (treeP (madeL ops))) ?_; rintro ⟨⟨Ak, ck⟩, ⟨qk, pk, bk⟩⟩
  refine k_ 1 ?_
  refine lC [4, 5, 5] call20 (c_logTree pl p b (treeP (madeL ops)) _) ?_; rintro ⟨p8, b8⟩
  refine k_ 5 ?_
  refine cpure (rowFact (α := Patch) (A := A) (c := c) (l := (madeL ops)) Θ) ?_
  rintro ⟨hAx, hcx⟩
  refine k_ 3 ?_
  refine lC [9, 2, 2, 2] call36 (c_logTake (madeL ops) A c (by omega) hf hcx hAx pl p b v (treeP (madeL ops)) (omz ops) (omy ops) hI (by omega) (by omega)) ?_; rintro ⟨⟨⟨⟨n1, g1⟩, e1⟩, ⟨⟨A1, c1⟩, ⟨A9, c9⟩⟩⟩, ht⟩
  dsimp only at ht
  have hF : LogI (omz ops) (omy ops) (n1 ++ g1) (treeP (madeL ops)) := by have h := hI.swp (takeP_swp (v := v)); rw [← ht] at h; exact h
  have hgl := takeP_len (madeL ops) v; rw [← ht] at hgl; dsimp only at hgl
  have hor := takeP_order (v := v) hnd; rw [← ht] at hor; dsimp only at hor
  refine k_ 11 ?_
  refine ls (op (p_ptrnil underlying25 rfl rfl) rfl) ?_
  refine k_ 2 ?_
  refine lwant rfl rfl rfl rfl (op (p_ptrnil underlying47 rfl rfl) rfl) ?_
  refine k_ 3 ?_
  refine cc rfl (fun h => by cases h) (fun h => ?_)
  refine k_ 9 ?_
  refine cc rfl ?_ ?_
  ·
   intro h42
   have he : ¬ e1 = 0 := by have h := h42; simpa using h
   have hat : atP (madeL ops) v < 0 := by rcases atP_cases (madeL ops) v with ⟨h1, _⟩ | ⟨k0, hk0, h1, _⟩; omega; exact absurd (by rw [show e1 = (takeP (madeL ops) v).2 from congrArg Prod.snd ht, takeP_yes h1 (g := (group ((madeL ops).drop k0)).1) (r := (group ((madeL ops).drop k0)).2) rfl]) he
   obtain ⟨rfl, rfl, rfl⟩ := ptw (ht.trans (takeP_no hat))
   refine k_ 2 ?_
   refine lC [] call11 (c_alive08) ?_; intro x43
   refine k_ 3 ?_
   refine lwant rfl rfl rfl rfl (o_call (is := [0, 0, 4, 4, 4, 4]) call37 (c_logSame (madeL ops) (madeL ops) A1 Ak c1 ck (by omega) hf (by omega) hf hnd pl p qk pk bk (treeP (madeL ops))) rfl rfl Ω rfl) ?_
   refine le ?_; intro x47
   refine fixL (congrArg Value.bool (sameP_refl _)) ?_
   refine k_ 5 ?_
   refine fixL (congrArg Value.bool (decide_eq_true rfl)) ?_
   refine k_ 6 ?_
   exact rR [] ()
  ·
   intro h42
   obtain rfl : e1 = 0 := by have h := h42; simpa using h
   refine k_ 5 ?_
   refine lC [0, 1, 1] call20 (c_logTree pl p b (treeP n1) _) ?_; rintro ⟨pU, bU⟩
   refine k_ 12 ?_
   refine cl (ι := {q : Nat × (Option Addr × Nat) // q.1 ≤ g1.length}) (fun i => St M0 F0 w0 96 [(5, .pointer (some ⟨pl, 0, none⟩)), (7, .pointer (some ⟨qk, 0, none⟩)), (8, .pointer (some ⟨p8, 0, none⟩)), (11, .pointer (some ⟨pU, 0, none⟩)), (56, .slice A9 g1.length c9), (57, .int .i64 (g1.length : Int)), (58, .int .i64 ((i.1.1 : Nat) : Int))] [box pU 119 [.map (some bU)], tr bU (treeP (n1 ++ g1.take i.1.1)), box pl 82 [.slice (i.1.2.1) (n1 ++ g1.take i.1.1).length (i.1.2.2), .pointer (some ⟨p, 0, none⟩)], row 55 (i.1.2.1) (i.1.2.2) (n1 ++ g1.take i.1.1), box p 119 [.map (some b)], tr b (treeP (n1 ++ g1.take i.1.1)), box p8 119 [.map (some b8)], tr b8 (treeP (madeL ops)), box qk 82 [.slice Ak (madeL ops).length ck, .pointer (some ⟨pk, 0, none⟩)], row 55 Ak ck (madeL ops), box pk 119 [.map (some bk)], tr bk (treeP (madeL ops))] [slA A9 g1]) (fun i => g1.length - i.1.1) ⟨(0, (A1, c1)), Nat.zero_le _⟩ (fun a w h => by dsimp only; rw [List.take_zero, List.append_nil]; exact wL [0, 0, 0, 2, 0, 0, 0, 0, 0, 0, 0, 0] h) ?_
   rintro ⟨⟨k, ⟨A2, c2⟩⟩, hk⟩
   refine cmono (S' := St M0 F0 w0 96 [(5, .pointer (some ⟨pl, 0, none⟩)), (7, .pointer (some ⟨qk, 0, none⟩)), (8, .pointer (some ⟨p8, 0, none⟩)), (11, .pointer (some ⟨pU, 0, none⟩)), (56, .slice A9 g1.length c9), (57, .int .i64 (g1.length : Int)), (58, .int .i64 ((k : Nat) : Int))] [box pU 119 [.map (some bU)], tr bU (treeP (n1 ++ g1.take k)), box pl 82 [.slice (A2) (n1 ++ g1.take k).length (c2), .pointer (some ⟨p, 0, none⟩)], row 55 (A2) (c2) (n1 ++ g1.take k), box p 119 [.map (some b)], tr b (treeP (n1 ++ g1.take k)), box p8 119 [.map (some b8)], tr b8 (treeP (madeL ops)), box qk 82 [.slice Ak (madeL ops).length ck, .pointer (some ⟨pk, 0, none⟩)], row 55 Ak ck (madeL ops), box pk 119 [.map (some bk)], tr bk (treeP (madeL ops))] [slA A9 g1]) Ħ ?_
   refine k_ 6 ?_
   refine cc rfl ?_ ?_
   ·
    intro h59
    dsimp only at hk
    try simp only [nrmZ] at h59
    have hk1 : k < g1.length := by omega
    have hF2 := hF; rw [take_cut (a := n1) hk1] at hF2
    have hP := hF2.pre
    have hst := add_step hF2
    have hab := add_back hF2
    have hfk : g1[k].fit := hF.ok.fit _ (List.mem_append_right _ (List.getElem_mem hk1))
    have hmk := hF.mem (List.mem_append_right n1 (List.getElem_mem hk1))
    have htk : n1 ++ g1.take (k + 1) = (n1 ++ g1.take k) ++ [g1[k]] := by rw [List.take_succ_eq_append_getElem hk1, List.append_assoc]
    have hlp := hP.len
    refine k_ 5 ?_
    refine elC (A := A9) (l := g1) Θ k (List.getElem?_eq_getElem (l := g1) hk1) ?_; rintro zbp zop zyp hAp
    refine cpure (St.cap (m := g1[k].l.length) (c := zyp.2.2) Θ) ?_
    intro hcapk
    refine cr ?_
    refine ls (op (p_ia k hAp hk1 rfl underlying37 sizeOf55 rfl rfl) rfl) ?_
    refine ls (o_ldj isAgg55 sizeOf55 rfl Θ 0 rfl Δ rfl) ?_
    refine ls (o_alloc zeroValue55 rfl rfl) ?_
    refine le ?_; intro b13
    refine k_ 8 ?_
    refine lC [1, 1] call38 (c_seqApply pU bU (treeP (n1 ++ g1.take k)) (omz ops) (omy ops) hP.app g1[k].l zyp.2.1 zyp.2.2 hcapk (by omega) hfk.lf (by omega) (by omega)) ?_; rintro ⟨⟨U, e65⟩, hq⟩
    obtain ⟨rfl, rfl⟩ := ptwo_eq (hq.trans hst)
    refine k_ 1 ?_
    refine fixL (v' := .bool false) (congrArg Value.bool (by simp)) ?_
    refine k_ 2 ?_
    refine lwant rfl rfl rfl rfl (o_ldw isAgg55 sizeOf55 rfl Θ (by rfl) rfl) ?_
    refine lwant rfl rfl rfl rfl (o_call (is := [3, 3, 3, 3]) call39 (c_logAdd (n1 ++ g1.take k) A2 c2 (by omega) pl p b (treeP (n1 ++ g1.take k)) g1[k] zyp hfk (omz ops) (omy ops) hP.app (by omega) (by omega)) rfl rfl Ω rfl) ?_
    refine le ?_; rintro ⟨⟨⟨⟨l1, T1⟩, e2⟩, ⟨A3, c3⟩⟩, ho⟩
    dsimp only at ho
    obtain ⟨ha1, ha2, ha3⟩ := hP.addP hfk
    rw [← ho, hab] at ha1; rw [← ho, hab] at ha2; rw [← ho, hab] at ha3
    dsimp only at ha1 ha2 ha3
    subst ha1 ha2
    obtain rfl : T1 = treeP ((n1 ++ g1.take k) ++ [g1[k]]) := ha3.tree.symm
    refine k_ 1 ?_
    refine fixL (v' := .bool false) (congrArg Value.bool (by simp)) ?_
    refine k_ 3 ?_
    refine cc rfl (fun h => by cases h) (fun h => ?_)
    refine k_ 7 ?_
    refine nnext ⟨(k + 1, (A3, c3)), hk1⟩ (by dsimp only; omega) (fun a w h => by dsimp only; rw [htk]; exact wL [4, 4, 0, 0, 0, 0, 1, 1, 1, 1, 1, 1] h)
   ·
    intro h59
    dsimp only at hk
    try simp only [nrmZ] at h59
    obtain rfl : k = g1.length := by omega
    rw [List.take_length]
    have hTT := hF.tree
    refine k_ 7 ?_
    refine lC [] call11 (c_alive08) ?_; intro x74
    refine k_ 3 ?_
    refine lwant rfl rfl rfl rfl (o_call (is := [0, 0, 4, 4]) call34 (c_tSame pU bU p8 b8 (treeP (n1 ++ g1)) (treeP (madeL ops)) (fun x hx => Nat.le_trans (hF.self.app.lmax x hx) (by omega))) rfl rfl Ω rfl) ?_
    refine le ?_; intro x78
    refine fixL (congrArg Value.bool (decide_eq_true hTT)) ?_
    refine k_ 3 ?_
    refine lwant rfl rfl rfl rfl (o_call (is := [4, 5, 5]) call20 (c_logTree pl p b (treeP (n1 ++ g1)) _) rfl rfl Ω rfl) ?_
    refine le ?_; rintro ⟨p5, b5⟩
    refine k_ 1 ?_
    refine lwant rfl rfl rfl rfl (o_call (is := [0, 0, 5, 5]) call34 (c_tSame p5 b5 p8 b8 (treeP (n1 ++ g1)) (treeP (madeL ops)) (fun x hx => Nat.le_trans (hF.self.app.lmax x hx) (by omega))) rfl rfl Ω rfl) ?_
    refine le ?_; intro x84
    refine fixL (congrArg Value.bool (decide_eq_true hTT)) ?_
    refine k_ 4 ?_
    refine lwant rfl rfl rfl rfl (o_call (is := [4, 8, 8, 8, 8, 8]) call37 (c_logSame (n1 ++ g1) (madeL ops) A2 Ak c2 ck (by rw [List.length_append]; omega) hF.ok.fit (by omega) hf hnd pl p qk pk bk (treeP (madeL ops))) rfl rfl Ω rfl) ?_
    refine le ?_; intro x89
    refine fixL (congrArg Value.bool (sameP_iff.2 hor)) ?_
    refine k_ 4 ?_
    refine lwant rfl rfl rfl rfl (o_call (is := [2, 2, 0, 0, 6, 6]) call37 (c_logSame (madeL ops) (n1 ++ g1) Ak A2 ck c2 (by omega) hf (by rw [List.length_append]; omega) hF.ok.fit hF.ok.nodup qk pk pl p b (treeP (n1 ++ g1))) rfl rfl Ω rfl) ?_
    refine le ?_; intro x94
    refine fixL (congrArg Value.bool (sameP_iff.2 (orderP_back hnd hor))) ?_
    refine k_ 6 ?_
    exact rR [] ()
end Go.Proofs.YtppjcjlijmldiaaGreatDoor.X
end
section
set_option linter.unusedVariables false
set_option linter.unusedSimpArgs false
namespace Go.Proofs.YtppjcjlijmldiaaGreatDoor.X
open Go Go.RowKit Go.Proofs Go.Sx
open Tryz
attribute [local irreducible] slA isA box row TrL TrC TrN TrA Pu OpR
set_option maxHeartbeats 8000000
theorem drop_at {L : List Patch} {m : Nat} (h0 : 0 < m) (hm : m ≤ L.length) (T : List File) : ∃ U, dropP (L.take m) T = ((L.take (m - 1), U), (L[m - 1]'(by omega), true)) := by
 have hl : (L.take m).length = m := by rw [List.length_take]; omega
 have hd := dropP_yes (l := L.take m) (T := T) (by omega) (U := (rowT T (invL ((L.take m)[(L.take m).length - 1]'(by omega)).l)).1) (e := (rowT T (invL ((L.take m)[(L.take m).length - 1]'(by omega)).l)).2) rfl
 have e1 : (L.take m).take ((L.take m).length - 1) = L.take (m - 1) := by rw [hl, List.take_take]; congr 1; omega
 have e2 : (L.take m)[(L.take m).length - 1]'(by omega) = L[m - 1]'(by omega) := by simp only [hl, List.getElem_take]
 exact ⟨_, hd.trans (by rw [e1, e2])⟩
set_option maxRecDepth 100000 in
theorem c_LogDrops (ops : List LOp) (A0 : Option Addr) (c0 : Nat) (hlo : ops.length ≤ 2000000) (hfo : ∀ o ∈ ops, o.p.fit) (hM : (ops.map (fun o : LOp => pmany [o.p])).sum ≤ 1000000000000) (hM2 : (ops.map (fun o : LOp => o.ids.length + o.p.l.length)).sum ≤ 1000000000000) : Con Tryz.prog 6 [.slice A0 ops.length c0] [] [slA A0 ops] Unit (fun _ => .bool true) (fun _ => []) (fun _ => []) := by
 refine con func6 rfl ntmps6 rfl ?_
 intro M0 F0 w0
 refine k_ 9 ?_
 refine lC [] call10 (c_few8 ops A0 c0 hlo hfo hM hM2) ?_; intro x11
 refine k_ 3 ?_
 refine cc rfl ?_ ?_
 ·
  intro h12
  refine k_ 2 ?_
  refine lC [] call11 (c_alive08) ?_; intro x13
  refine k_ 5 ?_
  exact rR [] ()
 ·
  intro h12
  obtain ⟨hw1, hz8, hy8, hi8⟩ := few8_yes (ops := ops) (by have h := h12; simp at h; exact h)
  refine k_ 5 ?_
  refine lC [] call23 (c_made8 ops A0 c0 hlo hfo hz8 hy8 hi8) ?_; rintro ⟨⟨⟨A, c⟩, ⟨pl, p, b⟩⟩, ⟨A5, c5⟩⟩
  have hI := madeL_ok (ops := ops) hfo
  have hll := hI.len
  have hf := hI.ok.fit
  have hnd := hI.ok.nodup
  refine k_ 11 ?_
  refine ls (op (p_ptrnil underlying25 rfl rfl) rfl) ?_
  refine k_ 2 ?_
  refine cc rfl (fun h => by cases h) (fun h => ?_)
  refine k_ 4 ?_
  refine cpure (St.cap (m := (madeL ops).length) (c := c5) Θ) ?_
  intro hc5
  refine k_ 8 ?_
  refine cl (ι := {m : Nat // m ≤ (madeL ops).length}) (fun i => St M0 F0 w0 72 [(3, .pointer (some ⟨pl, 0, none⟩)), (4, .slice A5 (madeL ops).length c5), (5, .int .i64 (((i.1 : Nat) : Int) - 1))] [box pl 82 [.slice A ((madeL ops).take i.1).length c, .pointer (some ⟨p, 0, none⟩)], row 55 A c ((madeL ops).take i.1), box p 119 [.map (some b)], tr b (treeP ((madeL ops).take i.1))] [slA A5 (madeL ops)]) (fun i => i.1) ⟨(madeL ops).length, Nat.le_refl _⟩ (fun a w h => by dsimp only; rw [List.take_length]; exact wL [0, 0, 0, 0] h) ?_
  rintro ⟨m, hm⟩
  refine cmono (S' := St M0 F0 w0 72 [(3, .pointer (some ⟨pl, 0, none⟩)), (4, .slice A5 (madeL ops).length c5), (5, .int .i64 (((m : Nat) : Int) - 1))] [box pl 82 [.slice A ((madeL ops).take m).length c, .pointer (some ⟨p, 0, none⟩)], row 55 A c ((madeL ops).take m), box p 119 [.map (some b)], tr b (treeP ((madeL ops).take m))] [slA A5 (madeL ops)]) Ħ ?_
  refine k_ 7 ?_
  refine cc rfl ?_ ?_
  ·
   intro h25
   try simp only [nrmZ] at h25
   have hm1 : 0 < m := by omega
   have hm2 : m - 1 < (madeL ops).length := by omega
   have hIm : LogI (omz ops) (omy ops) ((madeL ops).take m) (treeP ((madeL ops).take m)) := LogI.pre (g := (madeL ops).drop m) (by rw [List.take_append_drop]; exact hI)
   have hIp : LogI (omz ops) (omy ops) ((madeL ops).take (m - 1)) (treeP ((madeL ops).take (m - 1))) := LogI.pre (g := (madeL ops).drop (m - 1)) (by rw [List.take_append_drop]; exact hI)
   have hlm := hIm.len; have hlp := hIp.len
   have hfk := hf _ (List.getElem_mem hm2)
   refine k_ 7 ?_
   refine lC [0, 0, 0, 0] call31 (c_logDrop ((madeL ops).take m) A c (by omega) hIm.ok.fit pl p b (treeP ((madeL ops).take m)) (omz ops) (omy ops) hIm.app (fun q hq => by have := hIm.mem hq; omega) (fun q hq => by have := hIm.mem hq; omega)) ?_; rintro ⟨⟨⟨⟨l1, T1⟩, ⟨q1, b1⟩⟩, y30⟩, ho⟩
   dsimp only at ho
   obtain ⟨U, hU⟩ := drop_at hm1 hm (treeP ((madeL ops).take m))
   obtain ⟨rfl, rfl, rfl, rfl⟩ := pfo (ho.trans hU)
   have hd2 := hIm.drop; rw [← ho] at hd2
   obtain ⟨hd3, hd4, _⟩ := hd2
   dsimp only at hd3 hd4
   rw [← hd3] at hd4
   obtain rfl := hd4.tree
   refine k_ 3 ?_
   refine ls (o_alloc zeroValue55 rfl rfl) ?_
   refine le ?_; intro b6
   refine k_ 5 ?_
   refine elC (A := A5) (l := (madeL ops)) Θ (m - 1) (List.getElem?_eq_getElem hm2) ?_; rintro zbs zos zys hAs
   refine cmono (fun a w h => subS (A := A5) (l := (madeL ops)) (l' := ((madeL ops).take (m - 1))) (c := c5) 0 (m - 1) (by repeat (first | exact In.z | apply In.s)) (by omega) (by omega) hc5 (by simp) h) ?_
   refine cdB [4, 9, 14, 15, 19, 20] [(3, b6, 0, _), (8, zbs, zos + (m - 1) * Rp.size Patch, _)] TryzX.mixed Ψ Ψ (TOk.t (isBoxS Θ (k := 4) Δ) (TOk.t (isInS Θ (k := 0) rfl (z := 4) Δ) TOk.d)) ?_
   refine t_ 0 3 ?_
   refine tkB 3 rfl Ψ Υ (gyes rfl rfl rfl rfl) (TTat (List.Mem.head _)) (p_lda isAgg55 sizeOf55 rfl rfl) rfl ?_
   refine t_ 5 2 ?_
   refine tkB 7 rfl Ψ Υ (gyes rfl rfl rfl rfl) (TTany _) (p_ia (m - 1) hAs hm2 (by omega) underlying27 sizeOf31 rfl rfl) rfl ?_
   refine tkB 8 rfl Ψ Υ (gyes rfl rfl rfl rfl) (TTat (List.Mem.tail _ (List.Mem.head _))) (p_lda isAgg31 sizeOf31 rfl rfl) rfl ?_
   refine dfB 4 Ψ ?_
   refine doGB rfl rfl rfl rfl rfl (o_call (is := []) call29 (c_Old7 (madeL ops)[m - 1] y30 hfk) rfl rfl Ω rfl) (TOk.xP 4 [] Ψ (TOk.t (isBoxE fun _ => isInS Θ (k := 0) rfl (z := 4) Δ) TOk.d)) ?_
   refine eaB ?_; intro y37
   refine dfB 9 Ψ ?_
   refine doGB rfl rfl rfl rfl rfl (o_call (is := []) call28 (c_rSame (madeL ops)[m - 1] (madeL ops)[m - 1] y37 zys hfk hfk) rfl rfl Ω rfl) (TOk.xP 4 [] Ψ (TOk.xP 9 [] Ψ TOk.d)) ?_
   refine eaB ?_; intro x42
   refine fixB (congrArg Value.bool (decide_eq_true rfl)) ?_
   refine t_ 10 4 ?_
   refine t_ 16 2 ?_
   refine tkB 18 rfl Ψ Υ (gyes rfl rfl rfl rfl) (TTany _) (p_slh (m - 1) (by omega) (by omega) underlying27 sizeOf31 rfl rfl) rfl ?_
   refine fixB (slen (m' := ((madeL ops).take (m - 1)).length) (by rw [List.length_take]; omega)) ?_
   refine dfB 14 Ψ ?_
   refine doGB rfl rfl rfl rfl rfl (o_call (is := [1, 2, 2]) call20 (c_logTree pl p b (treeP ((madeL ops).take (m - 1))) (.slice A ((madeL ops).take (m - 1)).length c)) rfl rfl Ω rfl) (TOk.xP 4 [] Ψ (TOk.xP 9 [] Ψ TOk.d)) ?_
   refine eaB ?_; rintro ⟨p47, b47⟩
   refine dfB 15 Ψ ?_
   refine doGB rfl rfl rfl rfl rfl (o_call (is := [0, 0]) call19 (c_Old02 p47 b47 (treeP ((madeL ops).take (m - 1))) (by have := hIp.app.len; omega) (fun x hx => Nat.le_trans (hIp.app.lmax x hx) (by omega))) rfl rfl Ω rfl) (TOk.xP 4 [] Ψ (TOk.xP 9 [] Ψ TOk.d)) ?_
   refine eaB ?_; rintro ⟨A48, c48⟩
   refine dfB 19 Ψ ?_
   refine doGB rfl rfl rfl rfl rfl (o_call (is := []) call21 (c_r8Tree ((madeL ops).take (m - 1)) _ _ (by omega) hIp.ok.fit (by have := hIp.z; omega) (by have := hIp.y; omega)) rfl rfl Ω rfl) (TOk.xP 4 [] Ψ (TOk.xP 9 [] Ψ TOk.d)) ?_
   refine eaB ?_; rintro ⟨A52, c52⟩
   refine dfB 20 Ψ ?_
   refine doGB rfl rfl rfl rfl rfl (o_call (is := []) call18 (c_rSame02 (treeP ((madeL ops).take (m - 1))) (treeP ((madeL ops).take (m - 1))) A48 A52 c48 c52 (by have := hIp.app.len; omega) (fun x hx => Nat.le_trans (hIp.app.lmax x hx) (by omega))) rfl rfl Ω rfl) (TOk.xP 4 [] Ψ (TOk.xP 9 [] Ψ TOk.d)) ?_
   refine eaB ?_; intro x53
   refine fixB (congrArg Value.bool (decide_eq_true rfl)) ?_
   refine t_ 21 2 ?_
   refine dnB Ψ ?_
   refine k_ 1 ?_
   refine cc rfl (fun h => by cases h) (fun h => ?_)
   refine k_ 8 ?_
   refine nnext ⟨m - 1, by omega⟩ (by dsimp only; omega) (fun a w h => by dsimp only; rw [show (((m - 1 : Nat)) : Int) - 1 = (m : Int) - 1 - 1 by omega]; exact wL [2, 5, 2, 2] h)
  ·
   intro h25
   try simp only [nrmZ] at h25
   obtain rfl : m = 0 := by omega
   rw [List.take_zero]
   refine k_ 8 ?_
   refine lC [0, 0, 0, 0] call31 (c_logDrop [] A c (by simp) (fun q hq => by cases hq) pl p b (treeP []) 0 0 LogI.nil.app (fun q hq => by cases hq) (fun q hq => by cases hq)) ?_; rintro ⟨⟨⟨⟨l1, T1⟩, ⟨q1, b1⟩⟩, y58⟩, ho⟩
   obtain ⟨rfl, rfl, rfl, rfl⟩ := pfo (ho.trans (dropP_no (by simp)))
   refine k_ 3 ?_
   refine ls (o_alloc zeroValue55 rfl rfl) ?_
   refine le ?_; intro b8
   refine k_ 6 ?_
   refine lC [] call11 (c_alive08) ?_; intro x61
   refine k_ 6 ?_
   refine lwant rfl rfl rfl rfl (o_call (is := [1, 2, 2]) call20 (c_logTree pl p b (treeP []) _) rfl rfl Ω rfl) ?_
   refine le ?_; rintro ⟨p68, b68⟩
   refine lwant rfl rfl rfl rfl (o_call (is := [0, 0]) call32 (c_tTextS p68 b68 [] (⟨#[]⟩ : ByteArray) rfl (by decide) al3_f0 (by decide) [] (fun x hx => by cases hx)) rfl rfl Ω rfl) ?_
   refine le ?_; intro x69
   refine k_ 1 ?_
   refine fixL (congrArg Value.bool (decide_eq_true rfl)) ?_
   refine k_ 6 ?_
   exact rR [] ()
end Go.Proofs.YtppjcjlijmldiaaGreatDoor.X
end
section
set_option linter.unusedVariables false
set_option linter.unusedSimpArgs false
namespace Go.Proofs.YtppjcjlijmldiaaGreatDoor.X
open Go Go.RowKit Go.Proofs Go.Sx Go.Joins Go.ChangeShapes Go.WideShapes Go.Deep
section
variable {H : Type} {enc : TypeId × Value → H} {P : Program} {w : World}
structure PTys (P : Program) (t : TypeId) : Prop where
  ex : ∃ (f0 f1 f2 f3 : Field) (ei tp : TypeId) (g0 g1 g2 g3 g4 g5 : Field) (es : TypeId),
    P.underlying t = some (.struct #[f0, f1, f2, f3]) ∧ oneCellFields P #[f0, f1, f2, f3] = true ∧ P.cellsOf t = 4 ∧
    P.underlying f0.type = some (.int .i64) ∧ P.underlying f1.type = some .string ∧ P.underlying f2.type = some (.slice ei) ∧ P.underlying ei = some (.int .i64) ∧ P.cellsOf ei = 1 ∧ P.underlying f3.type = some (.slice tp) ∧
    P.underlying tp = some (.struct #[g0, g1, g2, g3, g4, g5]) ∧ oneCellFields P #[g0, g1, g2, g3, g4, g5] = true ∧ P.cellsOf tp = 6 ∧
    P.underlying g0.type = some (.int .i64) ∧ P.underlying g1.type = some .string ∧ P.underlying g2.type = some .string ∧ P.underlying g3.type = some (.int .i64) ∧ P.underlying g4.type = some (.slice es) ∧ P.underlying g5.type = some (.slice es) ∧ P.underlying es = some .string ∧ P.cellsOf es = 1
theorem open_patch_at {t : TypeId} {cs : List Value} {fuel : Nat} {x : DataW H × List MemPlace} (B : BulkI H) (hT : PTys P t) (hf : DataW.trod enc P w 0 (fun _ => true) true fuel t cs = some x) :
    ∃ (z : Patch) (y : Rp.Lay Patch), cs = Rp.enc z y ∧ (∀ a ∈ Rp.asn z y, a.p (fun _ => False) w) ∧ z.many + 1 ≤ B.one x.1 := by
  obtain ⟨f0, f1, f2, f3, ei, tp, u0, u1, u2, u3, u4, u5, es, hs, hone, hC, h0, h1, h2, hei, hci, h3, htp, hone2, hC2, k0, k1, k2, k3, k4, k5, hes, hces⟩ := hT.ex
  obtain ⟨xs, n, _, hx, hsz, hlen, hg⟩ := DataW.trod_struct hs hf
  match cs, hsz.trans hC with
  | [c0, c1, c2, c3], _ =>
    obtain ⟨o0, q0⟩ := hone_of hone 0 f0 rfl
    obtain ⟨o1, q1⟩ := hone_of hone 1 f1 rfl
    obtain ⟨o2, q2⟩ := hone_of hone 2 f2 rfl
    obtain ⟨o3, q3⟩ := hone_of hone 3 f3 rfl
    match xs, hlen with
    | [y0, y1, y2, y3], _ =>
      subst hx
      have g0 : DataW.trod enc P w 0 (fun _ => true) true n f0.type [c0] = some y0 := by simpa [o0, q0] using hg 0 f0 rfl
      have g1 : DataW.trod enc P w 0 (fun _ => true) true n f1.type [c1] = some y1 := by simpa [o1, q1] using hg 1 f1 rfl
      have g2 : DataW.trod enc P w 0 (fun _ => true) true n f2.type [c2] = some y2 := by simpa [o2, q2] using hg 2 f2 rfl
      have g3 : DataW.trod enc P w 0 (fun _ => true) true n f3.type [c3] = some y3 := by simpa [o3, q3] using hg 3 f3 rfl
      obtain ⟨z0, r0, e0, _⟩ := DataW.trod_int h0 g0
      obtain ⟨s1, r1, e1, _⟩ := DataW.trod_string h1 g1
      obtain ⟨l2, v2, r2, a2, b2⟩ := open_ints1 B h2 hei hci g2
      obtain ⟨l3, v3, r3, a3, b3, c3, _⟩ := open_slice (α := Prim) B.toBulk h3 hC2 (by decide) Prim.many (fun n cs x hx => open_prim_at B.toBulk htp hone2 hC2 k0 k1 k2 k3 k4 k5 hes hces hx) g3
      cases r0; cases r1; subst r2; subst r3
      refine ⟨⟨z0, s1, l2, l3⟩, (v2, v3), rfl, ?_, ?_⟩
      · intro a ha
        have ha' : a = slA v2.1 l2 ∨ a = slA v3.1 l3 ∨ a = capA v3.2 l3.length := by simpa [Rp.asn] using ha
        rcases ha' with rfl | rfl | rfl
        · exact a2
        · exact a3
        · exact c3
      · simp only [List.map_cons, List.map_nil]
        rw [B.agg]
        simp only [B.cons, B.nil]
        rw [e0, e1]
        simp only [B.str, B.int]
        have e7 : s1.data.toList.length = s1.size := by rw [Array.length_toList]; rfl
        have m3 : Sx.many l3 ≤ B.one y3.1 := b3
        simp only [Patch.many]
        omega
theorem pfit_many {p : Patch} (h : p.many ≤ 2000000) : p.fit := by
  unfold Patch.many at h
  have h1 : ∀ x ∈ p.l, x.many ≤ Sx.many p.l := by
    intro x hx
    unfold Sx.many
    have : x.many ≤ (p.l.map Prim.many).sum := by
      generalize p.l = l at hx
      induction l with
      | nil => cases hx
      | cons y l ih =>
        simp only [List.map_cons, List.sum_cons]
        rcases List.mem_cons.1 hx with rfl | hx
        · omega
        · have := ih hx; omega
    omega
  have h2 := many_len p.l
  exact ⟨by omega, by omega, by omega, fun x hx => by
    have := h1 x hx
    have hm : x.many ≤ 2000000 := by omega
    unfold Prim.many at hm
    have hs : ∀ (l : List ByteArray) (s : ByteArray), s ∈ l → s.size ≤ sizes l := by
      intro l s hs
      unfold sizes
      induction l with
      | nil => cases hs
      | cons y l ih =>
        simp only [List.map_cons, List.sum_cons]
        rcases List.mem_cons.1 hs with rfl | hs
        · omega
        · have := ih hs; omega
    exact ⟨by omega, by omega, by omega, by omega, fun s h => by have := hs _ _ h; omega, fun s h => by have := hs _ _ h; omega⟩⟩
end
end Go.Proofs.YtppjcjlijmldiaaGreatDoor.X
end
section
set_option linter.unusedVariables false
set_option linter.unusedSimpArgs false
namespace Go.Proofs.YtppjcjlijmldiaaGreatDoor.X
open Go Go.RowKit Go.Proofs Go.Sx Go.Joins Go.ChangeShapes Go.WideShapes Go.Deep
section
variable {H : Type} {enc : TypeId × Value → H} {P : Program} {w : World}
structure LTys (P : Program) (t : TypeId) : Prop where
  ex : ∃ (f0 f1 f2 f3 : Field) (ei : TypeId), P.underlying t = some (.struct #[f0, f1, f2, f3]) ∧ P.cellsOf t = 7 ∧
    (f0.offset = 0 ∧ f1.offset = 1 ∧ f2.offset = 5 ∧ f3.offset = 6) ∧ (P.cellsOf f0.type = 1 ∧ P.cellsOf f1.type = 4 ∧ P.cellsOf f2.type = 1 ∧ P.cellsOf f3.type = 1) ∧
    P.underlying f0.type = some (.int .i64) ∧ PTys P f1.type ∧ P.underlying f2.type = some (.int .i64) ∧ P.underlying f3.type = some (.slice ei) ∧ P.underlying ei = some (.int .i64) ∧ P.cellsOf ei = 1
def LOp.many (o : LOp) : Nat := o.p.many + o.ids.length
theorem open_lop_at {t : TypeId} {cs : List Value} {fuel : Nat} {x : DataW H × List MemPlace} (B : BulkI H) (hT : LTys P t) (hf : DataW.trod enc P w 0 (fun _ => true) true fuel t cs = some x) :
    ∃ (z : LOp) (y : Rp.Lay LOp), cs = Rp.enc z y ∧ (∀ a ∈ Rp.asn z y, a.p (fun _ => False) w) ∧ z.many + 1 ≤ B.one x.1 := by
  obtain ⟨f0, f1, f2, f3, ei, hs, hC, ⟨o0, o1, o2, o3⟩, ⟨q0, q1, q2, q3⟩, h0, h1, h2, h3, hei, hci⟩ := hT.ex
  obtain ⟨xs, n, _, hx, hsz, hlen, hg⟩ := DataW.trod_struct hs hf
  match cs, hsz.trans hC with
  | [c0, c1, c2, c3, c4, c5, c6], _ =>
    match xs, hlen with
    | [y0, y1, y2, y3], _ =>
      subst hx
      have g0 : DataW.trod enc P w 0 (fun _ => true) true n f0.type [c0] = some y0 := by simpa [o0, q0] using hg 0 f0 rfl
      have g1 : DataW.trod enc P w 0 (fun _ => true) true n f1.type [c1, c2, c3, c4] = some y1 := by simpa [o1, q1] using hg 1 f1 rfl
      have g2 : DataW.trod enc P w 0 (fun _ => true) true n f2.type [c5] = some y2 := by simpa [o2, q2] using hg 2 f2 rfl
      have g3 : DataW.trod enc P w 0 (fun _ => true) true n f3.type [c6] = some y3 := by simpa [o3, q3] using hg 3 f3 rfl
      obtain ⟨z0, r0, e0, _⟩ := DataW.trod_int h0 g0
      obtain ⟨p1, v1, r1, a1, b1⟩ := open_patch_at B h1 g1
      obtain ⟨z2, r2, e2, _⟩ := DataW.trod_int h2 g2
      obtain ⟨l3, v3, r3, a3, b3⟩ := open_ints1 B h3 hei hci g3
      cases r0; cases r2; subst r3
      simp only [Rp.enc, List.cons.injEq, and_true] at r1
      obtain ⟨rfl, rfl, rfl, rfl⟩ := r1
      refine ⟨⟨z0, p1, z2, l3⟩, (v1, v3), rfl, ?_, ?_⟩
      · intro a ha
        have ha' : a ∈ Rp.asn p1 v1 ∨ a = slA v3.1 l3 := by
          simp only [Rp.asn, List.mem_cons, List.mem_nil_iff, or_false] at ha ⊢
          rcases ha with h | h | h | h
          · exact .inl (.inl h)
          · exact .inl (.inr (.inl h))
          · exact .inl (.inr (.inr h))
          · exact .inr h
        rcases ha' with ha | rfl
        · exact a1 a ha
        · exact a3
      · simp only [List.map_cons, List.map_nil]
        rw [B.agg]
        simp only [B.cons, B.nil]
        rw [e0, e2]
        simp only [B.int]
        unfold LOp.many
        dsimp only
        omega
theorem open_lops {r : Reach} {b0 : Nat} {t e : TypeId} {v : Value} {d : DataW H} {p : List MemPlace} (B : BulkI H) (ht : P.underlying t = some (.slice e)) (hT : LTys P e) (hv : Value.okWide P w r b0 t v) (h : DataW.Trod enc P w 0 (fun _ => true) true t v d p) :
    ∃ (l : List LOp) (y : Option Addr × Nat), v = .slice y.1 l.length y.2 ∧ (slA y.1 l).p (fun _ => False) w ∧ l.length + (l.map LOp.many).sum ≤ B.one d := by
  obtain ⟨fuel, hf⟩ := h
  have hC : P.cellsOf e = 7 := by obtain ⟨f0, f1, f2, f3, ei, hs, hC, _⟩ := hT.ex; exact hC
  obtain ⟨a0, len, cap, rfl⟩ := okWide_slice ht hv
  have hf' : DataW.trod enc P w 0 (fun _ => true) true fuel t [.slice a0 len cap] = some (d, p) := hf
  obtain ⟨l, y, e1, e2, e3, _⟩ := open_slice (α := LOp) B.toBulk ht hC (by decide) LOp.many (fun n cs x hx => open_lop_at B hT hx) hf'
  exact ⟨l, y, e1, e2, e3⟩
theorem open_intl {r : Reach} {b0 : Nat} {t e : TypeId} {v : Value} {d : DataW H} {p : List MemPlace} (B : BulkI H) (ht : P.underlying t = some (.slice e)) (he : P.underlying e = some (.int .i64)) (hc : P.cellsOf e = 1) (hv : Value.okWide P w r b0 t v) (h : DataW.Trod enc P w 0 (fun _ => true) true t v d p) :
    ∃ (l : List Int) (y : Option Addr × Nat), v = .slice y.1 l.length y.2 ∧ (slA y.1 l).p (fun _ => False) w ∧ l.length ≤ B.one d := by
  obtain ⟨fuel, hf⟩ := h
  obtain ⟨a0, len, cap, rfl⟩ := okWide_slice ht hv
  exact open_ints1 B ht he hc hf
theorem lop_mem {l : List LOp} {o : LOp} (h : o ∈ l) : o.many ≤ (l.map LOp.many).sum := by
  induction l with
  | nil => cases h
  | cons y l ih =>
    simp only [List.map_cons, List.sum_cons]
    rcases List.mem_cons.1 h with rfl | h
    · omega
    · have := ih h; omega
theorem lop_fit {l : List LOp} (h : (l.map LOp.many).sum ≤ 2000000) : ∀ o ∈ l, o.p.fit := fun o ho => pfit_many (by have h2 := lop_mem ho; have h3 : o.many = o.p.many + o.ids.length := rfl; omega)
theorem lop_sa {l : List LOp} (h : (l.map LOp.many).sum ≤ 1000000000000) : (l.map (fun o : LOp => pmany [o.p])).sum ≤ 1000000000000 := by
  refine Nat.le_trans ?_ h
  clear h
  induction l with
  | nil => exact Nat.le_refl _
  | cons o l ih =>
    simp only [List.map_cons, List.sum_cons]
    have : pmany [o.p] ≤ o.many := by unfold pmany LOp.many; simp
    omega
theorem lop_sb {l : List LOp} (h : (l.map LOp.many).sum ≤ 1000000000000) : (l.map (fun o : LOp => o.ids.length + o.p.l.length)).sum ≤ 1000000000000 := by
  refine Nat.le_trans ?_ h
  clear h
  induction l with
  | nil => exact Nat.le_refl _
  | cons o l ih =>
    simp only [List.map_cons, List.sum_cons]
    have h2 := many_len o.p.l
    have : o.ids.length + o.p.l.length ≤ o.many := by unfold LOp.many Patch.many; omega
    omega
end
end Go.Proofs.YtppjcjlijmldiaaGreatDoor.X
end
