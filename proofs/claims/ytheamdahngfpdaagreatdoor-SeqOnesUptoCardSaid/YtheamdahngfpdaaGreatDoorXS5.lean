/- OWN WORK: a part of the proof of a law of the seat YtheamdahngfpdaaGreatDoor: the rules by which the code is walked. -/
import Derived.Test.YtheamdahngfpdaaGreatDoorXA2
import Derived.Test.YtheamdahngfpdaaGreatDoorXPl
import Derived.Test.YtheamdahngfpdaaGreatDoorXMp
import Derived.Test.YtheamdahngfpdaaGreatDoorProg
import Derived.Test.YtheamdahngfpdaaGreatDoorXS3
section
set_option linter.unusedVariables false
set_option linter.unusedSimpArgs false
namespace Go.Sx
open Go Go.RowKit
section
variable {ro : Option Nat} {P : Program} {M0 F0 : Nat → Prop} {w0 : World} {n : Nm} {σ : List (Nat × Value)} {Ξ : List Xsn} {Γ : List Asn} {d : Nat} {ty : TypeId} {pos : String} {af : Array Edge}
theorem addS {α : Type} [Rp α] {A : Option Addr} {l : List α} {c : Nat} (hg : In (slA A l) Γ) (hc : l.length ≤ c) {a : Act} {w : World} (h : St M0 F0 w0 n σ Ξ Γ a w) : St M0 F0 w0 n σ Ξ (slA A l :: capA c l.length :: Γ) a w := by
  obtain ⟨hs, Fs, hh⟩ := h
  refine ⟨hs, Fs, { hh with ga := fun p hp => ?_ }⟩
  rcases List.mem_cons.1 hp with rfl | hp
  · exact hh.ga _ hg.mem
  · rcases List.mem_cons.1 hp with rfl | hp
    · exact hc
    · exact hh.ga p hp
theorem sub_head {g : Asn} {r : List Asn} (h : Sub (g :: r) Γ) : g ∈ Γ := h.mem g List.mem_cons_self
/-- append to data that has no room: what comes of it is data -/
theorem o_appG {α : Type} [Rp α] {x y : Operand} {t e : TypeId} {z : Value} {bytes : Nat} {A B : Option Addr} {c c' : Nat} {l m : List α}
    (ht : P.underlying t = some (.slice e)) (hinfo : (P.info? e).map (fun i => (i.zero, i.size, i.bytes)) = some (some z, Rp.size α, bytes)) (hzs : z.cells.size = Rp.size α) (hsz : 0 < Rp.size α) (hb0 : 0 < bytes) (hc : c = l.length)
    (hx : ev σ x = some (.slice A l.length c)) (hy : ev σ y = some (.slice B m.length c')) (hl : (l.length + m.length) * bytes ≤ 140737488355328) (hg : Sub [slA A l, slA B m] Γ) (hd : Nat.blt d n.n = true) :
    OpR P ⟨some d, .call ⟨.builtin .append, #[x, y], #[t, t]⟩, ty, pos, af, none⟩ (St M0 F0 w0 n σ Ξ Γ) (fun a w => ∃ q : Option Addr × Nat, St M0 F0 w0 n ((d, .slice q.1 (l ++ m).length q.2) :: σ) Ξ (slA q.1 (l ++ m) :: capA q.2 (l ++ m).length :: Γ) a w) := by
  by_cases hm : m = []
  · subst hm
    obtain ⟨i0, hi, _⟩ := info_parts hinfo
    refine (op (p_app0 ht ⟨i0, hi⟩ (Nat.le_of_eq hc.symm) hx hy) hd).mono fun a w h => ⟨(A, c), ?_⟩
    rw [List.append_nil]
    obtain ⟨hs, Fs, hh⟩ := h
    refine ⟨hs, Fs, { hh with ga := fun p hp => ?_ }⟩
    rcases List.mem_cons.1 hp with rfl | hp
    · exact hh.ga _ (sub_head hg)
    · rcases List.mem_cons.1 hp with rfl | hp
      · exact Nat.le_of_eq hc.symm
      · exact hh.ga p hp
  · refine (o_appF ht hinfo hzs hsz hb0 hc hx hy hl hm hg hd).mono ?_
    rintro a w ⟨q, h⟩
    refine ⟨q, ?_⟩
    obtain ⟨hs, Fs, hh⟩ := freezeN (i := 0) rfl h
    exact ⟨hs, Fs, { hh with ga := fun p hp => hh.ga p (by
      rcases List.mem_cons.1 hp with rfl | hp
      · simp
      · rcases List.mem_cons.1 hp with rfl | hp
        · simp
        · simp [hp]) }⟩
end
end Go.Sx

end
section
set_option linter.unusedVariables false
set_option linter.unusedSimpArgs false
namespace Go.Proofs.YtheamdahngfpdaaGreatDoor.X
open Go Go.RowKit Go.Proofs Go.Sx
attribute [local irreducible] slA isA box row
theorem few5_two {l m : List Prim} (h : few5 [l, m] = true) : many l + many m ≤ 6000 ∧ l.length + m.length ≤ 40 := by
 unfold few5 at h
 simp only [List.map_cons, List.map_nil, List.sum_cons, List.sum_nil, Bool.and_eq_true, decide_eq_true_eq] at h
 omega
theorem few5_one {l : List Prim} (h : few5 [l] = true) : many l ≤ 6000 ∧ l.length ≤ 40 := by
 unfold few5 at h
 simp only [List.map_cons, List.map_nil, List.sum_cons, List.sum_nil, Bool.and_eq_true, decide_eq_true_eq] at h
 omega
theorem two_R {l m : List Prim} (hl : l.length ≤ 1048576) (hm : m.length ≤ 1048576) : ∀ x ∈ [l, m], x.length ≤ 2000000 := fun x hx => by
 simp only [List.mem_cons, List.mem_nil_iff, or_false] at hx
 rcases hx with rfl | rfl <;> omega
theorem two_S {f : List Prim → Nat} {l m : List Prim} (hl : f l ≤ 1048576) (hm : f m ≤ 1048576) : ([l, m].map f).sum ≤ 1000000000000 := by simp; omega
theorem one_R {l : List Prim} (hl : l.length ≤ 1048576) : ∀ x ∈ [l], x.length ≤ 2000000 := fun x hx => by rw [List.mem_singleton.1 hx]; omega
theorem one_S {f : List Prim → Nat} {l : List Prim} (hl : f l ≤ 1048576) : ([l].map f).sum ≤ 1000000000000 := by simp; omega
theorem swT_nilr (l : List Prim) : swT l [] = ([], l, true) := (swT_true.2 (swapL_grid.2 (grid_nilr l))).symm
theorem swT_nill (m : List Prim) : swT [] m = (m, [], true) := rfl
theorem swT_one {p q r1 r2 : Prim} {r3 : Bool} (h : (r1, r2, r3) = swap p q) : swT [p] [q] = bif r3 then ([r1], [r2], true) else ([], [], false) := by
 cases r3
 ·
  have h1 : past1 p [q] = none := by rw [past1, ← h]; rfl
  unfold swT swapL
  simp only [List.reverse_cons, List.reverse_nil, List.nil_append, swapR, h1, Option.bind_none, cond_false]
 ·
  have h1 : past1 p [q] = some ([r1], r2) := by rw [past1, ← h]; rfl
  unfold swT swapL
  simp only [List.reverse_cons, List.reverse_nil, List.nil_append, swapR, h1, Option.bind_some, cond_true]
theorem take_one {l : List Prim} (h : 0 < l.length) : l.take 1 = [l[0]] := by
 rw [List.take_succ_eq_append_getElem h]; rfl
theorem three (T : List File) (ps qs : List Prim) : ((rowT T ps).2 = 0 ∧ (rowT (rowT T ps).1 qs).2 = 0) ∨ ((rowT T ps).2 = 0 ∧ ¬ (rowT (rowT T ps).1 qs).2 = 0) ∨ ¬ (rowT T ps).2 = 0 := by
 by_cases h : (rowT T ps).2 = 0
 ·
  by_cases k : (rowT (rowT T ps).1 qs).2 = 0
  ·
   exact .inl ⟨h, k⟩
  ·
   exact .inr (.inl ⟨h, k⟩)
 ·
  exact .inr (.inr h)
theorem ones_same {T V U1 U2 : List File} {ps qs : List Prim} {e1 : Int} (h : (V, e1) = rowT T (ps ++ qs)) (h1 : (U1, (0 : Int)) = rowT T ps) (h2 : (U2, (0 : Int)) = rowT U1 qs) : V = U2 ∧ e1 = 0 := by
 have h3 := rowT_ok (runs_app.2 ⟨U1, rowT_runs h1.symm, rowT_runs h2.symm⟩)
 rw [h3] at h
 simpa using h
theorem ones_yes {T V : List File} {ps qs : List Prim} {e1 : Int} (h : (V, e1) = rowT T (ps ++ qs)) (ha : (rowT T ps).2 = 0) (hb : (rowT (rowT T ps).1 qs).2 = 0) : e1 = 0 :=
 (ones_same h (U1 := (rowT T ps).1) (U2 := (rowT (rowT T ps).1 qs).1) (by rw [← ha]) (by rw [← hb])).2
theorem ones_split {T V : List File} {ps qs : List Prim} (h : (V, (0 : Int)) = rowT T (ps ++ qs)) : (rowT T ps).2 = 0 ∧ (rowT (rowT T ps).1 qs).2 = 0 := by
 obtain ⟨M, h1, h2⟩ := runs_app.1 (rowT_runs h.symm)
 rw [rowT_ok h1]
 exact ⟨rfl, by rw [rowT_ok h2]⟩
theorem ones_no {T V : List File} {ps qs : List Prim} {e1 : Int} (h : (V, e1) = rowT T (ps ++ qs)) (hb : ¬ (rowT (rowT T ps).1 qs).2 = 0) : ¬ e1 = 0 := fun e => by
 subst e; exact hb (ones_split h).2
theorem ones_not {T V : List File} {ps qs : List Prim} {e1 : Int} (h : (V, e1) = rowT T (ps ++ qs)) (ha : ¬ (rowT T ps).2 = 0) : ¬ e1 = 0 := fun e => by
 subst e; exact ha (ones_split h).1


set_option maxRecDepth 100000 in
theorem c_SeqOnes (l : List TOp) (A : Option Addr) (c : Nat) (hl : l.length ≤ 1048576) (hM : omany l ≤ 1048576) (ps : List Prim) (B : Option Addr) (c' : Nat) (hB : B = none → c' = 0) (hlps : ps.length ≤ 1048576) (hfps : ∀ x ∈ ps, x.fit) (hmps : many ps ≤ 1048576) (qs : List Prim) (D : Option Addr) (d' : Nat) (hD : D = none → d' = 0) (hlqs : qs.length ≤ 1048576) (hfqs : ∀ x ∈ qs, x.fit) (hmqs : many qs ≤ 1048576) : Con Tryz.prog 10 [.slice A l.length c, .slice B ps.length c', .slice D qs.length d'] [] [slA A l, slA B ps, slA D qs] Unit (fun _ => .bool true) (fun _ => []) (fun _ => []) := by
 have hMo : ∀ o ∈ l, o.many ≤ 2000000 := fun o ho => by have := omany_mem ho; omega
 have htok : Tok l.length 2000000 (madeT l) := madeT_tok hMo
 have hlen := htok.len
 have hfit : Tfit (madeT l) := fun x hx => (htok.fit x hx).1
 have hso := madeT_sor l
 have hgood := madeT_good l
 have hinv := AppInv.made l
 refine con Tryz.func10 rfl Tryz.ntmps10 rfl ?_
 intro M0 F0 w0
 refine cs ?_
 refine cr ?_
 refine ls (op (p_asg rfl) rfl) ?_
 refine ln ?_
 refine nthen ?_
 refine cs ?_
 refine cs ?_
 refine cmono (fun a w h => nilQ (y := (D, d')) hD h) ?_
 refine cmono (fun a w h => nilQ (y := (B, c')) hB h) ?_
 refine cr ?_
 refine ls (op (p_move rfl) rfl) ?_
 refine ls (o_call (is := []) Tryz.call30 (c_Few02 l A c (by omega) (by omega)) rfl rfl (by repeat' (first | constructor | apply Sub.suf)) rfl) ?_
 refine le ?_; intro x27
 refine ls (op (p_icmp rfl rfl rfl) rfl) ?_
 refine ls (op (p_move rfl) rfl) ?_
 refine orX 6 29 35 rfl (subσ.cons (t := 0) rfl (subσ.cons (t := 1) rfl (subσ.cons (t := 2) rfl (subσ.cons (t := 6) rfl (subσ.nil _))))) ?_ ?_
 ·
  intro h29
  refine lskip rfl rfl rfl rfl rfl ?_
  refine lskip rfl rfl rfl rfl rfl ?_
  refine lskip rfl rfl rfl rfl rfl ?_
  refine lskip rfl rfl rfl rfl rfl ?_
  refine lskip rfl rfl rfl rfl rfl ?_
  refine ls (op (p_pickt rfl rfl) rfl) ?_
  refine ln (nmid (wk0 (by repeat (first | exact subσ.nil _ | refine subσ.cons rfl ?_)) (by repeat' (first | constructor | apply Sub.suf))))
 apply exI
 ·
  intro h29
  refine lwant rfl rfl rfl rfl (op (p_move rfl) rfl) ?_
  refine lwant rfl rfl rfl rfl (op (p_move rfl) rfl) ?_
  refine lwant rfl rfl rfl rfl (o_bsl [ps, qs] Tryz.underlying80 Tryz.sizeOf22 Tryz.zeroValue22 rfl (Enum.t (Enum.t Enum.d)) (RV.t (B, c') rfl (by repeat' (first | constructor | apply Sub.suf)) (RV.t (D, d') rfl (by repeat' (first | constructor | apply Sub.suf)) RV.d)) rfl (by decide) (by decide) rfl) ?_
  refine le ?_; intro b32
  refine lmono (fun a w h => Go.Sx.freeze (i := 0) rfl h) ?_
  refine lwant rfl rfl rfl rfl (o_call (is := []) Tryz.call11 (c_few5 [ps, qs] (some ⟨b32, 0, none⟩) 2 (by simp) (two_R hlps hlqs) (two_S hmps hmqs) (two_S hlps hlqs)) rfl rfl (by repeat' (first | constructor | apply Sub.suf)) rfl) ?_
  refine le ?_; intro x33
  refine lwant rfl rfl rfl rfl (op (p_not rfl) rfl) ?_
  refine ls (op (p_pickf rfl rfl) rfl) ?_
  refine ln (nmid (wk0 (by repeat (first | exact subσ.nil _ | refine subσ.cons rfl ?_)) (by repeat' (first | constructor | apply Sub.suf))))
 ·
  refine ln ?_
  refine nthen ?_
  refine cc rfl ?_ ?_
  ·
   intro h35
   skip
   refine cs ?_
   refine cr ?_
   refine ls (o_call (is := []) Tryz.call12 (c_alive05) rfl rfl (by repeat' (first | constructor | apply Sub.suf)) rfl) ?_
   refine le ?_; intro x36
   refine ls (op (p_asg rfl) rfl) ?_
   refine ln ?_
   refine nthen ?_
   refine cret ?_
   refine xret (fun _ _ h => h) ?_
   refine rret (is := []) () (Or.inl rfl) (Res.t rfl Res.d) (rfl) rfl (by repeat' (first | constructor | apply Sub.suf))
  ·
   intro h35
   have hf0 : few5 [ps, qs] = true := by have h := h35; simp at h; exact h.2
   obtain ⟨hf1, hf2⟩ := few5_two hf0
   have hLp := lns_many ps; have hLq := lns_many qs
   refine cskip ?_
   refine nthen ?_
   refine cs ?_
   refine cr ?_
   refine ls (op (p_move rfl) rfl) ?_
   refine ls (o_call (is := []) Tryz.call13 (c_lNewC ps B c' (by omega)) rfl rfl (by repeat' (first | constructor | apply Sub.suf)) rfl) ?_
   refine le ?_; rintro ⟨A5, c5⟩
   refine lpure (St.cap (m := ps.length) (c := c5) (by repeat' constructor)) ?_
   intro hcap5
   refine ls (op (p_move rfl) rfl) ?_
   refine ls (o_call (is := []) Tryz.call13 (c_lNewC qs D d' (by omega)) rfl rfl (by repeat' (first | constructor | apply Sub.suf)) rfl) ?_
   refine le ?_; rintro ⟨A6, c6⟩
   refine lpure (St.cap (m := qs.length) (c := c6) (by repeat' constructor)) ?_
   intro hcap6
   refine ls (op (p_asg rfl) rfl) ?_
   refine ls (op (p_asg rfl) rfl) ?_
   refine ln ?_
   refine nthen ?_
   refine cs ?_
   refine cmono (fun a w h => nilSl (α := Prim) h) ?_
   refine cr ?_
   refine ls (op (p_move rfl) rfl) ?_
   refine ls (o_call (is := []) Tryz.call26 (c_seqSwapC ps [] A5 none c5 0 (by omega) (by simp) hfps (fun x hx => by cases hx)) rfl rfl (by repeat' (first | constructor | apply Sub.suf)) rfl) ?_
   refine le ?_; rintro ⟨⟨⟨f1, s1, g1⟩, ⟨⟨A9, c9⟩, ⟨A10, c10⟩⟩⟩, hr1⟩
   dsimp only at hr1
   obtain ⟨rfl, hr1b⟩ := Prod.mk.inj ((swT_nilr ps).symm.trans hr1.symm)
   obtain ⟨rfl, rfl⟩ := Prod.mk.inj hr1b
   refine ls (op (p_move rfl) rfl) ?_
   refine ls (op (p_ext rfl (by repeat' constructor)) rfl) ?_
   refine ls (op (p_ext rfl (by repeat' constructor)) rfl) ?_
   refine ls (op (p_ext rfl (by repeat' constructor)) rfl) ?_
   refine ls (op (p_asg rfl) rfl) ?_
   refine ls (op (p_asg rfl) rfl) ?_
   refine ls (op (p_asg rfl) rfl) ?_
   refine ln ?_
   refine nthen ?_
   refine cs ?_
   refine cr ?_
   refine ls (op (p_move rfl) rfl) ?_
   refine ls (o_call (is := []) Tryz.call26 (c_seqSwapC [] ps none A5 0 c5 (by simp) (by omega) (fun x hx => by cases hx) hfps) rfl rfl (by repeat' (first | constructor | apply Sub.suf)) rfl) ?_
   refine le ?_; rintro ⟨⟨⟨f2, s2, g2⟩, ⟨⟨A12, c12⟩, ⟨A13, c13⟩⟩⟩, hr2⟩
   dsimp only at hr2
   obtain ⟨rfl, hr2b⟩ := Prod.mk.inj ((swT_nill ps).symm.trans hr2.symm)
   obtain ⟨rfl, rfl⟩ := Prod.mk.inj hr2b
   refine ls (op (p_move rfl) rfl) ?_
   refine ls (op (p_ext rfl (by repeat' constructor)) rfl) ?_
   refine ls (op (p_ext rfl (by repeat' constructor)) rfl) ?_
   refine ls (op (p_ext rfl (by repeat' constructor)) rfl) ?_
   refine ls (op (p_asg rfl) rfl) ?_
   refine ls (op (p_asg rfl) rfl) ?_
   refine ls (op (p_asg rfl) rfl) ?_
   refine ln ?_
   refine nthen ?_
   refine cs ?_
   refine cs ?_
   refine cr ?_
   refine ls (op (p_move rfl) rfl) ?_
   refine ls (op (p_not rfl) rfl) ?_
   refine ls (op (p_move rfl) rfl) ?_
   refine lwant rfl rfl rfl rfl (op (p_move rfl) rfl) ?_
   refine lwant rfl rfl rfl rfl (op (p_not rfl) rfl) ?_
   refine ls (op (p_pickf rfl rfl) rfl) ?_
   refine ls (op (p_move rfl) rfl) ?_
   refine lwant rfl rfl rfl rfl (op (p_move rfl) rfl) ?_
   refine lwant rfl rfl rfl rfl (op (p_lenl rfl Tryz.underlying25) rfl) ?_
   refine lwant rfl rfl rfl rfl (op (p_move rfl) rfl) ?_
   refine lwant rfl rfl rfl rfl (op (p_lenl rfl Tryz.underlying25) rfl) ?_
   refine lwant rfl rfl rfl rfl (op (p_add rfl rfl (by simp)) rfl) ?_
   refine lwant rfl rfl rfl rfl (op (p_icmp rfl rfl rfl) rfl) ?_
   refine fixL (show Value.bool (!decide ((([] : List Prim).length : Int) + (([] : List Prim).length : Int) = 0)) = Value.bool false by simp) ?_
   refine ls (op (p_pickf rfl rfl) rfl) ?_
   refine ls (op (p_move rfl) rfl) ?_
   refine lwant rfl rfl rfl rfl (op (p_move rfl) rfl) ?_
   refine lwant rfl rfl rfl rfl (op (p_move rfl) rfl) ?_
   refine lwant rfl rfl rfl rfl (o_call (is := []) Tryz.call16 (c_seqSame ps ps A10 A5 c10 c5 (by omega) hfps) rfl rfl (by repeat' (first | constructor | apply Sub.suf)) rfl) ?_
   refine le ?_; intro x70
   refine fixL (congrArg Value.bool (decide_eq_true rfl)) ?_
   refine lwant rfl rfl rfl rfl (op (p_not rfl) rfl) ?_
   refine ls (op (p_pickf rfl rfl) rfl) ?_
   refine ls (op (p_move rfl) rfl) ?_
   refine lwant rfl rfl rfl rfl (op (p_move rfl) rfl) ?_
   refine lwant rfl rfl rfl rfl (op (p_move rfl) rfl) ?_
   refine lwant rfl rfl rfl rfl (o_call (is := []) Tryz.call16 (c_seqSame ps ps A12 A5 c12 c5 (by omega) hfps) rfl rfl (by repeat' (first | constructor | apply Sub.suf)) rfl) ?_
   refine le ?_; intro x76
   refine fixL (congrArg Value.bool (decide_eq_true rfl)) ?_
   refine lwant rfl rfl rfl rfl (op (p_not rfl) rfl) ?_
   refine ls (op (p_pickf rfl rfl) rfl) ?_
   refine ln ?_
   refine nthen ?_
   refine cc rfl (fun h => by cases h) (fun h => ?_)
   refine cskip ?_
   refine nthen ?_
   refine cs ?_
   refine cs ?_
   refine cr ?_
   refine ls (op (p_move rfl) rfl) ?_
   refine ls (op (p_lenl rfl Tryz.underlying25) rfl) ?_
   refine ls (op (p_icmp rfl rfl rfl) rfl) ?_
   refine ls (op (p_move rfl) rfl) ?_
   refine andX 4 82 86 rfl (subσ.cons (t := 0) rfl (subσ.cons (t := 1) rfl (subσ.cons (t := 2) rfl (subσ.cons (t := 6) rfl (subσ.cons (t := 35) rfl (subσ.cons (t := 37) rfl (subσ.cons (t := 38) rfl (subσ.cons (t := 39) rfl (subσ.cons (t := 40) rfl (subσ.cons (t := 7) rfl (subσ.cons (t := 8) rfl (subσ.cons (t := 42) rfl (subσ.cons (t := 43) rfl (subσ.cons (t := 41) rfl (subσ.cons (t := 44) rfl (subσ.cons (t := 45) rfl (subσ.cons (t := 46) rfl (subσ.cons (t := 9) rfl (subσ.cons (t := 10) rfl (subσ.cons (t := 11) rfl (subσ.cons (t := 48) rfl (subσ.cons (t := 49) rfl (subσ.cons (t := 47) rfl (subσ.cons (t := 50) rfl (subσ.cons (t := 51) rfl (subσ.cons (t := 52) rfl (subσ.cons (t := 12) rfl (subσ.cons (t := 13) rfl (subσ.cons (t := 14) rfl (subσ.cons (t := 53) rfl (subσ.cons (t := 54) rfl (subσ.cons (t := 55) rfl (subσ.cons (t := 56) rfl (subσ.cons (t := 57) rfl (subσ.cons (t := 58) rfl (subσ.cons (t := 59) rfl (subσ.cons (t := 60) rfl (subσ.cons (t := 61) rfl (subσ.cons (t := 62) rfl (subσ.cons (t := 63) rfl (subσ.cons (t := 64) rfl (subσ.cons (t := 65) rfl (subσ.cons (t := 66) rfl (subσ.cons (t := 67) rfl (subσ.cons (t := 68) rfl (subσ.cons (t := 69) rfl (subσ.cons (t := 70) rfl (subσ.cons (t := 71) rfl (subσ.cons (t := 72) rfl (subσ.cons (t := 73) rfl (subσ.cons (t := 74) rfl (subσ.cons (t := 75) rfl (subσ.cons (t := 76) rfl (subσ.cons (t := 77) rfl (subσ.cons (t := 78) rfl (subσ.nil _)))))))))))))))))))))))))))))))))))))))))))))))))))))))) ?_ ?_
   ·
    intro h82
    refine lskip rfl rfl rfl rfl rfl ?_
    refine lskip rfl rfl rfl rfl rfl ?_
    refine lskip rfl rfl rfl rfl rfl ?_
    refine ls (op (p_pickf rfl rfl) rfl) ?_
    refine ln (nmid (wk0 (by repeat (first | exact subσ.nil _ | refine subσ.cons rfl ?_)) (by repeat' (first | constructor | apply Sub.suf))))
   apply exI
   ·
    intro h82
    refine lwant rfl rfl rfl rfl (op (p_move rfl) rfl) ?_
    refine lwant rfl rfl rfl rfl (op (p_lenl rfl Tryz.underlying25) rfl) ?_
    refine lwant rfl rfl rfl rfl (op (p_icmp rfl rfl rfl) rfl) ?_
    refine ls (op (p_pickt rfl rfl) rfl) ?_
    refine ln (nmid (wk0 (by repeat (first | exact subσ.nil _ | refine subσ.cons rfl ?_)) (by repeat' (first | constructor | apply Sub.suf))))
   ·
    refine ln ?_
    refine nthen ?_
    refine cc rfl ?_ ?_
    ·
     intro h86
     obtain ⟨hp0, hp1⟩ : 0 < ps.length ∧ 0 < qs.length := by have h := h86; simp only [Bool.and_eq_true, decide_eq_true_eq] at h; omega
     have hfp := hfps _ (List.getElem_mem hp0)
     have hfq := hfqs _ (List.getElem_mem hp1)
     refine elC (A := A5) (by repeat' constructor) 0 (List.getElem?_eq_getElem (l := ps) hp0) ?_; rintro zbp zop zyp hAp
     refine elC (A := A6) (by repeat' constructor) 0 (List.getElem?_eq_getElem (l := qs) hp1) ?_; rintro zbq zoq zyq hAq
     refine cs ?_
     refine cutC (S' := fun a w => ∃ (b15 : Nat) (b16 : Nat) (r1 : Prim) (r2 : Prim) (r3 : Bool) (z1 : Rp.Lay Prim) (z2 : Rp.Lay Prim) (hs : (r1, r2, r3) = swap ps[0] qs[0]) (k1 : r1.fit) (k2 : r2.fit), St M0 F0 w0 174 [(0, .slice A l.length c), (7, .slice A5 ps.length c5), (8, .slice A6 qs.length c6), (15, .pointer (some ⟨b15, 0, none⟩)), (16, .pointer (some ⟨b16, 0, none⟩)), (17, .bool r3)] [box b15 70 (Rp.enc r1 z1), box b16 70 (Rp.enc r2 z2)] [slA z1.1.1 r1.old, slA z1.2.1 r1.new, slA z2.1.1 r2.old, slA z2.2.1 r2.new, slA A l, slA A5 ps, slA A6 qs] a w) ?_ ?_
     ·
      refine cdB [6, 11, 12, 13, 14] [(2, zbp, zop + 0 * Rp.size Prim, _), (5, zbq, zoq + 0 * Rp.size Prim, _)] TryzX.mixed (by kernel_rfl) (by kernel_rfl) (TOk.t (isInS (by repeat' constructor) (k := 0) rfl (z := 6) (by repeat (first | exact Cut.d | apply Cut.t | apply Cut.s))) (TOk.t (isInS (by repeat' constructor) (k := 0) rfl (z := 6) (by repeat (first | exact Cut.d | apply Cut.t | apply Cut.s))) TOk.d)) ?_
      refine tkB 0 rfl (by kernel_rfl) (fun _ _ _ h => h) gnone (TTany _) (p_move rfl) rfl ?_
      refine tkB 1 rfl (by kernel_rfl) (fun _ _ _ h => h) gnone (TTany _) (p_ia 0 hAp hp0 rfl Tryz.underlying25 Tryz.sizeOf70 rfl rfl) rfl ?_
      refine tkB 2 rfl (by kernel_rfl) (fun _ _ _ h => h) gnone (TTat (List.Mem.head _)) (p_lda Tryz.isAgg70 Tryz.sizeOf70 rfl rfl) rfl ?_
      refine tkB 3 rfl (by kernel_rfl) (fun _ _ _ h => h) gnone (TTany _) (p_move rfl) rfl ?_
      refine tkB 4 rfl (by kernel_rfl) (fun _ _ _ h => h) gnone (TTany _) (p_ia 0 hAq hp1 rfl Tryz.underlying25 Tryz.sizeOf70 rfl rfl) rfl ?_
      refine tkB 5 rfl (by kernel_rfl) (fun _ _ _ h => h) gnone (TTat (List.Mem.tail _ (List.Mem.head _))) (p_lda Tryz.isAgg70 Tryz.sizeOf70 rfl rfl) rfl ?_
      refine dallB (is := [6, 11, 12]) (by kernel_rfl) rfl ?_
      intro i hi; simp only [List.mem_cons, List.mem_nil_iff, or_false] at hi; rcases hi with rfl | rfl | rfl
      ·
       refine doRB rfl (o_call (is := []) Tryz.call42 (c_Swap ps[0] qs[0] zyp zyq hfp hfq) rfl rfl (by repeat' (first | constructor | apply Sub.suf)) rfl) (TOk.xP 6 [] (by kernel_rfl) (TOk.xP 6 [] (by kernel_rfl) TOk.d)) ?_
       refine eaB ?_; rintro ⟨⟨⟨r1, r2, r3⟩, z1, z2⟩, hs⟩
       obtain ⟨k1, k2⟩ := swap_fit hfp hfq; rw [← hs] at k1 k2; dsimp only at hs k1 k2
       refine tkB 7 rfl (by kernel_rfl) (fun _ _ _ h => h) gnone (TTany _) (p_move rfl) rfl ?_
       refine tkB 8 rfl (by kernel_rfl) (fun _ _ _ h => h) gnone (TTany _) (p_ext rfl (by repeat' constructor)) rfl ?_
       refine tkB 9 rfl (by kernel_rfl) (fun _ _ _ h => h) gnone (TTany _) (p_ext rfl (by repeat' constructor)) rfl ?_
       refine tkB 10 rfl (by kernel_rfl) (fun _ _ _ h => h) gnone (TTany _) (p_ext rfl (by repeat' constructor)) rfl ?_
       refine dallB (is := [11, 12]) (by kernel_rfl) rfl ?_
       intro i hi; simp only [List.mem_cons, List.mem_nil_iff, or_false] at hi; rcases hi with rfl | rfl
       ·
        refine doRB rfl (o_alloc Tryz.zeroValue70 rfl rfl) (TOk.xP 6 [] (by kernel_rfl) (TOk.xP 6 [] (by kernel_rfl) TOk.d)) ?_
        refine eaB ?_; intro b15
        refine dfB 12 (by kernel_rfl) ?_
        refine doRB rfl (o_alloc Tryz.zeroValue70 rfl rfl) (TOk.xP 6 [] (by kernel_rfl) (TOk.xP 6 [] (by kernel_rfl) TOk.d)) ?_
        refine eaB ?_; intro b16
        refine dfB 13 (by kernel_rfl) ?_
        refine doRB rfl (o_st rfl Tryz.sizeOf70 rfl rfl rfl rfl rfl (by repeat' constructor) (by repeat' constructor) (by repeat' constructor)) (TOk.xP 6 [] (by kernel_rfl) (TOk.xP 6 [] (by kernel_rfl) TOk.d)) ?_
        refine dfB 14 (by kernel_rfl) ?_
        refine doRB rfl (o_st rfl Tryz.sizeOf70 rfl rfl rfl rfl rfl (by repeat' constructor) (by repeat' constructor) (by repeat' constructor)) (TOk.xP 6 [] (by kernel_rfl) (TOk.xP 6 [] (by kernel_rfl) TOk.d)) ?_
        refine tkB 15 rfl (by kernel_rfl) (fun _ _ _ h => h) gnone (TTany _) (p_asg rfl) rfl ?_
        refine dnB (by kernel_rfl) (nmid (fun a w h => by first | exact ⟨b15, b16, r1, r2, r3, z1, z2, hs, k1, k2, wk (is := [1, 0]) (by repeat (first | exact subσ.nil _ | refine subσ.cons rfl ?_)) rfl (by repeat' (first | constructor | apply Sub.suf)) a w h⟩ | exact ⟨b15, b16, r1, r2, r3, z1, z2, hs, k1, k2, wk (is := [0, 0]) (by repeat (first | exact subσ.nil _ | refine subσ.cons rfl ?_)) rfl (by repeat' (first | constructor | apply Sub.suf)) a w h⟩))
       ·
        refine doRB rfl (o_alloc Tryz.zeroValue70 rfl rfl) (TOk.xP 6 [] (by kernel_rfl) (TOk.xP 6 [] (by kernel_rfl) TOk.d)) ?_
        refine eaB ?_; intro b16
        refine dfB 11 (by kernel_rfl) ?_
        refine doRB rfl (o_alloc Tryz.zeroValue70 rfl rfl) (TOk.xP 6 [] (by kernel_rfl) (TOk.xP 6 [] (by kernel_rfl) TOk.d)) ?_
        refine eaB ?_; intro b15
        refine dfB 13 (by kernel_rfl) ?_
        refine doRB rfl (o_st rfl Tryz.sizeOf70 rfl rfl rfl rfl rfl (by repeat' constructor) (by repeat' constructor) (by repeat' constructor)) (TOk.xP 6 [] (by kernel_rfl) (TOk.xP 6 [] (by kernel_rfl) TOk.d)) ?_
        refine dfB 14 (by kernel_rfl) ?_
        refine doRB rfl (o_st rfl Tryz.sizeOf70 rfl rfl rfl rfl rfl (by repeat' constructor) (by repeat' constructor) (by repeat' constructor)) (TOk.xP 6 [] (by kernel_rfl) (TOk.xP 6 [] (by kernel_rfl) TOk.d)) ?_
        refine tkB 15 rfl (by kernel_rfl) (fun _ _ _ h => h) gnone (TTany _) (p_asg rfl) rfl ?_
        refine dnB (by kernel_rfl) (nmid (fun a w h => by first | exact ⟨b15, b16, r1, r2, r3, z1, z2, hs, k1, k2, wk (is := [1, 0]) (by repeat (first | exact subσ.nil _ | refine subσ.cons rfl ?_)) rfl (by repeat' (first | constructor | apply Sub.suf)) a w h⟩ | exact ⟨b15, b16, r1, r2, r3, z1, z2, hs, k1, k2, wk (is := [0, 0]) (by repeat (first | exact subσ.nil _ | refine subσ.cons rfl ?_)) rfl (by repeat' (first | constructor | apply Sub.suf)) a w h⟩))
      ·
       refine doRB rfl (o_alloc Tryz.zeroValue70 rfl rfl) (TOk.t (isBoxE fun _ => isInS (by repeat' constructor) (k := 0) rfl (z := 6) (by repeat (first | exact Cut.d | apply Cut.t | apply Cut.s))) (TOk.t (isBoxE fun _ => isInS (by repeat' constructor) (k := 0) rfl (z := 6) (by repeat (first | exact Cut.d | apply Cut.t | apply Cut.s))) TOk.d)) ?_
       refine eaB ?_; intro b15
       refine dallB (is := [6, 12]) (by kernel_rfl) rfl ?_
       intro i hi; simp only [List.mem_cons, List.mem_nil_iff, or_false] at hi; rcases hi with rfl | rfl
       ·
        refine doRB rfl (o_call (is := []) Tryz.call42 (c_Swap ps[0] qs[0] zyp zyq hfp hfq) rfl rfl (by repeat' (first | constructor | apply Sub.suf)) rfl) (TOk.xP 6 [] (by kernel_rfl) (TOk.xP 6 [] (by kernel_rfl) TOk.d)) ?_
        refine eaB ?_; rintro ⟨⟨⟨r1, r2, r3⟩, z1, z2⟩, hs⟩
        obtain ⟨k1, k2⟩ := swap_fit hfp hfq; rw [← hs] at k1 k2; dsimp only at hs k1 k2
        refine tkB 7 rfl (by kernel_rfl) (fun _ _ _ h => h) gnone (TTany _) (p_move rfl) rfl ?_
        refine tkB 8 rfl (by kernel_rfl) (fun _ _ _ h => h) gnone (TTany _) (p_ext rfl (by repeat' constructor)) rfl ?_
        refine tkB 9 rfl (by kernel_rfl) (fun _ _ _ h => h) gnone (TTany _) (p_ext rfl (by repeat' constructor)) rfl ?_
        refine tkB 10 rfl (by kernel_rfl) (fun _ _ _ h => h) gnone (TTany _) (p_ext rfl (by repeat' constructor)) rfl ?_
        refine dfB 12 (by kernel_rfl) ?_
        refine doRB rfl (o_alloc Tryz.zeroValue70 rfl rfl) (TOk.xP 6 [] (by kernel_rfl) (TOk.xP 6 [] (by kernel_rfl) TOk.d)) ?_
        refine eaB ?_; intro b16
        refine dfB 13 (by kernel_rfl) ?_
        refine doRB rfl (o_st rfl Tryz.sizeOf70 rfl rfl rfl rfl rfl (by repeat' constructor) (by repeat' constructor) (by repeat' constructor)) (TOk.xP 6 [] (by kernel_rfl) (TOk.xP 6 [] (by kernel_rfl) TOk.d)) ?_
        refine dfB 14 (by kernel_rfl) ?_
        refine doRB rfl (o_st rfl Tryz.sizeOf70 rfl rfl rfl rfl rfl (by repeat' constructor) (by repeat' constructor) (by repeat' constructor)) (TOk.xP 6 [] (by kernel_rfl) (TOk.xP 6 [] (by kernel_rfl) TOk.d)) ?_
        refine tkB 15 rfl (by kernel_rfl) (fun _ _ _ h => h) gnone (TTany _) (p_asg rfl) rfl ?_
        refine dnB (by kernel_rfl) (nmid (fun a w h => by first | exact ⟨b15, b16, r1, r2, r3, z1, z2, hs, k1, k2, wk (is := [1, 0]) (by repeat (first | exact subσ.nil _ | refine subσ.cons rfl ?_)) rfl (by repeat' (first | constructor | apply Sub.suf)) a w h⟩ | exact ⟨b15, b16, r1, r2, r3, z1, z2, hs, k1, k2, wk (is := [0, 0]) (by repeat (first | exact subσ.nil _ | refine subσ.cons rfl ?_)) rfl (by repeat' (first | constructor | apply Sub.suf)) a w h⟩))
       ·
        refine doRB rfl (o_alloc Tryz.zeroValue70 rfl rfl) (TOk.t (isBoxE fun _ => isInS (by repeat' constructor) (k := 0) rfl (z := 6) (by repeat (first | exact Cut.d | apply Cut.t | apply Cut.s))) (TOk.t (isBoxE fun _ => isInS (by repeat' constructor) (k := 0) rfl (z := 6) (by repeat (first | exact Cut.d | apply Cut.t | apply Cut.s))) TOk.d)) ?_
        refine eaB ?_; intro b16
        refine dfB 6 (by kernel_rfl) ?_
        refine doRB rfl (o_call (is := []) Tryz.call42 (c_Swap ps[0] qs[0] zyp zyq hfp hfq) rfl rfl (by repeat' (first | constructor | apply Sub.suf)) rfl) (TOk.xP 6 [] (by kernel_rfl) (TOk.xP 6 [] (by kernel_rfl) TOk.d)) ?_
        refine eaB ?_; rintro ⟨⟨⟨r1, r2, r3⟩, z1, z2⟩, hs⟩
        obtain ⟨k1, k2⟩ := swap_fit hfp hfq; rw [← hs] at k1 k2; dsimp only at hs k1 k2
        refine tkB 7 rfl (by kernel_rfl) (fun _ _ _ h => h) gnone (TTany _) (p_move rfl) rfl ?_
        refine tkB 8 rfl (by kernel_rfl) (fun _ _ _ h => h) gnone (TTany _) (p_ext rfl (by repeat' constructor)) rfl ?_
        refine tkB 9 rfl (by kernel_rfl) (fun _ _ _ h => h) gnone (TTany _) (p_ext rfl (by repeat' constructor)) rfl ?_
        refine tkB 10 rfl (by kernel_rfl) (fun _ _ _ h => h) gnone (TTany _) (p_ext rfl (by repeat' constructor)) rfl ?_
        refine dfB 13 (by kernel_rfl) ?_
        refine doRB rfl (o_st rfl Tryz.sizeOf70 rfl rfl rfl rfl rfl (by repeat' constructor) (by repeat' constructor) (by repeat' constructor)) (TOk.xP 6 [] (by kernel_rfl) (TOk.xP 6 [] (by kernel_rfl) TOk.d)) ?_
        refine dfB 14 (by kernel_rfl) ?_
        refine doRB rfl (o_st rfl Tryz.sizeOf70 rfl rfl rfl rfl rfl (by repeat' constructor) (by repeat' constructor) (by repeat' constructor)) (TOk.xP 6 [] (by kernel_rfl) (TOk.xP 6 [] (by kernel_rfl) TOk.d)) ?_
        refine tkB 15 rfl (by kernel_rfl) (fun _ _ _ h => h) gnone (TTany _) (p_asg rfl) rfl ?_
        refine dnB (by kernel_rfl) (nmid (fun a w h => by first | exact ⟨b15, b16, r1, r2, r3, z1, z2, hs, k1, k2, wk (is := [1, 0]) (by repeat (first | exact subσ.nil _ | refine subσ.cons rfl ?_)) rfl (by repeat' (first | constructor | apply Sub.suf)) a w h⟩ | exact ⟨b15, b16, r1, r2, r3, z1, z2, hs, k1, k2, wk (is := [0, 0]) (by repeat (first | exact subσ.nil _ | refine subσ.cons rfl ?_)) rfl (by repeat' (first | constructor | apply Sub.suf)) a w h⟩))
      ·
       refine doRB rfl (o_alloc Tryz.zeroValue70 rfl rfl) (TOk.t (isBoxE fun _ => isInS (by repeat' constructor) (k := 0) rfl (z := 6) (by repeat (first | exact Cut.d | apply Cut.t | apply Cut.s))) (TOk.t (isBoxE fun _ => isInS (by repeat' constructor) (k := 0) rfl (z := 6) (by repeat (first | exact Cut.d | apply Cut.t | apply Cut.s))) TOk.d)) ?_
       refine eaB ?_; intro b16
       refine dallB (is := [6, 11]) (by kernel_rfl) rfl ?_
       intro i hi; simp only [List.mem_cons, List.mem_nil_iff, or_false] at hi; rcases hi with rfl | rfl
       ·
        refine doRB rfl (o_call (is := []) Tryz.call42 (c_Swap ps[0] qs[0] zyp zyq hfp hfq) rfl rfl (by repeat' (first | constructor | apply Sub.suf)) rfl) (TOk.xP 6 [] (by kernel_rfl) (TOk.xP 6 [] (by kernel_rfl) TOk.d)) ?_
        refine eaB ?_; rintro ⟨⟨⟨r1, r2, r3⟩, z1, z2⟩, hs⟩
        obtain ⟨k1, k2⟩ := swap_fit hfp hfq; rw [← hs] at k1 k2; dsimp only at hs k1 k2
        refine tkB 7 rfl (by kernel_rfl) (fun _ _ _ h => h) gnone (TTany _) (p_move rfl) rfl ?_
        refine tkB 8 rfl (by kernel_rfl) (fun _ _ _ h => h) gnone (TTany _) (p_ext rfl (by repeat' constructor)) rfl ?_
        refine tkB 9 rfl (by kernel_rfl) (fun _ _ _ h => h) gnone (TTany _) (p_ext rfl (by repeat' constructor)) rfl ?_
        refine tkB 10 rfl (by kernel_rfl) (fun _ _ _ h => h) gnone (TTany _) (p_ext rfl (by repeat' constructor)) rfl ?_
        refine dfB 11 (by kernel_rfl) ?_
        refine doRB rfl (o_alloc Tryz.zeroValue70 rfl rfl) (TOk.xP 6 [] (by kernel_rfl) (TOk.xP 6 [] (by kernel_rfl) TOk.d)) ?_
        refine eaB ?_; intro b15
        refine dfB 13 (by kernel_rfl) ?_
        refine doRB rfl (o_st rfl Tryz.sizeOf70 rfl rfl rfl rfl rfl (by repeat' constructor) (by repeat' constructor) (by repeat' constructor)) (TOk.xP 6 [] (by kernel_rfl) (TOk.xP 6 [] (by kernel_rfl) TOk.d)) ?_
        refine dfB 14 (by kernel_rfl) ?_
        refine doRB rfl (o_st rfl Tryz.sizeOf70 rfl rfl rfl rfl rfl (by repeat' constructor) (by repeat' constructor) (by repeat' constructor)) (TOk.xP 6 [] (by kernel_rfl) (TOk.xP 6 [] (by kernel_rfl) TOk.d)) ?_
        refine tkB 15 rfl (by kernel_rfl) (fun _ _ _ h => h) gnone (TTany _) (p_asg rfl) rfl ?_
        refine dnB (by kernel_rfl) (nmid (fun a w h => by first | exact ⟨b15, b16, r1, r2, r3, z1, z2, hs, k1, k2, wk (is := [1, 0]) (by repeat (first | exact subσ.nil _ | refine subσ.cons rfl ?_)) rfl (by repeat' (first | constructor | apply Sub.suf)) a w h⟩ | exact ⟨b15, b16, r1, r2, r3, z1, z2, hs, k1, k2, wk (is := [0, 0]) (by repeat (first | exact subσ.nil _ | refine subσ.cons rfl ?_)) rfl (by repeat' (first | constructor | apply Sub.suf)) a w h⟩))
       ·
        refine doRB rfl (o_alloc Tryz.zeroValue70 rfl rfl) (TOk.t (isBoxE fun _ => isInS (by repeat' constructor) (k := 0) rfl (z := 6) (by repeat (first | exact Cut.d | apply Cut.t | apply Cut.s))) (TOk.t (isBoxE fun _ => isInS (by repeat' constructor) (k := 0) rfl (z := 6) (by repeat (first | exact Cut.d | apply Cut.t | apply Cut.s))) TOk.d)) ?_
        refine eaB ?_; intro b15
        refine dfB 6 (by kernel_rfl) ?_
        refine doRB rfl (o_call (is := []) Tryz.call42 (c_Swap ps[0] qs[0] zyp zyq hfp hfq) rfl rfl (by repeat' (first | constructor | apply Sub.suf)) rfl) (TOk.xP 6 [] (by kernel_rfl) (TOk.xP 6 [] (by kernel_rfl) TOk.d)) ?_
        refine eaB ?_; rintro ⟨⟨⟨r1, r2, r3⟩, z1, z2⟩, hs⟩
        obtain ⟨k1, k2⟩ := swap_fit hfp hfq; rw [← hs] at k1 k2; dsimp only at hs k1 k2
        refine tkB 7 rfl (by kernel_rfl) (fun _ _ _ h => h) gnone (TTany _) (p_move rfl) rfl ?_
        refine tkB 8 rfl (by kernel_rfl) (fun _ _ _ h => h) gnone (TTany _) (p_ext rfl (by repeat' constructor)) rfl ?_
        refine tkB 9 rfl (by kernel_rfl) (fun _ _ _ h => h) gnone (TTany _) (p_ext rfl (by repeat' constructor)) rfl ?_
        refine tkB 10 rfl (by kernel_rfl) (fun _ _ _ h => h) gnone (TTany _) (p_ext rfl (by repeat' constructor)) rfl ?_
        refine dfB 13 (by kernel_rfl) ?_
        refine doRB rfl (o_st rfl Tryz.sizeOf70 rfl rfl rfl rfl rfl (by repeat' constructor) (by repeat' constructor) (by repeat' constructor)) (TOk.xP 6 [] (by kernel_rfl) (TOk.xP 6 [] (by kernel_rfl) TOk.d)) ?_
        refine dfB 14 (by kernel_rfl) ?_
        refine doRB rfl (o_st rfl Tryz.sizeOf70 rfl rfl rfl rfl rfl (by repeat' constructor) (by repeat' constructor) (by repeat' constructor)) (TOk.xP 6 [] (by kernel_rfl) (TOk.xP 6 [] (by kernel_rfl) TOk.d)) ?_
        refine tkB 15 rfl (by kernel_rfl) (fun _ _ _ h => h) gnone (TTany _) (p_asg rfl) rfl ?_
        refine dnB (by kernel_rfl) (nmid (fun a w h => by first | exact ⟨b15, b16, r1, r2, r3, z1, z2, hs, k1, k2, wk (is := [1, 0]) (by repeat (first | exact subσ.nil _ | refine subσ.cons rfl ?_)) rfl (by repeat' (first | constructor | apply Sub.suf)) a w h⟩ | exact ⟨b15, b16, r1, r2, r3, z1, z2, hs, k1, k2, wk (is := [0, 0]) (by repeat (first | exact subσ.nil _ | refine subσ.cons rfl ?_)) rfl (by repeat' (first | constructor | apply Sub.suf)) a w h⟩))
     ·
      refine nex fun b15 => nex fun b16 => nex fun r1 => nex fun r2 => nex fun r3 => nex fun z1 => nex fun z2 => nex fun hs => nex fun k1 => nex fun k2 => ?_
      refine nthen ?_
      refine cs ?_
      refine cmono (fun a w h => subS (l' := [ps[0]]) (c := c5) 0 1 (by repeat (first | exact In.z | apply In.s)) (by omega) (by omega) hcap5 (by rw [List.drop_zero]; exact take_one hp0) h) ?_
      refine cmono (fun a w h => subS (l' := [qs[0]]) (c := c6) 0 1 (by repeat (first | exact In.z | apply In.s)) (by omega) (by omega) hcap6 (by rw [List.drop_zero]; exact take_one hp1) h) ?_
      refine cdB [4] [] TryzX.mixed (by kernel_rfl) (by kernel_rfl) TOk.d ?_
      refine tkB 0 rfl (by kernel_rfl) (fun _ _ _ h => h) gnone (TTany _) (p_move rfl) rfl ?_
      refine tkB 1 rfl (by kernel_rfl) (fun _ _ _ h => h) gnone (TTany _) (p_slh 1 (by omega) rfl Tryz.underlying25 Tryz.sizeOf70 rfl rfl) rfl ?_
      refine tkB 2 rfl (by kernel_rfl) (fun _ _ _ h => h) gnone (TTany _) (p_move rfl) rfl ?_
      refine tkB 3 rfl (by kernel_rfl) (fun _ _ _ h => h) gnone (TTany _) (p_slh 1 (by omega) rfl Tryz.underlying25 Tryz.sizeOf70 rfl rfl) rfl ?_
      refine dfB 4 (by kernel_rfl) ?_
      refine doRB rfl (o_call (is := []) Tryz.call26 (c_seqSwapC [ps[0]] [qs[0]] _ _ _ _ (by simp) (by simp) (fun x hx => by rw [List.mem_singleton.1 hx]; exact hfp) (fun x hx => by rw [List.mem_singleton.1 hx]; exact hfq)) rfl rfl (by repeat' (first | constructor | apply Sub.suf)) rfl) TOk.d ?_
      refine eaB ?_; rintro ⟨⟨⟨f, s, b9⟩, ⟨⟨A18, c18⟩, ⟨A19, c19⟩⟩⟩, hr⟩
      dsimp only at hr
      rw [swT_one hs] at hr
      refine tkB 5 rfl (by kernel_rfl) (fun _ _ _ h => h) gnone (TTany _) (p_move rfl) rfl ?_
      refine tkB 6 rfl (by kernel_rfl) (fun _ _ _ h => h) gnone (TTany _) (p_ext rfl (by repeat' constructor)) rfl ?_
      refine tkB 7 rfl (by kernel_rfl) (fun _ _ _ h => h) gnone (TTany _) (p_ext rfl (by repeat' constructor)) rfl ?_
      refine tkB 8 rfl (by kernel_rfl) (fun _ _ _ h => h) gnone (TTany _) (p_ext rfl (by repeat' constructor)) rfl ?_
      refine tkB 9 rfl (by kernel_rfl) (fun _ _ _ h => h) gnone (TTany _) (p_asg rfl) rfl ?_
      refine tkB 10 rfl (by kernel_rfl) (fun _ _ _ h => h) gnone (TTany _) (p_asg rfl) rfl ?_
      refine tkB 11 rfl (by kernel_rfl) (fun _ _ _ h => h) gnone (TTany _) (p_asg rfl) rfl ?_
      refine dnB (by kernel_rfl) ?_
      refine nthen ?_
      refine cs ?_
      cases r3
      ·
       obtain ⟨rfl, hrb⟩ := Prod.mk.inj hr
       obtain ⟨rfl, rfl⟩ := Prod.mk.inj hrb
       refine cdB [] [] TryzX.mixed (by kernel_rfl) (by kernel_rfl) TOk.d ?_
       refine tkB 0 rfl (by kernel_rfl) (fun _ _ _ h => h) gnone (TTany _) (p_move rfl) rfl ?_
       refine tkB 1 rfl (by kernel_rfl) (fun _ _ _ h => h) gnone (TTany _) (p_move rfl) rfl ?_
       refine tkB 2 rfl (by kernel_rfl) (fun _ _ _ h => h) gnone (TTany _) (p_bne Tryz.underlying4 rfl rfl) rfl ?_
       refine fixB (congrArg Value.bool (bne_self_eq_false _)) ?_
       refine tkB 3 rfl (by kernel_rfl) (fun _ _ _ h => h) gnone (TTany _) (p_move rfl) rfl ?_
       refine tkB 4 rfl (by kernel_rfl) (fun _ _ _ h => h) (gyes rfl rfl rfl rfl) (TTany _) (p_move rfl) rfl ?_
       refine tkB 5 rfl (by kernel_rfl) (fun _ _ _ h => h) (gyes rfl rfl rfl rfl) (TTany _) (p_move rfl) rfl ?_
       refine tksB 6 rfl (by kernel_rfl) (fun _ _ _ h => h) rfl rfl rfl rfl rfl ?_
       refine tksB 7 rfl (by kernel_rfl) (fun _ _ _ h => h) rfl rfl rfl rfl rfl ?_
       refine tksB 8 rfl (by kernel_rfl) (fun _ _ _ h => h) rfl rfl rfl rfl rfl ?_
       refine tksB 9 rfl (by kernel_rfl) (fun _ _ _ h => h) rfl rfl rfl rfl rfl ?_
       refine tksB 10 rfl (by kernel_rfl) (fun _ _ _ h => h) rfl rfl rfl rfl rfl ?_
       refine tksB 11 rfl (by kernel_rfl) (fun _ _ _ h => h) rfl rfl rfl rfl rfl ?_
       refine tksB 12 rfl (by kernel_rfl) (fun _ _ _ h => h) rfl rfl rfl rfl rfl ?_
       refine tksuB 13 rfl (by kernel_rfl) (fun _ _ _ h => h) rfl rfl rfl rfl ?_
       refine tksuB 14 rfl (by kernel_rfl) (fun _ _ _ h => h) rfl rfl rfl rfl ?_
       refine tksuB 15 rfl (by kernel_rfl) (fun _ _ _ h => h) rfl rfl rfl rfl ?_
       refine tksuB 16 rfl (by kernel_rfl) (fun _ _ _ h => h) rfl rfl rfl rfl ?_
       refine tksuB 17 rfl (by kernel_rfl) (fun _ _ _ h => h) rfl rfl rfl rfl ?_
       refine tksuB 18 rfl (by kernel_rfl) (fun _ _ _ h => h) rfl rfl rfl rfl ?_
       refine tksB 19 rfl (by kernel_rfl) (fun _ _ _ h => h) rfl rfl rfl rfl rfl ?_
       refine tkB 20 rfl (by kernel_rfl) (fun _ _ _ h => h) (gyes rfl rfl rfl rfl) (TTany _) (p_pickf rfl rfl) rfl ?_
       refine tkB 21 rfl (by kernel_rfl) (fun _ _ _ h => h) gnone (TTany _) (p_pickf rfl rfl) rfl ?_
       refine dnB (by kernel_rfl) ?_
       refine nthen ?_
       refine cc rfl (fun h => by cases h) (fun h => ?_)
       refine cskip ?_
       refine nthen ?_
       refine cs ?_
       refine cr ?_
       refine ls (op (p_move rfl) rfl) ?_
       refine ls (o_call (is := []) Tryz.call31 (c_Made02 l A c (by omega) hMo) rfl rfl (by repeat' (first | constructor | apply Sub.suf)) rfl) ?_
       refine le ?_; rintro ⟨⟨p, b⟩, ⟨A2, c2⟩⟩
       refine ls (op (p_move rfl) rfl) ?_
       refine ls (op (p_ext rfl (by repeat' constructor)) rfl) ?_
       refine ls (op (p_ext rfl (by repeat' constructor)) rfl) ?_
       refine ls (op (p_asg rfl) rfl) ?_
       refine ls (op (p_asg rfl) rfl) ?_
       refine ln ?_
       refine nthen ?_
       refine cs ?_
       refine cs ?_
       refine cr ?_
       refine ls (op (p_move rfl) rfl) ?_
       refine ls (op (p_ptrnil Tryz.underlying51 rfl rfl) rfl) ?_
       refine ln ?_
       refine nthen ?_
       refine cc rfl (fun h => by cases h) (fun h => ?_)
       refine cskip ?_
       refine nthen ?_
       refine cs ?_
       refine cr ?_
       refine ls (op (p_move rfl) rfl) ?_
       refine ls (o_call (is := [0, 0]) Tryz.call36 (c_tCopy p b (madeT l)) rfl rfl (by repeat' (first | constructor | apply Sub.suf)) rfl) ?_
       refine le ?_; rintro ⟨p4, b4⟩
       refine ls (op (p_asg rfl) rfl) ?_
       refine ln ?_
       refine nthen ?_
       refine cs ?_
       refine cmono (fun a w h => by have h2 := subP (α := Prim) (A := A5) (l := ps) ps.length (by repeat (first | exact In.z | apply In.s)) (Nat.le_refl _) h; rw [List.take_length] at h2; exact h2) ?_
       refine cr ?_
       refine ls (op (p_move rfl) rfl) ?_
       refine ls (op (p_move rfl) rfl) ?_
       refine ls (op (p_move rfl) rfl) ?_
       refine ls (op (p_lenl rfl Tryz.underlying25) rfl) ?_
       refine ls (op (p_move rfl) rfl) ?_
       refine ls (op (p_lenl rfl Tryz.underlying25) rfl) ?_
       refine ls (op (p_slm ps.length ps.length (Nat.le_refl _) hcap5 rfl rfl Tryz.underlying25 Tryz.sizeOf70 rfl rfl rfl) rfl) ?_
       refine fixL (slen2 (m' := ps.length) (c' := ps.length) (by omega) (by omega)) ?_
       refine ls (op (p_move rfl) rfl) ?_
       refine ls (o_appG Tryz.underlying25 inf70 rfl (by decide) (by decide) rfl rfl rfl (by omega) (by repeat' (first | constructor | apply Sub.suf)) rfl) ?_
       refine le ?_; rintro ⟨A7, c7⟩
       refine lpure (St.cap (m := (ps ++ qs).length) (c := c7) (by repeat' constructor)) ?_
       intro hcap7
       refine ls (o_call (is := [2, 2]) Tryz.call33 (c_seqApply p b (madeT l) (omany l) (l.length) hinv (ps ++ qs) A7 c7 hcap7 (by rw [List.length_append]; omega) (fun x hx => (List.mem_append.1 hx).elim (hfps x) (hfqs x)) (by rw [lns_app]; omega) (by rw [List.length_append]; omega)) rfl rfl (by repeat' (first | constructor | apply Sub.suf)) rfl) ?_
       refine le ?_; rintro ⟨⟨V, e1⟩, hq1⟩
       try dsimp only at hq1
       have hinV := rowT_inv hinv hq1
       rw [lns_app] at hinV
       have hftV : Tfit V := inv_fit hinV (by omega)
       refine ls (op (p_icmp rfl rfl rfl) rfl) ?_
       refine ls (op (p_asg rfl) rfl) ?_
       refine ln ?_
       refine nthen ?_
       refine cs ?_
       rcases three (madeT l) ps qs with ⟨ha, hb⟩ | ⟨ha, hb⟩ | ha
       ·
        have he1 : e1 = 0 := ones_yes hq1 ha hb
        subst he1
        refine cr ?_
        refine ls (op (p_move rfl) rfl) ?_
        refine ls (op (p_move rfl) rfl) ?_
        refine ls (o_call (is := [2, 2]) Tryz.call33 (c_seqApply p4 b4 (madeT l) (omany l) (l.length) hinv ps A5 c5 hcap5 (by omega) hfps (by omega) (by omega)) rfl rfl (by repeat' (first | constructor | apply Sub.suf)) rfl) ?_
        refine le ?_; rintro ⟨⟨U1, e2⟩, hq2⟩
        try dsimp only at hq2
        have hin1 := rowT_inv hinv hq2
        have he2 : e2 = 0 := (congrArg Prod.snd hq2).trans ha
        subst he2
        refine ls (op (p_icmp rfl rfl rfl) rfl) ?_
        refine fixL (congrArg Value.bool (decide_eq_true rfl)) ?_
        refine ls (op (p_move rfl) rfl) ?_
        refine lwant rfl rfl rfl rfl (op (p_move rfl) rfl) ?_
        refine lwant rfl rfl rfl rfl (op (p_move rfl) rfl) ?_
        refine lwant rfl rfl rfl rfl (o_call (is := [0, 0]) Tryz.call33 (c_seqApply p4 b4 U1 (omany l + lns ps) (l.length + ps.length) hin1 qs A6 c6 hcap6 (by omega) hfqs (by omega) (by omega)) rfl rfl (by repeat' (first | constructor | apply Sub.suf)) rfl) ?_
        refine le ?_; rintro ⟨⟨U2, e3⟩, hq3⟩
        try dsimp only at hq3
        have hU : U1 = (rowT (madeT l) ps).1 := congrArg Prod.fst hq2
        have he3 : e3 = 0 := by { have h : e3 = (rowT U1 qs).2 := congrArg Prod.snd hq3; rw [hU] at h; exact h.trans hb }
        subst he3
        obtain ⟨rfl, _⟩ := ones_same hq1 hq2 hq3
        refine lwant rfl rfl rfl rfl (op (p_icmp rfl rfl rfl) rfl) ?_
        refine fixL (congrArg Value.bool (decide_eq_true rfl)) ?_
        refine ls (op (p_pickt rfl rfl) rfl) ?_
        refine ls (op (p_asg rfl) rfl) ?_
        refine ln ?_
        refine nthen ?_
        refine cs ?_
        refine cr ?_
        refine ls (o_call (is := []) Tryz.call12 (c_alive05) rfl rfl (by repeat' (first | constructor | apply Sub.suf)) rfl) ?_
        refine le ?_; intro x159
        refine ls (op (p_move rfl) rfl) ?_
        refine lwant rfl rfl rfl rfl (op (p_move rfl) rfl) ?_
        refine fixL (congrArg Value.bool (decide_eq_true rfl)) ?_
        refine lwant rfl rfl rfl rfl (op (p_move rfl) rfl) ?_
        refine lwant rfl rfl rfl rfl (op (p_beq Tryz.underlying4 rfl rfl) rfl) ?_
        refine fixL (congrArg Value.bool (beq_self_eq_true _)) ?_
        refine ls (op (p_pickt rfl rfl) rfl) ?_
        refine ls (op (p_move rfl) rfl) ?_
        refine lwant rfl rfl rfl rfl (op (p_move rfl) rfl) ?_
        refine fixL (congrArg Value.bool (decide_eq_true rfl)) ?_
        refine lwant rfl rfl rfl rfl (op (p_not rfl) rfl) ?_
        refine lwant rfl rfl rfl rfl (op (p_move rfl) rfl) ?_
        refine lwant rfl rfl rfl rfl (op (p_move rfl) rfl) ?_
        refine lwant rfl rfl rfl rfl (op (p_move rfl) rfl) ?_
        refine lwant rfl rfl rfl rfl (o_call (is := [2, 2, 0, 0]) Tryz.call37 (c_tSame p b p4 b4 V V hftV) rfl rfl (by repeat' (first | constructor | apply Sub.suf)) rfl) ?_
        refine le ?_; intro x171
        refine fixL (congrArg Value.bool (decide_eq_true rfl)) ?_
        refine lwant rfl rfl rfl rfl (op (p_pickf rfl rfl) rfl) ?_
        refine ls (op (p_pickt rfl rfl) rfl) ?_
        refine ls (op (p_asg rfl) rfl) ?_
        refine ln ?_
        refine nthen ?_
        refine cret ?_
        refine xret (fun _ _ h => h) ?_
        refine rret (is := []) () (Or.inl rfl) (Res.t rfl Res.d) (rfl) rfl (by repeat' (first | constructor | apply Sub.suf))
       ·
        have he1 : ¬ e1 = 0 := ones_no hq1 hb
        refine cr ?_
        refine ls (op (p_move rfl) rfl) ?_
        refine ls (op (p_move rfl) rfl) ?_
        refine ls (o_call (is := [2, 2]) Tryz.call33 (c_seqApply p4 b4 (madeT l) (omany l) (l.length) hinv ps A5 c5 hcap5 (by omega) hfps (by omega) (by omega)) rfl rfl (by repeat' (first | constructor | apply Sub.suf)) rfl) ?_
        refine le ?_; rintro ⟨⟨U1, e2⟩, hq2⟩
        try dsimp only at hq2
        have hin1 := rowT_inv hinv hq2
        have he2 : e2 = 0 := (congrArg Prod.snd hq2).trans ha
        subst he2
        refine ls (op (p_icmp rfl rfl rfl) rfl) ?_
        refine fixL (congrArg Value.bool (decide_eq_true rfl)) ?_
        refine ls (op (p_move rfl) rfl) ?_
        refine lwant rfl rfl rfl rfl (op (p_move rfl) rfl) ?_
        refine lwant rfl rfl rfl rfl (op (p_move rfl) rfl) ?_
        refine lwant rfl rfl rfl rfl (o_call (is := [0, 0]) Tryz.call33 (c_seqApply p4 b4 U1 (omany l + lns ps) (l.length + ps.length) hin1 qs A6 c6 hcap6 (by omega) hfqs (by omega) (by omega)) rfl rfl (by repeat' (first | constructor | apply Sub.suf)) rfl) ?_
        refine le ?_; rintro ⟨⟨U2, e3⟩, hq3⟩
        try dsimp only at hq3
        have hU : U1 = (rowT (madeT l) ps).1 := congrArg Prod.fst hq2
        have he3 : ¬ e3 = 0 := fun h => hb (by { have h2 : e3 = (rowT U1 qs).2 := congrArg Prod.snd hq3; rw [hU] at h2; exact h2.symm.trans h })
        refine lwant rfl rfl rfl rfl (op (p_icmp rfl rfl rfl) rfl) ?_
        refine fixL (congrArg Value.bool (decide_eq_false he3)) ?_
        refine ls (op (p_pickt rfl rfl) rfl) ?_
        refine ls (op (p_asg rfl) rfl) ?_
        refine ln ?_
        refine nthen ?_
        refine cs ?_
        refine cr ?_
        refine ls (o_call (is := []) Tryz.call12 (c_alive05) rfl rfl (by repeat' (first | constructor | apply Sub.suf)) rfl) ?_
        refine le ?_; intro x159
        refine ls (op (p_move rfl) rfl) ?_
        refine lwant rfl rfl rfl rfl (op (p_move rfl) rfl) ?_
        refine fixL (congrArg Value.bool (decide_eq_false he1)) ?_
        refine lwant rfl rfl rfl rfl (op (p_move rfl) rfl) ?_
        refine lwant rfl rfl rfl rfl (op (p_beq Tryz.underlying4 rfl rfl) rfl) ?_
        refine fixL (congrArg Value.bool (beq_self_eq_true _)) ?_
        refine ls (op (p_pickt rfl rfl) rfl) ?_
        refine ls (op (p_move rfl) rfl) ?_
        refine lwant rfl rfl rfl rfl (op (p_move rfl) rfl) ?_
        refine fixL (congrArg Value.bool (decide_eq_false he1)) ?_
        refine lwant rfl rfl rfl rfl (op (p_not rfl) rfl) ?_
        refine lwant rfl rfl rfl rfl (op (p_move rfl) rfl) ?_
        refine lskip rfl rfl rfl rfl rfl ?_
        refine lskip rfl rfl rfl rfl rfl ?_
        refine lskip rfl rfl rfl rfl rfl ?_
        refine lwant rfl rfl rfl rfl (op (p_pickt rfl rfl) rfl) ?_
        refine ls (op (p_pickt rfl rfl) rfl) ?_
        refine ls (op (p_asg rfl) rfl) ?_
        refine ln ?_
        refine nthen ?_
        refine cret ?_
        refine xret (fun _ _ h => h) ?_
        refine rret (is := []) () (Or.inl rfl) (Res.t rfl Res.d) (rfl) rfl (by repeat' (first | constructor | apply Sub.suf))
       ·
        have he1 : ¬ e1 = 0 := ones_not hq1 ha
        refine cr ?_
        refine ls (op (p_move rfl) rfl) ?_
        refine ls (op (p_move rfl) rfl) ?_
        refine ls (o_call (is := [2, 2]) Tryz.call33 (c_seqApply p4 b4 (madeT l) (omany l) (l.length) hinv ps A5 c5 hcap5 (by omega) hfps (by omega) (by omega)) rfl rfl (by repeat' (first | constructor | apply Sub.suf)) rfl) ?_
        refine le ?_; rintro ⟨⟨U1, e2⟩, hq2⟩
        try dsimp only at hq2
        have hin1 := rowT_inv hinv hq2
        have he2 : ¬ e2 = 0 := fun h => ha ((congrArg Prod.snd hq2).symm.trans h)
        refine ls (op (p_icmp rfl rfl rfl) rfl) ?_
        refine fixL (congrArg Value.bool (decide_eq_false he2)) ?_
        refine ls (op (p_move rfl) rfl) ?_
        refine lskip rfl rfl rfl rfl rfl ?_
        refine lskip rfl rfl rfl rfl rfl ?_
        refine lskip rfl rfl rfl rfl rfl ?_
        refine lskip rfl rfl rfl rfl rfl ?_
        refine ls (op (p_pickf rfl rfl) rfl) ?_
        refine ls (op (p_asg rfl) rfl) ?_
        refine ln ?_
        refine nthen ?_
        refine cs ?_
        refine cr ?_
        refine ls (o_call (is := []) Tryz.call12 (c_alive05) rfl rfl (by repeat' (first | constructor | apply Sub.suf)) rfl) ?_
        refine le ?_; intro x159
        refine ls (op (p_move rfl) rfl) ?_
        refine lwant rfl rfl rfl rfl (op (p_move rfl) rfl) ?_
        refine fixL (congrArg Value.bool (decide_eq_false he1)) ?_
        refine lwant rfl rfl rfl rfl (op (p_move rfl) rfl) ?_
        refine lwant rfl rfl rfl rfl (op (p_beq Tryz.underlying4 rfl rfl) rfl) ?_
        refine fixL (congrArg Value.bool (beq_self_eq_true _)) ?_
        refine ls (op (p_pickt rfl rfl) rfl) ?_
        refine ls (op (p_move rfl) rfl) ?_
        refine lwant rfl rfl rfl rfl (op (p_move rfl) rfl) ?_
        refine fixL (congrArg Value.bool (decide_eq_false he1)) ?_
        refine lwant rfl rfl rfl rfl (op (p_not rfl) rfl) ?_
        refine lwant rfl rfl rfl rfl (op (p_move rfl) rfl) ?_
        refine lskip rfl rfl rfl rfl rfl ?_
        refine lskip rfl rfl rfl rfl rfl ?_
        refine lskip rfl rfl rfl rfl rfl ?_
        refine lwant rfl rfl rfl rfl (op (p_pickt rfl rfl) rfl) ?_
        refine ls (op (p_pickt rfl rfl) rfl) ?_
        refine ls (op (p_asg rfl) rfl) ?_
        refine ln ?_
        refine nthen ?_
        refine cret ?_
        refine xret (fun _ _ h => h) ?_
        refine rret (is := []) () (Or.inl rfl) (Res.t rfl Res.d) (rfl) rfl (by repeat' (first | constructor | apply Sub.suf))
      ·
       obtain ⟨rfl, hrb⟩ := Prod.mk.inj hr
       obtain ⟨rfl, rfl⟩ := Prod.mk.inj hrb
       refine elC (by repeat' constructor) 0 ((show ([r1] : List Prim)[0]? = some r1 from rfl)) ?_; rintro zbu zou zyu hAu
       refine elC (by repeat' constructor) 0 ((show ([r2] : List Prim)[0]? = some r2 from rfl)) ?_; rintro zbv zov zyv hAv
       refine cdB [10, 17] [(8, zbu, zou + 0 * Rp.size Prim, _), (9, b15, 0, _), (15, zbv, zov + 0 * Rp.size Prim, _), (16, b16, 0, _)] TryzX.mixed (by kernel_rfl) (by kernel_rfl) (TOk.t (isInS (by repeat' constructor) (k := 0) rfl (z := 6) (by repeat (first | exact Cut.d | apply Cut.t | apply Cut.s))) (TOk.t (isBoxS (by repeat' constructor) (k := 6) (by repeat (first | exact Cut.d | apply Cut.t | apply Cut.s))) (TOk.t (isInS (by repeat' constructor) (k := 0) rfl (z := 6) (by repeat (first | exact Cut.d | apply Cut.t | apply Cut.s))) (TOk.t (isBoxS (by repeat' constructor) (k := 6) (by repeat (first | exact Cut.d | apply Cut.t | apply Cut.s))) TOk.d)))) ?_
       refine tkB 0 rfl (by kernel_rfl) (fun _ _ _ h => h) gnone (TTany _) (p_move rfl) rfl ?_
       refine tkB 1 rfl (by kernel_rfl) (fun _ _ _ h => h) gnone (TTany _) (p_move rfl) rfl ?_
       refine tkB 2 rfl (by kernel_rfl) (fun _ _ _ h => h) gnone (TTany _) (p_bne Tryz.underlying4 rfl rfl) rfl ?_
       refine fixB (congrArg Value.bool (bne_self_eq_false _)) ?_
       refine tkB 3 rfl (by kernel_rfl) (fun _ _ _ h => h) gnone (TTany _) (p_move rfl) rfl ?_
       refine tkB 4 rfl (by kernel_rfl) (fun _ _ _ h => h) (gyes rfl rfl rfl rfl) (TTany _) (p_move rfl) rfl ?_
       refine tkB 5 rfl (by kernel_rfl) (fun _ _ _ h => h) (gyes rfl rfl rfl rfl) (TTany _) (p_move rfl) rfl ?_
       refine tkB 6 rfl (by kernel_rfl) (fun _ _ _ h => h) (gyes rfl rfl rfl rfl) (TTany _) (p_move rfl) rfl ?_
       refine tkB 7 rfl (by kernel_rfl) (fun _ _ _ h => h) (gyes rfl rfl rfl rfl) (TTany _) (p_ia 0 hAu Nat.zero_lt_one rfl Tryz.underlying25 Tryz.sizeOf70 rfl rfl) rfl ?_
       refine tkB 8 rfl (by kernel_rfl) (fun _ _ _ h => h) (gyes rfl rfl rfl rfl) (TTat (List.Mem.head _)) (p_lda Tryz.isAgg70 Tryz.sizeOf70 rfl rfl) rfl ?_
       refine tkB 9 rfl (by kernel_rfl) (fun _ _ _ h => h) (gyes rfl rfl rfl rfl) (TTat (List.Mem.tail _ (List.Mem.head _))) (p_lda Tryz.isAgg70 Tryz.sizeOf70 rfl rfl) rfl ?_
       refine dfB 10 (by kernel_rfl) ?_
       refine doGB rfl rfl rfl rfl rfl (o_call (is := []) Tryz.call43 (c_primSame r1 r1 zyu z1 k1) rfl rfl (by repeat' (first | constructor | apply Sub.suf)) rfl) (TOk.xP 10 [] (by kernel_rfl) (TOk.xP 10 [] (by kernel_rfl) (TOk.t (isBoxE fun _ => isInS (by repeat' constructor) (k := 0) rfl (z := 6) (by repeat (first | exact Cut.d | apply Cut.t | apply Cut.s))) (TOk.t (isBoxE fun _ => isBoxS (by repeat' constructor) (k := 6) (by repeat (first | exact Cut.d | apply Cut.t | apply Cut.s))) TOk.d)))) ?_
       refine eaB ?_; intro x117
       refine fixB (congrArg Value.bool (decide_eq_true rfl)) ?_
       refine tkB 11 rfl (by kernel_rfl) (fun _ _ _ h => h) (gyes rfl rfl rfl rfl) (TTany _) (p_not rfl) rfl ?_
       refine tkB 12 rfl (by kernel_rfl) (fun _ _ _ h => h) (gyes rfl rfl rfl rfl) (TTany _) (p_move rfl) rfl ?_
       refine tkB 13 rfl (by kernel_rfl) (fun _ _ _ h => h) (gyes rfl rfl rfl rfl) (TTany _) (p_move rfl) rfl ?_
       refine tkB 14 rfl (by kernel_rfl) (fun _ _ _ h => h) (gyes rfl rfl rfl rfl) (TTany _) (p_ia 0 hAv Nat.zero_lt_one rfl Tryz.underlying25 Tryz.sizeOf70 rfl rfl) rfl ?_
       refine tkB 15 rfl (by kernel_rfl) (fun _ _ _ h => h) (gyes rfl rfl rfl rfl) (TTat (List.Mem.tail _ (List.Mem.tail _ (List.Mem.head _)))) (p_lda Tryz.isAgg70 Tryz.sizeOf70 rfl rfl) rfl ?_
       refine tkB 16 rfl (by kernel_rfl) (fun _ _ _ h => h) (gyes rfl rfl rfl rfl) (TTat (List.Mem.tail _ (List.Mem.tail _ (List.Mem.tail _ (List.Mem.head _))))) (p_lda Tryz.isAgg70 Tryz.sizeOf70 rfl rfl) rfl ?_
       refine dfB 17 (by kernel_rfl) ?_
       refine doGB rfl rfl rfl rfl rfl (o_call (is := []) Tryz.call43 (c_primSame r2 r2 zyv z2 k2) rfl rfl (by repeat' (first | constructor | apply Sub.suf)) rfl) (TOk.xP 10 [] (by kernel_rfl) (TOk.xP 10 [] (by kernel_rfl) (TOk.xP 17 [] (by kernel_rfl) (TOk.xP 17 [] (by kernel_rfl) TOk.d)))) ?_
       refine eaB ?_; intro x124
       refine fixB (congrArg Value.bool (decide_eq_true rfl)) ?_
       refine tkB 18 rfl (by kernel_rfl) (fun _ _ _ h => h) (gyes rfl rfl rfl rfl) (TTany _) (p_not rfl) rfl ?_
       refine tkB 19 rfl (by kernel_rfl) (fun _ _ _ h => h) (gyes rfl rfl rfl rfl) (TTany _) (p_pickf rfl rfl) rfl ?_
       refine tkB 20 rfl (by kernel_rfl) (fun _ _ _ h => h) (gyes rfl rfl rfl rfl) (TTany _) (p_pickt rfl rfl) rfl ?_
       refine tkB 21 rfl (by kernel_rfl) (fun _ _ _ h => h) gnone (TTany _) (p_pickf rfl rfl) rfl ?_
       refine dnB (by kernel_rfl) ?_
       refine nthen ?_
       refine cc rfl (fun h => by cases h) (fun h => ?_)
       refine cskip ?_
       refine nthen ?_
       refine cs ?_
       refine cr ?_
       refine ls (op (p_move rfl) rfl) ?_
       refine ls (o_call (is := []) Tryz.call31 (c_Made02 l A c (by omega) hMo) rfl rfl (by repeat' (first | constructor | apply Sub.suf)) rfl) ?_
       refine le ?_; rintro ⟨⟨p, b⟩, ⟨A2, c2⟩⟩
       refine ls (op (p_move rfl) rfl) ?_
       refine ls (op (p_ext rfl (by repeat' constructor)) rfl) ?_
       refine ls (op (p_ext rfl (by repeat' constructor)) rfl) ?_
       refine ls (op (p_asg rfl) rfl) ?_
       refine ls (op (p_asg rfl) rfl) ?_
       refine ln ?_
       refine nthen ?_
       refine cs ?_
       refine cs ?_
       refine cr ?_
       refine ls (op (p_move rfl) rfl) ?_
       refine ls (op (p_ptrnil Tryz.underlying51 rfl rfl) rfl) ?_
       refine ln ?_
       refine nthen ?_
       refine cc rfl (fun h => by cases h) (fun h => ?_)
       refine cskip ?_
       refine nthen ?_
       refine cs ?_
       refine cr ?_
       refine ls (op (p_move rfl) rfl) ?_
       refine ls (o_call (is := [0, 0]) Tryz.call36 (c_tCopy p b (madeT l)) rfl rfl (by repeat' (first | constructor | apply Sub.suf)) rfl) ?_
       refine le ?_; rintro ⟨p4, b4⟩
       refine ls (op (p_asg rfl) rfl) ?_
       refine ln ?_
       refine nthen ?_
       refine cs ?_
       refine cmono (fun a w h => by have h2 := subP (α := Prim) (A := A5) (l := ps) ps.length (by repeat (first | exact In.z | apply In.s)) (Nat.le_refl _) h; rw [List.take_length] at h2; exact h2) ?_
       refine cr ?_
       refine ls (op (p_move rfl) rfl) ?_
       refine ls (op (p_move rfl) rfl) ?_
       refine ls (op (p_move rfl) rfl) ?_
       refine ls (op (p_lenl rfl Tryz.underlying25) rfl) ?_
       refine ls (op (p_move rfl) rfl) ?_
       refine ls (op (p_lenl rfl Tryz.underlying25) rfl) ?_
       refine ls (op (p_slm ps.length ps.length (Nat.le_refl _) hcap5 rfl rfl Tryz.underlying25 Tryz.sizeOf70 rfl rfl rfl) rfl) ?_
       refine fixL (slen2 (m' := ps.length) (c' := ps.length) (by omega) (by omega)) ?_
       refine ls (op (p_move rfl) rfl) ?_
       refine ls (o_appG Tryz.underlying25 inf70 rfl (by decide) (by decide) rfl rfl rfl (by omega) (by repeat' (first | constructor | apply Sub.suf)) rfl) ?_
       refine le ?_; rintro ⟨A7, c7⟩
       refine lpure (St.cap (m := (ps ++ qs).length) (c := c7) (by repeat' constructor)) ?_
       intro hcap7
       refine ls (o_call (is := [2, 2]) Tryz.call33 (c_seqApply p b (madeT l) (omany l) (l.length) hinv (ps ++ qs) A7 c7 hcap7 (by rw [List.length_append]; omega) (fun x hx => (List.mem_append.1 hx).elim (hfps x) (hfqs x)) (by rw [lns_app]; omega) (by rw [List.length_append]; omega)) rfl rfl (by repeat' (first | constructor | apply Sub.suf)) rfl) ?_
       refine le ?_; rintro ⟨⟨V, e1⟩, hq1⟩
       try dsimp only at hq1
       have hinV := rowT_inv hinv hq1
       rw [lns_app] at hinV
       have hftV : Tfit V := inv_fit hinV (by omega)
       refine ls (op (p_icmp rfl rfl rfl) rfl) ?_
       refine ls (op (p_asg rfl) rfl) ?_
       refine ln ?_
       refine nthen ?_
       refine cs ?_
       rcases three (madeT l) ps qs with ⟨ha, hb⟩ | ⟨ha, hb⟩ | ha
       ·
        have he1 : e1 = 0 := ones_yes hq1 ha hb
        subst he1
        refine cr ?_
        refine ls (op (p_move rfl) rfl) ?_
        refine ls (op (p_move rfl) rfl) ?_
        refine ls (o_call (is := [2, 2]) Tryz.call33 (c_seqApply p4 b4 (madeT l) (omany l) (l.length) hinv ps A5 c5 hcap5 (by omega) hfps (by omega) (by omega)) rfl rfl (by repeat' (first | constructor | apply Sub.suf)) rfl) ?_
        refine le ?_; rintro ⟨⟨U1, e2⟩, hq2⟩
        try dsimp only at hq2
        have hin1 := rowT_inv hinv hq2
        have he2 : e2 = 0 := (congrArg Prod.snd hq2).trans ha
        subst he2
        refine ls (op (p_icmp rfl rfl rfl) rfl) ?_
        refine fixL (congrArg Value.bool (decide_eq_true rfl)) ?_
        refine ls (op (p_move rfl) rfl) ?_
        refine lwant rfl rfl rfl rfl (op (p_move rfl) rfl) ?_
        refine lwant rfl rfl rfl rfl (op (p_move rfl) rfl) ?_
        refine lwant rfl rfl rfl rfl (o_call (is := [0, 0]) Tryz.call33 (c_seqApply p4 b4 U1 (omany l + lns ps) (l.length + ps.length) hin1 qs A6 c6 hcap6 (by omega) hfqs (by omega) (by omega)) rfl rfl (by repeat' (first | constructor | apply Sub.suf)) rfl) ?_
        refine le ?_; rintro ⟨⟨U2, e3⟩, hq3⟩
        try dsimp only at hq3
        have hU : U1 = (rowT (madeT l) ps).1 := congrArg Prod.fst hq2
        have he3 : e3 = 0 := by { have h : e3 = (rowT U1 qs).2 := congrArg Prod.snd hq3; rw [hU] at h; exact h.trans hb }
        subst he3
        obtain ⟨rfl, _⟩ := ones_same hq1 hq2 hq3
        refine lwant rfl rfl rfl rfl (op (p_icmp rfl rfl rfl) rfl) ?_
        refine fixL (congrArg Value.bool (decide_eq_true rfl)) ?_
        refine ls (op (p_pickt rfl rfl) rfl) ?_
        refine ls (op (p_asg rfl) rfl) ?_
        refine ln ?_
        refine nthen ?_
        refine cs ?_
        refine cr ?_
        refine ls (o_call (is := []) Tryz.call12 (c_alive05) rfl rfl (by repeat' (first | constructor | apply Sub.suf)) rfl) ?_
        refine le ?_; intro x159
        refine ls (op (p_move rfl) rfl) ?_
        refine lwant rfl rfl rfl rfl (op (p_move rfl) rfl) ?_
        refine fixL (congrArg Value.bool (decide_eq_true rfl)) ?_
        refine lwant rfl rfl rfl rfl (op (p_move rfl) rfl) ?_
        refine lwant rfl rfl rfl rfl (op (p_beq Tryz.underlying4 rfl rfl) rfl) ?_
        refine fixL (congrArg Value.bool (beq_self_eq_true _)) ?_
        refine ls (op (p_pickt rfl rfl) rfl) ?_
        refine ls (op (p_move rfl) rfl) ?_
        refine lwant rfl rfl rfl rfl (op (p_move rfl) rfl) ?_
        refine fixL (congrArg Value.bool (decide_eq_true rfl)) ?_
        refine lwant rfl rfl rfl rfl (op (p_not rfl) rfl) ?_
        refine lwant rfl rfl rfl rfl (op (p_move rfl) rfl) ?_
        refine lwant rfl rfl rfl rfl (op (p_move rfl) rfl) ?_
        refine lwant rfl rfl rfl rfl (op (p_move rfl) rfl) ?_
        refine lwant rfl rfl rfl rfl (o_call (is := [2, 2, 0, 0]) Tryz.call37 (c_tSame p b p4 b4 V V hftV) rfl rfl (by repeat' (first | constructor | apply Sub.suf)) rfl) ?_
        refine le ?_; intro x171
        refine fixL (congrArg Value.bool (decide_eq_true rfl)) ?_
        refine lwant rfl rfl rfl rfl (op (p_pickf rfl rfl) rfl) ?_
        refine ls (op (p_pickt rfl rfl) rfl) ?_
        refine ls (op (p_asg rfl) rfl) ?_
        refine ln ?_
        refine nthen ?_
        refine cret ?_
        refine xret (fun _ _ h => h) ?_
        refine rret (is := []) () (Or.inl rfl) (Res.t rfl Res.d) (rfl) rfl (by repeat' (first | constructor | apply Sub.suf))
       ·
        have he1 : ¬ e1 = 0 := ones_no hq1 hb
        refine cr ?_
        refine ls (op (p_move rfl) rfl) ?_
        refine ls (op (p_move rfl) rfl) ?_
        refine ls (o_call (is := [2, 2]) Tryz.call33 (c_seqApply p4 b4 (madeT l) (omany l) (l.length) hinv ps A5 c5 hcap5 (by omega) hfps (by omega) (by omega)) rfl rfl (by repeat' (first | constructor | apply Sub.suf)) rfl) ?_
        refine le ?_; rintro ⟨⟨U1, e2⟩, hq2⟩
        try dsimp only at hq2
        have hin1 := rowT_inv hinv hq2
        have he2 : e2 = 0 := (congrArg Prod.snd hq2).trans ha
        subst he2
        refine ls (op (p_icmp rfl rfl rfl) rfl) ?_
        refine fixL (congrArg Value.bool (decide_eq_true rfl)) ?_
        refine ls (op (p_move rfl) rfl) ?_
        refine lwant rfl rfl rfl rfl (op (p_move rfl) rfl) ?_
        refine lwant rfl rfl rfl rfl (op (p_move rfl) rfl) ?_
        refine lwant rfl rfl rfl rfl (o_call (is := [0, 0]) Tryz.call33 (c_seqApply p4 b4 U1 (omany l + lns ps) (l.length + ps.length) hin1 qs A6 c6 hcap6 (by omega) hfqs (by omega) (by omega)) rfl rfl (by repeat' (first | constructor | apply Sub.suf)) rfl) ?_
        refine le ?_; rintro ⟨⟨U2, e3⟩, hq3⟩
        try dsimp only at hq3
        have hU : U1 = (rowT (madeT l) ps).1 := congrArg Prod.fst hq2
        have he3 : ¬ e3 = 0 := fun h => hb (by { have h2 : e3 = (rowT U1 qs).2 := congrArg Prod.snd hq3; rw [hU] at h2; exact h2.symm.trans h })
        refine lwant rfl rfl rfl rfl (op (p_icmp rfl rfl rfl) rfl) ?_
        refine fixL (congrArg Value.bool (decide_eq_false he3)) ?_
        refine ls (op (p_pickt rfl rfl) rfl) ?_
        refine ls (op (p_asg rfl) rfl) ?_
        refine ln ?_
        refine nthen ?_
        refine cs ?_
        refine cr ?_
        refine ls (o_call (is := []) Tryz.call12 (c_alive05) rfl rfl (by repeat' (first | constructor | apply Sub.suf)) rfl) ?_
        refine le ?_; intro x159
        refine ls (op (p_move rfl) rfl) ?_
        refine lwant rfl rfl rfl rfl (op (p_move rfl) rfl) ?_
        refine fixL (congrArg Value.bool (decide_eq_false he1)) ?_
        refine lwant rfl rfl rfl rfl (op (p_move rfl) rfl) ?_
        refine lwant rfl rfl rfl rfl (op (p_beq Tryz.underlying4 rfl rfl) rfl) ?_
        refine fixL (congrArg Value.bool (beq_self_eq_true _)) ?_
        refine ls (op (p_pickt rfl rfl) rfl) ?_
        refine ls (op (p_move rfl) rfl) ?_
        refine lwant rfl rfl rfl rfl (op (p_move rfl) rfl) ?_
        refine fixL (congrArg Value.bool (decide_eq_false he1)) ?_
        refine lwant rfl rfl rfl rfl (op (p_not rfl) rfl) ?_
        refine lwant rfl rfl rfl rfl (op (p_move rfl) rfl) ?_
        refine lskip rfl rfl rfl rfl rfl ?_
        refine lskip rfl rfl rfl rfl rfl ?_
        refine lskip rfl rfl rfl rfl rfl ?_
        refine lwant rfl rfl rfl rfl (op (p_pickt rfl rfl) rfl) ?_
        refine ls (op (p_pickt rfl rfl) rfl) ?_
        refine ls (op (p_asg rfl) rfl) ?_
        refine ln ?_
        refine nthen ?_
        refine cret ?_
        refine xret (fun _ _ h => h) ?_
        refine rret (is := []) () (Or.inl rfl) (Res.t rfl Res.d) (rfl) rfl (by repeat' (first | constructor | apply Sub.suf))
       ·
        have he1 : ¬ e1 = 0 := ones_not hq1 ha
        refine cr ?_
        refine ls (op (p_move rfl) rfl) ?_
        refine ls (op (p_move rfl) rfl) ?_
        refine ls (o_call (is := [2, 2]) Tryz.call33 (c_seqApply p4 b4 (madeT l) (omany l) (l.length) hinv ps A5 c5 hcap5 (by omega) hfps (by omega) (by omega)) rfl rfl (by repeat' (first | constructor | apply Sub.suf)) rfl) ?_
        refine le ?_; rintro ⟨⟨U1, e2⟩, hq2⟩
        try dsimp only at hq2
        have hin1 := rowT_inv hinv hq2
        have he2 : ¬ e2 = 0 := fun h => ha ((congrArg Prod.snd hq2).symm.trans h)
        refine ls (op (p_icmp rfl rfl rfl) rfl) ?_
        refine fixL (congrArg Value.bool (decide_eq_false he2)) ?_
        refine ls (op (p_move rfl) rfl) ?_
        refine lskip rfl rfl rfl rfl rfl ?_
        refine lskip rfl rfl rfl rfl rfl ?_
        refine lskip rfl rfl rfl rfl rfl ?_
        refine lskip rfl rfl rfl rfl rfl ?_
        refine ls (op (p_pickf rfl rfl) rfl) ?_
        refine ls (op (p_asg rfl) rfl) ?_
        refine ln ?_
        refine nthen ?_
        refine cs ?_
        refine cr ?_
        refine ls (o_call (is := []) Tryz.call12 (c_alive05) rfl rfl (by repeat' (first | constructor | apply Sub.suf)) rfl) ?_
        refine le ?_; intro x159
        refine ls (op (p_move rfl) rfl) ?_
        refine lwant rfl rfl rfl rfl (op (p_move rfl) rfl) ?_
        refine fixL (congrArg Value.bool (decide_eq_false he1)) ?_
        refine lwant rfl rfl rfl rfl (op (p_move rfl) rfl) ?_
        refine lwant rfl rfl rfl rfl (op (p_beq Tryz.underlying4 rfl rfl) rfl) ?_
        refine fixL (congrArg Value.bool (beq_self_eq_true _)) ?_
        refine ls (op (p_pickt rfl rfl) rfl) ?_
        refine ls (op (p_move rfl) rfl) ?_
        refine lwant rfl rfl rfl rfl (op (p_move rfl) rfl) ?_
        refine fixL (congrArg Value.bool (decide_eq_false he1)) ?_
        refine lwant rfl rfl rfl rfl (op (p_not rfl) rfl) ?_
        refine lwant rfl rfl rfl rfl (op (p_move rfl) rfl) ?_
        refine lskip rfl rfl rfl rfl rfl ?_
        refine lskip rfl rfl rfl rfl rfl ?_
        refine lskip rfl rfl rfl rfl rfl ?_
        refine lwant rfl rfl rfl rfl (op (p_pickt rfl rfl) rfl) ?_
        refine ls (op (p_pickt rfl rfl) rfl) ?_
        refine ls (op (p_asg rfl) rfl) ?_
        refine ln ?_
        refine nthen ?_
        refine cret ?_
        refine xret (fun _ _ h => h) ?_
        refine rret (is := []) () (Or.inl rfl) (Res.t rfl Res.d) (rfl) rfl (by repeat' (first | constructor | apply Sub.suf))
    ·
     intro h86
     skip
     refine cskip ?_
     refine nthen ?_
     refine cs ?_
     refine cr ?_
     refine ls (op (p_move rfl) rfl) ?_
     refine ls (o_call (is := []) Tryz.call31 (c_Made02 l A c (by omega) hMo) rfl rfl (by repeat' (first | constructor | apply Sub.suf)) rfl) ?_
     refine le ?_; rintro ⟨⟨p, b⟩, ⟨A2, c2⟩⟩
     refine ls (op (p_move rfl) rfl) ?_
     refine ls (op (p_ext rfl (by repeat' constructor)) rfl) ?_
     refine ls (op (p_ext rfl (by repeat' constructor)) rfl) ?_
     refine ls (op (p_asg rfl) rfl) ?_
     refine ls (op (p_asg rfl) rfl) ?_
     refine ln ?_
     refine nthen ?_
     refine cs ?_
     refine cs ?_
     refine cr ?_
     refine ls (op (p_move rfl) rfl) ?_
     refine ls (op (p_ptrnil Tryz.underlying51 rfl rfl) rfl) ?_
     refine ln ?_
     refine nthen ?_
     refine cc rfl (fun h => by cases h) (fun h => ?_)
     refine cskip ?_
     refine nthen ?_
     refine cs ?_
     refine cr ?_
     refine ls (op (p_move rfl) rfl) ?_
     refine ls (o_call (is := [0, 0]) Tryz.call36 (c_tCopy p b (madeT l)) rfl rfl (by repeat' (first | constructor | apply Sub.suf)) rfl) ?_
     refine le ?_; rintro ⟨p4, b4⟩
     refine ls (op (p_asg rfl) rfl) ?_
     refine ln ?_
     refine nthen ?_
     refine cs ?_
     refine cmono (fun a w h => by have h2 := subP (α := Prim) (A := A5) (l := ps) ps.length (by repeat (first | exact In.z | apply In.s)) (Nat.le_refl _) h; rw [List.take_length] at h2; exact h2) ?_
     refine cr ?_
     refine ls (op (p_move rfl) rfl) ?_
     refine ls (op (p_move rfl) rfl) ?_
     refine ls (op (p_move rfl) rfl) ?_
     refine ls (op (p_lenl rfl Tryz.underlying25) rfl) ?_
     refine ls (op (p_move rfl) rfl) ?_
     refine ls (op (p_lenl rfl Tryz.underlying25) rfl) ?_
     refine ls (op (p_slm ps.length ps.length (Nat.le_refl _) hcap5 rfl rfl Tryz.underlying25 Tryz.sizeOf70 rfl rfl rfl) rfl) ?_
     refine fixL (slen2 (m' := ps.length) (c' := ps.length) (by omega) (by omega)) ?_
     refine ls (op (p_move rfl) rfl) ?_
     refine ls (o_appG Tryz.underlying25 inf70 rfl (by decide) (by decide) rfl rfl rfl (by omega) (by repeat' (first | constructor | apply Sub.suf)) rfl) ?_
     refine le ?_; rintro ⟨A7, c7⟩
     refine lpure (St.cap (m := (ps ++ qs).length) (c := c7) (by repeat' constructor)) ?_
     intro hcap7
     refine ls (o_call (is := [2, 2]) Tryz.call33 (c_seqApply p b (madeT l) (omany l) (l.length) hinv (ps ++ qs) A7 c7 hcap7 (by rw [List.length_append]; omega) (fun x hx => (List.mem_append.1 hx).elim (hfps x) (hfqs x)) (by rw [lns_app]; omega) (by rw [List.length_append]; omega)) rfl rfl (by repeat' (first | constructor | apply Sub.suf)) rfl) ?_
     refine le ?_; rintro ⟨⟨V, e1⟩, hq1⟩
     try dsimp only at hq1
     have hinV := rowT_inv hinv hq1
     rw [lns_app] at hinV
     have hftV : Tfit V := inv_fit hinV (by omega)
     refine ls (op (p_icmp rfl rfl rfl) rfl) ?_
     refine ls (op (p_asg rfl) rfl) ?_
     refine ln ?_
     refine nthen ?_
     refine cs ?_
     rcases three (madeT l) ps qs with ⟨ha, hb⟩ | ⟨ha, hb⟩ | ha
     ·
      have he1 : e1 = 0 := ones_yes hq1 ha hb
      subst he1
      refine cr ?_
      refine ls (op (p_move rfl) rfl) ?_
      refine ls (op (p_move rfl) rfl) ?_
      refine ls (o_call (is := [2, 2]) Tryz.call33 (c_seqApply p4 b4 (madeT l) (omany l) (l.length) hinv ps A5 c5 hcap5 (by omega) hfps (by omega) (by omega)) rfl rfl (by repeat' (first | constructor | apply Sub.suf)) rfl) ?_
      refine le ?_; rintro ⟨⟨U1, e2⟩, hq2⟩
      try dsimp only at hq2
      have hin1 := rowT_inv hinv hq2
      have he2 : e2 = 0 := (congrArg Prod.snd hq2).trans ha
      subst he2
      refine ls (op (p_icmp rfl rfl rfl) rfl) ?_
      refine fixL (congrArg Value.bool (decide_eq_true rfl)) ?_
      refine ls (op (p_move rfl) rfl) ?_
      refine lwant rfl rfl rfl rfl (op (p_move rfl) rfl) ?_
      refine lwant rfl rfl rfl rfl (op (p_move rfl) rfl) ?_
      refine lwant rfl rfl rfl rfl (o_call (is := [0, 0]) Tryz.call33 (c_seqApply p4 b4 U1 (omany l + lns ps) (l.length + ps.length) hin1 qs A6 c6 hcap6 (by omega) hfqs (by omega) (by omega)) rfl rfl (by repeat' (first | constructor | apply Sub.suf)) rfl) ?_
      refine le ?_; rintro ⟨⟨U2, e3⟩, hq3⟩
      try dsimp only at hq3
      have hU : U1 = (rowT (madeT l) ps).1 := congrArg Prod.fst hq2
      have he3 : e3 = 0 := by { have h : e3 = (rowT U1 qs).2 := congrArg Prod.snd hq3; rw [hU] at h; exact h.trans hb }
      subst he3
      obtain ⟨rfl, _⟩ := ones_same hq1 hq2 hq3
      refine lwant rfl rfl rfl rfl (op (p_icmp rfl rfl rfl) rfl) ?_
      refine fixL (congrArg Value.bool (decide_eq_true rfl)) ?_
      refine ls (op (p_pickt rfl rfl) rfl) ?_
      refine ls (op (p_asg rfl) rfl) ?_
      refine ln ?_
      refine nthen ?_
      refine cs ?_
      refine cr ?_
      refine ls (o_call (is := []) Tryz.call12 (c_alive05) rfl rfl (by repeat' (first | constructor | apply Sub.suf)) rfl) ?_
      refine le ?_; intro x159
      refine ls (op (p_move rfl) rfl) ?_
      refine lwant rfl rfl rfl rfl (op (p_move rfl) rfl) ?_
      refine fixL (congrArg Value.bool (decide_eq_true rfl)) ?_
      refine lwant rfl rfl rfl rfl (op (p_move rfl) rfl) ?_
      refine lwant rfl rfl rfl rfl (op (p_beq Tryz.underlying4 rfl rfl) rfl) ?_
      refine fixL (congrArg Value.bool (beq_self_eq_true _)) ?_
      refine ls (op (p_pickt rfl rfl) rfl) ?_
      refine ls (op (p_move rfl) rfl) ?_
      refine lwant rfl rfl rfl rfl (op (p_move rfl) rfl) ?_
      refine fixL (congrArg Value.bool (decide_eq_true rfl)) ?_
      refine lwant rfl rfl rfl rfl (op (p_not rfl) rfl) ?_
      refine lwant rfl rfl rfl rfl (op (p_move rfl) rfl) ?_
      refine lwant rfl rfl rfl rfl (op (p_move rfl) rfl) ?_
      refine lwant rfl rfl rfl rfl (op (p_move rfl) rfl) ?_
      refine lwant rfl rfl rfl rfl (o_call (is := [2, 2, 0, 0]) Tryz.call37 (c_tSame p b p4 b4 V V hftV) rfl rfl (by repeat' (first | constructor | apply Sub.suf)) rfl) ?_
      refine le ?_; intro x171
      refine fixL (congrArg Value.bool (decide_eq_true rfl)) ?_
      refine lwant rfl rfl rfl rfl (op (p_pickf rfl rfl) rfl) ?_
      refine ls (op (p_pickt rfl rfl) rfl) ?_
      refine ls (op (p_asg rfl) rfl) ?_
      refine ln ?_
      refine nthen ?_
      refine cret ?_
      refine xret (fun _ _ h => h) ?_
      refine rret (is := []) () (Or.inl rfl) (Res.t rfl Res.d) (rfl) rfl (by repeat' (first | constructor | apply Sub.suf))
     ·
      have he1 : ¬ e1 = 0 := ones_no hq1 hb
      refine cr ?_
      refine ls (op (p_move rfl) rfl) ?_
      refine ls (op (p_move rfl) rfl) ?_
      refine ls (o_call (is := [2, 2]) Tryz.call33 (c_seqApply p4 b4 (madeT l) (omany l) (l.length) hinv ps A5 c5 hcap5 (by omega) hfps (by omega) (by omega)) rfl rfl (by repeat' (first | constructor | apply Sub.suf)) rfl) ?_
      refine le ?_; rintro ⟨⟨U1, e2⟩, hq2⟩
      try dsimp only at hq2
      have hin1 := rowT_inv hinv hq2
      have he2 : e2 = 0 := (congrArg Prod.snd hq2).trans ha
      subst he2
      refine ls (op (p_icmp rfl rfl rfl) rfl) ?_
      refine fixL (congrArg Value.bool (decide_eq_true rfl)) ?_
      refine ls (op (p_move rfl) rfl) ?_
      refine lwant rfl rfl rfl rfl (op (p_move rfl) rfl) ?_
      refine lwant rfl rfl rfl rfl (op (p_move rfl) rfl) ?_
      refine lwant rfl rfl rfl rfl (o_call (is := [0, 0]) Tryz.call33 (c_seqApply p4 b4 U1 (omany l + lns ps) (l.length + ps.length) hin1 qs A6 c6 hcap6 (by omega) hfqs (by omega) (by omega)) rfl rfl (by repeat' (first | constructor | apply Sub.suf)) rfl) ?_
      refine le ?_; rintro ⟨⟨U2, e3⟩, hq3⟩
      try dsimp only at hq3
      have hU : U1 = (rowT (madeT l) ps).1 := congrArg Prod.fst hq2
      have he3 : ¬ e3 = 0 := fun h => hb (by { have h2 : e3 = (rowT U1 qs).2 := congrArg Prod.snd hq3; rw [hU] at h2; exact h2.symm.trans h })
      refine lwant rfl rfl rfl rfl (op (p_icmp rfl rfl rfl) rfl) ?_
      refine fixL (congrArg Value.bool (decide_eq_false he3)) ?_
      refine ls (op (p_pickt rfl rfl) rfl) ?_
      refine ls (op (p_asg rfl) rfl) ?_
      refine ln ?_
      refine nthen ?_
      refine cs ?_
      refine cr ?_
      refine ls (o_call (is := []) Tryz.call12 (c_alive05) rfl rfl (by repeat' (first | constructor | apply Sub.suf)) rfl) ?_
      refine le ?_; intro x159
      refine ls (op (p_move rfl) rfl) ?_
      refine lwant rfl rfl rfl rfl (op (p_move rfl) rfl) ?_
      refine fixL (congrArg Value.bool (decide_eq_false he1)) ?_
      refine lwant rfl rfl rfl rfl (op (p_move rfl) rfl) ?_
      refine lwant rfl rfl rfl rfl (op (p_beq Tryz.underlying4 rfl rfl) rfl) ?_
      refine fixL (congrArg Value.bool (beq_self_eq_true _)) ?_
      refine ls (op (p_pickt rfl rfl) rfl) ?_
      refine ls (op (p_move rfl) rfl) ?_
      refine lwant rfl rfl rfl rfl (op (p_move rfl) rfl) ?_
      refine fixL (congrArg Value.bool (decide_eq_false he1)) ?_
      refine lwant rfl rfl rfl rfl (op (p_not rfl) rfl) ?_
      refine lwant rfl rfl rfl rfl (op (p_move rfl) rfl) ?_
      refine lskip rfl rfl rfl rfl rfl ?_
      refine lskip rfl rfl rfl rfl rfl ?_
      refine lskip rfl rfl rfl rfl rfl ?_
      refine lwant rfl rfl rfl rfl (op (p_pickt rfl rfl) rfl) ?_
      refine ls (op (p_pickt rfl rfl) rfl) ?_
      refine ls (op (p_asg rfl) rfl) ?_
      refine ln ?_
      refine nthen ?_
      refine cret ?_
      refine xret (fun _ _ h => h) ?_
      refine rret (is := []) () (Or.inl rfl) (Res.t rfl Res.d) (rfl) rfl (by repeat' (first | constructor | apply Sub.suf))
     ·
      have he1 : ¬ e1 = 0 := ones_not hq1 ha
      refine cr ?_
      refine ls (op (p_move rfl) rfl) ?_
      refine ls (op (p_move rfl) rfl) ?_
      refine ls (o_call (is := [2, 2]) Tryz.call33 (c_seqApply p4 b4 (madeT l) (omany l) (l.length) hinv ps A5 c5 hcap5 (by omega) hfps (by omega) (by omega)) rfl rfl (by repeat' (first | constructor | apply Sub.suf)) rfl) ?_
      refine le ?_; rintro ⟨⟨U1, e2⟩, hq2⟩
      try dsimp only at hq2
      have hin1 := rowT_inv hinv hq2
      have he2 : ¬ e2 = 0 := fun h => ha ((congrArg Prod.snd hq2).symm.trans h)
      refine ls (op (p_icmp rfl rfl rfl) rfl) ?_
      refine fixL (congrArg Value.bool (decide_eq_false he2)) ?_
      refine ls (op (p_move rfl) rfl) ?_
      refine lskip rfl rfl rfl rfl rfl ?_
      refine lskip rfl rfl rfl rfl rfl ?_
      refine lskip rfl rfl rfl rfl rfl ?_
      refine lskip rfl rfl rfl rfl rfl ?_
      refine ls (op (p_pickf rfl rfl) rfl) ?_
      refine ls (op (p_asg rfl) rfl) ?_
      refine ln ?_
      refine nthen ?_
      refine cs ?_
      refine cr ?_
      refine ls (o_call (is := []) Tryz.call12 (c_alive05) rfl rfl (by repeat' (first | constructor | apply Sub.suf)) rfl) ?_
      refine le ?_; intro x159
      refine ls (op (p_move rfl) rfl) ?_
      refine lwant rfl rfl rfl rfl (op (p_move rfl) rfl) ?_
      refine fixL (congrArg Value.bool (decide_eq_false he1)) ?_
      refine lwant rfl rfl rfl rfl (op (p_move rfl) rfl) ?_
      refine lwant rfl rfl rfl rfl (op (p_beq Tryz.underlying4 rfl rfl) rfl) ?_
      refine fixL (congrArg Value.bool (beq_self_eq_true _)) ?_
      refine ls (op (p_pickt rfl rfl) rfl) ?_
      refine ls (op (p_move rfl) rfl) ?_
      refine lwant rfl rfl rfl rfl (op (p_move rfl) rfl) ?_
      refine fixL (congrArg Value.bool (decide_eq_false he1)) ?_
      refine lwant rfl rfl rfl rfl (op (p_not rfl) rfl) ?_
      refine lwant rfl rfl rfl rfl (op (p_move rfl) rfl) ?_
      refine lskip rfl rfl rfl rfl rfl ?_
      refine lskip rfl rfl rfl rfl rfl ?_
      refine lskip rfl rfl rfl rfl rfl ?_
      refine lwant rfl rfl rfl rfl (op (p_pickt rfl rfl) rfl) ?_
      refine ls (op (p_pickt rfl rfl) rfl) ?_
      refine ls (op (p_asg rfl) rfl) ?_
      refine ln ?_
      refine nthen ?_
      refine cret ?_
      refine xret (fun _ _ h => h) ?_
      refine rret (is := []) () (Or.inl rfl) (Res.t rfl Res.d) (rfl) rfl (by repeat' (first | constructor | apply Sub.suf))

end Go.Proofs.YtheamdahngfpdaaGreatDoor.X

end
