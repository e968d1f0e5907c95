/- OWN WORK: a part of the proof of a law of the seat YtheamdahngfpdaaGreatDoor: the rules by which the code is walked. -/
import Derived.Test.YtheamdahngfpdaaGreatDoorProg
import Derived.Test.YtheamdahngfpdaaGreatDoorXS3
set_option linter.unusedVariables false
set_option linter.unusedSimpArgs false
namespace Go.Proofs.YtheamdahngfpdaaGreatDoor.X
open Go Go.RowKit Go.Proofs Go.Sx
attribute [local irreducible] slA isA box row
theorem few5_two {l m : List Prim} (h : few5 [l, m] = true) : many l + many m ≤ 6000 ∧ l.length + m.length ≤ 40 := by
 unfold few5 at h
 simp only [List.map_cons, List.map_nil, List.sum_cons, List.sum_nil, Bool.and_eq_true, decide_eq_true_eq] at h
 omega
theorem few5_one {l : List Prim} (h : few5 [l] = true) : many l ≤ 6000 ∧ l.length ≤ 40 := by
 unfold few5 at h
 simp only [List.map_cons, List.map_nil, List.sum_cons, List.sum_nil, Bool.and_eq_true, decide_eq_true_eq] at h
 omega
theorem two_R {l m : List Prim} (hl : l.length ≤ 1048576) (hm : m.length ≤ 1048576) : ∀ x ∈ [l, m], x.length ≤ 2000000 := fun x hx => by
 simp only [List.mem_cons, List.mem_nil_iff, or_false] at hx
 rcases hx with rfl | rfl <;> omega
theorem two_S {f : List Prim → Nat} {l m : List Prim} (hl : f l ≤ 1048576) (hm : f m ≤ 1048576) : ([l, m].map f).sum ≤ 1000000000000 := by simp; omega
theorem one_R {l : List Prim} (hl : l.length ≤ 1048576) : ∀ x ∈ [l], x.length ≤ 2000000 := fun x hx => by rw [List.mem_singleton.1 hx]; omega
theorem one_S {f : List Prim → Nat} {l : List Prim} (hl : f l ≤ 1048576) : ([l].map f).sum ≤ 1000000000000 := by simp; omega


set_option maxRecDepth 100000 in
theorem c_SeqTells (l : List Prim) (A : Option Addr) (c : Nat) (hA : A = none → c = 0) (hll : l.length ≤ 1048576) (hfl : ∀ x ∈ l, x.fit) (hml : many l ≤ 1048576) (m : List Prim) (B : Option Addr) (c' : Nat) (hB : B = none → c' = 0) (hlm : m.length ≤ 1048576) (hfm : ∀ x ∈ m, x.fit) (hmm : many m ≤ 1048576) (pf : ByteArray) : Con Tryz.prog 3 [.slice A l.length c, .slice B m.length c', .string pf] [] [slA A l, slA B m] Unit (fun _ => .bool true) (fun _ => []) (fun _ => []) := by
 refine con Tryz.func3 rfl Tryz.ntmps3 rfl ?_
 intro M0 F0 w0
 refine cs ?_
 refine cr ?_
 refine ls (op (p_asg rfl) rfl) ?_
 refine ln ?_
 refine nthen ?_
 refine cs ?_
 refine cs ?_
 refine cmono (fun a w h => nilQ (y := (B, c')) hB h) ?_
 refine cmono (fun a w h => nilQ (y := (A, c)) hA h) ?_
 refine cr ?_
 refine ls (op (p_move rfl) rfl) ?_
 refine ls (op (p_move rfl) rfl) ?_
 refine ls (o_bsl [l, m] Tryz.underlying80 Tryz.sizeOf22 Tryz.zeroValue22 rfl (Enum.t (Enum.t Enum.d)) (RV.t (A, c) rfl (by repeat' (first | constructor | apply Sub.suf)) (RV.t (B, c') rfl (by repeat' (first | constructor | apply Sub.suf)) RV.d)) rfl (by decide) (by decide) rfl) ?_
 refine le ?_; intro b11
 refine lmono (fun a w h => Go.Sx.freeze (i := 0) rfl h) ?_
 refine ls (o_call (is := []) Tryz.call11 (c_few5 [l, m] (some ⟨b11, 0, none⟩) 2 (by simp) (two_R hll hlm) (two_S hml hmm) (two_S hll hlm)) rfl rfl (by repeat' (first | constructor | apply Sub.suf)) rfl) ?_
 refine le ?_; intro x12
 refine ls (op (p_not rfl) rfl) ?_
 refine ls (op (p_move rfl) rfl) ?_
 refine orX 4 14 18 rfl (subσ.cons (t := 0) rfl (subσ.cons (t := 1) rfl (subσ.cons (t := 2) rfl (subσ.cons (t := 6) rfl (subσ.nil _))))) ?_ ?_
 ·
  intro h14
  refine lskip rfl rfl rfl rfl rfl ?_
  refine lskip rfl rfl rfl rfl rfl ?_
  refine lskip rfl rfl rfl rfl rfl ?_
  refine ls (op (p_pickt rfl rfl) rfl) ?_
  refine ln (nmid (wk0 (by repeat (first | exact subσ.nil _ | refine subσ.cons rfl ?_)) (by repeat' (first | constructor | apply Sub.suf))))
 apply exI
 ·
  intro h14
  refine lwant rfl rfl rfl rfl (op (p_move rfl) rfl) ?_
  refine lwant rfl rfl rfl rfl (op (p_lens rfl Tryz.underlying9) rfl) ?_
  refine lwant rfl rfl rfl rfl (op (p_icmp rfl rfl rfl) rfl) ?_
  refine ls (op (p_pickf rfl rfl) rfl) ?_
  refine ln (nmid (wk0 (by repeat (first | exact subσ.nil _ | refine subσ.cons rfl ?_)) (by repeat' (first | constructor | apply Sub.suf))))
 ·
  refine ln ?_
  refine nthen ?_
  refine cc rfl ?_ ?_
  ·
   intro h18
   skip
   refine cs ?_
   refine cr ?_
   refine ls (o_call (is := []) Tryz.call12 (c_alive05) rfl rfl (by repeat' (first | constructor | apply Sub.suf)) rfl) ?_
   refine le ?_; intro x19
   refine ls (op (p_asg rfl) rfl) ?_
   refine ln ?_
   refine nthen ?_
   refine cret ?_
   refine xret (fun _ _ h => h) ?_
   refine rret (is := []) () (Or.inl rfl) (Res.t rfl Res.d) (rfl) rfl (by repeat' (first | constructor | apply Sub.suf))
  ·
   intro h18
   have hf0 : few5 [l, m] = true := by have h := h18; simp at h; first | exact h | exact h.1 | exact h.2
   obtain ⟨hf1, hf2⟩ := few5_two hf0
   have hLl := lns_many l; have hLm := lns_many m
   refine cskip ?_
   refine nthen ?_
   refine cs ?_
   refine cr ?_
   refine ls (op (p_move rfl) rfl) ?_
   refine ls (o_call (is := []) Tryz.call13 (c_lNewC l A c (by omega)) rfl rfl (by repeat' (first | constructor | apply Sub.suf)) rfl) ?_
   refine le ?_; rintro ⟨A7, c7⟩
   refine ls (op (p_move rfl) rfl) ?_
   refine ls (o_call (is := []) Tryz.call13 (c_lNewC m B c' (by omega)) rfl rfl (by repeat' (first | constructor | apply Sub.suf)) rfl) ?_
   refine le ?_; rintro ⟨A8, c8⟩
   refine ls (op (p_asg rfl) rfl) ?_
   refine ls (op (p_asg rfl) rfl) ?_
   refine ln ?_
   refine nthen ?_
   refine cs ?_
   refine cr ?_
   refine ls (o_call (is := []) Tryz.call12 (c_alive05) rfl rfl (by repeat' (first | constructor | apply Sub.suf)) rfl) ?_
   refine le ?_; intro x24
   refine ls (op (p_move rfl) rfl) ?_
   refine lwant rfl rfl rfl rfl (op (p_move rfl) rfl) ?_
   refine lwant rfl rfl rfl rfl (o_call (is := []) Tryz.call14 (c_seqRight l A7 c7 (by omega) hfl) rfl rfl (by repeat' (first | constructor | apply Sub.suf)) rfl) ?_
   refine le ?_; intro x27
   refine lwant rfl rfl rfl rfl (op (p_move rfl) rfl) ?_
   refine lwant rfl rfl rfl rfl (o_call (is := []) Tryz.call15 (c_ref5Right l A c (by omega) hfl) rfl rfl (by repeat' (first | constructor | apply Sub.suf)) rfl) ?_
   refine le ?_; intro x29
   refine lwant rfl rfl rfl rfl (op (p_beq Tryz.underlying4 rfl rfl) rfl) ?_
   refine fixL (congrArg Value.bool (beq_self_eq_true _)) ?_
   refine ls (op (p_pickt rfl rfl) rfl) ?_
   refine ls (op (p_move rfl) rfl) ?_
   refine lwant rfl rfl rfl rfl (op (p_move rfl) rfl) ?_
   refine lwant rfl rfl rfl rfl (op (p_move rfl) rfl) ?_
   refine lwant rfl rfl rfl rfl (o_call (is := []) Tryz.call16 (c_seqSame l m A7 A8 c7 c8 (by omega) hfl) rfl rfl (by repeat' (first | constructor | apply Sub.suf)) rfl) ?_
   refine le ?_; intro x35
   refine lwant rfl rfl rfl rfl (op (p_move rfl) rfl) ?_
   refine lwant rfl rfl rfl rfl (op (p_move rfl) rfl) ?_
   refine lwant rfl rfl rfl rfl (o_call (is := []) Tryz.call17 (c_refAllP l m A B c c' (by omega) hfl) rfl rfl (by repeat' (first | constructor | apply Sub.suf)) rfl) ?_
   refine le ?_; intro x38
   refine lwant rfl rfl rfl rfl (op (p_beq Tryz.underlying4 rfl rfl) rfl) ?_
   refine fixL (congrArg Value.bool (beq_self_eq_true _)) ?_
   refine ls (op (p_pickt rfl rfl) rfl) ?_
   refine ls (op (p_move rfl) rfl) ?_
   refine lwant rfl rfl rfl rfl (op (p_move rfl) rfl) ?_
   refine lwant rfl rfl rfl rfl (o_call (is := []) Tryz.call19 (c_seqNames l A7 c7 (by omega)) rfl rfl (by repeat' (first | constructor | apply Sub.suf)) rfl) ?_
   refine le ?_; rintro ⟨A9, c9⟩
   refine lwant rfl rfl rfl rfl (op (p_move rfl) rfl) ?_
   refine lwant rfl rfl rfl rfl (o_call (is := []) Tryz.call20 (c_ref5Names l A c (by omega)) rfl rfl (by repeat' (first | constructor | apply Sub.suf)) rfl) ?_
   refine le ?_; rintro ⟨A10, c10⟩
   refine lwant rfl rfl rfl rfl (o_call (is := []) Tryz.call18 (c_lineSame (namesT l) (namesT l) A9 A10 c9 c10 (by have := namesT_len l; omega)) rfl rfl (by repeat' (first | constructor | apply Sub.suf)) rfl) ?_
   refine le ?_; intro x46
   refine fixL (congrArg Value.bool (decide_eq_true rfl)) ?_
   refine ls (op (p_pickt rfl rfl) rfl) ?_
   refine ls (op (p_move rfl) rfl) ?_
   refine lwant rfl rfl rfl rfl (op (p_move rfl) rfl) ?_
   refine lwant rfl rfl rfl rfl (op (p_move rfl) rfl) ?_
   refine lwant rfl rfl rfl rfl (o_call (is := []) Tryz.call21 (c_seqTouches l A7 c7 (by omega) pf) rfl rfl (by repeat' (first | constructor | apply Sub.suf)) rfl) ?_
   refine le ?_; intro x51
   refine lwant rfl rfl rfl rfl (op (p_move rfl) rfl) ?_
   refine lwant rfl rfl rfl rfl (op (p_move rfl) rfl) ?_
   refine lwant rfl rfl rfl rfl (o_call (is := []) Tryz.call22 (c_ref5Touches l A c (by omega) pf) rfl rfl (by repeat' (first | constructor | apply Sub.suf)) rfl) ?_
   refine le ?_; intro x54
   refine lwant rfl rfl rfl rfl (op (p_beq Tryz.underlying4 rfl rfl) rfl) ?_
   refine fixL (congrArg Value.bool (beq_self_eq_true _)) ?_
   refine ls (op (p_pickt rfl rfl) rfl) ?_
   refine ls (op (p_move rfl) rfl) ?_
   refine lwant rfl rfl rfl rfl (op (p_move rfl) rfl) ?_
   refine lwant rfl rfl rfl rfl (o_call (is := []) Tryz.call24 (c_seqInvertC l A7 c7 (by omega) hfl) rfl rfl (by repeat' (first | constructor | apply Sub.suf)) rfl) ?_
   refine le ?_; rintro ⟨A11, c11⟩
   refine lwant rfl rfl rfl rfl (o_call (is := []) Tryz.call23 (c_lOld (invL l) A11 c11 (by rw [invL_len]; omega)) rfl rfl (by repeat' (first | constructor | apply Sub.suf)) rfl) ?_
   refine le ?_; rintro ⟨A12, c12⟩
   refine lwant rfl rfl rfl rfl (op (p_move rfl) rfl) ?_
   refine lwant rfl rfl rfl rfl (o_call (is := []) Tryz.call25 (c_ref5Invert l A c (by omega) hfl) rfl rfl (by repeat' (first | constructor | apply Sub.suf)) rfl) ?_
   refine le ?_; rintro ⟨⟨A13, c13⟩, h13⟩
   refine lwant rfl rfl rfl rfl (o_call (is := []) Tryz.call17 (c_refAllP (invL l) (invL l) A12 A13 c12 c13 (by rw [invL_len]; omega) (invL_fit hfl)) rfl rfl (by repeat' (first | constructor | apply Sub.suf)) rfl) ?_
   refine le ?_; intro x63
   refine fixL (congrArg Value.bool (decide_eq_true rfl)) ?_
   refine ls (op (p_pickt rfl rfl) rfl) ?_
   refine ls (op (p_asg rfl) rfl) ?_
   refine ln ?_
   refine nthen ?_
   refine cret ?_
   refine xret (fun _ _ h => h) ?_
   refine rret (is := []) () (Or.inl rfl) (Res.t rfl Res.d) (rfl) rfl (by repeat' (first | constructor | apply Sub.suf))

set_option maxRecDepth 100000 in
theorem c_SeqSwaps (l : List Prim) (A : Option Addr) (c : Nat) (hA : A = none → c = 0) (hll : l.length ≤ 1048576) (hfl : ∀ x ∈ l, x.fit) (hml : many l ≤ 1048576) (m : List Prim) (B : Option Addr) (c' : Nat) (hB : B = none → c' = 0) (hlm : m.length ≤ 1048576) (hfm : ∀ x ∈ m, x.fit) (hmm : many m ≤ 1048576) : Con Tryz.prog 4 [.slice A l.length c, .slice B m.length c'] [] [slA A l, slA B m] Unit (fun _ => .bool true) (fun _ => []) (fun _ => []) := by
 refine con Tryz.func4 rfl Tryz.ntmps4 rfl ?_
 intro M0 F0 w0
 refine cs ?_
 refine cr ?_
 refine ls (op (p_asg rfl) rfl) ?_
 refine ln ?_
 refine nthen ?_
 refine cs ?_
 refine cs ?_
 refine cmono (fun a w h => nilQ (y := (B, c')) hB h) ?_
 refine cmono (fun a w h => nilQ (y := (A, c)) hA h) ?_
 refine cr ?_
 refine ls (op (p_move rfl) rfl) ?_
 refine ls (op (p_move rfl) rfl) ?_
 refine ls (o_bsl [l, m] Tryz.underlying80 Tryz.sizeOf22 Tryz.zeroValue22 rfl (Enum.t (Enum.t Enum.d)) (RV.t (A, c) rfl (by repeat' (first | constructor | apply Sub.suf)) (RV.t (B, c') rfl (by repeat' (first | constructor | apply Sub.suf)) RV.d)) rfl (by decide) (by decide) rfl) ?_
 refine le ?_; intro b18
 refine lmono (fun a w h => Go.Sx.freeze (i := 0) rfl h) ?_
 refine ls (o_call (is := []) Tryz.call11 (c_few5 [l, m] (some ⟨b18, 0, none⟩) 2 (by simp) (two_R hll hlm) (two_S hml hmm) (two_S hll hlm)) rfl rfl (by repeat' (first | constructor | apply Sub.suf)) rfl) ?_
 refine le ?_; intro x19
 refine ls (op (p_not rfl) rfl) ?_
 refine ln ?_
 refine nthen ?_
 refine cc rfl ?_ ?_
 ·
  intro h20
  skip
  refine cs ?_
  refine cr ?_
  refine ls (o_call (is := []) Tryz.call12 (c_alive05) rfl rfl (by repeat' (first | constructor | apply Sub.suf)) rfl) ?_
  refine le ?_; intro x21
  refine ls (op (p_asg rfl) rfl) ?_
  refine ln ?_
  refine nthen ?_
  refine cret ?_
  refine xret (fun _ _ h => h) ?_
  refine rret (is := []) () (Or.inl rfl) (Res.t rfl Res.d) (rfl) rfl (by repeat' (first | constructor | apply Sub.suf))
 ·
  intro h20
  have hf0 : few5 [l, m] = true := by have h := h20; simp at h; first | exact h | exact h.1 | exact h.2
  obtain ⟨hf1, hf2⟩ := few5_two hf0
  have hLl := lns_many l; have hLm := lns_many m
  refine cskip ?_
  refine nthen ?_
  refine cs ?_
  refine cr ?_
  refine ls (op (p_move rfl) rfl) ?_
  refine ls (o_call (is := []) Tryz.call13 (c_lNewC l A c (by omega)) rfl rfl (by repeat' (first | constructor | apply Sub.suf)) rfl) ?_
  refine le ?_; rintro ⟨A5, c5⟩
  refine ls (op (p_move rfl) rfl) ?_
  refine ls (o_call (is := []) Tryz.call13 (c_lNewC m B c' (by omega)) rfl rfl (by repeat' (first | constructor | apply Sub.suf)) rfl) ?_
  refine le ?_; rintro ⟨A6, c6⟩
  refine ls (op (p_asg rfl) rfl) ?_
  refine ls (op (p_asg rfl) rfl) ?_
  refine ln ?_
  refine nthen ?_
  refine cs ?_
  refine cr ?_
  refine ls (op (p_move rfl) rfl) ?_
  refine ls (op (p_move rfl) rfl) ?_
  refine ls (o_call (is := []) Tryz.call26 (c_seqSwapC l m A5 A6 c5 c6 (by omega) (by omega) hfl hfm) rfl rfl (by repeat' (first | constructor | apply Sub.suf)) rfl) ?_
  refine le ?_; rintro ⟨⟨⟨f, s, b⟩, ⟨⟨A7, c7⟩, ⟨A8, c8⟩⟩⟩, hr⟩
  dsimp only at hr
  have hft := swT_fit hr hfl hfm
  have hle := swT_le hr
  refine ls (op (p_move rfl) rfl) ?_
  refine ls (op (p_ext rfl (by repeat' constructor)) rfl) ?_
  refine ls (op (p_ext rfl (by repeat' constructor)) rfl) ?_
  refine ls (op (p_ext rfl (by repeat' constructor)) rfl) ?_
  refine ls (op (p_asg rfl) rfl) ?_
  refine ls (op (p_asg rfl) rfl) ?_
  refine ls (op (p_asg rfl) rfl) ?_
  refine ln ?_
  refine nthen ?_
  refine cs ?_
  refine cr ?_
  refine ls (op (p_move rfl) rfl) ?_
  refine ls (op (p_move rfl) rfl) ?_
  refine ls (o_call (is := []) Tryz.call27 (c_ref5Swap l m A B c c' (by omega) (by omega) (fun _ => hA) (fun _ => hB) hfl hfm) rfl rfl (by repeat' (first | constructor | apply Sub.suf)) rfl) ?_
  refine le ?_; rintro ⟨⟨⟨f2, s2, b2⟩, ⟨⟨A9, c9⟩, ⟨A10, c10⟩⟩⟩, hr2⟩
  dsimp only at hr2
  obtain ⟨rfl, h2⟩ := Prod.mk.inj (hr.trans hr2.symm)
  obtain ⟨rfl, rfl⟩ := Prod.mk.inj h2
  refine ls (op (p_move rfl) rfl) ?_
  refine ls (op (p_ext rfl (by repeat' constructor)) rfl) ?_
  refine ls (op (p_ext rfl (by repeat' constructor)) rfl) ?_
  refine ls (op (p_ext rfl (by repeat' constructor)) rfl) ?_
  refine ls (op (p_asg rfl) rfl) ?_
  refine ls (op (p_asg rfl) rfl) ?_
  refine ls (op (p_asg rfl) rfl) ?_
  refine ln ?_
  refine nthen ?_
  refine cs ?_
  refine cs ?_
  refine cr ?_
  refine ls (op (p_move rfl) rfl) ?_
  refine ls (op (p_move rfl) rfl) ?_
  refine ls (op (p_bne Tryz.underlying4 rfl rfl) rfl) ?_
  refine fixL (congrArg Value.bool (bne_self_eq_false _)) ?_
  refine ls (op (p_move rfl) rfl) ?_
  refine lwant rfl rfl rfl rfl (op (p_move rfl) rfl) ?_
  refine lwant rfl rfl rfl rfl (o_call (is := []) Tryz.call23 (c_lOld f A7 c7 (by omega)) rfl rfl (by repeat' (first | constructor | apply Sub.suf)) rfl) ?_
  refine le ?_; rintro ⟨A45, c45⟩
  refine lwant rfl rfl rfl rfl (op (p_move rfl) rfl) ?_
  refine lwant rfl rfl rfl rfl (o_call (is := []) Tryz.call17 (c_refAllP f f A45 A9 c45 c9 (by omega) hft.1) rfl rfl (by repeat' (first | constructor | apply Sub.suf)) rfl) ?_
  refine le ?_; intro x47
  refine fixL (congrArg Value.bool (decide_eq_true rfl)) ?_
  refine lwant rfl rfl rfl rfl (op (p_not rfl) rfl) ?_
  refine ls (op (p_pickf rfl rfl) rfl) ?_
  refine ls (op (p_move rfl) rfl) ?_
  refine lwant rfl rfl rfl rfl (op (p_move rfl) rfl) ?_
  refine lwant rfl rfl rfl rfl (o_call (is := []) Tryz.call23 (c_lOld s A8 c8 (by omega)) rfl rfl (by repeat' (first | constructor | apply Sub.suf)) rfl) ?_
  refine le ?_; rintro ⟨A52, c52⟩
  refine lwant rfl rfl rfl rfl (op (p_move rfl) rfl) ?_
  refine lwant rfl rfl rfl rfl (o_call (is := []) Tryz.call17 (c_refAllP s s A52 A10 c52 c10 (by omega) hft.2) rfl rfl (by repeat' (first | constructor | apply Sub.suf)) rfl) ?_
  refine le ?_; intro x54
  refine fixL (congrArg Value.bool (decide_eq_true rfl)) ?_
  refine lwant rfl rfl rfl rfl (op (p_not rfl) rfl) ?_
  refine ls (op (p_pickf rfl rfl) rfl) ?_
  refine ln ?_
  refine nthen ?_
  refine cc rfl (fun h => by cases h) (fun h => ?_)
  refine cskip ?_
  refine nthen ?_
  refine cs ?_
  refine cs ?_
  refine cr ?_
  refine ls (op (p_move rfl) rfl) ?_
  refine ls (op (p_not rfl) rfl) ?_
  refine ln ?_
  refine nthen ?_
  refine cc rfl ?_ ?_
  ·
   intro h58
   skip
   refine cs ?_
   refine cr ?_
   refine ls (o_call (is := []) Tryz.call12 (c_alive05) rfl rfl (by repeat' (first | constructor | apply Sub.suf)) rfl) ?_
   refine le ?_; intro x59
   refine ls (op (p_asg rfl) rfl) ?_
   refine ln ?_
   refine nthen ?_
   refine cret ?_
   refine xret (fun _ _ h => h) ?_
   refine rret (is := []) () (Or.inl rfl) (Res.t rfl Res.d) (rfl) rfl (by repeat' (first | constructor | apply Sub.suf))
  ·
   intro h58
   obtain rfl : b = true := by simpa using h58
   refine cskip ?_
   refine nthen ?_
   refine cs ?_
   refine cr ?_
   refine ls (op (p_move rfl) rfl) ?_
   refine ls (op (p_move rfl) rfl) ?_
   refine ls (o_call (is := []) Tryz.call26 (c_seqSwapC f s A7 A8 c7 c8 (by omega) (by omega) hft.1 hft.2) rfl rfl (by repeat' (first | constructor | apply Sub.suf)) rfl) ?_
   refine le ?_; rintro ⟨⟨⟨f3, s3, b3⟩, ⟨⟨A11, c11⟩, ⟨A12, c12⟩⟩⟩, hr3⟩
   dsimp only at hr3
   obtain ⟨rfl, h3⟩ := Prod.mk.inj ((swT_back hr).trans hr3.symm)
   obtain ⟨rfl, rfl⟩ := Prod.mk.inj h3
   refine ls (op (p_move rfl) rfl) ?_
   refine ls (op (p_ext rfl (by repeat' constructor)) rfl) ?_
   refine ls (op (p_ext rfl (by repeat' constructor)) rfl) ?_
   refine ls (op (p_ext rfl (by repeat' constructor)) rfl) ?_
   refine ls (op (p_asg rfl) rfl) ?_
   refine ls (op (p_asg rfl) rfl) ?_
   refine ls (op (p_asg rfl) rfl) ?_
   refine ln ?_
   refine nthen ?_
   refine cs ?_
   refine cr ?_
   refine ls (o_call (is := []) Tryz.call12 (c_alive05) rfl rfl (by repeat' (first | constructor | apply Sub.suf)) rfl) ?_
   refine le ?_; intro x67
   refine ls (op (p_move rfl) rfl) ?_
   refine lwant rfl rfl rfl rfl (op (p_move rfl) rfl) ?_
   refine ls (op (p_pickt rfl rfl) rfl) ?_
   refine ls (op (p_move rfl) rfl) ?_
   refine lwant rfl rfl rfl rfl (op (p_move rfl) rfl) ?_
   refine lwant rfl rfl rfl rfl (o_call (is := []) Tryz.call23 (c_lOld l A11 c11 (by omega)) rfl rfl (by repeat' (first | constructor | apply Sub.suf)) rfl) ?_
   refine le ?_; rintro ⟨A73, c73⟩
   refine lwant rfl rfl rfl rfl (op (p_move rfl) rfl) ?_
   refine lwant rfl rfl rfl rfl (o_call (is := []) Tryz.call17 (c_refAllP l l A73 A c73 c (by omega) hfl) rfl rfl (by repeat' (first | constructor | apply Sub.suf)) rfl) ?_
   refine le ?_; intro x75
   refine fixL (congrArg Value.bool (decide_eq_true rfl)) ?_
   refine ls (op (p_pickt rfl rfl) rfl) ?_
   refine ls (op (p_move rfl) rfl) ?_
   refine lwant rfl rfl rfl rfl (op (p_move rfl) rfl) ?_
   refine lwant rfl rfl rfl rfl (o_call (is := []) Tryz.call23 (c_lOld m A12 c12 (by omega)) rfl rfl (by repeat' (first | constructor | apply Sub.suf)) rfl) ?_
   refine le ?_; rintro ⟨A79, c79⟩
   refine lwant rfl rfl rfl rfl (op (p_move rfl) rfl) ?_
   refine lwant rfl rfl rfl rfl (o_call (is := []) Tryz.call17 (c_refAllP m m A79 B c79 c' (by omega) hfm) rfl rfl (by repeat' (first | constructor | apply Sub.suf)) rfl) ?_
   refine le ?_; intro x81
   refine fixL (congrArg Value.bool (decide_eq_true rfl)) ?_
   refine ls (op (p_pickt rfl rfl) rfl) ?_
   refine ls (op (p_asg rfl) rfl) ?_
   refine ln ?_
   refine nthen ?_
   refine cret ?_
   refine xret (fun _ _ h => h) ?_
   refine rret (is := []) () (Or.inl rfl) (Res.t rfl Res.d) (rfl) rfl (by repeat' (first | constructor | apply Sub.suf))

set_option maxRecDepth 100000 in
theorem c_SeqRebases (m : List Prim) (B : Option Addr) (c' : Nat) (hB : B = none → c' = 0) (hlm : m.length ≤ 1048576) (hfm : ∀ x ∈ m, x.fit) (hmm : many m ≤ 1048576) (l : List Prim) (A : Option Addr) (c : Nat) (hA : A = none → c = 0) (hll : l.length ≤ 1048576) (hfl : ∀ x ∈ l, x.fit) (hml : many l ≤ 1048576) : Con Tryz.prog 5 [.slice B m.length c', .slice A l.length c] [] [slA B m, slA A l] Unit (fun _ => .bool true) (fun _ => []) (fun _ => []) := by
 refine con Tryz.func5 rfl Tryz.ntmps5 rfl ?_
 intro M0 F0 w0
 refine cs ?_
 refine cr ?_
 refine ls (op (p_asg rfl) rfl) ?_
 refine ln ?_
 refine nthen ?_
 refine cs ?_
 refine cs ?_
 refine cmono (fun a w h => nilQ (y := (B, c')) hB h) ?_
 refine cmono (fun a w h => nilQ (y := (A, c)) hA h) ?_
 refine cr ?_
 refine ls (op (p_move rfl) rfl) ?_
 refine ls (op (p_move rfl) rfl) ?_
 refine ls (o_bsl [l, m] Tryz.underlying80 Tryz.sizeOf22 Tryz.zeroValue22 rfl (Enum.t (Enum.t Enum.d)) (RV.t (A, c) rfl (by repeat' (first | constructor | apply Sub.suf)) (RV.t (B, c') rfl (by repeat' (first | constructor | apply Sub.suf)) RV.d)) rfl (by decide) (by decide) rfl) ?_
 refine le ?_; intro b11
 refine lmono (fun a w h => Go.Sx.freeze (i := 0) rfl h) ?_
 refine ls (o_call (is := []) Tryz.call11 (c_few5 [l, m] (some ⟨b11, 0, none⟩) 2 (by simp) (two_R hll hlm) (two_S hml hmm) (two_S hll hlm)) rfl rfl (by repeat' (first | constructor | apply Sub.suf)) rfl) ?_
 refine le ?_; intro x12
 refine ls (op (p_not rfl) rfl) ?_
 refine ln ?_
 refine nthen ?_
 refine cc rfl ?_ ?_
 ·
  intro h13
  skip
  refine cs ?_
  refine cr ?_
  refine ls (o_call (is := []) Tryz.call12 (c_alive05) rfl rfl (by repeat' (first | constructor | apply Sub.suf)) rfl) ?_
  refine le ?_; intro x14
  refine ls (op (p_asg rfl) rfl) ?_
  refine ln ?_
  refine nthen ?_
  refine cret ?_
  refine xret (fun _ _ h => h) ?_
  refine rret (is := []) () (Or.inl rfl) (Res.t rfl Res.d) (rfl) rfl (by repeat' (first | constructor | apply Sub.suf))
 ·
  intro h13
  have hf0 : few5 [l, m] = true := by have h := h13; simp at h; first | exact h | exact h.1 | exact h.2
  obtain ⟨hf1, hf2⟩ := few5_two hf0
  have hLl := lns_many l; have hLm := lns_many m
  refine cskip ?_
  refine nthen ?_
  refine cs ?_
  refine cr ?_
  refine ls (op (p_move rfl) rfl) ?_
  refine ls (o_call (is := []) Tryz.call13 (c_lNewC m B c' (by omega)) rfl rfl (by repeat' (first | constructor | apply Sub.suf)) rfl) ?_
  refine le ?_; rintro ⟨A6, c6⟩
  refine ls (op (p_move rfl) rfl) ?_
  refine ls (o_call (is := []) Tryz.call13 (c_lNewC l A c (by omega)) rfl rfl (by repeat' (first | constructor | apply Sub.suf)) rfl) ?_
  refine le ?_; rintro ⟨A5, c5⟩
  refine ls (o_call (is := []) Tryz.call28 (c_seqRebaseC l m A5 A6 c5 c6 (by omega) (by omega) hfl hfm) rfl rfl (by repeat' (first | constructor | apply Sub.suf)) rfl) ?_
  refine le ?_; rintro ⟨⟨⟨r, b⟩, ⟨A7, c7⟩⟩, hr⟩
  dsimp only at hr
  have hft := rebT_fit hr hfl hfm
  refine ls (op (p_move rfl) rfl) ?_
  refine ls (op (p_ext rfl (by repeat' constructor)) rfl) ?_
  refine ls (op (p_ext rfl (by repeat' constructor)) rfl) ?_
  refine ls (op (p_asg rfl) rfl) ?_
  refine ls (op (p_asg rfl) rfl) ?_
  refine ln ?_
  refine nthen ?_
  refine cs ?_
  refine cr ?_
  refine ls (op (p_move rfl) rfl) ?_
  refine ls (op (p_move rfl) rfl) ?_
  refine ls (o_call (is := []) Tryz.call29 (c_ref5Rebase l m A B c c' (by omega) (by omega) (fun _ => hB) hfl hfm) rfl rfl (by repeat' (first | constructor | apply Sub.suf)) rfl) ?_
  refine le ?_; rintro ⟨⟨⟨r2, b2⟩, ⟨A8, c8⟩⟩, hr2⟩
  dsimp only at hr2
  obtain ⟨rfl, rfl⟩ := Prod.mk.inj (hr.trans hr2.symm)
  refine ls (op (p_move rfl) rfl) ?_
  refine ls (op (p_ext rfl (by repeat' constructor)) rfl) ?_
  refine ls (op (p_ext rfl (by repeat' constructor)) rfl) ?_
  refine ls (op (p_asg rfl) rfl) ?_
  refine ls (op (p_asg rfl) rfl) ?_
  refine ln ?_
  refine nthen ?_
  refine cs ?_
  refine cr ?_
  refine ls (o_call (is := []) Tryz.call12 (c_alive05) rfl rfl (by repeat' (first | constructor | apply Sub.suf)) rfl) ?_
  refine le ?_; intro x29
  refine ls (op (p_move rfl) rfl) ?_
  refine lwant rfl rfl rfl rfl (op (p_move rfl) rfl) ?_
  refine lwant rfl rfl rfl rfl (op (p_move rfl) rfl) ?_
  refine lwant rfl rfl rfl rfl (op (p_beq Tryz.underlying4 rfl rfl) rfl) ?_
  refine fixL (congrArg Value.bool (beq_self_eq_true _)) ?_
  refine ls (op (p_pickt rfl rfl) rfl) ?_
  refine ls (op (p_move rfl) rfl) ?_
  refine lwant rfl rfl rfl rfl (op (p_move rfl) rfl) ?_
  refine lwant rfl rfl rfl rfl (o_call (is := []) Tryz.call23 (c_lOld r A7 c7 (by omega)) rfl rfl (by repeat' (first | constructor | apply Sub.suf)) rfl) ?_
  refine le ?_; rintro ⟨A37, c37⟩
  refine lwant rfl rfl rfl rfl (op (p_move rfl) rfl) ?_
  refine lwant rfl rfl rfl rfl (o_call (is := []) Tryz.call17 (c_refAllP r r A37 A8 c37 c8 (by omega) hft.1) rfl rfl (by repeat' (first | constructor | apply Sub.suf)) rfl) ?_
  refine le ?_; intro x39
  refine fixL (congrArg Value.bool (decide_eq_true rfl)) ?_
  refine ls (op (p_pickt rfl rfl) rfl) ?_
  refine ls (op (p_asg rfl) rfl) ?_
  refine ln ?_
  refine nthen ?_
  refine cret ?_
  refine xret (fun _ _ h => h) ?_
  refine rret (is := []) () (Or.inl rfl) (Res.t rfl Res.d) (rfl) rfl (by repeat' (first | constructor | apply Sub.suf))

set_option maxRecDepth 100000 in
theorem c_SeqApplies (l : List TOp) (A : Option Addr) (c : Nat) (hl : l.length ≤ 1048576) (hM : omany l ≤ 1048576) (ps : List Prim) (B : Option Addr) (c' : Nat) (hB : B = none → c' = 0) (hlps : ps.length ≤ 1048576) (hfps : ∀ x ∈ ps, x.fit) (hmps : many ps ≤ 1048576) : Con Tryz.prog 6 [.slice A l.length c, .slice B ps.length c'] [] [slA A l, slA B ps] Unit (fun _ => .bool true) (fun _ => []) (fun _ => []) := by
 have hMo : ∀ o ∈ l, o.many ≤ 2000000 := fun o ho => by have := omany_mem ho; omega
 have htok : Tok l.length 2000000 (madeT l) := madeT_tok hMo
 have hlen := htok.len
 have hfit : Tfit (madeT l) := fun x hx => (htok.fit x hx).1
 have hso := madeT_sor l
 have hgood := madeT_good l
 have hinv := AppInv.made l
 refine con Tryz.func6 rfl Tryz.ntmps6 rfl ?_
 intro M0 F0 w0
 refine cs ?_
 refine cr ?_
 refine ls (op (p_asg rfl) rfl) ?_
 refine ln ?_
 refine nthen ?_
 refine cs ?_
 refine cs ?_
 refine cmono (fun a w h => nilQ (y := (B, c')) hB h) ?_
 refine cr ?_
 refine ls (op (p_move rfl) rfl) ?_
 refine ls (o_call (is := []) Tryz.call30 (c_Few02 l A c (by omega) (by omega)) rfl rfl (by repeat' (first | constructor | apply Sub.suf)) rfl) ?_
 refine le ?_; intro x10
 refine ls (op (p_icmp rfl rfl rfl) rfl) ?_
 refine ls (op (p_move rfl) rfl) ?_
 refine orX 5 12 17 rfl (subσ.cons (t := 0) rfl (subσ.cons (t := 1) rfl (subσ.cons (t := 4) rfl (subσ.nil _)))) ?_ ?_
 ·
  intro h12
  refine lskip rfl rfl rfl rfl rfl ?_
  refine lskip rfl rfl rfl rfl rfl ?_
  refine lskip rfl rfl rfl rfl rfl ?_
  refine lskip rfl rfl rfl rfl rfl ?_
  refine ls (op (p_pickt rfl rfl) rfl) ?_
  refine ln (nmid (wk0 (by repeat (first | exact subσ.nil _ | refine subσ.cons rfl ?_)) (by repeat' (first | constructor | apply Sub.suf))))
 apply exI
 ·
  intro h12
  refine lwant rfl rfl rfl rfl (op (p_move rfl) rfl) ?_
  refine lwant rfl rfl rfl rfl (o_bsl [ps] Tryz.underlying80 Tryz.sizeOf22 Tryz.zeroValue22 rfl (Enum.t Enum.d) (RV.t (B, c') rfl (by repeat' (first | constructor | apply Sub.suf)) RV.d) rfl (by decide) (by decide) rfl) ?_
  refine le ?_; intro b14
  refine lmono (fun a w h => Go.Sx.freeze (i := 0) rfl h) ?_
  refine lwant rfl rfl rfl rfl (o_call (is := []) Tryz.call11 (c_few5 [ps] (some ⟨b14, 0, none⟩) 1 (by simp) (one_R hlps) (one_S hmps) (one_S hlps)) rfl rfl (by repeat' (first | constructor | apply Sub.suf)) rfl) ?_
  refine le ?_; intro x15
  refine lwant rfl rfl rfl rfl (op (p_not rfl) rfl) ?_
  refine ls (op (p_pickf rfl rfl) rfl) ?_
  refine ln (nmid (wk0 (by repeat (first | exact subσ.nil _ | refine subσ.cons rfl ?_)) (by repeat' (first | constructor | apply Sub.suf))))
 ·
  refine ln ?_
  refine nthen ?_
  refine cc rfl ?_ ?_
  ·
   intro h17
   skip
   refine cs ?_
   refine cr ?_
   refine ls (o_call (is := []) Tryz.call12 (c_alive05) rfl rfl (by repeat' (first | constructor | apply Sub.suf)) rfl) ?_
   refine le ?_; intro x18
   refine ls (op (p_asg rfl) rfl) ?_
   refine ln ?_
   refine nthen ?_
   refine cret ?_
   refine xret (fun _ _ h => h) ?_
   refine rret (is := []) () (Or.inl rfl) (Res.t rfl Res.d) (rfl) rfl (by repeat' (first | constructor | apply Sub.suf))
  ·
   intro h17
   have hf0 : few5 [ps] = true := by have h := h17; simp at h; exact h.2
   obtain ⟨hf1, hf2⟩ := few5_one hf0
   have hLp := lns_many ps
   refine cskip ?_
   refine nthen ?_
   refine cs ?_
   refine cr ?_
   refine ls (op (p_move rfl) rfl) ?_
   refine ls (o_call (is := []) Tryz.call31 (c_Made02 l A c (by omega) hMo) rfl rfl (by repeat' (first | constructor | apply Sub.suf)) rfl) ?_
   refine le ?_; rintro ⟨⟨p, b⟩, ⟨A2, c2⟩⟩
   refine ls (op (p_move rfl) rfl) ?_
   refine ls (op (p_ext rfl (by repeat' constructor)) rfl) ?_
   refine ls (op (p_ext rfl (by repeat' constructor)) rfl) ?_
   refine ls (op (p_asg rfl) rfl) ?_
   refine ls (op (p_asg rfl) rfl) ?_
   refine ln ?_
   refine nthen ?_
   refine cs ?_
   refine cs ?_
   refine cr ?_
   refine ls (op (p_move rfl) rfl) ?_
   refine ls (op (p_ptrnil Tryz.underlying51 rfl rfl) rfl) ?_
   refine ln ?_
   refine nthen ?_
   refine cc rfl (fun h => by cases h) (fun h => ?_)
   refine cskip ?_
   refine nthen ?_
   refine cs ?_
   refine cr ?_
   refine ls (op (p_move rfl) rfl) ?_
   refine ls (op (p_move rfl) rfl) ?_
   refine ls (o_call (is := []) Tryz.call32 (c_ref5Apply (madeT l) A2 c2 (by omega) (omany l) l.length hinv ps B c' (by omega) hfps (by omega) (by omega)) rfl rfl (by repeat' (first | constructor | apply Sub.suf)) rfl) ?_
   refine le ?_; rintro ⟨⟨⟨S1, e1⟩, ⟨A4, c4⟩⟩, hq⟩
   dsimp only at hq
   have hin1 := rowT_inv hinv hq
   have hft1 : Tfit S1 := inv_fit hin1 (by omega)
   have hln1 := hin1.len
   refine ls (op (p_move rfl) rfl) ?_
   refine ls (op (p_ext rfl (by repeat' constructor)) rfl) ?_
   refine ls (op (p_ext rfl (by repeat' constructor)) rfl) ?_
   refine ls (op (p_asg rfl) rfl) ?_
   refine ls (op (p_asg rfl) rfl) ?_
   refine ln ?_
   refine nthen ?_
   refine cs ?_
   refine cs ?_
   refine cr ?_
   refine ls (op (p_move rfl) rfl) ?_
   refine ls (op (p_move rfl) rfl) ?_
   refine ls (o_call (is := []) Tryz.call13 (c_lNewC ps B c' (by omega)) rfl rfl (by repeat' (first | constructor | apply Sub.suf)) rfl) ?_
   refine le ?_; rintro ⟨A5, c5⟩
   refine lpure (St.cap (m := ps.length) (c := c5) (by repeat' constructor)) ?_
   intro hcap5
   refine ls (o_call (is := [0, 0]) Tryz.call33 (c_seqApply p b (madeT l) (omany l) (l.length) hinv ps A5 c5 hcap5 (by omega) hfps (by omega) (by omega)) rfl rfl (by repeat' (first | constructor | apply Sub.suf)) rfl) ?_
   refine le ?_; rintro ⟨⟨T1, e2⟩, hq2⟩
   try dsimp only at hq2
   obtain ⟨rfl, rfl⟩ := Prod.mk.inj (hq.trans hq2.symm)
   refine ls (op (p_move rfl) rfl) ?_
   refine ls (op (p_icmp rfl rfl rfl) rfl) ?_
   refine fixL (congrArg Value.bool (bne_self' _)) ?_
   refine ls (op (p_move rfl) rfl) ?_
   refine lwant rfl rfl rfl rfl (op (p_move rfl) rfl) ?_
   refine lwant rfl rfl rfl rfl (o_call (is := [0, 0]) Tryz.call35 (c_Old02 p b S1 (by omega) hft1) rfl rfl (by repeat' (first | constructor | apply Sub.suf)) rfl) ?_
   refine le ?_; rintro ⟨A40, c40⟩
   refine lwant rfl rfl rfl rfl (op (p_move rfl) rfl) ?_
   refine lwant rfl rfl rfl rfl (o_call (is := []) Tryz.call34 (c_rSame02 S1 S1 A40 A4 c40 c4 (by omega) hft1) rfl rfl (by repeat' (first | constructor | apply Sub.suf)) rfl) ?_
   refine le ?_; intro x42
   refine fixL (congrArg Value.bool (decide_eq_true rfl)) ?_
   refine lwant rfl rfl rfl rfl (op (p_not rfl) rfl) ?_
   refine ls (op (p_pickf rfl rfl) rfl) ?_
   refine ln ?_
   refine nthen ?_
   refine cc rfl (fun h => by cases h) (fun h => ?_)
   refine cskip ?_
   refine nthen ?_
   refine cs ?_
   refine cs ?_
   refine cr ?_
   refine ls (op (p_move rfl) rfl) ?_
   refine ls (op (p_icmp rfl rfl rfl) rfl) ?_
   refine ln ?_
   refine nthen ?_
   refine cc rfl ?_ ?_
   ·
    intro h46
    skip
    refine cs ?_
    refine cr ?_
    refine ls (o_call (is := []) Tryz.call12 (c_alive05) rfl rfl (by repeat' (first | constructor | apply Sub.suf)) rfl) ?_
    refine le ?_; intro x47
    refine ls (op (p_asg rfl) rfl) ?_
    refine ln ?_
    refine nthen ?_
    refine cret ?_
    refine xret (fun _ _ h => h) ?_
    refine rret (is := []) () (Or.inl rfl) (Res.t rfl Res.d) (rfl) rfl (by repeat' (first | constructor | apply Sub.suf))
   ·
    intro h46
    obtain rfl : e1 = 0 := by simpa using h46
    have hbk := rowT_ok (runs_back hso hgood (rowT_runs hq.symm))
    have hli := lns_inv ps
    have hil := invL_len ps
    refine cskip ?_
    refine nthen ?_
    refine cs ?_
    refine cr ?_
    refine ls (o_call (is := []) Tryz.call12 (c_alive05) rfl rfl (by repeat' (first | constructor | apply Sub.suf)) rfl) ?_
    refine le ?_; intro x48
    refine ls (op (p_move rfl) rfl) ?_
    refine lwant rfl rfl rfl rfl (op (p_move rfl) rfl) ?_
    refine lwant rfl rfl rfl rfl (op (p_move rfl) rfl) ?_
    refine lwant rfl rfl rfl rfl (o_call (is := []) Tryz.call13 (c_lNewC ps B c' (by omega)) rfl rfl (by repeat' (first | constructor | apply Sub.suf)) rfl) ?_
    refine le ?_; rintro ⟨A52, c52⟩
    refine lwant rfl rfl rfl rfl (o_call (is := []) Tryz.call24 (c_seqInvertC ps A52 c52 (by omega) hfps) rfl rfl (by repeat' (first | constructor | apply Sub.suf)) rfl) ?_
    refine le ?_; rintro ⟨A53, c53⟩
    refine lpure (St.cap (m := (invL ps).length) (c := c53) (by repeat' constructor)) ?_
    intro hcap53
    refine lwant rfl rfl rfl rfl (o_call (is := [0, 0]) Tryz.call33 (c_seqApply p b S1 (omany l + lns ps) (l.length + ps.length) hin1 (invL ps) A53 c53 hcap53 (by omega) (invL_fit hfps) (by omega) (by omega)) rfl rfl (by repeat' (first | constructor | apply Sub.suf)) rfl) ?_
    refine le ?_; rintro ⟨⟨T3, e3⟩, hq3⟩
    try dsimp only at hq3
    obtain ⟨rfl, rfl⟩ := Prod.mk.inj (hq3.trans hbk)
    refine lwant rfl rfl rfl rfl (op (p_icmp rfl rfl rfl) rfl) ?_
    refine fixL (congrArg Value.bool (decide_eq_true rfl)) ?_
    refine ls (op (p_pickt rfl rfl) rfl) ?_
    refine ls (op (p_move rfl) rfl) ?_
    refine lwant rfl rfl rfl rfl (op (p_move rfl) rfl) ?_
    refine lwant rfl rfl rfl rfl (o_call (is := [0, 0]) Tryz.call35 (c_Old02 p b (madeT l) (by omega) hfit) rfl rfl (by repeat' (first | constructor | apply Sub.suf)) rfl) ?_
    refine le ?_; rintro ⟨A59, c59⟩
    refine lwant rfl rfl rfl rfl (op (p_move rfl) rfl) ?_
    refine lwant rfl rfl rfl rfl (o_call (is := []) Tryz.call34 (c_rSame02 (madeT l) (madeT l) A59 A2 c59 c2 (by omega) hfit) rfl rfl (by repeat' (first | constructor | apply Sub.suf)) rfl) ?_
    refine le ?_; intro x61
    refine fixL (congrArg Value.bool (decide_eq_true rfl)) ?_
    refine ls (op (p_pickt rfl rfl) rfl) ?_
    refine ls (op (p_asg rfl) rfl) ?_
    refine ln ?_
    refine nthen ?_
    refine cret ?_
    refine xret (fun _ _ h => h) ?_
    refine rret (is := []) () (Or.inl rfl) (Res.t rfl Res.d) (rfl) rfl (by repeat' (first | constructor | apply Sub.suf))

set_option maxRecDepth 100000 in
theorem c_SeqFits (l : List TOp) (A : Option Addr) (c : Nat) (hl : l.length ≤ 1048576) (hM : omany l ≤ 1048576) (ps : List Prim) (B : Option Addr) (c' : Nat) (hB : B = none → c' = 0) (hlps : ps.length ≤ 1048576) (hfps : ∀ x ∈ ps, x.fit) (hmps : many ps ≤ 1048576) (qs : List Prim) (D : Option Addr) (d' : Nat) (hD : D = none → d' = 0) (hlqs : qs.length ≤ 1048576) (hfqs : ∀ x ∈ qs, x.fit) (hmqs : many qs ≤ 1048576) : Con Tryz.prog 7 [.slice A l.length c, .slice B ps.length c', .slice D qs.length d'] [] [slA A l, slA B ps, slA D qs] Unit (fun _ => .bool true) (fun _ => []) (fun _ => []) := by
 have hMo : ∀ o ∈ l, o.many ≤ 2000000 := fun o ho => by have := omany_mem ho; omega
 have htok : Tok l.length 2000000 (madeT l) := madeT_tok hMo
 have hlen := htok.len
 have hfit : Tfit (madeT l) := fun x hx => (htok.fit x hx).1
 have hso := madeT_sor l
 have hgood := madeT_good l
 have hinv := AppInv.made l
 refine con Tryz.func7 rfl Tryz.ntmps7 rfl ?_
 intro M0 F0 w0
 refine cs ?_
 refine cr ?_
 refine ls (op (p_asg rfl) rfl) ?_
 refine ln ?_
 refine nthen ?_
 refine cs ?_
 refine cs ?_
 refine cmono (fun a w h => nilQ (y := (D, d')) hD h) ?_
 refine cmono (fun a w h => nilQ (y := (B, c')) hB h) ?_
 refine cr ?_
 refine ls (op (p_move rfl) rfl) ?_
 refine ls (o_call (is := []) Tryz.call30 (c_Few02 l A c (by omega) (by omega)) rfl rfl (by repeat' (first | constructor | apply Sub.suf)) rfl) ?_
 refine le ?_; intro x16
 refine ls (op (p_icmp rfl rfl rfl) rfl) ?_
 refine ls (op (p_move rfl) rfl) ?_
 refine orX 6 18 24 rfl (subσ.cons (t := 0) rfl (subσ.cons (t := 1) rfl (subσ.cons (t := 2) rfl (subσ.cons (t := 6) rfl (subσ.nil _))))) ?_ ?_
 ·
  intro h18
  refine lskip rfl rfl rfl rfl rfl ?_
  refine lskip rfl rfl rfl rfl rfl ?_
  refine lskip rfl rfl rfl rfl rfl ?_
  refine lskip rfl rfl rfl rfl rfl ?_
  refine lskip rfl rfl rfl rfl rfl ?_
  refine ls (op (p_pickt rfl rfl) rfl) ?_
  refine ln (nmid (wk0 (by repeat (first | exact subσ.nil _ | refine subσ.cons rfl ?_)) (by repeat' (first | constructor | apply Sub.suf))))
 apply exI
 ·
  intro h18
  refine lwant rfl rfl rfl rfl (op (p_move rfl) rfl) ?_
  refine lwant rfl rfl rfl rfl (op (p_move rfl) rfl) ?_
  refine lwant rfl rfl rfl rfl (o_bsl [ps, qs] Tryz.underlying80 Tryz.sizeOf22 Tryz.zeroValue22 rfl (Enum.t (Enum.t Enum.d)) (RV.t (B, c') rfl (by repeat' (first | constructor | apply Sub.suf)) (RV.t (D, d') rfl (by repeat' (first | constructor | apply Sub.suf)) RV.d)) rfl (by decide) (by decide) rfl) ?_
  refine le ?_; intro b21
  refine lmono (fun a w h => Go.Sx.freeze (i := 0) rfl h) ?_
  refine lwant rfl rfl rfl rfl (o_call (is := []) Tryz.call11 (c_few5 [ps, qs] (some ⟨b21, 0, none⟩) 2 (by simp) (two_R hlps hlqs) (two_S hmps hmqs) (two_S hlps hlqs)) rfl rfl (by repeat' (first | constructor | apply Sub.suf)) rfl) ?_
  refine le ?_; intro x22
  refine lwant rfl rfl rfl rfl (op (p_not rfl) rfl) ?_
  refine ls (op (p_pickf rfl rfl) rfl) ?_
  refine ln (nmid (wk0 (by repeat (first | exact subσ.nil _ | refine subσ.cons rfl ?_)) (by repeat' (first | constructor | apply Sub.suf))))
 ·
  refine ln ?_
  refine nthen ?_
  refine cc rfl ?_ ?_
  ·
   intro h24
   skip
   refine cs ?_
   refine cr ?_
   refine ls (o_call (is := []) Tryz.call12 (c_alive05) rfl rfl (by repeat' (first | constructor | apply Sub.suf)) rfl) ?_
   refine le ?_; intro x25
   refine ls (op (p_asg rfl) rfl) ?_
   refine ln ?_
   refine nthen ?_
   refine cret ?_
   refine xret (fun _ _ h => h) ?_
   refine rret (is := []) () (Or.inl rfl) (Res.t rfl Res.d) (rfl) rfl (by repeat' (first | constructor | apply Sub.suf))
  ·
   intro h24
   have hf0 : few5 [ps, qs] = true := by have h := h24; simp at h; exact h.2
   obtain ⟨hf1, hf2⟩ := few5_two hf0
   have hLp := lns_many ps; have hLq := lns_many qs
   refine cskip ?_
   refine nthen ?_
   refine cs ?_
   refine cr ?_
   refine ls (op (p_move rfl) rfl) ?_
   refine ls (o_call (is := []) Tryz.call31 (c_Made02 l A c (by omega) hMo) rfl rfl (by repeat' (first | constructor | apply Sub.suf)) rfl) ?_
   refine le ?_; rintro ⟨⟨p, b⟩, ⟨A2, c2⟩⟩
   refine ls (op (p_move rfl) rfl) ?_
   refine ls (op (p_ext rfl (by repeat' constructor)) rfl) ?_
   refine ls (op (p_ext rfl (by repeat' constructor)) rfl) ?_
   refine ls (op (p_asg rfl) rfl) ?_
   refine ls (op (p_asg rfl) rfl) ?_
   refine ln ?_
   refine nthen ?_
   refine cs ?_
   refine cs ?_
   refine cr ?_
   refine ls (op (p_move rfl) rfl) ?_
   refine ls (op (p_ptrnil Tryz.underlying51 rfl rfl) rfl) ?_
   refine ln ?_
   refine nthen ?_
   refine cc rfl (fun h => by cases h) (fun h => ?_)
   refine cskip ?_
   refine nthen ?_
   refine cs ?_
   refine cr ?_
   refine ls (op (p_move rfl) rfl) ?_
   refine ls (o_call (is := [0, 0]) Tryz.call36 (c_tCopy p b (madeT l)) rfl rfl (by repeat' (first | constructor | apply Sub.suf)) rfl) ?_
   refine le ?_; rintro ⟨p4, b4⟩
   refine ls (op (p_asg rfl) rfl) ?_
   refine ln ?_
   refine nthen ?_
   refine cs ?_
   refine cr ?_
   refine ls (op (p_move rfl) rfl) ?_
   refine ls (o_call (is := []) Tryz.call13 (c_lNewC ps B c' (by omega)) rfl rfl (by repeat' (first | constructor | apply Sub.suf)) rfl) ?_
   refine le ?_; rintro ⟨A5, c5⟩
   refine lpure (St.cap (m := ps.length) (c := c5) (by repeat' constructor)) ?_
   intro hcap5
   refine ls (op (p_move rfl) rfl) ?_
   refine ls (o_call (is := []) Tryz.call13 (c_lNewC qs D d' (by omega)) rfl rfl (by repeat' (first | constructor | apply Sub.suf)) rfl) ?_
   refine le ?_; rintro ⟨A6, c6⟩
   refine lpure (St.cap (m := qs.length) (c := c6) (by repeat' constructor)) ?_
   intro hcap6
   refine ls (op (p_asg rfl) rfl) ?_
   refine ls (op (p_asg rfl) rfl) ?_
   refine ln ?_
   refine nthen ?_
   refine cs ?_
   refine cs ?_
   refine cr ?_
   refine ls (op (p_move rfl) rfl) ?_
   refine ls (op (p_move rfl) rfl) ?_
   refine ls (o_call (is := [2, 2]) Tryz.call33 (c_seqApply p b (madeT l) (omany l) (l.length) hinv ps A5 c5 hcap5 (by omega) hfps (by omega) (by omega)) rfl rfl (by repeat' (first | constructor | apply Sub.suf)) rfl) ?_
   refine le ?_; rintro ⟨⟨T1, e1⟩, hq1⟩
   try dsimp only at hq1
   have hin1 := rowT_inv hinv hq1
   refine ls (op (p_icmp rfl rfl rfl) rfl) ?_
   refine ls (op (p_move rfl) rfl) ?_
   refine splitL 43 rfl ?_ ?_
   ·
    intro h43
    skip
    refine lskip rfl rfl rfl rfl rfl ?_
    refine lskip rfl rfl rfl rfl rfl ?_
    refine lskip rfl rfl rfl rfl rfl ?_
    refine lskip rfl rfl rfl rfl rfl ?_
    refine ls (op (p_pickt rfl rfl) rfl) ?_
    refine ln ?_
    refine nthen ?_
    refine cc rfl (fun h => ?_) (fun h => by cases h)
    refine cs ?_
    refine cr ?_
    refine ls (o_call (is := []) Tryz.call12 (c_alive05) rfl rfl (by repeat' (first | constructor | apply Sub.suf)) rfl) ?_
    refine le ?_; intro x49
    refine ls (op (p_asg rfl) rfl) ?_
    refine ln ?_
    refine nthen ?_
    refine cret ?_
    refine xret (fun _ _ h => h) ?_
    refine rret (is := []) () (Or.inl rfl) (Res.t rfl Res.d) (rfl) rfl (by repeat' (first | constructor | apply Sub.suf))
   ·
    intro h43
    obtain rfl : e1 = 0 := by simpa using h43
    refine lwant rfl rfl rfl rfl (op (p_move rfl) rfl) ?_
    refine lwant rfl rfl rfl rfl (op (p_move rfl) rfl) ?_
    refine lwant rfl rfl rfl rfl (o_call (is := [0, 0]) Tryz.call33 (c_seqApply p b T1 (omany l + lns ps) (l.length + ps.length) hin1 qs A6 c6 hcap6 (by omega) hfqs (by omega) (by omega)) rfl rfl (by repeat' (first | constructor | apply Sub.suf)) rfl) ?_
    refine le ?_; rintro ⟨⟨T2, e2⟩, hq2⟩
    try dsimp only at hq2
    have hin2 := rowT_inv hin1 hq2
    refine lwant rfl rfl rfl rfl (op (p_icmp rfl rfl rfl) rfl) ?_
    refine ls (op (p_pickf rfl rfl) rfl) ?_
    refine ln ?_
    refine nthen ?_
    refine cc rfl ?_ ?_
    ·
     intro h48
     skip
     refine cs ?_
     refine cr ?_
     refine ls (o_call (is := []) Tryz.call12 (c_alive05) rfl rfl (by repeat' (first | constructor | apply Sub.suf)) rfl) ?_
     refine le ?_; intro x49
     refine ls (op (p_asg rfl) rfl) ?_
     refine ln ?_
     refine nthen ?_
     refine cret ?_
     refine xret (fun _ _ h => h) ?_
     refine rret (is := []) () (Or.inl rfl) (Res.t rfl Res.d) (rfl) rfl (by repeat' (first | constructor | apply Sub.suf))
    ·
     intro h48
     obtain rfl : e2 = 0 := by simpa using h48
     have hrun := runs_app.2 ⟨T1, rowT_runs hq1.symm, rowT_runs hq2.symm⟩
     refine cskip ?_
     refine nthen ?_
     refine cs ?_
     refine cr ?_
     refine ls (op (p_move rfl) rfl) ?_
     refine ls (op (p_move rfl) rfl) ?_
     refine ls (o_call (is := []) Tryz.call26 (c_seqSwapC ps qs A5 A6 c5 c6 (by omega) (by omega) hfps hfqs) rfl rfl (by repeat' (first | constructor | apply Sub.suf)) rfl) ?_
     refine le ?_; rintro ⟨⟨⟨f, s, b9⟩, ⟨⟨A12, c12⟩, ⟨A13, c13⟩⟩⟩, hr⟩
     dsimp only at hr
     have hft := swT_fit hr hfps hfqs
     have hle := swT_le hr
     refine lpure (St.cap (m := f.length) (c := c12) (by repeat' constructor)) ?_
     intro hcap12
     refine lpure (St.cap (m := s.length) (c := c13) (by repeat' constructor)) ?_
     intro hcap13
     refine ls (op (p_move rfl) rfl) ?_
     refine ls (op (p_ext rfl (by repeat' constructor)) rfl) ?_
     refine ls (op (p_ext rfl (by repeat' constructor)) rfl) ?_
     refine ls (op (p_ext rfl (by repeat' constructor)) rfl) ?_
     refine ls (op (p_asg rfl) rfl) ?_
     refine ls (op (p_asg rfl) rfl) ?_
     refine ls (op (p_asg rfl) rfl) ?_
     refine ln ?_
     refine nthen ?_
     refine cs ?_
     refine cs ?_
     refine cr ?_
     refine ls (op (p_move rfl) rfl) ?_
     refine ls (op (p_not rfl) rfl) ?_
     refine ln ?_
     refine nthen ?_
     refine cc rfl ?_ ?_
     ·
      intro h58
      skip
      refine cs ?_
      refine cr ?_
      refine ls (o_call (is := []) Tryz.call12 (c_alive05) rfl rfl (by repeat' (first | constructor | apply Sub.suf)) rfl) ?_
      refine le ?_; intro x59
      refine ls (op (p_asg rfl) rfl) ?_
      refine ln ?_
      refine nthen ?_
      refine cret ?_
      refine xret (fun _ _ h => h) ?_
      refine rret (is := []) () (Or.inl rfl) (Res.t rfl Res.d) (rfl) rfl (by repeat' (first | constructor | apply Sub.suf))
     ·
      intro h58
      obtain rfl : b9 = true := by simpa using h58
      have hln := swT_lns hr
      obtain ⟨X, hX1, hX2⟩ := runs_app.1 (runs_swT hso hrun hr)
      have hin3 := rowT_inv hinv (rowT_ok hX1).symm
      have hft2 : Tfit T2 := inv_fit hin2 (by omega)
      refine cskip ?_
      refine nthen ?_
      refine cs ?_
      refine cr ?_
      refine ls (o_call (is := []) Tryz.call12 (c_alive05) rfl rfl (by repeat' (first | constructor | apply Sub.suf)) rfl) ?_
      refine le ?_; intro x60
      refine ls (op (p_move rfl) rfl) ?_
      refine lwant rfl rfl rfl rfl (op (p_move rfl) rfl) ?_
      refine lwant rfl rfl rfl rfl (op (p_move rfl) rfl) ?_
      refine lwant rfl rfl rfl rfl (o_call (is := [2, 2]) Tryz.call33 (c_seqApply p4 b4 (madeT l) (omany l) (l.length) hinv f A12 c12 hcap12 (by omega) hft.1 (by omega) (by omega)) rfl rfl (by repeat' (first | constructor | apply Sub.suf)) rfl) ?_
      refine le ?_; rintro ⟨⟨T3, e3⟩, hq3⟩
      try dsimp only at hq3
      obtain ⟨rfl, rfl⟩ := Prod.mk.inj ((rowT_ok hX1).symm.trans hq3.symm)
      refine lwant rfl rfl rfl rfl (op (p_icmp rfl rfl rfl) rfl) ?_
      refine fixL (congrArg Value.bool (decide_eq_true rfl)) ?_
      refine ls (op (p_pickt rfl rfl) rfl) ?_
      refine ls (op (p_move rfl) rfl) ?_
      refine lwant rfl rfl rfl rfl (op (p_move rfl) rfl) ?_
      refine lwant rfl rfl rfl rfl (op (p_move rfl) rfl) ?_
      refine lwant rfl rfl rfl rfl (o_call (is := [0, 0]) Tryz.call33 (c_seqApply p4 b4 X (omany l + lns f) (l.length + f.length) hin3 s A13 c13 hcap13 (by omega) hft.2 (by omega) (by omega)) rfl rfl (by repeat' (first | constructor | apply Sub.suf)) rfl) ?_
      refine le ?_; rintro ⟨⟨T4, e4⟩, hq4⟩
      try dsimp only at hq4
      obtain ⟨rfl, rfl⟩ := Prod.mk.inj ((rowT_ok hX2).symm.trans hq4.symm)
      refine lwant rfl rfl rfl rfl (op (p_icmp rfl rfl rfl) rfl) ?_
      refine fixL (congrArg Value.bool (decide_eq_true rfl)) ?_
      refine ls (op (p_pickt rfl rfl) rfl) ?_
      refine ls (op (p_move rfl) rfl) ?_
      refine lwant rfl rfl rfl rfl (op (p_move rfl) rfl) ?_
      refine lwant rfl rfl rfl rfl (op (p_move rfl) rfl) ?_
      refine lwant rfl rfl rfl rfl (o_call (is := [2, 2, 0, 0]) Tryz.call37 (c_tSame p b p4 b4 T2 T2 hft2) rfl rfl (by repeat' (first | constructor | apply Sub.suf)) rfl) ?_
      refine le ?_; intro x76
      refine fixL (congrArg Value.bool (decide_eq_true rfl)) ?_
      refine ls (op (p_pickt rfl rfl) rfl) ?_
      refine ls (op (p_asg rfl) rfl) ?_
      refine ln ?_
      refine nthen ?_
      refine cret ?_
      refine xret (fun _ _ h => h) ?_
      refine rret (is := []) () (Or.inl rfl) (Res.t rfl Res.d) (rfl) rfl (by repeat' (first | constructor | apply Sub.suf))

set_option maxRecDepth 100000 in
theorem c_SeqMerges (l : List TOp) (A : Option Addr) (c : Nat) (hl : l.length ≤ 1048576) (hM : omany l ≤ 1048576) (ps : List Prim) (B : Option Addr) (c' : Nat) (hB : B = none → c' = 0) (hlps : ps.length ≤ 1048576) (hfps : ∀ x ∈ ps, x.fit) (hmps : many ps ≤ 1048576) (qs : List Prim) (D : Option Addr) (d' : Nat) (hD : D = none → d' = 0) (hlqs : qs.length ≤ 1048576) (hfqs : ∀ x ∈ qs, x.fit) (hmqs : many qs ≤ 1048576) : Con Tryz.prog 8 [.slice A l.length c, .slice B ps.length c', .slice D qs.length d'] [] [slA A l, slA B ps, slA D qs] Unit (fun _ => .bool true) (fun _ => []) (fun _ => []) := by
 have hMo : ∀ o ∈ l, o.many ≤ 2000000 := fun o ho => by have := omany_mem ho; omega
 have htok : Tok l.length 2000000 (madeT l) := madeT_tok hMo
 have hlen := htok.len
 have hfit : Tfit (madeT l) := fun x hx => (htok.fit x hx).1
 have hso := madeT_sor l
 have hgood := madeT_good l
 have hinv := AppInv.made l
 refine con Tryz.func8 rfl Tryz.ntmps8 rfl ?_
 intro M0 F0 w0
 refine cs ?_
 refine cr ?_
 refine ls (op (p_asg rfl) rfl) ?_
 refine ln ?_
 refine nthen ?_
 refine cs ?_
 refine cs ?_
 refine cmono (fun a w h => nilQ (y := (D, d')) hD h) ?_
 refine cmono (fun a w h => nilQ (y := (B, c')) hB h) ?_
 refine cr ?_
 refine ls (op (p_move rfl) rfl) ?_
 refine ls (o_call (is := []) Tryz.call30 (c_Few02 l A c (by omega) (by omega)) rfl rfl (by repeat' (first | constructor | apply Sub.suf)) rfl) ?_
 refine le ?_; intro x17
 refine ls (op (p_icmp rfl rfl rfl) rfl) ?_
 refine ls (op (p_move rfl) rfl) ?_
 refine orX 6 19 25 rfl (subσ.cons (t := 0) rfl (subσ.cons (t := 1) rfl (subσ.cons (t := 2) rfl (subσ.cons (t := 6) rfl (subσ.nil _))))) ?_ ?_
 ·
  intro h19
  refine lskip rfl rfl rfl rfl rfl ?_
  refine lskip rfl rfl rfl rfl rfl ?_
  refine lskip rfl rfl rfl rfl rfl ?_
  refine lskip rfl rfl rfl rfl rfl ?_
  refine lskip rfl rfl rfl rfl rfl ?_
  refine ls (op (p_pickt rfl rfl) rfl) ?_
  refine ln (nmid (wk0 (by repeat (first | exact subσ.nil _ | refine subσ.cons rfl ?_)) (by repeat' (first | constructor | apply Sub.suf))))
 apply exI
 ·
  intro h19
  refine lwant rfl rfl rfl rfl (op (p_move rfl) rfl) ?_
  refine lwant rfl rfl rfl rfl (op (p_move rfl) rfl) ?_
  refine lwant rfl rfl rfl rfl (o_bsl [ps, qs] Tryz.underlying80 Tryz.sizeOf22 Tryz.zeroValue22 rfl (Enum.t (Enum.t Enum.d)) (RV.t (B, c') rfl (by repeat' (first | constructor | apply Sub.suf)) (RV.t (D, d') rfl (by repeat' (first | constructor | apply Sub.suf)) RV.d)) rfl (by decide) (by decide) rfl) ?_
  refine le ?_; intro b22
  refine lmono (fun a w h => Go.Sx.freeze (i := 0) rfl h) ?_
  refine lwant rfl rfl rfl rfl (o_call (is := []) Tryz.call11 (c_few5 [ps, qs] (some ⟨b22, 0, none⟩) 2 (by simp) (two_R hlps hlqs) (two_S hmps hmqs) (two_S hlps hlqs)) rfl rfl (by repeat' (first | constructor | apply Sub.suf)) rfl) ?_
  refine le ?_; intro x23
  refine lwant rfl rfl rfl rfl (op (p_not rfl) rfl) ?_
  refine ls (op (p_pickf rfl rfl) rfl) ?_
  refine ln (nmid (wk0 (by repeat (first | exact subσ.nil _ | refine subσ.cons rfl ?_)) (by repeat' (first | constructor | apply Sub.suf))))
 ·
  refine ln ?_
  refine nthen ?_
  refine cc rfl ?_ ?_
  ·
   intro h25
   skip
   refine cs ?_
   refine cr ?_
   refine ls (o_call (is := []) Tryz.call12 (c_alive05) rfl rfl (by repeat' (first | constructor | apply Sub.suf)) rfl) ?_
   refine le ?_; intro x26
   refine ls (op (p_asg rfl) rfl) ?_
   refine ln ?_
   refine nthen ?_
   refine cret ?_
   refine xret (fun _ _ h => h) ?_
   refine rret (is := []) () (Or.inl rfl) (Res.t rfl Res.d) (rfl) rfl (by repeat' (first | constructor | apply Sub.suf))
  ·
   intro h25
   have hf0 : few5 [ps, qs] = true := by have h := h25; simp at h; exact h.2
   obtain ⟨hf1, hf2⟩ := few5_two hf0
   have hLp := lns_many ps; have hLq := lns_many qs
   refine cskip ?_
   refine nthen ?_
   refine cs ?_
   refine cr ?_
   refine ls (op (p_move rfl) rfl) ?_
   refine ls (o_call (is := []) Tryz.call31 (c_Made02 l A c (by omega) hMo) rfl rfl (by repeat' (first | constructor | apply Sub.suf)) rfl) ?_
   refine le ?_; rintro ⟨⟨p, b⟩, ⟨A2, c2⟩⟩
   refine ls (op (p_move rfl) rfl) ?_
   refine ls (op (p_ext rfl (by repeat' constructor)) rfl) ?_
   refine ls (op (p_ext rfl (by repeat' constructor)) rfl) ?_
   refine ls (op (p_asg rfl) rfl) ?_
   refine ls (op (p_asg rfl) rfl) ?_
   refine ln ?_
   refine nthen ?_
   refine cs ?_
   refine cs ?_
   refine cr ?_
   refine ls (op (p_move rfl) rfl) ?_
   refine ls (op (p_ptrnil Tryz.underlying51 rfl rfl) rfl) ?_
   refine ln ?_
   refine nthen ?_
   refine cc rfl (fun h => by cases h) (fun h => ?_)
   refine cskip ?_
   refine nthen ?_
   refine cs ?_
   refine cr ?_
   refine ls (op (p_move rfl) rfl) ?_
   refine ls (o_call (is := [0, 0]) Tryz.call36 (c_tCopy p b (madeT l)) rfl rfl (by repeat' (first | constructor | apply Sub.suf)) rfl) ?_
   refine le ?_; rintro ⟨p4, b4⟩
   refine ls (op (p_asg rfl) rfl) ?_
   refine ln ?_
   refine nthen ?_
   refine cs ?_
   refine cr ?_
   refine ls (op (p_move rfl) rfl) ?_
   refine ls (o_call (is := []) Tryz.call13 (c_lNewC ps B c' (by omega)) rfl rfl (by repeat' (first | constructor | apply Sub.suf)) rfl) ?_
   refine le ?_; rintro ⟨A5, c5⟩
   refine lpure (St.cap (m := ps.length) (c := c5) (by repeat' constructor)) ?_
   intro hcap5
   refine ls (op (p_move rfl) rfl) ?_
   refine ls (o_call (is := []) Tryz.call13 (c_lNewC qs D d' (by omega)) rfl rfl (by repeat' (first | constructor | apply Sub.suf)) rfl) ?_
   refine le ?_; rintro ⟨A6, c6⟩
   refine lpure (St.cap (m := qs.length) (c := c6) (by repeat' constructor)) ?_
   intro hcap6
   refine ls (op (p_asg rfl) rfl) ?_
   refine ls (op (p_asg rfl) rfl) ?_
   refine ln ?_
   refine nthen ?_
   refine cs ?_
   refine cr ?_
   refine ls (op (p_move rfl) rfl) ?_
   refine ls (op (p_move rfl) rfl) ?_
   refine ls (o_call (is := []) Tryz.call28 (c_seqRebaseC ps qs A5 A6 c5 c6 (by omega) (by omega) hfps hfqs) rfl rfl (by repeat' (first | constructor | apply Sub.suf)) rfl) ?_
   refine le ?_; rintro ⟨⟨⟨f, b1⟩, ⟨A12, c12⟩⟩, hra⟩
   dsimp only at hra
   have hfa := rebT_fit hra hfps hfqs
   refine lpure (St.cap (m := f.length) (c := c12) (by repeat' constructor)) ?_
   intro hcap12
   refine ls (op (p_move rfl) rfl) ?_
   refine ls (op (p_ext rfl (by repeat' constructor)) rfl) ?_
   refine ls (op (p_ext rfl (by repeat' constructor)) rfl) ?_
   refine ls (op (p_asg rfl) rfl) ?_
   refine ls (op (p_asg rfl) rfl) ?_
   refine ln ?_
   refine nthen ?_
   refine cs ?_
   refine cr ?_
   refine ls (op (p_move rfl) rfl) ?_
   refine ls (op (p_move rfl) rfl) ?_
   refine ls (o_call (is := []) Tryz.call28 (c_seqRebaseC qs ps A6 A5 c6 c5 (by omega) (by omega) hfqs hfps) rfl rfl (by repeat' (first | constructor | apply Sub.suf)) rfl) ?_
   refine le ?_; rintro ⟨⟨⟨s, b2⟩, ⟨A13, c13⟩⟩, hrb⟩
   dsimp only at hrb
   obtain rfl := rebT_turn hra hrb
   have hfb := rebT_fit hrb hfqs hfps
   refine lpure (St.cap (m := s.length) (c := c13) (by repeat' constructor)) ?_
   intro hcap13
   refine ls (op (p_move rfl) rfl) ?_
   refine ls (op (p_ext rfl (by repeat' constructor)) rfl) ?_
   refine ls (op (p_ext rfl (by repeat' constructor)) rfl) ?_
   refine ls (op (p_asg rfl) rfl) ?_
   refine ls (op (p_asg rfl) rfl) ?_
   refine ln ?_
   refine nthen ?_
   refine cs ?_
   refine cs ?_
   refine cr ?_
   refine ls (op (p_move rfl) rfl) ?_
   refine ls (op (p_move rfl) rfl) ?_
   refine ls (op (p_bne Tryz.underlying4 rfl rfl) rfl) ?_
   refine fixL (congrArg Value.bool (bne_self_eq_false _)) ?_
   refine ln ?_
   refine nthen ?_
   refine cc rfl (fun h => by cases h) (fun h => ?_)
   refine cskip ?_
   refine nthen ?_
   refine cs ?_
   refine cs ?_
   refine cr ?_
   refine ls (op (p_move rfl) rfl) ?_
   refine ls (op (p_move rfl) rfl) ?_
   refine ls (o_call (is := [2, 2]) Tryz.call33 (c_seqApply p b (madeT l) (omany l) (l.length) hinv ps A5 c5 hcap5 (by omega) hfps (by omega) (by omega)) rfl rfl (by repeat' (first | constructor | apply Sub.suf)) rfl) ?_
   refine le ?_; rintro ⟨⟨T1, e1⟩, hq1⟩
   try dsimp only at hq1
   have hin1 := rowT_inv hinv hq1
   refine ls (op (p_icmp rfl rfl rfl) rfl) ?_
   refine ls (op (p_move rfl) rfl) ?_
   refine splitL 59 rfl ?_ ?_
   ·
    intro h59
    skip
    refine lskip rfl rfl rfl rfl rfl ?_
    refine lskip rfl rfl rfl rfl rfl ?_
    refine lskip rfl rfl rfl rfl rfl ?_
    refine lskip rfl rfl rfl rfl rfl ?_
    refine ls (op (p_pickt rfl rfl) rfl) ?_
    refine ls (op (p_move rfl) rfl) ?_
    refine lskip rfl rfl rfl rfl rfl ?_
    refine lskip rfl rfl rfl rfl rfl ?_
    refine ls (op (p_pickt rfl rfl) rfl) ?_
    refine ln ?_
    refine nthen ?_
    refine cc rfl (fun h => ?_) (fun h => by cases h)
    refine cs ?_
    refine cr ?_
    refine ls (o_call (is := []) Tryz.call12 (c_alive05) rfl rfl (by repeat' (first | constructor | apply Sub.suf)) rfl) ?_
    refine le ?_; intro x69
    refine ls (op (p_asg rfl) rfl) ?_
    refine ln ?_
    refine nthen ?_
    refine cret ?_
    refine xret (fun _ _ h => h) ?_
    refine rret (is := []) () (Or.inl rfl) (Res.t rfl Res.d) (rfl) rfl (by repeat' (first | constructor | apply Sub.suf))
   ·
    intro h59
    obtain rfl : e1 = 0 := by simpa using h59
    refine lwant rfl rfl rfl rfl (op (p_move rfl) rfl) ?_
    refine lwant rfl rfl rfl rfl (op (p_move rfl) rfl) ?_
    refine lwant rfl rfl rfl rfl (o_call (is := [2, 2]) Tryz.call33 (c_seqApply p4 b4 (madeT l) (omany l) (l.length) hinv qs A6 c6 hcap6 (by omega) hfqs (by omega) (by omega)) rfl rfl (by repeat' (first | constructor | apply Sub.suf)) rfl) ?_
    refine le ?_; rintro ⟨⟨T2, e2⟩, hq2⟩
    try dsimp only at hq2
    have hin2 := rowT_inv hinv hq2
    refine lwant rfl rfl rfl rfl (op (p_icmp rfl rfl rfl) rfl) ?_
    refine ls (op (p_pickf rfl rfl) rfl) ?_
    refine ls (op (p_move rfl) rfl) ?_
    refine orX 3 65 68 rfl (subσ.cons (t := 0) rfl (subσ.cons (t := 1) rfl (subσ.cons (t := 2) rfl (subσ.cons (t := 6) rfl (subσ.cons (t := 25) rfl (subσ.cons (t := 28) rfl (subσ.cons (t := 29) rfl (subσ.cons (t := 27) rfl (subσ.cons (t := 30) rfl (subσ.cons (t := 31) rfl (subσ.cons (t := 7) rfl (subσ.cons (t := 32) rfl (subσ.cons (t := 33) rfl (subσ.cons (t := 34) rfl (subσ.cons (t := 35) rfl (subσ.cons (t := 9) rfl (subσ.cons (t := 36) rfl (subσ.cons (t := 37) rfl (subσ.cons (t := 38) rfl (subσ.cons (t := 39) rfl (subσ.cons (t := 10) rfl (subσ.cons (t := 11) rfl (subσ.cons (t := 41) rfl (subσ.cons (t := 42) rfl (subσ.cons (t := 43) rfl (subσ.cons (t := 40) rfl (subσ.cons (t := 44) rfl (subσ.cons (t := 45) rfl (subσ.cons (t := 12) rfl (subσ.cons (t := 13) rfl (subσ.cons (t := 47) rfl (subσ.cons (t := 48) rfl (subσ.cons (t := 49) rfl (subσ.cons (t := 46) rfl (subσ.cons (t := 50) rfl (subσ.cons (t := 51) rfl (subσ.cons (t := 14) rfl (subσ.cons (t := 15) rfl (subσ.cons (t := 52) rfl (subσ.cons (t := 53) rfl (subσ.cons (t := 54) rfl (subσ.nil _)))))))))))))))))))))))))))))))))))))))))) ?_ ?_
    ·
     intro h65
     refine lskip rfl rfl rfl rfl rfl ?_
     refine lskip rfl rfl rfl rfl rfl ?_
     refine ls (op (p_pickt rfl rfl) rfl) ?_
     refine ln (nmid (wk0 (by repeat (first | exact subσ.nil _ | refine subσ.cons rfl ?_)) (by repeat' (first | constructor | apply Sub.suf))))
    apply exI
    ·
     intro h65
     refine lwant rfl rfl rfl rfl (op (p_move rfl) rfl) ?_
     refine lwant rfl rfl rfl rfl (op (p_not rfl) rfl) ?_
     refine ls (op (p_pickf rfl rfl) rfl) ?_
     refine ln (nmid (wk0 (by repeat (first | exact subσ.nil _ | refine subσ.cons rfl ?_)) (by repeat' (first | constructor | apply Sub.suf))))
    ·
     refine ln ?_
     refine nthen ?_
     refine cc rfl ?_ ?_
     ·
      intro h68
      skip
      refine cs ?_
      refine cr ?_
      refine ls (o_call (is := []) Tryz.call12 (c_alive05) rfl rfl (by repeat' (first | constructor | apply Sub.suf)) rfl) ?_
      refine le ?_; intro x69
      refine ls (op (p_asg rfl) rfl) ?_
      refine ln ?_
      refine nthen ?_
      refine cret ?_
      refine xret (fun _ _ h => h) ?_
      refine rret (is := []) () (Or.inl rfl) (Res.t rfl Res.d) (rfl) rfl (by repeat' (first | constructor | apply Sub.suf))
     ·
      intro h68
      obtain ⟨h68a, h68b⟩ : e2 = 0 ∧ b1 = true := by have h := h68; simp at h; exact h
      subst h68a
      subst h68b
      have hla := rebT_lns hra; have hlb := rebT_lns hrb
      obtain ⟨X, hX1, hX2⟩ := rebT_merge hso hgood hra hrb (rowT_runs hq1.symm) (rowT_runs hq2.symm)
      have hin3 := rowT_inv hin1 (rowT_ok hX1).symm
      have hft2 : Tfit X := inv_fit hin3 (by omega)
      refine cskip ?_
      refine nthen ?_
      refine cs ?_
      refine cr ?_
      refine ls (o_call (is := []) Tryz.call12 (c_alive05) rfl rfl (by repeat' (first | constructor | apply Sub.suf)) rfl) ?_
      refine le ?_; intro x70
      refine ls (op (p_move rfl) rfl) ?_
      refine lwant rfl rfl rfl rfl (op (p_move rfl) rfl) ?_
      refine lwant rfl rfl rfl rfl (op (p_move rfl) rfl) ?_
      refine lwant rfl rfl rfl rfl (o_call (is := [2, 2]) Tryz.call33 (c_seqApply p b T1 (omany l + lns ps) (l.length + ps.length) hin1 f A12 c12 hcap12 (by omega) hfa.1 (by omega) (by omega)) rfl rfl (by repeat' (first | constructor | apply Sub.suf)) rfl) ?_
      refine le ?_; rintro ⟨⟨T3, e3⟩, hq3⟩
      try dsimp only at hq3
      obtain ⟨rfl, rfl⟩ := Prod.mk.inj ((rowT_ok hX1).symm.trans hq3.symm)
      refine lwant rfl rfl rfl rfl (op (p_icmp rfl rfl rfl) rfl) ?_
      refine fixL (congrArg Value.bool (decide_eq_true rfl)) ?_
      refine ls (op (p_pickt rfl rfl) rfl) ?_
      refine ls (op (p_move rfl) rfl) ?_
      refine lwant rfl rfl rfl rfl (op (p_move rfl) rfl) ?_
      refine lwant rfl rfl rfl rfl (op (p_move rfl) rfl) ?_
      refine lwant rfl rfl rfl rfl (o_call (is := [2, 2]) Tryz.call33 (c_seqApply p4 b4 T2 (omany l + lns qs) (l.length + qs.length) hin2 s A13 c13 hcap13 (by omega) hfb.1 (by omega) (by omega)) rfl rfl (by repeat' (first | constructor | apply Sub.suf)) rfl) ?_
      refine le ?_; rintro ⟨⟨T4, e4⟩, hq4⟩
      try dsimp only at hq4
      obtain ⟨rfl, rfl⟩ := Prod.mk.inj ((rowT_ok hX2).symm.trans hq4.symm)
      refine lwant rfl rfl rfl rfl (op (p_icmp rfl rfl rfl) rfl) ?_
      refine fixL (congrArg Value.bool (decide_eq_true rfl)) ?_
      refine ls (op (p_pickt rfl rfl) rfl) ?_
      refine ls (op (p_move rfl) rfl) ?_
      refine lwant rfl rfl rfl rfl (op (p_move rfl) rfl) ?_
      refine lwant rfl rfl rfl rfl (op (p_move rfl) rfl) ?_
      refine lwant rfl rfl rfl rfl (o_call (is := [2, 2, 0, 0]) Tryz.call37 (c_tSame p b p4 b4 X X hft2) rfl rfl (by repeat' (first | constructor | apply Sub.suf)) rfl) ?_
      refine le ?_; intro x86
      refine fixL (congrArg Value.bool (decide_eq_true rfl)) ?_
      refine ls (op (p_pickt rfl rfl) rfl) ?_
      refine ls (op (p_asg rfl) rfl) ?_
      refine ln ?_
      refine nthen ?_
      refine cret ?_
      refine xret (fun _ _ h => h) ?_
      refine rret (is := []) () (Or.inl rfl) (Res.t rfl Res.d) (rfl) rfl (by repeat' (first | constructor | apply Sub.suf))

end Go.Proofs.YtheamdahngfpdaaGreatDoor.X
