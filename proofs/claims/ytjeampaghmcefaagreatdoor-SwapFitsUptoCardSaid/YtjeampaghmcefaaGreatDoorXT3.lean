/- OWN WORK: a part of the proof of a law of the seat YtjeampaghmcefaaGreatDoor: what the functions compute. -/
import Derived.Test.YtjeampaghmcefaaGreatDoorProg
import Derived.Test.YtjeampaghmcefaaGreatDoorXT2
import Derived.Test.YtjeampaghmcefaaGreatDoorXMp
section
set_option linter.unusedVariables false
set_option linter.unusedSimpArgs false
namespace Go.Proofs.YtjeampaghmcefaaGreatDoor.X
open Go Go.RowKit Go.Proofs Go.Sx
attribute [local irreducible] slA isA box row


set_option maxRecDepth 100000 in
theorem c_mEq (b d : Nat) (T U : List File) (hf : ∀ x ∈ T, x.2.length ≤ 2000000) : Con Tryz.prog 41 [.map (some b), .map (some d), .func (.func 42) #[] #[]] [tr b T, tr d U] [] Unit (fun _ => .bool (decide (T = U))) (fun _ => [tr b T, tr d U]) (fun _ => []) := by
 refine con Tryz.func41 rfl Tryz.ntmps41 rfl ?_
 intro M0 F0 w0
 refine cs ?_
 refine cr ?_
 refine ls (op (p_asg rfl) rfl) ?_
 refine ln ?_
 refine nthen ?_
 refine cs ?_
 refine cs ?_
 refine cr ?_
 refine ls (op (p_move rfl) rfl) ?_
 refine ls (o_lenm Tryz.underlying78 rfl (by repeat' constructor) rfl) ?_
 refine ls (op (p_move rfl) rfl) ?_
 refine ls (o_lenm Tryz.underlying78 rfl (by repeat' constructor) rfl) ?_
 refine ls (op (p_icmp rfl rfl rfl) rfl) ?_
 refine ln ?_
 refine nthen ?_
 refine cc rfl ?_ ?_
 ·
  intro h15
  have hne : ¬ T.length = U.length := by simp at h15; omega
  have hTU : ¬ T = U := fun e => hne (congrArg List.length e)
  refine cs ?_
  refine cr ?_
  refine ls (op (p_asg rfl) rfl) ?_
  refine ln ?_
  refine nthen ?_
  refine cret ?_
  refine xret (fun _ _ h => h) ?_
  refine rret (is := [0, 0]) () (Or.inl rfl) (Res.t rfl Res.d) ?_ rfl (by repeat' (first | constructor | apply Sub.suf))
  simp [packV, hTU]
 ·
  intro h15
  have hlen : T.length = U.length := by simp at h15; omega
  refine cskip ?_
  refine nthen ?_
  refine cs ?_
  refine cs ?_
  refine cr ?_
  refine ls (op (p_move rfl) rfl) ?_
  refine ls (o_mrange (i := 0) Tryz.underlying78 rfl rfl rfl) ?_
  refine le ?_; intro r17
  refine ln ?_
  refine nthen ?_
  refine cb ?_
  refine cl (ι := {K : List File // ∀ x ∈ K, getT U x.1 = some x.2}) (fun i => St M0 F0 w0 38 [(1, .map (some d)), (2, .func (.func 42) #[] #[]), (17, .pointer (some ⟨r17, 0, none⟩))] [mit b r17 T i.1, tr d U] []) (fun i => T.length - (i.1).length) ⟨[], fun _ h => by cases h⟩ (wk (is := [0, 0]) (by repeat (first | exact subσ.nil _ | refine subσ.cons rfl ?_)) rfl (by repeat' (first | constructor | apply Sub.suf))) ?_
  rintro ⟨K, hKU⟩
  refine cmono (S' := St M0 F0 w0 38 [(1, .map (some d)), (2, .func (.func 42) #[] #[]), (17, .pointer (some ⟨r17, 0, none⟩))] [mit b r17 T K, tr d U] []) (fun _ _ h => h) ?_
  refine cs ?_
  try dsimp only at hKU
  refine cpure (St.mit (by repeat' constructor)) ?_
  rintro ⟨hso, hKn, hKT⟩
  refine cpure (St.tr (b := d) (by repeat' constructor)) ?_
  intro hsu
  rcases Classical.em (∃ x ∈ T, x ∉ K) with hK | hK
  ·
   have hlt := nodup_lt hKn hKT hK
   refine cr ?_
   refine ls (o_mnextS (i := 0) rfl rfl hK rfl) ?_
   refine le ?_; rintro ⟨⟨⟨k, l⟩, y⟩, hxT, hxK⟩
   refine ls (op (p_ext rfl (by repeat' constructor)) rfl) ?_
   refine ln ?_
   refine nthen ?_
   refine cs ?_
   refine cc rfl (fun h => ?_) (fun h => by cases h)
   refine cskip ?_
   refine nthen ?_
   refine cb ?_
   refine cs ?_
   refine cr ?_
   refine ls (o_mentry rfl (by repeat' constructor) rfl) ?_
   refine le ?_; rintro y20
   refine ls (op (p_ext rfl (by repeat' constructor)) rfl) ?_
   refine ls (op (p_ext rfl (by repeat' constructor)) rfl) ?_
   refine ls (op (p_asg rfl) rfl) ?_
   refine ls (op (p_asg rfl) rfl) ?_
   refine ln ?_
   refine nthen ?_
   refine cs ?_
   refine cr ?_
   refine ls (op (p_move rfl) rfl) ?_
   refine ls (op (p_move rfl) rfl) ?_
   refine ls (o_look Tryz.underlying78 Tryz.underlying9 Tryz.zeroValue23 rfl rfl (by repeat' constructor) rfl) ?_
   refine le ?_; rintro y26
   refine ls (op (p_move rfl) rfl) ?_
   refine ls (op (p_ext rfl (by repeat' constructor)) rfl) ?_
   refine ls (op (p_ext rfl (by repeat' constructor)) rfl) ?_
   refine ls (op (p_asg rfl) rfl) ?_
   refine ls (op (p_asg rfl) rfl) ?_
   refine ln ?_
   refine nthen ?_
   refine cs ?_
   refine cr ?_
   refine ls (op (p_move rfl) rfl) ?_
   refine ls (op (p_not rfl) rfl) ?_
   refine ls (op (p_move rfl) rfl) ?_
   refine splitL 31 rfl ?_ ?_
   ·
    intro h31
    have hTU : ¬ T = U := ne_of_one hso hxT (by have h := h31; simp only [Bool.not_eq_true'] at h; unfold hasT at h; dsimp only at h ⊢; intro e; rw [e] at h; cases h)
    refine lskip rfl rfl rfl rfl rfl ?_
    refine lskip rfl rfl rfl rfl rfl ?_
    refine lskip rfl rfl rfl rfl rfl ?_
    refine lskip rfl rfl rfl rfl rfl ?_
    refine lskip rfl rfl rfl rfl rfl ?_
    refine ls (op (p_pickt rfl rfl) rfl) ?_
    refine ln ?_
    refine nthen ?_
    refine cc rfl (fun h => ?_) (fun h => by cases h)
    refine cs ?_
    refine cr ?_
    refine ls (op (p_asg rfl) rfl) ?_
    refine ln ?_
    refine nthen ?_
    refine cret ?_
    refine xret (fun _ _ h => h) ?_
    refine nmono (conv (i := 0) rfl mit_tr) ?_
    refine rret (is := [0, 0]) () (Or.inl rfl) (Res.t rfl Res.d) ?_ rfl (by repeat' (first | constructor | apply Sub.suf))
    simp [packV, hTU]
   ·
    intro h31
    have hhas : hasT U k = true := by have h := h31; simp only [Bool.not_eq_false'] at h; exact h
    obtain ⟨lv, hlv⟩ := Option.isSome_iff_exists.1 hhas
    have hgl : getL U k = lv := by simp [getL, hlv]
    refine lwant rfl rfl rfl rfl (op (p_move rfl) rfl) ?_
    refine lwant rfl rfl rfl rfl (op (p_move rfl) rfl) ?_
    refine lwant rfl rfl rfl rfl (op (p_move rfl) rfl) ?_
    refine lwant rfl rfl rfl rfl (o_callv (is := []) rfl Tryz.call42 (c_lineSame l (getL U k) _ _ _ _ (hf _ hxT)) rfl rfl rfl (by repeat' (first | constructor | apply Sub.suf)) rfl) ?_
    refine le ?_; intro x35
    refine lwant rfl rfl rfl rfl (op (p_not rfl) rfl) ?_
    refine ls (op (p_pickf rfl rfl) rfl) ?_
    refine ln ?_
    refine nthen ?_
    refine cc rfl ?_ ?_
    ·
     intro h37
     have hlk : ¬ l = getL U k := by simpa using h37
     have hTU : ¬ T = U := ne_of_one hso hxT (by dsimp only; rw [hlv]; intro e; injection e with e; exact hlk (by rw [hgl, e]))
     refine cs ?_
     refine cr ?_
     refine ls (op (p_asg rfl) rfl) ?_
     refine ln ?_
     refine nthen ?_
     refine cret ?_
     refine xret (fun _ _ h => h) ?_
     refine nmono (conv (i := 0) rfl mit_tr) ?_
     refine rret (is := [0, 0]) () (Or.inl rfl) (Res.t rfl Res.d) ?_ rfl (by repeat' (first | constructor | apply Sub.suf))
     simp [packV, hTU]
    ·
     intro h37
     have hlk : l = getL U k := by simpa using h37
     refine cskip ?_
     refine nblock ?_
     refine nnext ⟨K ++ [(k, l)], fun x hx => by rcases List.mem_append.1 hx with hx | hx; exact hKU x hx; rw [List.mem_singleton.1 hx]; dsimp only; rw [hlv, hlk, hgl]⟩ (by dsimp only; simp; omega) (wk (is := [0, 0]) (by repeat (first | exact subσ.nil _ | refine subσ.cons rfl ?_)) rfl (by repeat' (first | constructor | apply Sub.suf)))
  ·
   have hTU : T = U := eq_of_all hso hsu hlen fun x hx => hKU x (Classical.byContradiction fun h => hK ⟨x, hx, h⟩)
   refine cr ?_
   refine ls (o_mnextN rfl (by repeat' constructor) hK rfl) ?_
   refine ls (op (p_ext rfl (by repeat' constructor)) rfl) ?_
   refine ln ?_
   refine nthen ?_
   refine cs ?_
   refine cc rfl (fun h => by cases h) (fun h => ?_)
   refine cexit ?_
   refine xthen ?_
   refine xthen ?_
   refine xblock ?_
   refine nthen ?_
   refine cs ?_
   refine cr ?_
   refine ls (op (p_asg rfl) rfl) ?_
   refine ln ?_
   refine nthen ?_
   refine cret ?_
   refine xret (fun _ _ h => h) ?_
   refine nmono (conv (i := 0) rfl mit_tr) ?_
   refine rret (is := [0, 0]) () (Or.inl rfl) (Res.t rfl Res.d) ?_ rfl (by repeat' (first | constructor | apply Sub.suf))
   simp [packV, hTU]

set_option maxRecDepth 100000 in
theorem c_tSame (p b q d : Nat) (T U : List File) (hf : ∀ x ∈ T, x.2.length ≤ 2000000) : Con Tryz.prog 13 [.pointer (some ⟨p, 0, none⟩), .pointer (some ⟨q, 0, none⟩)] [box p 81 [.map (some b)], tr b T, box q 81 [.map (some d)], tr d U] [] Unit (fun _ => .bool (decide (T = U))) (fun _ => [box p 81 [.map (some b)], tr b T, box q 81 [.map (some d)], tr d U]) (fun _ => []) := by
 refine con Tryz.func13 rfl Tryz.ntmps13 rfl ?_
 intro M0 F0 w0
 refine cs ?_
 refine cr ?_
 refine ls (op (p_asg rfl) rfl) ?_
 refine ln ?_
 refine nthen ?_
 refine cs ?_
 refine cd [8] [(3, p, 0, _), (7, q, 0, _)] TryzX.mixed (TOk.t (isBoxS (by repeat' constructor) (k := 1) (by repeat (first | exact Cut.d | apply Cut.t | apply Cut.s))) (TOk.t (isBoxS (by repeat' constructor) (k := 1) (by repeat (first | exact Cut.d | apply Cut.t | apply Cut.s))) TOk.d)) ?_
 refine tk 0 rfl (by kernel_rfl) (fun _ _ _ h => h) gnone (TTany _) (p_move rfl) rfl ?_
 refine tk 1 rfl (by kernel_rfl) (fun _ _ _ h => h) gnone (TTany _) (p_nilck rfl) rfl ?_
 refine tk 2 rfl (by kernel_rfl) (fun _ _ _ h => h) gnone (TTany _) (p_fa fa81_0 rfl) rfl ?_
 refine tk 3 rfl (by kernel_rfl) (fun _ _ _ h => h) gnone (TTat (List.Mem.head _)) (p_ld Tryz.isAgg78 rfl) rfl ?_
 refine tk 4 rfl (by kernel_rfl) (fun _ _ _ h => h) gnone (TTany _) (p_move rfl) rfl ?_
 refine tk 5 rfl (by kernel_rfl) (fun _ _ _ h => h) gnone (TTany _) (p_nilck rfl) rfl ?_
 refine tk 6 rfl (by kernel_rfl) (fun _ _ _ h => h) gnone (TTany _) (p_fa fa81_0 rfl) rfl ?_
 refine tk 7 rfl (by kernel_rfl) (fun _ _ _ h => h) gnone (TTat (List.Mem.tail _ (List.Mem.head _))) (p_ld Tryz.isAgg78 rfl) rfl ?_
 refine df 8 (by kernel_rfl) ?_
 refine doR rfl (o_call (is := [1, 2]) Tryz.call41 (c_mEq b d T U hf) rfl rfl (by repeat' (first | constructor | apply Sub.suf)) rfl) (TOk.x (by kernel_rfl) (TOk.x (by kernel_rfl) TOk.d)) ?_
 refine ea ?_; intro x13
 refine tk 9 rfl (by kernel_rfl) (fun _ _ _ h => h) gnone (TTany _) (p_asg rfl) rfl ?_
 refine dn (by kernel_rfl) ?_
 refine nthen ?_
 refine cret ?_
 refine xret (fun _ _ h => h) ?_
 refine rret (is := [2, 0, 1, 0]) () (Or.inl rfl) (Res.t rfl Res.d) (rfl) rfl (by repeat' (first | constructor | apply Sub.suf))

end Go.Proofs.YtjeampaghmcefaaGreatDoor.X

end
section
set_option linter.unusedVariables false
set_option linter.unusedSimpArgs false
namespace Go.Proofs.YtjeampaghmcefaaGreatDoor.X
open Go Go.RowKit Go.Proofs Go.Sx
attribute [local irreducible] slA isA box row



end Go.Proofs.YtjeampaghmcefaaGreatDoor.X

end
section
set_option linter.unusedVariables false
set_option linter.unusedSimpArgs false
namespace Go.Proofs.YtjeampaghmcefaaGreatDoor.X
open Go Go.RowKit Go.Proofs Go.Sx
attribute [local irreducible] slA isA box row


theorem inf9x : ∃ i0, Tryz.prog.info? 9 = some i0 := by
 obtain ⟨i0, h, _⟩ := info_parts inf9
 exact ⟨i0, h⟩

set_option maxRecDepth 100000 in
theorem c_lineStands (l part : List ByteArray) (A B : Option Addr) (c c' : Nat) (z : Int) (hl : l.length ≤ 2000000) (hp : part.length ≤ 2000000) (hc : l.length ≤ c) : Con Tryz.prog 105 [.slice A l.length c, .int .i64 z, .slice B part.length c'] [] [slA A l, slA B part] Unit (fun _ => .bool (standsB l z part)) (fun _ => []) (fun _ => []) := by
 refine con Tryz.func105 rfl Tryz.ntmps105 rfl ?_
 intro M0 F0 w0
 refine cs ?_
 refine cr ?_
 refine ls (op (p_asg rfl) rfl) ?_
 refine ln ?_
 refine nthen ?_
 refine cs ?_
 rcases stands_cases l z part with h1 | ⟨h1, h2⟩ | ⟨h1, h2, h3⟩ | ⟨k, rfl, h4⟩
 ·
  refine cr ?_
  refine ls (op (p_move rfl) rfl) ?_
  refine ls (op (p_icmp rfl rfl rfl) rfl) ?_
  refine fixL (congrArg Value.bool (decide_eq_false h1)) ?_
  refine ls (op (p_move rfl) rfl) ?_
  refine lskip rfl rfl rfl rfl rfl ?_
  refine lskip rfl rfl rfl rfl rfl ?_
  refine lskip rfl rfl rfl rfl rfl ?_
  refine lskip rfl rfl rfl rfl rfl ?_
  refine ls (op (p_pickf rfl rfl) rfl) ?_
  refine ls (op (p_move rfl) rfl) ?_
  refine lskip rfl rfl rfl rfl rfl ?_
  refine lskip rfl rfl rfl rfl rfl ?_
  refine lskip rfl rfl rfl rfl rfl ?_
  refine lskip rfl rfl rfl rfl rfl ?_
  refine lskip rfl rfl rfl rfl rfl ?_
  refine lskip rfl rfl rfl rfl rfl ?_
  refine lskip rfl rfl rfl rfl rfl ?_
  refine ls (op (p_pickf rfl rfl) rfl) ?_
  refine ls (op (p_move rfl) rfl) ?_
  refine lskip rfl rfl rfl rfl rfl ?_
  refine lskip rfl rfl rfl rfl rfl ?_
  refine lskip rfl rfl rfl rfl rfl ?_
  refine lskip rfl rfl rfl rfl rfl ?_
  refine lskip rfl rfl rfl rfl rfl ?_
  refine lskip rfl rfl rfl rfl rfl ?_
  refine lskip rfl rfl rfl rfl rfl ?_
  refine lskip rfl rfl rfl rfl rfl ?_
  refine lskip rfl rfl rfl rfl rfl ?_
  refine ls (op (p_pickf rfl rfl) rfl) ?_
  refine ls (op (p_asg rfl) rfl) ?_
  refine ln ?_
  refine nthen ?_
  refine cret ?_
  refine xret (fun _ _ h => h) ?_
  refine rret (is := []) () (Or.inl rfl) (Res.t rfl Res.d) ?_ rfl (by repeat' (first | constructor | apply Sub.suf))
  simp [packV, standsB, h1]
 ·
  refine cr ?_
  refine ls (op (p_move rfl) rfl) ?_
  refine ls (op (p_icmp rfl rfl rfl) rfl) ?_
  refine fixL (congrArg Value.bool (decide_eq_true h1)) ?_
  refine ls (op (p_move rfl) rfl) ?_
  refine lwant rfl rfl rfl rfl (op (p_move rfl) rfl) ?_
  refine lwant rfl rfl rfl rfl (op (p_move rfl) rfl) ?_
  refine lwant rfl rfl rfl rfl (op (p_lenl rfl Tryz.underlying23) rfl) ?_
  refine lwant rfl rfl rfl rfl (op (p_icmp rfl rfl rfl) rfl) ?_
  refine fixL (congrArg Value.bool (decide_eq_false h2)) ?_
  refine ls (op (p_pickt rfl rfl) rfl) ?_
  refine ls (op (p_move rfl) rfl) ?_
  refine lskip rfl rfl rfl rfl rfl ?_
  refine lskip rfl rfl rfl rfl rfl ?_
  refine lskip rfl rfl rfl rfl rfl ?_
  refine lskip rfl rfl rfl rfl rfl ?_
  refine lskip rfl rfl rfl rfl rfl ?_
  refine lskip rfl rfl rfl rfl rfl ?_
  refine lskip rfl rfl rfl rfl rfl ?_
  refine ls (op (p_pickf rfl rfl) rfl) ?_
  refine ls (op (p_move rfl) rfl) ?_
  refine lskip rfl rfl rfl rfl rfl ?_
  refine lskip rfl rfl rfl rfl rfl ?_
  refine lskip rfl rfl rfl rfl rfl ?_
  refine lskip rfl rfl rfl rfl rfl ?_
  refine lskip rfl rfl rfl rfl rfl ?_
  refine lskip rfl rfl rfl rfl rfl ?_
  refine lskip rfl rfl rfl rfl rfl ?_
  refine lskip rfl rfl rfl rfl rfl ?_
  refine lskip rfl rfl rfl rfl rfl ?_
  refine ls (op (p_pickf rfl rfl) rfl) ?_
  refine ls (op (p_asg rfl) rfl) ?_
  refine ln ?_
  refine nthen ?_
  refine cret ?_
  refine xret (fun _ _ h => h) ?_
  refine rret (is := []) () (Or.inl rfl) (Res.t rfl Res.d) ?_ rfl (by repeat' (first | constructor | apply Sub.suf))
  simp [packV, standsB, h2]
 ·
  refine cr ?_
  refine ls (op (p_move rfl) rfl) ?_
  refine ls (op (p_icmp rfl rfl rfl) rfl) ?_
  refine fixL (congrArg Value.bool (decide_eq_true h1)) ?_
  refine ls (op (p_move rfl) rfl) ?_
  refine lwant rfl rfl rfl rfl (op (p_move rfl) rfl) ?_
  refine lwant rfl rfl rfl rfl (op (p_move rfl) rfl) ?_
  refine lwant rfl rfl rfl rfl (op (p_lenl rfl Tryz.underlying23) rfl) ?_
  refine lwant rfl rfl rfl rfl (op (p_icmp rfl rfl rfl) rfl) ?_
  refine fixL (congrArg Value.bool (decide_eq_true h2)) ?_
  refine ls (op (p_pickt rfl rfl) rfl) ?_
  refine ls (op (p_move rfl) rfl) ?_
  refine lwant rfl rfl rfl rfl (op (p_move rfl) rfl) ?_
  refine lwant rfl rfl rfl rfl (op (p_lenl rfl Tryz.underlying23) rfl) ?_
  refine lwant rfl rfl rfl rfl (op (p_move rfl) rfl) ?_
  refine lwant rfl rfl rfl rfl (op (p_lenl rfl Tryz.underlying23) rfl) ?_
  refine lwant rfl rfl rfl rfl (op (p_move rfl) rfl) ?_
  refine lwant rfl rfl rfl rfl (op (p_sub rfl rfl (by omega)) rfl) ?_
  refine lwant rfl rfl rfl rfl (op (p_icmp rfl rfl rfl) rfl) ?_
  refine fixL (congrArg Value.bool (decide_eq_false h3)) ?_
  refine ls (op (p_pickt rfl rfl) rfl) ?_
  refine ls (op (p_move rfl) rfl) ?_
  refine lskip rfl rfl rfl rfl rfl ?_
  refine lskip rfl rfl rfl rfl rfl ?_
  refine lskip rfl rfl rfl rfl rfl ?_
  refine lskip rfl rfl rfl rfl rfl ?_
  refine lskip rfl rfl rfl rfl rfl ?_
  refine lskip rfl rfl rfl rfl rfl ?_
  refine lskip rfl rfl rfl rfl rfl ?_
  refine lskip rfl rfl rfl rfl rfl ?_
  refine lskip rfl rfl rfl rfl rfl ?_
  refine ls (op (p_pickf rfl rfl) rfl) ?_
  refine ls (op (p_asg rfl) rfl) ?_
  refine ln ?_
  refine nthen ?_
  refine cret ?_
  refine xret (fun _ _ h => h) ?_
  refine rret (is := []) () (Or.inl rfl) (Res.t rfl Res.d) ?_ rfl (by repeat' (first | constructor | apply Sub.suf))
  simp only [packV, standsB]; rw [decide_eq_false h3]; simp
 ·
  refine cmono (fun a w h => subS (l' := (l.drop k).take part.length) (c := c) k (k + part.length) (by repeat (first | exact In.z | apply In.s)) (by omega) (by omega) hc (by simp) h) ?_
  refine cr ?_
  refine ls (op (p_move rfl) rfl) ?_
  refine ls (op (p_icmp rfl rfl rfl) rfl) ?_
  refine fixL (congrArg Value.bool (decide_eq_true (by omega))) ?_
  refine ls (op (p_move rfl) rfl) ?_
  refine lwant rfl rfl rfl rfl (op (p_move rfl) rfl) ?_
  refine lwant rfl rfl rfl rfl (op (p_move rfl) rfl) ?_
  refine lwant rfl rfl rfl rfl (op (p_lenl rfl Tryz.underlying23) rfl) ?_
  refine lwant rfl rfl rfl rfl (op (p_icmp rfl rfl rfl) rfl) ?_
  refine fixL (congrArg Value.bool (decide_eq_true (by omega))) ?_
  refine ls (op (p_pickt rfl rfl) rfl) ?_
  refine ls (op (p_move rfl) rfl) ?_
  refine lwant rfl rfl rfl rfl (op (p_move rfl) rfl) ?_
  refine lwant rfl rfl rfl rfl (op (p_lenl rfl Tryz.underlying23) rfl) ?_
  refine lwant rfl rfl rfl rfl (op (p_move rfl) rfl) ?_
  refine lwant rfl rfl rfl rfl (op (p_lenl rfl Tryz.underlying23) rfl) ?_
  refine lwant rfl rfl rfl rfl (op (p_move rfl) rfl) ?_
  refine lwant rfl rfl rfl rfl (op (p_sub rfl rfl (by omega)) rfl) ?_
  refine lwant rfl rfl rfl rfl (op (p_icmp rfl rfl rfl) rfl) ?_
  refine fixL (congrArg Value.bool (decide_eq_true (by omega))) ?_
  refine ls (op (p_pickt rfl rfl) rfl) ?_
  refine ls (op (p_move rfl) rfl) ?_
  refine lwant rfl rfl rfl rfl (op (p_move rfl) rfl) ?_
  refine lwant rfl rfl rfl rfl (op (p_move rfl) rfl) ?_
  refine lwant rfl rfl rfl rfl (op (p_move rfl) rfl) ?_
  refine lwant rfl rfl rfl rfl (op (p_move rfl) rfl) ?_
  refine lwant rfl rfl rfl rfl (op (p_lenl rfl Tryz.underlying23) rfl) ?_
  refine lwant rfl rfl rfl rfl (op (p_add rfl rfl (by omega)) rfl) ?_
  refine lwant rfl rfl rfl rfl (op (p_sl k (k + part.length) (by omega) (by omega) rfl (by omega) Tryz.underlying23 Tryz.sizeOf9 rfl rfl rfl) rfl) ?_
  refine fixL (slen (m' := ((l.drop k).take part.length).length) (by rw [List.length_take, List.length_drop]; omega)) ?_
  refine lwant rfl rfl rfl rfl (op (p_move rfl) rfl) ?_
  refine lwant rfl rfl rfl rfl (o_call (is := []) Tryz.call42 (c_lineSame ((l.drop k).take part.length) part _ _ _ _ (by rw [List.length_take]; omega)) rfl rfl (by repeat' (first | constructor | apply Sub.suf)) rfl) ?_
  refine le ?_; intro x33
  refine ls (op (p_pickt rfl rfl) rfl) ?_
  refine ls (op (p_asg rfl) rfl) ?_
  refine ln ?_
  refine nthen ?_
  refine cret ?_
  refine xret (fun _ _ h => h) ?_
  refine rret (is := []) () (Or.inl rfl) (Res.t rfl Res.d) ?_ rfl (by repeat' (first | constructor | apply Sub.suf))
  rw [standsB_nat h4]; rfl

set_option maxRecDepth 100000 in
theorem c_lineSplice (l old wi : List ByteArray) (A B C : Option Addr) (c c' c2 : Nat) (z : Int) (hl : l.length ≤ 2000000) (ho : old.length ≤ 2000000) (hw : l.length + wi.length ≤ 2000000) (hc : l.length ≤ c) : Con Tryz.prog 80 [.slice A l.length c, .int .i64 z, .slice B old.length c', .slice C wi.length c2] [] [slA A l, slA B old, slA C wi] (Option Addr × Nat) (fun y => .tuple #[.slice y.1 (splT l z old wi).length y.2, .bool (standsB l z old)]) (fun y => [row 9 y.1 y.2 (splT l z old wi)]) (fun _ => []) := by
 refine con Tryz.func80 rfl Tryz.ntmps80 rfl ?_
 intro M0 F0 w0
 refine cs ?_
 refine cr ?_
 refine ls (op (p_asg rfl) rfl) ?_
 refine ls (op (p_asg rfl) rfl) ?_
 refine ln ?_
 refine nthen ?_
 refine cs ?_
 refine cs ?_
 refine cr ?_
 refine ls (op (p_move rfl) rfl) ?_
 refine ls (op (p_move rfl) rfl) ?_
 refine ls (op (p_move rfl) rfl) ?_
 refine ls (o_call (is := []) Tryz.call105 (c_lineStands l old A B c c' z hl ho hc) rfl rfl (by repeat' (first | constructor | apply Sub.suf)) rfl) ?_
 refine le ?_; intro x13
 refine ls (op (p_not rfl) rfl) ?_
 refine ln ?_
 refine nthen ?_
 refine cc rfl ?_ ?_
 ·
  intro h14
  have hst : standsB l z old = false := by simpa using h14
  have hsp : splT l z old wi = [] := by simp [splT, hst]
  rw [hsp, hst]
  refine cmono (fun a w h => nilRow (α := ByteArray) 9 h) ?_
  refine cs ?_
  refine cr ?_
  refine ls (op (p_asg rfl) rfl) ?_
  refine ls (op (p_asg rfl) rfl) ?_
  refine ln ?_
  refine nthen ?_
  refine cret ?_
  refine xret (fun _ _ h => h) ?_
  refine rret (is := [0]) (none, 0) (Or.inl rfl) (Res.t rfl (Res.t rfl Res.d)) (rfl) rfl (by repeat' (first | constructor | apply Sub.suf))
 ·
  intro h14
  have hst : standsB l z old = true := by simpa using h14
  obtain ⟨k, rfl, hko, _⟩ := standsB_yes hst
  have hsp : splT l (k : Int) old wi = l.take k ++ wi ++ l.drop (k + old.length) := by unfold splT; rw [if_pos hst]; rfl
  rw [hsp, hst]
  have hlk : (l.take k).length = k := by rw [List.length_take]; omega
  have hld : (l.drop (k + old.length)).length = l.length - (k + old.length) := List.length_drop
  refine cskip ?_
  refine nthen ?_
  refine cs ?_
  refine cmono (fun a w h => subP (α := ByteArray) k (by repeat (first | exact In.z | apply In.s)) (by omega) h) ?_
  refine cmono (fun a w h => subS (l' := l.drop (k + old.length)) (c := c) (k + old.length) l.length (by repeat (first | exact In.z | apply In.s)) (by omega) (Nat.le_refl _) hc (by rw [List.take_of_length_le (by simp)]) h) ?_
  rcases emem (wi = []) (l.drop (k + old.length) = []) with ⟨hwi, hdr⟩ | ⟨hwi, hdr⟩ | hwi
  ·
   have hR : l.take k ++ wi ++ l.drop (k + old.length) = l.take k := by rw [hwi, hdr]; simp
   have hw0 : wi.length = 0 := by rw [hwi]; rfl
   have hd0 : l.length - (k + old.length) = 0 := by rw [← hld, hdr]; rfl
   refine cd [5, 12, 13] [] TryzX.mixed TOk.d ?_
   refine tk 0 rfl (by kernel_rfl) (fun _ _ _ h => h) gnone (TTany _) (p_move rfl) rfl ?_
   refine tk 1 rfl (by kernel_rfl) (fun _ _ _ h => h) gnone (TTany _) (p_move rfl) rfl ?_
   refine tk 2 rfl (by kernel_rfl) (fun _ _ _ h => h) gnone (TTany _) (p_move rfl) rfl ?_
   refine tk 3 rfl (by kernel_rfl) (fun _ _ _ h => h) gnone (TTany _) (p_slm k k (Nat.le_refl _) (by omega) rfl rfl Tryz.underlying23 Tryz.sizeOf9 rfl rfl rfl) rfl ?_
   refine fixA (slen2 (m' := (l.take k).length) (c' := (l.take k).length) (by omega) (by omega)) ?_
   refine tk 4 rfl (by kernel_rfl) (fun _ _ _ h => h) gnone (TTany _) (p_move rfl) rfl ?_
   refine fixA (slen (m' := 0) hw0) ?_
   refine tk 6 rfl (by kernel_rfl) (fun _ _ _ h => h) gnone (TTany _) (p_move rfl) rfl ?_
   refine tk 7 rfl (by kernel_rfl) (fun _ _ _ h => h) gnone (TTany _) (p_move rfl) rfl ?_
   refine tk 8 rfl (by kernel_rfl) (fun _ _ _ h => h) gnone (TTany _) (p_move rfl) rfl ?_
   refine tk 9 rfl (by kernel_rfl) (fun _ _ _ h => h) gnone (TTany _) (p_lenl rfl Tryz.underlying23) rfl ?_
   refine tk 10 rfl (by kernel_rfl) (fun _ _ _ h => h) gnone (TTany _) (p_add rfl rfl (by omega)) rfl ?_
   refine tk 11 rfl (by kernel_rfl) (fun _ _ _ h => h) gnone (TTany _) (p_sll (k + old.length) (by omega) (by omega) (by omega) Tryz.underlying23 Tryz.sizeOf9 rfl rfl) rfl ?_
   refine fixA (slen (m' := 0) (by omega)) ?_
   refine df 5 (by kernel_rfl) ?_
   refine doR rfl (op (p_app0 Tryz.underlying23 inf9x (Nat.le_refl _) rfl rfl) rfl) TOk.d ?_
   refine df 12 (by kernel_rfl) ?_
   refine doR rfl (op (p_app0 Tryz.underlying23 inf9x (Nat.le_refl _) rfl rfl) rfl) TOk.d ?_
   refine df 13 (by kernel_rfl) ?_
   refine doR rfl (o_call (is := []) Tryz.call84 (c_sCloneR (l.take k) _ _ (by omega)) rfl rfl (by repeat' (first | constructor | apply Sub.suf)) rfl) TOk.d ?_
   refine ea ?_; rintro ⟨A5, c5⟩
   refine tk 14 rfl (by kernel_rfl) (fun _ _ _ h => h) gnone (TTany _) (p_asg rfl) rfl ?_
   refine tk 15 rfl (by kernel_rfl) (fun _ _ _ h => h) gnone (TTany _) (p_asg rfl) rfl ?_
   refine dn (by kernel_rfl) ?_
   refine nthen ?_
   refine cret ?_
   refine xret (fun _ _ h => h) ?_
   rw [hR]
   refine rret (is := [0]) (A5, c5) (Or.inl rfl) (Res.t rfl (Res.t rfl Res.d)) (rfl) rfl (by repeat' (first | constructor | apply Sub.suf))
  ·
   have hR : l.take k ++ wi ++ l.drop (k + old.length) = l.take k ++ l.drop (k + old.length) := by rw [hwi]; simp
   have hw0 : wi.length = 0 := by rw [hwi]; rfl
   refine cd [5, 12, 13] [] TryzX.mixed TOk.d ?_
   refine tk 0 rfl (by kernel_rfl) (fun _ _ _ h => h) gnone (TTany _) (p_move rfl) rfl ?_
   refine tk 1 rfl (by kernel_rfl) (fun _ _ _ h => h) gnone (TTany _) (p_move rfl) rfl ?_
   refine tk 2 rfl (by kernel_rfl) (fun _ _ _ h => h) gnone (TTany _) (p_move rfl) rfl ?_
   refine tk 3 rfl (by kernel_rfl) (fun _ _ _ h => h) gnone (TTany _) (p_slm k k (Nat.le_refl _) (by omega) rfl rfl Tryz.underlying23 Tryz.sizeOf9 rfl rfl rfl) rfl ?_
   refine fixA (slen2 (m' := (l.take k).length) (c' := (l.take k).length) (by omega) (by omega)) ?_
   refine tk 4 rfl (by kernel_rfl) (fun _ _ _ h => h) gnone (TTany _) (p_move rfl) rfl ?_
   refine fixA (slen (m' := 0) hw0) ?_
   refine tk 6 rfl (by kernel_rfl) (fun _ _ _ h => h) gnone (TTany _) (p_move rfl) rfl ?_
   refine tk 7 rfl (by kernel_rfl) (fun _ _ _ h => h) gnone (TTany _) (p_move rfl) rfl ?_
   refine tk 8 rfl (by kernel_rfl) (fun _ _ _ h => h) gnone (TTany _) (p_move rfl) rfl ?_
   refine tk 9 rfl (by kernel_rfl) (fun _ _ _ h => h) gnone (TTany _) (p_lenl rfl Tryz.underlying23) rfl ?_
   refine tk 10 rfl (by kernel_rfl) (fun _ _ _ h => h) gnone (TTany _) (p_add rfl rfl (by omega)) rfl ?_
   refine tk 11 rfl (by kernel_rfl) (fun _ _ _ h => h) gnone (TTany _) (p_sll (k + old.length) (by omega) (by omega) (by omega) Tryz.underlying23 Tryz.sizeOf9 rfl rfl) rfl ?_
   refine fixA (slen (m' := (l.drop (k + old.length)).length) (by omega)) ?_
   refine df 5 (by kernel_rfl) ?_
   refine doR rfl (op (p_app0 Tryz.underlying23 inf9x (Nat.le_refl _) rfl rfl) rfl) TOk.d ?_
   refine df 12 (by kernel_rfl) ?_
   refine doR rfl (o_appF Tryz.underlying23 inf9 rfl (by decide) (by decide) rfl rfl rfl (by rw [hlk, hld]; omega) hdr (by repeat' (first | constructor | apply Sub.suf)) rfl) TOk.d ?_
   refine ea ?_; rintro ⟨A4, c4⟩
   refine amono (fun a w h => Go.Sx.freeze (i := 0) rfl h) ?_
   refine df 13 (by kernel_rfl) ?_
   refine doR rfl (o_call (is := []) Tryz.call84 (c_sCloneR (l.take k ++ l.drop (k + old.length)) A4 c4 (by rw [List.length_append]; omega)) rfl rfl (by repeat' (first | constructor | apply Sub.suf)) rfl) TOk.d ?_
   refine ea ?_; rintro ⟨A5, c5⟩
   refine tk 14 rfl (by kernel_rfl) (fun _ _ _ h => h) gnone (TTany _) (p_asg rfl) rfl ?_
   refine tk 15 rfl (by kernel_rfl) (fun _ _ _ h => h) gnone (TTany _) (p_asg rfl) rfl ?_
   refine dn (by kernel_rfl) ?_
   refine nthen ?_
   refine cret ?_
   refine xret (fun _ _ h => h) ?_
   rw [hR]
   refine rret (is := [0]) (A5, c5) (Or.inl rfl) (Res.t rfl (Res.t rfl Res.d)) (rfl) rfl (by repeat' (first | constructor | apply Sub.suf))
  ·
   have hR : l.take k ++ wi ++ l.drop (k + old.length) = l.take k ++ wi ++ l.drop (k + old.length) := rfl
   refine cd [5, 12, 13] [] TryzX.mixed TOk.d ?_
   refine tk 0 rfl (by kernel_rfl) (fun _ _ _ h => h) gnone (TTany _) (p_move rfl) rfl ?_
   refine tk 1 rfl (by kernel_rfl) (fun _ _ _ h => h) gnone (TTany _) (p_move rfl) rfl ?_
   refine tk 2 rfl (by kernel_rfl) (fun _ _ _ h => h) gnone (TTany _) (p_move rfl) rfl ?_
   refine tk 3 rfl (by kernel_rfl) (fun _ _ _ h => h) gnone (TTany _) (p_slm k k (Nat.le_refl _) (by omega) rfl rfl Tryz.underlying23 Tryz.sizeOf9 rfl rfl rfl) rfl ?_
   refine fixA (slen2 (m' := (l.take k).length) (c' := (l.take k).length) (by omega) (by omega)) ?_
   refine tk 4 rfl (by kernel_rfl) (fun _ _ _ h => h) gnone (TTany _) (p_move rfl) rfl ?_
   skip
   refine tk 6 rfl (by kernel_rfl) (fun _ _ _ h => h) gnone (TTany _) (p_move rfl) rfl ?_
   refine tk 7 rfl (by kernel_rfl) (fun _ _ _ h => h) gnone (TTany _) (p_move rfl) rfl ?_
   refine tk 8 rfl (by kernel_rfl) (fun _ _ _ h => h) gnone (TTany _) (p_move rfl) rfl ?_
   refine tk 9 rfl (by kernel_rfl) (fun _ _ _ h => h) gnone (TTany _) (p_lenl rfl Tryz.underlying23) rfl ?_
   refine tk 10 rfl (by kernel_rfl) (fun _ _ _ h => h) gnone (TTany _) (p_add rfl rfl (by omega)) rfl ?_
   refine tk 11 rfl (by kernel_rfl) (fun _ _ _ h => h) gnone (TTany _) (p_sll (k + old.length) (by omega) (by omega) (by omega) Tryz.underlying23 Tryz.sizeOf9 rfl rfl) rfl ?_
   refine fixA (slen (m' := (l.drop (k + old.length)).length) (by omega)) ?_
   refine df 5 (by kernel_rfl) ?_
   refine doR rfl (o_appF Tryz.underlying23 inf9 rfl (by decide) (by decide) rfl rfl rfl (by rw [hlk]; omega) hwi (by repeat' (first | constructor | apply Sub.suf)) rfl) TOk.d ?_
   refine ea ?_; rintro ⟨A3, c3⟩
   refine df 12 (by kernel_rfl) ?_
   refine doR rfl (o_appX (i := 0) Tryz.underlying23 inf9 rfl (by decide) (by decide) rfl rfl (by rw [List.length_append, hlk, hld]; omega) rfl (by repeat' (first | constructor | apply Sub.suf)) rfl) TOk.d ?_
   refine ea ?_; rintro ⟨A4, c4⟩
   refine amono (fun a w h => Go.Sx.freeze (i := 0) rfl h) ?_
   refine df 13 (by kernel_rfl) ?_
   refine doR rfl (o_call (is := []) Tryz.call84 (c_sCloneR (l.take k ++ wi ++ l.drop (k + old.length)) A4 c4 (by rw [List.length_append, List.length_append]; omega)) rfl rfl (by repeat' (first | constructor | apply Sub.suf)) rfl) TOk.d ?_
   refine ea ?_; rintro ⟨A5, c5⟩
   refine tk 14 rfl (by kernel_rfl) (fun _ _ _ h => h) gnone (TTany _) (p_asg rfl) rfl ?_
   refine tk 15 rfl (by kernel_rfl) (fun _ _ _ h => h) gnone (TTany _) (p_asg rfl) rfl ?_
   refine dn (by kernel_rfl) ?_
   refine nthen ?_
   refine cret ?_
   refine xret (fun _ _ h => h) ?_
   refine rret (is := [0]) (A5, c5) (Or.inl rfl) (Res.t rfl (Res.t rfl Res.d)) (rfl) rfl (by repeat' (first | constructor | apply Sub.suf))

set_option maxRecDepth 100000 in
theorem c_pFits (e : Int) : Con Tryz.prog 36 [.int .i64 e] [] [] Unit (fun _ => .int .i64 (if e = 0 then 0 else 31)) (fun _ => []) (fun _ => []) := by
 refine con Tryz.func36 rfl Tryz.ntmps36 rfl ?_
 intro M0 F0 w0
 refine cs ?_
 refine cr ?_
 refine ls (op (p_asg rfl) rfl) ?_
 refine ln ?_
 refine nthen ?_
 refine cs ?_
 refine cs ?_
 refine cr ?_
 refine ls (op (p_move rfl) rfl) ?_
 refine ls (op (p_icmp rfl rfl rfl) rfl) ?_
 refine ln ?_
 refine nthen ?_
 refine cc rfl ?_ ?_
 ·
  intro h4
  have he : ¬ e = 0 := by simpa using h4
  refine cs ?_
  refine cr ?_
  refine ls (op (p_asg rfl) rfl) ?_
  refine ln ?_
  refine nthen ?_
  refine cret ?_
  refine xret (fun _ _ h => h) ?_
  refine rret (is := []) () (Or.inl rfl) (Res.t rfl Res.d) ?_ rfl (by repeat' (first | constructor | apply Sub.suf))
  rw [if_neg he]; rfl
 ·
  intro h4
  have he : e = 0 := by simpa using h4
  refine cskip ?_
  refine nthen ?_
  refine cs ?_
  refine cr ?_
  refine ls (op (p_asg rfl) rfl) ?_
  refine ln ?_
  refine nthen ?_
  refine cret ?_
  refine xret (fun _ _ h => h) ?_
  refine rret (is := []) () (Or.inl rfl) (Res.t rfl Res.d) ?_ rfl (by repeat' (first | constructor | apply Sub.suf))
  rw [if_pos he]; rfl

set_option maxRecDepth 100000 in
theorem c_pCalls : Con Tryz.prog 38 [] [] [] Nat (fun b => .map (some b)) (fun b => [obj b (.map #[{ key := .int .i64 1, val := .func (.func 72) #[] #[], born := 0 }, { key := .int .i64 2, val := .func (.func 73) #[] #[], born := 1 }] 2)]) (fun _ => []) := by
 refine con Tryz.func38 rfl Tryz.ntmps38 rfl ?_
 intro M0 F0 w0
 refine cs ?_
 refine cr ?_
 refine ls (op (p_asg rfl) rfl) ?_
 refine ln ?_
 refine nthen ?_
 refine cs ?_
 refine cr ?_
 refine ls (o_mmkx rfl) ?_
 refine le ?_; intro m1
 refine ls (o_insx Tryz.underlying86 Tryz.underlying3 rfl rfl rfl rfl (by repeat' constructor) (by repeat' constructor)) ?_
 refine ls (o_insx Tryz.underlying86 Tryz.underlying3 rfl rfl rfl rfl (by repeat' constructor) (by repeat' constructor)) ?_
 refine ls (op (p_move rfl) rfl) ?_
 refine ls (op (p_asg rfl) rfl) ?_
 refine ln ?_
 refine nthen ?_
 refine cret ?_
 refine xret (fun _ _ h => h) ?_
 refine rret (is := [0]) m1 (Or.inl rfl) (Res.t rfl Res.d) (rfl) rfl (by repeat' (first | constructor | apply Sub.suf))

end Go.Proofs.YtjeampaghmcefaaGreatDoor.X

end
