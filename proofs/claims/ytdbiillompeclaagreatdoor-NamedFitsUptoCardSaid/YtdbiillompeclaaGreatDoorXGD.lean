/- OWN WORK: a part of the proof of a law of the seat YtdbiillompeclaaGreatDoor: contracts. -/
import Derived.Test.YtdbiillompeclaaGreatDoorProg
import Derived.Test.YtdbiillompeclaaGreatDoorXGC
import Derived.Test.YtdbiillompeclaaGreatDoorXGB
import Derived.Test.YtdbiillompeclaaGreatDoorXGA
section
set_option linter.unusedVariables false
set_option linter.unusedSimpArgs false
namespace Go.Proofs.YtdbiillompeclaaGreatDoor.X
open Go Go.RowKit Go.Proofs Go.Sx
attribute [local irreducible] slA isA box row
theorem al_add : tAdd [] (⟨#[97]⟩ : ByteArray) = ([((⟨#[97]⟩ : ByteArray), ([] : List ByteArray))], 0) := by kernel_rfl
theorem al_put : tPut [((⟨#[97]⟩ : ByteArray), ([] : List ByteArray))] (⟨#[97]⟩ : ByteArray) [(⟨#[120]⟩ : ByteArray), (⟨#[121]⟩ : ByteArray)] = ([((⟨#[97]⟩ : ByteArray), [(⟨#[120]⟩ : ByteArray), (⟨#[121]⟩ : ByteArray)])], 0) := by kernel_rfl
theorem al_move : tMove [((⟨#[97]⟩ : ByteArray), [(⟨#[120]⟩ : ByteArray), (⟨#[121]⟩ : ByteArray)])] (⟨#[97]⟩ : ByteArray) (⟨#[98]⟩ : ByteArray) = ([((⟨#[98]⟩ : ByteArray), [(⟨#[120]⟩ : ByteArray), (⟨#[121]⟩ : ByteArray)])], 0) := by kernel_rfl
theorem al_badd : tAdd [((⟨#[98]⟩ : ByteArray), [(⟨#[120]⟩ : ByteArray), (⟨#[121]⟩ : ByteArray)])] (⟨#[65]⟩ : ByteArray) = ([((⟨#[98]⟩ : ByteArray), [(⟨#[120]⟩ : ByteArray), (⟨#[121]⟩ : ByteArray)])], 20) := by kernel_rfl
theorem al_brem : tRem [((⟨#[98]⟩ : ByteArray), [(⟨#[120]⟩ : ByteArray), (⟨#[121]⟩ : ByteArray)])] (⟨#[98]⟩ : ByteArray) = ([((⟨#[98]⟩ : ByteArray), [(⟨#[120]⟩ : ByteArray), (⟨#[121]⟩ : ByteArray)])], 22) := by kernel_rfl
theorem al_l2 : (textT [((⟨#[97]⟩ : ByteArray), [(⟨#[120]⟩ : ByteArray), (⟨#[121]⟩ : ByteArray)])]).length = 8 := by kernel_rfl
theorem al_l3 : (textT [((⟨#[98]⟩ : ByteArray), [(⟨#[120]⟩ : ByteArray), (⟨#[121]⟩ : ByteArray)])]).length = 8 := by kernel_rfl
theorem al_f2 : Tfit [((⟨#[97]⟩ : ByteArray), [(⟨#[120]⟩ : ByteArray), (⟨#[121]⟩ : ByteArray)])] := fun x hx => by have : x = _ := List.mem_singleton.1 hx; subst this; decide
theorem al_f3 : Tfit [((⟨#[98]⟩ : ByteArray), [(⟨#[120]⟩ : ByteArray), (⟨#[121]⟩ : ByteArray)])] := fun x hx => by have : x = _ := List.mem_singleton.1 hx; subst this; decide
theorem al_named : nameOk (⟨#[97, 47, 98, 46, 99]⟩ : ByteArray) = true := by kernel_rfl
theorem al_ne : decide ([((⟨#[98]⟩ : ByteArray), [(⟨#[120]⟩ : ByteArray), (⟨#[121]⟩ : ByteArray)])] = [((⟨#[97]⟩ : ByteArray), [(⟨#[120]⟩ : ByteArray), (⟨#[121]⟩ : ByteArray)])]) = false := by kernel_rfl
theorem al_t1 : toB (textT [((⟨#[97]⟩ : ByteArray), [(⟨#[120]⟩ : ByteArray), (⟨#[121]⟩ : ByteArray)])]) = (⟨#[97, 32, 50, 10, 120, 10, 121, 10]⟩ : ByteArray) := by kernel_rfl
theorem al_t2 : toB (textT [((⟨#[98]⟩ : ByteArray), [(⟨#[120]⟩ : ByteArray), (⟨#[121]⟩ : ByteArray)])]) = (⟨#[98, 32, 50, 10, 120, 10, 121, 10]⟩ : ByteArray) := by kernel_rfl


set_option maxRecDepth 100000 in
theorem c_mEq (b d : Nat) (T U : List File) (hf : ∀ x ∈ T, x.2.length ≤ 2000000) : Con Tryz.prog 82 [.map (some b), .map (some d), .func (.func 83) #[] #[]] [tr b T, tr d U] [] Unit (fun _ => .bool (decide (T = U))) (fun _ => [tr b T, tr d U]) (fun _ => []) := by
 refine con Tryz.func82 rfl Tryz.ntmps82 rfl ?_
 intro M0 F0 w0
 refine cs ?_
 refine cr ?_
 refine ls (op (p_asg rfl) rfl) ?_
 refine ln ?_
 refine nthen ?_
 refine cs ?_
 refine cs ?_
 refine cr ?_
 refine ls (op (p_move rfl) rfl) ?_
 refine ls (o_lenm Tryz.underlying118 rfl (by repeat' constructor) rfl) ?_
 refine ls (op (p_move rfl) rfl) ?_
 refine ls (o_lenm Tryz.underlying118 rfl (by repeat' constructor) rfl) ?_
 refine ls (op (p_icmp rfl rfl rfl) rfl) ?_
 refine ln ?_
 refine nthen ?_
 refine cc rfl ?_ ?_
 ·
  intro h15
  have hne : ¬ T.length = U.length := by simp at h15; omega
  have hTU : ¬ T = U := fun e => hne (congrArg List.length e)
  refine cs ?_
  refine cr ?_
  refine ls (op (p_asg rfl) rfl) ?_
  refine ln ?_
  refine nthen ?_
  refine cret ?_
  refine xret (fun _ _ h => h) ?_
  refine rret (is := [0, 0]) () (Or.inl rfl) (Res.t rfl Res.d) ?_ rfl (by repeat' (first | constructor | apply Sub.suf))
  simp [packV, hTU]
 ·
  intro h15
  have hlen : T.length = U.length := by simp at h15; omega
  refine cskip ?_
  refine nthen ?_
  refine cs ?_
  refine cs ?_
  refine cr ?_
  refine ls (op (p_move rfl) rfl) ?_
  refine ls (o_mrange (i := 0) Tryz.underlying118 rfl rfl rfl) ?_
  refine le ?_; intro r17
  refine ln ?_
  refine nthen ?_
  refine cb ?_
  refine cl (ι := {K : List File // ∀ x ∈ K, getT U x.1 = some x.2}) (fun i => St M0 F0 w0 38 [(1, .map (some d)), (2, .func (.func 83) #[] #[]), (17, .pointer (some ⟨r17, 0, none⟩))] [mit b r17 T i.1, tr d U] []) (fun i => T.length - (i.1).length) ⟨[], fun _ h => by cases h⟩ (wk (is := [0, 0]) (by repeat (first | exact subσ.nil _ | refine subσ.cons rfl ?_)) rfl (by repeat' (first | constructor | apply Sub.suf))) ?_
  rintro ⟨K, hKU⟩
  refine cmono (S' := St M0 F0 w0 38 [(1, .map (some d)), (2, .func (.func 83) #[] #[]), (17, .pointer (some ⟨r17, 0, none⟩))] [mit b r17 T K, tr d U] []) (fun _ _ h => h) ?_
  refine cs ?_
  try dsimp only at hKU
  refine cpure (St.mit (by repeat' constructor)) ?_
  rintro ⟨hso, hKn, hKT⟩
  refine cpure (St.tr (b := d) (by repeat' constructor)) ?_
  intro hsu
  rcases Classical.em (∃ x ∈ T, x ∉ K) with hK | hK
  ·
   have hlt := nodup_lt hKn hKT hK
   refine cr ?_
   refine ls (o_mnextS (i := 0) rfl rfl hK rfl) ?_
   refine le ?_; rintro ⟨⟨⟨k, l⟩, y⟩, hxT, hxK⟩
   refine ls (op (p_ext rfl (by repeat' constructor)) rfl) ?_
   refine ln ?_
   refine nthen ?_
   refine cs ?_
   refine cc rfl (fun h => ?_) (fun h => by cases h)
   refine cskip ?_
   refine nthen ?_
   refine cb ?_
   refine cs ?_
   refine cr ?_
   refine ls (o_mentry rfl (by repeat' constructor) rfl) ?_
   refine le ?_; rintro y20
   refine ls (op (p_ext rfl (by repeat' constructor)) rfl) ?_
   refine ls (op (p_ext rfl (by repeat' constructor)) rfl) ?_
   refine ls (op (p_asg rfl) rfl) ?_
   refine ls (op (p_asg rfl) rfl) ?_
   refine ln ?_
   refine nthen ?_
   refine cs ?_
   refine cr ?_
   refine ls (op (p_move rfl) rfl) ?_
   refine ls (op (p_move rfl) rfl) ?_
   refine ls (o_look Tryz.underlying118 Tryz.underlying9 Tryz.zeroValue37 rfl rfl (by repeat' constructor) rfl) ?_
   refine le ?_; rintro y26
   refine ls (op (p_move rfl) rfl) ?_
   refine ls (op (p_ext rfl (by repeat' constructor)) rfl) ?_
   refine ls (op (p_ext rfl (by repeat' constructor)) rfl) ?_
   refine ls (op (p_asg rfl) rfl) ?_
   refine ls (op (p_asg rfl) rfl) ?_
   refine ln ?_
   refine nthen ?_
   refine cs ?_
   refine cr ?_
   refine ls (op (p_move rfl) rfl) ?_
   refine ls (op (p_not rfl) rfl) ?_
   refine ls (op (p_move rfl) rfl) ?_
   refine splitL 31 rfl ?_ ?_
   ·
    intro h31
    have hTU : ¬ T = U := ne_of_one hso hxT (by have h := h31; simp only [Bool.not_eq_true'] at h; unfold hasT at h; dsimp only at h ⊢; intro e; rw [e] at h; cases h)
    refine lskip rfl rfl rfl rfl rfl ?_
    refine lskip rfl rfl rfl rfl rfl ?_
    refine lskip rfl rfl rfl rfl rfl ?_
    refine lskip rfl rfl rfl rfl rfl ?_
    refine lskip rfl rfl rfl rfl rfl ?_
    refine ls (op (p_pickt rfl rfl) rfl) ?_
    refine ln ?_
    refine nthen ?_
    refine cc rfl (fun h => ?_) (fun h => by cases h)
    refine cs ?_
    refine cr ?_
    refine ls (op (p_asg rfl) rfl) ?_
    refine ln ?_
    refine nthen ?_
    refine cret ?_
    refine xret (fun _ _ h => h) ?_
    refine nmono (conv (i := 0) rfl mit_tr) ?_
    refine rret (is := [0, 0]) () (Or.inl rfl) (Res.t rfl Res.d) ?_ rfl (by repeat' (first | constructor | apply Sub.suf))
    simp [packV, hTU]
   ·
    intro h31
    have hhas : hasT U k = true := by have h := h31; simp only [Bool.not_eq_false'] at h; exact h
    obtain ⟨lv, hlv⟩ := Option.isSome_iff_exists.1 hhas
    have hgl : getL U k = lv := by simp [getL, hlv]
    refine lwant rfl rfl rfl rfl (op (p_move rfl) rfl) ?_
    refine lwant rfl rfl rfl rfl (op (p_move rfl) rfl) ?_
    refine lwant rfl rfl rfl rfl (op (p_move rfl) rfl) ?_
    refine lwant rfl rfl rfl rfl (o_callv (is := []) rfl Tryz.call83 (c_lineSame l (getL U k) _ _ _ _ (hf _ hxT)) rfl rfl rfl (by repeat' (first | constructor | apply Sub.suf)) rfl) ?_
    refine le ?_; intro x35
    refine lwant rfl rfl rfl rfl (op (p_not rfl) rfl) ?_
    refine ls (op (p_pickf rfl rfl) rfl) ?_
    refine ln ?_
    refine nthen ?_
    refine cc rfl ?_ ?_
    ·
     intro h37
     have hlk : ¬ l = getL U k := by simpa using h37
     have hTU : ¬ T = U := ne_of_one hso hxT (by dsimp only; rw [hlv]; intro e; injection e with e; exact hlk (by rw [hgl, e]))
     refine cs ?_
     refine cr ?_
     refine ls (op (p_asg rfl) rfl) ?_
     refine ln ?_
     refine nthen ?_
     refine cret ?_
     refine xret (fun _ _ h => h) ?_
     refine nmono (conv (i := 0) rfl mit_tr) ?_
     refine rret (is := [0, 0]) () (Or.inl rfl) (Res.t rfl Res.d) ?_ rfl (by repeat' (first | constructor | apply Sub.suf))
     simp [packV, hTU]
    ·
     intro h37
     have hlk : l = getL U k := by simpa using h37
     refine cskip ?_
     refine nblock ?_
     refine nnext ⟨K ++ [(k, l)], fun x hx => by rcases List.mem_append.1 hx with hx | hx; exact hKU x hx; rw [List.mem_singleton.1 hx]; dsimp only; rw [hlv, hlk, hgl]⟩ (by dsimp only; simp; omega) (wk (is := [0, 0]) (by repeat (first | exact subσ.nil _ | refine subσ.cons rfl ?_)) rfl (by repeat' (first | constructor | apply Sub.suf)))
  ·
   have hTU : T = U := eq_of_all hso hsu hlen fun x hx => hKU x (Classical.byContradiction fun h => hK ⟨x, hx, h⟩)
   refine cr ?_
   refine ls (o_mnextN rfl (by repeat' constructor) hK rfl) ?_
   refine ls (op (p_ext rfl (by repeat' constructor)) rfl) ?_
   refine ln ?_
   refine nthen ?_
   refine cs ?_
   refine cc rfl (fun h => by cases h) (fun h => ?_)
   refine cexit ?_
   refine xthen ?_
   refine xthen ?_
   refine xblock ?_
   refine nthen ?_
   refine cs ?_
   refine cr ?_
   refine ls (op (p_asg rfl) rfl) ?_
   refine ln ?_
   refine nthen ?_
   refine cret ?_
   refine xret (fun _ _ h => h) ?_
   refine nmono (conv (i := 0) rfl mit_tr) ?_
   refine rret (is := [0, 0]) () (Or.inl rfl) (Res.t rfl Res.d) ?_ rfl (by repeat' (first | constructor | apply Sub.suf))
   simp [packV, hTU]

set_option maxRecDepth 100000 in
theorem c_tSame (p b q d : Nat) (T U : List File) (hf : ∀ x ∈ T, x.2.length ≤ 2000000) : Con Tryz.prog 37 [.pointer (some ⟨p, 0, none⟩), .pointer (some ⟨q, 0, none⟩)] [box p 120 [.map (some b)], tr b T, box q 120 [.map (some d)], tr d U] [] Unit (fun _ => .bool (decide (T = U))) (fun _ => [box p 120 [.map (some b)], tr b T, box q 120 [.map (some d)], tr d U]) (fun _ => []) := by
 refine con Tryz.func37 rfl Tryz.ntmps37 rfl ?_
 intro M0 F0 w0
 refine cs ?_
 refine cr ?_
 refine ls (op (p_asg rfl) rfl) ?_
 refine ln ?_
 refine nthen ?_
 refine cs ?_
 refine cd [8] [(3, p, 0, _), (7, q, 0, _)] TryzX.mixed (TOk.t (isBoxS (by repeat' constructor) (k := 1) (by repeat (first | exact Cut.d | apply Cut.t | apply Cut.s))) (TOk.t (isBoxS (by repeat' constructor) (k := 1) (by repeat (first | exact Cut.d | apply Cut.t | apply Cut.s))) TOk.d)) ?_
 refine tk 0 rfl (by kernel_rfl) (fun _ _ _ h => h) gnone (TTany _) (p_move rfl) rfl ?_
 refine tk 1 rfl (by kernel_rfl) (fun _ _ _ h => h) gnone (TTany _) (p_nilck rfl) rfl ?_
 refine tk 2 rfl (by kernel_rfl) (fun _ _ _ h => h) gnone (TTany _) (p_fa fa120_0 rfl) rfl ?_
 refine tk 3 rfl (by kernel_rfl) (fun _ _ _ h => h) gnone (TTat (List.Mem.head _)) (p_ld Tryz.isAgg118 rfl) rfl ?_
 refine tk 4 rfl (by kernel_rfl) (fun _ _ _ h => h) gnone (TTany _) (p_move rfl) rfl ?_
 refine tk 5 rfl (by kernel_rfl) (fun _ _ _ h => h) gnone (TTany _) (p_nilck rfl) rfl ?_
 refine tk 6 rfl (by kernel_rfl) (fun _ _ _ h => h) gnone (TTany _) (p_fa fa120_0 rfl) rfl ?_
 refine tk 7 rfl (by kernel_rfl) (fun _ _ _ h => h) gnone (TTat (List.Mem.tail _ (List.Mem.head _))) (p_ld Tryz.isAgg118 rfl) rfl ?_
 refine df 8 (by kernel_rfl) ?_
 refine doR rfl (o_call (is := [1, 2]) Tryz.call82 (c_mEq b d T U hf) rfl rfl (by repeat' (first | constructor | apply Sub.suf)) rfl) (TOk.x (by kernel_rfl) (TOk.x (by kernel_rfl) TOk.d)) ?_
 refine ea ?_; intro x13
 refine tk 9 rfl (by kernel_rfl) (fun _ _ _ h => h) gnone (TTany _) (p_asg rfl) rfl ?_
 refine dn (by kernel_rfl) ?_
 refine nthen ?_
 refine cret ?_
 refine xret (fun _ _ h => h) ?_
 refine rret (is := [2, 0, 1, 0]) () (Or.inl rfl) (Res.t rfl Res.d) (rfl) rfl (by repeat' (first | constructor | apply Sub.suf))

end Go.Proofs.YtdbiillompeclaaGreatDoor.X

end
section
set_option linter.unusedVariables false
set_option linter.unusedSimpArgs false
namespace Go.Sx
open Go Go.RowKit

/-! Laws on trees, as they stand in memory and in the document. -/
theorem getT_put {T : List File} (h : Sor T) (k k' : ByteArray) (l : List ByteArray) : getT (putT T k l) k' = if k' = k then some l else getT T k' := by
  apply Option.ext
  intro v
  rw [getT_some (h.put k l), mem_putT]
  by_cases e : k' = k
  · subst e
    rw [if_pos rfl]
    constructor
    · rintro (h1 | ⟨_, h2⟩)
      · injection h1 with _ h1; rw [h1]
      · exact absurd rfl h2
    · intro h1; injection h1 with h1; subst h1; exact .inl rfl
  · rw [if_neg e, getT_some h]
    constructor
    · rintro (h1 | ⟨h1, _⟩)
      · injection h1 with h1 _; exact absurd h1 e
      · exact h1
    · exact fun h1 => .inr ⟨h1, e⟩
theorem getT_del {T : List File} (h : Sor T) (k k' : ByteArray) : getT (delT T k) k' = if k' = k then none else getT T k' := by
  apply Option.ext
  intro v
  rw [getT_some (h.del k), mem_delT]
  by_cases e : k' = k
  · subst e
    rw [if_pos rfl]
    constructor
    · rintro ⟨_, h2⟩; exact absurd rfl h2
    · intro h1; cases h1
  · rw [if_neg e, getT_some h]
    exact ⟨fun h1 => h1.1, fun h1 => ⟨h1, e⟩⟩
theorem getT_ext {T U : List File} (hT : Sor T) (hU : Sor U) (h : ∀ k, getT T k = getT U k) : T = U :=
  sor_ext hT hU fun x => by
    have := h x.1
    rw [← getT_some (k := x.1) (l := x.2) hT, ← getT_some (k := x.1) (l := x.2) hU, this]
theorem hasT_no {T : List File} {k : ByteArray} (h : hasT T k = false) : getT T k = none := by
  unfold hasT at h
  cases e : getT T k with
  | none => rfl
  | some v => rw [e] at h; cases h
theorem hasT_yes {T : List File} {k : ByteArray} (h : hasT T k = true) : getT T k = some (getL T k) := by
  unfold hasT at h
  unfold getL
  cases e : getT T k with
  | none => rw [e] at h; cases h
  | some v => rfl
theorem tAdd_ok {M T1 : List File} {k : ByteArray} (h : (T1, (0 : Int)) = tAdd M k) : nameOk k = true ∧ hasT M k = false ∧ T1 = putT M k [] := by
  unfold tAdd at h
  split at h
  · injection h with _ h; cases h
  · rename_i h1
    split at h
    · injection h with _ h; cases h
    · rename_i h2
      injection h with h _
      exact ⟨by simpa using h1, by simpa using h2, h⟩
theorem tAdd_no {M T1 : List File} {k : ByteArray} {e : Int} (h : (T1, e) = tAdd M k) (he : ¬ e = 0) : T1 = M := by
  unfold tAdd at h
  split at h
  · injection h
  · split at h
    · injection h
    · injection h with _ h; exact absurd h he
theorem tRem_add {M : List File} {k : ByteArray} (hM : Sor M) (hh : hasT M k = false) : tRem (putT M k []) k = (M, 0) := by
  have h1 : getT (putT M k []) k = some [] := by rw [getT_put hM, if_pos rfl]
  have h2 : delT (putT M k []) k = M := getT_ext ((hM.put _ _).del _) hM fun u => by
    rw [getT_del (hM.put _ _), getT_put hM]
    by_cases e : u = k
    · subst e; rw [if_pos rfl, hasT_no hh]
    · rw [if_neg e, if_neg e]
  unfold tRem
  rw [if_neg (by simp [hasT, h1]), if_neg (by simp [getL, h1]), h2]
theorem tMove_ok {M T3 : List File} {a b : ByteArray} (h : (T3, (0 : Int)) = tMove M a b) : hasT M a = true ∧ nameOk b = true ∧ hasT M b = false ∧ T3 = delT (putT M b (getL M a)) a := by
  unfold tMove at h
  split at h
  · injection h with _ h; cases h
  · rename_i h1
    split at h
    · injection h with _ h; cases h
    · rename_i h2
      injection h with h _
      refine ⟨?_, ?_, by simpa using h2, h⟩
      · cases e : hasT M a with
        | true => rfl
        | false => exact absurd (.inl e) h1
      · cases e : nameOk b with
        | true => rfl
        | false => exact absurd (.inr e) h1
theorem tMove_no {M T3 : List File} {a b : ByteArray} {e : Int} (h : (T3, e) = tMove M a b) (he : ¬ e = 0) : T3 = M := by
  unfold tMove at h
  split at h
  · injection h
  · split at h
    · injection h
    · injection h with _ h; exact absurd h he
theorem moved_get {M : List File} {a b : ByteArray} (hM : Sor M) (ha : hasT M a = true) (hb : hasT M b = false) (u : ByteArray) : getT (delT (putT M b (getL M a)) a) u = if u = a then none else if u = b then some (getL M a) else getT M u := by
  rw [getT_del (hM.put _ _), getT_put hM]
theorem moved_ne {M : List File} {a b : ByteArray} (ha : hasT M a = true) (hb : hasT M b = false) : ¬ b = a := fun e => by
  subst e; rw [ha] at hb; cases hb
theorem move_back {M : List File} {a b : ByteArray} (hM : Sor M) (hn : nameOk a = true) (ha : hasT M a = true) (hb : hasT M b = false) : tMove (delT (putT M b (getL M a)) a) b a = (M, 0) := by
  have hS : Sor (delT (putT M b (getL M a)) a) := (hM.put _ _).del _
  have hne := moved_ne ha hb
  have h1 : getT (delT (putT M b (getL M a)) a) b = some (getL M a) := by rw [moved_get hM ha hb, if_neg hne, if_pos rfl]
  have h2 : getT (delT (putT M b (getL M a)) a) a = none := by rw [moved_get hM ha hb, if_pos rfl]
  have h3 : getL (delT (putT M b (getL M a)) a) b = getL M a := by rw [getL, h1]; rfl
  unfold tMove
  rw [if_neg (by simp [hasT, h1, hn]), if_neg (by simp [hasT, h2]), h3]
  have : delT (putT (delT (putT M b (getL M a)) a) a (getL M a)) b = M := getT_ext ((hS.put _ _).del _) hM fun u => by
    rw [getT_del (hS.put _ _), getT_put hS, moved_get hM ha hb]
    by_cases e : u = b
    · subst e; rw [if_pos rfl, hasT_no hb]
    · rw [if_neg e]
      by_cases e2 : u = a
      · subst e2; rw [if_pos rfl, hasT_yes ha]
      · rw [if_neg e2, if_neg e2, if_neg e]
  rw [this]
theorem moved_without {M : List File} {a b : ByteArray} (hM : Sor M) (ha : hasT M a = true) (hb : hasT M b = false) : delT (delT (putT M b (getL M a)) a) b = delT M a :=
  getT_ext (((hM.put _ _).del _).del _) (hM.del _) fun u => by
    rw [getT_del ((hM.put _ _).del _), moved_get hM ha hb, getT_del hM]
    by_cases e : u = b
    · subst e; rw [if_pos rfl, if_neg (moved_ne ha hb), hasT_no hb]
    · rw [if_neg e]
      by_cases e2 : u = a
      · rw [if_pos e2, if_pos e2]
      · rw [if_neg e2, if_neg e2, if_neg e]
def Good (T : List File) : Prop := ∀ x ∈ T, nameOk x.1 = true ∧ x.2.all lineOk = true
theorem Good.get {T : List File} (h : Good T) (k : ByteArray) : (getL T k).all lineOk = true := by
  unfold getL getT
  cases e : T.find? (fun x => decide (x.1 = k)) with
  | none => rfl
  | some x => simpa using (h x (List.mem_of_find?_eq_some e)).2
theorem Good.name {T : List File} (h : Good T) {k : ByteArray} (hk : hasT T k = true) : nameOk k = true := by
  obtain ⟨x, hx, rfl⟩ := hasT_iff.1 hk
  exact (h x hx).1
theorem Good.put {T : List File} (h : Good T) {k : ByteArray} {l : List ByteArray} (hk : nameOk k = true) (hl : l.all lineOk = true) : Good (putT T k l) := fun x hx => by
  rcases mem_putT.1 hx with rfl | ⟨h1, _⟩
  · exact ⟨hk, hl⟩
  · exact h x h1
theorem Good.del {T : List File} (h : Good T) (k : ByteArray) : Good (delT T k) := fun x hx => h x (mem_delT.1 hx).1
theorem doT_good {T : List File} (h : Good T) (o : TOp) : Good (doT T o).1 := by
  unfold doT
  split
  · unfold tAdd; split
    · exact h
    · rename_i h1; split
      · exact h
      · exact h.put (by simpa using h1) rfl
  · split
    · unfold tRem; split; exact h; split; exact h; exact h.del _
    · split
      · unfold rMove; split
        · exact h
        · rename_i h1; split
          · exact h
          · exact (h.del _).put (by
              cases e : nameOk o.to with
              | true => rfl
              | false => exact absurd (.inr e) h1) (h.get _)
      · split
        · unfold tPut; split
          · exact h
          · rename_i h1; split
            · exact h
            · rename_i h2
              exact h.put (h.name (by simpa using h1)) (by simpa using h2)
        · exact h
theorem madeT_good (l : List TOp) : Good (madeT l) := by
  unfold madeT
  have : ∀ (l : List TOp) (T : List File), Good T → Good (l.foldl (fun T o => (doT T o).1) T) := by
    intro l
    induction l with
    | nil => exact fun T h => h
    | cons o l ih => exact fun T h => ih _ (doT_good h o)
  exact this l [] fun x hx => by cases hx
end Go.Sx

end
section
set_option linter.unusedVariables false
set_option linter.unusedSimpArgs false
namespace Go.Proofs.YtdbiillompeclaaGreatDoor.X
open Go Go.RowKit Go.Proofs Go.Sx
attribute [local irreducible] slA isA box row



end Go.Proofs.YtdbiillompeclaaGreatDoor.X

end
section
set_option linter.unusedVariables false
set_option linter.unusedSimpArgs false
namespace Go.Sx
open Go Go.RowKit
section
variable {ro : Option Nat} {P : Program} {M0 F0 : Nat → Prop} {w0 : World} {n : Nm} {σ : List (Nat × Value)} {Ξ : List Xsn} {Γ : List Asn} {d : Nat} {ty : TypeId} {pos : String} {af : Array Edge}
variable {ops : Array Oper} {Q : Exit → Act → World → Prop} {S S' : Act → World → Prop}
theorem slen {A : Option Addr} {m m' c : Nat} (h : m = m') : Value.slice A m c = Value.slice A m' c := by rw [h]
theorem run_app0 {w : World} {t e ty' : TypeId} {i0 : TypeInfo} {A B : Option Addr} {k c c' : Nat} (ht : P.underlying t = some (.slice e)) (hi : P.info? e = some i0) (hc : k ≤ c) :
    (Builtin.append_ #[t, t] ty' #[.slice A k c, .slice B 0 c']).run P w = .ok (.slice A k c) w := by
  cases A <;> cases B <;> simp [Builtin.append_, run_underlying ht, sizeOf, typeInfo, hi, Builtin.lenOf, Builtin.firstCells, hc, loadCells, loadCellsFrom, storeCells]
theorem p_app0 {T : World → Prop} {x y : Operand} {t e : TypeId} {A B : Option Addr} {k c c' : Nat} (ht : P.underlying t = some (.slice e)) (hi : ∃ i0, P.info? e = some i0) (hc : k ≤ c) (hx : ev σ x = some (.slice A k c)) (hy : ev σ y = some (.slice B 0 c')) :
    Pu P n σ T ⟨some d, .call ⟨.builtin .append, #[x, y], #[t, t]⟩, ty, pos, af, none⟩ (.slice A k c) := fun a hs w _ => by
  obtain ⟨i0, hi⟩ := hi
  have h1 := hs.ev hx
  have h2 := hs.ev hy
  have hm : (#[x, y] : Array Operand).map a.eval = #[.slice A k c, .slice B 0 c'] := by simp [h1, h2]
  simp only [execOp, resolve, invoke, builtin, hm]
  simp [run_app0 ht hi hc]
theorem o_appX {α : Type} [Rp α] {x y : Operand} {t e : TypeId} {z : Value} {bytes : Nat} {A B : Option Addr} {c c' : Nat} {l m : List α} {i : Nat} {Ξ' : List Xsn}
    (ht : P.underlying t = some (.slice e)) (hinfo : (P.info? e).map (fun i => (i.zero, i.size, i.bytes)) = some (some z, Rp.size α, bytes)) (hzs : z.cells.size = Rp.size α) (hsz : 0 < Rp.size α) (hb0 : 0 < bytes)
    (hx : ev σ x = some (.slice A l.length c)) (hy : ev σ y = some (.slice B m.length c')) (hl : (l.length + m.length) * bytes ≤ 140737488355328) (hs : takeAll [i] Ξ = some ([row e A c l], Ξ')) (hg : Sub [slA B m] Γ) (hd : Nat.blt d n.n = true) :
    OpR P ⟨some d, .call ⟨.builtin .append, #[x, y], #[t, t]⟩, ty, pos, af, none⟩ (St M0 F0 w0 n σ Ξ Γ) (fun a w => ∃ q : Option Addr × Nat, St M0 F0 w0 n ((d, .slice q.1 (l ++ m).length q.2) :: σ) (row e q.1 q.2 (l ++ m) :: Ξ') Γ a w) := by
  by_cases hm : m = []
  · subst hm
    obtain ⟨i0, hi, _⟩ := info_parts hinfo
    intro K Q a w hS hK
    obtain ⟨hsl, Fs, hh⟩ := hS
    obtain ⟨Gs, Hs, hp, h1, h2⟩ := hh.ex.takeAll hs
    have hh' : Hp M0 F0 w0 (row e A c l :: Ξ') Γ (Gs ++ Hs) w := hh.re (fun b => (own_perm hp b).symm) (perm_pairwise hp hh.dis) (h1.append h2) hh.ga
    have hle : l.length ≤ c := rowLe (i := 0) At.z (⟨hsl, _, hh'⟩ : St M0 F0 w0 n σ (row e A c l :: Ξ') Γ a w)
    have := op (M0 := M0) (F0 := F0) (w0 := w0) (Ξ := row e A c l :: Ξ') (Γ := Γ) (p_app0 (P := P) (n := n) (σ := σ) (T := Any) (d := d) (ty := ty) (pos := pos) (af := af) ht ⟨i0, hi⟩ hle hx hy) hd
    refine this K Q a w ⟨hsl, _, hh'⟩ fun a' w' h => hK a' w' ⟨(A, c), ?_⟩
    simpa using h
  · exact o_app ht hinfo hzs hsz hb0 hx hy hl (fun h => absurd h hm) hs hg hd
theorem o_appF {α : Type} [Rp α] {x y : Operand} {t e : TypeId} {z : Value} {bytes : Nat} {A B : Option Addr} {c c' : Nat} {l m : List α}
    (ht : P.underlying t = some (.slice e)) (hinfo : (P.info? e).map (fun i => (i.zero, i.size, i.bytes)) = some (some z, Rp.size α, bytes)) (hzs : z.cells.size = Rp.size α) (hsz : 0 < Rp.size α) (hb0 : 0 < bytes) (hc : c = l.length)
    (hx : ev σ x = some (.slice A l.length c)) (hy : ev σ y = some (.slice B m.length c')) (hl : (l.length + m.length) * bytes ≤ 140737488355328) (hm : m ≠ []) (hg : Sub [slA A l, slA B m] Γ) (hd : Nat.blt d n.n = true) :
    OpR P ⟨some d, .call ⟨.builtin .append, #[x, y], #[t, t]⟩, ty, pos, af, none⟩ (St M0 F0 w0 n σ Ξ Γ) (fun a w => ∃ q : Option Addr × Nat, St M0 F0 w0 n ((d, .slice q.1 (l ++ m).length q.2) :: σ) (row e q.1 q.2 (l ++ m) :: Ξ) Γ a w) := by
  cases A with
  | some A => exact o_appf ht hinfo hzs hsz hb0 hc hx hy hl (List.length_pos_iff.2 hm) hg hd
  | none =>
    intro K Q a w hS hK
    have hmem := hg.mem (slA none l) (by simp)
    have hl0 : l = [] := by
      obtain ⟨_, Fs, hh⟩ := hS
      have h1 := hh.ga _ hmem
      match l, h1 with
      | [], _ => rfl
      | x :: l, h1 =>
        obtain ⟨b, o, y, hA, _⟩ := h1 0 x rfl
        cases hA
    subst hl0
    subst hc
    have := o_app (M0 := M0) (F0 := F0) (w0 := w0) (n := n) (σ := σ) (Ξ := row (α := α) e none 0 [] :: Ξ) (Γ := Γ) (Ξ' := Ξ) (is := [0]) (ty := ty) (pos := pos) (af := af) (A := none) (c := 0) (l := []) (m := m) ht hinfo hzs hsz hb0 hx hy hl (fun h => absurd h hm) rfl (Sub.mk fun p hp => hg.mem p (by simp at hp; simp [hp])) hd
    exact this K Q a w (nilRow e hS) hK
end

theorem lpure {ro : Option Nat} {P : Program} {ops : Array Oper} {Q : Exit → Act → World → Prop} {S : Act → World → Prop} {l : List Oper} {φ : Prop} (h : ∀ a w, S a w → φ) (k : φ → TrL ro P ops Q S l) : TrL ro P ops Q S l := fun a w hS => k (h a w hS) a w hS
theorem take_eq_at {l m : List ByteArray} {k j : Nat} (hk : k + j < l.length) (hj : j < m.length) (h : (l.drop k).take m.length = m) : l[k + j] = m[j] := by
  have h1 : ((l.drop k).take m.length)[j]? = m[j]? := by rw [h]
  rw [List.getElem?_take_of_lt hj, List.getElem?_drop, List.getElem?_eq_getElem hk, List.getElem?_eq_getElem hj] at h1
  injection h1
theorem take_step {l m : List ByteArray} {k j : Nat} (hk : k + j < l.length) (hj : j < m.length) (h : (l.drop k).take j = m.take j) (e : l[k + j] = m[j]) : (l.drop k).take (j + 1) = m.take (j + 1) := by
  have hd : j < (l.drop k).length := by rw [List.length_drop]; omega
  rw [List.take_succ_eq_append_getElem hd, List.take_succ_eq_append_getElem hj, h, List.getElem_drop, e]
theorem slen2 {A : Option Addr} {m m' c c' : Nat} (h : m = m') (k : c = c') : Value.slice A m c = Value.slice A m' c' := by rw [h, k]
theorem emem (p q : Prop) : (p ∧ q) ∨ (p ∧ ¬ q) ∨ ¬ p := by
  by_cases p <;> by_cases q <;> simp [*]
theorem subP {α : Type} [Rp α] {M0 F0 : Nat → Prop} {w0 : World} {n : Nm} {σ : List (Nat × Value)} {Ξ : List Xsn} {Γ : List Asn} {A : Option Addr} {l : List α} {a : Act} {w : World} (k : Nat) (hg : In (slA A l) Γ) (hk : k ≤ l.length) (h : St M0 F0 w0 n σ Ξ Γ a w) :
    St M0 F0 w0 n σ Ξ (slA (if k = 0 then A else A.map (·.add (0 * Rp.size α))) (l.take k) :: Γ) a w := by
  obtain ⟨hs, Fs, hh⟩ := h
  refine ⟨hs, Fs, { hh with ga := fun p hp => ?_ }⟩
  rcases List.mem_cons.1 hp with rfl | hp
  · by_cases hk0 : k = 0
    · subst hk0
      intro j x hj
      simp at hj
    · have := slA_sub (c := l.length) (hh.ga _ hg.mem) (Nat.zero_le k) hk (Nat.le_refl _)
      rw [if_neg (by omega), List.drop_zero, Nat.sub_zero] at this
      rw [if_neg hk0]
      exact this
  · exact hh.ga p hp
/-! Prims and trees. -/
def standsB (l : List ByteArray) (z : Int) (part : List ByteArray) : Bool := decide (0 ≤ z) && decide (z ≤ (l.length : Int)) && decide ((part.length : Int) ≤ (l.length : Int) - z) && decide ((l.drop z.toNat).take part.length = part)
def splT (l : List ByteArray) (z : Int) (old new : List ByteArray) : List ByteArray := if standsB l z old = true then l.take z.toNat ++ new ++ l.drop (z.toNat + old.length) else []
def fitT (q : List File × Int) : List File × Int := (q.1, if q.2 = 0 then 0 else 31)
def hunkT (T : List File) (p : Prim) : List File × Int :=
  if hasT T p.name = false ∨ standsB (getL T p.name) p.pos p.old = false then (T, 31) else fitT (tPut T p.name (splT (getL T p.name) p.pos p.old p.new))
def applyT (T : List File) (p : Prim) : List File × Int :=
  if p.right = false then (T, 30) else if p.kind = 0 then hunkT T p else if p.kind = 3 then fitT (tMove T p.name p.to) else if p.kind = 1 then fitT (tAdd T p.name) else fitT (tRem T p.name)
def rApplyT (T : List File) (p : Prim) : List File × Int :=
  if p.right = false then (T, 30)
  else if p.kind = 0 then (if hasT T p.name = true ∧ standsB (getL T p.name) p.pos p.old = true then (putT T p.name (splT (getL T p.name) p.pos p.old p.new), 0) else (T, 31))
  else if p.kind = 1 then (if hasT T p.name = false then (putT T p.name [], 0) else (T, 31))
  else if p.kind = 2 then (if hasT T p.name = true ∧ (getL T p.name).length = 0 then (delT T p.name, 0) else (T, 31))
  else if p.kind = 3 then (if hasT T p.name = true ∧ hasT T p.to = false then (putT (delT T p.name) p.to (getL T p.name), 0) else (T, 31))
  else (T, 31)
theorem stands_cases (l : List ByteArray) (z : Int) (part : List ByteArray) : (¬ 0 ≤ z) ∨ (0 ≤ z ∧ ¬ z ≤ (l.length : Int)) ∨ (0 ≤ z ∧ z ≤ (l.length : Int) ∧ ¬ (part.length : Int) ≤ (l.length : Int) - z) ∨ ∃ k : Nat, z = (k : Int) ∧ k + part.length ≤ l.length := by
  by_cases h1 : 0 ≤ z
  · by_cases h2 : z ≤ (l.length : Int)
    · by_cases h3 : (part.length : Int) ≤ (l.length : Int) - z
      · exact .inr (.inr (.inr ⟨z.toNat, by omega, by omega⟩))
      · exact .inr (.inr (.inl ⟨h1, h2, h3⟩))
    · exact .inr (.inl ⟨h1, h2⟩)
  · exact .inl h1
theorem standsB_nat {l part : List ByteArray} {k : Nat} (h : k + part.length ≤ l.length) : standsB l (k : Int) part = decide ((l.drop k).take part.length = part) := by
  unfold standsB
  rw [decide_eq_true (by omega), decide_eq_true (by omega), decide_eq_true (by omega)]
  simp
theorem standsB_yes {l part : List ByteArray} {z : Int} (h : standsB l z part = true) : ∃ k : Nat, z = (k : Int) ∧ k + part.length ≤ l.length ∧ (l.drop k).take part.length = part := by
  unfold standsB at h
  simp only [Bool.and_eq_true, decide_eq_true_eq] at h
  obtain ⟨⟨⟨h1, h2⟩, h3⟩, h4⟩ := h
  exact ⟨z.toNat, by omega, by omega, h4⟩
theorem splT_len {l old new : List ByteArray} {z : Int} : (splT l z old new).length ≤ l.length + new.length := by
  unfold splT
  split
  · rename_i h
    obtain ⟨k, rfl, h1, _⟩ := standsB_yes h
    simp only [List.length_append, List.length_take, List.length_drop, Int.toNat_natCast]
    omega
  · simp
theorem right_kind {p : Prim} (h : p.right = true) : p.kind = 0 ∨ p.kind = 1 ∨ p.kind = 2 ∨ p.kind = 3 := by
  unfold Prim.right at h
  rw [Bool.and_eq_true] at h
  have h2 := h.2
  by_cases h0 : p.kind = 0
  · exact .inl h0
  · rw [if_neg h0] at h2
    by_cases h3 : p.kind = 3
    · exact .inr (.inr (.inr h3))
    · rw [if_neg h3] at h2
      simp only [Bool.and_eq_true, Bool.or_eq_true, decide_eq_true_eq] at h2
      rcases h2.2 with h | h
      · exact .inr (.inl h)
      · exact .inr (.inr (.inl h))
theorem right_name {p : Prim} (h : p.right = true) : nameOk p.name = true := by
  unfold Prim.right at h
  rw [Bool.and_eq_true] at h
  exact h.1
theorem right_new {p : Prim} (h : p.right = true) (h0 : p.kind = 0) : p.new.all lineOk = true := by
  unfold Prim.right at h
  rw [Bool.and_eq_true, if_pos h0] at h
  simp only [Bool.and_eq_true] at h
  exact h.2.1.2
theorem right_to {p : Prim} (h : p.right = true) (h0 : p.kind = 3) : nameOk p.to = true := by
  unfold Prim.right at h
  rw [Bool.and_eq_true, if_neg (by omega), if_pos h0] at h
  simp only [Bool.and_eq_true] at h
  exact h.2.1.2
theorem splT_ok {l old new : List ByteArray} {z : Int} (hl : l.all lineOk = true) (hn : new.all lineOk = true) : (splT l z old new).all lineOk = true := by
  unfold splT
  split
  · rw [List.all_eq_true] at hl hn ⊢
    intro x hx
    rcases List.mem_append.1 hx with hx | hx
    · rcases List.mem_append.1 hx with hx | hx
      · exact hl x (List.mem_of_mem_take hx)
      · exact hn x hx
    · exact hl x (List.mem_of_mem_drop hx)
  · rfl
theorem apply_eq {T : List File} (hS : Sor T) (hG : Good T) (p : Prim) : applyT T p = rApplyT T p := by
  unfold applyT rApplyT
  by_cases hr : p.right = false
  · rw [if_pos hr, if_pos hr]
  · have hr' : p.right = true := by simpa using hr
    rw [if_neg hr, if_neg hr]
    rcases right_kind hr' with h | h | h | h
    · rw [if_pos h, if_pos h]
      unfold hunkT
      by_cases h1 : hasT T p.name = true
      · by_cases h2 : standsB (getL T p.name) p.pos p.old = true
        · rw [if_neg (by simp [h1, h2]), if_pos ⟨h1, h2⟩]
          unfold tPut
          have h4 := splT_ok (z := p.pos) (old := p.old) (hG.get p.name) (right_new hr' h)
          rw [if_neg (by simp [h1]), if_neg (by simp only [h4]; simp)]
          rfl
        · rw [if_pos (.inr (by simpa using h2)), if_neg (by simp [h2])]
      · rw [if_pos (.inl (by simpa using h1)), if_neg (by simp [h1])]
    · rw [if_neg (by omega), if_neg (by omega), if_pos h, if_neg (by omega), if_pos h]
      unfold tAdd
      have hn := right_name hr'
      rw [if_neg (by simp [hn])]
      by_cases h1 : hasT T p.name = true
      · rw [if_pos h1, if_neg (by simp [h1])]; rfl
      · rw [if_neg h1, if_pos (by simpa using h1)]; rfl
    · rw [if_neg (by omega), if_neg (by omega), if_neg (by omega), if_neg (by omega), if_neg (by omega), if_pos h]
      unfold tRem
      by_cases h1 : hasT T p.name = true
      · rw [if_neg (by simp [h1])]
        by_cases h2 : 0 < (getL T p.name).length
        · rw [if_pos h2, if_neg (by omega)]; rfl
        · rw [if_neg h2, if_pos ⟨h1, by omega⟩]; rfl
      · rw [if_pos (by simpa using h1), if_neg (by simp [h1])]; rfl
    · rw [if_neg (by omega), if_pos h, if_neg (by omega), if_neg (by omega), if_neg (by omega), if_pos h, move_eq hS]
      unfold rMove
      have hn := right_to hr' h
      by_cases h1 : hasT T p.name = true
      · rw [if_neg (by simp [h1, hn])]
        by_cases h2 : hasT T p.to = true
        · rw [if_pos h2, if_neg (by simp [h2])]; rfl
        · rw [if_neg h2, if_pos ⟨h1, by simpa using h2⟩]; rfl
      · rw [if_pos (.inl (by simpa using h1)), if_neg (by simp [h1])]; rfl
theorem rApply_sor {T : List File} (hS : Sor T) (p : Prim) : Sor (rApplyT T p).1 := by
  unfold rApplyT
  repeat' split
  all_goals first | exact hS | exact hS.put _ _ | exact hS.del _ | exact (hS.del _).put _ _
theorem rApply_good {T : List File} (hG : Good T) (p : Prim) : Good (rApplyT T p).1 := by
  unfold rApplyT
  by_cases hr : p.right = false
  · rw [if_pos hr]; exact hG
  · have hr' : p.right = true := by simpa using hr
    have hn := right_name hr'
    rw [if_neg hr]
    split
    · rename_i h
      split
      · exact hG.put hn (splT_ok (hG.get _) (right_new hr' h))
      · exact hG
    · split
      · split
        · exact hG.put hn rfl
        · exact hG
      · split
        · split
          · exact hG.del _
          · exact hG
        · split
          · rename_i h
            split
            · exact (hG.del _).put (right_to hr' h) (hG.get _)
            · exact hG
          · exact hG
end Go.Sx

end
section
set_option linter.unusedVariables false
set_option linter.unusedSimpArgs false
namespace Go.Proofs.YtdbiillompeclaaGreatDoor.X
open Go Go.RowKit Go.Proofs Go.Sx
attribute [local irreducible] slA isA box row


theorem inf9x : ∃ i0, Tryz.prog.info? 9 = some i0 := by
 obtain ⟨i0, h, _⟩ := info_parts inf9
 exact ⟨i0, h⟩

set_option maxRecDepth 100000 in
theorem c_lineStands (l part : List ByteArray) (A B : Option Addr) (c c' : Nat) (z : Int) (hl : l.length ≤ 2000000) (hp : part.length ≤ 2000000) (hc : l.length ≤ c) : Con Tryz.prog 161 [.slice A l.length c, .int .i64 z, .slice B part.length c'] [] [slA A l, slA B part] Unit (fun _ => .bool (standsB l z part)) (fun _ => []) (fun _ => []) := by
 refine con Tryz.func161 rfl Tryz.ntmps161 rfl ?_
 intro M0 F0 w0
 refine cs ?_
 refine cr ?_
 refine ls (op (p_asg rfl) rfl) ?_
 refine ln ?_
 refine nthen ?_
 refine cs ?_
 rcases stands_cases l z part with h1 | ⟨h1, h2⟩ | ⟨h1, h2, h3⟩ | ⟨k, rfl, h4⟩
 ·
  refine cr ?_
  refine ls (op (p_move rfl) rfl) ?_
  refine ls (op (p_icmp rfl rfl rfl) rfl) ?_
  refine fixL (congrArg Value.bool (decide_eq_false h1)) ?_
  refine ls (op (p_move rfl) rfl) ?_
  refine lskip rfl rfl rfl rfl rfl ?_
  refine lskip rfl rfl rfl rfl rfl ?_
  refine lskip rfl rfl rfl rfl rfl ?_
  refine lskip rfl rfl rfl rfl rfl ?_
  refine ls (op (p_pickf rfl rfl) rfl) ?_
  refine ls (op (p_move rfl) rfl) ?_
  refine lskip rfl rfl rfl rfl rfl ?_
  refine lskip rfl rfl rfl rfl rfl ?_
  refine lskip rfl rfl rfl rfl rfl ?_
  refine lskip rfl rfl rfl rfl rfl ?_
  refine lskip rfl rfl rfl rfl rfl ?_
  refine lskip rfl rfl rfl rfl rfl ?_
  refine lskip rfl rfl rfl rfl rfl ?_
  refine ls (op (p_pickf rfl rfl) rfl) ?_
  refine ls (op (p_move rfl) rfl) ?_
  refine lskip rfl rfl rfl rfl rfl ?_
  refine lskip rfl rfl rfl rfl rfl ?_
  refine lskip rfl rfl rfl rfl rfl ?_
  refine lskip rfl rfl rfl rfl rfl ?_
  refine lskip rfl rfl rfl rfl rfl ?_
  refine lskip rfl rfl rfl rfl rfl ?_
  refine lskip rfl rfl rfl rfl rfl ?_
  refine lskip rfl rfl rfl rfl rfl ?_
  refine lskip rfl rfl rfl rfl rfl ?_
  refine ls (op (p_pickf rfl rfl) rfl) ?_
  refine ls (op (p_asg rfl) rfl) ?_
  refine ln ?_
  refine nthen ?_
  refine cret ?_
  refine xret (fun _ _ h => h) ?_
  refine rret (is := []) () (Or.inl rfl) (Res.t rfl Res.d) ?_ rfl (by repeat' (first | constructor | apply Sub.suf))
  simp [packV, standsB, h1]
 ·
  refine cr ?_
  refine ls (op (p_move rfl) rfl) ?_
  refine ls (op (p_icmp rfl rfl rfl) rfl) ?_
  refine fixL (congrArg Value.bool (decide_eq_true h1)) ?_
  refine ls (op (p_move rfl) rfl) ?_
  refine lwant rfl rfl rfl rfl (op (p_move rfl) rfl) ?_
  refine lwant rfl rfl rfl rfl (op (p_move rfl) rfl) ?_
  refine lwant rfl rfl rfl rfl (op (p_lenl rfl Tryz.underlying37) rfl) ?_
  refine lwant rfl rfl rfl rfl (op (p_icmp rfl rfl rfl) rfl) ?_
  refine fixL (congrArg Value.bool (decide_eq_false h2)) ?_
  refine ls (op (p_pickt rfl rfl) rfl) ?_
  refine ls (op (p_move rfl) rfl) ?_
  refine lskip rfl rfl rfl rfl rfl ?_
  refine lskip rfl rfl rfl rfl rfl ?_
  refine lskip rfl rfl rfl rfl rfl ?_
  refine lskip rfl rfl rfl rfl rfl ?_
  refine lskip rfl rfl rfl rfl rfl ?_
  refine lskip rfl rfl rfl rfl rfl ?_
  refine lskip rfl rfl rfl rfl rfl ?_
  refine ls (op (p_pickf rfl rfl) rfl) ?_
  refine ls (op (p_move rfl) rfl) ?_
  refine lskip rfl rfl rfl rfl rfl ?_
  refine lskip rfl rfl rfl rfl rfl ?_
  refine lskip rfl rfl rfl rfl rfl ?_
  refine lskip rfl rfl rfl rfl rfl ?_
  refine lskip rfl rfl rfl rfl rfl ?_
  refine lskip rfl rfl rfl rfl rfl ?_
  refine lskip rfl rfl rfl rfl rfl ?_
  refine lskip rfl rfl rfl rfl rfl ?_
  refine lskip rfl rfl rfl rfl rfl ?_
  refine ls (op (p_pickf rfl rfl) rfl) ?_
  refine ls (op (p_asg rfl) rfl) ?_
  refine ln ?_
  refine nthen ?_
  refine cret ?_
  refine xret (fun _ _ h => h) ?_
  refine rret (is := []) () (Or.inl rfl) (Res.t rfl Res.d) ?_ rfl (by repeat' (first | constructor | apply Sub.suf))
  simp [packV, standsB, h2]
 ·
  refine cr ?_
  refine ls (op (p_move rfl) rfl) ?_
  refine ls (op (p_icmp rfl rfl rfl) rfl) ?_
  refine fixL (congrArg Value.bool (decide_eq_true h1)) ?_
  refine ls (op (p_move rfl) rfl) ?_
  refine lwant rfl rfl rfl rfl (op (p_move rfl) rfl) ?_
  refine lwant rfl rfl rfl rfl (op (p_move rfl) rfl) ?_
  refine lwant rfl rfl rfl rfl (op (p_lenl rfl Tryz.underlying37) rfl) ?_
  refine lwant rfl rfl rfl rfl (op (p_icmp rfl rfl rfl) rfl) ?_
  refine fixL (congrArg Value.bool (decide_eq_true h2)) ?_
  refine ls (op (p_pickt rfl rfl) rfl) ?_
  refine ls (op (p_move rfl) rfl) ?_
  refine lwant rfl rfl rfl rfl (op (p_move rfl) rfl) ?_
  refine lwant rfl rfl rfl rfl (op (p_lenl rfl Tryz.underlying37) rfl) ?_
  refine lwant rfl rfl rfl rfl (op (p_move rfl) rfl) ?_
  refine lwant rfl rfl rfl rfl (op (p_lenl rfl Tryz.underlying37) rfl) ?_
  refine lwant rfl rfl rfl rfl (op (p_move rfl) rfl) ?_
  refine lwant rfl rfl rfl rfl (op (p_sub rfl rfl (by omega)) rfl) ?_
  refine lwant rfl rfl rfl rfl (op (p_icmp rfl rfl rfl) rfl) ?_
  refine fixL (congrArg Value.bool (decide_eq_false h3)) ?_
  refine ls (op (p_pickt rfl rfl) rfl) ?_
  refine ls (op (p_move rfl) rfl) ?_
  refine lskip rfl rfl rfl rfl rfl ?_
  refine lskip rfl rfl rfl rfl rfl ?_
  refine lskip rfl rfl rfl rfl rfl ?_
  refine lskip rfl rfl rfl rfl rfl ?_
  refine lskip rfl rfl rfl rfl rfl ?_
  refine lskip rfl rfl rfl rfl rfl ?_
  refine lskip rfl rfl rfl rfl rfl ?_
  refine lskip rfl rfl rfl rfl rfl ?_
  refine lskip rfl rfl rfl rfl rfl ?_
  refine ls (op (p_pickf rfl rfl) rfl) ?_
  refine ls (op (p_asg rfl) rfl) ?_
  refine ln ?_
  refine nthen ?_
  refine cret ?_
  refine xret (fun _ _ h => h) ?_
  refine rret (is := []) () (Or.inl rfl) (Res.t rfl Res.d) ?_ rfl (by repeat' (first | constructor | apply Sub.suf))
  simp only [packV, standsB]; rw [decide_eq_false h3]; simp
 ·
  refine cmono (fun a w h => subS (l' := (l.drop k).take part.length) (c := c) k (k + part.length) (by repeat (first | exact In.z | apply In.s)) (by omega) (by omega) hc (by simp) h) ?_
  refine cr ?_
  refine ls (op (p_move rfl) rfl) ?_
  refine ls (op (p_icmp rfl rfl rfl) rfl) ?_
  refine fixL (congrArg Value.bool (decide_eq_true (by omega))) ?_
  refine ls (op (p_move rfl) rfl) ?_
  refine lwant rfl rfl rfl rfl (op (p_move rfl) rfl) ?_
  refine lwant rfl rfl rfl rfl (op (p_move rfl) rfl) ?_
  refine lwant rfl rfl rfl rfl (op (p_lenl rfl Tryz.underlying37) rfl) ?_
  refine lwant rfl rfl rfl rfl (op (p_icmp rfl rfl rfl) rfl) ?_
  refine fixL (congrArg Value.bool (decide_eq_true (by omega))) ?_
  refine ls (op (p_pickt rfl rfl) rfl) ?_
  refine ls (op (p_move rfl) rfl) ?_
  refine lwant rfl rfl rfl rfl (op (p_move rfl) rfl) ?_
  refine lwant rfl rfl rfl rfl (op (p_lenl rfl Tryz.underlying37) rfl) ?_
  refine lwant rfl rfl rfl rfl (op (p_move rfl) rfl) ?_
  refine lwant rfl rfl rfl rfl (op (p_lenl rfl Tryz.underlying37) rfl) ?_
  refine lwant rfl rfl rfl rfl (op (p_move rfl) rfl) ?_
  refine lwant rfl rfl rfl rfl (op (p_sub rfl rfl (by omega)) rfl) ?_
  refine lwant rfl rfl rfl rfl (op (p_icmp rfl rfl rfl) rfl) ?_
  refine fixL (congrArg Value.bool (decide_eq_true (by omega))) ?_
  refine ls (op (p_pickt rfl rfl) rfl) ?_
  refine ls (op (p_move rfl) rfl) ?_
  refine lwant rfl rfl rfl rfl (op (p_move rfl) rfl) ?_
  refine lwant rfl rfl rfl rfl (op (p_move rfl) rfl) ?_
  refine lwant rfl rfl rfl rfl (op (p_move rfl) rfl) ?_
  refine lwant rfl rfl rfl rfl (op (p_move rfl) rfl) ?_
  refine lwant rfl rfl rfl rfl (op (p_lenl rfl Tryz.underlying37) rfl) ?_
  refine lwant rfl rfl rfl rfl (op (p_add rfl rfl (by omega)) rfl) ?_
  refine lwant rfl rfl rfl rfl (op (p_sl k (k + part.length) (by omega) (by omega) rfl (by omega) Tryz.underlying37 Tryz.sizeOf9 rfl rfl rfl) rfl) ?_
  refine fixL (slen (m' := ((l.drop k).take part.length).length) (by rw [List.length_take, List.length_drop]; omega)) ?_
  refine lwant rfl rfl rfl rfl (op (p_move rfl) rfl) ?_
  refine lwant rfl rfl rfl rfl (o_call (is := []) Tryz.call83 (c_lineSame ((l.drop k).take part.length) part _ _ _ _ (by rw [List.length_take]; omega)) rfl rfl (by repeat' (first | constructor | apply Sub.suf)) rfl) ?_
  refine le ?_; intro x33
  refine ls (op (p_pickt rfl rfl) rfl) ?_
  refine ls (op (p_asg rfl) rfl) ?_
  refine ln ?_
  refine nthen ?_
  refine cret ?_
  refine xret (fun _ _ h => h) ?_
  refine rret (is := []) () (Or.inl rfl) (Res.t rfl Res.d) ?_ rfl (by repeat' (first | constructor | apply Sub.suf))
  rw [standsB_nat h4]; rfl

set_option maxRecDepth 100000 in
theorem c_lineSplice (l old wi : List ByteArray) (A B C : Option Addr) (c c' c2 : Nat) (z : Int) (hl : l.length ≤ 2000000) (ho : old.length ≤ 2000000) (hw : l.length + wi.length ≤ 2000000) (hc : l.length ≤ c) : Con Tryz.prog 139 [.slice A l.length c, .int .i64 z, .slice B old.length c', .slice C wi.length c2] [] [slA A l, slA B old, slA C wi] (Option Addr × Nat) (fun y => .tuple #[.slice y.1 (splT l z old wi).length y.2, .bool (standsB l z old)]) (fun y => [row 9 y.1 y.2 (splT l z old wi)]) (fun _ => []) := by
 refine con Tryz.func139 rfl Tryz.ntmps139 rfl ?_
 intro M0 F0 w0
 refine cs ?_
 refine cr ?_
 refine ls (op (p_asg rfl) rfl) ?_
 refine ls (op (p_asg rfl) rfl) ?_
 refine ln ?_
 refine nthen ?_
 refine cs ?_
 refine cs ?_
 refine cr ?_
 refine ls (op (p_move rfl) rfl) ?_
 refine ls (op (p_move rfl) rfl) ?_
 refine ls (op (p_move rfl) rfl) ?_
 refine ls (o_call (is := []) Tryz.call161 (c_lineStands l old A B c c' z hl ho hc) rfl rfl (by repeat' (first | constructor | apply Sub.suf)) rfl) ?_
 refine le ?_; intro x13
 refine ls (op (p_not rfl) rfl) ?_
 refine ln ?_
 refine nthen ?_
 refine cc rfl ?_ ?_
 ·
  intro h14
  have hst : standsB l z old = false := by simpa using h14
  have hsp : splT l z old wi = [] := by simp [splT, hst]
  rw [hsp, hst]
  refine cmono (fun a w h => nilRow (α := ByteArray) 9 h) ?_
  refine cs ?_
  refine cr ?_
  refine ls (op (p_asg rfl) rfl) ?_
  refine ls (op (p_asg rfl) rfl) ?_
  refine ln ?_
  refine nthen ?_
  refine cret ?_
  refine xret (fun _ _ h => h) ?_
  refine rret (is := [0]) (none, 0) (Or.inl rfl) (Res.t rfl (Res.t rfl Res.d)) (rfl) rfl (by repeat' (first | constructor | apply Sub.suf))
 ·
  intro h14
  have hst : standsB l z old = true := by simpa using h14
  obtain ⟨k, rfl, hko, _⟩ := standsB_yes hst
  have hsp : splT l (k : Int) old wi = l.take k ++ wi ++ l.drop (k + old.length) := by unfold splT; rw [if_pos hst]; rfl
  rw [hsp, hst]
  have hlk : (l.take k).length = k := by rw [List.length_take]; omega
  have hld : (l.drop (k + old.length)).length = l.length - (k + old.length) := List.length_drop
  refine cskip ?_
  refine nthen ?_
  refine cs ?_
  refine cmono (fun a w h => subP (α := ByteArray) k (by repeat (first | exact In.z | apply In.s)) (by omega) h) ?_
  refine cmono (fun a w h => subS (l' := l.drop (k + old.length)) (c := c) (k + old.length) l.length (by repeat (first | exact In.z | apply In.s)) (by omega) (Nat.le_refl _) hc (by rw [List.take_of_length_le (by simp)]) h) ?_
  rcases emem (wi = []) (l.drop (k + old.length) = []) with ⟨hwi, hdr⟩ | ⟨hwi, hdr⟩ | hwi
  ·
   have hR : l.take k ++ wi ++ l.drop (k + old.length) = l.take k := by rw [hwi, hdr]; simp
   have hw0 : wi.length = 0 := by rw [hwi]; rfl
   have hd0 : l.length - (k + old.length) = 0 := by rw [← hld, hdr]; rfl
   refine cd [5, 12, 13] [] TryzX.mixed TOk.d ?_
   refine tk 0 rfl (by kernel_rfl) (fun _ _ _ h => h) gnone (TTany _) (p_move rfl) rfl ?_
   refine tk 1 rfl (by kernel_rfl) (fun _ _ _ h => h) gnone (TTany _) (p_move rfl) rfl ?_
   refine tk 2 rfl (by kernel_rfl) (fun _ _ _ h => h) gnone (TTany _) (p_move rfl) rfl ?_
   refine tk 3 rfl (by kernel_rfl) (fun _ _ _ h => h) gnone (TTany _) (p_slm k k (Nat.le_refl _) (by omega) rfl rfl Tryz.underlying37 Tryz.sizeOf9 rfl rfl rfl) rfl ?_
   refine fixA (slen2 (m' := (l.take k).length) (c' := (l.take k).length) (by omega) (by omega)) ?_
   refine tk 4 rfl (by kernel_rfl) (fun _ _ _ h => h) gnone (TTany _) (p_move rfl) rfl ?_
   refine fixA (slen (m' := 0) hw0) ?_
   refine tk 6 rfl (by kernel_rfl) (fun _ _ _ h => h) gnone (TTany _) (p_move rfl) rfl ?_
   refine tk 7 rfl (by kernel_rfl) (fun _ _ _ h => h) gnone (TTany _) (p_move rfl) rfl ?_
   refine tk 8 rfl (by kernel_rfl) (fun _ _ _ h => h) gnone (TTany _) (p_move rfl) rfl ?_
   refine tk 9 rfl (by kernel_rfl) (fun _ _ _ h => h) gnone (TTany _) (p_lenl rfl Tryz.underlying37) rfl ?_
   refine tk 10 rfl (by kernel_rfl) (fun _ _ _ h => h) gnone (TTany _) (p_add rfl rfl (by omega)) rfl ?_
   refine tk 11 rfl (by kernel_rfl) (fun _ _ _ h => h) gnone (TTany _) (p_sll (k + old.length) (by omega) (by omega) (by omega) Tryz.underlying37 Tryz.sizeOf9 rfl rfl) rfl ?_
   refine fixA (slen (m' := 0) (by omega)) ?_
   refine df 5 (by kernel_rfl) ?_
   refine doR rfl (op (p_app0 Tryz.underlying37 inf9x (Nat.le_refl _) rfl rfl) rfl) TOk.d ?_
   refine df 12 (by kernel_rfl) ?_
   refine doR rfl (op (p_app0 Tryz.underlying37 inf9x (Nat.le_refl _) rfl rfl) rfl) TOk.d ?_
   refine df 13 (by kernel_rfl) ?_
   refine doR rfl (o_call (is := []) Tryz.call74 (c_sCloneR (l.take k) _ _ (by omega)) rfl rfl (by repeat' (first | constructor | apply Sub.suf)) rfl) TOk.d ?_
   refine ea ?_; rintro ⟨A5, c5⟩
   refine tk 14 rfl (by kernel_rfl) (fun _ _ _ h => h) gnone (TTany _) (p_asg rfl) rfl ?_
   refine tk 15 rfl (by kernel_rfl) (fun _ _ _ h => h) gnone (TTany _) (p_asg rfl) rfl ?_
   refine dn (by kernel_rfl) ?_
   refine nthen ?_
   refine cret ?_
   refine xret (fun _ _ h => h) ?_
   rw [hR]
   refine rret (is := [0]) (A5, c5) (Or.inl rfl) (Res.t rfl (Res.t rfl Res.d)) (rfl) rfl (by repeat' (first | constructor | apply Sub.suf))
  ·
   have hR : l.take k ++ wi ++ l.drop (k + old.length) = l.take k ++ l.drop (k + old.length) := by rw [hwi]; simp
   have hw0 : wi.length = 0 := by rw [hwi]; rfl
   refine cd [5, 12, 13] [] TryzX.mixed TOk.d ?_
   refine tk 0 rfl (by kernel_rfl) (fun _ _ _ h => h) gnone (TTany _) (p_move rfl) rfl ?_
   refine tk 1 rfl (by kernel_rfl) (fun _ _ _ h => h) gnone (TTany _) (p_move rfl) rfl ?_
   refine tk 2 rfl (by kernel_rfl) (fun _ _ _ h => h) gnone (TTany _) (p_move rfl) rfl ?_
   refine tk 3 rfl (by kernel_rfl) (fun _ _ _ h => h) gnone (TTany _) (p_slm k k (Nat.le_refl _) (by omega) rfl rfl Tryz.underlying37 Tryz.sizeOf9 rfl rfl rfl) rfl ?_
   refine fixA (slen2 (m' := (l.take k).length) (c' := (l.take k).length) (by omega) (by omega)) ?_
   refine tk 4 rfl (by kernel_rfl) (fun _ _ _ h => h) gnone (TTany _) (p_move rfl) rfl ?_
   refine fixA (slen (m' := 0) hw0) ?_
   refine tk 6 rfl (by kernel_rfl) (fun _ _ _ h => h) gnone (TTany _) (p_move rfl) rfl ?_
   refine tk 7 rfl (by kernel_rfl) (fun _ _ _ h => h) gnone (TTany _) (p_move rfl) rfl ?_
   refine tk 8 rfl (by kernel_rfl) (fun _ _ _ h => h) gnone (TTany _) (p_move rfl) rfl ?_
   refine tk 9 rfl (by kernel_rfl) (fun _ _ _ h => h) gnone (TTany _) (p_lenl rfl Tryz.underlying37) rfl ?_
   refine tk 10 rfl (by kernel_rfl) (fun _ _ _ h => h) gnone (TTany _) (p_add rfl rfl (by omega)) rfl ?_
   refine tk 11 rfl (by kernel_rfl) (fun _ _ _ h => h) gnone (TTany _) (p_sll (k + old.length) (by omega) (by omega) (by omega) Tryz.underlying37 Tryz.sizeOf9 rfl rfl) rfl ?_
   refine fixA (slen (m' := (l.drop (k + old.length)).length) (by omega)) ?_
   refine df 5 (by kernel_rfl) ?_
   refine doR rfl (op (p_app0 Tryz.underlying37 inf9x (Nat.le_refl _) rfl rfl) rfl) TOk.d ?_
   refine df 12 (by kernel_rfl) ?_
   refine doR rfl (o_appF Tryz.underlying37 inf9 rfl (by decide) (by decide) rfl rfl rfl (by rw [hlk, hld]; omega) hdr (by repeat' (first | constructor | apply Sub.suf)) rfl) TOk.d ?_
   refine ea ?_; rintro ⟨A4, c4⟩
   refine amono (fun a w h => Go.Sx.freeze (i := 0) rfl h) ?_
   refine df 13 (by kernel_rfl) ?_
   refine doR rfl (o_call (is := []) Tryz.call74 (c_sCloneR (l.take k ++ l.drop (k + old.length)) A4 c4 (by rw [List.length_append]; omega)) rfl rfl (by repeat' (first | constructor | apply Sub.suf)) rfl) TOk.d ?_
   refine ea ?_; rintro ⟨A5, c5⟩
   refine tk 14 rfl (by kernel_rfl) (fun _ _ _ h => h) gnone (TTany _) (p_asg rfl) rfl ?_
   refine tk 15 rfl (by kernel_rfl) (fun _ _ _ h => h) gnone (TTany _) (p_asg rfl) rfl ?_
   refine dn (by kernel_rfl) ?_
   refine nthen ?_
   refine cret ?_
   refine xret (fun _ _ h => h) ?_
   rw [hR]
   refine rret (is := [0]) (A5, c5) (Or.inl rfl) (Res.t rfl (Res.t rfl Res.d)) (rfl) rfl (by repeat' (first | constructor | apply Sub.suf))
  ·
   have hR : l.take k ++ wi ++ l.drop (k + old.length) = l.take k ++ wi ++ l.drop (k + old.length) := rfl
   refine cd [5, 12, 13] [] TryzX.mixed TOk.d ?_
   refine tk 0 rfl (by kernel_rfl) (fun _ _ _ h => h) gnone (TTany _) (p_move rfl) rfl ?_
   refine tk 1 rfl (by kernel_rfl) (fun _ _ _ h => h) gnone (TTany _) (p_move rfl) rfl ?_
   refine tk 2 rfl (by kernel_rfl) (fun _ _ _ h => h) gnone (TTany _) (p_move rfl) rfl ?_
   refine tk 3 rfl (by kernel_rfl) (fun _ _ _ h => h) gnone (TTany _) (p_slm k k (Nat.le_refl _) (by omega) rfl rfl Tryz.underlying37 Tryz.sizeOf9 rfl rfl rfl) rfl ?_
   refine fixA (slen2 (m' := (l.take k).length) (c' := (l.take k).length) (by omega) (by omega)) ?_
   refine tk 4 rfl (by kernel_rfl) (fun _ _ _ h => h) gnone (TTany _) (p_move rfl) rfl ?_
   skip
   refine tk 6 rfl (by kernel_rfl) (fun _ _ _ h => h) gnone (TTany _) (p_move rfl) rfl ?_
   refine tk 7 rfl (by kernel_rfl) (fun _ _ _ h => h) gnone (TTany _) (p_move rfl) rfl ?_
   refine tk 8 rfl (by kernel_rfl) (fun _ _ _ h => h) gnone (TTany _) (p_move rfl) rfl ?_
   refine tk 9 rfl (by kernel_rfl) (fun _ _ _ h => h) gnone (TTany _) (p_lenl rfl Tryz.underlying37) rfl ?_
   refine tk 10 rfl (by kernel_rfl) (fun _ _ _ h => h) gnone (TTany _) (p_add rfl rfl (by omega)) rfl ?_
   refine tk 11 rfl (by kernel_rfl) (fun _ _ _ h => h) gnone (TTany _) (p_sll (k + old.length) (by omega) (by omega) (by omega) Tryz.underlying37 Tryz.sizeOf9 rfl rfl) rfl ?_
   refine fixA (slen (m' := (l.drop (k + old.length)).length) (by omega)) ?_
   refine df 5 (by kernel_rfl) ?_
   refine doR rfl (o_appF Tryz.underlying37 inf9 rfl (by decide) (by decide) rfl rfl rfl (by rw [hlk]; omega) hwi (by repeat' (first | constructor | apply Sub.suf)) rfl) TOk.d ?_
   refine ea ?_; rintro ⟨A3, c3⟩
   refine df 12 (by kernel_rfl) ?_
   refine doR rfl (o_appX (i := 0) Tryz.underlying37 inf9 rfl (by decide) (by decide) rfl rfl (by rw [List.length_append, hlk, hld]; omega) rfl (by repeat' (first | constructor | apply Sub.suf)) rfl) TOk.d ?_
   refine ea ?_; rintro ⟨A4, c4⟩
   refine amono (fun a w h => Go.Sx.freeze (i := 0) rfl h) ?_
   refine df 13 (by kernel_rfl) ?_
   refine doR rfl (o_call (is := []) Tryz.call74 (c_sCloneR (l.take k ++ wi ++ l.drop (k + old.length)) A4 c4 (by rw [List.length_append, List.length_append]; omega)) rfl rfl (by repeat' (first | constructor | apply Sub.suf)) rfl) TOk.d ?_
   refine ea ?_; rintro ⟨A5, c5⟩
   refine tk 14 rfl (by kernel_rfl) (fun _ _ _ h => h) gnone (TTany _) (p_asg rfl) rfl ?_
   refine tk 15 rfl (by kernel_rfl) (fun _ _ _ h => h) gnone (TTany _) (p_asg rfl) rfl ?_
   refine dn (by kernel_rfl) ?_
   refine nthen ?_
   refine cret ?_
   refine xret (fun _ _ h => h) ?_
   refine rret (is := [0]) (A5, c5) (Or.inl rfl) (Res.t rfl (Res.t rfl Res.d)) (rfl) rfl (by repeat' (first | constructor | apply Sub.suf))

set_option maxRecDepth 100000 in
theorem c_pFits (e : Int) : Con Tryz.prog 103 [.int .i64 e] [] [] Unit (fun _ => .int .i64 (if e = 0 then 0 else 31)) (fun _ => []) (fun _ => []) := by
 refine con Tryz.func103 rfl Tryz.ntmps103 rfl ?_
 intro M0 F0 w0
 refine cs ?_
 refine cr ?_
 refine ls (op (p_asg rfl) rfl) ?_
 refine ln ?_
 refine nthen ?_
 refine cs ?_
 refine cs ?_
 refine cr ?_
 refine ls (op (p_move rfl) rfl) ?_
 refine ls (op (p_icmp rfl rfl rfl) rfl) ?_
 refine ln ?_
 refine nthen ?_
 refine cc rfl ?_ ?_
 ·
  intro h4
  have he : ¬ e = 0 := by simpa using h4
  refine cs ?_
  refine cr ?_
  refine ls (op (p_asg rfl) rfl) ?_
  refine ln ?_
  refine nthen ?_
  refine cret ?_
  refine xret (fun _ _ h => h) ?_
  refine rret (is := []) () (Or.inl rfl) (Res.t rfl Res.d) ?_ rfl (by repeat' (first | constructor | apply Sub.suf))
  rw [if_neg he]; rfl
 ·
  intro h4
  have he : e = 0 := by simpa using h4
  refine cskip ?_
  refine nthen ?_
  refine cs ?_
  refine cr ?_
  refine ls (op (p_asg rfl) rfl) ?_
  refine ln ?_
  refine nthen ?_
  refine cret ?_
  refine xret (fun _ _ h => h) ?_
  refine rret (is := []) () (Or.inl rfl) (Res.t rfl Res.d) ?_ rfl (by repeat' (first | constructor | apply Sub.suf))
  rw [if_pos he]; rfl

set_option maxRecDepth 100000 in
theorem c_pCalls : Con Tryz.prog 105 [] [] [] Nat (fun b => .map (some b)) (fun b => [obj b (.map #[{ key := .int .i64 1, val := .func (.func 25) #[] #[], born := 0 }, { key := .int .i64 2, val := .func (.func 129) #[] #[], born := 1 }] 2)]) (fun _ => []) := by
 refine con Tryz.func105 rfl Tryz.ntmps105 rfl ?_
 intro M0 F0 w0
 refine cs ?_
 refine cr ?_
 refine ls (op (p_asg rfl) rfl) ?_
 refine ln ?_
 refine nthen ?_
 refine cs ?_
 refine cr ?_
 refine ls (o_mmkx rfl) ?_
 refine le ?_; intro m1
 refine ls (o_insx Tryz.underlying157 Tryz.underlying3 rfl rfl rfl rfl (by repeat' constructor) (by repeat' constructor)) ?_
 refine ls (o_insx Tryz.underlying157 Tryz.underlying3 rfl rfl rfl rfl (by repeat' constructor) (by repeat' constructor)) ?_
 refine ls (op (p_move rfl) rfl) ?_
 refine ls (op (p_asg rfl) rfl) ?_
 refine ln ?_
 refine nthen ?_
 refine cret ?_
 refine xret (fun _ _ h => h) ?_
 refine rret (is := [0]) m1 (Or.inl rfl) (Res.t rfl Res.d) (rfl) rfl (by repeat' (first | constructor | apply Sub.suf))

end Go.Proofs.YtdbiillompeclaaGreatDoor.X

end
section
set_option linter.unusedVariables false
set_option linter.unusedSimpArgs false
namespace Go.Proofs.YtdbiillompeclaaGreatDoor.X
open Go Go.RowKit Go.Proofs Go.Sx
attribute [local irreducible] slA isA box row


set_option maxRecDepth 100000 in
theorem c_pHunk (p b : Nat) (T : List File) (pr : Prim) (y : Rp.Lay Prim) (hp : pr.fit) (hT : Tfit T) (hb : ∀ u, (getL T u).length + pr.new.length ≤ 2000000) : Con Tryz.prog 102 [.pointer (some ⟨p, 0, none⟩), sv pr y] [box p 120 [.map (some b)], tr b T] (Rp.asn pr y) {q : List File × Int // q = hunkT T pr} (fun q => .int .i64 q.1.2) (fun q => [box p 120 [.map (some b)], tr b q.1.1]) (fun _ => []) := by
 refine con Tryz.func102 rfl Tryz.ntmps102 rfl ?_
 intro M0 F0 w0
 refine cs ?_
 refine cr ?_
 refine ls (o_box rfl rfl rfl) ?_
 refine le ?_; intro b3
 refine ls (op (p_asg rfl) rfl) ?_
 refine ln ?_
 refine nthen ?_
 refine cs ?_
 refine cr ?_
 refine ls (op (p_move rfl) rfl) ?_
 refine ls (op (p_fa fa39_1 rfl) rfl) ?_
 refine ls (o_ld Tryz.isAgg9 rfl (by repeat' constructor) (by repeat' constructor) rfl) ?_
 refine ls (o_call (is := [1, 1]) Tryz.call28 (c_tGet p b T hT pr.name) rfl rfl (by repeat' (first | constructor | apply Sub.suf)) rfl) ?_
 refine le ?_; rintro ⟨A1, c1⟩
 refine lpure (St.rowcap (α := ByteArray) (e := 9) (by repeat' constructor)) ?_
 intro hcap
 refine lmono (fun a w h => freezeN (i := 0) rfl h) ?_
 refine ls (op (p_move rfl) rfl) ?_
 refine ls (op (p_ext rfl (by repeat' constructor)) rfl) ?_
 refine ls (op (p_ext rfl (by repeat' constructor)) rfl) ?_
 refine ls (op (p_asg rfl) rfl) ?_
 refine ls (op (p_asg rfl) rfl) ?_
 refine ln ?_
 refine nthen ?_
 refine cs ?_
 refine cr ?_
 refine ls (op (p_move rfl) rfl) ?_
 refine ls (op (p_fa fa39_3 rfl) rfl) ?_
 refine ls (o_ld Tryz.isAgg3 rfl (by repeat' constructor) (by repeat' constructor) rfl) ?_
 refine ls (op (p_fa fa39_4 rfl) rfl) ?_
 refine ls (o_ld Tryz.isAgg37 rfl (by repeat' constructor) (by repeat' constructor) rfl) ?_
 refine ls (op (p_fa fa39_5 rfl) rfl) ?_
 refine ls (o_ld Tryz.isAgg37 rfl (by repeat' constructor) (by repeat' constructor) rfl) ?_
 refine ls (o_call (is := []) Tryz.call139 (c_lineSplice (getL T pr.name) pr.old pr.new A1 y.1.1 y.2.1 c1 y.1.2 y.2.2 pr.pos (hT.get _) hp.o (hb _) hcap) rfl rfl (by repeat' (first | constructor | apply Sub.suf)) rfl) ?_
 refine le ?_; rintro ⟨A2, c2⟩
 refine lmono (fun a w h => freezeN (i := 0) rfl h) ?_
 refine ls (op (p_move rfl) rfl) ?_
 refine ls (op (p_ext rfl (by repeat' constructor)) rfl) ?_
 refine ls (op (p_ext rfl (by repeat' constructor)) rfl) ?_
 refine ls (op (p_asg rfl) rfl) ?_
 refine ls (op (p_asg rfl) rfl) ?_
 refine ln ?_
 refine nthen ?_
 refine cs ?_
 refine cs ?_
 refine cr ?_
 refine ls (op (p_move rfl) rfl) ?_
 refine ls (op (p_not rfl) rfl) ?_
 refine ls (op (p_move rfl) rfl) ?_
 refine splitL 29 rfl ?_ ?_
 ·
  intro h29
  have hno : hasT T pr.name = false := by simpa using h29
  refine lskip rfl rfl rfl rfl rfl ?_
  refine lskip rfl rfl rfl rfl rfl ?_
  refine ls (op (p_pickt rfl rfl) rfl) ?_
  refine ln ?_
  refine nthen ?_
  refine cc rfl (fun h => ?_) (fun h => by cases h)
  refine cs ?_
  refine cr ?_
  refine ls (op (p_asg rfl) rfl) ?_
  refine ln ?_
  refine nthen ?_
  refine cret ?_
  refine xret (fun _ _ h => h) ?_
  refine rret (is := [0, 0]) ⟨(T, 31), by simp [hunkT, hno]⟩ (Or.inl rfl) (Res.t rfl Res.d) (rfl) rfl (by repeat' (first | constructor | apply Sub.suf))
 ·
  intro h29
  have hyes : hasT T pr.name = true := by simpa using h29
  refine lwant rfl rfl rfl rfl (op (p_move rfl) rfl) ?_
  refine lwant rfl rfl rfl rfl (op (p_not rfl) rfl) ?_
  refine ls (op (p_pickf rfl rfl) rfl) ?_
  refine ln ?_
  refine nthen ?_
  refine cc rfl ?_ ?_
  ·
   intro h32
   have hst : standsB (getL T pr.name) pr.pos pr.old = false := by simpa using h32
   refine cs ?_
   refine cr ?_
   refine ls (op (p_asg rfl) rfl) ?_
   refine ln ?_
   refine nthen ?_
   refine cret ?_
   refine xret (fun _ _ h => h) ?_
   refine rret (is := [0, 0]) ⟨(T, 31), by simp [hunkT, hst]⟩ (Or.inl rfl) (Res.t rfl Res.d) (rfl) rfl (by repeat' (first | constructor | apply Sub.suf))
  ·
   intro h32
   have hst : standsB (getL T pr.name) pr.pos pr.old = true := by simpa using h32
   refine cskip ?_
   refine nthen ?_
   refine cs ?_
   refine cr ?_
   refine ls (op (p_move rfl) rfl) ?_
   refine ls (op (p_fa fa39_1 rfl) rfl) ?_
   refine ls (o_ld Tryz.isAgg9 rfl (by repeat' constructor) (by repeat' constructor) rfl) ?_
   refine ls (op (p_move rfl) rfl) ?_
   refine ls (o_call (is := [0, 0]) Tryz.call26 (c_tPut p b T pr.name (splT (getL T pr.name) pr.pos pr.old pr.new) A2 c2 (Nat.le_trans splT_len (hb _))) rfl rfl (by repeat' (first | constructor | apply Sub.suf)) rfl) ?_
   refine le ?_; rintro ⟨⟨T1, e1⟩, hq⟩
   refine ls (o_call (is := []) Tryz.call103 (c_pFits e1) rfl rfl (by repeat' (first | constructor | apply Sub.suf)) rfl) ?_
   refine le ?_; intro x38
   refine ls (op (p_asg rfl) rfl) ?_
   refine ln ?_
   refine nthen ?_
   refine cret ?_
   refine xret (fun _ _ h => h) ?_
   refine rret (is := [0, 0]) ⟨(T1, if e1 = 0 then 0 else 31), by unfold hunkT; rw [if_neg (show ¬ (hasT T pr.name = false ∨ standsB (getL T pr.name) pr.pos pr.old = false) by simp [hyes, hst]), ← hq]; rfl⟩ (Or.inl rfl) (Res.t rfl Res.d) (rfl) rfl (by repeat' (first | constructor | apply Sub.suf))

set_option maxRecDepth 100000 in
theorem c_pApply (p b : Nat) (T : List File) (pr : Prim) (y : Rp.Lay Prim) (hp : pr.fit) (hT : Tfit T) (hb : ∀ u, (getL T u).length + pr.new.length ≤ 2000000) : Con Tryz.prog 51 [.pointer (some ⟨p, 0, none⟩), sv pr y] [box p 120 [.map (some b)], tr b T] (Rp.asn pr y) {q : List File × Int // q = applyT T pr} (fun q => .int .i64 q.1.2) (fun q => [box p 120 [.map (some b)], tr b q.1.1]) (fun _ => []) := by
 refine con Tryz.func51 rfl Tryz.ntmps51 rfl ?_
 intro M0 F0 w0
 refine cs ?_
 refine cr ?_
 refine ls (o_box rfl rfl rfl) ?_
 refine le ?_; intro b3
 refine ls (op (p_asg rfl) rfl) ?_
 refine ln ?_
 refine nthen ?_
 refine cs ?_
 refine cb ?_
 refine cs ?_
 refine cr ?_
 refine ls (o_ldw Tryz.isAgg39 Tryz.sizeOf39 rfl (by repeat' constructor) (by rfl) rfl) ?_
 refine ls (o_call (is := []) Tryz.call101 (c_primRight pr y hp) rfl rfl (by repeat' (first | constructor | apply Sub.suf)) rfl) ?_
 refine le ?_; intro x7
 refine ls (op (p_not rfl) rfl) ?_
 refine ls (op (p_asg rfl) rfl) ?_
 refine ln ?_
 refine nthen ?_
 refine cc rfl ?_ ?_
 ·
  intro h5
  have hr : pr.right = false := by simpa using h5
  refine cs ?_
  refine cr ?_
  refine ls (op (p_asg rfl) rfl) ?_
  refine ln ?_
  refine nthen ?_
  refine cret ?_
  refine xret (fun _ _ h => h) ?_
  refine rret (is := [1, 1]) ⟨(T, 30), by simp [applyT, hr]⟩ (Or.inl rfl) (Res.t rfl Res.d) (rfl) rfl (by repeat' (first | constructor | apply Sub.suf))
 ·
  intro h5
  have hr : pr.right = true := by simpa using h5
  have hr0 : ¬ pr.right = false := by rw [hr]; decide
  refine cs ?_
  refine cr ?_
  refine ls (op (p_fa fa39_0 rfl) rfl) ?_
  refine ls (o_ld Tryz.isAgg3 rfl (by repeat' constructor) (by repeat' constructor) rfl) ?_
  refine ls (op (p_icmp rfl rfl rfl) rfl) ?_
  refine ls (op (p_asg rfl) rfl) ?_
  refine ln ?_
  refine nthen ?_
  refine cc rfl ?_ ?_
  ·
   intro h9
   have k0 : pr.kind = 0 := by simpa using h9
   refine cs ?_
   refine cr ?_
   refine ls (op (p_move rfl) rfl) ?_
   refine ls (o_ldw Tryz.isAgg39 Tryz.sizeOf39 rfl (by repeat' constructor) (by rfl) rfl) ?_
   refine ls (o_call (is := [1, 1]) Tryz.call102 (c_pHunk p b T pr y hp hT hb) rfl rfl (by repeat' (first | constructor | apply Sub.suf)) rfl) ?_
   refine le ?_; rintro ⟨⟨T1, e1⟩, hq⟩
   refine ls (op (p_asg rfl) rfl) ?_
   refine ln ?_
   refine nthen ?_
   refine cret ?_
   refine xret (fun _ _ h => h) ?_
   refine rret (is := [0, 0]) ⟨(T1, e1), by unfold applyT; rw [if_neg hr0, if_pos k0]; exact hq⟩ (Or.inl rfl) (Res.t rfl Res.d) (rfl) rfl (by repeat' (first | constructor | apply Sub.suf))
  ·
   intro h9
   have k0 : ¬ pr.kind = 0 := by simpa using h9
   refine cs ?_
   refine cr ?_
   refine ls (op (p_fa fa39_0 rfl) rfl) ?_
   refine ls (o_ld Tryz.isAgg3 rfl (by repeat' constructor) (by repeat' constructor) rfl) ?_
   refine ls (op (p_icmp rfl rfl rfl) rfl) ?_
   refine ls (op (p_asg rfl) rfl) ?_
   refine ln ?_
   refine nthen ?_
   refine cc rfl ?_ ?_
   ·
    intro h16
    have k3 : pr.kind = 3 := by simpa using h16
    refine cs ?_
    refine cr ?_
    refine ls (op (p_move rfl) rfl) ?_
    refine ls (op (p_fa fa39_1 rfl) rfl) ?_
    refine ls (o_ld Tryz.isAgg9 rfl (by repeat' constructor) (by repeat' constructor) rfl) ?_
    refine ls (op (p_fa fa39_2 rfl) rfl) ?_
    refine ls (o_ld Tryz.isAgg9 rfl (by repeat' constructor) (by repeat' constructor) rfl) ?_
    refine ls (o_call (is := [1, 1]) Tryz.call104 (c_tMove p b T pr.name pr.to) rfl rfl (by repeat' (first | constructor | apply Sub.suf)) rfl) ?_
    refine le ?_; rintro ⟨⟨T1, e1⟩, hq⟩
    refine ls (o_call (is := []) Tryz.call103 (c_pFits e1) rfl rfl (by repeat' (first | constructor | apply Sub.suf)) rfl) ?_
    refine le ?_; intro x26
    refine ls (op (p_asg rfl) rfl) ?_
    refine ln ?_
    refine nthen ?_
    refine cret ?_
    refine xret (fun _ _ h => h) ?_
    refine rret (is := [0, 0]) ⟨(T1, if e1 = 0 then 0 else 31), by unfold applyT; rw [if_neg hr0, if_neg k0, if_pos k3, ← hq]; rfl⟩ (Or.inl rfl) (Res.t rfl Res.d) (rfl) rfl (by repeat' (first | constructor | apply Sub.suf))
   ·
    intro h16
    have k3 : ¬ pr.kind = 3 := by simpa using h16
    refine cskip ?_
    refine nblock ?_
    refine nthen ?_
    refine cs ?_
    have h12 : pr.kind = 1 ∨ pr.kind = 2 := by rcases right_kind hr with h | h | h | h; exact absurd h k0; exact .inl h; exact .inr h; exact absurd h k3
    rcases h12 with k1 | k1
    ·
     refine cd [0, 3, 7, 8] [(2, b3, 0, _), (6, b3, 1, _)] TryzX.mixed (TOk.t (isBoxS (by repeat' constructor) (k := 1) (by repeat (first | exact Cut.d | apply Cut.t | apply Cut.s))) (TOk.t (isBoxS (by repeat' constructor) (k := 1) (by repeat (first | exact Cut.d | apply Cut.t | apply Cut.s))) TOk.d)) ?_
     refine tk 1 rfl (by kernel_rfl) (fun _ _ _ h => h) gnone (TTany _) (p_fa fa39_0 rfl) rfl ?_
     refine tk 2 rfl (by kernel_rfl) (fun _ _ _ h => h) gnone (TTat (List.Mem.head _)) (p_ld Tryz.isAgg3 rfl) rfl ?_
     refine fixA (congrArg (Value.int .i64) k1) ?_
     refine tk 4 rfl (by kernel_rfl) (fun _ _ _ h => h) gnone (TTany _) (p_move rfl) rfl ?_
     refine tk 5 rfl (by kernel_rfl) (fun _ _ _ h => h) gnone (TTany _) (p_fa fa39_1 rfl) rfl ?_
     refine tk 6 rfl (by kernel_rfl) (fun _ _ _ h => h) gnone (TTat (List.Mem.tail _ (List.Mem.head _))) (p_ld Tryz.isAgg9 rfl) rfl ?_
     refine df 0 (by kernel_rfl) ?_
     refine doR rfl (o_call (is := []) Tryz.call105 (c_pCalls) rfl rfl (by repeat' (first | constructor | apply Sub.suf)) rfl) (TOk.t (isBoxE fun _ => isBoxS (by repeat' constructor) (k := 1) (by repeat (first | exact Cut.d | apply Cut.t | apply Cut.s))) (TOk.t (isBoxE fun _ => isBoxS (by repeat' constructor) (k := 1) (by repeat (first | exact Cut.d | apply Cut.t | apply Cut.s))) TOk.d)) ?_
     refine ea ?_; intro bm
     refine df 3 (by kernel_rfl) ?_
     refine doR rfl (o_lookx Tryz.underlying157 Tryz.underlying3 rfl rfl (by repeat' constructor) (rfl) rfl) (TOk.x (by kernel_rfl) (TOk.t (isBoxS (by repeat' constructor) (k := 1) (by repeat (first | exact Cut.d | apply Cut.t | apply Cut.s))) TOk.d)) ?_
     refine df 7 (by kernel_rfl) ?_
     refine doR rfl (o_callv (is := [2, 2]) rfl Tryz.call25 (c_tAdd p b T pr.name) rfl rfl rfl (by repeat' (first | constructor | apply Sub.suf)) rfl) (TOk.x (by kernel_rfl) (TOk.x (by kernel_rfl) TOk.d)) ?_
     refine ea ?_; rintro ⟨⟨T1, e1⟩, hq⟩
     refine df 8 (by kernel_rfl) ?_
     refine doR rfl (o_call (is := []) Tryz.call103 (c_pFits e1) rfl rfl (by repeat' (first | constructor | apply Sub.suf)) rfl) (TOk.x (by kernel_rfl) (TOk.x (by kernel_rfl) TOk.d)) ?_
     refine ea ?_; intro x35
     refine tk 9 rfl (by kernel_rfl) (fun _ _ _ h => h) gnone (TTany _) (p_asg rfl) rfl ?_
     refine dn (by kernel_rfl) ?_
     refine nthen ?_
     refine cret ?_
     refine xret (fun _ _ h => h) ?_
     refine rret (is := [0, 0]) ⟨(T1, if e1 = 0 then 0 else 31), by unfold applyT; rw [if_neg hr0, if_neg k0, if_neg k3, if_pos k1, ← hq]; rfl⟩ (Or.inl rfl) (Res.t rfl Res.d) (rfl) rfl (by repeat' (first | constructor | apply Sub.suf))
    ·
     refine cd [0, 3, 7, 8] [(2, b3, 0, _), (6, b3, 1, _)] TryzX.mixed (TOk.t (isBoxS (by repeat' constructor) (k := 1) (by repeat (first | exact Cut.d | apply Cut.t | apply Cut.s))) (TOk.t (isBoxS (by repeat' constructor) (k := 1) (by repeat (first | exact Cut.d | apply Cut.t | apply Cut.s))) TOk.d)) ?_
     refine tk 1 rfl (by kernel_rfl) (fun _ _ _ h => h) gnone (TTany _) (p_fa fa39_0 rfl) rfl ?_
     refine tk 2 rfl (by kernel_rfl) (fun _ _ _ h => h) gnone (TTat (List.Mem.head _)) (p_ld Tryz.isAgg3 rfl) rfl ?_
     refine fixA (congrArg (Value.int .i64) k1) ?_
     refine tk 4 rfl (by kernel_rfl) (fun _ _ _ h => h) gnone (TTany _) (p_move rfl) rfl ?_
     refine tk 5 rfl (by kernel_rfl) (fun _ _ _ h => h) gnone (TTany _) (p_fa fa39_1 rfl) rfl ?_
     refine tk 6 rfl (by kernel_rfl) (fun _ _ _ h => h) gnone (TTat (List.Mem.tail _ (List.Mem.head _))) (p_ld Tryz.isAgg9 rfl) rfl ?_
     refine df 0 (by kernel_rfl) ?_
     refine doR rfl (o_call (is := []) Tryz.call105 (c_pCalls) rfl rfl (by repeat' (first | constructor | apply Sub.suf)) rfl) (TOk.t (isBoxE fun _ => isBoxS (by repeat' constructor) (k := 1) (by repeat (first | exact Cut.d | apply Cut.t | apply Cut.s))) (TOk.t (isBoxE fun _ => isBoxS (by repeat' constructor) (k := 1) (by repeat (first | exact Cut.d | apply Cut.t | apply Cut.s))) TOk.d)) ?_
     refine ea ?_; intro bm
     refine df 3 (by kernel_rfl) ?_
     refine doR rfl (o_lookx Tryz.underlying157 Tryz.underlying3 rfl rfl (by repeat' constructor) (rfl) rfl) (TOk.x (by kernel_rfl) (TOk.t (isBoxS (by repeat' constructor) (k := 1) (by repeat (first | exact Cut.d | apply Cut.t | apply Cut.s))) TOk.d)) ?_
     refine df 7 (by kernel_rfl) ?_
     refine doR rfl (o_callv (is := [2, 2]) rfl Tryz.call129 (c_tRem p b T pr.name) rfl rfl rfl (by repeat' (first | constructor | apply Sub.suf)) rfl) (TOk.x (by kernel_rfl) (TOk.x (by kernel_rfl) TOk.d)) ?_
     refine ea ?_; rintro ⟨⟨T1, e1⟩, hq⟩
     refine df 8 (by kernel_rfl) ?_
     refine doR rfl (o_call (is := []) Tryz.call103 (c_pFits e1) rfl rfl (by repeat' (first | constructor | apply Sub.suf)) rfl) (TOk.x (by kernel_rfl) (TOk.x (by kernel_rfl) TOk.d)) ?_
     refine ea ?_; intro x35
     refine tk 9 rfl (by kernel_rfl) (fun _ _ _ h => h) gnone (TTany _) (p_asg rfl) rfl ?_
     refine dn (by kernel_rfl) ?_
     refine nthen ?_
     refine cret ?_
     refine xret (fun _ _ h => h) ?_
     refine rret (is := [0, 0]) ⟨(T1, if e1 = 0 then 0 else 31), by unfold applyT; rw [if_neg hr0, if_neg k0, if_neg k3, if_neg (show ¬ pr.kind = 1 by omega), ← hq]; rfl⟩ (Or.inl rfl) (Res.t rfl Res.d) (rfl) rfl (by repeat' (first | constructor | apply Sub.suf))

end Go.Proofs.YtdbiillompeclaaGreatDoor.X

end
section
set_option linter.unusedVariables false
set_option linter.unusedSimpArgs false
namespace Go.Sx
open Go Go.RowKit

/-! What undoes a prim, undoes it; how large trees grow. -/
theorem sortB_eq {l m : List ByteArray} (hp : l.Perm m) (hs : m.Pairwise fun a b => ofB a ≤ ofB b) : sortB l = m := by
  unfold sortB
  have e : (l.map ofB).mergeSort (fun x y => decide (x ≤ y)) = m.map ofB := by
    refine List.Perm.eq_of_pairwise (le := fun a b : List UInt8 => decide (a ≤ b) = true) (fun a b _ _ h1 h2 => List.le_antisymm (by simpa using h1) (by simpa using h2)) (List.pairwise_mergeSort ?_ ?_ _) ?_ ?_
    · intro a b c h1 h2
      simp only [decide_eq_true_eq] at *
      exact List.le_trans h1 h2
    · intro a b
      simp only [Bool.or_eq_true, decide_eq_true_eq]
      exact List.le_total a b
    · rw [List.pairwise_map]
      exact hs.imp fun {a b} hab => by simpa using hab
    · exact (List.mergeSort_perm _ _).trans (hp.map ofB)
  rw [e]
  simp [Function.comp_def, toB_ofB]
theorem sortB_names (p : Prim) : sortB p.names = refNames p := by
  refine sortB_eq (refNames_perm p).symm ?_
  unfold refNames
  split
  · split
    · rename_i h
      rw [less_kl] at h
      have h' : kl p.name p.to := by simpa using h
      simp only [List.pairwise_cons, List.mem_cons, List.mem_nil_iff, or_false, forall_eq, List.not_mem_nil, false_imp_iff, implies_true, List.Pairwise.nil, and_true]
      exact List.le_of_lt h'
    · rename_i h
      rw [less_kl] at h
      have h' : ¬ kl p.name p.to := by simpa using h
      simp only [List.pairwise_cons, List.mem_cons, List.mem_nil_iff, or_false, forall_eq, List.not_mem_nil, false_imp_iff, implies_true, List.Pairwise.nil, and_true]
      exact List.not_lt.1 h'
  · simp
theorem flip_fit' {p : Prim} (h : p.fit) : p.flip.fit := by
  obtain ⟨h1, h2, h3, h4, h5, h6⟩ := h
  unfold Prim.flip
  repeat' split
  all_goals exact ⟨by assumption, by assumption, by assumption, by assumption, by assumption, by assumption⟩
theorem fitP {p : Prim} (h : p.many ≤ 2000000) : p.fit := by
  unfold Prim.many at h
  exact ⟨by omega, by omega, by omega, by omega, fun s hs => by have := sizes_mem1 hs; omega, fun s hs => by have := sizes_mem1 hs; omega⟩
def Lmax (m : Nat) (T : List File) : Prop := ∀ x ∈ T, x.2.length ≤ m
theorem Lmax.get {m : Nat} {T : List File} (h : Lmax m T) (u : ByteArray) : (getL T u).length ≤ m := by
  unfold getL getT
  cases e : T.find? (fun x => decide (x.1 = u)) with
  | none => simp
  | some x => simpa using h x (List.mem_of_find?_eq_some e)
theorem Lmax.mono {m m' : Nat} {T : List File} (h : Lmax m T) (hm : m ≤ m') : Lmax m' T := fun x hx => Nat.le_trans (h x hx) hm
theorem Lmax.put {m : Nat} {T : List File} (h : Lmax m T) {k : ByteArray} {l : List ByteArray} (hl : l.length ≤ m) : Lmax m (putT T k l) := fun x hx => by
  rcases mem_putT.1 hx with rfl | ⟨h1, _⟩
  · exact hl
  · exact h x h1
theorem Lmax.del {m : Nat} {T : List File} (h : Lmax m T) (k : ByteArray) : Lmax m (delT T k) := fun x hx => h x (mem_delT.1 hx).1
theorem rApply_lmax {m : Nat} {T : List File} (h : Lmax m T) (p : Prim) : Lmax (m + p.new.length) (rApplyT T p).1 := by
  have h1 := h.mono (Nat.le_add_right m p.new.length)
  unfold rApplyT
  repeat' split
  all_goals first
    | exact h1
    | exact h1.del _
    | exact h1.put (Nat.le_trans splT_len (by have := h.get p.name; omega))
    | exact h1.put (by simp)
    | exact (h1.del _).put (by have := h.get p.name; omega)
theorem rApply_len (T : List File) (p : Prim) : (rApplyT T p).1.length ≤ T.length + 1 := by
  have hd : ∀ k, (delT T k).length ≤ T.length := fun k => List.length_filter_le _ _
  unfold rApplyT
  repeat' split
  all_goals first
    | exact Nat.le_succ _
    | exact putT_len _ _ _
    | exact Nat.le_trans (hd _) (Nat.le_succ _)
    | exact Nat.le_trans (putT_len _ _ _) (Nat.succ_le_succ (hd _))
theorem apply_err {T T1 : List File} {p : Prim} {e : Int} (h : (T1, e) = applyT T p) (he : ¬ e = 0) (hS : Sor T) (hG : Good T) : T1 = T := by
  rw [apply_eq hS hG] at h
  unfold rApplyT at h
  repeat' split at h
  all_goals first
    | (injection h with h _; done)
    | (injection h with h h2; first | exact h | exact absurd h2 he)
theorem tAdd_rem {M : List File} {k : ByteArray} (hM : Sor M) (hn : nameOk k = true) (hh : getT M k = some []) : tAdd (delT M k) k = (M, 0) := by
  have h1 : getT (delT M k) k = none := by rw [getT_del hM, if_pos rfl]
  unfold tAdd
  rw [if_neg (by simp [hn]), if_neg (by simp [hasT, h1])]
  have : putT (delT M k) k [] = M := getT_ext ((hM.del _).put _ _) hM fun u => by
    rw [getT_put (hM.del _), getT_del hM]
    by_cases e : u = k
    · subst e; rw [if_pos rfl, hh]
    · rw [if_neg e, if_neg e]
  rw [this]
theorem splT_yes {l old new : List ByteArray} {k : Nat} (h : standsB l (k : Int) old = true) : splT l (k : Int) old new = l.take k ++ new ++ l.drop (k + old.length) := by unfold splT; rw [if_pos h]; rfl
theorem spl_back {l old new : List ByteArray} {z : Int} (h : standsB l z old = true) : standsB (splT l z old new) z new = true ∧ splT (splT l z old new) z new old = l := by
  obtain ⟨k, rfl, h1, h2⟩ := standsB_yes h
  have e1 : splT l (k : Int) old new = l.take k ++ new ++ l.drop (k + old.length) := by unfold splT; rw [if_pos h]; rfl
  have hk : (l.take k).length = k := by rw [List.length_take]; omega
  have hlen : (l.take k ++ new ++ l.drop (k + old.length)).length = k + new.length + (l.length - (k + old.length)) := by rw [List.length_append, List.length_append, hk, List.length_drop]
  have e2 : (l.take k ++ new ++ l.drop (k + old.length)).drop k = new ++ l.drop (k + old.length) := by
    rw [List.append_assoc, List.drop_append, hk, List.drop_of_length_le (by omega), Nat.sub_self]; rfl
  have e3 : (l.take k ++ new ++ l.drop (k + old.length)).take k = l.take k := by
    rw [List.append_assoc, List.take_append, hk, List.take_of_length_le (by omega), Nat.sub_self]; simp
  have e4 : (l.take k ++ new ++ l.drop (k + old.length)).drop (k + new.length) = l.drop (k + old.length) := by
    rw [← List.drop_drop, e2, List.drop_append, List.drop_of_length_le (Nat.le_refl _), Nat.sub_self]; rfl
  have hs : standsB (splT l (k : Int) old new) (k : Int) new = true := by
    rw [e1, standsB_nat (by rw [hlen]; omega), e2]
    simp
  refine ⟨hs, ?_⟩
  have e5 := splT_yes (new := old) hs
  rw [e5, e1, e3, e4]
  have e6 : l = l.take k ++ ((l.drop k).take old.length ++ (l.drop k).drop old.length) := by rw [List.take_append_drop, List.take_append_drop]
  rw [h2, List.drop_drop] at e6
  rw [List.append_assoc]
  exact e6.symm
theorem put_put {T : List File} (h : Sor T) (k : ByteArray) (l m : List ByteArray) : putT (putT T k l) k m = putT T k m :=
  getT_ext ((h.put _ _).put _ _) (h.put _ _) fun u => by
    rw [getT_put (h.put _ _), getT_put h, getT_put h]
    by_cases e : u = k <;> simp [e]
theorem put_same {T : List File} (h : Sor T) {k : ByteArray} {l : List ByteArray} (hk : getT T k = some l) : putT T k l = T :=
  getT_ext (h.put _ _) h fun u => by
    rw [getT_put h]
    by_cases e : u = k
    · subst e; rw [if_pos rfl, hk]
    · rw [if_neg e]
theorem apply_back {T T1 : List File} {p : Prim} (hS : Sor T) (hG : Good T) (h : (T1, (0 : Int)) = applyT T p) : applyT T1 p.flip = (T, 0) := by
  rw [apply_eq hS hG] at h
  have hS1 : Sor T1 := by have := rApply_sor hS p; rw [← h] at this; exact this
  have hG1 : Good T1 := by have := rApply_good hG p; rw [← h] at this; exact this
  rw [apply_eq hS1 hG1]
  unfold rApplyT at h ⊢
  rw [flip_right]
  by_cases hr : p.right = false
  · rw [if_pos hr] at h; injection h with _ h; cases h
  · have hr' : p.right = true := by simpa using hr
    rw [if_neg hr] at h ⊢
    rcases right_kind hr' with k0 | k1 | k2 | k3
    · rw [if_pos k0] at h
      have hk : p.flip.kind = 0 := (flip_kind p).1.2 k0
      rw [if_pos hk]
      split at h
      · rename_i hj
        injection h with h _
        obtain ⟨hb1, hb2⟩ := spl_back (new := p.new) hj.2
        have hf := flip0 k0
        have hg : getT T1 p.name = some (splT (getL T p.name) p.pos p.old p.new) := by rw [h, getT_put hS, if_pos rfl]
        have hn : p.flip.name = p.name ∧ p.flip.pos = p.pos ∧ p.flip.old = p.new ∧ p.flip.new = p.old := by rw [hf]; exact ⟨rfl, rfl, rfl, rfl⟩
        rw [hn.1, hn.2.1, hn.2.2.1, hn.2.2.2, show getL T1 p.name = splT (getL T p.name) p.pos p.old p.new by rw [getL, hg]; rfl, if_pos ⟨by rw [hasT, hg]; rfl, hb1⟩, hb2, h, put_put hS, put_same hS (hasT_yes hj.1)]
      · injection h with _ h; cases h
    · rw [if_neg (by omega), if_pos k1] at h
      have hf : p.flip = { p with kind := 2 } := by rw [Prim.flip, if_neg (by omega), if_pos (.inl k1), k1]; rfl
      rw [hf]
      split at h
      · rename_i hj
        injection h with h _
        have hg : getT T1 p.name = some [] := by rw [h, getT_put hS, if_pos rfl]
        rw [if_neg (show ¬ (2 : Int) = 0 by decide), if_neg (show ¬ (2 : Int) = 1 by decide), if_pos rfl, if_pos ⟨by rw [hasT, hg]; rfl, by rw [getL, hg]; rfl⟩]
        have := tRem_add hS hj
        unfold tRem at this
        rw [← h, if_neg (by rw [hasT, hg]; simp), if_neg (by rw [getL, hg]; simp)] at this
        exact this
      · injection h with _ h; cases h
    · rw [if_neg (by omega), if_neg (by omega), if_pos k2] at h
      have hf : p.flip = { p with kind := 1 } := by rw [Prim.flip, if_neg (by omega), if_pos (.inr k2), k2]; rfl
      rw [hf]
      split at h
      · rename_i hj
        injection h with h _
        have h0 : getT T p.name = some [] := by rw [hasT_yes hj.1, List.eq_nil_of_length_eq_zero hj.2]
        have hg : getT T1 p.name = none := by rw [h, getT_del hS, if_pos rfl]
        rw [if_neg (show ¬ (1 : Int) = 0 by decide), if_pos rfl, if_pos (by rw [hasT, hg]; rfl)]
        have := tAdd_rem hS (right_name hr') h0
        unfold tAdd at this
        rw [← h, if_neg (by simp [right_name hr']), if_neg (by rw [hasT, hg]; simp)] at this
        exact this
      · injection h with _ h; cases h
    · rw [if_neg (by omega), if_neg (by omega), if_neg (by omega), if_pos k3] at h
      have hf := flip3 k3
      rw [hf]
      split at h
      · rename_i hj
        injection h with h _
        have hd : T1 = delT (putT T p.to (getL T p.name)) p.name := by
          have := move_eq hS p.name p.to
          unfold tMove rMove at this
          rw [if_neg (by simp [hj.1, right_to hr' k3]), if_neg (by simp [hj.2]), if_neg (by simp [hj.1, right_to hr' k3]), if_neg (by simp [hj.2])] at this
          injection this with this _
          rw [h, ← this]
        have hb := move_back hS (right_name hr') hj.1 hj.2
        rw [← hd, move_eq hS1] at hb
        unfold rMove at hb
        have hto : getT T1 p.to = some (getL T p.name) := by rw [hd, moved_get hS hj.1 hj.2, if_neg (moved_ne hj.1 hj.2), if_pos rfl]
        have hna : getT T1 p.name = none := by rw [hd, moved_get hS hj.1 hj.2, if_pos rfl]
        rw [if_neg (by simp [hasT, hto, right_name hr']), if_neg (by simp [hasT, hna])] at hb
        rw [if_neg (by show ¬ p.kind = 0; omega), if_neg (by show ¬ p.kind = 1; omega), if_neg (by show ¬ p.kind = 2; omega), if_pos (by exact k3), if_pos ⟨by rw [hasT, hto]; rfl, by rw [hasT, hna]; rfl⟩]
        exact hb
      · injection h with _ h; cases h
end Go.Sx

end
section
set_option linter.unusedVariables false
set_option linter.unusedSimpArgs false
namespace Go.Proofs.YtdbiillompeclaaGreatDoor.X
open Go Go.RowKit Go.Proofs Go.Sx
attribute [local irreducible] slA isA box row
def pH : Prim := ⟨0, (⟨#[97]⟩ : ByteArray), e0, 1, [(⟨#[121]⟩ : ByteArray)], [(⟨#[122]⟩ : ByteArray), (⟨#[122]⟩ : ByteArray)]⟩
def pA : Prim := ⟨1, (⟨#[97]⟩ : ByteArray), e0, 0, [], []⟩
def pM : Prim := ⟨3, (⟨#[97]⟩ : ByteArray), (⟨#[98]⟩ : ByteArray), 0, [], []⟩
def pN : Prim := ⟨3, (⟨#[98]⟩ : ByteArray), (⟨#[97]⟩ : ByteArray), 0, [], []⟩
theorem al3_fH : pH.fit := fitP (by decide)
theorem al3_fA : pA.fit := fitP (by decide)
theorem al3_fM : pM.fit := fitP (by decide)
theorem al3_fZ : Prim.zero.fit := fitP (by decide)
theorem al3_1 : applyT [] pA = ([((⟨#[97]⟩ : ByteArray), ([] : List ByteArray))], 0) := by kernel_rfl
theorem al3_2 : applyT [((⟨#[97]⟩ : ByteArray), [(⟨#[120]⟩ : ByteArray), (⟨#[121]⟩ : ByteArray)])] pH = ([((⟨#[97]⟩ : ByteArray), [(⟨#[120]⟩ : ByteArray), (⟨#[122]⟩ : ByteArray), (⟨#[122]⟩ : ByteArray)])], 0) := by kernel_rfl
theorem al3_3 : applyT [((⟨#[97]⟩ : ByteArray), [(⟨#[120]⟩ : ByteArray), (⟨#[122]⟩ : ByteArray), (⟨#[122]⟩ : ByteArray)])] pH.flip = ([((⟨#[97]⟩ : ByteArray), [(⟨#[120]⟩ : ByteArray), (⟨#[121]⟩ : ByteArray)])], 0) := by kernel_rfl
theorem al3_4 : applyT [((⟨#[97]⟩ : ByteArray), [(⟨#[120]⟩ : ByteArray), (⟨#[121]⟩ : ByteArray)])] pM = ([((⟨#[98]⟩ : ByteArray), [(⟨#[120]⟩ : ByteArray), (⟨#[121]⟩ : ByteArray)])], 0) := by kernel_rfl
theorem al3_5 : sortB pN.names = [(⟨#[97]⟩ : ByteArray), (⟨#[98]⟩ : ByteArray)] := (sortB_names pN).trans (by kernel_rfl)
theorem al3_6 : applyT [((⟨#[98]⟩ : ByteArray), [(⟨#[120]⟩ : ByteArray), (⟨#[121]⟩ : ByteArray)])] pH = ([((⟨#[98]⟩ : ByteArray), [(⟨#[120]⟩ : ByteArray), (⟨#[121]⟩ : ByteArray)])], 31) := by kernel_rfl
theorem al3_7 : applyT [((⟨#[98]⟩ : ByteArray), [(⟨#[120]⟩ : ByteArray), (⟨#[121]⟩ : ByteArray)])] Prim.zero = ([((⟨#[98]⟩ : ByteArray), [(⟨#[120]⟩ : ByteArray), (⟨#[121]⟩ : ByteArray)])], 30) := by kernel_rfl
theorem al3_8 : pH.right = true := by kernel_rfl
theorem al3_t : toB (textT [((⟨#[97]⟩ : ByteArray), [(⟨#[120]⟩ : ByteArray), (⟨#[122]⟩ : ByteArray), (⟨#[122]⟩ : ByteArray)])]) = (⟨#[97, 32, 51, 10, 120, 10, 122, 10, 122, 10]⟩ : ByteArray) := by kernel_rfl
theorem al3_l : (textT [((⟨#[97]⟩ : ByteArray), [(⟨#[120]⟩ : ByteArray), (⟨#[122]⟩ : ByteArray), (⟨#[122]⟩ : ByteArray)])]).length = 10 := by kernel_rfl
theorem al3_f4 : Tfit [((⟨#[97]⟩ : ByteArray), [(⟨#[120]⟩ : ByteArray), (⟨#[122]⟩ : ByteArray), (⟨#[122]⟩ : ByteArray)])] := fun x hx => by have : x = _ := List.mem_singleton.1 hx; subst this; decide
theorem al3_f1 : Tfit [((⟨#[97]⟩ : ByteArray), ([] : List ByteArray))] := fun x hx => by have : x = _ := List.mem_singleton.1 hx; subst this; decide
theorem al3_f0 : Tfit [] := fun x hx => by cases hx
theorem hb_of {T : List File} {p : Prim} (h : T.all (fun x => decide (x.2.length ≤ 100)) = true) (hp : p.new.length ≤ 100) (u : ByteArray) : (getL T u).length + p.new.length ≤ 2000000 := by
 have := Lmax.get (m := 100) (T := T) (fun x hx => by simpa using List.all_eq_true.1 h x hx) u
 omega
set_option maxRecDepth 100000 in
theorem c_primInvert (p : Prim) (y : Rp.Lay Prim) (hp : p.fit) : Con Tryz.prog 49 [sv p y] [] (Rp.asn p y) {x : Prim × Rp.Lay Prim // x.1 = p.flip} (fun x => sv x.1.1 x.1.2) (fun _ => []) (fun x => Rp.asn x.1.1 x.1.2) := by
 refine con Tryz.func49 rfl Tryz.ntmps49 rfl ?_
 intro M0 F0 w0
 refine cs ?_
 refine cr ?_
 refine ls (o_box rfl rfl rfl) ?_
 refine le ?_; intro b1
 refine ls (o_alloc Tryz.zeroValue39 rfl rfl) ?_
 refine le ?_; intro b2
 refine ln ?_
 refine nthen ?_
 refine cs ?_
 refine cr ?_
 refine ls (o_ldw Tryz.isAgg39 Tryz.sizeOf39 rfl (by repeat' constructor) (by rfl) rfl) ?_
 refine ls (o_call (is := []) Tryz.call48 (c_primClone p y hp) rfl rfl (by repeat' (first | constructor | apply Sub.suf)) rfl) ?_
 refine le ?_; intro y1
 refine ls (o_st rfl Tryz.sizeOf39 rfl rfl rfl rfl rfl (by repeat' constructor) (by repeat' constructor) (by repeat' constructor)) ?_
 refine ln ?_
 refine nthen ?_
 refine cs ?_
 refine cs ?_
 refine cr ?_
 refine ls (op (p_fa fa39_0 rfl) rfl) ?_
 refine ls (o_ld Tryz.isAgg3 rfl (by repeat' constructor) (by repeat' constructor) rfl) ?_
 refine ln ?_
 refine nthen ?_
 refine cb ?_
 refine cs ?_
 refine cr ?_
 refine ls (op (p_icmp rfl rfl rfl) rfl) ?_
 refine ls (op (p_asg rfl) rfl) ?_
 refine ln ?_
 refine nthen ?_
 refine cc rfl ?_ ?_
 ·
  intro h7
  try simp only [decide_eq_true_eq, decide_eq_false_iff_not, Bool.not_eq_true', Bool.not_eq_false', Int.not_lt, Int.not_le, ge_iff_le, Bool.not_true, Bool.not_false] at h7
  refine cr ?_
  refine ls (op (p_fa fa39_5 rfl) rfl) ?_
  refine ls (o_ld Tryz.isAgg37 rfl (by repeat' constructor) (by repeat' constructor) rfl) ?_
  refine ls (op (p_fa fa39_4 rfl) rfl) ?_
  refine ls (o_ld Tryz.isAgg37 rfl (by repeat' constructor) (by repeat' constructor) rfl) ?_
  refine ls (op (p_fa fa39_4 rfl) rfl) ?_
  refine ls (o_st rfl Tryz.sizeOf37 rfl rfl rfl rfl rfl (by repeat' constructor) (by repeat' constructor) (by repeat' constructor)) ?_
  refine ls (op (p_fa fa39_5 rfl) rfl) ?_
  refine ls (o_st rfl Tryz.sizeOf37 rfl rfl rfl rfl rfl (by repeat' constructor) (by repeat' constructor) (by repeat' constructor)) ?_
  refine ln ?_
  refine nblock ?_
  refine nthen ?_
  refine cs ?_
  refine cr ?_
  refine ls (o_ldw Tryz.isAgg39 Tryz.sizeOf39 rfl (by repeat' constructor) (by rfl) rfl) ?_
  refine ls (o_st rfl Tryz.sizeOf39 rfl rfl rfl rfl rfl (by repeat' constructor) (by repeat' constructor) (by repeat' constructor)) ?_
  refine ln ?_
  refine nthen ?_
  refine cret ?_
  refine xret (fun _ _ h => h) ?_
  refine rret (is := []) ⟨({ p with old := p.new, new := p.old }, (y1.2, y1.1)), by rw [flip0 h7]⟩ (Or.inl rfl) (Res.c rfl Tryz.isAgg39 Tryz.sizeOf39 (by repeat' constructor) (by rfl) Res.d) (rfl) rfl (by repeat' (first | constructor | apply Sub.suf))
 ·
  intro h7
  try simp only [decide_eq_true_eq, decide_eq_false_iff_not, Bool.not_eq_true', Bool.not_eq_false', Int.not_lt, Int.not_le, ge_iff_le, Bool.not_true, Bool.not_false] at h7
  refine cs ?_
  refine cs ?_
  refine cr ?_
  refine ls (op (p_icmp rfl rfl rfl) rfl) ?_
  refine ls (op (p_asg rfl) rfl) ?_
  refine ln ?_
  refine nthen ?_
  refine cc rfl ?_ ?_
  ·
   intro h15
   try simp only [decide_eq_true_eq, decide_eq_false_iff_not, Bool.not_eq_true', Bool.not_eq_false', Int.not_lt, Int.not_le, ge_iff_le, Bool.not_true, Bool.not_false] at h15
   refine cskip ?_
   refine nthen ?_
   refine cc rfl ?_ ?_
   ·
    intro h15b
    skip
    refine cr ?_
    refine ls (op (p_fa fa39_0 rfl) rfl) ?_
    refine ls (o_ld Tryz.isAgg3 rfl (by repeat' constructor) (by repeat' constructor) rfl) ?_
    refine ls (op (p_sub rfl rfl (by omega)) rfl) ?_
    refine ls (op (p_fa fa39_0 rfl) rfl) ?_
    refine ls (o_st rfl Tryz.sizeOf3 rfl rfl rfl rfl rfl (by repeat' constructor) (by repeat' constructor) (by repeat' constructor)) ?_
    refine ln ?_
    refine nblock ?_
    refine nthen ?_
    refine cs ?_
    refine cr ?_
    refine ls (o_ldw Tryz.isAgg39 Tryz.sizeOf39 rfl (by repeat' constructor) (by rfl) rfl) ?_
    refine ls (o_st rfl Tryz.sizeOf39 rfl rfl rfl rfl rfl (by repeat' constructor) (by repeat' constructor) (by repeat' constructor)) ?_
    refine ln ?_
    refine nthen ?_
    refine cret ?_
    refine xret (fun _ _ h => h) ?_
    refine rret (is := []) ⟨({ p with kind := 3 - p.kind }, y1), by rw [Prim.flip, if_neg h7, if_pos (Or.inl h15)]⟩ (Or.inl rfl) (Res.c rfl Tryz.isAgg39 Tryz.sizeOf39 (by repeat' constructor) (by rfl) Res.d) (rfl) rfl (by repeat' (first | constructor | apply Sub.suf))
   ·
    intro h15b
    simp only [decide_eq_false_iff_not] at h15b; exact absurd h15 h15b
  ·
   intro h15
   try simp only [decide_eq_true_eq, decide_eq_false_iff_not, Bool.not_eq_true', Bool.not_eq_false', Int.not_lt, Int.not_le, ge_iff_le, Bool.not_true, Bool.not_false] at h15
   refine cr ?_
   refine ls (op (p_icmp rfl rfl rfl) rfl) ?_
   refine ls (op (p_asg rfl) rfl) ?_
   refine ln ?_
   refine nthen ?_
   refine cc rfl ?_ ?_
   ·
    intro h15c
    simp only [decide_eq_true_eq] at h15c
    refine cr ?_
    refine ls (op (p_fa fa39_0 rfl) rfl) ?_
    refine ls (o_ld Tryz.isAgg3 rfl (by repeat' constructor) (by repeat' constructor) rfl) ?_
    refine ls (op (p_sub rfl rfl (by omega)) rfl) ?_
    refine ls (op (p_fa fa39_0 rfl) rfl) ?_
    refine ls (o_st rfl Tryz.sizeOf3 rfl rfl rfl rfl rfl (by repeat' constructor) (by repeat' constructor) (by repeat' constructor)) ?_
    refine ln ?_
    refine nblock ?_
    refine nthen ?_
    refine cs ?_
    refine cr ?_
    refine ls (o_ldw Tryz.isAgg39 Tryz.sizeOf39 rfl (by repeat' constructor) (by rfl) rfl) ?_
    refine ls (o_st rfl Tryz.sizeOf39 rfl rfl rfl rfl rfl (by repeat' constructor) (by repeat' constructor) (by repeat' constructor)) ?_
    refine ln ?_
    refine nthen ?_
    refine cret ?_
    refine xret (fun _ _ h => h) ?_
    refine rret (is := []) ⟨({ p with kind := 3 - p.kind }, y1), by rw [Prim.flip, if_neg h7, if_pos (Or.inr h15c)]⟩ (Or.inl rfl) (Res.c rfl Tryz.isAgg39 Tryz.sizeOf39 (by repeat' constructor) (by rfl) Res.d) (rfl) rfl (by repeat' (first | constructor | apply Sub.suf))
   ·
    intro h15c
    simp only [decide_eq_false_iff_not] at h15c
    refine cs ?_
    refine cr ?_
    refine ls (op (p_icmp rfl rfl rfl) rfl) ?_
    refine ls (op (p_asg rfl) rfl) ?_
    refine ln ?_
    refine nthen ?_
    refine cc rfl ?_ ?_
    ·
     intro h22
     try simp only [decide_eq_true_eq, decide_eq_false_iff_not, Bool.not_eq_true', Bool.not_eq_false', Int.not_lt, Int.not_le, ge_iff_le, Bool.not_true, Bool.not_false] at h22
     refine cr ?_
     refine ls (op (p_fa fa39_2 rfl) rfl) ?_
     refine ls (o_ld Tryz.isAgg9 rfl (by repeat' constructor) (by repeat' constructor) rfl) ?_
     refine ls (op (p_fa fa39_1 rfl) rfl) ?_
     refine ls (o_ld Tryz.isAgg9 rfl (by repeat' constructor) (by repeat' constructor) rfl) ?_
     refine ls (op (p_fa fa39_1 rfl) rfl) ?_
     refine ls (o_st rfl Tryz.sizeOf9 rfl rfl rfl rfl rfl (by repeat' constructor) (by repeat' constructor) (by repeat' constructor)) ?_
     refine ls (op (p_fa fa39_2 rfl) rfl) ?_
     refine ls (o_st rfl Tryz.sizeOf9 rfl rfl rfl rfl rfl (by repeat' constructor) (by repeat' constructor) (by repeat' constructor)) ?_
     refine ln ?_
     refine nblock ?_
     refine nthen ?_
     refine cs ?_
     refine cr ?_
     refine ls (o_ldw Tryz.isAgg39 Tryz.sizeOf39 rfl (by repeat' constructor) (by rfl) rfl) ?_
     refine ls (o_st rfl Tryz.sizeOf39 rfl rfl rfl rfl rfl (by repeat' constructor) (by repeat' constructor) (by repeat' constructor)) ?_
     refine ln ?_
     refine nthen ?_
     refine cret ?_
     refine xret (fun _ _ h => h) ?_
     refine rret (is := []) ⟨({ p with name := p.to, to := p.name }, y1), by rw [flip3 h22]⟩ (Or.inl rfl) (Res.c rfl Tryz.isAgg39 Tryz.sizeOf39 (by repeat' constructor) (by rfl) Res.d) (rfl) rfl (by repeat' (first | constructor | apply Sub.suf))
    ·
     intro h22
     try simp only [decide_eq_true_eq, decide_eq_false_iff_not, Bool.not_eq_true', Bool.not_eq_false', Int.not_lt, Int.not_le, ge_iff_le, Bool.not_true, Bool.not_false] at h22
     refine cskip ?_
     refine nblock ?_
     refine nthen ?_
     refine cs ?_
     refine cr ?_
     refine ls (o_ldw Tryz.isAgg39 Tryz.sizeOf39 rfl (by repeat' constructor) (by rfl) rfl) ?_
     refine ls (o_st rfl Tryz.sizeOf39 rfl rfl rfl rfl rfl (by repeat' constructor) (by repeat' constructor) (by repeat' constructor)) ?_
     refine ln ?_
     refine nthen ?_
     refine cret ?_
     refine xret (fun _ _ h => h) ?_
     refine rret (is := []) ⟨(p, y1), by rw [Prim.flip, if_neg h7, if_neg (by omega), if_neg h22]⟩ (Or.inl rfl) (Res.c rfl Tryz.isAgg39 Tryz.sizeOf39 (by repeat' constructor) (by rfl) Res.d) (rfl) rfl (by repeat' (first | constructor | apply Sub.suf))

end Go.Proofs.YtdbiillompeclaaGreatDoor.X

end
section
set_option linter.unusedVariables false
set_option linter.unusedSimpArgs false
namespace Go.Proofs.YtdbiillompeclaaGreatDoor.X
open Go Go.RowKit Go.Proofs Go.Sx
attribute [local irreducible] slA isA box row

theorem inf39 : (Tryz.prog.info? 39).map (fun i => (i.zero, i.size, i.bytes)) = some (some (.agg #[.int .i64 0, .string ⟨#[]⟩, .string ⟨#[]⟩, .int .i64 0, .slice none 0 0, .slice none 0 0]), 6, 96) := by kernel_rfl
set_option maxRecDepth 100000 in
theorem c_seqCloned (l : List Prim) (A0 : Option Addr) (c0 : Nat) (hl : l.length ≤ 2000000) (hf : ∀ x ∈ l, x.fit) : Con Tryz.prog 118 [.slice A0 l.length c0] [] [slA A0 l] (Option Addr × Nat) (fun y => .slice y.1 l.length y.2) (fun y => [row 39 y.1 y.2 l]) (fun _ => []) := by
 refine con Tryz.func118 rfl Tryz.ntmps118 rfl ?_
 intro M0 F0 w0
 refine cs ?_
 refine cr ?_
 refine ls (op (p_asg rfl) rfl) ?_
 refine ln ?_
 refine nthen ?_
 refine cs ?_
 refine cr ?_
 refine ls (op (p_asg rfl) rfl) ?_
 refine ln ?_
 refine nthen ?_
 refine cs ?_
 refine cs ?_
 refine cmono (fun a w h => nilRow (α := Prim) 39 h) ?_
 refine cr ?_
 refine ls (op (p_move rfl) rfl) ?_
 refine ls (op (p_lenl rfl Tryz.underlying29) rfl) ?_
 refine ls (op (p_move rfl) rfl) ?_
 refine ln ?_
 refine nthen ?_
 refine cb ?_
 refine cl (ι := {q : Nat × Option Addr × Nat // q.1 ≤ l.length}) (fun i => St M0 F0 w0 19 [(6, .slice A0 l.length c0), (7, .int .i64 (l.length : Int)), (8, .int .i64 (i.1.1 : Int)), (3, .slice i.1.2.1 (l.take i.1.1).length i.1.2.2)] [row 39 i.1.2.1 i.1.2.2 (l.take i.1.1)] [slA A0 l]) (fun i => l.length - i.1.1) ⟨(0, none, 0), Nat.zero_le _⟩ (wk (is := [0]) (by repeat (first | exact subσ.nil _ | refine subσ.cons rfl ?_)) rfl (by repeat' (first | constructor | apply Sub.suf))) ?_
 rintro ⟨⟨k, A, c⟩, hk⟩
 refine cmono (S' := St M0 F0 w0 19 [(6, .slice A0 l.length c0), (7, .int .i64 (l.length : Int)), (8, .int .i64 (k : Int)), (3, .slice A (l.take k).length c)] [row 39 A c (l.take k)] [slA A0 l]) (fun _ _ h => h) ?_
 refine cs ?_
 refine cr ?_
 refine ls (op (p_icmp rfl rfl rfl) rfl) ?_
 refine ln ?_
 refine nthen ?_
 refine cs ?_
 refine cc rfl ?_ ?_
 ·
  intro h9
  dsimp only at hk
  try simp only [decide_eq_true_eq, decide_eq_false_iff_not, Bool.not_eq_true', Bool.not_eq_false', Int.not_lt, Int.not_le, ge_iff_le, Bool.not_true, Bool.not_false] at h9
  have hk1 : k < l.length := by omega
  refine cskip ?_
  refine nthen ?_
  refine cs ?_
  refine cb ?_
  refine cs ?_
  refine elC (by repeat' constructor) k (List.getElem?_eq_getElem (l := l) hk1) ?_; rintro zbp zop zyp hAp
  refine cr ?_
  refine ls (op (p_ia k hAp hk1 rfl Tryz.underlying29 Tryz.sizeOf39 rfl rfl) rfl) ?_
  refine ls (o_ldj Tryz.isAgg39 Tryz.sizeOf39 rfl (by repeat' constructor) 0 rfl (by repeat (first | exact Cut.d | apply Cut.t | apply Cut.s)) rfl) ?_
  refine ls (o_alloc Tryz.zeroValue39 rfl rfl) ?_
  refine le ?_; intro b5
  refine ls (o_st rfl Tryz.sizeOf39 rfl rfl rfl rfl rfl (by repeat' constructor) (by repeat' constructor) (by repeat' constructor)) ?_
  refine ln ?_
  refine nthen ?_
  refine cr ?_
  refine ls (op (p_move rfl) rfl) ?_
  refine ls (o_ldw Tryz.isAgg39 Tryz.sizeOf39 rfl (by repeat' constructor) (by rfl) rfl) ?_
  refine ls (o_call (is := []) Tryz.call48 (c_primClone l[k] zyp (hf _ (List.getElem_mem hk1))) rfl rfl (by repeat' (first | constructor | apply Sub.suf)) rfl) ?_
  refine le ?_; intro y14
  refine ls (o_bsl [l[k]] Tryz.underlying29 Tryz.sizeOf39 Tryz.zeroValue39 rfl (Enum.t Enum.d) (RV.t y14 rfl (by repeat' (first | constructor | apply Sub.suf)) RV.d) rfl (by decide) (by decide) rfl) ?_
  refine le ?_; intro b15
  refine lmono (fun a w h => Go.Sx.freeze (i := 0) rfl h) ?_
  refine ls (o_app (is := [1]) Tryz.underlying29 inf39 rfl (by decide) (by decide) rfl rfl (by rw [List.length_take]; simp only [List.length_cons, List.length_nil]; omega) (fun h => by cases h) rfl (by repeat' (first | constructor | apply Sub.suf)) rfl) ?_
  refine le ?_; rintro ⟨A', c'⟩
  rw [← List.take_succ_eq_append_getElem hk1]
  refine ls (op (p_asg rfl) rfl) ?_
  refine ln ?_
  refine nblock ?_
  refine nthen ?_
  refine cr ?_
  refine ls (op (p_add rfl rfl (by omega)) rfl) ?_
  refine ls (op (p_move rfl) rfl) ?_
  refine ln ?_
  refine nnext ⟨(k + 1, A', c'), hk1⟩ (by dsimp only; omega) (wk (is := [0]) (by repeat (first | exact subσ.nil _ | refine subσ.cons rfl ?_)) rfl (by repeat' (first | constructor | apply Sub.suf)))
 ·
  intro h9
  dsimp only at hk
  try simp only [decide_eq_true_eq, decide_eq_false_iff_not, Bool.not_eq_true', Bool.not_eq_false', Int.not_lt, Int.not_le, ge_iff_le, Bool.not_true, Bool.not_false] at h9
  obtain rfl : k = l.length := by omega
  refine cexit ?_
  refine xthen ?_
  refine xthen ?_
  refine xblock ?_
  refine nthen ?_
  refine cs ?_
  rw [List.take_length]
  refine cr ?_
  refine ls (op (p_move rfl) rfl) ?_
  refine ls (op (p_asg rfl) rfl) ?_
  refine ln ?_
  refine nthen ?_
  refine cret ?_
  refine xret (fun _ _ h => h) ?_
  refine rret (is := [0]) (A, c) (Or.inl rfl) (Res.t rfl Res.d) (rfl) rfl (by repeat' (first | constructor | apply Sub.suf))

set_option maxRecDepth 100000 in
theorem c_seqPast (p : Prim) (y : Rp.Lay Prim) (hp : p.fit) (m : List Prim) (B : Option Addr) (c : Nat) (hl : m.length ≤ 2000000) (hf : ∀ x ∈ m, x.fit) : Con Tryz.prog 119 [sv p y, .slice B m.length c] [] [slA y.1.1 p.old, slA y.2.1 p.new, slA B m] {x : (List Prim × Prim × Bool) × ((Option Addr × Nat) × Rp.Lay Prim) // x.1 = pastT p m} (fun x => .tuple #[.slice x.1.2.1.1 x.1.1.1.length x.1.2.1.2, sv x.1.1.2.1 x.1.2.2, .bool x.1.1.2.2]) (fun _ => []) (fun x => slA x.1.2.1.1 x.1.1.1 :: Rp.asn x.1.1.2.1 x.1.2.2) := by
 refine con Tryz.func119 rfl Tryz.ntmps119 rfl ?_
 intro M0 F0 w0
 refine cs ?_
 refine cr ?_
 refine ls (o_box rfl rfl rfl) ?_
 refine le ?_; intro b2
 refine ls (op (p_asg rfl) rfl) ?_
 refine ls (o_alloc Tryz.zeroValue39 rfl rfl) ?_
 refine le ?_; intro b5
 refine ls (op (p_asg rfl) rfl) ?_
 refine ln ?_
 refine nthen ?_
 refine cs ?_
 refine cs ?_
 refine cmono (fun a w h => nilRow (α := Prim) 39 h) ?_
 refine cr ?_
 refine ls (op (p_move rfl) rfl) ?_
 refine ls (op (p_lenl rfl Tryz.underlying29) rfl) ?_
 refine ls (op (p_move rfl) rfl) ?_
 refine ln ?_
 refine nthen ?_
 refine cb ?_
 refine cl (ι := {q : Nat × List Prim × Prim × (Option Addr × Nat) × Rp.Lay Prim // q.1 ≤ m.length ∧ q.2.1.length = q.1 ∧ q.2.2.1.fit ∧ PI p m q.1 q.2.1 q.2.2.1}) (fun i => St M0 F0 w0 36 [(12, .slice B m.length c), (13, .int .i64 (m.length : Int)), (14, .int .i64 (i.1.1 : Int)), (4, .slice i.1.2.2.2.1.1 (i.1.2.1).length i.1.2.2.2.1.2), (2, .pointer (some ⟨b2, 0, none⟩)), (5, .pointer (some ⟨b5, 0, none⟩))] [row 39 i.1.2.2.2.1.1 i.1.2.2.2.1.2 i.1.2.1, box b2 39 (Rp.enc i.1.2.2.1 i.1.2.2.2.2), box b5 39 (Rp.enc Prim.zero ((none, 0), (none, 0)))] [slA (i.1.2.2.2.2).1.1 (i.1.2.2.1).old, slA (i.1.2.2.2.2).2.1 (i.1.2.2.1).new, slA B m]) (fun i => m.length - i.1.1) ⟨(0, [], p, (none, 0), y), Nat.zero_le _, rfl, hp, PI.start p m⟩ (wk (is := [0, 1, 0]) (by repeat (first | exact subσ.nil _ | refine subσ.cons rfl ?_)) rfl (by repeat' (first | constructor | apply Sub.suf))) ?_
 rintro ⟨⟨k, f, p1, ⟨A1, c1⟩, y1⟩, hk, hfl, hp1, hPI⟩
 refine cmono (S' := St M0 F0 w0 36 [(12, .slice B m.length c), (13, .int .i64 (m.length : Int)), (14, .int .i64 (k : Int)), (4, .slice A1 (f).length c1), (2, .pointer (some ⟨b2, 0, none⟩)), (5, .pointer (some ⟨b5, 0, none⟩))] [row 39 A1 c1 f, box b2 39 (Rp.enc p1 y1), box b5 39 (Rp.enc Prim.zero ((none, 0), (none, 0)))] [slA (y1).1.1 (p1).old, slA (y1).2.1 (p1).new, slA B m]) (fun _ _ h => h) ?_
 refine cs ?_
 refine cr ?_
 refine ls (op (p_icmp rfl rfl rfl) rfl) ?_
 refine ln ?_
 refine nthen ?_
 refine cs ?_
 refine cc rfl ?_ ?_
 ·
  intro h15
  dsimp only at hk hfl hp1 hPI
  try simp only [decide_eq_true_eq, decide_eq_false_iff_not, Bool.not_eq_true', Bool.not_eq_false', Int.not_lt, Int.not_le, ge_iff_le, Bool.not_true, Bool.not_false] at h15
  have hk1 : k < m.length := by omega
  refine cskip ?_
  refine nthen ?_
  refine cs ?_
  refine cb ?_
  refine cs ?_
  refine elC (by repeat' constructor) k (List.getElem?_eq_getElem (l := m) hk1) ?_; rintro zbp zop zyp hAp
  refine cr ?_
  refine ls (op (p_ia k hAp hk1 rfl Tryz.underlying29 Tryz.sizeOf39 rfl rfl) rfl) ?_
  refine ls (o_ldj Tryz.isAgg39 Tryz.sizeOf39 rfl (by repeat' constructor) 0 rfl (by repeat (first | exact Cut.d | apply Cut.t | apply Cut.s)) rfl) ?_
  refine ls (o_alloc Tryz.zeroValue39 rfl rfl) ?_
  refine le ?_; intro b8
  refine ls (o_st rfl Tryz.sizeOf39 rfl rfl rfl rfl rfl (by repeat' constructor) (by repeat' constructor) (by repeat' constructor)) ?_
  refine ln ?_
  refine nthen ?_
  refine cs ?_
  refine cr ?_
  refine ls (o_ldw Tryz.isAgg39 Tryz.sizeOf39 rfl (by repeat' constructor) (by rfl) rfl) ?_
  refine ls (o_ldw Tryz.isAgg39 Tryz.sizeOf39 rfl (by repeat' constructor) (by rfl) rfl) ?_
  refine ls (o_call (is := []) Tryz.call148 (c_Swap p1 m[k] y1 zyp hp1 (hf _ (List.getElem_mem hk1))) rfl rfl (by repeat' (first | constructor | apply Sub.suf)) rfl) ?_
  refine le ?_; rintro ⟨⟨⟨r1, r2, r3⟩, z1, z2⟩, hr⟩
  obtain ⟨e1, e2⟩ := swap_fit hp1 (hf _ (List.getElem_mem hk1)); rw [← hr] at e1 e2; dsimp only at hr e1 e2
  refine ls (op (p_move rfl) rfl) ?_
  refine ls (op (p_ext rfl (by repeat' constructor)) rfl) ?_
  refine ls (op (p_ext rfl (by repeat' constructor)) rfl) ?_
  refine ls (op (p_ext rfl (by repeat' constructor)) rfl) ?_
  refine ls (o_alloc Tryz.zeroValue39 rfl rfl) ?_
  refine le ?_; intro b9
  refine ls (o_alloc Tryz.zeroValue39 rfl rfl) ?_
  refine le ?_; intro b10
  refine ls (o_st rfl Tryz.sizeOf39 rfl rfl rfl rfl rfl (by repeat' constructor) (by repeat' constructor) (by repeat' constructor)) ?_
  refine ls (o_st rfl Tryz.sizeOf39 rfl rfl rfl rfl rfl (by repeat' constructor) (by repeat' constructor) (by repeat' constructor)) ?_
  refine ls (op (p_asg rfl) rfl) ?_
  refine ln ?_
  refine nthen ?_
  refine cs ?_
  refine cs ?_
  refine cr ?_
  refine ls (op (p_move rfl) rfl) ?_
  refine ls (op (p_not rfl) rfl) ?_
  refine ln ?_
  refine nthen ?_
  refine cc rfl ?_ ?_
  ·
   intro h26
   obtain rfl : false = r3 := by cases r3 <;> first | rfl | (simp at h26)
   refine cs ?_
   refine cmono (fun a w h => nilSl (α := Prim) h) ?_
   refine cmono (fun a w h => nilSl (α := ByteArray) h) ?_
   refine cr ?_
   refine ls (op (p_bld sb39 rfl Fill.d) rfl) ?_
   refine ls (op (p_asg rfl) rfl) ?_
   refine ls (o_st rfl Tryz.sizeOf39 rfl rfl rfl rfl rfl (by repeat' constructor) (by repeat' constructor) (by repeat' constructor)) ?_
   refine ls (op (p_asg rfl) rfl) ?_
   refine ln ?_
   refine nthen ?_
   refine cret ?_
   refine xret (fun _ _ h => h) ?_
   refine rret (is := []) ⟨(([], Prim.zero, false), ((none, 0), ((none, 0), (none, 0)))), (hPI.stop hk1 hr).symm⟩ (Or.inl rfl) (Res.t rfl (Res.c rfl Tryz.isAgg39 Tryz.sizeOf39 (by repeat' constructor) (by rfl) (Res.t rfl Res.d))) (rfl) rfl (by repeat' (first | constructor | apply Sub.suf))
  ·
   intro h26
   obtain rfl : true = r3 := by cases r3 <;> first | rfl | (simp at h26)
   refine cskip ?_
   refine nthen ?_
   refine cd [2, 3, 6] [(1, b9, 0, _), (4, b10, 0, _)] TryzX.mixed (TOk.t (isBoxS (by repeat' constructor) (k := 6) (by repeat (first | exact Cut.d | apply Cut.t | apply Cut.s))) (TOk.t (isBoxS (by repeat' constructor) (k := 6) (by repeat (first | exact Cut.d | apply Cut.t | apply Cut.s))) TOk.d)) ?_
   refine tk 0 rfl (by kernel_rfl) (fun _ _ _ h => h) gnone (TTany _) (p_move rfl) rfl ?_
   refine tk 1 rfl (by kernel_rfl) (fun _ _ _ h => h) gnone (TTat (List.Mem.head _)) (p_lda Tryz.isAgg39 Tryz.sizeOf39 rfl rfl) rfl ?_
   refine tk 4 rfl (by kernel_rfl) (fun _ _ _ h => h) gnone (TTat (List.Mem.tail _ (List.Mem.head _))) (p_lda Tryz.isAgg39 Tryz.sizeOf39 rfl rfl) rfl ?_
   refine df 2 (by kernel_rfl) ?_
   refine doR rfl (o_bsl [r1] Tryz.underlying29 Tryz.sizeOf39 Tryz.zeroValue39 rfl (Enum.t Enum.d) (RV.t z1 rfl (by repeat' (first | constructor | apply Sub.suf)) RV.d) rfl (by decide) (by decide) rfl) (TOk.x (by kernel_rfl) (TOk.t (isBoxE fun _ => isBoxS (by repeat' constructor) (k := 6) (by repeat (first | exact Cut.d | apply Cut.t | apply Cut.s))) TOk.d)) ?_
   refine ea ?_; intro b30
   refine amono (fun a w h => Go.Sx.freeze (i := 0) rfl h) ?_
   refine df 3 (by kernel_rfl) ?_
   refine doR rfl (o_app (is := [3]) Tryz.underlying29 inf39 rfl (by decide) (by decide) rfl rfl (by simp only [List.length_cons, List.length_nil]; omega) (fun h => by cases h) rfl (by repeat' (first | constructor | apply Sub.suf)) rfl) (TOk.x (by kernel_rfl) (TOk.t (isBoxE fun _ => isBoxS (by repeat' constructor) (k := 6) (by repeat (first | exact Cut.d | apply Cut.t | apply Cut.s))) TOk.d)) ?_
   refine ea ?_; rintro ⟨A', c'⟩
   refine tk 5 rfl (by kernel_rfl) (fun _ _ _ h => h) gnone (TTany _) (p_asg rfl) rfl ?_
   refine df 6 (by kernel_rfl) ?_
   refine doR rfl (o_st rfl Tryz.sizeOf39 rfl rfl rfl rfl rfl (by repeat' constructor) (by repeat' constructor) (by repeat' constructor)) (TOk.x (by kernel_rfl) (TOk.x (by kernel_rfl) TOk.d)) ?_
   refine dn (by kernel_rfl) ?_
   refine nblock ?_
   refine nthen ?_
   refine cr ?_
   refine ls (op (p_add rfl rfl (by omega)) rfl) ?_
   refine ls (op (p_move rfl) rfl) ?_
   refine ln ?_
   refine nnext ⟨(k + 1, f ++ [r1], r2, (A', c'), z2), hk1, by simp [hfl], e2, hPI.step hk1 hr⟩ (by dsimp only; omega) (wk (is := [0, 3, 3]) (by repeat (first | exact subσ.nil _ | refine subσ.cons rfl ?_)) rfl (by repeat' (first | constructor | apply Sub.suf)))
 ·
  intro h15
  dsimp only at hk hfl hp1 hPI
  try simp only [decide_eq_true_eq, decide_eq_false_iff_not, Bool.not_eq_true', Bool.not_eq_false', Int.not_lt, Int.not_le, ge_iff_le, Bool.not_true, Bool.not_false] at h15
  refine cexit ?_
  refine xthen ?_
  refine xthen ?_
  refine xblock ?_
  refine nthen ?_
  refine cs ?_
  refine cmono (fun a w h => Go.Sx.freeze (i := 0) rfl h) ?_
  refine cd [3] [(1, b2, 0, _)] TryzX.mixed (TOk.t (isBoxS (by repeat' constructor) (k := 6) (by repeat (first | exact Cut.d | apply Cut.t | apply Cut.s))) TOk.d) ?_
  refine tk 0 rfl (by kernel_rfl) (fun _ _ _ h => h) gnone (TTany _) (p_move rfl) rfl ?_
  refine tk 1 rfl (by kernel_rfl) (fun _ _ _ h => h) gnone (TTat (List.Mem.head _)) (p_lda Tryz.isAgg39 Tryz.sizeOf39 rfl rfl) rfl ?_
  refine tk 2 rfl (by kernel_rfl) (fun _ _ _ h => h) gnone (TTany _) (p_asg rfl) rfl ?_
  refine df 3 (by kernel_rfl) ?_
  refine doR rfl (o_st rfl Tryz.sizeOf39 rfl rfl rfl rfl rfl (by repeat' constructor) (by repeat' constructor) (by repeat' constructor)) (TOk.x (by kernel_rfl) TOk.d) ?_
  refine tk 4 rfl (by kernel_rfl) (fun _ _ _ h => h) gnone (TTany _) (p_asg rfl) rfl ?_
  refine dn (by kernel_rfl) ?_
  refine nthen ?_
  refine cret ?_
  refine xret (fun _ _ h => h) ?_
  refine rret (is := []) ⟨((f, p1, true), ((A1, c1), y1)), (hPI.done (by omega)).symm⟩ (Or.inl rfl) (Res.t rfl (Res.c rfl Tryz.isAgg39 Tryz.sizeOf39 (by repeat' constructor) (by rfl) (Res.t rfl Res.d))) (rfl) rfl (by repeat' (first | constructor | apply Sub.suf))

end Go.Proofs.YtdbiillompeclaaGreatDoor.X

end
section
set_option linter.unusedVariables false
set_option linter.unusedSimpArgs false
namespace Go.Proofs.YtdbiillompeclaaGreatDoor.X
open Go Go.RowKit Go.Proofs Go.Sx
attribute [local irreducible] slA isA box row


set_option maxRecDepth 100000 in
theorem c_Backward (l : List Prim) (A : Option Addr) (c : Nat) : Con Tryz.prog 75 [.slice A l.length c] [] [] Nat (fun b => .func (.func 126) #[] #[.pointer (some ⟨b, 0, none⟩)]) (fun b => [box b 29 [.slice A l.length c]]) (fun _ => []) := by
 refine con Tryz.func75 rfl Tryz.ntmps75 rfl ?_
 intro M0 F0 w0
 refine cs ?_
 refine cr ?_
 refine ls (o_box rfl rfl rfl) ?_
 refine le ?_; intro b1
 refine ls (op (p_asg rfl) rfl) ?_
 refine ln ?_
 refine nthen ?_
 refine cs ?_
 refine cr ?_
 refine ls (op (p_mkf rfl) rfl) ?_
 refine ls (op (p_asg rfl) rfl) ?_
 refine ln ?_
 refine nthen ?_
 refine cret ?_
 refine xret (fun _ _ h => h) ?_
 refine rret (is := [0]) b1 (Or.inl rfl) (Res.t rfl Res.d) (rfl) rfl (by repeat' (first | constructor | apply Sub.suf))

set_option maxRecDepth 100000 in
theorem c_Backward1 (l : List Prim) (A : Option Addr) (c : Nat) (hl : l.length ≤ 2000000) (B : Nat) : Iter Tryz.prog 126 [.pointer (some ⟨B, 0, none⟩)] (fun x : {x : Nat × Rp.Lay Prim // x.1 < l.length} => [.int .i64 (x.1.1 : Int), sv (l[x.1.1]'x.2) x.1.2]) (fun x => Rp.asn (l[x.1.1]'x.2) x.1.2) (fun pre x => x.1.1 + pre.length + 1 = l.length) (fun xs => xs.length = l.length) [box B 29 [.slice A l.length c]] [slA A l] := by
 intro lp J Jx hY
 refine con Tryz.func126 rfl Tryz.ntmps126 rfl ?_
 intro M0 F0 w0
 refine cs ?_
 refine cr ?_
 refine ls (o_ld Tryz.isAgg29 rfl (by repeat' constructor) (by repeat' constructor) rfl) ?_
 refine ls (op (p_lenl rfl Tryz.underlying29) rfl) ?_
 refine ls (op (p_sub rfl rfl (by omega)) rfl) ?_
 refine ls (op (p_asg rfl) rfl) ?_
 refine ln ?_
 refine nthen ?_
 refine cb ?_
 refine cl (ι := {q : List {x : Nat × Rp.Lay Prim // x.1 < l.length} × Int // q.1.length ≤ l.length ∧ q.2 = (l.length : Int) - 1 - (q.1.length : Int)}) (fun i => St M0 F0 w0 19 [(0, .func (.yield lp) #[] #[]), (1, .pointer (some ⟨B, 0, none⟩)), (3, .int .i64 i.1.2)] [J i.1.1, box B 29 [.slice A l.length c]] [slA A l]) (fun i => l.length - (i.1.1).length) ⟨([], (l.length : Int) - 1), Nat.zero_le _, by simp⟩ (wk0 (by repeat (first | exact subσ.nil _ | refine subσ.cons rfl ?_)) (by repeat' (first | constructor | apply Sub.suf))) ?_
 rintro ⟨⟨pre, z⟩, hpre, hz⟩
 refine cmono (S' := St M0 F0 w0 19 [(0, .func (.yield lp) #[] #[]), (1, .pointer (some ⟨B, 0, none⟩)), (3, .int .i64 z)] [J pre, box B 29 [.slice A l.length c]] [slA A l]) (fun _ _ h => h) ?_
 refine cs ?_
 refine cs ?_
 refine cr ?_
 refine ls (op (p_move rfl) rfl) ?_
 refine ls (op (p_icmp rfl rfl rfl) rfl) ?_
 refine ln ?_
 refine nthen ?_
 refine cc rfl ?_ ?_
 ·
  intro h8
  dsimp only at hpre hz
  try simp only [decide_eq_true_eq, decide_eq_false_iff_not, Bool.not_eq_true', Bool.not_eq_false', Int.not_lt, Int.not_le, ge_iff_le, Bool.not_true, Bool.not_false] at h8
  have hk1 : l.length - 1 - pre.length < l.length := by omega
  refine cskip ?_
  refine nthen ?_
  refine cs ?_
  refine cb ?_
  refine cs ?_
  refine elC (by repeat' constructor) (l.length - 1 - pre.length) (List.getElem?_eq_getElem (l := l) hk1) ?_; rintro zbp zop zyp hAp
  refine cr ?_
  refine ls (op (p_move rfl) rfl) ?_
  refine ls (op (p_move rfl) rfl) ?_
  refine ls (o_ld Tryz.isAgg29 rfl (by repeat' constructor) (by repeat' constructor) rfl) ?_
  refine ls (op (p_move rfl) rfl) ?_
  refine ls (op (p_ia (l.length - 1 - pre.length) hAp hk1 (by omega) Tryz.underlying29 Tryz.sizeOf39 rfl rfl) rfl) ?_
  refine ls (o_ldj Tryz.isAgg39 Tryz.sizeOf39 rfl (by repeat' constructor) 0 rfl (by repeat (first | exact Cut.d | apply Cut.t | apply Cut.s)) rfl) ?_
  refine ls (o_yield (i := 0) rfl (by have := hY pre ⟨(l.length - 1 - pre.length, zyp), hk1⟩ (by dsimp only; omega); dsimp only at this; rw [show ((l.length - 1 - pre.length : Nat) : Int) = z by omega] at this; exact this) rfl rfl (by repeat' (first | constructor | apply Sub.suf)) rfl) ?_
  refine le ?_; intro bb
  refine ls (op (p_not rfl) rfl) ?_
  refine ln ?_
  refine nthen ?_
  refine cc rfl ?_ ?_
  ·
   intro h18
   obtain rfl : false = bb := by cases bb <;> first | rfl | (simp at h18)
   refine cret ?_
   refine xret (fun _ _ h => h) ?_
   refine rret (is := [0, 0]) ⟨none, fun _ h => by cases h⟩ (Or.inl rfl) Res.d (rfl) rfl (by repeat' (first | constructor | apply Sub.suf))
  ·
   intro h18
   obtain rfl : true = bb := by cases bb <;> first | rfl | (simp at h18)
   refine cskip ?_
   refine nblock ?_
   refine nthen ?_
   refine cr ?_
   refine ls (op (p_move rfl) rfl) ?_
   refine ls (op (p_sub rfl rfl (by omega)) rfl) ?_
   refine ls (op (p_asg rfl) rfl) ?_
   refine ln ?_
   refine nnext ⟨(pre ++ [⟨(l.length - 1 - pre.length, zyp), hk1⟩], z - 1), by simp; omega, by simp; omega⟩ (by simp; omega) (wk (is := [0, 0]) (by repeat (first | exact subσ.nil _ | refine subσ.cons rfl ?_)) rfl (by repeat' (first | constructor | apply Sub.suf)))
 ·
  intro h8
  dsimp only at hpre hz
  try simp only [decide_eq_true_eq, decide_eq_false_iff_not, Bool.not_eq_true', Bool.not_eq_false', Int.not_lt, Int.not_le, ge_iff_le, Bool.not_true, Bool.not_false] at h8
  refine cexit ?_
  refine xthen ?_
  refine xthen ?_
  refine xblock ?_
  refine rret (is := [0, 0]) ⟨some pre, fun xs h => by cases h; omega⟩ (Or.inr rfl) Res.d (rfl) rfl (by repeat' (first | constructor | apply Sub.suf))

set_option maxRecDepth 100000 in
theorem c_seqSwap (l m : List Prim) (A B : Option Addr) (c c' : Nat) (hl : l.length ≤ 2000000) (hm : m.length ≤ 2000000) (hfl : ∀ x ∈ l, x.fit) (hfm : ∀ x ∈ m, x.fit) : Con Tryz.prog 65 [.slice A l.length c, .slice B m.length c'] [] [slA A l, slA B m] {x : (List Prim × List Prim × Bool) × ((Option Addr × Nat) × (Option Addr × Nat)) // x.1 = swT l m} (fun x => .tuple #[.slice x.1.2.1.1 x.1.1.1.length x.1.2.1.2, .slice x.1.2.2.1 x.1.1.2.1.length x.1.2.2.2, .bool x.1.1.2.2]) (fun _ => []) (fun x => [slA x.1.2.1.1 x.1.1.1, slA x.1.2.2.1 x.1.1.2.1]) := by
 refine con Tryz.func65 rfl Tryz.ntmps65 rfl ?_
 intro M0 F0 w0
 refine cs ?_
 refine cr ?_
 refine ls (o_alloc Tryz.zeroValue29 rfl rfl) ?_
 refine le ?_; intro b4
 refine ls (o_alloc Tryz.zeroValue29 rfl rfl) ?_
 refine le ?_; intro b5
 refine ls (o_alloc Tryz.zeroValue4 rfl rfl) ?_
 refine le ?_; intro b6
 refine ln ?_
 refine nthen ?_
 refine cs ?_
 refine cr ?_
 refine ls (op (p_move rfl) rfl) ?_
 refine ls (o_call (is := []) Tryz.call118 (c_seqCloned m B c' hm hfm) rfl rfl (by repeat' (first | constructor | apply Sub.suf)) rfl) ?_
 refine le ?_; rintro ⟨A1, c1⟩
 refine lmono (fun a w h => Go.Sx.freeze (i := 0) rfl h) ?_
 refine ls (o_st rfl Tryz.sizeOf29 rfl rfl rfl rfl rfl (by repeat' constructor) (by repeat' constructor) (by repeat' constructor)) ?_
 refine ln ?_
 refine nthen ?_
 refine cs ?_
 refine cs ?_
 refine cmono (fun a w h => nilSl (α := Prim) h) ?_
 refine cr ?_
 refine ls (op (p_move rfl) rfl) ?_
 refine ls (o_call (is := []) Tryz.call75 (c_Backward l A c) rfl rfl (by repeat' (first | constructor | apply Sub.suf)) rfl) ?_
 refine le ?_; intro b15
 refine ln ?_
 refine nthen ?_
 refine cb ?_
 refine crng (ι := fun pre => {q : List Prim × List Prim × (Option Addr × Nat) × (Option Addr × Nat) // SI l m pre.length q.1 q.2.1 ∧ (q.2.1 = [] → q.2.2.2.2 = 0)}) rfl Tryz.call126 (c_Backward1 l A c hl b15) (fun _ => rfl) rfl (fun pre i => [box b4 29 [.slice i.1.2.2.1.1 i.1.1.length i.1.2.2.1.2], box b5 29 [.slice i.1.2.2.2.1 i.1.2.1.length i.1.2.2.2.2], box b6 4 [.bool false]]) (fun pre i => [slA i.1.2.2.1.1 i.1.1, slA i.1.2.2.2.1 i.1.2.1]) (⟨(m, [], (A1, c1), (none, 0)), SI.start hfm, fun _ => rfl⟩) (Y := {u : Unit // swT l m = ([], [], false)}) (fun _ => [box b4 29 [.slice none 0 0], box b5 29 [.slice none 0 0], box b6 4 [.bool false]]) (fun _ => []) (is := [3, 2, 1, 0]) rfl (by repeat' (first | constructor | apply Sub.suf)) (by repeat' (first | constructor | apply Sub.suf)) ?_ ?_ ?_
 ·
  rintro M0 F0 w0 lp κ pre ⟨⟨k, yk⟩, hk⟩ hx ⟨⟨f, s, ⟨A1, c1⟩, ⟨A2, c2⟩⟩, hI, hA2⟩
  dsimp only at hk hx hI hA2
  have hfl1 := hI.fl; have hsl1 := hI.sl; have hfk := hfl _ (List.getElem_mem hk)
  refine cmono (S' := St M0 F0 w0 ⟨35, []⟩ [(4, .pointer (some ⟨b4, 0, none⟩)), (5, .pointer (some ⟨b5, 0, none⟩)), (6, .pointer (some ⟨b6, 0, none⟩)), (17, sv l[k] yk)] [lrec lp κ .ready none, box b4 29 [.slice A1 f.length c1], box b5 29 [.slice A2 s.length c2], box b6 4 [.bool false]] [slA A1 f, slA A2 s, slA yk.1.1 l[k].old, slA yk.2.1 l[k].new]) (wk0 (by repeat (first | exact subσ.nil _ | refine subσ.cons rfl ?_)) (by repeat' (first | constructor | apply Sub.suf))) ?_
  refine cr ?_
  refine ls (o_alloc Tryz.zeroValue39 rfl rfl) ?_
  refine le ?_; intro b8
  refine ls (o_st rfl Tryz.sizeOf39 rfl rfl rfl rfl rfl (by repeat' constructor) (by repeat' constructor) (by repeat' constructor)) ?_
  refine ln ?_
  refine nbegin (i := 1) rfl ?_
  refine cb ?_
  refine cs ?_
  refine cr ?_
  refine ls (o_ldw Tryz.isAgg39 Tryz.sizeOf39 rfl (by repeat' constructor) (by rfl) rfl) ?_
  refine ls (o_ld Tryz.isAgg29 rfl (by repeat' constructor) (by repeat' constructor) rfl) ?_
  refine ls (o_call (is := []) Tryz.call119 (c_seqPast l[k] yk hfk f A1 c1 (by omega) hI.ff) rfl rfl (by repeat' (first | constructor | apply Sub.suf)) rfl) ?_
  refine le ?_; rintro ⟨⟨⟨f', q, r3⟩, ⟨⟨A', c'⟩, z2⟩⟩, hr⟩
  dsimp only at hr
  refine ls (op (p_move rfl) rfl) ?_
  refine ls (op (p_ext rfl (by repeat' constructor)) rfl) ?_
  refine ls (op (p_ext rfl (by repeat' constructor)) rfl) ?_
  refine ls (op (p_ext rfl (by repeat' constructor)) rfl) ?_
  refine ls (o_alloc Tryz.zeroValue39 rfl rfl) ?_
  refine le ?_; intro b10
  refine ls (op (p_asg rfl) rfl) ?_
  refine ls (o_st rfl Tryz.sizeOf39 rfl rfl rfl rfl rfl (by repeat' constructor) (by repeat' constructor) (by repeat' constructor)) ?_
  refine ls (op (p_asg rfl) rfl) ?_
  refine ln ?_
  refine nthen ?_
  refine cs ?_
  refine cs ?_
  refine cr ?_
  refine ls (op (p_move rfl) rfl) ?_
  refine ls (op (p_not rfl) rfl) ?_
  refine ln ?_
  refine nthen ?_
  refine cc rfl ?_ ?_
  ·
   intro h26
   obtain rfl : false = r3 := by cases r3 <;> first | rfl | (simp at h26)
   refine cs ?_
   refine cr ?_
   refine ls (o_st rfl Tryz.sizeOf29 rfl rfl rfl rfl rfl (by repeat' constructor) (by repeat' constructor) (by repeat' constructor)) ?_
   refine ls (o_st rfl Tryz.sizeOf29 rfl rfl rfl rfl rfl (by repeat' constructor) (by repeat' constructor) (by repeat' constructor)) ?_
   refine ls (o_st rfl Tryz.sizeOf4 rfl rfl rfl rfl rfl (by repeat' constructor) (by repeat' constructor) (by repeat' constructor)) ?_
   refine ln ?_
   refine nthen ?_
   refine cret ?_
   refine xretR (fun _ _ h => h) ?_
   exact nrret ⟨(), hI.stop (by omega) hr⟩ (is := [1, 2, 2, 2]) rfl (by repeat' (first | constructor | apply Sub.suf))
  ·
   intro h26
   obtain rfl : true = r3 := by cases r3 <;> first | rfl | (simp at h26)
   have hq := past1_ok (pastT_true hr) hfk hI.ff
   refine cskip ?_
   refine nthen ?_
   refine cd [2, 3, 5, 6, 7] [(1, b10, 0, _), (4, b5, 0, _)] TryzX.mixed (TOk.t (isBoxS (by repeat' constructor) (k := 6) (by repeat (first | exact Cut.d | apply Cut.t | apply Cut.s))) (TOk.t (isBoxS (by repeat' constructor) (k := 1) (by repeat (first | exact Cut.d | apply Cut.t | apply Cut.s))) TOk.d)) ?_
   refine tk 0 rfl (by kernel_rfl) (fun _ _ _ h => h) gnone (TTany _) (p_move rfl) rfl ?_
   refine tk 1 rfl (by kernel_rfl) (fun _ _ _ h => h) gnone (TTat (List.Mem.head _)) (p_lda Tryz.isAgg39 Tryz.sizeOf39 rfl rfl) rfl ?_
   refine tk 4 rfl (by kernel_rfl) (fun _ _ _ h => h) gnone (TTat (List.Mem.tail _ (List.Mem.head _))) (p_ld Tryz.isAgg29 rfl) rfl ?_
   refine df 2 (by kernel_rfl) ?_
   refine doR rfl (o_call (is := []) Tryz.call48 (c_primClone q z2 hq.2.1) rfl rfl (by repeat' (first | constructor | apply Sub.suf)) rfl) (TOk.x (by kernel_rfl) (TOk.t (isBoxE fun _ => isBoxS (by repeat' constructor) (k := 1) (by repeat (first | exact Cut.d | apply Cut.t | apply Cut.s))) TOk.d)) ?_
   refine ea ?_; intro z3
   refine df 3 (by kernel_rfl) ?_
   refine doR rfl (o_bsl [q] Tryz.underlying29 Tryz.sizeOf39 Tryz.zeroValue39 rfl (Enum.t Enum.d) (RV.t z3 rfl (by repeat' (first | constructor | apply Sub.suf)) RV.d) rfl (by decide) (by decide) rfl) (TOk.x (by kernel_rfl) (TOk.t (isBoxE fun _ => isBoxS (by repeat' constructor) (k := 1) (by repeat (first | exact Cut.d | apply Cut.t | apply Cut.s))) TOk.d)) ?_
   refine ea ?_; intro b30
   refine df 5 (by kernel_rfl) ?_
   refine doR rfl (o_app (is := [0]) Tryz.underlying29 inf39 rfl (by decide) (by decide) rfl rfl (by simp only [List.length_cons, List.length_nil]; omega) (fun h _ => hA2 h) rfl (by repeat' (first | constructor | apply Sub.suf)) rfl) (TOk.x (by kernel_rfl) (TOk.x (by kernel_rfl) TOk.d)) ?_
   refine ea ?_; rintro ⟨A3, c3⟩
   refine amono (fun a w h => Go.Sx.freeze (i := 0) rfl h) ?_
   refine df 6 (by kernel_rfl) ?_
   refine doR rfl (o_st rfl Tryz.sizeOf29 rfl rfl rfl rfl rfl (by repeat' constructor) (by repeat' constructor) (by repeat' constructor)) (TOk.x (by kernel_rfl) (TOk.x (by kernel_rfl) TOk.d)) ?_
   refine df 7 (by kernel_rfl) ?_
   refine doR rfl (o_st rfl Tryz.sizeOf29 rfl rfl rfl rfl rfl (by repeat' constructor) (by repeat' constructor) (by repeat' constructor)) (TOk.x (by kernel_rfl) (TOk.x (by kernel_rfl) TOk.d)) ?_
   refine dn (by kernel_rfl) ?_
   refine nblock ?_
   exact nround ⟨(f', q :: s, (A', c'), (A3, c3)), by rw [List.length_append]; exact hI.step (by omega) hfl hr, fun h => by cases h⟩ (is := [1, 2, 2, 2]) rfl (by repeat' (first | constructor | apply Sub.suf))
 ·
  rintro D xs hC ⟨⟨f, s, ⟨A1, c1⟩, ⟨A2, c2⟩⟩, hI, hA2⟩
  dsimp only at hC hI
  have hd := hI.done hC
  refine nblock ?_
  refine nthen ?_
  refine cs ?_
  refine cd [2, 3, 4] [(0, b4, 0, _), (1, b5, 0, _)] TryzX.mixed (TOk.t (isBoxS (by repeat' constructor) (k := 1) (by repeat (first | exact Cut.d | apply Cut.t | apply Cut.s))) (TOk.t (isBoxS (by repeat' constructor) (k := 1) (by repeat (first | exact Cut.d | apply Cut.t | apply Cut.s))) TOk.d)) ?_
  refine tk 0 rfl (by kernel_rfl) (fun _ _ _ h => h) gnone (TTat (List.Mem.head _)) (p_ld Tryz.isAgg29 rfl) rfl ?_
  refine tk 1 rfl (by kernel_rfl) (fun _ _ _ h => h) gnone (TTat (List.Mem.tail _ (List.Mem.head _))) (p_ld Tryz.isAgg29 rfl) rfl ?_
  refine df 2 (by kernel_rfl) ?_
  refine doR rfl (o_st rfl Tryz.sizeOf29 rfl rfl rfl rfl rfl (by repeat' constructor) (by repeat' constructor) (by repeat' constructor)) (TOk.x (by kernel_rfl) (TOk.t (isBoxS (by repeat' constructor) (k := 1) (by repeat (first | exact Cut.d | apply Cut.t | apply Cut.s))) TOk.d)) ?_
  refine df 3 (by kernel_rfl) ?_
  refine doR rfl (o_st rfl Tryz.sizeOf29 rfl rfl rfl rfl rfl (by repeat' constructor) (by repeat' constructor) (by repeat' constructor)) (TOk.x (by kernel_rfl) (TOk.x (by kernel_rfl) TOk.d)) ?_
  refine df 4 (by kernel_rfl) ?_
  refine doR rfl (o_st rfl Tryz.sizeOf4 rfl rfl rfl rfl rfl (by repeat' constructor) (by repeat' constructor) (by repeat' constructor)) (TOk.x (by kernel_rfl) (TOk.x (by kernel_rfl) TOk.d)) ?_
  refine dn (by kernel_rfl) ?_
  refine nthen ?_
  refine cret ?_
  refine xret (fun _ _ h => h) ?_
  refine rretm (Dfr.c (i := 4) rfl Dfr.d) (is := []) ⟨((f, s, true), ((A1, c1), (A2, c2))), hd.symm⟩ (Or.inl rfl) (Res.c1 rfl Tryz.isAgg29 (by repeat' constructor) (Res.c1 rfl Tryz.isAgg29 (by repeat' constructor) (Res.c1 rfl Tryz.isAgg4 (by repeat' constructor) Res.d))) (rfl) rfl (by repeat' (first | constructor | apply Sub.suf))
 ·
  rintro D ⟨_, hst⟩
  refine nmono (fun a w h => nilSl (α := Prim) h) ?_
  refine xret (fun _ _ h => h) ?_
  refine rretm (Dfr.c (i := 4) rfl Dfr.d) (is := []) ⟨(([], [], false), ((none, 0), (none, 0))), hst.symm⟩ (Or.inl rfl) (Res.c1 rfl Tryz.isAgg29 (by repeat' constructor) (Res.c1 rfl Tryz.isAgg29 (by repeat' constructor) (Res.c1 rfl Tryz.isAgg4 (by repeat' constructor) Res.d))) (rfl) rfl (by repeat' (first | constructor | apply Sub.suf))

set_option maxRecDepth 100000 in
theorem c_IndexFuncP (l : List Prim) (A : Option Addr) (c : Nat) (hl : l.length ≤ 2000000) (f : Prim → Bool) (g : FuncId) (cap : List Value) (Γf : List Asn) (hcf : ∀ args w, (callFunc g args).run Tryz.prog w = .ok (.enter g args) w) (hg : ∀ x ∈ l, ∀ y, Con Tryz.prog g (sv x y :: cap) [] (Rp.asn x y ++ Γf) Unit (fun _ => .bool (f x)) (fun _ => []) (fun _ => [])) : Con Tryz.prog 165 [.slice A l.length c, .func (.func g) #[] cap.toArray] [] (slA A l :: Γf) {r : Int // -1 ≤ r ∧ r ≤ 2000000 ∧ (0 ≤ r ↔ l.any f = true)} (fun r => .int .i64 r.1) (fun _ => []) (fun _ => []) := by
 refine con Tryz.func165 rfl Tryz.ntmps165 rfl ?_
 intro M0 F0 w0
 refine cs ?_
 refine cr ?_
 refine ls (op (p_asg rfl) rfl) ?_
 refine ln ?_
 refine nthen ?_
 refine cs ?_
 refine cs ?_
 refine cr ?_
 refine ls (op (p_move rfl) rfl) ?_
 refine ls (op (p_lenl rfl Tryz.underlying29) rfl) ?_
 refine ls (op (p_move rfl) rfl) ?_
 refine ln ?_
 refine nthen ?_
 refine cb ?_
 refine cl (ι := {k : Nat // k ≤ l.length ∧ (l.take k).any f = false}) (fun i => St M0 F0 w0 19 [(0, .slice A l.length c), (1, .func (.func g) #[] cap.toArray), (7, .int .i64 (l.length : Int)), (8, .int .i64 (i.1 : Int))] [] (slA A l :: Γf)) (fun i => l.length - i.1) ⟨0, by simp⟩ (wk0 (by repeat (first | exact subσ.nil _ | refine subσ.cons rfl ?_)) (by repeat' (first | constructor | apply Sub.suf))) ?_
 rintro ⟨k, hk, hkk⟩
 refine cmono (S' := St M0 F0 w0 19 [(0, .slice A l.length c), (1, .func (.func g) #[] cap.toArray), (7, .int .i64 (l.length : Int)), (8, .int .i64 (k : Int))] [] (slA A l :: Γf)) (fun _ _ h => h) ?_
 refine cs ?_
 refine cr ?_
 refine ls (op (p_icmp rfl rfl rfl) rfl) ?_
 refine ln ?_
 refine nthen ?_
 refine cs ?_
 refine cc rfl ?_ ?_
 ·
  intro h9
  try simp only [decide_eq_true_eq, decide_eq_false_iff_not, Bool.not_eq_true', Bool.not_eq_false', Int.not_lt, Int.not_le, ge_iff_le, Bool.not_true, Bool.not_false] at h9
  have hk1 : k < l.length := by omega
  refine cskip ?_
  refine nthen ?_
  refine cs ?_
  refine cb ?_
  refine cs ?_
  refine cr ?_
  refine ls (op (p_move rfl) rfl) ?_
  refine ls (op (p_asg rfl) rfl) ?_
  refine ln ?_
  refine nthen ?_
  refine cs ?_
  refine elC (by repeat' constructor) k (List.getElem?_eq_getElem (l := l) hk1) ?_; rintro zbp zop zyp hAp
  refine cr ?_
  refine ls (op (p_move rfl) rfl) ?_
  refine ls (op (p_move rfl) rfl) ?_
  refine ls (op (p_move rfl) rfl) ?_
  refine ls (op (p_ia k hAp hk1 rfl Tryz.underlying29 Tryz.sizeOf39 rfl rfl) rfl) ?_
  refine ls (o_ldj Tryz.isAgg39 Tryz.sizeOf39 rfl (by repeat' constructor) 0 rfl (by repeat (first | exact Cut.d | apply Cut.t | apply Cut.s)) rfl) ?_
  refine ls (o_callv (is := []) rfl hcf (hg _ (List.getElem_mem hk1) _) rfl rfl rfl (Sub.app (by repeat' (first | constructor | apply Sub.suf)) (by repeat' (first | constructor | apply Sub.suf))) rfl) ?_
  refine le ?_; intro x16
  refine ln ?_
  refine nthen ?_
  refine cc rfl ?_ ?_
  ·
   intro h16
   try simp only [decide_eq_true_eq, decide_eq_false_iff_not, Bool.not_eq_true', Bool.not_eq_false', Int.not_lt, Int.not_le, ge_iff_le, Bool.not_true, Bool.not_false] at h16
   refine cs ?_
   refine cr ?_
   refine ls (op (p_move rfl) rfl) ?_
   refine ls (op (p_asg rfl) rfl) ?_
   refine ln ?_
   refine nthen ?_
   refine cret ?_
   refine xret (fun _ _ h => h) ?_
   refine rret (is := []) ⟨(k : Int), by omega, by omega, by simp only [List.any_eq_true]; exact ⟨fun _ => ⟨_, List.getElem_mem hk1, h16⟩, fun _ => by omega⟩⟩ (Or.inl rfl) (Res.t rfl Res.d) (rfl) rfl (by repeat' (first | constructor | apply Sub.suf))
  ·
   intro h16
   try simp only [decide_eq_true_eq, decide_eq_false_iff_not, Bool.not_eq_true', Bool.not_eq_false', Int.not_lt, Int.not_le, ge_iff_le, Bool.not_true, Bool.not_false] at h16
   refine cskip ?_
   refine nblock ?_
   refine nthen ?_
   refine cr ?_
   refine ls (op (p_add rfl rfl (by omega)) rfl) ?_
   refine ls (op (p_move rfl) rfl) ?_
   refine ln ?_
   refine nnext ⟨k + 1, hk1, by rw [List.take_succ_eq_append_getElem hk1, List.any_append, hkk]; simp [h16]⟩ (by dsimp only; omega) (wk0 (by repeat (first | exact subσ.nil _ | refine subσ.cons rfl ?_)) (by repeat' (first | constructor | apply Sub.suf)))
 ·
  intro h9
  try simp only [decide_eq_true_eq, decide_eq_false_iff_not, Bool.not_eq_true', Bool.not_eq_false', Int.not_lt, Int.not_le, ge_iff_le, Bool.not_true, Bool.not_false] at h9
  refine cexit ?_
  refine xthen ?_
  refine xthen ?_
  refine xblock ?_
  refine nthen ?_
  refine cs ?_
  refine cr ?_
  refine ls (op (p_asg rfl) rfl) ?_
  refine ln ?_
  refine nthen ?_
  refine cret ?_
  refine xret (fun _ _ h => h) ?_
  refine rret (is := []) ⟨-1, by omega, by omega, by rw [List.take_of_length_le (by omega)] at hkk; simp [hkk]⟩ (Or.inl rfl) (Res.t rfl Res.d) (rfl) rfl (by repeat' (first | constructor | apply Sub.suf))

set_option maxRecDepth 100000 in
theorem c_ContainsFuncP (l : List Prim) (A : Option Addr) (c : Nat) (hl : l.length ≤ 2000000) (f : Prim → Bool) (g : FuncId) (cap : List Value) (Γf : List Asn) (hcf : ∀ args w, (callFunc g args).run Tryz.prog w = .ok (.enter g args) w) (hg : ∀ x ∈ l, ∀ y, Con Tryz.prog g (sv x y :: cap) [] (Rp.asn x y ++ Γf) Unit (fun _ => .bool (f x)) (fun _ => []) (fun _ => [])) : Con Tryz.prog 146 [.slice A l.length c, .func (.func g) #[] cap.toArray] [] (slA A l :: Γf) Unit (fun _ => .bool (l.any f)) (fun _ => []) (fun _ => []) := by
 refine con Tryz.func146 rfl Tryz.ntmps146 rfl ?_
 intro M0 F0 w0
 refine cs ?_
 refine cr ?_
 refine ls (op (p_asg rfl) rfl) ?_
 refine ln ?_
 refine nthen ?_
 refine cs ?_
 refine cr ?_
 refine ls (op (p_move rfl) rfl) ?_
 refine ls (op (p_move rfl) rfl) ?_
 refine ls (o_call (is := []) Tryz.call165 (c_IndexFuncP l A c hl f g cap Γf hcf hg) rfl rfl (by repeat' (first | constructor | apply Sub.suf)) rfl) ?_
 refine le ?_; rintro ⟨r, hr1, hr2, hr3⟩
 refine ls (op (p_icmp rfl rfl rfl) rfl) ?_
 refine ls (op (p_asg rfl) rfl) ?_
 refine ln ?_
 refine nthen ?_
 refine cret ?_
 refine xret (fun _ _ h => h) ?_
 refine rret (is := []) () (Or.inl rfl) (Res.t rfl Res.d) ?_ rfl (by repeat' (first | constructor | apply Sub.suf))
 simp [packV]; rw [Bool.eq_iff_iff]; simp [← hr3]

set_option maxRecDepth 100000 in
theorem c_seqRight1 (p : Prim) (y : Rp.Lay Prim) (hp : p.fit) : Con Tryz.prog 147 [sv p y] [] (Rp.asn p y) Unit (fun _ => .bool (!p.right)) (fun _ => []) (fun _ => []) := by
 refine con Tryz.func147 rfl Tryz.ntmps147 rfl ?_
 intro M0 F0 w0
 refine cs ?_
 refine cr ?_
 refine ls (o_box rfl rfl rfl) ?_
 refine le ?_; intro b1
 refine ls (op (p_asg rfl) rfl) ?_
 refine ln ?_
 refine nthen ?_
 refine cs ?_
 refine cr ?_
 refine ls (o_ldw Tryz.isAgg39 Tryz.sizeOf39 rfl (by repeat' constructor) (by rfl) rfl) ?_
 refine ls (o_call (is := []) Tryz.call101 (c_primRight p y hp) rfl rfl (by repeat' (first | constructor | apply Sub.suf)) rfl) ?_
 refine le ?_; intro x4
 refine ls (op (p_not rfl) rfl) ?_
 refine ls (op (p_asg rfl) rfl) ?_
 refine ln ?_
 refine nthen ?_
 refine cret ?_
 refine xret (fun _ _ h => h) ?_
 refine rret (is := []) () (Or.inl rfl) (Res.t rfl Res.d) (rfl) rfl (by repeat' (first | constructor | apply Sub.suf))

set_option maxRecDepth 100000 in
theorem c_seqRight (l : List Prim) (A : Option Addr) (c : Nat) (hl : l.length ≤ 2000000) (hf : ∀ x ∈ l, x.fit) : Con Tryz.prog 116 [.slice A l.length c] [] [slA A l] Unit (fun _ => .bool (l.all Prim.right)) (fun _ => []) (fun _ => []) := by
 refine con Tryz.func116 rfl Tryz.ntmps116 rfl ?_
 intro M0 F0 w0
 refine cs ?_
 refine cr ?_
 refine ls (op (p_asg rfl) rfl) ?_
 refine ln ?_
 refine nthen ?_
 refine cs ?_
 refine cr ?_
 refine ls (op (p_move rfl) rfl) ?_
 refine ls (o_call (is := []) Tryz.call146 (c_ContainsFuncP l A c hl (fun x => !x.right) 147 [] [] Tryz.call147 (fun x hx y => by rw [List.append_nil]; exact c_seqRight1 x y (hf x hx))) rfl rfl (by repeat' (first | constructor | apply Sub.suf)) rfl) ?_
 refine le ?_; intro x4
 refine ls (op (p_not rfl) rfl) ?_
 refine ls (op (p_asg rfl) rfl) ?_
 refine ln ?_
 refine nthen ?_
 refine cret ?_
 refine xret (fun _ _ h => h) ?_
 refine rret (is := []) () (Or.inl rfl) (Res.t rfl Res.d) ?_ rfl (by repeat' (first | constructor | apply Sub.suf))
 simp [packV, List.any_eq_not_all_not]

set_option maxRecDepth 100000 in
theorem c_ref5Right (l : List Prim) (A : Option Addr) (c : Nat) (hl : l.length ≤ 2000000) (hf : ∀ x ∈ l, x.fit) : Con Tryz.prog 58 [.slice A l.length c] [] [slA A l] Unit (fun _ => .bool (l.all Prim.right)) (fun _ => []) (fun _ => []) := by
 refine con Tryz.func58 rfl Tryz.ntmps58 rfl ?_
 intro M0 F0 w0
 refine cs ?_
 refine cr ?_
 refine ls (op (p_asg rfl) rfl) ?_
 refine ln ?_
 refine nthen ?_
 refine cs ?_
 refine cs ?_
 refine cr ?_
 refine ls (op (p_asg rfl) rfl) ?_
 refine ln ?_
 refine nthen ?_
 refine cb ?_
 refine cl (ι := {k : Nat // k ≤ l.length ∧ (l.take k).all Prim.right = true}) (fun i => St M0 F0 w0 16 [(0, .slice A l.length c), (3, .int .i64 (i.1 : Int))] [] [slA A l]) (fun i => l.length - i.1) ⟨0, by simp⟩ (wk0 (by repeat (first | exact subσ.nil _ | refine subσ.cons rfl ?_)) (by repeat' (first | constructor | apply Sub.suf))) ?_
 rintro ⟨k, hk, hkk⟩
 refine cmono (S' := St M0 F0 w0 16 [(0, .slice A l.length c), (3, .int .i64 (k : Int))] [] [slA A l]) (fun _ _ h => h) ?_
 refine cs ?_
 refine cs ?_
 refine cr ?_
 refine ls (op (p_move rfl) rfl) ?_
 refine ls (op (p_move rfl) rfl) ?_
 refine ls (op (p_lenl rfl Tryz.underlying23) rfl) ?_
 refine ls (op (p_icmp rfl rfl rfl) rfl) ?_
 refine ln ?_
 refine nthen ?_
 refine cc rfl ?_ ?_
 ·
  intro h7
  try simp only [decide_eq_true_eq, decide_eq_false_iff_not, Bool.not_eq_true', Bool.not_eq_false', Int.not_lt, Int.not_le, ge_iff_le, Bool.not_true, Bool.not_false] at h7
  have hk1 : k < l.length := by omega
  refine cskip ?_
  refine nthen ?_
  refine cs ?_
  refine cb ?_
  refine cs ?_
  refine elC (by repeat' constructor) k (List.getElem?_eq_getElem (l := l) hk1) ?_; rintro zbp zop zyp hAp
  refine cr ?_
  refine ls (op (p_move rfl) rfl) ?_
  refine ls (op (p_move rfl) rfl) ?_
  refine ls (op (p_ia k hAp hk1 rfl Tryz.underlying23 Tryz.sizeOf83 rfl rfl) rfl) ?_
  refine ls (o_ldj Tryz.isAgg83 Tryz.sizeOf83 rfl (by repeat' constructor) 0 rfl (by repeat (first | exact Cut.d | apply Cut.t | apply Cut.s)) rfl) ?_
  refine ls (o_call (is := []) Tryz.call46 (c_refRight l[k] zyp (hf _ (List.getElem_mem hk1))) rfl rfl (by repeat' (first | constructor | apply Sub.suf)) rfl) ?_
  refine le ?_; intro x14
  refine ls (op (p_not rfl) rfl) ?_
  refine ln ?_
  refine nthen ?_
  refine cc rfl ?_ ?_
  ·
   intro h15
   try simp only [decide_eq_true_eq, decide_eq_false_iff_not, Bool.not_eq_true', Bool.not_eq_false', Int.not_lt, Int.not_le, ge_iff_le, Bool.not_true, Bool.not_false] at h15
   refine cs ?_
   refine cr ?_
   refine ls (op (p_asg rfl) rfl) ?_
   refine ln ?_
   refine nthen ?_
   refine cret ?_
   refine xret (fun _ _ h => h) ?_
   refine rret (is := []) () (Or.inl rfl) (Res.t rfl Res.d) ?_ rfl (by repeat' (first | constructor | apply Sub.suf))
   simp only [packV]; rw [all_not (List.getElem_mem hk1) h15]
  ·
   intro h15
   try simp only [decide_eq_true_eq, decide_eq_false_iff_not, Bool.not_eq_true', Bool.not_eq_false', Int.not_lt, Int.not_le, ge_iff_le, Bool.not_true, Bool.not_false] at h15
   refine cskip ?_
   refine nblock ?_
   refine nthen ?_
   refine cr ?_
   refine ls (op (p_move rfl) rfl) ?_
   refine ls (op (p_add rfl rfl (by omega)) rfl) ?_
   refine ls (op (p_asg rfl) rfl) ?_
   refine ln ?_
   refine nnext ⟨k + 1, hk1, by rw [List.take_succ_eq_append_getElem hk1, List.all_append, hkk]; simp [h15]⟩ (by dsimp only; omega) (wk0 (by repeat (first | exact subσ.nil _ | refine subσ.cons rfl ?_)) (by repeat' (first | constructor | apply Sub.suf)))
 ·
  intro h7
  try simp only [decide_eq_true_eq, decide_eq_false_iff_not, Bool.not_eq_true', Bool.not_eq_false', Int.not_lt, Int.not_le, ge_iff_le, Bool.not_true, Bool.not_false] at h7
  refine cexit ?_
  refine xthen ?_
  refine xthen ?_
  refine xblock ?_
  refine nthen ?_
  refine cs ?_
  refine cr ?_
  refine ls (op (p_asg rfl) rfl) ?_
  refine ln ?_
  refine nthen ?_
  refine cret ?_
  refine xret (fun _ _ h => h) ?_
  refine rret (is := []) () (Or.inl rfl) (Res.t rfl Res.d) ?_ rfl (by repeat' (first | constructor | apply Sub.suf))
  simp only [packV]; rw [List.take_of_length_le (by omega)] at hkk; rw [hkk]

set_option maxRecDepth 100000 in
theorem c_EqualFuncP (l m : List Prim) (A B : Option Addr) (c c' : Nat) (hl : l.length ≤ 2000000) (hf : ∀ x ∈ l, x.fit) : Con Tryz.prog 143 [.slice A l.length c, .slice B m.length c', .func (.func 100) #[] #[]] [] [slA A l, slA B m] Unit (fun _ => .bool (decide (l = m))) (fun _ => []) (fun _ => []) := by
 refine con Tryz.func143 rfl Tryz.ntmps143 rfl ?_
 intro M0 F0 w0
 refine cs ?_
 refine cr ?_
 refine ls (op (p_asg rfl) rfl) ?_
 refine ln ?_
 refine nthen ?_
 refine cs ?_
 refine cs ?_
 refine cr ?_
 refine ls (op (p_move rfl) rfl) ?_
 refine ls (op (p_lenl rfl Tryz.underlying29) rfl) ?_
 refine ls (op (p_move rfl) rfl) ?_
 refine ls (op (p_lenl rfl Tryz.underlying29) rfl) ?_
 refine ls (op (p_icmp rfl rfl rfl) rfl) ?_
 refine ln ?_
 refine nthen ?_
 refine cc rfl ?_ ?_
 ·
  intro h14
  try simp only [decide_eq_true_eq, decide_eq_false_iff_not, Bool.not_eq_true', Bool.not_eq_false', Int.not_lt, Int.not_le, ge_iff_le, Bool.not_true, Bool.not_false] at h14
  refine cs ?_
  refine cr ?_
  refine ls (op (p_asg rfl) rfl) ?_
  refine ln ?_
  refine nthen ?_
  refine cret ?_
  refine xret (fun _ _ h => h) ?_
  refine rret (is := []) () (Or.inl rfl) (Res.t rfl Res.d) ?_ rfl (by repeat' (first | constructor | apply Sub.suf))
  simp [packV]; intro e; rw [e] at h14; exact h14 rfl
 ·
  intro h14
  try simp only [decide_eq_true_eq, decide_eq_false_iff_not, Bool.not_eq_true', Bool.not_eq_false', Int.not_lt, Int.not_le, ge_iff_le, Bool.not_true, Bool.not_false] at h14
  refine cskip ?_
  refine nthen ?_
  refine cs ?_
  refine cs ?_
  refine cr ?_
  refine ls (op (p_move rfl) rfl) ?_
  refine ls (op (p_lenl rfl Tryz.underlying29) rfl) ?_
  refine ls (op (p_move rfl) rfl) ?_
  refine ln ?_
  refine nthen ?_
  refine cb ?_
  refine cl (ι := {k : Nat // k ≤ l.length ∧ l.take k = m.take k}) (fun i => St M0 F0 w0 32 [(0, .slice A l.length c), (1, .slice B m.length c'), (2, .func (.func 100) #[] #[]), (15, .slice A l.length c), (16, .int .i64 (l.length : Int)), (17, .int .i64 (i.1 : Int))] [] [slA A l, slA B m]) (fun i => l.length - i.1) ⟨0, by simp⟩ (wk0 (by repeat (first | exact subσ.nil _ | refine subσ.cons rfl ?_)) (by repeat' (first | constructor | apply Sub.suf))) ?_
  rintro ⟨k, hk, hkk⟩
  refine cmono (S' := St M0 F0 w0 32 [(0, .slice A l.length c), (1, .slice B m.length c'), (2, .func (.func 100) #[] #[]), (15, .slice A l.length c), (16, .int .i64 (l.length : Int)), (17, .int .i64 (k : Int))] [] [slA A l, slA B m]) (fun _ _ h => h) ?_
  refine cs ?_
  refine cr ?_
  refine ls (op (p_icmp rfl rfl rfl) rfl) ?_
  refine ln ?_
  refine nthen ?_
  refine cs ?_
  refine cc rfl ?_ ?_
  ·
   intro h18
   try simp only [decide_eq_true_eq, decide_eq_false_iff_not, Bool.not_eq_true', Bool.not_eq_false', Int.not_lt, Int.not_le, ge_iff_le, Bool.not_true, Bool.not_false] at h18
   have hk1 : k < l.length := by omega
   have hk2 : k < m.length := by omega
   refine cskip ?_
   refine nthen ?_
   refine cs ?_
   refine cb ?_
   refine cs ?_
   refine elC (by repeat' constructor) k (List.getElem?_eq_getElem (l := l) hk1) ?_; rintro zbp zop zyp hAp
   refine cr ?_
   refine ls (op (p_move rfl) rfl) ?_
   refine ls (op (p_ia k hAp hk1 rfl Tryz.underlying29 Tryz.sizeOf39 rfl rfl) rfl) ?_
   refine ls (o_ldj Tryz.isAgg39 Tryz.sizeOf39 rfl (by repeat' constructor) 0 rfl (by repeat (first | exact Cut.d | apply Cut.t | apply Cut.s)) rfl) ?_
   refine ls (o_alloc Tryz.zeroValue39 rfl rfl) ?_
   refine le ?_; intro b8
   refine ls (op (p_asg rfl) rfl) ?_
   refine ls (o_st rfl Tryz.sizeOf39 rfl rfl rfl rfl rfl (by repeat' constructor) (by repeat' constructor) (by repeat' constructor)) ?_
   refine ln ?_
   refine nthen ?_
   refine cs ?_
   refine elC (by repeat' constructor) k (List.getElem?_eq_getElem (l := m) hk2) ?_; rintro zbq zoq zyq hAq
   refine cr ?_
   refine ls (op (p_move rfl) rfl) ?_
   refine ls (op (p_move rfl) rfl) ?_
   refine ls (op (p_ia k hAq hk2 rfl Tryz.underlying29 Tryz.sizeOf39 rfl rfl) rfl) ?_
   refine ls (o_ldj Tryz.isAgg39 Tryz.sizeOf39 rfl (by repeat' constructor) 0 rfl (by repeat (first | exact Cut.d | apply Cut.t | apply Cut.s)) rfl) ?_
   refine ls (o_alloc Tryz.zeroValue39 rfl rfl) ?_
   refine le ?_; intro b9
   refine ls (o_st rfl Tryz.sizeOf39 rfl rfl rfl rfl rfl (by repeat' constructor) (by repeat' constructor) (by repeat' constructor)) ?_
   refine ln ?_
   refine nthen ?_
   refine cs ?_
   refine cr ?_
   refine ls (op (p_move rfl) rfl) ?_
   refine ls (o_ldw Tryz.isAgg39 Tryz.sizeOf39 rfl (by repeat' constructor) (by rfl) rfl) ?_
   refine ls (o_ldw Tryz.isAgg39 Tryz.sizeOf39 rfl (by repeat' constructor) (by rfl) rfl) ?_
   refine ls (o_callv (is := []) rfl Tryz.call100 (c_primSame l[k] m[k] zyp zyq (hf _ (List.getElem_mem hk1))) rfl rfl rfl (by repeat' (first | constructor | apply Sub.suf)) rfl) ?_
   refine le ?_; intro x29
   refine ls (op (p_not rfl) rfl) ?_
   refine ln ?_
   refine nthen ?_
   refine cc rfl ?_ ?_
   ·
    intro h30
    try simp only [decide_eq_true_eq, decide_eq_false_iff_not, Bool.not_eq_true', Bool.not_eq_false', Int.not_lt, Int.not_le, ge_iff_le, Bool.not_true, Bool.not_false] at h30
    refine cs ?_
    refine cr ?_
    refine ls (op (p_asg rfl) rfl) ?_
    refine ln ?_
    refine nthen ?_
    refine cret ?_
    refine xret (fun _ _ h => h) ?_
    refine rret (is := []) () (Or.inl rfl) (Res.t rfl Res.d) ?_ rfl (by repeat' (first | constructor | apply Sub.suf))
    simp [packV]; rintro rfl; exact h30 rfl
   ·
    intro h30
    try simp only [decide_eq_true_eq, decide_eq_false_iff_not, Bool.not_eq_true', Bool.not_eq_false', Int.not_lt, Int.not_le, ge_iff_le, Bool.not_true, Bool.not_false] at h30
    refine cskip ?_
    refine nblock ?_
    refine nthen ?_
    refine cr ?_
    refine ls (op (p_add rfl rfl (by omega)) rfl) ?_
    refine ls (op (p_move rfl) rfl) ?_
    refine ln ?_
    refine nnext ⟨k + 1, hk1, by rw [List.take_succ_eq_append_getElem hk1, List.take_succ_eq_append_getElem hk2, hkk, h30]⟩ (by dsimp only; omega) (wk (is := []) (by repeat (first | exact subσ.nil _ | refine subσ.cons rfl ?_)) rfl (by repeat' (first | constructor | apply Sub.suf)))
  ·
   intro h18
   try simp only [decide_eq_true_eq, decide_eq_false_iff_not, Bool.not_eq_true', Bool.not_eq_false', Int.not_lt, Int.not_le, ge_iff_le, Bool.not_true, Bool.not_false] at h18
   refine cexit ?_
   refine xthen ?_
   refine xthen ?_
   refine xblock ?_
   refine nthen ?_
   refine cs ?_
   refine cr ?_
   refine ls (op (p_asg rfl) rfl) ?_
   refine ln ?_
   refine nthen ?_
   refine cret ?_
   refine xret (fun _ _ h => h) ?_
   refine rret (is := []) () (Or.inl rfl) (Res.t rfl Res.d) ?_ rfl (by repeat' (first | constructor | apply Sub.suf))
   simp [packV]; have := List.take_of_length_le (l := l) (i := k) (by omega); have := List.take_of_length_le (l := m) (i := k) (by omega); simp_all

set_option maxRecDepth 100000 in
theorem c_seqSame (l m : List Prim) (A B : Option Addr) (c c' : Nat) (hl : l.length ≤ 2000000) (hf : ∀ x ∈ l, x.fit) : Con Tryz.prog 112 [.slice A l.length c, .slice B m.length c'] [] [slA A l, slA B m] Unit (fun _ => .bool (decide (l = m))) (fun _ => []) (fun _ => []) := by
 refine con Tryz.func112 rfl Tryz.ntmps112 rfl ?_
 intro M0 F0 w0
 refine cs ?_
 refine cr ?_
 refine ls (op (p_asg rfl) rfl) ?_
 refine ln ?_
 refine nthen ?_
 refine cs ?_
 refine cr ?_
 refine ls (op (p_move rfl) rfl) ?_
 refine ls (op (p_move rfl) rfl) ?_
 refine ls (o_call (is := []) Tryz.call143 (c_EqualFuncP l m A B c c' hl hf) rfl rfl (by repeat' (first | constructor | apply Sub.suf)) rfl) ?_
 refine le ?_; intro x7
 refine ls (op (p_asg rfl) rfl) ?_
 refine ln ?_
 refine nthen ?_
 refine cret ?_
 refine xret (fun _ _ h => h) ?_
 refine rret (is := []) () (Or.inl rfl) (Res.t rfl Res.d) (rfl) rfl (by repeat' (first | constructor | apply Sub.suf))

end Go.Proofs.YtdbiillompeclaaGreatDoor.X

end
section
set_option linter.unusedVariables false
set_option linter.unusedSimpArgs false
namespace Go.Proofs.YtdbiillompeclaaGreatDoor.X
open Go Go.RowKit Go.Proofs Go.Sx
attribute [local irreducible] slA isA box row

theorem inf83 : (Tryz.prog.info? 83).map (fun i => (i.zero, i.size, i.bytes)) = some (some (.agg #[.int .i64 0, .string ⟨#[]⟩, .string ⟨#[]⟩, .int .i64 0, .slice none 0 0, .slice none 0 0]), 6, 96) := by kernel_rfl
end Go.Proofs.YtdbiillompeclaaGreatDoor.X

end
section
set_option linter.unusedVariables false
set_option linter.unusedSimpArgs false
namespace Go.Proofs.YtdbiillompeclaaGreatDoor.X
open Go Go.RowKit Go.Proofs Go.Sx
attribute [local irreducible] slA isA box row


set_option maxRecDepth 100000 in
theorem c_seqInvert (l : List Prim) (A : Option Addr) (c : Nat) (hl : l.length ≤ 2000000) (hf : ∀ x ∈ l, x.fit) : Con Tryz.prog 30 [.slice A l.length c] [] [slA A l] (Option Addr × Nat) (fun y => .slice y.1 (invL l).length y.2) (fun _ => []) (fun y => [slA y.1 (invL l)]) := by
 refine con Tryz.func30 rfl Tryz.ntmps30 rfl ?_
 intro M0 F0 w0
 refine cs ?_
 refine cr ?_
 refine ls (op (p_asg rfl) rfl) ?_
 refine ln ?_
 refine nthen ?_
 refine cs ?_
 refine cr ?_
 refine ls (o_alloc Tryz.zeroValue29 rfl rfl) ?_
 refine le ?_; intro b3
 refine ln ?_
 refine nthen ?_
 refine cs ?_
 refine cs ?_
 refine cmono (fun a w h => nilRow (α := Prim) 39 h) ?_
 refine cr ?_
 refine ls (op (p_move rfl) rfl) ?_
 refine ls (o_call (is := []) Tryz.call75 (c_Backward l A c) rfl rfl (by repeat' (first | constructor | apply Sub.suf)) rfl) ?_
 refine le ?_; intro b7
 refine ln ?_
 refine nthen ?_
 refine cb ?_
 refine crng (ι := fun pre => Option Addr × Nat) rfl Tryz.call126 (c_Backward1 l A c hl b7) (fun _ => rfl) rfl (fun pre i => [box b3 29 [.slice i.1 (invP l pre.length).length i.2], row 39 i.1 i.2 (invP l pre.length)]) (fun pre i => []) ((none, 0)) (Y := Empty) (fun _ => []) (fun _ => []) (is := [2, 1, 0]) rfl (by repeat' (first | constructor | apply Sub.suf)) (by repeat' (first | constructor | apply Sub.suf)) ?_ ?_ ?_
 ·
  rintro M0 F0 w0 lp κ pre ⟨⟨k, yk⟩, hk⟩ hx ⟨A2, c2⟩
  dsimp only at hk hx ⊢
  have hfk := hf _ (List.getElem_mem hk)
  have hpl := invP_len l (show pre.length ≤ l.length by omega)
  refine cmono (S' := St M0 F0 w0 ⟨16, []⟩ [(3, .pointer (some ⟨b3, 0, none⟩)), (9, sv l[k] yk)] [lrec lp κ .ready none, box b3 29 [.slice A2 (invP l pre.length).length c2], row 39 A2 c2 (invP l pre.length)] [slA yk.1.1 l[k].old, slA yk.2.1 l[k].new]) (wk0 (by repeat (first | exact subσ.nil _ | refine subσ.cons rfl ?_)) (by repeat' (first | constructor | apply Sub.suf))) ?_
  refine cr ?_
  refine ls (o_alloc Tryz.zeroValue39 rfl rfl) ?_
  refine le ?_; intro b5
  refine ls (o_st rfl Tryz.sizeOf39 rfl rfl rfl rfl rfl (by repeat' constructor) (by repeat' constructor) (by repeat' constructor)) ?_
  refine ln ?_
  refine nbegin (i := 1) rfl ?_
  refine cb ?_
  refine cd [2, 3, 4, 5] [(0, b3, 0, _), (1, b5, 0, _)] TryzX.mixed (TOk.t (isBoxS (by repeat' constructor) (k := 1) (by repeat (first | exact Cut.d | apply Cut.t | apply Cut.s))) (TOk.t (isBoxS (by repeat' constructor) (k := 6) (by repeat (first | exact Cut.d | apply Cut.t | apply Cut.s))) TOk.d)) ?_
  refine tk 0 rfl (by kernel_rfl) (fun _ _ _ h => h) gnone (TTat (List.Mem.head _)) (p_ld Tryz.isAgg29 rfl) rfl ?_
  refine tk 1 rfl (by kernel_rfl) (fun _ _ _ h => h) gnone (TTat (List.Mem.tail _ (List.Mem.head _))) (p_lda Tryz.isAgg39 Tryz.sizeOf39 rfl rfl) rfl ?_
  refine df 2 (by kernel_rfl) ?_
  refine doR rfl (o_call (is := []) Tryz.call49 (c_primInvert l[k] yk hfk) rfl rfl (by repeat' (first | constructor | apply Sub.suf)) rfl) (TOk.t (isBoxE fun _ => isBoxS (by repeat' constructor) (k := 1) (by repeat (first | exact Cut.d | apply Cut.t | apply Cut.s))) (TOk.x (by kernel_rfl) TOk.d)) ?_
  refine ea ?_; rintro ⟨⟨q1, z1⟩, hz1⟩
  obtain rfl : q1 = l[k].flip := hz1
  refine df 3 (by kernel_rfl) ?_
  refine doR rfl (o_bsl [l[k].flip] Tryz.underlying29 Tryz.sizeOf39 Tryz.zeroValue39 rfl (Enum.t Enum.d) (RV.t z1 rfl (by repeat' (first | constructor | apply Sub.suf)) RV.d) rfl (by decide) (by decide) rfl) (TOk.t (isBoxE fun _ => isBoxS (by repeat' constructor) (k := 1) (by repeat (first | exact Cut.d | apply Cut.t | apply Cut.s))) (TOk.x (by kernel_rfl) TOk.d)) ?_
  refine ea ?_; intro b13
  refine amono (fun a w h => Go.Sx.freeze (i := 0) rfl h) ?_
  refine df 4 (by kernel_rfl) ?_
  refine doR rfl (o_app (is := [3]) Tryz.underlying29 inf39 rfl (by decide) (by decide) rfl rfl (by rw [hpl]; simp only [List.length_cons, List.length_nil]; omega) (fun h => by cases h) rfl (by repeat' (first | constructor | apply Sub.suf)) rfl) (TOk.x (by kernel_rfl) (TOk.x (by kernel_rfl) TOk.d)) ?_
  refine ea ?_; rintro ⟨A3, c3⟩
  refine df 5 (by kernel_rfl) ?_
  refine doR rfl (o_st rfl Tryz.sizeOf29 rfl rfl rfl rfl rfl (by repeat' constructor) (by repeat' constructor) (by repeat' constructor)) (TOk.x (by kernel_rfl) (TOk.x (by kernel_rfl) TOk.d)) ?_
  refine dn (by kernel_rfl) ?_
  refine nblock ?_
  rw [← invP_step hx]
  exact nround (A3, c3) (is := [1, 2, 0]) (by rw [List.length_append]; rfl) (by repeat' (first | constructor | apply Sub.suf))
 ·
  rintro D xs hC ⟨A2, c2⟩
  rw [hC, invP_all]
  refine nblock ?_
  refine nthen ?_
  refine cs ?_
  refine cmono (fun a w h => Go.Sx.freeze (i := 1) rfl h) ?_
  refine cr ?_
  refine ls (o_ld Tryz.isAgg29 rfl (by repeat' constructor) (by repeat' constructor) rfl) ?_
  refine ls (op (p_asg rfl) rfl) ?_
  refine ln ?_
  refine nthen ?_
  refine cret ?_
  refine xret (fun _ _ h => h) ?_
  refine rretm (Dfr.c (i := 2) rfl Dfr.d) (is := []) (A2, c2) (Or.inl rfl) (Res.t rfl Res.d) (rfl) rfl (by repeat' (first | constructor | apply Sub.suf))
 ·
  intro D y
  exact y.elim

end Go.Proofs.YtdbiillompeclaaGreatDoor.X

end
section
set_option linter.unusedVariables false
set_option linter.unusedSimpArgs false
namespace Go.Sx
open Go Go.RowKit
theorem borrow {P : Program} {f : FuncId} {args : List Value} {α : Type} [Rp α] {e : TypeId} {A : Option Addr} {c : Nat} {l : List α} {Γi : List Asn} {X : Type} {rv : X → Value} {Ξo : X → List Xsn}
    (h : Con P f args [] (slA A l :: Γi) X rv Ξo (fun _ => [])) (hfree : ∀ x, ∀ z ∈ Ξo x, ∀ F M M' w, z.p F M w → z.p F M' w) :
    Con P f args [row e A c l] Γi X rv (fun x => row e A c l :: Ξo x) (fun _ => []) := by
  intro M0 Fs w hh
  obtain ⟨F, rfl, hrow⟩ := hh.one_of
  have ho : ∀ b, own [F] b ↔ F b := fun b => by simp [own]
  have hsl : Slots ⟨0, []⟩ [] { tmps := #[], defers := [] } := ⟨rfl, rfl, fun t v h => by cases h⟩
  obtain ⟨_, Fs', h1⟩ := freeze (i := 0) rfl (⟨hsl, [F], hh⟩ : St M0 (own [F]) w ⟨0, []⟩ [] [row e A c l] Γi { tmps := #[], defers := [] } w)
  have hnil : Fs' = [] := by
    cases Fs' with
    | nil => rfl
    | cons G Gs => exact h1.ex.elim
  subst hnil
  have hin : Hp M0 (own []) w [] (slA A l :: Γi) [] w := ⟨trivial, .nil, fun b hb => absurd hb (own_nil b), fun b hb => absurd hb (own_nil b), fun b hb => absurd hb (own_nil b), h1.ga, Upd.refl _ _, h1.m0, fun b hb => absurd hb (own_nil b)⟩
  refine (h M0 [] w hin).mono ?_
  rintro en w' ⟨x, Gs, rfl, hout⟩
  have hnew : ∀ b, own Gs b → ¬ b < w.heap.size := fun b hb hl => own_nil b (hout.old b hb hl)
  have hblk : ∀ b, b < w.heap.size → w'.heap[b]? = w.heap[b]? := fun b hb => hout.up.block b hb (own_nil b)
  refine ⟨x, F :: Gs, rfl, ⟨?_, ?_⟩, List.pairwise_cons.2 ⟨fun G hG b hf hg => hnew b ⟨G, hG, hg⟩ (hh.lt b ((ho b).2 hf)), hout.dis⟩, ?_, ?_, ?_, (fun p hp => by cases hp), ⟨hout.up.os, hout.up.tape, hout.up.output, hout.up.size, fun b hb _ => hblk b hb⟩, hh.m0, hh.f0⟩
  · refine (row e A c l).st _ _ _ _ _ hrow (fun b hb _ => hblk b hb) (fun b hb hM => ?_) hout.up.size
    rcases hM with hM | hM
    · exact .inl hM
    · rcases own_cons.1 hM with hM | hM
      · exact .inr ((ho b).2 hM)
      · exact absurd hb (hnew b hM)
  · have : ∀ {Ξ : List Xsn} {Gs : List (Nat → Prop)} {M M' : Nat → Prop}, (∀ z ∈ Ξ, ∀ F M M' w, z.p F M w → z.p F M' w) → all2 M w' Ξ Gs → all2 M' w' Ξ Gs := by
      intro Ξ
      induction Ξ with
      | nil =>
        intro Gs M M' _ h
        cases Gs with
        | nil => trivial
        | cons _ _ => exact h.elim
      | cons z Ξ ih =>
        intro Gs M M' hz h
        cases Gs with
        | nil => exact h.elim
        | cons G Gs => exact ⟨hz z (by simp) _ _ _ _ h.1, ih (fun z' h' => hz z' (by simp [h'])) h.2⟩
    exact this (hfree x) hout.ex
  · intro b hb
    rcases own_cons.1 hb with hb | hb
    · exact hh.dis0 b ((ho b).2 hb)
    · intro hm; exact hnew b hb (hh.m0 b hm)
  · intro b hb
    rcases own_cons.1 hb with hb | hb
    · exact Nat.lt_of_lt_of_le (hh.lt b ((ho b).2 hb)) hout.up.size
    · exact hout.lt b hb
  · intro b hb hl
    rcases own_cons.1 hb with hb | hb
    · exact (ho b).2 hb
    · exact absurd hl (hnew b hb)
theorem row_free {e : TypeId} {A : Option Addr} {c : Nat} {l : List ByteArray} : ∀ F M M' w, (row e A c l).p F M w → (row e A c l).p F M' w := by
  rintro F M M' w ⟨xs, h1, h2, h3⟩
  have := rowE_strs h3
  subst this
  exact ⟨_, h1, h2, strs_rowE l⟩
end Go.Sx

end
section
set_option linter.unusedVariables false
set_option linter.unusedSimpArgs false
namespace Go.Sx
open Go Go.RowKit
def appliedT (M : List File) (ps : List Prim) : List File := ps.foldl (fun T p => (rApplyT T p).1) M
theorem appliedT_succ {M : List File} {ps : List Prim} {k : Nat} (h : k < ps.length) : appliedT M (ps.take (k + 1)) = (rApplyT (appliedT M (ps.take k)) ps[k]).1 := by
  unfold appliedT
  rw [List.take_succ_eq_append_getElem h, List.foldl_append]; rfl
def news (ps : List Prim) : Nat := (ps.map fun p => p.new.length).sum
theorem news_le (ps : List Prim) : news ps ≤ many ps := by
  unfold news many
  have : (ps.map fun p => p.new.length).sum ≤ (ps.map Prim.many).sum := by
    induction ps with
    | nil => simp
    | cons p ps ih =>
      simp only [List.map_cons, List.sum_cons]
      have : p.new.length ≤ p.many := by unfold Prim.many; omega
      omega
  omega
theorem news_take (ps : List Prim) (k : Nat) : news (ps.take k) ≤ news ps := by
  have e : news ps = news (ps.take k) + news (ps.drop k) := by
    unfold news
    rw [← List.sum_append, ← List.map_append, List.take_append_drop]
  omega
structure AppInv (m n : Nat) (T : List File) : Prop where
  so : Sor T
  good : Good T
  lmax : Lmax m T
  len : T.length ≤ n
theorem AppInv.apply {m n : Nat} {T : List File} (h : AppInv m n T) (p : Prim) : AppInv (m + p.new.length) (n + 1) (rApplyT T p).1 :=
  ⟨rApply_sor h.so p, rApply_good h.good p, rApply_lmax h.lmax p, Nat.le_trans (rApply_len T p) (Nat.succ_le_succ h.len)⟩
theorem AppInv.made (l : List TOp) : AppInv (omany l) l.length (madeT l) := by
  have ht : Tok l.length (omany l) (madeT l) := madeT_tok fun o ho => omany_mem ho
  exact ⟨madeT_sor l, madeT_good l, fun x hx => (ht.fit x hx).1, ht.len⟩
theorem AppInv.applied {m n : Nat} {M : List File} (h : AppInv m n M) : ∀ (ps : List Prim), AppInv (m + news ps) (n + ps.length) (appliedT M ps) := by
  intro ps
  induction ps generalizing M m n with
  | nil => exact h
  | cons p ps ih =>
    have := ih (h.apply p)
    have e1 : m + p.new.length + news ps = m + news (p :: ps) := by unfold news; simp only [List.map_cons, List.sum_cons]; omega
    have e2 : n + 1 + ps.length = n + (p :: ps).length := by simp only [List.length_cons]; omega
    rw [e1, e2] at this
    exact this
theorem flip_new (p : Prim) : p.flip.new.length ≤ p.old.length + p.new.length := by
  unfold Prim.flip
  repeat' split
  all_goals simp
theorem bne_self' (e : Int) : (!decide (e = e)) = false := by simp
theorem many_one (p : Prim) : many [p] = 1 + p.many := by simp [many]
end Go.Sx

end
section
set_option linter.unusedVariables false
set_option linter.unusedSimpArgs false
namespace Go.Sx
open Go
/-! Prims that were swapped make of any tree what these made. -/
abbrev Tf := ByteArray → Option (List ByteArray)
def upd (f : Tf) (k : ByteArray) (v : Option (List ByteArray)) : Tf := fun x => if x = k then v else f x
theorem upd_at (f : Tf) (k : ByteArray) (v : Option (List ByteArray)) : upd f k v k = v := if_pos rfl
theorem upd_ne (f : Tf) {k x : ByteArray} (v : Option (List ByteArray)) (h : x ≠ k) : upd f k v x = f x := if_neg h
def Step (f : Tf) (p : Prim) (g : Tf) : Prop :=
  if p.kind = 0 then ∃ A B, f p.name = some (A ++ p.old ++ B) ∧ (A.length : Int) = p.pos ∧ g = upd f p.name (some (A ++ p.new ++ B))
  else if p.kind = 1 then f p.name = none ∧ g = upd f p.name (some [])
  else if p.kind = 2 then f p.name = some [] ∧ g = upd f p.name none
  else ∃ l, f p.name = some l ∧ f p.to = none ∧ g = upd (upd f p.name none) p.to (some l)
theorem step0 {f g : Tf} {p : Prim} (h : p.kind = 0) : Step f p g ↔ ∃ A B, f p.name = some (A ++ p.old ++ B) ∧ (A.length : Int) = p.pos ∧ g = upd f p.name (some (A ++ p.new ++ B)) := by
  unfold Step; rw [if_pos h]
theorem step1 {f g : Tf} {p : Prim} (h : p.kind = 1) : Step f p g ↔ f p.name = none ∧ g = upd f p.name (some []) := by
  unfold Step; rw [if_neg (by omega), if_pos h]
theorem step2 {f g : Tf} {p : Prim} (h : p.kind = 2) : Step f p g ↔ f p.name = some [] ∧ g = upd f p.name none := by
  unfold Step; rw [if_neg (by omega), if_neg (by omega), if_pos h]
theorem step3 {f g : Tf} {p : Prim} (h : p.kind = 3) : Step f p g ↔ ∃ l, f p.name = some l ∧ f p.to = none ∧ g = upd (upd f p.name none) p.to (some l) := by
  unfold Step; rw [if_neg (by omega), if_neg (by omega), if_neg (by omega)]
theorem names3 {p : Prim} (h : p.kind = 3) : p.names = [p.name, p.to] := by unfold Prim.names; rw [if_pos h]
theorem namesN {p : Prim} (h : p.kind ≠ 3) : p.names = [p.name] := by unfold Prim.names; rw [if_neg h]
theorem step_off {f g : Tf} {p : Prim} (hr : p.right = true) (h : Step f p g) {k : ByteArray} (hk : k ∉ p.names) : g k = f k := by
  rcases right_kind hr with h0 | h0 | h0 | h0
  · obtain ⟨A, B, _, _, rfl⟩ := (step0 h0).1 h
    rw [namesN (by omega)] at hk; exact upd_ne _ _ (by simpa using hk)
  · obtain ⟨_, rfl⟩ := (step1 h0).1 h
    rw [namesN (by omega)] at hk; exact upd_ne _ _ (by simpa using hk)
  · obtain ⟨_, rfl⟩ := (step2 h0).1 h
    rw [namesN (by omega)] at hk; exact upd_ne _ _ (by simpa using hk)
  · obtain ⟨l, _, _, rfl⟩ := (step3 h0).1 h
    rw [names3 h0] at hk; simp only [List.mem_cons, List.mem_nil_iff, or_false, not_or] at hk
    rw [upd_ne _ _ hk.2, upd_ne _ _ hk.1]
theorem step_local {f g f' g' : Tf} {p : Prim} (hr : p.right = true) (h : Step f p g) (h1 : ∀ k ∈ p.names, f' k = f k) (h2 : ∀ k ∈ p.names, g' k = g k) (h3 : ∀ k, k ∉ p.names → g' k = f' k) : Step f' p g' := by
  have hn : p.name ∈ p.names := by unfold Prim.names; split <;> simp
  rcases right_kind hr with h0 | h0 | h0 | h0
  · obtain ⟨A, B, e1, e2, e3⟩ := (step0 h0).1 h
    refine (step0 h0).2 ⟨A, B, by rw [h1 _ hn, e1], e2, funext fun k => ?_⟩
    by_cases e : k = p.name
    · subst e; rw [h2 _ hn, upd_at, e3, upd_at]
    · rw [upd_ne _ _ e, h3 _ (by rw [namesN (by omega)]; simpa using e)]
  · obtain ⟨e1, e3⟩ := (step1 h0).1 h
    refine (step1 h0).2 ⟨by rw [h1 _ hn, e1], funext fun k => ?_⟩
    by_cases e : k = p.name
    · subst e; rw [h2 _ hn, upd_at, e3, upd_at]
    · rw [upd_ne _ _ e, h3 _ (by rw [namesN (by omega)]; simpa using e)]
  · obtain ⟨e1, e3⟩ := (step2 h0).1 h
    refine (step2 h0).2 ⟨by rw [h1 _ hn, e1], funext fun k => ?_⟩
    by_cases e : k = p.name
    · subst e; rw [h2 _ hn, upd_at, e3, upd_at]
    · rw [upd_ne _ _ e, h3 _ (by rw [namesN (by omega)]; simpa using e)]
  · obtain ⟨l, e1, e2, e3⟩ := (step3 h0).1 h
    have ht : p.to ∈ p.names := by rw [names3 h0]; simp
    refine (step3 h0).2 ⟨l, by rw [h1 _ hn, e1], by rw [h1 _ ht, e2], funext fun k => ?_⟩
    by_cases e : k = p.to
    · subst e; rw [h2 _ ht, upd_at, e3, upd_at]
    · rw [upd_ne _ _ e]
      by_cases e' : k = p.name
      · subst e'; rw [h2 _ hn, upd_at, e3, upd_ne _ _ e, upd_at]
      · rw [upd_ne _ _ e', h3 _ (by rw [names3 h0]; simp [e, e'])]
open Classical in
theorem step_apart {f g h : Tf} {p q : Prim} (hp : p.right = true) (hq : q.right = true) (h1 : Step f p g) (h2 : Step g q h) (hd : ∀ k ∈ p.names, k ∉ q.names) : ∃ m, Step f q m ∧ Step m p h := by
  refine ⟨fun k => if k ∈ q.names then h k else f k, step_local hq h2 (fun k hk => ?_) (fun k hk => if_pos hk) (fun k hk => if_neg hk), step_local hp h1 (fun k hk => if_neg (hd k hk)) (fun k hk => step_off hq h2 (hd k hk)) fun k hk => ?_⟩
  · exact (step_off hp h1 (fun hk' => hd k hk' hk)).symm
  · by_cases e : k ∈ q.names
    · exact (if_pos e).symm
    · rw [if_neg e, step_off hq h2 e, step_off hp h1 hk]
theorem meets_no {p q : Prim} (h : p.meets q = false) : ∀ k ∈ p.names, k ∉ q.names := fun k h1 h2 => by
  have : p.meets q = true := by
    unfold Prim.meets
    rw [List.any_eq_true]
    exact ⟨k, h1, by rw [List.any_eq_true]; exact ⟨k, h2, by simp⟩⟩
  rw [h] at this; cases this
theorem split_at {A B C D : List ByteArray} {o : List ByteArray} (h : A ++ o ++ B = C ++ D) (hl : A.length + o.length ≤ C.length) : ∃ E, C = A ++ o ++ E ∧ B = E ++ D := by
  rw [List.append_eq_append_iff] at h
  rcases h with ⟨E, h1, h2⟩ | ⟨E, h1, h2⟩
  · exact ⟨E, h1, h2⟩
  · have : E = [] := by
      have := congrArg List.length h1
      simp only [List.length_append] at this
      exact List.eq_nil_of_length_eq_zero (by omega)
    subst this
    exact ⟨[], by simpa using h1.symm, by simpa using h2.symm⟩
theorem step_swap {f g h : Tf} {p q a b : Prim} (h1 : Step f p g) (h2 : Step g q h) (hs : swap p q = (a, b, true)) : ∃ m, Step f a m ∧ Step m b h := by
  obtain ⟨hs, hp, hq, ha, hb⟩ := swap_true hs
  rcases swapped_cases hs with ⟨h0, h3, hn, hc, ea, eb⟩ | ⟨h0, h3, hn, hc, ea, eb⟩ | ⟨h0, h3, hn, ea, eb⟩ | ⟨h0, h3, hn, ea, eb⟩ | ⟨h0, h3, hn, ht, ea, eb⟩ | ⟨h0, h3, hn, ea, eb⟩ | ⟨h0, h3, hn, ht, ea, eb⟩ | ⟨h4, h5, h3, hm, ea, eb⟩
  · rw [ea, eb]; obtain ⟨A, B, e1, e2, rfl⟩ := (step0 h0).1 h1
    obtain ⟨C, D, e3, e4, rfl⟩ := (step0 h3).1 h2
    rw [← hn, upd_at] at e3
    obtain ⟨E, rfl, rfl⟩ := split_at (D := q.old ++ D) (by simpa using (Option.some.inj e3)) (by omega)
    refine ⟨upd f p.name (some (A ++ p.old ++ E ++ q.new ++ D)), (step0 (p := { q with pos := q.pos - ((p.new.length : Int) - p.old.length) }) h3).2 ⟨A ++ p.old ++ E, D, ?_, ?_, ?_⟩, (step0 h0).2 ⟨A, E ++ q.new ++ D, ?_, e2, ?_⟩⟩
    · dsimp only; rw [← hn, e1]; simp
    · dsimp only; simp only [List.length_append] at e4 ⊢; omega
    · dsimp only; rw [← hn]
    · rw [upd_at]; simp
    · rw [← hn]; funext k
      by_cases e : k = p.name
      · subst e; rw [upd_at, upd_at]; simp
      · rw [upd_ne _ _ e, upd_ne _ _ e, upd_ne _ _ e, upd_ne _ _ e]
  · rw [ea, eb]; obtain ⟨A, B, e1, e2, rfl⟩ := (step0 h0).1 h1
    obtain ⟨C, D, e3, e4, rfl⟩ := (step0 h3).1 h2
    rw [← hn, upd_at] at e3
    obtain ⟨E, rfl, rfl⟩ := split_at (A := C) (o := q.old) (B := D) (C := A) (D := p.new ++ B) (by simpa using (Option.some.inj e3).symm) (by omega)
    refine ⟨upd f p.name (some (C ++ q.new ++ (E ++ p.old ++ B))), (step0 h3).2 ⟨C, E ++ p.old ++ B, ?_, e4, ?_⟩, (step0 (p := { p with pos := p.pos + ((q.new.length : Int) - q.old.length) }) h0).2 ⟨C ++ q.new ++ E, B, ?_, ?_, ?_⟩⟩
    · rw [← hn, e1]; simp
    · rw [← hn]
    · dsimp only; rw [upd_at]; simp
    · dsimp only; simp only [List.length_append] at e2 ⊢; omega
    · dsimp only; rw [← hn]; funext k
      by_cases e : k = p.name
      · subst e; rw [upd_at, upd_at]; simp
      · rw [upd_ne _ _ e, upd_ne _ _ e, upd_ne _ _ e, upd_ne _ _ e]
  · rw [ea, eb]; exact step_apart hp hq h1 h2 (fun k => by rw [namesN (by omega), namesN (by omega)]; simp only [List.mem_singleton]; rintro rfl; exact hn)
  · rw [ea, eb]; obtain ⟨A, B, e1, e2, rfl⟩ := (step0 h0).1 h1
    obtain ⟨l, e3, e4, rfl⟩ := (step3 h3).1 h2
    rw [← hn, upd_at] at e3
    obtain rfl := Option.some.inj e3
    have hne : q.to ≠ p.name := fun e => by rw [e, upd_at] at e4; cases e4
    rw [upd_ne _ _ hne] at e4
    refine ⟨upd (upd f q.name none) q.to (some (A ++ p.old ++ B)), (step3 h3).2 ⟨_, by rw [← hn, e1], e4, rfl⟩, (step0 (p := { p with name := q.to }) h0).2 ⟨A, B, ?_, e2, ?_⟩⟩
    · dsimp only; rw [upd_at]
    · dsimp only; rw [← hn]; funext k
      by_cases e : k = q.to
      · subst e; rw [upd_at, upd_at]
      · rw [upd_ne _ _ e, upd_ne _ _ e, upd_ne _ _ e]
        by_cases e' : k = p.name
        · subst e'; rw [upd_at, upd_at]
        · rw [upd_ne _ _ e', upd_ne _ _ e', upd_ne _ _ e']
  · rw [ea, eb]; exact step_apart hp hq h1 h2 (fun k => by rw [namesN (by omega), names3 h3]; simp only [List.mem_singleton, List.mem_cons, List.mem_nil_iff, or_false, not_or]; rintro rfl; exact ⟨hn, ht⟩)
  · rw [ea, eb]; obtain ⟨l, e1, e2, rfl⟩ := (step3 h0).1 h1
    obtain ⟨A, B, e3, e4, rfl⟩ := (step0 h3).1 h2
    rw [← hn, upd_at] at e3
    obtain rfl := Option.some.inj e3
    have hne : p.to ≠ p.name := fun e => by rw [e, e1] at e2; cases e2
    refine ⟨upd f p.name (some (A ++ q.new ++ B)), (step0 (p := { q with name := p.name }) h3).2 ⟨A, B, ?_, e4, rfl⟩, (step3 h0).2 ⟨_, upd_at _ _ _, ?_, ?_⟩⟩
    · dsimp only; rw [e1]
    · rw [upd_ne _ _ hne, e2]
    · rw [← hn]; funext k
      by_cases e : k = p.to
      · subst e; rw [upd_at, upd_at]
      · rw [upd_ne _ _ e, upd_ne _ _ e, upd_ne _ _ e]
        by_cases e' : k = p.name
        · subst e'; rw [upd_at, upd_at]
        · rw [upd_ne _ _ e', upd_ne _ _ e', upd_ne _ _ e']
  · rw [ea, eb]; exact step_apart hp hq h1 h2 (fun k => by rw [names3 h0, namesN (by omega)]; simp only [List.mem_singleton, List.mem_cons, List.mem_nil_iff, or_false]; rintro (rfl | rfl); exact ht; exact hn)
  · rw [ea, eb]; exact step_apart hp hq h1 h2 (meets_no hm)
/-! trees -/
theorem hasT_eq (T : List File) (k : ByteArray) : (hasT T k = true ↔ ∃ l, getT T k = some l) := by
  unfold hasT; rw [Option.isSome_iff_exists]
theorem splT_at {l A B o n : List ByteArray} {z : Int} (h : l = A ++ o ++ B) (hz : (A.length : Int) = z) : standsB l z o = true ∧ splT l z o n = A ++ n ++ B := by
  subst hz
  have h1 : standsB l (A.length : Int) o = true := by
    rw [standsB_nat (by rw [h]; simp only [List.length_append]; omega), h, decide_eq_true_eq, List.append_assoc, List.drop_left, List.take_left]
  refine ⟨h1, ?_⟩
  rw [splT_yes h1, h]
  rw [show (A ++ o ++ B).take A.length = A by rw [List.append_assoc, List.take_left], show (A ++ o ++ B).drop (A.length + o.length) = B by rw [← List.length_append, List.drop_left]]
theorem stands_at {l o : List ByteArray} {z : Int} (h : standsB l z o = true) : ∃ A B, l = A ++ o ++ B ∧ (A.length : Int) = z := by
  obtain ⟨k, rfl, h1, h2⟩ := standsB_yes h
  refine ⟨l.take k, (l.drop k).drop o.length, ?_, by rw [List.length_take]; omega⟩
  conv => rhs; rw [← h2]
  rw [List.append_assoc]
  have : ((l.drop k).take o.length).length = o.length := by rw [h2]
  rw [this, List.take_append_drop, List.take_append_drop]
def Ran (T : List File) (p : Prim) (U : List File) : Prop := rApplyT T p = (U, 0)
theorem ran_right {T U : List File} {p : Prim} (h : Ran T p U) : p.right = true := by
  unfold Ran rApplyT at h
  split at h
  · simp at h
  · rename_i h1; simpa using h1
theorem ran_sor {T U : List File} {p : Prim} (h : Ran T p U) (hS : Sor T) : Sor U := by
  have := rApply_sor hS p; rw [h] at this; exact this
theorem ran_step {T U : List File} {p : Prim} (hS : Sor T) (h : Ran T p U) : Step (getT T) p (getT U) := by
  have hr := ran_right h
  unfold Ran rApplyT at h
  rw [if_neg (by simp [hr])] at h
  rcases right_kind hr with h0 | h0 | h0 | h0
  · rw [if_pos h0] at h
    split at h
    · rename_i hc
      obtain ⟨A, B, e1, e2⟩ := stands_at hc.2
      simp only [Prod.mk.injEq, and_true] at h
      refine (step0 h0).2 ⟨A, B, by rw [← e1]; exact hasT_yes hc.1, e2, funext fun k => ?_⟩
      rw [← h, getT_put hS, (splT_at e1 e2).2]; rfl
    · simp at h
  · rw [if_neg (by omega), if_pos h0] at h
    split at h
    · rename_i hc
      simp only [Prod.mk.injEq, and_true] at h
      exact (step1 h0).2 ⟨hasT_no hc, funext fun k => by rw [← h, getT_put hS]; rfl⟩
    · simp at h
  · rw [if_neg (by omega), if_neg (by omega), if_pos h0] at h
    split at h
    · rename_i hc
      simp only [Prod.mk.injEq, and_true] at h
      exact (step2 h0).2 ⟨by rw [hasT_yes hc.1, List.eq_nil_of_length_eq_zero hc.2], funext fun k => by rw [← h, getT_del hS]; rfl⟩
    · simp at h
  · rw [if_neg (by omega), if_neg (by omega), if_neg (by omega), if_pos h0] at h
    split at h
    · rename_i hc
      simp only [Prod.mk.injEq, and_true] at h
      exact (step3 h0).2 ⟨_, hasT_yes hc.1, hasT_no hc.2, funext fun k => by rw [← h, getT_put (hS.del _), getT_del hS]; rfl⟩
    · simp at h
theorem step_ran {T : List File} {p : Prim} {g : Tf} (hS : Sor T) (hr : p.right = true) (h : Step (getT T) p g) : ∃ U, Ran T p U ∧ getT U = g := by
  unfold Ran rApplyT
  rw [if_neg (by simp [hr])]
  rcases right_kind hr with h0 | h0 | h0 | h0
  · obtain ⟨A, B, e1, e2, rfl⟩ := (step0 h0).1 h
    have hL : getL T p.name = A ++ p.old ++ B := by unfold getL; rw [e1]; rfl
    obtain ⟨s1, s2⟩ := splT_at (n := p.new) hL e2
    rw [if_pos h0, if_pos ⟨(hasT_eq _ _).2 ⟨_, e1⟩, s1⟩]
    exact ⟨_, rfl, funext fun k => by rw [getT_put hS, s2]; rfl⟩
  · obtain ⟨e1, rfl⟩ := (step1 h0).1 h
    rw [if_neg (by omega), if_pos h0, if_pos (by unfold hasT; rw [e1]; rfl)]
    exact ⟨_, rfl, funext fun k => by rw [getT_put hS]; rfl⟩
  · obtain ⟨e1, rfl⟩ := (step2 h0).1 h
    rw [if_neg (by omega), if_neg (by omega), if_pos h0, if_pos ⟨(hasT_eq _ _).2 ⟨_, e1⟩, by unfold getL; rw [e1]; rfl⟩]
    exact ⟨_, rfl, funext fun k => by rw [getT_del hS]; rfl⟩
  · obtain ⟨l, e1, e2, rfl⟩ := (step3 h0).1 h
    rw [if_neg (by omega), if_neg (by omega), if_neg (by omega), if_pos h0, if_pos ⟨(hasT_eq _ _).2 ⟨_, e1⟩, by unfold hasT; rw [e2]; rfl⟩]
    refine ⟨_, rfl, funext fun k => ?_⟩
    rw [getT_put (hS.del _), getT_del hS]
    unfold getL; rw [e1]; rfl
theorem ran_swap {T U V : List File} {p q a b : Prim} (hS : Sor T) (h1 : Ran T p U) (h2 : Ran U q V) (hs : swap p q = (a, b, true)) : ∃ M, Ran T a M ∧ Ran M b V := by
  obtain ⟨_, _, _, ha, hb⟩ := swap_true hs
  obtain ⟨m, s1, s2⟩ := step_swap (ran_step hS h1) (ran_step (ran_sor h1 hS) h2) hs
  obtain ⟨M, r1, rfl⟩ := step_ran hS ha s1
  obtain ⟨W, r2, e⟩ := step_ran (ran_sor r1 hS) hb s2
  obtain rfl := getT_ext (ran_sor r2 (ran_sor r1 hS)) (ran_sor h2 (ran_sor h1 hS)) fun k => congrFun e k
  exact ⟨M, r1, r2⟩
/-! rows -/
def Runs : List File → List Prim → List File → Prop
  | T, [], U => T = U
  | T, p :: l, U => ∃ M, Ran T p M ∧ Runs M l U
theorem runs_app {l m : List Prim} {U : List File} : ∀ {T : List File}, Runs T (l ++ m) U ↔ ∃ M, Runs T l M ∧ Runs M m U := by
  induction l with
  | nil => intro T; exact ⟨fun h => ⟨T, rfl, h⟩, fun ⟨M, e, h⟩ => by cases e; exact h⟩
  | cons p l ih =>
    intro T
    show (∃ M, Ran T p M ∧ Runs M (l ++ m) U) ↔ _
    constructor
    · rintro ⟨M, h1, h2⟩
      obtain ⟨N, h3, h4⟩ := ih.1 h2
      exact ⟨N, ⟨M, h1, h3⟩, h4⟩
    · rintro ⟨N, ⟨M, h1, h3⟩, h4⟩
      exact ⟨M, h1, ih.2 ⟨N, h3, h4⟩⟩
theorem runs_sor {l : List Prim} {U : List File} : ∀ {T : List File}, Runs T l U → Sor T → Sor U := by
  induction l with
  | nil => intro T h hS; cases h; exact hS
  | cons p l ih => rintro T ⟨M, h1, h2⟩ hS; exact ih h2 (ran_sor h1 hS)
theorem runs_past {m : List Prim} {U : List File} : ∀ {T : List File} {p q : Prim} {f : List Prim}, Sor T → Runs T (p :: m) U → past1 p m = some (f, q) → Runs T (f ++ [q]) U := by
  induction m with
  | nil =>
    intro T p q f hS h hp
    obtain ⟨rfl, rfl⟩ := pas_nil.1 hp
    exact h
  | cons x m ih =>
    rintro T p q f hS ⟨M, h1, N, h2, h3⟩ hp
    obtain ⟨a, b, f', e1, e2, rfl⟩ := pas_cons.1 hp
    obtain ⟨K, r1, r2⟩ := ran_swap hS h1 h2 e1
    exact ⟨K, r1, ih (ran_sor r1 hS) ⟨N, r2, h3⟩ e2⟩
theorem runs_swapR : ∀ {l m s f t : List Prim} {T U : List File}, Sor T → Runs T (l.reverse ++ m ++ s) U → swapR l m s = some (f, t) → Runs T (f ++ t) U
  | [], m, s, f, t, T, U, hS, h, e => by
    simp only [swapR, Option.some.injEq, Prod.mk.injEq] at e
    obtain ⟨rfl, rfl⟩ := e
    simpa using h
  | p :: l, m, s, f, t, T, U, hS, h, e => by
    rw [swapR, Option.bind_eq_some_iff] at e
    obtain ⟨⟨n, q⟩, e1, e2⟩ := e
    refine runs_swapR hS ?_ e2
    rw [List.reverse_cons, List.append_assoc, List.append_assoc, runs_app] at h
    obtain ⟨M, r1, r2⟩ := h
    rw [show [p] ++ (m ++ s) = (p :: m) ++ s by rfl, runs_app] at r2
    obtain ⟨N, r3, r4⟩ := r2
    rw [List.append_assoc, runs_app]
    refine ⟨M, r1, ?_⟩
    have := runs_past (runs_sor r1 hS) r3 e1
    rw [show n ++ q :: s = (n ++ [q]) ++ s by simp, runs_app]
    exact ⟨N, this, r4⟩
theorem runs_swapL {l m f s : List Prim} {T U : List File} (hS : Sor T) (h : Runs T (l ++ m) U) (e : swapL l m = some (f, s)) : Runs T (f ++ s) U :=
  runs_swapR (l := l.reverse) hS (by simpa using h) e
theorem ran_back {T U : List File} {p : Prim} (hS : Sor T) (hG : Good T) (h : Ran T p U) : Ran U p.flip T := by
  have h1 : (U, (0 : Int)) = applyT T p := by rw [apply_eq hS hG]; exact h.symm
  have hG1 : Good U := by have := rApply_good hG p; rw [h] at this; exact this
  have := apply_back hS hG h1
  rw [apply_eq (ran_sor h hS) hG1] at this
  exact this
theorem runs_good {l : List Prim} {U : List File} : ∀ {T : List File}, Runs T l U → Good T → Good U := by
  induction l with
  | nil => intro T h hG; cases h; exact hG
  | cons p l ih => rintro T ⟨M, h1, h2⟩ hG; exact ih h2 (by have := rApply_good hG p; rw [h1] at this; exact this)
theorem invL_cons (p : Prim) (l : List Prim) : invL (p :: l) = invL l ++ [p.flip] := by simp [invL]
theorem runs_back {l : List Prim} {U : List File} : ∀ {T : List File}, Sor T → Good T → Runs T l U → Runs U (invL l) T := by
  induction l with
  | nil => intro T _ _ h; cases h; exact rfl
  | cons p l ih =>
    rintro T hS hG ⟨M, h1, h2⟩
    rw [invL_cons, runs_app]
    exact ⟨M, ih (ran_sor h1 hS) (by have := rApply_good hG p; rw [h1] at this; exact this) h2, T, ran_back hS hG h1, rfl⟩
end Go.Sx

end
section
set_option linter.unusedVariables false
namespace Go.Proofs.YtdbiillompeclaaGreatDoor.X
open Go Go.RowKit Go.Proofs Go.Sx
structure Patch where
  id : Int
  note : ByteArray
  deps : List Int
  l : List Prim
  deriving DecidableEq
instance instRpPatch : Rp Patch where
  Lay := (Option Addr × Nat) × (Option Addr × Nat)
  size := 4
  enc p y := [.int .i64 p.id, .string p.note, .slice y.1.1 p.deps.length y.1.2, .slice y.2.1 p.l.length y.2.2]
  len _ _ := rfl
  one _ _ v hv := by
    simp only [List.mem_cons, List.mem_nil_iff, or_false] at hv
    rcases hv with rfl | rfl | rfl | rfl <;> rfl
  asn p y := [slA y.1.1 p.deps, slA y.2.1 p.l, capA y.2.2 p.l.length]
def Patch.zero : Patch := ⟨0, ⟨#[]⟩, [], []⟩
structure Patch.fit (p : Patch) : Prop where
  nb : p.note.size ≤ 2000000
  dl : p.deps.length ≤ 2000000
  ll : p.l.length ≤ 2000000
  lf : ∀ x ∈ p.l, x.fit
theorem pzero_fit : Patch.zero.fit := ⟨by decide, by decide, by decide, fun x h => by cases h⟩
theorem slA_none {α : Type} [Rp α] (M : Nat → Prop) (w : World) : (slA none ([] : List α)).p M w := by intro j x hj; simp at hj
def depsOk (id : Int) : Int → List Int → Bool
  | _, [] => true
  | last, n :: r => !(decide (n ≤ last) || decide (1000000000 < n) || decide (n = id)) && depsOk id n r
def Patch.right (p : Patch) : Bool := decide (1 ≤ p.id) && decide (p.id ≤ 1000000000) && lineOk p.note && decide (p.deps.length ≤ 8) && depsOk p.id 0 p.deps && decide (1 ≤ p.l.length) && decide (p.l.length ≤ 24) && p.l.all Prim.right
def pmay (p q : Patch) : Bool := p.right && q.right && !decide (p.id = q.id) && !(q.deps.any fun n => decide (n = p.id)) && !(p.deps.any fun n => decide (n = q.id))
def pswap (p q : Patch) : Patch × Patch × Bool := if (pmay p q && (swT p.l q.l).2.2) = true then ({ q with l := (swT p.l q.l).1 }, { p with l := (swT p.l q.l).2.1 }, true) else (Patch.zero, Patch.zero, false)
theorem swT_ok {l m f s : List Prim} (h : (f, s, true) = swT l m) (hl : ∀ x ∈ l, x.fit) (hm : ∀ x ∈ m, x.fit) : f.length = m.length ∧ s.length = l.length ∧ (∀ x ∈ f, x.fit) ∧ ∀ x ∈ s, x.fit := by
  have key : ∀ (j : Nat) (f1 s1 : List Prim), j ≤ l.length → SI l m j f1 s1 → SI l m l.length f s := by
    intro j
    induction hn : l.length - j generalizing j with
    | zero =>
      intro f1 s1 hj hI
      have hjl : j = l.length := by omega
      have := hI.done hjl
      rw [this] at h
      simp only [Prod.mk.injEq, and_true] at h
      obtain ⟨rfl, rfl⟩ := h
      rw [← hjl]; exact hI
    | succ n ih =>
      intro f1 s1 hj hI
      have hk : (l.length - 1 - j) + j + 1 = l.length := by omega
      have hlt : l.length - 1 - j < l.length := by omega
      cases hp : pastT (l[l.length - 1 - j]) f1 with
      | mk f2 r =>
        obtain ⟨q, b⟩ := r
        cases b with
        | true => exact ih (j + 1) (by omega) f2 (q :: s1) (by omega) (hI.step hk hl hp.symm)
        | false =>
          have := hI.stop hk hp.symm
          rw [this] at h
          simp at h
  have hI := key 0 m [] (Nat.zero_le _) (SI.start hm)
  exact ⟨hI.fl, hI.sl, hI.ff, hI.fs⟩
theorem pswap_fit {p q : Patch} (hp : p.fit) (hq : q.fit) : (pswap p q).1.fit ∧ (pswap p q).2.1.fit := by
  unfold pswap
  split
  · rename_i h
    simp only [Bool.and_eq_true] at h
    have hs : ((swT p.l q.l).1, (swT p.l q.l).2.1, true) = swT p.l q.l := by rw [← h.2]
    obtain ⟨h1, h2, h3, h4⟩ := swT_ok hs hp.lf hq.lf
    exact ⟨⟨hq.nb, hq.dl, by dsimp only; rw [h1]; exact hq.ll, h3⟩, ⟨hp.nb, hp.dl, by dsimp only; rw [h2]; exact hp.ll, h4⟩⟩
  · exact ⟨pzero_fit, pzero_fit⟩
def ppastR : List Patch → Patch → List Patch → Option (Patch × List Patch)
  | [], q, rest => some (q, rest)
  | x :: r, q, rest => if (pswap x q).2.2 = true then ppastR r (pswap x q).1 ((pswap x q).2.1 :: rest) else none
def ppast (l : List Patch) (q : Patch) : Patch × List Patch × Bool := match ppastR l.reverse q [] with
  | some r => (r.1, r.2, true)
  | none => (Patch.zero, [], false)
def groupF : List Patch → List Patch → List Patch → List Patch × List Patch
  | [], g, r => (g, r)
  | q :: l, g, r => if (ppast g q).2.2 = true then groupF l (ppast g q).2.1 (r ++ [(ppast g q).1]) else groupF l (g ++ [q]) r
def group : List Patch → List Patch × List Patch
  | [] => ([], [])
  | p :: l => groupF l [p] []
structure PP (l : List Patch) (q0 : Patch) (j : Nat) (q : Patch) (rest : List Patch) : Prop where
  eq : ppastR l.reverse q0 [] = ppastR (l.reverse.drop j) q rest
  len : rest.length = j
  fq : q.fit
  fr : ∀ x ∈ rest, x.fit
theorem PP.start {l : List Patch} {q : Patch} (h : q.fit) : PP l q 0 q [] := ⟨rfl, rfl, h, by simp⟩
theorem PP.step {l rest : List Patch} {q0 q a b : Patch} {j k : Nat} (h : PP l q0 j q rest) (hk : k + j + 1 = l.length) (hl : ∀ x ∈ l, x.fit) (hp : (a, b, true) = pswap l[k] q) : PP l q0 (j + 1) a (b :: rest) := by
  have hf := pswap_fit (hl _ (List.getElem_mem (show k < l.length by omega))) h.fq
  rw [← hp] at hf
  refine ⟨?_, by simp [h.len], hf.1, fun x hx => ?_⟩
  · rw [h.eq, rev_drop hk, ppastR, ← hp]; rfl
  · rcases List.mem_cons.1 hx with rfl | hx
    · exact hf.2
    · exact h.fr x hx
theorem PP.stop {l rest : List Patch} {q0 q a b : Patch} {j k : Nat} (h : PP l q0 j q rest) (hk : k + j + 1 = l.length) (hp : (a, b, false) = pswap l[k] q) : ppast l q0 = (Patch.zero, [], false) := by
  unfold ppast
  rw [h.eq, rev_drop hk, ppastR, ← hp]; rfl
theorem PP.done {l rest : List Patch} {q0 q : Patch} {j : Nat} (h : PP l q0 j q rest) (hj : j = l.length) : ppast l q0 = (q, rest, true) := by
  unfold ppast
  rw [h.eq, List.drop_eq_nil_of_le (by simp; omega), ppastR]
theorem ppast_ok {l rest : List Patch} {q0 q : Patch} (h : (q, rest, true) = ppast l q0) (hl : ∀ x ∈ l, x.fit) (hq : q0.fit) : rest.length = l.length ∧ q.fit ∧ ∀ x ∈ rest, x.fit := by
  have key : ∀ (j : Nat) (q1 : Patch) (r1 : List Patch), j ≤ l.length → PP l q0 j q1 r1 → PP l q0 l.length q rest := by
    intro j
    induction hn : l.length - j generalizing j with
    | zero =>
      intro f1 s1 hj hI
      have hjl : j = l.length := by omega
      have := hI.done hjl
      rw [this] at h
      simp only [Prod.mk.injEq, and_true] at h
      obtain ⟨rfl, rfl⟩ := h
      rw [← hjl]; exact hI
    | succ n ih =>
      intro f1 s1 hj hI
      have hk : (l.length - 1 - j) + j + 1 = l.length := by omega
      have hlt : l.length - 1 - j < l.length := by omega
      cases hp : pswap (l[l.length - 1 - j]) f1 with
      | mk f2 r =>
        obtain ⟨q, b⟩ := r
        cases b with
        | true => exact ih (j + 1) (by omega) f2 (q :: s1) (by omega) (hI.step hk hl hp.symm)
        | false =>
          have := hI.stop hk hp.symm
          rw [this] at h
          simp at h
  have hI := key 0 q0 [] (Nat.zero_le _) (PP.start hq)
  exact ⟨hI.len, hI.fq, hI.fr⟩
structure GI (l : List Patch) (k : Nat) (g r : List Patch) : Prop where
  eq : group l = if k = 0 then group l else groupF (l.drop k) g r
  zero : k = 0 → g = [] ∧ r = []
  len : g.length + r.length = k
  fg : ∀ x ∈ g, x.fit
  fr : ∀ x ∈ r, x.fit
theorem GI.start (l : List Patch) : GI l 0 [] [] := ⟨by simp, fun _ => ⟨rfl, rfl⟩, rfl, by simp, by simp⟩
theorem GI.first {l : List Patch} (h0 : 0 < l.length) (hl : ∀ x ∈ l, x.fit) : GI l 1 [l[0]] [] := by
  refine ⟨?_, fun h => by omega, rfl, fun x hx => ?_, by simp⟩
  · match l, h0 with
    | p :: l, _ => simp [group]
  · simp at hx; subst hx; exact hl _ (List.getElem_mem _)
theorem GI.yes {l g r rest : List Patch} {q : Patch} {k : Nat} (h : GI l k g r) (hk : k < l.length) (h0 : k ≠ 0) (hl : ∀ x ∈ l, x.fit) (hp : (q, rest, true) = ppast g l[k]) : GI l (k + 1) rest (r ++ [q]) := by
  obtain ⟨h1, h2, h3⟩ := ppast_ok hp h.fg (hl _ (List.getElem_mem hk))
  refine ⟨?_, fun h => by omega, by simp [h1]; have := h.len; omega, h3, fun x hx => ?_⟩
  · have := h.eq
    rw [if_neg h0, List.drop_eq_getElem_cons hk, groupF, ← hp] at this
    simpa using this
  · rcases List.mem_append.1 hx with hx | hx
    · exact h.fr x hx
    · simp at hx; subst hx; exact h2
theorem GI.no {l g r rest : List Patch} {q : Patch} {k : Nat} (h : GI l k g r) (hk : k < l.length) (hl : ∀ x ∈ l, x.fit) (hp : k = 0 ∨ (q, rest, false) = ppast g l[k]) : GI l (k + 1) (g ++ [l[k]]) r := by
  by_cases h0 : k = 0
  · subst h0
    obtain ⟨rfl, rfl⟩ := h.zero rfl
    exact GI.first hk hl
  · have hp := hp.resolve_left h0
    refine ⟨?_, fun h => by omega, by simp; have := h.len; omega, fun x hx => ?_, h.fr⟩
    · have := h.eq
      rw [if_neg h0, List.drop_eq_getElem_cons hk, groupF, ← hp] at this
      simpa using this
    · rcases List.mem_append.1 hx with hx | hx
      · exact h.fg x hx
      · simp at hx; subst hx; exact hl _ (List.getElem_mem _)
theorem GI.done {l g r : List Patch} {k : Nat} (h : GI l k g r) (hk : ¬ k < l.length) : group l = (g, r) := by
  by_cases h0 : k = 0
  · subst h0
    have : l = [] := List.eq_nil_of_length_eq_zero (by omega)
    obtain ⟨rfl, rfl⟩ := h.zero rfl
    rw [this]; rfl
  · have := h.eq
    rw [if_neg h0, List.drop_eq_nil_of_le (by omega), groupF] at this
    exact this
end Go.Proofs.YtdbiillompeclaaGreatDoor.X

end
section
set_option linter.unusedVariables false
namespace Go.Proofs.YtdbiillompeclaaGreatDoor.X
open Go Go.RowKit Go.Proofs Go.Sx
/-! Swapped again, both rows are as they were: a grid read by columns. -/
theorem grid_nil {l f s : List Prim} (h : Grid l [] f s) : f = [] ∧ s = l := by
  generalize hm : ([] : List Prim) = m at h
  induction h with
  | nil => subst hm; exact ⟨rfl, rfl⟩
  | @row l p m n q f s hp hg ih =>
    subst hm
    obtain ⟨rfl, rfl⟩ := pas_nil.1 hp
    obtain ⟨rfl, rfl⟩ := ih rfl
    exact ⟨rfl, rfl⟩
theorem grid_col {l M F s : List Prim} (h : Grid l M F s) : ∀ {m : List Prim} {q : Prim}, M = m ++ [q] → ∃ f x t, F = f ++ [x] ∧ Grid l m f t ∧ Pas x s t q := by
  induction h with
  | @nil M =>
    intro m q hM
    subst hM
    exact ⟨m, q, [], rfl, .nil, pas_nil.2 ⟨rfl, rfl⟩⟩
  | @row l p M N z F s hp hg ih =>
    intro m q hM
    subst hM
    obtain ⟨n, N2, b, h1, h2, rfl⟩ := pas_app.1 hp
    obtain ⟨q', b', f', h3, h4, rfl⟩ := pas_cons.1 h2
    obtain ⟨rfl, rfl⟩ := pas_nil.1 h4
    obtain ⟨f, x, t, rfl, h5, h6⟩ := ih rfl
    exact ⟨f, x, t ++ [b], rfl, .row h1 h5, pas_app.2 ⟨t, [b], q', h6, pas_cons.2 ⟨b, q, [], swap_back h3, pas_nil.2 ⟨rfl, rfl⟩, rfl⟩, rfl⟩⟩
theorem grid_turn : ∀ (n : Nat) {l m f s : List Prim}, m.length = n → Grid l m f s → Grid f s l m
  | 0, l, m, f, s, hn, h => by
    have : m = [] := List.eq_nil_of_length_eq_zero hn
    subst this
    obtain ⟨rfl, rfl⟩ := grid_nil h
    exact .nil
  | n + 1, l, M, F, s, hn, h => by
    obtain ⟨m, q, rfl⟩ : ∃ m q, M = m ++ [q] := ⟨M.dropLast, M.getLast (by intro e; rw [e] at hn; simp at hn), (List.dropLast_concat_getLast _).symm⟩
    obtain ⟨f, x, t, rfl, h1, h2⟩ := grid_col h rfl
    exact .row h2 (grid_turn n (by simpa using hn) h1)
theorem swapR_grid : ∀ (r : List Prim) {m f S second : List Prim}, swapR r m second = some (f, S) ↔ ∃ s, Grid r.reverse m f s ∧ S = s ++ second
  | [], m, f, S, second => by
    simp only [swapR, Option.some.injEq, Prod.mk.injEq, List.reverse_nil]
    constructor
    · rintro ⟨rfl, rfl⟩; exact ⟨[], .nil, rfl⟩
    · rintro ⟨s, h, rfl⟩
      generalize hl : ([] : List Prim) = l at h
      cases h with
      | nil => exact ⟨rfl, rfl⟩
      | @row l' p m n q f s hp hg => simp at hl
  | p :: r, m, f, S, second => by
    rw [swapR, Option.bind_eq_some_iff]
    constructor
    · rintro ⟨⟨n, q⟩, h1, h2⟩
      obtain ⟨s, h3, rfl⟩ := (swapR_grid r).1 h2
      refine ⟨s ++ [q], ?_, by simp⟩
      rw [List.reverse_cons]
      exact .row h1 h3
    · rintro ⟨s, h, rfl⟩
      rw [List.reverse_cons] at h
      generalize hl : r.reverse ++ [p] = l at h
      cases h with
      | nil => simp at hl
      | @row l' p' m n q f s' hp hg =>
        obtain ⟨rfl, h5⟩ := List.append_inj' hl rfl
        obtain rfl : p = p' := by simpa using h5
        exact ⟨(n, q), hp, (swapR_grid r).2 ⟨s', hg, by simp⟩⟩
theorem swapL_grid {l m f s : List Prim} : swapL l m = some (f, s) ↔ Grid l m f s := by
  unfold swapL
  rw [swapR_grid]
  simp only [List.reverse_reverse, List.append_nil]
  constructor
  · rintro ⟨s', h, rfl⟩; exact h
  · intro h; exact ⟨s, h, rfl⟩
theorem swT_true {l m f s : List Prim} : (f, s, true) = swT l m ↔ swapL l m = some (f, s) := by
  unfold swT
  cases h : swapL l m with
  | none => simp
  | some r => obtain ⟨r1, r2⟩ := r; simp [eq_comm]
theorem swT_back {l m f s : List Prim} (h : (f, s, true) = swT l m) : (l, m, true) = swT f s :=
  swT_true.2 (swapL_grid.2 (grid_turn _ rfl (swapL_grid.1 (swT_true.1 h))))
theorem pas_right : ∀ {m : List Prim} {p q : Prim} {f : List Prim}, Pas p m f q → p.right = true → q.right = true ∧ f.all Prim.right = true
  | [], p, q, f, h, hp => by
    obtain ⟨rfl, rfl⟩ := pas_nil.1 h
    exact ⟨hp, rfl⟩
  | x :: m, p, q, f, h, hp => by
    obtain ⟨a, b, f', h1, h2, rfl⟩ := pas_cons.1 h
    obtain ⟨_, _, _, h3, h4⟩ := swap_true h1
    obtain ⟨h5, h6⟩ := pas_right h2 h4
    exact ⟨h5, by simp [h3, h6]⟩
theorem grid_right {l m f s : List Prim} (h : Grid l m f s) : l.all Prim.right = true → m.all Prim.right = true → f.all Prim.right = true ∧ s.all Prim.right = true := by
  induction h with
  | nil => exact fun _ h => ⟨h, rfl⟩
  | @row l p m n q f s hp hg ih =>
    intro hl hm
    rw [List.all_append, Bool.and_eq_true] at hl
    have hp1 : p.right = true := by simpa using hl.2
    obtain ⟨h1, h2⟩ := pas_right hp hp1
    obtain ⟨h3, h4⟩ := ih hl.1 h2
    exact ⟨h3, by rw [List.all_append, h4]; simp [h1]⟩
theorem grid_len {l m f s : List Prim} (h : Grid l m f s) : f.length = m.length ∧ s.length = l.length := by
  induction h with
  | nil => exact ⟨rfl, rfl⟩
  | @row l p m n q f s hp hg ih =>
    have hpl : ∀ {m : List Prim} {p q : Prim} {f : List Prim}, Pas p m f q → f.length = m.length := by
      intro m
      induction m with
      | nil => intro p q f h; obtain ⟨rfl, _⟩ := pas_nil.1 h; rfl
      | cons x m ih2 =>
        intro p q f h
        obtain ⟨a, b, f', h1, h2, rfl⟩ := pas_cons.1 h
        simp [ih2 h2]
    exact ⟨ih.1.trans (hpl hp), by simp [ih.2]⟩
theorem right_parts {p : Patch} (h : p.right = true) : (1 ≤ p.l.length ∧ p.l.length ≤ 24) ∧ p.l.all Prim.right = true := by
  unfold Patch.right at h
  simp only [Bool.and_eq_true, decide_eq_true_eq] at h
  exact ⟨⟨h.1.1.2, h.1.2⟩, h.2⟩
theorem right_with {p : Patch} {l : List Prim} (h : p.right = true) (hl : l.length = p.l.length) (hr : l.all Prim.right = true) : ({ p with l := l } : Patch).right = true := by
  unfold Patch.right at h ⊢
  simp only [Bool.and_eq_true, decide_eq_true_eq] at h ⊢
  refine ⟨⟨⟨h.1.1.1, ?_⟩, ?_⟩, hr⟩
  · rw [hl]; exact h.1.1.2
  · rw [hl]; exact h.1.2
theorem pswap_true {p q a b : Patch} (h : (a, b, true) = pswap p q) : ∃ f s, pmay p q = true ∧ (f, s, true) = swT p.l q.l ∧ a = { q with l := f } ∧ b = { p with l := s } := by
  unfold pswap at h
  split at h
  · rename_i hc
    simp only [Bool.and_eq_true] at hc
    simp only [Prod.mk.injEq, and_true] at h
    exact ⟨_, _, hc.1, by rw [← hc.2], h.1, h.2⟩
  · simp at h
theorem pswap_back {p q a b : Patch} (h : (a, b, true) = pswap p q) : (p, q, true) = pswap a b := by
  obtain ⟨f, s, hm, hs, rfl, rfl⟩ := pswap_true h
  have hg := swapL_grid.1 (swT_true.1 hs)
  have hl := grid_len hg
  unfold pmay at hm
  simp only [Bool.and_eq_true, Bool.not_eq_true'] at hm
  obtain ⟨⟨⟨⟨e1, e2⟩, e3⟩, e4⟩, e5⟩ := hm
  have hr := grid_right hg (right_parts e1).2 (right_parts e2).2
  have hb := swT_back hs
  unfold pswap
  have hmay : pmay { q with l := f } { p with l := s } = true := by
    unfold pmay
    rw [right_with e2 hl.1 hr.1, right_with e1 hl.2 hr.2]
    dsimp only
    rw [e4, e5, show decide (q.id = p.id) = false by rw [← e3]; exact decide_eq_decide.2 eq_comm]
    rfl
  rw [hmay]
  dsimp only
  rw [← hb]
  rfl
end Go.Proofs.YtdbiillompeclaaGreatDoor.X

end
section
set_option linter.unusedVariables false
set_option linter.unusedSimpArgs false
namespace Go.Proofs.YtdbiillompeclaaGreatDoor.X
open Go Go.RowKit Go.Proofs Go.Sx
/-! Rows of prims and trees: what Apply of a row makes, or that it does not fit. -/
def runE : List File → List Prim → List File × Int
  | T, [] => (T, 0)
  | T, p :: l => if (rApplyT T p).2 = 0 then runE (rApplyT T p).1 l else rApplyT T p
def rowT (T : List File) (l : List Prim) : List File × Int := if (runE T l).2 = 0 then runE T l else (T, (runE T l).2)
theorem runs_runE {l : List Prim} {U : List File} : ∀ {T : List File}, Runs T l U ↔ runE T l = (U, 0) := by
  induction l with
  | nil => intro T; show T = U ↔ (T, (0 : Int)) = (U, 0); simp
  | cons p l ih =>
    intro T
    show (∃ M, Ran T p M ∧ Runs M l U) ↔ _
    rw [runE]
    constructor
    · rintro ⟨M, h1, h2⟩
      unfold Ran at h1
      rw [h1, if_pos rfl]
      exact ih.1 h2
    · intro h
      split at h
      · rename_i h1
        exact ⟨(rApplyT T p).1, by unfold Ran; rw [← h1], ih.2 h⟩
      · rename_i h1
        rw [h] at h1; exact absurd rfl h1
theorem rowT_ok {T U : List File} {l : List Prim} (h : Runs T l U) : rowT T l = (U, 0) := by
  unfold rowT; rw [runs_runE.1 h, if_pos rfl]
theorem rowT_runs {T U : List File} {l : List Prim} (h : rowT T l = (U, 0)) : Runs T l U := by
  unfold rowT at h
  split at h
  · exact runs_runE.2 h
  · rename_i h1
    simp only [Prod.mk.injEq] at h
    exact absurd h.2 h1
theorem runE_app {l m : List Prim} {M : List File} : ∀ {T : List File}, Runs T l M → runE T (l ++ m) = runE M m := by
  induction l with
  | nil => intro T h; cases h; rfl
  | cons p l ih =>
    rintro T ⟨N, h1, h2⟩
    rw [List.cons_append, runE]
    unfold Ran at h1
    rw [h1, if_pos rfl]
    exact ih h2
theorem rowT_err {T M M' : List File} {l : List Prim} {k : Nat} {e : Int} (h : Runs T (l.take k) M) (hk : k < l.length) (he : (M', e) = rApplyT M l[k]) (hne : ¬ e = 0) : rowT T l = (T, e) := by
  have h1 : runE T l = (M', e) := by
    conv => lhs; rw [← List.take_append_drop k l]
    rw [runE_app h, List.drop_eq_getElem_cons hk, runE, ← he, if_neg hne]
  unfold rowT; rw [h1, if_neg hne]
theorem rowT_no {T U : List File} {l : List Prim} {e : Int} (h : (U, e) = rowT T l) (he : ¬ e = 0) : U = T := by
  unfold rowT at h
  split at h
  · rename_i h1
    have : e = 0 := by have := congrArg Prod.snd h; dsimp only at this; rw [this]; exact h1
    exact absurd this he
  · exact congrArg Prod.fst h
theorem runs_take {T M M' : List File} {l : List Prim} {k : Nat} (h : Runs T (l.take k) M) (hk : k < l.length) (he : (M', (0 : Int)) = rApplyT M l[k]) : Runs T (l.take (k + 1)) M' := by
  rw [List.take_succ_eq_append_getElem hk, runs_app]
  exact ⟨M, h, M', he.symm, rfl⟩
theorem runs_all {T M : List File} {l : List Prim} {k : Nat} (h : Runs T (l.take k) M) (hk : l.length ≤ k) : Runs T l M := by
  rwa [List.take_of_length_le hk] at h
theorem runs_applied {l : List Prim} {U : List File} : ∀ {T : List File}, Runs T l U → U = appliedT T l := by
  induction l with
  | nil => intro T h; exact h.symm
  | cons p l ih =>
    rintro T ⟨M, h1, h2⟩
    rw [ih h2]
    unfold Ran at h1
    show _ = appliedT (rApplyT T p).1 l
    rw [h1]
theorem runs_inv {T U : List File} {l : List Prim} {m n : Nat} (h : Runs T l U) (hi : AppInv m n T) : AppInv (m + news l) (n + l.length) U := by
  rw [runs_applied h]; exact hi.applied l
theorem news_inv (l : List Prim) : news (invL l) ≤ many l := by
  induction l with
  | nil => simp [invL, news]
  | cons p l ih =>
    rw [invL_cons]
    have h1 : news (invL l ++ [p.flip]) = news (invL l) + p.flip.new.length := by unfold news; simp
    have h2 := flip_new p
    have h3 : p.old.length + p.new.length ≤ p.many := by unfold Prim.many; omega
    have h4 : many (p :: l) = 1 + p.many + many l := by unfold many; simp; omega
    omega
theorem take_many (l : List Prim) (k : Nat) : many (l.take k) ≤ many l := by
  have h : many l = many (l.take k) + many (l.drop k) := by
    unfold many
    have h1 : (l.map Prim.many).sum = ((l.take k).map Prim.many).sum + ((l.drop k).map Prim.many).sum := by
      rw [← List.sum_append, ← List.map_append, List.take_append_drop]
    have h2 : l.length = (l.take k).length + (l.drop k).length := by rw [← List.length_append, List.take_append_drop]
    omega
  omega
structure Undo (T : List File) (l : List Prim) (k j : Nat) (M N : List File) : Prop where
  done : Runs M ((invL (l.take k)).take j) N
  left : Runs N ((invL (l.take k)).drop j) T
theorem Undo.start {T M : List File} {l : List Prim} {k : Nat} (hS : Sor T) (hG : Go.Sx.Good T) (h : Runs T (l.take k) M) : Undo T l k 0 M M := ⟨rfl, runs_back hS hG h⟩
theorem Undo.step {T M N : List File} {l : List Prim} {k j : Nat} (h : Undo T l k j M N) (hj : j < (invL (l.take k)).length) : Undo T l k (j + 1) M (rApplyT N (invL (l.take k))[j]).1 := by
  have h2 := h.left
  rw [List.drop_eq_getElem_cons hj] at h2
  obtain ⟨K, h3, h4⟩ := h2
  have e : (rApplyT N (invL (l.take k))[j]).1 = K := by unfold Ran at h3; rw [h3]
  rw [e]
  refine ⟨?_, h4⟩
  rw [List.take_succ_eq_append_getElem hj, runs_app]
  exact ⟨N, h.done, K, h3, rfl⟩
theorem Undo.stop {T M N : List File} {l : List Prim} {k j : Nat} (h : Undo T l k j M N) (hj : (invL (l.take k)).length ≤ j) : N = T := by
  have := h.left
  rw [List.drop_eq_nil_of_le hj] at this
  exact this
theorem swT_false {l m f s : List Prim} (h : (f, s, false) = swT l m) : swapL l m = none ∧ f = [] ∧ s = [] := by
  unfold swT at h
  cases hh : swapL l m with
  | none => rw [hh] at h; simp at h; exact ⟨rfl, h.1, h.2⟩
  | some r => rw [hh] at h; simp at h
theorem swT_some {l m f s : List Prim} (h : swapL l m = some (f, s)) : swT l m = (f, s, true) := by unfold swT; rw [h]
theorem runs_swT {l m f s : List Prim} {T U : List File} (hS : Sor T) (h : Runs T (l ++ m) U) (e : (f, s, true) = swT l m) : Runs T (f ++ s) U := runs_swapL hS h (swT_true.1 e)
theorem pas_inv : ∀ {m : List Prim} {p q : Prim} {f : List Prim}, Pas p m f q → Grid (invL m) [p.flip] [q.flip] (invL f)
  | [], p, q, f, h => by
    obtain ⟨rfl, rfl⟩ := pas_nil.1 h
    exact Grid.nil
  | x :: m, p, q, f, h => by
    obtain ⟨a, b, f', h1, h2, rfl⟩ := pas_cons.1 h
    rw [invL_cons, invL_cons]
    refine Grid.row (n := [b.flip]) (q := a.flip) ?_ (pas_inv h2)
    exact pas_cons.2 ⟨b.flip, a.flip, [], swap_inv h1, pas_nil.2 ⟨rfl, rfl⟩, rfl⟩
theorem grid_join : ∀ {l : List Prim} {m1 m2 f1 f2 s t : List Prim}, Grid l m1 f1 s → Grid s m2 f2 t → Grid l (m1 ++ m2) (f1 ++ f2) t := by
  intro l m1 m2 f1 f2 s t h1
  induction h1 generalizing m2 f2 t with
  | nil =>
    intro h2
    have : ∀ {L m f s : List Prim}, Grid L m f s → L = [] → f = m ∧ s = [] := by
      intro L m f s h
      cases h with
      | nil => intro _; exact ⟨rfl, rfl⟩
      | row a b => intro e; simp at e
    obtain ⟨rfl, rfl⟩ := this h2 rfl
    exact Grid.nil
  | @row l p m n q f s hp hg ih =>
    intro h2
    generalize hL : s ++ [q] = L at h2
    cases h2 with
    | nil => simp at hL
    | @row l' p' m' n' q' f' s' hp' hg' =>
      obtain ⟨rfl, e⟩ := List.append_inj' hL rfl
      obtain rfl : q = p' := by simpa using e
      exact Grid.row (pas_app.2 ⟨_, _, _, hp, hp', rfl⟩) (ih hg')
theorem invL_app (l m : List Prim) : invL (l ++ m) = invL m ++ invL l := by simp [invL]
theorem grid_nilr : ∀ (l : List Prim), Grid l [] [] l := by
  intro l
  have : ∀ (r : List Prim), Grid r.reverse [] [] r.reverse := by
    intro r
    induction r with
    | nil => exact Grid.nil
    | cons x r ih => rw [List.reverse_cons]; exact Grid.row (pas_nil.2 ⟨rfl, rfl⟩) ih
  simpa using this l.reverse
theorem grid_inv {l m f s : List Prim} (h : Grid l m f s) : Grid (invL m) (invL l) (invL s) (invL f) := by
  induction h with
  | nil => exact grid_nilr _
  | @row l p m n q f s hp hg ih =>
    rw [invL_app, invL_app]
    exact grid_join (pas_inv hp) ih
theorem invL_invL (l : List Prim) : invL (invL l) = l := by
  unfold invL
  rw [← List.map_reverse, List.reverse_reverse, List.map_map]
  conv => rhs; rw [← List.map_id l]
  exact List.map_congr_left fun p _ => flip_flip p
theorem reb_turn {l m r : List Prim} (h : reb l m = some r) : ∃ s, swapL (invL l) m = some (r, s) ∧ reb m l = some (invL s) := by
  unfold reb at h ⊢
  rw [Option.map_eq_some_iff] at h
  obtain ⟨⟨f, s⟩, h1, rfl⟩ := h
  refine ⟨s, h1, ?_⟩
  have := swapL_grid.2 (grid_inv (swapL_grid.1 h1))
  rw [invL_invL] at this
  rw [this]; rfl
theorem rebT_turn {l m r r' : List Prim} {b b' : Bool} (h : (r, b) = rebT l m) (h' : (r', b') = rebT m l) : b = b' := by
  have key : ∀ {l m r r' : List Prim}, (r, true) = rebT l m → (r', false) = rebT m l → False := by
    intro l m r r' h h'
    obtain ⟨s, _, h2⟩ := reb_turn (rebT_true h)
    rw [(rebT_false h').1] at h2; cases h2
  cases b <;> cases b'
  · rfl
  · exact (key h' h).elim
  · exact (key h h').elim
  · rfl
theorem rebT_merge {l m a b : List Prim} {T U V : List File} (hS : Sor T) (hG : Go.Sx.Good T) (h : (a, true) = rebT l m) (h' : (b, true) = rebT m l) (hl : Runs T l U) (hm : Runs T m V) : ∃ X, Runs U a X ∧ Runs V b X := by
  obtain ⟨s, h1, h2⟩ := reb_turn (rebT_true h)
  obtain rfl : b = invL s := by have := rebT_true h'; rw [h2] at this; exact (Option.some.inj this).symm
  have hb := runs_back hS hG hl
  have h3 := runs_swapL (runs_sor hl hS) (runs_app.2 ⟨T, hb, hm⟩) h1
  obtain ⟨X, h4, h5⟩ := runs_app.1 h3
  exact ⟨X, h4, runs_back (runs_sor h4 (runs_sor hl hS)) (runs_good h4 (runs_good hl hG)) h5⟩
/-! what is brought ahead -/
def splK (W : Nat → Bool) (l : List Prim) : Nat → List Prim × List Prim
  | 0 => ([], [])
  | k + 1 => match l[k]? with
    | none => splK W l k
    | some p => if W k && (swT (splK W l k).2 [p]).2.2 then ((splK W l k).1 ++ (swT (splK W l k).2 [p]).1, (swT (splK W l k).2 [p]).2.1) else ((splK W l k).1, (splK W l k).2 ++ [p])
theorem splK_yes {W : Nat → Bool} {l f r a b : List Prim} {k : Nat} (h : (f, r) = splK W l k) (hk : k < l.length) (hw : W k = true) (hs : (a, b, true) = swT r [l[k]]) : (f ++ a, b) = splK W l (k + 1) := by
  rw [splK, List.getElem?_eq_getElem hk]
  dsimp only
  rw [← h]
  dsimp only
  rw [← hs, hw]
  rfl
theorem splK_no {W : Nat → Bool} {l f r a b : List Prim} {k : Nat} {z : Bool} (h : (f, r) = splK W l k) (hk : k < l.length) (hs : (a, b, z) = swT r [l[k]]) (hz : (W k && z) = false) : (f, r ++ [l[k]]) = splK W l (k + 1) := by
  rw [splK, List.getElem?_eq_getElem hk]
  dsimp only
  rw [← h]
  dsimp only
  rw [← hs]
  dsimp only
  rw [hz]
  rfl
theorem splK_no' {W : Nat → Bool} {l f r : List Prim} {k : Nat} (h : (f, r) = splK W l k) (hk : k < l.length) (hw : W k = false) : (f, r ++ [l[k]]) = splK W l (k + 1) := by
  rw [splK, List.getElem?_eq_getElem hk]
  dsimp only
  rw [← h, hw]
  rfl
theorem swT_len {l m f s : List Prim} (h : (f, s, true) = swT l m) : f.length = m.length ∧ s.length = l.length := grid_len (swapL_grid.1 (swT_true.1 h))
theorem swT_fit {l m f s : List Prim} {b : Bool} (h : (f, s, b) = swT l m) (hl : ∀ x ∈ l, x.fit) (hm : ∀ x ∈ m, x.fit) : (∀ x ∈ f, x.fit) ∧ ∀ x ∈ s, x.fit := by
  cases b with
  | false => obtain ⟨_, rfl, rfl⟩ := swT_false h; simp
  | true => exact (swT_ok h hl hm).2.2
theorem splK_len (W : Nat → Bool) (l : List Prim) : ∀ (k : Nat), k ≤ l.length → (splK W l k).1.length + (splK W l k).2.length = k := by
  intro k
  induction k with
  | zero => intro _; rfl
  | succ k ih =>
    intro hk
    have ih := ih (by omega)
    rw [splK, List.getElem?_eq_getElem (by omega)]
    dsimp only
    split
    · rename_i h1
      simp only [Bool.and_eq_true] at h1
      have := swT_len (l := (splK W l k).2) (m := [l[k]]) (f := (swT (splK W l k).2 [l[k]]).1) (s := (swT (splK W l k).2 [l[k]]).2.1) (by rw [← h1.2])
      dsimp only
      rw [List.length_append, this.1, this.2]
      simp only [List.length_cons, List.length_nil]; omega
    · dsimp only; rw [List.length_append]; simp only [List.length_cons, List.length_nil]; omega
theorem splK_runs (W : Nat → Bool) (l : List Prim) {T : List File} (hS : Sor T) : ∀ (k : Nat) {U : List File}, k ≤ l.length → Runs T (l.take k) U → Runs T ((splK W l k).1 ++ (splK W l k).2) U := by
  intro k
  induction k with
  | zero => intro U _ h; exact h
  | succ k ih =>
    intro U hk h
    rw [List.take_succ_eq_append_getElem (by omega), runs_app] at h
    obtain ⟨M, h1, h2⟩ := h
    have ih := ih (by omega) h1
    rw [runs_app] at ih
    obtain ⟨N, h3, h4⟩ := ih
    have h5 : Runs N ((splK W l k).2 ++ [l[k]]) U := runs_app.2 ⟨M, h4, h2⟩
    rw [splK, List.getElem?_eq_getElem (by omega)]
    dsimp only
    split
    · rename_i hc
      simp only [Bool.and_eq_true] at hc
      have h6 := runs_swT (runs_sor h3 hS) h5 (f := (swT (splK W l k).2 [l[k]]).1) (s := (swT (splK W l k).2 [l[k]]).2.1) (by rw [← hc.2])
      dsimp only
      rw [List.append_assoc, runs_app]
      exact ⟨N, h3, h6⟩
    · dsimp only
      rw [runs_app]
      exact ⟨N, h3, h5⟩
end Go.Proofs.YtdbiillompeclaaGreatDoor.X

end
section
set_option linter.unusedVariables false
set_option linter.unusedSimpArgs false
namespace Go.Sx
open Go Go.RowKit
section
variable {ro : Option Nat} {P : Program} {M0 F0 : Nat → Prop} {w0 : World} {n : Nm} {σ : List (Nat × Value)} {Ξ : List Xsn} {Γ : List Asn}
theorem nilC {α : Type} [Rp α] {a : Act} {w : World} (h : St M0 F0 w0 n σ Ξ Γ a w) : St M0 F0 w0 n σ Ξ (slA (α := α) none [] :: nilA (none, 0) :: capA 0 0 :: Γ) a w := by
  obtain ⟨hs, Fs, hh⟩ := nilSl (α := α) h
  refine ⟨hs, Fs, { hh with ga := fun p hp => ?_ }⟩
  rcases List.mem_cons.1 hp with rfl | hp
  · exact hh.ga _ (by simp)
  · rcases List.mem_cons.1 hp with rfl | hp
    · exact fun _ => rfl
    · rcases List.mem_cons.1 hp with rfl | hp
      · exact Nat.le_refl 0
      · exact hh.ga p (by simp [hp])
end
theorem con_fz {P : Program} {f : FuncId} {args : List Value} {Ξi : List Xsn} {Γi : List Asn} {X : Type} {rv : X → Value} {α : Type} [Rp α] {e : TypeId} {A : X → Option Addr} {c : X → Nat} {l : X → List α} {Γo : X → List Asn}
    (h : Con P f args Ξi Γi X rv (fun x => [row e (A x) (c x) (l x)]) Γo) : Con P f args Ξi Γi X rv (fun _ => []) (fun x => slA (A x) (l x) :: nilA (A x, c x) :: capA (c x) (l x).length :: Γo x) := by
  intro M0 Fs w hh
  refine (h M0 Fs w hh).mono ?_
  rintro en w' ⟨x, Fs', rfl, hout⟩
  have hsl : Slots ⟨0, []⟩ [] { tmps := #[], defers := [] } := ⟨rfl, rfl, fun t v h => by cases h⟩
  obtain ⟨_, Fs'', h1⟩ := freezeN (i := 0) rfl (⟨hsl, Fs', hout⟩ : St M0 (own Fs) w ⟨0, []⟩ [] [row e (A x) (c x) (l x)] (Γo x) { tmps := #[], defers := [] } w')
  exact ⟨x, Fs'', rfl, h1⟩
theorem borrow2 {P : Program} {f : FuncId} {args : List Value} {α : Type} [Rp α] {e : TypeId} {A : Option Addr} {c : Nat} {l : List α} {Γi : List Asn} {X : Type} {rv : X → Value} {Ξo : X → List Xsn} {Γo : X → List Asn} (keep : X → Bool)
    (h : Con P f args [] (slA A l :: Γi) X rv Ξo Γo) :
    Con P f args [row e A c l] Γi X rv (fun x => bif keep x then [row e A c l] else Ξo x) (fun x => bif keep x then [] else Γo x) := by
  intro M0 Fs w hh
  obtain ⟨F, rfl, hrow⟩ := hh.one_of
  have ho : ∀ b, own [F] b ↔ F b := fun b => by simp [own]
  have hsl : Slots ⟨0, []⟩ [] { tmps := #[], defers := [] } := ⟨rfl, rfl, fun t v h => by cases h⟩
  obtain ⟨_, Fs', h1⟩ := Go.Sx.freeze (i := 0) rfl (⟨hsl, [F], hh⟩ : St M0 (own [F]) w ⟨0, []⟩ [] [row e A c l] Γi { tmps := #[], defers := [] } w)
  have hnil : Fs' = [] := by
    cases Fs' with
    | nil => rfl
    | cons G Gs => exact h1.ex.elim
  subst hnil
  have hin : Hp M0 (own []) w [] (slA A l :: Γi) [] w := ⟨trivial, .nil, fun b hb => absurd hb (own_nil b), fun b hb => absurd hb (own_nil b), fun b hb => absurd hb (own_nil b), h1.ga, Upd.refl _ _, h1.m0, fun b hb => absurd hb (own_nil b)⟩
  refine (h M0 [] w hin).mono ?_
  rintro en w' ⟨x, Gs, rfl, hout⟩
  have hnew : ∀ b, own Gs b → ¬ b < w.heap.size := fun b hb hl => own_nil b (hout.old b hb hl)
  have hblk : ∀ b, b < w.heap.size → w'.heap[b]? = w.heap[b]? := fun b hb => hout.up.block b hb (own_nil b)
  cases hkx : keep x with
  | false =>
    refine ⟨x, Gs, rfl, ?_⟩
    dsimp only
    rw [hkx]
    refine ⟨hout.ex, hout.dis, hout.dis0, hout.lt, fun b hb hl => absurd hl (hnew b hb), hout.ga, ⟨hout.up.os, hout.up.tape, hout.up.output, hout.up.size, fun b hb _ => hblk b hb⟩, hh.m0, hh.f0⟩
  | true =>
    refine ⟨x, [F], rfl, ?_⟩
    dsimp only
    rw [hkx]
    refine ⟨⟨?_, trivial⟩, hh.dis, hh.dis0, fun b hb => Nat.lt_of_lt_of_le (hh.lt b hb) hout.up.size, fun b hb _ => hb, (fun p hp => by cases hp), ⟨hout.up.os, hout.up.tape, hout.up.output, hout.up.size, fun b hb _ => hblk b hb⟩, hh.m0, hh.f0⟩
    exact (row e A c l).st _ _ _ _ _ hrow (fun b hb _ => hblk b hb) (fun b hb hM => hM) hout.up.size
end Go.Sx
namespace Go.Proofs.YtdbiillompeclaaGreatDoor.X
open Go Go.RowKit Go.Proofs Go.Sx
theorem inv_mono {m n m' n' : Nat} {T : List File} (h : AppInv m n T) (h1 : m ≤ m') (h2 : n ≤ n') : AppInv m' n' T := ⟨h.so, h.good, h.lmax.mono h1, Nat.le_trans h.len h2⟩
theorem many_in {l : List Prim} {p : Prim} (h : p ∈ l) : p.many ≤ many l := by
  unfold many
  have : p.many ≤ (l.map Prim.many).sum := by
    induction l with
    | nil => cases h
    | cons q l ih =>
      simp only [List.map_cons, List.sum_cons]
      rcases List.mem_cons.1 h with rfl | h
      · omega
      · have := ih h; omega
  omega
theorem news_in {l : List Prim} {p : Prim} (h : p ∈ l) : p.new.length ≤ news l := by
  unfold news
  induction l with
  | nil => cases h
  | cons q l ih =>
    simp only [List.map_cons, List.sum_cons]
    rcases List.mem_cons.1 h with rfl | h
    · omega
    · have := ih h; omega
def lnP (p : Prim) : Nat := p.old.length + p.new.length
def lns (l : List Prim) : Nat := (l.map lnP).sum
theorem lns_many (l : List Prim) : lns l ≤ many l := by
  unfold lns many
  have : (l.map lnP).sum ≤ (l.map Prim.many).sum := by
    induction l with
    | nil => simp
    | cons p l ih =>
      simp only [List.map_cons, List.sum_cons]
      have : lnP p ≤ p.many := by unfold lnP Prim.many; omega
      omega
  omega
theorem lns_cons (p : Prim) (l : List Prim) : lns (p :: l) = lnP p + lns l := by simp [lns]
theorem lns_app (l m : List Prim) : lns (l ++ m) = lns l + lns m := by simp [lns]
theorem lns_inv (l : List Prim) : lns (invL l) = lns l := by
  induction l with
  | nil => rfl
  | cons p l ih =>
    rw [invL_cons, lns_app, ih, lns_cons, lns_cons]
    have h1 : lnP p.flip = lnP p := by
      unfold lnP Prim.flip
      repeat' split
      all_goals simp
      all_goals omega
    have h2 : lns [] = 0 := rfl
    omega
theorem news_lns (l : List Prim) : news l ≤ lns l := by
  unfold news lns
  induction l with
  | nil => simp
  | cons p l ih =>
    simp only [List.map_cons, List.sum_cons]
    have : p.new.length ≤ lnP p := by unfold lnP; omega
    omega
theorem take_lns (l : List Prim) (k : Nat) : lns (l.take k) ≤ lns l := by
  have h : lns l = lns (l.take k) + lns (l.drop k) := by rw [← lns_app, List.take_append_drop]
  omega
theorem pas_lns : ∀ {m : List Prim} {p q : Prim} {f : List Prim}, Pas p m f q → lns f = lns m ∧ lnP q = lnP p
  | [], p, q, f, h => by
    obtain ⟨rfl, rfl⟩ := pas_nil.1 h
    exact ⟨rfl, rfl⟩
  | x :: m, p, q, f, h => by
    obtain ⟨a, b, f', h1, h2, rfl⟩ := pas_cons.1 h
    obtain ⟨h3, h4⟩ := pas_lns h2
    obtain ⟨⟨_, k1, k2, _⟩, ⟨_, k3, k4, _⟩⟩ := swap_keeps h1
    rw [lns_cons, lns_cons, h3, h4]
    unfold lnP
    omega
theorem grid_lns {l m f s : List Prim} (h : Grid l m f s) : lns f = lns m ∧ lns s = lns l := by
  induction h with
  | nil => exact ⟨rfl, rfl⟩
  | row hp hg ih =>
    obtain ⟨h1, h2⟩ := pas_lns hp
    rw [lns_app, lns_app, ih.1, ih.2, h1, lns_cons, lns_cons, h2]
    exact ⟨rfl, rfl⟩
theorem swT_lns {l m f s : List Prim} (h : (f, s, true) = swT l m) : lns f = lns m ∧ lns s = lns l := grid_lns (swapL_grid.1 (swT_true.1 h))
theorem swT_le {l m f s : List Prim} {b : Bool} (h : (f, s, b) = swT l m) : f.length ≤ m.length ∧ s.length ≤ l.length := by
  cases b with
  | false => obtain ⟨_, rfl, rfl⟩ := swT_false h; simp
  | true => have := swT_len h; omega
theorem rebT_lns {l m f : List Prim} (h : (f, true) = rebT l m) : lns f = lns m ∧ f.length = m.length := by
  obtain ⟨s, h1, _⟩ := reb_turn (rebT_true h)
  exact ⟨(grid_lns (swapL_grid.1 h1)).1, (grid_len (swapL_grid.1 h1)).1⟩
theorem rebT_fit {l m f : List Prim} {b : Bool} (h : (f, b) = rebT l m) (hl : ∀ x ∈ l, x.fit) (hm : ∀ x ∈ m, x.fit) : (∀ x ∈ f, x.fit) ∧ f.length ≤ m.length := by
  cases b with
  | false => obtain ⟨_, rfl⟩ := rebT_false h; simp
  | true => have := reb_ok (rebT_true h) hl hm; exact ⟨this.2, by omega⟩
structure Bnd (M : List File) (p : Prim) : Prop where
  so : Sor M
  good : Go.Sx.Good M
  fit : ∀ x ∈ M, x.2.length ≤ 2000000
  b : ∀ u, (getL M u).length + p.new.length ≤ 2000000
  len : M.length ≤ 2000000
theorem run_b {m n k : Nat} {T M : List File} {l : List Prim} (hi : AppInv m n T) (hm : m + 2 * lns l ≤ 1900000) (hn : n + 2 * l.length ≤ 1900000) (h : Runs T (l.take k) M) (hk : k < l.length) : Bnd M l[k] := by
  have h1 := runs_inv h hi
  have h2 : news (l.take k) ≤ lns l := Nat.le_trans (news_lns _) (take_lns l k)
  have h3 : l[k].new.length ≤ lns l := Nat.le_trans (news_in (List.getElem_mem hk)) (news_lns l)
  have h4 : (l.take k).length ≤ l.length := by rw [List.length_take]; omega
  exact ⟨h1.so, h1.good, fun x hx => by have := h1.lmax x hx; omega, fun u => by have := h1.lmax.get u; omega, by have := h1.len; omega⟩
theorem undo_b {m n k j : Nat} {T M N : List File} {l : List Prim} (hi : AppInv m n T) (hm : m + 2 * lns l ≤ 1900000) (hn : n + 2 * l.length ≤ 1900000) (h : Runs T (l.take k) M) (hu : Undo T l k j M N) (hj : j < (invL (l.take k)).length) : Bnd N (invL (l.take k))[j] := by
  have h1 := runs_inv hu.done (runs_inv h hi)
  have h2 : news (l.take k) ≤ lns (l.take k) := news_lns (l.take k)
  have h3 : news (invL (l.take k)) ≤ lns (l.take k) := by have := news_lns (invL (l.take k)); rwa [lns_inv] at this
  have h4 : (l.take k).length ≤ l.length := by rw [List.length_take]; omega
  have h5 := news_take (invL (l.take k)) j
  have h6 : news ((invL (l.take k)).take (j + 1)) = news ((invL (l.take k)).take j) + (invL (l.take k))[j].new.length := sum_take_succ (f := fun p : Prim => p.new.length) hj
  have h9 := news_take (invL (l.take k)) (j + 1)
  have h7 : ((invL (l.take k)).take j).length ≤ l.length := by rw [List.length_take, invL_len]; omega
  have h8 := take_lns l k
  exact ⟨h1.so, h1.good, fun x hx => by have := h1.lmax x hx; omega, fun u => by have := h1.lmax.get u; omega, by have := h1.len; omega⟩
theorem rowT_inv {m n : Nat} {T U : List File} {l : List Prim} {e : Int} (hi : AppInv m n T) (h : (U, e) = rowT T l) : AppInv (m + lns l) (n + l.length) U := by
  by_cases he : e = 0
  · subst he
    exact inv_mono (runs_inv (rowT_runs h.symm) hi) (by have := news_lns l; omega) (Nat.le_refl _)
  · rw [rowT_no h he]
    exact inv_mono hi (by omega) (by omega)
theorem inv_fit {m n : Nat} {T : List File} (h : AppInv m n T) (hm : m ≤ 2000000) : ∀ x ∈ T, x.2.length ≤ 2000000 := fun x hx => by have := h.lmax x hx; omega
end Go.Proofs.YtdbiillompeclaaGreatDoor.X

end
section
set_option linter.unusedVariables false
set_option linter.unusedSimpArgs false
namespace Go.Proofs.YtdbiillompeclaaGreatDoor.X
open Go Go.RowKit Go.Proofs Go.Sx
attribute [local irreducible] slA isA box row


set_option maxRecDepth 100000 in
theorem c_lNewC (l : List Prim) (A : Option Addr) (c : Nat) (hl : l.length ≤ 2000000) : Con Tryz.prog 43 [.slice A l.length c] [] [slA A l] (Option Addr × Nat) (fun y => .slice y.1 l.length y.2) (fun _ => []) (fun y => [slA y.1 l, nilA y, capA y.2 l.length]) := by
 refine con Tryz.func43 rfl Tryz.ntmps43 rfl ?_
 intro M0 F0 w0
 refine cs ?_
 refine cr ?_
 refine ls (op (p_asg rfl) rfl) ?_
 refine ln ?_
 refine nthen ?_
 refine cs ?_
 refine cr ?_
 refine ls (op (p_asg rfl) rfl) ?_
 refine ln ?_
 refine nthen ?_
 refine cs ?_
 refine cs ?_
 refine cmono (fun a w h => nilRow (α := Prim) 39 h) ?_
 refine cr ?_
 refine ls (op (p_move rfl) rfl) ?_
 refine ls (op (p_lenl rfl Tryz.underlying23) rfl) ?_
 refine ls (op (p_move rfl) rfl) ?_
 refine ln ?_
 refine nthen ?_
 refine cb ?_
 refine cl (ι := {q : Nat × Option Addr × Nat // q.1 ≤ l.length}) (fun i => St M0 F0 w0 18 [(6, .slice A l.length c), (7, .int .i64 (l.length : Int)), (8, .int .i64 (i.1.1 : Int)), (3, .slice i.1.2.1 (l.take i.1.1).length i.1.2.2)] [row 39 (i.1.2.1) (i.1.2.2) (l.take i.1.1)] [slA A l]) (fun i => l.length - i.1.1) ⟨(0, none, 0), Nat.zero_le _⟩ (wk0 (by repeat (first | exact subσ.nil _ | refine subσ.cons rfl ?_)) (by repeat' (first | constructor | apply Sub.suf))) ?_
 rintro ⟨⟨k, A2, c2⟩, hk⟩
 refine cmono (S' := St M0 F0 w0 18 [(6, .slice A l.length c), (7, .int .i64 (l.length : Int)), (8, .int .i64 (k : Int)), (3, .slice A2 (l.take k).length c2)] [row 39 (A2) (c2) (l.take k)] [slA A l]) (fun _ _ h => h) ?_
 refine cs ?_
 refine cr ?_
 refine ls (op (p_icmp rfl rfl rfl) rfl) ?_
 refine ln ?_
 refine nthen ?_
 refine cs ?_
 refine cc rfl ?_ ?_
 ·
  intro h9
  dsimp only at hk
  try simp only [decide_eq_true_eq, decide_eq_false_iff_not, Bool.not_eq_true', Bool.not_eq_false', Int.not_lt, Int.not_le, ge_iff_le, Bool.not_true, Bool.not_false] at h9
  have hk1 : k < l.length := by omega
  refine cskip ?_
  refine nthen ?_
  refine cs ?_
  refine cb ?_
  refine cs ?_
  refine elC (by repeat' constructor) k (List.getElem?_eq_getElem (l := l) hk1) ?_; rintro zbp zop zyp hAp
  refine cr ?_
  refine ls (op (p_ia k hAp hk1 rfl Tryz.underlying23 Tryz.sizeOf83 rfl rfl) rfl) ?_
  refine ls (o_ldj Tryz.isAgg83 Tryz.sizeOf83 rfl (by repeat' constructor) 0 rfl (by repeat (first | exact Cut.d | apply Cut.t | apply Cut.s)) rfl) ?_
  refine ls (o_alloc Tryz.zeroValue83 rfl rfl) ?_
  refine le ?_; intro b5
  refine ls (o_st rfl Tryz.sizeOf83 rfl rfl rfl rfl rfl (by repeat' constructor) (by repeat' constructor) (by repeat' constructor)) ?_
  refine ln ?_
  refine nthen ?_
  refine cr ?_
  refine ls (op (p_move rfl) rfl) ?_
  refine ls (o_ldw Tryz.isAgg83 Tryz.sizeOf83 rfl (by repeat' constructor) (by rfl) rfl) ?_
  refine ls (o_bsl [l[k]] Tryz.underlying29 Tryz.sizeOf39 Tryz.zeroValue39 rfl (Enum.t Enum.d) (RV.t zyp rfl (by repeat' (first | constructor | apply Sub.suf)) RV.d) rfl (by decide) (by decide) rfl) ?_
  refine le ?_; intro b14
  refine lmono (fun a w h => Go.Sx.freeze (i := 0) rfl h) ?_
  refine ls (o_app (is := [1]) Tryz.underlying29 inf39 rfl (by decide) (by decide) rfl rfl (by rw [List.length_take]; simp only [List.length_cons, List.length_nil]; omega) (fun h => by cases h) rfl (by repeat' (first | constructor | apply Sub.suf)) rfl) ?_
  refine le ?_; rintro ⟨A3, c3⟩
  rw [← List.take_succ_eq_append_getElem hk1]
  refine ls (op (p_asg rfl) rfl) ?_
  refine ln ?_
  refine nblock ?_
  refine nthen ?_
  refine cr ?_
  refine ls (op (p_add rfl rfl (by omega)) rfl) ?_
  refine ls (op (p_move rfl) rfl) ?_
  refine ln ?_
  refine nnext ⟨(k + 1, A3, c3), hk1⟩ (by dsimp only; omega) (wk (is := [0]) (by repeat (first | exact subσ.nil _ | refine subσ.cons rfl ?_)) rfl (by repeat' (first | constructor | apply Sub.suf)))
 ·
  intro h9
  dsimp only at hk
  try simp only [decide_eq_true_eq, decide_eq_false_iff_not, Bool.not_eq_true', Bool.not_eq_false', Int.not_lt, Int.not_le, ge_iff_le, Bool.not_true, Bool.not_false] at h9
  obtain rfl : k = l.length := by omega
  rw [List.take_length]
  refine cexit ?_
  refine xthen ?_
  refine xthen ?_
  refine xblock ?_
  refine nthen ?_
  refine cs ?_
  refine cmono (fun a w h => freezeN (i := 0) rfl h) ?_
  refine cr ?_
  refine ls (op (p_move rfl) rfl) ?_
  refine ls (op (p_asg rfl) rfl) ?_
  refine ln ?_
  refine nthen ?_
  refine cret ?_
  refine xret (fun _ _ h => h) ?_
  refine rret (is := []) (A2, c2) (Or.inl rfl) (Res.t rfl Res.d) (rfl) rfl (by repeat' (first | constructor | apply Sub.suf))

set_option maxRecDepth 100000 in
theorem c_seqApply (p b : Nat) (T : List File) (mm nn : Nat) (hi : AppInv mm nn T) (l : List Prim) (A : Option Addr) (c : Nat) (hc : l.length ≤ c) (hl : l.length ≤ 900000) (hf : ∀ x ∈ l, x.fit) (hm : mm + 2 * lns l ≤ 1900000) (hn : nn + 2 * l.length ≤ 1900000) : Con Tryz.prog 27 [.pointer (some ⟨p, 0, none⟩), .slice A l.length c] [box p 120 [.map (some b)], tr b T] [slA A l] {q : List File × Int // q = rowT T l} (fun q => .int .i64 q.1.2) (fun q => [box p 120 [.map (some b)], tr b q.1.1]) (fun _ => []) := by
 refine con Tryz.func27 rfl Tryz.ntmps27 rfl ?_
 intro M0 F0 w0
 refine cs ?_
 refine cr ?_
 refine ls (op (p_asg rfl) rfl) ?_
 refine ln ?_
 refine nthen ?_
 refine cs ?_
 refine cs ?_
 refine cr ?_
 refine ls (op (p_move rfl) rfl) ?_
 refine ls (op (p_lenl rfl Tryz.underlying29) rfl) ?_
 refine ls (op (p_move rfl) rfl) ?_
 refine ln ?_
 refine nthen ?_
 refine cb ?_
 refine cl (ι := {q : Nat × List File // q.1 ≤ l.length ∧ Runs T (l.take q.1) q.2}) (fun i => St M0 F0 w0 37 [(0, .pointer (some ⟨p, 0, none⟩)), (1, .slice A l.length c), (10, .slice A l.length c), (11, .int .i64 (l.length : Int)), (12, .int .i64 (i.1.1 : Int))] [box p 120 [.map (some b)], tr b i.1.2] [slA A l]) (fun i => l.length - i.1.1) ⟨(0, T), Nat.zero_le _, rfl⟩ (wk0 (by repeat (first | exact subσ.nil _ | refine subσ.cons rfl ?_)) (by repeat' (first | constructor | apply Sub.suf))) ?_
 rintro ⟨⟨k, M⟩, hk, hR⟩
 refine cmono (S' := St M0 F0 w0 37 [(0, .pointer (some ⟨p, 0, none⟩)), (1, .slice A l.length c), (10, .slice A l.length c), (11, .int .i64 (l.length : Int)), (12, .int .i64 (k : Int))] [box p 120 [.map (some b)], tr b M] [slA A l]) (fun _ _ h => h) ?_
 refine cs ?_
 refine cr ?_
 refine ls (op (p_icmp rfl rfl rfl) rfl) ?_
 refine ln ?_
 refine nthen ?_
 refine cs ?_
 refine cc rfl ?_ ?_
 ·
  intro h13
  dsimp only at hk hR
  try simp only [decide_eq_true_eq, decide_eq_false_iff_not, Bool.not_eq_true', Bool.not_eq_false', Int.not_lt, Int.not_le, ge_iff_le, Bool.not_true, Bool.not_false] at h13
  have hk1 : k < l.length := by omega
  have hfk := hf _ (List.getElem_mem hk1)
  have hB := run_b hi hm hn hR hk1
  have hlk : (l.take k).length = k := by rw [List.length_take]; omega
  refine cskip ?_
  refine nthen ?_
  refine cs ?_
  refine cb ?_
  refine cs ?_
  refine elC (by repeat' constructor) k (List.getElem?_eq_getElem (l := l) hk1) ?_; rintro zbp zop zyp hAp
  refine cr ?_
  refine ls (op (p_move rfl) rfl) ?_
  refine ls (op (p_ia k hAp hk1 rfl Tryz.underlying29 Tryz.sizeOf39 rfl rfl) rfl) ?_
  refine ls (o_ldj Tryz.isAgg39 Tryz.sizeOf39 rfl (by repeat' constructor) 0 rfl (by repeat (first | exact Cut.d | apply Cut.t | apply Cut.s)) rfl) ?_
  refine ls (o_alloc Tryz.zeroValue39 rfl rfl) ?_
  refine le ?_; intro b6
  refine ls (op (p_asg rfl) rfl) ?_
  refine ls (o_st rfl Tryz.sizeOf39 rfl rfl rfl rfl rfl (by repeat' constructor) (by repeat' constructor) (by repeat' constructor)) ?_
  refine ln ?_
  refine nthen ?_
  refine cs ?_
  refine cr ?_
  refine ls (op (p_move rfl) rfl) ?_
  refine ls (o_ldw Tryz.isAgg39 Tryz.sizeOf39 rfl (by repeat' constructor) (by rfl) rfl) ?_
  refine ls (o_call (is := [1, 1]) Tryz.call51 (c_pApply p b M l[k] zyp hfk hB.fit hB.b) rfl rfl (by repeat' (first | constructor | apply Sub.suf)) rfl) ?_
  refine le ?_; rintro ⟨⟨M1, e1⟩, hq⟩
  try dsimp only at hq
  have hqr := hq
  rw [apply_eq hB.so hB.good] at hqr
  refine ls (op (p_asg rfl) rfl) ?_
  refine ln ?_
  refine nthen ?_
  refine cs ?_
  refine cr ?_
  refine ls (op (p_move rfl) rfl) ?_
  refine ls (op (p_icmp rfl rfl rfl) rfl) ?_
  refine ln ?_
  refine nthen ?_
  refine cc rfl ?_ ?_
  ·
   intro h21
   have he : ¬ e1 = 0 := by simpa using h21
   obtain rfl := apply_err hq he hB.so hB.good
   refine cmono (fun a w h => subS (l' := l.take k) (c := c) 0 k (by repeat (first | exact In.z | apply In.s)) (by omega) (by omega) hc (by simp) h) ?_
   refine cs ?_
   refine cs ?_
   refine cr ?_
   refine ls (op (p_move rfl) rfl) ?_
   refine ls (op (p_move rfl) rfl) ?_
   refine ls (op (p_slh k (by omega) rfl Tryz.underlying29 Tryz.sizeOf39 rfl rfl) rfl) ?_
   refine fixL (slen (m' := (l.take k).length) (by omega)) ?_
   refine ls (o_call (is := []) Tryz.call30 (c_seqInvert (l.take k) _ _ (by omega) (fun x hx => hf x (List.mem_of_mem_take hx))) rfl rfl (by repeat' (first | constructor | apply Sub.suf)) rfl) ?_
   refine le ?_; rintro ⟨A25, c25⟩
   refine ls (op (p_lenl rfl Tryz.underlying29) rfl) ?_
   refine ls (op (p_move rfl) rfl) ?_
   refine ln ?_
   refine nthen ?_
   refine cb ?_
   refine cl (ι := {q : Nat × List File // q.1 ≤ (invL (l.take k)).length ∧ Undo T l k q.1 M1 q.2}) (fun i => St M0 F0 w0 37 [(0, .pointer (some ⟨p, 0, none⟩)), (7, .int .i64 e1), (25, .slice A25 (invL (l.take k)).length c25), (26, .int .i64 ((invL (l.take k)).length : Int)), (27, .int .i64 (i.1.1 : Int))] [box p 120 [.map (some b)], tr b i.1.2] [slA A25 (invL (l.take k))]) (fun i => (invL (l.take k)).length - i.1.1) ⟨(0, M1), Nat.zero_le _, Undo.start hi.so hi.good hR⟩ (wk (is := [0, 0]) (by repeat (first | exact subσ.nil _ | refine subσ.cons rfl ?_)) rfl (by repeat' (first | constructor | apply Sub.suf))) ?_
   rintro ⟨⟨j, N⟩, hj, hU⟩
   refine cmono (S' := St M0 F0 w0 37 [(0, .pointer (some ⟨p, 0, none⟩)), (7, .int .i64 e1), (25, .slice A25 (invL (l.take k)).length c25), (26, .int .i64 ((invL (l.take k)).length : Int)), (27, .int .i64 (j : Int))] [box p 120 [.map (some b)], tr b N] [slA A25 (invL (l.take k))]) (fun _ _ h => h) ?_
   refine cs ?_
   refine cr ?_
   refine ls (op (p_icmp rfl rfl rfl) rfl) ?_
   refine ln ?_
   refine nthen ?_
   refine cs ?_
   refine cc rfl ?_ ?_
   ·
    intro h28
    dsimp only at hj hU
    try simp only [decide_eq_true_eq, decide_eq_false_iff_not, Bool.not_eq_true', Bool.not_eq_false', Int.not_lt, Int.not_le, ge_iff_le, Bool.not_true, Bool.not_false] at h28
    have hj1 : j < (invL (l.take k)).length := by omega
    have hil : (invL (l.take k)).length = k := by rw [invL_len, hlk]
    have hBu := undo_b hi hm hn hR hU hj1
    have hfj := invL_fit (fun x hx => hf x (List.mem_of_mem_take hx)) _ (List.getElem_mem hj1)
    refine cskip ?_
    refine nthen ?_
    refine cs ?_
    refine cb ?_
    refine cs ?_
    refine elC (by repeat' constructor) j (List.getElem?_eq_getElem (l := (invL (l.take k))) hj1) ?_; rintro zbq zoq zyq hAq
    refine cr ?_
    refine ls (op (p_ia j hAq hj1 rfl Tryz.underlying29 Tryz.sizeOf39 rfl rfl) rfl) ?_
    refine ls (o_ldj Tryz.isAgg39 Tryz.sizeOf39 rfl (by repeat' constructor) 0 rfl (by repeat (first | exact Cut.d | apply Cut.t | apply Cut.s)) rfl) ?_
    refine ls (o_alloc Tryz.zeroValue39 rfl rfl) ?_
    refine le ?_; intro b9
    refine ls (o_st rfl Tryz.sizeOf39 rfl rfl rfl rfl rfl (by repeat' constructor) (by repeat' constructor) (by repeat' constructor)) ?_
    refine ln ?_
    refine nthen ?_
    refine cr ?_
    refine ls (op (p_move rfl) rfl) ?_
    refine ls (o_ldw Tryz.isAgg39 Tryz.sizeOf39 rfl (by repeat' constructor) (by rfl) rfl) ?_
    refine ls (o_call (is := [1, 1]) Tryz.call51 (c_pApply p b N (invL (l.take k))[j] zyq hfj hBu.fit hBu.b) rfl rfl (by repeat' (first | constructor | apply Sub.suf)) rfl) ?_
    refine le ?_; rintro ⟨⟨N1, e2⟩, hq2⟩
    try dsimp only at hq2
    rw [apply_eq hBu.so hBu.good] at hq2
    obtain rfl : N1 = (rApplyT N (invL (l.take k))[j]).1 := by rw [← hq2]
    refine ln ?_
    refine nblock ?_
    refine nthen ?_
    refine cr ?_
    refine ls (op (p_add rfl rfl (by omega)) rfl) ?_
    refine ls (op (p_move rfl) rfl) ?_
    refine ln ?_
    refine nnext ⟨(j + 1, _), hj1, hU.step hj1⟩ (by dsimp only; omega) (wk (is := [0, 0]) (by repeat (first | exact subσ.nil _ | refine subσ.cons rfl ?_)) rfl (by repeat' (first | constructor | apply Sub.suf)))
   ·
    intro h28
    dsimp only at hj hU
    try simp only [decide_eq_true_eq, decide_eq_false_iff_not, Bool.not_eq_true', Bool.not_eq_false', Int.not_lt, Int.not_le, ge_iff_le, Bool.not_true, Bool.not_false] at h28
    obtain rfl := hU.stop (by omega)
    refine cexit ?_
    refine xthen ?_
    refine xthen ?_
    refine xblock ?_
    refine nthen ?_
    refine cs ?_
    refine cr ?_
    refine ls (op (p_move rfl) rfl) ?_
    refine ls (op (p_asg rfl) rfl) ?_
    refine ln ?_
    refine nthen ?_
    refine cret ?_
    refine xret (fun _ _ h => h) ?_
    refine rret (is := [0, 0]) ⟨(N, e1), (rowT_err hR hk1 hqr he).symm⟩ (Or.inl rfl) (Res.t rfl Res.d) (rfl) rfl (by repeat' (first | constructor | apply Sub.suf))
  ·
   intro h21
   have he : e1 = 0 := by simpa using h21
   subst he
   refine cskip ?_
   refine nblock ?_
   refine nthen ?_
   refine cr ?_
   refine ls (op (p_add rfl rfl (by omega)) rfl) ?_
   refine ls (op (p_move rfl) rfl) ?_
   refine ln ?_
   refine nnext ⟨(k + 1, M1), hk1, runs_take hR hk1 hqr⟩ (by dsimp only; omega) (wk (is := [0, 0]) (by repeat (first | exact subσ.nil _ | refine subσ.cons rfl ?_)) rfl (by repeat' (first | constructor | apply Sub.suf)))
 ·
  intro h13
  dsimp only at hk hR
  try simp only [decide_eq_true_eq, decide_eq_false_iff_not, Bool.not_eq_true', Bool.not_eq_false', Int.not_lt, Int.not_le, ge_iff_le, Bool.not_true, Bool.not_false] at h13
  have hall := runs_all hR (by omega)
  refine cexit ?_
  refine xthen ?_
  refine xthen ?_
  refine xblock ?_
  refine nthen ?_
  refine cs ?_
  refine cr ?_
  refine ls (op (p_asg rfl) rfl) ?_
  refine ln ?_
  refine nthen ?_
  refine cret ?_
  refine xret (fun _ _ h => h) ?_
  refine rret (is := [0, 0]) ⟨(M, 0), (rowT_ok hall).symm⟩ (Or.inl rfl) (Res.t rfl Res.d) (rfl) rfl (by repeat' (first | constructor | apply Sub.suf))

end Go.Proofs.YtdbiillompeclaaGreatDoor.X

end
