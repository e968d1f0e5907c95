/- OWN WORK: a part of the proof of a law of the seat YtdbiillompeclaaGreatDoor: contracts. -/
import Derived.Test.YtdbiillompeclaaGreatDoorXGD
import Derived.Test.YtdbiillompeclaaGreatDoorXGC
import Derived.Test.YtdbiillompeclaaGreatDoorProg
import Derived.Test.YtdbiillompeclaaGreatDoorXGE
import Derived.Test.YtdbiillompeclaaGreatDoorXGF
section
set_option linter.unusedVariables false
set_option linter.unusedSimpArgs false
namespace Go.Sx
open Go Go.RowKit
/-! A tree's text tells it from all others. -/
theorem sepU {x : UInt8} : ∀ {a b r s : List UInt8}, x ∉ a → x ∉ b → a ++ x :: r = b ++ x :: s → a = b ∧ r = s
  | [], [], r, s, _, _, h => ⟨rfl, (List.cons.inj h).2⟩
  | [], y :: b, r, s, _, hb, h => absurd (by rw [(List.cons.inj h).1]; simp) hb
  | y :: a, [], r, s, ha, _, h => absurd (by rw [← (List.cons.inj h).1]; simp) ha
  | y :: a, z :: b, r, s, ha, hb, h => by
    obtain ⟨h1, h2⟩ := List.cons.inj h
    obtain ⟨h3, h4⟩ := sepU (fun h => ha (List.mem_cons_of_mem _ h)) (fun h => hb (List.mem_cons_of_mem _ h)) h2
    exact ⟨by rw [h1, h3], h4⟩
def decV (l : List UInt8) : Nat := l.foldl (fun n b => n * 10 + (b.toNat - 48)) 0
theorem decV_dec (u : Nat) : decV (Lib.decDigits u) = u := by
  induction u using Nat.strongRecOn with
  | _ u ih =>
    by_cases h : u < 10
    · rw [Lib.decDigits, dif_pos h]
      have : (UInt8.ofNat (48 + u)).toNat = 48 + u := by rw [UInt8.toNat_ofNat']; omega
      unfold decV
      rw [List.foldl_cons, List.foldl_nil, this]; omega
    · rw [Lib.decDigits, dif_neg h]
      have : (UInt8.ofNat (48 + u % 10)).toNat = 48 + u % 10 := by rw [UInt8.toNat_ofNat']; omega
      have ih := ih (u / 10) (by omega)
      unfold decV at ih ⊢
      rw [List.foldl_append, ih, List.foldl_cons, List.foldl_nil, this]; omega
theorem dec_no (u : Nat) : (10 : UInt8) ∉ Lib.decDigits u := by
  induction u using Nat.strongRecOn with
  | _ u ih =>
    have key : ∀ v, v < 10 → (10 : UInt8) ≠ UInt8.ofNat (48 + v) := fun v hv e => by
      have := congrArg UInt8.toNat e
      rw [UInt8.toNat_ofNat'] at this
      have h10 : (10 : UInt8).toNat = 10 := rfl
      omega
    by_cases h : u < 10
    · rw [Lib.decDigits, dif_pos h, List.mem_singleton]; exact key u h
    · rw [Lib.decDigits, dif_neg h, List.mem_append, List.mem_singleton]
      rintro (h1 | h1)
      · exact ih _ (by omega) h1
      · exact key _ (by omega) h1
theorem name_no {k : ByteArray} (h : nameOk k = true) : (32 : UInt8) ∉ ofB k := fun hm => by
  unfold nameOk at h
  simp only [Bool.and_eq_true, List.all_eq_true] at h
  have := h.2 _ hm
  revert this; decide
theorem line_no {s : ByteArray} (h : lineOk s = true) : (10 : UInt8) ∉ ofB s := fun hm => by
  unfold lineOk at h
  simp only [Bool.and_eq_true, Bool.not_eq_true', ← Bool.not_eq_true] at h
  exact h.2 (by simpa using hm)
theorem lineT_inj : ∀ {l m : List ByteArray} {r s : List UInt8}, l.length = m.length → l.all lineOk = true → m.all lineOk = true → lineT l ++ r = lineT m ++ s → l = m ∧ r = s
  | [], [], r, s, _, _, _, h => ⟨rfl, h⟩
  | x :: l, y :: m, r, s, hl, h1, h2, h => by
    simp only [List.all_cons, Bool.and_eq_true] at h1 h2
    have e : ∀ (z : ByteArray) (n : List ByteArray) (t : List UInt8), lineT (z :: n) ++ t = ofB z ++ 10 :: (lineT n ++ t) := fun z n t => by simp [lineT]
    rw [e, e] at h
    obtain ⟨h3, h4⟩ := sepU (line_no h1.1) (line_no h2.1) h
    obtain ⟨h5, h6⟩ := lineT_inj (by simpa using hl) h1.2 h2.2 h4
    exact ⟨by rw [ofB_inj h3, h5], h6⟩
theorem textT_inj : ∀ {T U : List File}, Good T → Good U → textT T = textT U → T = U
  | [], [], _, _, _ => rfl
  | [], y :: U, _, _, h => by
    have := congrArg List.length h
    simp only [textT, fileT, List.flatMap_cons, List.length_append, List.flatMap_nil, List.length_nil, List.length_singleton] at this
    omega
  | x :: T, [], _, _, h => by
    have := congrArg List.length h
    simp only [textT, fileT, List.flatMap_cons, List.length_append, List.flatMap_nil, List.length_nil, List.length_singleton] at this
    omega
  | x :: T, y :: U, hT, hU, h => by
    have e : ∀ (z : File) (V : List File), textT (z :: V) = ofB z.1 ++ 32 :: (Lib.decDigits z.2.length ++ 10 :: (lineT z.2 ++ textT V)) := fun z V => by simp [textT, fileT]
    rw [e, e] at h
    obtain ⟨x1, x2⟩ := hT x (by simp)
    obtain ⟨y1, y2⟩ := hU y (by simp)
    obtain ⟨h1, h2⟩ := sepU (name_no x1) (name_no y1) h
    obtain ⟨h3, h4⟩ := sepU (dec_no _) (dec_no _) h2
    have h5 : x.2.length = y.2.length := by have := congrArg decV h3; rwa [decV_dec, decV_dec] at this
    obtain ⟨h6, h7⟩ := lineT_inj h5 x2 y2 h4
    have h8 := textT_inj (fun z hz => hT z (List.mem_cons_of_mem _ hz)) (fun z hz => hU z (List.mem_cons_of_mem _ hz)) h7
    rw [h8]
    congr 1
    exact Prod.ext (ofB_inj h1) h6
theorem dec_le (u : Nat) : (Lib.decDigits u).length ≤ u + 1 := by
  induction u using Nat.strongRecOn with
  | _ u ih =>
    by_cases h : u < 10
    · rw [Lib.decDigits, dif_pos h]; simp
    · rw [Lib.decDigits, dif_neg h, List.length_append, List.length_singleton]
      have := ih (u / 10) (by omega)
      omega
theorem lineT_len (l : List ByteArray) : (lineT l).length = sizes l + l.length := by
  unfold lineT sizes
  induction l with
  | nil => rfl
  | cons x l ih =>
    simp only [List.flatMap_cons, List.length_append, List.map_cons, List.sum_cons, List.length_cons, List.length_nil, ih, ofB_length]
    omega
theorem textT_le {n m : Nat} {T : List File} (h : Tok n m T) : (textT T).length ≤ n * (4 * m + 3) := by
  have key : ∀ (U : List File), (∀ x ∈ U, x.2.length ≤ m ∧ sizes x.2 ≤ m ∧ x.1.size ≤ m) → (textT U).length ≤ U.length * (4 * m + 3) := by
    intro U
    induction U with
    | nil => intro _; simp [textT]
    | cons x U ih =>
      intro hU
      obtain ⟨h1, h2, h3⟩ := hU x (by simp)
      have ih := ih fun y hy => hU y (List.mem_cons_of_mem _ hy)
      have e : (textT (x :: U)).length = (fileT x).length + (textT U).length := by simp [textT]
      have e2 : (fileT x).length = x.1.size + 1 + (Lib.decDigits x.2.length).length + 1 + (lineT x.2).length := by simp only [fileT, List.length_append, ofB_length, List.length_singleton]
      have e3 := dec_le x.2.length
      have e4 := lineT_len x.2
      rw [List.length_cons, Nat.succ_mul]
      omega
  exact Nat.le_trans (key T h.fit) (Nat.mul_le_mul_right _ h.len)
theorem few_yes {l : List TOp} (h : ¬ 0 < fewO l) : l.length ≤ 80 ∧ omany l ≤ 8000 := by
  unfold fewO at h
  split at h
  · assumption
  · omega
theorem few_text {l : List TOp} (h : ¬ 0 < fewO l) : (textT (madeT l)).length ≤ 100000000 := by
  obtain ⟨h1, h2⟩ := few_yes h
  have ht : Tok l.length 8000 (madeT l) := madeT_tok fun o ho => by have := omany_mem ho; omega
  refine Nat.le_trans (textT_le ht) ?_
  have : l.length * (4 * 8000 + 3) ≤ 80 * (4 * 8000 + 3) := Nat.mul_le_mul_right _ h1
  omega
end Go.Sx

end
section
set_option linter.unusedVariables false
set_option linter.unusedSimpArgs false
namespace Go.Proofs.YtdbiillompeclaaGreatDoor.X
open Go Go.RowKit Go.Proofs Go.Sx
attribute [local irreducible] slA isA box row


set_option maxRecDepth 100000 in
theorem c_rLong (T : List File) (A : Option Addr) (c : Nat) (hn : T.length ≤ 2000000) (hf : Tfit T) : Con Tryz.prog 33 [.slice A T.length c] [] [slA A T] Unit (fun _ => .int .i64 ((longest T : Nat) : Int)) (fun _ => []) (fun _ => []) := by
 refine con Tryz.func33 rfl Tryz.ntmps33 rfl ?_
 intro M0 F0 w0
 refine cs ?_
 refine cr ?_
 refine ls (op (p_asg rfl) rfl) ?_
 refine ln ?_
 refine nthen ?_
 refine cs ?_
 refine cr ?_
 refine ls (op (p_asg rfl) rfl) ?_
 refine ln ?_
 refine nthen ?_
 refine cs ?_
 refine cs ?_
 refine cr ?_
 refine ls (op (p_move rfl) rfl) ?_
 refine ls (op (p_lenl rfl Tryz.underlying60) rfl) ?_
 refine ls (op (p_move rfl) rfl) ?_
 refine ln ?_
 refine nthen ?_
 refine cb ?_
 refine cl (ι := {k : Nat // k ≤ T.length}) (fun i => St M0 F0 w0 19 [(3, .int .i64 ((longest (T.take i.1) : Nat) : Int)), (6, .slice A T.length c), (7, .int .i64 (T.length : Int)), (8, .int .i64 ((i.1 : Nat) : Int))] [] [slA A T]) (fun i => T.length - i.1) ⟨0, Nat.zero_le _⟩ (wk (is := []) (by repeat (first | exact subσ.nil _ | refine subσ.cons rfl ?_)) rfl (by repeat' (first | constructor | apply Sub.suf))) ?_
 rintro ⟨k, hk⟩
 refine cmono (S' := St M0 F0 w0 19 [(3, .int .i64 ((longest (T.take k) : Nat) : Int)), (6, .slice A T.length c), (7, .int .i64 (T.length : Int)), (8, .int .i64 ((k : Nat) : Int))] [] [slA A T]) (fun _ _ h => h) ?_
 refine cs ?_
 refine cr ?_
 refine ls (op (p_icmp rfl rfl rfl) rfl) ?_
 refine ln ?_
 refine nthen ?_
 refine cs ?_
 refine cc rfl ?_ ?_
 ·
  intro h9
  try simp only [decide_eq_true_eq, decide_eq_false_iff_not, Bool.not_eq_true', Bool.not_eq_false', Int.not_lt, Int.not_le, ge_iff_le, Bool.not_true, Bool.not_false] at h9
  have hk1 : k < T.length := by omega
  have elt := longest_take hk1
  refine cskip ?_
  refine nthen ?_
  refine cs ?_
  refine cb ?_
  refine cs ?_
  refine elC (A := A) (l := T) (by repeat' constructor) k (List.getElem?_eq_getElem hk1) ?_; rintro zbp zop zyp hAp
  refine cr ?_
  refine ls (op (p_ia k hAp hk1 rfl Tryz.underlying60 Tryz.sizeOf132 rfl rfl) rfl) ?_
  refine ls (o_ldj Tryz.isAgg132 Tryz.sizeOf132 rfl (by repeat' constructor) 0 rfl (by repeat (first | exact Cut.d | apply Cut.t | apply Cut.s)) rfl) ?_
  refine ls (o_alloc Tryz.zeroValue132 rfl rfl) ?_
  refine le ?_; intro b5
  refine ls (o_st rfl Tryz.sizeOf132 rfl rfl rfl rfl rfl (by repeat' constructor) (by repeat' constructor) (by repeat' constructor)) ?_
  refine ln ?_
  refine nthen ?_
  refine cr ?_
  refine ls (op (p_move rfl) rfl) ?_
  refine ls (op (p_fa fa132_1 rfl) rfl) ?_
  refine ls (o_ld Tryz.isAgg37 rfl (by repeat' constructor) (by repeat' constructor) rfl) ?_
  refine ls (op (p_lenl rfl Tryz.underlying37) rfl) ?_
  refine ls (op (p_max rfl rfl) rfl) ?_
  refine fixL (v' := .int .i64 ((longest (T.take (k + 1)) : Nat) : Int)) (by rw [elt]; congr 1; omega) ?_
  refine ls (op (p_asg rfl) rfl) ?_
  refine ln ?_
  refine nblock ?_
  refine nthen ?_
  refine cr ?_
  refine ls (op (p_add rfl rfl (by omega)) rfl) ?_
  refine ls (op (p_move rfl) rfl) ?_
  refine ln ?_
  refine nnext ⟨k + 1, hk1⟩ (by dsimp only; omega) (wk (is := []) (by repeat (first | exact subσ.nil _ | refine subσ.cons rfl ?_)) rfl (by repeat' (first | constructor | apply Sub.suf)))
 ·
  intro h9
  try simp only [decide_eq_true_eq, decide_eq_false_iff_not, Bool.not_eq_true', Bool.not_eq_false', Int.not_lt, Int.not_le, ge_iff_le, Bool.not_true, Bool.not_false] at h9
  obtain rfl : k = T.length := by omega
  rw [List.take_length]
  refine cexit ?_
  refine xthen ?_
  refine xthen ?_
  refine xblock ?_
  refine nthen ?_
  refine cs ?_
  refine cr ?_
  refine ls (op (p_move rfl) rfl) ?_
  refine ls (op (p_asg rfl) rfl) ?_
  refine ln ?_
  refine nthen ?_
  refine cret ?_
  refine xret (fun _ _ h => h) ?_
  refine rret (is := []) () (Or.inl rfl) (Res.t rfl Res.d) (rfl) rfl (by repeat' (first | constructor | apply Sub.suf))

end Go.Proofs.YtdbiillompeclaaGreatDoor.X

end
section
set_option linter.unusedVariables false
set_option linter.unusedSimpArgs false
namespace Go.Proofs.YtdbiillompeclaaGreatDoor.X
open Go Go.RowKit Go.Proofs Go.Sx
/-! What makes one tree of another one, file by file. -/
theorem files_take {T U : List File} {b : Bool} {k : Nat} (hk : k < T.length) : filesT (T.take (k + 1)) U b = filesT (T.take k) U b ++ (if hasT U T[k].1 = b then [T[k].1] else []) := by
  unfold filesT
  rw [List.take_succ_eq_append_getElem hk, List.map_append, List.filter_append]
  congr 1
  simp only [List.map_cons, List.map_nil, List.filter_cons, List.filter_nil]
  cases hasT U T[k].1 <;> cases b <;> rfl
theorem fo_yes {T U : List File} {b : Bool} {k : Nat} {g : ByteArray → List Prim} (hk : k < T.length) (h : hasT U T[k].1 = b) : (filesT (T.take (k + 1)) U b).flatMap g = (filesT (T.take k) U b).flatMap g ++ g T[k].1 := by
  rw [files_take hk, if_pos h, List.flatMap_append]; simp
theorem fo_no {T U : List File} {b : Bool} {k : Nat} {g : ByteArray → List Prim} (hk : k < T.length) (h : hasT U T[k].1 = !b) : (filesT (T.take (k + 1)) U b).flatMap g = (filesT (T.take k) U b).flatMap g := by
  rw [files_take hk, if_neg (by rw [h]; cases b <;> simp), List.append_nil]
theorem at_getL {T : List File} (hT : Sor T) {k : Nat} (hk : k < T.length) : getL T T[k].1 = T[k].2 := by
  have : getT T T[k].1 = some T[k].2 := (getT_some hT).2 (List.getElem_mem hk)
  unfold getL; rw [this]; rfl
theorem at_short {T : List File} (hT : Sor T) (h : ¬ 200 < longest T) {k : Nat} (hk : k < T.length) : T[k].2.length ≤ 200 := by
  have := short_get hT h T[k].1
  rwa [at_getL hT hk] at this
theorem goneT_at {T : List File} (hT : Sor T) {k : Nat} (hk : k < T.length) : goneT T T[k].1 = linesT T[k].1 T[k].2 [] ++ [pRm T[k].1] := by
  unfold goneT; rw [at_getL hT hk]
theorem comeT_at {U : List File} (hU : Sor U) {k : Nat} (hk : k < U.length) : comeT U U[k].1 = [pAd U[k].1] ++ linesT U[k].1 [] U[k].2 := by
  unfold comeT; rw [at_getL hU hk]
theorem bothT_at {T U : List File} (hT : Sor T) {k : Nat} (hk : k < T.length) : bothT T U T[k].1 = linesT T[k].1 T[k].2 (getL U T[k].1) := by
  unfold bothT; rw [at_getL hT hk]
theorem trees_short {T U : List File} (hT : Sor T) (hU : Sor U) (h : ¬ 200 < longest T) (k : ¬ 200 < longest U) : (filesT T U false).flatMap (goneT T) ++ (filesT U T false).flatMap (comeT U) ++ (filesT T U true).flatMap (bothT T U) = treesT T U :=
  (treesT_no (by rw [short_wide hT h, short_wide hU k]; rfl)).symm
def Szd (T : List File) : Prop := ∀ x ∈ T, x.1.size ≤ 2000000 ∧ ∀ s ∈ x.2, s.size ≤ 2000000
theorem szd_tok {n m : Nat} {T : List File} (h : Tok n m T) (hm : m ≤ 2000000) : Szd T := fun x hx => by
  obtain ⟨_, h2, h3⟩ := h.fit x hx
  exact ⟨by omega, fun s hs => by have := sizes_in hs; omega⟩
theorem Szd.name {T : List File} (h : Szd T) {s : ByteArray} (hs : hasT T s = true) : s.size ≤ 2000000 := by
  obtain ⟨x, hx, rfl⟩ := hasT_iff.1 hs
  exact (h x hx).1
theorem Szd.get {T : List File} (h : Szd T) (s : ByteArray) : ∀ z ∈ getL T s, z.size ≤ 2000000 := by
  intro z hz
  unfold getL getT at hz
  cases e : T.find? (fun x => decide (x.1 = s)) with
  | none => rw [e] at hz; cases hz
  | some x => rw [e] at hz; exact (h x (List.mem_of_find?_eq_some e)).2 z hz
theorem fit_rm {s : ByteArray} (h : s.size ≤ 2000000) : (pRm s).fit := ⟨Nat.zero_le _, Nat.zero_le _, h, (Nat.zero_le 2000000 : (pRm s).to.size ≤ 2000000), (fun _ h => by cases h), (fun _ h => by cases h)⟩
theorem fit_ad {s : ByteArray} (h : s.size ≤ 2000000) : (pAd s).fit := ⟨Nat.zero_le _, Nat.zero_le _, h, (Nat.zero_le 2000000 : (pAd s).to.size ≤ 2000000), (fun _ h => by cases h), (fun _ h => by cases h)⟩
theorem trees_fit {T U : List File} (hT : Sor T) (hU : Sor U) (zT : Szd T) (zU : Szd U) (h : ¬ 200 < longest T) (k : ¬ 200 < longest U) : ∀ p ∈ treesT T U, p.fit := by
  intro p hp
  rw [← trees_short hT hU h k, List.mem_append, List.mem_append, List.mem_flatMap, List.mem_flatMap, List.mem_flatMap] at hp
  rcases hp with (⟨s, hs, hp⟩ | ⟨s, hs, hp⟩) | ⟨s, hs, hp⟩
  · obtain ⟨a1, a2⟩ := files_mem.1 hs
    unfold goneT at hp
    rcases List.mem_append.1 hp with hp | hp
    · exact lines_fit (longB_two (short_get hT h s) (by simp)) (zT.name a1) (zT.get s) (by simp) p hp
    · rw [List.mem_singleton.1 hp]; exact fit_rm (zT.name a1)
  · obtain ⟨a1, a2⟩ := files_mem.1 hs
    unfold comeT at hp
    rcases List.mem_append.1 hp with hp | hp
    · rw [List.mem_singleton.1 hp]; exact fit_ad (zU.name a1)
    · exact lines_fit (longB_two (by simp) (short_get hU k s)) (zU.name a1) (by simp) (zU.get s) p hp
  · obtain ⟨a1, a2⟩ := files_mem.1 hs
    exact lines_fit (longB_two (short_get hT h s) (short_get hU k s)) (zT.name a1) (zT.get s) (zU.get s) p hp
end Go.Proofs.YtdbiillompeclaaGreatDoor.X

end
section
set_option linter.unusedVariables false
set_option linter.unusedSimpArgs false
namespace Go.Proofs.YtdbiillompeclaaGreatDoor.X
open Go Go.RowKit Go.Proofs Go.Sx
attribute [local irreducible] slA isA box row


set_option maxRecDepth 100000 in
theorem c_rTrees (T U : List File) (A B : Option Addr) (c c' : Nat) (hT : Sor T) (hU : Sor U) (h1 : ¬ 200 < longest T) (h2 : ¬ 200 < longest U) (hn : T.length ≤ 2000000) (hn2 : U.length ≤ 2000000) : Con Tryz.prog 35 [.slice A T.length c, .slice B U.length c'] [] [slA A T, slA B U] (Option Addr × Nat) (fun x => .slice x.1 (treesT T U).length x.2) (fun x => [row 83 x.1 x.2 (treesT T U)]) (fun _ => []) := by
 have hb4 := fm_len (goneT_len T) (filesT T U false)
 have hb5 := fm_len (bothT_len T U) (filesT T U true)
 have hb6 := fm_len (comeT_len U) (filesT U T false)
 have hf4 := filesT_len T U false
 have hf5 := filesT_len T U true
 have hf6 := filesT_len U T false
 refine con Tryz.func35 rfl Tryz.ntmps35 rfl ?_
 intro M0 F0 w0
 refine cs ?_
 refine cr ?_
 refine ls (op (p_asg rfl) rfl) ?_
 refine ln ?_
 refine nthen ?_
 refine cs ?_
 refine cmono (fun a w h => nilRow (α := Prim) 83 h) ?_
 refine cr ?_
 refine ls (op (p_asg rfl) rfl) ?_
 refine ln ?_
 refine nthen ?_
 refine cs ?_
 refine cr ?_
 refine ls (op (p_asg rfl) rfl) ?_
 refine ln ?_
 refine nthen ?_
 refine cs ?_
 refine cmono (fun a w h => nilRow (α := Prim) 83 h) ?_
 refine cr ?_
 refine ls (op (p_asg rfl) rfl) ?_
 refine ln ?_
 refine nthen ?_
 refine cs ?_
 refine cs ?_
 refine cr ?_
 refine ls (op (p_asg rfl) rfl) ?_
 refine ln ?_
 refine nthen ?_
 refine cb ?_
 refine cl (ι := {q : Nat × (Option Addr × Nat) × (Option Addr × Nat) // q.1 ≤ T.length}) (fun i => St M0 F0 w0 124 [(0, .slice A T.length c), (1, .slice B U.length c'), (5, .slice i.1.2.1.1 ((filesT (T.take (i.1.1)) U false).flatMap (goneT T)).length i.1.2.1.2), (6, .slice none 0 0), (7, .slice i.1.2.2.1 ((filesT (T.take (i.1.1)) U true).flatMap (bothT T U)).length i.1.2.2.2), (8, .int .i64 ((i.1.1 : Nat) : Int))] [row 83 (i.1.2.1.1) (i.1.2.1.2) ((filesT (T.take (i.1.1)) U false).flatMap (goneT T)), row 83 (i.1.2.2.1) (i.1.2.2.2) ((filesT (T.take (i.1.1)) U true).flatMap (bothT T U))] [slA A T, slA B U]) (fun i => T.length - i.1.1) ⟨(0, (none, 0), (none, 0)), Nat.zero_le _⟩ (wk (is := [0, 0]) (by repeat (first | exact subσ.nil _ | refine subσ.cons rfl ?_)) rfl (by repeat' (first | constructor | apply Sub.suf))) ?_
 rintro ⟨⟨k, ⟨A5, c5⟩, ⟨A7, c7⟩⟩, hk⟩
 refine cmono (S' := St M0 F0 w0 124 [(0, .slice A T.length c), (1, .slice B U.length c'), (5, .slice A5 ((filesT (T.take (k)) U false).flatMap (goneT T)).length c5), (6, .slice none 0 0), (7, .slice A7 ((filesT (T.take (k)) U true).flatMap (bothT T U)).length c7), (8, .int .i64 ((k : Nat) : Int))] [row 83 (A5) (c5) ((filesT (T.take (k)) U false).flatMap (goneT T)), row 83 (A7) (c7) ((filesT (T.take (k)) U true).flatMap (bothT T U))] [slA A T, slA B U]) (fun _ _ h => h) ?_
 refine cs ?_
 refine cs ?_
 refine cr ?_
 refine ls (op (p_move rfl) rfl) ?_
 refine ls (op (p_move rfl) rfl) ?_
 refine ls (op (p_lenl rfl Tryz.underlying60) rfl) ?_
 refine ls (op (p_icmp rfl rfl rfl) rfl) ?_
 refine ln ?_
 refine nthen ?_
 refine cc rfl ?_ ?_
 ·
  intro h17
  dsimp only at hk
  try simp only [decide_eq_true_eq, decide_eq_false_iff_not, Bool.not_eq_true', Bool.not_eq_false', Int.not_lt, Int.not_le, ge_iff_le, Bool.not_true, Bool.not_false] at h17
  have hk1 : k < T.length := by omega
  have hwk := at_short hT h1 hk1
  have hwu := short_get hU h2 T[k].1
  have hb1 := fm_len (goneT_len T) (filesT (T.take (k)) U false)
  have hb2 := fm_len (bothT_len T U) (filesT (T.take (k)) U true)
  have hf1 := filesT_len (T.take k) U false
  have hf2 := filesT_len (T.take k) U true
  have ht := List.length_take_le k T
  refine cskip ?_
  refine nthen ?_
  refine cs ?_
  refine cb ?_
  refine cs ?_
  refine cs ?_
  refine elC (A := A) (l := T) (by repeat' constructor) k (List.getElem?_eq_getElem hk1) ?_; rintro zbp zop zyp hAp
  refine cpure (St.cap (m := T[k].2.length) (c := zyp.2) (by repeat' constructor)) ?_
  intro hcapk
  refine cr ?_
  refine ls (op (p_move rfl) rfl) ?_
  refine ls (op (p_move rfl) rfl) ?_
  refine ls (op (p_ia k hAp hk1 rfl Tryz.underlying60 Tryz.sizeOf132 rfl rfl) rfl) ?_
  refine ls (op (p_fa fa132_1 rfl) rfl) ?_
  refine ls (o_ldi Tryz.isAgg37 rfl (by repeat' constructor) 1 rfl (by repeat (first | exact Cut.d | apply Cut.t | apply Cut.s)) rfl) ?_
  refine ls (op (p_lenl rfl Tryz.underlying37) rfl) ?_
  refine ls (op (p_icmp rfl rfl rfl) rfl) ?_
  refine fixL (congrArg Value.bool (decide_eq_false (by omega))) ?_
  refine ln ?_
  refine nthen ?_
  refine cc rfl (fun h => by cases h) (fun h => ?_)
  refine cskip ?_
  refine nthen ?_
  refine cs ?_
  refine cr ?_
  refine ls (op (p_move rfl) rfl) ?_
  refine ls (op (p_move rfl) rfl) ?_
  refine ls (op (p_move rfl) rfl) ?_
  refine ls (op (p_ia k hAp hk1 rfl Tryz.underlying60 Tryz.sizeOf132 rfl rfl) rfl) ?_
  refine ls (op (p_fa fa132_0 rfl) rfl) ?_
  refine ls (o_ldi Tryz.isAgg9 rfl (by repeat' constructor) 0 rfl (by repeat (first | exact Cut.d | apply Cut.t | apply Cut.s)) rfl) ?_
  refine ls (o_call (is := []) Tryz.call80 (c_rGet U B c' hn2 T[k].1) rfl rfl (by repeat' (first | constructor | apply Sub.suf)) rfl) ?_
  refine le ?_; rintro ⟨A34, c34⟩
  refine lpure (St.cap (m := (getL U T[k].1).length) (c := c34) (by repeat' constructor)) ?_
  intro hcap34
  refine ls (op (p_move rfl) rfl) ?_
  refine ls (op (p_ext rfl (by repeat' constructor)) rfl) ?_
  refine ls (op (p_ext rfl (by repeat' constructor)) rfl) ?_
  refine ls (op (p_asg rfl) rfl) ?_
  refine ls (op (p_asg rfl) rfl) ?_
  refine ln ?_
  refine nthen ?_
  refine cs ?_
  refine cr ?_
  refine ls (op (p_move rfl) rfl) ?_
  refine ln ?_
  refine nthen ?_
  refine cc rfl ?_ ?_
  ·
   intro h37
   have hz : hasT U T[k].1 = true := h37
   refine cdB [12, 13] [(5, zbp, zop + k * Rp.size File, _), (10, zbp, zop + k * Rp.size File + 1, _)] TryzX.mixed (by kernel_rfl) (by kernel_rfl) (TOk.t (isInS (by repeat' constructor) (k := 0) rfl (z := 1) (by repeat (first | exact Cut.d | apply Cut.t | apply Cut.s))) (TOk.t (isInS (by repeat' constructor) (k := 1) rfl (z := 1) (by repeat (first | exact Cut.d | apply Cut.t | apply Cut.s))) TOk.d)) ?_
   refine tkB 0 rfl (by kernel_rfl) (fun _ _ _ h => h) gnone (TTany _) (p_move rfl) rfl ?_
   refine tkB 1 rfl (by kernel_rfl) (fun _ _ _ h => h) gnone (TTany _) (p_move rfl) rfl ?_
   refine tkB 2 rfl (by kernel_rfl) (fun _ _ _ h => h) gnone (TTany _) (p_move rfl) rfl ?_
   refine tkB 3 rfl (by kernel_rfl) (fun _ _ _ h => h) gnone (TTany _) (p_ia k hAp hk1 rfl Tryz.underlying60 Tryz.sizeOf132 rfl rfl) rfl ?_
   refine tkB 4 rfl (by kernel_rfl) (fun _ _ _ h => h) gnone (TTany _) (p_fa fa132_0 rfl) rfl ?_
   refine tkB 5 rfl (by kernel_rfl) (fun _ _ _ h => h) gnone (TTat (List.Mem.head _)) (p_ld Tryz.isAgg9 rfl) rfl ?_
   refine tkB 6 rfl (by kernel_rfl) (fun _ _ _ h => h) gnone (TTany _) (p_move rfl) rfl ?_
   refine tkB 7 rfl (by kernel_rfl) (fun _ _ _ h => h) gnone (TTany _) (p_move rfl) rfl ?_
   refine tkB 8 rfl (by kernel_rfl) (fun _ _ _ h => h) gnone (TTany _) (p_ia k hAp hk1 rfl Tryz.underlying60 Tryz.sizeOf132 rfl rfl) rfl ?_
   refine tkB 9 rfl (by kernel_rfl) (fun _ _ _ h => h) gnone (TTany _) (p_fa fa132_1 rfl) rfl ?_
   refine tkB 10 rfl (by kernel_rfl) (fun _ _ _ h => h) gnone (TTat (List.Mem.tail _ (List.Mem.head _))) (p_ld Tryz.isAgg37 rfl) rfl ?_
   refine tkB 11 rfl (by kernel_rfl) (fun _ _ _ h => h) gnone (TTany _) (p_move rfl) rfl ?_
   refine dfB 12 (by kernel_rfl) ?_
   refine doRB rfl (o_call (is := []) Tryz.call22 (c_rLines T[k].1 T[k].2 (getL U T[k].1) zyp.1 A34 zyp.2 c34 (by omega) (by omega) hcapk hcap34) rfl rfl (by repeat' (first | constructor | apply Sub.suf)) rfl) (TOk.xP 12 [] (by kernel_rfl) (TOk.xP 12 [] (by kernel_rfl) TOk.d)) ?_
   refine eaB ?_; rintro ⟨A50, c50⟩
   refine amonoB (fun a w h => Go.Sx.freeze (i := 0) rfl h) ?_
   refine dfB 13 (by kernel_rfl) ?_
   refine doRB rfl (o_appX (i := 1) Tryz.underlying23 inf83 rfl (by decide) (by decide) rfl rfl (by (try simp only [List.length_append, List.length_cons, List.length_nil]); have hll := linesT_len (T[k].1) (T[k].2) (getL U T[k].1); omega) rfl (by repeat' (first | constructor | apply Sub.suf)) rfl) (TOk.xP 12 [] (by kernel_rfl) (TOk.xP 12 [] (by kernel_rfl) TOk.d)) ?_
   refine eaB ?_; rintro ⟨A51, c51⟩
   refine tkB 14 rfl (by kernel_rfl) (fun _ _ _ h => h) gnone (TTany _) (p_asg rfl) rfl ?_
   refine dnB (by kernel_rfl) ?_
   refine nblock ?_
   refine nthen ?_
   refine cr ?_
   refine ls (op (p_move rfl) rfl) ?_
   refine ls (op (p_add rfl rfl (by omega)) rfl) ?_
   refine ls (op (p_asg rfl) rfl) ?_
   refine ln ?_
   refine nnext ⟨(k + 1, (A5, c5), (A51, c51)), hk1⟩ (by dsimp only; omega) (fun a w h => by dsimp only; rw [fo_no (b := false) hk1 hz, fo_yes (b := true) hk1 hz, bothT_at hT hk1]; exact wk (is := [1, 0]) (by repeat (first | exact subσ.nil _ | refine subσ.cons rfl ?_)) rfl (by repeat' (first | constructor | apply Sub.suf)) a w h)
  ·
   intro h37
   have hz : hasT U T[k].1 = false := h37
   refine cmono (fun a w h => nilSl (α := ByteArray) h) ?_
   refine cdB [11, 12, 19, 20] [(5, zbp, zop + k * Rp.size File, _), (10, zbp, zop + k * Rp.size File + 1, _), (17, zbp, zop + k * Rp.size File, _)] TryzX.mixed (by kernel_rfl) (by kernel_rfl) (TOk.t (isInS (by repeat' constructor) (k := 0) rfl (z := 1) (by repeat (first | exact Cut.d | apply Cut.t | apply Cut.s))) (TOk.t (isInS (by repeat' constructor) (k := 1) rfl (z := 1) (by repeat (first | exact Cut.d | apply Cut.t | apply Cut.s))) (TOk.t (isInS (by repeat' constructor) (k := 0) rfl (z := 1) (by repeat (first | exact Cut.d | apply Cut.t | apply Cut.s))) TOk.d))) ?_
   refine tkB 0 rfl (by kernel_rfl) (fun _ _ _ h => h) gnone (TTany _) (p_move rfl) rfl ?_
   refine tkB 1 rfl (by kernel_rfl) (fun _ _ _ h => h) gnone (TTany _) (p_move rfl) rfl ?_
   refine tkB 2 rfl (by kernel_rfl) (fun _ _ _ h => h) gnone (TTany _) (p_move rfl) rfl ?_
   refine tkB 3 rfl (by kernel_rfl) (fun _ _ _ h => h) gnone (TTany _) (p_ia k hAp hk1 rfl Tryz.underlying60 Tryz.sizeOf132 rfl rfl) rfl ?_
   refine tkB 4 rfl (by kernel_rfl) (fun _ _ _ h => h) gnone (TTany _) (p_fa fa132_0 rfl) rfl ?_
   refine tkB 5 rfl (by kernel_rfl) (fun _ _ _ h => h) gnone (TTat (List.Mem.head _)) (p_ld Tryz.isAgg9 rfl) rfl ?_
   refine tkB 6 rfl (by kernel_rfl) (fun _ _ _ h => h) gnone (TTany _) (p_move rfl) rfl ?_
   refine tkB 7 rfl (by kernel_rfl) (fun _ _ _ h => h) gnone (TTany _) (p_move rfl) rfl ?_
   refine tkB 8 rfl (by kernel_rfl) (fun _ _ _ h => h) gnone (TTany _) (p_ia k hAp hk1 rfl Tryz.underlying60 Tryz.sizeOf132 rfl rfl) rfl ?_
   refine tkB 9 rfl (by kernel_rfl) (fun _ _ _ h => h) gnone (TTany _) (p_fa fa132_1 rfl) rfl ?_
   refine tkB 10 rfl (by kernel_rfl) (fun _ _ _ h => h) gnone (TTat (List.Mem.tail _ (List.Mem.head _))) (p_ld Tryz.isAgg37 rfl) rfl ?_
   refine tkB 13 rfl (by kernel_rfl) (fun _ _ _ h => h) gnone (TTany _) (p_move rfl) rfl ?_
   refine tkB 14 rfl (by kernel_rfl) (fun _ _ _ h => h) gnone (TTany _) (p_move rfl) rfl ?_
   refine tkB 15 rfl (by kernel_rfl) (fun _ _ _ h => h) gnone (TTany _) (p_ia k hAp hk1 rfl Tryz.underlying60 Tryz.sizeOf132 rfl rfl) rfl ?_
   refine tkB 16 rfl (by kernel_rfl) (fun _ _ _ h => h) gnone (TTany _) (p_fa fa132_0 rfl) rfl ?_
   refine tkB 17 rfl (by kernel_rfl) (fun _ _ _ h => h) gnone (TTat (List.Mem.tail _ (List.Mem.tail _ (List.Mem.head _)))) (p_ld Tryz.isAgg9 rfl) rfl ?_
   refine tkB 18 rfl (by kernel_rfl) (fun _ _ _ h => h) gnone (TTany _) (p_bld sb83 rfl (Fill.t (by repeat' constructor) rfl rfl (by repeat' constructor) (Fill.t (by repeat' constructor) rfl rfl (by repeat' constructor) Fill.d))) rfl ?_
   refine dallB (is := [11, 19]) (by kernel_rfl) rfl ?_
   intro i hi; simp only [List.mem_cons, List.mem_nil_iff, or_false] at hi; rcases hi with rfl | rfl
   ·
    refine doRB rfl (o_call (is := []) Tryz.call22 (c_rLines T[k].1 T[k].2 [] zyp.1 none zyp.2 0 (by omega) (Nat.zero_le _) hcapk (Nat.le_refl _)) rfl rfl (by repeat' (first | constructor | apply Sub.suf)) rfl) (TOk.xP 11 [] (by kernel_rfl) (TOk.xP 11 [] (by kernel_rfl) (TOk.t (isBoxE fun _ => isInS (by repeat' constructor) (k := 0) rfl (z := 1) (by repeat (first | exact Cut.d | apply Cut.t | apply Cut.s))) TOk.d))) ?_
    refine eaB ?_; rintro ⟨A63, c63⟩
    refine amonoB (fun a w h => Go.Sx.freeze (i := 0) rfl h) ?_
    refine dallB (is := [12, 19]) (by kernel_rfl) rfl ?_
    intro i hi; simp only [List.mem_cons, List.mem_nil_iff, or_false] at hi; rcases hi with rfl | rfl
    ·
     refine doRB rfl (o_appX (i := 0) Tryz.underlying23 inf83 rfl (by decide) (by decide) rfl rfl (by (try simp only [List.length_append, List.length_cons, List.length_nil]); have hll := linesT_len (T[k].1) (T[k].2) ([]); omega) rfl (by repeat' (first | constructor | apply Sub.suf)) rfl) (TOk.xP 11 [] (by kernel_rfl) (TOk.xP 11 [] (by kernel_rfl) (TOk.t (isBoxE fun _ => isInS (by repeat' constructor) (k := 0) rfl (z := 1) (by repeat (first | exact Cut.d | apply Cut.t | apply Cut.s))) TOk.d))) ?_
     refine eaB ?_; rintro ⟨A64, c64⟩
     refine dfB 19 (by kernel_rfl) ?_
     refine doRB rfl (o_bsl [pRm T[k].1] Tryz.underlying23 Tryz.sizeOf83 Tryz.zeroValue83 rfl (Enum.t Enum.d) (RV.t ((none, 0), (none, 0)) rfl (by repeat' (first | constructor | apply Sub.suf)) RV.d) rfl (by decide) (by decide) rfl) (TOk.xP 11 [] (by kernel_rfl) (TOk.xP 11 [] (by kernel_rfl) (TOk.xP 19 [18] (by kernel_rfl) TOk.d))) ?_
     refine eaB ?_; intro b71
     refine amonoB (fun a w h => Go.Sx.freeze (i := 0) rfl h) ?_
     refine dfB 20 (by kernel_rfl) ?_
     refine doRB rfl (o_appX (i := 0) Tryz.underlying23 inf83 rfl (by decide) (by decide) rfl rfl (by (try simp only [List.length_append, List.length_cons, List.length_nil]); have hll := linesT_len (T[k].1) (T[k].2) ([]); omega) rfl (by repeat' (first | constructor | apply Sub.suf)) rfl) (TOk.xP 11 [] (by kernel_rfl) (TOk.xP 11 [] (by kernel_rfl) (TOk.xP 19 [18] (by kernel_rfl) TOk.d))) ?_
     refine eaB ?_; rintro ⟨A72, c72⟩
     refine tkB 21 rfl (by kernel_rfl) (fun _ _ _ h => h) gnone (TTany _) (p_asg rfl) rfl ?_
     refine dnB (by kernel_rfl) ?_
     refine nblock ?_
     refine nthen ?_
     refine cr ?_
     refine ls (op (p_move rfl) rfl) ?_
     refine ls (op (p_add rfl rfl (by omega)) rfl) ?_
     refine ls (op (p_asg rfl) rfl) ?_
     refine ln ?_
     refine nnext ⟨(k + 1, (A72, c72), (A7, c7)), hk1⟩ (by dsimp only; omega) (fun a w h => by dsimp only; rw [fo_yes (b := false) hk1 hz, fo_no (b := true) hk1 hz, goneT_at hT hk1, ← List.append_assoc]; exact wk (is := [0, 0]) (by repeat (first | exact subσ.nil _ | refine subσ.cons rfl ?_)) rfl (by repeat' (first | constructor | apply Sub.suf)) a w h)
    ·
     refine doRB rfl (o_bsl [pRm T[k].1] Tryz.underlying23 Tryz.sizeOf83 Tryz.zeroValue83 rfl (Enum.t Enum.d) (RV.t ((none, 0), (none, 0)) rfl (by repeat' (first | constructor | apply Sub.suf)) RV.d) rfl (by decide) (by decide) rfl) (TOk.xP 11 [] (by kernel_rfl) (TOk.xP 11 [] (by kernel_rfl) (TOk.xP 19 [18] (by kernel_rfl) TOk.d))) ?_
     refine eaB ?_; intro b71
     refine amonoB (fun a w h => Go.Sx.freeze (i := 0) rfl h) ?_
     refine dfB 12 (by kernel_rfl) ?_
     refine doRB rfl (o_appX (i := 0) Tryz.underlying23 inf83 rfl (by decide) (by decide) rfl rfl (by (try simp only [List.length_append, List.length_cons, List.length_nil]); have hll := linesT_len (T[k].1) (T[k].2) ([]); omega) rfl (by repeat' (first | constructor | apply Sub.suf)) rfl) (TOk.xP 11 [] (by kernel_rfl) (TOk.xP 11 [] (by kernel_rfl) (TOk.xP 19 [18] (by kernel_rfl) TOk.d))) ?_
     refine eaB ?_; rintro ⟨A64, c64⟩
     refine dfB 20 (by kernel_rfl) ?_
     refine doRB rfl (o_appX (i := 0) Tryz.underlying23 inf83 rfl (by decide) (by decide) rfl rfl (by (try simp only [List.length_append, List.length_cons, List.length_nil]); have hll := linesT_len (T[k].1) (T[k].2) ([]); omega) rfl (by repeat' (first | constructor | apply Sub.suf)) rfl) (TOk.xP 11 [] (by kernel_rfl) (TOk.xP 11 [] (by kernel_rfl) (TOk.xP 19 [18] (by kernel_rfl) TOk.d))) ?_
     refine eaB ?_; rintro ⟨A72, c72⟩
     refine tkB 21 rfl (by kernel_rfl) (fun _ _ _ h => h) gnone (TTany _) (p_asg rfl) rfl ?_
     refine dnB (by kernel_rfl) ?_
     refine nblock ?_
     refine nthen ?_
     refine cr ?_
     refine ls (op (p_move rfl) rfl) ?_
     refine ls (op (p_add rfl rfl (by omega)) rfl) ?_
     refine ls (op (p_asg rfl) rfl) ?_
     refine ln ?_
     refine nnext ⟨(k + 1, (A72, c72), (A7, c7)), hk1⟩ (by dsimp only; omega) (fun a w h => by dsimp only; rw [fo_yes (b := false) hk1 hz, fo_no (b := true) hk1 hz, goneT_at hT hk1, ← List.append_assoc]; exact wk (is := [0, 0]) (by repeat (first | exact subσ.nil _ | refine subσ.cons rfl ?_)) rfl (by repeat' (first | constructor | apply Sub.suf)) a w h)
   ·
    refine doRB rfl (o_bsl [pRm T[k].1] Tryz.underlying23 Tryz.sizeOf83 Tryz.zeroValue83 rfl (Enum.t Enum.d) (RV.t ((none, 0), (none, 0)) rfl (by repeat' (first | constructor | apply Sub.suf)) RV.d) rfl (by decide) (by decide) rfl) (TOk.t (isBoxE fun _ => isInS (by repeat' constructor) (k := 0) rfl (z := 1) (by repeat (first | exact Cut.d | apply Cut.t | apply Cut.s))) (TOk.t (isBoxE fun _ => isInS (by repeat' constructor) (k := 1) rfl (z := 1) (by repeat (first | exact Cut.d | apply Cut.t | apply Cut.s))) (TOk.xP 19 [18] (by kernel_rfl) TOk.d))) ?_
    refine eaB ?_; intro b71
    refine amonoB (fun a w h => Go.Sx.freeze (i := 0) rfl h) ?_
    refine dfB 11 (by kernel_rfl) ?_
    refine doRB rfl (o_call (is := []) Tryz.call22 (c_rLines T[k].1 T[k].2 [] zyp.1 none zyp.2 0 (by omega) (Nat.zero_le _) hcapk (Nat.le_refl _)) rfl rfl (by repeat' (first | constructor | apply Sub.suf)) rfl) (TOk.xP 11 [] (by kernel_rfl) (TOk.xP 11 [] (by kernel_rfl) (TOk.xP 19 [18] (by kernel_rfl) TOk.d))) ?_
    refine eaB ?_; rintro ⟨A63, c63⟩
    refine amonoB (fun a w h => Go.Sx.freeze (i := 0) rfl h) ?_
    refine dfB 12 (by kernel_rfl) ?_
    refine doRB rfl (o_appX (i := 0) Tryz.underlying23 inf83 rfl (by decide) (by decide) rfl rfl (by (try simp only [List.length_append, List.length_cons, List.length_nil]); have hll := linesT_len (T[k].1) (T[k].2) ([]); omega) rfl (by repeat' (first | constructor | apply Sub.suf)) rfl) (TOk.xP 11 [] (by kernel_rfl) (TOk.xP 11 [] (by kernel_rfl) (TOk.xP 19 [18] (by kernel_rfl) TOk.d))) ?_
    refine eaB ?_; rintro ⟨A64, c64⟩
    refine dfB 20 (by kernel_rfl) ?_
    refine doRB rfl (o_appX (i := 0) Tryz.underlying23 inf83 rfl (by decide) (by decide) rfl rfl (by (try simp only [List.length_append, List.length_cons, List.length_nil]); have hll := linesT_len (T[k].1) (T[k].2) ([]); omega) rfl (by repeat' (first | constructor | apply Sub.suf)) rfl) (TOk.xP 11 [] (by kernel_rfl) (TOk.xP 11 [] (by kernel_rfl) (TOk.xP 19 [18] (by kernel_rfl) TOk.d))) ?_
    refine eaB ?_; rintro ⟨A72, c72⟩
    refine tkB 21 rfl (by kernel_rfl) (fun _ _ _ h => h) gnone (TTany _) (p_asg rfl) rfl ?_
    refine dnB (by kernel_rfl) ?_
    refine nblock ?_
    refine nthen ?_
    refine cr ?_
    refine ls (op (p_move rfl) rfl) ?_
    refine ls (op (p_add rfl rfl (by omega)) rfl) ?_
    refine ls (op (p_asg rfl) rfl) ?_
    refine ln ?_
    refine nnext ⟨(k + 1, (A72, c72), (A7, c7)), hk1⟩ (by dsimp only; omega) (fun a w h => by dsimp only; rw [fo_yes (b := false) hk1 hz, fo_no (b := true) hk1 hz, goneT_at hT hk1, ← List.append_assoc]; exact wk (is := [0, 0]) (by repeat (first | exact subσ.nil _ | refine subσ.cons rfl ?_)) rfl (by repeat' (first | constructor | apply Sub.suf)) a w h)
 ·
  intro h17
  dsimp only at hk
  try simp only [decide_eq_true_eq, decide_eq_false_iff_not, Bool.not_eq_true', Bool.not_eq_false', Int.not_lt, Int.not_le, ge_iff_le, Bool.not_true, Bool.not_false] at h17
  obtain rfl : k = T.length := by omega
  rw [List.take_length]
  refine cexit ?_
  refine xthen ?_
  refine xthen ?_
  refine xblock ?_
  refine nthen ?_
  refine cs ?_
  refine cs ?_
  refine cmono (fun a w h => nilRow (α := Prim) 83 h) ?_
  refine cr ?_
  refine ls (op (p_asg rfl) rfl) ?_
  refine ln ?_
  refine nthen ?_
  refine cb ?_
  refine cl (ι := {q : Nat × (Option Addr × Nat) // q.1 ≤ U.length}) (fun i => St M0 F0 w0 124 [(0, .slice A T.length c), (1, .slice B U.length c'), (5, .slice A5 ((filesT T U false).flatMap (goneT T)).length c5), (6, .slice i.1.2.1 ((filesT (U.take (i.1.1)) T false).flatMap (comeT U)).length i.1.2.2), (7, .slice A7 ((filesT T U true).flatMap (bothT T U)).length c7), (11, .int .i64 ((i.1.1 : Nat) : Int))] [row 83 (i.1.2.1) (i.1.2.2) ((filesT (U.take (i.1.1)) T false).flatMap (comeT U)), row 83 A5 c5 ((filesT T U false).flatMap (goneT T)), row 83 A7 c7 ((filesT T U true).flatMap (bothT T U))] [slA A T, slA B U]) (fun i => U.length - i.1.1) ⟨(0, (none, 0)), Nat.zero_le _⟩ (wk (is := [0, 0, 0]) (by repeat (first | exact subσ.nil _ | refine subσ.cons rfl ?_)) rfl (by repeat' (first | constructor | apply Sub.suf))) ?_
  rintro ⟨⟨k, ⟨A6, c6⟩⟩, hk⟩
  refine cmono (S' := St M0 F0 w0 124 [(0, .slice A T.length c), (1, .slice B U.length c'), (5, .slice A5 ((filesT T U false).flatMap (goneT T)).length c5), (6, .slice A6 ((filesT (U.take (k)) T false).flatMap (comeT U)).length c6), (7, .slice A7 ((filesT T U true).flatMap (bothT T U)).length c7), (11, .int .i64 ((k : Nat) : Int))] [row 83 (A6) (c6) ((filesT (U.take (k)) T false).flatMap (comeT U)), row 83 A5 c5 ((filesT T U false).flatMap (goneT T)), row 83 A7 c7 ((filesT T U true).flatMap (bothT T U))] [slA A T, slA B U]) (fun _ _ h => h) ?_
  refine cs ?_
  refine cs ?_
  refine cr ?_
  refine ls (op (p_move rfl) rfl) ?_
  refine ls (op (p_move rfl) rfl) ?_
  refine ls (op (p_lenl rfl Tryz.underlying60) rfl) ?_
  refine ls (op (p_icmp rfl rfl rfl) rfl) ?_
  refine ln ?_
  refine nthen ?_
  refine cc rfl ?_ ?_
  ·
   intro h76
   dsimp only at hk
   try simp only [decide_eq_true_eq, decide_eq_false_iff_not, Bool.not_eq_true', Bool.not_eq_false', Int.not_lt, Int.not_le, ge_iff_le, Bool.not_true, Bool.not_false] at h76
   have hk1 : k < U.length := by omega
   have hwk := at_short hU h2 hk1
   have hb3 := fm_len (comeT_len U) (filesT (U.take (k)) T false)
   have hf3 := filesT_len (U.take k) T false
   have ht3 := List.length_take_le k U
   refine cskip ?_
   refine nthen ?_
   refine cs ?_
   refine cb ?_
   refine cs ?_
   refine cs ?_
   refine elC (A := B) (l := U) (by repeat' constructor) k (List.getElem?_eq_getElem hk1) ?_; rintro zbp zop zyp hAp
   refine cpure (St.cap (m := U[k].2.length) (c := zyp.2) (by repeat' constructor)) ?_
   intro hcapk
   refine cr ?_
   refine ls (op (p_move rfl) rfl) ?_
   refine ls (op (p_move rfl) rfl) ?_
   refine ls (op (p_ia k hAp hk1 rfl Tryz.underlying60 Tryz.sizeOf132 rfl rfl) rfl) ?_
   refine ls (op (p_fa fa132_1 rfl) rfl) ?_
   refine ls (o_ldi Tryz.isAgg37 rfl (by repeat' constructor) 1 rfl (by repeat (first | exact Cut.d | apply Cut.t | apply Cut.s)) rfl) ?_
   refine ls (op (p_lenl rfl Tryz.underlying37) rfl) ?_
   refine ls (op (p_icmp rfl rfl rfl) rfl) ?_
   refine fixL (congrArg Value.bool (decide_eq_false (by omega))) ?_
   refine ln ?_
   refine nthen ?_
   refine cc rfl (fun h => by cases h) (fun h => ?_)
   refine cskip ?_
   refine nthen ?_
   refine cs ?_
   refine cr ?_
   refine ls (op (p_move rfl) rfl) ?_
   refine ls (op (p_move rfl) rfl) ?_
   refine ls (op (p_move rfl) rfl) ?_
   refine ls (op (p_ia k hAp hk1 rfl Tryz.underlying60 Tryz.sizeOf132 rfl rfl) rfl) ?_
   refine ls (op (p_fa fa132_0 rfl) rfl) ?_
   refine ls (o_ldi Tryz.isAgg9 rfl (by repeat' constructor) 0 rfl (by repeat (first | exact Cut.d | apply Cut.t | apply Cut.s)) rfl) ?_
   refine ls (o_call (is := []) Tryz.call80 (c_rGet T A c hn U[k].1) rfl rfl (by repeat' (first | constructor | apply Sub.suf)) rfl) ?_
   refine le ?_; rintro ⟨A93, c93⟩
   refine ls (op (p_move rfl) rfl) ?_
   refine ls (op (p_ext rfl (by repeat' constructor)) rfl) ?_
   refine ls (op (p_ext rfl (by repeat' constructor)) rfl) ?_
   refine ls (op (p_asg rfl) rfl) ?_
   refine ls (op (p_asg rfl) rfl) ?_
   refine ln ?_
   refine nthen ?_
   refine cs ?_
   refine cr ?_
   refine ls (op (p_move rfl) rfl) ?_
   refine ls (op (p_not rfl) rfl) ?_
   refine ln ?_
   refine nthen ?_
   refine cc rfl ?_ ?_
   ·
    intro h97
    have hz : hasT T U[k].1 = false := by have h := h97; simpa using h
    refine cmono (fun a w h => nilSl (α := ByteArray) h) ?_
    refine cdB [7, 8, 19, 20] [(5, zbp, zop + k * Rp.size File, _), (13, zbp, zop + k * Rp.size File, _), (18, zbp, zop + k * Rp.size File + 1, _)] TryzX.mixed (by kernel_rfl) (by kernel_rfl) (TOk.t (isInS (by repeat' constructor) (k := 0) rfl (z := 1) (by repeat (first | exact Cut.d | apply Cut.t | apply Cut.s))) (TOk.t (isInS (by repeat' constructor) (k := 0) rfl (z := 1) (by repeat (first | exact Cut.d | apply Cut.t | apply Cut.s))) (TOk.t (isInS (by repeat' constructor) (k := 1) rfl (z := 1) (by repeat (first | exact Cut.d | apply Cut.t | apply Cut.s))) TOk.d))) ?_
    refine tkB 0 rfl (by kernel_rfl) (fun _ _ _ h => h) gnone (TTany _) (p_move rfl) rfl ?_
    refine tkB 1 rfl (by kernel_rfl) (fun _ _ _ h => h) gnone (TTany _) (p_move rfl) rfl ?_
    refine tkB 2 rfl (by kernel_rfl) (fun _ _ _ h => h) gnone (TTany _) (p_move rfl) rfl ?_
    refine tkB 3 rfl (by kernel_rfl) (fun _ _ _ h => h) gnone (TTany _) (p_ia k hAp hk1 rfl Tryz.underlying60 Tryz.sizeOf132 rfl rfl) rfl ?_
    refine tkB 4 rfl (by kernel_rfl) (fun _ _ _ h => h) gnone (TTany _) (p_fa fa132_0 rfl) rfl ?_
    refine tkB 5 rfl (by kernel_rfl) (fun _ _ _ h => h) gnone (TTat (List.Mem.head _)) (p_ld Tryz.isAgg9 rfl) rfl ?_
    refine tkB 6 rfl (by kernel_rfl) (fun _ _ _ h => h) gnone (TTany _) (p_bld sb83 rfl (Fill.t (by repeat' constructor) rfl rfl (by repeat' constructor) (Fill.t (by repeat' constructor) rfl rfl (by repeat' constructor) Fill.d))) rfl ?_
    refine tkB 9 rfl (by kernel_rfl) (fun _ _ _ h => h) gnone (TTany _) (p_move rfl) rfl ?_
    refine tkB 10 rfl (by kernel_rfl) (fun _ _ _ h => h) gnone (TTany _) (p_move rfl) rfl ?_
    refine tkB 11 rfl (by kernel_rfl) (fun _ _ _ h => h) gnone (TTany _) (p_ia k hAp hk1 rfl Tryz.underlying60 Tryz.sizeOf132 rfl rfl) rfl ?_
    refine tkB 12 rfl (by kernel_rfl) (fun _ _ _ h => h) gnone (TTany _) (p_fa fa132_0 rfl) rfl ?_
    refine tkB 13 rfl (by kernel_rfl) (fun _ _ _ h => h) gnone (TTat (List.Mem.tail _ (List.Mem.head _))) (p_ld Tryz.isAgg9 rfl) rfl ?_
    refine tkB 14 rfl (by kernel_rfl) (fun _ _ _ h => h) gnone (TTany _) (p_move rfl) rfl ?_
    refine tkB 15 rfl (by kernel_rfl) (fun _ _ _ h => h) gnone (TTany _) (p_move rfl) rfl ?_
    refine tkB 16 rfl (by kernel_rfl) (fun _ _ _ h => h) gnone (TTany _) (p_ia k hAp hk1 rfl Tryz.underlying60 Tryz.sizeOf132 rfl rfl) rfl ?_
    refine tkB 17 rfl (by kernel_rfl) (fun _ _ _ h => h) gnone (TTany _) (p_fa fa132_1 rfl) rfl ?_
    refine tkB 18 rfl (by kernel_rfl) (fun _ _ _ h => h) gnone (TTat (List.Mem.tail _ (List.Mem.tail _ (List.Mem.head _)))) (p_ld Tryz.isAgg37 rfl) rfl ?_
    refine dfB 7 (by kernel_rfl) ?_
    refine doRB rfl (o_bsl [pAd U[k].1] Tryz.underlying23 Tryz.sizeOf83 Tryz.zeroValue83 rfl (Enum.t Enum.d) (RV.t ((none, 0), (none, 0)) rfl (by repeat' (first | constructor | apply Sub.suf)) RV.d) rfl (by decide) (by decide) rfl) (TOk.xP 7 [6] (by kernel_rfl) (TOk.t (isBoxE fun _ => isInS (by repeat' constructor) (k := 0) rfl (z := 1) (by repeat (first | exact Cut.d | apply Cut.t | apply Cut.s))) (TOk.t (isBoxE fun _ => isInS (by repeat' constructor) (k := 1) rfl (z := 1) (by repeat (first | exact Cut.d | apply Cut.t | apply Cut.s))) TOk.d))) ?_
    refine eaB ?_; intro b105
    refine amonoB (fun a w h => Go.Sx.freeze (i := 0) rfl h) ?_
    refine dfB 8 (by kernel_rfl) ?_
    refine doRB rfl (o_appX (i := 0) Tryz.underlying23 inf83 rfl (by decide) (by decide) rfl rfl (by (try simp only [List.length_append, List.length_cons, List.length_nil]); omega) rfl (by repeat' (first | constructor | apply Sub.suf)) rfl) (TOk.xP 7 [6] (by kernel_rfl) (TOk.t (isBoxE fun _ => isInS (by repeat' constructor) (k := 0) rfl (z := 1) (by repeat (first | exact Cut.d | apply Cut.t | apply Cut.s))) (TOk.t (isBoxE fun _ => isInS (by repeat' constructor) (k := 1) rfl (z := 1) (by repeat (first | exact Cut.d | apply Cut.t | apply Cut.s))) TOk.d))) ?_
    refine eaB ?_; rintro ⟨A106, c106⟩
    refine dfB 19 (by kernel_rfl) ?_
    refine doRB rfl (o_call (is := []) Tryz.call22 (c_rLines U[k].1 [] U[k].2 none zyp.1 0 zyp.2 (Nat.zero_le _) (by omega) (Nat.le_refl _) hcapk) rfl rfl (by repeat' (first | constructor | apply Sub.suf)) rfl) (TOk.xP 7 [6] (by kernel_rfl) (TOk.xP 19 [] (by kernel_rfl) (TOk.xP 19 [] (by kernel_rfl) TOk.d))) ?_
    refine eaB ?_; rintro ⟨A117, c117⟩
    refine amonoB (fun a w h => Go.Sx.freeze (i := 0) rfl h) ?_
    refine dfB 20 (by kernel_rfl) ?_
    refine doRB rfl (o_appX (i := 0) Tryz.underlying23 inf83 rfl (by decide) (by decide) rfl rfl (by (try simp only [List.length_append, List.length_cons, List.length_nil]); have hll := linesT_len (U[k].1) ([]) (U[k].2); omega) rfl (by repeat' (first | constructor | apply Sub.suf)) rfl) (TOk.xP 7 [6] (by kernel_rfl) (TOk.xP 19 [] (by kernel_rfl) (TOk.xP 19 [] (by kernel_rfl) TOk.d))) ?_
    refine eaB ?_; rintro ⟨A118, c118⟩
    refine tkB 21 rfl (by kernel_rfl) (fun _ _ _ h => h) gnone (TTany _) (p_asg rfl) rfl ?_
    refine dnB (by kernel_rfl) ?_
    refine nblock ?_
    refine nthen ?_
    refine cr ?_
    refine ls (op (p_move rfl) rfl) ?_
    refine ls (op (p_add rfl rfl (by omega)) rfl) ?_
    refine ls (op (p_asg rfl) rfl) ?_
    refine ln ?_
    refine nnext ⟨(k + 1, (A118, c118)), hk1⟩ (by dsimp only; omega) (fun a w h => by dsimp only; rw [fo_yes (b := false) hk1 hz, comeT_at hU hk1, ← List.append_assoc]; exact wk (is := [0, 0, 0]) (by repeat (first | exact subσ.nil _ | refine subσ.cons rfl ?_)) rfl (by repeat' (first | constructor | apply Sub.suf)) a w h)
   ·
    intro h97
    have hz : hasT T U[k].1 = true := by have h := h97; simpa using h
    refine cskip ?_
    refine nblock ?_
    refine nthen ?_
    refine cr ?_
    refine ls (op (p_move rfl) rfl) ?_
    refine ls (op (p_add rfl rfl (by omega)) rfl) ?_
    refine ls (op (p_asg rfl) rfl) ?_
    refine ln ?_
    refine nnext ⟨(k + 1, (A6, c6)), hk1⟩ (by dsimp only; omega) (fun a w h => by dsimp only; rw [fo_no (b := false) hk1 hz]; exact wk (is := [0, 0, 0]) (by repeat (first | exact subσ.nil _ | refine subσ.cons rfl ?_)) rfl (by repeat' (first | constructor | apply Sub.suf)) a w h)
  ·
   intro h76
   dsimp only at hk
   try simp only [decide_eq_true_eq, decide_eq_false_iff_not, Bool.not_eq_true', Bool.not_eq_false', Int.not_lt, Int.not_le, ge_iff_le, Bool.not_true, Bool.not_false] at h76
   obtain rfl : k = U.length := by omega
   rw [List.take_length]
   refine cexit ?_
   refine xthen ?_
   refine xthen ?_
   refine xblock ?_
   refine nthen ?_
   refine cs ?_
   refine cmono (fun a w h => Go.Sx.freeze (i := 0) rfl h) ?_
   refine cr ?_
   refine ls (op (p_move rfl) rfl) ?_
   refine ls (op (p_move rfl) rfl) ?_
   refine ls (o_appX (i := 0) Tryz.underlying23 inf83 rfl (by decide) (by decide) rfl rfl (by (try simp only [List.length_append, List.length_cons, List.length_nil]); omega) rfl (by repeat' (first | constructor | apply Sub.suf)) rfl) ?_
   refine le ?_; rintro ⟨A121, c121⟩
   refine lmono (fun a w h => Go.Sx.freeze (i := 1) rfl h) ?_
   refine ls (op (p_move rfl) rfl) ?_
   refine ls (o_appX (i := 0) Tryz.underlying23 inf83 rfl (by decide) (by decide) rfl rfl (by (try simp only [List.length_append, List.length_cons, List.length_nil]); omega) rfl (by repeat' (first | constructor | apply Sub.suf)) rfl) ?_
   refine le ?_; rintro ⟨A123, c123⟩
   refine lmono (fun a w h => rowEq (α := Prim) (by repeat' constructor) (trees_short hT hU h1 h2) (by repeat' constructor) h) ?_
   refine ls (op (p_asg rfl) rfl) ?_
   refine ln ?_
   refine nthen ?_
   refine cret ?_
   refine xret (fun _ _ h => h) ?_
   refine rret (is := [0]) (A123, c123) (Or.inl rfl) (Res.t rfl Res.d) ?_ rfl (by repeat' (first | constructor | apply Sub.suf))
   rw [← trees_short hT hU h1 h2]; rfl

set_option maxRecDepth 100000 in
theorem c_DiffTrees (l : List TOp) (A : Option Addr) (c : Nat) (hll : l.length ≤ 1048576) (hMl : omany l ≤ 1048576) (m : List TOp) (B : Option Addr) (c' : Nat) (hlm : m.length ≤ 1048576) (hMm : omany m ≤ 1048576) : Con Tryz.prog 5 [.slice A l.length c, .slice B m.length c'] [] [slA A l, slA B m] Unit (fun _ => .bool (true)) (fun _ => []) (fun _ => []) := by
 have hMol : ∀ o ∈ l, o.many ≤ 2000000 := fun o ho => by have := omany_mem ho; omega
 have htokl : Tok l.length 2000000 (madeT l) := madeT_tok hMol
 have hlenl := htokl.len
 have hfitl : Tfit (madeT l) := fun x hx => (htokl.fit x hx).1
 have hsol := madeT_sor l
 have hMom : ∀ o ∈ m, o.many ≤ 2000000 := fun o ho => by have := omany_mem ho; omega
 have htokm : Tok m.length 2000000 (madeT m) := madeT_tok hMom
 have hlenm := htokm.len
 have hfitm : Tfit (madeT m) := fun x hx => (htokm.fit x hx).1
 have hsom := madeT_sor m
 refine con Tryz.func5 rfl Tryz.ntmps5 rfl ?_
 intro M0 F0 w0
 refine cs ?_
 refine cr ?_
 refine ls (op (p_asg rfl) rfl) ?_
 refine ln ?_
 refine nthen ?_
 refine cs ?_
 refine cs ?_
 refine cr ?_
 refine ls (op (p_move rfl) rfl) ?_
 refine ls (o_call (is := []) Tryz.call31 (c_Few02 l A c (by omega) (by omega)) rfl rfl (by repeat' (first | constructor | apply Sub.suf)) rfl) ?_
 refine le ?_; intro x11
 refine ls (op (p_icmp rfl rfl rfl) rfl) ?_
 refine ls (op (p_move rfl) rfl) ?_
 refine orX 4 13 17 rfl (subσ.cons (t := 0) rfl (subσ.cons (t := 1) rfl (subσ.cons (t := 4) rfl (subσ.nil _)))) ?_ ?_
 ·
  intro h13
  refine lskip rfl rfl rfl rfl rfl ?_
  refine lskip rfl rfl rfl rfl rfl ?_
  refine lskip rfl rfl rfl rfl rfl ?_
  refine ls (op (p_pickt rfl rfl) rfl) ?_
  refine ln (nmid (wk0 (by repeat (first | exact subσ.nil _ | refine subσ.cons rfl ?_)) (by repeat' (first | constructor | apply Sub.suf))))
 apply exI
 ·
  intro h13
  refine lwant rfl rfl rfl rfl (op (p_move rfl) rfl) ?_
  refine lwant rfl rfl rfl rfl (o_call (is := []) Tryz.call31 (c_Few02 m B c' (by omega) (by omega)) rfl rfl (by repeat' (first | constructor | apply Sub.suf)) rfl) ?_
  refine le ?_; intro x15
  refine lwant rfl rfl rfl rfl (op (p_icmp rfl rfl rfl) rfl) ?_
  refine ls (op (p_pickf rfl rfl) rfl) ?_
  refine ln (nmid (wk0 (by repeat (first | exact subσ.nil _ | refine subσ.cons rfl ?_)) (by repeat' (first | constructor | apply Sub.suf))))
 ·
  refine ln ?_
  refine nthen ?_
  refine cc rfl ?_ ?_
  ·
   intro h17
   skip
   refine cs ?_
   refine cr ?_
   refine ls (o_call (is := []) Tryz.call18 (c_alive06) rfl rfl (by repeat' (first | constructor | apply Sub.suf)) rfl) ?_
   refine le ?_; intro x18
   refine ls (op (p_asg rfl) rfl) ?_
   refine ln ?_
   refine nthen ?_
   refine cret ?_
   refine xret (fun _ _ h => h) ?_
   refine rret (is := []) () (Or.inl rfl) (Res.t rfl Res.d) (rfl) rfl (by repeat' (first | constructor | apply Sub.suf))
  ·
   intro h17
   obtain ⟨hw1, hw2⟩ : ¬ 0 < fewO l ∧ ¬ 0 < fewO m := by have h := h17; simp at h; omega
   have hfl := few_yes hw1
   have hfm := few_yes hw2
   refine cskip ?_
   refine nthen ?_
   refine cs ?_
   refine cr ?_
   refine ls (op (p_move rfl) rfl) ?_
   refine ls (o_call (is := []) Tryz.call32 (c_Made02 l A c (by omega) hMol) rfl rfl (by repeat' (first | constructor | apply Sub.suf)) rfl) ?_
   refine le ?_; rintro ⟨⟨p, b⟩, ⟨A2, c2⟩⟩
   refine ls (op (p_move rfl) rfl) ?_
   refine ls (op (p_ext rfl (by repeat' constructor)) rfl) ?_
   refine ls (op (p_ext rfl (by repeat' constructor)) rfl) ?_
   refine ls (op (p_asg rfl) rfl) ?_
   refine ls (op (p_asg rfl) rfl) ?_
   refine ln ?_
   refine nthen ?_
   refine cs ?_
   refine cr ?_
   refine ls (op (p_move rfl) rfl) ?_
   refine ls (o_call (is := []) Tryz.call32 (c_Made02 m B c' (by omega) hMom) rfl rfl (by repeat' (first | constructor | apply Sub.suf)) rfl) ?_
   refine le ?_; rintro ⟨⟨p2, b2⟩, ⟨A3, c3⟩⟩
   refine ls (op (p_move rfl) rfl) ?_
   refine ls (op (p_ext rfl (by repeat' constructor)) rfl) ?_
   refine ls (op (p_ext rfl (by repeat' constructor)) rfl) ?_
   refine ls (op (p_asg rfl) rfl) ?_
   refine ls (op (p_asg rfl) rfl) ?_
   refine ln ?_
   refine nthen ?_
   refine cs ?_
   refine cs ?_
   refine cr ?_
   refine ls (op (p_move rfl) rfl) ?_
   refine ls (op (p_ptrnil Tryz.underlying47 rfl rfl) rfl) ?_
   refine ls (op (p_move rfl) rfl) ?_
   refine lwant rfl rfl rfl rfl (op (p_move rfl) rfl) ?_
   refine lwant rfl rfl rfl rfl (op (p_ptrnil Tryz.underlying47 rfl rfl) rfl) ?_
   refine ls (op (p_pickf rfl rfl) rfl) ?_
   refine ln ?_
   refine nthen ?_
   refine cc rfl (fun h => by cases h) (fun h => ?_)
   refine cskip ?_
   refine nthen ?_
   refine cs ?_
   refine cs ?_
   refine cr ?_
   refine ls (op (p_move rfl) rfl) ?_
   refine ls (o_call (is := []) Tryz.call33 (c_rLong (madeT l) A2 c2 (by omega) hfitl) rfl rfl (by repeat' (first | constructor | apply Sub.suf)) rfl) ?_
   refine le ?_; intro x36
   refine ls (op (p_icmp rfl rfl rfl) rfl) ?_
   refine ls (op (p_move rfl) rfl) ?_
   refine orX 4 38 42 rfl (subσ.cons (t := 0) rfl (subσ.cons (t := 1) rfl (subσ.cons (t := 4) rfl (subσ.cons (t := 17) rfl (subσ.cons (t := 20) rfl (subσ.cons (t := 21) rfl (subσ.cons (t := 19) rfl (subσ.cons (t := 22) rfl (subσ.cons (t := 23) rfl (subσ.cons (t := 5) rfl (subσ.cons (t := 6) rfl (subσ.cons (t := 25) rfl (subσ.cons (t := 26) rfl (subσ.cons (t := 24) rfl (subσ.cons (t := 27) rfl (subσ.cons (t := 28) rfl (subσ.cons (t := 7) rfl (subσ.cons (t := 8) rfl (subσ.cons (t := 29) rfl (subσ.cons (t := 30) rfl (subσ.cons (t := 31) rfl (subσ.cons (t := 32) rfl (subσ.cons (t := 33) rfl (subσ.cons (t := 34) rfl (subσ.nil _))))))))))))))))))))))))) ?_ ?_
   ·
    intro h38
    refine lskip rfl rfl rfl rfl rfl ?_
    refine lskip rfl rfl rfl rfl rfl ?_
    refine lskip rfl rfl rfl rfl rfl ?_
    refine ls (op (p_pickt rfl rfl) rfl) ?_
    refine ln (nmid (wk0 (by repeat (first | exact subσ.nil _ | refine subσ.cons rfl ?_)) (by repeat' (first | constructor | apply Sub.suf))))
   apply exI
   ·
    intro h38
    refine lwant rfl rfl rfl rfl (op (p_move rfl) rfl) ?_
    refine lwant rfl rfl rfl rfl (o_call (is := []) Tryz.call33 (c_rLong (madeT m) A3 c3 (by omega) hfitm) rfl rfl (by repeat' (first | constructor | apply Sub.suf)) rfl) ?_
    refine le ?_; intro x40
    refine lwant rfl rfl rfl rfl (op (p_icmp rfl rfl rfl) rfl) ?_
    refine ls (op (p_pickf rfl rfl) rfl) ?_
    refine ln (nmid (wk0 (by repeat (first | exact subσ.nil _ | refine subσ.cons rfl ?_)) (by repeat' (first | constructor | apply Sub.suf))))
   ·
    refine ln ?_
    refine nthen ?_
    refine cc rfl ?_ ?_
    ·
     intro h42
     skip
     refine cs ?_
     refine cr ?_
     refine ls (o_call (is := []) Tryz.call18 (c_alive06) rfl rfl (by repeat' (first | constructor | apply Sub.suf)) rfl) ?_
     refine le ?_; intro x43
     refine ls (op (p_asg rfl) rfl) ?_
     refine ln ?_
     refine nthen ?_
     refine cret ?_
     refine xret (fun _ _ h => h) ?_
     refine rret (is := []) () (Or.inl rfl) (Res.t rfl Res.d) (rfl) rfl (by repeat' (first | constructor | apply Sub.suf))
    ·
     intro h42
     obtain ⟨hw3, hw4⟩ : ¬ 200 < longest (madeT l) ∧ ¬ 200 < longest (madeT m) := by have h := h42; simp at h; omega
     have hbd := trees_bnd (madeT l) (madeT m)
     have hft := trees_fit hsol hsom (szd_tok htokl (Nat.le_refl _)) (szd_tok htokm (Nat.le_refl _)) hw3 hw4
     have hrun := trees_runs hsol hsom (madeT_good l) (madeT_good m) hw3 hw4
     have hinv := AppInv.made l
     have hin1 := AppInv.made m
     have hbk := runs_back hsol (madeT_good l) hrun
     have hii := invL_len (treesT (madeT l) (madeT m))
     have hil := lns_inv (treesT (madeT l) (madeT m))
     have hcs : lns (treesT (madeT l) (madeT m)) ≤ ((madeT l).length + (madeT l).length + (madeT m).length) * 400 := hbd.2
     refine cskip ?_
     refine nthen ?_
     refine cs ?_
     refine cr ?_
     refine ls (op (p_move rfl) rfl) ?_
     refine ls (op (p_move rfl) rfl) ?_
     refine ls (o_call (is := [2, 2, 0, 0]) Tryz.call34 (c_dTrees p b (madeT l) hfitl (by omega) hsol p2 b2 (madeT m) hfitm (by omega) hsom) rfl rfl (by repeat' (first | constructor | apply Sub.suf)) rfl) ?_
     refine le ?_; rintro ⟨A46, c46⟩
     refine lmono (fun a w h => freezeN (i := 0) rfl h) ?_
     refine lpure (St.cap (m := (treesT (madeT l) (madeT m)).length) (c := c46) (by repeat' constructor)) ?_
     intro hcap46
     refine ls (op (p_asg rfl) rfl) ?_
     refine ln ?_
     refine nthen ?_
     refine cs ?_
     refine cs ?_
     refine cr ?_
     refine ls (op (p_move rfl) rfl) ?_
     refine ls (o_call (is := []) Tryz.call21 (c_lOld (treesT (madeT l) (madeT m)) A46 c46 (by omega)) rfl rfl (by repeat' (first | constructor | apply Sub.suf)) rfl) ?_
     refine le ?_; rintro ⟨A48, c48⟩
     refine ls (op (p_move rfl) rfl) ?_
     refine ls (op (p_move rfl) rfl) ?_
     refine ls (o_call (is := []) Tryz.call35 (c_rTrees (madeT l) (madeT m) A2 A3 c2 c3 hsol hsom hw3 hw4 (by omega) (by omega)) rfl rfl (by repeat' (first | constructor | apply Sub.suf)) rfl) ?_
     refine le ?_; rintro ⟨A51, c51⟩
     refine lmono (fun a w h => Go.Sx.freeze (i := 0) rfl h) ?_
     refine ls (o_call (is := []) Tryz.call20 (c_refAllP (treesT (madeT l) (madeT m)) (treesT (madeT l) (madeT m)) A48 A51 c48 c51 (by omega) hft) rfl rfl (by repeat' (first | constructor | apply Sub.suf)) rfl) ?_
     refine le ?_; intro x52
     refine fixL (congrArg Value.bool (decide_eq_true rfl)) ?_
     refine ls (op (p_not rfl) rfl) ?_
     refine ls (op (p_move rfl) rfl) ?_
     refine lwant rfl rfl rfl rfl (op (p_move rfl) rfl) ?_
     refine lwant rfl rfl rfl rfl (op (p_move rfl) rfl) ?_
     refine lwant rfl rfl rfl rfl (o_call (is := [0, 0]) Tryz.call36 (c_tCopy p b (madeT l)) rfl rfl (by repeat' (first | constructor | apply Sub.suf)) rfl) ?_
     refine le ?_; rintro ⟨p4, b4⟩
     refine lwant rfl rfl rfl rfl (o_call (is := [2, 2, 0, 0]) Tryz.call34 (c_dTrees p b (madeT l) hfitl (by omega) hsol p4 b4 (madeT l) hfitl (by omega) hsol) rfl rfl (by repeat' (first | constructor | apply Sub.suf)) rfl) ?_
     refine le ?_; rintro ⟨A58, c58⟩
     refine fixL (slen (m' := ([] : List Prim).length) (congrArg List.length (trees_same hsol))) ?_
     refine lwant rfl rfl rfl rfl (op (p_lenl rfl Tryz.underlying29) rfl) ?_
     refine lwant rfl rfl rfl rfl (op (p_icmp rfl rfl rfl) rfl) ?_
     refine ls (op (p_pickf rfl rfl) rfl) ?_
     refine ln ?_
     refine nthen ?_
     refine cc rfl (fun h => by cases h) (fun h => ?_)
     refine cskip ?_
     refine nthen ?_
     refine cs ?_
     refine cs ?_
     refine cr ?_
     refine ls (op (p_move rfl) rfl) ?_
     refine ls (op (p_move rfl) rfl) ?_
     refine ls (o_call (is := [1, 1]) Tryz.call27 (c_seqApply p b (madeT l) (omany l) (l.length) hinv (treesT (madeT l) (madeT m)) A46 c46 hcap46 (by omega) hft (by omega) (by omega)) rfl rfl (by repeat' (first | constructor | apply Sub.suf)) rfl) ?_
     refine le ?_; rintro ⟨⟨T3, e3⟩, hq3⟩
     try dsimp only at hq3
     obtain ⟨rfl, rfl⟩ := Prod.mk.inj (hq3.trans (rowT_ok hrun))
     refine ls (op (p_icmp rfl rfl rfl) rfl) ?_
     refine ls (op (p_move rfl) rfl) ?_
     refine lwant rfl rfl rfl rfl (op (p_move rfl) rfl) ?_
     refine lwant rfl rfl rfl rfl (op (p_move rfl) rfl) ?_
     refine lwant rfl rfl rfl rfl (o_call (is := [0, 0, 3, 3]) Tryz.call37 (c_tSame p b p2 b2 (madeT m) (madeT m) hfitm) rfl rfl (by repeat' (first | constructor | apply Sub.suf)) rfl) ?_
     refine le ?_; intro x69
     refine fixL (congrArg Value.bool (decide_eq_true rfl)) ?_
     refine lwant rfl rfl rfl rfl (op (p_not rfl) rfl) ?_
     refine ls (op (p_pickf rfl rfl) rfl) ?_
     refine ls (op (p_move rfl) rfl) ?_
     refine lwant rfl rfl rfl rfl (op (p_move rfl) rfl) ?_
     refine lwant rfl rfl rfl rfl (op (p_move rfl) rfl) ?_
     refine lwant rfl rfl rfl rfl (o_call (is := []) Tryz.call30 (c_seqInvertC (treesT (madeT l) (madeT m)) A46 c46 (by omega) hft) rfl rfl (by repeat' (first | constructor | apply Sub.suf)) rfl) ?_
     refine le ?_; rintro ⟨A75, c75⟩
     refine lpure (St.cap (m := (invL (treesT (madeT l) (madeT m))).length) (c := c75) (by repeat' constructor)) ?_
     intro hcap75
     refine lwant rfl rfl rfl rfl (o_call (is := [0, 0]) Tryz.call27 (c_seqApply p b (madeT m) (omany m) (m.length) hin1 (invL (treesT (madeT l) (madeT m))) A75 c75 hcap75 (by omega) (invL_fit hft) (by omega) (by omega)) rfl rfl (by repeat' (first | constructor | apply Sub.suf)) rfl) ?_
     refine le ?_; rintro ⟨⟨T4, e4⟩, hq4⟩
     try dsimp only at hq4
     obtain ⟨rfl, rfl⟩ := Prod.mk.inj (hq4.trans (rowT_ok hbk))
     refine lwant rfl rfl rfl rfl (op (p_icmp rfl rfl rfl) rfl) ?_
     refine ls (op (p_pickf rfl rfl) rfl) ?_
     refine ln ?_
     refine nthen ?_
     refine cc rfl (fun h => by cases h) (fun h => ?_)
     refine cskip ?_
     refine nthen ?_
     refine cs ?_
     refine cr ?_
     refine ls (o_call (is := []) Tryz.call18 (c_alive06) rfl rfl (by repeat' (first | constructor | apply Sub.suf)) rfl) ?_
     refine le ?_; intro x79
     refine ls (op (p_move rfl) rfl) ?_
     refine lwant rfl rfl rfl rfl (op (p_move rfl) rfl) ?_
     refine lwant rfl rfl rfl rfl (o_call (is := [0, 0]) Tryz.call39 (c_Old02 p b (madeT l) (by omega) hfitl) rfl rfl (by repeat' (first | constructor | apply Sub.suf)) rfl) ?_
     refine le ?_; rintro ⟨A82, c82⟩
     refine lwant rfl rfl rfl rfl (op (p_move rfl) rfl) ?_
     refine lwant rfl rfl rfl rfl (o_call (is := []) Tryz.call38 (c_rSame02 (madeT l) (madeT l) A82 A2 c82 c2 (by omega) hfitl) rfl rfl (by repeat' (first | constructor | apply Sub.suf)) rfl) ?_
     refine le ?_; intro x84
     refine fixL (congrArg Value.bool (decide_eq_true rfl)) ?_
     refine ls (op (p_pickt rfl rfl) rfl) ?_
     refine ls (op (p_asg rfl) rfl) ?_
     refine ln ?_
     refine nthen ?_
     refine cret ?_
     refine xret (fun _ _ h => h) ?_
     refine rret (is := []) () (Or.inl rfl) (Res.t rfl Res.d) (rfl) rfl (by repeat' (first | constructor | apply Sub.suf))

end Go.Proofs.YtdbiillompeclaaGreatDoor.X

end
