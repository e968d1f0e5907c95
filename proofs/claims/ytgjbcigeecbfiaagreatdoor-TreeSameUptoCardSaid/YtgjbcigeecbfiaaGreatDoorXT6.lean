/- OWN WORK: a part of the proof of a law of the seat YtgjbcigeecbfiaaGreatDoor: what the functions compute. -/
import Derived.Test.YtgjbcigeecbfiaaGreatDoorXA2
import Derived.Test.YtgjbcigeecbfiaaGreatDoorXMp
import Derived.Lib.LaidTab
import Derived.Lib.ItoaNum
import Derived.Lib.BufferRead
import Derived.Laws.IdiomStrings
import Derived.Test.YtgjbcigeecbfiaaGreatDoorProg
import Derived.Test.YtgjbcigeecbfiaaGreatDoorXT3
section
set_option linter.unusedVariables false
set_option linter.unusedSimpArgs false
namespace Go.Sx
open Go Go.RowKit Go.Sort
def tabA (P : Program) : Asn where
  p M w := ∃ g, P.globalNamed "internal/strconv.uint64pow10" = some g ∧ g < w.heap.size ∧ ¬ M g ∧ Lib.TabIs P w "internal/strconv.uint64pow10" .u64 Lib.pow10Tab
  st := by
    rintro M M' w w' ⟨g, h1, h2, h3, h4⟩ hb hm hs
    refine ⟨g, h1, Nat.lt_of_lt_of_le h2 hs, fun h => h3 (hm g h2 h), ?_⟩
    unfold Lib.TabIs World.var? at h4 ⊢
    rw [h1] at h4 ⊢
    simp only [Option.bind_some] at h4 ⊢
    rw [hb g h2 h3]; exact h4
theorem tabIs_of_mem {P : Program} {W : World} {name : String} {k : IntKind} {zs : List Int} {g : Nat} {t e : TypeId} {n : Nat}
    (hg : P.globalNamed name = some g) (hty : (P.globals[g]?).map (·.type) = some t) (ht : P.underlying t = some (.array n e)) (he : P.underlying e = some (.int k)) (hce : P.cellsOf e = 1) (hct : P.cellsOf t = n) :
    ∀ {l : List (String × DataW Unit)} {ps : List MemPlace}, DataW.LaidVars P W l ps → (name, Lib.tabData k zs) ∈ l → Lib.TabIs P W name k zs
  | [], _, _, h => by cases h
  | (n0, d0) :: r, ps, hv, h => by
    obtain ⟨g', t', cs, fuel, p, q, hg', ht', hvar, hd, hr, _⟩ := hv
    rcases List.mem_cons.1 h with e0 | h
    · obtain ⟨rfl, rfl⟩ := Prod.mk.inj e0
      obtain rfl := Option.some.inj (hg.symm.trans hg')
      obtain rfl := Option.some.inj (hty.symm.trans ht')
      unfold Lib.TabIs
      rw [hvar, ← Lib.cells_of_tab ht he hce hct hd]
    · exact tabIs_of_mem hg hty ht he hce hct hr h
theorem tabA_of {P : Program} {w : World} {g : Nat} (hg : P.globalNamed "internal/strconv.uint64pow10" = some g) (ht : Lib.TabIs P w "internal/strconv.uint64pow10" .u64 Lib.pow10Tab) : (tabA P).p (fun _ => False) w := by
  refine ⟨g, hg, ?_, fun h => h, ht⟩
  unfold Lib.TabIs World.var? at ht
  rw [hg] at ht
  simp only [Option.bind_some] at ht
  by_cases h : g < w.heap.size
  · exact h
  · rw [Array.getElem?_eq_none (by omega)] at ht
    cases ht
theorem con_itoa {P : Program} {f : FuncId} (i : Nat) (hi : i ≤ 9223372036854775807)
    (h : ∀ (n : Int), -9223372036854775808 ≤ n → n ≤ 9223372036854775807 → ∀ w, Lib.TabIs P w "internal/strconv.uint64pow10" .u64 Lib.pow10Tab → Calls P f #[.int .i64 n] w fun e w' => e = .returned (.string ⟨(Lib.itoa n).toArray⟩) ∧ ∃ k os, w' = grow (w.drewN k) os) :
    Con P f [.int .i64 (i : Int)] [] [tabA P] Unit (fun _ => .string (toB (Lib.decDigits i))) (fun _ => []) (fun _ => []) := by
  refine con_below fun M0 w hga => ?_
  obtain ⟨g, _, _, _, ht⟩ := hga _ (List.mem_singleton_self _)
  refine (h (i : Int) (by omega) (by omega) w ht).mono ?_
  rintro e w' ⟨rfl, k, os, rfl⟩
  refine ⟨?_, ⟨rfl, rfl, rfl, by simp, fun b hb => ?_⟩⟩
  · unfold Lib.itoa; rw [if_neg (by omega)]; rfl
  · rw [heap_grow_old _ _ (by simpa using hb)]; rfl
end Go.Sx

end
section
set_option linter.unusedVariables false
set_option linter.unusedSimpArgs false
namespace Go.Sx
open Go Go.RowKit
/-! A tree's text tells it from all others. -/
theorem sepU {x : UInt8} : ∀ {a b r s : List UInt8}, x ∉ a → x ∉ b → a ++ x :: r = b ++ x :: s → a = b ∧ r = s
  | [], [], r, s, _, _, h => ⟨rfl, (List.cons.inj h).2⟩
  | [], y :: b, r, s, _, hb, h => absurd (by rw [(List.cons.inj h).1]; simp) hb
  | y :: a, [], r, s, ha, _, h => absurd (by rw [← (List.cons.inj h).1]; simp) ha
  | y :: a, z :: b, r, s, ha, hb, h => by
    obtain ⟨h1, h2⟩ := List.cons.inj h
    obtain ⟨h3, h4⟩ := sepU (fun h => ha (List.mem_cons_of_mem _ h)) (fun h => hb (List.mem_cons_of_mem _ h)) h2
    exact ⟨by rw [h1, h3], h4⟩
def decV (l : List UInt8) : Nat := l.foldl (fun n b => n * 10 + (b.toNat - 48)) 0
theorem decV_dec (u : Nat) : decV (Lib.decDigits u) = u := by
  induction u using Nat.strongRecOn with
  | _ u ih =>
    by_cases h : u < 10
    · rw [Lib.decDigits, dif_pos h]
      have : (UInt8.ofNat (48 + u)).toNat = 48 + u := by rw [UInt8.toNat_ofNat']; omega
      unfold decV
      rw [List.foldl_cons, List.foldl_nil, this]; omega
    · rw [Lib.decDigits, dif_neg h]
      have : (UInt8.ofNat (48 + u % 10)).toNat = 48 + u % 10 := by rw [UInt8.toNat_ofNat']; omega
      have ih := ih (u / 10) (by omega)
      unfold decV at ih ⊢
      rw [List.foldl_append, ih, List.foldl_cons, List.foldl_nil, this]; omega
theorem dec_no (u : Nat) : (10 : UInt8) ∉ Lib.decDigits u := by
  induction u using Nat.strongRecOn with
  | _ u ih =>
    have key : ∀ v, v < 10 → (10 : UInt8) ≠ UInt8.ofNat (48 + v) := fun v hv e => by
      have := congrArg UInt8.toNat e
      rw [UInt8.toNat_ofNat'] at this
      have h10 : (10 : UInt8).toNat = 10 := rfl
      omega
    by_cases h : u < 10
    · rw [Lib.decDigits, dif_pos h, List.mem_singleton]; exact key u h
    · rw [Lib.decDigits, dif_neg h, List.mem_append, List.mem_singleton]
      rintro (h1 | h1)
      · exact ih _ (by omega) h1
      · exact key _ (by omega) h1
theorem name_no {k : ByteArray} (h : nameOk k = true) : (32 : UInt8) ∉ ofB k := fun hm => by
  unfold nameOk at h
  simp only [Bool.and_eq_true, List.all_eq_true] at h
  have := h.2 _ hm
  revert this; decide
theorem line_no {s : ByteArray} (h : lineOk s = true) : (10 : UInt8) ∉ ofB s := fun hm => by
  unfold lineOk at h
  simp only [Bool.and_eq_true, Bool.not_eq_true', ← Bool.not_eq_true] at h
  exact h.2 (by simpa using hm)
theorem lineT_inj : ∀ {l m : List ByteArray} {r s : List UInt8}, l.length = m.length → l.all lineOk = true → m.all lineOk = true → lineT l ++ r = lineT m ++ s → l = m ∧ r = s
  | [], [], r, s, _, _, _, h => ⟨rfl, h⟩
  | x :: l, y :: m, r, s, hl, h1, h2, h => by
    simp only [List.all_cons, Bool.and_eq_true] at h1 h2
    have e : ∀ (z : ByteArray) (n : List ByteArray) (t : List UInt8), lineT (z :: n) ++ t = ofB z ++ 10 :: (lineT n ++ t) := fun z n t => by simp [lineT]
    rw [e, e] at h
    obtain ⟨h3, h4⟩ := sepU (line_no h1.1) (line_no h2.1) h
    obtain ⟨h5, h6⟩ := lineT_inj (by simpa using hl) h1.2 h2.2 h4
    exact ⟨by rw [ofB_inj h3, h5], h6⟩
theorem textT_inj : ∀ {T U : List File}, Good T → Good U → textT T = textT U → T = U
  | [], [], _, _, _ => rfl
  | [], y :: U, _, _, h => by
    have := congrArg List.length h
    simp only [textT, fileT, List.flatMap_cons, List.length_append, List.flatMap_nil, List.length_nil, List.length_singleton] at this
    omega
  | x :: T, [], _, _, h => by
    have := congrArg List.length h
    simp only [textT, fileT, List.flatMap_cons, List.length_append, List.flatMap_nil, List.length_nil, List.length_singleton] at this
    omega
  | x :: T, y :: U, hT, hU, h => by
    have e : ∀ (z : File) (V : List File), textT (z :: V) = ofB z.1 ++ 32 :: (Lib.decDigits z.2.length ++ 10 :: (lineT z.2 ++ textT V)) := fun z V => by simp [textT, fileT]
    rw [e, e] at h
    obtain ⟨x1, x2⟩ := hT x (by simp)
    obtain ⟨y1, y2⟩ := hU y (by simp)
    obtain ⟨h1, h2⟩ := sepU (name_no x1) (name_no y1) h
    obtain ⟨h3, h4⟩ := sepU (dec_no _) (dec_no _) h2
    have h5 : x.2.length = y.2.length := by have := congrArg decV h3; rwa [decV_dec, decV_dec] at this
    obtain ⟨h6, h7⟩ := lineT_inj h5 x2 y2 h4
    have h8 := textT_inj (fun z hz => hT z (List.mem_cons_of_mem _ hz)) (fun z hz => hU z (List.mem_cons_of_mem _ hz)) h7
    rw [h8]
    congr 1
    exact Prod.ext (ofB_inj h1) h6
theorem dec_le (u : Nat) : (Lib.decDigits u).length ≤ u + 1 := by
  induction u using Nat.strongRecOn with
  | _ u ih =>
    by_cases h : u < 10
    · rw [Lib.decDigits, dif_pos h]; simp
    · rw [Lib.decDigits, dif_neg h, List.length_append, List.length_singleton]
      have := ih (u / 10) (by omega)
      omega
theorem lineT_len (l : List ByteArray) : (lineT l).length = sizes l + l.length := by
  unfold lineT sizes
  induction l with
  | nil => rfl
  | cons x l ih =>
    simp only [List.flatMap_cons, List.length_append, List.map_cons, List.sum_cons, List.length_cons, List.length_nil, ih, ofB_length]
    omega
theorem textT_le {n m : Nat} {T : List File} (h : Tok n m T) : (textT T).length ≤ n * (4 * m + 3) := by
  have key : ∀ (U : List File), (∀ x ∈ U, x.2.length ≤ m ∧ sizes x.2 ≤ m ∧ x.1.size ≤ m) → (textT U).length ≤ U.length * (4 * m + 3) := by
    intro U
    induction U with
    | nil => intro _; simp [textT]
    | cons x U ih =>
      intro hU
      obtain ⟨h1, h2, h3⟩ := hU x (by simp)
      have ih := ih fun y hy => hU y (List.mem_cons_of_mem _ hy)
      have e : (textT (x :: U)).length = (fileT x).length + (textT U).length := by simp [textT]
      have e2 : (fileT x).length = x.1.size + 1 + (Lib.decDigits x.2.length).length + 1 + (lineT x.2).length := by simp only [fileT, List.length_append, ofB_length, List.length_singleton]
      have e3 := dec_le x.2.length
      have e4 := lineT_len x.2
      rw [List.length_cons, Nat.succ_mul]
      omega
  exact Nat.le_trans (key T h.fit) (Nat.mul_le_mul_right _ h.len)
theorem few_yes {l : List TOp} (h : ¬ 0 < fewO l) : l.length ≤ 80 ∧ omany l ≤ 8000 := by
  unfold fewO at h
  split at h
  · assumption
  · omega
theorem few_text {l : List TOp} (h : ¬ 0 < fewO l) : (textT (madeT l)).length ≤ 100000000 := by
  obtain ⟨h1, h2⟩ := few_yes h
  have ht : Tok l.length 8000 (madeT l) := madeT_tok fun o ho => by have := omany_mem ho; omega
  refine Nat.le_trans (textT_le ht) ?_
  have : l.length * (4 * 8000 + 3) ≤ 80 * (4 * 8000 + 3) := Nat.mul_le_mul_right _ h1
  omega
end Go.Sx

end
section
set_option linter.unusedVariables false
set_option linter.unusedSimpArgs false
namespace Go.Sx
open Go Go.RowKit
section
variable {ro : Option Nat} {P : Program} {M0 F0 : Nat → Prop} {w0 : World} {n : Nm} {σ : List (Nat × Value)} {Ξ : List Xsn} {Γ : List Asn} {d : Nat} {ty : TypeId} {pos : String} {af : Array Edge}
theorem loc_bts {src dst e : TypeId} (hs : P.underlying src = some (.slice e)) (he : P.underlying e = some (.int .u8)) (hd : P.underlying dst = some .string) (A : Option Addr) (c : Nat) (l : List UInt8) (h0 : l ≠ []) :
    Loc P (fun w => (convert src dst (.slice A l.length c)).run P w) [row e A c l] [] Unit (fun _ => .string (toB l)) (fun _ => []) (fun _ => []) := by
  intro M0 Fs w hh
  obtain ⟨F, rfl, xs, ho, hF, hr⟩ := hh.one_of
  have hxs := rowE_bytes hr
  subst hxs
  rcases ho.2 with ⟨_, hz⟩ | ⟨g, cap, cur, hv, hbg, hg, hnc, hcm, hcs, htake⟩
  · exact absurd (List.eq_nil_of_length_eq_zero hz) h0
  · injection hv with hv _ _
    subst hv
    have h1 : Rp.size UInt8 = 1 := rfl
    rw [h1, Nat.mul_one] at htake
    refine ⟨(), [], w, Go.run_convert_bytes_back w src dst e ⟨g, 0, none⟩ c l hs he hd (Lib.bytes_of_row hg htake), trivial, .nil, fun b hb => absurd hb (own_nil b), fun b hb => absurd hb (own_nil b), fun b hb => absurd hb (own_nil b), (fun p hp => by cases hp), ⟨rfl, rfl, rfl, Nat.le_refl _, fun k _ _ => rfl⟩, hh.m0, hh.f0⟩
theorem o_bts {x : Operand} {src dst e : TypeId} {A : Option Addr} {c : Nat} {l : List UInt8} {i : Nat} {Ξ' : List Xsn} (hsr : P.underlying src = some (.slice e)) (he : P.underlying e = some (.int .u8)) (hds : P.underlying dst = some .string) (h0 : l ≠ [])
    (hx : ev σ x = some (.slice A l.length c)) (hs : takeAll [i] Ξ = some ([row e A c l], Ξ')) (hd : Nat.blt d n.n = true) :
    OpR P ⟨some d, .convert src dst x, ty, pos, af, none⟩ (St M0 F0 w0 n σ Ξ Γ) (fun a w => St M0 F0 w0 n ((d, .string (toB l)) :: σ) Ξ' Γ a w) := by
  refine (o_loc (Γi := []) (loc_bts (P := P) hsr he hds A c l h0) ?_ hs .d hd).mono fun a w ⟨_, h⟩ => h
  intro a hsl w v w' hr
  have h1 := hsl.ev hx
  simp only [execOp, h1]
  simp [hr]
theorem p_quoN {T : World → Prop} {x y : Operand} {t t' : TypeId} {k b q : Nat} {m1 m2 : Int} (hq : k / b = q) (h1 : m1 = (k : Int)) (h2 : m2 = (b : Int)) (hb : 0 < b) (hk : k ≤ 9223372036854775807) (hx : ev σ x = some (.int .i64 m1)) (hy : ev σ y = some (.int .i64 m2)) :
    Pu P n σ T ⟨some d, .binOp .quo t x y t', ty, pos, af, none⟩ (.int .i64 (q : Int)) := by
  subst h1 h2
  intro a hs w _
  have h0 : ¬ (b : Int) = 0 := by omega
  have h3 : (k : Int).tdiv (b : Int) = (q : Int) := by rw [← hq]; rfl
  have h4 : q ≤ k := by rw [← hq]; exact Nat.div_le_self k b
  have h5 := IntWalk.i64_in (q : Int) (by omega)
  have hg : ∀ u v, eqGuard .quo t x y u v = pure () := fun _ _ => rfl
  have hop : binOp .quo t (.int .i64 (k : Int)) (.int .i64 (b : Int)) = Op.intDiv .quo .i64 (k : Int) (b : Int) := rfl
  simp [execOp, hs.ev hx, hs.ev hy, hg, hop, Op.intDiv, h0, h3, h5]
  intro h; omega
theorem p_remN {T : World → Prop} {x y : Operand} {t t' : TypeId} {k b q : Nat} {m1 m2 : Int} (hq : k % b = q) (h1 : m1 = (k : Int)) (h2 : m2 = (b : Int)) (hb : 0 < b) (hx : ev σ x = some (.int .i64 m1)) (hy : ev σ y = some (.int .i64 m2)) :
    Pu P n σ T ⟨some d, .binOp .rem t x y t', ty, pos, af, none⟩ (.int .i64 (q : Int)) := by
  subst h1 h2
  intro a hs w _
  have h0 : ¬ (b : Int) = 0 := by omega
  have h3 : (k : Int).tmod (b : Int) = (q : Int) := by rw [← hq]; rfl
  have hg : ∀ u v, eqGuard .rem t x y u v = pure () := fun _ _ => rfl
  have hop : binOp .rem t (.int .i64 (k : Int)) (.int .i64 (b : Int)) = Op.intDiv .rem .i64 (k : Int) (b : Int) := rfl
  simp [execOp, hs.ev hx, hs.ev hy, hg, hop, Op.intDiv, h0, h3]
  intro h; omega
theorem p_toU8 {T : World → Prop} {x : Operand} {t t' : TypeId} {td : TypeDesc} {k : Nat} {m1 : Int} (h1 : m1 = (k : Int)) (hk : k < 256) (ht : P.underlying t = some td) (ht' : P.underlying t' = some (.int .u8)) (hx : ev σ x = some (.int .i64 m1)) :
    Pu P n σ T ⟨some d, .convert t t' x, ty, pos, af, none⟩ (.int .u8 ((UInt8.ofNat k).toNat : Int)) := by
  subst h1
  intro a hs w _
  have h3 : (UInt8.ofNat k).toNat = k := by rw [UInt8.toNat_ofNat']; omega
  have h5 := IntWalk.u8_in (k : Int) (by omega)
  simp [execOp, hs.ev hx, convert, run_underlying ht, run_underlying ht', Conv.intToInt, h3, h5]
end
end Go.Sx

end
section
set_option linter.unusedVariables false
set_option linter.unusedSimpArgs false
namespace Go.Proofs.YtgjbcigeecbfiaaGreatDoor.X
open Go Go.RowKit Go.Proofs Go.Sx
attribute [local irreducible] slA isA box row
theorem l_ItoaT (i : Nat) (hi : i ≤ 9223372036854775807) : Con Tryz.prog 57 [.int .i64 (i : Int)] [] [tabA Tryz.prog] Unit (fun _ => .string (toB (Lib.decDigits i))) (fun _ => []) (fun _ => []) := con_itoa i hi (fun n h0 h1 w ht => Tryz.strconv_Itoa n h0 h1 w ht)
theorem text_same {T U : List File} (hT : Go.Sx.Good T) (hU : Go.Sx.Good U) : (decide (toB (textT T) = toB (textT U)) == decide (T = U)) = true := by
 rw [beq_iff_eq, decide_eq_decide]
 exact ⟨fun h => textT_inj hT hU (by have := congrArg ofB h; rwa [ofB_toB, ofB_toB] at this), fun h => by rw [h]⟩
theorem same_turn (T U : List File) : (decide (U = T) == decide (T = U)) = true := by
 rw [beq_iff_eq, decide_eq_decide]
 exact eq_comm


set_option maxRecDepth 100000 in
theorem c_TreeSame (l : List TOp) (A : Option Addr) (c : Nat) (hl : l.length ≤ 1048576) (hM : omany l ≤ 1048576) (r : List TOp) (B : Option Addr) (c' : Nat) (hr : r.length ≤ 1048576) (hMr : omany r ≤ 1048576) : Con Tryz.prog 3 [.slice A l.length c, .slice B r.length c'] [] [slA A l, slA B r, tabA Tryz.prog] Unit (fun _ => .bool true) (fun _ => []) (fun _ => []) := by
 have hMo : ∀ o ∈ l, o.many ≤ 2000000 := fun o ho => by have := omany_mem ho; omega
 have htok : Tok l.length 2000000 (madeT l) := madeT_tok hMo
 have hlen := htok.len
 have hfit : Tfit (madeT l) := fun x hx => (htok.fit x hx).1
 have hso := madeT_sor l
 have hgood := madeT_good l
 have hMo2 : ∀ o ∈ r, o.many ≤ 2000000 := fun o ho => by have := omany_mem ho; omega
 have htok2 : Tok r.length 2000000 (madeT r) := madeT_tok hMo2
 have hlen2 := htok2.len
 have hfit2 : Tfit (madeT r) := fun x hx => (htok2.fit x hx).1
 have hso2 := madeT_sor r
 have hgood2 := madeT_good r
 refine con Tryz.func3 rfl Tryz.ntmps3 rfl ?_
 intro M0 F0 w0
 refine cs ?_
 refine cr ?_
 refine ls (op (p_asg rfl) rfl) ?_
 refine ln ?_
 refine nthen ?_
 refine cs ?_
 refine cs ?_
 refine cr ?_
 refine ls (op (p_move rfl) rfl) ?_
 refine ls (o_call (is := []) Tryz.call15 (c_Few02 l A c (by omega) (by omega)) rfl rfl (by repeat' (first | constructor | apply Sub.suf)) rfl) ?_
 refine le ?_; intro x11
 refine ls (op (p_icmp rfl rfl rfl) rfl) ?_
 refine ls (op (p_move rfl) rfl) ?_
 refine orX 4 13 17 rfl (subσ.cons (t := 0) rfl (subσ.cons (t := 1) rfl (subσ.cons (t := 4) rfl (subσ.nil _)))) ?_ ?_
 ·
  intro h13
  refine lskip rfl rfl rfl rfl rfl ?_
  refine lskip rfl rfl rfl rfl rfl ?_
  refine lskip rfl rfl rfl rfl rfl ?_
  refine ls (op (p_pickt rfl rfl) rfl) ?_
  refine ln (nmid (wk0 (by repeat (first | exact subσ.nil _ | refine subσ.cons rfl ?_)) (by repeat' (first | constructor | apply Sub.suf))))
 apply exI
 ·
  intro h13
  refine lwant rfl rfl rfl rfl (op (p_move rfl) rfl) ?_
  refine lwant rfl rfl rfl rfl (o_call (is := []) Tryz.call15 (c_Few02 r B c' (by omega) (by omega)) rfl rfl (by repeat' (first | constructor | apply Sub.suf)) rfl) ?_
  refine le ?_; intro x15
  refine lwant rfl rfl rfl rfl (op (p_icmp rfl rfl rfl) rfl) ?_
  refine ls (op (p_pickf rfl rfl) rfl) ?_
  refine ln (nmid (wk0 (by repeat (first | exact subσ.nil _ | refine subσ.cons rfl ?_)) (by repeat' (first | constructor | apply Sub.suf))))
 ·
  refine ln ?_
  refine nthen ?_
  refine cc rfl ?_ ?_
  ·
   intro h17
   skip
   refine cs ?_
   refine cr ?_
   refine ls (o_call (is := []) Tryz.call16 (c_alive02) rfl rfl (by repeat' (first | constructor | apply Sub.suf)) rfl) ?_
   refine le ?_; intro x18
   refine ls (op (p_asg rfl) rfl) ?_
   refine ln ?_
   refine nthen ?_
   refine cret ?_
   refine xret (fun _ _ h => h) ?_
   refine rret (is := []) () (Or.inl rfl) (Res.t rfl Res.d) (rfl) rfl (by repeat' (first | constructor | apply Sub.suf))
  ·
   intro h17
   obtain ⟨hfl, hfr⟩ : (¬ 0 < fewO l) ∧ ¬ 0 < fewO r := by have h := h17; simp at h; omega
   have htl := few_text hfl
   have htr := few_text hfr
   refine cskip ?_
   refine nthen ?_
   refine cs ?_
   refine cr ?_
   refine ls (op (p_move rfl) rfl) ?_
   refine ls (o_call (is := []) Tryz.call17 (c_Made02 l A c (by omega) hMo) rfl rfl (by repeat' (first | constructor | apply Sub.suf)) rfl) ?_
   refine le ?_; rintro ⟨⟨p, b⟩, ⟨A2, c2⟩⟩
   refine ls (op (p_move rfl) rfl) ?_
   refine ls (op (p_ext rfl (by repeat' constructor)) rfl) ?_
   refine ls (op (p_ext rfl (by repeat' constructor)) rfl) ?_
   refine ls (op (p_asg rfl) rfl) ?_
   refine ls (op (p_asg rfl) rfl) ?_
   refine ln ?_
   refine nthen ?_
   refine cs ?_
   refine cr ?_
   refine ls (op (p_move rfl) rfl) ?_
   refine ls (o_call (is := []) Tryz.call17 (c_Made02 r B c' (by omega) hMo2) rfl rfl (by repeat' (first | constructor | apply Sub.suf)) rfl) ?_
   refine le ?_; rintro ⟨⟨p4, b4⟩, ⟨A3, c3⟩⟩
   refine ls (op (p_move rfl) rfl) ?_
   refine ls (op (p_ext rfl (by repeat' constructor)) rfl) ?_
   refine ls (op (p_ext rfl (by repeat' constructor)) rfl) ?_
   refine ls (op (p_asg rfl) rfl) ?_
   refine ls (op (p_asg rfl) rfl) ?_
   refine ln ?_
   refine nthen ?_
   refine cs ?_
   refine cs ?_
   refine cr ?_
   refine ls (op (p_move rfl) rfl) ?_
   refine ls (op (p_ptrnil Tryz.underlying25 rfl rfl) rfl) ?_
   refine ls (op (p_move rfl) rfl) ?_
   refine lwant rfl rfl rfl rfl (op (p_move rfl) rfl) ?_
   refine lwant rfl rfl rfl rfl (op (p_ptrnil Tryz.underlying25 rfl rfl) rfl) ?_
   refine ls (op (p_pickf rfl rfl) rfl) ?_
   refine ln ?_
   refine nthen ?_
   refine cc rfl (fun h => by cases h) (fun h => ?_)
   refine cskip ?_
   refine nthen ?_
   refine cs ?_
   refine cr ?_
   refine ls (op (p_move rfl) rfl) ?_
   refine ls (op (p_move rfl) rfl) ?_
   refine ls (o_call (is := []) Tryz.call18 (c_rSame02 (madeT l) (madeT r) A2 A3 c2 c3 (by omega) hfit) rfl rfl (by repeat' (first | constructor | apply Sub.suf)) rfl) ?_
   refine le ?_; intro x37
   refine ls (op (p_asg rfl) rfl) ?_
   refine ln ?_
   refine nthen ?_
   refine cs ?_
   refine cr ?_
   refine ls (o_call (is := []) Tryz.call16 (c_alive02) rfl rfl (by repeat' (first | constructor | apply Sub.suf)) rfl) ?_
   refine le ?_; intro x38
   refine ls (op (p_move rfl) rfl) ?_
   refine lwant rfl rfl rfl rfl (op (p_move rfl) rfl) ?_
   refine lwant rfl rfl rfl rfl (op (p_move rfl) rfl) ?_
   refine lwant rfl rfl rfl rfl (o_call (is := [2, 2, 0, 0]) Tryz.call19 (c_tSame p b p4 b4 (madeT l) (madeT r) hfit) rfl rfl (by repeat' (first | constructor | apply Sub.suf)) rfl) ?_
   refine le ?_; intro x42
   refine lwant rfl rfl rfl rfl (op (p_move rfl) rfl) ?_
   refine lwant rfl rfl rfl rfl (op (p_beq Tryz.underlying4 rfl rfl) rfl) ?_
   refine fixL (congrArg Value.bool (beq_self_eq_true _)) ?_
   refine ls (op (p_pickt rfl rfl) rfl) ?_
   refine ls (op (p_move rfl) rfl) ?_
   refine lwant rfl rfl rfl rfl (op (p_move rfl) rfl) ?_
   refine lwant rfl rfl rfl rfl (op (p_move rfl) rfl) ?_
   refine lwant rfl rfl rfl rfl (o_call (is := [2, 2, 0, 0]) Tryz.call19 (c_tSame p4 b4 p b (madeT r) (madeT l) hfit2) rfl rfl (by repeat' (first | constructor | apply Sub.suf)) rfl) ?_
   refine le ?_; intro x49
   refine lwant rfl rfl rfl rfl (op (p_move rfl) rfl) ?_
   refine lwant rfl rfl rfl rfl (op (p_beq Tryz.underlying4 rfl rfl) rfl) ?_
   refine fixL (congrArg Value.bool (same_turn _ _)) ?_
   refine ls (op (p_pickt rfl rfl) rfl) ?_
   refine ls (op (p_move rfl) rfl) ?_
   refine lwant rfl rfl rfl rfl (op (p_move rfl) rfl) ?_
   refine lwant rfl rfl rfl rfl (o_call (is := [2, 2]) Tryz.call20 (c_tText p b (madeT l) (by omega) hfit htl [tabA Tryz.prog] (fun x hx => l_ItoaT x.2.length (by have := hfit x hx; omega))) rfl rfl (by repeat' (first | constructor | apply Sub.suf)) rfl) ?_
   refine le ?_; intro x55
   refine lwant rfl rfl rfl rfl (op (p_move rfl) rfl) ?_
   refine lwant rfl rfl rfl rfl (o_call (is := [2, 2]) Tryz.call20 (c_tText p4 b4 (madeT r) (by omega) hfit2 htr [tabA Tryz.prog] (fun x hx => l_ItoaT x.2.length (by have := hfit2 x hx; omega))) rfl rfl (by repeat' (first | constructor | apply Sub.suf)) rfl) ?_
   refine le ?_; intro x57
   refine lwant rfl rfl rfl rfl (op (p_seq rfl rfl) rfl) ?_
   refine lwant rfl rfl rfl rfl (op (p_move rfl) rfl) ?_
   refine lwant rfl rfl rfl rfl (op (p_beq Tryz.underlying4 rfl rfl) rfl) ?_
   refine fixL (congrArg Value.bool (text_same hgood hgood2)) ?_
   refine ls (op (p_pickt rfl rfl) rfl) ?_
   refine ls (op (p_move rfl) rfl) ?_
   refine lwant rfl rfl rfl rfl (op (p_move rfl) rfl) ?_
   refine lwant rfl rfl rfl rfl (op (p_move rfl) rfl) ?_
   refine lwant rfl rfl rfl rfl (o_call (is := [2, 2]) Tryz.call21 (c_tCopy p b (madeT l)) rfl rfl (by repeat' (first | constructor | apply Sub.suf)) rfl) ?_
   refine le ?_; rintro ⟨p5, b5⟩
   refine lwant rfl rfl rfl rfl (o_call (is := [2, 2, 0, 0]) Tryz.call19 (c_tSame p b p5 b5 (madeT l) (madeT l) hfit) rfl rfl (by repeat' (first | constructor | apply Sub.suf)) rfl) ?_
   refine le ?_; intro x66
   refine fixL (congrArg Value.bool (decide_eq_true rfl)) ?_
   refine ls (op (p_pickt rfl rfl) rfl) ?_
   refine ls (op (p_asg rfl) rfl) ?_
   refine ln ?_
   refine nthen ?_
   refine cret ?_
   refine xret (fun _ _ h => h) ?_
   refine rret (is := []) () (Or.inl rfl) (Res.t rfl Res.d) (rfl) rfl (by repeat' (first | constructor | apply Sub.suf))

end Go.Proofs.YtgjbcigeecbfiaaGreatDoor.X

end
section
set_option linter.unusedVariables false
set_option linter.unusedSimpArgs false
namespace Go.Proofs.YtgjbcigeecbfiaaGreatDoor.X
open Go Go.RowKit Go.Proofs Go.Sx
attribute [local irreducible] slA isA box row
theorem bneI (e : Int) : (!decide (e = e)) = false := by simp
theorem toB_app (a b : List UInt8) : toB a ++ toB b = toB (a ++ b) := by
 unfold toB
 apply ByteArray.ext
 simp
theorem dig_big {n : Nat} (h : 9 < n) : toB (Lib.decDigits (n / 10)) ++ toB [UInt8.ofNat (48 + n % 10)] = toB (Lib.decDigits n) := by
 rw [toB_app]
 conv => rhs; rw [Lib.decDigits, dif_neg (by omega)]
theorem dig_small {n : Nat} (h : ¬ 9 < n) : toB [UInt8.ofNat (48 + n)] = toB (Lib.decDigits n) := by
 conv => rhs; rw [Lib.decDigits, dif_pos (by omega)]
theorem line_step {l : List ByteArray} {k : Nat} (h : k < l.length) : toB (lineT (l.take k)) ++ l[k] ++ toB [10] = toB (lineT (l.take (k + 1))) := by
 rw [show lineT (l.take (k + 1)) = lineT (l.take k) ++ (ofB l[k] ++ [10]) from flat_succ (fun s => ofB s ++ [10]) h, ← toB_app, ← toB_app, toB_ofB, ByteArray.append_assoc]
theorem text_step {T : List File} {k : Nat} (h : k < T.length) : toB (textT (T.take k)) ++ T[k].1 ++ (⟨#[32]⟩ : ByteArray) ++ toB (Lib.decDigits T[k].2.length) ++ toB [10] ++ toB (lineT T[k].2) = toB (textT (T.take (k + 1))) := by
 rw [show textT (T.take (k + 1)) = textT (T.take k) ++ fileT T[k] from flat_succ fileT h]
 unfold fileT
 rw [← toB_app, ← toB_app, ← toB_app, ← toB_app, ← toB_app, toB_ofB]
 simp only [ByteArray.append_assoc]
 rfl
theorem few_take {l : List TOp} (h : ¬ 0 < fewO l) (k : Nat) : (textT (madeT (l.take k))).length ≤ 100000000 ∧ ((madeT (l.take k)).map (fun x => x.2.length)).sum ≤ 1000000000000 ∧ Tok (l.take k).length 8000 (madeT (l.take k)) := by
 obtain ⟨h1, h2⟩ := few_yes h
 have ht : Tok (l.take k).length 8000 (madeT (l.take k)) := madeT_tok fun o ho => by have := omany_mem (List.mem_of_mem_take ho); omega
 have hk : (l.take k).length ≤ 80 := by rw [List.length_take]; omega
 refine ⟨Nat.le_trans (textT_le ht) ?_, ?_, ht⟩
 ·
  have : (l.take k).length * (4 * 8000 + 3) ≤ 80 * (4 * 8000 + 3) := Nat.mul_le_mul_right _ hk
  omega
 ·
  have key : ∀ (U : List File), (∀ x ∈ U, x.2.length ≤ 8000) → (U.map (fun x => x.2.length)).sum ≤ U.length * 8000 := by
   intro U
   induction U with
   | nil => intro _; simp
   | cons x U ih =>
    intro hU
    have := ih fun y hy => hU y (List.mem_cons_of_mem _ hy)
    have := hU x (by simp)
    simp only [List.map_cons, List.sum_cons, List.length_cons, Nat.succ_mul]
    omega
  have h3 := key _ fun x hx => (ht.fit x hx).1
  have h4 := ht.len
  have : (madeT (l.take k)).length * 8000 ≤ 80 * 8000 := Nat.mul_le_mul_right _ (by omega)
  omega


set_option maxRecDepth 100000 in
theorem c_rDigits0 (n : Nat) (hn : n ≤ 1000000000) (hrec : 9 < n → Con Tryz.prog 62 [.int .i64 ((n / 10 : Nat) : Int)] [] [] Unit (fun _ => .string (toB (Lib.decDigits (n / 10)))) (fun _ => []) (fun _ => [])) : Con Tryz.prog 62 [.int .i64 (n : Int)] [] [] Unit (fun _ => .string (toB (Lib.decDigits n))) (fun _ => []) (fun _ => []) := by
 refine con Tryz.func62 rfl Tryz.ntmps62 rfl ?_
 intro M0 F0 w0
 refine cs ?_
 refine cr ?_
 refine ls (op (p_asg rfl) rfl) ?_
 refine ln ?_
 refine nthen ?_
 refine cs ?_
 refine cs ?_
 refine cr ?_
 refine ls (op (p_move rfl) rfl) ?_
 refine ls (op (p_icmp rfl rfl rfl) rfl) ?_
 refine ln ?_
 refine nthen ?_
 refine cc rfl ?_ ?_
 ·
  intro h4
  have h9 : 9 < n := by have h := h4; simp at h; omega
  have hd := dec_le (n / 10)
  refine cs ?_
  refine cd [2, 7, 8] [] TryzX.mixed TOk.d ?_
  refine tk 0 rfl (by kernel_rfl) (fun _ _ _ h => h) gnone (TTany _) (p_move rfl) rfl ?_
  refine tk 1 rfl (by kernel_rfl) (fun _ _ _ h => h) gnone (TTany _) (p_quoN (k := n) (b := 10) rfl rfl rfl (by decide) (by omega) rfl rfl) rfl ?_
  refine tk 3 rfl (by kernel_rfl) (fun _ _ _ h => h) gnone (TTany _) (p_move rfl) rfl ?_
  refine tk 4 rfl (by kernel_rfl) (fun _ _ _ h => h) gnone (TTany _) (p_remN (k := n) (b := 10) rfl rfl rfl (by decide) rfl rfl) rfl ?_
  refine tk 5 rfl (by kernel_rfl) (fun _ _ _ h => h) gnone (TTany _) (p_add rfl rfl (by omega)) rfl ?_
  refine tk 6 rfl (by kernel_rfl) (fun _ _ _ h => h) gnone (TTany _) (p_toU8 (k := 48 + n % 10) (by omega) (by omega) Tryz.underlying3 Tryz.underlying5 rfl) rfl ?_
  refine dall (is := [2, 7]) (by kernel_rfl) rfl ?_
  intro i hi; simp only [List.mem_cons, List.mem_nil_iff, or_false] at hi; rcases hi with rfl | rfl
  ·
   refine doR rfl (o_call (is := []) Tryz.call62 (hrec h9) rfl rfl (by repeat' (first | constructor | apply Sub.suf)) rfl) TOk.d ?_
   refine ea ?_; intro x7
   refine df 7 (by kernel_rfl) ?_
   refine doR rfl (o_bsl [UInt8.ofNat (48 + n % 10)] Tryz.underlying87 Tryz.sizeOf5 Tryz.zeroValue5 rfl (Enum.t Enum.d) (RV.t () rfl Sub.d RV.d) rfl (by decide) (by decide) rfl) TOk.d ?_
   refine ea ?_; intro b12
   refine df 8 (by kernel_rfl) ?_
   refine doR rfl (o_bts (i := 0) Tryz.underlying87 Tryz.underlying5 Tryz.underlying9 (by simp) rfl rfl rfl) TOk.d ?_
   refine tk 9 rfl (by kernel_rfl) (fun _ _ _ h => h) gnone (TTany _) (p_cat rfl rfl (by rw [toB_size, toB_size]; simp only [List.length_cons, List.length_nil]; omega)) rfl ?_
   refine tk 10 rfl (by kernel_rfl) (fun _ _ _ h => h) gnone (TTany _) (p_asg rfl) rfl ?_
   refine dn (by kernel_rfl) ?_
   refine nthen ?_
   refine cret ?_
   refine xret (fun _ _ h => h) ?_
   refine rret (is := []) () (Or.inl rfl) (Res.t rfl Res.d) ?_ rfl (by repeat' (first | constructor | apply Sub.suf))
   first | simp only [packV, dig_big h9] | simp only [packV, dig_small h9]
  ·
   refine doR rfl (o_bsl [UInt8.ofNat (48 + n % 10)] Tryz.underlying87 Tryz.sizeOf5 Tryz.zeroValue5 rfl (Enum.t Enum.d) (RV.t () rfl Sub.d RV.d) rfl (by decide) (by decide) rfl) TOk.d ?_
   refine ea ?_; intro b12
   refine dall (is := [2, 8]) (by kernel_rfl) rfl ?_
   intro i hi; simp only [List.mem_cons, List.mem_nil_iff, or_false] at hi; rcases hi with rfl | rfl
   ·
    refine doR rfl (o_call (is := []) Tryz.call62 (hrec h9) rfl rfl (by repeat' (first | constructor | apply Sub.suf)) rfl) TOk.d ?_
    refine ea ?_; intro x7
    refine df 8 (by kernel_rfl) ?_
    refine doR rfl (o_bts (i := 0) Tryz.underlying87 Tryz.underlying5 Tryz.underlying9 (by simp) rfl rfl rfl) TOk.d ?_
    refine tk 9 rfl (by kernel_rfl) (fun _ _ _ h => h) gnone (TTany _) (p_cat rfl rfl (by rw [toB_size, toB_size]; simp only [List.length_cons, List.length_nil]; omega)) rfl ?_
    refine tk 10 rfl (by kernel_rfl) (fun _ _ _ h => h) gnone (TTany _) (p_asg rfl) rfl ?_
    refine dn (by kernel_rfl) ?_
    refine nthen ?_
    refine cret ?_
    refine xret (fun _ _ h => h) ?_
    refine rret (is := []) () (Or.inl rfl) (Res.t rfl Res.d) ?_ rfl (by repeat' (first | constructor | apply Sub.suf))
    first | simp only [packV, dig_big h9] | simp only [packV, dig_small h9]
   ·
    refine doR rfl (o_bts (i := 0) Tryz.underlying87 Tryz.underlying5 Tryz.underlying9 (by simp) rfl rfl rfl) TOk.d ?_
    refine df 2 (by kernel_rfl) ?_
    refine doR rfl (o_call (is := []) Tryz.call62 (hrec h9) rfl rfl (by repeat' (first | constructor | apply Sub.suf)) rfl) TOk.d ?_
    refine ea ?_; intro x7
    refine tk 9 rfl (by kernel_rfl) (fun _ _ _ h => h) gnone (TTany _) (p_cat rfl rfl (by rw [toB_size, toB_size]; simp only [List.length_cons, List.length_nil]; omega)) rfl ?_
    refine tk 10 rfl (by kernel_rfl) (fun _ _ _ h => h) gnone (TTany _) (p_asg rfl) rfl ?_
    refine dn (by kernel_rfl) ?_
    refine nthen ?_
    refine cret ?_
    refine xret (fun _ _ h => h) ?_
    refine rret (is := []) () (Or.inl rfl) (Res.t rfl Res.d) ?_ rfl (by repeat' (first | constructor | apply Sub.suf))
    first | simp only [packV, dig_big h9] | simp only [packV, dig_small h9]
 ·
  intro h4
  have h9 : ¬ 9 < n := by have h := h4; simp at h; omega
  refine cskip ?_
  refine nthen ?_
  refine cs ?_
  refine cr ?_
  refine ls (op (p_move rfl) rfl) ?_
  refine ls (op (p_add rfl rfl (by omega)) rfl) ?_
  refine ls (op (p_toU8 (k := 48 + n) (by omega) (by omega) Tryz.underlying3 Tryz.underlying5 rfl) rfl) ?_
  refine ls (o_bsl [UInt8.ofNat (48 + n)] Tryz.underlying87 Tryz.sizeOf5 Tryz.zeroValue5 rfl (Enum.t Enum.d) (RV.t () rfl Sub.d RV.d) rfl (by decide) (by decide) rfl) ?_
  refine le ?_; intro b18
  refine ls (o_bts (i := 0) Tryz.underlying87 Tryz.underlying5 Tryz.underlying9 (by simp) rfl rfl rfl) ?_
  refine ls (op (p_asg rfl) rfl) ?_
  refine ln ?_
  refine nthen ?_
  refine cret ?_
  refine xret (fun _ _ h => h) ?_
  refine rret (is := []) () (Or.inl rfl) (Res.t rfl Res.d) ?_ rfl (by repeat' (first | constructor | apply Sub.suf))
  first | simp only [packV, dig_big h9] | simp only [packV, dig_small h9]

theorem c_rDigits : ∀ (n : Nat), n ≤ 1000000000 → Con Tryz.prog 62 [.int .i64 (n : Int)] [] [] Unit (fun _ => .string (toB (Lib.decDigits n))) (fun _ => []) (fun _ => []) := fun n => by
 induction n using Nat.strongRecOn with
 | _ n ih => exact fun hn => c_rDigits0 n hn fun h => ih (n / 10) (by omega) (by omega)

set_option maxRecDepth 100000 in
theorem c_r1Text (l : List ByteArray) (A : Option Addr) (c : Nat) (hl : l.length ≤ 2000000) (hB : (lineT l).length ≤ 100000000) : Con Tryz.prog 63 [.slice A l.length c] [] [slA A l] Unit (fun _ => .string (toB (lineT l))) (fun _ => []) (fun _ => []) := by
 refine con Tryz.func63 rfl Tryz.ntmps63 rfl ?_
 intro M0 F0 w0
 refine cs ?_
 refine cr ?_
 refine ls (op (p_asg rfl) rfl) ?_
 refine ln ?_
 refine nthen ?_
 refine cs ?_
 refine cr ?_
 refine ls (op (p_asg rfl) rfl) ?_
 refine ln ?_
 refine nthen ?_
 refine cs ?_
 refine cs ?_
 refine cr ?_
 refine ls (op (p_asg rfl) rfl) ?_
 refine ln ?_
 refine nthen ?_
 refine cb ?_
 refine cl (ι := {k : Nat // k ≤ l.length}) (fun i => St M0 F0 w0 21 [(0, .slice A l.length c), (3, .string (toB (lineT (l.take i.1)))), (4, .int .i64 (i.1 : Int))] [] [slA A l]) (fun i => l.length - i.1) ⟨0, Nat.zero_le _⟩ (wk0 (by repeat (first | exact subσ.nil _ | refine subσ.cons rfl ?_)) (by repeat' (first | constructor | apply Sub.suf))) ?_
 rintro ⟨k, hk⟩
 refine cmono (S' := St M0 F0 w0 21 [(0, .slice A l.length c), (3, .string (toB (lineT (l.take k)))), (4, .int .i64 (k : Int))] [] [slA A l]) (fun _ _ h => h) ?_
 refine cs ?_
 refine cs ?_
 refine cr ?_
 refine ls (op (p_move rfl) rfl) ?_
 refine ls (op (p_move rfl) rfl) ?_
 refine ls (op (p_lenl rfl Tryz.underlying35) rfl) ?_
 refine ls (op (p_icmp rfl rfl rfl) rfl) ?_
 refine ln ?_
 refine nthen ?_
 refine cc rfl ?_ ?_
 ·
  intro h8
  try dsimp only at hk
  try simp only [decide_eq_true_eq, decide_eq_false_iff_not, Bool.not_eq_true', Bool.not_eq_false', Int.not_lt, Int.not_le, ge_iff_le, Bool.not_true, Bool.not_false] at h8
  have hk1 : k < l.length := by omega
  have hfs : lineT (l.take (k + 1)) = lineT (l.take k) ++ (ofB l[k] ++ [10]) := flat_succ (fun s => ofB s ++ [10]) hk1
  have hfl : (lineT (l.take (k + 1))).length ≤ (lineT l).length := flat_le _ l (k + 1)
  have hsz : (lineT (l.take k)).length + (l[k].size + 1) ≤ 100000000 := by rw [hfs, List.length_append, List.length_append, ofB_length, List.length_singleton] at hfl; omega
  refine cskip ?_
  refine nthen ?_
  refine cs ?_
  refine cb ?_
  refine elC (by repeat' constructor) k (List.getElem?_eq_getElem (l := l) hk1) ?_; rintro zbp zop zyp hAp
  refine cdB [6, 7] [(4, zbp, zop + k * Rp.size ByteArray, _)] TryzX.mixed (by kernel_rfl) (by kernel_rfl) (TOk.t (isInS (by repeat' constructor) (k := 0) rfl (z := 1) (by repeat (first | exact Cut.d | apply Cut.t | apply Cut.s))) TOk.d) ?_
  refine tkB 0 rfl (by kernel_rfl) (fun _ _ _ h => h) gnone (TTany _) (p_move rfl) rfl ?_
  refine tkB 1 rfl (by kernel_rfl) (fun _ _ _ h => h) gnone (TTany _) (p_move rfl) rfl ?_
  refine tkB 2 rfl (by kernel_rfl) (fun _ _ _ h => h) gnone (TTany _) (p_move rfl) rfl ?_
  refine tkB 3 rfl (by kernel_rfl) (fun _ _ _ h => h) gnone (TTany _) (p_ia k hAp hk1 rfl Tryz.underlying35 Tryz.sizeOf9 rfl rfl) rfl ?_
  refine tkB 4 rfl (by kernel_rfl) (fun _ _ _ h => h) gnone (TTat (List.Mem.head _)) (p_ld Tryz.isAgg9 rfl) rfl ?_
  refine tkB 5 rfl (by kernel_rfl) (fun _ _ _ h => h) gnone (TTany _) (p_cat rfl rfl (by rw [toB_size]; omega)) rfl ?_
  refine dfB 6 (by kernel_rfl) ?_
  refine doRB rfl (o_bsl [(10 : UInt8)] Tryz.underlying87 Tryz.sizeOf5 Tryz.zeroValue5 rfl (Enum.t Enum.d) (RV.t () rfl Sub.d RV.d) rfl (by decide) (by decide) rfl) (TOk.t (isBoxE fun _ => isInS (by repeat' constructor) (k := 0) rfl (z := 1) (by repeat (first | exact Cut.d | apply Cut.t | apply Cut.s))) TOk.d) ?_
  refine eaB ?_; intro b17
  refine dfB 7 (by kernel_rfl) ?_
  refine doRB rfl (o_bts (i := 0) Tryz.underlying87 Tryz.underlying5 Tryz.underlying9 (by simp) rfl rfl rfl) (TOk.t (isInS (by repeat' constructor) (k := 0) rfl (z := 1) (by repeat (first | exact Cut.d | apply Cut.t | apply Cut.s))) TOk.d) ?_
  refine tkB 8 rfl (by kernel_rfl) (fun _ _ _ h => h) gnone (TTany _) (p_cat rfl rfl (by rw [ByteArray.size_append, toB_size, toB_size]; simp only [List.length_cons, List.length_nil]; omega)) rfl ?_
  refine fixB (congrArg Value.string (line_step hk1)) ?_
  refine tkB 9 rfl (by kernel_rfl) (fun _ _ _ h => h) gnone (TTany _) (p_asg rfl) rfl ?_
  refine dnB (by kernel_rfl) ?_
  refine nblock ?_
  refine nthen ?_
  refine cr ?_
  refine ls (op (p_move rfl) rfl) ?_
  refine ls (op (p_add rfl rfl (by omega)) rfl) ?_
  refine ls (op (p_asg rfl) rfl) ?_
  refine ln ?_
  refine nnext ⟨k + 1, hk1⟩ (by dsimp only; omega) (wk0 (by repeat (first | exact subσ.nil _ | refine subσ.cons rfl ?_)) (by repeat' (first | constructor | apply Sub.suf)))
 ·
  intro h8
  try dsimp only at hk
  try simp only [decide_eq_true_eq, decide_eq_false_iff_not, Bool.not_eq_true', Bool.not_eq_false', Int.not_lt, Int.not_le, ge_iff_le, Bool.not_true, Bool.not_false] at h8
  rw [List.take_of_length_le (by omega)]
  refine cexit ?_
  refine xthen ?_
  refine xthen ?_
  refine xblock ?_
  refine nthen ?_
  refine cs ?_
  refine cr ?_
  refine ls (op (p_move rfl) rfl) ?_
  refine ls (op (p_asg rfl) rfl) ?_
  refine ln ?_
  refine nthen ?_
  refine cret ?_
  refine xret (fun _ _ h => h) ?_
  refine rret (is := []) () (Or.inl rfl) (Res.t rfl Res.d) (rfl) rfl (by repeat' (first | constructor | apply Sub.suf))

set_option maxRecDepth 100000 in
theorem c_r2Text (T : List File) (A : Option Addr) (c : Nat) (hn : T.length ≤ 2000000) (hf : Tfit T) (hB : (textT T).length ≤ 100000000) : Con Tryz.prog 26 [.slice A T.length c] [] [slA A T] Unit (fun _ => .string (toB (textT T))) (fun _ => []) (fun _ => []) := by
 refine con Tryz.func26 rfl Tryz.ntmps26 rfl ?_
 intro M0 F0 w0
 refine cs ?_
 refine cr ?_
 refine ls (op (p_asg rfl) rfl) ?_
 refine ln ?_
 refine nthen ?_
 refine cs ?_
 refine cr ?_
 refine ls (op (p_asg rfl) rfl) ?_
 refine ln ?_
 refine nthen ?_
 refine cs ?_
 refine cs ?_
 refine cr ?_
 refine ls (op (p_asg rfl) rfl) ?_
 refine ln ?_
 refine nthen ?_
 refine cb ?_
 refine cl (ι := {k : Nat // k ≤ T.length}) (fun i => St M0 F0 w0 38 [(0, .slice A T.length c), (3, .string (toB (textT (T.take i.1)))), (4, .int .i64 (i.1 : Int))] [] [slA A T]) (fun i => T.length - i.1) ⟨0, Nat.zero_le _⟩ (wk0 (by repeat (first | exact subσ.nil _ | refine subσ.cons rfl ?_)) (by repeat' (first | constructor | apply Sub.suf))) ?_
 rintro ⟨k, hk⟩
 refine cmono (S' := St M0 F0 w0 38 [(0, .slice A T.length c), (3, .string (toB (textT (T.take k)))), (4, .int .i64 (k : Int))] [] [slA A T]) (fun _ _ h => h) ?_
 refine cs ?_
 refine cs ?_
 refine cr ?_
 refine ls (op (p_move rfl) rfl) ?_
 refine ls (op (p_move rfl) rfl) ?_
 refine ls (op (p_lenl rfl Tryz.underlying27) rfl) ?_
 refine ls (op (p_icmp rfl rfl rfl) rfl) ?_
 refine ln ?_
 refine nthen ?_
 refine cc rfl ?_ ?_
 ·
  intro h8
  try dsimp only at hk
  try simp only [decide_eq_true_eq, decide_eq_false_iff_not, Bool.not_eq_true', Bool.not_eq_false', Int.not_lt, Int.not_le, ge_iff_le, Bool.not_true, Bool.not_false] at h8
  have hk1 : k < T.length := by omega
  have hfk := hf _ (List.getElem_mem hk1)
  have hfs : textT (T.take (k + 1)) = textT (T.take k) ++ fileT T[k] := flat_succ fileT hk1
  have hfl : (textT (T.take (k + 1))).length ≤ (textT T).length := flat_le _ T (k + 1)
  have hfx : (fileT T[k]).length = T[k].1.size + 1 + (Lib.decDigits T[k].2.length).length + 1 + (lineT T[k].2).length := by simp only [fileT, List.length_append, ofB_length, List.length_singleton]
  have hsz : (textT (T.take k)).length + (T[k].1.size + 1 + (Lib.decDigits T[k].2.length).length + 1 + (lineT T[k].2).length) ≤ 100000000 := by rw [hfs, List.length_append, hfx] at hfl; omega
  have u9 : Unit := ()
  have hs2 : (⟨#[32]⟩ : ByteArray).size = 1 := rfl
  have hs1 : ([10] : List UInt8).length = 1 := rfl
  refine cskip ?_
  refine nthen ?_
  refine cs ?_
  refine cb ?_
  refine elC (by repeat' constructor) k (List.getElem?_eq_getElem (l := T) hk1) ?_; rintro zbp zop zyp hAp
  refine cutC (S' := fun a w => ∃ (u9 : Unit), St M0 F0 w0 38 [(0, .slice A T.length c), (3, .string (toB (textT (T.take (k + 1))))), (4, .int .i64 (k : Int))] [] [slA A T] a w) ?_ ?_
  ·
   refine cdB [14, 16, 17, 24] [(5, zbp, zop + k * Rp.size File, _), (12, zbp, zop + k * Rp.size File + 1, _), (23, zbp, zop + k * Rp.size File + 1, _)] TryzX.mixed (by kernel_rfl) (by kernel_rfl) (TOk.t (isInS (by repeat' constructor) (k := 0) rfl (z := 1) (by repeat (first | exact Cut.d | apply Cut.t | apply Cut.s))) (TOk.t (isInS (by repeat' constructor) (k := 1) rfl (z := 1) (by repeat (first | exact Cut.d | apply Cut.t | apply Cut.s))) (TOk.t (isInS (by repeat' constructor) (k := 1) rfl (z := 1) (by repeat (first | exact Cut.d | apply Cut.t | apply Cut.s))) TOk.d))) ?_
   refine tkB 0 rfl (by kernel_rfl) (fun _ _ _ h => h) gnone (TTany _) (p_move rfl) rfl ?_
   refine tkB 1 rfl (by kernel_rfl) (fun _ _ _ h => h) gnone (TTany _) (p_move rfl) rfl ?_
   refine tkB 2 rfl (by kernel_rfl) (fun _ _ _ h => h) gnone (TTany _) (p_move rfl) rfl ?_
   refine tkB 3 rfl (by kernel_rfl) (fun _ _ _ h => h) gnone (TTany _) (p_ia k hAp hk1 rfl Tryz.underlying27 Tryz.sizeOf48 rfl rfl) rfl ?_
   refine tkB 4 rfl (by kernel_rfl) (fun _ _ _ h => h) gnone (TTany _) (p_fa fa48_0 rfl) rfl ?_
   refine tkB 5 rfl (by kernel_rfl) (fun _ _ _ h => h) gnone (TTat (List.Mem.head _)) (p_ld Tryz.isAgg9 rfl) rfl ?_
   refine tkB 6 rfl (by kernel_rfl) (fun _ _ _ h => h) gnone (TTany _) (p_cat rfl rfl (by rw [toB_size]; omega)) rfl ?_
   refine tkB 7 rfl (by kernel_rfl) (fun _ _ _ h => h) gnone (TTany _) (p_cat rfl rfl (by rw [ByteArray.size_append, toB_size]; omega)) rfl ?_
   refine tkB 8 rfl (by kernel_rfl) (fun _ _ _ h => h) gnone (TTany _) (p_move rfl) rfl ?_
   refine tkB 9 rfl (by kernel_rfl) (fun _ _ _ h => h) gnone (TTany _) (p_move rfl) rfl ?_
   refine tkB 10 rfl (by kernel_rfl) (fun _ _ _ h => h) gnone (TTany _) (p_ia k hAp hk1 rfl Tryz.underlying27 Tryz.sizeOf48 rfl rfl) rfl ?_
   refine tkB 11 rfl (by kernel_rfl) (fun _ _ _ h => h) gnone (TTany _) (p_fa fa48_1 rfl) rfl ?_
   refine tkB 12 rfl (by kernel_rfl) (fun _ _ _ h => h) gnone (TTat (List.Mem.tail _ (List.Mem.head _))) (p_ld Tryz.isAgg35 rfl) rfl ?_
   refine tkB 13 rfl (by kernel_rfl) (fun _ _ _ h => h) gnone (TTany _) (p_lenl rfl Tryz.underlying35) rfl ?_
   refine tkB 19 rfl (by kernel_rfl) (fun _ _ _ h => h) gnone (TTany _) (p_move rfl) rfl ?_
   refine tkB 20 rfl (by kernel_rfl) (fun _ _ _ h => h) gnone (TTany _) (p_move rfl) rfl ?_
   refine tkB 21 rfl (by kernel_rfl) (fun _ _ _ h => h) gnone (TTany _) (p_ia k hAp hk1 rfl Tryz.underlying27 Tryz.sizeOf48 rfl rfl) rfl ?_
   refine tkB 22 rfl (by kernel_rfl) (fun _ _ _ h => h) gnone (TTany _) (p_fa fa48_1 rfl) rfl ?_
   refine tkB 23 rfl (by kernel_rfl) (fun _ _ _ h => h) gnone (TTat (List.Mem.tail _ (List.Mem.tail _ (List.Mem.head _)))) (p_ld Tryz.isAgg35 rfl) rfl ?_
   refine dallB (is := [14, 16]) (by kernel_rfl) rfl ?_
   intro i hi; simp only [List.mem_cons, List.mem_nil_iff, or_false] at hi; rcases hi with rfl | rfl
   ·
    refine doRB rfl (o_call (is := []) Tryz.call62 (c_rDigits T[k].2.length (by omega)) rfl rfl (by repeat' (first | constructor | apply Sub.suf)) rfl) (TOk.t (isBoxE fun _ => isInS (by repeat' constructor) (k := 0) rfl (z := 1) (by repeat (first | exact Cut.d | apply Cut.t | apply Cut.s))) (TOk.xP 14 [13] (by kernel_rfl) (TOk.t (isBoxE fun _ => isInS (by repeat' constructor) (k := 1) rfl (z := 1) (by repeat (first | exact Cut.d | apply Cut.t | apply Cut.s))) TOk.d))) ?_
    refine eaB ?_; intro x25
    refine tkB 15 rfl (by kernel_rfl) (fun _ _ _ h => h) gnone (TTany _) (p_cat rfl rfl (by rw [ByteArray.size_append, ByteArray.size_append, toB_size, toB_size]; omega)) rfl ?_
    refine dallB (is := [16, 24]) (by kernel_rfl) rfl ?_
    intro i hi; simp only [List.mem_cons, List.mem_nil_iff, or_false] at hi; rcases hi with rfl | rfl
    ·
     refine doRB rfl (o_bsl [(10 : UInt8)] Tryz.underlying87 Tryz.sizeOf5 Tryz.zeroValue5 rfl (Enum.t Enum.d) (RV.t () rfl Sub.d RV.d) rfl (by decide) (by decide) rfl) (TOk.t (isBoxE fun _ => isInS (by repeat' constructor) (k := 0) rfl (z := 1) (by repeat (first | exact Cut.d | apply Cut.t | apply Cut.s))) (TOk.xP 14 [13] (by kernel_rfl) (TOk.t (isBoxE fun _ => isInS (by repeat' constructor) (k := 1) rfl (z := 1) (by repeat (first | exact Cut.d | apply Cut.t | apply Cut.s))) TOk.d))) ?_
     refine eaB ?_; intro b27
     refine dallB (is := [17, 24]) (by kernel_rfl) rfl ?_
     intro i hi; simp only [List.mem_cons, List.mem_nil_iff, or_false] at hi; rcases hi with rfl | rfl
     ·
      refine doRB rfl (o_bts (i := 0) Tryz.underlying87 Tryz.underlying5 Tryz.underlying9 (by simp) rfl rfl rfl) (TOk.t (isInS (by repeat' constructor) (k := 0) rfl (z := 1) (by repeat (first | exact Cut.d | apply Cut.t | apply Cut.s))) (TOk.xP 14 [13] (by kernel_rfl) (TOk.t (isInS (by repeat' constructor) (k := 1) rfl (z := 1) (by repeat (first | exact Cut.d | apply Cut.t | apply Cut.s))) TOk.d))) ?_
      refine tkB 18 rfl (by kernel_rfl) (fun _ _ _ h => h) gnone (TTany _) (p_cat rfl rfl (by rw [ByteArray.size_append, ByteArray.size_append, ByteArray.size_append, toB_size, toB_size, toB_size]; omega)) rfl ?_
      refine dfB 24 (by kernel_rfl) ?_
      refine doRB rfl (o_call (is := []) Tryz.call63 (c_r1Text T[k].2 zyp.1 zyp.2 hfk (by omega)) rfl rfl (by repeat' (first | constructor | apply Sub.suf)) rfl) (TOk.t (isBoxE fun _ => isInS (by repeat' constructor) (k := 0) rfl (z := 1) (by repeat (first | exact Cut.d | apply Cut.t | apply Cut.s))) (TOk.xP 14 [13] (by kernel_rfl) (TOk.xP 24 [] (by kernel_rfl) TOk.d))) ?_
      refine eaB ?_; intro x35
      refine tkB 25 rfl (by kernel_rfl) (fun _ _ _ h => h) gnone (TTany _) (p_cat rfl rfl (by rw [ByteArray.size_append, ByteArray.size_append, ByteArray.size_append, ByteArray.size_append, toB_size, toB_size, toB_size, toB_size]; omega)) rfl ?_
      refine fixB (congrArg Value.string (text_step hk1)) ?_
      refine tkB 26 rfl (by kernel_rfl) (fun _ _ _ h => h) gnone (TTany _) (p_asg rfl) rfl ?_
      refine dnB (by kernel_rfl) (nmid (fun a w h => by first | exact ⟨u9, wk (is := []) (by repeat (first | exact subσ.nil _ | refine subσ.cons rfl ?_)) rfl (by repeat' (first | constructor | apply Sub.suf)) a w h⟩))
     ·
      refine doRB rfl (o_call (is := []) Tryz.call63 (c_r1Text T[k].2 zyp.1 zyp.2 hfk (by omega)) rfl rfl (by repeat' (first | constructor | apply Sub.suf)) rfl) (TOk.t (isBoxE fun _ => isInS (by repeat' constructor) (k := 0) rfl (z := 1) (by repeat (first | exact Cut.d | apply Cut.t | apply Cut.s))) (TOk.xP 14 [13] (by kernel_rfl) (TOk.xP 24 [] (by kernel_rfl) TOk.d))) ?_
      refine eaB ?_; intro x35
      refine dfB 17 (by kernel_rfl) ?_
      refine doRB rfl (o_bts (i := 0) Tryz.underlying87 Tryz.underlying5 Tryz.underlying9 (by simp) rfl rfl rfl) (TOk.t (isInS (by repeat' constructor) (k := 0) rfl (z := 1) (by repeat (first | exact Cut.d | apply Cut.t | apply Cut.s))) (TOk.xP 14 [13] (by kernel_rfl) (TOk.xP 24 [] (by kernel_rfl) TOk.d))) ?_
      refine tkB 18 rfl (by kernel_rfl) (fun _ _ _ h => h) gnone (TTany _) (p_cat rfl rfl (by rw [ByteArray.size_append, ByteArray.size_append, ByteArray.size_append, toB_size, toB_size, toB_size]; omega)) rfl ?_
      refine tkB 25 rfl (by kernel_rfl) (fun _ _ _ h => h) gnone (TTany _) (p_cat rfl rfl (by rw [ByteArray.size_append, ByteArray.size_append, ByteArray.size_append, ByteArray.size_append, toB_size, toB_size, toB_size, toB_size]; omega)) rfl ?_
      refine fixB (congrArg Value.string (text_step hk1)) ?_
      refine tkB 26 rfl (by kernel_rfl) (fun _ _ _ h => h) gnone (TTany _) (p_asg rfl) rfl ?_
      refine dnB (by kernel_rfl) (nmid (fun a w h => by first | exact ⟨u9, wk (is := []) (by repeat (first | exact subσ.nil _ | refine subσ.cons rfl ?_)) rfl (by repeat' (first | constructor | apply Sub.suf)) a w h⟩))
    ·
     refine doRB rfl (o_call (is := []) Tryz.call63 (c_r1Text T[k].2 zyp.1 zyp.2 hfk (by omega)) rfl rfl (by repeat' (first | constructor | apply Sub.suf)) rfl) (TOk.t (isBoxE fun _ => isInS (by repeat' constructor) (k := 0) rfl (z := 1) (by repeat (first | exact Cut.d | apply Cut.t | apply Cut.s))) (TOk.xP 14 [13] (by kernel_rfl) (TOk.xP 24 [] (by kernel_rfl) TOk.d))) ?_
     refine eaB ?_; intro x35
     refine dfB 16 (by kernel_rfl) ?_
     refine doRB rfl (o_bsl [(10 : UInt8)] Tryz.underlying87 Tryz.sizeOf5 Tryz.zeroValue5 rfl (Enum.t Enum.d) (RV.t () rfl Sub.d RV.d) rfl (by decide) (by decide) rfl) (TOk.t (isBoxE fun _ => isInS (by repeat' constructor) (k := 0) rfl (z := 1) (by repeat (first | exact Cut.d | apply Cut.t | apply Cut.s))) (TOk.xP 14 [13] (by kernel_rfl) (TOk.xP 24 [] (by kernel_rfl) TOk.d))) ?_
     refine eaB ?_; intro b27
     refine dfB 17 (by kernel_rfl) ?_
     refine doRB rfl (o_bts (i := 0) Tryz.underlying87 Tryz.underlying5 Tryz.underlying9 (by simp) rfl rfl rfl) (TOk.t (isInS (by repeat' constructor) (k := 0) rfl (z := 1) (by repeat (first | exact Cut.d | apply Cut.t | apply Cut.s))) (TOk.xP 14 [13] (by kernel_rfl) (TOk.xP 24 [] (by kernel_rfl) TOk.d))) ?_
     refine tkB 18 rfl (by kernel_rfl) (fun _ _ _ h => h) gnone (TTany _) (p_cat rfl rfl (by rw [ByteArray.size_append, ByteArray.size_append, ByteArray.size_append, toB_size, toB_size, toB_size]; omega)) rfl ?_
     refine tkB 25 rfl (by kernel_rfl) (fun _ _ _ h => h) gnone (TTany _) (p_cat rfl rfl (by rw [ByteArray.size_append, ByteArray.size_append, ByteArray.size_append, ByteArray.size_append, toB_size, toB_size, toB_size, toB_size]; omega)) rfl ?_
     refine fixB (congrArg Value.string (text_step hk1)) ?_
     refine tkB 26 rfl (by kernel_rfl) (fun _ _ _ h => h) gnone (TTany _) (p_asg rfl) rfl ?_
     refine dnB (by kernel_rfl) (nmid (fun a w h => by first | exact ⟨u9, wk (is := []) (by repeat (first | exact subσ.nil _ | refine subσ.cons rfl ?_)) rfl (by repeat' (first | constructor | apply Sub.suf)) a w h⟩))
   ·
    refine doRB rfl (o_bsl [(10 : UInt8)] Tryz.underlying87 Tryz.sizeOf5 Tryz.zeroValue5 rfl (Enum.t Enum.d) (RV.t () rfl Sub.d RV.d) rfl (by decide) (by decide) rfl) (TOk.t (isBoxE fun _ => isInS (by repeat' constructor) (k := 0) rfl (z := 1) (by repeat (first | exact Cut.d | apply Cut.t | apply Cut.s))) (TOk.t (isBoxE fun _ => isInS (by repeat' constructor) (k := 1) rfl (z := 1) (by repeat (first | exact Cut.d | apply Cut.t | apply Cut.s))) (TOk.t (isBoxE fun _ => isInS (by repeat' constructor) (k := 1) rfl (z := 1) (by repeat (first | exact Cut.d | apply Cut.t | apply Cut.s))) TOk.d))) ?_
    refine eaB ?_; intro b27
    refine dallB (is := [14, 17]) (by kernel_rfl) rfl ?_
    intro i hi; simp only [List.mem_cons, List.mem_nil_iff, or_false] at hi; rcases hi with rfl | rfl
    ·
     refine doRB rfl (o_call (is := []) Tryz.call62 (c_rDigits T[k].2.length (by omega)) rfl rfl (by repeat' (first | constructor | apply Sub.suf)) rfl) (TOk.t (isBoxE fun _ => isInS (by repeat' constructor) (k := 0) rfl (z := 1) (by repeat (first | exact Cut.d | apply Cut.t | apply Cut.s))) (TOk.xP 14 [13] (by kernel_rfl) (TOk.t (isBoxE fun _ => isInS (by repeat' constructor) (k := 1) rfl (z := 1) (by repeat (first | exact Cut.d | apply Cut.t | apply Cut.s))) TOk.d))) ?_
     refine eaB ?_; intro x25
     refine tkB 15 rfl (by kernel_rfl) (fun _ _ _ h => h) gnone (TTany _) (p_cat rfl rfl (by rw [ByteArray.size_append, ByteArray.size_append, toB_size, toB_size]; omega)) rfl ?_
     refine dallB (is := [17, 24]) (by kernel_rfl) rfl ?_
     intro i hi; simp only [List.mem_cons, List.mem_nil_iff, or_false] at hi; rcases hi with rfl | rfl
     ·
      refine doRB rfl (o_bts (i := 0) Tryz.underlying87 Tryz.underlying5 Tryz.underlying9 (by simp) rfl rfl rfl) (TOk.t (isInS (by repeat' constructor) (k := 0) rfl (z := 1) (by repeat (first | exact Cut.d | apply Cut.t | apply Cut.s))) (TOk.xP 14 [13] (by kernel_rfl) (TOk.t (isInS (by repeat' constructor) (k := 1) rfl (z := 1) (by repeat (first | exact Cut.d | apply Cut.t | apply Cut.s))) TOk.d))) ?_
      refine tkB 18 rfl (by kernel_rfl) (fun _ _ _ h => h) gnone (TTany _) (p_cat rfl rfl (by rw [ByteArray.size_append, ByteArray.size_append, ByteArray.size_append, toB_size, toB_size, toB_size]; omega)) rfl ?_
      refine dfB 24 (by kernel_rfl) ?_
      refine doRB rfl (o_call (is := []) Tryz.call63 (c_r1Text T[k].2 zyp.1 zyp.2 hfk (by omega)) rfl rfl (by repeat' (first | constructor | apply Sub.suf)) rfl) (TOk.t (isBoxE fun _ => isInS (by repeat' constructor) (k := 0) rfl (z := 1) (by repeat (first | exact Cut.d | apply Cut.t | apply Cut.s))) (TOk.xP 14 [13] (by kernel_rfl) (TOk.xP 24 [] (by kernel_rfl) TOk.d))) ?_
      refine eaB ?_; intro x35
      refine tkB 25 rfl (by kernel_rfl) (fun _ _ _ h => h) gnone (TTany _) (p_cat rfl rfl (by rw [ByteArray.size_append, ByteArray.size_append, ByteArray.size_append, ByteArray.size_append, toB_size, toB_size, toB_size, toB_size]; omega)) rfl ?_
      refine fixB (congrArg Value.string (text_step hk1)) ?_
      refine tkB 26 rfl (by kernel_rfl) (fun _ _ _ h => h) gnone (TTany _) (p_asg rfl) rfl ?_
      refine dnB (by kernel_rfl) (nmid (fun a w h => by first | exact ⟨u9, wk (is := []) (by repeat (first | exact subσ.nil _ | refine subσ.cons rfl ?_)) rfl (by repeat' (first | constructor | apply Sub.suf)) a w h⟩))
     ·
      refine doRB rfl (o_call (is := []) Tryz.call63 (c_r1Text T[k].2 zyp.1 zyp.2 hfk (by omega)) rfl rfl (by repeat' (first | constructor | apply Sub.suf)) rfl) (TOk.t (isBoxE fun _ => isInS (by repeat' constructor) (k := 0) rfl (z := 1) (by repeat (first | exact Cut.d | apply Cut.t | apply Cut.s))) (TOk.xP 14 [13] (by kernel_rfl) (TOk.xP 24 [] (by kernel_rfl) TOk.d))) ?_
      refine eaB ?_; intro x35
      refine dfB 17 (by kernel_rfl) ?_
      refine doRB rfl (o_bts (i := 0) Tryz.underlying87 Tryz.underlying5 Tryz.underlying9 (by simp) rfl rfl rfl) (TOk.t (isInS (by repeat' constructor) (k := 0) rfl (z := 1) (by repeat (first | exact Cut.d | apply Cut.t | apply Cut.s))) (TOk.xP 14 [13] (by kernel_rfl) (TOk.xP 24 [] (by kernel_rfl) TOk.d))) ?_
      refine tkB 18 rfl (by kernel_rfl) (fun _ _ _ h => h) gnone (TTany _) (p_cat rfl rfl (by rw [ByteArray.size_append, ByteArray.size_append, ByteArray.size_append, toB_size, toB_size, toB_size]; omega)) rfl ?_
      refine tkB 25 rfl (by kernel_rfl) (fun _ _ _ h => h) gnone (TTany _) (p_cat rfl rfl (by rw [ByteArray.size_append, ByteArray.size_append, ByteArray.size_append, ByteArray.size_append, toB_size, toB_size, toB_size, toB_size]; omega)) rfl ?_
      refine fixB (congrArg Value.string (text_step hk1)) ?_
      refine tkB 26 rfl (by kernel_rfl) (fun _ _ _ h => h) gnone (TTany _) (p_asg rfl) rfl ?_
      refine dnB (by kernel_rfl) (nmid (fun a w h => by first | exact ⟨u9, wk (is := []) (by repeat (first | exact subσ.nil _ | refine subσ.cons rfl ?_)) rfl (by repeat' (first | constructor | apply Sub.suf)) a w h⟩))
    ·
     refine doRB rfl (o_bts (i := 0) Tryz.underlying87 Tryz.underlying5 Tryz.underlying9 (by simp) rfl rfl rfl) (TOk.t (isInS (by repeat' constructor) (k := 0) rfl (z := 1) (by repeat (first | exact Cut.d | apply Cut.t | apply Cut.s))) (TOk.t (isInS (by repeat' constructor) (k := 1) rfl (z := 1) (by repeat (first | exact Cut.d | apply Cut.t | apply Cut.s))) (TOk.t (isInS (by repeat' constructor) (k := 1) rfl (z := 1) (by repeat (first | exact Cut.d | apply Cut.t | apply Cut.s))) TOk.d))) ?_
     refine dfB 14 (by kernel_rfl) ?_
     refine doRB rfl (o_call (is := []) Tryz.call62 (c_rDigits T[k].2.length (by omega)) rfl rfl (by repeat' (first | constructor | apply Sub.suf)) rfl) (TOk.t (isBoxE fun _ => isInS (by repeat' constructor) (k := 0) rfl (z := 1) (by repeat (first | exact Cut.d | apply Cut.t | apply Cut.s))) (TOk.xP 14 [13] (by kernel_rfl) (TOk.t (isBoxE fun _ => isInS (by repeat' constructor) (k := 1) rfl (z := 1) (by repeat (first | exact Cut.d | apply Cut.t | apply Cut.s))) TOk.d))) ?_
     refine eaB ?_; intro x25
     refine tkB 15 rfl (by kernel_rfl) (fun _ _ _ h => h) gnone (TTany _) (p_cat rfl rfl (by rw [ByteArray.size_append, ByteArray.size_append, toB_size, toB_size]; omega)) rfl ?_
     refine tkB 18 rfl (by kernel_rfl) (fun _ _ _ h => h) gnone (TTany _) (p_cat rfl rfl (by rw [ByteArray.size_append, ByteArray.size_append, ByteArray.size_append, toB_size, toB_size, toB_size]; omega)) rfl ?_
     refine dfB 24 (by kernel_rfl) ?_
     refine doRB rfl (o_call (is := []) Tryz.call63 (c_r1Text T[k].2 zyp.1 zyp.2 hfk (by omega)) rfl rfl (by repeat' (first | constructor | apply Sub.suf)) rfl) (TOk.t (isBoxE fun _ => isInS (by repeat' constructor) (k := 0) rfl (z := 1) (by repeat (first | exact Cut.d | apply Cut.t | apply Cut.s))) (TOk.xP 14 [13] (by kernel_rfl) (TOk.xP 24 [] (by kernel_rfl) TOk.d))) ?_
     refine eaB ?_; intro x35
     refine tkB 25 rfl (by kernel_rfl) (fun _ _ _ h => h) gnone (TTany _) (p_cat rfl rfl (by rw [ByteArray.size_append, ByteArray.size_append, ByteArray.size_append, ByteArray.size_append, toB_size, toB_size, toB_size, toB_size]; omega)) rfl ?_
     refine fixB (congrArg Value.string (text_step hk1)) ?_
     refine tkB 26 rfl (by kernel_rfl) (fun _ _ _ h => h) gnone (TTany _) (p_asg rfl) rfl ?_
     refine dnB (by kernel_rfl) (nmid (fun a w h => by first | exact ⟨u9, wk (is := []) (by repeat (first | exact subσ.nil _ | refine subσ.cons rfl ?_)) rfl (by repeat' (first | constructor | apply Sub.suf)) a w h⟩))
  ·
   refine nex fun u9 => ?_
   refine nblock ?_
   refine nthen ?_
   refine cr ?_
   refine ls (op (p_move rfl) rfl) ?_
   refine ls (op (p_add rfl rfl (by omega)) rfl) ?_
   refine ls (op (p_asg rfl) rfl) ?_
   refine ln ?_
   refine nnext ⟨k + 1, hk1⟩ (by dsimp only; omega) (wk0 (by repeat (first | exact subσ.nil _ | refine subσ.cons rfl ?_)) (by repeat' (first | constructor | apply Sub.suf)))
 ·
  intro h8
  try dsimp only at hk
  try simp only [decide_eq_true_eq, decide_eq_false_iff_not, Bool.not_eq_true', Bool.not_eq_false', Int.not_lt, Int.not_le, ge_iff_le, Bool.not_true, Bool.not_false] at h8
  rw [List.take_of_length_le (by omega)]
  refine cexit ?_
  refine xthen ?_
  refine xthen ?_
  refine xblock ?_
  refine nthen ?_
  refine cs ?_
  refine cr ?_
  refine ls (op (p_move rfl) rfl) ?_
  refine ls (op (p_asg rfl) rfl) ?_
  refine ln ?_
  refine nthen ?_
  refine cret ?_
  refine xret (fun _ _ h => h) ?_
  refine rret (is := []) () (Or.inl rfl) (Res.t rfl Res.d) (rfl) rfl (by repeat' (first | constructor | apply Sub.suf))

set_option maxRecDepth 100000 in
theorem c_TreeAll (l : List TOp) (A : Option Addr) (c : Nat) (hl : l.length ≤ 1048576) (hM : omany l ≤ 1048576) : Con Tryz.prog 4 [.slice A l.length c] [] [slA A l, tabA Tryz.prog] Unit (fun _ => .bool true) (fun _ => []) (fun _ => []) := by
 have hMo : ∀ o ∈ l, o.many ≤ 2000000 := fun o ho => by have := omany_mem ho; omega
 refine con Tryz.func4 rfl Tryz.ntmps4 rfl ?_
 intro M0 F0 w0
 refine cs ?_
 refine cr ?_
 refine ls (op (p_asg rfl) rfl) ?_
 refine ln ?_
 refine nthen ?_
 refine cs ?_
 refine cs ?_
 refine cr ?_
 refine ls (op (p_move rfl) rfl) ?_
 refine ls (o_call (is := []) Tryz.call15 (c_Few02 l A c (by omega) (by omega)) rfl rfl (by repeat' (first | constructor | apply Sub.suf)) rfl) ?_
 refine le ?_; intro x17
 refine ls (op (p_icmp rfl rfl rfl) rfl) ?_
 refine ln ?_
 refine nthen ?_
 refine cc rfl ?_ ?_
 ·
  intro h18
  skip
  refine cs ?_
  refine cr ?_
  refine ls (o_call (is := []) Tryz.call16 (c_alive02) rfl rfl (by repeat' (first | constructor | apply Sub.suf)) rfl) ?_
  refine le ?_; intro x19
  refine ls (op (p_asg rfl) rfl) ?_
  refine ln ?_
  refine nthen ?_
  refine cret ?_
  refine xret (fun _ _ h => h) ?_
  refine rret (is := []) () (Or.inl rfl) (Res.t rfl Res.d) (rfl) rfl (by repeat' (first | constructor | apply Sub.suf))
 ·
  intro h18
  have hfe : ¬ 0 < fewO l := by have h := h18; simp at h; omega
  have hfy := few_yes hfe
  refine cskip ?_
  refine nthen ?_
  refine cs ?_
  refine cr ?_
  refine ls (o_call (is := []) Tryz.call22 (c_tNew) rfl rfl (by repeat' (first | constructor | apply Sub.suf)) rfl) ?_
  refine le ?_; rintro ⟨p0, b0⟩
  refine ls (op (p_asg rfl) rfl) ?_
  refine ln ?_
  refine nthen ?_
  refine cs ?_
  refine cmono (fun a w h => nilSl (α := File) h) ?_
  refine cr ?_
  refine ls (op (p_asg rfl) rfl) ?_
  refine ln ?_
  refine nthen ?_
  refine cs ?_
  refine cs ?_
  refine cr ?_
  refine ls (op (p_move rfl) rfl) ?_
  refine ls (op (p_lenl rfl Tryz.underlying22) rfl) ?_
  refine ls (op (p_move rfl) rfl) ?_
  refine ln ?_
  refine nthen ?_
  refine cb ?_
  refine cl (ι := {q : Nat × (Nat × Nat) × (Option Addr × Nat) // q.1 ≤ l.length}) (fun i => St M0 F0 w0 92 [(21, .slice A l.length c), (22, .int .i64 (l.length : Int)), (23, .int .i64 (i.1.1 : Int)), (3, .pointer (some ⟨i.1.2.1.1, 0, none⟩)), (4, .slice i.1.2.2.1 (madeT (l.take i.1.1)).length i.1.2.2.2)] [box i.1.2.1.1 85 [.map (some i.1.2.1.2)], tr i.1.2.1.2 (madeT (l.take i.1.1))] [slA A l, slA i.1.2.2.1 (madeT (l.take i.1.1)), tabA Tryz.prog]) (fun i => l.length - i.1.1) ⟨(0, (p0, b0), (none, 0)), Nat.zero_le _⟩ (wk (is := [0, 0]) (by repeat (first | exact subσ.nil _ | refine subσ.cons rfl ?_)) rfl (by repeat' (first | constructor | apply Sub.suf))) ?_
  rintro ⟨⟨k, ⟨p, b⟩, ⟨A1, c1⟩⟩, hk⟩
  refine cmono (S' := St M0 F0 w0 92 [(21, .slice A l.length c), (22, .int .i64 (l.length : Int)), (23, .int .i64 (k : Int)), (3, .pointer (some ⟨p, 0, none⟩)), (4, .slice A1 (madeT (l.take k)).length c1)] [box p 85 [.map (some b)], tr b (madeT (l.take k))] [slA A l, slA A1 (madeT (l.take k)), tabA Tryz.prog]) (fun _ _ h => h) ?_
  refine cs ?_
  refine cr ?_
  refine ls (op (p_icmp rfl rfl rfl) rfl) ?_
  refine ln ?_
  refine nthen ?_
  refine cs ?_
  refine cc rfl ?_ ?_
  ·
   intro h24
   dsimp only at hk
   try simp only [decide_eq_true_eq, decide_eq_false_iff_not, Bool.not_eq_true', Bool.not_eq_false', Int.not_lt, Int.not_le, ge_iff_le, Bool.not_true, Bool.not_false] at h24
   have hk1 : k < l.length := by omega
   have hok : l[k].many ≤ 2000000 := hMo _ (List.getElem_mem hk1)
   have htk : (l.take k).length = k := by rw [List.length_take]; omega
   have hso := madeT_sor (l.take k)
   have htok : Tok (l.take k).length 2000000 (madeT (l.take k)) := madeT_tok fun o ho => hMo o (List.mem_of_mem_take ho)
   have hlen := htok.len
   have hms := madeT_succ hk1
   obtain ⟨ht1, ht2, ht3⟩ := few_take hfe (k + 1)
   have hlen3 := ht3.len
   have htk3 : (l.take (k + 1)).length = k + 1 := by rw [List.length_take]; omega
   have hfit : Tfit (madeT (l.take (k + 1))) := fun x hx => by have := (ht3.fit x hx).1; omega
   refine cskip ?_
   refine nthen ?_
   refine cs ?_
   refine cb ?_
   refine cs ?_
   refine elC (by repeat' constructor) k (List.getElem?_eq_getElem (l := l) hk1) ?_; rintro zbp zop zyp hAp
   refine cr ?_
   refine ls (op (p_ia k hAp hk1 rfl Tryz.underlying22 Tryz.sizeOf37 rfl rfl) rfl) ?_
   refine ls (o_ldj Tryz.isAgg37 Tryz.sizeOf37 rfl (by repeat' constructor) 0 rfl (by repeat (first | exact Cut.d | apply Cut.t | apply Cut.s)) rfl) ?_
   refine ls (o_alloc Tryz.zeroValue37 rfl rfl) ?_
   refine le ?_; intro b6
   refine ls (o_st rfl Tryz.sizeOf37 rfl rfl rfl rfl rfl (by repeat' constructor) (by repeat' constructor) (by repeat' constructor)) ?_
   refine ln ?_
   refine nthen ?_
   refine cs ?_
   refine cs ?_
   refine cr ?_
   refine ls (op (p_move rfl) rfl) ?_
   refine ls (op (p_ptrnil Tryz.underlying25 rfl rfl) rfl) ?_
   refine ln ?_
   refine nthen ?_
   refine cc rfl (fun h => by cases h) (fun h => ?_)
   refine cskip ?_
   refine nthen ?_
   refine cs ?_
   refine cr ?_
   refine ls (op (p_move rfl) rfl) ?_
   refine ls (o_ldw Tryz.isAgg37 Tryz.sizeOf37 rfl (by repeat' constructor) (by rfl) rfl) ?_
   refine ls (o_call (is := []) Tryz.call23 (c_rDo (madeT (l.take k)) A1 c1 (by omega) l[k] zyp (TOp.fit_of hok) (fun u => (htok.get u).1)) rfl rfl (by repeat' (first | constructor | apply Sub.suf)) rfl) ?_
   refine le ?_; rintro ⟨⟨⟨S1, e1⟩, ⟨A2, c2⟩⟩, hq⟩
   refine ls (op (p_move rfl) rfl) ?_
   refine ls (op (p_ext rfl (by repeat' constructor)) rfl) ?_
   refine ls (op (p_ext rfl (by repeat' constructor)) rfl) ?_
   refine ls (op (p_asg rfl) rfl) ?_
   refine ls (op (p_asg rfl) rfl) ?_
   refine ln ?_
   refine nthen ?_
   refine cs ?_
   refine cr ?_
   refine ls (op (p_move rfl) rfl) ?_
   refine ls (op (p_asg rfl) rfl) ?_
   refine ln ?_
   refine nthen ?_
   refine cs ?_
   refine cr ?_
   refine ls (op (p_move rfl) rfl) ?_
   refine ls (o_ldw Tryz.isAgg37 Tryz.sizeOf37 rfl (by repeat' constructor) (by rfl) rfl) ?_
   refine ls (o_call (is := [1, 1]) Tryz.call24 (c_does02 p b (madeT (l.take k)) l[k] zyp (TOp.fit_of hok) (by omega)) rfl rfl (by repeat' (first | constructor | apply Sub.suf)) rfl) ?_
   refine le ?_; rintro ⟨⟨⟨p2, b2⟩, ⟨T2, e2⟩⟩, hd⟩
   dsimp only at hq hd
   rw [does_eq hso] at hd
   obtain ⟨rfl, rfl⟩ := Prod.mk.inj (hd.trans hq.symm)
   have hT2 : T2 = madeT (l.take (k + 1)) := by rw [hms, ← hd]
   subst hT2
   refine ls (op (p_move rfl) rfl) ?_
   refine ls (op (p_ext rfl (by repeat' constructor)) rfl) ?_
   refine ls (op (p_ext rfl (by repeat' constructor)) rfl) ?_
   refine ls (op (p_asg rfl) rfl) ?_
   refine ls (op (p_asg rfl) rfl) ?_
   refine ln ?_
   refine nthen ?_
   refine cs ?_
   refine cr ?_
   refine ls (op (p_move rfl) rfl) ?_
   refine ls (op (p_asg rfl) rfl) ?_
   refine ln ?_
   refine nthen ?_
   refine cs ?_
   refine cs ?_
   refine cr ?_
   refine ls (op (p_move rfl) rfl) ?_
   refine ls (op (p_ptrnil Tryz.underlying25 rfl rfl) rfl) ?_
   refine ls (op (p_move rfl) rfl) ?_
   refine lwant rfl rfl rfl rfl (op (p_move rfl) rfl) ?_
   refine lwant rfl rfl rfl rfl (op (p_move rfl) rfl) ?_
   refine lwant rfl rfl rfl rfl (op (p_icmp rfl rfl rfl) rfl) ?_
   refine fixL (congrArg Value.bool (bneI _)) ?_
   refine ls (op (p_pickf rfl rfl) rfl) ?_
   refine ls (op (p_move rfl) rfl) ?_
   refine lwant rfl rfl rfl rfl (op (p_move rfl) rfl) ?_
   refine lwant rfl rfl rfl rfl (o_call (is := [0, 0]) Tryz.call25 (c_Old02 p2 b2 (madeT (l.take (k + 1))) (by omega) hfit) rfl rfl (by repeat' (first | constructor | apply Sub.suf)) rfl) ?_
   refine le ?_; rintro ⟨A5, c5⟩
   refine lwant rfl rfl rfl rfl (op (p_move rfl) rfl) ?_
   refine lwant rfl rfl rfl rfl (o_call (is := []) Tryz.call18 (c_rSame02 (madeT (l.take (k + 1))) (madeT (l.take (k + 1))) A5 A2 c5 c2 (by omega) hfit) rfl rfl (by repeat' (first | constructor | apply Sub.suf)) rfl) ?_
   refine le ?_; intro x54
   refine fixL (congrArg Value.bool (decide_eq_true rfl)) ?_
   refine lwant rfl rfl rfl rfl (op (p_not rfl) rfl) ?_
   refine ls (op (p_pickf rfl rfl) rfl) ?_
   refine ls (op (p_move rfl) rfl) ?_
   refine lwant rfl rfl rfl rfl (op (p_move rfl) rfl) ?_
   refine lwant rfl rfl rfl rfl (o_call (is := [0, 0]) Tryz.call20 (c_tText p2 b2 (madeT (l.take (k + 1))) (by omega) hfit ht1 [tabA Tryz.prog] (fun x hx => l_ItoaT x.2.length (by have := hfit x hx; omega))) rfl rfl (by repeat' (first | constructor | apply Sub.suf)) rfl) ?_
   refine le ?_; intro x59
   refine lwant rfl rfl rfl rfl (op (p_move rfl) rfl) ?_
   refine lwant rfl rfl rfl rfl (o_call (is := []) Tryz.call26 (c_r2Text (madeT (l.take (k + 1))) A2 c2 (by omega) hfit ht1) rfl rfl (by repeat' (first | constructor | apply Sub.suf)) rfl) ?_
   refine le ?_; intro x61
   refine lwant rfl rfl rfl rfl (op (p_sne rfl rfl) rfl) ?_
   refine fixL (congrArg Value.bool (by simp : (!decide (toB (textT (madeT (l.take (k + 1)))) = toB (textT (madeT (l.take (k + 1)))))) = false)) ?_
   refine ls (op (p_pickf rfl rfl) rfl) ?_
   refine ln ?_
   refine nthen ?_
   refine cc rfl (fun h => by cases h) (fun h => ?_)
   refine cskip ?_
   refine nthen ?_
   refine cs ?_
   refine cr ?_
   refine ls (op (p_move rfl) rfl) ?_
   refine ls (o_call (is := [0, 0]) Tryz.call27 (c_tMany p2 b2 (madeT (l.take (k + 1))) ht2) rfl rfl (by repeat' (first | constructor | apply Sub.suf)) rfl) ?_
   refine le ?_; intro x66
   refine ls (op (p_move rfl) rfl) ?_
   refine ls (op (p_ext rfl (by repeat' constructor)) rfl) ?_
   refine ls (op (p_ext rfl (by repeat' constructor)) rfl) ?_
   refine ls (op (p_asg rfl) rfl) ?_
   refine ls (op (p_asg rfl) rfl) ?_
   refine ln ?_
   refine nthen ?_
   refine cs ?_
   refine cr ?_
   refine ls (op (p_asg rfl) rfl) ?_
   refine ln ?_
   refine nthen ?_
   refine cs ?_
   refine cs ?_
   refine cr ?_
   refine ls (op (p_move rfl) rfl) ?_
   refine ls (op (p_lenl rfl Tryz.underlying27) rfl) ?_
   refine ls (op (p_move rfl) rfl) ?_
   refine ln ?_
   refine nthen ?_
   refine cb ?_
   refine cl (ι := {q : Nat × Int // q.1 ≤ (madeT (l.take (k + 1))).length ∧ q.2 = ((((madeT (l.take (k + 1))).take q.1).map (fun x => x.2.length)).sum : Nat)}) (fun i => St M0 F0 w0 92 [(21, .slice A l.length c), (22, .int .i64 (l.length : Int)), (23, .int .i64 (k : Int)), (3, .pointer (some ⟨p2, 0, none⟩)), (4, .slice A2 (madeT (l.take (k + 1))).length c2), (11, .int .i64 ((madeT (l.take (k + 1))).length : Int)), (12, .int .i64 ((((madeT (l.take (k + 1))).map (fun x => x.2.length)).sum : Nat) : Int)), (13, .int .i64 i.1.2), (69, .slice A2 (madeT (l.take (k + 1))).length c2), (70, .int .i64 ((madeT (l.take (k + 1))).length : Int)), (71, .int .i64 (i.1.1 : Int))] [box p2 85 [.map (some b2)], tr b2 (madeT (l.take (k + 1)))] [slA A l, slA A2 (madeT (l.take (k + 1))), tabA Tryz.prog]) (fun i => (madeT (l.take (k + 1))).length - i.1.1) ⟨(0, 0), by simp⟩ (wk (is := [0, 0]) (by repeat (first | exact subσ.nil _ | refine subσ.cons rfl ?_)) rfl (by repeat' (first | constructor | apply Sub.suf))) ?_
   rintro ⟨⟨j, n⟩, hj, hn⟩
   refine cmono (S' := St M0 F0 w0 92 [(21, .slice A l.length c), (22, .int .i64 (l.length : Int)), (23, .int .i64 (k : Int)), (3, .pointer (some ⟨p2, 0, none⟩)), (4, .slice A2 (madeT (l.take (k + 1))).length c2), (11, .int .i64 ((madeT (l.take (k + 1))).length : Int)), (12, .int .i64 ((((madeT (l.take (k + 1))).map (fun x => x.2.length)).sum : Nat) : Int)), (13, .int .i64 n), (69, .slice A2 (madeT (l.take (k + 1))).length c2), (70, .int .i64 ((madeT (l.take (k + 1))).length : Int)), (71, .int .i64 (j : Int))] [box p2 85 [.map (some b2)], tr b2 (madeT (l.take (k + 1)))] [slA A l, slA A2 (madeT (l.take (k + 1))), tabA Tryz.prog]) (fun _ _ h => h) ?_
   refine cs ?_
   refine cr ?_
   refine ls (op (p_icmp rfl rfl rfl) rfl) ?_
   refine ln ?_
   refine nthen ?_
   refine cs ?_
   refine cc rfl ?_ ?_
   ·
    intro h72
    dsimp only at hj hn
    try simp only [decide_eq_true_eq, decide_eq_false_iff_not, Bool.not_eq_true', Bool.not_eq_false', Int.not_lt, Int.not_le, ge_iff_le, Bool.not_true, Bool.not_false] at h72
    have hj1 : j < (madeT (l.take (k + 1))).length := by omega
    have e1 := sum_take_succ (f := fun x : File => x.2.length) hj1
    have e3 := sum_take_le (fun x : File => x.2.length) (madeT (l.take (k + 1))) (j + 1)
    refine cskip ?_
    refine nthen ?_
    refine cs ?_
    refine cb ?_
    refine cs ?_
    refine elC (by repeat' constructor) j (List.getElem?_eq_getElem (l := (madeT (l.take (k + 1)))) hj1) ?_; rintro zbq zoq zyq hAq
    refine cr ?_
    refine ls (op (p_ia j hAq hj1 rfl Tryz.underlying27 Tryz.sizeOf48 rfl rfl) rfl) ?_
    refine ls (o_ldj Tryz.isAgg48 Tryz.sizeOf48 rfl (by repeat' constructor) 0 rfl (by repeat (first | exact Cut.d | apply Cut.t | apply Cut.s)) rfl) ?_
    refine ls (o_alloc Tryz.zeroValue48 rfl rfl) ?_
    refine le ?_; intro b15
    refine ls (o_st rfl Tryz.sizeOf48 rfl rfl rfl rfl rfl (by repeat' constructor) (by repeat' constructor) (by repeat' constructor)) ?_
    refine ln ?_
    refine nthen ?_
    refine cr ?_
    refine ls (op (p_move rfl) rfl) ?_
    refine ls (op (p_fa fa48_1 rfl) rfl) ?_
    refine ls (o_ld Tryz.isAgg35 rfl (by repeat' constructor) (by repeat' constructor) rfl) ?_
    refine ls (op (p_lenl rfl Tryz.underlying35) rfl) ?_
    refine ls (op (p_add rfl rfl (by omega)) rfl) ?_
    refine ls (op (p_asg rfl) rfl) ?_
    refine ln ?_
    refine nblock ?_
    refine nthen ?_
    refine cr ?_
    refine ls (op (p_add rfl rfl (by omega)) rfl) ?_
    refine ls (op (p_move rfl) rfl) ?_
    refine ln ?_
    refine nnext ⟨(j + 1, n + ((madeT (l.take (k + 1)))[j].2.length : Int)), hj1, by dsimp only; omega⟩ (by dsimp only; omega) (wk (is := [1, 1]) (by repeat (first | exact subσ.nil _ | refine subσ.cons rfl ?_)) rfl (by repeat' (first | constructor | apply Sub.suf)))
   ·
    intro h72
    dsimp only at hj hn
    try simp only [decide_eq_true_eq, decide_eq_false_iff_not, Bool.not_eq_true', Bool.not_eq_false', Int.not_lt, Int.not_le, ge_iff_le, Bool.not_true, Bool.not_false] at h72
    rw [List.take_of_length_le (by omega)] at hn
    subst hn
    refine cexit ?_
    refine xthen ?_
    refine xthen ?_
    refine xblock ?_
    refine nthen ?_
    refine cs ?_
    refine cr ?_
    refine ls (op (p_move rfl) rfl) ?_
    refine ls (op (p_move rfl) rfl) ?_
    refine ls (op (p_lenl rfl Tryz.underlying27) rfl) ?_
    refine ls (op (p_icmp rfl rfl rfl) rfl) ?_
    refine fixL (congrArg Value.bool (bneI _)) ?_
    refine ls (op (p_move rfl) rfl) ?_
    refine lwant rfl rfl rfl rfl (op (p_move rfl) rfl) ?_
    refine lwant rfl rfl rfl rfl (op (p_move rfl) rfl) ?_
    refine lwant rfl rfl rfl rfl (op (p_icmp rfl rfl rfl) rfl) ?_
    refine fixL (congrArg Value.bool (bneI _)) ?_
    refine ls (op (p_pickf rfl rfl) rfl) ?_
    refine ln ?_
    refine nthen ?_
    refine cc rfl (fun h => by cases h) (fun h => ?_)
    refine cskip ?_
    refine nblock ?_
    refine nthen ?_
    refine cr ?_
    refine ls (op (p_add rfl rfl (by omega)) rfl) ?_
    refine ls (op (p_move rfl) rfl) ?_
    refine ln ?_
    refine nnext ⟨(k + 1, (p2, b2), (A2, c2)), hk1⟩ (by dsimp only; omega) (wk (is := [0, 0]) (by repeat (first | exact subσ.nil _ | refine subσ.cons rfl ?_)) rfl (by repeat' (first | constructor | apply Sub.suf)))
  ·
   intro h24
   dsimp only at hk
   try simp only [decide_eq_true_eq, decide_eq_false_iff_not, Bool.not_eq_true', Bool.not_eq_false', Int.not_lt, Int.not_le, ge_iff_le, Bool.not_true, Bool.not_false] at h24
   refine cexit ?_
   refine xthen ?_
   refine xthen ?_
   refine xblock ?_
   refine nthen ?_
   refine cs ?_
   refine cr ?_
   refine ls (o_call (is := []) Tryz.call16 (c_alive02) rfl rfl (by repeat' (first | constructor | apply Sub.suf)) rfl) ?_
   refine le ?_; intro x91
   refine ls (op (p_asg rfl) rfl) ?_
   refine ln ?_
   refine nthen ?_
   refine cret ?_
   refine xret (fun _ _ h => h) ?_
   refine rret (is := []) () (Or.inl rfl) (Res.t rfl Res.d) (rfl) rfl (by repeat' (first | constructor | apply Sub.suf))

end Go.Proofs.YtgjbcigeecbfiaaGreatDoor.X

end
