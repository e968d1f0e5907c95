/- OWN WORK: a part of the proof of a law of the seat YtgjbcigeecbfiaaGreatDoor: what the functions compute. -/
import Derived.Test.YtgjbcigeecbfiaaGreatDoorProg
import Derived.Test.YtgjbcigeecbfiaaGreatDoorXT4
import Derived.Test.YtgjbcigeecbfiaaGreatDoorXMp
import Derived.Test.YtgjbcigeecbfiaaGreatDoorXSx2
section
set_option linter.unusedVariables false
set_option linter.unusedSimpArgs false
namespace Go.Proofs.YtgjbcigeecbfiaaGreatDoor.X
open Go Go.RowKit Go.Proofs Go.Sx
attribute [local irreducible] slA isA box row
def pH : Prim := ⟨0, (⟨#[97]⟩ : ByteArray), e0, 1, [(⟨#[121]⟩ : ByteArray)], [(⟨#[122]⟩ : ByteArray), (⟨#[122]⟩ : ByteArray)]⟩
def pA : Prim := ⟨1, (⟨#[97]⟩ : ByteArray), e0, 0, [], []⟩
def pM : Prim := ⟨3, (⟨#[97]⟩ : ByteArray), (⟨#[98]⟩ : ByteArray), 0, [], []⟩
def pN : Prim := ⟨3, (⟨#[98]⟩ : ByteArray), (⟨#[97]⟩ : ByteArray), 0, [], []⟩
theorem al3_fH : pH.fit := fitP (by decide)
theorem al3_fA : pA.fit := fitP (by decide)
theorem al3_fM : pM.fit := fitP (by decide)
theorem al3_fZ : Prim.zero.fit := fitP (by decide)
theorem al3_1 : applyT [] pA = ([((⟨#[97]⟩ : ByteArray), ([] : List ByteArray))], 0) := by kernel_rfl
theorem al3_2 : applyT [((⟨#[97]⟩ : ByteArray), [(⟨#[120]⟩ : ByteArray), (⟨#[121]⟩ : ByteArray)])] pH = ([((⟨#[97]⟩ : ByteArray), [(⟨#[120]⟩ : ByteArray), (⟨#[122]⟩ : ByteArray), (⟨#[122]⟩ : ByteArray)])], 0) := by kernel_rfl
theorem al3_3 : applyT [((⟨#[97]⟩ : ByteArray), [(⟨#[120]⟩ : ByteArray), (⟨#[122]⟩ : ByteArray), (⟨#[122]⟩ : ByteArray)])] pH.flip = ([((⟨#[97]⟩ : ByteArray), [(⟨#[120]⟩ : ByteArray), (⟨#[121]⟩ : ByteArray)])], 0) := by kernel_rfl
theorem al3_4 : applyT [((⟨#[97]⟩ : ByteArray), [(⟨#[120]⟩ : ByteArray), (⟨#[121]⟩ : ByteArray)])] pM = ([((⟨#[98]⟩ : ByteArray), [(⟨#[120]⟩ : ByteArray), (⟨#[121]⟩ : ByteArray)])], 0) := by kernel_rfl
theorem al3_5 : sortB pN.names = [(⟨#[97]⟩ : ByteArray), (⟨#[98]⟩ : ByteArray)] := (sortB_names pN).trans (by kernel_rfl)
theorem al3_6 : applyT [((⟨#[98]⟩ : ByteArray), [(⟨#[120]⟩ : ByteArray), (⟨#[121]⟩ : ByteArray)])] pH = ([((⟨#[98]⟩ : ByteArray), [(⟨#[120]⟩ : ByteArray), (⟨#[121]⟩ : ByteArray)])], 31) := by kernel_rfl
theorem al3_7 : applyT [((⟨#[98]⟩ : ByteArray), [(⟨#[120]⟩ : ByteArray), (⟨#[121]⟩ : ByteArray)])] Prim.zero = ([((⟨#[98]⟩ : ByteArray), [(⟨#[120]⟩ : ByteArray), (⟨#[121]⟩ : ByteArray)])], 30) := by kernel_rfl
theorem al3_8 : pH.right = true := by kernel_rfl
theorem al3_t : toB (textT [((⟨#[97]⟩ : ByteArray), [(⟨#[120]⟩ : ByteArray), (⟨#[122]⟩ : ByteArray), (⟨#[122]⟩ : ByteArray)])]) = (⟨#[97, 32, 51, 10, 120, 10, 122, 10, 122, 10]⟩ : ByteArray) := by kernel_rfl
theorem al3_l : (textT [((⟨#[97]⟩ : ByteArray), [(⟨#[120]⟩ : ByteArray), (⟨#[122]⟩ : ByteArray), (⟨#[122]⟩ : ByteArray)])]).length = 10 := by kernel_rfl
theorem al3_f4 : Tfit [((⟨#[97]⟩ : ByteArray), [(⟨#[120]⟩ : ByteArray), (⟨#[122]⟩ : ByteArray), (⟨#[122]⟩ : ByteArray)])] := fun x hx => by have : x = _ := List.mem_singleton.1 hx; subst this; decide
theorem al3_f1 : Tfit [((⟨#[97]⟩ : ByteArray), ([] : List ByteArray))] := fun x hx => by have : x = _ := List.mem_singleton.1 hx; subst this; decide
theorem al3_f0 : Tfit [] := fun x hx => by cases hx
theorem hb_of {T : List File} {p : Prim} (h : T.all (fun x => decide (x.2.length ≤ 100)) = true) (hp : p.new.length ≤ 100) (u : ByteArray) : (getL T u).length + p.new.length ≤ 2000000 := by
 have := Lmax.get (m := 100) (T := T) (fun x hx => by simpa using List.all_eq_true.1 h x hx) u
 omega
theorem c_tTextS (p b : Nat) (T : List File) (s : ByteArray) (hs : toB (textT T) = s) (hn : T.length ≤ 2000000) (hf : Tfit T) (hB : (textT T).length ≤ 100000000) (Γt : List Asn) (hI : ∀ x ∈ T, Con Tryz.prog 57 [.int .i64 (x.2.length : Int)] [] Γt Unit (fun _ => .string (toB (Lib.decDigits x.2.length))) (fun _ => []) (fun _ => [])) : Con Tryz.prog 20 [.pointer (some ⟨p, 0, none⟩)] [box p 85 [.map (some b)], tr b T] Γt Unit (fun _ => .string s) (fun _ => [box p 85 [.map (some b)], tr b T]) (fun _ => []) := hs ▸ c_tText p b T hn hf hB Γt hI

theorem sb66 : SB Tryz.prog 66 [(0, 1), (1, 1), (2, 1), (3, 1), (4, 1), (5, 1)] [.int .i64 0, .string ⟨#[]⟩, .string ⟨#[]⟩, .int .i64 0, .slice none 0 0, .slice none 0 0] := SB.struct Tryz.zeroValue66 rfl Tryz.underlying66 (fun w => by kernel_rfl)
theorem sb69 : SB Tryz.prog 69 [(0, 1), (1, 1), (2, 1), (3, 1), (4, 1), (5, 1)] [.int .i64 0, .string ⟨#[]⟩, .string ⟨#[]⟩, .int .i64 0, .slice none 0 0, .slice none 0 0] := SB.struct Tryz.zeroValue69 rfl Tryz.underlying69 (fun w => by kernel_rfl)
set_option maxRecDepth 100000 in
theorem c_primInvert (p : Prim) (y : Rp.Lay Prim) (hp : p.fit) : Con Tryz.prog 46 [sv p y] [] (Rp.asn p y) {x : Prim × Rp.Lay Prim // x.1 = p.flip} (fun x => sv x.1.1 x.1.2) (fun _ => []) (fun x => Rp.asn x.1.1 x.1.2) := by
 refine con Tryz.func46 rfl Tryz.ntmps46 rfl ?_
 intro M0 F0 w0
 refine cs ?_
 refine cr ?_
 refine ls (o_box rfl rfl rfl) ?_
 refine le ?_; intro b1
 refine ls (o_alloc Tryz.zeroValue69 rfl rfl) ?_
 refine le ?_; intro b2
 refine ln ?_
 refine nthen ?_
 refine cs ?_
 refine cr ?_
 refine ls (o_ldw Tryz.isAgg69 Tryz.sizeOf69 rfl (by repeat (first | exact At.z | apply At.s)) (by rfl) rfl) ?_
 refine ls (o_call (is := []) Tryz.call51 (c_primClone p y hp) rfl rfl (by repeat (first | exact Sub.d | (refine Sub.s ?_ ?_; (repeat (first | exact In.z | apply In.s))) | (refine Sub.suf ?_; (repeat (first | exact Suf.z | apply Suf.s))))) rfl) ?_
 refine le ?_; intro y1
 refine ls (o_st rfl Tryz.sizeOf69 rfl rfl rfl rfl rfl (by repeat (first | exact At.z | apply At.s)) (by repeat (first | exact Put.d | apply Put.t | apply Put.s)) (by repeat (first | exact SetAt.z | apply SetAt.s))) ?_
 refine ln ?_
 refine nthen ?_
 refine cs ?_
 refine cs ?_
 refine cr ?_
 refine ls (op (p_fa fa69_0 rfl) rfl) ?_
 refine ls (o_ld Tryz.isAgg3 rfl (by repeat (first | exact At.z | apply At.s)) (by repeat (first | exact At.z | apply At.s)) rfl) ?_
 refine ln ?_
 refine nthen ?_
 refine cb ?_
 refine cs ?_
 refine cr ?_
 refine ls (op (p_icmp rfl rfl rfl) rfl) ?_
 refine ls (op (p_asg rfl) rfl) ?_
 refine ln ?_
 refine nthen ?_
 refine cc rfl ?_ ?_
 ·
  intro h7
  try simp only [decide_eq_true_eq, decide_eq_false_iff_not, Bool.not_eq_true', Bool.not_eq_false', Int.not_lt, Int.not_le, ge_iff_le, Bool.not_true, Bool.not_false] at h7
  refine cr ?_
  refine ls (op (p_fa fa69_5 rfl) rfl) ?_
  refine ls (o_ld Tryz.isAgg35 rfl (by repeat (first | exact At.z | apply At.s)) (by repeat (first | exact At.z | apply At.s)) rfl) ?_
  refine ls (op (p_fa fa69_4 rfl) rfl) ?_
  refine ls (o_ld Tryz.isAgg35 rfl (by repeat (first | exact At.z | apply At.s)) (by repeat (first | exact At.z | apply At.s)) rfl) ?_
  refine ls (op (p_fa fa69_4 rfl) rfl) ?_
  refine ls (o_st rfl Tryz.sizeOf35 rfl rfl rfl rfl rfl (by repeat (first | exact At.z | apply At.s)) (by repeat (first | exact Put.d | apply Put.t | apply Put.s)) (by repeat (first | exact SetAt.z | apply SetAt.s))) ?_
  refine ls (op (p_fa fa69_5 rfl) rfl) ?_
  refine ls (o_st rfl Tryz.sizeOf35 rfl rfl rfl rfl rfl (by repeat (first | exact At.z | apply At.s)) (by repeat (first | exact Put.d | apply Put.t | apply Put.s)) (by repeat (first | exact SetAt.z | apply SetAt.s))) ?_
  refine ln ?_
  refine nblock ?_
  refine nthen ?_
  refine cs ?_
  refine cr ?_
  refine ls (o_ldw Tryz.isAgg69 Tryz.sizeOf69 rfl (by repeat (first | exact At.z | apply At.s)) (by rfl) rfl) ?_
  refine ls (o_st rfl Tryz.sizeOf69 rfl rfl rfl rfl rfl (by repeat (first | exact At.z | apply At.s)) (by repeat (first | exact Put.d | apply Put.t | apply Put.s)) (by repeat (first | exact SetAt.z | apply SetAt.s))) ?_
  refine ln ?_
  refine nthen ?_
  refine cret ?_
  refine xret (fun _ _ h => h) ?_
  refine rret (is := []) ⟨({ p with old := p.new, new := p.old }, (y1.2, y1.1)), by rw [flip0 h7]⟩ (Or.inl rfl) (Res.c rfl Tryz.isAgg69 Tryz.sizeOf69 (by repeat (first | exact At.z | apply At.s)) (by rfl) Res.d) (rfl) rfl (by repeat (first | exact Sub.d | (refine Sub.s ?_ ?_; (repeat (first | exact In.z | apply In.s))) | (refine Sub.suf ?_; (repeat (first | exact Suf.z | apply Suf.s)))))
 ·
  intro h7
  try simp only [decide_eq_true_eq, decide_eq_false_iff_not, Bool.not_eq_true', Bool.not_eq_false', Int.not_lt, Int.not_le, ge_iff_le, Bool.not_true, Bool.not_false] at h7
  refine cs ?_
  refine cs ?_
  refine cr ?_
  refine ls (op (p_icmp rfl rfl rfl) rfl) ?_
  refine ls (op (p_asg rfl) rfl) ?_
  refine ln ?_
  refine nthen ?_
  refine cc rfl ?_ ?_
  ·
   intro h15
   try simp only [decide_eq_true_eq, decide_eq_false_iff_not, Bool.not_eq_true', Bool.not_eq_false', Int.not_lt, Int.not_le, ge_iff_le, Bool.not_true, Bool.not_false] at h15
   refine cskip ?_
   refine nthen ?_
   refine cc rfl ?_ ?_
   ·
    intro h15b
    skip
    refine cr ?_
    refine ls (op (p_fa fa69_0 rfl) rfl) ?_
    refine ls (o_ld Tryz.isAgg3 rfl (by repeat (first | exact At.z | apply At.s)) (by repeat (first | exact At.z | apply At.s)) rfl) ?_
    refine ls (op (p_sub rfl rfl (by omega)) rfl) ?_
    refine ls (op (p_fa fa69_0 rfl) rfl) ?_
    refine ls (o_st rfl Tryz.sizeOf3 rfl rfl rfl rfl rfl (by repeat (first | exact At.z | apply At.s)) (by repeat (first | exact Put.d | apply Put.t | apply Put.s)) (by repeat (first | exact SetAt.z | apply SetAt.s))) ?_
    refine ln ?_
    refine nblock ?_
    refine nthen ?_
    refine cs ?_
    refine cr ?_
    refine ls (o_ldw Tryz.isAgg69 Tryz.sizeOf69 rfl (by repeat (first | exact At.z | apply At.s)) (by rfl) rfl) ?_
    refine ls (o_st rfl Tryz.sizeOf69 rfl rfl rfl rfl rfl (by repeat (first | exact At.z | apply At.s)) (by repeat (first | exact Put.d | apply Put.t | apply Put.s)) (by repeat (first | exact SetAt.z | apply SetAt.s))) ?_
    refine ln ?_
    refine nthen ?_
    refine cret ?_
    refine xret (fun _ _ h => h) ?_
    refine rret (is := []) ⟨({ p with kind := 3 - p.kind }, y1), by rw [Prim.flip, if_neg h7, if_pos (Or.inl h15)]⟩ (Or.inl rfl) (Res.c rfl Tryz.isAgg69 Tryz.sizeOf69 (by repeat (first | exact At.z | apply At.s)) (by rfl) Res.d) (rfl) rfl (by repeat (first | exact Sub.d | (refine Sub.s ?_ ?_; (repeat (first | exact In.z | apply In.s))) | (refine Sub.suf ?_; (repeat (first | exact Suf.z | apply Suf.s)))))
   ·
    intro h15b
    simp only [decide_eq_false_iff_not] at h15b; exact absurd h15 h15b
  ·
   intro h15
   try simp only [decide_eq_true_eq, decide_eq_false_iff_not, Bool.not_eq_true', Bool.not_eq_false', Int.not_lt, Int.not_le, ge_iff_le, Bool.not_true, Bool.not_false] at h15
   refine cr ?_
   refine ls (op (p_icmp rfl rfl rfl) rfl) ?_
   refine ls (op (p_asg rfl) rfl) ?_
   refine ln ?_
   refine nthen ?_
   refine cc rfl ?_ ?_
   ·
    intro h15c
    simp only [decide_eq_true_eq] at h15c
    refine cr ?_
    refine ls (op (p_fa fa69_0 rfl) rfl) ?_
    refine ls (o_ld Tryz.isAgg3 rfl (by repeat (first | exact At.z | apply At.s)) (by repeat (first | exact At.z | apply At.s)) rfl) ?_
    refine ls (op (p_sub rfl rfl (by omega)) rfl) ?_
    refine ls (op (p_fa fa69_0 rfl) rfl) ?_
    refine ls (o_st rfl Tryz.sizeOf3 rfl rfl rfl rfl rfl (by repeat (first | exact At.z | apply At.s)) (by repeat (first | exact Put.d | apply Put.t | apply Put.s)) (by repeat (first | exact SetAt.z | apply SetAt.s))) ?_
    refine ln ?_
    refine nblock ?_
    refine nthen ?_
    refine cs ?_
    refine cr ?_
    refine ls (o_ldw Tryz.isAgg69 Tryz.sizeOf69 rfl (by repeat (first | exact At.z | apply At.s)) (by rfl) rfl) ?_
    refine ls (o_st rfl Tryz.sizeOf69 rfl rfl rfl rfl rfl (by repeat (first | exact At.z | apply At.s)) (by repeat (first | exact Put.d | apply Put.t | apply Put.s)) (by repeat (first | exact SetAt.z | apply SetAt.s))) ?_
    refine ln ?_
    refine nthen ?_
    refine cret ?_
    refine xret (fun _ _ h => h) ?_
    refine rret (is := []) ⟨({ p with kind := 3 - p.kind }, y1), by rw [Prim.flip, if_neg h7, if_pos (Or.inr h15c)]⟩ (Or.inl rfl) (Res.c rfl Tryz.isAgg69 Tryz.sizeOf69 (by repeat (first | exact At.z | apply At.s)) (by rfl) Res.d) (rfl) rfl (by repeat (first | exact Sub.d | (refine Sub.s ?_ ?_; (repeat (first | exact In.z | apply In.s))) | (refine Sub.suf ?_; (repeat (first | exact Suf.z | apply Suf.s)))))
   ·
    intro h15c
    simp only [decide_eq_false_iff_not] at h15c
    refine cs ?_
    refine cr ?_
    refine ls (op (p_icmp rfl rfl rfl) rfl) ?_
    refine ls (op (p_asg rfl) rfl) ?_
    refine ln ?_
    refine nthen ?_
    refine cc rfl ?_ ?_
    ·
     intro h22
     try simp only [decide_eq_true_eq, decide_eq_false_iff_not, Bool.not_eq_true', Bool.not_eq_false', Int.not_lt, Int.not_le, ge_iff_le, Bool.not_true, Bool.not_false] at h22
     refine cr ?_
     refine ls (op (p_fa fa69_2 rfl) rfl) ?_
     refine ls (o_ld Tryz.isAgg9 rfl (by repeat (first | exact At.z | apply At.s)) (by repeat (first | exact At.z | apply At.s)) rfl) ?_
     refine ls (op (p_fa fa69_1 rfl) rfl) ?_
     refine ls (o_ld Tryz.isAgg9 rfl (by repeat (first | exact At.z | apply At.s)) (by repeat (first | exact At.z | apply At.s)) rfl) ?_
     refine ls (op (p_fa fa69_1 rfl) rfl) ?_
     refine ls (o_st rfl Tryz.sizeOf9 rfl rfl rfl rfl rfl (by repeat (first | exact At.z | apply At.s)) (by repeat (first | exact Put.d | apply Put.t | apply Put.s)) (by repeat (first | exact SetAt.z | apply SetAt.s))) ?_
     refine ls (op (p_fa fa69_2 rfl) rfl) ?_
     refine ls (o_st rfl Tryz.sizeOf9 rfl rfl rfl rfl rfl (by repeat (first | exact At.z | apply At.s)) (by repeat (first | exact Put.d | apply Put.t | apply Put.s)) (by repeat (first | exact SetAt.z | apply SetAt.s))) ?_
     refine ln ?_
     refine nblock ?_
     refine nthen ?_
     refine cs ?_
     refine cr ?_
     refine ls (o_ldw Tryz.isAgg69 Tryz.sizeOf69 rfl (by repeat (first | exact At.z | apply At.s)) (by rfl) rfl) ?_
     refine ls (o_st rfl Tryz.sizeOf69 rfl rfl rfl rfl rfl (by repeat (first | exact At.z | apply At.s)) (by repeat (first | exact Put.d | apply Put.t | apply Put.s)) (by repeat (first | exact SetAt.z | apply SetAt.s))) ?_
     refine ln ?_
     refine nthen ?_
     refine cret ?_
     refine xret (fun _ _ h => h) ?_
     refine rret (is := []) ⟨({ p with name := p.to, to := p.name }, y1), by rw [flip3 h22]⟩ (Or.inl rfl) (Res.c rfl Tryz.isAgg69 Tryz.sizeOf69 (by repeat (first | exact At.z | apply At.s)) (by rfl) Res.d) (rfl) rfl (by repeat (first | exact Sub.d | (refine Sub.s ?_ ?_; (repeat (first | exact In.z | apply In.s))) | (refine Sub.suf ?_; (repeat (first | exact Suf.z | apply Suf.s)))))
    ·
     intro h22
     try simp only [decide_eq_true_eq, decide_eq_false_iff_not, Bool.not_eq_true', Bool.not_eq_false', Int.not_lt, Int.not_le, ge_iff_le, Bool.not_true, Bool.not_false] at h22
     refine cskip ?_
     refine nblock ?_
     refine nthen ?_
     refine cs ?_
     refine cr ?_
     refine ls (o_ldw Tryz.isAgg69 Tryz.sizeOf69 rfl (by repeat (first | exact At.z | apply At.s)) (by rfl) rfl) ?_
     refine ls (o_st rfl Tryz.sizeOf69 rfl rfl rfl rfl rfl (by repeat (first | exact At.z | apply At.s)) (by repeat (first | exact Put.d | apply Put.t | apply Put.s)) (by repeat (first | exact SetAt.z | apply SetAt.s))) ?_
     refine ln ?_
     refine nthen ?_
     refine cret ?_
     refine xret (fun _ _ h => h) ?_
     refine rret (is := []) ⟨(p, y1), by rw [Prim.flip, if_neg h7, if_neg (by omega), if_neg h22]⟩ (Or.inl rfl) (Res.c rfl Tryz.isAgg69 Tryz.sizeOf69 (by repeat (first | exact At.z | apply At.s)) (by rfl) Res.d) (rfl) rfl (by repeat (first | exact Sub.d | (refine Sub.s ?_ ?_; (repeat (first | exact In.z | apply In.s))) | (refine Sub.suf ?_; (repeat (first | exact Suf.z | apply Suf.s)))))

set_option maxRecDepth 100000 in
theorem c_refInvert (p : Prim) (y : Rp.Lay Prim) (hp : p.fit) : Con Tryz.prog 47 [sv p y] [] (Rp.asn p y) {x : Prim × Rp.Lay Prim // x.1 = p.flip} (fun x => sv x.1.1 x.1.2) (fun _ => []) (fun x => Rp.asn x.1.1 x.1.2) := by
 refine con Tryz.func47 rfl Tryz.ntmps47 rfl ?_
 intro M0 F0 w0
 refine cs ?_
 refine cr ?_
 refine ls (o_box rfl rfl rfl) ?_
 refine le ?_; intro b1
 refine ls (o_alloc Tryz.zeroValue66 rfl rfl) ?_
 refine le ?_; intro b2
 refine ln ?_
 refine nthen ?_
 refine cs ?_
 refine cs ?_
 refine cr ?_
 refine ls (op (p_fa fa66_0 rfl) rfl) ?_
 refine ls (o_ld Tryz.isAgg3 rfl (by repeat (first | exact At.z | apply At.s)) (by repeat (first | exact At.z | apply At.s)) rfl) ?_
 refine ln ?_
 refine nthen ?_
 refine cb ?_
 refine cs ?_
 refine cr ?_
 refine ls (op (p_icmp rfl rfl rfl) rfl) ?_
 refine ls (op (p_asg rfl) rfl) ?_
 refine ln ?_
 refine nthen ?_
 refine cc rfl ?_ ?_
 ·
  intro h5
  try simp only [decide_eq_true_eq, decide_eq_false_iff_not, Bool.not_eq_true', Bool.not_eq_false', Int.not_lt, Int.not_le, ge_iff_le, Bool.not_true, Bool.not_false] at h5
  refine cs ?_
  refine cr ?_
  refine ls (op (p_fa fa66_1 rfl) rfl) ?_
  refine ls (o_ld Tryz.isAgg9 rfl (by repeat (first | exact At.z | apply At.s)) (by repeat (first | exact At.z | apply At.s)) rfl) ?_
  refine ls (op (p_fa fa66_2 rfl) rfl) ?_
  refine ls (o_ld Tryz.isAgg9 rfl (by repeat (first | exact At.z | apply At.s)) (by repeat (first | exact At.z | apply At.s)) rfl) ?_
  refine ls (op (p_fa fa66_3 rfl) rfl) ?_
  refine ls (o_ld Tryz.isAgg3 rfl (by repeat (first | exact At.z | apply At.s)) (by repeat (first | exact At.z | apply At.s)) rfl) ?_
  refine ls (op (p_fa fa66_5 rfl) rfl) ?_
  refine ls (o_ld Tryz.isAgg35 rfl (by repeat (first | exact At.z | apply At.s)) (by repeat (first | exact At.z | apply At.s)) rfl) ?_
  refine ls (op (p_fa fa66_4 rfl) rfl) ?_
  refine ls (o_ld Tryz.isAgg35 rfl (by repeat (first | exact At.z | apply At.s)) (by repeat (first | exact At.z | apply At.s)) rfl) ?_
  refine ls (op (p_bld sb66 rfl (Fill.t (by repeat (first | exact At.z | apply At.s)) rfl rfl (by repeat (first | exact Put.d | apply Put.t | apply Put.s)) (Fill.t (by repeat (first | exact At.z | apply At.s)) rfl rfl (by repeat (first | exact Put.d | apply Put.t | apply Put.s)) (Fill.t (by repeat (first | exact At.z | apply At.s)) rfl rfl (by repeat (first | exact Put.d | apply Put.t | apply Put.s)) (Fill.t (by repeat (first | exact At.z | apply At.s)) rfl rfl (by repeat (first | exact Put.d | apply Put.t | apply Put.s)) (Fill.t (by repeat (first | exact At.z | apply At.s)) rfl rfl (by repeat (first | exact Put.d | apply Put.t | apply Put.s)) (Fill.t (by repeat (first | exact At.z | apply At.s)) rfl rfl (by repeat (first | exact Put.d | apply Put.t | apply Put.s)) Fill.d))))))) rfl) ?_
  refine ls (o_st rfl Tryz.sizeOf66 rfl rfl rfl rfl rfl (by repeat (first | exact At.z | apply At.s)) (by repeat (first | exact Put.d | apply Put.t | apply Put.s)) (by repeat (first | exact SetAt.z | apply SetAt.s))) ?_
  refine ln ?_
  refine nthen ?_
  refine cret ?_
  refine xret (fun _ _ h => h) ?_
  refine rret (is := []) ⟨({ p with kind := 0, old := p.new, new := p.old }, (y.2, y.1)), by rw [flip0 h5, h5]⟩ (Or.inl rfl) (Res.c rfl Tryz.isAgg66 Tryz.sizeOf66 (by repeat (first | exact At.z | apply At.s)) (by rfl) Res.d) (rfl) rfl (by repeat (first | exact Sub.d | (refine Sub.s ?_ ?_; (repeat (first | exact In.z | apply In.s))) | (refine Sub.suf ?_; (repeat (first | exact Suf.z | apply Suf.s)))))
 ·
  intro h5
  try simp only [decide_eq_true_eq, decide_eq_false_iff_not, Bool.not_eq_true', Bool.not_eq_false', Int.not_lt, Int.not_le, ge_iff_le, Bool.not_true, Bool.not_false] at h5
  refine cs ?_
  refine cr ?_
  refine ls (op (p_icmp rfl rfl rfl) rfl) ?_
  refine ls (op (p_asg rfl) rfl) ?_
  refine ln ?_
  refine nthen ?_
  refine cc rfl ?_ ?_
  ·
   intro h18
   try simp only [decide_eq_true_eq, decide_eq_false_iff_not, Bool.not_eq_true', Bool.not_eq_false', Int.not_lt, Int.not_le, ge_iff_le, Bool.not_true, Bool.not_false] at h18
   refine cr ?_
   refine ls (op (p_fa fa66_0 rfl) rfl) ?_
   refine ls (o_st rfl Tryz.sizeOf3 rfl rfl rfl rfl rfl (by repeat (first | exact At.z | apply At.s)) (by repeat (first | exact Put.d | apply Put.t | apply Put.s)) (by repeat (first | exact SetAt.z | apply SetAt.s))) ?_
   refine ln ?_
   refine nblock ?_
   refine nthen ?_
   refine cs ?_
   refine cr ?_
   refine ls (o_ldw Tryz.isAgg66 Tryz.sizeOf66 rfl (by repeat (first | exact At.z | apply At.s)) (by rfl) rfl) ?_
   refine ls (o_st rfl Tryz.sizeOf66 rfl rfl rfl rfl rfl (by repeat (first | exact At.z | apply At.s)) (by repeat (first | exact Put.d | apply Put.t | apply Put.s)) (by repeat (first | exact SetAt.z | apply SetAt.s))) ?_
   refine ln ?_
   refine nthen ?_
   refine cret ?_
   refine xret (fun _ _ h => h) ?_
   refine rret (is := []) ⟨({ p with kind := 2 }, y), by rw [Prim.flip, if_neg h5, if_pos (Or.inl h18), h18]; rfl⟩ (Or.inl rfl) (Res.c rfl Tryz.isAgg66 Tryz.sizeOf66 (by repeat (first | exact At.z | apply At.s)) (by rfl) Res.d) (rfl) rfl (by repeat (first | exact Sub.d | (refine Sub.s ?_ ?_; (repeat (first | exact In.z | apply In.s))) | (refine Sub.suf ?_; (repeat (first | exact Suf.z | apply Suf.s)))))
  ·
   intro h18
   try simp only [decide_eq_true_eq, decide_eq_false_iff_not, Bool.not_eq_true', Bool.not_eq_false', Int.not_lt, Int.not_le, ge_iff_le, Bool.not_true, Bool.not_false] at h18
   refine cs ?_
   refine cr ?_
   refine ls (op (p_icmp rfl rfl rfl) rfl) ?_
   refine ls (op (p_asg rfl) rfl) ?_
   refine ln ?_
   refine nthen ?_
   refine cc rfl ?_ ?_
   ·
    intro h21
    try simp only [decide_eq_true_eq, decide_eq_false_iff_not, Bool.not_eq_true', Bool.not_eq_false', Int.not_lt, Int.not_le, ge_iff_le, Bool.not_true, Bool.not_false] at h21
    refine cr ?_
    refine ls (op (p_fa fa66_0 rfl) rfl) ?_
    refine ls (o_st rfl Tryz.sizeOf3 rfl rfl rfl rfl rfl (by repeat (first | exact At.z | apply At.s)) (by repeat (first | exact Put.d | apply Put.t | apply Put.s)) (by repeat (first | exact SetAt.z | apply SetAt.s))) ?_
    refine ln ?_
    refine nblock ?_
    refine nthen ?_
    refine cs ?_
    refine cr ?_
    refine ls (o_ldw Tryz.isAgg66 Tryz.sizeOf66 rfl (by repeat (first | exact At.z | apply At.s)) (by rfl) rfl) ?_
    refine ls (o_st rfl Tryz.sizeOf66 rfl rfl rfl rfl rfl (by repeat (first | exact At.z | apply At.s)) (by repeat (first | exact Put.d | apply Put.t | apply Put.s)) (by repeat (first | exact SetAt.z | apply SetAt.s))) ?_
    refine ln ?_
    refine nthen ?_
    refine cret ?_
    refine xret (fun _ _ h => h) ?_
    refine rret (is := []) ⟨({ p with kind := 1 }, y), by rw [Prim.flip, if_neg h5, if_pos (Or.inr h21), h21]; rfl⟩ (Or.inl rfl) (Res.c rfl Tryz.isAgg66 Tryz.sizeOf66 (by repeat (first | exact At.z | apply At.s)) (by rfl) Res.d) (rfl) rfl (by repeat (first | exact Sub.d | (refine Sub.s ?_ ?_; (repeat (first | exact In.z | apply In.s))) | (refine Sub.suf ?_; (repeat (first | exact Suf.z | apply Suf.s)))))
   ·
    intro h21
    try simp only [decide_eq_true_eq, decide_eq_false_iff_not, Bool.not_eq_true', Bool.not_eq_false', Int.not_lt, Int.not_le, ge_iff_le, Bool.not_true, Bool.not_false] at h21
    refine cs ?_
    refine cr ?_
    refine ls (op (p_icmp rfl rfl rfl) rfl) ?_
    refine ls (op (p_asg rfl) rfl) ?_
    refine ln ?_
    refine nthen ?_
    refine cc rfl ?_ ?_
    ·
     intro h24
     try simp only [decide_eq_true_eq, decide_eq_false_iff_not, Bool.not_eq_true', Bool.not_eq_false', Int.not_lt, Int.not_le, ge_iff_le, Bool.not_true, Bool.not_false] at h24
     refine cs ?_
     refine cr ?_
     refine ls (op (p_fa fa66_2 rfl) rfl) ?_
     refine ls (o_ld Tryz.isAgg9 rfl (by repeat (first | exact At.z | apply At.s)) (by repeat (first | exact At.z | apply At.s)) rfl) ?_
     refine ls (op (p_fa fa66_1 rfl) rfl) ?_
     refine ls (o_ld Tryz.isAgg9 rfl (by repeat (first | exact At.z | apply At.s)) (by repeat (first | exact At.z | apply At.s)) rfl) ?_
     refine ls (op (p_fa fa66_3 rfl) rfl) ?_
     refine ls (o_ld Tryz.isAgg3 rfl (by repeat (first | exact At.z | apply At.s)) (by repeat (first | exact At.z | apply At.s)) rfl) ?_
     refine ls (op (p_fa fa66_4 rfl) rfl) ?_
     refine ls (o_ld Tryz.isAgg35 rfl (by repeat (first | exact At.z | apply At.s)) (by repeat (first | exact At.z | apply At.s)) rfl) ?_
     refine ls (op (p_fa fa66_5 rfl) rfl) ?_
     refine ls (o_ld Tryz.isAgg35 rfl (by repeat (first | exact At.z | apply At.s)) (by repeat (first | exact At.z | apply At.s)) rfl) ?_
     refine ls (op (p_bld sb66 rfl (Fill.t (by repeat (first | exact At.z | apply At.s)) rfl rfl (by repeat (first | exact Put.d | apply Put.t | apply Put.s)) (Fill.t (by repeat (first | exact At.z | apply At.s)) rfl rfl (by repeat (first | exact Put.d | apply Put.t | apply Put.s)) (Fill.t (by repeat (first | exact At.z | apply At.s)) rfl rfl (by repeat (first | exact Put.d | apply Put.t | apply Put.s)) (Fill.t (by repeat (first | exact At.z | apply At.s)) rfl rfl (by repeat (first | exact Put.d | apply Put.t | apply Put.s)) (Fill.t (by repeat (first | exact At.z | apply At.s)) rfl rfl (by repeat (first | exact Put.d | apply Put.t | apply Put.s)) (Fill.t (by repeat (first | exact At.z | apply At.s)) rfl rfl (by repeat (first | exact Put.d | apply Put.t | apply Put.s)) Fill.d))))))) rfl) ?_
     refine ls (o_st rfl Tryz.sizeOf66 rfl rfl rfl rfl rfl (by repeat (first | exact At.z | apply At.s)) (by repeat (first | exact Put.d | apply Put.t | apply Put.s)) (by repeat (first | exact SetAt.z | apply SetAt.s))) ?_
     refine ln ?_
     refine nthen ?_
     refine cret ?_
     refine xret (fun _ _ h => h) ?_
     refine rret (is := []) ⟨({ p with kind := 3, name := p.to, to := p.name }, y), by rw [flip3 h24, h24]⟩ (Or.inl rfl) (Res.c rfl Tryz.isAgg66 Tryz.sizeOf66 (by repeat (first | exact At.z | apply At.s)) (by rfl) Res.d) (rfl) rfl (by repeat (first | exact Sub.d | (refine Sub.s ?_ ?_; (repeat (first | exact In.z | apply In.s))) | (refine Sub.suf ?_; (repeat (first | exact Suf.z | apply Suf.s)))))
    ·
     intro h24
     try simp only [decide_eq_true_eq, decide_eq_false_iff_not, Bool.not_eq_true', Bool.not_eq_false', Int.not_lt, Int.not_le, ge_iff_le, Bool.not_true, Bool.not_false] at h24
     refine cskip ?_
     refine nblock ?_
     refine nthen ?_
     refine cs ?_
     refine cr ?_
     refine ls (o_ldw Tryz.isAgg66 Tryz.sizeOf66 rfl (by repeat (first | exact At.z | apply At.s)) (by rfl) rfl) ?_
     refine ls (o_st rfl Tryz.sizeOf66 rfl rfl rfl rfl rfl (by repeat (first | exact At.z | apply At.s)) (by repeat (first | exact Put.d | apply Put.t | apply Put.s)) (by repeat (first | exact SetAt.z | apply SetAt.s))) ?_
     refine ln ?_
     refine nthen ?_
     refine cret ?_
     refine xret (fun _ _ h => h) ?_
     refine rret (is := []) ⟨(p, y), by rw [Prim.flip, if_neg h5, if_neg (by omega), if_neg h24]⟩ (Or.inl rfl) (Res.c rfl Tryz.isAgg66 Tryz.sizeOf66 (by repeat (first | exact At.z | apply At.s)) (by rfl) Res.d) (rfl) rfl (by repeat (first | exact Sub.d | (refine Sub.s ?_ ?_; (repeat (first | exact In.z | apply In.s))) | (refine Sub.suf ?_; (repeat (first | exact Suf.z | apply Suf.s)))))

set_option maxRecDepth 100000 in
theorem c_alive03 : Con Tryz.prog 42 [] [] [] Unit (fun _ => .bool true) (fun _ => []) (fun _ => []) := by
 refine con Tryz.func42 rfl Tryz.ntmps42 rfl ?_
 intro M0 F0 w0
 refine cs ?_
 refine cr ?_
 refine ls (op (p_asg rfl) rfl) ?_
 refine ln ?_
 refine nthen ?_
 refine cs ?_
 refine cr ?_
 refine ls (o_call (is := []) Tryz.call22 (c_tNew) rfl rfl (by repeat (first | exact Sub.d | (refine Sub.s ?_ ?_; (repeat (first | exact In.z | apply In.s))) | (refine Sub.suf ?_; (repeat (first | exact Suf.z | apply Suf.s))))) rfl) ?_
 refine le ?_; rintro ⟨p, b⟩
 refine ls (op (p_asg rfl) rfl) ?_
 refine ln ?_
 refine nthen ?_
 refine cs ?_
 refine cs ?_
 refine cr ?_
 refine ls (op (p_move rfl) rfl) ?_
 refine ls (op (p_ptrnil Tryz.underlying25 rfl rfl) rfl) ?_
 refine ln ?_
 refine nthen ?_
 refine cc rfl (fun h => by cases h) (fun h => ?_)
 refine cskip ?_
 refine nthen ?_
 refine cs ?_
 refine cr ?_
 refine ls (o_bsl [(⟨#[121]⟩ : ByteArray)] Tryz.underlying35 Tryz.sizeOf9 Tryz.zeroValue9 rfl (Enum.t Enum.d) (RV.t () rfl Sub.d RV.d) rfl (by decide) (by decide) rfl) ?_
 refine le ?_; intro b12
 refine lmono (fun a w h => Go.Sx.freeze (i := 0) rfl h) ?_
 refine ls (o_bsl [(⟨#[122]⟩ : ByteArray), (⟨#[122]⟩ : ByteArray)] Tryz.underlying35 Tryz.sizeOf9 Tryz.zeroValue9 rfl (Enum.t (Enum.t Enum.d)) (RV.t () rfl Sub.d (RV.t () rfl Sub.d RV.d)) rfl (by decide) (by decide) rfl) ?_
 refine le ?_; intro b13
 refine lmono (fun a w h => Go.Sx.freeze (i := 0) rfl h) ?_
 refine ls (op (p_bld sb69 rfl (Fill.t (by repeat (first | exact At.z | apply At.s)) rfl rfl (by repeat (first | exact Put.d | apply Put.t | apply Put.s)) (Fill.t (by repeat (first | exact At.z | apply At.s)) rfl rfl (by repeat (first | exact Put.d | apply Put.t | apply Put.s)) (Fill.t (by repeat (first | exact At.z | apply At.s)) rfl rfl (by repeat (first | exact Put.d | apply Put.t | apply Put.s)) (Fill.t (by repeat (first | exact At.z | apply At.s)) rfl rfl (by repeat (first | exact Put.d | apply Put.t | apply Put.s)) (Fill.t (by repeat (first | exact At.z | apply At.s)) rfl rfl (by repeat (first | exact Put.d | apply Put.t | apply Put.s)) Fill.d)))))) rfl) ?_
 refine ls (o_alloc Tryz.zeroValue69 rfl rfl) ?_
 refine le ?_; intro b2
 refine ls (o_st rfl Tryz.sizeOf69 rfl rfl rfl rfl rfl (by repeat (first | exact At.z | apply At.s)) (by repeat (first | exact Put.d | apply Put.t | apply Put.s)) (by repeat (first | exact SetAt.z | apply SetAt.s))) ?_
 refine ln ?_
 refine nthen ?_
 refine cs ?_
 refine cmono (fun a w h => nilSl (α := ByteArray) h) ?_
 refine cr ?_
 refine ls (op (p_move rfl) rfl) ?_
 refine ls (op (p_bld sb69 rfl (Fill.t (by repeat (first | exact At.z | apply At.s)) rfl rfl (by repeat (first | exact Put.d | apply Put.t | apply Put.s)) (Fill.t (by repeat (first | exact At.z | apply At.s)) rfl rfl (by repeat (first | exact Put.d | apply Put.t | apply Put.s)) Fill.d))) rfl) ?_
 refine ls (o_call (is := [1, 1]) Tryz.call52 (c_pApply p b [] pA ((none, 0), (none, 0)) al3_fA al3_f0 (hb_of (by decide) (by decide))) rfl rfl (by repeat (first | exact Sub.d | (refine Sub.s ?_ ?_; (repeat (first | exact In.z | apply In.s))) | (refine Sub.suf ?_; (repeat (first | exact Suf.z | apply Suf.s))))) rfl) ?_
 refine le ?_; rintro ⟨⟨T1, e1⟩, hq1⟩
 try dsimp only at hq1
 obtain ⟨rfl, rfl⟩ := Prod.mk.inj (hq1.trans al3_1)
 refine ls (op (p_asg rfl) rfl) ?_
 refine ln ?_
 refine nthen ?_
 refine cs ?_
 refine cr ?_
 refine ls (op (p_move rfl) rfl) ?_
 refine ls (o_bsl [(⟨#[120]⟩ : ByteArray), (⟨#[121]⟩ : ByteArray)] Tryz.underlying35 Tryz.sizeOf9 Tryz.zeroValue9 rfl (Enum.t (Enum.t Enum.d)) (RV.t () rfl Sub.d (RV.t () rfl Sub.d RV.d)) rfl (by decide) (by decide) rfl) ?_
 refine le ?_; intro b19
 refine lmono (fun a w h => Go.Sx.freeze (i := 0) rfl h) ?_
 refine ls (o_call (is := [0, 0]) Tryz.call38 (c_tPut p b [((⟨#[97]⟩ : ByteArray), ([] : List ByteArray))] (⟨#[97]⟩ : ByteArray) [(⟨#[120]⟩ : ByteArray), (⟨#[121]⟩ : ByteArray)] _ _ (by simp)) rfl rfl (by repeat (first | exact Sub.d | (refine Sub.s ?_ ?_; (repeat (first | exact In.z | apply In.s))) | (refine Sub.suf ?_; (repeat (first | exact Suf.z | apply Suf.s))))) rfl) ?_
 refine le ?_; rintro ⟨⟨T2, e2⟩, hq2⟩
 try dsimp only at hq2
 obtain ⟨rfl, rfl⟩ := Prod.mk.inj (hq2.trans al_put)
 refine ln ?_
 refine nthen ?_
 refine cs ?_
 refine cr ?_
 refine ls (op (p_move rfl) rfl) ?_
 refine ls (o_ldw Tryz.isAgg69 Tryz.sizeOf69 rfl (by repeat (first | exact At.z | apply At.s)) (by rfl) rfl) ?_
 refine ls (o_call (is := [0, 0]) Tryz.call52 (c_pApply p b [((⟨#[97]⟩ : ByteArray), [(⟨#[120]⟩ : ByteArray), (⟨#[121]⟩ : ByteArray)])] pH ((some ⟨b12, 0, none⟩, 1), (some ⟨b13, 0, none⟩, 2)) al3_fH al_f2 (hb_of (by decide) (by decide))) rfl rfl (by repeat (first | exact Sub.d | (refine Sub.s ?_ ?_; (repeat (first | exact In.z | apply In.s))) | (refine Sub.suf ?_; (repeat (first | exact Suf.z | apply Suf.s))))) rfl) ?_
 refine le ?_; rintro ⟨⟨T3, e3⟩, hq3⟩
 try dsimp only at hq3
 obtain ⟨rfl, rfl⟩ := Prod.mk.inj (hq3.trans al3_2)
 refine ls (op (p_asg rfl) rfl) ?_
 refine ln ?_
 refine nthen ?_
 refine cs ?_
 refine cr ?_
 refine ls (op (p_move rfl) rfl) ?_
 refine ls (o_call (is := [0, 0]) Tryz.call20 (c_tTextS p b [((⟨#[97]⟩ : ByteArray), [(⟨#[120]⟩ : ByteArray), (⟨#[122]⟩ : ByteArray), (⟨#[122]⟩ : ByteArray)])] (⟨#[97, 32, 51, 10, 120, 10, 122, 10, 122, 10]⟩ : ByteArray) al3_t (by simp) al3_f4 (by rw [show (textT _).length = 10 from al3_l]; decide) [] (fun x hx => by have : x = _ := List.mem_singleton.1 hx; subst this; exact l_Itoa 3 (by decide))) rfl rfl (by repeat (first | exact Sub.d | (refine Sub.s ?_ ?_; (repeat (first | exact In.z | apply In.s))) | (refine Sub.suf ?_; (repeat (first | exact Suf.z | apply Suf.s))))) rfl) ?_
 refine le ?_; intro x25
 refine ls (op (p_asg rfl) rfl) ?_
 refine ln ?_
 refine nthen ?_
 refine cs ?_
 refine cr ?_
 refine ls (op (p_move rfl) rfl) ?_
 refine ls (o_ldw Tryz.isAgg69 Tryz.sizeOf69 rfl (by repeat (first | exact At.z | apply At.s)) (by rfl) rfl) ?_
 refine ls (o_call (is := []) Tryz.call46 (c_primInvert pH ((some ⟨b12, 0, none⟩, 1), (some ⟨b13, 0, none⟩, 2)) al3_fH) rfl rfl (by repeat (first | exact Sub.d | (refine Sub.s ?_ ?_; (repeat (first | exact In.z | apply In.s))) | (refine Sub.suf ?_; (repeat (first | exact Suf.z | apply Suf.s))))) rfl) ?_
 refine le ?_; rintro ⟨⟨pI, yI⟩, hI⟩
 obtain rfl : pI = pH.flip := hI
 refine ls (o_call (is := [0, 0]) Tryz.call52 (c_pApply p b [((⟨#[97]⟩ : ByteArray), [(⟨#[120]⟩ : ByteArray), (⟨#[122]⟩ : ByteArray), (⟨#[122]⟩ : ByteArray)])] pH.flip yI (flip_fit' al3_fH) al3_f4 (hb_of (by decide) (by decide))) rfl rfl (by repeat (first | exact Sub.d | (refine Sub.s ?_ ?_; (repeat (first | exact In.z | apply In.s))) | (refine Sub.suf ?_; (repeat (first | exact Suf.z | apply Suf.s))))) rfl) ?_
 refine le ?_; rintro ⟨⟨T4, e4⟩, hq4⟩
 try dsimp only at hq4
 obtain ⟨rfl, rfl⟩ := Prod.mk.inj (hq4.trans al3_3)
 refine ls (op (p_asg rfl) rfl) ?_
 refine ln ?_
 refine nthen ?_
 refine cs ?_
 refine cr ?_
 refine ls (op (p_move rfl) rfl) ?_
 refine ls (op (p_bld sb69 rfl (Fill.t (by repeat (first | exact At.z | apply At.s)) rfl rfl (by repeat (first | exact Put.d | apply Put.t | apply Put.s)) (Fill.t (by repeat (first | exact At.z | apply At.s)) rfl rfl (by repeat (first | exact Put.d | apply Put.t | apply Put.s)) (Fill.t (by repeat (first | exact At.z | apply At.s)) rfl rfl (by repeat (first | exact Put.d | apply Put.t | apply Put.s)) Fill.d)))) rfl) ?_
 refine ls (o_call (is := [0, 0]) Tryz.call52 (c_pApply p b [((⟨#[97]⟩ : ByteArray), [(⟨#[120]⟩ : ByteArray), (⟨#[121]⟩ : ByteArray)])] pM ((none, 0), (none, 0)) al3_fM al_f2 (hb_of (by decide) (by decide))) rfl rfl (by repeat (first | exact Sub.d | (refine Sub.s ?_ ?_; (repeat (first | exact In.z | apply In.s))) | (refine Sub.suf ?_; (repeat (first | exact Suf.z | apply Suf.s))))) rfl) ?_
 refine le ?_; rintro ⟨⟨T5, e5⟩, hq5⟩
 try dsimp only at hq5
 obtain ⟨rfl, rfl⟩ := Prod.mk.inj (hq5.trans al3_4)
 refine ls (op (p_asg rfl) rfl) ?_
 refine ln ?_
 refine nthen ?_
 refine cs ?_
 refine cr ?_
 refine ls (op (p_bld sb69 rfl (Fill.t (by repeat (first | exact At.z | apply At.s)) rfl rfl (by repeat (first | exact Put.d | apply Put.t | apply Put.s)) (Fill.t (by repeat (first | exact At.z | apply At.s)) rfl rfl (by repeat (first | exact Put.d | apply Put.t | apply Put.s)) (Fill.t (by repeat (first | exact At.z | apply At.s)) rfl rfl (by repeat (first | exact Put.d | apply Put.t | apply Put.s)) Fill.d)))) rfl) ?_
 refine ls (o_call (is := []) Tryz.call48 (c_primNames pN ((none, 0), (none, 0))) rfl rfl (by repeat (first | exact Sub.d | (refine Sub.s ?_ ?_; (repeat (first | exact In.z | apply In.s))) | (refine Sub.suf ?_; (repeat (first | exact Suf.z | apply Suf.s))))) rfl) ?_
 refine le ?_; rintro ⟨⟨ns, ⟨A8, c8⟩⟩, hns⟩
 obtain rfl : ns = [(⟨#[97]⟩ : ByteArray), (⟨#[98]⟩ : ByteArray)] := hns.trans al3_5
 refine ls (op (p_asg rfl) rfl) ?_
 refine ln ?_
 refine nthen ?_
 refine cs ?_
 refine elC (by repeat (first | exact At.z | apply At.s)) 0 ((show ([(⟨#[97]⟩ : ByteArray), (⟨#[98]⟩ : ByteArray)] : List ByteArray)[0]? = some (⟨#[97]⟩ : ByteArray) from rfl)) ?_; rintro zbp zop zyp hAp
 refine cdB [20, 26, 32, 49, 50, 54] [(25, b2, 0, _), (43, zbp, zop + 0 * Rp.size ByteArray, _), (47, b2, 0, _), (48, b2, 0, _), (53, b2, 0, _)] TryzX.mixed (by kernel_rfl) (by kernel_rfl) (TOk.t (isBoxS (by repeat (first | exact At.z | apply At.s)) (k := 6) (by repeat (first | exact Cut.d | apply Cut.t | apply Cut.s))) (TOk.t (isInS (by repeat (first | exact At.z | apply At.s)) (k := 0) rfl (z := 1) (by repeat (first | exact Cut.d | apply Cut.t | apply Cut.s))) (TOk.t (isBoxS (by repeat (first | exact At.z | apply At.s)) (k := 6) (by repeat (first | exact Cut.d | apply Cut.t | apply Cut.s))) (TOk.t (isBoxS (by repeat (first | exact At.z | apply At.s)) (k := 6) (by repeat (first | exact Cut.d | apply Cut.t | apply Cut.s))) (TOk.t (isBoxS (by repeat (first | exact At.z | apply At.s)) (k := 6) (by repeat (first | exact Cut.d | apply Cut.t | apply Cut.s))) TOk.d))))) ?_
 refine tkB 0 rfl (by kernel_rfl) (fun _ _ _ h => h) gnone (TTany _) (p_move rfl) rfl ?_
 refine tkB 1 rfl (by kernel_rfl) (fun _ _ _ h => h) gnone (TTany _) (p_icmp rfl rfl rfl) rfl ?_
 refine tkB 2 rfl (by kernel_rfl) (fun _ _ _ h => h) gnone (TTany _) (p_move rfl) rfl ?_
 refine tkB 3 rfl (by kernel_rfl) (fun _ _ _ h => h) (gyes rfl rfl rfl rfl) (TTany _) (p_move rfl) rfl ?_
 refine tkB 4 rfl (by kernel_rfl) (fun _ _ _ h => h) (gyes rfl rfl rfl rfl) (TTany _) (p_icmp rfl rfl rfl) rfl ?_
 refine tkB 5 rfl (by kernel_rfl) (fun _ _ _ h => h) gnone (TTany _) (p_pickt rfl rfl) rfl ?_
 refine tkB 6 rfl (by kernel_rfl) (fun _ _ _ h => h) gnone (TTany _) (p_move rfl) rfl ?_
 refine tkB 7 rfl (by kernel_rfl) (fun _ _ _ h => h) (gyes rfl rfl rfl rfl) (TTany _) (p_move rfl) rfl ?_
 refine tkB 8 rfl (by kernel_rfl) (fun _ _ _ h => h) (gyes rfl rfl rfl rfl) (TTany _) (p_seq rfl rfl) rfl ?_
 refine fixB (congrArg Value.bool (decide_eq_true rfl)) ?_
 refine tkB 9 rfl (by kernel_rfl) (fun _ _ _ h => h) gnone (TTany _) (p_pickt rfl rfl) rfl ?_
 refine tkB 10 rfl (by kernel_rfl) (fun _ _ _ h => h) gnone (TTany _) (p_move rfl) rfl ?_
 refine tkB 11 rfl (by kernel_rfl) (fun _ _ _ h => h) (gyes rfl rfl rfl rfl) (TTany _) (p_move rfl) rfl ?_
 refine tkB 12 rfl (by kernel_rfl) (fun _ _ _ h => h) (gyes rfl rfl rfl rfl) (TTany _) (p_icmp rfl rfl rfl) rfl ?_
 refine tkB 13 rfl (by kernel_rfl) (fun _ _ _ h => h) gnone (TTany _) (p_pickt rfl rfl) rfl ?_
 refine tkB 14 rfl (by kernel_rfl) (fun _ _ _ h => h) gnone (TTany _) (p_move rfl) rfl ?_
 refine tkB 15 rfl (by kernel_rfl) (fun _ _ _ h => h) (gyes rfl rfl rfl rfl) (TTany _) (p_move rfl) rfl ?_
 refine tkB 16 rfl (by kernel_rfl) (fun _ _ _ h => h) (gyes rfl rfl rfl rfl) (TTany _) (p_icmp rfl rfl rfl) rfl ?_
 refine tkB 17 rfl (by kernel_rfl) (fun _ _ _ h => h) gnone (TTany _) (p_pickt rfl rfl) rfl ?_
 refine tkB 18 rfl (by kernel_rfl) (fun _ _ _ h => h) gnone (TTany _) (p_move rfl) rfl ?_
 refine tkB 19 rfl (by kernel_rfl) (fun _ _ _ h => h) (gyes rfl rfl rfl rfl) (TTany _) (p_move rfl) rfl ?_
 refine dfB 20 (by kernel_rfl) ?_
 refine doGB rfl rfl rfl rfl rfl (o_call (is := [0, 0]) Tryz.call20 (c_tTextS p b [((⟨#[98]⟩ : ByteArray), [(⟨#[120]⟩ : ByteArray), (⟨#[121]⟩ : ByteArray)])] (⟨#[98, 32, 50, 10, 120, 10, 121, 10]⟩ : ByteArray) al_t2 (by simp) al_f3 (by rw [show (textT _).length = 8 from al_l3]; decide) [] (fun x hx => by have : x = _ := List.mem_singleton.1 hx; subst this; exact l_Itoa 2 (by decide))) rfl rfl (by repeat (first | exact Sub.d | (refine Sub.s ?_ ?_; (repeat (first | exact In.z | apply In.s))) | (refine Sub.suf ?_; (repeat (first | exact Suf.z | apply Suf.s))))) rfl) (TOk.t (isBoxE fun _ => isBoxS (by repeat (first | exact At.z | apply At.s)) (k := 6) (by repeat (first | exact Cut.d | apply Cut.t | apply Cut.s))) (TOk.t (isBoxE fun _ => isInS (by repeat (first | exact At.z | apply At.s)) (k := 0) rfl (z := 1) (by repeat (first | exact Cut.d | apply Cut.t | apply Cut.s))) (TOk.t (isBoxE fun _ => isBoxS (by repeat (first | exact At.z | apply At.s)) (k := 6) (by repeat (first | exact Cut.d | apply Cut.t | apply Cut.s))) (TOk.t (isBoxE fun _ => isBoxS (by repeat (first | exact At.z | apply At.s)) (k := 6) (by repeat (first | exact Cut.d | apply Cut.t | apply Cut.s))) (TOk.t (isBoxE fun _ => isBoxS (by repeat (first | exact At.z | apply At.s)) (k := 6) (by repeat (first | exact Cut.d | apply Cut.t | apply Cut.s))) TOk.d))))) ?_
 refine eaB ?_; intro x55
 refine tkB 21 rfl (by kernel_rfl) (fun _ _ _ h => h) (gyes rfl rfl rfl rfl) (TTany _) (p_seq rfl rfl) rfl ?_
 refine fixB (congrArg Value.bool (decide_eq_true rfl)) ?_
 refine tkB 22 rfl (by kernel_rfl) (fun _ _ _ h => h) gnone (TTany _) (p_pickt rfl rfl) rfl ?_
 refine tkB 23 rfl (by kernel_rfl) (fun _ _ _ h => h) gnone (TTany _) (p_move rfl) rfl ?_
 refine tkB 24 rfl (by kernel_rfl) (fun _ _ _ h => h) (gyes rfl rfl rfl rfl) (TTany _) (p_move rfl) rfl ?_
 refine tkB 25 rfl (by kernel_rfl) (fun _ _ _ h => h) (gyes rfl rfl rfl rfl) (TTat (List.Mem.head _)) (p_lda Tryz.isAgg69 Tryz.sizeOf69 rfl rfl) rfl ?_
 refine dfB 26 (by kernel_rfl) ?_
 refine doGB rfl rfl rfl rfl rfl (o_call (is := [0, 0]) Tryz.call52 (c_pApply p b [((⟨#[98]⟩ : ByteArray), [(⟨#[120]⟩ : ByteArray), (⟨#[121]⟩ : ByteArray)])] pH ((some ⟨b12, 0, none⟩, 1), (some ⟨b13, 0, none⟩, 2)) al3_fH al_f3 (hb_of (by decide) (by decide))) rfl rfl (by repeat (first | exact Sub.d | (refine Sub.s ?_ ?_; (repeat (first | exact In.z | apply In.s))) | (refine Sub.suf ?_; (repeat (first | exact Suf.z | apply Suf.s))))) rfl) (TOk.xP 26 [] (by kernel_rfl) (TOk.t (isBoxE fun _ => isInS (by repeat (first | exact At.z | apply At.s)) (k := 0) rfl (z := 1) (by repeat (first | exact Cut.d | apply Cut.t | apply Cut.s))) (TOk.t (isBoxE fun _ => isBoxS (by repeat (first | exact At.z | apply At.s)) (k := 6) (by repeat (first | exact Cut.d | apply Cut.t | apply Cut.s))) (TOk.t (isBoxE fun _ => isBoxS (by repeat (first | exact At.z | apply At.s)) (k := 6) (by repeat (first | exact Cut.d | apply Cut.t | apply Cut.s))) (TOk.t (isBoxE fun _ => isBoxS (by repeat (first | exact At.z | apply At.s)) (k := 6) (by repeat (first | exact Cut.d | apply Cut.t | apply Cut.s))) TOk.d))))) ?_
 refine eaB ?_; rintro ⟨⟨T6, e6⟩, hq6⟩
 try dsimp only at hq6
 obtain ⟨rfl, rfl⟩ := Prod.mk.inj (hq6.trans al3_6)
 refine tkB 27 rfl (by kernel_rfl) (fun _ _ _ h => h) (gyes rfl rfl rfl rfl) (TTany _) (p_icmp rfl rfl rfl) rfl ?_
 refine tkB 28 rfl (by kernel_rfl) (fun _ _ _ h => h) gnone (TTany _) (p_pickt rfl rfl) rfl ?_
 refine tkB 29 rfl (by kernel_rfl) (fun _ _ _ h => h) gnone (TTany _) (p_move rfl) rfl ?_
 refine tkB 30 rfl (by kernel_rfl) (fun _ _ _ h => h) (gyes rfl rfl rfl rfl) (TTany _) (p_move rfl) rfl ?_
 refine tkB 31 rfl (by kernel_rfl) (fun _ _ _ h => h) (gyes rfl rfl rfl rfl) (TTany _) (p_bld sb69 rfl Fill.d) rfl ?_
 refine dfB 32 (by kernel_rfl) ?_
 refine doGB rfl rfl rfl rfl rfl (o_call (is := [0, 0]) Tryz.call52 (c_pApply p b [((⟨#[98]⟩ : ByteArray), [(⟨#[120]⟩ : ByteArray), (⟨#[121]⟩ : ByteArray)])] Prim.zero ((none, 0), (none, 0)) al3_fZ al_f3 (hb_of (by decide) (by decide))) rfl rfl (by repeat (first | exact Sub.d | (refine Sub.s ?_ ?_; (repeat (first | exact In.z | apply In.s))) | (refine Sub.suf ?_; (repeat (first | exact Suf.z | apply Suf.s))))) rfl) (TOk.xP 26 [] (by kernel_rfl) (TOk.t (isBoxE fun _ => isInS (by repeat (first | exact At.z | apply At.s)) (k := 0) rfl (z := 1) (by repeat (first | exact Cut.d | apply Cut.t | apply Cut.s))) (TOk.t (isBoxE fun _ => isBoxS (by repeat (first | exact At.z | apply At.s)) (k := 6) (by repeat (first | exact Cut.d | apply Cut.t | apply Cut.s))) (TOk.t (isBoxE fun _ => isBoxS (by repeat (first | exact At.z | apply At.s)) (k := 6) (by repeat (first | exact Cut.d | apply Cut.t | apply Cut.s))) (TOk.t (isBoxE fun _ => isBoxS (by repeat (first | exact At.z | apply At.s)) (k := 6) (by repeat (first | exact Cut.d | apply Cut.t | apply Cut.s))) TOk.d))))) ?_
 refine eaB ?_; rintro ⟨⟨T7, e7⟩, hq7⟩
 try dsimp only at hq7
 obtain ⟨rfl, rfl⟩ := Prod.mk.inj (hq7.trans al3_7)
 refine tkB 33 rfl (by kernel_rfl) (fun _ _ _ h => h) (gyes rfl rfl rfl rfl) (TTany _) (p_icmp rfl rfl rfl) rfl ?_
 refine tkB 34 rfl (by kernel_rfl) (fun _ _ _ h => h) gnone (TTany _) (p_pickt rfl rfl) rfl ?_
 refine tkB 35 rfl (by kernel_rfl) (fun _ _ _ h => h) gnone (TTany _) (p_move rfl) rfl ?_
 refine tkB 36 rfl (by kernel_rfl) (fun _ _ _ h => h) (gyes rfl rfl rfl rfl) (TTany _) (p_move rfl) rfl ?_
 refine tkB 37 rfl (by kernel_rfl) (fun _ _ _ h => h) (gyes rfl rfl rfl rfl) (TTany _) (p_lenl rfl Tryz.underlying35) rfl ?_
 refine tkB 38 rfl (by kernel_rfl) (fun _ _ _ h => h) (gyes rfl rfl rfl rfl) (TTany _) (p_icmp rfl rfl rfl) rfl ?_
 refine tkB 39 rfl (by kernel_rfl) (fun _ _ _ h => h) gnone (TTany _) (p_pickt rfl rfl) rfl ?_
 refine tkB 40 rfl (by kernel_rfl) (fun _ _ _ h => h) gnone (TTany _) (p_move rfl) rfl ?_
 refine tkB 41 rfl (by kernel_rfl) (fun _ _ _ h => h) (gyes rfl rfl rfl rfl) (TTany _) (p_move rfl) rfl ?_
 refine tkB 42 rfl (by kernel_rfl) (fun _ _ _ h => h) (gyes rfl rfl rfl rfl) (TTany _) (p_ia 0 hAp Nat.zero_lt_two rfl Tryz.underlying35 Tryz.sizeOf9 rfl rfl) rfl ?_
 refine tkB 43 rfl (by kernel_rfl) (fun _ _ _ h => h) (gyes rfl rfl rfl rfl) (TTat (List.Mem.tail _ (List.Mem.head _))) (p_ld Tryz.isAgg9 rfl) rfl ?_
 refine tkB 44 rfl (by kernel_rfl) (fun _ _ _ h => h) (gyes rfl rfl rfl rfl) (TTany _) (p_seq rfl rfl) rfl ?_
 refine fixB (congrArg Value.bool (decide_eq_true rfl)) ?_
 refine tkB 45 rfl (by kernel_rfl) (fun _ _ _ h => h) gnone (TTany _) (p_pickt rfl rfl) rfl ?_
 refine tkB 46 rfl (by kernel_rfl) (fun _ _ _ h => h) gnone (TTany _) (p_move rfl) rfl ?_
 refine tkB 47 rfl (by kernel_rfl) (fun _ _ _ h => h) (gyes rfl rfl rfl rfl) (TTat (List.Mem.tail _ (List.Mem.tail _ (List.Mem.head _)))) (p_lda Tryz.isAgg69 Tryz.sizeOf69 rfl rfl) rfl ?_
 refine tkB 48 rfl (by kernel_rfl) (fun _ _ _ h => h) (gyes rfl rfl rfl rfl) (TTat (List.Mem.tail _ (List.Mem.tail _ (List.Mem.tail _ (List.Mem.head _))))) (p_lda Tryz.isAgg69 Tryz.sizeOf69 rfl rfl) rfl ?_
 refine dfB 49 (by kernel_rfl) ?_
 refine doGB rfl rfl rfl rfl rfl (o_call (is := []) Tryz.call51 (c_primClone pH ((some ⟨b12, 0, none⟩, 1), (some ⟨b13, 0, none⟩, 2)) al3_fH) rfl rfl (by repeat (first | exact Sub.d | (refine Sub.s ?_ ?_; (repeat (first | exact In.z | apply In.s))) | (refine Sub.suf ?_; (repeat (first | exact Suf.z | apply Suf.s))))) rfl) (TOk.xP 26 [] (by kernel_rfl) (TOk.xP 49 [46, 45, 44] (by kernel_rfl) (TOk.t (isBoxE fun _ => isBoxS (by repeat (first | exact At.z | apply At.s)) (k := 6) (by repeat (first | exact Cut.d | apply Cut.t | apply Cut.s))) (TOk.xP 49 [] (by kernel_rfl) (TOk.t (isBoxE fun _ => isBoxS (by repeat (first | exact At.z | apply At.s)) (k := 6) (by repeat (first | exact Cut.d | apply Cut.t | apply Cut.s))) TOk.d))))) ?_
 refine eaB ?_; intro z84
 refine dfB 50 (by kernel_rfl) ?_
 refine doGB rfl rfl rfl rfl rfl (o_call (is := []) Tryz.call50 (c_primSame pH pH ((some ⟨b12, 0, none⟩, 1), (some ⟨b13, 0, none⟩, 2)) z84 al3_fH) rfl rfl (by repeat (first | exact Sub.d | (refine Sub.s ?_ ?_; (repeat (first | exact In.z | apply In.s))) | (refine Sub.suf ?_; (repeat (first | exact Suf.z | apply Suf.s))))) rfl) (TOk.xP 26 [] (by kernel_rfl) (TOk.xP 49 [46, 45, 44] (by kernel_rfl) (TOk.xP 50 [] (by kernel_rfl) (TOk.xP 49 [] (by kernel_rfl) (TOk.t (isBoxE fun _ => isBoxS (by repeat (first | exact At.z | apply At.s)) (k := 6) (by repeat (first | exact Cut.d | apply Cut.t | apply Cut.s))) TOk.d))))) ?_
 refine eaB ?_; intro x85
 refine fixB (congrArg Value.bool (decide_eq_true rfl)) ?_
 refine tkB 51 rfl (by kernel_rfl) (fun _ _ _ h => h) gnone (TTany _) (p_pickt rfl rfl) rfl ?_
 refine tkB 52 rfl (by kernel_rfl) (fun _ _ _ h => h) gnone (TTany _) (p_move rfl) rfl ?_
 refine tkB 53 rfl (by kernel_rfl) (fun _ _ _ h => h) (gyes rfl rfl rfl rfl) (TTat (List.Mem.tail _ (List.Mem.tail _ (List.Mem.tail _ (List.Mem.tail _ (List.Mem.head _)))))) (p_lda Tryz.isAgg69 Tryz.sizeOf69 rfl rfl) rfl ?_
 refine dfB 54 (by kernel_rfl) ?_
 refine doGB rfl rfl rfl rfl rfl (o_call (is := []) Tryz.call43 (c_primRight pH ((some ⟨b12, 0, none⟩, 1), (some ⟨b13, 0, none⟩, 2)) al3_fH) rfl rfl (by repeat (first | exact Sub.d | (refine Sub.s ?_ ?_; (repeat (first | exact In.z | apply In.s))) | (refine Sub.suf ?_; (repeat (first | exact Suf.z | apply Suf.s))))) rfl) (TOk.xP 26 [] (by kernel_rfl) (TOk.xP 49 [46, 45, 44] (by kernel_rfl) (TOk.xP 50 [] (by kernel_rfl) (TOk.xP 49 [] (by kernel_rfl) (TOk.xP 54 [] (by kernel_rfl) TOk.d))))) ?_
 refine eaB ?_; intro x89
 refine fixB (congrArg Value.bool al3_8) ?_
 refine tkB 55 rfl (by kernel_rfl) (fun _ _ _ h => h) gnone (TTany _) (p_pickt rfl rfl) rfl ?_
 refine tkB 56 rfl (by kernel_rfl) (fun _ _ _ h => h) gnone (TTany _) (p_asg rfl) rfl ?_
 refine dnB (by kernel_rfl) ?_
 refine nthen ?_
 refine cret ?_
 refine xret (fun _ _ h => h) ?_
 refine rret (is := []) () (Or.inl rfl) (Res.t rfl Res.d) (rfl) rfl (by repeat (first | exact Sub.d | (refine Sub.s ?_ ?_; (repeat (first | exact In.z | apply In.s))) | (refine Sub.suf ?_; (repeat (first | exact Suf.z | apply Suf.s)))))

end Go.Proofs.YtgjbcigeecbfiaaGreatDoor.X

end
section
set_option linter.unusedVariables false
set_option linter.unusedSimpArgs false
namespace Go.Proofs.YtgjbcigeecbfiaaGreatDoor.X
open Go Go.RowKit Go.Proofs Go.Sx
attribute [local irreducible] slA isA box row


set_option maxRecDepth 100000 in
theorem c_PrimRight (pr : Prim) (y : Rp.Lay Prim) (hp : pr.fit) (hM1 : many [pr] ≤ 1000000000000) : Con Tryz.prog 9 [sv pr y] [] (Rp.asn pr y) Unit (fun _ => .bool true) (fun _ => []) (fun _ => []) := by
 refine con Tryz.func9 rfl Tryz.ntmps9 rfl ?_
 intro M0 F0 w0
 refine cs ?_
 refine cr ?_
 refine ls (o_box rfl rfl rfl) ?_
 refine le ?_; intro b1
 refine ls (op (p_asg rfl) rfl) ?_
 refine ln ?_
 refine nthen ?_
 refine cs ?_
 refine cs ?_
 refine cr ?_
 refine ls (o_ldw Tryz.isAgg66 Tryz.sizeOf66 rfl (by repeat (first | exact At.z | apply At.s)) (by rfl) rfl) ?_
 refine ls (o_bsl [pr] Tryz.underlying68 Tryz.sizeOf66 Tryz.zeroValue66 rfl (Enum.t Enum.d) (RV.t y rfl (by repeat (first | exact Sub.d | (refine Sub.s ?_ ?_; (repeat (first | exact In.z | apply In.s))) | (refine Sub.suf ?_; (repeat (first | exact Suf.z | apply Suf.s))))) RV.d) rfl (by decide) (by decide) rfl) ?_
 refine le ?_; intro b5
 refine lmono (fun a w h => Go.Sx.freeze (i := 0) rfl h) ?_
 refine ls (o_call (is := []) Tryz.call41 (c_Many [pr] (some ⟨b5, 0, none⟩) 1 (by simp) hM1) rfl rfl (by repeat (first | exact Sub.d | (refine Sub.s ?_ ?_; (repeat (first | exact In.z | apply In.s))) | (refine Sub.suf ?_; (repeat (first | exact Suf.z | apply Suf.s))))) rfl) ?_
 refine le ?_; intro x6
 refine ls (op (p_icmp rfl rfl rfl) rfl) ?_
 refine ln ?_
 refine nthen ?_
 refine cc rfl ?_ ?_
 ·
  intro h7
  refine cs ?_
  refine cr ?_
  refine ls (o_call (is := []) Tryz.call42 (c_alive03) rfl rfl (by repeat (first | exact Sub.d | (refine Sub.s ?_ ?_; (repeat (first | exact In.z | apply In.s))) | (refine Sub.suf ?_; (repeat (first | exact Suf.z | apply Suf.s))))) rfl) ?_
  refine le ?_; intro x8
  refine ls (op (p_asg rfl) rfl) ?_
  refine ln ?_
  refine nthen ?_
  refine cret ?_
  refine xret (fun _ _ h => h) ?_
  refine rret (is := []) () (Or.inl rfl) (Res.t rfl Res.d) (rfl) rfl (by repeat (first | exact Sub.d | (refine Sub.s ?_ ?_; (repeat (first | exact In.z | apply In.s))) | (refine Sub.suf ?_; (repeat (first | exact Suf.z | apply Suf.s)))))
 ·
  intro h7
  refine cskip ?_
  refine nthen ?_
  refine cs ?_
  refine cr ?_
  refine ls (o_ldw Tryz.isAgg66 Tryz.sizeOf66 rfl (by repeat (first | exact At.z | apply At.s)) (by rfl) rfl) ?_
  refine ls (o_alloc Tryz.zeroValue69 rfl rfl) ?_
  refine le ?_; intro b3
  refine ls (o_st rfl Tryz.sizeOf69 rfl rfl rfl rfl rfl (by repeat (first | exact At.z | apply At.s)) (by repeat (first | exact Put.d | apply Put.t | apply Put.s)) (by repeat (first | exact SetAt.z | apply SetAt.s))) ?_
  refine ln ?_
  refine nthen ?_
  refine cs ?_
  refine cdB [0, 3, 5, 10, 12, 13, 17, 19, 20, 25, 26] [(2, b3, 0, _), (4, b1, 0, _), (9, b3, 0, _), (11, b1, 0, _), (16, b3, 0, _), (18, b1, 0, _), (23, b3, 0, _), (24, b3, 0, _)] TryzX.mixed (by kernel_rfl) (by kernel_rfl) (TOk.t (isBoxS (by repeat (first | exact At.z | apply At.s)) (k := 6) (by repeat (first | exact Cut.d | apply Cut.t | apply Cut.s))) (TOk.t (isBoxS (by repeat (first | exact At.z | apply At.s)) (k := 6) (by repeat (first | exact Cut.d | apply Cut.t | apply Cut.s))) (TOk.t (isBoxS (by repeat (first | exact At.z | apply At.s)) (k := 6) (by repeat (first | exact Cut.d | apply Cut.t | apply Cut.s))) (TOk.t (isBoxS (by repeat (first | exact At.z | apply At.s)) (k := 6) (by repeat (first | exact Cut.d | apply Cut.t | apply Cut.s))) (TOk.t (isBoxS (by repeat (first | exact At.z | apply At.s)) (k := 6) (by repeat (first | exact Cut.d | apply Cut.t | apply Cut.s))) (TOk.t (isBoxS (by repeat (first | exact At.z | apply At.s)) (k := 6) (by repeat (first | exact Cut.d | apply Cut.t | apply Cut.s))) (TOk.t (isBoxS (by repeat (first | exact At.z | apply At.s)) (k := 6) (by repeat (first | exact Cut.d | apply Cut.t | apply Cut.s))) (TOk.t (isBoxS (by repeat (first | exact At.z | apply At.s)) (k := 6) (by repeat (first | exact Cut.d | apply Cut.t | apply Cut.s))) TOk.d)))))))) ?_
  refine dfB 0 (by kernel_rfl) ?_
  refine doRB rfl (o_call (is := []) Tryz.call42 (c_alive03) rfl rfl (by repeat (first | exact Sub.d | (refine Sub.s ?_ ?_; (repeat (first | exact In.z | apply In.s))) | (refine Sub.suf ?_; (repeat (first | exact Suf.z | apply Suf.s))))) rfl) (TOk.t (isBoxE fun _ => isBoxS (by repeat (first | exact At.z | apply At.s)) (k := 6) (by repeat (first | exact Cut.d | apply Cut.t | apply Cut.s))) (TOk.t (isBoxE fun _ => isBoxS (by repeat (first | exact At.z | apply At.s)) (k := 6) (by repeat (first | exact Cut.d | apply Cut.t | apply Cut.s))) (TOk.t (isBoxE fun _ => isBoxS (by repeat (first | exact At.z | apply At.s)) (k := 6) (by repeat (first | exact Cut.d | apply Cut.t | apply Cut.s))) (TOk.t (isBoxE fun _ => isBoxS (by repeat (first | exact At.z | apply At.s)) (k := 6) (by repeat (first | exact Cut.d | apply Cut.t | apply Cut.s))) (TOk.t (isBoxE fun _ => isBoxS (by repeat (first | exact At.z | apply At.s)) (k := 6) (by repeat (first | exact Cut.d | apply Cut.t | apply Cut.s))) (TOk.t (isBoxE fun _ => isBoxS (by repeat (first | exact At.z | apply At.s)) (k := 6) (by repeat (first | exact Cut.d | apply Cut.t | apply Cut.s))) (TOk.t (isBoxE fun _ => isBoxS (by repeat (first | exact At.z | apply At.s)) (k := 6) (by repeat (first | exact Cut.d | apply Cut.t | apply Cut.s))) (TOk.t (isBoxE fun _ => isBoxS (by repeat (first | exact At.z | apply At.s)) (k := 6) (by repeat (first | exact Cut.d | apply Cut.t | apply Cut.s))) TOk.d)))))))) ?_
  refine eaB ?_; intro x10
  refine tkB 1 rfl (by kernel_rfl) (fun _ _ _ h => h) gnone (TTany _) (p_move rfl) rfl ?_
  refine tkB 2 rfl (by kernel_rfl) (fun _ _ _ h => h) (gyes rfl rfl rfl rfl) (TTat (List.Mem.head _)) (p_lda Tryz.isAgg69 Tryz.sizeOf69 rfl rfl) rfl ?_
  refine tkB 4 rfl (by kernel_rfl) (fun _ _ _ h => h) (gyes rfl rfl rfl rfl) (TTat (List.Mem.tail _ (List.Mem.head _))) (p_lda Tryz.isAgg66 Tryz.sizeOf66 rfl rfl) rfl ?_
  refine dfB 3 (by kernel_rfl) ?_
  refine doGB rfl rfl rfl rfl rfl (o_call (is := []) Tryz.call43 (c_primRight pr y hp) rfl rfl (by repeat (first | exact Sub.d | (refine Sub.s ?_ ?_; (repeat (first | exact In.z | apply In.s))) | (refine Sub.suf ?_; (repeat (first | exact Suf.z | apply Suf.s))))) rfl) (TOk.xP 3 [] (by kernel_rfl) (TOk.t (isBoxE fun _ => isBoxS (by repeat (first | exact At.z | apply At.s)) (k := 6) (by repeat (first | exact Cut.d | apply Cut.t | apply Cut.s))) (TOk.t (isBoxE fun _ => isBoxS (by repeat (first | exact At.z | apply At.s)) (k := 6) (by repeat (first | exact Cut.d | apply Cut.t | apply Cut.s))) (TOk.t (isBoxE fun _ => isBoxS (by repeat (first | exact At.z | apply At.s)) (k := 6) (by repeat (first | exact Cut.d | apply Cut.t | apply Cut.s))) (TOk.t (isBoxE fun _ => isBoxS (by repeat (first | exact At.z | apply At.s)) (k := 6) (by repeat (first | exact Cut.d | apply Cut.t | apply Cut.s))) (TOk.t (isBoxE fun _ => isBoxS (by repeat (first | exact At.z | apply At.s)) (k := 6) (by repeat (first | exact Cut.d | apply Cut.t | apply Cut.s))) (TOk.t (isBoxE fun _ => isBoxS (by repeat (first | exact At.z | apply At.s)) (k := 6) (by repeat (first | exact Cut.d | apply Cut.t | apply Cut.s))) (TOk.t (isBoxE fun _ => isBoxS (by repeat (first | exact At.z | apply At.s)) (k := 6) (by repeat (first | exact Cut.d | apply Cut.t | apply Cut.s))) TOk.d)))))))) ?_
  refine eaB ?_; intro x13
  refine dfB 5 (by kernel_rfl) ?_
  refine doGB rfl rfl rfl rfl rfl (o_call (is := []) Tryz.call44 (c_refRight pr y hp) rfl rfl (by repeat (first | exact Sub.d | (refine Sub.s ?_ ?_; (repeat (first | exact In.z | apply In.s))) | (refine Sub.suf ?_; (repeat (first | exact Suf.z | apply Suf.s))))) rfl) (TOk.xP 3 [] (by kernel_rfl) (TOk.xP 5 [] (by kernel_rfl) (TOk.t (isBoxE fun _ => isBoxS (by repeat (first | exact At.z | apply At.s)) (k := 6) (by repeat (first | exact Cut.d | apply Cut.t | apply Cut.s))) (TOk.t (isBoxE fun _ => isBoxS (by repeat (first | exact At.z | apply At.s)) (k := 6) (by repeat (first | exact Cut.d | apply Cut.t | apply Cut.s))) (TOk.t (isBoxE fun _ => isBoxS (by repeat (first | exact At.z | apply At.s)) (k := 6) (by repeat (first | exact Cut.d | apply Cut.t | apply Cut.s))) (TOk.t (isBoxE fun _ => isBoxS (by repeat (first | exact At.z | apply At.s)) (k := 6) (by repeat (first | exact Cut.d | apply Cut.t | apply Cut.s))) (TOk.t (isBoxE fun _ => isBoxS (by repeat (first | exact At.z | apply At.s)) (k := 6) (by repeat (first | exact Cut.d | apply Cut.t | apply Cut.s))) (TOk.t (isBoxE fun _ => isBoxS (by repeat (first | exact At.z | apply At.s)) (k := 6) (by repeat (first | exact Cut.d | apply Cut.t | apply Cut.s))) TOk.d)))))))) ?_
  refine eaB ?_; intro x15
  refine tkB 6 rfl (by kernel_rfl) (fun _ _ _ h => h) (gyes rfl rfl rfl rfl) (TTany _) (p_beq Tryz.underlying4 rfl rfl) rfl ?_
  refine fixB (congrArg Value.bool (beq_self_eq_true _)) ?_
  refine tkB 7 rfl (by kernel_rfl) (fun _ _ _ h => h) gnone (TTany _) (p_pickt rfl rfl) rfl ?_
  refine tkB 8 rfl (by kernel_rfl) (fun _ _ _ h => h) gnone (TTany _) (p_move rfl) rfl ?_
  refine tkB 9 rfl (by kernel_rfl) (fun _ _ _ h => h) (gyes rfl rfl rfl rfl) (TTat (List.Mem.tail _ (List.Mem.tail _ (List.Mem.head _)))) (p_lda Tryz.isAgg69 Tryz.sizeOf69 rfl rfl) rfl ?_
  refine tkB 11 rfl (by kernel_rfl) (fun _ _ _ h => h) (gyes rfl rfl rfl rfl) (TTat (List.Mem.tail _ (List.Mem.tail _ (List.Mem.tail _ (List.Mem.head _))))) (p_lda Tryz.isAgg66 Tryz.sizeOf66 rfl rfl) rfl ?_
  refine dfB 10 (by kernel_rfl) ?_
  refine doGB rfl rfl rfl rfl rfl (o_call (is := []) Tryz.call46 (c_primInvert pr y hp) rfl rfl (by repeat (first | exact Sub.d | (refine Sub.s ?_ ?_; (repeat (first | exact In.z | apply In.s))) | (refine Sub.suf ?_; (repeat (first | exact Suf.z | apply Suf.s))))) rfl) (TOk.xP 3 [] (by kernel_rfl) (TOk.xP 5 [] (by kernel_rfl) (TOk.xP 10 [] (by kernel_rfl) (TOk.t (isBoxE fun _ => isBoxS (by repeat (first | exact At.z | apply At.s)) (k := 6) (by repeat (first | exact Cut.d | apply Cut.t | apply Cut.s))) (TOk.t (isBoxE fun _ => isBoxS (by repeat (first | exact At.z | apply At.s)) (k := 6) (by repeat (first | exact Cut.d | apply Cut.t | apply Cut.s))) (TOk.t (isBoxE fun _ => isBoxS (by repeat (first | exact At.z | apply At.s)) (k := 6) (by repeat (first | exact Cut.d | apply Cut.t | apply Cut.s))) (TOk.t (isBoxE fun _ => isBoxS (by repeat (first | exact At.z | apply At.s)) (k := 6) (by repeat (first | exact Cut.d | apply Cut.t | apply Cut.s))) (TOk.t (isBoxE fun _ => isBoxS (by repeat (first | exact At.z | apply At.s)) (k := 6) (by repeat (first | exact Cut.d | apply Cut.t | apply Cut.s))) TOk.d)))))))) ?_
  refine eaB ?_; rintro ⟨⟨p1, y1⟩, h1⟩
  obtain rfl : p1 = pr.flip := h1
  refine dfB 12 (by kernel_rfl) ?_
  refine doGB rfl rfl rfl rfl rfl (o_call (is := []) Tryz.call47 (c_refInvert pr y hp) rfl rfl (by repeat (first | exact Sub.d | (refine Sub.s ?_ ?_; (repeat (first | exact In.z | apply In.s))) | (refine Sub.suf ?_; (repeat (first | exact Suf.z | apply Suf.s))))) rfl) (TOk.xP 3 [] (by kernel_rfl) (TOk.xP 5 [] (by kernel_rfl) (TOk.xP 10 [] (by kernel_rfl) (TOk.xP 12 [] (by kernel_rfl) (TOk.t (isBoxE fun _ => isBoxS (by repeat (first | exact At.z | apply At.s)) (k := 6) (by repeat (first | exact Cut.d | apply Cut.t | apply Cut.s))) (TOk.t (isBoxE fun _ => isBoxS (by repeat (first | exact At.z | apply At.s)) (k := 6) (by repeat (first | exact Cut.d | apply Cut.t | apply Cut.s))) (TOk.t (isBoxE fun _ => isBoxS (by repeat (first | exact At.z | apply At.s)) (k := 6) (by repeat (first | exact Cut.d | apply Cut.t | apply Cut.s))) (TOk.t (isBoxE fun _ => isBoxS (by repeat (first | exact At.z | apply At.s)) (k := 6) (by repeat (first | exact Cut.d | apply Cut.t | apply Cut.s))) TOk.d)))))))) ?_
  refine eaB ?_; rintro ⟨⟨p2, y2⟩, h2⟩
  obtain rfl : p2 = pr.flip := h2
  refine dfB 13 (by kernel_rfl) ?_
  refine doGB rfl rfl rfl rfl rfl (o_call (is := []) Tryz.call45 (c_refSame pr.flip pr.flip y1 y2 (flip_fit' hp)) rfl rfl (by repeat (first | exact Sub.d | (refine Sub.s ?_ ?_; (repeat (first | exact In.z | apply In.s))) | (refine Sub.suf ?_; (repeat (first | exact Suf.z | apply Suf.s))))) rfl) (TOk.xP 3 [] (by kernel_rfl) (TOk.xP 5 [] (by kernel_rfl) (TOk.xP 10 [] (by kernel_rfl) (TOk.xP 12 [] (by kernel_rfl) (TOk.t (isBoxE fun _ => isBoxS (by repeat (first | exact At.z | apply At.s)) (k := 6) (by repeat (first | exact Cut.d | apply Cut.t | apply Cut.s))) (TOk.t (isBoxE fun _ => isBoxS (by repeat (first | exact At.z | apply At.s)) (k := 6) (by repeat (first | exact Cut.d | apply Cut.t | apply Cut.s))) (TOk.t (isBoxE fun _ => isBoxS (by repeat (first | exact At.z | apply At.s)) (k := 6) (by repeat (first | exact Cut.d | apply Cut.t | apply Cut.s))) (TOk.t (isBoxE fun _ => isBoxS (by repeat (first | exact At.z | apply At.s)) (k := 6) (by repeat (first | exact Cut.d | apply Cut.t | apply Cut.s))) TOk.d)))))))) ?_
  refine eaB ?_; intro x23
  refine fixB (congrArg Value.bool (decide_eq_true rfl)) ?_
  refine tkB 14 rfl (by kernel_rfl) (fun _ _ _ h => h) gnone (TTany _) (p_pickt rfl rfl) rfl ?_
  refine tkB 15 rfl (by kernel_rfl) (fun _ _ _ h => h) gnone (TTany _) (p_move rfl) rfl ?_
  refine tkB 16 rfl (by kernel_rfl) (fun _ _ _ h => h) (gyes rfl rfl rfl rfl) (TTat (List.Mem.tail _ (List.Mem.tail _ (List.Mem.tail _ (List.Mem.tail _ (List.Mem.head _)))))) (p_lda Tryz.isAgg69 Tryz.sizeOf69 rfl rfl) rfl ?_
  refine tkB 18 rfl (by kernel_rfl) (fun _ _ _ h => h) (gyes rfl rfl rfl rfl) (TTat (List.Mem.tail _ (List.Mem.tail _ (List.Mem.tail _ (List.Mem.tail _ (List.Mem.tail _ (List.Mem.head _))))))) (p_lda Tryz.isAgg66 Tryz.sizeOf66 rfl rfl) rfl ?_
  refine dfB 17 (by kernel_rfl) ?_
  refine doGB rfl rfl rfl rfl rfl (o_call (is := []) Tryz.call48 (c_primNames pr y) rfl rfl (by repeat (first | exact Sub.d | (refine Sub.s ?_ ?_; (repeat (first | exact In.z | apply In.s))) | (refine Sub.suf ?_; (repeat (first | exact Suf.z | apply Suf.s))))) rfl) (TOk.xP 3 [] (by kernel_rfl) (TOk.xP 5 [] (by kernel_rfl) (TOk.xP 10 [] (by kernel_rfl) (TOk.xP 12 [] (by kernel_rfl) (TOk.xP 17 [] (by kernel_rfl) (TOk.t (isBoxE fun _ => isBoxS (by repeat (first | exact At.z | apply At.s)) (k := 6) (by repeat (first | exact Cut.d | apply Cut.t | apply Cut.s))) (TOk.t (isBoxE fun _ => isBoxS (by repeat (first | exact At.z | apply At.s)) (k := 6) (by repeat (first | exact Cut.d | apply Cut.t | apply Cut.s))) (TOk.t (isBoxE fun _ => isBoxS (by repeat (first | exact At.z | apply At.s)) (k := 6) (by repeat (first | exact Cut.d | apply Cut.t | apply Cut.s))) TOk.d)))))))) ?_
  refine eaB ?_; rintro ⟨⟨n1, ⟨A1, c1⟩⟩, hn1⟩
  obtain rfl : n1 = refNames pr := hn1.trans (sortB_names pr)
  refine dfB 19 (by kernel_rfl) ?_
  refine doGB rfl rfl rfl rfl rfl (o_call (is := []) Tryz.call49 (c_refNames pr y) rfl rfl (by repeat (first | exact Sub.d | (refine Sub.s ?_ ?_; (repeat (first | exact In.z | apply In.s))) | (refine Sub.suf ?_; (repeat (first | exact Suf.z | apply Suf.s))))) rfl) (TOk.xP 3 [] (by kernel_rfl) (TOk.xP 5 [] (by kernel_rfl) (TOk.xP 10 [] (by kernel_rfl) (TOk.xP 12 [] (by kernel_rfl) (TOk.xP 17 [] (by kernel_rfl) (TOk.xP 19 [] (by kernel_rfl) (TOk.t (isBoxE fun _ => isBoxS (by repeat (first | exact At.z | apply At.s)) (k := 6) (by repeat (first | exact Cut.d | apply Cut.t | apply Cut.s))) (TOk.t (isBoxE fun _ => isBoxS (by repeat (first | exact At.z | apply At.s)) (k := 6) (by repeat (first | exact Cut.d | apply Cut.t | apply Cut.s))) TOk.d)))))))) ?_
  refine eaB ?_; rintro ⟨⟨n2, ⟨A2, c2⟩⟩, hn2⟩
  obtain rfl : n2 = refNames pr := hn2
  refine dfB 20 (by kernel_rfl) ?_
  refine doGB rfl rfl rfl rfl rfl (o_call (is := []) Tryz.call32 (c_lineSame (refNames pr) (refNames pr) _ _ _ _ (Nat.le_trans (refNames_len pr) (by decide))) rfl rfl (by repeat (first | exact Sub.d | (refine Sub.s ?_ ?_; (repeat (first | exact In.z | apply In.s))) | (refine Sub.suf ?_; (repeat (first | exact Suf.z | apply Suf.s))))) rfl) (TOk.xP 3 [] (by kernel_rfl) (TOk.xP 5 [] (by kernel_rfl) (TOk.xP 10 [] (by kernel_rfl) (TOk.xP 12 [] (by kernel_rfl) (TOk.xP 17 [] (by kernel_rfl) (TOk.xP 19 [] (by kernel_rfl) (TOk.t (isBoxE fun _ => isBoxS (by repeat (first | exact At.z | apply At.s)) (k := 6) (by repeat (first | exact Cut.d | apply Cut.t | apply Cut.s))) (TOk.t (isBoxE fun _ => isBoxS (by repeat (first | exact At.z | apply At.s)) (k := 6) (by repeat (first | exact Cut.d | apply Cut.t | apply Cut.s))) TOk.d)))))))) ?_
  refine eaB ?_; intro x30
  refine fixB (congrArg Value.bool (decide_eq_true rfl)) ?_
  refine tkB 21 rfl (by kernel_rfl) (fun _ _ _ h => h) gnone (TTany _) (p_pickt rfl rfl) rfl ?_
  refine tkB 22 rfl (by kernel_rfl) (fun _ _ _ h => h) gnone (TTany _) (p_move rfl) rfl ?_
  refine tkB 23 rfl (by kernel_rfl) (fun _ _ _ h => h) (gyes rfl rfl rfl rfl) (TTat (List.Mem.tail _ (List.Mem.tail _ (List.Mem.tail _ (List.Mem.tail _ (List.Mem.tail _ (List.Mem.tail _ (List.Mem.head _)))))))) (p_lda Tryz.isAgg69 Tryz.sizeOf69 rfl rfl) rfl ?_
  refine tkB 24 rfl (by kernel_rfl) (fun _ _ _ h => h) (gyes rfl rfl rfl rfl) (TTat (List.Mem.tail _ (List.Mem.tail _ (List.Mem.tail _ (List.Mem.tail _ (List.Mem.tail _ (List.Mem.tail _ (List.Mem.tail _ (List.Mem.head _))))))))) (p_lda Tryz.isAgg69 Tryz.sizeOf69 rfl rfl) rfl ?_
  refine dfB 25 (by kernel_rfl) ?_
  refine doGB rfl rfl rfl rfl rfl (o_call (is := []) Tryz.call51 (c_primClone pr y hp) rfl rfl (by repeat (first | exact Sub.d | (refine Sub.s ?_ ?_; (repeat (first | exact In.z | apply In.s))) | (refine Sub.suf ?_; (repeat (first | exact Suf.z | apply Suf.s))))) rfl) (TOk.xP 3 [] (by kernel_rfl) (TOk.xP 5 [] (by kernel_rfl) (TOk.xP 10 [] (by kernel_rfl) (TOk.xP 12 [] (by kernel_rfl) (TOk.xP 17 [] (by kernel_rfl) (TOk.xP 19 [] (by kernel_rfl) (TOk.t (isBoxE fun _ => isBoxS (by repeat (first | exact At.z | apply At.s)) (k := 6) (by repeat (first | exact Cut.d | apply Cut.t | apply Cut.s))) (TOk.xP 25 [] (by kernel_rfl) TOk.d)))))))) ?_
  refine eaB ?_; intro z35
  refine dfB 26 (by kernel_rfl) ?_
  refine doGB rfl rfl rfl rfl rfl (o_call (is := []) Tryz.call50 (c_primSame pr pr y z35 hp) rfl rfl (by repeat (first | exact Sub.d | (refine Sub.s ?_ ?_; (repeat (first | exact In.z | apply In.s))) | (refine Sub.suf ?_; (repeat (first | exact Suf.z | apply Suf.s))))) rfl) (TOk.xP 3 [] (by kernel_rfl) (TOk.xP 5 [] (by kernel_rfl) (TOk.xP 10 [] (by kernel_rfl) (TOk.xP 12 [] (by kernel_rfl) (TOk.xP 17 [] (by kernel_rfl) (TOk.xP 19 [] (by kernel_rfl) (TOk.xP 26 [] (by kernel_rfl) (TOk.xP 25 [] (by kernel_rfl) TOk.d)))))))) ?_
  refine eaB ?_; intro x36
  refine fixB (congrArg Value.bool (decide_eq_true rfl)) ?_
  refine tkB 27 rfl (by kernel_rfl) (fun _ _ _ h => h) gnone (TTany _) (p_pickt rfl rfl) rfl ?_
  refine tkB 28 rfl (by kernel_rfl) (fun _ _ _ h => h) gnone (TTany _) (p_asg rfl) rfl ?_
  refine dnB (by kernel_rfl) ?_
  refine nthen ?_
  refine cret ?_
  refine xret (fun _ _ h => h) ?_
  refine rret (is := []) () (Or.inl rfl) (Res.t rfl Res.d) (rfl) rfl (by repeat (first | exact Sub.d | (refine Sub.s ?_ ?_; (repeat (first | exact In.z | apply In.s))) | (refine Sub.suf ?_; (repeat (first | exact Suf.z | apply Suf.s)))))

set_option maxRecDepth 100000 in
theorem c_PrimSame (pr qr : Prim) (y z : Rp.Lay Prim) (hp : pr.fit) (hM1 : many [pr, qr] ≤ 1000000000000) : Con Tryz.prog 10 [sv pr y, sv qr z] [] (Rp.asn pr y ++ Rp.asn qr z) Unit (fun _ => .bool true) (fun _ => []) (fun _ => []) := by
 refine con Tryz.func10 rfl Tryz.ntmps10 rfl ?_
 intro M0 F0 w0
 refine cs ?_
 refine cr ?_
 refine ls (o_box rfl rfl rfl) ?_
 refine le ?_; intro b2
 refine ls (o_box rfl rfl rfl) ?_
 refine le ?_; intro b3
 refine ls (op (p_asg rfl) rfl) ?_
 refine ln ?_
 refine nthen ?_
 refine cs ?_
 refine cs ?_
 refine cr ?_
 refine ls (o_ldw Tryz.isAgg66 Tryz.sizeOf66 rfl (by repeat (first | exact At.z | apply At.s)) (by rfl) rfl) ?_
 refine ls (o_ldw Tryz.isAgg66 Tryz.sizeOf66 rfl (by repeat (first | exact At.z | apply At.s)) (by rfl) rfl) ?_
 refine ls (o_bsl [pr, qr] Tryz.underlying68 Tryz.sizeOf66 Tryz.zeroValue66 rfl (Enum.t (Enum.t Enum.d)) (RV.t y rfl (by repeat (first | exact Sub.d | (refine Sub.s ?_ ?_; (repeat (first | exact In.z | apply In.s))) | (refine Sub.suf ?_; (repeat (first | exact Suf.z | apply Suf.s))))) (RV.t z rfl (by repeat (first | exact Sub.d | (refine Sub.s ?_ ?_; (repeat (first | exact In.z | apply In.s))) | (refine Sub.suf ?_; (repeat (first | exact Suf.z | apply Suf.s))))) RV.d)) rfl (by decide) (by decide) rfl) ?_
 refine le ?_; intro b7
 refine lmono (fun a w h => Go.Sx.freeze (i := 0) rfl h) ?_
 refine ls (o_call (is := []) Tryz.call41 (c_Many [pr, qr] (some ⟨b7, 0, none⟩) 2 (by simp) hM1) rfl rfl (by repeat (first | exact Sub.d | (refine Sub.s ?_ ?_; (repeat (first | exact In.z | apply In.s))) | (refine Sub.suf ?_; (repeat (first | exact Suf.z | apply Suf.s))))) rfl) ?_
 refine le ?_; intro x8
 refine ls (op (p_icmp rfl rfl rfl) rfl) ?_
 refine ln ?_
 refine nthen ?_
 refine cc rfl ?_ ?_
 ·
  intro h9
  refine cs ?_
  refine cr ?_
  refine ls (o_call (is := []) Tryz.call42 (c_alive03) rfl rfl (by repeat (first | exact Sub.d | (refine Sub.s ?_ ?_; (repeat (first | exact In.z | apply In.s))) | (refine Sub.suf ?_; (repeat (first | exact Suf.z | apply Suf.s))))) rfl) ?_
  refine le ?_; intro x10
  refine ls (op (p_asg rfl) rfl) ?_
  refine ln ?_
  refine nthen ?_
  refine cret ?_
  refine xret (fun _ _ h => h) ?_
  refine rret (is := []) () (Or.inl rfl) (Res.t rfl Res.d) (rfl) rfl (by repeat (first | exact Sub.d | (refine Sub.s ?_ ?_; (repeat (first | exact In.z | apply In.s))) | (refine Sub.suf ?_; (repeat (first | exact Suf.z | apply Suf.s)))))
 ·
  intro h9
  refine cskip ?_
  refine nthen ?_
  refine cs ?_
  refine cdB [0, 4, 7] [(2, b2, 0, _), (3, b3, 0, _), (5, b2, 0, _), (6, b3, 0, _)] TryzX.mixed (by kernel_rfl) (by kernel_rfl) (TOk.t (isBoxS (by repeat (first | exact At.z | apply At.s)) (k := 6) (by repeat (first | exact Cut.d | apply Cut.t | apply Cut.s))) (TOk.t (isBoxS (by repeat (first | exact At.z | apply At.s)) (k := 6) (by repeat (first | exact Cut.d | apply Cut.t | apply Cut.s))) (TOk.t (isBoxS (by repeat (first | exact At.z | apply At.s)) (k := 6) (by repeat (first | exact Cut.d | apply Cut.t | apply Cut.s))) (TOk.t (isBoxS (by repeat (first | exact At.z | apply At.s)) (k := 6) (by repeat (first | exact Cut.d | apply Cut.t | apply Cut.s))) TOk.d)))) ?_
  refine dfB 0 (by kernel_rfl) ?_
  refine doRB rfl (o_call (is := []) Tryz.call42 (c_alive03) rfl rfl (by repeat (first | exact Sub.d | (refine Sub.s ?_ ?_; (repeat (first | exact In.z | apply In.s))) | (refine Sub.suf ?_; (repeat (first | exact Suf.z | apply Suf.s))))) rfl) (TOk.t (isBoxE fun _ => isBoxS (by repeat (first | exact At.z | apply At.s)) (k := 6) (by repeat (first | exact Cut.d | apply Cut.t | apply Cut.s))) (TOk.t (isBoxE fun _ => isBoxS (by repeat (first | exact At.z | apply At.s)) (k := 6) (by repeat (first | exact Cut.d | apply Cut.t | apply Cut.s))) (TOk.t (isBoxE fun _ => isBoxS (by repeat (first | exact At.z | apply At.s)) (k := 6) (by repeat (first | exact Cut.d | apply Cut.t | apply Cut.s))) (TOk.t (isBoxE fun _ => isBoxS (by repeat (first | exact At.z | apply At.s)) (k := 6) (by repeat (first | exact Cut.d | apply Cut.t | apply Cut.s))) TOk.d)))) ?_
  refine eaB ?_; intro x11
  refine tkB 1 rfl (by kernel_rfl) (fun _ _ _ h => h) gnone (TTany _) (p_move rfl) rfl ?_
  refine tkB 2 rfl (by kernel_rfl) (fun _ _ _ h => h) (gyes rfl rfl rfl rfl) (TTat (List.Mem.head _)) (p_lda Tryz.isAgg66 Tryz.sizeOf66 rfl rfl) rfl ?_
  refine tkB 3 rfl (by kernel_rfl) (fun _ _ _ h => h) (gyes rfl rfl rfl rfl) (TTat (List.Mem.tail _ (List.Mem.head _))) (p_lda Tryz.isAgg66 Tryz.sizeOf66 rfl rfl) rfl ?_
  refine tkB 5 rfl (by kernel_rfl) (fun _ _ _ h => h) (gyes rfl rfl rfl rfl) (TTat (List.Mem.tail _ (List.Mem.tail _ (List.Mem.head _)))) (p_lda Tryz.isAgg66 Tryz.sizeOf66 rfl rfl) rfl ?_
  refine tkB 6 rfl (by kernel_rfl) (fun _ _ _ h => h) (gyes rfl rfl rfl rfl) (TTat (List.Mem.tail _ (List.Mem.tail _ (List.Mem.tail _ (List.Mem.head _))))) (p_lda Tryz.isAgg66 Tryz.sizeOf66 rfl rfl) rfl ?_
  refine dfB 4 (by kernel_rfl) ?_
  refine doGB rfl rfl rfl rfl rfl (o_call (is := []) Tryz.call50 (c_primSame pr qr y z hp) rfl rfl (by repeat (first | exact Sub.d | (refine Sub.s ?_ ?_; (repeat (first | exact In.z | apply In.s))) | (refine Sub.suf ?_; (repeat (first | exact Suf.z | apply Suf.s))))) rfl) (TOk.xP 4 [] (by kernel_rfl) (TOk.xP 4 [] (by kernel_rfl) (TOk.t (isBoxE fun _ => isBoxS (by repeat (first | exact At.z | apply At.s)) (k := 6) (by repeat (first | exact Cut.d | apply Cut.t | apply Cut.s))) (TOk.t (isBoxE fun _ => isBoxS (by repeat (first | exact At.z | apply At.s)) (k := 6) (by repeat (first | exact Cut.d | apply Cut.t | apply Cut.s))) TOk.d)))) ?_
  refine eaB ?_; intro x15
  refine dfB 7 (by kernel_rfl) ?_
  refine doGB rfl rfl rfl rfl rfl (o_call (is := []) Tryz.call45 (c_refSame pr qr y z hp) rfl rfl (by repeat (first | exact Sub.d | (refine Sub.s ?_ ?_; (repeat (first | exact In.z | apply In.s))) | (refine Sub.suf ?_; (repeat (first | exact Suf.z | apply Suf.s))))) rfl) (TOk.xP 4 [] (by kernel_rfl) (TOk.xP 4 [] (by kernel_rfl) (TOk.xP 7 [] (by kernel_rfl) (TOk.xP 7 [] (by kernel_rfl) TOk.d)))) ?_
  refine eaB ?_; intro x18
  refine tkB 8 rfl (by kernel_rfl) (fun _ _ _ h => h) (gyes rfl rfl rfl rfl) (TTany _) (p_beq Tryz.underlying4 rfl rfl) rfl ?_
  refine fixB (congrArg Value.bool (beq_self_eq_true _)) ?_
  refine tkB 9 rfl (by kernel_rfl) (fun _ _ _ h => h) gnone (TTany _) (p_pickt rfl rfl) rfl ?_
  refine tkB 10 rfl (by kernel_rfl) (fun _ _ _ h => h) gnone (TTany _) (p_asg rfl) rfl ?_
  refine dnB (by kernel_rfl) ?_
  refine nthen ?_
  refine cret ?_
  refine xret (fun _ _ h => h) ?_
  refine rret (is := []) () (Or.inl rfl) (Res.t rfl Res.d) (rfl) rfl (by repeat (first | exact Sub.d | (refine Sub.s ?_ ?_; (repeat (first | exact In.z | apply In.s))) | (refine Sub.suf ?_; (repeat (first | exact Suf.z | apply Suf.s)))))

set_option maxRecDepth 100000 in
theorem c_PrimTwice (pr : Prim) (y : Rp.Lay Prim) (hp : pr.fit) (hM1 : many [pr] ≤ 1000000000000) : Con Tryz.prog 11 [sv pr y] [] (Rp.asn pr y) Unit (fun _ => .bool true) (fun _ => []) (fun _ => []) := by
 refine con Tryz.func11 rfl Tryz.ntmps11 rfl ?_
 intro M0 F0 w0
 refine cs ?_
 refine cr ?_
 refine ls (o_box rfl rfl rfl) ?_
 refine le ?_; intro b1
 refine ls (op (p_asg rfl) rfl) ?_
 refine ln ?_
 refine nthen ?_
 refine cs ?_
 refine cs ?_
 refine cr ?_
 refine ls (o_ldw Tryz.isAgg66 Tryz.sizeOf66 rfl (by repeat (first | exact At.z | apply At.s)) (by rfl) rfl) ?_
 refine ls (o_bsl [pr] Tryz.underlying68 Tryz.sizeOf66 Tryz.zeroValue66 rfl (Enum.t Enum.d) (RV.t y rfl (by repeat (first | exact Sub.d | (refine Sub.s ?_ ?_; (repeat (first | exact In.z | apply In.s))) | (refine Sub.suf ?_; (repeat (first | exact Suf.z | apply Suf.s))))) RV.d) rfl (by decide) (by decide) rfl) ?_
 refine le ?_; intro b6
 refine lmono (fun a w h => Go.Sx.freeze (i := 0) rfl h) ?_
 refine ls (o_call (is := []) Tryz.call41 (c_Many [pr] (some ⟨b6, 0, none⟩) 1 (by simp) hM1) rfl rfl (by repeat (first | exact Sub.d | (refine Sub.s ?_ ?_; (repeat (first | exact In.z | apply In.s))) | (refine Sub.suf ?_; (repeat (first | exact Suf.z | apply Suf.s))))) rfl) ?_
 refine le ?_; intro x7
 refine ls (op (p_icmp rfl rfl rfl) rfl) ?_
 refine ln ?_
 refine nthen ?_
 refine cc rfl ?_ ?_
 ·
  intro h8
  refine cs ?_
  refine cr ?_
  refine ls (o_call (is := []) Tryz.call42 (c_alive03) rfl rfl (by repeat (first | exact Sub.d | (refine Sub.s ?_ ?_; (repeat (first | exact In.z | apply In.s))) | (refine Sub.suf ?_; (repeat (first | exact Suf.z | apply Suf.s))))) rfl) ?_
  refine le ?_; intro x9
  refine ls (op (p_asg rfl) rfl) ?_
  refine ln ?_
  refine nthen ?_
  refine cret ?_
  refine xret (fun _ _ h => h) ?_
  refine rret (is := []) () (Or.inl rfl) (Res.t rfl Res.d) (rfl) rfl (by repeat (first | exact Sub.d | (refine Sub.s ?_ ?_; (repeat (first | exact In.z | apply In.s))) | (refine Sub.suf ?_; (repeat (first | exact Suf.z | apply Suf.s)))))
 ·
  intro h8
  refine cskip ?_
  refine nthen ?_
  refine cs ?_
  refine cr ?_
  refine ls (o_ldw Tryz.isAgg66 Tryz.sizeOf66 rfl (by repeat (first | exact At.z | apply At.s)) (by rfl) rfl) ?_
  refine ls (o_alloc Tryz.zeroValue69 rfl rfl) ?_
  refine le ?_; intro b3
  refine ls (o_st rfl Tryz.sizeOf69 rfl rfl rfl rfl rfl (by repeat (first | exact At.z | apply At.s)) (by repeat (first | exact Put.d | apply Put.t | apply Put.s)) (by repeat (first | exact SetAt.z | apply SetAt.s))) ?_
  refine ln ?_
  refine nthen ?_
  refine cs ?_
  refine cr ?_
  refine ls (o_ldw Tryz.isAgg69 Tryz.sizeOf69 rfl (by repeat (first | exact At.z | apply At.s)) (by rfl) rfl) ?_
  refine ls (o_call (is := []) Tryz.call46 (c_primInvert pr y hp) rfl rfl (by repeat (first | exact Sub.d | (refine Sub.s ?_ ?_; (repeat (first | exact In.z | apply In.s))) | (refine Sub.suf ?_; (repeat (first | exact Suf.z | apply Suf.s))))) rfl) ?_
  refine le ?_; rintro ⟨⟨p1, y1⟩, h1⟩
  obtain rfl : p1 = pr.flip := h1
  refine ls (o_alloc Tryz.zeroValue69 rfl rfl) ?_
  refine le ?_; intro b4
  refine ls (o_st rfl Tryz.sizeOf69 rfl rfl rfl rfl rfl (by repeat (first | exact At.z | apply At.s)) (by repeat (first | exact Put.d | apply Put.t | apply Put.s)) (by repeat (first | exact SetAt.z | apply SetAt.s))) ?_
  refine ln ?_
  refine nthen ?_
  refine cs ?_
  refine cdB [0, 3, 5, 9, 11] [(2, b4, 0, _), (4, b1, 0, _), (8, b4, 0, _), (10, b3, 0, _)] TryzX.mixed (by kernel_rfl) (by kernel_rfl) (TOk.t (isBoxS (by repeat (first | exact At.z | apply At.s)) (k := 6) (by repeat (first | exact Cut.d | apply Cut.t | apply Cut.s))) (TOk.t (isBoxS (by repeat (first | exact At.z | apply At.s)) (k := 6) (by repeat (first | exact Cut.d | apply Cut.t | apply Cut.s))) (TOk.t (isBoxS (by repeat (first | exact At.z | apply At.s)) (k := 6) (by repeat (first | exact Cut.d | apply Cut.t | apply Cut.s))) (TOk.t (isBoxS (by repeat (first | exact At.z | apply At.s)) (k := 6) (by repeat (first | exact Cut.d | apply Cut.t | apply Cut.s))) TOk.d)))) ?_
  refine dfB 0 (by kernel_rfl) ?_
  refine doRB rfl (o_call (is := []) Tryz.call42 (c_alive03) rfl rfl (by repeat (first | exact Sub.d | (refine Sub.s ?_ ?_; (repeat (first | exact In.z | apply In.s))) | (refine Sub.suf ?_; (repeat (first | exact Suf.z | apply Suf.s))))) rfl) (TOk.t (isBoxE fun _ => isBoxS (by repeat (first | exact At.z | apply At.s)) (k := 6) (by repeat (first | exact Cut.d | apply Cut.t | apply Cut.s))) (TOk.t (isBoxE fun _ => isBoxS (by repeat (first | exact At.z | apply At.s)) (k := 6) (by repeat (first | exact Cut.d | apply Cut.t | apply Cut.s))) (TOk.t (isBoxE fun _ => isBoxS (by repeat (first | exact At.z | apply At.s)) (k := 6) (by repeat (first | exact Cut.d | apply Cut.t | apply Cut.s))) (TOk.t (isBoxE fun _ => isBoxS (by repeat (first | exact At.z | apply At.s)) (k := 6) (by repeat (first | exact Cut.d | apply Cut.t | apply Cut.s))) TOk.d)))) ?_
  refine eaB ?_; intro x13
  refine tkB 1 rfl (by kernel_rfl) (fun _ _ _ h => h) gnone (TTany _) (p_move rfl) rfl ?_
  refine tkB 2 rfl (by kernel_rfl) (fun _ _ _ h => h) (gyes rfl rfl rfl rfl) (TTat (List.Mem.head _)) (p_lda Tryz.isAgg69 Tryz.sizeOf69 rfl rfl) rfl ?_
  refine tkB 4 rfl (by kernel_rfl) (fun _ _ _ h => h) (gyes rfl rfl rfl rfl) (TTat (List.Mem.tail _ (List.Mem.head _))) (p_lda Tryz.isAgg66 Tryz.sizeOf66 rfl rfl) rfl ?_
  refine dfB 3 (by kernel_rfl) ?_
  refine doGB rfl rfl rfl rfl rfl (o_call (is := []) Tryz.call46 (c_primInvert pr.flip y1 (flip_fit' hp)) rfl rfl (by repeat (first | exact Sub.d | (refine Sub.s ?_ ?_; (repeat (first | exact In.z | apply In.s))) | (refine Sub.suf ?_; (repeat (first | exact Suf.z | apply Suf.s))))) rfl) (TOk.xP 3 [] (by kernel_rfl) (TOk.t (isBoxE fun _ => isBoxS (by repeat (first | exact At.z | apply At.s)) (k := 6) (by repeat (first | exact Cut.d | apply Cut.t | apply Cut.s))) (TOk.t (isBoxE fun _ => isBoxS (by repeat (first | exact At.z | apply At.s)) (k := 6) (by repeat (first | exact Cut.d | apply Cut.t | apply Cut.s))) (TOk.t (isBoxE fun _ => isBoxS (by repeat (first | exact At.z | apply At.s)) (k := 6) (by repeat (first | exact Cut.d | apply Cut.t | apply Cut.s))) TOk.d)))) ?_
  refine eaB ?_; rintro ⟨⟨p2, y2⟩, h2⟩
  obtain rfl : pr = p2 := (h2.trans (flip_flip pr)).symm
  refine dfB 5 (by kernel_rfl) ?_
  refine doGB rfl rfl rfl rfl rfl (o_call (is := []) Tryz.call45 (c_refSame pr pr y2 y hp) rfl rfl (by repeat (first | exact Sub.d | (refine Sub.s ?_ ?_; (repeat (first | exact In.z | apply In.s))) | (refine Sub.suf ?_; (repeat (first | exact Suf.z | apply Suf.s))))) rfl) (TOk.xP 3 [] (by kernel_rfl) (TOk.xP 5 [] (by kernel_rfl) (TOk.t (isBoxE fun _ => isBoxS (by repeat (first | exact At.z | apply At.s)) (k := 6) (by repeat (first | exact Cut.d | apply Cut.t | apply Cut.s))) (TOk.t (isBoxE fun _ => isBoxS (by repeat (first | exact At.z | apply At.s)) (k := 6) (by repeat (first | exact Cut.d | apply Cut.t | apply Cut.s))) TOk.d)))) ?_
  refine eaB ?_; intro x18
  refine fixB (congrArg Value.bool (decide_eq_true rfl)) ?_
  refine tkB 6 rfl (by kernel_rfl) (fun _ _ _ h => h) gnone (TTany _) (p_pickt rfl rfl) rfl ?_
  refine tkB 7 rfl (by kernel_rfl) (fun _ _ _ h => h) gnone (TTany _) (p_move rfl) rfl ?_
  refine tkB 8 rfl (by kernel_rfl) (fun _ _ _ h => h) (gyes rfl rfl rfl rfl) (TTat (List.Mem.tail _ (List.Mem.tail _ (List.Mem.head _)))) (p_lda Tryz.isAgg69 Tryz.sizeOf69 rfl rfl) rfl ?_
  refine tkB 10 rfl (by kernel_rfl) (fun _ _ _ h => h) (gyes rfl rfl rfl rfl) (TTat (List.Mem.tail _ (List.Mem.tail _ (List.Mem.tail _ (List.Mem.head _))))) (p_lda Tryz.isAgg69 Tryz.sizeOf69 rfl rfl) rfl ?_
  refine dfB 9 (by kernel_rfl) ?_
  refine doGB rfl rfl rfl rfl rfl (o_call (is := []) Tryz.call43 (c_primRight pr.flip y1 (flip_fit' hp)) rfl rfl (by repeat (first | exact Sub.d | (refine Sub.s ?_ ?_; (repeat (first | exact In.z | apply In.s))) | (refine Sub.suf ?_; (repeat (first | exact Suf.z | apply Suf.s))))) rfl) (TOk.xP 3 [] (by kernel_rfl) (TOk.xP 5 [] (by kernel_rfl) (TOk.xP 9 [] (by kernel_rfl) (TOk.t (isBoxE fun _ => isBoxS (by repeat (first | exact At.z | apply At.s)) (k := 6) (by repeat (first | exact Cut.d | apply Cut.t | apply Cut.s))) TOk.d)))) ?_
  refine eaB ?_; intro x22
  refine dfB 11 (by kernel_rfl) ?_
  refine doGB rfl rfl rfl rfl rfl (o_call (is := []) Tryz.call43 (c_primRight pr y hp) rfl rfl (by repeat (first | exact Sub.d | (refine Sub.s ?_ ?_; (repeat (first | exact In.z | apply In.s))) | (refine Sub.suf ?_; (repeat (first | exact Suf.z | apply Suf.s))))) rfl) (TOk.xP 3 [] (by kernel_rfl) (TOk.xP 5 [] (by kernel_rfl) (TOk.xP 9 [] (by kernel_rfl) (TOk.xP 11 [] (by kernel_rfl) TOk.d)))) ?_
  refine eaB ?_; intro x24
  refine tkB 12 rfl (by kernel_rfl) (fun _ _ _ h => h) (gyes rfl rfl rfl rfl) (TTany _) (p_beq Tryz.underlying4 rfl rfl) rfl ?_
  refine fixB (congrArg Value.bool (by rw [flip_right]; exact beq_self_eq_true _ : (pr.flip.right == pr.right) = true)) ?_
  refine tkB 13 rfl (by kernel_rfl) (fun _ _ _ h => h) gnone (TTany _) (p_pickt rfl rfl) rfl ?_
  refine tkB 14 rfl (by kernel_rfl) (fun _ _ _ h => h) gnone (TTany _) (p_asg rfl) rfl ?_
  refine dnB (by kernel_rfl) ?_
  refine nthen ?_
  refine cret ?_
  refine xret (fun _ _ h => h) ?_
  refine rret (is := []) () (Or.inl rfl) (Res.t rfl Res.d) (rfl) rfl (by repeat (first | exact Sub.d | (refine Sub.s ?_ ?_; (repeat (first | exact In.z | apply In.s))) | (refine Sub.suf ?_; (repeat (first | exact Suf.z | apply Suf.s)))))

set_option maxRecDepth 100000 in
theorem c_PrimApplies (l : List TOp) (A : Option Addr) (c : Nat) (hl : l.length ≤ 1048576) (hM : omany l ≤ 1048576) (ps : List Prim) (B : Option Addr) (c' : Nat) (hps : ps.length ≤ 1048576) (hfp : ∀ x ∈ ps, x.fit) (hMp : omany l + many ps ≤ 1500000) (hlp : l.length + ps.length ≤ 1900000) : Con Tryz.prog 13 [.slice A l.length c, .slice B ps.length c'] [] [slA A l, slA B ps] Unit (fun _ => .bool true) (fun _ => []) (fun _ => []) := by
 have hMo : ∀ o ∈ l, o.many ≤ 2000000 := fun o ho => by have := omany_mem ho; omega
 have htok : Tok l.length 2000000 (madeT l) := madeT_tok hMo
 have hlen := htok.len
 have hfit : Tfit (madeT l) := fun x hx => (htok.fit x hx).1
 have hso := madeT_sor l
 have hgood := madeT_good l
 have hinv := AppInv.made l
 refine con Tryz.func13 rfl Tryz.ntmps13 rfl ?_
 intro M0 F0 w0
 refine cs ?_
 refine cr ?_
 refine ls (op (p_asg rfl) rfl) ?_
 refine ln ?_
 refine nthen ?_
 refine cs ?_
 refine cs ?_
 refine cr ?_
 refine ls (op (p_move rfl) rfl) ?_
 refine ls (o_call (is := []) Tryz.call15 (c_Few02 l A c (by omega) (by omega)) rfl rfl (by repeat (first | exact Sub.d | (refine Sub.s ?_ ?_; (repeat (first | exact In.z | apply In.s))) | (refine Sub.suf ?_; (repeat (first | exact Suf.z | apply Suf.s))))) rfl) ?_
 refine le ?_; intro x12
 refine ls (op (p_icmp rfl rfl rfl) rfl) ?_
 refine ls (op (p_move rfl) rfl) ?_
 refine orX 4 14 18 rfl (subσ.cons (t := 0) rfl (subσ.cons (t := 1) rfl (subσ.cons (t := 4) rfl (subσ.nil _)))) ?_ ?_
 ·
  intro h14
  refine lskip rfl rfl rfl rfl rfl ?_
  refine lskip rfl rfl rfl rfl rfl ?_
  refine lskip rfl rfl rfl rfl rfl ?_
  refine ls (op (p_pickt rfl rfl) rfl) ?_
  refine ln (nmid (wk0 (by repeat (first | exact subσ.nil _ | refine subσ.cons rfl ?_)) (by repeat (first | exact Sub.d | (refine Sub.s ?_ ?_; (repeat (first | exact In.z | apply In.s))) | (refine Sub.suf ?_; (repeat (first | exact Suf.z | apply Suf.s)))))))
 apply exI
 ·
  intro h14
  refine lwant rfl rfl rfl rfl (op (p_move rfl) rfl) ?_
  refine lwant rfl rfl rfl rfl (o_call (is := []) Tryz.call41 (c_Many ps B c' (by omega) (by omega)) rfl rfl (by repeat (first | exact Sub.d | (refine Sub.s ?_ ?_; (repeat (first | exact In.z | apply In.s))) | (refine Sub.suf ?_; (repeat (first | exact Suf.z | apply Suf.s))))) rfl) ?_
  refine le ?_; intro x16
  refine lwant rfl rfl rfl rfl (op (p_icmp rfl rfl rfl) rfl) ?_
  refine ls (op (p_pickf rfl rfl) rfl) ?_
  refine ln (nmid (wk0 (by repeat (first | exact subσ.nil _ | refine subσ.cons rfl ?_)) (by repeat (first | exact Sub.d | (refine Sub.s ?_ ?_; (repeat (first | exact In.z | apply In.s))) | (refine Sub.suf ?_; (repeat (first | exact Suf.z | apply Suf.s)))))))
 ·
  refine ln ?_
  refine nthen ?_
  refine cc rfl ?_ ?_
  ·
   intro h18
   refine cs ?_
   refine cr ?_
   refine ls (o_call (is := []) Tryz.call42 (c_alive03) rfl rfl (by repeat (first | exact Sub.d | (refine Sub.s ?_ ?_; (repeat (first | exact In.z | apply In.s))) | (refine Sub.suf ?_; (repeat (first | exact Suf.z | apply Suf.s))))) rfl) ?_
   refine le ?_; intro x19
   refine ls (op (p_asg rfl) rfl) ?_
   refine ln ?_
   refine nthen ?_
   refine cret ?_
   refine xret (fun _ _ h => h) ?_
   refine rret (is := []) () (Or.inl rfl) (Res.t rfl Res.d) (rfl) rfl (by repeat (first | exact Sub.d | (refine Sub.s ?_ ?_; (repeat (first | exact In.z | apply In.s))) | (refine Sub.suf ?_; (repeat (first | exact Suf.z | apply Suf.s)))))
  ·
   intro h18
   refine cskip ?_
   refine nthen ?_
   refine cs ?_
   refine cr ?_
   refine ls (op (p_move rfl) rfl) ?_
   refine ls (o_call (is := []) Tryz.call17 (c_Made02 l A c (by omega) hMo) rfl rfl (by repeat (first | exact Sub.d | (refine Sub.s ?_ ?_; (repeat (first | exact In.z | apply In.s))) | (refine Sub.suf ?_; (repeat (first | exact Suf.z | apply Suf.s))))) rfl) ?_
   refine le ?_; rintro ⟨⟨p, b⟩, ⟨A2, c2⟩⟩
   refine ls (op (p_move rfl) rfl) ?_
   refine ls (op (p_ext rfl (by repeat (first | exact At.z | apply At.s))) rfl) ?_
   refine ls (op (p_ext rfl (by repeat (first | exact At.z | apply At.s))) rfl) ?_
   refine ls (op (p_asg rfl) rfl) ?_
   refine ls (op (p_asg rfl) rfl) ?_
   refine ln ?_
   refine nthen ?_
   refine cs ?_
   refine cs ?_
   refine cr ?_
   refine ls (op (p_move rfl) rfl) ?_
   refine ls (op (p_ptrnil Tryz.underlying25 rfl rfl) rfl) ?_
   refine ln ?_
   refine nthen ?_
   refine cc rfl (fun h => by cases h) (fun h => ?_)
   refine cskip ?_
   refine nthen ?_
   refine cs ?_
   refine cs ?_
   refine cr ?_
   refine ls (op (p_move rfl) rfl) ?_
   refine ls (op (p_lenl rfl Tryz.underlying68) rfl) ?_
   refine ls (op (p_move rfl) rfl) ?_
   refine ln ?_
   refine nthen ?_
   refine cb ?_
   refine cl (ι := {q : Nat × Option Addr × Nat // q.1 ≤ ps.length}) (fun i => St M0 F0 w0 54 [(5, .pointer (some ⟨p, 0, none⟩)), (27, .slice B ps.length c'), (28, .int .i64 (ps.length : Int)), (29, .int .i64 (i.1.1 : Int)), (6, .slice i.1.2.1 (appliedT (madeT l) (ps.take i.1.1)).length i.1.2.2)] [box p 85 [.map (some b)], tr b (appliedT (madeT l) (ps.take i.1.1))] [slA B ps, slA i.1.2.1 (appliedT (madeT l) (ps.take i.1.1))]) (fun i => ps.length - i.1.1) ⟨(0, A2, c2), Nat.zero_le _⟩ (wk (is := [0, 0]) (by repeat (first | exact subσ.nil _ | refine subσ.cons rfl ?_)) rfl (by repeat (first | exact Sub.d | (refine Sub.s ?_ ?_; (repeat (first | exact In.z | apply In.s))) | (refine Sub.suf ?_; (repeat (first | exact Suf.z | apply Suf.s)))))) ?_
   rintro ⟨⟨k, A3, c3⟩, hk⟩
   refine cmono (S' := St M0 F0 w0 54 [(5, .pointer (some ⟨p, 0, none⟩)), (27, .slice B ps.length c'), (28, .int .i64 (ps.length : Int)), (29, .int .i64 (k : Int)), (6, .slice A3 (appliedT (madeT l) (ps.take k)).length c3)] [box p 85 [.map (some b)], tr b (appliedT (madeT l) (ps.take k))] [slA B ps, slA A3 (appliedT (madeT l) (ps.take k))]) (fun _ _ h => h) ?_
   refine cs ?_
   refine cr ?_
   refine ls (op (p_icmp rfl rfl rfl) rfl) ?_
   refine ln ?_
   refine nthen ?_
   refine cs ?_
   refine cc rfl ?_ ?_
   ·
    intro h30
    dsimp only at hk
    try simp only [decide_eq_true_eq, decide_eq_false_iff_not, Bool.not_eq_true', Bool.not_eq_false', Int.not_lt, Int.not_le, ge_iff_le, Bool.not_true, Bool.not_false] at h30
    have hk1 : k < ps.length := by omega
    have hfk := hfp _ (List.getElem_mem hk1)
    have hin := hinv.applied (ps.take k)
    have hin2 := hinv.applied (ps.take (k + 1))
    have hms := appliedT_succ (M := madeT l) hk1
    have hn1 := news_take ps k
    have hn2 := news_take ps (k + 1)
    have hn3 := news_le ps
    have htl : (ps.take k).length ≤ ps.length := by rw [List.length_take]; omega
    have htl2 : (ps.take (k + 1)).length ≤ ps.length := by rw [List.length_take]; omega
    have hnk : news (ps.take (k + 1)) = news (ps.take k) + ps[k].new.length := sum_take_succ (f := fun p : Prim => p.new.length) hk1
    have hlen1 := hin.len
    have hlen2 := hin2.len
    have hb : ∀ u, (getL (appliedT (madeT l) (ps.take k)) u).length + ps[k].new.length ≤ 2000000 := fun u => by have := hin.lmax.get u; omega
    have hft : Tfit (appliedT (madeT l) (ps.take k)) := fun x hx => by have := hin.lmax x hx; omega
    refine cskip ?_
    refine nthen ?_
    refine cs ?_
    refine cb ?_
    refine cs ?_
    refine elC (by repeat (first | exact At.z | apply At.s)) k (List.getElem?_eq_getElem (l := ps) hk1) ?_; rintro zbp zop zyp hAp
    refine cr ?_
    refine ls (op (p_ia k hAp hk1 rfl Tryz.underlying68 Tryz.sizeOf66 rfl rfl) rfl) ?_
    refine ls (o_ldj Tryz.isAgg66 Tryz.sizeOf66 rfl (by repeat (first | exact At.z | apply At.s)) 0 rfl (by repeat (first | exact Cut.d | apply Cut.t | apply Cut.s)) rfl) ?_
    refine ls (o_alloc Tryz.zeroValue66 rfl rfl) ?_
    refine le ?_; intro b8
    refine ls (o_st rfl Tryz.sizeOf66 rfl rfl rfl rfl rfl (by repeat (first | exact At.z | apply At.s)) (by repeat (first | exact Put.d | apply Put.t | apply Put.s)) (by repeat (first | exact SetAt.z | apply SetAt.s))) ?_
    refine ln ?_
    refine nthen ?_
    refine cs ?_
    refine cr ?_
    refine ls (op (p_move rfl) rfl) ?_
    refine ls (o_ldw Tryz.isAgg66 Tryz.sizeOf66 rfl (by repeat (first | exact At.z | apply At.s)) (by rfl) rfl) ?_
    refine ls (o_call (is := []) Tryz.call53 (c_rApply (appliedT (madeT l) (ps.take k)) A3 c3 (by omega) ps[k] zyp hfk hb) rfl rfl (by repeat (first | exact Sub.d | (refine Sub.s ?_ ?_; (repeat (first | exact In.z | apply In.s))) | (refine Sub.suf ?_; (repeat (first | exact Suf.z | apply Suf.s))))) rfl) ?_
    refine le ?_; rintro ⟨⟨⟨S1, e1⟩, ⟨A4, c4⟩⟩, hq⟩
    refine ls (op (p_move rfl) rfl) ?_
    refine ls (op (p_ext rfl (by repeat (first | exact At.z | apply At.s))) rfl) ?_
    refine ls (op (p_ext rfl (by repeat (first | exact At.z | apply At.s))) rfl) ?_
    refine ls (op (p_asg rfl) rfl) ?_
    refine ls (op (p_asg rfl) rfl) ?_
    refine ln ?_
    refine nthen ?_
    refine cs ?_
    refine cr ?_
    refine ls (op (p_move rfl) rfl) ?_
    refine ls (op (p_asg rfl) rfl) ?_
    refine ln ?_
    refine nthen ?_
    refine cs ?_
    refine cr ?_
    refine ls (op (p_move rfl) rfl) ?_
    refine ls (o_ldw Tryz.isAgg66 Tryz.sizeOf66 rfl (by repeat (first | exact At.z | apply At.s)) (by rfl) rfl) ?_
    refine ls (o_call (is := [1, 1]) Tryz.call52 (c_pApply p b (appliedT (madeT l) (ps.take k)) ps[k] zyp hfk hft hb) rfl rfl (by repeat (first | exact Sub.d | (refine Sub.s ?_ ?_; (repeat (first | exact In.z | apply In.s))) | (refine Sub.suf ?_; (repeat (first | exact Suf.z | apply Suf.s))))) rfl) ?_
    refine le ?_; rintro ⟨⟨T2, e2⟩, hd⟩
    try dsimp only at hq hd
    rw [apply_eq hin.so hin.good] at hd
    obtain ⟨rfl, rfl⟩ := Prod.mk.inj (hd.trans hq.symm)
    obtain rfl : T2 = appliedT (madeT l) (ps.take (k + 1)) := by rw [hms, ← hd]
    have hft2 : Tfit (appliedT (madeT l) (ps.take (k + 1))) := fun x hx => by have := hin2.lmax x hx; omega
    refine ls (op (p_move rfl) rfl) ?_
    refine ls (op (p_icmp rfl rfl rfl) rfl) ?_
    refine fixL (congrArg Value.bool (bne_self' _)) ?_
    refine ls (op (p_move rfl) rfl) ?_
    refine lwant rfl rfl rfl rfl (op (p_move rfl) rfl) ?_
    refine lwant rfl rfl rfl rfl (o_call (is := [0, 0]) Tryz.call25 (c_Old02 p b _ (by omega) hft2) rfl rfl (by repeat (first | exact Sub.d | (refine Sub.s ?_ ?_; (repeat (first | exact In.z | apply In.s))) | (refine Sub.suf ?_; (repeat (first | exact Suf.z | apply Suf.s))))) rfl) ?_
    refine le ?_; rintro ⟨A5, c5⟩
    refine lwant rfl rfl rfl rfl (op (p_move rfl) rfl) ?_
    refine lwant rfl rfl rfl rfl (o_call (is := []) Tryz.call18 (c_rSame02 (appliedT (madeT l) (ps.take (k + 1))) (appliedT (madeT l) (ps.take (k + 1))) A5 A4 c5 c4 (by omega) hft2) rfl rfl (by repeat (first | exact Sub.d | (refine Sub.s ?_ ?_; (repeat (first | exact In.z | apply In.s))) | (refine Sub.suf ?_; (repeat (first | exact Suf.z | apply Suf.s))))) rfl) ?_
    refine le ?_; intro x49
    refine fixL (congrArg Value.bool (decide_eq_true rfl)) ?_
    refine lwant rfl rfl rfl rfl (op (p_not rfl) rfl) ?_
    refine ls (op (p_pickf rfl rfl) rfl) ?_
    refine ln ?_
    refine nthen ?_
    refine cc rfl (fun h => by cases h) (fun h => ?_)
    refine cskip ?_
    refine nblock ?_
    refine nthen ?_
    refine cr ?_
    refine ls (op (p_add rfl rfl (by omega)) rfl) ?_
    refine ls (op (p_move rfl) rfl) ?_
    refine ln ?_
    refine nnext ⟨(k + 1, A4, c4), hk1⟩ (by dsimp only; omega) (wk (is := [0, 0]) (by repeat (first | exact subσ.nil _ | refine subσ.cons rfl ?_)) rfl (by repeat (first | exact Sub.d | (refine Sub.s ?_ ?_; (repeat (first | exact In.z | apply In.s))) | (refine Sub.suf ?_; (repeat (first | exact Suf.z | apply Suf.s))))))
   ·
    intro h30
    dsimp only at hk
    try simp only [decide_eq_true_eq, decide_eq_false_iff_not, Bool.not_eq_true', Bool.not_eq_false', Int.not_lt, Int.not_le, ge_iff_le, Bool.not_true, Bool.not_false] at h30
    refine cexit ?_
    refine xthen ?_
    refine xthen ?_
    refine xblock ?_
    refine nthen ?_
    refine cs ?_
    refine cr ?_
    refine ls (o_call (is := []) Tryz.call42 (c_alive03) rfl rfl (by repeat (first | exact Sub.d | (refine Sub.s ?_ ?_; (repeat (first | exact In.z | apply In.s))) | (refine Sub.suf ?_; (repeat (first | exact Suf.z | apply Suf.s))))) rfl) ?_
    refine le ?_; intro x53
    refine ls (op (p_asg rfl) rfl) ?_
    refine ln ?_
    refine nthen ?_
    refine cret ?_
    refine xret (fun _ _ h => h) ?_
    refine rret (is := []) () (Or.inl rfl) (Res.t rfl Res.d) (rfl) rfl (by repeat (first | exact Sub.d | (refine Sub.s ?_ ?_; (repeat (first | exact In.z | apply In.s))) | (refine Sub.suf ?_; (repeat (first | exact Suf.z | apply Suf.s)))))

set_option maxRecDepth 100000 in
theorem c_PrimBack (l : List TOp) (A : Option Addr) (c : Nat) (hl : l.length ≤ 1048576) (hM : omany l ≤ 1048576) (pr : Prim) (y : Rp.Lay Prim) (hp : pr.fit) (hM1 : many [pr] ≤ 1000000000000) (hMp : omany l + pr.many ≤ 1500000) : Con Tryz.prog 14 [.slice A l.length c, sv pr y] [] (slA A l :: Rp.asn pr y) Unit (fun _ => .bool true) (fun _ => []) (fun _ => []) := by
 have hMo : ∀ o ∈ l, o.many ≤ 2000000 := fun o ho => by have := omany_mem ho; omega
 have htok : Tok l.length 2000000 (madeT l) := madeT_tok hMo
 have hlen := htok.len
 have hfit : Tfit (madeT l) := fun x hx => (htok.fit x hx).1
 have hso := madeT_sor l
 have hgood := madeT_good l
 have hinv := AppInv.made l
 have hnp : pr.old.length + pr.new.length ≤ pr.many := by unfold Prim.many; omega
 have hb : ∀ u, (getL (madeT l) u).length + pr.new.length ≤ 2000000 := fun u => by have := hinv.lmax.get u; omega
 refine con Tryz.func14 rfl Tryz.ntmps14 rfl ?_
 intro M0 F0 w0
 refine cs ?_
 refine cr ?_
 refine ls (o_box rfl rfl rfl) ?_
 refine le ?_; intro b3
 refine ls (op (p_asg rfl) rfl) ?_
 refine ln ?_
 refine nthen ?_
 refine cs ?_
 refine cs ?_
 refine cr ?_
 refine ls (op (p_move rfl) rfl) ?_
 refine ls (o_call (is := []) Tryz.call15 (c_Few02 l A c (by omega) (by omega)) rfl rfl (by repeat (first | exact Sub.d | (refine Sub.s ?_ ?_; (repeat (first | exact In.z | apply In.s))) | (refine Sub.suf ?_; (repeat (first | exact Suf.z | apply Suf.s))))) rfl) ?_
 refine le ?_; intro x8
 refine ls (op (p_icmp rfl rfl rfl) rfl) ?_
 refine ls (op (p_move rfl) rfl) ?_
 refine orX 5 10 15 rfl (subσ.cons (t := 0) rfl (subσ.cons (t := 1) rfl (subσ.cons (t := 3) rfl (subσ.cons (t := 4) rfl (subσ.nil _))))) ?_ ?_
 ·
  intro h10
  refine lskip rfl rfl rfl rfl rfl ?_
  refine lskip rfl rfl rfl rfl rfl ?_
  refine lskip rfl rfl rfl rfl rfl ?_
  refine lskip rfl rfl rfl rfl rfl ?_
  refine ls (op (p_pickt rfl rfl) rfl) ?_
  refine ln (nmid (wk0 (by repeat (first | exact subσ.nil _ | refine subσ.cons rfl ?_)) (by repeat (first | exact Sub.d | (refine Sub.s ?_ ?_; (repeat (first | exact In.z | apply In.s))) | (refine Sub.suf ?_; (repeat (first | exact Suf.z | apply Suf.s)))))))
 apply exI
 ·
  intro h10
  refine lwant rfl rfl rfl rfl (o_ldw Tryz.isAgg66 Tryz.sizeOf66 rfl (by repeat (first | exact At.z | apply At.s)) (by rfl) rfl) ?_
  refine lwant rfl rfl rfl rfl (o_bsl [pr] Tryz.underlying68 Tryz.sizeOf66 Tryz.zeroValue66 rfl (Enum.t Enum.d) (RV.t y rfl (by repeat (first | exact Sub.d | (refine Sub.s ?_ ?_; (repeat (first | exact In.z | apply In.s))) | (refine Sub.suf ?_; (repeat (first | exact Suf.z | apply Suf.s))))) RV.d) rfl (by decide) (by decide) rfl) ?_
  refine le ?_; intro b12
  refine lmono (fun a w h => Go.Sx.freeze (i := 0) rfl h) ?_
  refine lwant rfl rfl rfl rfl (o_call (is := []) Tryz.call41 (c_Many [pr] (some ⟨b12, 0, none⟩) 1 (by simp) hM1) rfl rfl (by repeat (first | exact Sub.d | (refine Sub.s ?_ ?_; (repeat (first | exact In.z | apply In.s))) | (refine Sub.suf ?_; (repeat (first | exact Suf.z | apply Suf.s))))) rfl) ?_
  refine le ?_; intro x13
  refine lwant rfl rfl rfl rfl (op (p_icmp rfl rfl rfl) rfl) ?_
  refine ls (op (p_pickf rfl rfl) rfl) ?_
  refine ln (nmid (wk0 (by repeat (first | exact subσ.nil _ | refine subσ.cons rfl ?_)) (by repeat (first | exact Sub.d | (refine Sub.s ?_ ?_; (repeat (first | exact In.z | apply In.s))) | (refine Sub.suf ?_; (repeat (first | exact Suf.z | apply Suf.s)))))))
 ·
  refine ln ?_
  refine nthen ?_
  refine cc rfl ?_ ?_
  ·
   intro h15
   skip
   refine cs ?_
   refine cr ?_
   refine ls (o_call (is := []) Tryz.call42 (c_alive03) rfl rfl (by repeat (first | exact Sub.d | (refine Sub.s ?_ ?_; (repeat (first | exact In.z | apply In.s))) | (refine Sub.suf ?_; (repeat (first | exact Suf.z | apply Suf.s))))) rfl) ?_
   refine le ?_; intro x16
   refine ls (op (p_asg rfl) rfl) ?_
   refine ln ?_
   refine nthen ?_
   refine cret ?_
   refine xret (fun _ _ h => h) ?_
   refine rret (is := []) () (Or.inl rfl) (Res.t rfl Res.d) (rfl) rfl (by repeat (first | exact Sub.d | (refine Sub.s ?_ ?_; (repeat (first | exact In.z | apply In.s))) | (refine Sub.suf ?_; (repeat (first | exact Suf.z | apply Suf.s)))))
  ·
   intro h15
   have hm4 : pr.many ≤ 4000 := by have h := h15; have h2 := many_one pr; simp at h; omega
   refine cskip ?_
   refine nthen ?_
   refine cs ?_
   refine cr ?_
   refine ls (op (p_move rfl) rfl) ?_
   refine ls (o_call (is := []) Tryz.call17 (c_Made02 l A c (by omega) hMo) rfl rfl (by repeat (first | exact Sub.d | (refine Sub.s ?_ ?_; (repeat (first | exact In.z | apply In.s))) | (refine Sub.suf ?_; (repeat (first | exact Suf.z | apply Suf.s))))) rfl) ?_
   refine le ?_; rintro ⟨⟨p, b⟩, ⟨A2, c2⟩⟩
   refine ls (op (p_move rfl) rfl) ?_
   refine ls (op (p_ext rfl (by repeat (first | exact At.z | apply At.s))) rfl) ?_
   refine ls (op (p_ext rfl (by repeat (first | exact At.z | apply At.s))) rfl) ?_
   refine ls (op (p_asg rfl) rfl) ?_
   refine ls (op (p_asg rfl) rfl) ?_
   refine ln ?_
   refine nthen ?_
   refine cs ?_
   refine cs ?_
   refine cr ?_
   refine ls (op (p_move rfl) rfl) ?_
   refine ls (op (p_ptrnil Tryz.underlying25 rfl rfl) rfl) ?_
   refine ln ?_
   refine nthen ?_
   refine cc rfl (fun h => by cases h) (fun h => ?_)
   refine cskip ?_
   refine nthen ?_
   refine cs ?_
   refine cs ?_
   refine cr ?_
   refine ls (op (p_move rfl) rfl) ?_
   refine ls (o_ldw Tryz.isAgg66 Tryz.sizeOf66 rfl (by repeat (first | exact At.z | apply At.s)) (by rfl) rfl) ?_
   refine ls (o_call (is := [0, 0]) Tryz.call52 (c_pApply p b (madeT l) pr y hp hfit hb) rfl rfl (by repeat (first | exact Sub.d | (refine Sub.s ?_ ?_; (repeat (first | exact In.z | apply In.s))) | (refine Sub.suf ?_; (repeat (first | exact Suf.z | apply Suf.s))))) rfl) ?_
   refine le ?_; rintro ⟨⟨T1, e1⟩, hq⟩
   try dsimp only at hq
   refine ls (op (p_icmp rfl rfl rfl) rfl) ?_
   refine ln ?_
   refine nthen ?_
   refine cc rfl ?_ ?_
   ·
    intro h27
    have he : ¬ e1 = 0 := by simpa using h27
    obtain rfl := apply_err hq he hso hgood
    refine cs ?_
    refine cr ?_
    refine ls (o_call (is := []) Tryz.call42 (c_alive03) rfl rfl (by repeat (first | exact Sub.d | (refine Sub.s ?_ ?_; (repeat (first | exact In.z | apply In.s))) | (refine Sub.suf ?_; (repeat (first | exact Suf.z | apply Suf.s))))) rfl) ?_
    refine le ?_; intro x28
    refine ls (op (p_move rfl) rfl) ?_
    refine lwant rfl rfl rfl rfl (op (p_move rfl) rfl) ?_
    refine lwant rfl rfl rfl rfl (o_call (is := [0, 0]) Tryz.call25 (c_Old02 p b (madeT l) (by omega) hfit) rfl rfl (by repeat (first | exact Sub.d | (refine Sub.s ?_ ?_; (repeat (first | exact In.z | apply In.s))) | (refine Sub.suf ?_; (repeat (first | exact Suf.z | apply Suf.s))))) rfl) ?_
    refine le ?_; rintro ⟨A5, c5⟩
    refine lwant rfl rfl rfl rfl (op (p_move rfl) rfl) ?_
    refine lwant rfl rfl rfl rfl (o_call (is := []) Tryz.call18 (c_rSame02 (madeT l) (madeT l) A5 A2 c5 c2 (by omega) hfit) rfl rfl (by repeat (first | exact Sub.d | (refine Sub.s ?_ ?_; (repeat (first | exact In.z | apply In.s))) | (refine Sub.suf ?_; (repeat (first | exact Suf.z | apply Suf.s))))) rfl) ?_
    refine le ?_; intro x33
    refine fixL (congrArg Value.bool (decide_eq_true rfl)) ?_
    refine ls (op (p_pickt rfl rfl) rfl) ?_
    refine ls (op (p_asg rfl) rfl) ?_
    refine ln ?_
    refine nthen ?_
    refine cret ?_
    refine xret (fun _ _ h => h) ?_
    refine rret (is := []) () (Or.inl rfl) (Res.t rfl Res.d) (rfl) rfl (by repeat (first | exact Sub.d | (refine Sub.s ?_ ?_; (repeat (first | exact In.z | apply In.s))) | (refine Sub.suf ?_; (repeat (first | exact Suf.z | apply Suf.s)))))
   ·
    intro h27
    have he : e1 = 0 := by simpa using h27
    subst he
    have hr1 : T1 = (rApplyT (madeT l) pr).1 := by rw [← apply_eq hso hgood, ← hq]
    have hin1 := hinv.apply pr
    rw [← hr1] at hin1
    have hft1 : Tfit T1 := fun x hx => by have := hin1.lmax x hx; omega
    have hb1 : ∀ u, (getL T1 u).length + pr.flip.new.length ≤ 2000000 := fun u => by have := hin1.lmax.get u; have := flip_new pr; omega
    refine cskip ?_
    refine nthen ?_
    refine cs ?_
    refine cr ?_
    refine ls (o_call (is := []) Tryz.call42 (c_alive03) rfl rfl (by repeat (first | exact Sub.d | (refine Sub.s ?_ ?_; (repeat (first | exact In.z | apply In.s))) | (refine Sub.suf ?_; (repeat (first | exact Suf.z | apply Suf.s))))) rfl) ?_
    refine le ?_; intro x35
    refine ls (op (p_move rfl) rfl) ?_
    refine lwant rfl rfl rfl rfl (op (p_move rfl) rfl) ?_
    refine lwant rfl rfl rfl rfl (o_ldw Tryz.isAgg66 Tryz.sizeOf66 rfl (by repeat (first | exact At.z | apply At.s)) (by rfl) rfl) ?_
    refine lwant rfl rfl rfl rfl (o_call (is := []) Tryz.call46 (c_primInvert pr y hp) rfl rfl (by repeat (first | exact Sub.d | (refine Sub.s ?_ ?_; (repeat (first | exact In.z | apply In.s))) | (refine Sub.suf ?_; (repeat (first | exact Suf.z | apply Suf.s))))) rfl) ?_
    refine le ?_; rintro ⟨⟨p1, y1⟩, h1⟩
    obtain rfl : p1 = pr.flip := h1
    refine lwant rfl rfl rfl rfl (o_call (is := [0, 0]) Tryz.call52 (c_pApply p b T1 pr.flip y1 (flip_fit' hp) hft1 hb1) rfl rfl (by repeat (first | exact Sub.d | (refine Sub.s ?_ ?_; (repeat (first | exact In.z | apply In.s))) | (refine Sub.suf ?_; (repeat (first | exact Suf.z | apply Suf.s))))) rfl) ?_
    refine le ?_; rintro ⟨⟨T4, e4⟩, hq4⟩
    try dsimp only at hq4
    obtain ⟨rfl, rfl⟩ := Prod.mk.inj (hq4.trans (apply_back hso hgood hq))
    refine lwant rfl rfl rfl rfl (op (p_icmp rfl rfl rfl) rfl) ?_
    refine ls (op (p_pickt rfl rfl) rfl) ?_
    refine ls (op (p_move rfl) rfl) ?_
    refine lwant rfl rfl rfl rfl (op (p_move rfl) rfl) ?_
    refine lwant rfl rfl rfl rfl (o_call (is := [0, 0]) Tryz.call25 (c_Old02 p b (madeT l) (by omega) hfit) rfl rfl (by repeat (first | exact Sub.d | (refine Sub.s ?_ ?_; (repeat (first | exact In.z | apply In.s))) | (refine Sub.suf ?_; (repeat (first | exact Suf.z | apply Suf.s))))) rfl) ?_
    refine le ?_; rintro ⟨A6, c6⟩
    refine lwant rfl rfl rfl rfl (op (p_move rfl) rfl) ?_
    refine lwant rfl rfl rfl rfl (o_call (is := []) Tryz.call18 (c_rSame02 (madeT l) (madeT l) A6 A2 c6 c2 (by omega) hfit) rfl rfl (by repeat (first | exact Sub.d | (refine Sub.s ?_ ?_; (repeat (first | exact In.z | apply In.s))) | (refine Sub.suf ?_; (repeat (first | exact Suf.z | apply Suf.s))))) rfl) ?_
    refine le ?_; intro x47
    refine fixL (congrArg Value.bool (decide_eq_true rfl)) ?_
    refine ls (op (p_pickt rfl rfl) rfl) ?_
    refine ls (op (p_asg rfl) rfl) ?_
    refine ln ?_
    refine nthen ?_
    refine cret ?_
    refine xret (fun _ _ h => h) ?_
    refine rret (is := []) () (Or.inl rfl) (Res.t rfl Res.d) (rfl) rfl (by repeat (first | exact Sub.d | (refine Sub.s ?_ ?_; (repeat (first | exact In.z | apply In.s))) | (refine Sub.suf ?_; (repeat (first | exact Suf.z | apply Suf.s)))))

end Go.Proofs.YtgjbcigeecbfiaaGreatDoor.X

end
