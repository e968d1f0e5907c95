/- OWN WORK: a part of the proof of a law of the seat YtaojmjfgopbgcaaDoor: the walk through functions of the program. -/
import Derived.Test.YtaojmjfgopbgcaaDoorProg
import Derived.Test.YtaojmjfgopbgcaaDoorXA12
import Derived.Test.YtaojmjfgopbgcaaDoorXThree
set_option linter.unusedVariables false
set_option linter.unusedSimpArgs false
namespace Go.Proofs.YtaojmjfgopbgcaaDoor.X
open Go Go.RowKit Go.Proofs Go.Sx
attribute [local irreducible] slA isA box row

def E3 (p q r : Prim) (yp yq yr : Rp.Lay Prim) : List Value := Rp.enc p yp ++ (Rp.enc q yq ++ Rp.enc r yr)
def stepK (late : Bool) (k : Nat) : Prim3 → Option Prim3 := if decide (k = 1) = late then st0 else st1
def runK (late : Bool) : Nat → Prim3 → Option Prim3
  | 0, x => some x
  | k + 1, x => (runK late k x).bind (stepK late k)
theorem run3 {late : Bool} {x : Prim3} : runK late 3 x = three late x := by
  cases late <;> simp [runK, stepK, three, Option.bind_assoc]
theorem step_0 {late : Bool} {k : Nat} {x : Prim3} {x1 x2 x3 s1 s2 : Prim} (hj : decide (k = 1) = late) (h : runK late k x = some (x1, x2, x3)) (hs : (s1, s2, true) = swap x1 x2) : runK late (k + 1) x = some (s1, s2, x3) := by
  rw [runK, h, Option.bind_some, stepK, if_pos hj]
  exact st0_some.2 ⟨_, _, hs.symm, rfl⟩
theorem step_1 {late : Bool} {k : Nat} {x : Prim3} {x1 x2 x3 s1 s2 : Prim} (hj : ¬ decide (k = 1) = late) (h : runK late k x = some (x1, x2, x3)) (hs : (s1, s2, true) = swap x2 x3) : runK late (k + 1) x = some (x1, s1, s2) := by
  rw [runK, h, Option.bind_some, stepK, if_neg hj]
  exact st1_some.2 ⟨_, _, hs.symm, rfl⟩
theorem run_none {late : Bool} {k : Nat} {x y : Prim3} (hk : k < 3) (h : runK late k x = some y) (hn : stepK late k y = none) : three late x = none := by
  rw [← run3]
  rcases (show k = 0 ∨ k = 1 ∨ k = 2 by omega) with rfl | rfl | rfl
  · have e : runK late 1 x = none := by rw [runK, h]; exact hn
    rw [runK, runK, e]; rfl
  · have e : runK late 2 x = none := by rw [runK, h]; exact hn
    rw [runK, e]; rfl
  · rw [runK, h]; exact hn
theorem fail_0 {late : Bool} {k : Nat} {x : Prim3} {x1 x2 x3 s1 s2 : Prim} (hk : k < 3) (hj : decide (k = 1) = late) (h : runK late k x = some (x1, x2, x3)) (hs : (s1, s2, false) = swap x1 x2) : three late x = none := by
  refine run_none hk h ?_
  rw [stepK, if_pos hj, st0, ← hs]
  rfl
theorem fail_1 {late : Bool} {k : Nat} {x : Prim3} {x1 x2 x3 s1 s2 : Prim} (hk : k < 3) (hj : ¬ decide (k = 1) = late) (h : runK late k x = some (x1, x2, x3)) (hs : (s1, s2, false) = swap x2 x3) : three late x = none := by
  refine run_none hk h ?_
  rw [stepK, if_neg hj, st1, ← hs]
  rfl
theorem swap_fit2 {p q a b : Prim} {c : Bool} (h : (a, b, c) = swap p q) (hp : p.fit) (hq : q.fit) : a.fit ∧ b.fit := by
  have e := swap_fit hp hq
  rw [← h] at e
  exact e
abbrev Three (late : Bool) (x0 : Prim3) := { x : (Prim3 × Bool) × (Rp.Lay Prim × Rp.Lay Prim × Rp.Lay Prim) // three late x0 = (if x.1.2 = true then some x.1.1 else none) ∧ (x.1.2 = true → x.1.1.1.fit ∧ x.1.1.2.1.fit ∧ x.1.1.2.2.fit) }
def Three.v {late : Bool} {x0 : Prim3} (x : Three late x0) : Value := .tuple #[.agg (E3 x.1.1.1.1 x.1.1.1.2.1 x.1.1.1.2.2 x.1.2.1 x.1.2.2.1 x.1.2.2.2).toArray, .bool x.1.1.2]
def Three.g {late : Bool} {x0 : Prim3} (x : Three late x0) : List Asn := Rp.asn x.1.1.1.1 x.1.2.1 ++ (Rp.asn x.1.1.1.2.1 x.1.2.2.1 ++ Rp.asn x.1.1.1.2.2 x.1.2.2.2)

theorem sb46 : SB Tryd.prog 46 [(0, 1), (1, 1), (2, 1)] [.int .i64 0, .int .i64 0, .int .i64 0] := SB.array Tryd.zeroValue46 rfl Tryd.underlying46 Tryd.sizeOf3 (fun i x h => by rcases i with _ | _ | _ |  i <;> simp_all)
theorem c_three0 (p q r : Prim) (yp yq yr : Rp.Lay Prim) (hp : p.fit) (hq : q.fit) (hr : r.fit) : Con Tryd.prog 17 [.agg (E3 p q r yp yq yr).toArray, .bool false] [] (Rp.asn p yp ++ (Rp.asn q yq ++ Rp.asn r yr)) (Three false (p, q, r)) (fun x => x.v) (fun _ => []) (fun x => x.g) := by
  refine con Tryd.func17 rfl Tryd.ntmps17 rfl ?_
  intro M0 F0 w0
  refine cs ?_
  refine cr ?_
  refine ls (o_box rfl rfl rfl) ?_
  refine le ?_; intro b2
  refine ls (o_alloc Tryd.zeroValue35 rfl rfl) ?_
  refine le ?_; intro b4
  refine ls (op (p_asg rfl) rfl) ?_
  refine ln ?_
  refine nthen ?_
  refine cs ?_
  refine cr ?_
  refine ls (op (p_bld sb46 rfl (Fill.t (by repeat (first | exact At.z | apply At.s)) rfl rfl (by repeat (first | exact Put.d | apply Put.t | apply Put.s)) (Fill.t (by repeat (first | exact At.z | apply At.s)) rfl rfl (by repeat (first | exact Put.d | apply Put.t | apply Put.s)) (Fill.t (by repeat (first | exact At.z | apply At.s)) rfl rfl (by repeat (first | exact Put.d | apply Put.t | apply Put.s)) Fill.d)))) rfl) ?_
  refine ls (o_alloc Tryd.zeroValue46 rfl rfl) ?_
  refine le ?_; intro b6
  refine ls (o_st rfl Tryd.sizeOf46 rfl rfl rfl rfl rfl (by repeat (first | exact At.z | apply At.s)) (by repeat (first | exact Put.d | apply Put.t | apply Put.s)) (by repeat (first | exact SetAt.z | apply SetAt.s))) ?_
  refine ln ?_
  refine nthen ?_
  refine cs ?_
  refine cs ?_
  refine cr ?_
  refine ls (op (p_move rfl) rfl) ?_
  refine ln ?_
  refine nthen ?_
  refine cc rfl (fun h => by cases h) (fun h => ?_)
  refine cskip ?_
  refine nthen ?_
  refine cs ?_
  refine cs ?_
  refine cr ?_
  refine ls (o_ldw Tryd.isAgg46 Tryd.sizeOf46 rfl (by repeat (first | exact At.z | apply At.s)) (by rfl) rfl) ?_
  refine ls (op (p_move rfl) rfl) ?_
  refine ln ?_
  refine nthen ?_
  refine cb ?_
  refine cl (ι := {i : Nat × Prim3 × (Rp.Lay Prim × Rp.Lay Prim × Rp.Lay Prim) // i.1 ≤ 3 ∧ runK false i.1 (p, q, r) = some i.2.1 ∧ i.2.1.1.fit ∧ i.2.1.2.1.fit ∧ i.2.1.2.2.fit}) (fun i => St M0 F0 w0 43 [(2, .pointer (some ⟨b2, 0, none⟩)), (4, .pointer (some ⟨b4, 0, none⟩)), (5, .bool false), (15, .agg #[.int .i64 0, .int .i64 1, .int .i64 0]), (16, .int .i64 (i.1.1 : Int))] [box b2 35 (E3 i.1.2.1.1 i.1.2.1.2.1 i.1.2.1.2.2 i.1.2.2.1 i.1.2.2.2.1 i.1.2.2.2.2), box b4 35 (E3 Prim.zero Prim.zero Prim.zero ((none, 0), (none, 0)) ((none, 0), (none, 0)) ((none, 0), (none, 0)))] (Rp.asn i.1.2.1.1 i.1.2.2.1 ++ (Rp.asn i.1.2.1.2.1 i.1.2.2.2.1 ++ Rp.asn i.1.2.1.2.2 i.1.2.2.2.2))) (fun i => 3 - i.1.1) ⟨(0, (p, q, r), (yp, yq, yr)), Nat.zero_le _, rfl, hp, hq, hr⟩ (wk (is := [2, 1]) (by repeat (first | exact subσ.nil _ | refine subσ.cons rfl ?_)) rfl (by repeat (first | exact Sub.d | (refine Sub.s ?_ ?_; (repeat (first | exact In.z | apply In.s))) | (refine Sub.suf ?_; (repeat (first | exact Suf.z | apply Suf.s)))))) ?_
  rintro ⟨⟨k, ⟨x1, x2, x3⟩, ⟨y1, y2, y3⟩⟩, hk, hrun, f1, f2, f3⟩
  refine cmono (S' := St M0 F0 w0 43 [(2, .pointer (some ⟨b2, 0, none⟩)), (4, .pointer (some ⟨b4, 0, none⟩)), (5, .bool false), (15, .agg #[.int .i64 0, .int .i64 1, .int .i64 0]), (16, .int .i64 (k : Int))] [box b2 35 (E3 x1 x2 x3 y1 y2 y3), box b4 35 (E3 Prim.zero Prim.zero Prim.zero ((none, 0), (none, 0)) ((none, 0), (none, 0)) ((none, 0), (none, 0)))] (Rp.asn x1 y1 ++ (Rp.asn x2 y2 ++ Rp.asn x3 y3))) (fun _ _ h => h) ?_
  refine cs ?_
  refine cr ?_
  refine ls (op (p_icmp rfl rfl rfl) rfl) ?_
  refine ln ?_
  refine nthen ?_
  refine cs ?_
  refine cc rfl ?_ ?_
  · intro h17
    dsimp only at hk hrun f1 f2 f3
    try simp only [decide_eq_true_eq, decide_eq_false_iff_not, Bool.not_eq_true', Bool.not_eq_false', Int.not_lt, Int.not_le, ge_iff_le, Bool.not_true, Bool.not_false] at h17
    have hk3 : k < 3 := by omega
    refine cskip ?_
    refine nthen ?_
    refine cs ?_
    refine cb ?_
    refine cs ?_
    rcases (show k = 0 ∨ k = 1 ∨ k = 2 by omega) with rfl | rfl | rfl
    ·
      refine cr ?_
      refine ls (op (p_idxa 0 (by decide) rfl Tryd.underlying46 Tryd.sizeOf3 Tryd.isAgg3 rfl rfl (by repeat (first | exact At.z | apply At.s))) rfl) ?_
      refine ls (op (p_asg rfl) rfl) ?_
      refine ln ?_
      refine nthen ?_
      refine cs ?_
      refine cutC (S' := fun a w => ∃ (b9 : Nat) (b10 : Nat) (z1 : Rp.Lay Prim) (z2 : Rp.Lay Prim) (s1 : Prim) (s2 : Prim) (s3 : Bool) (hs : (s1, s2, s3) = swap x1 x2), St M0 F0 w0 43 [(2, .pointer (some ⟨b2, 0, none⟩)), (4, .pointer (some ⟨b4, 0, none⟩)), (5, .bool false), (8, .int .i64 0), (9, .pointer (some ⟨b9, 0, none⟩)), (10, .pointer (some ⟨b10, 0, none⟩)), (11, .bool s3), (15, .agg #[.int .i64 0, .int .i64 1, .int .i64 0]), (16, .int .i64 ((0 : Nat) : Int))] [box b9 27 (Rp.enc s1 z1), box b10 27 (Rp.enc s2 z2), box b2 35 (E3 x1 x2 x3 y1 y2 y3), box b4 35 (E3 Prim.zero Prim.zero Prim.zero ((none, 0), (none, 0)) ((none, 0), (none, 0)) ((none, 0), (none, 0)))] (Rp.asn s1 z1 ++ (Rp.asn s2 z2 ++ (Rp.asn x1 y1 ++ (Rp.asn x2 y2 ++ Rp.asn x3 y3)))) a w) ?_ ?_
      ·
        refine cd [7, 12, 13, 14, 15] [(2, b2, 0 + 0 * 6, _), (6, b2, 0 + 1 * 6, _)] TrydX.mixed (TOk.t (isBoxS (by repeat (first | exact At.z | apply At.s)) (k := 6) (by repeat (first | exact Cut.d | apply Cut.t | apply Cut.s))) (TOk.t (isBoxS (by repeat (first | exact At.z | apply At.s)) (k := 6) (by repeat (first | exact Cut.d | apply Cut.t | apply Cut.s))) TOk.d)) ?_
        refine tk 0 rfl (by kernel_rfl) (fun _ _ _ h => h) gnone (TTany _) (p_move rfl) rfl ?_
        refine tk 1 rfl (by kernel_rfl) (fun _ _ _ h => h) gnone (TTany _) (p_iav 0 (by decide) rfl Tryd.underlying35 Tryd.sizeOf27 rfl rfl) rfl ?_
        refine tk 2 rfl (by kernel_rfl) (fun _ _ _ h => h) gnone (TTat (List.Mem.head _)) (p_lda Tryd.isAgg27 Tryd.sizeOf27 rfl rfl) rfl ?_
        refine tk 3 rfl (by kernel_rfl) (fun _ _ _ h => h) gnone (TTany _) (p_move rfl) rfl ?_
        refine tk 4 rfl (by kernel_rfl) (fun _ _ _ h => h) gnone (TTany _) (p_add rfl rfl (by omega)) rfl ?_
        refine tk 5 rfl (by kernel_rfl) (fun _ _ _ h => h) gnone (TTany _) (p_iav 1 (by decide) rfl Tryd.underlying35 Tryd.sizeOf27 rfl rfl) rfl ?_
        refine tk 6 rfl (by kernel_rfl) (fun _ _ _ h => h) gnone (TTat (List.Mem.tail _ (List.Mem.head _))) (p_lda Tryd.isAgg27 Tryd.sizeOf27 rfl rfl) rfl ?_
        refine dall (is := [7, 12, 13]) (by kernel_rfl) rfl ?_
        intro i hi; simp only [List.mem_cons, List.mem_nil_iff, or_false] at hi; rcases hi with rfl | rfl | rfl
        ·
          refine doR rfl (o_call (is := []) Tryd.call11 (c_Swap x1 x2 y1 y2 f1 f2) rfl rfl (by repeat (first | exact Sub.d | (refine Sub.s ?_ ?_; (repeat (first | exact In.z | apply In.s))) | (refine Sub.suf ?_; (repeat (first | exact Suf.z | apply Suf.s))))) rfl) (TOk.x (by kernel_rfl) (TOk.x (by kernel_rfl) TOk.d)) ?_
          refine ea ?_; rintro ⟨⟨⟨s1, s2, s3⟩, z1, z2⟩, hs⟩
          dsimp only at hs
          refine tk 8 rfl (by kernel_rfl) (fun _ _ _ h => h) gnone (TTany _) (p_move rfl) rfl ?_
          refine tk 9 rfl (by kernel_rfl) (fun _ _ _ h => h) gnone (TTany _) (p_ext rfl (by repeat (first | exact At.z | apply At.s))) rfl ?_
          refine tk 10 rfl (by kernel_rfl) (fun _ _ _ h => h) gnone (TTany _) (p_ext rfl (by repeat (first | exact At.z | apply At.s))) rfl ?_
          refine tk 11 rfl (by kernel_rfl) (fun _ _ _ h => h) gnone (TTany _) (p_ext rfl (by repeat (first | exact At.z | apply At.s))) rfl ?_
          refine dall (is := [12, 13]) (by kernel_rfl) rfl ?_
          intro i hi; simp only [List.mem_cons, List.mem_nil_iff, or_false] at hi; rcases hi with rfl | rfl
          ·
            refine doR rfl (o_alloc Tryd.zeroValue27 rfl rfl) (TOk.x (by kernel_rfl) (TOk.x (by kernel_rfl) TOk.d)) ?_
            refine ea ?_; intro b9
            refine df 13 (by kernel_rfl) ?_
            refine doR rfl (o_alloc Tryd.zeroValue27 rfl rfl) (TOk.x (by kernel_rfl) (TOk.x (by kernel_rfl) TOk.d)) ?_
            refine ea ?_; intro b10
            refine df 14 (by kernel_rfl) ?_
            refine doR rfl (o_st rfl Tryd.sizeOf27 rfl rfl rfl rfl rfl (by repeat (first | exact At.z | apply At.s)) (by repeat (first | exact Put.d | apply Put.t | apply Put.s)) (by repeat (first | exact SetAt.z | apply SetAt.s))) (TOk.x (by kernel_rfl) (TOk.x (by kernel_rfl) TOk.d)) ?_
            refine df 15 (by kernel_rfl) ?_
            refine doR rfl (o_st rfl Tryd.sizeOf27 rfl rfl rfl rfl rfl (by repeat (first | exact At.z | apply At.s)) (by repeat (first | exact Put.d | apply Put.t | apply Put.s)) (by repeat (first | exact SetAt.z | apply SetAt.s))) (TOk.x (by kernel_rfl) (TOk.x (by kernel_rfl) TOk.d)) ?_
            refine tk 16 rfl (by kernel_rfl) (fun _ _ _ h => h) gnone (TTany _) (p_asg rfl) rfl ?_
            refine dn (by kernel_rfl) (nmid (fun a w h => by first | exact ⟨b9, b10, z1, z2, s1, s2, s3, hs, wk (is := [0, 0, 0, 0]) (by repeat (first | exact subσ.nil _ | refine subσ.cons rfl ?_)) rfl (by repeat (first | exact Sub.d | (refine Sub.s ?_ ?_; (repeat (first | exact In.z | apply In.s))) | (refine Sub.suf ?_; (repeat (first | exact Suf.z | apply Suf.s))))) a w h⟩ | exact ⟨b9, b10, z1, z2, s1, s2, s3, hs, wk (is := [1, 0, 0, 0]) (by repeat (first | exact subσ.nil _ | refine subσ.cons rfl ?_)) rfl (by repeat (first | exact Sub.d | (refine Sub.s ?_ ?_; (repeat (first | exact In.z | apply In.s))) | (refine Sub.suf ?_; (repeat (first | exact Suf.z | apply Suf.s))))) a w h⟩))
          ·
            refine doR rfl (o_alloc Tryd.zeroValue27 rfl rfl) (TOk.x (by kernel_rfl) (TOk.x (by kernel_rfl) TOk.d)) ?_
            refine ea ?_; intro b10
            refine df 12 (by kernel_rfl) ?_
            refine doR rfl (o_alloc Tryd.zeroValue27 rfl rfl) (TOk.x (by kernel_rfl) (TOk.x (by kernel_rfl) TOk.d)) ?_
            refine ea ?_; intro b9
            refine df 14 (by kernel_rfl) ?_
            refine doR rfl (o_st rfl Tryd.sizeOf27 rfl rfl rfl rfl rfl (by repeat (first | exact At.z | apply At.s)) (by repeat (first | exact Put.d | apply Put.t | apply Put.s)) (by repeat (first | exact SetAt.z | apply SetAt.s))) (TOk.x (by kernel_rfl) (TOk.x (by kernel_rfl) TOk.d)) ?_
            refine df 15 (by kernel_rfl) ?_
            refine doR rfl (o_st rfl Tryd.sizeOf27 rfl rfl rfl rfl rfl (by repeat (first | exact At.z | apply At.s)) (by repeat (first | exact Put.d | apply Put.t | apply Put.s)) (by repeat (first | exact SetAt.z | apply SetAt.s))) (TOk.x (by kernel_rfl) (TOk.x (by kernel_rfl) TOk.d)) ?_
            refine tk 16 rfl (by kernel_rfl) (fun _ _ _ h => h) gnone (TTany _) (p_asg rfl) rfl ?_
            refine dn (by kernel_rfl) (nmid (fun a w h => by first | exact ⟨b9, b10, z1, z2, s1, s2, s3, hs, wk (is := [0, 0, 0, 0]) (by repeat (first | exact subσ.nil _ | refine subσ.cons rfl ?_)) rfl (by repeat (first | exact Sub.d | (refine Sub.s ?_ ?_; (repeat (first | exact In.z | apply In.s))) | (refine Sub.suf ?_; (repeat (first | exact Suf.z | apply Suf.s))))) a w h⟩ | exact ⟨b9, b10, z1, z2, s1, s2, s3, hs, wk (is := [1, 0, 0, 0]) (by repeat (first | exact subσ.nil _ | refine subσ.cons rfl ?_)) rfl (by repeat (first | exact Sub.d | (refine Sub.s ?_ ?_; (repeat (first | exact In.z | apply In.s))) | (refine Sub.suf ?_; (repeat (first | exact Suf.z | apply Suf.s))))) a w h⟩))
        ·
          refine doR rfl (o_alloc Tryd.zeroValue27 rfl rfl) (TOk.t (isBoxE fun _ => isBoxS (by repeat (first | exact At.z | apply At.s)) (k := 6) (by repeat (first | exact Cut.d | apply Cut.t | apply Cut.s))) (TOk.t (isBoxE fun _ => isBoxS (by repeat (first | exact At.z | apply At.s)) (k := 6) (by repeat (first | exact Cut.d | apply Cut.t | apply Cut.s))) TOk.d)) ?_
          refine ea ?_; intro b9
          refine dall (is := [7, 13]) (by kernel_rfl) rfl ?_
          intro i hi; simp only [List.mem_cons, List.mem_nil_iff, or_false] at hi; rcases hi with rfl | rfl
          ·
            refine doR rfl (o_call (is := []) Tryd.call11 (c_Swap x1 x2 y1 y2 f1 f2) rfl rfl (by repeat (first | exact Sub.d | (refine Sub.s ?_ ?_; (repeat (first | exact In.z | apply In.s))) | (refine Sub.suf ?_; (repeat (first | exact Suf.z | apply Suf.s))))) rfl) (TOk.x (by kernel_rfl) (TOk.x (by kernel_rfl) TOk.d)) ?_
            refine ea ?_; rintro ⟨⟨⟨s1, s2, s3⟩, z1, z2⟩, hs⟩
            dsimp only at hs
            refine tk 8 rfl (by kernel_rfl) (fun _ _ _ h => h) gnone (TTany _) (p_move rfl) rfl ?_
            refine tk 9 rfl (by kernel_rfl) (fun _ _ _ h => h) gnone (TTany _) (p_ext rfl (by repeat (first | exact At.z | apply At.s))) rfl ?_
            refine tk 10 rfl (by kernel_rfl) (fun _ _ _ h => h) gnone (TTany _) (p_ext rfl (by repeat (first | exact At.z | apply At.s))) rfl ?_
            refine tk 11 rfl (by kernel_rfl) (fun _ _ _ h => h) gnone (TTany _) (p_ext rfl (by repeat (first | exact At.z | apply At.s))) rfl ?_
            refine df 13 (by kernel_rfl) ?_
            refine doR rfl (o_alloc Tryd.zeroValue27 rfl rfl) (TOk.x (by kernel_rfl) (TOk.x (by kernel_rfl) TOk.d)) ?_
            refine ea ?_; intro b10
            refine df 14 (by kernel_rfl) ?_
            refine doR rfl (o_st rfl Tryd.sizeOf27 rfl rfl rfl rfl rfl (by repeat (first | exact At.z | apply At.s)) (by repeat (first | exact Put.d | apply Put.t | apply Put.s)) (by repeat (first | exact SetAt.z | apply SetAt.s))) (TOk.x (by kernel_rfl) (TOk.x (by kernel_rfl) TOk.d)) ?_
            refine df 15 (by kernel_rfl) ?_
            refine doR rfl (o_st rfl Tryd.sizeOf27 rfl rfl rfl rfl rfl (by repeat (first | exact At.z | apply At.s)) (by repeat (first | exact Put.d | apply Put.t | apply Put.s)) (by repeat (first | exact SetAt.z | apply SetAt.s))) (TOk.x (by kernel_rfl) (TOk.x (by kernel_rfl) TOk.d)) ?_
            refine tk 16 rfl (by kernel_rfl) (fun _ _ _ h => h) gnone (TTany _) (p_asg rfl) rfl ?_
            refine dn (by kernel_rfl) (nmid (fun a w h => by first | exact ⟨b9, b10, z1, z2, s1, s2, s3, hs, wk (is := [0, 0, 0, 0]) (by repeat (first | exact subσ.nil _ | refine subσ.cons rfl ?_)) rfl (by repeat (first | exact Sub.d | (refine Sub.s ?_ ?_; (repeat (first | exact In.z | apply In.s))) | (refine Sub.suf ?_; (repeat (first | exact Suf.z | apply Suf.s))))) a w h⟩ | exact ⟨b9, b10, z1, z2, s1, s2, s3, hs, wk (is := [1, 0, 0, 0]) (by repeat (first | exact subσ.nil _ | refine subσ.cons rfl ?_)) rfl (by repeat (first | exact Sub.d | (refine Sub.s ?_ ?_; (repeat (first | exact In.z | apply In.s))) | (refine Sub.suf ?_; (repeat (first | exact Suf.z | apply Suf.s))))) a w h⟩))
          ·
            refine doR rfl (o_alloc Tryd.zeroValue27 rfl rfl) (TOk.t (isBoxE fun _ => isBoxS (by repeat (first | exact At.z | apply At.s)) (k := 6) (by repeat (first | exact Cut.d | apply Cut.t | apply Cut.s))) (TOk.t (isBoxE fun _ => isBoxS (by repeat (first | exact At.z | apply At.s)) (k := 6) (by repeat (first | exact Cut.d | apply Cut.t | apply Cut.s))) TOk.d)) ?_
            refine ea ?_; intro b10
            refine df 7 (by kernel_rfl) ?_
            refine doR rfl (o_call (is := []) Tryd.call11 (c_Swap x1 x2 y1 y2 f1 f2) rfl rfl (by repeat (first | exact Sub.d | (refine Sub.s ?_ ?_; (repeat (first | exact In.z | apply In.s))) | (refine Sub.suf ?_; (repeat (first | exact Suf.z | apply Suf.s))))) rfl) (TOk.x (by kernel_rfl) (TOk.x (by kernel_rfl) TOk.d)) ?_
            refine ea ?_; rintro ⟨⟨⟨s1, s2, s3⟩, z1, z2⟩, hs⟩
            dsimp only at hs
            refine tk 8 rfl (by kernel_rfl) (fun _ _ _ h => h) gnone (TTany _) (p_move rfl) rfl ?_
            refine tk 9 rfl (by kernel_rfl) (fun _ _ _ h => h) gnone (TTany _) (p_ext rfl (by repeat (first | exact At.z | apply At.s))) rfl ?_
            refine tk 10 rfl (by kernel_rfl) (fun _ _ _ h => h) gnone (TTany _) (p_ext rfl (by repeat (first | exact At.z | apply At.s))) rfl ?_
            refine tk 11 rfl (by kernel_rfl) (fun _ _ _ h => h) gnone (TTany _) (p_ext rfl (by repeat (first | exact At.z | apply At.s))) rfl ?_
            refine df 14 (by kernel_rfl) ?_
            refine doR rfl (o_st rfl Tryd.sizeOf27 rfl rfl rfl rfl rfl (by repeat (first | exact At.z | apply At.s)) (by repeat (first | exact Put.d | apply Put.t | apply Put.s)) (by repeat (first | exact SetAt.z | apply SetAt.s))) (TOk.x (by kernel_rfl) (TOk.x (by kernel_rfl) TOk.d)) ?_
            refine df 15 (by kernel_rfl) ?_
            refine doR rfl (o_st rfl Tryd.sizeOf27 rfl rfl rfl rfl rfl (by repeat (first | exact At.z | apply At.s)) (by repeat (first | exact Put.d | apply Put.t | apply Put.s)) (by repeat (first | exact SetAt.z | apply SetAt.s))) (TOk.x (by kernel_rfl) (TOk.x (by kernel_rfl) TOk.d)) ?_
            refine tk 16 rfl (by kernel_rfl) (fun _ _ _ h => h) gnone (TTany _) (p_asg rfl) rfl ?_
            refine dn (by kernel_rfl) (nmid (fun a w h => by first | exact ⟨b9, b10, z1, z2, s1, s2, s3, hs, wk (is := [0, 0, 0, 0]) (by repeat (first | exact subσ.nil _ | refine subσ.cons rfl ?_)) rfl (by repeat (first | exact Sub.d | (refine Sub.s ?_ ?_; (repeat (first | exact In.z | apply In.s))) | (refine Sub.suf ?_; (repeat (first | exact Suf.z | apply Suf.s))))) a w h⟩ | exact ⟨b9, b10, z1, z2, s1, s2, s3, hs, wk (is := [1, 0, 0, 0]) (by repeat (first | exact subσ.nil _ | refine subσ.cons rfl ?_)) rfl (by repeat (first | exact Sub.d | (refine Sub.s ?_ ?_; (repeat (first | exact In.z | apply In.s))) | (refine Sub.suf ?_; (repeat (first | exact Suf.z | apply Suf.s))))) a w h⟩))
        ·
          refine doR rfl (o_alloc Tryd.zeroValue27 rfl rfl) (TOk.t (isBoxE fun _ => isBoxS (by repeat (first | exact At.z | apply At.s)) (k := 6) (by repeat (first | exact Cut.d | apply Cut.t | apply Cut.s))) (TOk.t (isBoxE fun _ => isBoxS (by repeat (first | exact At.z | apply At.s)) (k := 6) (by repeat (first | exact Cut.d | apply Cut.t | apply Cut.s))) TOk.d)) ?_
          refine ea ?_; intro b10
          refine dall (is := [7, 12]) (by kernel_rfl) rfl ?_
          intro i hi; simp only [List.mem_cons, List.mem_nil_iff, or_false] at hi; rcases hi with rfl | rfl
          ·
            refine doR rfl (o_call (is := []) Tryd.call11 (c_Swap x1 x2 y1 y2 f1 f2) rfl rfl (by repeat (first | exact Sub.d | (refine Sub.s ?_ ?_; (repeat (first | exact In.z | apply In.s))) | (refine Sub.suf ?_; (repeat (first | exact Suf.z | apply Suf.s))))) rfl) (TOk.x (by kernel_rfl) (TOk.x (by kernel_rfl) TOk.d)) ?_
            refine ea ?_; rintro ⟨⟨⟨s1, s2, s3⟩, z1, z2⟩, hs⟩
            dsimp only at hs
            refine tk 8 rfl (by kernel_rfl) (fun _ _ _ h => h) gnone (TTany _) (p_move rfl) rfl ?_
            refine tk 9 rfl (by kernel_rfl) (fun _ _ _ h => h) gnone (TTany _) (p_ext rfl (by repeat (first | exact At.z | apply At.s))) rfl ?_
            refine tk 10 rfl (by kernel_rfl) (fun _ _ _ h => h) gnone (TTany _) (p_ext rfl (by repeat (first | exact At.z | apply At.s))) rfl ?_
            refine tk 11 rfl (by kernel_rfl) (fun _ _ _ h => h) gnone (TTany _) (p_ext rfl (by repeat (first | exact At.z | apply At.s))) rfl ?_
            refine df 12 (by kernel_rfl) ?_
            refine doR rfl (o_alloc Tryd.zeroValue27 rfl rfl) (TOk.x (by kernel_rfl) (TOk.x (by kernel_rfl) TOk.d)) ?_
            refine ea ?_; intro b9
            refine df 14 (by kernel_rfl) ?_
            refine doR rfl (o_st rfl Tryd.sizeOf27 rfl rfl rfl rfl rfl (by repeat (first | exact At.z | apply At.s)) (by repeat (first | exact Put.d | apply Put.t | apply Put.s)) (by repeat (first | exact SetAt.z | apply SetAt.s))) (TOk.x (by kernel_rfl) (TOk.x (by kernel_rfl) TOk.d)) ?_
            refine df 15 (by kernel_rfl) ?_
            refine doR rfl (o_st rfl Tryd.sizeOf27 rfl rfl rfl rfl rfl (by repeat (first | exact At.z | apply At.s)) (by repeat (first | exact Put.d | apply Put.t | apply Put.s)) (by repeat (first | exact SetAt.z | apply SetAt.s))) (TOk.x (by kernel_rfl) (TOk.x (by kernel_rfl) TOk.d)) ?_
            refine tk 16 rfl (by kernel_rfl) (fun _ _ _ h => h) gnone (TTany _) (p_asg rfl) rfl ?_
            refine dn (by kernel_rfl) (nmid (fun a w h => by first | exact ⟨b9, b10, z1, z2, s1, s2, s3, hs, wk (is := [0, 0, 0, 0]) (by repeat (first | exact subσ.nil _ | refine subσ.cons rfl ?_)) rfl (by repeat (first | exact Sub.d | (refine Sub.s ?_ ?_; (repeat (first | exact In.z | apply In.s))) | (refine Sub.suf ?_; (repeat (first | exact Suf.z | apply Suf.s))))) a w h⟩ | exact ⟨b9, b10, z1, z2, s1, s2, s3, hs, wk (is := [1, 0, 0, 0]) (by repeat (first | exact subσ.nil _ | refine subσ.cons rfl ?_)) rfl (by repeat (first | exact Sub.d | (refine Sub.s ?_ ?_; (repeat (first | exact In.z | apply In.s))) | (refine Sub.suf ?_; (repeat (first | exact Suf.z | apply Suf.s))))) a w h⟩))
          ·
            refine doR rfl (o_alloc Tryd.zeroValue27 rfl rfl) (TOk.t (isBoxE fun _ => isBoxS (by repeat (first | exact At.z | apply At.s)) (k := 6) (by repeat (first | exact Cut.d | apply Cut.t | apply Cut.s))) (TOk.t (isBoxE fun _ => isBoxS (by repeat (first | exact At.z | apply At.s)) (k := 6) (by repeat (first | exact Cut.d | apply Cut.t | apply Cut.s))) TOk.d)) ?_
            refine ea ?_; intro b9
            refine df 7 (by kernel_rfl) ?_
            refine doR rfl (o_call (is := []) Tryd.call11 (c_Swap x1 x2 y1 y2 f1 f2) rfl rfl (by repeat (first | exact Sub.d | (refine Sub.s ?_ ?_; (repeat (first | exact In.z | apply In.s))) | (refine Sub.suf ?_; (repeat (first | exact Suf.z | apply Suf.s))))) rfl) (TOk.x (by kernel_rfl) (TOk.x (by kernel_rfl) TOk.d)) ?_
            refine ea ?_; rintro ⟨⟨⟨s1, s2, s3⟩, z1, z2⟩, hs⟩
            dsimp only at hs
            refine tk 8 rfl (by kernel_rfl) (fun _ _ _ h => h) gnone (TTany _) (p_move rfl) rfl ?_
            refine tk 9 rfl (by kernel_rfl) (fun _ _ _ h => h) gnone (TTany _) (p_ext rfl (by repeat (first | exact At.z | apply At.s))) rfl ?_
            refine tk 10 rfl (by kernel_rfl) (fun _ _ _ h => h) gnone (TTany _) (p_ext rfl (by repeat (first | exact At.z | apply At.s))) rfl ?_
            refine tk 11 rfl (by kernel_rfl) (fun _ _ _ h => h) gnone (TTany _) (p_ext rfl (by repeat (first | exact At.z | apply At.s))) rfl ?_
            refine df 14 (by kernel_rfl) ?_
            refine doR rfl (o_st rfl Tryd.sizeOf27 rfl rfl rfl rfl rfl (by repeat (first | exact At.z | apply At.s)) (by repeat (first | exact Put.d | apply Put.t | apply Put.s)) (by repeat (first | exact SetAt.z | apply SetAt.s))) (TOk.x (by kernel_rfl) (TOk.x (by kernel_rfl) TOk.d)) ?_
            refine df 15 (by kernel_rfl) ?_
            refine doR rfl (o_st rfl Tryd.sizeOf27 rfl rfl rfl rfl rfl (by repeat (first | exact At.z | apply At.s)) (by repeat (first | exact Put.d | apply Put.t | apply Put.s)) (by repeat (first | exact SetAt.z | apply SetAt.s))) (TOk.x (by kernel_rfl) (TOk.x (by kernel_rfl) TOk.d)) ?_
            refine tk 16 rfl (by kernel_rfl) (fun _ _ _ h => h) gnone (TTany _) (p_asg rfl) rfl ?_
            refine dn (by kernel_rfl) (nmid (fun a w h => by first | exact ⟨b9, b10, z1, z2, s1, s2, s3, hs, wk (is := [0, 0, 0, 0]) (by repeat (first | exact subσ.nil _ | refine subσ.cons rfl ?_)) rfl (by repeat (first | exact Sub.d | (refine Sub.s ?_ ?_; (repeat (first | exact In.z | apply In.s))) | (refine Sub.suf ?_; (repeat (first | exact Suf.z | apply Suf.s))))) a w h⟩ | exact ⟨b9, b10, z1, z2, s1, s2, s3, hs, wk (is := [1, 0, 0, 0]) (by repeat (first | exact subσ.nil _ | refine subσ.cons rfl ?_)) rfl (by repeat (first | exact Sub.d | (refine Sub.s ?_ ?_; (repeat (first | exact In.z | apply In.s))) | (refine Sub.suf ?_; (repeat (first | exact Suf.z | apply Suf.s))))) a w h⟩))
      ·
        refine nex fun b9 => nex fun b10 => nex fun z1 => nex fun z2 => nex fun s1 => nex fun s2 => nex fun s3 => nex fun hs => ?_
        refine nthen ?_
        refine cs ?_
        refine cs ?_
        refine cr ?_
        refine ls (op (p_move rfl) rfl) ?_
        refine ls (op (p_not rfl) rfl) ?_
        refine ln ?_
        refine nthen ?_
        refine cc rfl ?_ ?_
        · intro h32
          have h32' : s3 = false := by simpa using h32
          subst h32'
          refine cs ?_
          refine cmono (fun a w h => nilSl (α := ByteArray) h) ?_
          refine cr ?_
          refine ls (o_ldw Tryd.isAgg35 Tryd.sizeOf35 rfl (by repeat (first | exact At.z | apply At.s)) (by rfl) rfl) ?_
          refine ls (o_st rfl Tryd.sizeOf35 rfl rfl rfl rfl rfl (by repeat (first | exact At.z | apply At.s)) (by repeat (first | exact Put.d | apply Put.t | apply Put.s)) (by repeat (first | exact SetAt.z | apply SetAt.s))) ?_
          refine ls (op (p_asg rfl) rfl) ?_
          refine ln ?_
          refine nthen ?_
          refine cret ?_
          refine xret (fun _ _ h => h) ?_
          refine rret (is := []) ⟨(((Prim.zero, Prim.zero, Prim.zero), false), (((none, 0), (none, 0)), ((none, 0), (none, 0)), ((none, 0), (none, 0)))), fail_0 (by decide) (by decide) hrun hs, (fun e => by cases e)⟩ (Or.inl rfl) (Res.c rfl Tryd.isAgg35 Tryd.sizeOf35 (by repeat (first | exact At.z | apply At.s)) (by rfl) (Res.t rfl Res.d)) (rfl) rfl (by repeat (first | exact Sub.d | (refine Sub.s ?_ ?_; (repeat (first | exact In.z | apply In.s))) | (refine Sub.suf ?_; (repeat (first | exact Suf.z | apply Suf.s)))))
        · intro h32
          obtain rfl : true = s3 := by cases s3 <;> first | rfl | (simp at h32)
          refine cskip ?_
          refine nthen ?_
          refine cd [6, 8] [(3, b9, 0, _), (4, b10, 0, _)] TrydX.mixed (TOk.t (isBoxS (by repeat (first | exact At.z | apply At.s)) (k := 6) (by repeat (first | exact Cut.d | apply Cut.t | apply Cut.s))) (TOk.t (isBoxS (by repeat (first | exact At.z | apply At.s)) (k := 6) (by repeat (first | exact Cut.d | apply Cut.t | apply Cut.s))) TOk.d)) ?_
          refine tk 0 rfl (by kernel_rfl) (fun _ _ _ h => h) gnone (TTany _) (p_move rfl) rfl ?_
          refine tk 1 rfl (by kernel_rfl) (fun _ _ _ h => h) gnone (TTany _) (p_move rfl) rfl ?_
          refine tk 2 rfl (by kernel_rfl) (fun _ _ _ h => h) gnone (TTany _) (p_add rfl rfl (by omega)) rfl ?_
          refine tk 3 rfl (by kernel_rfl) (fun _ _ _ h => h) gnone (TTat (List.Mem.head _)) (p_lda Tryd.isAgg27 Tryd.sizeOf27 rfl rfl) rfl ?_
          refine tk 4 rfl (by kernel_rfl) (fun _ _ _ h => h) gnone (TTat (List.Mem.tail _ (List.Mem.head _))) (p_lda Tryd.isAgg27 Tryd.sizeOf27 rfl rfl) rfl ?_
          refine tk 5 rfl (by kernel_rfl) (fun _ _ _ h => h) gnone (TTany _) (p_iav 0 (by decide) rfl Tryd.underlying35 Tryd.sizeOf27 rfl rfl) rfl ?_
          refine df 6 (by kernel_rfl) ?_
          refine doR rfl (o_st rfl Tryd.sizeOf27 rfl rfl rfl rfl rfl (by repeat (first | exact At.z | apply At.s)) (by repeat (first | exact Put.d | apply Put.t | apply Put.s)) (by repeat (first | exact SetAt.z | apply SetAt.s))) (TOk.x (by kernel_rfl) (TOk.t (isBoxS (by repeat (first | exact At.z | apply At.s)) (k := 6) (by repeat (first | exact Cut.d | apply Cut.t | apply Cut.s))) TOk.d)) ?_
          refine tk 7 rfl (by kernel_rfl) (fun _ _ _ h => h) gnone (TTany _) (p_iav 1 (by decide) rfl Tryd.underlying35 Tryd.sizeOf27 rfl rfl) rfl ?_
          refine df 8 (by kernel_rfl) ?_
          refine doR rfl (o_st rfl Tryd.sizeOf27 rfl rfl rfl rfl rfl (by repeat (first | exact At.z | apply At.s)) (by repeat (first | exact Put.d | apply Put.t | apply Put.s)) (by repeat (first | exact SetAt.z | apply SetAt.s))) (TOk.x (by kernel_rfl) (TOk.x (by kernel_rfl) TOk.d)) ?_
          refine dn (by kernel_rfl) ?_
          refine nblock ?_
          refine nthen ?_
          refine cr ?_
          refine ls (op (p_add rfl rfl (by omega)) rfl) ?_
          refine ls (op (p_move rfl) rfl) ?_
          refine ln ?_
          refine nnext ⟨(1, (s1, s2, x3), (z1, z2, y3)), (by dsimp only; omega), step_0 (by decide) hrun hs, (swap_fit2 hs f1 f2).1, (swap_fit2 hs f1 f2).2, f3⟩ (by dsimp only; omega) (wk (is := [2, 2]) (by repeat (first | exact subσ.nil _ | refine subσ.cons rfl ?_)) rfl (by repeat (first | exact Sub.d | (refine Sub.s ?_ ?_; (repeat (first | exact In.z | apply In.s))) | (refine Sub.suf ?_; (repeat (first | exact Suf.z | apply Suf.s))))))
    ·
      refine cr ?_
      refine ls (op (p_idxa 1 (by decide) rfl Tryd.underlying46 Tryd.sizeOf3 Tryd.isAgg3 rfl rfl (by repeat (first | exact At.z | apply At.s))) rfl) ?_
      refine ls (op (p_asg rfl) rfl) ?_
      refine ln ?_
      refine nthen ?_
      refine cs ?_
      refine cutC (S' := fun a w => ∃ (b9 : Nat) (b10 : Nat) (z1 : Rp.Lay Prim) (z2 : Rp.Lay Prim) (s1 : Prim) (s2 : Prim) (s3 : Bool) (hs : (s1, s2, s3) = swap x2 x3), St M0 F0 w0 43 [(2, .pointer (some ⟨b2, 0, none⟩)), (4, .pointer (some ⟨b4, 0, none⟩)), (5, .bool false), (8, .int .i64 1), (9, .pointer (some ⟨b9, 0, none⟩)), (10, .pointer (some ⟨b10, 0, none⟩)), (11, .bool s3), (15, .agg #[.int .i64 0, .int .i64 1, .int .i64 0]), (16, .int .i64 ((1 : Nat) : Int))] [box b9 27 (Rp.enc s1 z1), box b10 27 (Rp.enc s2 z2), box b2 35 (E3 x1 x2 x3 y1 y2 y3), box b4 35 (E3 Prim.zero Prim.zero Prim.zero ((none, 0), (none, 0)) ((none, 0), (none, 0)) ((none, 0), (none, 0)))] (Rp.asn s1 z1 ++ (Rp.asn s2 z2 ++ (Rp.asn x1 y1 ++ (Rp.asn x2 y2 ++ Rp.asn x3 y3)))) a w) ?_ ?_
      ·
        refine cd [7, 12, 13, 14, 15] [(2, b2, 0 + 1 * 6, _), (6, b2, 0 + 2 * 6, _)] TrydX.mixed (TOk.t (isBoxS (by repeat (first | exact At.z | apply At.s)) (k := 6) (by repeat (first | exact Cut.d | apply Cut.t | apply Cut.s))) (TOk.t (isBoxS (by repeat (first | exact At.z | apply At.s)) (k := 6) (by repeat (first | exact Cut.d | apply Cut.t | apply Cut.s))) TOk.d)) ?_
        refine tk 0 rfl (by kernel_rfl) (fun _ _ _ h => h) gnone (TTany _) (p_move rfl) rfl ?_
        refine tk 1 rfl (by kernel_rfl) (fun _ _ _ h => h) gnone (TTany _) (p_iav 1 (by decide) rfl Tryd.underlying35 Tryd.sizeOf27 rfl rfl) rfl ?_
        refine tk 2 rfl (by kernel_rfl) (fun _ _ _ h => h) gnone (TTat (List.Mem.head _)) (p_lda Tryd.isAgg27 Tryd.sizeOf27 rfl rfl) rfl ?_
        refine tk 3 rfl (by kernel_rfl) (fun _ _ _ h => h) gnone (TTany _) (p_move rfl) rfl ?_
        refine tk 4 rfl (by kernel_rfl) (fun _ _ _ h => h) gnone (TTany _) (p_add rfl rfl (by omega)) rfl ?_
        refine tk 5 rfl (by kernel_rfl) (fun _ _ _ h => h) gnone (TTany _) (p_iav 2 (by decide) rfl Tryd.underlying35 Tryd.sizeOf27 rfl rfl) rfl ?_
        refine tk 6 rfl (by kernel_rfl) (fun _ _ _ h => h) gnone (TTat (List.Mem.tail _ (List.Mem.head _))) (p_lda Tryd.isAgg27 Tryd.sizeOf27 rfl rfl) rfl ?_
        refine dall (is := [7, 12, 13]) (by kernel_rfl) rfl ?_
        intro i hi; simp only [List.mem_cons, List.mem_nil_iff, or_false] at hi; rcases hi with rfl | rfl | rfl
        ·
          refine doR rfl (o_call (is := []) Tryd.call11 (c_Swap x2 x3 y2 y3 f2 f3) rfl rfl (by repeat (first | exact Sub.d | (refine Sub.s ?_ ?_; (repeat (first | exact In.z | apply In.s))) | (refine Sub.suf ?_; (repeat (first | exact Suf.z | apply Suf.s))))) rfl) (TOk.x (by kernel_rfl) (TOk.x (by kernel_rfl) TOk.d)) ?_
          refine ea ?_; rintro ⟨⟨⟨s1, s2, s3⟩, z1, z2⟩, hs⟩
          dsimp only at hs
          refine tk 8 rfl (by kernel_rfl) (fun _ _ _ h => h) gnone (TTany _) (p_move rfl) rfl ?_
          refine tk 9 rfl (by kernel_rfl) (fun _ _ _ h => h) gnone (TTany _) (p_ext rfl (by repeat (first | exact At.z | apply At.s))) rfl ?_
          refine tk 10 rfl (by kernel_rfl) (fun _ _ _ h => h) gnone (TTany _) (p_ext rfl (by repeat (first | exact At.z | apply At.s))) rfl ?_
          refine tk 11 rfl (by kernel_rfl) (fun _ _ _ h => h) gnone (TTany _) (p_ext rfl (by repeat (first | exact At.z | apply At.s))) rfl ?_
          refine dall (is := [12, 13]) (by kernel_rfl) rfl ?_
          intro i hi; simp only [List.mem_cons, List.mem_nil_iff, or_false] at hi; rcases hi with rfl | rfl
          ·
            refine doR rfl (o_alloc Tryd.zeroValue27 rfl rfl) (TOk.x (by kernel_rfl) (TOk.x (by kernel_rfl) TOk.d)) ?_
            refine ea ?_; intro b9
            refine df 13 (by kernel_rfl) ?_
            refine doR rfl (o_alloc Tryd.zeroValue27 rfl rfl) (TOk.x (by kernel_rfl) (TOk.x (by kernel_rfl) TOk.d)) ?_
            refine ea ?_; intro b10
            refine df 14 (by kernel_rfl) ?_
            refine doR rfl (o_st rfl Tryd.sizeOf27 rfl rfl rfl rfl rfl (by repeat (first | exact At.z | apply At.s)) (by repeat (first | exact Put.d | apply Put.t | apply Put.s)) (by repeat (first | exact SetAt.z | apply SetAt.s))) (TOk.x (by kernel_rfl) (TOk.x (by kernel_rfl) TOk.d)) ?_
            refine df 15 (by kernel_rfl) ?_
            refine doR rfl (o_st rfl Tryd.sizeOf27 rfl rfl rfl rfl rfl (by repeat (first | exact At.z | apply At.s)) (by repeat (first | exact Put.d | apply Put.t | apply Put.s)) (by repeat (first | exact SetAt.z | apply SetAt.s))) (TOk.x (by kernel_rfl) (TOk.x (by kernel_rfl) TOk.d)) ?_
            refine tk 16 rfl (by kernel_rfl) (fun _ _ _ h => h) gnone (TTany _) (p_asg rfl) rfl ?_
            refine dn (by kernel_rfl) (nmid (fun a w h => by first | exact ⟨b9, b10, z1, z2, s1, s2, s3, hs, wk (is := [0, 0, 0, 0]) (by repeat (first | exact subσ.nil _ | refine subσ.cons rfl ?_)) rfl (by repeat (first | exact Sub.d | (refine Sub.s ?_ ?_; (repeat (first | exact In.z | apply In.s))) | (refine Sub.suf ?_; (repeat (first | exact Suf.z | apply Suf.s))))) a w h⟩ | exact ⟨b9, b10, z1, z2, s1, s2, s3, hs, wk (is := [1, 0, 0, 0]) (by repeat (first | exact subσ.nil _ | refine subσ.cons rfl ?_)) rfl (by repeat (first | exact Sub.d | (refine Sub.s ?_ ?_; (repeat (first | exact In.z | apply In.s))) | (refine Sub.suf ?_; (repeat (first | exact Suf.z | apply Suf.s))))) a w h⟩))
          ·
            refine doR rfl (o_alloc Tryd.zeroValue27 rfl rfl) (TOk.x (by kernel_rfl) (TOk.x (by kernel_rfl) TOk.d)) ?_
            refine ea ?_; intro b10
            refine df 12 (by kernel_rfl) ?_
            refine doR rfl (o_alloc Tryd.zeroValue27 rfl rfl) (TOk.x (by kernel_rfl) (TOk.x (by kernel_rfl) TOk.d)) ?_
            refine ea ?_; intro b9
            refine df 14 (by kernel_rfl) ?_
            refine doR rfl (o_st rfl Tryd.sizeOf27 rfl rfl rfl rfl rfl (by repeat (first | exact At.z | apply At.s)) (by repeat (first | exact Put.d | apply Put.t | apply Put.s)) (by repeat (first | exact SetAt.z | apply SetAt.s))) (TOk.x (by kernel_rfl) (TOk.x (by kernel_rfl) TOk.d)) ?_
            refine df 15 (by kernel_rfl) ?_
            refine doR rfl (o_st rfl Tryd.sizeOf27 rfl rfl rfl rfl rfl (by repeat (first | exact At.z | apply At.s)) (by repeat (first | exact Put.d | apply Put.t | apply Put.s)) (by repeat (first | exact SetAt.z | apply SetAt.s))) (TOk.x (by kernel_rfl) (TOk.x (by kernel_rfl) TOk.d)) ?_
            refine tk 16 rfl (by kernel_rfl) (fun _ _ _ h => h) gnone (TTany _) (p_asg rfl) rfl ?_
            refine dn (by kernel_rfl) (nmid (fun a w h => by first | exact ⟨b9, b10, z1, z2, s1, s2, s3, hs, wk (is := [0, 0, 0, 0]) (by repeat (first | exact subσ.nil _ | refine subσ.cons rfl ?_)) rfl (by repeat (first | exact Sub.d | (refine Sub.s ?_ ?_; (repeat (first | exact In.z | apply In.s))) | (refine Sub.suf ?_; (repeat (first | exact Suf.z | apply Suf.s))))) a w h⟩ | exact ⟨b9, b10, z1, z2, s1, s2, s3, hs, wk (is := [1, 0, 0, 0]) (by repeat (first | exact subσ.nil _ | refine subσ.cons rfl ?_)) rfl (by repeat (first | exact Sub.d | (refine Sub.s ?_ ?_; (repeat (first | exact In.z | apply In.s))) | (refine Sub.suf ?_; (repeat (first | exact Suf.z | apply Suf.s))))) a w h⟩))
        ·
          refine doR rfl (o_alloc Tryd.zeroValue27 rfl rfl) (TOk.t (isBoxE fun _ => isBoxS (by repeat (first | exact At.z | apply At.s)) (k := 6) (by repeat (first | exact Cut.d | apply Cut.t | apply Cut.s))) (TOk.t (isBoxE fun _ => isBoxS (by repeat (first | exact At.z | apply At.s)) (k := 6) (by repeat (first | exact Cut.d | apply Cut.t | apply Cut.s))) TOk.d)) ?_
          refine ea ?_; intro b9
          refine dall (is := [7, 13]) (by kernel_rfl) rfl ?_
          intro i hi; simp only [List.mem_cons, List.mem_nil_iff, or_false] at hi; rcases hi with rfl | rfl
          ·
            refine doR rfl (o_call (is := []) Tryd.call11 (c_Swap x2 x3 y2 y3 f2 f3) rfl rfl (by repeat (first | exact Sub.d | (refine Sub.s ?_ ?_; (repeat (first | exact In.z | apply In.s))) | (refine Sub.suf ?_; (repeat (first | exact Suf.z | apply Suf.s))))) rfl) (TOk.x (by kernel_rfl) (TOk.x (by kernel_rfl) TOk.d)) ?_
            refine ea ?_; rintro ⟨⟨⟨s1, s2, s3⟩, z1, z2⟩, hs⟩
            dsimp only at hs
            refine tk 8 rfl (by kernel_rfl) (fun _ _ _ h => h) gnone (TTany _) (p_move rfl) rfl ?_
            refine tk 9 rfl (by kernel_rfl) (fun _ _ _ h => h) gnone (TTany _) (p_ext rfl (by repeat (first | exact At.z | apply At.s))) rfl ?_
            refine tk 10 rfl (by kernel_rfl) (fun _ _ _ h => h) gnone (TTany _) (p_ext rfl (by repeat (first | exact At.z | apply At.s))) rfl ?_
            refine tk 11 rfl (by kernel_rfl) (fun _ _ _ h => h) gnone (TTany _) (p_ext rfl (by repeat (first | exact At.z | apply At.s))) rfl ?_
            refine df 13 (by kernel_rfl) ?_
            refine doR rfl (o_alloc Tryd.zeroValue27 rfl rfl) (TOk.x (by kernel_rfl) (TOk.x (by kernel_rfl) TOk.d)) ?_
            refine ea ?_; intro b10
            refine df 14 (by kernel_rfl) ?_
            refine doR rfl (o_st rfl Tryd.sizeOf27 rfl rfl rfl rfl rfl (by repeat (first | exact At.z | apply At.s)) (by repeat (first | exact Put.d | apply Put.t | apply Put.s)) (by repeat (first | exact SetAt.z | apply SetAt.s))) (TOk.x (by kernel_rfl) (TOk.x (by kernel_rfl) TOk.d)) ?_
            refine df 15 (by kernel_rfl) ?_
            refine doR rfl (o_st rfl Tryd.sizeOf27 rfl rfl rfl rfl rfl (by repeat (first | exact At.z | apply At.s)) (by repeat (first | exact Put.d | apply Put.t | apply Put.s)) (by repeat (first | exact SetAt.z | apply SetAt.s))) (TOk.x (by kernel_rfl) (TOk.x (by kernel_rfl) TOk.d)) ?_
            refine tk 16 rfl (by kernel_rfl) (fun _ _ _ h => h) gnone (TTany _) (p_asg rfl) rfl ?_
            refine dn (by kernel_rfl) (nmid (fun a w h => by first | exact ⟨b9, b10, z1, z2, s1, s2, s3, hs, wk (is := [0, 0, 0, 0]) (by repeat (first | exact subσ.nil _ | refine subσ.cons rfl ?_)) rfl (by repeat (first | exact Sub.d | (refine Sub.s ?_ ?_; (repeat (first | exact In.z | apply In.s))) | (refine Sub.suf ?_; (repeat (first | exact Suf.z | apply Suf.s))))) a w h⟩ | exact ⟨b9, b10, z1, z2, s1, s2, s3, hs, wk (is := [1, 0, 0, 0]) (by repeat (first | exact subσ.nil _ | refine subσ.cons rfl ?_)) rfl (by repeat (first | exact Sub.d | (refine Sub.s ?_ ?_; (repeat (first | exact In.z | apply In.s))) | (refine Sub.suf ?_; (repeat (first | exact Suf.z | apply Suf.s))))) a w h⟩))
          ·
            refine doR rfl (o_alloc Tryd.zeroValue27 rfl rfl) (TOk.t (isBoxE fun _ => isBoxS (by repeat (first | exact At.z | apply At.s)) (k := 6) (by repeat (first | exact Cut.d | apply Cut.t | apply Cut.s))) (TOk.t (isBoxE fun _ => isBoxS (by repeat (first | exact At.z | apply At.s)) (k := 6) (by repeat (first | exact Cut.d | apply Cut.t | apply Cut.s))) TOk.d)) ?_
            refine ea ?_; intro b10
            refine df 7 (by kernel_rfl) ?_
            refine doR rfl (o_call (is := []) Tryd.call11 (c_Swap x2 x3 y2 y3 f2 f3) rfl rfl (by repeat (first | exact Sub.d | (refine Sub.s ?_ ?_; (repeat (first | exact In.z | apply In.s))) | (refine Sub.suf ?_; (repeat (first | exact Suf.z | apply Suf.s))))) rfl) (TOk.x (by kernel_rfl) (TOk.x (by kernel_rfl) TOk.d)) ?_
            refine ea ?_; rintro ⟨⟨⟨s1, s2, s3⟩, z1, z2⟩, hs⟩
            dsimp only at hs
            refine tk 8 rfl (by kernel_rfl) (fun _ _ _ h => h) gnone (TTany _) (p_move rfl) rfl ?_
            refine tk 9 rfl (by kernel_rfl) (fun _ _ _ h => h) gnone (TTany _) (p_ext rfl (by repeat (first | exact At.z | apply At.s))) rfl ?_
            refine tk 10 rfl (by kernel_rfl) (fun _ _ _ h => h) gnone (TTany _) (p_ext rfl (by repeat (first | exact At.z | apply At.s))) rfl ?_
            refine tk 11 rfl (by kernel_rfl) (fun _ _ _ h => h) gnone (TTany _) (p_ext rfl (by repeat (first | exact At.z | apply At.s))) rfl ?_
            refine df 14 (by kernel_rfl) ?_
            refine doR rfl (o_st rfl Tryd.sizeOf27 rfl rfl rfl rfl rfl (by repeat (first | exact At.z | apply At.s)) (by repeat (first | exact Put.d | apply Put.t | apply Put.s)) (by repeat (first | exact SetAt.z | apply SetAt.s))) (TOk.x (by kernel_rfl) (TOk.x (by kernel_rfl) TOk.d)) ?_
            refine df 15 (by kernel_rfl) ?_
            refine doR rfl (o_st rfl Tryd.sizeOf27 rfl rfl rfl rfl rfl (by repeat (first | exact At.z | apply At.s)) (by repeat (first | exact Put.d | apply Put.t | apply Put.s)) (by repeat (first | exact SetAt.z | apply SetAt.s))) (TOk.x (by kernel_rfl) (TOk.x (by kernel_rfl) TOk.d)) ?_
            refine tk 16 rfl (by kernel_rfl) (fun _ _ _ h => h) gnone (TTany _) (p_asg rfl) rfl ?_
            refine dn (by kernel_rfl) (nmid (fun a w h => by first | exact ⟨b9, b10, z1, z2, s1, s2, s3, hs, wk (is := [0, 0, 0, 0]) (by repeat (first | exact subσ.nil _ | refine subσ.cons rfl ?_)) rfl (by repeat (first | exact Sub.d | (refine Sub.s ?_ ?_; (repeat (first | exact In.z | apply In.s))) | (refine Sub.suf ?_; (repeat (first | exact Suf.z | apply Suf.s))))) a w h⟩ | exact ⟨b9, b10, z1, z2, s1, s2, s3, hs, wk (is := [1, 0, 0, 0]) (by repeat (first | exact subσ.nil _ | refine subσ.cons rfl ?_)) rfl (by repeat (first | exact Sub.d | (refine Sub.s ?_ ?_; (repeat (first | exact In.z | apply In.s))) | (refine Sub.suf ?_; (repeat (first | exact Suf.z | apply Suf.s))))) a w h⟩))
        ·
          refine doR rfl (o_alloc Tryd.zeroValue27 rfl rfl) (TOk.t (isBoxE fun _ => isBoxS (by repeat (first | exact At.z | apply At.s)) (k := 6) (by repeat (first | exact Cut.d | apply Cut.t | apply Cut.s))) (TOk.t (isBoxE fun _ => isBoxS (by repeat (first | exact At.z | apply At.s)) (k := 6) (by repeat (first | exact Cut.d | apply Cut.t | apply Cut.s))) TOk.d)) ?_
          refine ea ?_; intro b10
          refine dall (is := [7, 12]) (by kernel_rfl) rfl ?_
          intro i hi; simp only [List.mem_cons, List.mem_nil_iff, or_false] at hi; rcases hi with rfl | rfl
          ·
            refine doR rfl (o_call (is := []) Tryd.call11 (c_Swap x2 x3 y2 y3 f2 f3) rfl rfl (by repeat (first | exact Sub.d | (refine Sub.s ?_ ?_; (repeat (first | exact In.z | apply In.s))) | (refine Sub.suf ?_; (repeat (first | exact Suf.z | apply Suf.s))))) rfl) (TOk.x (by kernel_rfl) (TOk.x (by kernel_rfl) TOk.d)) ?_
            refine ea ?_; rintro ⟨⟨⟨s1, s2, s3⟩, z1, z2⟩, hs⟩
            dsimp only at hs
            refine tk 8 rfl (by kernel_rfl) (fun _ _ _ h => h) gnone (TTany _) (p_move rfl) rfl ?_
            refine tk 9 rfl (by kernel_rfl) (fun _ _ _ h => h) gnone (TTany _) (p_ext rfl (by repeat (first | exact At.z | apply At.s))) rfl ?_
            refine tk 10 rfl (by kernel_rfl) (fun _ _ _ h => h) gnone (TTany _) (p_ext rfl (by repeat (first | exact At.z | apply At.s))) rfl ?_
            refine tk 11 rfl (by kernel_rfl) (fun _ _ _ h => h) gnone (TTany _) (p_ext rfl (by repeat (first | exact At.z | apply At.s))) rfl ?_
            refine df 12 (by kernel_rfl) ?_
            refine doR rfl (o_alloc Tryd.zeroValue27 rfl rfl) (TOk.x (by kernel_rfl) (TOk.x (by kernel_rfl) TOk.d)) ?_
            refine ea ?_; intro b9
            refine df 14 (by kernel_rfl) ?_
            refine doR rfl (o_st rfl Tryd.sizeOf27 rfl rfl rfl rfl rfl (by repeat (first | exact At.z | apply At.s)) (by repeat (first | exact Put.d | apply Put.t | apply Put.s)) (by repeat (first | exact SetAt.z | apply SetAt.s))) (TOk.x (by kernel_rfl) (TOk.x (by kernel_rfl) TOk.d)) ?_
            refine df 15 (by kernel_rfl) ?_
            refine doR rfl (o_st rfl Tryd.sizeOf27 rfl rfl rfl rfl rfl (by repeat (first | exact At.z | apply At.s)) (by repeat (first | exact Put.d | apply Put.t | apply Put.s)) (by repeat (first | exact SetAt.z | apply SetAt.s))) (TOk.x (by kernel_rfl) (TOk.x (by kernel_rfl) TOk.d)) ?_
            refine tk 16 rfl (by kernel_rfl) (fun _ _ _ h => h) gnone (TTany _) (p_asg rfl) rfl ?_
            refine dn (by kernel_rfl) (nmid (fun a w h => by first | exact ⟨b9, b10, z1, z2, s1, s2, s3, hs, wk (is := [0, 0, 0, 0]) (by repeat (first | exact subσ.nil _ | refine subσ.cons rfl ?_)) rfl (by repeat (first | exact Sub.d | (refine Sub.s ?_ ?_; (repeat (first | exact In.z | apply In.s))) | (refine Sub.suf ?_; (repeat (first | exact Suf.z | apply Suf.s))))) a w h⟩ | exact ⟨b9, b10, z1, z2, s1, s2, s3, hs, wk (is := [1, 0, 0, 0]) (by repeat (first | exact subσ.nil _ | refine subσ.cons rfl ?_)) rfl (by repeat (first | exact Sub.d | (refine Sub.s ?_ ?_; (repeat (first | exact In.z | apply In.s))) | (refine Sub.suf ?_; (repeat (first | exact Suf.z | apply Suf.s))))) a w h⟩))
          ·
            refine doR rfl (o_alloc Tryd.zeroValue27 rfl rfl) (TOk.t (isBoxE fun _ => isBoxS (by repeat (first | exact At.z | apply At.s)) (k := 6) (by repeat (first | exact Cut.d | apply Cut.t | apply Cut.s))) (TOk.t (isBoxE fun _ => isBoxS (by repeat (first | exact At.z | apply At.s)) (k := 6) (by repeat (first | exact Cut.d | apply Cut.t | apply Cut.s))) TOk.d)) ?_
            refine ea ?_; intro b9
            refine df 7 (by kernel_rfl) ?_
            refine doR rfl (o_call (is := []) Tryd.call11 (c_Swap x2 x3 y2 y3 f2 f3) rfl rfl (by repeat (first | exact Sub.d | (refine Sub.s ?_ ?_; (repeat (first | exact In.z | apply In.s))) | (refine Sub.suf ?_; (repeat (first | exact Suf.z | apply Suf.s))))) rfl) (TOk.x (by kernel_rfl) (TOk.x (by kernel_rfl) TOk.d)) ?_
            refine ea ?_; rintro ⟨⟨⟨s1, s2, s3⟩, z1, z2⟩, hs⟩
            dsimp only at hs
            refine tk 8 rfl (by kernel_rfl) (fun _ _ _ h => h) gnone (TTany _) (p_move rfl) rfl ?_
            refine tk 9 rfl (by kernel_rfl) (fun _ _ _ h => h) gnone (TTany _) (p_ext rfl (by repeat (first | exact At.z | apply At.s))) rfl ?_
            refine tk 10 rfl (by kernel_rfl) (fun _ _ _ h => h) gnone (TTany _) (p_ext rfl (by repeat (first | exact At.z | apply At.s))) rfl ?_
            refine tk 11 rfl (by kernel_rfl) (fun _ _ _ h => h) gnone (TTany _) (p_ext rfl (by repeat (first | exact At.z | apply At.s))) rfl ?_
            refine df 14 (by kernel_rfl) ?_
            refine doR rfl (o_st rfl Tryd.sizeOf27 rfl rfl rfl rfl rfl (by repeat (first | exact At.z | apply At.s)) (by repeat (first | exact Put.d | apply Put.t | apply Put.s)) (by repeat (first | exact SetAt.z | apply SetAt.s))) (TOk.x (by kernel_rfl) (TOk.x (by kernel_rfl) TOk.d)) ?_
            refine df 15 (by kernel_rfl) ?_
            refine doR rfl (o_st rfl Tryd.sizeOf27 rfl rfl rfl rfl rfl (by repeat (first | exact At.z | apply At.s)) (by repeat (first | exact Put.d | apply Put.t | apply Put.s)) (by repeat (first | exact SetAt.z | apply SetAt.s))) (TOk.x (by kernel_rfl) (TOk.x (by kernel_rfl) TOk.d)) ?_
            refine tk 16 rfl (by kernel_rfl) (fun _ _ _ h => h) gnone (TTany _) (p_asg rfl) rfl ?_
            refine dn (by kernel_rfl) (nmid (fun a w h => by first | exact ⟨b9, b10, z1, z2, s1, s2, s3, hs, wk (is := [0, 0, 0, 0]) (by repeat (first | exact subσ.nil _ | refine subσ.cons rfl ?_)) rfl (by repeat (first | exact Sub.d | (refine Sub.s ?_ ?_; (repeat (first | exact In.z | apply In.s))) | (refine Sub.suf ?_; (repeat (first | exact Suf.z | apply Suf.s))))) a w h⟩ | exact ⟨b9, b10, z1, z2, s1, s2, s3, hs, wk (is := [1, 0, 0, 0]) (by repeat (first | exact subσ.nil _ | refine subσ.cons rfl ?_)) rfl (by repeat (first | exact Sub.d | (refine Sub.s ?_ ?_; (repeat (first | exact In.z | apply In.s))) | (refine Sub.suf ?_; (repeat (first | exact Suf.z | apply Suf.s))))) a w h⟩))
      ·
        refine nex fun b9 => nex fun b10 => nex fun z1 => nex fun z2 => nex fun s1 => nex fun s2 => nex fun s3 => nex fun hs => ?_
        refine nthen ?_
        refine cs ?_
        refine cs ?_
        refine cr ?_
        refine ls (op (p_move rfl) rfl) ?_
        refine ls (op (p_not rfl) rfl) ?_
        refine ln ?_
        refine nthen ?_
        refine cc rfl ?_ ?_
        · intro h32
          have h32' : s3 = false := by simpa using h32
          subst h32'
          refine cs ?_
          refine cmono (fun a w h => nilSl (α := ByteArray) h) ?_
          refine cr ?_
          refine ls (o_ldw Tryd.isAgg35 Tryd.sizeOf35 rfl (by repeat (first | exact At.z | apply At.s)) (by rfl) rfl) ?_
          refine ls (o_st rfl Tryd.sizeOf35 rfl rfl rfl rfl rfl (by repeat (first | exact At.z | apply At.s)) (by repeat (first | exact Put.d | apply Put.t | apply Put.s)) (by repeat (first | exact SetAt.z | apply SetAt.s))) ?_
          refine ls (op (p_asg rfl) rfl) ?_
          refine ln ?_
          refine nthen ?_
          refine cret ?_
          refine xret (fun _ _ h => h) ?_
          refine rret (is := []) ⟨(((Prim.zero, Prim.zero, Prim.zero), false), (((none, 0), (none, 0)), ((none, 0), (none, 0)), ((none, 0), (none, 0)))), fail_1 (by decide) (by decide) hrun hs, (fun e => by cases e)⟩ (Or.inl rfl) (Res.c rfl Tryd.isAgg35 Tryd.sizeOf35 (by repeat (first | exact At.z | apply At.s)) (by rfl) (Res.t rfl Res.d)) (rfl) rfl (by repeat (first | exact Sub.d | (refine Sub.s ?_ ?_; (repeat (first | exact In.z | apply In.s))) | (refine Sub.suf ?_; (repeat (first | exact Suf.z | apply Suf.s)))))
        · intro h32
          obtain rfl : true = s3 := by cases s3 <;> first | rfl | (simp at h32)
          refine cskip ?_
          refine nthen ?_
          refine cd [6, 8] [(3, b9, 0, _), (4, b10, 0, _)] TrydX.mixed (TOk.t (isBoxS (by repeat (first | exact At.z | apply At.s)) (k := 6) (by repeat (first | exact Cut.d | apply Cut.t | apply Cut.s))) (TOk.t (isBoxS (by repeat (first | exact At.z | apply At.s)) (k := 6) (by repeat (first | exact Cut.d | apply Cut.t | apply Cut.s))) TOk.d)) ?_
          refine tk 0 rfl (by kernel_rfl) (fun _ _ _ h => h) gnone (TTany _) (p_move rfl) rfl ?_
          refine tk 1 rfl (by kernel_rfl) (fun _ _ _ h => h) gnone (TTany _) (p_move rfl) rfl ?_
          refine tk 2 rfl (by kernel_rfl) (fun _ _ _ h => h) gnone (TTany _) (p_add rfl rfl (by omega)) rfl ?_
          refine tk 3 rfl (by kernel_rfl) (fun _ _ _ h => h) gnone (TTat (List.Mem.head _)) (p_lda Tryd.isAgg27 Tryd.sizeOf27 rfl rfl) rfl ?_
          refine tk 4 rfl (by kernel_rfl) (fun _ _ _ h => h) gnone (TTat (List.Mem.tail _ (List.Mem.head _))) (p_lda Tryd.isAgg27 Tryd.sizeOf27 rfl rfl) rfl ?_
          refine tk 5 rfl (by kernel_rfl) (fun _ _ _ h => h) gnone (TTany _) (p_iav 1 (by decide) rfl Tryd.underlying35 Tryd.sizeOf27 rfl rfl) rfl ?_
          refine df 6 (by kernel_rfl) ?_
          refine doR rfl (o_st rfl Tryd.sizeOf27 rfl rfl rfl rfl rfl (by repeat (first | exact At.z | apply At.s)) (by repeat (first | exact Put.d | apply Put.t | apply Put.s)) (by repeat (first | exact SetAt.z | apply SetAt.s))) (TOk.x (by kernel_rfl) (TOk.t (isBoxS (by repeat (first | exact At.z | apply At.s)) (k := 6) (by repeat (first | exact Cut.d | apply Cut.t | apply Cut.s))) TOk.d)) ?_
          refine tk 7 rfl (by kernel_rfl) (fun _ _ _ h => h) gnone (TTany _) (p_iav 2 (by decide) rfl Tryd.underlying35 Tryd.sizeOf27 rfl rfl) rfl ?_
          refine df 8 (by kernel_rfl) ?_
          refine doR rfl (o_st rfl Tryd.sizeOf27 rfl rfl rfl rfl rfl (by repeat (first | exact At.z | apply At.s)) (by repeat (first | exact Put.d | apply Put.t | apply Put.s)) (by repeat (first | exact SetAt.z | apply SetAt.s))) (TOk.x (by kernel_rfl) (TOk.x (by kernel_rfl) TOk.d)) ?_
          refine dn (by kernel_rfl) ?_
          refine nblock ?_
          refine nthen ?_
          refine cr ?_
          refine ls (op (p_add rfl rfl (by omega)) rfl) ?_
          refine ls (op (p_move rfl) rfl) ?_
          refine ln ?_
          refine nnext ⟨(2, (x1, s1, s2), (y1, z1, z2)), (by dsimp only; omega), step_1 (by decide) hrun hs, f1, (swap_fit2 hs f2 f3).1, (swap_fit2 hs f2 f3).2⟩ (by dsimp only; omega) (wk (is := [2, 2]) (by repeat (first | exact subσ.nil _ | refine subσ.cons rfl ?_)) rfl (by repeat (first | exact Sub.d | (refine Sub.s ?_ ?_; (repeat (first | exact In.z | apply In.s))) | (refine Sub.suf ?_; (repeat (first | exact Suf.z | apply Suf.s))))))
    ·
      refine cr ?_
      refine ls (op (p_idxa 2 (by decide) rfl Tryd.underlying46 Tryd.sizeOf3 Tryd.isAgg3 rfl rfl (by repeat (first | exact At.z | apply At.s))) rfl) ?_
      refine ls (op (p_asg rfl) rfl) ?_
      refine ln ?_
      refine nthen ?_
      refine cs ?_
      refine cutC (S' := fun a w => ∃ (b9 : Nat) (b10 : Nat) (z1 : Rp.Lay Prim) (z2 : Rp.Lay Prim) (s1 : Prim) (s2 : Prim) (s3 : Bool) (hs : (s1, s2, s3) = swap x1 x2), St M0 F0 w0 43 [(2, .pointer (some ⟨b2, 0, none⟩)), (4, .pointer (some ⟨b4, 0, none⟩)), (5, .bool false), (8, .int .i64 0), (9, .pointer (some ⟨b9, 0, none⟩)), (10, .pointer (some ⟨b10, 0, none⟩)), (11, .bool s3), (15, .agg #[.int .i64 0, .int .i64 1, .int .i64 0]), (16, .int .i64 ((2 : Nat) : Int))] [box b9 27 (Rp.enc s1 z1), box b10 27 (Rp.enc s2 z2), box b2 35 (E3 x1 x2 x3 y1 y2 y3), box b4 35 (E3 Prim.zero Prim.zero Prim.zero ((none, 0), (none, 0)) ((none, 0), (none, 0)) ((none, 0), (none, 0)))] (Rp.asn s1 z1 ++ (Rp.asn s2 z2 ++ (Rp.asn x1 y1 ++ (Rp.asn x2 y2 ++ Rp.asn x3 y3)))) a w) ?_ ?_
      ·
        refine cd [7, 12, 13, 14, 15] [(2, b2, 0 + 0 * 6, _), (6, b2, 0 + 1 * 6, _)] TrydX.mixed (TOk.t (isBoxS (by repeat (first | exact At.z | apply At.s)) (k := 6) (by repeat (first | exact Cut.d | apply Cut.t | apply Cut.s))) (TOk.t (isBoxS (by repeat (first | exact At.z | apply At.s)) (k := 6) (by repeat (first | exact Cut.d | apply Cut.t | apply Cut.s))) TOk.d)) ?_
        refine tk 0 rfl (by kernel_rfl) (fun _ _ _ h => h) gnone (TTany _) (p_move rfl) rfl ?_
        refine tk 1 rfl (by kernel_rfl) (fun _ _ _ h => h) gnone (TTany _) (p_iav 0 (by decide) rfl Tryd.underlying35 Tryd.sizeOf27 rfl rfl) rfl ?_
        refine tk 2 rfl (by kernel_rfl) (fun _ _ _ h => h) gnone (TTat (List.Mem.head _)) (p_lda Tryd.isAgg27 Tryd.sizeOf27 rfl rfl) rfl ?_
        refine tk 3 rfl (by kernel_rfl) (fun _ _ _ h => h) gnone (TTany _) (p_move rfl) rfl ?_
        refine tk 4 rfl (by kernel_rfl) (fun _ _ _ h => h) gnone (TTany _) (p_add rfl rfl (by omega)) rfl ?_
        refine tk 5 rfl (by kernel_rfl) (fun _ _ _ h => h) gnone (TTany _) (p_iav 1 (by decide) rfl Tryd.underlying35 Tryd.sizeOf27 rfl rfl) rfl ?_
        refine tk 6 rfl (by kernel_rfl) (fun _ _ _ h => h) gnone (TTat (List.Mem.tail _ (List.Mem.head _))) (p_lda Tryd.isAgg27 Tryd.sizeOf27 rfl rfl) rfl ?_
        refine dall (is := [7, 12, 13]) (by kernel_rfl) rfl ?_
        intro i hi; simp only [List.mem_cons, List.mem_nil_iff, or_false] at hi; rcases hi with rfl | rfl | rfl
        ·
          refine doR rfl (o_call (is := []) Tryd.call11 (c_Swap x1 x2 y1 y2 f1 f2) rfl rfl (by repeat (first | exact Sub.d | (refine Sub.s ?_ ?_; (repeat (first | exact In.z | apply In.s))) | (refine Sub.suf ?_; (repeat (first | exact Suf.z | apply Suf.s))))) rfl) (TOk.x (by kernel_rfl) (TOk.x (by kernel_rfl) TOk.d)) ?_
          refine ea ?_; rintro ⟨⟨⟨s1, s2, s3⟩, z1, z2⟩, hs⟩
          dsimp only at hs
          refine tk 8 rfl (by kernel_rfl) (fun _ _ _ h => h) gnone (TTany _) (p_move rfl) rfl ?_
          refine tk 9 rfl (by kernel_rfl) (fun _ _ _ h => h) gnone (TTany _) (p_ext rfl (by repeat (first | exact At.z | apply At.s))) rfl ?_
          refine tk 10 rfl (by kernel_rfl) (fun _ _ _ h => h) gnone (TTany _) (p_ext rfl (by repeat (first | exact At.z | apply At.s))) rfl ?_
          refine tk 11 rfl (by kernel_rfl) (fun _ _ _ h => h) gnone (TTany _) (p_ext rfl (by repeat (first | exact At.z | apply At.s))) rfl ?_
          refine dall (is := [12, 13]) (by kernel_rfl) rfl ?_
          intro i hi; simp only [List.mem_cons, List.mem_nil_iff, or_false] at hi; rcases hi with rfl | rfl
          ·
            refine doR rfl (o_alloc Tryd.zeroValue27 rfl rfl) (TOk.x (by kernel_rfl) (TOk.x (by kernel_rfl) TOk.d)) ?_
            refine ea ?_; intro b9
            refine df 13 (by kernel_rfl) ?_
            refine doR rfl (o_alloc Tryd.zeroValue27 rfl rfl) (TOk.x (by kernel_rfl) (TOk.x (by kernel_rfl) TOk.d)) ?_
            refine ea ?_; intro b10
            refine df 14 (by kernel_rfl) ?_
            refine doR rfl (o_st rfl Tryd.sizeOf27 rfl rfl rfl rfl rfl (by repeat (first | exact At.z | apply At.s)) (by repeat (first | exact Put.d | apply Put.t | apply Put.s)) (by repeat (first | exact SetAt.z | apply SetAt.s))) (TOk.x (by kernel_rfl) (TOk.x (by kernel_rfl) TOk.d)) ?_
            refine df 15 (by kernel_rfl) ?_
            refine doR rfl (o_st rfl Tryd.sizeOf27 rfl rfl rfl rfl rfl (by repeat (first | exact At.z | apply At.s)) (by repeat (first | exact Put.d | apply Put.t | apply Put.s)) (by repeat (first | exact SetAt.z | apply SetAt.s))) (TOk.x (by kernel_rfl) (TOk.x (by kernel_rfl) TOk.d)) ?_
            refine tk 16 rfl (by kernel_rfl) (fun _ _ _ h => h) gnone (TTany _) (p_asg rfl) rfl ?_
            refine dn (by kernel_rfl) (nmid (fun a w h => by first | exact ⟨b9, b10, z1, z2, s1, s2, s3, hs, wk (is := [0, 0, 0, 0]) (by repeat (first | exact subσ.nil _ | refine subσ.cons rfl ?_)) rfl (by repeat (first | exact Sub.d | (refine Sub.s ?_ ?_; (repeat (first | exact In.z | apply In.s))) | (refine Sub.suf ?_; (repeat (first | exact Suf.z | apply Suf.s))))) a w h⟩ | exact ⟨b9, b10, z1, z2, s1, s2, s3, hs, wk (is := [1, 0, 0, 0]) (by repeat (first | exact subσ.nil _ | refine subσ.cons rfl ?_)) rfl (by repeat (first | exact Sub.d | (refine Sub.s ?_ ?_; (repeat (first | exact In.z | apply In.s))) | (refine Sub.suf ?_; (repeat (first | exact Suf.z | apply Suf.s))))) a w h⟩))
          ·
            refine doR rfl (o_alloc Tryd.zeroValue27 rfl rfl) (TOk.x (by kernel_rfl) (TOk.x (by kernel_rfl) TOk.d)) ?_
            refine ea ?_; intro b10
            refine df 12 (by kernel_rfl) ?_
            refine doR rfl (o_alloc Tryd.zeroValue27 rfl rfl) (TOk.x (by kernel_rfl) (TOk.x (by kernel_rfl) TOk.d)) ?_
            refine ea ?_; intro b9
            refine df 14 (by kernel_rfl) ?_
            refine doR rfl (o_st rfl Tryd.sizeOf27 rfl rfl rfl rfl rfl (by repeat (first | exact At.z | apply At.s)) (by repeat (first | exact Put.d | apply Put.t | apply Put.s)) (by repeat (first | exact SetAt.z | apply SetAt.s))) (TOk.x (by kernel_rfl) (TOk.x (by kernel_rfl) TOk.d)) ?_
            refine df 15 (by kernel_rfl) ?_
            refine doR rfl (o_st rfl Tryd.sizeOf27 rfl rfl rfl rfl rfl (by repeat (first | exact At.z | apply At.s)) (by repeat (first | exact Put.d | apply Put.t | apply Put.s)) (by repeat (first | exact SetAt.z | apply SetAt.s))) (TOk.x (by kernel_rfl) (TOk.x (by kernel_rfl) TOk.d)) ?_
            refine tk 16 rfl (by kernel_rfl) (fun _ _ _ h => h) gnone (TTany _) (p_asg rfl) rfl ?_
            refine dn (by kernel_rfl) (nmid (fun a w h => by first | exact ⟨b9, b10, z1, z2, s1, s2, s3, hs, wk (is := [0, 0, 0, 0]) (by repeat (first | exact subσ.nil _ | refine subσ.cons rfl ?_)) rfl (by repeat (first | exact Sub.d | (refine Sub.s ?_ ?_; (repeat (first | exact In.z | apply In.s))) | (refine Sub.suf ?_; (repeat (first | exact Suf.z | apply Suf.s))))) a w h⟩ | exact ⟨b9, b10, z1, z2, s1, s2, s3, hs, wk (is := [1, 0, 0, 0]) (by repeat (first | exact subσ.nil _ | refine subσ.cons rfl ?_)) rfl (by repeat (first | exact Sub.d | (refine Sub.s ?_ ?_; (repeat (first | exact In.z | apply In.s))) | (refine Sub.suf ?_; (repeat (first | exact Suf.z | apply Suf.s))))) a w h⟩))
        ·
          refine doR rfl (o_alloc Tryd.zeroValue27 rfl rfl) (TOk.t (isBoxE fun _ => isBoxS (by repeat (first | exact At.z | apply At.s)) (k := 6) (by repeat (first | exact Cut.d | apply Cut.t | apply Cut.s))) (TOk.t (isBoxE fun _ => isBoxS (by repeat (first | exact At.z | apply At.s)) (k := 6) (by repeat (first | exact Cut.d | apply Cut.t | apply Cut.s))) TOk.d)) ?_
          refine ea ?_; intro b9
          refine dall (is := [7, 13]) (by kernel_rfl) rfl ?_
          intro i hi; simp only [List.mem_cons, List.mem_nil_iff, or_false] at hi; rcases hi with rfl | rfl
          ·
            refine doR rfl (o_call (is := []) Tryd.call11 (c_Swap x1 x2 y1 y2 f1 f2) rfl rfl (by repeat (first | exact Sub.d | (refine Sub.s ?_ ?_; (repeat (first | exact In.z | apply In.s))) | (refine Sub.suf ?_; (repeat (first | exact Suf.z | apply Suf.s))))) rfl) (TOk.x (by kernel_rfl) (TOk.x (by kernel_rfl) TOk.d)) ?_
            refine ea ?_; rintro ⟨⟨⟨s1, s2, s3⟩, z1, z2⟩, hs⟩
            dsimp only at hs
            refine tk 8 rfl (by kernel_rfl) (fun _ _ _ h => h) gnone (TTany _) (p_move rfl) rfl ?_
            refine tk 9 rfl (by kernel_rfl) (fun _ _ _ h => h) gnone (TTany _) (p_ext rfl (by repeat (first | exact At.z | apply At.s))) rfl ?_
            refine tk 10 rfl (by kernel_rfl) (fun _ _ _ h => h) gnone (TTany _) (p_ext rfl (by repeat (first | exact At.z | apply At.s))) rfl ?_
            refine tk 11 rfl (by kernel_rfl) (fun _ _ _ h => h) gnone (TTany _) (p_ext rfl (by repeat (first | exact At.z | apply At.s))) rfl ?_
            refine df 13 (by kernel_rfl) ?_
            refine doR rfl (o_alloc Tryd.zeroValue27 rfl rfl) (TOk.x (by kernel_rfl) (TOk.x (by kernel_rfl) TOk.d)) ?_
            refine ea ?_; intro b10
            refine df 14 (by kernel_rfl) ?_
            refine doR rfl (o_st rfl Tryd.sizeOf27 rfl rfl rfl rfl rfl (by repeat (first | exact At.z | apply At.s)) (by repeat (first | exact Put.d | apply Put.t | apply Put.s)) (by repeat (first | exact SetAt.z | apply SetAt.s))) (TOk.x (by kernel_rfl) (TOk.x (by kernel_rfl) TOk.d)) ?_
            refine df 15 (by kernel_rfl) ?_
            refine doR rfl (o_st rfl Tryd.sizeOf27 rfl rfl rfl rfl rfl (by repeat (first | exact At.z | apply At.s)) (by repeat (first | exact Put.d | apply Put.t | apply Put.s)) (by repeat (first | exact SetAt.z | apply SetAt.s))) (TOk.x (by kernel_rfl) (TOk.x (by kernel_rfl) TOk.d)) ?_
            refine tk 16 rfl (by kernel_rfl) (fun _ _ _ h => h) gnone (TTany _) (p_asg rfl) rfl ?_
            refine dn (by kernel_rfl) (nmid (fun a w h => by first | exact ⟨b9, b10, z1, z2, s1, s2, s3, hs, wk (is := [0, 0, 0, 0]) (by repeat (first | exact subσ.nil _ | refine subσ.cons rfl ?_)) rfl (by repeat (first | exact Sub.d | (refine Sub.s ?_ ?_; (repeat (first | exact In.z | apply In.s))) | (refine Sub.suf ?_; (repeat (first | exact Suf.z | apply Suf.s))))) a w h⟩ | exact ⟨b9, b10, z1, z2, s1, s2, s3, hs, wk (is := [1, 0, 0, 0]) (by repeat (first | exact subσ.nil _ | refine subσ.cons rfl ?_)) rfl (by repeat (first | exact Sub.d | (refine Sub.s ?_ ?_; (repeat (first | exact In.z | apply In.s))) | (refine Sub.suf ?_; (repeat (first | exact Suf.z | apply Suf.s))))) a w h⟩))
          ·
            refine doR rfl (o_alloc Tryd.zeroValue27 rfl rfl) (TOk.t (isBoxE fun _ => isBoxS (by repeat (first | exact At.z | apply At.s)) (k := 6) (by repeat (first | exact Cut.d | apply Cut.t | apply Cut.s))) (TOk.t (isBoxE fun _ => isBoxS (by repeat (first | exact At.z | apply At.s)) (k := 6) (by repeat (first | exact Cut.d | apply Cut.t | apply Cut.s))) TOk.d)) ?_
            refine ea ?_; intro b10
            refine df 7 (by kernel_rfl) ?_
            refine doR rfl (o_call (is := []) Tryd.call11 (c_Swap x1 x2 y1 y2 f1 f2) rfl rfl (by repeat (first | exact Sub.d | (refine Sub.s ?_ ?_; (repeat (first | exact In.z | apply In.s))) | (refine Sub.suf ?_; (repeat (first | exact Suf.z | apply Suf.s))))) rfl) (TOk.x (by kernel_rfl) (TOk.x (by kernel_rfl) TOk.d)) ?_
            refine ea ?_; rintro ⟨⟨⟨s1, s2, s3⟩, z1, z2⟩, hs⟩
            dsimp only at hs
            refine tk 8 rfl (by kernel_rfl) (fun _ _ _ h => h) gnone (TTany _) (p_move rfl) rfl ?_
            refine tk 9 rfl (by kernel_rfl) (fun _ _ _ h => h) gnone (TTany _) (p_ext rfl (by repeat (first | exact At.z | apply At.s))) rfl ?_
            refine tk 10 rfl (by kernel_rfl) (fun _ _ _ h => h) gnone (TTany _) (p_ext rfl (by repeat (first | exact At.z | apply At.s))) rfl ?_
            refine tk 11 rfl (by kernel_rfl) (fun _ _ _ h => h) gnone (TTany _) (p_ext rfl (by repeat (first | exact At.z | apply At.s))) rfl ?_
            refine df 14 (by kernel_rfl) ?_
            refine doR rfl (o_st rfl Tryd.sizeOf27 rfl rfl rfl rfl rfl (by repeat (first | exact At.z | apply At.s)) (by repeat (first | exact Put.d | apply Put.t | apply Put.s)) (by repeat (first | exact SetAt.z | apply SetAt.s))) (TOk.x (by kernel_rfl) (TOk.x (by kernel_rfl) TOk.d)) ?_
            refine df 15 (by kernel_rfl) ?_
            refine doR rfl (o_st rfl Tryd.sizeOf27 rfl rfl rfl rfl rfl (by repeat (first | exact At.z | apply At.s)) (by repeat (first | exact Put.d | apply Put.t | apply Put.s)) (by repeat (first | exact SetAt.z | apply SetAt.s))) (TOk.x (by kernel_rfl) (TOk.x (by kernel_rfl) TOk.d)) ?_
            refine tk 16 rfl (by kernel_rfl) (fun _ _ _ h => h) gnone (TTany _) (p_asg rfl) rfl ?_
            refine dn (by kernel_rfl) (nmid (fun a w h => by first | exact ⟨b9, b10, z1, z2, s1, s2, s3, hs, wk (is := [0, 0, 0, 0]) (by repeat (first | exact subσ.nil _ | refine subσ.cons rfl ?_)) rfl (by repeat (first | exact Sub.d | (refine Sub.s ?_ ?_; (repeat (first | exact In.z | apply In.s))) | (refine Sub.suf ?_; (repeat (first | exact Suf.z | apply Suf.s))))) a w h⟩ | exact ⟨b9, b10, z1, z2, s1, s2, s3, hs, wk (is := [1, 0, 0, 0]) (by repeat (first | exact subσ.nil _ | refine subσ.cons rfl ?_)) rfl (by repeat (first | exact Sub.d | (refine Sub.s ?_ ?_; (repeat (first | exact In.z | apply In.s))) | (refine Sub.suf ?_; (repeat (first | exact Suf.z | apply Suf.s))))) a w h⟩))
        ·
          refine doR rfl (o_alloc Tryd.zeroValue27 rfl rfl) (TOk.t (isBoxE fun _ => isBoxS (by repeat (first | exact At.z | apply At.s)) (k := 6) (by repeat (first | exact Cut.d | apply Cut.t | apply Cut.s))) (TOk.t (isBoxE fun _ => isBoxS (by repeat (first | exact At.z | apply At.s)) (k := 6) (by repeat (first | exact Cut.d | apply Cut.t | apply Cut.s))) TOk.d)) ?_
          refine ea ?_; intro b10
          refine dall (is := [7, 12]) (by kernel_rfl) rfl ?_
          intro i hi; simp only [List.mem_cons, List.mem_nil_iff, or_false] at hi; rcases hi with rfl | rfl
          ·
            refine doR rfl (o_call (is := []) Tryd.call11 (c_Swap x1 x2 y1 y2 f1 f2) rfl rfl (by repeat (first | exact Sub.d | (refine Sub.s ?_ ?_; (repeat (first | exact In.z | apply In.s))) | (refine Sub.suf ?_; (repeat (first | exact Suf.z | apply Suf.s))))) rfl) (TOk.x (by kernel_rfl) (TOk.x (by kernel_rfl) TOk.d)) ?_
            refine ea ?_; rintro ⟨⟨⟨s1, s2, s3⟩, z1, z2⟩, hs⟩
            dsimp only at hs
            refine tk 8 rfl (by kernel_rfl) (fun _ _ _ h => h) gnone (TTany _) (p_move rfl) rfl ?_
            refine tk 9 rfl (by kernel_rfl) (fun _ _ _ h => h) gnone (TTany _) (p_ext rfl (by repeat (first | exact At.z | apply At.s))) rfl ?_
            refine tk 10 rfl (by kernel_rfl) (fun _ _ _ h => h) gnone (TTany _) (p_ext rfl (by repeat (first | exact At.z | apply At.s))) rfl ?_
            refine tk 11 rfl (by kernel_rfl) (fun _ _ _ h => h) gnone (TTany _) (p_ext rfl (by repeat (first | exact At.z | apply At.s))) rfl ?_
            refine df 12 (by kernel_rfl) ?_
            refine doR rfl (o_alloc Tryd.zeroValue27 rfl rfl) (TOk.x (by kernel_rfl) (TOk.x (by kernel_rfl) TOk.d)) ?_
            refine ea ?_; intro b9
            refine df 14 (by kernel_rfl) ?_
            refine doR rfl (o_st rfl Tryd.sizeOf27 rfl rfl rfl rfl rfl (by repeat (first | exact At.z | apply At.s)) (by repeat (first | exact Put.d | apply Put.t | apply Put.s)) (by repeat (first | exact SetAt.z | apply SetAt.s))) (TOk.x (by kernel_rfl) (TOk.x (by kernel_rfl) TOk.d)) ?_
            refine df 15 (by kernel_rfl) ?_
            refine doR rfl (o_st rfl Tryd.sizeOf27 rfl rfl rfl rfl rfl (by repeat (first | exact At.z | apply At.s)) (by repeat (first | exact Put.d | apply Put.t | apply Put.s)) (by repeat (first | exact SetAt.z | apply SetAt.s))) (TOk.x (by kernel_rfl) (TOk.x (by kernel_rfl) TOk.d)) ?_
            refine tk 16 rfl (by kernel_rfl) (fun _ _ _ h => h) gnone (TTany _) (p_asg rfl) rfl ?_
            refine dn (by kernel_rfl) (nmid (fun a w h => by first | exact ⟨b9, b10, z1, z2, s1, s2, s3, hs, wk (is := [0, 0, 0, 0]) (by repeat (first | exact subσ.nil _ | refine subσ.cons rfl ?_)) rfl (by repeat (first | exact Sub.d | (refine Sub.s ?_ ?_; (repeat (first | exact In.z | apply In.s))) | (refine Sub.suf ?_; (repeat (first | exact Suf.z | apply Suf.s))))) a w h⟩ | exact ⟨b9, b10, z1, z2, s1, s2, s3, hs, wk (is := [1, 0, 0, 0]) (by repeat (first | exact subσ.nil _ | refine subσ.cons rfl ?_)) rfl (by repeat (first | exact Sub.d | (refine Sub.s ?_ ?_; (repeat (first | exact In.z | apply In.s))) | (refine Sub.suf ?_; (repeat (first | exact Suf.z | apply Suf.s))))) a w h⟩))
          ·
            refine doR rfl (o_alloc Tryd.zeroValue27 rfl rfl) (TOk.t (isBoxE fun _ => isBoxS (by repeat (first | exact At.z | apply At.s)) (k := 6) (by repeat (first | exact Cut.d | apply Cut.t | apply Cut.s))) (TOk.t (isBoxE fun _ => isBoxS (by repeat (first | exact At.z | apply At.s)) (k := 6) (by repeat (first | exact Cut.d | apply Cut.t | apply Cut.s))) TOk.d)) ?_
            refine ea ?_; intro b9
            refine df 7 (by kernel_rfl) ?_
            refine doR rfl (o_call (is := []) Tryd.call11 (c_Swap x1 x2 y1 y2 f1 f2) rfl rfl (by repeat (first | exact Sub.d | (refine Sub.s ?_ ?_; (repeat (first | exact In.z | apply In.s))) | (refine Sub.suf ?_; (repeat (first | exact Suf.z | apply Suf.s))))) rfl) (TOk.x (by kernel_rfl) (TOk.x (by kernel_rfl) TOk.d)) ?_
            refine ea ?_; rintro ⟨⟨⟨s1, s2, s3⟩, z1, z2⟩, hs⟩
            dsimp only at hs
            refine tk 8 rfl (by kernel_rfl) (fun _ _ _ h => h) gnone (TTany _) (p_move rfl) rfl ?_
            refine tk 9 rfl (by kernel_rfl) (fun _ _ _ h => h) gnone (TTany _) (p_ext rfl (by repeat (first | exact At.z | apply At.s))) rfl ?_
            refine tk 10 rfl (by kernel_rfl) (fun _ _ _ h => h) gnone (TTany _) (p_ext rfl (by repeat (first | exact At.z | apply At.s))) rfl ?_
            refine tk 11 rfl (by kernel_rfl) (fun _ _ _ h => h) gnone (TTany _) (p_ext rfl (by repeat (first | exact At.z | apply At.s))) rfl ?_
            refine df 14 (by kernel_rfl) ?_
            refine doR rfl (o_st rfl Tryd.sizeOf27 rfl rfl rfl rfl rfl (by repeat (first | exact At.z | apply At.s)) (by repeat (first | exact Put.d | apply Put.t | apply Put.s)) (by repeat (first | exact SetAt.z | apply SetAt.s))) (TOk.x (by kernel_rfl) (TOk.x (by kernel_rfl) TOk.d)) ?_
            refine df 15 (by kernel_rfl) ?_
            refine doR rfl (o_st rfl Tryd.sizeOf27 rfl rfl rfl rfl rfl (by repeat (first | exact At.z | apply At.s)) (by repeat (first | exact Put.d | apply Put.t | apply Put.s)) (by repeat (first | exact SetAt.z | apply SetAt.s))) (TOk.x (by kernel_rfl) (TOk.x (by kernel_rfl) TOk.d)) ?_
            refine tk 16 rfl (by kernel_rfl) (fun _ _ _ h => h) gnone (TTany _) (p_asg rfl) rfl ?_
            refine dn (by kernel_rfl) (nmid (fun a w h => by first | exact ⟨b9, b10, z1, z2, s1, s2, s3, hs, wk (is := [0, 0, 0, 0]) (by repeat (first | exact subσ.nil _ | refine subσ.cons rfl ?_)) rfl (by repeat (first | exact Sub.d | (refine Sub.s ?_ ?_; (repeat (first | exact In.z | apply In.s))) | (refine Sub.suf ?_; (repeat (first | exact Suf.z | apply Suf.s))))) a w h⟩ | exact ⟨b9, b10, z1, z2, s1, s2, s3, hs, wk (is := [1, 0, 0, 0]) (by repeat (first | exact subσ.nil _ | refine subσ.cons rfl ?_)) rfl (by repeat (first | exact Sub.d | (refine Sub.s ?_ ?_; (repeat (first | exact In.z | apply In.s))) | (refine Sub.suf ?_; (repeat (first | exact Suf.z | apply Suf.s))))) a w h⟩))
      ·
        refine nex fun b9 => nex fun b10 => nex fun z1 => nex fun z2 => nex fun s1 => nex fun s2 => nex fun s3 => nex fun hs => ?_
        refine nthen ?_
        refine cs ?_
        refine cs ?_
        refine cr ?_
        refine ls (op (p_move rfl) rfl) ?_
        refine ls (op (p_not rfl) rfl) ?_
        refine ln ?_
        refine nthen ?_
        refine cc rfl ?_ ?_
        · intro h32
          have h32' : s3 = false := by simpa using h32
          subst h32'
          refine cs ?_
          refine cmono (fun a w h => nilSl (α := ByteArray) h) ?_
          refine cr ?_
          refine ls (o_ldw Tryd.isAgg35 Tryd.sizeOf35 rfl (by repeat (first | exact At.z | apply At.s)) (by rfl) rfl) ?_
          refine ls (o_st rfl Tryd.sizeOf35 rfl rfl rfl rfl rfl (by repeat (first | exact At.z | apply At.s)) (by repeat (first | exact Put.d | apply Put.t | apply Put.s)) (by repeat (first | exact SetAt.z | apply SetAt.s))) ?_
          refine ls (op (p_asg rfl) rfl) ?_
          refine ln ?_
          refine nthen ?_
          refine cret ?_
          refine xret (fun _ _ h => h) ?_
          refine rret (is := []) ⟨(((Prim.zero, Prim.zero, Prim.zero), false), (((none, 0), (none, 0)), ((none, 0), (none, 0)), ((none, 0), (none, 0)))), fail_0 (by decide) (by decide) hrun hs, (fun e => by cases e)⟩ (Or.inl rfl) (Res.c rfl Tryd.isAgg35 Tryd.sizeOf35 (by repeat (first | exact At.z | apply At.s)) (by rfl) (Res.t rfl Res.d)) (rfl) rfl (by repeat (first | exact Sub.d | (refine Sub.s ?_ ?_; (repeat (first | exact In.z | apply In.s))) | (refine Sub.suf ?_; (repeat (first | exact Suf.z | apply Suf.s)))))
        · intro h32
          obtain rfl : true = s3 := by cases s3 <;> first | rfl | (simp at h32)
          refine cskip ?_
          refine nthen ?_
          refine cd [6, 8] [(3, b9, 0, _), (4, b10, 0, _)] TrydX.mixed (TOk.t (isBoxS (by repeat (first | exact At.z | apply At.s)) (k := 6) (by repeat (first | exact Cut.d | apply Cut.t | apply Cut.s))) (TOk.t (isBoxS (by repeat (first | exact At.z | apply At.s)) (k := 6) (by repeat (first | exact Cut.d | apply Cut.t | apply Cut.s))) TOk.d)) ?_
          refine tk 0 rfl (by kernel_rfl) (fun _ _ _ h => h) gnone (TTany _) (p_move rfl) rfl ?_
          refine tk 1 rfl (by kernel_rfl) (fun _ _ _ h => h) gnone (TTany _) (p_move rfl) rfl ?_
          refine tk 2 rfl (by kernel_rfl) (fun _ _ _ h => h) gnone (TTany _) (p_add rfl rfl (by omega)) rfl ?_
          refine tk 3 rfl (by kernel_rfl) (fun _ _ _ h => h) gnone (TTat (List.Mem.head _)) (p_lda Tryd.isAgg27 Tryd.sizeOf27 rfl rfl) rfl ?_
          refine tk 4 rfl (by kernel_rfl) (fun _ _ _ h => h) gnone (TTat (List.Mem.tail _ (List.Mem.head _))) (p_lda Tryd.isAgg27 Tryd.sizeOf27 rfl rfl) rfl ?_
          refine tk 5 rfl (by kernel_rfl) (fun _ _ _ h => h) gnone (TTany _) (p_iav 0 (by decide) rfl Tryd.underlying35 Tryd.sizeOf27 rfl rfl) rfl ?_
          refine df 6 (by kernel_rfl) ?_
          refine doR rfl (o_st rfl Tryd.sizeOf27 rfl rfl rfl rfl rfl (by repeat (first | exact At.z | apply At.s)) (by repeat (first | exact Put.d | apply Put.t | apply Put.s)) (by repeat (first | exact SetAt.z | apply SetAt.s))) (TOk.x (by kernel_rfl) (TOk.t (isBoxS (by repeat (first | exact At.z | apply At.s)) (k := 6) (by repeat (first | exact Cut.d | apply Cut.t | apply Cut.s))) TOk.d)) ?_
          refine tk 7 rfl (by kernel_rfl) (fun _ _ _ h => h) gnone (TTany _) (p_iav 1 (by decide) rfl Tryd.underlying35 Tryd.sizeOf27 rfl rfl) rfl ?_
          refine df 8 (by kernel_rfl) ?_
          refine doR rfl (o_st rfl Tryd.sizeOf27 rfl rfl rfl rfl rfl (by repeat (first | exact At.z | apply At.s)) (by repeat (first | exact Put.d | apply Put.t | apply Put.s)) (by repeat (first | exact SetAt.z | apply SetAt.s))) (TOk.x (by kernel_rfl) (TOk.x (by kernel_rfl) TOk.d)) ?_
          refine dn (by kernel_rfl) ?_
          refine nblock ?_
          refine nthen ?_
          refine cr ?_
          refine ls (op (p_add rfl rfl (by omega)) rfl) ?_
          refine ls (op (p_move rfl) rfl) ?_
          refine ln ?_
          refine nnext ⟨(3, (s1, s2, x3), (z1, z2, y3)), (by dsimp only; omega), step_0 (by decide) hrun hs, (swap_fit2 hs f1 f2).1, (swap_fit2 hs f1 f2).2, f3⟩ (by dsimp only; omega) (wk (is := [2, 2]) (by repeat (first | exact subσ.nil _ | refine subσ.cons rfl ?_)) rfl (by repeat (first | exact Sub.d | (refine Sub.s ?_ ?_; (repeat (first | exact In.z | apply In.s))) | (refine Sub.suf ?_; (repeat (first | exact Suf.z | apply Suf.s))))))
  · intro h17
    dsimp only at hk hrun f1 f2 f3
    try simp only [decide_eq_true_eq, decide_eq_false_iff_not, Bool.not_eq_true', Bool.not_eq_false', Int.not_lt, Int.not_le, ge_iff_le, Bool.not_true, Bool.not_false] at h17
    refine cexit ?_
    refine xthen ?_
    refine xthen ?_
    refine xblock ?_
    refine nthen ?_
    refine cs ?_
    refine cr ?_
    refine ls (o_ldw Tryd.isAgg35 Tryd.sizeOf35 rfl (by repeat (first | exact At.z | apply At.s)) (by rfl) rfl) ?_
    refine ls (o_st rfl Tryd.sizeOf35 rfl rfl rfl rfl rfl (by repeat (first | exact At.z | apply At.s)) (by repeat (first | exact Put.d | apply Put.t | apply Put.s)) (by repeat (first | exact SetAt.z | apply SetAt.s))) ?_
    refine ls (op (p_asg rfl) rfl) ?_
    refine ln ?_
    refine nthen ?_
    refine cret ?_
    refine xret (fun _ _ h => h) ?_
    refine rret (is := []) ⟨(((x1, x2, x3), true), (y1, y2, y3)), by rw [← run3, show (3 : Nat) = k by omega]; exact hrun, (fun _ => ⟨f1, f2, f3⟩)⟩ (Or.inl rfl) (Res.c rfl Tryd.isAgg35 Tryd.sizeOf35 (by repeat (first | exact At.z | apply At.s)) (by rfl) (Res.t rfl Res.d)) (rfl) rfl (by repeat (first | exact Sub.d | (refine Sub.s ?_ ?_; (repeat (first | exact In.z | apply In.s))) | (refine Sub.suf ?_; (repeat (first | exact Suf.z | apply Suf.s)))))

theorem c_three1 (p q r : Prim) (yp yq yr : Rp.Lay Prim) (hp : p.fit) (hq : q.fit) (hr : r.fit) : Con Tryd.prog 17 [.agg (E3 p q r yp yq yr).toArray, .bool true] [] (Rp.asn p yp ++ (Rp.asn q yq ++ Rp.asn r yr)) (Three true (p, q, r)) (fun x => x.v) (fun _ => []) (fun x => x.g) := by
  refine con Tryd.func17 rfl Tryd.ntmps17 rfl ?_
  intro M0 F0 w0
  refine cs ?_
  refine cr ?_
  refine ls (o_box rfl rfl rfl) ?_
  refine le ?_; intro b2
  refine ls (o_alloc Tryd.zeroValue35 rfl rfl) ?_
  refine le ?_; intro b4
  refine ls (op (p_asg rfl) rfl) ?_
  refine ln ?_
  refine nthen ?_
  refine cs ?_
  refine cr ?_
  refine ls (op (p_bld sb46 rfl (Fill.t (by repeat (first | exact At.z | apply At.s)) rfl rfl (by repeat (first | exact Put.d | apply Put.t | apply Put.s)) (Fill.t (by repeat (first | exact At.z | apply At.s)) rfl rfl (by repeat (first | exact Put.d | apply Put.t | apply Put.s)) (Fill.t (by repeat (first | exact At.z | apply At.s)) rfl rfl (by repeat (first | exact Put.d | apply Put.t | apply Put.s)) Fill.d)))) rfl) ?_
  refine ls (o_alloc Tryd.zeroValue46 rfl rfl) ?_
  refine le ?_; intro b6
  refine ls (o_st rfl Tryd.sizeOf46 rfl rfl rfl rfl rfl (by repeat (first | exact At.z | apply At.s)) (by repeat (first | exact Put.d | apply Put.t | apply Put.s)) (by repeat (first | exact SetAt.z | apply SetAt.s))) ?_
  refine ln ?_
  refine nthen ?_
  refine cs ?_
  refine cs ?_
  refine cr ?_
  refine ls (op (p_move rfl) rfl) ?_
  refine ln ?_
  refine nthen ?_
  refine cc rfl (fun h => ?_) (fun h => by cases h)
  refine cr ?_
  refine ls (op (p_bld sb46 rfl (Fill.t (by repeat (first | exact At.z | apply At.s)) rfl rfl (by repeat (first | exact Put.d | apply Put.t | apply Put.s)) (Fill.t (by repeat (first | exact At.z | apply At.s)) rfl rfl (by repeat (first | exact Put.d | apply Put.t | apply Put.s)) (Fill.t (by repeat (first | exact At.z | apply At.s)) rfl rfl (by repeat (first | exact Put.d | apply Put.t | apply Put.s)) Fill.d)))) rfl) ?_
  refine ls (o_st rfl Tryd.sizeOf46 rfl rfl rfl rfl rfl (by repeat (first | exact At.z | apply At.s)) (by repeat (first | exact Put.d | apply Put.t | apply Put.s)) (by repeat (first | exact SetAt.z | apply SetAt.s))) ?_
  refine ln ?_
  refine nthen ?_
  refine cs ?_
  refine cs ?_
  refine cr ?_
  refine ls (o_ldw Tryd.isAgg46 Tryd.sizeOf46 rfl (by repeat (first | exact At.z | apply At.s)) (by rfl) rfl) ?_
  refine ls (op (p_move rfl) rfl) ?_
  refine ln ?_
  refine nthen ?_
  refine cb ?_
  refine cl (ι := {i : Nat × Prim3 × (Rp.Lay Prim × Rp.Lay Prim × Rp.Lay Prim) // i.1 ≤ 3 ∧ runK true i.1 (p, q, r) = some i.2.1 ∧ i.2.1.1.fit ∧ i.2.1.2.1.fit ∧ i.2.1.2.2.fit}) (fun i => St M0 F0 w0 43 [(2, .pointer (some ⟨b2, 0, none⟩)), (4, .pointer (some ⟨b4, 0, none⟩)), (5, .bool false), (15, .agg #[.int .i64 1, .int .i64 0, .int .i64 1]), (16, .int .i64 (i.1.1 : Int))] [box b2 35 (E3 i.1.2.1.1 i.1.2.1.2.1 i.1.2.1.2.2 i.1.2.2.1 i.1.2.2.2.1 i.1.2.2.2.2), box b4 35 (E3 Prim.zero Prim.zero Prim.zero ((none, 0), (none, 0)) ((none, 0), (none, 0)) ((none, 0), (none, 0)))] (Rp.asn i.1.2.1.1 i.1.2.2.1 ++ (Rp.asn i.1.2.1.2.1 i.1.2.2.2.1 ++ Rp.asn i.1.2.1.2.2 i.1.2.2.2.2))) (fun i => 3 - i.1.1) ⟨(0, (p, q, r), (yp, yq, yr)), Nat.zero_le _, rfl, hp, hq, hr⟩ (wk (is := [2, 1]) (by repeat (first | exact subσ.nil _ | refine subσ.cons rfl ?_)) rfl (by repeat (first | exact Sub.d | (refine Sub.s ?_ ?_; (repeat (first | exact In.z | apply In.s))) | (refine Sub.suf ?_; (repeat (first | exact Suf.z | apply Suf.s)))))) ?_
  rintro ⟨⟨k, ⟨x1, x2, x3⟩, ⟨y1, y2, y3⟩⟩, hk, hrun, f1, f2, f3⟩
  refine cmono (S' := St M0 F0 w0 43 [(2, .pointer (some ⟨b2, 0, none⟩)), (4, .pointer (some ⟨b4, 0, none⟩)), (5, .bool false), (15, .agg #[.int .i64 1, .int .i64 0, .int .i64 1]), (16, .int .i64 (k : Int))] [box b2 35 (E3 x1 x2 x3 y1 y2 y3), box b4 35 (E3 Prim.zero Prim.zero Prim.zero ((none, 0), (none, 0)) ((none, 0), (none, 0)) ((none, 0), (none, 0)))] (Rp.asn x1 y1 ++ (Rp.asn x2 y2 ++ Rp.asn x3 y3))) (fun _ _ h => h) ?_
  refine cs ?_
  refine cr ?_
  refine ls (op (p_icmp rfl rfl rfl) rfl) ?_
  refine ln ?_
  refine nthen ?_
  refine cs ?_
  refine cc rfl ?_ ?_
  · intro h17
    dsimp only at hk hrun f1 f2 f3
    try simp only [decide_eq_true_eq, decide_eq_false_iff_not, Bool.not_eq_true', Bool.not_eq_false', Int.not_lt, Int.not_le, ge_iff_le, Bool.not_true, Bool.not_false] at h17
    have hk3 : k < 3 := by omega
    refine cskip ?_
    refine nthen ?_
    refine cs ?_
    refine cb ?_
    refine cs ?_
    rcases (show k = 0 ∨ k = 1 ∨ k = 2 by omega) with rfl | rfl | rfl
    ·
      refine cr ?_
      refine ls (op (p_idxa 0 (by decide) rfl Tryd.underlying46 Tryd.sizeOf3 Tryd.isAgg3 rfl rfl (by repeat (first | exact At.z | apply At.s))) rfl) ?_
      refine ls (op (p_asg rfl) rfl) ?_
      refine ln ?_
      refine nthen ?_
      refine cs ?_
      refine cutC (S' := fun a w => ∃ (b9 : Nat) (b10 : Nat) (z1 : Rp.Lay Prim) (z2 : Rp.Lay Prim) (s1 : Prim) (s2 : Prim) (s3 : Bool) (hs : (s1, s2, s3) = swap x2 x3), St M0 F0 w0 43 [(2, .pointer (some ⟨b2, 0, none⟩)), (4, .pointer (some ⟨b4, 0, none⟩)), (5, .bool false), (8, .int .i64 1), (9, .pointer (some ⟨b9, 0, none⟩)), (10, .pointer (some ⟨b10, 0, none⟩)), (11, .bool s3), (15, .agg #[.int .i64 1, .int .i64 0, .int .i64 1]), (16, .int .i64 ((0 : Nat) : Int))] [box b9 27 (Rp.enc s1 z1), box b10 27 (Rp.enc s2 z2), box b2 35 (E3 x1 x2 x3 y1 y2 y3), box b4 35 (E3 Prim.zero Prim.zero Prim.zero ((none, 0), (none, 0)) ((none, 0), (none, 0)) ((none, 0), (none, 0)))] (Rp.asn s1 z1 ++ (Rp.asn s2 z2 ++ (Rp.asn x1 y1 ++ (Rp.asn x2 y2 ++ Rp.asn x3 y3)))) a w) ?_ ?_
      ·
        refine cd [7, 12, 13, 14, 15] [(2, b2, 0 + 1 * 6, _), (6, b2, 0 + 2 * 6, _)] TrydX.mixed (TOk.t (isBoxS (by repeat (first | exact At.z | apply At.s)) (k := 6) (by repeat (first | exact Cut.d | apply Cut.t | apply Cut.s))) (TOk.t (isBoxS (by repeat (first | exact At.z | apply At.s)) (k := 6) (by repeat (first | exact Cut.d | apply Cut.t | apply Cut.s))) TOk.d)) ?_
        refine tk 0 rfl (by kernel_rfl) (fun _ _ _ h => h) gnone (TTany _) (p_move rfl) rfl ?_
        refine tk 1 rfl (by kernel_rfl) (fun _ _ _ h => h) gnone (TTany _) (p_iav 1 (by decide) rfl Tryd.underlying35 Tryd.sizeOf27 rfl rfl) rfl ?_
        refine tk 2 rfl (by kernel_rfl) (fun _ _ _ h => h) gnone (TTat (List.Mem.head _)) (p_lda Tryd.isAgg27 Tryd.sizeOf27 rfl rfl) rfl ?_
        refine tk 3 rfl (by kernel_rfl) (fun _ _ _ h => h) gnone (TTany _) (p_move rfl) rfl ?_
        refine tk 4 rfl (by kernel_rfl) (fun _ _ _ h => h) gnone (TTany _) (p_add rfl rfl (by omega)) rfl ?_
        refine tk 5 rfl (by kernel_rfl) (fun _ _ _ h => h) gnone (TTany _) (p_iav 2 (by decide) rfl Tryd.underlying35 Tryd.sizeOf27 rfl rfl) rfl ?_
        refine tk 6 rfl (by kernel_rfl) (fun _ _ _ h => h) gnone (TTat (List.Mem.tail _ (List.Mem.head _))) (p_lda Tryd.isAgg27 Tryd.sizeOf27 rfl rfl) rfl ?_
        refine dall (is := [7, 12, 13]) (by kernel_rfl) rfl ?_
        intro i hi; simp only [List.mem_cons, List.mem_nil_iff, or_false] at hi; rcases hi with rfl | rfl | rfl
        ·
          refine doR rfl (o_call (is := []) Tryd.call11 (c_Swap x2 x3 y2 y3 f2 f3) rfl rfl (by repeat (first | exact Sub.d | (refine Sub.s ?_ ?_; (repeat (first | exact In.z | apply In.s))) | (refine Sub.suf ?_; (repeat (first | exact Suf.z | apply Suf.s))))) rfl) (TOk.x (by kernel_rfl) (TOk.x (by kernel_rfl) TOk.d)) ?_
          refine ea ?_; rintro ⟨⟨⟨s1, s2, s3⟩, z1, z2⟩, hs⟩
          dsimp only at hs
          refine tk 8 rfl (by kernel_rfl) (fun _ _ _ h => h) gnone (TTany _) (p_move rfl) rfl ?_
          refine tk 9 rfl (by kernel_rfl) (fun _ _ _ h => h) gnone (TTany _) (p_ext rfl (by repeat (first | exact At.z | apply At.s))) rfl ?_
          refine tk 10 rfl (by kernel_rfl) (fun _ _ _ h => h) gnone (TTany _) (p_ext rfl (by repeat (first | exact At.z | apply At.s))) rfl ?_
          refine tk 11 rfl (by kernel_rfl) (fun _ _ _ h => h) gnone (TTany _) (p_ext rfl (by repeat (first | exact At.z | apply At.s))) rfl ?_
          refine dall (is := [12, 13]) (by kernel_rfl) rfl ?_
          intro i hi; simp only [List.mem_cons, List.mem_nil_iff, or_false] at hi; rcases hi with rfl | rfl
          ·
            refine doR rfl (o_alloc Tryd.zeroValue27 rfl rfl) (TOk.x (by kernel_rfl) (TOk.x (by kernel_rfl) TOk.d)) ?_
            refine ea ?_; intro b9
            refine df 13 (by kernel_rfl) ?_
            refine doR rfl (o_alloc Tryd.zeroValue27 rfl rfl) (TOk.x (by kernel_rfl) (TOk.x (by kernel_rfl) TOk.d)) ?_
            refine ea ?_; intro b10
            refine df 14 (by kernel_rfl) ?_
            refine doR rfl (o_st rfl Tryd.sizeOf27 rfl rfl rfl rfl rfl (by repeat (first | exact At.z | apply At.s)) (by repeat (first | exact Put.d | apply Put.t | apply Put.s)) (by repeat (first | exact SetAt.z | apply SetAt.s))) (TOk.x (by kernel_rfl) (TOk.x (by kernel_rfl) TOk.d)) ?_
            refine df 15 (by kernel_rfl) ?_
            refine doR rfl (o_st rfl Tryd.sizeOf27 rfl rfl rfl rfl rfl (by repeat (first | exact At.z | apply At.s)) (by repeat (first | exact Put.d | apply Put.t | apply Put.s)) (by repeat (first | exact SetAt.z | apply SetAt.s))) (TOk.x (by kernel_rfl) (TOk.x (by kernel_rfl) TOk.d)) ?_
            refine tk 16 rfl (by kernel_rfl) (fun _ _ _ h => h) gnone (TTany _) (p_asg rfl) rfl ?_
            refine dn (by kernel_rfl) (nmid (fun a w h => by first | exact ⟨b9, b10, z1, z2, s1, s2, s3, hs, wk (is := [0, 0, 0, 0]) (by repeat (first | exact subσ.nil _ | refine subσ.cons rfl ?_)) rfl (by repeat (first | exact Sub.d | (refine Sub.s ?_ ?_; (repeat (first | exact In.z | apply In.s))) | (refine Sub.suf ?_; (repeat (first | exact Suf.z | apply Suf.s))))) a w h⟩ | exact ⟨b9, b10, z1, z2, s1, s2, s3, hs, wk (is := [1, 0, 0, 0]) (by repeat (first | exact subσ.nil _ | refine subσ.cons rfl ?_)) rfl (by repeat (first | exact Sub.d | (refine Sub.s ?_ ?_; (repeat (first | exact In.z | apply In.s))) | (refine Sub.suf ?_; (repeat (first | exact Suf.z | apply Suf.s))))) a w h⟩))
          ·
            refine doR rfl (o_alloc Tryd.zeroValue27 rfl rfl) (TOk.x (by kernel_rfl) (TOk.x (by kernel_rfl) TOk.d)) ?_
            refine ea ?_; intro b10
            refine df 12 (by kernel_rfl) ?_
            refine doR rfl (o_alloc Tryd.zeroValue27 rfl rfl) (TOk.x (by kernel_rfl) (TOk.x (by kernel_rfl) TOk.d)) ?_
            refine ea ?_; intro b9
            refine df 14 (by kernel_rfl) ?_
            refine doR rfl (o_st rfl Tryd.sizeOf27 rfl rfl rfl rfl rfl (by repeat (first | exact At.z | apply At.s)) (by repeat (first | exact Put.d | apply Put.t | apply Put.s)) (by repeat (first | exact SetAt.z | apply SetAt.s))) (TOk.x (by kernel_rfl) (TOk.x (by kernel_rfl) TOk.d)) ?_
            refine df 15 (by kernel_rfl) ?_
            refine doR rfl (o_st rfl Tryd.sizeOf27 rfl rfl rfl rfl rfl (by repeat (first | exact At.z | apply At.s)) (by repeat (first | exact Put.d | apply Put.t | apply Put.s)) (by repeat (first | exact SetAt.z | apply SetAt.s))) (TOk.x (by kernel_rfl) (TOk.x (by kernel_rfl) TOk.d)) ?_
            refine tk 16 rfl (by kernel_rfl) (fun _ _ _ h => h) gnone (TTany _) (p_asg rfl) rfl ?_
            refine dn (by kernel_rfl) (nmid (fun a w h => by first | exact ⟨b9, b10, z1, z2, s1, s2, s3, hs, wk (is := [0, 0, 0, 0]) (by repeat (first | exact subσ.nil _ | refine subσ.cons rfl ?_)) rfl (by repeat (first | exact Sub.d | (refine Sub.s ?_ ?_; (repeat (first | exact In.z | apply In.s))) | (refine Sub.suf ?_; (repeat (first | exact Suf.z | apply Suf.s))))) a w h⟩ | exact ⟨b9, b10, z1, z2, s1, s2, s3, hs, wk (is := [1, 0, 0, 0]) (by repeat (first | exact subσ.nil _ | refine subσ.cons rfl ?_)) rfl (by repeat (first | exact Sub.d | (refine Sub.s ?_ ?_; (repeat (first | exact In.z | apply In.s))) | (refine Sub.suf ?_; (repeat (first | exact Suf.z | apply Suf.s))))) a w h⟩))
        ·
          refine doR rfl (o_alloc Tryd.zeroValue27 rfl rfl) (TOk.t (isBoxE fun _ => isBoxS (by repeat (first | exact At.z | apply At.s)) (k := 6) (by repeat (first | exact Cut.d | apply Cut.t | apply Cut.s))) (TOk.t (isBoxE fun _ => isBoxS (by repeat (first | exact At.z | apply At.s)) (k := 6) (by repeat (first | exact Cut.d | apply Cut.t | apply Cut.s))) TOk.d)) ?_
          refine ea ?_; intro b9
          refine dall (is := [7, 13]) (by kernel_rfl) rfl ?_
          intro i hi; simp only [List.mem_cons, List.mem_nil_iff, or_false] at hi; rcases hi with rfl | rfl
          ·
            refine doR rfl (o_call (is := []) Tryd.call11 (c_Swap x2 x3 y2 y3 f2 f3) rfl rfl (by repeat (first | exact Sub.d | (refine Sub.s ?_ ?_; (repeat (first | exact In.z | apply In.s))) | (refine Sub.suf ?_; (repeat (first | exact Suf.z | apply Suf.s))))) rfl) (TOk.x (by kernel_rfl) (TOk.x (by kernel_rfl) TOk.d)) ?_
            refine ea ?_; rintro ⟨⟨⟨s1, s2, s3⟩, z1, z2⟩, hs⟩
            dsimp only at hs
            refine tk 8 rfl (by kernel_rfl) (fun _ _ _ h => h) gnone (TTany _) (p_move rfl) rfl ?_
            refine tk 9 rfl (by kernel_rfl) (fun _ _ _ h => h) gnone (TTany _) (p_ext rfl (by repeat (first | exact At.z | apply At.s))) rfl ?_
            refine tk 10 rfl (by kernel_rfl) (fun _ _ _ h => h) gnone (TTany _) (p_ext rfl (by repeat (first | exact At.z | apply At.s))) rfl ?_
            refine tk 11 rfl (by kernel_rfl) (fun _ _ _ h => h) gnone (TTany _) (p_ext rfl (by repeat (first | exact At.z | apply At.s))) rfl ?_
            refine df 13 (by kernel_rfl) ?_
            refine doR rfl (o_alloc Tryd.zeroValue27 rfl rfl) (TOk.x (by kernel_rfl) (TOk.x (by kernel_rfl) TOk.d)) ?_
            refine ea ?_; intro b10
            refine df 14 (by kernel_rfl) ?_
            refine doR rfl (o_st rfl Tryd.sizeOf27 rfl rfl rfl rfl rfl (by repeat (first | exact At.z | apply At.s)) (by repeat (first | exact Put.d | apply Put.t | apply Put.s)) (by repeat (first | exact SetAt.z | apply SetAt.s))) (TOk.x (by kernel_rfl) (TOk.x (by kernel_rfl) TOk.d)) ?_
            refine df 15 (by kernel_rfl) ?_
            refine doR rfl (o_st rfl Tryd.sizeOf27 rfl rfl rfl rfl rfl (by repeat (first | exact At.z | apply At.s)) (by repeat (first | exact Put.d | apply Put.t | apply Put.s)) (by repeat (first | exact SetAt.z | apply SetAt.s))) (TOk.x (by kernel_rfl) (TOk.x (by kernel_rfl) TOk.d)) ?_
            refine tk 16 rfl (by kernel_rfl) (fun _ _ _ h => h) gnone (TTany _) (p_asg rfl) rfl ?_
            refine dn (by kernel_rfl) (nmid (fun a w h => by first | exact ⟨b9, b10, z1, z2, s1, s2, s3, hs, wk (is := [0, 0, 0, 0]) (by repeat (first | exact subσ.nil _ | refine subσ.cons rfl ?_)) rfl (by repeat (first | exact Sub.d | (refine Sub.s ?_ ?_; (repeat (first | exact In.z | apply In.s))) | (refine Sub.suf ?_; (repeat (first | exact Suf.z | apply Suf.s))))) a w h⟩ | exact ⟨b9, b10, z1, z2, s1, s2, s3, hs, wk (is := [1, 0, 0, 0]) (by repeat (first | exact subσ.nil _ | refine subσ.cons rfl ?_)) rfl (by repeat (first | exact Sub.d | (refine Sub.s ?_ ?_; (repeat (first | exact In.z | apply In.s))) | (refine Sub.suf ?_; (repeat (first | exact Suf.z | apply Suf.s))))) a w h⟩))
          ·
            refine doR rfl (o_alloc Tryd.zeroValue27 rfl rfl) (TOk.t (isBoxE fun _ => isBoxS (by repeat (first | exact At.z | apply At.s)) (k := 6) (by repeat (first | exact Cut.d | apply Cut.t | apply Cut.s))) (TOk.t (isBoxE fun _ => isBoxS (by repeat (first | exact At.z | apply At.s)) (k := 6) (by repeat (first | exact Cut.d | apply Cut.t | apply Cut.s))) TOk.d)) ?_
            refine ea ?_; intro b10
            refine df 7 (by kernel_rfl) ?_
            refine doR rfl (o_call (is := []) Tryd.call11 (c_Swap x2 x3 y2 y3 f2 f3) rfl rfl (by repeat (first | exact Sub.d | (refine Sub.s ?_ ?_; (repeat (first | exact In.z | apply In.s))) | (refine Sub.suf ?_; (repeat (first | exact Suf.z | apply Suf.s))))) rfl) (TOk.x (by kernel_rfl) (TOk.x (by kernel_rfl) TOk.d)) ?_
            refine ea ?_; rintro ⟨⟨⟨s1, s2, s3⟩, z1, z2⟩, hs⟩
            dsimp only at hs
            refine tk 8 rfl (by kernel_rfl) (fun _ _ _ h => h) gnone (TTany _) (p_move rfl) rfl ?_
            refine tk 9 rfl (by kernel_rfl) (fun _ _ _ h => h) gnone (TTany _) (p_ext rfl (by repeat (first | exact At.z | apply At.s))) rfl ?_
            refine tk 10 rfl (by kernel_rfl) (fun _ _ _ h => h) gnone (TTany _) (p_ext rfl (by repeat (first | exact At.z | apply At.s))) rfl ?_
            refine tk 11 rfl (by kernel_rfl) (fun _ _ _ h => h) gnone (TTany _) (p_ext rfl (by repeat (first | exact At.z | apply At.s))) rfl ?_
            refine df 14 (by kernel_rfl) ?_
            refine doR rfl (o_st rfl Tryd.sizeOf27 rfl rfl rfl rfl rfl (by repeat (first | exact At.z | apply At.s)) (by repeat (first | exact Put.d | apply Put.t | apply Put.s)) (by repeat (first | exact SetAt.z | apply SetAt.s))) (TOk.x (by kernel_rfl) (TOk.x (by kernel_rfl) TOk.d)) ?_
            refine df 15 (by kernel_rfl) ?_
            refine doR rfl (o_st rfl Tryd.sizeOf27 rfl rfl rfl rfl rfl (by repeat (first | exact At.z | apply At.s)) (by repeat (first | exact Put.d | apply Put.t | apply Put.s)) (by repeat (first | exact SetAt.z | apply SetAt.s))) (TOk.x (by kernel_rfl) (TOk.x (by kernel_rfl) TOk.d)) ?_
            refine tk 16 rfl (by kernel_rfl) (fun _ _ _ h => h) gnone (TTany _) (p_asg rfl) rfl ?_
            refine dn (by kernel_rfl) (nmid (fun a w h => by first | exact ⟨b9, b10, z1, z2, s1, s2, s3, hs, wk (is := [0, 0, 0, 0]) (by repeat (first | exact subσ.nil _ | refine subσ.cons rfl ?_)) rfl (by repeat (first | exact Sub.d | (refine Sub.s ?_ ?_; (repeat (first | exact In.z | apply In.s))) | (refine Sub.suf ?_; (repeat (first | exact Suf.z | apply Suf.s))))) a w h⟩ | exact ⟨b9, b10, z1, z2, s1, s2, s3, hs, wk (is := [1, 0, 0, 0]) (by repeat (first | exact subσ.nil _ | refine subσ.cons rfl ?_)) rfl (by repeat (first | exact Sub.d | (refine Sub.s ?_ ?_; (repeat (first | exact In.z | apply In.s))) | (refine Sub.suf ?_; (repeat (first | exact Suf.z | apply Suf.s))))) a w h⟩))
        ·
          refine doR rfl (o_alloc Tryd.zeroValue27 rfl rfl) (TOk.t (isBoxE fun _ => isBoxS (by repeat (first | exact At.z | apply At.s)) (k := 6) (by repeat (first | exact Cut.d | apply Cut.t | apply Cut.s))) (TOk.t (isBoxE fun _ => isBoxS (by repeat (first | exact At.z | apply At.s)) (k := 6) (by repeat (first | exact Cut.d | apply Cut.t | apply Cut.s))) TOk.d)) ?_
          refine ea ?_; intro b10
          refine dall (is := [7, 12]) (by kernel_rfl) rfl ?_
          intro i hi; simp only [List.mem_cons, List.mem_nil_iff, or_false] at hi; rcases hi with rfl | rfl
          ·
            refine doR rfl (o_call (is := []) Tryd.call11 (c_Swap x2 x3 y2 y3 f2 f3) rfl rfl (by repeat (first | exact Sub.d | (refine Sub.s ?_ ?_; (repeat (first | exact In.z | apply In.s))) | (refine Sub.suf ?_; (repeat (first | exact Suf.z | apply Suf.s))))) rfl) (TOk.x (by kernel_rfl) (TOk.x (by kernel_rfl) TOk.d)) ?_
            refine ea ?_; rintro ⟨⟨⟨s1, s2, s3⟩, z1, z2⟩, hs⟩
            dsimp only at hs
            refine tk 8 rfl (by kernel_rfl) (fun _ _ _ h => h) gnone (TTany _) (p_move rfl) rfl ?_
            refine tk 9 rfl (by kernel_rfl) (fun _ _ _ h => h) gnone (TTany _) (p_ext rfl (by repeat (first | exact At.z | apply At.s))) rfl ?_
            refine tk 10 rfl (by kernel_rfl) (fun _ _ _ h => h) gnone (TTany _) (p_ext rfl (by repeat (first | exact At.z | apply At.s))) rfl ?_
            refine tk 11 rfl (by kernel_rfl) (fun _ _ _ h => h) gnone (TTany _) (p_ext rfl (by repeat (first | exact At.z | apply At.s))) rfl ?_
            refine df 12 (by kernel_rfl) ?_
            refine doR rfl (o_alloc Tryd.zeroValue27 rfl rfl) (TOk.x (by kernel_rfl) (TOk.x (by kernel_rfl) TOk.d)) ?_
            refine ea ?_; intro b9
            refine df 14 (by kernel_rfl) ?_
            refine doR rfl (o_st rfl Tryd.sizeOf27 rfl rfl rfl rfl rfl (by repeat (first | exact At.z | apply At.s)) (by repeat (first | exact Put.d | apply Put.t | apply Put.s)) (by repeat (first | exact SetAt.z | apply SetAt.s))) (TOk.x (by kernel_rfl) (TOk.x (by kernel_rfl) TOk.d)) ?_
            refine df 15 (by kernel_rfl) ?_
            refine doR rfl (o_st rfl Tryd.sizeOf27 rfl rfl rfl rfl rfl (by repeat (first | exact At.z | apply At.s)) (by repeat (first | exact Put.d | apply Put.t | apply Put.s)) (by repeat (first | exact SetAt.z | apply SetAt.s))) (TOk.x (by kernel_rfl) (TOk.x (by kernel_rfl) TOk.d)) ?_
            refine tk 16 rfl (by kernel_rfl) (fun _ _ _ h => h) gnone (TTany _) (p_asg rfl) rfl ?_
            refine dn (by kernel_rfl) (nmid (fun a w h => by first | exact ⟨b9, b10, z1, z2, s1, s2, s3, hs, wk (is := [0, 0, 0, 0]) (by repeat (first | exact subσ.nil _ | refine subσ.cons rfl ?_)) rfl (by repeat (first | exact Sub.d | (refine Sub.s ?_ ?_; (repeat (first | exact In.z | apply In.s))) | (refine Sub.suf ?_; (repeat (first | exact Suf.z | apply Suf.s))))) a w h⟩ | exact ⟨b9, b10, z1, z2, s1, s2, s3, hs, wk (is := [1, 0, 0, 0]) (by repeat (first | exact subσ.nil _ | refine subσ.cons rfl ?_)) rfl (by repeat (first | exact Sub.d | (refine Sub.s ?_ ?_; (repeat (first | exact In.z | apply In.s))) | (refine Sub.suf ?_; (repeat (first | exact Suf.z | apply Suf.s))))) a w h⟩))
          ·
            refine doR rfl (o_alloc Tryd.zeroValue27 rfl rfl) (TOk.t (isBoxE fun _ => isBoxS (by repeat (first | exact At.z | apply At.s)) (k := 6) (by repeat (first | exact Cut.d | apply Cut.t | apply Cut.s))) (TOk.t (isBoxE fun _ => isBoxS (by repeat (first | exact At.z | apply At.s)) (k := 6) (by repeat (first | exact Cut.d | apply Cut.t | apply Cut.s))) TOk.d)) ?_
            refine ea ?_; intro b9
            refine df 7 (by kernel_rfl) ?_
            refine doR rfl (o_call (is := []) Tryd.call11 (c_Swap x2 x3 y2 y3 f2 f3) rfl rfl (by repeat (first | exact Sub.d | (refine Sub.s ?_ ?_; (repeat (first | exact In.z | apply In.s))) | (refine Sub.suf ?_; (repeat (first | exact Suf.z | apply Suf.s))))) rfl) (TOk.x (by kernel_rfl) (TOk.x (by kernel_rfl) TOk.d)) ?_
            refine ea ?_; rintro ⟨⟨⟨s1, s2, s3⟩, z1, z2⟩, hs⟩
            dsimp only at hs
            refine tk 8 rfl (by kernel_rfl) (fun _ _ _ h => h) gnone (TTany _) (p_move rfl) rfl ?_
            refine tk 9 rfl (by kernel_rfl) (fun _ _ _ h => h) gnone (TTany _) (p_ext rfl (by repeat (first | exact At.z | apply At.s))) rfl ?_
            refine tk 10 rfl (by kernel_rfl) (fun _ _ _ h => h) gnone (TTany _) (p_ext rfl (by repeat (first | exact At.z | apply At.s))) rfl ?_
            refine tk 11 rfl (by kernel_rfl) (fun _ _ _ h => h) gnone (TTany _) (p_ext rfl (by repeat (first | exact At.z | apply At.s))) rfl ?_
            refine df 14 (by kernel_rfl) ?_
            refine doR rfl (o_st rfl Tryd.sizeOf27 rfl rfl rfl rfl rfl (by repeat (first | exact At.z | apply At.s)) (by repeat (first | exact Put.d | apply Put.t | apply Put.s)) (by repeat (first | exact SetAt.z | apply SetAt.s))) (TOk.x (by kernel_rfl) (TOk.x (by kernel_rfl) TOk.d)) ?_
            refine df 15 (by kernel_rfl) ?_
            refine doR rfl (o_st rfl Tryd.sizeOf27 rfl rfl rfl rfl rfl (by repeat (first | exact At.z | apply At.s)) (by repeat (first | exact Put.d | apply Put.t | apply Put.s)) (by repeat (first | exact SetAt.z | apply SetAt.s))) (TOk.x (by kernel_rfl) (TOk.x (by kernel_rfl) TOk.d)) ?_
            refine tk 16 rfl (by kernel_rfl) (fun _ _ _ h => h) gnone (TTany _) (p_asg rfl) rfl ?_
            refine dn (by kernel_rfl) (nmid (fun a w h => by first | exact ⟨b9, b10, z1, z2, s1, s2, s3, hs, wk (is := [0, 0, 0, 0]) (by repeat (first | exact subσ.nil _ | refine subσ.cons rfl ?_)) rfl (by repeat (first | exact Sub.d | (refine Sub.s ?_ ?_; (repeat (first | exact In.z | apply In.s))) | (refine Sub.suf ?_; (repeat (first | exact Suf.z | apply Suf.s))))) a w h⟩ | exact ⟨b9, b10, z1, z2, s1, s2, s3, hs, wk (is := [1, 0, 0, 0]) (by repeat (first | exact subσ.nil _ | refine subσ.cons rfl ?_)) rfl (by repeat (first | exact Sub.d | (refine Sub.s ?_ ?_; (repeat (first | exact In.z | apply In.s))) | (refine Sub.suf ?_; (repeat (first | exact Suf.z | apply Suf.s))))) a w h⟩))
      ·
        refine nex fun b9 => nex fun b10 => nex fun z1 => nex fun z2 => nex fun s1 => nex fun s2 => nex fun s3 => nex fun hs => ?_
        refine nthen ?_
        refine cs ?_
        refine cs ?_
        refine cr ?_
        refine ls (op (p_move rfl) rfl) ?_
        refine ls (op (p_not rfl) rfl) ?_
        refine ln ?_
        refine nthen ?_
        refine cc rfl ?_ ?_
        · intro h32
          have h32' : s3 = false := by simpa using h32
          subst h32'
          refine cs ?_
          refine cmono (fun a w h => nilSl (α := ByteArray) h) ?_
          refine cr ?_
          refine ls (o_ldw Tryd.isAgg35 Tryd.sizeOf35 rfl (by repeat (first | exact At.z | apply At.s)) (by rfl) rfl) ?_
          refine ls (o_st rfl Tryd.sizeOf35 rfl rfl rfl rfl rfl (by repeat (first | exact At.z | apply At.s)) (by repeat (first | exact Put.d | apply Put.t | apply Put.s)) (by repeat (first | exact SetAt.z | apply SetAt.s))) ?_
          refine ls (op (p_asg rfl) rfl) ?_
          refine ln ?_
          refine nthen ?_
          refine cret ?_
          refine xret (fun _ _ h => h) ?_
          refine rret (is := []) ⟨(((Prim.zero, Prim.zero, Prim.zero), false), (((none, 0), (none, 0)), ((none, 0), (none, 0)), ((none, 0), (none, 0)))), fail_1 (by decide) (by decide) hrun hs, (fun e => by cases e)⟩ (Or.inl rfl) (Res.c rfl Tryd.isAgg35 Tryd.sizeOf35 (by repeat (first | exact At.z | apply At.s)) (by rfl) (Res.t rfl Res.d)) (rfl) rfl (by repeat (first | exact Sub.d | (refine Sub.s ?_ ?_; (repeat (first | exact In.z | apply In.s))) | (refine Sub.suf ?_; (repeat (first | exact Suf.z | apply Suf.s)))))
        · intro h32
          obtain rfl : true = s3 := by cases s3 <;> first | rfl | (simp at h32)
          refine cskip ?_
          refine nthen ?_
          refine cd [6, 8] [(3, b9, 0, _), (4, b10, 0, _)] TrydX.mixed (TOk.t (isBoxS (by repeat (first | exact At.z | apply At.s)) (k := 6) (by repeat (first | exact Cut.d | apply Cut.t | apply Cut.s))) (TOk.t (isBoxS (by repeat (first | exact At.z | apply At.s)) (k := 6) (by repeat (first | exact Cut.d | apply Cut.t | apply Cut.s))) TOk.d)) ?_
          refine tk 0 rfl (by kernel_rfl) (fun _ _ _ h => h) gnone (TTany _) (p_move rfl) rfl ?_
          refine tk 1 rfl (by kernel_rfl) (fun _ _ _ h => h) gnone (TTany _) (p_move rfl) rfl ?_
          refine tk 2 rfl (by kernel_rfl) (fun _ _ _ h => h) gnone (TTany _) (p_add rfl rfl (by omega)) rfl ?_
          refine tk 3 rfl (by kernel_rfl) (fun _ _ _ h => h) gnone (TTat (List.Mem.head _)) (p_lda Tryd.isAgg27 Tryd.sizeOf27 rfl rfl) rfl ?_
          refine tk 4 rfl (by kernel_rfl) (fun _ _ _ h => h) gnone (TTat (List.Mem.tail _ (List.Mem.head _))) (p_lda Tryd.isAgg27 Tryd.sizeOf27 rfl rfl) rfl ?_
          refine tk 5 rfl (by kernel_rfl) (fun _ _ _ h => h) gnone (TTany _) (p_iav 1 (by decide) rfl Tryd.underlying35 Tryd.sizeOf27 rfl rfl) rfl ?_
          refine df 6 (by kernel_rfl) ?_
          refine doR rfl (o_st rfl Tryd.sizeOf27 rfl rfl rfl rfl rfl (by repeat (first | exact At.z | apply At.s)) (by repeat (first | exact Put.d | apply Put.t | apply Put.s)) (by repeat (first | exact SetAt.z | apply SetAt.s))) (TOk.x (by kernel_rfl) (TOk.t (isBoxS (by repeat (first | exact At.z | apply At.s)) (k := 6) (by repeat (first | exact Cut.d | apply Cut.t | apply Cut.s))) TOk.d)) ?_
          refine tk 7 rfl (by kernel_rfl) (fun _ _ _ h => h) gnone (TTany _) (p_iav 2 (by decide) rfl Tryd.underlying35 Tryd.sizeOf27 rfl rfl) rfl ?_
          refine df 8 (by kernel_rfl) ?_
          refine doR rfl (o_st rfl Tryd.sizeOf27 rfl rfl rfl rfl rfl (by repeat (first | exact At.z | apply At.s)) (by repeat (first | exact Put.d | apply Put.t | apply Put.s)) (by repeat (first | exact SetAt.z | apply SetAt.s))) (TOk.x (by kernel_rfl) (TOk.x (by kernel_rfl) TOk.d)) ?_
          refine dn (by kernel_rfl) ?_
          refine nblock ?_
          refine nthen ?_
          refine cr ?_
          refine ls (op (p_add rfl rfl (by omega)) rfl) ?_
          refine ls (op (p_move rfl) rfl) ?_
          refine ln ?_
          refine nnext ⟨(1, (x1, s1, s2), (y1, z1, z2)), (by dsimp only; omega), step_1 (by decide) hrun hs, f1, (swap_fit2 hs f2 f3).1, (swap_fit2 hs f2 f3).2⟩ (by dsimp only; omega) (wk (is := [2, 2]) (by repeat (first | exact subσ.nil _ | refine subσ.cons rfl ?_)) rfl (by repeat (first | exact Sub.d | (refine Sub.s ?_ ?_; (repeat (first | exact In.z | apply In.s))) | (refine Sub.suf ?_; (repeat (first | exact Suf.z | apply Suf.s))))))
    ·
      refine cr ?_
      refine ls (op (p_idxa 1 (by decide) rfl Tryd.underlying46 Tryd.sizeOf3 Tryd.isAgg3 rfl rfl (by repeat (first | exact At.z | apply At.s))) rfl) ?_
      refine ls (op (p_asg rfl) rfl) ?_
      refine ln ?_
      refine nthen ?_
      refine cs ?_
      refine cutC (S' := fun a w => ∃ (b9 : Nat) (b10 : Nat) (z1 : Rp.Lay Prim) (z2 : Rp.Lay Prim) (s1 : Prim) (s2 : Prim) (s3 : Bool) (hs : (s1, s2, s3) = swap x1 x2), St M0 F0 w0 43 [(2, .pointer (some ⟨b2, 0, none⟩)), (4, .pointer (some ⟨b4, 0, none⟩)), (5, .bool false), (8, .int .i64 0), (9, .pointer (some ⟨b9, 0, none⟩)), (10, .pointer (some ⟨b10, 0, none⟩)), (11, .bool s3), (15, .agg #[.int .i64 1, .int .i64 0, .int .i64 1]), (16, .int .i64 ((1 : Nat) : Int))] [box b9 27 (Rp.enc s1 z1), box b10 27 (Rp.enc s2 z2), box b2 35 (E3 x1 x2 x3 y1 y2 y3), box b4 35 (E3 Prim.zero Prim.zero Prim.zero ((none, 0), (none, 0)) ((none, 0), (none, 0)) ((none, 0), (none, 0)))] (Rp.asn s1 z1 ++ (Rp.asn s2 z2 ++ (Rp.asn x1 y1 ++ (Rp.asn x2 y2 ++ Rp.asn x3 y3)))) a w) ?_ ?_
      ·
        refine cd [7, 12, 13, 14, 15] [(2, b2, 0 + 0 * 6, _), (6, b2, 0 + 1 * 6, _)] TrydX.mixed (TOk.t (isBoxS (by repeat (first | exact At.z | apply At.s)) (k := 6) (by repeat (first | exact Cut.d | apply Cut.t | apply Cut.s))) (TOk.t (isBoxS (by repeat (first | exact At.z | apply At.s)) (k := 6) (by repeat (first | exact Cut.d | apply Cut.t | apply Cut.s))) TOk.d)) ?_
        refine tk 0 rfl (by kernel_rfl) (fun _ _ _ h => h) gnone (TTany _) (p_move rfl) rfl ?_
        refine tk 1 rfl (by kernel_rfl) (fun _ _ _ h => h) gnone (TTany _) (p_iav 0 (by decide) rfl Tryd.underlying35 Tryd.sizeOf27 rfl rfl) rfl ?_
        refine tk 2 rfl (by kernel_rfl) (fun _ _ _ h => h) gnone (TTat (List.Mem.head _)) (p_lda Tryd.isAgg27 Tryd.sizeOf27 rfl rfl) rfl ?_
        refine tk 3 rfl (by kernel_rfl) (fun _ _ _ h => h) gnone (TTany _) (p_move rfl) rfl ?_
        refine tk 4 rfl (by kernel_rfl) (fun _ _ _ h => h) gnone (TTany _) (p_add rfl rfl (by omega)) rfl ?_
        refine tk 5 rfl (by kernel_rfl) (fun _ _ _ h => h) gnone (TTany _) (p_iav 1 (by decide) rfl Tryd.underlying35 Tryd.sizeOf27 rfl rfl) rfl ?_
        refine tk 6 rfl (by kernel_rfl) (fun _ _ _ h => h) gnone (TTat (List.Mem.tail _ (List.Mem.head _))) (p_lda Tryd.isAgg27 Tryd.sizeOf27 rfl rfl) rfl ?_
        refine dall (is := [7, 12, 13]) (by kernel_rfl) rfl ?_
        intro i hi; simp only [List.mem_cons, List.mem_nil_iff, or_false] at hi; rcases hi with rfl | rfl | rfl
        ·
          refine doR rfl (o_call (is := []) Tryd.call11 (c_Swap x1 x2 y1 y2 f1 f2) rfl rfl (by repeat (first | exact Sub.d | (refine Sub.s ?_ ?_; (repeat (first | exact In.z | apply In.s))) | (refine Sub.suf ?_; (repeat (first | exact Suf.z | apply Suf.s))))) rfl) (TOk.x (by kernel_rfl) (TOk.x (by kernel_rfl) TOk.d)) ?_
          refine ea ?_; rintro ⟨⟨⟨s1, s2, s3⟩, z1, z2⟩, hs⟩
          dsimp only at hs
          refine tk 8 rfl (by kernel_rfl) (fun _ _ _ h => h) gnone (TTany _) (p_move rfl) rfl ?_
          refine tk 9 rfl (by kernel_rfl) (fun _ _ _ h => h) gnone (TTany _) (p_ext rfl (by repeat (first | exact At.z | apply At.s))) rfl ?_
          refine tk 10 rfl (by kernel_rfl) (fun _ _ _ h => h) gnone (TTany _) (p_ext rfl (by repeat (first | exact At.z | apply At.s))) rfl ?_
          refine tk 11 rfl (by kernel_rfl) (fun _ _ _ h => h) gnone (TTany _) (p_ext rfl (by repeat (first | exact At.z | apply At.s))) rfl ?_
          refine dall (is := [12, 13]) (by kernel_rfl) rfl ?_
          intro i hi; simp only [List.mem_cons, List.mem_nil_iff, or_false] at hi; rcases hi with rfl | rfl
          ·
            refine doR rfl (o_alloc Tryd.zeroValue27 rfl rfl) (TOk.x (by kernel_rfl) (TOk.x (by kernel_rfl) TOk.d)) ?_
            refine ea ?_; intro b9
            refine df 13 (by kernel_rfl) ?_
            refine doR rfl (o_alloc Tryd.zeroValue27 rfl rfl) (TOk.x (by kernel_rfl) (TOk.x (by kernel_rfl) TOk.d)) ?_
            refine ea ?_; intro b10
            refine df 14 (by kernel_rfl) ?_
            refine doR rfl (o_st rfl Tryd.sizeOf27 rfl rfl rfl rfl rfl (by repeat (first | exact At.z | apply At.s)) (by repeat (first | exact Put.d | apply Put.t | apply Put.s)) (by repeat (first | exact SetAt.z | apply SetAt.s))) (TOk.x (by kernel_rfl) (TOk.x (by kernel_rfl) TOk.d)) ?_
            refine df 15 (by kernel_rfl) ?_
            refine doR rfl (o_st rfl Tryd.sizeOf27 rfl rfl rfl rfl rfl (by repeat (first | exact At.z | apply At.s)) (by repeat (first | exact Put.d | apply Put.t | apply Put.s)) (by repeat (first | exact SetAt.z | apply SetAt.s))) (TOk.x (by kernel_rfl) (TOk.x (by kernel_rfl) TOk.d)) ?_
            refine tk 16 rfl (by kernel_rfl) (fun _ _ _ h => h) gnone (TTany _) (p_asg rfl) rfl ?_
            refine dn (by kernel_rfl) (nmid (fun a w h => by first | exact ⟨b9, b10, z1, z2, s1, s2, s3, hs, wk (is := [0, 0, 0, 0]) (by repeat (first | exact subσ.nil _ | refine subσ.cons rfl ?_)) rfl (by repeat (first | exact Sub.d | (refine Sub.s ?_ ?_; (repeat (first | exact In.z | apply In.s))) | (refine Sub.suf ?_; (repeat (first | exact Suf.z | apply Suf.s))))) a w h⟩ | exact ⟨b9, b10, z1, z2, s1, s2, s3, hs, wk (is := [1, 0, 0, 0]) (by repeat (first | exact subσ.nil _ | refine subσ.cons rfl ?_)) rfl (by repeat (first | exact Sub.d | (refine Sub.s ?_ ?_; (repeat (first | exact In.z | apply In.s))) | (refine Sub.suf ?_; (repeat (first | exact Suf.z | apply Suf.s))))) a w h⟩))
          ·
            refine doR rfl (o_alloc Tryd.zeroValue27 rfl rfl) (TOk.x (by kernel_rfl) (TOk.x (by kernel_rfl) TOk.d)) ?_
            refine ea ?_; intro b10
            refine df 12 (by kernel_rfl) ?_
            refine doR rfl (o_alloc Tryd.zeroValue27 rfl rfl) (TOk.x (by kernel_rfl) (TOk.x (by kernel_rfl) TOk.d)) ?_
            refine ea ?_; intro b9
            refine df 14 (by kernel_rfl) ?_
            refine doR rfl (o_st rfl Tryd.sizeOf27 rfl rfl rfl rfl rfl (by repeat (first | exact At.z | apply At.s)) (by repeat (first | exact Put.d | apply Put.t | apply Put.s)) (by repeat (first | exact SetAt.z | apply SetAt.s))) (TOk.x (by kernel_rfl) (TOk.x (by kernel_rfl) TOk.d)) ?_
            refine df 15 (by kernel_rfl) ?_
            refine doR rfl (o_st rfl Tryd.sizeOf27 rfl rfl rfl rfl rfl (by repeat (first | exact At.z | apply At.s)) (by repeat (first | exact Put.d | apply Put.t | apply Put.s)) (by repeat (first | exact SetAt.z | apply SetAt.s))) (TOk.x (by kernel_rfl) (TOk.x (by kernel_rfl) TOk.d)) ?_
            refine tk 16 rfl (by kernel_rfl) (fun _ _ _ h => h) gnone (TTany _) (p_asg rfl) rfl ?_
            refine dn (by kernel_rfl) (nmid (fun a w h => by first | exact ⟨b9, b10, z1, z2, s1, s2, s3, hs, wk (is := [0, 0, 0, 0]) (by repeat (first | exact subσ.nil _ | refine subσ.cons rfl ?_)) rfl (by repeat (first | exact Sub.d | (refine Sub.s ?_ ?_; (repeat (first | exact In.z | apply In.s))) | (refine Sub.suf ?_; (repeat (first | exact Suf.z | apply Suf.s))))) a w h⟩ | exact ⟨b9, b10, z1, z2, s1, s2, s3, hs, wk (is := [1, 0, 0, 0]) (by repeat (first | exact subσ.nil _ | refine subσ.cons rfl ?_)) rfl (by repeat (first | exact Sub.d | (refine Sub.s ?_ ?_; (repeat (first | exact In.z | apply In.s))) | (refine Sub.suf ?_; (repeat (first | exact Suf.z | apply Suf.s))))) a w h⟩))
        ·
          refine doR rfl (o_alloc Tryd.zeroValue27 rfl rfl) (TOk.t (isBoxE fun _ => isBoxS (by repeat (first | exact At.z | apply At.s)) (k := 6) (by repeat (first | exact Cut.d | apply Cut.t | apply Cut.s))) (TOk.t (isBoxE fun _ => isBoxS (by repeat (first | exact At.z | apply At.s)) (k := 6) (by repeat (first | exact Cut.d | apply Cut.t | apply Cut.s))) TOk.d)) ?_
          refine ea ?_; intro b9
          refine dall (is := [7, 13]) (by kernel_rfl) rfl ?_
          intro i hi; simp only [List.mem_cons, List.mem_nil_iff, or_false] at hi; rcases hi with rfl | rfl
          ·
            refine doR rfl (o_call (is := []) Tryd.call11 (c_Swap x1 x2 y1 y2 f1 f2) rfl rfl (by repeat (first | exact Sub.d | (refine Sub.s ?_ ?_; (repeat (first | exact In.z | apply In.s))) | (refine Sub.suf ?_; (repeat (first | exact Suf.z | apply Suf.s))))) rfl) (TOk.x (by kernel_rfl) (TOk.x (by kernel_rfl) TOk.d)) ?_
            refine ea ?_; rintro ⟨⟨⟨s1, s2, s3⟩, z1, z2⟩, hs⟩
            dsimp only at hs
            refine tk 8 rfl (by kernel_rfl) (fun _ _ _ h => h) gnone (TTany _) (p_move rfl) rfl ?_
            refine tk 9 rfl (by kernel_rfl) (fun _ _ _ h => h) gnone (TTany _) (p_ext rfl (by repeat (first | exact At.z | apply At.s))) rfl ?_
            refine tk 10 rfl (by kernel_rfl) (fun _ _ _ h => h) gnone (TTany _) (p_ext rfl (by repeat (first | exact At.z | apply At.s))) rfl ?_
            refine tk 11 rfl (by kernel_rfl) (fun _ _ _ h => h) gnone (TTany _) (p_ext rfl (by repeat (first | exact At.z | apply At.s))) rfl ?_
            refine df 13 (by kernel_rfl) ?_
            refine doR rfl (o_alloc Tryd.zeroValue27 rfl rfl) (TOk.x (by kernel_rfl) (TOk.x (by kernel_rfl) TOk.d)) ?_
            refine ea ?_; intro b10
            refine df 14 (by kernel_rfl) ?_
            refine doR rfl (o_st rfl Tryd.sizeOf27 rfl rfl rfl rfl rfl (by repeat (first | exact At.z | apply At.s)) (by repeat (first | exact Put.d | apply Put.t | apply Put.s)) (by repeat (first | exact SetAt.z | apply SetAt.s))) (TOk.x (by kernel_rfl) (TOk.x (by kernel_rfl) TOk.d)) ?_
            refine df 15 (by kernel_rfl) ?_
            refine doR rfl (o_st rfl Tryd.sizeOf27 rfl rfl rfl rfl rfl (by repeat (first | exact At.z | apply At.s)) (by repeat (first | exact Put.d | apply Put.t | apply Put.s)) (by repeat (first | exact SetAt.z | apply SetAt.s))) (TOk.x (by kernel_rfl) (TOk.x (by kernel_rfl) TOk.d)) ?_
            refine tk 16 rfl (by kernel_rfl) (fun _ _ _ h => h) gnone (TTany _) (p_asg rfl) rfl ?_
            refine dn (by kernel_rfl) (nmid (fun a w h => by first | exact ⟨b9, b10, z1, z2, s1, s2, s3, hs, wk (is := [0, 0, 0, 0]) (by repeat (first | exact subσ.nil _ | refine subσ.cons rfl ?_)) rfl (by repeat (first | exact Sub.d | (refine Sub.s ?_ ?_; (repeat (first | exact In.z | apply In.s))) | (refine Sub.suf ?_; (repeat (first | exact Suf.z | apply Suf.s))))) a w h⟩ | exact ⟨b9, b10, z1, z2, s1, s2, s3, hs, wk (is := [1, 0, 0, 0]) (by repeat (first | exact subσ.nil _ | refine subσ.cons rfl ?_)) rfl (by repeat (first | exact Sub.d | (refine Sub.s ?_ ?_; (repeat (first | exact In.z | apply In.s))) | (refine Sub.suf ?_; (repeat (first | exact Suf.z | apply Suf.s))))) a w h⟩))
          ·
            refine doR rfl (o_alloc Tryd.zeroValue27 rfl rfl) (TOk.t (isBoxE fun _ => isBoxS (by repeat (first | exact At.z | apply At.s)) (k := 6) (by repeat (first | exact Cut.d | apply Cut.t | apply Cut.s))) (TOk.t (isBoxE fun _ => isBoxS (by repeat (first | exact At.z | apply At.s)) (k := 6) (by repeat (first | exact Cut.d | apply Cut.t | apply Cut.s))) TOk.d)) ?_
            refine ea ?_; intro b10
            refine df 7 (by kernel_rfl) ?_
            refine doR rfl (o_call (is := []) Tryd.call11 (c_Swap x1 x2 y1 y2 f1 f2) rfl rfl (by repeat (first | exact Sub.d | (refine Sub.s ?_ ?_; (repeat (first | exact In.z | apply In.s))) | (refine Sub.suf ?_; (repeat (first | exact Suf.z | apply Suf.s))))) rfl) (TOk.x (by kernel_rfl) (TOk.x (by kernel_rfl) TOk.d)) ?_
            refine ea ?_; rintro ⟨⟨⟨s1, s2, s3⟩, z1, z2⟩, hs⟩
            dsimp only at hs
            refine tk 8 rfl (by kernel_rfl) (fun _ _ _ h => h) gnone (TTany _) (p_move rfl) rfl ?_
            refine tk 9 rfl (by kernel_rfl) (fun _ _ _ h => h) gnone (TTany _) (p_ext rfl (by repeat (first | exact At.z | apply At.s))) rfl ?_
            refine tk 10 rfl (by kernel_rfl) (fun _ _ _ h => h) gnone (TTany _) (p_ext rfl (by repeat (first | exact At.z | apply At.s))) rfl ?_
            refine tk 11 rfl (by kernel_rfl) (fun _ _ _ h => h) gnone (TTany _) (p_ext rfl (by repeat (first | exact At.z | apply At.s))) rfl ?_
            refine df 14 (by kernel_rfl) ?_
            refine doR rfl (o_st rfl Tryd.sizeOf27 rfl rfl rfl rfl rfl (by repeat (first | exact At.z | apply At.s)) (by repeat (first | exact Put.d | apply Put.t | apply Put.s)) (by repeat (first | exact SetAt.z | apply SetAt.s))) (TOk.x (by kernel_rfl) (TOk.x (by kernel_rfl) TOk.d)) ?_
            refine df 15 (by kernel_rfl) ?_
            refine doR rfl (o_st rfl Tryd.sizeOf27 rfl rfl rfl rfl rfl (by repeat (first | exact At.z | apply At.s)) (by repeat (first | exact Put.d | apply Put.t | apply Put.s)) (by repeat (first | exact SetAt.z | apply SetAt.s))) (TOk.x (by kernel_rfl) (TOk.x (by kernel_rfl) TOk.d)) ?_
            refine tk 16 rfl (by kernel_rfl) (fun _ _ _ h => h) gnone (TTany _) (p_asg rfl) rfl ?_
            refine dn (by kernel_rfl) (nmid (fun a w h => by first | exact ⟨b9, b10, z1, z2, s1, s2, s3, hs, wk (is := [0, 0, 0, 0]) (by repeat (first | exact subσ.nil _ | refine subσ.cons rfl ?_)) rfl (by repeat (first | exact Sub.d | (refine Sub.s ?_ ?_; (repeat (first | exact In.z | apply In.s))) | (refine Sub.suf ?_; (repeat (first | exact Suf.z | apply Suf.s))))) a w h⟩ | exact ⟨b9, b10, z1, z2, s1, s2, s3, hs, wk (is := [1, 0, 0, 0]) (by repeat (first | exact subσ.nil _ | refine subσ.cons rfl ?_)) rfl (by repeat (first | exact Sub.d | (refine Sub.s ?_ ?_; (repeat (first | exact In.z | apply In.s))) | (refine Sub.suf ?_; (repeat (first | exact Suf.z | apply Suf.s))))) a w h⟩))
        ·
          refine doR rfl (o_alloc Tryd.zeroValue27 rfl rfl) (TOk.t (isBoxE fun _ => isBoxS (by repeat (first | exact At.z | apply At.s)) (k := 6) (by repeat (first | exact Cut.d | apply Cut.t | apply Cut.s))) (TOk.t (isBoxE fun _ => isBoxS (by repeat (first | exact At.z | apply At.s)) (k := 6) (by repeat (first | exact Cut.d | apply Cut.t | apply Cut.s))) TOk.d)) ?_
          refine ea ?_; intro b10
          refine dall (is := [7, 12]) (by kernel_rfl) rfl ?_
          intro i hi; simp only [List.mem_cons, List.mem_nil_iff, or_false] at hi; rcases hi with rfl | rfl
          ·
            refine doR rfl (o_call (is := []) Tryd.call11 (c_Swap x1 x2 y1 y2 f1 f2) rfl rfl (by repeat (first | exact Sub.d | (refine Sub.s ?_ ?_; (repeat (first | exact In.z | apply In.s))) | (refine Sub.suf ?_; (repeat (first | exact Suf.z | apply Suf.s))))) rfl) (TOk.x (by kernel_rfl) (TOk.x (by kernel_rfl) TOk.d)) ?_
            refine ea ?_; rintro ⟨⟨⟨s1, s2, s3⟩, z1, z2⟩, hs⟩
            dsimp only at hs
            refine tk 8 rfl (by kernel_rfl) (fun _ _ _ h => h) gnone (TTany _) (p_move rfl) rfl ?_
            refine tk 9 rfl (by kernel_rfl) (fun _ _ _ h => h) gnone (TTany _) (p_ext rfl (by repeat (first | exact At.z | apply At.s))) rfl ?_
            refine tk 10 rfl (by kernel_rfl) (fun _ _ _ h => h) gnone (TTany _) (p_ext rfl (by repeat (first | exact At.z | apply At.s))) rfl ?_
            refine tk 11 rfl (by kernel_rfl) (fun _ _ _ h => h) gnone (TTany _) (p_ext rfl (by repeat (first | exact At.z | apply At.s))) rfl ?_
            refine df 12 (by kernel_rfl) ?_
            refine doR rfl (o_alloc Tryd.zeroValue27 rfl rfl) (TOk.x (by kernel_rfl) (TOk.x (by kernel_rfl) TOk.d)) ?_
            refine ea ?_; intro b9
            refine df 14 (by kernel_rfl) ?_
            refine doR rfl (o_st rfl Tryd.sizeOf27 rfl rfl rfl rfl rfl (by repeat (first | exact At.z | apply At.s)) (by repeat (first | exact Put.d | apply Put.t | apply Put.s)) (by repeat (first | exact SetAt.z | apply SetAt.s))) (TOk.x (by kernel_rfl) (TOk.x (by kernel_rfl) TOk.d)) ?_
            refine df 15 (by kernel_rfl) ?_
            refine doR rfl (o_st rfl Tryd.sizeOf27 rfl rfl rfl rfl rfl (by repeat (first | exact At.z | apply At.s)) (by repeat (first | exact Put.d | apply Put.t | apply Put.s)) (by repeat (first | exact SetAt.z | apply SetAt.s))) (TOk.x (by kernel_rfl) (TOk.x (by kernel_rfl) TOk.d)) ?_
            refine tk 16 rfl (by kernel_rfl) (fun _ _ _ h => h) gnone (TTany _) (p_asg rfl) rfl ?_
            refine dn (by kernel_rfl) (nmid (fun a w h => by first | exact ⟨b9, b10, z1, z2, s1, s2, s3, hs, wk (is := [0, 0, 0, 0]) (by repeat (first | exact subσ.nil _ | refine subσ.cons rfl ?_)) rfl (by repeat (first | exact Sub.d | (refine Sub.s ?_ ?_; (repeat (first | exact In.z | apply In.s))) | (refine Sub.suf ?_; (repeat (first | exact Suf.z | apply Suf.s))))) a w h⟩ | exact ⟨b9, b10, z1, z2, s1, s2, s3, hs, wk (is := [1, 0, 0, 0]) (by repeat (first | exact subσ.nil _ | refine subσ.cons rfl ?_)) rfl (by repeat (first | exact Sub.d | (refine Sub.s ?_ ?_; (repeat (first | exact In.z | apply In.s))) | (refine Sub.suf ?_; (repeat (first | exact Suf.z | apply Suf.s))))) a w h⟩))
          ·
            refine doR rfl (o_alloc Tryd.zeroValue27 rfl rfl) (TOk.t (isBoxE fun _ => isBoxS (by repeat (first | exact At.z | apply At.s)) (k := 6) (by repeat (first | exact Cut.d | apply Cut.t | apply Cut.s))) (TOk.t (isBoxE fun _ => isBoxS (by repeat (first | exact At.z | apply At.s)) (k := 6) (by repeat (first | exact Cut.d | apply Cut.t | apply Cut.s))) TOk.d)) ?_
            refine ea ?_; intro b9
            refine df 7 (by kernel_rfl) ?_
            refine doR rfl (o_call (is := []) Tryd.call11 (c_Swap x1 x2 y1 y2 f1 f2) rfl rfl (by repeat (first | exact Sub.d | (refine Sub.s ?_ ?_; (repeat (first | exact In.z | apply In.s))) | (refine Sub.suf ?_; (repeat (first | exact Suf.z | apply Suf.s))))) rfl) (TOk.x (by kernel_rfl) (TOk.x (by kernel_rfl) TOk.d)) ?_
            refine ea ?_; rintro ⟨⟨⟨s1, s2, s3⟩, z1, z2⟩, hs⟩
            dsimp only at hs
            refine tk 8 rfl (by kernel_rfl) (fun _ _ _ h => h) gnone (TTany _) (p_move rfl) rfl ?_
            refine tk 9 rfl (by kernel_rfl) (fun _ _ _ h => h) gnone (TTany _) (p_ext rfl (by repeat (first | exact At.z | apply At.s))) rfl ?_
            refine tk 10 rfl (by kernel_rfl) (fun _ _ _ h => h) gnone (TTany _) (p_ext rfl (by repeat (first | exact At.z | apply At.s))) rfl ?_
            refine tk 11 rfl (by kernel_rfl) (fun _ _ _ h => h) gnone (TTany _) (p_ext rfl (by repeat (first | exact At.z | apply At.s))) rfl ?_
            refine df 14 (by kernel_rfl) ?_
            refine doR rfl (o_st rfl Tryd.sizeOf27 rfl rfl rfl rfl rfl (by repeat (first | exact At.z | apply At.s)) (by repeat (first | exact Put.d | apply Put.t | apply Put.s)) (by repeat (first | exact SetAt.z | apply SetAt.s))) (TOk.x (by kernel_rfl) (TOk.x (by kernel_rfl) TOk.d)) ?_
            refine df 15 (by kernel_rfl) ?_
            refine doR rfl (o_st rfl Tryd.sizeOf27 rfl rfl rfl rfl rfl (by repeat (first | exact At.z | apply At.s)) (by repeat (first | exact Put.d | apply Put.t | apply Put.s)) (by repeat (first | exact SetAt.z | apply SetAt.s))) (TOk.x (by kernel_rfl) (TOk.x (by kernel_rfl) TOk.d)) ?_
            refine tk 16 rfl (by kernel_rfl) (fun _ _ _ h => h) gnone (TTany _) (p_asg rfl) rfl ?_
            refine dn (by kernel_rfl) (nmid (fun a w h => by first | exact ⟨b9, b10, z1, z2, s1, s2, s3, hs, wk (is := [0, 0, 0, 0]) (by repeat (first | exact subσ.nil _ | refine subσ.cons rfl ?_)) rfl (by repeat (first | exact Sub.d | (refine Sub.s ?_ ?_; (repeat (first | exact In.z | apply In.s))) | (refine Sub.suf ?_; (repeat (first | exact Suf.z | apply Suf.s))))) a w h⟩ | exact ⟨b9, b10, z1, z2, s1, s2, s3, hs, wk (is := [1, 0, 0, 0]) (by repeat (first | exact subσ.nil _ | refine subσ.cons rfl ?_)) rfl (by repeat (first | exact Sub.d | (refine Sub.s ?_ ?_; (repeat (first | exact In.z | apply In.s))) | (refine Sub.suf ?_; (repeat (first | exact Suf.z | apply Suf.s))))) a w h⟩))
      ·
        refine nex fun b9 => nex fun b10 => nex fun z1 => nex fun z2 => nex fun s1 => nex fun s2 => nex fun s3 => nex fun hs => ?_
        refine nthen ?_
        refine cs ?_
        refine cs ?_
        refine cr ?_
        refine ls (op (p_move rfl) rfl) ?_
        refine ls (op (p_not rfl) rfl) ?_
        refine ln ?_
        refine nthen ?_
        refine cc rfl ?_ ?_
        · intro h32
          have h32' : s3 = false := by simpa using h32
          subst h32'
          refine cs ?_
          refine cmono (fun a w h => nilSl (α := ByteArray) h) ?_
          refine cr ?_
          refine ls (o_ldw Tryd.isAgg35 Tryd.sizeOf35 rfl (by repeat (first | exact At.z | apply At.s)) (by rfl) rfl) ?_
          refine ls (o_st rfl Tryd.sizeOf35 rfl rfl rfl rfl rfl (by repeat (first | exact At.z | apply At.s)) (by repeat (first | exact Put.d | apply Put.t | apply Put.s)) (by repeat (first | exact SetAt.z | apply SetAt.s))) ?_
          refine ls (op (p_asg rfl) rfl) ?_
          refine ln ?_
          refine nthen ?_
          refine cret ?_
          refine xret (fun _ _ h => h) ?_
          refine rret (is := []) ⟨(((Prim.zero, Prim.zero, Prim.zero), false), (((none, 0), (none, 0)), ((none, 0), (none, 0)), ((none, 0), (none, 0)))), fail_0 (by decide) (by decide) hrun hs, (fun e => by cases e)⟩ (Or.inl rfl) (Res.c rfl Tryd.isAgg35 Tryd.sizeOf35 (by repeat (first | exact At.z | apply At.s)) (by rfl) (Res.t rfl Res.d)) (rfl) rfl (by repeat (first | exact Sub.d | (refine Sub.s ?_ ?_; (repeat (first | exact In.z | apply In.s))) | (refine Sub.suf ?_; (repeat (first | exact Suf.z | apply Suf.s)))))
        · intro h32
          obtain rfl : true = s3 := by cases s3 <;> first | rfl | (simp at h32)
          refine cskip ?_
          refine nthen ?_
          refine cd [6, 8] [(3, b9, 0, _), (4, b10, 0, _)] TrydX.mixed (TOk.t (isBoxS (by repeat (first | exact At.z | apply At.s)) (k := 6) (by repeat (first | exact Cut.d | apply Cut.t | apply Cut.s))) (TOk.t (isBoxS (by repeat (first | exact At.z | apply At.s)) (k := 6) (by repeat (first | exact Cut.d | apply Cut.t | apply Cut.s))) TOk.d)) ?_
          refine tk 0 rfl (by kernel_rfl) (fun _ _ _ h => h) gnone (TTany _) (p_move rfl) rfl ?_
          refine tk 1 rfl (by kernel_rfl) (fun _ _ _ h => h) gnone (TTany _) (p_move rfl) rfl ?_
          refine tk 2 rfl (by kernel_rfl) (fun _ _ _ h => h) gnone (TTany _) (p_add rfl rfl (by omega)) rfl ?_
          refine tk 3 rfl (by kernel_rfl) (fun _ _ _ h => h) gnone (TTat (List.Mem.head _)) (p_lda Tryd.isAgg27 Tryd.sizeOf27 rfl rfl) rfl ?_
          refine tk 4 rfl (by kernel_rfl) (fun _ _ _ h => h) gnone (TTat (List.Mem.tail _ (List.Mem.head _))) (p_lda Tryd.isAgg27 Tryd.sizeOf27 rfl rfl) rfl ?_
          refine tk 5 rfl (by kernel_rfl) (fun _ _ _ h => h) gnone (TTany _) (p_iav 0 (by decide) rfl Tryd.underlying35 Tryd.sizeOf27 rfl rfl) rfl ?_
          refine df 6 (by kernel_rfl) ?_
          refine doR rfl (o_st rfl Tryd.sizeOf27 rfl rfl rfl rfl rfl (by repeat (first | exact At.z | apply At.s)) (by repeat (first | exact Put.d | apply Put.t | apply Put.s)) (by repeat (first | exact SetAt.z | apply SetAt.s))) (TOk.x (by kernel_rfl) (TOk.t (isBoxS (by repeat (first | exact At.z | apply At.s)) (k := 6) (by repeat (first | exact Cut.d | apply Cut.t | apply Cut.s))) TOk.d)) ?_
          refine tk 7 rfl (by kernel_rfl) (fun _ _ _ h => h) gnone (TTany _) (p_iav 1 (by decide) rfl Tryd.underlying35 Tryd.sizeOf27 rfl rfl) rfl ?_
          refine df 8 (by kernel_rfl) ?_
          refine doR rfl (o_st rfl Tryd.sizeOf27 rfl rfl rfl rfl rfl (by repeat (first | exact At.z | apply At.s)) (by repeat (first | exact Put.d | apply Put.t | apply Put.s)) (by repeat (first | exact SetAt.z | apply SetAt.s))) (TOk.x (by kernel_rfl) (TOk.x (by kernel_rfl) TOk.d)) ?_
          refine dn (by kernel_rfl) ?_
          refine nblock ?_
          refine nthen ?_
          refine cr ?_
          refine ls (op (p_add rfl rfl (by omega)) rfl) ?_
          refine ls (op (p_move rfl) rfl) ?_
          refine ln ?_
          refine nnext ⟨(2, (s1, s2, x3), (z1, z2, y3)), (by dsimp only; omega), step_0 (by decide) hrun hs, (swap_fit2 hs f1 f2).1, (swap_fit2 hs f1 f2).2, f3⟩ (by dsimp only; omega) (wk (is := [2, 2]) (by repeat (first | exact subσ.nil _ | refine subσ.cons rfl ?_)) rfl (by repeat (first | exact Sub.d | (refine Sub.s ?_ ?_; (repeat (first | exact In.z | apply In.s))) | (refine Sub.suf ?_; (repeat (first | exact Suf.z | apply Suf.s))))))
    ·
      refine cr ?_
      refine ls (op (p_idxa 2 (by decide) rfl Tryd.underlying46 Tryd.sizeOf3 Tryd.isAgg3 rfl rfl (by repeat (first | exact At.z | apply At.s))) rfl) ?_
      refine ls (op (p_asg rfl) rfl) ?_
      refine ln ?_
      refine nthen ?_
      refine cs ?_
      refine cutC (S' := fun a w => ∃ (b9 : Nat) (b10 : Nat) (z1 : Rp.Lay Prim) (z2 : Rp.Lay Prim) (s1 : Prim) (s2 : Prim) (s3 : Bool) (hs : (s1, s2, s3) = swap x2 x3), St M0 F0 w0 43 [(2, .pointer (some ⟨b2, 0, none⟩)), (4, .pointer (some ⟨b4, 0, none⟩)), (5, .bool false), (8, .int .i64 1), (9, .pointer (some ⟨b9, 0, none⟩)), (10, .pointer (some ⟨b10, 0, none⟩)), (11, .bool s3), (15, .agg #[.int .i64 1, .int .i64 0, .int .i64 1]), (16, .int .i64 ((2 : Nat) : Int))] [box b9 27 (Rp.enc s1 z1), box b10 27 (Rp.enc s2 z2), box b2 35 (E3 x1 x2 x3 y1 y2 y3), box b4 35 (E3 Prim.zero Prim.zero Prim.zero ((none, 0), (none, 0)) ((none, 0), (none, 0)) ((none, 0), (none, 0)))] (Rp.asn s1 z1 ++ (Rp.asn s2 z2 ++ (Rp.asn x1 y1 ++ (Rp.asn x2 y2 ++ Rp.asn x3 y3)))) a w) ?_ ?_
      ·
        refine cd [7, 12, 13, 14, 15] [(2, b2, 0 + 1 * 6, _), (6, b2, 0 + 2 * 6, _)] TrydX.mixed (TOk.t (isBoxS (by repeat (first | exact At.z | apply At.s)) (k := 6) (by repeat (first | exact Cut.d | apply Cut.t | apply Cut.s))) (TOk.t (isBoxS (by repeat (first | exact At.z | apply At.s)) (k := 6) (by repeat (first | exact Cut.d | apply Cut.t | apply Cut.s))) TOk.d)) ?_
        refine tk 0 rfl (by kernel_rfl) (fun _ _ _ h => h) gnone (TTany _) (p_move rfl) rfl ?_
        refine tk 1 rfl (by kernel_rfl) (fun _ _ _ h => h) gnone (TTany _) (p_iav 1 (by decide) rfl Tryd.underlying35 Tryd.sizeOf27 rfl rfl) rfl ?_
        refine tk 2 rfl (by kernel_rfl) (fun _ _ _ h => h) gnone (TTat (List.Mem.head _)) (p_lda Tryd.isAgg27 Tryd.sizeOf27 rfl rfl) rfl ?_
        refine tk 3 rfl (by kernel_rfl) (fun _ _ _ h => h) gnone (TTany _) (p_move rfl) rfl ?_
        refine tk 4 rfl (by kernel_rfl) (fun _ _ _ h => h) gnone (TTany _) (p_add rfl rfl (by omega)) rfl ?_
        refine tk 5 rfl (by kernel_rfl) (fun _ _ _ h => h) gnone (TTany _) (p_iav 2 (by decide) rfl Tryd.underlying35 Tryd.sizeOf27 rfl rfl) rfl ?_
        refine tk 6 rfl (by kernel_rfl) (fun _ _ _ h => h) gnone (TTat (List.Mem.tail _ (List.Mem.head _))) (p_lda Tryd.isAgg27 Tryd.sizeOf27 rfl rfl) rfl ?_
        refine dall (is := [7, 12, 13]) (by kernel_rfl) rfl ?_
        intro i hi; simp only [List.mem_cons, List.mem_nil_iff, or_false] at hi; rcases hi with rfl | rfl | rfl
        ·
          refine doR rfl (o_call (is := []) Tryd.call11 (c_Swap x2 x3 y2 y3 f2 f3) rfl rfl (by repeat (first | exact Sub.d | (refine Sub.s ?_ ?_; (repeat (first | exact In.z | apply In.s))) | (refine Sub.suf ?_; (repeat (first | exact Suf.z | apply Suf.s))))) rfl) (TOk.x (by kernel_rfl) (TOk.x (by kernel_rfl) TOk.d)) ?_
          refine ea ?_; rintro ⟨⟨⟨s1, s2, s3⟩, z1, z2⟩, hs⟩
          dsimp only at hs
          refine tk 8 rfl (by kernel_rfl) (fun _ _ _ h => h) gnone (TTany _) (p_move rfl) rfl ?_
          refine tk 9 rfl (by kernel_rfl) (fun _ _ _ h => h) gnone (TTany _) (p_ext rfl (by repeat (first | exact At.z | apply At.s))) rfl ?_
          refine tk 10 rfl (by kernel_rfl) (fun _ _ _ h => h) gnone (TTany _) (p_ext rfl (by repeat (first | exact At.z | apply At.s))) rfl ?_
          refine tk 11 rfl (by kernel_rfl) (fun _ _ _ h => h) gnone (TTany _) (p_ext rfl (by repeat (first | exact At.z | apply At.s))) rfl ?_
          refine dall (is := [12, 13]) (by kernel_rfl) rfl ?_
          intro i hi; simp only [List.mem_cons, List.mem_nil_iff, or_false] at hi; rcases hi with rfl | rfl
          ·
            refine doR rfl (o_alloc Tryd.zeroValue27 rfl rfl) (TOk.x (by kernel_rfl) (TOk.x (by kernel_rfl) TOk.d)) ?_
            refine ea ?_; intro b9
            refine df 13 (by kernel_rfl) ?_
            refine doR rfl (o_alloc Tryd.zeroValue27 rfl rfl) (TOk.x (by kernel_rfl) (TOk.x (by kernel_rfl) TOk.d)) ?_
            refine ea ?_; intro b10
            refine df 14 (by kernel_rfl) ?_
            refine doR rfl (o_st rfl Tryd.sizeOf27 rfl rfl rfl rfl rfl (by repeat (first | exact At.z | apply At.s)) (by repeat (first | exact Put.d | apply Put.t | apply Put.s)) (by repeat (first | exact SetAt.z | apply SetAt.s))) (TOk.x (by kernel_rfl) (TOk.x (by kernel_rfl) TOk.d)) ?_
            refine df 15 (by kernel_rfl) ?_
            refine doR rfl (o_st rfl Tryd.sizeOf27 rfl rfl rfl rfl rfl (by repeat (first | exact At.z | apply At.s)) (by repeat (first | exact Put.d | apply Put.t | apply Put.s)) (by repeat (first | exact SetAt.z | apply SetAt.s))) (TOk.x (by kernel_rfl) (TOk.x (by kernel_rfl) TOk.d)) ?_
            refine tk 16 rfl (by kernel_rfl) (fun _ _ _ h => h) gnone (TTany _) (p_asg rfl) rfl ?_
            refine dn (by kernel_rfl) (nmid (fun a w h => by first | exact ⟨b9, b10, z1, z2, s1, s2, s3, hs, wk (is := [0, 0, 0, 0]) (by repeat (first | exact subσ.nil _ | refine subσ.cons rfl ?_)) rfl (by repeat (first | exact Sub.d | (refine Sub.s ?_ ?_; (repeat (first | exact In.z | apply In.s))) | (refine Sub.suf ?_; (repeat (first | exact Suf.z | apply Suf.s))))) a w h⟩ | exact ⟨b9, b10, z1, z2, s1, s2, s3, hs, wk (is := [1, 0, 0, 0]) (by repeat (first | exact subσ.nil _ | refine subσ.cons rfl ?_)) rfl (by repeat (first | exact Sub.d | (refine Sub.s ?_ ?_; (repeat (first | exact In.z | apply In.s))) | (refine Sub.suf ?_; (repeat (first | exact Suf.z | apply Suf.s))))) a w h⟩))
          ·
            refine doR rfl (o_alloc Tryd.zeroValue27 rfl rfl) (TOk.x (by kernel_rfl) (TOk.x (by kernel_rfl) TOk.d)) ?_
            refine ea ?_; intro b10
            refine df 12 (by kernel_rfl) ?_
            refine doR rfl (o_alloc Tryd.zeroValue27 rfl rfl) (TOk.x (by kernel_rfl) (TOk.x (by kernel_rfl) TOk.d)) ?_
            refine ea ?_; intro b9
            refine df 14 (by kernel_rfl) ?_
            refine doR rfl (o_st rfl Tryd.sizeOf27 rfl rfl rfl rfl rfl (by repeat (first | exact At.z | apply At.s)) (by repeat (first | exact Put.d | apply Put.t | apply Put.s)) (by repeat (first | exact SetAt.z | apply SetAt.s))) (TOk.x (by kernel_rfl) (TOk.x (by kernel_rfl) TOk.d)) ?_
            refine df 15 (by kernel_rfl) ?_
            refine doR rfl (o_st rfl Tryd.sizeOf27 rfl rfl rfl rfl rfl (by repeat (first | exact At.z | apply At.s)) (by repeat (first | exact Put.d | apply Put.t | apply Put.s)) (by repeat (first | exact SetAt.z | apply SetAt.s))) (TOk.x (by kernel_rfl) (TOk.x (by kernel_rfl) TOk.d)) ?_
            refine tk 16 rfl (by kernel_rfl) (fun _ _ _ h => h) gnone (TTany _) (p_asg rfl) rfl ?_
            refine dn (by kernel_rfl) (nmid (fun a w h => by first | exact ⟨b9, b10, z1, z2, s1, s2, s3, hs, wk (is := [0, 0, 0, 0]) (by repeat (first | exact subσ.nil _ | refine subσ.cons rfl ?_)) rfl (by repeat (first | exact Sub.d | (refine Sub.s ?_ ?_; (repeat (first | exact In.z | apply In.s))) | (refine Sub.suf ?_; (repeat (first | exact Suf.z | apply Suf.s))))) a w h⟩ | exact ⟨b9, b10, z1, z2, s1, s2, s3, hs, wk (is := [1, 0, 0, 0]) (by repeat (first | exact subσ.nil _ | refine subσ.cons rfl ?_)) rfl (by repeat (first | exact Sub.d | (refine Sub.s ?_ ?_; (repeat (first | exact In.z | apply In.s))) | (refine Sub.suf ?_; (repeat (first | exact Suf.z | apply Suf.s))))) a w h⟩))
        ·
          refine doR rfl (o_alloc Tryd.zeroValue27 rfl rfl) (TOk.t (isBoxE fun _ => isBoxS (by repeat (first | exact At.z | apply At.s)) (k := 6) (by repeat (first | exact Cut.d | apply Cut.t | apply Cut.s))) (TOk.t (isBoxE fun _ => isBoxS (by repeat (first | exact At.z | apply At.s)) (k := 6) (by repeat (first | exact Cut.d | apply Cut.t | apply Cut.s))) TOk.d)) ?_
          refine ea ?_; intro b9
          refine dall (is := [7, 13]) (by kernel_rfl) rfl ?_
          intro i hi; simp only [List.mem_cons, List.mem_nil_iff, or_false] at hi; rcases hi with rfl | rfl
          ·
            refine doR rfl (o_call (is := []) Tryd.call11 (c_Swap x2 x3 y2 y3 f2 f3) rfl rfl (by repeat (first | exact Sub.d | (refine Sub.s ?_ ?_; (repeat (first | exact In.z | apply In.s))) | (refine Sub.suf ?_; (repeat (first | exact Suf.z | apply Suf.s))))) rfl) (TOk.x (by kernel_rfl) (TOk.x (by kernel_rfl) TOk.d)) ?_
            refine ea ?_; rintro ⟨⟨⟨s1, s2, s3⟩, z1, z2⟩, hs⟩
            dsimp only at hs
            refine tk 8 rfl (by kernel_rfl) (fun _ _ _ h => h) gnone (TTany _) (p_move rfl) rfl ?_
            refine tk 9 rfl (by kernel_rfl) (fun _ _ _ h => h) gnone (TTany _) (p_ext rfl (by repeat (first | exact At.z | apply At.s))) rfl ?_
            refine tk 10 rfl (by kernel_rfl) (fun _ _ _ h => h) gnone (TTany _) (p_ext rfl (by repeat (first | exact At.z | apply At.s))) rfl ?_
            refine tk 11 rfl (by kernel_rfl) (fun _ _ _ h => h) gnone (TTany _) (p_ext rfl (by repeat (first | exact At.z | apply At.s))) rfl ?_
            refine df 13 (by kernel_rfl) ?_
            refine doR rfl (o_alloc Tryd.zeroValue27 rfl rfl) (TOk.x (by kernel_rfl) (TOk.x (by kernel_rfl) TOk.d)) ?_
            refine ea ?_; intro b10
            refine df 14 (by kernel_rfl) ?_
            refine doR rfl (o_st rfl Tryd.sizeOf27 rfl rfl rfl rfl rfl (by repeat (first | exact At.z | apply At.s)) (by repeat (first | exact Put.d | apply Put.t | apply Put.s)) (by repeat (first | exact SetAt.z | apply SetAt.s))) (TOk.x (by kernel_rfl) (TOk.x (by kernel_rfl) TOk.d)) ?_
            refine df 15 (by kernel_rfl) ?_
            refine doR rfl (o_st rfl Tryd.sizeOf27 rfl rfl rfl rfl rfl (by repeat (first | exact At.z | apply At.s)) (by repeat (first | exact Put.d | apply Put.t | apply Put.s)) (by repeat (first | exact SetAt.z | apply SetAt.s))) (TOk.x (by kernel_rfl) (TOk.x (by kernel_rfl) TOk.d)) ?_
            refine tk 16 rfl (by kernel_rfl) (fun _ _ _ h => h) gnone (TTany _) (p_asg rfl) rfl ?_
            refine dn (by kernel_rfl) (nmid (fun a w h => by first | exact ⟨b9, b10, z1, z2, s1, s2, s3, hs, wk (is := [0, 0, 0, 0]) (by repeat (first | exact subσ.nil _ | refine subσ.cons rfl ?_)) rfl (by repeat (first | exact Sub.d | (refine Sub.s ?_ ?_; (repeat (first | exact In.z | apply In.s))) | (refine Sub.suf ?_; (repeat (first | exact Suf.z | apply Suf.s))))) a w h⟩ | exact ⟨b9, b10, z1, z2, s1, s2, s3, hs, wk (is := [1, 0, 0, 0]) (by repeat (first | exact subσ.nil _ | refine subσ.cons rfl ?_)) rfl (by repeat (first | exact Sub.d | (refine Sub.s ?_ ?_; (repeat (first | exact In.z | apply In.s))) | (refine Sub.suf ?_; (repeat (first | exact Suf.z | apply Suf.s))))) a w h⟩))
          ·
            refine doR rfl (o_alloc Tryd.zeroValue27 rfl rfl) (TOk.t (isBoxE fun _ => isBoxS (by repeat (first | exact At.z | apply At.s)) (k := 6) (by repeat (first | exact Cut.d | apply Cut.t | apply Cut.s))) (TOk.t (isBoxE fun _ => isBoxS (by repeat (first | exact At.z | apply At.s)) (k := 6) (by repeat (first | exact Cut.d | apply Cut.t | apply Cut.s))) TOk.d)) ?_
            refine ea ?_; intro b10
            refine df 7 (by kernel_rfl) ?_
            refine doR rfl (o_call (is := []) Tryd.call11 (c_Swap x2 x3 y2 y3 f2 f3) rfl rfl (by repeat (first | exact Sub.d | (refine Sub.s ?_ ?_; (repeat (first | exact In.z | apply In.s))) | (refine Sub.suf ?_; (repeat (first | exact Suf.z | apply Suf.s))))) rfl) (TOk.x (by kernel_rfl) (TOk.x (by kernel_rfl) TOk.d)) ?_
            refine ea ?_; rintro ⟨⟨⟨s1, s2, s3⟩, z1, z2⟩, hs⟩
            dsimp only at hs
            refine tk 8 rfl (by kernel_rfl) (fun _ _ _ h => h) gnone (TTany _) (p_move rfl) rfl ?_
            refine tk 9 rfl (by kernel_rfl) (fun _ _ _ h => h) gnone (TTany _) (p_ext rfl (by repeat (first | exact At.z | apply At.s))) rfl ?_
            refine tk 10 rfl (by kernel_rfl) (fun _ _ _ h => h) gnone (TTany _) (p_ext rfl (by repeat (first | exact At.z | apply At.s))) rfl ?_
            refine tk 11 rfl (by kernel_rfl) (fun _ _ _ h => h) gnone (TTany _) (p_ext rfl (by repeat (first | exact At.z | apply At.s))) rfl ?_
            refine df 14 (by kernel_rfl) ?_
            refine doR rfl (o_st rfl Tryd.sizeOf27 rfl rfl rfl rfl rfl (by repeat (first | exact At.z | apply At.s)) (by repeat (first | exact Put.d | apply Put.t | apply Put.s)) (by repeat (first | exact SetAt.z | apply SetAt.s))) (TOk.x (by kernel_rfl) (TOk.x (by kernel_rfl) TOk.d)) ?_
            refine df 15 (by kernel_rfl) ?_
            refine doR rfl (o_st rfl Tryd.sizeOf27 rfl rfl rfl rfl rfl (by repeat (first | exact At.z | apply At.s)) (by repeat (first | exact Put.d | apply Put.t | apply Put.s)) (by repeat (first | exact SetAt.z | apply SetAt.s))) (TOk.x (by kernel_rfl) (TOk.x (by kernel_rfl) TOk.d)) ?_
            refine tk 16 rfl (by kernel_rfl) (fun _ _ _ h => h) gnone (TTany _) (p_asg rfl) rfl ?_
            refine dn (by kernel_rfl) (nmid (fun a w h => by first | exact ⟨b9, b10, z1, z2, s1, s2, s3, hs, wk (is := [0, 0, 0, 0]) (by repeat (first | exact subσ.nil _ | refine subσ.cons rfl ?_)) rfl (by repeat (first | exact Sub.d | (refine Sub.s ?_ ?_; (repeat (first | exact In.z | apply In.s))) | (refine Sub.suf ?_; (repeat (first | exact Suf.z | apply Suf.s))))) a w h⟩ | exact ⟨b9, b10, z1, z2, s1, s2, s3, hs, wk (is := [1, 0, 0, 0]) (by repeat (first | exact subσ.nil _ | refine subσ.cons rfl ?_)) rfl (by repeat (first | exact Sub.d | (refine Sub.s ?_ ?_; (repeat (first | exact In.z | apply In.s))) | (refine Sub.suf ?_; (repeat (first | exact Suf.z | apply Suf.s))))) a w h⟩))
        ·
          refine doR rfl (o_alloc Tryd.zeroValue27 rfl rfl) (TOk.t (isBoxE fun _ => isBoxS (by repeat (first | exact At.z | apply At.s)) (k := 6) (by repeat (first | exact Cut.d | apply Cut.t | apply Cut.s))) (TOk.t (isBoxE fun _ => isBoxS (by repeat (first | exact At.z | apply At.s)) (k := 6) (by repeat (first | exact Cut.d | apply Cut.t | apply Cut.s))) TOk.d)) ?_
          refine ea ?_; intro b10
          refine dall (is := [7, 12]) (by kernel_rfl) rfl ?_
          intro i hi; simp only [List.mem_cons, List.mem_nil_iff, or_false] at hi; rcases hi with rfl | rfl
          ·
            refine doR rfl (o_call (is := []) Tryd.call11 (c_Swap x2 x3 y2 y3 f2 f3) rfl rfl (by repeat (first | exact Sub.d | (refine Sub.s ?_ ?_; (repeat (first | exact In.z | apply In.s))) | (refine Sub.suf ?_; (repeat (first | exact Suf.z | apply Suf.s))))) rfl) (TOk.x (by kernel_rfl) (TOk.x (by kernel_rfl) TOk.d)) ?_
            refine ea ?_; rintro ⟨⟨⟨s1, s2, s3⟩, z1, z2⟩, hs⟩
            dsimp only at hs
            refine tk 8 rfl (by kernel_rfl) (fun _ _ _ h => h) gnone (TTany _) (p_move rfl) rfl ?_
            refine tk 9 rfl (by kernel_rfl) (fun _ _ _ h => h) gnone (TTany _) (p_ext rfl (by repeat (first | exact At.z | apply At.s))) rfl ?_
            refine tk 10 rfl (by kernel_rfl) (fun _ _ _ h => h) gnone (TTany _) (p_ext rfl (by repeat (first | exact At.z | apply At.s))) rfl ?_
            refine tk 11 rfl (by kernel_rfl) (fun _ _ _ h => h) gnone (TTany _) (p_ext rfl (by repeat (first | exact At.z | apply At.s))) rfl ?_
            refine df 12 (by kernel_rfl) ?_
            refine doR rfl (o_alloc Tryd.zeroValue27 rfl rfl) (TOk.x (by kernel_rfl) (TOk.x (by kernel_rfl) TOk.d)) ?_
            refine ea ?_; intro b9
            refine df 14 (by kernel_rfl) ?_
            refine doR rfl (o_st rfl Tryd.sizeOf27 rfl rfl rfl rfl rfl (by repeat (first | exact At.z | apply At.s)) (by repeat (first | exact Put.d | apply Put.t | apply Put.s)) (by repeat (first | exact SetAt.z | apply SetAt.s))) (TOk.x (by kernel_rfl) (TOk.x (by kernel_rfl) TOk.d)) ?_
            refine df 15 (by kernel_rfl) ?_
            refine doR rfl (o_st rfl Tryd.sizeOf27 rfl rfl rfl rfl rfl (by repeat (first | exact At.z | apply At.s)) (by repeat (first | exact Put.d | apply Put.t | apply Put.s)) (by repeat (first | exact SetAt.z | apply SetAt.s))) (TOk.x (by kernel_rfl) (TOk.x (by kernel_rfl) TOk.d)) ?_
            refine tk 16 rfl (by kernel_rfl) (fun _ _ _ h => h) gnone (TTany _) (p_asg rfl) rfl ?_
            refine dn (by kernel_rfl) (nmid (fun a w h => by first | exact ⟨b9, b10, z1, z2, s1, s2, s3, hs, wk (is := [0, 0, 0, 0]) (by repeat (first | exact subσ.nil _ | refine subσ.cons rfl ?_)) rfl (by repeat (first | exact Sub.d | (refine Sub.s ?_ ?_; (repeat (first | exact In.z | apply In.s))) | (refine Sub.suf ?_; (repeat (first | exact Suf.z | apply Suf.s))))) a w h⟩ | exact ⟨b9, b10, z1, z2, s1, s2, s3, hs, wk (is := [1, 0, 0, 0]) (by repeat (first | exact subσ.nil _ | refine subσ.cons rfl ?_)) rfl (by repeat (first | exact Sub.d | (refine Sub.s ?_ ?_; (repeat (first | exact In.z | apply In.s))) | (refine Sub.suf ?_; (repeat (first | exact Suf.z | apply Suf.s))))) a w h⟩))
          ·
            refine doR rfl (o_alloc Tryd.zeroValue27 rfl rfl) (TOk.t (isBoxE fun _ => isBoxS (by repeat (first | exact At.z | apply At.s)) (k := 6) (by repeat (first | exact Cut.d | apply Cut.t | apply Cut.s))) (TOk.t (isBoxE fun _ => isBoxS (by repeat (first | exact At.z | apply At.s)) (k := 6) (by repeat (first | exact Cut.d | apply Cut.t | apply Cut.s))) TOk.d)) ?_
            refine ea ?_; intro b9
            refine df 7 (by kernel_rfl) ?_
            refine doR rfl (o_call (is := []) Tryd.call11 (c_Swap x2 x3 y2 y3 f2 f3) rfl rfl (by repeat (first | exact Sub.d | (refine Sub.s ?_ ?_; (repeat (first | exact In.z | apply In.s))) | (refine Sub.suf ?_; (repeat (first | exact Suf.z | apply Suf.s))))) rfl) (TOk.x (by kernel_rfl) (TOk.x (by kernel_rfl) TOk.d)) ?_
            refine ea ?_; rintro ⟨⟨⟨s1, s2, s3⟩, z1, z2⟩, hs⟩
            dsimp only at hs
            refine tk 8 rfl (by kernel_rfl) (fun _ _ _ h => h) gnone (TTany _) (p_move rfl) rfl ?_
            refine tk 9 rfl (by kernel_rfl) (fun _ _ _ h => h) gnone (TTany _) (p_ext rfl (by repeat (first | exact At.z | apply At.s))) rfl ?_
            refine tk 10 rfl (by kernel_rfl) (fun _ _ _ h => h) gnone (TTany _) (p_ext rfl (by repeat (first | exact At.z | apply At.s))) rfl ?_
            refine tk 11 rfl (by kernel_rfl) (fun _ _ _ h => h) gnone (TTany _) (p_ext rfl (by repeat (first | exact At.z | apply At.s))) rfl ?_
            refine df 14 (by kernel_rfl) ?_
            refine doR rfl (o_st rfl Tryd.sizeOf27 rfl rfl rfl rfl rfl (by repeat (first | exact At.z | apply At.s)) (by repeat (first | exact Put.d | apply Put.t | apply Put.s)) (by repeat (first | exact SetAt.z | apply SetAt.s))) (TOk.x (by kernel_rfl) (TOk.x (by kernel_rfl) TOk.d)) ?_
            refine df 15 (by kernel_rfl) ?_
            refine doR rfl (o_st rfl Tryd.sizeOf27 rfl rfl rfl rfl rfl (by repeat (first | exact At.z | apply At.s)) (by repeat (first | exact Put.d | apply Put.t | apply Put.s)) (by repeat (first | exact SetAt.z | apply SetAt.s))) (TOk.x (by kernel_rfl) (TOk.x (by kernel_rfl) TOk.d)) ?_
            refine tk 16 rfl (by kernel_rfl) (fun _ _ _ h => h) gnone (TTany _) (p_asg rfl) rfl ?_
            refine dn (by kernel_rfl) (nmid (fun a w h => by first | exact ⟨b9, b10, z1, z2, s1, s2, s3, hs, wk (is := [0, 0, 0, 0]) (by repeat (first | exact subσ.nil _ | refine subσ.cons rfl ?_)) rfl (by repeat (first | exact Sub.d | (refine Sub.s ?_ ?_; (repeat (first | exact In.z | apply In.s))) | (refine Sub.suf ?_; (repeat (first | exact Suf.z | apply Suf.s))))) a w h⟩ | exact ⟨b9, b10, z1, z2, s1, s2, s3, hs, wk (is := [1, 0, 0, 0]) (by repeat (first | exact subσ.nil _ | refine subσ.cons rfl ?_)) rfl (by repeat (first | exact Sub.d | (refine Sub.s ?_ ?_; (repeat (first | exact In.z | apply In.s))) | (refine Sub.suf ?_; (repeat (first | exact Suf.z | apply Suf.s))))) a w h⟩))
      ·
        refine nex fun b9 => nex fun b10 => nex fun z1 => nex fun z2 => nex fun s1 => nex fun s2 => nex fun s3 => nex fun hs => ?_
        refine nthen ?_
        refine cs ?_
        refine cs ?_
        refine cr ?_
        refine ls (op (p_move rfl) rfl) ?_
        refine ls (op (p_not rfl) rfl) ?_
        refine ln ?_
        refine nthen ?_
        refine cc rfl ?_ ?_
        · intro h32
          have h32' : s3 = false := by simpa using h32
          subst h32'
          refine cs ?_
          refine cmono (fun a w h => nilSl (α := ByteArray) h) ?_
          refine cr ?_
          refine ls (o_ldw Tryd.isAgg35 Tryd.sizeOf35 rfl (by repeat (first | exact At.z | apply At.s)) (by rfl) rfl) ?_
          refine ls (o_st rfl Tryd.sizeOf35 rfl rfl rfl rfl rfl (by repeat (first | exact At.z | apply At.s)) (by repeat (first | exact Put.d | apply Put.t | apply Put.s)) (by repeat (first | exact SetAt.z | apply SetAt.s))) ?_
          refine ls (op (p_asg rfl) rfl) ?_
          refine ln ?_
          refine nthen ?_
          refine cret ?_
          refine xret (fun _ _ h => h) ?_
          refine rret (is := []) ⟨(((Prim.zero, Prim.zero, Prim.zero), false), (((none, 0), (none, 0)), ((none, 0), (none, 0)), ((none, 0), (none, 0)))), fail_1 (by decide) (by decide) hrun hs, (fun e => by cases e)⟩ (Or.inl rfl) (Res.c rfl Tryd.isAgg35 Tryd.sizeOf35 (by repeat (first | exact At.z | apply At.s)) (by rfl) (Res.t rfl Res.d)) (rfl) rfl (by repeat (first | exact Sub.d | (refine Sub.s ?_ ?_; (repeat (first | exact In.z | apply In.s))) | (refine Sub.suf ?_; (repeat (first | exact Suf.z | apply Suf.s)))))
        · intro h32
          obtain rfl : true = s3 := by cases s3 <;> first | rfl | (simp at h32)
          refine cskip ?_
          refine nthen ?_
          refine cd [6, 8] [(3, b9, 0, _), (4, b10, 0, _)] TrydX.mixed (TOk.t (isBoxS (by repeat (first | exact At.z | apply At.s)) (k := 6) (by repeat (first | exact Cut.d | apply Cut.t | apply Cut.s))) (TOk.t (isBoxS (by repeat (first | exact At.z | apply At.s)) (k := 6) (by repeat (first | exact Cut.d | apply Cut.t | apply Cut.s))) TOk.d)) ?_
          refine tk 0 rfl (by kernel_rfl) (fun _ _ _ h => h) gnone (TTany _) (p_move rfl) rfl ?_
          refine tk 1 rfl (by kernel_rfl) (fun _ _ _ h => h) gnone (TTany _) (p_move rfl) rfl ?_
          refine tk 2 rfl (by kernel_rfl) (fun _ _ _ h => h) gnone (TTany _) (p_add rfl rfl (by omega)) rfl ?_
          refine tk 3 rfl (by kernel_rfl) (fun _ _ _ h => h) gnone (TTat (List.Mem.head _)) (p_lda Tryd.isAgg27 Tryd.sizeOf27 rfl rfl) rfl ?_
          refine tk 4 rfl (by kernel_rfl) (fun _ _ _ h => h) gnone (TTat (List.Mem.tail _ (List.Mem.head _))) (p_lda Tryd.isAgg27 Tryd.sizeOf27 rfl rfl) rfl ?_
          refine tk 5 rfl (by kernel_rfl) (fun _ _ _ h => h) gnone (TTany _) (p_iav 1 (by decide) rfl Tryd.underlying35 Tryd.sizeOf27 rfl rfl) rfl ?_
          refine df 6 (by kernel_rfl) ?_
          refine doR rfl (o_st rfl Tryd.sizeOf27 rfl rfl rfl rfl rfl (by repeat (first | exact At.z | apply At.s)) (by repeat (first | exact Put.d | apply Put.t | apply Put.s)) (by repeat (first | exact SetAt.z | apply SetAt.s))) (TOk.x (by kernel_rfl) (TOk.t (isBoxS (by repeat (first | exact At.z | apply At.s)) (k := 6) (by repeat (first | exact Cut.d | apply Cut.t | apply Cut.s))) TOk.d)) ?_
          refine tk 7 rfl (by kernel_rfl) (fun _ _ _ h => h) gnone (TTany _) (p_iav 2 (by decide) rfl Tryd.underlying35 Tryd.sizeOf27 rfl rfl) rfl ?_
          refine df 8 (by kernel_rfl) ?_
          refine doR rfl (o_st rfl Tryd.sizeOf27 rfl rfl rfl rfl rfl (by repeat (first | exact At.z | apply At.s)) (by repeat (first | exact Put.d | apply Put.t | apply Put.s)) (by repeat (first | exact SetAt.z | apply SetAt.s))) (TOk.x (by kernel_rfl) (TOk.x (by kernel_rfl) TOk.d)) ?_
          refine dn (by kernel_rfl) ?_
          refine nblock ?_
          refine nthen ?_
          refine cr ?_
          refine ls (op (p_add rfl rfl (by omega)) rfl) ?_
          refine ls (op (p_move rfl) rfl) ?_
          refine ln ?_
          refine nnext ⟨(3, (x1, s1, s2), (y1, z1, z2)), (by dsimp only; omega), step_1 (by decide) hrun hs, f1, (swap_fit2 hs f2 f3).1, (swap_fit2 hs f2 f3).2⟩ (by dsimp only; omega) (wk (is := [2, 2]) (by repeat (first | exact subσ.nil _ | refine subσ.cons rfl ?_)) rfl (by repeat (first | exact Sub.d | (refine Sub.s ?_ ?_; (repeat (first | exact In.z | apply In.s))) | (refine Sub.suf ?_; (repeat (first | exact Suf.z | apply Suf.s))))))
  · intro h17
    dsimp only at hk hrun f1 f2 f3
    try simp only [decide_eq_true_eq, decide_eq_false_iff_not, Bool.not_eq_true', Bool.not_eq_false', Int.not_lt, Int.not_le, ge_iff_le, Bool.not_true, Bool.not_false] at h17
    refine cexit ?_
    refine xthen ?_
    refine xthen ?_
    refine xblock ?_
    refine nthen ?_
    refine cs ?_
    refine cr ?_
    refine ls (o_ldw Tryd.isAgg35 Tryd.sizeOf35 rfl (by repeat (first | exact At.z | apply At.s)) (by rfl) rfl) ?_
    refine ls (o_st rfl Tryd.sizeOf35 rfl rfl rfl rfl rfl (by repeat (first | exact At.z | apply At.s)) (by repeat (first | exact Put.d | apply Put.t | apply Put.s)) (by repeat (first | exact SetAt.z | apply SetAt.s))) ?_
    refine ls (op (p_asg rfl) rfl) ?_
    refine ln ?_
    refine nthen ?_
    refine cret ?_
    refine xret (fun _ _ h => h) ?_
    refine rret (is := []) ⟨(((x1, x2, x3), true), (y1, y2, y3)), by rw [← run3, show (3 : Nat) = k by omega]; exact hrun, (fun _ => ⟨f1, f2, f3⟩)⟩ (Or.inl rfl) (Res.c rfl Tryd.isAgg35 Tryd.sizeOf35 (by repeat (first | exact At.z | apply At.s)) (by rfl) (Res.t rfl Res.d)) (rfl) rfl (by repeat (first | exact Sub.d | (refine Sub.s ?_ ?_; (repeat (first | exact In.z | apply In.s))) | (refine Sub.suf ?_; (repeat (first | exact Suf.z | apply Suf.s)))))

end Go.Proofs.YtaojmjfgopbgcaaDoor.X
