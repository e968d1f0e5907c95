/- OWN WORK: a part of the proof of a law of the seat YtaojmjfgopbgcaaDoor: the walk through functions of the program. -/
import Derived.Test.YtaojmjfgopbgcaaDoorProg
import Derived.Test.YtaojmjfgopbgcaaDoorXDef
import Derived.Test.YtaojmjfgopbgcaaDoorXSxJ
import Derived.Test.YtaojmjfgopbgcaaDoorXA1
import Derived.Test.YtaojmjfgopbgcaaDoorXA2
import Derived.Test.YtaojmjfgopbgcaaDoorXShelf
set_option linter.unusedVariables false
set_option linter.unusedSimpArgs false
namespace Go.Proofs.YtaojmjfgopbgcaaDoor.X
open Go Go.RowKit Go.Proofs Go.Sx
attribute [local irreducible] slA isA box row
open Go.Shelf

def alpha : ByteArray := ⟨#[97, 98, 99, 100, 101, 102, 103, 104, 105, 106, 107, 108, 109, 110, 111, 112, 113, 114, 115, 116, 117, 118, 119, 120, 121, 122, 48, 49, 50, 51, 52, 53, 54, 55, 56, 57, 46, 45, 95, 47]⟩
theorem alpha_nameB : ∀ b : UInt8, (ofB alpha).contains b = nameB b := fun b => by
  have h : ∀ n : Fin 256, (ofB alpha).contains (UInt8.ofFin n) = nameB (UInt8.ofFin n) := by decide +kernel
  exact h b.toFin
theorem l_Contains (s : ByteArray) : Con Tryd.prog 57 [.string s, .string ⟨#[10]⟩] [] [] Unit (fun _ => .bool ((ofB s).contains 10)) (fun _ => []) (fun _ => []) := by
  refine con_same fun w => ?_
  have h := Tryd.strings_Contains_one s 10 w
  have e : decide (0 ≤ Lib.indexByte s.data.toList 10) = (ofB s).contains 10 := (Lib.contains_iff_indexByte _ _).symm
  rw [e] at h
  exact h
theorem l_Trim (s : ByteArray) (hs : s.size ≤ 2000000) : Con Tryd.prog 39 [.string s, .string alpha] [] [] Unit (fun _ => .string ⟨(Lib.trimS (ofB s) (ofB alpha)).toArray⟩) (fun _ => []) (fun _ => []) := by
  refine con_below fun M0 w _ => ?_
  exact Any.strings_Trim_laid Tryd.lays160 (by kernel_rfl) s alpha w (by omega) (by decide) (ascii_of_all (by decide))
theorem trim_name (s : ByteArray) : decide ((⟨(Lib.trimS (ofB s) (ofB alpha)).toArray⟩ : ByteArray) = ⟨#[]⟩) = (ofB s).all nameB := by
  rw [Bool.eq_iff_iff, decide_eq_true_iff, List.all_eq_true]
  have : ((⟨(Lib.trimS (ofB s) (ofB alpha)).toArray⟩ : ByteArray) = ⟨#[]⟩) ↔ Lib.trimS (ofB s) (ofB alpha) = [] := by
    constructor
    · intro h
      have := congrArg (fun b : ByteArray => b.data.toList) h
      simpa using this
    · intro h; rw [h]
  rw [this, trimS_nil]
  simp only [alpha_nameB]
theorem l_Sort (e : TypeId) (A : Option Addr) (c : Nat) (l : List ByteArray) (hl : l.length ≤ 2000000) : Con Tryd.prog 58 [.slice A l.length c] [row e A c l] [] Unit (fun _ => .tuple #[]) (fun _ => [row e A c (sortB l)]) (fun _ => []) :=
  con_sort e A c l hl (fun w => Tryd.slices_Sort_string_none none 0 w) (fun blk cap ss w h1 h2 h3 => Tryd.slices_Sort_string blk 0 cap ss w h1 h2 h3)

theorem fa27_0 : FA Tryd.prog 27 0 0 := fun b o w => by kernel_rfl
theorem fa27_1 : FA Tryd.prog 27 1 1 := fun b o w => by kernel_rfl
theorem fa27_2 : FA Tryd.prog 27 2 2 := fun b o w => by kernel_rfl
theorem fa27_3 : FA Tryd.prog 27 3 3 := fun b o w => by kernel_rfl
theorem fa27_4 : FA Tryd.prog 27 4 4 := fun b o w => by kernel_rfl
theorem fa27_5 : FA Tryd.prog 27 5 5 := fun b o w => by kernel_rfl
theorem c_lineRight (s : ByteArray) : Con Tryd.prog 42 [.string s] [] [] Unit (fun _ => .bool (lineOk s)) (fun _ => []) (fun _ => []) := by
  refine con Tryd.func42 rfl Tryd.ntmps42 rfl ?_
  intro M0 F0 w0
  refine cs ?_
  refine cr ?_
  refine ls (op (p_asg rfl) rfl) ?_
  refine ln ?_
  refine nthen ?_
  refine cs ?_
  refine cr ?_
  refine ls (op (p_move rfl) rfl) ?_
  refine ls (op (p_lens rfl Tryd.underlying9) rfl) ?_
  refine ls (op (p_icmp rfl rfl rfl) rfl) ?_
  refine ls (op (p_move rfl) rfl) ?_
  refine andX 4 6 10 rfl (subσ.cons (t := 2) rfl (subσ.nil _)) ?_ ?_
  · intro h6
    refine lskip rfl rfl rfl rfl rfl ?_
    refine lskip rfl rfl rfl rfl rfl ?_
    refine lskip rfl rfl rfl rfl rfl ?_
    refine ls (op (p_pickf rfl rfl) rfl) ?_
    refine ln (nmid (wk0 (by repeat (first | exact subσ.nil _ | refine subσ.cons rfl ?_)) (by repeat (first | exact Sub.d | (refine Sub.s ?_ ?_; (repeat (first | exact In.z | apply In.s))) | (refine Sub.suf ?_; (repeat (first | exact Suf.z | apply Suf.s)))))))
  apply exI
  · intro h6
    refine lwant rfl rfl rfl rfl (op (p_move rfl) rfl) ?_
    refine lwant rfl rfl rfl rfl (o_call (is := []) Tryd.call57 (l_Contains s) rfl rfl (by repeat (first | exact Sub.d | (refine Sub.s ?_ ?_; (repeat (first | exact In.z | apply In.s))) | (refine Sub.suf ?_; (repeat (first | exact Suf.z | apply Suf.s))))) rfl) ?_
    refine le ?_; intro x8
    refine lwant rfl rfl rfl rfl (op (p_not rfl) rfl) ?_
    refine ls (op (p_pickt rfl rfl) rfl) ?_
    refine ln (nmid (wk0 (by repeat (first | exact subσ.nil _ | refine subσ.cons rfl ?_)) (by repeat (first | exact Sub.d | (refine Sub.s ?_ ?_; (repeat (first | exact In.z | apply In.s))) | (refine Sub.suf ?_; (repeat (first | exact Suf.z | apply Suf.s)))))))
  ·
    refine ls (op (p_asg rfl) rfl) ?_
    refine ln ?_
    refine nthen ?_
    refine cret ?_
    refine xret (fun _ _ h => h) ?_
    refine rret (is := []) () (Or.inl rfl) (Res.t rfl Res.d) (rfl) rfl (by repeat (first | exact Sub.d | (refine Sub.s ?_ ?_; (repeat (first | exact In.z | apply In.s))) | (refine Sub.suf ?_; (repeat (first | exact Suf.z | apply Suf.s)))))

theorem c_lineAll1 (s : ByteArray) : Con Tryd.prog 41 [.string s] [] [] Unit (fun _ => .bool (!lineOk s)) (fun _ => []) (fun _ => []) := by
  refine con Tryd.func41 rfl Tryd.ntmps41 rfl ?_
  intro M0 F0 w0
  refine cs ?_
  refine cr ?_
  refine ls (op (p_asg rfl) rfl) ?_
  refine ln ?_
  refine nthen ?_
  refine cs ?_
  refine cr ?_
  refine ls (op (p_move rfl) rfl) ?_
  refine ls (o_call (is := []) Tryd.call42 (c_lineRight s) rfl rfl (by repeat (first | exact Sub.d | (refine Sub.s ?_ ?_; (repeat (first | exact In.z | apply In.s))) | (refine Sub.suf ?_; (repeat (first | exact Suf.z | apply Suf.s))))) rfl) ?_
  refine le ?_; intro x4
  refine ls (op (p_not rfl) rfl) ?_
  refine ls (op (p_asg rfl) rfl) ?_
  refine ln ?_
  refine nthen ?_
  refine cret ?_
  refine xret (fun _ _ h => h) ?_
  refine rret (is := []) () (Or.inl rfl) (Res.t rfl Res.d) (rfl) rfl (by repeat (first | exact Sub.d | (refine Sub.s ?_ ?_; (repeat (first | exact In.z | apply In.s))) | (refine Sub.suf ?_; (repeat (first | exact Suf.z | apply Suf.s)))))

theorem c_lineAll (l : List ByteArray) (A : Option Addr) (c : Nat) (hl : l.length ≤ 2000000) : Con Tryd.prog 29 [.slice A l.length c] [] [slA A l] Unit (fun _ => .bool (l.all lineOk)) (fun _ => []) (fun _ => []) := by
  refine con Tryd.func29 rfl Tryd.ntmps29 rfl ?_
  intro M0 F0 w0
  refine cs ?_
  refine cr ?_
  refine ls (op (p_asg rfl) rfl) ?_
  refine ln ?_
  refine nthen ?_
  refine cs ?_
  refine cr ?_
  refine ls (op (p_move rfl) rfl) ?_
  refine ls (o_call (is := []) Tryd.call40 (c_ContainsFunc0 l A c hl (fun s => !lineOk s) 41 [] [] Tryd.call41 (fun s _ => c_lineAll1 s)) rfl rfl (by repeat (first | exact Sub.d | (refine Sub.s ?_ ?_; (repeat (first | exact In.z | apply In.s))) | (refine Sub.suf ?_; (repeat (first | exact Suf.z | apply Suf.s))))) rfl) ?_
  refine le ?_; intro x4
  refine ls (op (p_not rfl) rfl) ?_
  refine ls (op (p_asg rfl) rfl) ?_
  refine ln ?_
  refine nthen ?_
  refine cret ?_
  refine xret (fun _ _ h => h) ?_
  refine rret (is := []) () (Or.inl rfl) (Res.t rfl Res.d) ?_ rfl (by repeat (first | exact Sub.d | (refine Sub.s ?_ ?_; (repeat (first | exact In.z | apply In.s))) | (refine Sub.suf ?_; (repeat (first | exact Suf.z | apply Suf.s)))))
  simp [packV, List.any_eq_not_all_not]

theorem c_treeNamed (s : ByteArray) : Con Tryd.prog 28 [.string s] [] [] Unit (fun _ => .bool (nameOk s)) (fun _ => []) (fun _ => []) := by
  refine con Tryd.func28 rfl Tryd.ntmps28 rfl ?_
  intro M0 F0 w0
  refine cs ?_
  refine cr ?_
  refine ls (op (p_asg rfl) rfl) ?_
  refine ln ?_
  refine nthen ?_
  refine cs ?_
  refine cr ?_
  refine ls (op (p_move rfl) rfl) ?_
  refine ls (op (p_lens rfl Tryd.underlying9) rfl) ?_
  refine ls (op (p_icmp rfl rfl rfl) rfl) ?_
  refine ls (op (p_move rfl) rfl) ?_
  refine andX 4 6 10 rfl (subσ.cons (t := 0) rfl (subσ.cons (t := 2) rfl (subσ.nil _))) ?_ ?_
  · intro h6
    refine lskip rfl rfl rfl rfl rfl ?_
    refine lskip rfl rfl rfl rfl rfl ?_
    refine lskip rfl rfl rfl rfl rfl ?_
    refine ls (op (p_pickf rfl rfl) rfl) ?_
    refine ln (nmid (wk0 (by repeat (first | exact subσ.nil _ | refine subσ.cons rfl ?_)) (by repeat (first | exact Sub.d | (refine Sub.s ?_ ?_; (repeat (first | exact In.z | apply In.s))) | (refine Sub.suf ?_; (repeat (first | exact Suf.z | apply Suf.s)))))))
  apply exI
  · intro h6
    refine lwant rfl rfl rfl rfl (op (p_move rfl) rfl) ?_
    refine lwant rfl rfl rfl rfl (op (p_lens rfl Tryd.underlying9) rfl) ?_
    refine lwant rfl rfl rfl rfl (op (p_icmp rfl rfl rfl) rfl) ?_
    refine ls (op (p_pickt rfl rfl) rfl) ?_
    refine ln (nmid (wk0 (by repeat (first | exact subσ.nil _ | refine subσ.cons rfl ?_)) (by repeat (first | exact Sub.d | (refine Sub.s ?_ ?_; (repeat (first | exact In.z | apply In.s))) | (refine Sub.suf ?_; (repeat (first | exact Suf.z | apply Suf.s)))))))
  ·
    refine ls (op (p_move rfl) rfl) ?_
    refine andX 4 11 15 rfl (subσ.cons (t := 2) rfl (subσ.nil _)) ?_ ?_
    · intro h11
      refine lskip rfl rfl rfl rfl rfl ?_
      refine lskip rfl rfl rfl rfl rfl ?_
      refine lskip rfl rfl rfl rfl rfl ?_
      refine ls (op (p_pickf rfl rfl) rfl) ?_
      refine ln (nmid (wk0 (by repeat (first | exact subσ.nil _ | refine subσ.cons rfl ?_)) (by repeat (first | exact Sub.d | (refine Sub.s ?_ ?_; (repeat (first | exact In.z | apply In.s))) | (refine Sub.suf ?_; (repeat (first | exact Suf.z | apply Suf.s)))))))
    apply exI
    · intro h11
      refine lwant rfl rfl rfl rfl (op (p_move rfl) rfl) ?_
      refine lwant rfl rfl rfl rfl (o_call (is := []) Tryd.call39 (l_Trim s (by simp only [Bool.and_eq_true, decide_eq_true_eq] at h11; omega)) rfl rfl (by repeat (first | exact Sub.d | (refine Sub.s ?_ ?_; (repeat (first | exact In.z | apply In.s))) | (refine Sub.suf ?_; (repeat (first | exact Suf.z | apply Suf.s))))) rfl) ?_
      refine le ?_; intro x13
      refine lwant rfl rfl rfl rfl (op (p_seq rfl rfl) rfl) ?_
      refine ls (op (p_pickt rfl rfl) rfl) ?_
      refine ln (nmid (wk0 (by repeat (first | exact subσ.nil _ | refine subσ.cons rfl ?_)) (by repeat (first | exact Sub.d | (refine Sub.s ?_ ?_; (repeat (first | exact In.z | apply In.s))) | (refine Sub.suf ?_; (repeat (first | exact Suf.z | apply Suf.s)))))))
    ·
      refine ls (op (p_asg rfl) rfl) ?_
      refine ln ?_
      refine nthen ?_
      refine cret ?_
      refine xret (fun _ _ h => h) ?_
      refine rret (is := []) () (Or.inl rfl) (Res.t rfl Res.d) ?_ rfl (by repeat (first | exact Sub.d | (refine Sub.s ?_ ?_; (repeat (first | exact In.z | apply In.s))) | (refine Sub.suf ?_; (repeat (first | exact Suf.z | apply Suf.s)))))
      simp only [packV, nameOk, ← trim_name]

theorem c_primRight (p : Prim) (y : Rp.Lay Prim) (hp : p.fit) : Con Tryd.prog 19 [sv p y] [] (Rp.asn p y) Unit (fun _ => .bool (p.right)) (fun _ => []) (fun _ => []) := by
  refine con Tryd.func19 rfl Tryd.ntmps19 rfl ?_
  intro M0 F0 w0
  refine cs ?_
  refine cr ?_
  refine ls (o_box rfl rfl rfl) ?_
  refine le ?_; intro b1
  refine ls (op (p_asg rfl) rfl) ?_
  refine ln ?_
  refine nthen ?_
  refine cs ?_
  refine cr ?_
  refine ls (op (p_fa fa27_3 rfl) rfl) ?_
  refine ls (o_ld Tryd.isAgg3 rfl (by repeat (first | exact At.z | apply At.s)) (by repeat (first | exact At.z | apply At.s)) rfl) ?_
  refine ls (op (p_icmp rfl rfl rfl) rfl) ?_
  refine ls (op (p_move rfl) rfl) ?_
  refine andX 5 7 12 rfl (subσ.cons (t := 0) rfl (subσ.cons (t := 1) rfl (subσ.cons (t := 2) rfl (subσ.nil _)))) ?_ ?_
  · intro h7
    refine lskip rfl rfl rfl rfl rfl ?_
    refine lskip rfl rfl rfl rfl rfl ?_
    refine lskip rfl rfl rfl rfl rfl ?_
    refine lskip rfl rfl rfl rfl rfl ?_
    refine ls (op (p_pickf rfl rfl) rfl) ?_
    refine ln (nmid (wk0 (by repeat (first | exact subσ.nil _ | refine subσ.cons rfl ?_)) (by repeat (first | exact Sub.d | (refine Sub.s ?_ ?_; (repeat (first | exact In.z | apply In.s))) | (refine Sub.suf ?_; (repeat (first | exact Suf.z | apply Suf.s)))))))
  apply exI
  · intro h7
    refine lwant rfl rfl rfl rfl (op (p_fa fa27_4 rfl) rfl) ?_
    refine lwant rfl rfl rfl rfl (o_ld Tryd.isAgg22 rfl (by repeat (first | exact At.z | apply At.s)) (by repeat (first | exact At.z | apply At.s)) rfl) ?_
    refine lwant rfl rfl rfl rfl (op (p_lenl rfl Tryd.underlying22) rfl) ?_
    refine lwant rfl rfl rfl rfl (op (p_icmp rfl rfl rfl) rfl) ?_
    refine ls (op (p_pickt rfl rfl) rfl) ?_
    refine ln (nmid (wk0 (by repeat (first | exact subσ.nil _ | refine subσ.cons rfl ?_)) (by repeat (first | exact Sub.d | (refine Sub.s ?_ ?_; (repeat (first | exact In.z | apply In.s))) | (refine Sub.suf ?_; (repeat (first | exact Suf.z | apply Suf.s)))))))
  ·
    refine ls (op (p_move rfl) rfl) ?_
    refine andX 5 13 18 rfl (subσ.cons (t := 0) rfl (subσ.cons (t := 1) rfl (subσ.cons (t := 2) rfl (subσ.nil _)))) ?_ ?_
    · intro h13
      refine lskip rfl rfl rfl rfl rfl ?_
      refine lskip rfl rfl rfl rfl rfl ?_
      refine lskip rfl rfl rfl rfl rfl ?_
      refine lskip rfl rfl rfl rfl rfl ?_
      refine ls (op (p_pickf rfl rfl) rfl) ?_
      refine ln (nmid (wk0 (by repeat (first | exact subσ.nil _ | refine subσ.cons rfl ?_)) (by repeat (first | exact Sub.d | (refine Sub.s ?_ ?_; (repeat (first | exact In.z | apply In.s))) | (refine Sub.suf ?_; (repeat (first | exact Suf.z | apply Suf.s)))))))
    apply exI
    · intro h13
      refine lwant rfl rfl rfl rfl (op (p_fa fa27_5 rfl) rfl) ?_
      refine lwant rfl rfl rfl rfl (o_ld Tryd.isAgg22 rfl (by repeat (first | exact At.z | apply At.s)) (by repeat (first | exact At.z | apply At.s)) rfl) ?_
      refine lwant rfl rfl rfl rfl (op (p_lenl rfl Tryd.underlying22) rfl) ?_
      refine lwant rfl rfl rfl rfl (op (p_icmp rfl rfl rfl) rfl) ?_
      refine ls (op (p_pickt rfl rfl) rfl) ?_
      refine ln (nmid (wk0 (by repeat (first | exact subσ.nil _ | refine subσ.cons rfl ?_)) (by repeat (first | exact Sub.d | (refine Sub.s ?_ ?_; (repeat (first | exact In.z | apply In.s))) | (refine Sub.suf ?_; (repeat (first | exact Suf.z | apply Suf.s)))))))
    ·
      refine ls (op (p_asg rfl) rfl) ?_
      refine ln ?_
      refine nthen ?_
      refine cs ?_
      refine cb ?_
      refine cs ?_
      refine cr ?_
      refine ls (op (p_fa fa27_1 rfl) rfl) ?_
      refine ls (o_ld Tryd.isAgg9 rfl (by repeat (first | exact At.z | apply At.s)) (by repeat (first | exact At.z | apply At.s)) rfl) ?_
      refine ls (o_call (is := []) Tryd.call28 (c_treeNamed _) rfl rfl (by repeat (first | exact Sub.d | (refine Sub.s ?_ ?_; (repeat (first | exact In.z | apply In.s))) | (refine Sub.suf ?_; (repeat (first | exact Suf.z | apply Suf.s))))) rfl) ?_
      refine le ?_; intro x22
      refine ls (op (p_not rfl) rfl) ?_
      refine ls (op (p_asg rfl) rfl) ?_
      refine ln ?_
      refine nthen ?_
      refine cc rfl ?_ ?_
      · intro h19
        try simp only [decide_eq_true_eq, decide_eq_false_iff_not, Bool.not_eq_true', Bool.not_eq_false', Int.not_lt, Int.not_le, ge_iff_le, Bool.not_true, Bool.not_false] at h19
        refine cs ?_
        refine cr ?_
        refine ls (op (p_asg rfl) rfl) ?_
        refine ln ?_
        refine nthen ?_
        refine cret ?_
        refine xret (fun _ _ h => h) ?_
        refine rret (is := []) () (Or.inl rfl) (Res.t rfl Res.d) ?_ rfl (by repeat (first | exact Sub.d | (refine Sub.s ?_ ?_; (repeat (first | exact In.z | apply In.s))) | (refine Sub.suf ?_; (repeat (first | exact Suf.z | apply Suf.s)))))
        simp [packV, Prim.right, Prim.bare, *]
      · intro h19
        try simp only [decide_eq_true_eq, decide_eq_false_iff_not, Bool.not_eq_true', Bool.not_eq_false', Int.not_lt, Int.not_le, ge_iff_le, Bool.not_true, Bool.not_false] at h19
        refine cs ?_
        refine cr ?_
        refine ls (op (p_fa fa27_0 rfl) rfl) ?_
        refine ls (o_ld Tryd.isAgg3 rfl (by repeat (first | exact At.z | apply At.s)) (by repeat (first | exact At.z | apply At.s)) rfl) ?_
        refine ls (op (p_icmp rfl rfl rfl) rfl) ?_
        refine ls (op (p_asg rfl) rfl) ?_
        refine ln ?_
        refine nthen ?_
        refine cc rfl ?_ ?_
        · intro h24
          try simp only [decide_eq_true_eq, decide_eq_false_iff_not, Bool.not_eq_true', Bool.not_eq_false', Int.not_lt, Int.not_le, ge_iff_le, Bool.not_true, Bool.not_false] at h24
          refine cs ?_
          refine cr ?_
          refine ls (op (p_fa fa27_2 rfl) rfl) ?_
          refine ls (o_ld Tryd.isAgg9 rfl (by repeat (first | exact At.z | apply At.s)) (by repeat (first | exact At.z | apply At.s)) rfl) ?_
          refine ls (op (p_seq rfl rfl) rfl) ?_
          refine ls (op (p_move rfl) rfl) ?_
          refine andX 4 31 35 rfl (subσ.cons (t := 0) rfl (subσ.cons (t := 1) rfl (subσ.cons (t := 2) rfl (subσ.cons (t := 18) rfl (subσ.cons (t := 3) rfl (subσ.cons (t := 20) rfl (subσ.cons (t := 21) rfl (subσ.cons (t := 22) rfl (subσ.cons (t := 23) rfl (subσ.cons (t := 19) rfl (subσ.cons (t := 25) rfl (subσ.cons (t := 26) rfl (subσ.cons (t := 27) rfl (subσ.cons (t := 24) rfl (subσ.nil _))))))))))))))) ?_ ?_
          · intro h31
            refine lskip rfl rfl rfl rfl rfl ?_
            refine lskip rfl rfl rfl rfl rfl ?_
            refine lskip rfl rfl rfl rfl rfl ?_
            refine ls (op (p_pickf rfl rfl) rfl) ?_
            refine ln (nmid (wk0 (by repeat (first | exact subσ.nil _ | refine subσ.cons rfl ?_)) (by repeat (first | exact Sub.d | (refine Sub.s ?_ ?_; (repeat (first | exact In.z | apply In.s))) | (refine Sub.suf ?_; (repeat (first | exact Suf.z | apply Suf.s)))))))
          apply exI
          · intro h31
            refine lwant rfl rfl rfl rfl (op (p_fa fa27_3 rfl) rfl) ?_
            refine lwant rfl rfl rfl rfl (o_ld Tryd.isAgg3 rfl (by repeat (first | exact At.z | apply At.s)) (by repeat (first | exact At.z | apply At.s)) rfl) ?_
            refine lwant rfl rfl rfl rfl (op (p_icmp rfl rfl rfl) rfl) ?_
            refine ls (op (p_pickt rfl rfl) rfl) ?_
            refine ln (nmid (wk0 (by repeat (first | exact subσ.nil _ | refine subσ.cons rfl ?_)) (by repeat (first | exact Sub.d | (refine Sub.s ?_ ?_; (repeat (first | exact In.z | apply In.s))) | (refine Sub.suf ?_; (repeat (first | exact Suf.z | apply Suf.s)))))))
          ·
            refine ls (op (p_move rfl) rfl) ?_
            refine andX 4 36 40 rfl (subσ.cons (t := 0) rfl (subσ.cons (t := 1) rfl (subσ.cons (t := 2) rfl (subσ.cons (t := 18) rfl (subσ.cons (t := 3) rfl (subσ.cons (t := 20) rfl (subσ.cons (t := 21) rfl (subσ.cons (t := 22) rfl (subσ.cons (t := 23) rfl (subσ.cons (t := 19) rfl (subσ.cons (t := 25) rfl (subσ.cons (t := 26) rfl (subσ.cons (t := 27) rfl (subσ.cons (t := 24) rfl (subσ.nil _))))))))))))))) ?_ ?_
            · intro h36
              refine lskip rfl rfl rfl rfl rfl ?_
              refine lskip rfl rfl rfl rfl rfl ?_
              refine lskip rfl rfl rfl rfl rfl ?_
              refine ls (op (p_pickf rfl rfl) rfl) ?_
              refine ln (nmid (wk0 (by repeat (first | exact subσ.nil _ | refine subσ.cons rfl ?_)) (by repeat (first | exact Sub.d | (refine Sub.s ?_ ?_; (repeat (first | exact In.z | apply In.s))) | (refine Sub.suf ?_; (repeat (first | exact Suf.z | apply Suf.s)))))))
            apply exI
            · intro h36
              refine lwant rfl rfl rfl rfl (op (p_fa fa27_3 rfl) rfl) ?_
              refine lwant rfl rfl rfl rfl (o_ld Tryd.isAgg3 rfl (by repeat (first | exact At.z | apply At.s)) (by repeat (first | exact At.z | apply At.s)) rfl) ?_
              refine lwant rfl rfl rfl rfl (op (p_icmp rfl rfl rfl) rfl) ?_
              refine ls (op (p_pickt rfl rfl) rfl) ?_
              refine ln (nmid (wk0 (by repeat (first | exact subσ.nil _ | refine subσ.cons rfl ?_)) (by repeat (first | exact Sub.d | (refine Sub.s ?_ ?_; (repeat (first | exact In.z | apply In.s))) | (refine Sub.suf ?_; (repeat (first | exact Suf.z | apply Suf.s)))))))
            ·
              refine ls (op (p_move rfl) rfl) ?_
              refine andX 4 41 45 rfl (subσ.cons (t := 0) rfl (subσ.cons (t := 1) rfl (subσ.cons (t := 2) rfl (subσ.cons (t := 18) rfl (subσ.cons (t := 3) rfl (subσ.cons (t := 20) rfl (subσ.cons (t := 21) rfl (subσ.cons (t := 22) rfl (subσ.cons (t := 23) rfl (subσ.cons (t := 19) rfl (subσ.cons (t := 25) rfl (subσ.cons (t := 26) rfl (subσ.cons (t := 27) rfl (subσ.cons (t := 24) rfl (subσ.nil _))))))))))))))) ?_ ?_
              · intro h41
                refine lskip rfl rfl rfl rfl rfl ?_
                refine lskip rfl rfl rfl rfl rfl ?_
                refine lskip rfl rfl rfl rfl rfl ?_
                refine ls (op (p_pickf rfl rfl) rfl) ?_
                refine ln (nmid (wk0 (by repeat (first | exact subσ.nil _ | refine subσ.cons rfl ?_)) (by repeat (first | exact Sub.d | (refine Sub.s ?_ ?_; (repeat (first | exact In.z | apply In.s))) | (refine Sub.suf ?_; (repeat (first | exact Suf.z | apply Suf.s)))))))
              apply exI
              · intro h41
                refine lwant rfl rfl rfl rfl (op (p_fa fa27_4 rfl) rfl) ?_
                refine lwant rfl rfl rfl rfl (o_ld Tryd.isAgg22 rfl (by repeat (first | exact At.z | apply At.s)) (by repeat (first | exact At.z | apply At.s)) rfl) ?_
                refine lwant rfl rfl rfl rfl (o_call (is := []) Tryd.call29 (c_lineAll p.old _ _ hp.o) rfl rfl (by repeat (first | exact Sub.d | (refine Sub.s ?_ ?_; (repeat (first | exact In.z | apply In.s))) | (refine Sub.suf ?_; (repeat (first | exact Suf.z | apply Suf.s))))) rfl) ?_
                refine le ?_; intro x44
                refine ls (op (p_pickt rfl rfl) rfl) ?_
                refine ln (nmid (wk0 (by repeat (first | exact subσ.nil _ | refine subσ.cons rfl ?_)) (by repeat (first | exact Sub.d | (refine Sub.s ?_ ?_; (repeat (first | exact In.z | apply In.s))) | (refine Sub.suf ?_; (repeat (first | exact Suf.z | apply Suf.s)))))))
              ·
                refine ls (op (p_move rfl) rfl) ?_
                refine andX 4 46 50 rfl (subσ.cons (t := 0) rfl (subσ.cons (t := 1) rfl (subσ.cons (t := 2) rfl (subσ.cons (t := 18) rfl (subσ.cons (t := 3) rfl (subσ.cons (t := 20) rfl (subσ.cons (t := 21) rfl (subσ.cons (t := 22) rfl (subσ.cons (t := 23) rfl (subσ.cons (t := 19) rfl (subσ.cons (t := 25) rfl (subσ.cons (t := 26) rfl (subσ.cons (t := 27) rfl (subσ.cons (t := 24) rfl (subσ.nil _))))))))))))))) ?_ ?_
                · intro h46
                  refine lskip rfl rfl rfl rfl rfl ?_
                  refine lskip rfl rfl rfl rfl rfl ?_
                  refine lskip rfl rfl rfl rfl rfl ?_
                  refine ls (op (p_pickf rfl rfl) rfl) ?_
                  refine ln (nmid (wk0 (by repeat (first | exact subσ.nil _ | refine subσ.cons rfl ?_)) (by repeat (first | exact Sub.d | (refine Sub.s ?_ ?_; (repeat (first | exact In.z | apply In.s))) | (refine Sub.suf ?_; (repeat (first | exact Suf.z | apply Suf.s)))))))
                apply exI
                · intro h46
                  refine lwant rfl rfl rfl rfl (op (p_fa fa27_5 rfl) rfl) ?_
                  refine lwant rfl rfl rfl rfl (o_ld Tryd.isAgg22 rfl (by repeat (first | exact At.z | apply At.s)) (by repeat (first | exact At.z | apply At.s)) rfl) ?_
                  refine lwant rfl rfl rfl rfl (o_call (is := []) Tryd.call29 (c_lineAll p.new _ _ hp.n) rfl rfl (by repeat (first | exact Sub.d | (refine Sub.s ?_ ?_; (repeat (first | exact In.z | apply In.s))) | (refine Sub.suf ?_; (repeat (first | exact Suf.z | apply Suf.s))))) rfl) ?_
                  refine le ?_; intro x49
                  refine ls (op (p_pickt rfl rfl) rfl) ?_
                  refine ln (nmid (wk0 (by repeat (first | exact subσ.nil _ | refine subσ.cons rfl ?_)) (by repeat (first | exact Sub.d | (refine Sub.s ?_ ?_; (repeat (first | exact In.z | apply In.s))) | (refine Sub.suf ?_; (repeat (first | exact Suf.z | apply Suf.s)))))))
                ·
                  refine ls (op (p_move rfl) rfl) ?_
                  refine andX 7 51 58 rfl (subσ.cons (t := 0) rfl (subσ.cons (t := 1) rfl (subσ.cons (t := 2) rfl (subσ.cons (t := 18) rfl (subσ.cons (t := 3) rfl (subσ.cons (t := 20) rfl (subσ.cons (t := 21) rfl (subσ.cons (t := 22) rfl (subσ.cons (t := 23) rfl (subσ.cons (t := 19) rfl (subσ.cons (t := 25) rfl (subσ.cons (t := 26) rfl (subσ.cons (t := 27) rfl (subσ.cons (t := 24) rfl (subσ.nil _))))))))))))))) ?_ ?_
                  · intro h51
                    refine lskip rfl rfl rfl rfl rfl ?_
                    refine lskip rfl rfl rfl rfl rfl ?_
                    refine lskip rfl rfl rfl rfl rfl ?_
                    refine lskip rfl rfl rfl rfl rfl ?_
                    refine lskip rfl rfl rfl rfl rfl ?_
                    refine lskip rfl rfl rfl rfl rfl ?_
                    refine ls (op (p_pickf rfl rfl) rfl) ?_
                    refine ln (nmid (wk0 (by repeat (first | exact subσ.nil _ | refine subσ.cons rfl ?_)) (by repeat (first | exact Sub.d | (refine Sub.s ?_ ?_; (repeat (first | exact In.z | apply In.s))) | (refine Sub.suf ?_; (repeat (first | exact Suf.z | apply Suf.s)))))))
                  apply exI
                  · intro h51
                    refine lwant rfl rfl rfl rfl (op (p_fa fa27_4 rfl) rfl) ?_
                    refine lwant rfl rfl rfl rfl (o_ld Tryd.isAgg22 rfl (by repeat (first | exact At.z | apply At.s)) (by repeat (first | exact At.z | apply At.s)) rfl) ?_
                    refine lwant rfl rfl rfl rfl (op (p_fa fa27_5 rfl) rfl) ?_
                    refine lwant rfl rfl rfl rfl (o_ld Tryd.isAgg22 rfl (by repeat (first | exact At.z | apply At.s)) (by repeat (first | exact At.z | apply At.s)) rfl) ?_
                    refine lwant rfl rfl rfl rfl (o_call (is := []) Tryd.call27 (c_lineSame p.old p.new _ _ _ _ hp.o) rfl rfl (by repeat (first | exact Sub.d | (refine Sub.s ?_ ?_; (repeat (first | exact In.z | apply In.s))) | (refine Sub.suf ?_; (repeat (first | exact Suf.z | apply Suf.s))))) rfl) ?_
                    refine le ?_; intro x56
                    refine lwant rfl rfl rfl rfl (op (p_not rfl) rfl) ?_
                    refine ls (op (p_pickt rfl rfl) rfl) ?_
                    refine ln (nmid (wk0 (by repeat (first | exact subσ.nil _ | refine subσ.cons rfl ?_)) (by repeat (first | exact Sub.d | (refine Sub.s ?_ ?_; (repeat (first | exact In.z | apply In.s))) | (refine Sub.suf ?_; (repeat (first | exact Suf.z | apply Suf.s)))))))
                  ·
                    refine ls (op (p_asg rfl) rfl) ?_
                    refine ln ?_
                    refine nthen ?_
                    refine cret ?_
                    refine xret (fun _ _ h => h) ?_
                    refine rret (is := []) () (Or.inl rfl) (Res.t rfl Res.d) ?_ rfl (by repeat (first | exact Sub.d | (refine Sub.s ?_ ?_; (repeat (first | exact In.z | apply In.s))) | (refine Sub.suf ?_; (repeat (first | exact Suf.z | apply Suf.s)))))
                    simp [packV, Prim.right, Prim.bare, *]
        · intro h24
          try simp only [decide_eq_true_eq, decide_eq_false_iff_not, Bool.not_eq_true', Bool.not_eq_false', Int.not_lt, Int.not_le, ge_iff_le, Bool.not_true, Bool.not_false] at h24
          refine cs ?_
          refine cr ?_
          refine ls (op (p_fa fa27_0 rfl) rfl) ?_
          refine ls (o_ld Tryd.isAgg3 rfl (by repeat (first | exact At.z | apply At.s)) (by repeat (first | exact At.z | apply At.s)) rfl) ?_
          refine ls (op (p_icmp rfl rfl rfl) rfl) ?_
          refine ls (op (p_asg rfl) rfl) ?_
          refine ln ?_
          refine nthen ?_
          refine cc rfl ?_ ?_
          · intro h59
            try simp only [decide_eq_true_eq, decide_eq_false_iff_not, Bool.not_eq_true', Bool.not_eq_false', Int.not_lt, Int.not_le, ge_iff_le, Bool.not_true, Bool.not_false] at h59
            refine cs ?_
            refine cr ?_
            refine ls (op (p_move rfl) rfl) ?_
            refine ls (op (p_move rfl) rfl) ?_
            refine andX 4 64 68 rfl (subσ.cons (t := 0) rfl (subσ.cons (t := 1) rfl (subσ.cons (t := 2) rfl (subσ.cons (t := 18) rfl (subσ.cons (t := 3) rfl (subσ.cons (t := 20) rfl (subσ.cons (t := 21) rfl (subσ.cons (t := 22) rfl (subσ.cons (t := 23) rfl (subσ.cons (t := 19) rfl (subσ.cons (t := 25) rfl (subσ.cons (t := 26) rfl (subσ.cons (t := 27) rfl (subσ.cons (t := 24) rfl (subσ.cons (t := 60) rfl (subσ.cons (t := 61) rfl (subσ.cons (t := 62) rfl (subσ.cons (t := 59) rfl (subσ.nil _))))))))))))))))))) ?_ ?_
            · intro h64
              refine lskip rfl rfl rfl rfl rfl ?_
              refine lskip rfl rfl rfl rfl rfl ?_
              refine lskip rfl rfl rfl rfl rfl ?_
              refine ls (op (p_pickf rfl rfl) rfl) ?_
              refine ln (nmid (wk0 (by repeat (first | exact subσ.nil _ | refine subσ.cons rfl ?_)) (by repeat (first | exact Sub.d | (refine Sub.s ?_ ?_; (repeat (first | exact In.z | apply In.s))) | (refine Sub.suf ?_; (repeat (first | exact Suf.z | apply Suf.s)))))))
            apply exI
            · intro h64
              refine lwant rfl rfl rfl rfl (op (p_fa fa27_2 rfl) rfl) ?_
              refine lwant rfl rfl rfl rfl (o_ld Tryd.isAgg9 rfl (by repeat (first | exact At.z | apply At.s)) (by repeat (first | exact At.z | apply At.s)) rfl) ?_
              refine lwant rfl rfl rfl rfl (o_call (is := []) Tryd.call28 (c_treeNamed _) rfl rfl (by repeat (first | exact Sub.d | (refine Sub.s ?_ ?_; (repeat (first | exact In.z | apply In.s))) | (refine Sub.suf ?_; (repeat (first | exact Suf.z | apply Suf.s))))) rfl) ?_
              refine le ?_; intro x67
              refine ls (op (p_pickt rfl rfl) rfl) ?_
              refine ln (nmid (wk0 (by repeat (first | exact subσ.nil _ | refine subσ.cons rfl ?_)) (by repeat (first | exact Sub.d | (refine Sub.s ?_ ?_; (repeat (first | exact In.z | apply In.s))) | (refine Sub.suf ?_; (repeat (first | exact Suf.z | apply Suf.s)))))))
            ·
              refine ls (op (p_move rfl) rfl) ?_
              refine andX 6 69 75 rfl (subσ.cons (t := 0) rfl (subσ.cons (t := 1) rfl (subσ.cons (t := 2) rfl (subσ.cons (t := 18) rfl (subσ.cons (t := 3) rfl (subσ.cons (t := 20) rfl (subσ.cons (t := 21) rfl (subσ.cons (t := 22) rfl (subσ.cons (t := 23) rfl (subσ.cons (t := 19) rfl (subσ.cons (t := 25) rfl (subσ.cons (t := 26) rfl (subσ.cons (t := 27) rfl (subσ.cons (t := 24) rfl (subσ.cons (t := 60) rfl (subσ.cons (t := 61) rfl (subσ.cons (t := 62) rfl (subσ.cons (t := 59) rfl (subσ.nil _))))))))))))))))))) ?_ ?_
              · intro h69
                refine lskip rfl rfl rfl rfl rfl ?_
                refine lskip rfl rfl rfl rfl rfl ?_
                refine lskip rfl rfl rfl rfl rfl ?_
                refine lskip rfl rfl rfl rfl rfl ?_
                refine lskip rfl rfl rfl rfl rfl ?_
                refine ls (op (p_pickf rfl rfl) rfl) ?_
                refine ln (nmid (wk0 (by repeat (first | exact subσ.nil _ | refine subσ.cons rfl ?_)) (by repeat (first | exact Sub.d | (refine Sub.s ?_ ?_; (repeat (first | exact In.z | apply In.s))) | (refine Sub.suf ?_; (repeat (first | exact Suf.z | apply Suf.s)))))))
              apply exI
              · intro h69
                refine lwant rfl rfl rfl rfl (op (p_fa fa27_2 rfl) rfl) ?_
                refine lwant rfl rfl rfl rfl (o_ld Tryd.isAgg9 rfl (by repeat (first | exact At.z | apply At.s)) (by repeat (first | exact At.z | apply At.s)) rfl) ?_
                refine lwant rfl rfl rfl rfl (op (p_fa fa27_1 rfl) rfl) ?_
                refine lwant rfl rfl rfl rfl (o_ld Tryd.isAgg9 rfl (by repeat (first | exact At.z | apply At.s)) (by repeat (first | exact At.z | apply At.s)) rfl) ?_
                refine lwant rfl rfl rfl rfl (op (p_sne rfl rfl) rfl) ?_
                refine ls (op (p_pickt rfl rfl) rfl) ?_
                refine ln (nmid (wk0 (by repeat (first | exact subσ.nil _ | refine subσ.cons rfl ?_)) (by repeat (first | exact Sub.d | (refine Sub.s ?_ ?_; (repeat (first | exact In.z | apply In.s))) | (refine Sub.suf ?_; (repeat (first | exact Suf.z | apply Suf.s)))))))
              ·
                refine ls (op (p_asg rfl) rfl) ?_
                refine ln ?_
                refine nthen ?_
                refine cret ?_
                refine xret (fun _ _ h => h) ?_
                refine rret (is := []) () (Or.inl rfl) (Res.t rfl Res.d) ?_ rfl (by repeat (first | exact Sub.d | (refine Sub.s ?_ ?_; (repeat (first | exact In.z | apply In.s))) | (refine Sub.suf ?_; (repeat (first | exact Suf.z | apply Suf.s)))))
                simp [packV, Prim.right, Prim.bare, *]
          · intro h59
            try simp only [decide_eq_true_eq, decide_eq_false_iff_not, Bool.not_eq_true', Bool.not_eq_false', Int.not_lt, Int.not_le, ge_iff_le, Bool.not_true, Bool.not_false] at h59
            refine cskip ?_
            refine nblock ?_
            refine nthen ?_
            refine cs ?_
            refine cr ?_
            refine ls (op (p_move rfl) rfl) ?_
            refine ls (op (p_move rfl) rfl) ?_
            refine andX 4 77 81 rfl (subσ.cons (t := 0) rfl (subσ.cons (t := 1) rfl (subσ.cons (t := 2) rfl (subσ.cons (t := 18) rfl (subσ.cons (t := 3) rfl (subσ.cons (t := 20) rfl (subσ.cons (t := 21) rfl (subσ.cons (t := 22) rfl (subσ.cons (t := 23) rfl (subσ.cons (t := 19) rfl (subσ.cons (t := 25) rfl (subσ.cons (t := 26) rfl (subσ.cons (t := 27) rfl (subσ.cons (t := 24) rfl (subσ.cons (t := 60) rfl (subσ.cons (t := 61) rfl (subσ.cons (t := 62) rfl (subσ.cons (t := 59) rfl (subσ.nil _))))))))))))))))))) ?_ ?_
            · intro h77
              refine lskip rfl rfl rfl rfl rfl ?_
              refine lskip rfl rfl rfl rfl rfl ?_
              refine lskip rfl rfl rfl rfl rfl ?_
              refine ls (op (p_pickf rfl rfl) rfl) ?_
              refine ln (nmid (wk0 (by repeat (first | exact subσ.nil _ | refine subσ.cons rfl ?_)) (by repeat (first | exact Sub.d | (refine Sub.s ?_ ?_; (repeat (first | exact In.z | apply In.s))) | (refine Sub.suf ?_; (repeat (first | exact Suf.z | apply Suf.s)))))))
            apply exI
            · intro h77
              refine lwant rfl rfl rfl rfl (op (p_fa fa27_2 rfl) rfl) ?_
              refine lwant rfl rfl rfl rfl (o_ld Tryd.isAgg9 rfl (by repeat (first | exact At.z | apply At.s)) (by repeat (first | exact At.z | apply At.s)) rfl) ?_
              refine lwant rfl rfl rfl rfl (op (p_seq rfl rfl) rfl) ?_
              refine ls (op (p_pickt rfl rfl) rfl) ?_
              refine ln (nmid (wk0 (by repeat (first | exact subσ.nil _ | refine subσ.cons rfl ?_)) (by repeat (first | exact Sub.d | (refine Sub.s ?_ ?_; (repeat (first | exact In.z | apply In.s))) | (refine Sub.suf ?_; (repeat (first | exact Suf.z | apply Suf.s)))))))
            ·
              refine ls (op (p_move rfl) rfl) ?_
              refine andX 9 82 91 rfl (subσ.cons (t := 0) rfl (subσ.cons (t := 1) rfl (subσ.cons (t := 2) rfl (subσ.cons (t := 18) rfl (subσ.cons (t := 3) rfl (subσ.cons (t := 20) rfl (subσ.cons (t := 21) rfl (subσ.cons (t := 22) rfl (subσ.cons (t := 23) rfl (subσ.cons (t := 19) rfl (subσ.cons (t := 25) rfl (subσ.cons (t := 26) rfl (subσ.cons (t := 27) rfl (subσ.cons (t := 24) rfl (subσ.cons (t := 60) rfl (subσ.cons (t := 61) rfl (subσ.cons (t := 62) rfl (subσ.cons (t := 59) rfl (subσ.nil _))))))))))))))))))) ?_ ?_
              · intro h82
                refine lskip rfl rfl rfl rfl rfl ?_
                refine lskip rfl rfl rfl rfl rfl ?_
                refine lskip rfl rfl rfl rfl rfl ?_
                refine lskip rfl rfl rfl rfl rfl ?_
                refine lskipu rfl rfl rfl rfl ?_
                refine lskipu rfl rfl rfl rfl ?_
                refine lskipu rfl rfl rfl rfl ?_
                refine lskip rfl rfl rfl rfl rfl ?_
                refine ls (op (p_pickf rfl rfl) rfl) ?_
                refine ln (nmid (wk0 (by repeat (first | exact subσ.nil _ | refine subσ.cons rfl ?_)) (by repeat (first | exact Sub.d | (refine Sub.s ?_ ?_; (repeat (first | exact In.z | apply In.s))) | (refine Sub.suf ?_; (repeat (first | exact Suf.z | apply Suf.s)))))))
              apply exI
              · intro h82
                refine lwant rfl rfl rfl rfl (op (p_fa fa27_0 rfl) rfl) ?_
                refine lwant rfl rfl rfl rfl (o_ld Tryd.isAgg3 rfl (by repeat (first | exact At.z | apply At.s)) (by repeat (first | exact At.z | apply At.s)) rfl) ?_
                refine lwant rfl rfl rfl rfl (op (p_icmp rfl rfl rfl) rfl) ?_
                refine lwant rfl rfl rfl rfl (op (p_move rfl) rfl) ?_
                refine orX 4 86 90 rfl (subσ.cons (t := 0) rfl (subσ.cons (t := 1) rfl (subσ.cons (t := 2) rfl (subσ.cons (t := 18) rfl (subσ.cons (t := 3) rfl (subσ.cons (t := 20) rfl (subσ.cons (t := 21) rfl (subσ.cons (t := 22) rfl (subσ.cons (t := 23) rfl (subσ.cons (t := 19) rfl (subσ.cons (t := 25) rfl (subσ.cons (t := 26) rfl (subσ.cons (t := 27) rfl (subσ.cons (t := 24) rfl (subσ.cons (t := 60) rfl (subσ.cons (t := 61) rfl (subσ.cons (t := 62) rfl (subσ.cons (t := 59) rfl (subσ.cons (t := 82) rfl (subσ.nil _)))))))))))))))))))) ?_ ?_
                · intro h86
                  refine lskip rfl rfl rfl rfl rfl ?_
                  refine lskip rfl rfl rfl rfl rfl ?_
                  refine lskip rfl rfl rfl rfl rfl ?_
                  refine lwant rfl rfl rfl rfl (op (p_pickt rfl rfl) rfl) ?_
                  refine ln (nmid (wk0 (by repeat (first | exact subσ.nil _ | refine subσ.cons rfl ?_)) (by repeat (first | exact Sub.d | (refine Sub.s ?_ ?_; (repeat (first | exact In.z | apply In.s))) | (refine Sub.suf ?_; (repeat (first | exact Suf.z | apply Suf.s)))))))
                apply exI
                · intro h86
                  refine lwant rfl rfl rfl rfl (op (p_fa fa27_0 rfl) rfl) ?_
                  refine lwant rfl rfl rfl rfl (o_ld Tryd.isAgg3 rfl (by repeat (first | exact At.z | apply At.s)) (by repeat (first | exact At.z | apply At.s)) rfl) ?_
                  refine lwant rfl rfl rfl rfl (op (p_icmp rfl rfl rfl) rfl) ?_
                  refine lwant rfl rfl rfl rfl (op (p_pickf rfl rfl) rfl) ?_
                  refine ln (nmid (wk0 (by repeat (first | exact subσ.nil _ | refine subσ.cons rfl ?_)) (by repeat (first | exact Sub.d | (refine Sub.s ?_ ?_; (repeat (first | exact In.z | apply In.s))) | (refine Sub.suf ?_; (repeat (first | exact Suf.z | apply Suf.s)))))))
                ·
                  refine ls (op (p_pickt rfl rfl) rfl) ?_
                  refine ln (nmid (wk0 (by repeat (first | exact subσ.nil _ | refine subσ.cons rfl ?_)) (by repeat (first | exact Sub.d | (refine Sub.s ?_ ?_; (repeat (first | exact In.z | apply In.s))) | (refine Sub.suf ?_; (repeat (first | exact Suf.z | apply Suf.s)))))))
              ·
                refine ls (op (p_asg rfl) rfl) ?_
                refine ln ?_
                refine nthen ?_
                refine cret ?_
                refine xret (fun _ _ h => h) ?_
                refine rret (is := []) () (Or.inl rfl) (Res.t rfl Res.d) ?_ rfl (by repeat (first | exact Sub.d | (refine Sub.s ?_ ?_; (repeat (first | exact In.z | apply In.s))) | (refine Sub.suf ?_; (repeat (first | exact Suf.z | apply Suf.s)))))
                simp [packV, Prim.right, Prim.bare, *]

end Go.Proofs.YtaojmjfgopbgcaaDoor.X
