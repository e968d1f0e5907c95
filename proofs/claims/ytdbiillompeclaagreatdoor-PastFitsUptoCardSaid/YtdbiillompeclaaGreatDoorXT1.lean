/- OWN WORK: a part of the proof of a law of the seat YtdbiillompeclaaGreatDoor: what the functions compute. -/
import Derived.Test.YtdbiillompeclaaGreatDoorProg
import Derived.Test.YtdbiillompeclaaGreatDoorXA2
import Derived.Test.YtdbiillompeclaaGreatDoorXMp
section
set_option linter.unusedVariables false
set_option linter.unusedSimpArgs false
namespace Go.Proofs.YtdbiillompeclaaGreatDoor.X
open Go Go.RowKit Go.Proofs Go.Sx
attribute [local irreducible] slA isA box row

/-- trees of few lines -/
def Tfit (T : List File) : Prop := ∀ x ∈ T, x.2.length ≤ 2000000
theorem Tfit.get {T : List File} (h : Tfit T) (k : ByteArray) : (getL T k).length ≤ 2000000 := by
 unfold getL getT
 cases e : T.find? (fun x => decide (x.1 = k)) with
 | none => simp
 | some x => simpa using h x (List.mem_of_find?_eq_some e)

theorem fa120_0 : FA Tryz.prog 120 0 0 := fun b o w => by kernel_rfl
theorem sb120 : SB Tryz.prog 120 [(0, 1)] [.map none] := SB.struct Tryz.zeroValue120 rfl Tryz.underlying120 (fun w => by kernel_rfl)
set_option maxRecDepth 100000 in
theorem c_sCloneR (l : List ByteArray) (A : Option Addr) (c : Nat) (hl : l.length ≤ 2000000) : Con Tryz.prog 74 [.slice A l.length c] [] [slA A l] (Option Addr × Nat) (fun y => .slice y.1 l.length y.2) (fun y => [row 9 y.1 y.2 l]) (fun _ => []) := by
 refine con Tryz.func74 rfl Tryz.ntmps74 rfl ?_
 intro M0 F0 w0
 refine cs ?_
 refine cr ?_
 refine ls (op (p_asg rfl) rfl) ?_
 refine ln ?_
 refine nthen ?_
 refine cs ?_
 refine cs ?_
 refine cr ?_
 refine ls (op (p_move rfl) rfl) ?_
 refine ls (op (p_slnil Tryz.underlying37 rfl rfl) rfl) ?_
 refine ln ?_
 refine nthen ?_
 refine cc rfl ?_ ?_
 ·
  intro h4
  have h5 : A = none := by simpa using h4
  refine cs ?_
  subst h5
  refine cmono (fun a w h => nil_len (l := l) (i := 0) At.z h) ?_
  refine cf ?_; rintro rfl
  refine cmono (fun a w h => nilRow (α := ByteArray) 9 h) ?_
  refine cr ?_
  refine ls (op (p_asg rfl) rfl) ?_
  refine ln ?_
  refine nthen ?_
  refine cret ?_
  refine xret (fun _ _ h => h) ?_
  refine rret (is := [0]) (none, 0) (Or.inl rfl) (Res.t rfl Res.d) (rfl) rfl (by repeat' (first | constructor | apply Sub.suf))
 ·
  intro h4
  have h5 : ¬ A = none := by intro e; rw [e] at h4; cases h4
  refine cskip ?_
  refine nthen ?_
  refine cs ?_
  refine cr ?_
  refine ls (o_bsl ([] : List ByteArray) Tryz.underlying37 Tryz.sizeOf9 Tryz.zeroValue9 rfl Enum.d RV.d rfl (by decide) (by decide) rfl) ?_
  refine le ?_; intro b5
  refine ls (op (p_move rfl) rfl) ?_
  refine ls (o_app (is := [0]) Tryz.underlying37 inf9 rfl (by decide) (by decide) rfl rfl (by simp; omega) (fun _ h => absurd h h5) rfl (by repeat' (first | constructor | apply Sub.suf)) rfl) ?_
  refine le ?_; rintro ⟨A', c2⟩
  rw [List.nil_append]
  refine ls (op (p_asg rfl) rfl) ?_
  refine ln ?_
  refine nthen ?_
  refine cret ?_
  refine xret (fun _ _ h => h) ?_
  refine rret (is := [0]) (A', c2) (Or.inl rfl) (Res.t rfl Res.d) (rfl) rfl (by repeat' (first | constructor | apply Sub.suf))

set_option maxRecDepth 100000 in
theorem c_tNew : Con Tryz.prog 23 [] [] [] (Nat × Nat) (fun y => .pointer (some ⟨y.1, 0, none⟩)) (fun y => [box y.1 120 [.map (some y.2)], tr y.2 []]) (fun _ => []) := by
 refine con Tryz.func23 rfl Tryz.ntmps23 rfl ?_
 intro M0 F0 w0
 refine cs ?_
 refine cr ?_
 refine ls (op (p_asg rfl) rfl) ?_
 refine ln ?_
 refine nthen ?_
 refine cs ?_
 refine cr ?_
 refine ls (o_mmk rfl) ?_
 refine le ?_; intro m1
 refine ls (op (p_bld sb120 rfl (Fill.t (by repeat' constructor) rfl rfl (by repeat' constructor) Fill.d)) rfl) ?_
 refine ls (o_box rfl rfl rfl) ?_
 refine le ?_; intro b3
 refine ls (op (p_asg rfl) rfl) ?_
 refine ln ?_
 refine nthen ?_
 refine cret ?_
 refine xret (fun _ _ h => h) ?_
 refine rret (is := [0, 0]) (b3, m1) (Or.inl rfl) (Res.t rfl Res.d) (rfl) rfl (by repeat' (first | constructor | apply Sub.suf))

set_option maxRecDepth 100000 in
theorem c_tHas (p b : Nat) (T : List File) (k : ByteArray) : Con Tryz.prog 72 [.pointer (some ⟨p, 0, none⟩), .string k] [box p 120 [.map (some b)], tr b T] [] Unit (fun _ => .bool (hasT T k)) (fun _ => [box p 120 [.map (some b)], tr b T]) (fun _ => []) := by
 refine con Tryz.func72 rfl Tryz.ntmps72 rfl ?_
 intro M0 F0 w0
 refine cs ?_
 refine cr ?_
 refine ls (op (p_asg rfl) rfl) ?_
 refine ln ?_
 refine nthen ?_
 refine cs ?_
 refine cr ?_
 refine ls (op (p_move rfl) rfl) ?_
 refine ls (op (p_nilck rfl) rfl) ?_
 refine ls (op (p_fa fa120_0 rfl) rfl) ?_
 refine ls (o_ld Tryz.isAgg118 rfl (by repeat' constructor) (by repeat' constructor) rfl) ?_
 refine ls (op (p_move rfl) rfl) ?_
 refine ls (o_look Tryz.underlying118 Tryz.underlying9 Tryz.zeroValue37 rfl rfl (by repeat' constructor) rfl) ?_
 refine le ?_; rintro y13
 refine ls (op (p_move rfl) rfl) ?_
 refine ls (op (p_ext rfl (by repeat' constructor)) rfl) ?_
 refine ls (op (p_ext rfl (by repeat' constructor)) rfl) ?_
 refine ls (op (p_asg rfl) rfl) ?_
 refine ls (op (p_asg rfl) rfl) ?_
 refine ln ?_
 refine nthen ?_
 refine cs ?_
 refine cr ?_
 refine ls (op (p_move rfl) rfl) ?_
 refine ls (op (p_asg rfl) rfl) ?_
 refine ln ?_
 refine nthen ?_
 refine cret ?_
 refine xret (fun _ _ h => h) ?_
 refine rret (is := [0, 0]) () (Or.inl rfl) (Res.t rfl Res.d) (rfl) rfl (by repeat' (first | constructor | apply Sub.suf))

set_option maxRecDepth 100000 in
theorem c_tAdd (p b : Nat) (T : List File) (k : ByteArray) : Con Tryz.prog 25 [.pointer (some ⟨p, 0, none⟩), .string k] [box p 120 [.map (some b)], tr b T] [] {q : List File × Int // q = tAdd T k} (fun q => .int .i64 q.1.2) (fun q => [box p 120 [.map (some b)], tr b q.1.1]) (fun _ => []) := by
 refine con Tryz.func25 rfl Tryz.ntmps25 rfl ?_
 intro M0 F0 w0
 refine cs ?_
 refine cr ?_
 refine ls (op (p_asg rfl) rfl) ?_
 refine ln ?_
 refine nthen ?_
 refine cs ?_
 refine cb ?_
 refine cs ?_
 refine cr ?_
 refine ls (op (p_move rfl) rfl) ?_
 refine ls (o_call (is := []) Tryz.call71 (c_treeNamed k) rfl rfl (by repeat' (first | constructor | apply Sub.suf)) rfl) ?_
 refine le ?_; intro x7
 refine ls (op (p_not rfl) rfl) ?_
 refine ls (op (p_asg rfl) rfl) ?_
 refine ln ?_
 refine nthen ?_
 refine cc rfl ?_ ?_
 ·
  intro h5
  refine cs ?_
  refine cr ?_
  refine ls (op (p_asg rfl) rfl) ?_
  refine ln ?_
  refine nthen ?_
  refine cret ?_
  refine xret (fun _ _ h => h) ?_
  refine rret (is := [0, 0]) ⟨(T, 20), by simp only [Bool.not_eq_true'] at h5; simp [tAdd, h5]⟩ (Or.inl rfl) (Res.t rfl Res.d) (rfl) rfl (by repeat' (first | constructor | apply Sub.suf))
 ·
  intro h5
  refine cs ?_
  refine cr ?_
  refine ls (op (p_move rfl) rfl) ?_
  refine ls (op (p_move rfl) rfl) ?_
  refine ls (o_call (is := [0, 0]) Tryz.call72 (c_tHas p b T k) rfl rfl (by repeat' (first | constructor | apply Sub.suf)) rfl) ?_
  refine le ?_; intro x12
  refine ls (op (p_asg rfl) rfl) ?_
  refine ln ?_
  refine nthen ?_
  refine cc rfl ?_ ?_
  ·
   intro h9
   refine cs ?_
   refine cr ?_
   refine ls (op (p_asg rfl) rfl) ?_
   refine ln ?_
   refine nthen ?_
   refine cret ?_
   refine xret (fun _ _ h => h) ?_
   refine rret (is := [0, 0]) ⟨(T, 21), by simp only [Bool.not_eq_false'] at h5; simp [tAdd, h5, h9]⟩ (Or.inl rfl) (Res.t rfl Res.d) (rfl) rfl (by repeat' (first | constructor | apply Sub.suf))
  ·
   intro h9
   refine cskip ?_
   refine nblock ?_
   refine nthen ?_
   refine cs ?_
   refine cr ?_
   refine ls (op (p_move rfl) rfl) ?_
   refine ls (op (p_nilck rfl) rfl) ?_
   refine ls (op (p_fa fa120_0 rfl) rfl) ?_
   refine ls (o_ld Tryz.isAgg118 rfl (by repeat' constructor) (by repeat' constructor) rfl) ?_
   refine ls (op (p_move rfl) rfl) ?_
   refine ls (o_mupdN (i := 1) Tryz.underlying118 Tryz.underlying9 rfl rfl rfl rfl) ?_
   refine ln ?_
   refine nthen ?_
   refine cs ?_
   refine cr ?_
   refine ls (op (p_asg rfl) rfl) ?_
   refine ln ?_
   refine nthen ?_
   refine cret ?_
   refine xret (fun _ _ h => h) ?_
   refine rret (is := [1, 0]) ⟨(putT T k [], 0), by simp only [Bool.not_eq_false'] at h5; simp [tAdd, h5, h9]⟩ (Or.inl rfl) (Res.t rfl Res.d) (rfl) rfl (by repeat' (first | constructor | apply Sub.suf))

set_option maxRecDepth 100000 in
theorem c_tRem (p b : Nat) (T : List File) (k : ByteArray) : Con Tryz.prog 129 [.pointer (some ⟨p, 0, none⟩), .string k] [box p 120 [.map (some b)], tr b T] [] {q : List File × Int // q = tRem T k} (fun q => .int .i64 q.1.2) (fun q => [box p 120 [.map (some b)], tr b q.1.1]) (fun _ => []) := by
 refine con Tryz.func129 rfl Tryz.ntmps129 rfl ?_
 intro M0 F0 w0
 refine cs ?_
 refine cr ?_
 refine ls (op (p_asg rfl) rfl) ?_
 refine ln ?_
 refine nthen ?_
 refine cs ?_
 refine cb ?_
 refine cs ?_
 refine cr ?_
 refine ls (op (p_move rfl) rfl) ?_
 refine ls (op (p_move rfl) rfl) ?_
 refine ls (o_call (is := [0, 0]) Tryz.call72 (c_tHas p b T k) rfl rfl (by repeat' (first | constructor | apply Sub.suf)) rfl) ?_
 refine le ?_; intro x8
 refine ls (op (p_not rfl) rfl) ?_
 refine ls (op (p_asg rfl) rfl) ?_
 refine ln ?_
 refine nthen ?_
 refine cc rfl ?_ ?_
 ·
  intro h5
  refine cs ?_
  refine cr ?_
  refine ls (op (p_asg rfl) rfl) ?_
  refine ln ?_
  refine nthen ?_
  refine cret ?_
  refine xret (fun _ _ h => h) ?_
  refine rret (is := [0, 0]) ⟨(T, 20), by simp only [Bool.not_eq_true'] at h5; simp [tRem, h5]⟩ (Or.inl rfl) (Res.t rfl Res.d) (rfl) rfl (by repeat' (first | constructor | apply Sub.suf))
 ·
  intro h5
  refine cs ?_
  refine cr ?_
  refine ls (op (p_move rfl) rfl) ?_
  refine ls (op (p_nilck rfl) rfl) ?_
  refine ls (op (p_fa fa120_0 rfl) rfl) ?_
  refine ls (o_ld Tryz.isAgg118 rfl (by repeat' constructor) (by repeat' constructor) rfl) ?_
  refine ls (op (p_move rfl) rfl) ?_
  refine ls (o_look1 Tryz.underlying118 Tryz.underlying9 Tryz.zeroValue37 rfl rfl (by repeat' constructor) rfl) ?_
  refine le ?_; rintro y16
  refine ls (op (p_lenl rfl Tryz.underlying37) rfl) ?_
  refine ls (op (p_icmp rfl rfl rfl) rfl) ?_
  refine ls (op (p_asg rfl) rfl) ?_
  refine ln ?_
  refine nthen ?_
  refine cc rfl ?_ ?_
  ·
   intro h10
   refine cs ?_
   refine cr ?_
   refine ls (op (p_asg rfl) rfl) ?_
   refine ln ?_
   refine nthen ?_
   refine cret ?_
   refine xret (fun _ _ h => h) ?_
   refine rret (is := [0, 0]) ⟨(T, 22), by simp only [Bool.not_eq_false'] at h5; have h : 0 < (getL T k).length := (by simp at h10; omega); simp [tRem, h5, h]⟩ (Or.inl rfl) (Res.t rfl Res.d) (rfl) rfl (by repeat' (first | constructor | apply Sub.suf))
  ·
   intro h10
   refine cskip ?_
   refine nblock ?_
   refine nthen ?_
   refine cs ?_
   refine cr ?_
   refine ls (op (p_move rfl) rfl) ?_
   refine ls (op (p_nilck rfl) rfl) ?_
   refine ls (op (p_fa fa120_0 rfl) rfl) ?_
   refine ls (o_ld Tryz.isAgg118 rfl (by repeat' constructor) (by repeat' constructor) rfl) ?_
   refine ls (op (p_move rfl) rfl) ?_
   refine ls (o_mdel0 (i := 1) Tryz.underlying118 Tryz.underlying9 rfl rfl rfl) ?_
   refine ln ?_
   refine nthen ?_
   refine cs ?_
   refine cr ?_
   refine ls (op (p_asg rfl) rfl) ?_
   refine ln ?_
   refine nthen ?_
   refine cret ?_
   refine xret (fun _ _ h => h) ?_
   refine rret (is := [1, 0]) ⟨(delT T k, 0), by simp only [Bool.not_eq_false'] at h5; have h : ¬ 0 < (getL T k).length := (by simp at h10; simp [h10]); simp [tRem, h5, h]⟩ (Or.inl rfl) (Res.t rfl Res.d) (rfl) rfl (by repeat' (first | constructor | apply Sub.suf))

set_option maxRecDepth 100000 in
theorem c_tMove (p b : Nat) (T : List File) (k u : ByteArray) : Con Tryz.prog 104 [.pointer (some ⟨p, 0, none⟩), .string k, .string u] [box p 120 [.map (some b)], tr b T] [] {q : List File × Int // q = tMove T k u} (fun q => .int .i64 q.1.2) (fun q => [box p 120 [.map (some b)], tr b q.1.1]) (fun _ => []) := by
 refine con Tryz.func104 rfl Tryz.ntmps104 rfl ?_
 intro M0 F0 w0
 refine cs ?_
 refine cr ?_
 refine ls (op (p_asg rfl) rfl) ?_
 refine ln ?_
 refine nthen ?_
 refine cs ?_
 refine cb ?_
 refine cs ?_
 refine cr ?_
 refine ls (op (p_move rfl) rfl) ?_
 refine ls (op (p_move rfl) rfl) ?_
 refine ls (o_call (is := [0, 0]) Tryz.call72 (c_tHas p b T k) rfl rfl (by repeat' (first | constructor | apply Sub.suf)) rfl) ?_
 refine le ?_; intro x10
 refine ls (op (p_not rfl) rfl) ?_
 refine ls (op (p_move rfl) rfl) ?_
 refine orX 4 12 16 rfl (subσ.cons (t := 0) rfl (subσ.cons (t := 1) rfl (subσ.cons (t := 2) rfl (subσ.cons (t := 6) rfl (subσ.nil _))))) ?_ ?_
 ·
  intro h12
  refine lskip rfl rfl rfl rfl rfl ?_
  refine lskip rfl rfl rfl rfl rfl ?_
  refine lskip rfl rfl rfl rfl rfl ?_
  refine ls (op (p_pickt rfl rfl) rfl) ?_
  refine ln (nmid (wk0 (by repeat (first | exact subσ.nil _ | refine subσ.cons rfl ?_)) (by repeat' (first | constructor | apply Sub.suf))))
 apply exI
 ·
  intro h12
  refine lwant rfl rfl rfl rfl (op (p_move rfl) rfl) ?_
  refine lwant rfl rfl rfl rfl (o_call (is := []) Tryz.call71 (c_treeNamed u) rfl rfl (by repeat' (first | constructor | apply Sub.suf)) rfl) ?_
  refine le ?_; intro x14
  refine lwant rfl rfl rfl rfl (op (p_not rfl) rfl) ?_
  refine ls (op (p_pickf rfl rfl) rfl) ?_
  refine ln (nmid (wk0 (by repeat (first | exact subσ.nil _ | refine subσ.cons rfl ?_)) (by repeat' (first | constructor | apply Sub.suf))))
 ·
  refine ls (op (p_asg rfl) rfl) ?_
  refine ln ?_
  refine nthen ?_
  refine cc rfl ?_ ?_
  ·
   intro h7
   refine cs ?_
   refine cr ?_
   refine ls (op (p_asg rfl) rfl) ?_
   refine ln ?_
   refine nthen ?_
   refine cret ?_
   refine xret (fun _ _ h => h) ?_
   refine rret (is := [0, 0]) ⟨(T, 20), by simp at h7; simp [tMove, h7]⟩ (Or.inl rfl) (Res.t rfl Res.d) (rfl) rfl (by repeat' (first | constructor | apply Sub.suf))
  ·
   intro h7
   refine cs ?_
   refine cr ?_
   refine ls (op (p_move rfl) rfl) ?_
   refine ls (op (p_move rfl) rfl) ?_
   refine ls (o_call (is := [0, 0]) Tryz.call72 (c_tHas p b T u) rfl rfl (by repeat' (first | constructor | apply Sub.suf)) rfl) ?_
   refine le ?_; intro x20
   refine ls (op (p_asg rfl) rfl) ?_
   refine ln ?_
   refine nthen ?_
   refine cc rfl ?_ ?_
   ·
    intro h17
    refine cs ?_
    refine cr ?_
    refine ls (op (p_asg rfl) rfl) ?_
    refine ln ?_
    refine nthen ?_
    refine cret ?_
    refine xret (fun _ _ h => h) ?_
    refine rret (is := [0, 0]) ⟨(T, 21), by simp at h7; simp [tMove, h7, h17]⟩ (Or.inl rfl) (Res.t rfl Res.d) (rfl) rfl (by repeat' (first | constructor | apply Sub.suf))
   ·
    intro h17
    refine cskip ?_
    refine nblock ?_
    refine nthen ?_
    refine cs ?_
    refine cd [10, 11] [(3, p, 0, _), (8, p, 0, _)] TryzX.mixed (TOk.t (isBoxS (by repeat' constructor) (k := 1) (by repeat (first | exact Cut.d | apply Cut.t | apply Cut.s))) (TOk.t (isBoxS (by repeat' constructor) (k := 1) (by repeat (first | exact Cut.d | apply Cut.t | apply Cut.s))) TOk.d)) ?_
    refine tk 0 rfl (by kernel_rfl) (fun _ _ _ h => h) gnone (TTany _) (p_move rfl) rfl ?_
    refine tk 1 rfl (by kernel_rfl) (fun _ _ _ h => h) gnone (TTany _) (p_nilck rfl) rfl ?_
    refine tk 2 rfl (by kernel_rfl) (fun _ _ _ h => h) gnone (TTany _) (p_fa fa120_0 rfl) rfl ?_
    refine tk 3 rfl (by kernel_rfl) (fun _ _ _ h => h) gnone (TTat (List.Mem.head _)) (p_ld Tryz.isAgg118 rfl) rfl ?_
    refine tk 4 rfl (by kernel_rfl) (fun _ _ _ h => h) gnone (TTany _) (p_move rfl) rfl ?_
    refine tk 5 rfl (by kernel_rfl) (fun _ _ _ h => h) gnone (TTany _) (p_move rfl) rfl ?_
    refine tk 6 rfl (by kernel_rfl) (fun _ _ _ h => h) gnone (TTany _) (p_nilck rfl) rfl ?_
    refine tk 7 rfl (by kernel_rfl) (fun _ _ _ h => h) gnone (TTany _) (p_fa fa120_0 rfl) rfl ?_
    refine tk 8 rfl (by kernel_rfl) (fun _ _ _ h => h) gnone (TTat (List.Mem.tail _ (List.Mem.head _))) (p_ld Tryz.isAgg118 rfl) rfl ?_
    refine tk 9 rfl (by kernel_rfl) (fun _ _ _ h => h) gnone (TTany _) (p_move rfl) rfl ?_
    refine df 10 (by kernel_rfl) ?_
    refine doR rfl (o_look1 Tryz.underlying118 Tryz.underlying9 Tryz.zeroValue37 rfl rfl (by repeat' constructor) rfl) (TOk.t (isBoxE fun _ => isBoxS (by repeat' constructor) (k := 1) (by repeat (first | exact Cut.d | apply Cut.t | apply Cut.s))) (TOk.x (by kernel_rfl) TOk.d)) ?_
    refine ea ?_; rintro y31
    refine df 11 (by kernel_rfl) ?_
    refine doR rfl (o_mupd (i := 1) Tryz.underlying118 Tryz.underlying9 rfl rfl rfl rfl (by repeat' (first | constructor | apply Sub.suf))) (TOk.x (by kernel_rfl) (TOk.x (by kernel_rfl) TOk.d)) ?_
    refine dn (by kernel_rfl) ?_
    refine nthen ?_
    refine cs ?_
    refine cr ?_
    refine ls (op (p_move rfl) rfl) ?_
    refine ls (op (p_nilck rfl) rfl) ?_
    refine ls (op (p_fa fa120_0 rfl) rfl) ?_
    refine ls (o_ld Tryz.isAgg118 rfl (by repeat' constructor) (by repeat' constructor) rfl) ?_
    refine ls (op (p_move rfl) rfl) ?_
    refine ls (o_mdel0 (i := 0) Tryz.underlying118 Tryz.underlying9 rfl rfl rfl) ?_
    refine ln ?_
    refine nthen ?_
    refine cs ?_
    refine cr ?_
    refine ls (op (p_asg rfl) rfl) ?_
    refine ln ?_
    refine nthen ?_
    refine cret ?_
    refine xret (fun _ _ h => h) ?_
    refine rret (is := [1, 0]) ⟨(delT (putT T u (getL T k)) k, 0), by simp at h7; simp [tMove, h7, h17]⟩ (Or.inl rfl) (Res.t rfl Res.d) (rfl) rfl (by repeat' (first | constructor | apply Sub.suf))

set_option maxRecDepth 100000 in
theorem c_tPut (p b : Nat) (T : List File) (k : ByteArray) (l : List ByteArray) (A : Option Addr) (c : Nat) (hl : l.length ≤ 2000000) : Con Tryz.prog 26 [.pointer (some ⟨p, 0, none⟩), .string k, .slice A l.length c] [box p 120 [.map (some b)], tr b T] [slA A l] {q : List File × Int // q = tPut T k l} (fun q => .int .i64 q.1.2) (fun q => [box p 120 [.map (some b)], tr b q.1.1]) (fun _ => []) := by
 refine con Tryz.func26 rfl Tryz.ntmps26 rfl ?_
 intro M0 F0 w0
 refine cs ?_
 refine cr ?_
 refine ls (op (p_asg rfl) rfl) ?_
 refine ln ?_
 refine nthen ?_
 refine cs ?_
 refine cb ?_
 refine cs ?_
 refine cr ?_
 refine ls (op (p_move rfl) rfl) ?_
 refine ls (op (p_move rfl) rfl) ?_
 refine ls (o_call (is := [0, 0]) Tryz.call72 (c_tHas p b T k) rfl rfl (by repeat' (first | constructor | apply Sub.suf)) rfl) ?_
 refine le ?_; intro x10
 refine ls (op (p_not rfl) rfl) ?_
 refine ls (op (p_asg rfl) rfl) ?_
 refine ln ?_
 refine nthen ?_
 refine cc rfl ?_ ?_
 ·
  intro h7
  refine cs ?_
  refine cr ?_
  refine ls (op (p_asg rfl) rfl) ?_
  refine ln ?_
  refine nthen ?_
  refine cret ?_
  refine xret (fun _ _ h => h) ?_
  refine rret (is := [0, 0]) ⟨(T, 20), by simp only [Bool.not_eq_true'] at h7; simp [tPut, h7]⟩ (Or.inl rfl) (Res.t rfl Res.d) (rfl) rfl (by repeat' (first | constructor | apply Sub.suf))
 ·
  intro h7
  refine cs ?_
  refine cr ?_
  refine ls (op (p_move rfl) rfl) ?_
  refine ls (o_call (is := []) Tryz.call73 (c_lineAll l A c hl) rfl rfl (by repeat' (first | constructor | apply Sub.suf)) rfl) ?_
  refine le ?_; intro x14
  refine ls (op (p_not rfl) rfl) ?_
  refine ls (op (p_asg rfl) rfl) ?_
  refine ln ?_
  refine nthen ?_
  refine cc rfl ?_ ?_
  ·
   intro h12
   refine cs ?_
   refine cr ?_
   refine ls (op (p_asg rfl) rfl) ?_
   refine ln ?_
   refine nthen ?_
   refine cret ?_
   refine xret (fun _ _ h => h) ?_
   refine rret (is := [0, 0]) ⟨(T, 1), by simp only [Bool.not_eq_false'] at h7; simp only [Bool.not_eq_true'] at h12; simp [tPut, h7, h12]⟩ (Or.inl rfl) (Res.t rfl Res.d) (rfl) rfl (by repeat' (first | constructor | apply Sub.suf))
  ·
   intro h12
   refine cskip ?_
   refine nblock ?_
   refine nthen ?_
   refine cs ?_
   refine cd [6, 7] [(3, p, 0, _)] TryzX.mixed (TOk.t (isBoxS (by repeat' constructor) (k := 1) (by repeat (first | exact Cut.d | apply Cut.t | apply Cut.s))) TOk.d) ?_
   refine tk 0 rfl (by kernel_rfl) (fun _ _ _ h => h) gnone (TTany _) (p_move rfl) rfl ?_
   refine tk 1 rfl (by kernel_rfl) (fun _ _ _ h => h) gnone (TTany _) (p_nilck rfl) rfl ?_
   refine tk 2 rfl (by kernel_rfl) (fun _ _ _ h => h) gnone (TTany _) (p_fa fa120_0 rfl) rfl ?_
   refine tk 3 rfl (by kernel_rfl) (fun _ _ _ h => h) gnone (TTat (List.Mem.head _)) (p_ld Tryz.isAgg118 rfl) rfl ?_
   refine tk 4 rfl (by kernel_rfl) (fun _ _ _ h => h) gnone (TTany _) (p_move rfl) rfl ?_
   refine tk 5 rfl (by kernel_rfl) (fun _ _ _ h => h) gnone (TTany _) (p_move rfl) rfl ?_
   refine df 6 (by kernel_rfl) ?_
   refine doR rfl (o_call (is := []) Tryz.call74 (c_sCloneR l A c hl) rfl rfl (by repeat' (first | constructor | apply Sub.suf)) rfl) (TOk.t (isBoxE fun _ => isBoxS (by repeat' constructor) (k := 1) (by repeat (first | exact Cut.d | apply Cut.t | apply Cut.s))) TOk.d) ?_
   refine ea ?_; rintro ⟨A2, c2⟩
   refine amono (fun a w h => freezeN (i := 0) rfl h) ?_
   refine df 7 (by kernel_rfl) ?_
   refine doR rfl (o_mupd (i := 1) Tryz.underlying118 Tryz.underlying9 rfl rfl rfl rfl (by repeat' (first | constructor | apply Sub.suf))) (TOk.x (by kernel_rfl) TOk.d) ?_
   refine dn (by kernel_rfl) ?_
   refine nthen ?_
   refine cs ?_
   refine cr ?_
   refine ls (op (p_asg rfl) rfl) ?_
   refine ln ?_
   refine nthen ?_
   refine cret ?_
   refine xret (fun _ _ h => h) ?_
   refine rret (is := [1, 0]) ⟨(putT T k l, 0), by simp only [Bool.not_eq_false'] at h7 h12; simp [tPut, h7, h12]⟩ (Or.inl rfl) (Res.t rfl Res.d) (rfl) rfl (by repeat' (first | constructor | apply Sub.suf))

set_option maxRecDepth 100000 in
theorem c_tGet (p b : Nat) (T : List File) (hT : Tfit T) (k : ByteArray) : Con Tryz.prog 28 [.pointer (some ⟨p, 0, none⟩), .string k] [box p 120 [.map (some b)], tr b T] [] (Option Addr × Nat) (fun y => .tuple #[.slice y.1 (getL T k).length y.2, .bool (hasT T k)]) (fun y => [row 9 y.1 y.2 (getL T k), box p 120 [.map (some b)], tr b T]) (fun _ => []) := by
 refine con Tryz.func28 rfl Tryz.ntmps28 rfl ?_
 intro M0 F0 w0
 refine cs ?_
 refine cr ?_
 refine ls (op (p_asg rfl) rfl) ?_
 refine ls (op (p_asg rfl) rfl) ?_
 refine ln ?_
 refine nthen ?_
 refine cs ?_
 refine cr ?_
 refine ls (op (p_move rfl) rfl) ?_
 refine ls (op (p_nilck rfl) rfl) ?_
 refine ls (op (p_fa fa120_0 rfl) rfl) ?_
 refine ls (o_ld Tryz.isAgg118 rfl (by repeat' constructor) (by repeat' constructor) rfl) ?_
 refine ls (op (p_move rfl) rfl) ?_
 refine ls (o_look Tryz.underlying118 Tryz.underlying9 Tryz.zeroValue37 rfl rfl (by repeat' constructor) rfl) ?_
 refine le ?_; rintro y14
 refine ls (op (p_move rfl) rfl) ?_
 refine ls (op (p_ext rfl (by repeat' constructor)) rfl) ?_
 refine ls (op (p_ext rfl (by repeat' constructor)) rfl) ?_
 refine ls (op (p_asg rfl) rfl) ?_
 refine ls (op (p_asg rfl) rfl) ?_
 refine ln ?_
 refine nthen ?_
 refine cs ?_
 refine cr ?_
 refine ls (op (p_move rfl) rfl) ?_
 refine ls (o_call (is := []) Tryz.call74 (c_sCloneR (getL T k) y14.1 y14.2 (hT.get k)) rfl rfl (by repeat' (first | constructor | apply Sub.suf)) rfl) ?_
 refine le ?_; intro y18
 refine ls (op (p_move rfl) rfl) ?_
 refine ls (op (p_asg rfl) rfl) ?_
 refine ls (op (p_asg rfl) rfl) ?_
 refine ln ?_
 refine nthen ?_
 refine cret ?_
 refine xret (fun _ _ h => h) ?_
 refine rret (is := [0, 0, 0]) y18 (Or.inl rfl) (Res.t rfl (Res.t rfl Res.d)) (rfl) rfl (by repeat' (first | constructor | apply Sub.suf))

set_option maxRecDepth 100000 in
theorem c_mClone (b : Nat) (T : List File) : Con Tryz.prog 81 [.map (some b)] [tr b T] [] Nat (fun b' => .map (some b')) (fun b' => [tr b' T, tr b T]) (fun _ => []) := by
 refine con Tryz.func81 rfl Tryz.ntmps81 rfl ?_
 intro M0 F0 w0
 refine cs ?_
 refine cr ?_
 refine ls (op (p_asg rfl) rfl) ?_
 refine ln ?_
 refine nthen ?_
 refine cs ?_
 refine cs ?_
 refine cr ?_
 refine ls (op (p_move rfl) rfl) ?_
 refine ls (op (p_mapnil Tryz.underlying118 rfl) rfl) ?_
 refine ln ?_
 refine nthen ?_
 refine cc rfl (fun h => by cases h) (fun h => ?_)
 refine cskip ?_
 refine nthen ?_
 refine cs ?_
 refine cr ?_
 refine ls (op (p_move rfl) rfl) ?_
 refine ls (op (p_mkif Tryz.underlying118 rfl) rfl) ?_
 refine ls (o_mclone Tryz.func133 (by kernel_rfl) (by kernel_rfl) (by kernel_rfl) (by kernel_rfl) rfl (by repeat' constructor) rfl) ?_
 refine le ?_; intro b7
 refine ls (op (p_tas Tryz.underlying118 rfl) rfl) ?_
 refine ls (op (p_asg rfl) rfl) ?_
 refine ln ?_
 refine nthen ?_
 refine cret ?_
 refine xret (fun _ _ h => h) ?_
 refine rret (is := [0, 0]) b7 (Or.inl rfl) (Res.t rfl Res.d) (rfl) rfl (by repeat' (first | constructor | apply Sub.suf))

set_option maxRecDepth 100000 in
theorem c_tCopy (p b : Nat) (T : List File) : Con Tryz.prog 36 [.pointer (some ⟨p, 0, none⟩)] [box p 120 [.map (some b)], tr b T] [] (Nat × Nat) (fun y => .pointer (some ⟨y.1, 0, none⟩)) (fun y => [box y.1 120 [.map (some y.2)], tr y.2 T, box p 120 [.map (some b)], tr b T]) (fun _ => []) := by
 refine con Tryz.func36 rfl Tryz.ntmps36 rfl ?_
 intro M0 F0 w0
 refine cs ?_
 refine cr ?_
 refine ls (op (p_asg rfl) rfl) ?_
 refine ln ?_
 refine nthen ?_
 refine cs ?_
 refine cr ?_
 refine ls (op (p_move rfl) rfl) ?_
 refine ls (op (p_nilck rfl) rfl) ?_
 refine ls (op (p_fa fa120_0 rfl) rfl) ?_
 refine ls (o_ld Tryz.isAgg118 rfl (by repeat' constructor) (by repeat' constructor) rfl) ?_
 refine ls (o_call (is := [1]) Tryz.call81 (c_mClone b T) rfl rfl (by repeat' (first | constructor | apply Sub.suf)) rfl) ?_
 refine le ?_; intro b7
 refine ls (op (p_bld sb120 rfl (Fill.t (by repeat' constructor) rfl rfl (by repeat' constructor) Fill.d)) rfl) ?_
 refine ls (o_box rfl rfl rfl) ?_
 refine le ?_; intro b9
 refine ls (op (p_asg rfl) rfl) ?_
 refine ln ?_
 refine nthen ?_
 refine cret ?_
 refine xret (fun _ _ h => h) ?_
 refine rret (is := [0, 0, 1, 0]) (b9, b7) (Or.inl rfl) (Res.t rfl Res.d) (rfl) rfl (by repeat' (first | constructor | apply Sub.suf))

end Go.Proofs.YtdbiillompeclaaGreatDoor.X

end
section
set_option linter.unusedVariables false
set_option linter.unusedSimpArgs false
namespace Go.Proofs.YtdbiillompeclaaGreatDoor.X
open Go Go.RowKit Go.Proofs Go.Sx
attribute [local irreducible] slA isA box row
theorem mapk (pre : List File) (k : ByteArray) (l : List ByteArray) : (pre ++ [(k, l)]).map (·.1) = pre.map (·.1) ++ [k] := by simp

set_option maxRecDepth 100000 in
theorem c_mKeys (b : Nat) : Con Tryz.prog 136 [.map (some b)] [] [] Nat (fun q => .func (.func 158) #[] #[.pointer (some ⟨q, 0, none⟩)]) (fun q => [box q 118 [.map (some b)]]) (fun _ => []) := by
 refine con Tryz.func136 rfl Tryz.ntmps136 rfl ?_
 intro M0 F0 w0
 refine cs ?_
 refine cr ?_
 refine ls (o_box rfl rfl rfl) ?_
 refine le ?_; intro b1
 refine ls (op (p_asg rfl) rfl) ?_
 refine ln ?_
 refine nthen ?_
 refine cs ?_
 refine cr ?_
 refine ls (op (p_mkf rfl) rfl) ?_
 refine ls (op (p_asg rfl) rfl) ?_
 refine ln ?_
 refine nthen ?_
 refine cret ?_
 refine xret (fun _ _ h => h) ?_
 refine rret (is := [0]) b1 (Or.inl rfl) (Res.t rfl Res.d) (rfl) rfl (by repeat' (first | constructor | apply Sub.suf))

set_option maxRecDepth 100000 in
theorem c_mKeys1 (b : Nat) (T : List File) (q : Nat) : Iter Tryz.prog 158 [.pointer (some ⟨q, 0, none⟩)] (fun x : File => [.string x.1]) (fun _ => []) (fun pre x => x ∈ T ∧ x ∉ pre ∧ pre.length < T.length) (fun xs => xs.Perm T) [box q 118 [.map (some b)], tr b T] [] := by
 intro lp J Jx hY
 refine con Tryz.func158 rfl Tryz.ntmps158 rfl ?_
 intro M0 F0 w0
 refine cs ?_
 refine cr ?_
 refine ls (o_ld Tryz.isAgg118 rfl (by repeat' constructor) (by repeat' constructor) rfl) ?_
 refine ls (o_mrange (i := 2) Tryz.underlying118 rfl rfl rfl) ?_
 refine le ?_; intro r5
 refine ln ?_
 refine nthen ?_
 refine cb ?_
 refine cl (ι := List File) (fun i => St M0 F0 w0 14 [(0, .func (.yield lp) #[] #[]), (1, .pointer (some ⟨q, 0, none⟩)), (5, .pointer (some ⟨r5, 0, none⟩))] [mit b r5 T i, J i, box q 118 [.map (some b)]] []) (fun i => T.length - (i).length) [] (wk (is := [0, 0, 0]) (by repeat (first | exact subσ.nil _ | refine subσ.cons rfl ?_)) rfl (by repeat' (first | constructor | apply Sub.suf))) ?_
 rintro K
 refine cmono (S' := St M0 F0 w0 14 [(0, .func (.yield lp) #[] #[]), (1, .pointer (some ⟨q, 0, none⟩)), (5, .pointer (some ⟨r5, 0, none⟩))] [mit b r5 T K, J K, box q 118 [.map (some b)]] []) (fun _ _ h => h) ?_
 refine cs ?_
 refine cpure (St.mit (by repeat' constructor)) ?_
 rintro ⟨hso, hKn, hKT⟩
 rcases Classical.em (∃ x ∈ T, x ∉ K) with hK | hK
 ·
  have hlt := nodup_lt hKn hKT hK
  refine cr ?_
  refine ls (o_mnextS (i := 0) rfl rfl hK rfl) ?_
  refine le ?_; rintro ⟨⟨⟨k, l⟩, y⟩, hxT, hxK⟩
  refine ls (op (p_ext rfl (by repeat' constructor)) rfl) ?_
  refine ln ?_
  refine nthen ?_
  refine cs ?_
  refine cc rfl (fun h => ?_) (fun h => by cases h)
  refine cskip ?_
  refine nthen ?_
  refine cb ?_
  refine cs ?_
  refine cr ?_
  refine ls (o_mentry rfl (by repeat' constructor) rfl) ?_
  refine le ?_; rintro y8
  refine ls (op (p_ext rfl (by repeat' constructor)) rfl) ?_
  refine ls (op (p_asg rfl) rfl) ?_
  refine ln ?_
  refine nthen ?_
  refine cs ?_
  refine cr ?_
  refine ls (op (p_move rfl) rfl) ?_
  refine ls (op (p_move rfl) rfl) ?_
  refine ls (o_yield (i := 1) rfl (hY K (k, l) ⟨hxT, hxK, hlt⟩) rfl rfl (by repeat' (first | constructor | apply Sub.suf)) rfl) ?_
  refine le ?_; intro bb
  refine ls (op (p_not rfl) rfl) ?_
  refine ln ?_
  refine nthen ?_
  refine cc rfl ?_ ?_
  ·
   intro h13
   obtain rfl : false = bb := by cases bb <;> first | rfl | (simp at h13)
   refine cret ?_
   refine xret (fun _ _ h => h) ?_
   refine nmono (conv (i := 1) rfl mit_tr) ?_
   refine rret (is := [1, 1, 0]) ⟨none, fun _ h => by cases h⟩ (Or.inl rfl) Res.d (rfl) rfl (by repeat' (first | constructor | apply Sub.suf))
  ·
   intro h13
   obtain rfl : true = bb := by cases bb <;> first | rfl | (simp at h13)
   refine cskip ?_
   refine nblock ?_
   refine nnext (K ++ [(k, l)]) (by simp; omega) (wk (is := [1, 0, 0]) (by repeat (first | exact subσ.nil _ | refine subσ.cons rfl ?_)) rfl (by repeat' (first | constructor | apply Sub.suf)))
 ·
  refine cr ?_
  refine ls (o_mnextN rfl (by repeat' constructor) hK rfl) ?_
  refine ls (op (p_ext rfl (by repeat' constructor)) rfl) ?_
  refine ln ?_
  refine nthen ?_
  refine cs ?_
  refine cc rfl (fun h => by cases h) (fun h => ?_)
  refine cexit ?_
  refine xthen ?_
  refine xthen ?_
  refine xblock ?_
  refine nmono (conv (i := 0) rfl mit_tr) ?_
  refine rret (is := [1, 1, 0]) ⟨some K, fun xs h => by cases h; exact perm_of_all hso hKn hKT hK⟩ (Or.inr rfl) Res.d (rfl) rfl (by repeat' (first | constructor | apply Sub.suf))

set_option maxRecDepth 100000 in
theorem c_appSeq (b q : Nat) (T : List File) (hn : T.length ≤ 2000000) : Con Tryz.prog 171 [.slice none 0 0, .func (.func 158) #[] #[.pointer (some ⟨q, 0, none⟩)]] [box q 118 [.map (some b)], tr b T] [] {y : (Option Addr × Nat) × List ByteArray // y.2.Perm (T.map (·.1))} (fun y => .slice y.1.1.1 y.1.2.length y.1.1.2) (fun y => [row 9 y.1.1.1 y.1.1.2 y.1.2, box q 118 [.map (some b)], tr b T]) (fun _ => []) := by
 refine con Tryz.func171 rfl Tryz.ntmps171 rfl ?_
 intro M0 F0 w0
 refine cs ?_
 refine cr ?_
 refine ls (o_box rfl rfl rfl) ?_
 refine le ?_; intro b2
 refine ls (op (p_asg rfl) rfl) ?_
 refine ln ?_
 refine nthen ?_
 refine cs ?_
 refine cs ?_
 refine cmono (fun a w h => nilRow (α := ByteArray) 9 h) ?_
 refine cr ?_
 refine ls (op (p_move rfl) rfl) ?_
 refine ln ?_
 refine nthen ?_
 refine cb ?_
 refine crng (ι := fun _ => Option Addr × Nat) rfl Tryz.call158 (c_mKeys1 b T q) (fun _ => rfl) rfl (fun pre i => [box b2 37 [.slice i.1 (pre.map (·.1)).length i.2], row 9 i.1 i.2 (pre.map (·.1))]) (fun _ _ => []) ((none, 0)) (Y := Empty) (fun _ => []) (fun _ => []) (is := [1, 0, 0, 0]) rfl (by repeat' (first | constructor | apply Sub.suf)) (by repeat' (first | constructor | apply Sub.suf)) ?_ ?_ ?_
 ·
  rintro M0 F0 w0 lp κ pre ⟨k, l⟩ ⟨hxT, hxn, hlt⟩ ⟨A, c⟩
  refine cmono (S' := St M0 F0 w0 ⟨13, []⟩ [(2, .pointer (some ⟨b2, 0, none⟩)), (7, .string k)] [lrec lp κ .ready none, box b2 37 [.slice A (pre.map (·.1)).length c], row 9 A c (pre.map (·.1))] []) (wk0 (by repeat (first | exact subσ.nil _ | refine subσ.cons rfl ?_)) (by repeat' (first | constructor | apply Sub.suf))) ?_
  refine cr ?_
  refine ls (op (p_asg rfl) rfl) ?_
  refine ln ?_
  refine nbegin (i := 0) rfl ?_
  refine cb ?_
  refine cr ?_
  refine ls (o_ld Tryz.isAgg37 rfl (by repeat' constructor) (by repeat' constructor) rfl) ?_
  refine ls (op (p_move rfl) rfl) ?_
  refine ls (o_bsl [k] Tryz.underlying37 Tryz.sizeOf9 Tryz.zeroValue9 rfl (Enum.t Enum.d) (RV.t () rfl Sub.d RV.d) rfl (by decide) (by decide) rfl) ?_
  refine le ?_; intro b10
  refine lmono (fun a w h => Go.Sx.freeze (i := 0) rfl h) ?_
  refine ls (o_app (is := [2]) Tryz.underlying37 inf9 rfl (by decide) (by decide) rfl rfl (by simp only [List.length_map, List.length_cons, List.length_nil]; omega) (fun h => by cases h) rfl (by repeat' (first | constructor | apply Sub.suf)) rfl) ?_
  refine le ?_; rintro ⟨A2, c2⟩
  refine ls (o_st rfl Tryz.sizeOf37 rfl rfl rfl rfl rfl (by repeat' constructor) (by repeat' constructor) (by repeat' constructor)) ?_
  refine ln ?_
  refine nblock ?_
  refine nmono (fun a w h => by rw [← mapk pre k l] at h; exact h) ?_
  exact nround (A2, c2) (is := [1, 1, 0]) rfl (by repeat' (first | constructor | apply Sub.suf))
 ·
  rintro D xs hC ⟨A, c⟩
  refine nblock ?_
  refine nthen ?_
  refine cs ?_
  refine cr ?_
  refine ls (o_ld Tryz.isAgg37 rfl (by repeat' constructor) (by repeat' constructor) rfl) ?_
  refine ls (op (p_asg rfl) rfl) ?_
  refine ln ?_
  refine nthen ?_
  refine cret ?_
  refine xret (fun _ _ h => h) ?_
  refine rretm (Dfr.c (i := 4) rfl Dfr.d) (is := [1, 1, 1]) ⟨((A, c), xs.map (·.1)), hC.map _⟩ (Or.inl rfl) (Res.t rfl Res.d) (rfl) rfl (by repeat' (first | constructor | apply Sub.suf))
 ·
  intro D y
  exact y.elim

set_option maxRecDepth 100000 in
theorem c_tCollect (b q : Nat) (T : List File) (hn : T.length ≤ 2000000) : Con Tryz.prog 157 [.func (.func 158) #[] #[.pointer (some ⟨q, 0, none⟩)]] [box q 118 [.map (some b)], tr b T] [] {y : (Option Addr × Nat) × List ByteArray // y.2.Perm (T.map (·.1))} (fun y => .slice y.1.1.1 y.1.2.length y.1.1.2) (fun y => [row 9 y.1.1.1 y.1.1.2 y.1.2, box q 118 [.map (some b)], tr b T]) (fun _ => []) := by
 refine con Tryz.func157 rfl Tryz.ntmps157 rfl ?_
 intro M0 F0 w0
 refine cs ?_
 refine cr ?_
 refine ls (op (p_asg rfl) rfl) ?_
 refine ln ?_
 refine nthen ?_
 refine cs ?_
 refine cr ?_
 refine ls (op (p_move rfl) rfl) ?_
 refine ls (o_call (is := [0, 0]) Tryz.call171 (c_appSeq b q T hn) rfl rfl (by repeat' (first | constructor | apply Sub.suf)) rfl) ?_
 refine le ?_; intro x4
 refine ls (op (p_asg rfl) rfl) ?_
 refine ln ?_
 refine nthen ?_
 refine cret ?_
 refine xret (fun _ _ h => h) ?_
 refine rret (is := [0, 0, 0]) x4 (Or.inl rfl) (Res.t rfl Res.d) (rfl) rfl (by repeat' (first | constructor | apply Sub.suf))

set_option maxRecDepth 100000 in
theorem c_tSorted (b q : Nat) (T : List File) (hn : T.length ≤ 2000000) : Con Tryz.prog 135 [.func (.func 158) #[] #[.pointer (some ⟨q, 0, none⟩)]] [box q 118 [.map (some b)], tr b T] [] (Option Addr × Nat) (fun y => .slice y.1 T.length y.2) (fun y => [row 9 y.1 y.2 (T.map (·.1)), box q 118 [.map (some b)], tr b T]) (fun _ => []) := by
 refine con Tryz.func135 rfl Tryz.ntmps135 rfl ?_
 intro M0 F0 w0
 refine cs ?_
 refine cr ?_
 refine ls (op (p_asg rfl) rfl) ?_
 refine ln ?_
 refine nthen ?_
 refine cs ?_
 refine cr ?_
 refine ls (op (p_move rfl) rfl) ?_
 refine ls (o_call (is := [0, 0]) Tryz.call157 (c_tCollect b q T hn) rfl rfl (by repeat' (first | constructor | apply Sub.suf)) rfl) ?_
 refine le ?_; rintro ⟨⟨⟨A5, c5⟩, ks⟩, hks⟩
 refine ls (op (p_asg rfl) rfl) ?_
 refine ln ?_
 refine nthen ?_
 refine cs ?_
 dsimp only at hks
 refine cpure (St.tr (b := b) (by repeat' constructor)) ?_
 intro hso
 have hlen : ks.length = T.length := by have := hks.length_eq; simpa using this
 have hsb := sortB_keys hso hks
 refine cr ?_
 refine ls (op (p_move rfl) rfl) ?_
 refine ls (o_call (is := [0]) Tryz.call138 (l_Sort 9 A5 c5 ks (by omega)) rfl rfl (by repeat' (first | constructor | apply Sub.suf)) rfl) ?_
 refine le ?_; intro u7
 refine ln ?_
 refine nthen ?_
 refine cs ?_
 rw [hsb]
 refine cr ?_
 refine ls (op (p_move rfl) rfl) ?_
 refine ls (op (p_asg rfl) rfl) ?_
 refine ln ?_
 refine nthen ?_
 refine cret ?_
 refine xret (fun _ _ h => h) ?_
 refine rret (is := [0, 0, 0]) (A5, c5) (Or.inl rfl) (Res.t rfl Res.d) ?_ rfl (by repeat' (first | constructor | apply Sub.suf))
 simp [packV, hlen]

set_option maxRecDepth 100000 in
theorem c_tNames (p b : Nat) (T : List File) (hn : T.length ≤ 2000000) : Con Tryz.prog 84 [.pointer (some ⟨p, 0, none⟩)] [box p 120 [.map (some b)], tr b T] [] (Option Addr × Nat) (fun y => .slice y.1 T.length y.2) (fun y => [row 9 y.1 y.2 (T.map (·.1)), box p 120 [.map (some b)], tr b T]) (fun _ => []) := by
 refine con Tryz.func84 rfl Tryz.ntmps84 rfl ?_
 intro M0 F0 w0
 refine cs ?_
 refine cr ?_
 refine ls (op (p_asg rfl) rfl) ?_
 refine ln ?_
 refine nthen ?_
 refine cs ?_
 refine cr ?_
 refine ls (op (p_move rfl) rfl) ?_
 refine ls (op (p_nilck rfl) rfl) ?_
 refine ls (op (p_fa fa120_0 rfl) rfl) ?_
 refine ls (o_ld Tryz.isAgg118 rfl (by repeat' constructor) (by repeat' constructor) rfl) ?_
 refine ls (o_call (is := []) Tryz.call136 (c_mKeys b) rfl rfl (by repeat' (first | constructor | apply Sub.suf)) rfl) ?_
 refine le ?_; intro b7
 refine ls (o_call (is := [0, 1]) Tryz.call135 (c_tSorted b b7 T hn) rfl rfl (by repeat' (first | constructor | apply Sub.suf)) rfl) ?_
 refine le ?_; rintro ⟨A8, c8⟩
 refine ls (op (p_asg rfl) rfl) ?_
 refine ln ?_
 refine nthen ?_
 refine cret ?_
 refine xret (fun _ _ h => h) ?_
 refine rret (is := [0, 2, 1]) (A8, c8) (Or.inl rfl) (Res.t rfl Res.d) (rfl) rfl (by repeat' (first | constructor | apply Sub.suf))

end Go.Proofs.YtdbiillompeclaaGreatDoor.X

end
section
set_option linter.unusedVariables false
set_option linter.unusedSimpArgs false
namespace Go.Proofs.YtdbiillompeclaaGreatDoor.X
open Go Go.RowKit Go.Proofs Go.Sx
attribute [local irreducible] slA isA box row
theorem app3 {α : Type} (a : List α) (b : α) (d e : List α) : (a ++ b :: d) ++ e = a ++ b :: (d ++ e) := by simp
theorem app_len3 {a d : List File} {x y : File} {m k : Nat} (h1 : a.length ≤ m) (h2 : d.length ≤ m) (hm : m ≤ 2000000) (hk : k ≤ 100) : ((a ++ x :: d).length + [y].length) * k ≤ 140737488355328 := by
 refine Nat.le_trans (Nat.mul_le_mul (n₂ := 4000002) ?_ hk) (by decide)
 rw [List.length_append, List.length_cons, List.length_singleton]
 omega
theorem fa126_0 : FA Tryz.prog 126 0 0 := fun b o w => by kernel_rfl
theorem fa126_1 : FA Tryz.prog 126 1 1 := fun b o w => by kernel_rfl
theorem fa126_2 : FA Tryz.prog 126 2 2 := fun b o w => by kernel_rfl
theorem fa126_3 : FA Tryz.prog 126 3 3 := fun b o w => by kernel_rfl
theorem fa132_0 : FA Tryz.prog 132 0 0 := fun b o w => by kernel_rfl
theorem fa132_1 : FA Tryz.prog 132 1 1 := fun b o w => by kernel_rfl
theorem inf132 : (Tryz.prog.info? 132).map (fun i => (i.zero, i.size, i.bytes)) = some (some (.agg #[.string ⟨#[]⟩, .slice none 0 0]), 2, 40) := by kernel_rfl
theorem sb132 : SB Tryz.prog 132 [(0, 1), (1, 1)] [.string ⟨#[]⟩, .slice none 0 0] := SB.struct Tryz.zeroValue132 rfl Tryz.underlying132 (fun w => by kernel_rfl)
set_option maxRecDepth 100000 in
theorem c_rGet (T : List File) (A : Option Addr) (c : Nat) (hn : T.length ≤ 2000000) (u : ByteArray) : Con Tryz.prog 80 [.slice A T.length c, .string u] [] [slA A T] (Option Addr × Nat) (fun y => .tuple #[.slice y.1 (getL T u).length y.2, .bool (hasT T u)]) (fun _ => []) (fun y => [slA y.1 (getL T u), nilA y, capA y.2 (getL T u).length]) := by
 refine con Tryz.func80 rfl Tryz.ntmps80 rfl ?_
 intro M0 F0 w0
 refine cs ?_
 refine cr ?_
 refine ls (op (p_asg rfl) rfl) ?_
 refine ls (op (p_asg rfl) rfl) ?_
 refine ln ?_
 refine nthen ?_
 refine cs ?_
 refine cs ?_
 refine cr ?_
 refine ls (op (p_asg rfl) rfl) ?_
 refine ln ?_
 refine nthen ?_
 refine cb ?_
 refine cl (ι := {q : Nat // q ≤ T.length ∧ getT (T.take q) u = none}) (fun i => St M0 F0 w0 25 [(0, .slice A T.length c), (1, .string u), (6, .int .i64 (i.1 : Int))] [] [slA A T]) (fun i => T.length - i.1) ⟨0, Nat.zero_le _, rfl⟩ (wk0 (by repeat (first | exact subσ.nil _ | refine subσ.cons rfl ?_)) (by repeat' (first | constructor | apply Sub.suf))) ?_
 rintro ⟨k, hk, hg⟩
 refine cmono (S' := St M0 F0 w0 25 [(0, .slice A T.length c), (1, .string u), (6, .int .i64 (k : Int))] [] [slA A T]) (fun _ _ h => h) ?_
 refine cs ?_
 refine cs ?_
 refine cr ?_
 refine ls (op (p_move rfl) rfl) ?_
 refine ls (op (p_move rfl) rfl) ?_
 refine ls (op (p_lenl rfl Tryz.underlying60) rfl) ?_
 refine ls (op (p_icmp rfl rfl rfl) rfl) ?_
 refine ln ?_
 refine nthen ?_
 refine cc rfl ?_ ?_
 ·
  intro h10
  try dsimp only at hk hg
  try simp only [decide_eq_true_eq, decide_eq_false_iff_not, Bool.not_eq_true', Bool.not_eq_false', Int.not_lt, Int.not_le, ge_iff_le, Bool.not_true, Bool.not_false] at h10
  have hk1 : k < T.length := by omega
  refine cskip ?_
  refine nthen ?_
  refine cs ?_
  refine cb ?_
  refine cs ?_
  refine elC (by repeat' constructor) k (List.getElem?_eq_getElem (l := T) hk1) ?_; rintro zbp zop zyp hAp
  refine cr ?_
  refine ls (op (p_move rfl) rfl) ?_
  refine ls (op (p_move rfl) rfl) ?_
  refine ls (op (p_ia k hAp hk1 rfl Tryz.underlying60 Tryz.sizeOf132 rfl rfl) rfl) ?_
  refine ls (op (p_fa fa132_0 rfl) rfl) ?_
  refine ls (o_ldi Tryz.isAgg9 rfl (by repeat' constructor) 0 rfl (by repeat (first | exact Cut.d | apply Cut.t | apply Cut.s)) rfl) ?_
  refine ls (op (p_move rfl) rfl) ?_
  refine ls (op (p_seq rfl rfl) rfl) ?_
  refine ln ?_
  refine nthen ?_
  refine cc rfl ?_ ?_
  ·
   intro h19
   try simp only [decide_eq_true_eq, decide_eq_false_iff_not, Bool.not_eq_true', Bool.not_eq_false', Int.not_lt, Int.not_le, ge_iff_le, Bool.not_true, Bool.not_false] at h19
   have hgt := getT_at hk1 hg h19
   have hl : getL T u = T[k].2 := by simp [getL, hgt]
   have hh : hasT T u = true := by simp [hasT, hgt]
   refine cs ?_
   refine cr ?_
   refine ls (op (p_move rfl) rfl) ?_
   refine ls (op (p_move rfl) rfl) ?_
   refine ls (op (p_ia k hAp hk1 rfl Tryz.underlying60 Tryz.sizeOf132 rfl rfl) rfl) ?_
   refine ls (op (p_fa fa132_1 rfl) rfl) ?_
   refine ls (o_ldi Tryz.isAgg37 rfl (by repeat' constructor) 1 rfl (by repeat (first | exact Cut.d | apply Cut.t | apply Cut.s)) rfl) ?_
   refine ls (op (p_asg rfl) rfl) ?_
   refine ls (op (p_asg rfl) rfl) ?_
   refine ln ?_
   refine nthen ?_
   refine cret ?_
   refine xret (fun _ _ h => h) ?_
   rw [hl, hh]
   refine rret (is := []) zyp (Or.inl rfl) (Res.t rfl (Res.t rfl Res.d)) (rfl) rfl (by repeat' (first | constructor | apply Sub.suf))
  ·
   intro h19
   try simp only [decide_eq_true_eq, decide_eq_false_iff_not, Bool.not_eq_true', Bool.not_eq_false', Int.not_lt, Int.not_le, ge_iff_le, Bool.not_true, Bool.not_false] at h19
   have hg2 := getT_take hk1 hg
   rw [if_neg h19] at hg2
   refine cskip ?_
   refine nblock ?_
   refine nthen ?_
   refine cr ?_
   refine ls (op (p_move rfl) rfl) ?_
   refine ls (op (p_add rfl rfl (by omega)) rfl) ?_
   refine ls (op (p_asg rfl) rfl) ?_
   refine ln ?_
   refine nnext ⟨k + 1, hk1, hg2⟩ (by dsimp only; omega) (wk0 (by repeat (first | exact subσ.nil _ | refine subσ.cons rfl ?_)) (by repeat' (first | constructor | apply Sub.suf)))
 ·
  intro h10
  try dsimp only at hk hg
  try simp only [decide_eq_true_eq, decide_eq_false_iff_not, Bool.not_eq_true', Bool.not_eq_false', Int.not_lt, Int.not_le, ge_iff_le, Bool.not_true, Bool.not_false] at h10
  rw [List.take_of_length_le (by omega)] at hg
  refine cexit ?_
  refine xthen ?_
  refine xthen ?_
  refine xblock ?_
  refine nthen ?_
  refine cs ?_
  have hl : getL T u = [] := by simp [getL, hg]
  have hh : hasT T u = false := by simp [hasT, hg]
  refine cmono (fun a w h => nilN h) ?_
  refine cr ?_
  refine ls (op (p_asg rfl) rfl) ?_
  refine ls (op (p_asg rfl) rfl) ?_
  refine ln ?_
  refine nthen ?_
  refine cret ?_
  refine xret (fun _ _ h => h) ?_
  rw [hl, hh]
  refine rret (is := []) (none, 0) (Or.inl rfl) (Res.t rfl (Res.t rfl Res.d)) (rfl) rfl (by repeat' (first | constructor | apply Sub.suf))

set_option maxRecDepth 100000 in
theorem c_rWithout (T : List File) (A : Option Addr) (c : Nat) (hn : T.length ≤ 2000000) (u : ByteArray) : Con Tryz.prog 128 [.slice A T.length c, .string u] [] [slA A T] (Option Addr × Nat) (fun y => .slice y.1 (delT T u).length y.2) (fun _ => []) (fun y => [slA y.1 (delT T u), nilA y]) := by
 refine con Tryz.func128 rfl Tryz.ntmps128 rfl ?_
 intro M0 F0 w0
 refine cs ?_
 refine cr ?_
 refine ls (op (p_asg rfl) rfl) ?_
 refine ln ?_
 refine nthen ?_
 refine cs ?_
 refine cr ?_
 refine ls (op (p_asg rfl) rfl) ?_
 refine ln ?_
 refine nthen ?_
 refine cs ?_
 refine cs ?_
 refine cmono (fun a w h => nilRow (α := File) 132 h) ?_
 refine cr ?_
 refine ls (op (p_asg rfl) rfl) ?_
 refine ln ?_
 refine nthen ?_
 refine cb ?_
 refine cl (ι := {q : Nat × Option Addr × Nat // q.1 ≤ T.length}) (fun i => St M0 F0 w0 28 [(0, .slice A T.length c), (1, .string u), (6, .int .i64 (i.1.1 : Int)), (5, .slice i.1.2.1 (delT (T.take i.1.1) u).length i.1.2.2)] [row 132 (i.1.2.1) (i.1.2.2) (delT (T.take i.1.1) u)] [slA A T]) (fun i => T.length - i.1.1) ⟨(0, none, 0), Nat.zero_le _⟩ (wk0 (by repeat (first | exact subσ.nil _ | refine subσ.cons rfl ?_)) (by repeat' (first | constructor | apply Sub.suf))) ?_
 rintro ⟨⟨k, A2, c2⟩, hk⟩
 refine cmono (S' := St M0 F0 w0 28 [(0, .slice A T.length c), (1, .string u), (6, .int .i64 (k : Int)), (5, .slice A2 (delT (T.take k) u).length c2)] [row 132 (A2) (c2) (delT (T.take k) u)] [slA A T]) (fun _ _ h => h) ?_
 refine cs ?_
 refine cs ?_
 refine cr ?_
 refine ls (op (p_move rfl) rfl) ?_
 refine ls (op (p_move rfl) rfl) ?_
 refine ls (op (p_lenl rfl Tryz.underlying60) rfl) ?_
 refine ls (op (p_icmp rfl rfl rfl) rfl) ?_
 refine ln ?_
 refine nthen ?_
 refine cc rfl ?_ ?_
 ·
  intro h10
  dsimp only at hk
  try simp only [decide_eq_true_eq, decide_eq_false_iff_not, Bool.not_eq_true', Bool.not_eq_false', Int.not_lt, Int.not_le, ge_iff_le, Bool.not_true, Bool.not_false] at h10
  have hk1 : k < T.length := by omega
  have hde := delT_succ (k := u) hk1
  have hdl : (delT (T.take k) u).length ≤ T.length := Nat.le_trans (List.length_filter_le _ _) (by rw [List.length_take]; omega)
  refine cskip ?_
  refine nthen ?_
  refine cs ?_
  refine cb ?_
  refine cs ?_
  refine elC (by repeat' constructor) k (List.getElem?_eq_getElem (l := T) hk1) ?_; rintro zbp zop zyp hAp
  refine cr ?_
  refine ls (op (p_move rfl) rfl) ?_
  refine ls (op (p_move rfl) rfl) ?_
  refine ls (op (p_ia k hAp hk1 rfl Tryz.underlying60 Tryz.sizeOf132 rfl rfl) rfl) ?_
  refine ls (op (p_fa fa132_0 rfl) rfl) ?_
  refine ls (o_ldi Tryz.isAgg9 rfl (by repeat' constructor) 0 rfl (by repeat (first | exact Cut.d | apply Cut.t | apply Cut.s)) rfl) ?_
  refine ls (op (p_move rfl) rfl) ?_
  refine ls (op (p_sne rfl rfl) rfl) ?_
  refine ln ?_
  refine nthen ?_
  refine cc rfl ?_ ?_
  ·
   intro h19
   have h20 : ¬ T[k].1 = u := by simpa using h19
   rw [if_neg h20] at hde
   refine cr ?_
   refine ls (op (p_move rfl) rfl) ?_
   refine ls (op (p_move rfl) rfl) ?_
   refine ls (op (p_move rfl) rfl) ?_
   refine ls (op (p_ia k hAp hk1 rfl Tryz.underlying60 Tryz.sizeOf132 rfl rfl) rfl) ?_
   refine ls (o_ldj Tryz.isAgg132 Tryz.sizeOf132 rfl (by repeat' constructor) 0 rfl (by repeat (first | exact Cut.d | apply Cut.t | apply Cut.s)) rfl) ?_
   refine ls (o_bsl [T[k]] Tryz.underlying60 Tryz.sizeOf132 Tryz.zeroValue132 rfl (Enum.t Enum.d) (RV.t zyp rfl (by repeat' (first | constructor | apply Sub.suf)) RV.d) rfl (by decide) (by decide) rfl) ?_
   refine le ?_; intro b25
   refine lmono (fun a w h => Go.Sx.freeze (i := 0) rfl h) ?_
   refine ls (o_app (is := [0]) Tryz.underlying60 inf132 rfl (by decide) (by decide) rfl rfl (by simp only [List.length_cons, List.length_nil]; omega) (fun h => by cases h) rfl (by repeat' (first | constructor | apply Sub.suf)) rfl) ?_
   refine le ?_; rintro ⟨A3, c3⟩
   rw [← hde]
   refine ls (op (p_asg rfl) rfl) ?_
   refine ln ?_
   refine nblock ?_
   refine nthen ?_
   refine cr ?_
   refine ls (op (p_move rfl) rfl) ?_
   refine ls (op (p_add rfl rfl (by omega)) rfl) ?_
   refine ls (op (p_asg rfl) rfl) ?_
   refine ln ?_
   refine nnext ⟨(k + 1, A3, c3), hk1⟩ (by dsimp only; omega) (wk (is := [0]) (by repeat (first | exact subσ.nil _ | refine subσ.cons rfl ?_)) rfl (by repeat' (first | constructor | apply Sub.suf)))
  ·
   intro h19
   have h20 : T[k].1 = u := by simpa using h19
   rw [if_pos h20, List.append_nil] at hde
   refine cskip ?_
   refine nblock ?_
   refine nthen ?_
   refine cr ?_
   refine ls (op (p_move rfl) rfl) ?_
   refine ls (op (p_add rfl rfl (by omega)) rfl) ?_
   refine ls (op (p_asg rfl) rfl) ?_
   refine ln ?_
   rw [← hde]
   refine nnext ⟨(k + 1, A2, c2), hk1⟩ (by dsimp only; omega) (wk (is := [0]) (by repeat (first | exact subσ.nil _ | refine subσ.cons rfl ?_)) rfl (by repeat' (first | constructor | apply Sub.suf)))
 ·
  intro h10
  dsimp only at hk
  try simp only [decide_eq_true_eq, decide_eq_false_iff_not, Bool.not_eq_true', Bool.not_eq_false', Int.not_lt, Int.not_le, ge_iff_le, Bool.not_true, Bool.not_false] at h10
  rw [List.take_of_length_le (by omega)]
  refine cexit ?_
  refine xthen ?_
  refine xthen ?_
  refine xblock ?_
  refine nthen ?_
  refine cs ?_
  refine cmono (fun a w h => freezeN (i := 0) rfl h) ?_
  refine cr ?_
  refine ls (op (p_move rfl) rfl) ?_
  refine ls (op (p_asg rfl) rfl) ?_
  refine ln ?_
  refine nthen ?_
  refine cret ?_
  refine xret (fun _ _ h => h) ?_
  refine rret (is := []) (A2, c2) (Or.inl rfl) (Res.t rfl Res.d) (rfl) rfl (by repeat' (first | constructor | apply Sub.suf))

set_option maxRecDepth 100000 in
theorem c_rWith (T : List File) (A : Option Addr) (c : Nat) (hn : T.length ≤ 2000000) (u : ByteArray) (l : List ByteArray) (B : Option Addr) (c' : Nat) : Con Tryz.prog 127 [.slice A T.length c, .string u, .slice B l.length c'] [] [slA A T, slA B l, nilA (B, c'), capA c' l.length] (Option Addr × Nat) (fun y => .slice y.1 (putT T u l).length y.2) (fun _ => []) (fun y => [slA y.1 (putT T u l), nilA y]) := by
 refine con Tryz.func127 rfl Tryz.ntmps127 rfl ?_
 intro M0 F0 w0
 refine cs ?_
 refine cr ?_
 refine ls (op (p_asg rfl) rfl) ?_
 refine ln ?_
 refine nthen ?_
 refine cs ?_
 refine cr ?_
 refine ls (op (p_asg rfl) rfl) ?_
 refine ln ?_
 refine nthen ?_
 refine cs ?_
 refine cr ?_
 refine ls (op (p_move rfl) rfl) ?_
 refine ls (op (p_move rfl) rfl) ?_
 refine ls (o_call (is := []) Tryz.call128 (c_rWithout T A c hn u) rfl rfl (by repeat' (first | constructor | apply Sub.suf)) rfl) ?_
 refine le ?_; rintro ⟨A1, c1⟩
 refine ls (op (p_asg rfl) rfl) ?_
 refine ln ?_
 refine nthen ?_
 refine cs ?_
 refine cs ?_
 have hD1 : (delT T u).length ≤ T.length := List.length_filter_le _ _
 have hput : putT T u l = (delT T u).filter (fun x => decide (kl x.1 u)) ++ (u, l) :: (delT T u).filter (fun x => decide (kl u x.1)) := rfl
 rw [hput]
 generalize delT T u = D at *
 refine cmono (fun a w h => nilRow (α := File) 132 h) ?_
 refine cr ?_
 refine ls (op (p_asg rfl) rfl) ?_
 refine ln ?_
 refine nthen ?_
 refine cb ?_
 refine cl (ι := {q : Nat × Option Addr × Nat // q.1 ≤ D.length}) (fun i => St M0 F0 w0 61 [(1, .string u), (2, .slice B l.length c'), (8, .slice A1 D.length c1), (9, .int .i64 (i.1.1 : Int)), (7, .slice i.1.2.1 ((D.take i.1.1).filter (fun x => decide (kl x.1 u))).length i.1.2.2)] [row 132 (i.1.2.1) (i.1.2.2) ((D.take i.1.1).filter (fun x => decide (kl x.1 u)))] [slA A1 D, slA B l, nilA (B, c'), capA c' l.length]) (fun i => D.length - i.1.1) ⟨(0, none, 0), Nat.zero_le _⟩ (wk0 (by repeat (first | exact subσ.nil _ | refine subσ.cons rfl ?_)) (by repeat' (first | constructor | apply Sub.suf))) ?_
 rintro ⟨⟨k, A2, c2⟩, hk⟩
 refine cmono (S' := St M0 F0 w0 61 [(1, .string u), (2, .slice B l.length c'), (8, .slice A1 D.length c1), (9, .int .i64 (k : Int)), (7, .slice A2 ((D.take k).filter (fun x => decide (kl x.1 u))).length c2)] [row 132 (A2) (c2) ((D.take k).filter (fun x => decide (kl x.1 u)))] [slA A1 D, slA B l, nilA (B, c'), capA c' l.length]) (fun _ _ h => h) ?_
 refine cs ?_
 refine cs ?_
 refine cr ?_
 refine ls (op (p_move rfl) rfl) ?_
 refine ls (op (p_move rfl) rfl) ?_
 refine ls (op (p_lenl rfl Tryz.underlying60) rfl) ?_
 refine ls (op (p_icmp rfl rfl rfl) rfl) ?_
 refine ln ?_
 refine nthen ?_
 refine cc rfl ?_ ?_
 ·
  intro h17
  dsimp only at hk
  try simp only [decide_eq_true_eq, decide_eq_false_iff_not, Bool.not_eq_true', Bool.not_eq_false', Int.not_lt, Int.not_le, ge_iff_le, Bool.not_true, Bool.not_false] at h17
  have hk1 : k < D.length := by omega
  have hde := filt_succ (p := fun x => decide (kl x.1 u)) hk1
  have hdl : ((D.take k).filter (fun x => decide (kl x.1 u))).length ≤ D.length := Nat.le_trans (List.length_filter_le _ _) (by rw [List.length_take]; omega)
  refine cskip ?_
  refine nthen ?_
  refine cs ?_
  refine cb ?_
  refine cs ?_
  refine elC (by repeat' constructor) k (List.getElem?_eq_getElem (l := D) hk1) ?_; rintro zbp zop zyp hAp
  refine cr ?_
  refine ls (op (p_move rfl) rfl) ?_
  refine ls (op (p_move rfl) rfl) ?_
  refine ls (op (p_ia k hAp hk1 rfl Tryz.underlying60 Tryz.sizeOf132 rfl rfl) rfl) ?_
  refine ls (op (p_fa fa132_0 rfl) rfl) ?_
  refine ls (o_ldi Tryz.isAgg9 rfl (by repeat' constructor) 0 rfl (by repeat (first | exact Cut.d | apply Cut.t | apply Cut.s)) rfl) ?_
  refine ls (op (p_move rfl) rfl) ?_
  refine ls (op (p_slt rfl rfl) rfl) ?_
  refine ln ?_
  refine nthen ?_
  refine cc rfl ?_ ?_
  ·
   intro h26
   have h27 : decide (kl D[k].1 u) = true := by rw [less_kl] at h26; exact h26
   rw [if_pos h27] at hde
   refine cr ?_
   refine ls (op (p_move rfl) rfl) ?_
   refine ls (op (p_move rfl) rfl) ?_
   refine ls (op (p_move rfl) rfl) ?_
   refine ls (op (p_ia k hAp hk1 rfl Tryz.underlying60 Tryz.sizeOf132 rfl rfl) rfl) ?_
   refine ls (o_ldj Tryz.isAgg132 Tryz.sizeOf132 rfl (by repeat' constructor) 0 rfl (by repeat (first | exact Cut.d | apply Cut.t | apply Cut.s)) rfl) ?_
   refine ls (o_bsl [D[k]] Tryz.underlying60 Tryz.sizeOf132 Tryz.zeroValue132 rfl (Enum.t Enum.d) (RV.t zyp rfl (by repeat' (first | constructor | apply Sub.suf)) RV.d) rfl (by decide) (by decide) rfl) ?_
   refine le ?_; intro b32
   refine lmono (fun a w h => Go.Sx.freeze (i := 0) rfl h) ?_
   refine ls (o_app (is := [0]) Tryz.underlying60 inf132 rfl (by decide) (by decide) rfl rfl (by simp only [List.length_cons, List.length_nil]; omega) (fun h => by cases h) rfl (by repeat' (first | constructor | apply Sub.suf)) rfl) ?_
   refine le ?_; rintro ⟨A3, c3⟩
   rw [← hde]
   refine ls (op (p_asg rfl) rfl) ?_
   refine ln ?_
   refine nblock ?_
   refine nthen ?_
   refine cr ?_
   refine ls (op (p_move rfl) rfl) ?_
   refine ls (op (p_add rfl rfl (by omega)) rfl) ?_
   refine ls (op (p_asg rfl) rfl) ?_
   refine ln ?_
   refine nnext ⟨(k + 1, A3, c3), hk1⟩ (by dsimp only; omega) (wk (is := [0]) (by repeat (first | exact subσ.nil _ | refine subσ.cons rfl ?_)) rfl (by repeat' (first | constructor | apply Sub.suf)))
  ·
   intro h26
   have h27 : ¬ decide (kl D[k].1 u) = true := by rw [less_kl] at h26; rw [h26]; decide
   rw [if_neg h27, List.append_nil] at hde
   refine cskip ?_
   refine nblock ?_
   refine nthen ?_
   refine cr ?_
   refine ls (op (p_move rfl) rfl) ?_
   refine ls (op (p_add rfl rfl (by omega)) rfl) ?_
   refine ls (op (p_asg rfl) rfl) ?_
   refine ln ?_
   rw [← hde]
   refine nnext ⟨(k + 1, A2, c2), hk1⟩ (by dsimp only; omega) (wk (is := [0]) (by repeat (first | exact subσ.nil _ | refine subσ.cons rfl ?_)) rfl (by repeat' (first | constructor | apply Sub.suf)))
 ·
  intro h17
  dsimp only at hk
  try simp only [decide_eq_true_eq, decide_eq_false_iff_not, Bool.not_eq_true', Bool.not_eq_false', Int.not_lt, Int.not_le, ge_iff_le, Bool.not_true, Bool.not_false] at h17
  rw [List.take_of_length_le (by omega)]
  have hd2 : (D.filter (fun x => decide (kl x.1 u))).length ≤ D.length := List.length_filter_le _ _
  refine cexit ?_
  refine xthen ?_
  refine xthen ?_
  refine xblock ?_
  refine nthen ?_
  refine cs ?_
  refine cr ?_
  refine ls (op (p_move rfl) rfl) ?_
  refine ls (op (p_move rfl) rfl) ?_
  refine ls (op (p_move rfl) rfl) ?_
  refine ls (op (p_bld sb132 rfl (Fill.t (by repeat' constructor) rfl rfl (by repeat' constructor) (Fill.t (by repeat' constructor) rfl rfl (by repeat' constructor) Fill.d))) rfl) ?_
  refine ls (o_bsl [((u, l) : File)] Tryz.underlying60 Tryz.sizeOf132 Tryz.zeroValue132 rfl (Enum.t Enum.d) (RV.t (B, c') rfl (by repeat' (first | constructor | apply Sub.suf)) RV.d) rfl (by decide) (by decide) rfl) ?_
  refine le ?_; intro b38
  refine lmono (fun a w h => Go.Sx.freeze (i := 0) rfl h) ?_
  refine ls (o_app (is := [0]) Tryz.underlying60 inf132 rfl (by decide) (by decide) rfl rfl (by simp only [List.length_cons, List.length_nil]; omega) (fun h => by cases h) rfl (by repeat' (first | constructor | apply Sub.suf)) rfl) ?_
  refine le ?_; rintro ⟨A4, c4⟩
  refine ls (op (p_asg rfl) rfl) ?_
  refine ln ?_
  refine nthen ?_
  refine cs ?_
  refine cs ?_
  refine cr ?_
  refine ls (op (p_asg rfl) rfl) ?_
  refine ln ?_
  refine nthen ?_
  refine cb ?_
  refine cl (ι := {q : Nat × Option Addr × Nat // q.1 ≤ D.length}) (fun i => St M0 F0 w0 61 [(1, .string u), (8, .slice A1 D.length c1), (10, .int .i64 (i.1.1 : Int)), (7, .slice i.1.2.1 (D.filter (fun x => decide (kl x.1 u)) ++ (u, l) :: (D.take i.1.1).filter (fun x => decide (kl u x.1))).length i.1.2.2)] [row 132 (i.1.2.1) (i.1.2.2) (D.filter (fun x => decide (kl x.1 u)) ++ (u, l) :: (D.take i.1.1).filter (fun x => decide (kl u x.1)))] [slA A1 D]) (fun i => D.length - i.1.1) ⟨(0, A4, c4), Nat.zero_le _⟩ (wk0 (by repeat (first | exact subσ.nil _ | refine subσ.cons rfl ?_)) (by repeat' (first | constructor | apply Sub.suf))) ?_
  rintro ⟨⟨j, A5, c5⟩, hj⟩
  refine cmono (S' := St M0 F0 w0 61 [(1, .string u), (8, .slice A1 D.length c1), (10, .int .i64 (j : Int)), (7, .slice A5 (D.filter (fun x => decide (kl x.1 u)) ++ (u, l) :: (D.take j).filter (fun x => decide (kl u x.1))).length c5)] [row 132 (A5) (c5) (D.filter (fun x => decide (kl x.1 u)) ++ (u, l) :: (D.take j).filter (fun x => decide (kl u x.1)))] [slA A1 D]) (fun _ _ h => h) ?_
  refine cs ?_
  refine cs ?_
  refine cr ?_
  refine ls (op (p_move rfl) rfl) ?_
  refine ls (op (p_move rfl) rfl) ?_
  refine ls (op (p_lenl rfl Tryz.underlying60) rfl) ?_
  refine ls (op (p_icmp rfl rfl rfl) rfl) ?_
  refine ln ?_
  refine nthen ?_
  refine cc rfl ?_ ?_
  ·
   intro h43
   dsimp only at hj
   try simp only [decide_eq_true_eq, decide_eq_false_iff_not, Bool.not_eq_true', Bool.not_eq_false', Int.not_lt, Int.not_le, ge_iff_le, Bool.not_true, Bool.not_false] at h43
   have hj1 : j < D.length := by omega
   have hdf := filt_succ (p := fun x => decide (kl u x.1)) hj1
   have hdl2 : ((D.take j).filter (fun x => decide (kl u x.1))).length ≤ D.length := Nat.le_trans (List.length_filter_le _ _) (by rw [List.length_take]; omega)
   refine cskip ?_
   refine nthen ?_
   refine cs ?_
   refine cb ?_
   refine cs ?_
   refine elC (by repeat' constructor) j (List.getElem?_eq_getElem (l := D) hj1) ?_; rintro zbq zoq zyq hAq
   refine cr ?_
   refine ls (op (p_move rfl) rfl) ?_
   refine ls (op (p_move rfl) rfl) ?_
   refine ls (op (p_ia j hAq hj1 rfl Tryz.underlying60 Tryz.sizeOf132 rfl rfl) rfl) ?_
   refine ls (op (p_fa fa132_0 rfl) rfl) ?_
   refine ls (o_ldi Tryz.isAgg9 rfl (by repeat' constructor) 0 rfl (by repeat (first | exact Cut.d | apply Cut.t | apply Cut.s)) rfl) ?_
   refine ls (op (p_move rfl) rfl) ?_
   refine ls (op (p_sgt rfl rfl) rfl) ?_
   refine ln ?_
   refine nthen ?_
   refine cc rfl ?_ ?_
   ·
    intro h52
    have h53 : decide (kl u D[j].1) = true := by rw [more_kl] at h52; exact h52
    rw [if_pos h53] at hdf
    refine cr ?_
    refine ls (op (p_move rfl) rfl) ?_
    refine ls (op (p_move rfl) rfl) ?_
    refine ls (op (p_move rfl) rfl) ?_
    refine ls (op (p_ia j hAq hj1 rfl Tryz.underlying60 Tryz.sizeOf132 rfl rfl) rfl) ?_
    refine ls (o_ldj Tryz.isAgg132 Tryz.sizeOf132 rfl (by repeat' constructor) 0 rfl (by repeat (first | exact Cut.d | apply Cut.t | apply Cut.s)) rfl) ?_
    refine ls (o_bsl [D[j]] Tryz.underlying60 Tryz.sizeOf132 Tryz.zeroValue132 rfl (Enum.t Enum.d) (RV.t zyq rfl (by repeat' (first | constructor | apply Sub.suf)) RV.d) rfl (by decide) (by decide) rfl) ?_
    refine le ?_; intro b58
    refine lmono (fun a w h => Go.Sx.freeze (i := 0) rfl h) ?_
    refine ls (o_app (is := [0]) Tryz.underlying60 inf132 rfl (by decide) (by decide) rfl rfl (app_len3 (m := D.length) hd2 hdl2 (by omega) (by decide)) (fun h => by cases h) rfl (by repeat' (first | constructor | apply Sub.suf)) rfl) ?_
    refine le ?_; rintro ⟨A6, c6⟩
    rw [app3, ← hdf]
    refine ls (op (p_asg rfl) rfl) ?_
    refine ln ?_
    refine nblock ?_
    refine nthen ?_
    refine cr ?_
    refine ls (op (p_move rfl) rfl) ?_
    refine ls (op (p_add rfl rfl (by omega)) rfl) ?_
    refine ls (op (p_asg rfl) rfl) ?_
    refine ln ?_
    refine nnext ⟨(j + 1, A6, c6), hj1⟩ (by dsimp only; omega) (wk (is := [0]) (by repeat (first | exact subσ.nil _ | refine subσ.cons rfl ?_)) rfl (by repeat' (first | constructor | apply Sub.suf)))
   ·
    intro h52
    have h53 : ¬ decide (kl u D[j].1) = true := by rw [more_kl] at h52; rw [h52]; decide
    rw [if_neg h53, List.append_nil] at hdf
    refine cskip ?_
    refine nblock ?_
    refine nthen ?_
    refine cr ?_
    refine ls (op (p_move rfl) rfl) ?_
    refine ls (op (p_add rfl rfl (by omega)) rfl) ?_
    refine ls (op (p_asg rfl) rfl) ?_
    refine ln ?_
    rw [← hdf]
    refine nnext ⟨(j + 1, A5, c5), hj1⟩ (by dsimp only; omega) (wk (is := [0]) (by repeat (first | exact subσ.nil _ | refine subσ.cons rfl ?_)) rfl (by repeat' (first | constructor | apply Sub.suf)))
  ·
   intro h43
   dsimp only at hj
   try simp only [decide_eq_true_eq, decide_eq_false_iff_not, Bool.not_eq_true', Bool.not_eq_false', Int.not_lt, Int.not_le, ge_iff_le, Bool.not_true, Bool.not_false] at h43
   rw [List.take_of_length_le (by omega)]
   refine cexit ?_
   refine xthen ?_
   refine xthen ?_
   refine xblock ?_
   refine nthen ?_
   refine cs ?_
   refine cmono (fun a w h => freezeN (i := 0) rfl h) ?_
   refine cr ?_
   refine ls (op (p_move rfl) rfl) ?_
   refine ls (op (p_asg rfl) rfl) ?_
   refine ln ?_
   refine nthen ?_
   refine cret ?_
   refine xret (fun _ _ h => h) ?_
   refine rret (is := []) (A5, c5) (Or.inl rfl) (Res.t rfl Res.d) (rfl) rfl (by repeat' (first | constructor | apply Sub.suf))

set_option maxRecDepth 100000 in
theorem c_rDo (T : List File) (A : Option Addr) (c : Nat) (hn : T.length ≤ 2000000) (o : TOp) (y : Option Addr × Nat) (ho : o.fit) (hg : ∀ k, (getL T k).length ≤ 2000000) : Con Tryz.prog 76 [.slice A T.length c, sv o y] [] [slA A T, slA y.1 o.l, nilA y] {q : (List File × Int) × (Option Addr × Nat) // q.1 = doT T o} (fun q => .tuple #[.slice q.1.2.1 q.1.1.1.length q.1.2.2, .int .i64 q.1.1.2]) (fun _ => []) (fun q => [slA q.1.2.1 q.1.1.1]) := by
 refine con Tryz.func76 rfl Tryz.ntmps76 rfl ?_
 intro M0 F0 w0
 refine cs ?_
 refine cr ?_
 refine ls (o_box rfl rfl rfl) ?_
 refine le ?_; intro b3
 refine ls (op (p_asg rfl) rfl) ?_
 refine ls (op (p_asg rfl) rfl) ?_
 refine ln ?_
 refine nthen ?_
 refine cs ?_
 refine cr ?_
 refine ls (op (p_move rfl) rfl) ?_
 refine ls (op (p_fa fa126_1 rfl) rfl) ?_
 refine ls (o_ld Tryz.isAgg9 rfl (by repeat' constructor) (by repeat' constructor) rfl) ?_
 refine ls (o_call (is := []) Tryz.call80 (c_rGet T A c hn o.name) rfl rfl (by repeat' (first | constructor | apply Sub.suf)) rfl) ?_
 refine le ?_; rintro ⟨B1, e1⟩
 refine ls (op (p_move rfl) rfl) ?_
 refine ls (op (p_ext rfl (by repeat' constructor)) rfl) ?_
 refine ls (op (p_ext rfl (by repeat' constructor)) rfl) ?_
 refine ls (op (p_asg rfl) rfl) ?_
 refine ls (op (p_asg rfl) rfl) ?_
 refine ln ?_
 refine nthen ?_
 refine cs ?_
 refine cs ?_
 refine cr ?_
 refine ls (op (p_fa fa126_0 rfl) rfl) ?_
 refine ls (o_ld Tryz.isAgg3 rfl (by repeat' constructor) (by repeat' constructor) rfl) ?_
 refine ln ?_
 refine nthen ?_
 refine cb ?_
 refine cs ?_
 refine cr ?_
 refine ls (op (p_icmp rfl rfl rfl) rfl) ?_
 refine ls (op (p_asg rfl) rfl) ?_
 refine ln ?_
 refine nthen ?_
 refine cc rfl ?_ ?_
 ·
  intro h19
  have k0 : o.kind = 0 := by simpa using h19
  refine cs ?_
  refine cs ?_
  refine cr ?_
  refine ls (op (p_fa fa126_1 rfl) rfl) ?_
  refine ls (o_ld Tryz.isAgg9 rfl (by repeat' constructor) (by repeat' constructor) rfl) ?_
  refine ls (o_call (is := []) Tryz.call98 (c_refNamed o.name ho.1) rfl rfl (by repeat' (first | constructor | apply Sub.suf)) rfl) ?_
  refine le ?_; intro x23
  refine ls (op (p_not rfl) rfl) ?_
  refine ln ?_
  refine nthen ?_
  refine cc rfl ?_ ?_
  ·
   intro h24
   refine cs ?_
   refine cr ?_
   refine ls (op (p_move rfl) rfl) ?_
   refine ls (op (p_asg rfl) rfl) ?_
   refine ls (op (p_asg rfl) rfl) ?_
   refine ln ?_
   refine nthen ?_
   refine cret ?_
   refine xret (fun _ _ h => h) ?_
   refine rret (is := []) ⟨((T, 20), (A, c)), by simp at h24; simp [doT, k0, tAdd, h24]⟩ (Or.inl rfl) (Res.t rfl (Res.t rfl Res.d)) (rfl) rfl (by repeat' (first | constructor | apply Sub.suf))
  ·
   intro h24
   refine cskip ?_
   refine nthen ?_
   refine cs ?_
   refine cs ?_
   refine cr ?_
   refine ls (op (p_move rfl) rfl) ?_
   refine ln ?_
   refine nthen ?_
   refine cc rfl ?_ ?_
   ·
    intro h26
    refine cs ?_
    refine cr ?_
    refine ls (op (p_move rfl) rfl) ?_
    refine ls (op (p_asg rfl) rfl) ?_
    refine ls (op (p_asg rfl) rfl) ?_
    refine ln ?_
    refine nthen ?_
    refine cret ?_
    refine xret (fun _ _ h => h) ?_
    refine rret (is := []) ⟨((T, 21), (A, c)), by simp at h24; simp [doT, k0, tAdd, h24, h26]⟩ (Or.inl rfl) (Res.t rfl (Res.t rfl Res.d)) (rfl) rfl (by repeat' (first | constructor | apply Sub.suf))
   ·
    intro h26
    refine cskip ?_
    refine nthen ?_
    refine cs ?_
    refine cmono (fun a w h => nilN h) ?_
    refine cr ?_
    refine ls (op (p_move rfl) rfl) ?_
    refine ls (op (p_fa fa126_1 rfl) rfl) ?_
    refine ls (o_ld Tryz.isAgg9 rfl (by repeat' constructor) (by repeat' constructor) rfl) ?_
    refine ls (o_call (is := []) Tryz.call127 (c_rWith T A c hn o.name [] none 0) rfl rfl (by repeat' (first | constructor | apply Sub.suf)) rfl) ?_
    refine le ?_; intro z31
    refine ls (op (p_asg rfl) rfl) ?_
    refine ls (op (p_asg rfl) rfl) ?_
    refine ln ?_
    refine nthen ?_
    refine cret ?_
    refine xret (fun _ _ h => h) ?_
    refine rret (is := []) ⟨((putT T o.name [], 0), z31), by simp at h24; simp [doT, k0, tAdd, h24, h26]⟩ (Or.inl rfl) (Res.t rfl (Res.t rfl Res.d)) (rfl) rfl (by repeat' (first | constructor | apply Sub.suf))
 ·
  intro h19
  have k0 : ¬ o.kind = 0 := by simpa using h19
  refine cs ?_
  refine cr ?_
  refine ls (op (p_icmp rfl rfl rfl) rfl) ?_
  refine ls (op (p_asg rfl) rfl) ?_
  refine ln ?_
  refine nthen ?_
  refine cc rfl ?_ ?_
  ·
   intro h32
   have k1 : o.kind = 1 := by simpa using h32
   refine cs ?_
   refine cs ?_
   refine cr ?_
   refine ls (op (p_move rfl) rfl) ?_
   refine ls (op (p_not rfl) rfl) ?_
   refine ln ?_
   refine nthen ?_
   refine cc rfl ?_ ?_
   ·
    intro h35
    refine cs ?_
    refine cr ?_
    refine ls (op (p_move rfl) rfl) ?_
    refine ls (op (p_asg rfl) rfl) ?_
    refine ls (op (p_asg rfl) rfl) ?_
    refine ln ?_
    refine nthen ?_
    refine cret ?_
    refine xret (fun _ _ h => h) ?_
    refine rret (is := []) ⟨((T, 20), (A, c)), by simp at h35; simp [doT, k1, tRem, h35]⟩ (Or.inl rfl) (Res.t rfl (Res.t rfl Res.d)) (rfl) rfl (by repeat' (first | constructor | apply Sub.suf))
   ·
    intro h35
    refine cskip ?_
    refine nthen ?_
    refine cs ?_
    refine cs ?_
    refine cr ?_
    refine ls (op (p_move rfl) rfl) ?_
    refine ls (op (p_lenl rfl Tryz.underlying37) rfl) ?_
    refine ls (op (p_icmp rfl rfl rfl) rfl) ?_
    refine ln ?_
    refine nthen ?_
    refine cc rfl ?_ ?_
    ·
     intro h39
     refine cs ?_
     refine cr ?_
     refine ls (op (p_move rfl) rfl) ?_
     refine ls (op (p_asg rfl) rfl) ?_
     refine ls (op (p_asg rfl) rfl) ?_
     refine ln ?_
     refine nthen ?_
     refine cret ?_
     refine xret (fun _ _ h => h) ?_
     refine rret (is := []) ⟨((T, 22), (A, c)), by simp at h35; have h : 0 < (getL T o.name).length := (by simp at h39; omega); simp [doT, k1, tRem, h35, h]⟩ (Or.inl rfl) (Res.t rfl (Res.t rfl Res.d)) (rfl) rfl (by repeat' (first | constructor | apply Sub.suf))
    ·
     intro h39
     refine cskip ?_
     refine nthen ?_
     refine cs ?_
     refine cr ?_
     refine ls (op (p_move rfl) rfl) ?_
     refine ls (op (p_fa fa126_1 rfl) rfl) ?_
     refine ls (o_ld Tryz.isAgg9 rfl (by repeat' constructor) (by repeat' constructor) rfl) ?_
     refine ls (o_call (is := []) Tryz.call128 (c_rWithout T A c hn o.name) rfl rfl (by repeat' (first | constructor | apply Sub.suf)) rfl) ?_
     refine le ?_; intro z44
     refine ls (op (p_asg rfl) rfl) ?_
     refine ls (op (p_asg rfl) rfl) ?_
     refine ln ?_
     refine nthen ?_
     refine cret ?_
     refine xret (fun _ _ h => h) ?_
     refine rret (is := []) ⟨((delT T o.name, 0), z44), by simp at h35; have h : ¬ 0 < (getL T o.name).length := (by simp at h39; simp [h39]); simp [doT, k1, tRem, h35, h]⟩ (Or.inl rfl) (Res.t rfl (Res.t rfl Res.d)) (rfl) rfl (by repeat' (first | constructor | apply Sub.suf))
  ·
   intro h32
   have k1 : ¬ o.kind = 1 := by simpa using h32
   refine cs ?_
   refine cr ?_
   refine ls (op (p_icmp rfl rfl rfl) rfl) ?_
   refine ls (op (p_asg rfl) rfl) ?_
   refine ln ?_
   refine nthen ?_
   refine cc rfl ?_ ?_
   ·
    intro h45
    have k2 : o.kind = 2 := by simpa using h45
    refine cs ?_
    refine cs ?_
    refine cr ?_
    refine ls (op (p_move rfl) rfl) ?_
    refine ls (op (p_not rfl) rfl) ?_
    refine ls (op (p_move rfl) rfl) ?_
    refine orX 5 49 54 rfl (subσ.cons (t := 0) rfl (subσ.cons (t := 1) rfl (subσ.cons (t := 3) rfl (subσ.cons (t := 4) rfl (subσ.cons (t := 5) rfl (subσ.cons (t := 11) rfl (subσ.cons (t := 12) rfl (subσ.cons (t := 13) rfl (subσ.cons (t := 14) rfl (subσ.cons (t := 10) rfl (subσ.cons (t := 15) rfl (subσ.cons (t := 16) rfl (subσ.cons (t := 6) rfl (subσ.cons (t := 7) rfl (subσ.cons (t := 17) rfl (subσ.cons (t := 18) rfl (subσ.cons (t := 20) rfl (subσ.cons (t := 19) rfl (subσ.cons (t := 33) rfl (subσ.cons (t := 32) rfl (subσ.cons (t := 46) rfl (subσ.cons (t := 45) rfl (subσ.nil _))))))))))))))))))))))) ?_ ?_
    ·
     intro h49
     refine lskip rfl rfl rfl rfl rfl ?_
     refine lskip rfl rfl rfl rfl rfl ?_
     refine lskip rfl rfl rfl rfl rfl ?_
     refine lskip rfl rfl rfl rfl rfl ?_
     refine ls (op (p_pickt rfl rfl) rfl) ?_
     refine ln (nmid (wk0 (by repeat (first | exact subσ.nil _ | refine subσ.cons rfl ?_)) (by repeat' (first | constructor | apply Sub.suf))))
    apply exI
    ·
     intro h49
     refine lwant rfl rfl rfl rfl (op (p_fa fa126_2 rfl) rfl) ?_
     refine lwant rfl rfl rfl rfl (o_ld Tryz.isAgg9 rfl (by repeat' constructor) (by repeat' constructor) rfl) ?_
     refine lwant rfl rfl rfl rfl (o_call (is := []) Tryz.call98 (c_refNamed o.to ho.2.1) rfl rfl (by repeat' (first | constructor | apply Sub.suf)) rfl) ?_
     refine le ?_; intro x52
     refine lwant rfl rfl rfl rfl (op (p_not rfl) rfl) ?_
     refine ls (op (p_pickf rfl rfl) rfl) ?_
     refine ln (nmid (wk0 (by repeat (first | exact subσ.nil _ | refine subσ.cons rfl ?_)) (by repeat' (first | constructor | apply Sub.suf))))
    ·
     refine ln ?_
     refine nthen ?_
     refine cc rfl ?_ ?_
     ·
      intro h54
      refine cs ?_
      refine cr ?_
      refine ls (op (p_move rfl) rfl) ?_
      refine ls (op (p_asg rfl) rfl) ?_
      refine ls (op (p_asg rfl) rfl) ?_
      refine ln ?_
      refine nthen ?_
      refine cret ?_
      refine xret (fun _ _ h => h) ?_
      refine rret (is := []) ⟨((T, 20), (A, c)), by simp at h54; simp [doT, k2, rMove, h54]⟩ (Or.inl rfl) (Res.t rfl (Res.t rfl Res.d)) (rfl) rfl (by repeat' (first | constructor | apply Sub.suf))
     ·
      intro h54
      refine cskip ?_
      refine nthen ?_
      refine cs ?_
      refine cr ?_
      refine ls (op (p_move rfl) rfl) ?_
      refine ls (op (p_fa fa126_2 rfl) rfl) ?_
      refine ls (o_ld Tryz.isAgg9 rfl (by repeat' constructor) (by repeat' constructor) rfl) ?_
      refine ls (o_call (is := []) Tryz.call80 (c_rGet T A c hn o.to) rfl rfl (by repeat' (first | constructor | apply Sub.suf)) rfl) ?_
      refine le ?_; rintro ⟨B2, e2⟩
      refine ls (op (p_move rfl) rfl) ?_
      refine ls (op (p_ext rfl (by repeat' constructor)) rfl) ?_
      refine ls (op (p_ext rfl (by repeat' constructor)) rfl) ?_
      refine ls (op (p_asg rfl) rfl) ?_
      refine ls (op (p_asg rfl) rfl) ?_
      refine ln ?_
      refine nthen ?_
      refine cs ?_
      refine cs ?_
      refine cr ?_
      refine ls (op (p_move rfl) rfl) ?_
      refine ln ?_
      refine nthen ?_
      refine cc rfl ?_ ?_
      ·
       intro h63
       refine cs ?_
       refine cr ?_
       refine ls (op (p_move rfl) rfl) ?_
       refine ls (op (p_asg rfl) rfl) ?_
       refine ls (op (p_asg rfl) rfl) ?_
       refine ln ?_
       refine nthen ?_
       refine cret ?_
       refine xret (fun _ _ h => h) ?_
       refine rret (is := []) ⟨((T, 21), (A, c)), by simp at h54; simp [doT, k2, rMove, h54, h63]⟩ (Or.inl rfl) (Res.t rfl (Res.t rfl Res.d)) (rfl) rfl (by repeat' (first | constructor | apply Sub.suf))
      ·
       intro h63
       refine cskip ?_
       refine nthen ?_
       refine cs ?_
       have hdn : (delT T o.name).length ≤ 2000000 := Nat.le_trans (List.length_filter_le _ _) hn
       refine cd [3, 7] [(2, b3, 1, _), (5, b3, 2, _)] TryzX.mixed (TOk.t (isBoxS (by repeat' constructor) (k := 1) (by repeat (first | exact Cut.d | apply Cut.t | apply Cut.s))) (TOk.t (isBoxS (by repeat' constructor) (k := 1) (by repeat (first | exact Cut.d | apply Cut.t | apply Cut.s))) TOk.d)) ?_
       refine tk 0 rfl (by kernel_rfl) (fun _ _ _ h => h) gnone (TTany _) (p_move rfl) rfl ?_
       refine tk 1 rfl (by kernel_rfl) (fun _ _ _ h => h) gnone (TTany _) (p_fa fa126_1 rfl) rfl ?_
       refine tk 2 rfl (by kernel_rfl) (fun _ _ _ h => h) gnone (TTat (List.Mem.head _)) (p_ld Tryz.isAgg9 rfl) rfl ?_
       refine tk 4 rfl (by kernel_rfl) (fun _ _ _ h => h) gnone (TTany _) (p_fa fa126_2 rfl) rfl ?_
       refine tk 5 rfl (by kernel_rfl) (fun _ _ _ h => h) gnone (TTat (List.Mem.tail _ (List.Mem.head _))) (p_ld Tryz.isAgg9 rfl) rfl ?_
       refine tk 6 rfl (by kernel_rfl) (fun _ _ _ h => h) gnone (TTany _) (p_move rfl) rfl ?_
       refine df 3 (by kernel_rfl) ?_
       refine doR rfl (o_call (is := []) Tryz.call128 (c_rWithout T A c hn o.name) rfl rfl (by repeat' (first | constructor | apply Sub.suf)) rfl) (TOk.x (by kernel_rfl) (TOk.t (isBoxE fun _ => isBoxS (by repeat' constructor) (k := 1) (by repeat (first | exact Cut.d | apply Cut.t | apply Cut.s))) TOk.d)) ?_
       refine ea ?_; rintro ⟨A3, c3⟩
       refine df 7 (by kernel_rfl) ?_
       refine doR rfl (o_call (is := []) Tryz.call127 (c_rWith (delT T o.name) A3 c3 hdn o.to (getL T o.name) B1 e1) rfl rfl (by repeat' (first | constructor | apply Sub.suf)) rfl) (TOk.x (by kernel_rfl) (TOk.x (by kernel_rfl) TOk.d)) ?_
       refine ea ?_; intro z72
       refine tk 8 rfl (by kernel_rfl) (fun _ _ _ h => h) gnone (TTany _) (p_asg rfl) rfl ?_
       refine tk 9 rfl (by kernel_rfl) (fun _ _ _ h => h) gnone (TTany _) (p_asg rfl) rfl ?_
       refine dn (by kernel_rfl) ?_
       refine nthen ?_
       refine cret ?_
       refine xret (fun _ _ h => h) ?_
       refine rret (is := []) ⟨((putT (delT T o.name) o.to (getL T o.name), 0), z72), by simp at h54; simp [doT, k2, rMove, h54, h63]⟩ (Or.inl rfl) (Res.t rfl (Res.t rfl Res.d)) (rfl) rfl (by repeat' (first | constructor | apply Sub.suf))
   ·
    intro h45
    have k2 : ¬ o.kind = 2 := by simpa using h45
    refine cs ?_
    refine cr ?_
    refine ls (op (p_icmp rfl rfl rfl) rfl) ?_
    refine ls (op (p_asg rfl) rfl) ?_
    refine ln ?_
    refine nthen ?_
    refine cc rfl ?_ ?_
    ·
     intro h73
     have k3 : o.kind = 3 := by simpa using h73
     refine cs ?_
     refine cs ?_
     refine cr ?_
     refine ls (op (p_move rfl) rfl) ?_
     refine ls (op (p_not rfl) rfl) ?_
     refine ln ?_
     refine nthen ?_
     refine cc rfl ?_ ?_
     ·
      intro h76
      refine cs ?_
      refine cr ?_
      refine ls (op (p_move rfl) rfl) ?_
      refine ls (op (p_asg rfl) rfl) ?_
      refine ls (op (p_asg rfl) rfl) ?_
      refine ln ?_
      refine nthen ?_
      refine cret ?_
      refine xret (fun _ _ h => h) ?_
      refine rret (is := []) ⟨((T, 20), (A, c)), by simp at h76; simp [doT, k3, tPut, h76]⟩ (Or.inl rfl) (Res.t rfl (Res.t rfl Res.d)) (rfl) rfl (by repeat' (first | constructor | apply Sub.suf))
     ·
      intro h76
      refine cskip ?_
      refine nthen ?_
      refine cs ?_
      refine cs ?_
      refine cr ?_
      refine ls (op (p_fa fa126_3 rfl) rfl) ?_
      refine ls (o_ld Tryz.isAgg37 rfl (by repeat' constructor) (by repeat' constructor) rfl) ?_
      refine ls (o_call (is := []) Tryz.call24 (c_refAll o.l y.1 y.2 ho.2.2.1 ho.2.2.2) rfl rfl (by repeat' (first | constructor | apply Sub.suf)) rfl) ?_
      refine le ?_; intro x80
      refine ls (op (p_not rfl) rfl) ?_
      refine ln ?_
      refine nthen ?_
      refine cc rfl ?_ ?_
      ·
       intro h81
       refine cs ?_
       refine cr ?_
       refine ls (op (p_move rfl) rfl) ?_
       refine ls (op (p_asg rfl) rfl) ?_
       refine ls (op (p_asg rfl) rfl) ?_
       refine ln ?_
       refine nthen ?_
       refine cret ?_
       refine xret (fun _ _ h => h) ?_
       refine rret (is := []) ⟨((T, 1), (A, c)), by simp only [Bool.not_eq_false'] at h76; simp only [Bool.not_eq_true'] at h81; simp only [doT, k3, tPut, h76, h81]; simp⟩ (Or.inl rfl) (Res.t rfl (Res.t rfl Res.d)) (rfl) rfl (by repeat' (first | constructor | apply Sub.suf))
      ·
       intro h81
       refine cskip ?_
       refine nthen ?_
       refine cs ?_
       refine nilP (y := y) (by repeat' constructor) (fun hnl => ?_)
       refine cd [3, 6, 7] [(2, b3, 1, _), (5, b3, 3, _)] TryzX.mixed (TOk.t (isBoxS (by repeat' constructor) (k := 1) (by repeat (first | exact Cut.d | apply Cut.t | apply Cut.s))) (TOk.t (isBoxS (by repeat' constructor) (k := 1) (by repeat (first | exact Cut.d | apply Cut.t | apply Cut.s))) TOk.d)) ?_
       refine tk 0 rfl (by kernel_rfl) (fun _ _ _ h => h) gnone (TTany _) (p_move rfl) rfl ?_
       refine tk 1 rfl (by kernel_rfl) (fun _ _ _ h => h) gnone (TTany _) (p_fa fa126_1 rfl) rfl ?_
       refine tk 2 rfl (by kernel_rfl) (fun _ _ _ h => h) gnone (TTat (List.Mem.head _)) (p_ld Tryz.isAgg9 rfl) rfl ?_
       refine tk 4 rfl (by kernel_rfl) (fun _ _ _ h => h) gnone (TTany _) (p_fa fa126_3 rfl) rfl ?_
       refine tk 5 rfl (by kernel_rfl) (fun _ _ _ h => h) gnone (TTat (List.Mem.tail _ (List.Mem.head _))) (p_ld Tryz.isAgg37 rfl) rfl ?_
       refine df 3 (by kernel_rfl) ?_
       refine doR rfl (o_bsl ([] : List ByteArray) Tryz.underlying37 Tryz.sizeOf9 Tryz.zeroValue9 rfl Enum.d RV.d rfl (by decide) (by decide) rfl) (TOk.t (isBoxE fun _ => isBoxS (by repeat' constructor) (k := 1) (by repeat (first | exact Cut.d | apply Cut.t | apply Cut.s))) (TOk.t (isBoxE fun _ => isBoxS (by repeat' constructor) (k := 1) (by repeat (first | exact Cut.d | apply Cut.t | apply Cut.s))) TOk.d)) ?_
       refine ea ?_; intro b86
       refine df 6 (by kernel_rfl) ?_
       refine doR rfl (o_app (is := [0]) Tryz.underlying37 inf9 rfl (by decide) (by decide) rfl rfl (by have := ho.2.2.1; simp only [List.length_nil]; omega) (fun _ => hnl) rfl (by repeat' (first | constructor | apply Sub.suf)) rfl) (TOk.t (isBoxE fun _ => isBoxS (by repeat' constructor) (k := 1) (by repeat (first | exact Cut.d | apply Cut.t | apply Cut.s))) (TOk.x (by kernel_rfl) TOk.d)) ?_
       refine ea ?_; rintro ⟨A4, c4⟩
       refine amono (fun a w h => freezeN (i := 0) rfl h) ?_
       rw [List.nil_append]
       refine df 7 (by kernel_rfl) ?_
       refine doR rfl (o_call (is := []) Tryz.call127 (c_rWith T A c hn o.name o.l A4 c4) rfl rfl (by repeat' (first | constructor | apply Sub.suf)) rfl) (TOk.x (by kernel_rfl) (TOk.x (by kernel_rfl) TOk.d)) ?_
       refine ea ?_; intro z90
       refine tk 8 rfl (by kernel_rfl) (fun _ _ _ h => h) gnone (TTany _) (p_asg rfl) rfl ?_
       refine tk 9 rfl (by kernel_rfl) (fun _ _ _ h => h) gnone (TTany _) (p_asg rfl) rfl ?_
       refine dn (by kernel_rfl) ?_
       refine nthen ?_
       refine cret ?_
       refine xret (fun _ _ h => h) ?_
       refine rret (is := []) ⟨((putT T o.name o.l, 0), z90), by simp only [Bool.not_eq_false'] at h76 h81; simp only [doT, k3, tPut, h76, h81]; simp⟩ (Or.inl rfl) (Res.t rfl (Res.t rfl Res.d)) (rfl) rfl (by repeat' (first | constructor | apply Sub.suf))
    ·
     intro h73
     have k3 : ¬ o.kind = 3 := by simpa using h73
     refine cskip ?_
     refine nblock ?_
     refine nthen ?_
     refine cs ?_
     refine cr ?_
     refine ls (op (p_move rfl) rfl) ?_
     refine ls (op (p_asg rfl) rfl) ?_
     refine ls (op (p_asg rfl) rfl) ?_
     refine ln ?_
     refine nthen ?_
     refine cret ?_
     refine xret (fun _ _ h => h) ?_
     refine rret (is := []) ⟨((T, 0), (A, c)), by simp [doT, k0, k1, k2, k3]⟩ (Or.inl rfl) (Res.t rfl (Res.t rfl Res.d)) (rfl) rfl (by repeat' (first | constructor | apply Sub.suf))

end Go.Proofs.YtdbiillompeclaaGreatDoor.X

end
