/- OWN WORK: a part of the proof of a law of the seat YtdbiillompeclaaGreatDoor: contracts. -/
import Derived.Test.YtdbiillompeclaaGreatDoorProg
import Derived.Test.YtdbiillompeclaaGreatDoorXGE
import Derived.Test.YtdbiillompeclaaGreatDoorXGC
import Derived.Test.YtdbiillompeclaaGreatDoorXGD
import Derived.Test.YtdbiillompeclaaGreatDoorXGA
section
set_option linter.unusedVariables false
set_option linter.unusedSimpArgs false
namespace Go.Proofs.YtdbiillompeclaaGreatDoor.X
open Go Go.RowKit Go.Proofs Go.Sx
attribute [local irreducible] slA isA box row

def Patch.many (p : Patch) : Nat := 1 + p.note.size + p.deps.length + Sx.many p.l
def pmany (l : List Patch) : Nat := (l.map Patch.many).sum
def ppre (l : List Patch) (k : Nat) : Nat := ((l.take k).map Patch.many).sum
theorem ppre_succ {l : List Patch} {k : Nat} (h : k < l.length) : ppre l (k + 1) = ppre l k + l[k].many := by
 unfold ppre
 rw [List.take_succ_eq_append_getElem h, List.map_append, List.sum_append]
 simp only [List.map_cons, List.map_nil, List.sum_cons, List.sum_nil, Nat.add_zero]
theorem ppre_le (l : List Patch) (k : Nat) : ppre l k ≤ pmany l := by
 unfold ppre pmany
 have := sum_take (l.map Patch.many) k
 rw [← List.map_take] at this
 exact this
def ptot (l : List Patch) : Nat := (l.map fun p => p.l.length).sum
def pprt (l : List Patch) (k : Nat) : Nat := ((l.take k).map fun p => p.l.length).sum
theorem pprt_succ {l : List Patch} {k : Nat} (h : k < l.length) : pprt l (k + 1) = pprt l k + l[k].l.length := by
 unfold pprt
 rw [List.take_succ_eq_append_getElem h, List.map_append, List.sum_append]
 simp only [List.map_cons, List.map_nil, List.sum_cons, List.sum_nil, Nat.add_zero]
theorem many_len (l : List Prim) : l.length ≤ many l := by unfold many; omega
theorem pprt_le (l : List Patch) (k : Nat) : pprt l k ≤ pmany l := by
 have h1 : pprt l k ≤ ptot l := by
  unfold pprt ptot
  have := sum_take (l.map fun p => p.l.length) k
  rw [← List.map_take] at this
  exact this
 have h2 : ptot l ≤ pmany l := by
  unfold ptot pmany
  clear h1
  induction l with
  | nil => simp
  | cons x l ih =>
   simp only [List.map_cons, List.sum_cons]
   have := many_len x.l
   have : x.l.length ≤ x.many := by unfold Patch.many; omega
   omega
 omega
def fewB (l : List Patch) : Bool := decide ((l.length : Int) ≤ 12) && decide ((ptot l : Int) ≤ 40) && decide ((pmany l : Int) ≤ 6000)
def aA : Prim := ⟨1, ⟨#[97]⟩, ⟨#[]⟩, 0, [], []⟩
def aB : Prim := ⟨1, ⟨#[98]⟩, ⟨#[]⟩, 0, [], []⟩
def aC : Prim := ⟨1, ⟨#[99]⟩, ⟨#[]⟩, 0, [], []⟩
def aH : Prim := ⟨0, ⟨#[97]⟩, ⟨#[]⟩, 0, [], [⟨#[120]⟩]⟩
def qA : Patch := ⟨1, ⟨#[]⟩, [], [aA]⟩
def qB : Patch := ⟨2, ⟨#[98]⟩, [], [aB]⟩
def qC : Patch := ⟨3, ⟨#[]⟩, [], [aH]⟩
def qD : Patch := ⟨9, ⟨#[]⟩, [], [aC]⟩
theorem fit_of {p : Prim} (h1 : p.old.length ≤ 2000000) (h2 : p.new.length ≤ 2000000) (h3 : p.name.size ≤ 2000000) (h4 : p.to.size ≤ 2000000) (h5 : p.old.all (fun s => decide (s.size ≤ 2000000)) = true) (h6 : p.new.all (fun s => decide (s.size ≤ 2000000)) = true) : p.fit :=
 ⟨h1, h2, h3, h4, (fun s h => by simpa using List.all_eq_true.1 h5 s h), (fun s h => by simpa using List.all_eq_true.1 h6 s h)⟩
theorem fitaA : aA.fit := fit_of (by decide) (by decide) (by decide) (by decide) (by decide) (by decide)
theorem fitaB : aB.fit := fit_of (by decide) (by decide) (by decide) (by decide) (by decide) (by decide)
theorem fitaC : aC.fit := fit_of (by decide) (by decide) (by decide) (by decide) (by decide) (by decide)
theorem fitaH : aH.fit := fit_of (by decide) (by decide) (by decide) (by decide) (by decide) (by decide)
theorem fitqA : qA.fit := ⟨by decide, by decide, by decide, fun x h => by simp [qA] at h; subst h; exact fitaA⟩
theorem fitqB : qB.fit := ⟨by decide, by decide, by decide, fun x h => by simp [qB] at h; subst h; exact fitaB⟩
theorem fitqC : qC.fit := ⟨by decide, by decide, by decide, fun x h => by simp [qC] at h; subst h; exact fitaH⟩
theorem fitqD : qD.fit := ⟨by decide, by decide, by decide, fun x h => by simp [qD] at h; subst h; exact fitaC⟩
theorem fit3 : ∀ x ∈ [qA, qB, qC], x.fit := by intro x h; simp at h; rcases h with rfl | rfl | rfl; exact fitqA; exact fitqB; exact fitqC
theorem fit2 : ∀ x ∈ [qA, qB], x.fit := by intro x h; simp at h; rcases h with rfl | rfl; exact fitqA; exact fitqB
theorem al1 : group [qA, qB, qC] = ([qA, qC], [qB]) := by decide +kernel
theorem al2 : pswap qA qB = (qB, qA, true) := by decide +kernel
theorem al3 : ppast [qA, qB] qD = (qD, [qA, qB], true) := by decide +kernel
theorem al4 : pswap qA qC = (Patch.zero, Patch.zero, false) := by decide +kernel
theorem al5 : qA.right = true := by decide +kernel
theorem al6 : Patch.zero.right = false := by decide +kernel
theorem al7 : (!(pswap qA qC).2.2) = true := by rw [al4]; rfl
theorem pthree {a b c d : Patch} {e f : Bool} (h : (a, b, e) = (c, d, f)) : a = c ∧ b = d ∧ e = f := by simpa using h
theorem ptwo_eq {α β : Type} {a c : α} {b d : β} (h : (a, b) = (c, d)) : a = c ∧ b = d := by simpa using h
theorem pthr2 {α β γ : Type} {a c : α} {b d : β} {e f : γ} (h : (a, b, e) = (c, d, f)) : a = c ∧ b = d ∧ e = f := by simpa using h


set_option maxRecDepth 100000 in
theorem c_Many7 (l : List Patch) (A : Option Addr) (c : Nat) (hl : l.length ≤ 2000000) (hf : ∀ x ∈ l, x.fit) (hM : pmany l ≤ 1000000000000) : Con Tryz.prog 56 [.slice A l.length c] [] [slA A l] Unit (fun _ => .int .i64 (pmany l : Int)) (fun _ => []) (fun _ => []) := by
 refine con Tryz.func56 rfl Tryz.ntmps56 rfl ?_
 intro M0 F0 w0
 refine cs ?_
 refine cr ?_
 refine ls (op (p_asg rfl) rfl) ?_
 refine ln ?_
 refine nthen ?_
 refine cs ?_
 refine cr ?_
 refine ls (op (p_asg rfl) rfl) ?_
 refine ln ?_
 refine nthen ?_
 refine cs ?_
 refine cs ?_
 refine cr ?_
 refine ls (op (p_move rfl) rfl) ?_
 refine ls (op (p_lenl rfl Tryz.underlying90) rfl) ?_
 refine ls (op (p_move rfl) rfl) ?_
 refine ln ?_
 refine nthen ?_
 refine cb ?_
 refine cl (ι := {q : Nat × Int // q.1 ≤ l.length ∧ q.2 = (ppre l q.1 : Nat)}) (fun i => St M0 F0 w0 28 [(6, .slice A l.length c), (7, .int .i64 (l.length : Int)), (8, .int .i64 (i.1.1 : Int)), (3, .int .i64 i.1.2)] [] [slA A l]) (fun i => l.length - i.1.1) ⟨(0, 0), by simp [ppre]⟩ (wk0 (by repeat (first | exact subσ.nil _ | refine subσ.cons rfl ?_)) (by repeat' (first | constructor | apply Sub.suf))) ?_
 rintro ⟨⟨k, n⟩, hk, hn⟩
 refine cmono (S' := St M0 F0 w0 28 [(6, .slice A l.length c), (7, .int .i64 (l.length : Int)), (8, .int .i64 (k : Int)), (3, .int .i64 n)] [] [slA A l]) (fun _ _ h => h) ?_
 refine cs ?_
 refine cr ?_
 refine ls (op (p_icmp rfl rfl rfl) rfl) ?_
 refine ln ?_
 refine nthen ?_
 refine cs ?_
 refine cc rfl ?_ ?_
 ·
  intro h9
  dsimp only at hk hn
  try simp only [decide_eq_true_eq, decide_eq_false_iff_not, Bool.not_eq_true', Bool.not_eq_false', Int.not_lt, Int.not_le, ge_iff_le, Bool.not_true, Bool.not_false] at h9
  have hk1 : k < l.length := by omega
  have hs := ppre_succ hk1
  have ht := ppre_le l (k + 1)
  have hu : l[k].many = 1 + l[k].note.size + l[k].deps.length + many l[k].l := rfl
  refine cskip ?_
  refine nthen ?_
  refine cs ?_
  refine cb ?_
  refine cs ?_
  refine elC (by repeat' constructor) k (List.getElem?_eq_getElem (l := l) hk1) ?_; rintro zbp zop zyp hAp
  refine cr ?_
  refine ls (op (p_ia k hAp hk1 rfl Tryz.underlying90 Tryz.sizeOf25 rfl rfl) rfl) ?_
  refine ls (o_ldj Tryz.isAgg25 Tryz.sizeOf25 rfl (by repeat' constructor) 0 rfl (by repeat (first | exact Cut.d | apply Cut.t | apply Cut.s)) rfl) ?_
  refine ls (o_alloc Tryz.zeroValue25 rfl rfl) ?_
  refine le ?_; intro b5
  refine ls (o_st rfl Tryz.sizeOf25 rfl rfl rfl rfl rfl (by repeat' constructor) (by repeat' constructor) (by repeat' constructor)) ?_
  refine ln ?_
  refine nthen ?_
  refine cdB [11] [(2, b5, 1, _), (6, b5, 2, _), (10, b5, 3, _)] TryzX.mixed (by kernel_rfl) (by kernel_rfl) (TOk.t (isBoxS (by repeat' constructor) (k := 1) (by repeat (first | exact Cut.d | apply Cut.t | apply Cut.s))) (TOk.t (isBoxS (by repeat' constructor) (k := 1) (by repeat (first | exact Cut.d | apply Cut.t | apply Cut.s))) (TOk.t (isBoxS (by repeat' constructor) (k := 1) (by repeat (first | exact Cut.d | apply Cut.t | apply Cut.s))) TOk.d))) ?_
  refine tkB 0 rfl (by kernel_rfl) (fun _ _ _ h => h) gnone (TTany _) (p_move rfl) rfl ?_
  refine tkB 1 rfl (by kernel_rfl) (fun _ _ _ h => h) gnone (TTany _) (p_fa fa25_1 rfl) rfl ?_
  refine tkB 2 rfl (by kernel_rfl) (fun _ _ _ h => h) gnone (TTat (List.Mem.head _)) (p_ld Tryz.isAgg9 rfl) rfl ?_
  refine tkB 3 rfl (by kernel_rfl) (fun _ _ _ h => h) gnone (TTany _) (p_lens rfl Tryz.underlying9) rfl ?_
  refine tkB 4 rfl (by kernel_rfl) (fun _ _ _ h => h) gnone (TTany _) (p_add rfl rfl (by omega)) rfl ?_
  refine tkB 5 rfl (by kernel_rfl) (fun _ _ _ h => h) gnone (TTany _) (p_fa fa25_2 rfl) rfl ?_
  refine tkB 6 rfl (by kernel_rfl) (fun _ _ _ h => h) gnone (TTat (List.Mem.tail _ (List.Mem.head _))) (p_ld Tryz.isAgg22 rfl) rfl ?_
  refine tkB 7 rfl (by kernel_rfl) (fun _ _ _ h => h) gnone (TTany _) (p_lenl rfl Tryz.underlying22) rfl ?_
  refine tkB 8 rfl (by kernel_rfl) (fun _ _ _ h => h) gnone (TTany _) (p_add rfl rfl (by omega)) rfl ?_
  refine tkB 9 rfl (by kernel_rfl) (fun _ _ _ h => h) gnone (TTany _) (p_fa fa25_3 rfl) rfl ?_
  refine tkB 10 rfl (by kernel_rfl) (fun _ _ _ h => h) gnone (TTat (List.Mem.tail _ (List.Mem.tail _ (List.Mem.head _)))) (p_ld Tryz.isAgg23 rfl) rfl ?_
  refine dfB 11 (by kernel_rfl) ?_
  refine doRB rfl (o_call (is := []) Tryz.call45 (c_Many l[k].l _ _ (hf _ (List.getElem_mem hk1)).ll (by omega)) rfl rfl (by repeat' (first | constructor | apply Sub.suf)) rfl) (TOk.t (isBoxE fun _ => isBoxS (by repeat' constructor) (k := 1) (by repeat (first | exact Cut.d | apply Cut.t | apply Cut.s))) (TOk.t (isBoxE fun _ => isBoxS (by repeat' constructor) (k := 1) (by repeat (first | exact Cut.d | apply Cut.t | apply Cut.s))) (TOk.xP 11 [] (by kernel_rfl) TOk.d))) ?_
  refine eaB ?_; intro x23
  refine tkB 12 rfl (by kernel_rfl) (fun _ _ _ h => h) gnone (TTany _) (p_add rfl rfl (by omega)) rfl ?_
  refine tkB 13 rfl (by kernel_rfl) (fun _ _ _ h => h) gnone (TTany _) (p_add rfl rfl (by omega)) rfl ?_
  refine tkB 14 rfl (by kernel_rfl) (fun _ _ _ h => h) gnone (TTany _) (p_asg rfl) rfl ?_
  refine dnB (by kernel_rfl) ?_
  refine nblock ?_
  refine nthen ?_
  refine cr ?_
  refine ls (op (p_add rfl rfl (by omega)) rfl) ?_
  refine ls (op (p_move rfl) rfl) ?_
  refine ln ?_
  refine nnext ⟨(k + 1, n + (((1 + (l[k].note.size : Int)) + l[k].deps.length) + (many l[k].l : Int))), hk1, by dsimp only; omega⟩ (by dsimp only; omega) (wk (is := []) (by repeat (first | exact subσ.nil _ | refine subσ.cons rfl ?_)) rfl (by repeat' (first | constructor | apply Sub.suf)))
 ·
  intro h9
  dsimp only at hk hn
  try simp only [decide_eq_true_eq, decide_eq_false_iff_not, Bool.not_eq_true', Bool.not_eq_false', Int.not_lt, Int.not_le, ge_iff_le, Bool.not_true, Bool.not_false] at h9
  obtain rfl : k = l.length := by omega
  refine cexit ?_
  refine xthen ?_
  refine xthen ?_
  refine xblock ?_
  refine nthen ?_
  refine cs ?_
  refine cr ?_
  refine ls (op (p_move rfl) rfl) ?_
  refine ls (op (p_asg rfl) rfl) ?_
  refine ln ?_
  refine nthen ?_
  refine cret ?_
  refine xret (fun _ _ h => h) ?_
  refine rret (is := []) () (Or.inl rfl) (Res.t rfl Res.d) ?_ rfl (by repeat' (first | constructor | apply Sub.suf))
  simp only [packV]; rw [hn]; unfold ppre pmany; rw [List.take_length]

set_option maxRecDepth 100000 in
theorem c_few7 (l : List Patch) (A : Option Addr) (c : Nat) (hl : l.length ≤ 2000000) (hf : ∀ x ∈ l, x.fit) (hM : pmany l ≤ 1000000000000) : Con Tryz.prog 9 [.slice A l.length c] [] [slA A l] Unit (fun _ => .bool (fewB l)) (fun _ => []) (fun _ => []) := by
 refine con Tryz.func9 rfl Tryz.ntmps9 rfl ?_
 intro M0 F0 w0
 refine cs ?_
 refine cr ?_
 refine ls (op (p_asg rfl) rfl) ?_
 refine ln ?_
 refine nthen ?_
 refine cs ?_
 refine cr ?_
 refine ls (op (p_asg rfl) rfl) ?_
 refine ln ?_
 refine nthen ?_
 refine cs ?_
 refine cs ?_
 refine cr ?_
 refine ls (op (p_move rfl) rfl) ?_
 refine ls (op (p_lenl rfl Tryz.underlying90) rfl) ?_
 refine ls (op (p_move rfl) rfl) ?_
 refine ln ?_
 refine nthen ?_
 refine cb ?_
 refine cl (ι := {q : Nat × Int // q.1 ≤ l.length ∧ q.2 = (pprt l q.1 : Nat)}) (fun i => St M0 F0 w0 30 [(0, .slice A l.length c), (6, .slice A l.length c), (7, .int .i64 (l.length : Int)), (8, .int .i64 (i.1.1 : Int)), (3, .int .i64 i.1.2)] [] [slA A l]) (fun i => l.length - i.1.1) ⟨(0, 0), by simp [pprt]⟩ (wk0 (by repeat (first | exact subσ.nil _ | refine subσ.cons rfl ?_)) (by repeat' (first | constructor | apply Sub.suf))) ?_
 rintro ⟨⟨k, n⟩, hk, hn⟩
 refine cmono (S' := St M0 F0 w0 30 [(0, .slice A l.length c), (6, .slice A l.length c), (7, .int .i64 (l.length : Int)), (8, .int .i64 (k : Int)), (3, .int .i64 n)] [] [slA A l]) (fun _ _ h => h) ?_
 refine cs ?_
 refine cr ?_
 refine ls (op (p_icmp rfl rfl rfl) rfl) ?_
 refine ln ?_
 refine nthen ?_
 refine cs ?_
 refine cc rfl ?_ ?_
 ·
  intro h9
  dsimp only at hk hn
  try simp only [decide_eq_true_eq, decide_eq_false_iff_not, Bool.not_eq_true', Bool.not_eq_false', Int.not_lt, Int.not_le, ge_iff_le, Bool.not_true, Bool.not_false] at h9
  have hk1 : k < l.length := by omega
  have hs := pprt_succ hk1
  have ht := pprt_le l (k + 1)
  refine cskip ?_
  refine nthen ?_
  refine cs ?_
  refine cb ?_
  refine cs ?_
  refine elC (by repeat' constructor) k (List.getElem?_eq_getElem (l := l) hk1) ?_; rintro zbp zop zyp hAp
  refine cr ?_
  refine ls (op (p_ia k hAp hk1 rfl Tryz.underlying90 Tryz.sizeOf25 rfl rfl) rfl) ?_
  refine ls (o_ldj Tryz.isAgg25 Tryz.sizeOf25 rfl (by repeat' constructor) 0 rfl (by repeat (first | exact Cut.d | apply Cut.t | apply Cut.s)) rfl) ?_
  refine ls (o_alloc Tryz.zeroValue25 rfl rfl) ?_
  refine le ?_; intro b5
  refine ls (o_st rfl Tryz.sizeOf25 rfl rfl rfl rfl rfl (by repeat' constructor) (by repeat' constructor) (by repeat' constructor)) ?_
  refine ln ?_
  refine nthen ?_
  refine cr ?_
  refine ls (op (p_move rfl) rfl) ?_
  refine ls (op (p_fa fa25_3 rfl) rfl) ?_
  refine ls (o_ld Tryz.isAgg23 rfl (by repeat' constructor) (by repeat' constructor) rfl) ?_
  refine ls (op (p_lenl rfl Tryz.underlying23) rfl) ?_
  refine ls (op (p_add rfl rfl (by omega)) rfl) ?_
  refine ls (op (p_asg rfl) rfl) ?_
  refine ln ?_
  refine nblock ?_
  refine nthen ?_
  refine cr ?_
  refine ls (op (p_add rfl rfl (by omega)) rfl) ?_
  refine ls (op (p_move rfl) rfl) ?_
  refine ln ?_
  refine nnext ⟨(k + 1, n + (l[k].l.length : Int)), hk1, by dsimp only; omega⟩ (by dsimp only; omega) (wk (is := []) (by repeat (first | exact subσ.nil _ | refine subσ.cons rfl ?_)) rfl (by repeat' (first | constructor | apply Sub.suf)))
 ·
  intro h9
  dsimp only at hk hn
  try simp only [decide_eq_true_eq, decide_eq_false_iff_not, Bool.not_eq_true', Bool.not_eq_false', Int.not_lt, Int.not_le, ge_iff_le, Bool.not_true, Bool.not_false] at h9
  obtain rfl : k = l.length := by omega
  refine cexit ?_
  refine xthen ?_
  refine xthen ?_
  refine xblock ?_
  refine nthen ?_
  refine cs ?_
  refine cr ?_
  refine ls (op (p_move rfl) rfl) ?_
  refine ls (op (p_lenl rfl Tryz.underlying90) rfl) ?_
  refine ls (op (p_icmp rfl rfl rfl) rfl) ?_
  refine ls (op (p_move rfl) rfl) ?_
  refine andX 3 21 24 rfl (subσ.cons (t := 0) rfl (subσ.cons (t := 6) rfl (subσ.cons (t := 7) rfl (subσ.cons (t := 8) rfl (subσ.cons (t := 3) rfl (subσ.cons (t := 9) rfl (subσ.nil _))))))) ?_ ?_
  ·
   intro h21
   refine lskip rfl rfl rfl rfl rfl ?_
   refine lskip rfl rfl rfl rfl rfl ?_
   refine ls (op (p_pickf rfl rfl) rfl) ?_
   refine ln (nmid (wk0 (by repeat (first | exact subσ.nil _ | refine subσ.cons rfl ?_)) (by repeat' (first | constructor | apply Sub.suf))))
  apply exI
  ·
   intro h21
   refine lwant rfl rfl rfl rfl (op (p_move rfl) rfl) ?_
   refine lwant rfl rfl rfl rfl (op (p_icmp rfl rfl rfl) rfl) ?_
   refine ls (op (p_pickt rfl rfl) rfl) ?_
   refine ln (nmid (wk0 (by repeat (first | exact subσ.nil _ | refine subσ.cons rfl ?_)) (by repeat' (first | constructor | apply Sub.suf))))
  ·
   refine ls (op (p_move rfl) rfl) ?_
   refine andX 4 25 29 rfl (subσ.cons (t := 0) rfl (subσ.cons (t := 6) rfl (subσ.cons (t := 7) rfl (subσ.cons (t := 8) rfl (subσ.cons (t := 3) rfl (subσ.cons (t := 9) rfl (subσ.nil _))))))) ?_ ?_
   ·
    intro h25
    refine lskip rfl rfl rfl rfl rfl ?_
    refine lskip rfl rfl rfl rfl rfl ?_
    refine lskip rfl rfl rfl rfl rfl ?_
    refine ls (op (p_pickf rfl rfl) rfl) ?_
    refine ln (nmid (wk0 (by repeat (first | exact subσ.nil _ | refine subσ.cons rfl ?_)) (by repeat' (first | constructor | apply Sub.suf))))
   apply exI
   ·
    intro h25
    refine lwant rfl rfl rfl rfl (op (p_move rfl) rfl) ?_
    refine lwant rfl rfl rfl rfl (o_call (is := []) Tryz.call56 (c_Many7 l A c hl hf hM) rfl rfl (by repeat' (first | constructor | apply Sub.suf)) rfl) ?_
    refine le ?_; intro x27
    refine lwant rfl rfl rfl rfl (op (p_icmp rfl rfl rfl) rfl) ?_
    refine ls (op (p_pickt rfl rfl) rfl) ?_
    refine ln (nmid (wk0 (by repeat (first | exact subσ.nil _ | refine subσ.cons rfl ?_)) (by repeat' (first | constructor | apply Sub.suf))))
   ·
    refine ls (op (p_asg rfl) rfl) ?_
    refine ln ?_
    refine nthen ?_
    refine cret ?_
    refine xret (fun _ _ h => h) ?_
    refine rret (is := []) () (Or.inl rfl) (Res.t rfl Res.d) ?_ rfl (by repeat' (first | constructor | apply Sub.suf))
    simp only [packV]; rw [hn]; unfold pprt; rw [List.take_length]; rfl

set_option maxRecDepth 100000 in
theorem c_alive7 : Con Tryz.prog 11 [] [] [] Unit (fun _ => .bool true) (fun _ => []) (fun _ => []) := by
 refine con Tryz.func11 rfl Tryz.ntmps11 rfl ?_
 intro M0 F0 w0
 refine cs ?_
 refine cr ?_
 refine ls (op (p_asg rfl) rfl) ?_
 refine ln ?_
 refine nthen ?_
 refine cs ?_
 refine cmono (fun a w h => nilSl (α := ByteArray) h) ?_
 refine cmono (fun a w h => nilSl (α := Int) h) ?_
 refine cr ?_
 refine ls (op (p_bld sb39 rfl (Fill.t (by repeat' constructor) rfl rfl (by repeat' constructor) (Fill.t (by repeat' constructor) rfl rfl (by repeat' constructor) Fill.d))) rfl) ?_
 refine ls (o_bsl [aA] Tryz.underlying29 Tryz.sizeOf39 Tryz.zeroValue39 rfl (Enum.t Enum.d) (RV.t ((none, 0), (none, 0)) rfl (by repeat' (first | constructor | apply Sub.suf)) RV.d) rfl (by decide) (by decide) rfl) ?_
 refine le ?_; intro b11
 refine lmono (fun a w h => freezeN (i := 0) rfl h) ?_
 refine ls (op (p_bld sb31 rfl (Fill.t (by repeat' constructor) rfl rfl (by repeat' constructor) (Fill.t (by repeat' constructor) rfl rfl (by repeat' constructor) Fill.d))) rfl) ?_
 refine ls (op (p_bld sb39 rfl (Fill.t (by repeat' constructor) rfl rfl (by repeat' constructor) (Fill.t (by repeat' constructor) rfl rfl (by repeat' constructor) Fill.d))) rfl) ?_
 refine ls (o_bsl [aB] Tryz.underlying29 Tryz.sizeOf39 Tryz.zeroValue39 rfl (Enum.t Enum.d) (RV.t ((none, 0), (none, 0)) rfl (by repeat' (first | constructor | apply Sub.suf)) RV.d) rfl (by decide) (by decide) rfl) ?_
 refine le ?_; intro b14
 refine lmono (fun a w h => freezeN (i := 0) rfl h) ?_
 refine ls (op (p_bld sb31 rfl (Fill.t (by repeat' constructor) rfl rfl (by repeat' constructor) (Fill.t (by repeat' constructor) rfl rfl (by repeat' constructor) (Fill.t (by repeat' constructor) rfl rfl (by repeat' constructor) Fill.d)))) rfl) ?_
 refine ls (o_bsl ([⟨#[120]⟩] : List ByteArray) Tryz.underlying37 Tryz.sizeOf9 Tryz.zeroValue9 rfl (Enum.t Enum.d) (RV.t () rfl Sub.d RV.d) rfl (by decide) (by decide) rfl) ?_
 refine le ?_; intro b16
 refine lmono (fun a w h => Go.Sx.freeze (i := 0) rfl h) ?_
 refine ls (op (p_bld sb39 rfl (Fill.t (by repeat' constructor) rfl rfl (by repeat' constructor) (Fill.t (by repeat' constructor) rfl rfl (by repeat' constructor) (Fill.t (by repeat' constructor) rfl rfl (by repeat' constructor) Fill.d)))) rfl) ?_
 refine ls (o_bsl [aH] Tryz.underlying29 Tryz.sizeOf39 Tryz.zeroValue39 rfl (Enum.t Enum.d) (RV.t ((none, 0), (some ⟨b16, 0, none⟩, 1)) rfl (by repeat' (first | constructor | apply Sub.suf)) RV.d) rfl (by decide) (by decide) rfl) ?_
 refine le ?_; intro b18
 refine lmono (fun a w h => freezeN (i := 0) rfl h) ?_
 refine ls (op (p_bld sb31 rfl (Fill.t (by repeat' constructor) rfl rfl (by repeat' constructor) (Fill.t (by repeat' constructor) rfl rfl (by repeat' constructor) Fill.d))) rfl) ?_
 refine ls (o_bsl [qA, qB, qC] Tryz.underlying36 Tryz.sizeOf31 Tryz.zeroValue31 rfl (Enum.t (Enum.t (Enum.t Enum.d))) (RV.t ((none, 0), (some ⟨b11, 0, none⟩, 1)) rfl (by repeat' (first | constructor | apply Sub.suf)) (RV.t ((none, 0), (some ⟨b14, 0, none⟩, 1)) rfl (by repeat' (first | constructor | apply Sub.suf)) (RV.t ((none, 0), (some ⟨b18, 0, none⟩, 1)) rfl (by repeat' (first | constructor | apply Sub.suf)) RV.d))) rfl (by decide) (by decide) rfl) ?_
 refine le ?_; intro b20
 refine lmono (fun a w h => Go.Sx.freeze (i := 0) rfl h) ?_
 refine ls (op (p_asg rfl) rfl) ?_
 refine ln ?_
 refine nthen ?_
 refine cs ?_
 refine cr ?_
 refine ls (op (p_move rfl) rfl) ?_
 refine ls (o_call (is := []) Tryz.call55 (c_nGroup [qA, qB, qC] (some ⟨b20, 0, none⟩) 3 (by decide) fit3) rfl rfl (by repeat' (first | constructor | apply Sub.suf)) rfl) ?_
 refine le ?_; rintro ⟨⟨⟨g, r⟩, ⟨⟨Ag, cg⟩, ⟨Ax, cx⟩⟩⟩, hg⟩
 obtain ⟨rfl, rfl⟩ := ptwo_eq (hg.trans al1)
 refine ls (op (p_move rfl) rfl) ?_
 refine ls (op (p_ext rfl (by repeat' constructor)) rfl) ?_
 refine ls (op (p_ext rfl (by repeat' constructor)) rfl) ?_
 refine ls (op (p_asg rfl) rfl) ?_
 refine ls (op (p_asg rfl) rfl) ?_
 refine ln ?_
 refine nthen ?_
 refine cs ?_
 refine elC (by repeat' constructor) 0 ((show ([qA, qB, qC] : List Patch)[0]? = some qA from rfl)) ?_; rintro zbp zop zyp hAp
 refine elC (by repeat' constructor) 1 ((show ([qA, qB, qC] : List Patch)[1]? = some qB from rfl)) ?_; rintro zbq zoq zyq hAq
 refine cutC (S' := fun a w => ∃ (b4 : Nat) (b5 : Nat) (z1 : Rp.Lay Patch) (z2 : Rp.Lay Patch), St M0 F0 w0 127 [(1, .slice (some ⟨b20, 0, none⟩) 3 3), (2, .slice Ag 2 cg), (3, .slice Ax 1 cx), (4, .pointer (some ⟨b4, 0, none⟩)), (5, .pointer (some ⟨b5, 0, none⟩)), (6, .bool true)] [box b4 31 (Rp.enc qB z1), box b5 31 (Rp.enc qA z2)] [slA z1.1.1 qB.deps, slA z1.2.1 qB.l, capA z1.2.2 qB.l.length, slA z2.1.1 qA.deps, slA z2.2.1 qA.l, capA z2.2.2 qA.l.length, slA Ag [qA, qC], slA Ax [qB], slA (some ⟨b20, 0, none⟩) [qA, qB, qC], slA none ([] : List Int), slA none ([] : List ByteArray)] a w) ?_ ?_
 ·
  refine cdB [6, 11, 12, 13, 14] [(2, zbp, zop + 0 * Rp.size Patch, _), (5, zbq, zoq + 1 * Rp.size Patch, _)] TryzX.mixed (by kernel_rfl) (by kernel_rfl) (TOk.t (isInS (by repeat' constructor) (k := 0) rfl (z := 4) (by repeat (first | exact Cut.d | apply Cut.t | apply Cut.s))) (TOk.t (isInS (by repeat' constructor) (k := 0) rfl (z := 4) (by repeat (first | exact Cut.d | apply Cut.t | apply Cut.s))) TOk.d)) ?_
  refine tkB 0 rfl (by kernel_rfl) (fun _ _ _ h => h) gnone (TTany _) (p_move rfl) rfl ?_
  refine tkB 1 rfl (by kernel_rfl) (fun _ _ _ h => h) gnone (TTany _) (p_ia 0 hAp (by decide) rfl Tryz.underlying36 Tryz.sizeOf31 rfl rfl) rfl ?_
  refine tkB 2 rfl (by kernel_rfl) (fun _ _ _ h => h) gnone (TTat (List.Mem.head _)) (p_lda Tryz.isAgg31 Tryz.sizeOf31 rfl rfl) rfl ?_
  refine tkB 3 rfl (by kernel_rfl) (fun _ _ _ h => h) gnone (TTany _) (p_move rfl) rfl ?_
  refine tkB 4 rfl (by kernel_rfl) (fun _ _ _ h => h) gnone (TTany _) (p_ia 1 hAq (by decide) rfl Tryz.underlying36 Tryz.sizeOf31 rfl rfl) rfl ?_
  refine tkB 5 rfl (by kernel_rfl) (fun _ _ _ h => h) gnone (TTat (List.Mem.tail _ (List.Mem.head _))) (p_lda Tryz.isAgg31 Tryz.sizeOf31 rfl rfl) rfl ?_
  refine dallB (is := [6, 11, 12]) (by kernel_rfl) rfl ?_
  intro i hi; simp only [List.mem_cons, List.mem_nil_iff, or_false] at hi; rcases hi with rfl | rfl | rfl
  ·
   refine doRB rfl (o_call (is := []) Tryz.call14 (c_nSwap qA qB zyp zyq fitqA fitqB) rfl rfl (by repeat' (first | constructor | apply Sub.suf)) rfl) (TOk.xP 6 [] (by kernel_rfl) (TOk.xP 6 [] (by kernel_rfl) TOk.d)) ?_
   refine eaB ?_; rintro ⟨⟨⟨r1, r2, r3⟩, z1, z2⟩, hr⟩
   obtain ⟨rfl, rfl, rfl⟩ := pthree (hr.trans al2)
   refine tkB 7 rfl (by kernel_rfl) (fun _ _ _ h => h) gnone (TTany _) (p_move rfl) rfl ?_
   refine tkB 8 rfl (by kernel_rfl) (fun _ _ _ h => h) gnone (TTany _) (p_ext rfl (by repeat' constructor)) rfl ?_
   refine tkB 9 rfl (by kernel_rfl) (fun _ _ _ h => h) gnone (TTany _) (p_ext rfl (by repeat' constructor)) rfl ?_
   refine tkB 10 rfl (by kernel_rfl) (fun _ _ _ h => h) gnone (TTany _) (p_ext rfl (by repeat' constructor)) rfl ?_
   refine dallB (is := [11, 12]) (by kernel_rfl) rfl ?_
   intro i hi; simp only [List.mem_cons, List.mem_nil_iff, or_false] at hi; rcases hi with rfl | rfl
   ·
    refine doRB rfl (o_alloc Tryz.zeroValue31 rfl rfl) (TOk.xP 6 [] (by kernel_rfl) (TOk.xP 6 [] (by kernel_rfl) TOk.d)) ?_
    refine eaB ?_; intro b4
    refine dfB 12 (by kernel_rfl) ?_
    refine doRB rfl (o_alloc Tryz.zeroValue31 rfl rfl) (TOk.xP 6 [] (by kernel_rfl) (TOk.xP 6 [] (by kernel_rfl) TOk.d)) ?_
    refine eaB ?_; intro b5
    refine dfB 13 (by kernel_rfl) ?_
    refine doRB rfl (o_st rfl Tryz.sizeOf31 rfl rfl rfl rfl rfl (by repeat' constructor) (by repeat' constructor) (by repeat' constructor)) (TOk.xP 6 [] (by kernel_rfl) (TOk.xP 6 [] (by kernel_rfl) TOk.d)) ?_
    refine dfB 14 (by kernel_rfl) ?_
    refine doRB rfl (o_st rfl Tryz.sizeOf31 rfl rfl rfl rfl rfl (by repeat' constructor) (by repeat' constructor) (by repeat' constructor)) (TOk.xP 6 [] (by kernel_rfl) (TOk.xP 6 [] (by kernel_rfl) TOk.d)) ?_
    refine tkB 15 rfl (by kernel_rfl) (fun _ _ _ h => h) gnone (TTany _) (p_asg rfl) rfl ?_
    refine dnB (by kernel_rfl) (nmid (fun a w h => by first | exact ⟨b4, b5, z1, z2, wk (is := [1, 0]) (by repeat (first | exact subσ.nil _ | refine subσ.cons rfl ?_)) rfl (by repeat' (first | constructor | apply Sub.suf)) a w h⟩ | exact ⟨b4, b5, z1, z2, wk (is := [0, 0]) (by repeat (first | exact subσ.nil _ | refine subσ.cons rfl ?_)) rfl (by repeat' (first | constructor | apply Sub.suf)) a w h⟩))
   ·
    refine doRB rfl (o_alloc Tryz.zeroValue31 rfl rfl) (TOk.xP 6 [] (by kernel_rfl) (TOk.xP 6 [] (by kernel_rfl) TOk.d)) ?_
    refine eaB ?_; intro b5
    refine dfB 11 (by kernel_rfl) ?_
    refine doRB rfl (o_alloc Tryz.zeroValue31 rfl rfl) (TOk.xP 6 [] (by kernel_rfl) (TOk.xP 6 [] (by kernel_rfl) TOk.d)) ?_
    refine eaB ?_; intro b4
    refine dfB 13 (by kernel_rfl) ?_
    refine doRB rfl (o_st rfl Tryz.sizeOf31 rfl rfl rfl rfl rfl (by repeat' constructor) (by repeat' constructor) (by repeat' constructor)) (TOk.xP 6 [] (by kernel_rfl) (TOk.xP 6 [] (by kernel_rfl) TOk.d)) ?_
    refine dfB 14 (by kernel_rfl) ?_
    refine doRB rfl (o_st rfl Tryz.sizeOf31 rfl rfl rfl rfl rfl (by repeat' constructor) (by repeat' constructor) (by repeat' constructor)) (TOk.xP 6 [] (by kernel_rfl) (TOk.xP 6 [] (by kernel_rfl) TOk.d)) ?_
    refine tkB 15 rfl (by kernel_rfl) (fun _ _ _ h => h) gnone (TTany _) (p_asg rfl) rfl ?_
    refine dnB (by kernel_rfl) (nmid (fun a w h => by first | exact ⟨b4, b5, z1, z2, wk (is := [1, 0]) (by repeat (first | exact subσ.nil _ | refine subσ.cons rfl ?_)) rfl (by repeat' (first | constructor | apply Sub.suf)) a w h⟩ | exact ⟨b4, b5, z1, z2, wk (is := [0, 0]) (by repeat (first | exact subσ.nil _ | refine subσ.cons rfl ?_)) rfl (by repeat' (first | constructor | apply Sub.suf)) a w h⟩))
  ·
   refine doRB rfl (o_alloc Tryz.zeroValue31 rfl rfl) (TOk.t (isBoxE fun _ => isInS (by repeat' constructor) (k := 0) rfl (z := 4) (by repeat (first | exact Cut.d | apply Cut.t | apply Cut.s))) (TOk.t (isBoxE fun _ => isInS (by repeat' constructor) (k := 0) rfl (z := 4) (by repeat (first | exact Cut.d | apply Cut.t | apply Cut.s))) TOk.d)) ?_
   refine eaB ?_; intro b4
   refine dallB (is := [6, 12]) (by kernel_rfl) rfl ?_
   intro i hi; simp only [List.mem_cons, List.mem_nil_iff, or_false] at hi; rcases hi with rfl | rfl
   ·
    refine doRB rfl (o_call (is := []) Tryz.call14 (c_nSwap qA qB zyp zyq fitqA fitqB) rfl rfl (by repeat' (first | constructor | apply Sub.suf)) rfl) (TOk.xP 6 [] (by kernel_rfl) (TOk.xP 6 [] (by kernel_rfl) TOk.d)) ?_
    refine eaB ?_; rintro ⟨⟨⟨r1, r2, r3⟩, z1, z2⟩, hr⟩
    obtain ⟨rfl, rfl, rfl⟩ := pthree (hr.trans al2)
    refine tkB 7 rfl (by kernel_rfl) (fun _ _ _ h => h) gnone (TTany _) (p_move rfl) rfl ?_
    refine tkB 8 rfl (by kernel_rfl) (fun _ _ _ h => h) gnone (TTany _) (p_ext rfl (by repeat' constructor)) rfl ?_
    refine tkB 9 rfl (by kernel_rfl) (fun _ _ _ h => h) gnone (TTany _) (p_ext rfl (by repeat' constructor)) rfl ?_
    refine tkB 10 rfl (by kernel_rfl) (fun _ _ _ h => h) gnone (TTany _) (p_ext rfl (by repeat' constructor)) rfl ?_
    refine dfB 12 (by kernel_rfl) ?_
    refine doRB rfl (o_alloc Tryz.zeroValue31 rfl rfl) (TOk.xP 6 [] (by kernel_rfl) (TOk.xP 6 [] (by kernel_rfl) TOk.d)) ?_
    refine eaB ?_; intro b5
    refine dfB 13 (by kernel_rfl) ?_
    refine doRB rfl (o_st rfl Tryz.sizeOf31 rfl rfl rfl rfl rfl (by repeat' constructor) (by repeat' constructor) (by repeat' constructor)) (TOk.xP 6 [] (by kernel_rfl) (TOk.xP 6 [] (by kernel_rfl) TOk.d)) ?_
    refine dfB 14 (by kernel_rfl) ?_
    refine doRB rfl (o_st rfl Tryz.sizeOf31 rfl rfl rfl rfl rfl (by repeat' constructor) (by repeat' constructor) (by repeat' constructor)) (TOk.xP 6 [] (by kernel_rfl) (TOk.xP 6 [] (by kernel_rfl) TOk.d)) ?_
    refine tkB 15 rfl (by kernel_rfl) (fun _ _ _ h => h) gnone (TTany _) (p_asg rfl) rfl ?_
    refine dnB (by kernel_rfl) (nmid (fun a w h => by first | exact ⟨b4, b5, z1, z2, wk (is := [1, 0]) (by repeat (first | exact subσ.nil _ | refine subσ.cons rfl ?_)) rfl (by repeat' (first | constructor | apply Sub.suf)) a w h⟩ | exact ⟨b4, b5, z1, z2, wk (is := [0, 0]) (by repeat (first | exact subσ.nil _ | refine subσ.cons rfl ?_)) rfl (by repeat' (first | constructor | apply Sub.suf)) a w h⟩))
   ·
    refine doRB rfl (o_alloc Tryz.zeroValue31 rfl rfl) (TOk.t (isBoxE fun _ => isInS (by repeat' constructor) (k := 0) rfl (z := 4) (by repeat (first | exact Cut.d | apply Cut.t | apply Cut.s))) (TOk.t (isBoxE fun _ => isInS (by repeat' constructor) (k := 0) rfl (z := 4) (by repeat (first | exact Cut.d | apply Cut.t | apply Cut.s))) TOk.d)) ?_
    refine eaB ?_; intro b5
    refine dfB 6 (by kernel_rfl) ?_
    refine doRB rfl (o_call (is := []) Tryz.call14 (c_nSwap qA qB zyp zyq fitqA fitqB) rfl rfl (by repeat' (first | constructor | apply Sub.suf)) rfl) (TOk.xP 6 [] (by kernel_rfl) (TOk.xP 6 [] (by kernel_rfl) TOk.d)) ?_
    refine eaB ?_; rintro ⟨⟨⟨r1, r2, r3⟩, z1, z2⟩, hr⟩
    obtain ⟨rfl, rfl, rfl⟩ := pthree (hr.trans al2)
    refine tkB 7 rfl (by kernel_rfl) (fun _ _ _ h => h) gnone (TTany _) (p_move rfl) rfl ?_
    refine tkB 8 rfl (by kernel_rfl) (fun _ _ _ h => h) gnone (TTany _) (p_ext rfl (by repeat' constructor)) rfl ?_
    refine tkB 9 rfl (by kernel_rfl) (fun _ _ _ h => h) gnone (TTany _) (p_ext rfl (by repeat' constructor)) rfl ?_
    refine tkB 10 rfl (by kernel_rfl) (fun _ _ _ h => h) gnone (TTany _) (p_ext rfl (by repeat' constructor)) rfl ?_
    refine dfB 13 (by kernel_rfl) ?_
    refine doRB rfl (o_st rfl Tryz.sizeOf31 rfl rfl rfl rfl rfl (by repeat' constructor) (by repeat' constructor) (by repeat' constructor)) (TOk.xP 6 [] (by kernel_rfl) (TOk.xP 6 [] (by kernel_rfl) TOk.d)) ?_
    refine dfB 14 (by kernel_rfl) ?_
    refine doRB rfl (o_st rfl Tryz.sizeOf31 rfl rfl rfl rfl rfl (by repeat' constructor) (by repeat' constructor) (by repeat' constructor)) (TOk.xP 6 [] (by kernel_rfl) (TOk.xP 6 [] (by kernel_rfl) TOk.d)) ?_
    refine tkB 15 rfl (by kernel_rfl) (fun _ _ _ h => h) gnone (TTany _) (p_asg rfl) rfl ?_
    refine dnB (by kernel_rfl) (nmid (fun a w h => by first | exact ⟨b4, b5, z1, z2, wk (is := [1, 0]) (by repeat (first | exact subσ.nil _ | refine subσ.cons rfl ?_)) rfl (by repeat' (first | constructor | apply Sub.suf)) a w h⟩ | exact ⟨b4, b5, z1, z2, wk (is := [0, 0]) (by repeat (first | exact subσ.nil _ | refine subσ.cons rfl ?_)) rfl (by repeat' (first | constructor | apply Sub.suf)) a w h⟩))
  ·
   refine doRB rfl (o_alloc Tryz.zeroValue31 rfl rfl) (TOk.t (isBoxE fun _ => isInS (by repeat' constructor) (k := 0) rfl (z := 4) (by repeat (first | exact Cut.d | apply Cut.t | apply Cut.s))) (TOk.t (isBoxE fun _ => isInS (by repeat' constructor) (k := 0) rfl (z := 4) (by repeat (first | exact Cut.d | apply Cut.t | apply Cut.s))) TOk.d)) ?_
   refine eaB ?_; intro b5
   refine dallB (is := [6, 11]) (by kernel_rfl) rfl ?_
   intro i hi; simp only [List.mem_cons, List.mem_nil_iff, or_false] at hi; rcases hi with rfl | rfl
   ·
    refine doRB rfl (o_call (is := []) Tryz.call14 (c_nSwap qA qB zyp zyq fitqA fitqB) rfl rfl (by repeat' (first | constructor | apply Sub.suf)) rfl) (TOk.xP 6 [] (by kernel_rfl) (TOk.xP 6 [] (by kernel_rfl) TOk.d)) ?_
    refine eaB ?_; rintro ⟨⟨⟨r1, r2, r3⟩, z1, z2⟩, hr⟩
    obtain ⟨rfl, rfl, rfl⟩ := pthree (hr.trans al2)
    refine tkB 7 rfl (by kernel_rfl) (fun _ _ _ h => h) gnone (TTany _) (p_move rfl) rfl ?_
    refine tkB 8 rfl (by kernel_rfl) (fun _ _ _ h => h) gnone (TTany _) (p_ext rfl (by repeat' constructor)) rfl ?_
    refine tkB 9 rfl (by kernel_rfl) (fun _ _ _ h => h) gnone (TTany _) (p_ext rfl (by repeat' constructor)) rfl ?_
    refine tkB 10 rfl (by kernel_rfl) (fun _ _ _ h => h) gnone (TTany _) (p_ext rfl (by repeat' constructor)) rfl ?_
    refine dfB 11 (by kernel_rfl) ?_
    refine doRB rfl (o_alloc Tryz.zeroValue31 rfl rfl) (TOk.xP 6 [] (by kernel_rfl) (TOk.xP 6 [] (by kernel_rfl) TOk.d)) ?_
    refine eaB ?_; intro b4
    refine dfB 13 (by kernel_rfl) ?_
    refine doRB rfl (o_st rfl Tryz.sizeOf31 rfl rfl rfl rfl rfl (by repeat' constructor) (by repeat' constructor) (by repeat' constructor)) (TOk.xP 6 [] (by kernel_rfl) (TOk.xP 6 [] (by kernel_rfl) TOk.d)) ?_
    refine dfB 14 (by kernel_rfl) ?_
    refine doRB rfl (o_st rfl Tryz.sizeOf31 rfl rfl rfl rfl rfl (by repeat' constructor) (by repeat' constructor) (by repeat' constructor)) (TOk.xP 6 [] (by kernel_rfl) (TOk.xP 6 [] (by kernel_rfl) TOk.d)) ?_
    refine tkB 15 rfl (by kernel_rfl) (fun _ _ _ h => h) gnone (TTany _) (p_asg rfl) rfl ?_
    refine dnB (by kernel_rfl) (nmid (fun a w h => by first | exact ⟨b4, b5, z1, z2, wk (is := [1, 0]) (by repeat (first | exact subσ.nil _ | refine subσ.cons rfl ?_)) rfl (by repeat' (first | constructor | apply Sub.suf)) a w h⟩ | exact ⟨b4, b5, z1, z2, wk (is := [0, 0]) (by repeat (first | exact subσ.nil _ | refine subσ.cons rfl ?_)) rfl (by repeat' (first | constructor | apply Sub.suf)) a w h⟩))
   ·
    refine doRB rfl (o_alloc Tryz.zeroValue31 rfl rfl) (TOk.t (isBoxE fun _ => isInS (by repeat' constructor) (k := 0) rfl (z := 4) (by repeat (first | exact Cut.d | apply Cut.t | apply Cut.s))) (TOk.t (isBoxE fun _ => isInS (by repeat' constructor) (k := 0) rfl (z := 4) (by repeat (first | exact Cut.d | apply Cut.t | apply Cut.s))) TOk.d)) ?_
    refine eaB ?_; intro b4
    refine dfB 6 (by kernel_rfl) ?_
    refine doRB rfl (o_call (is := []) Tryz.call14 (c_nSwap qA qB zyp zyq fitqA fitqB) rfl rfl (by repeat' (first | constructor | apply Sub.suf)) rfl) (TOk.xP 6 [] (by kernel_rfl) (TOk.xP 6 [] (by kernel_rfl) TOk.d)) ?_
    refine eaB ?_; rintro ⟨⟨⟨r1, r2, r3⟩, z1, z2⟩, hr⟩
    obtain ⟨rfl, rfl, rfl⟩ := pthree (hr.trans al2)
    refine tkB 7 rfl (by kernel_rfl) (fun _ _ _ h => h) gnone (TTany _) (p_move rfl) rfl ?_
    refine tkB 8 rfl (by kernel_rfl) (fun _ _ _ h => h) gnone (TTany _) (p_ext rfl (by repeat' constructor)) rfl ?_
    refine tkB 9 rfl (by kernel_rfl) (fun _ _ _ h => h) gnone (TTany _) (p_ext rfl (by repeat' constructor)) rfl ?_
    refine tkB 10 rfl (by kernel_rfl) (fun _ _ _ h => h) gnone (TTany _) (p_ext rfl (by repeat' constructor)) rfl ?_
    refine dfB 13 (by kernel_rfl) ?_
    refine doRB rfl (o_st rfl Tryz.sizeOf31 rfl rfl rfl rfl rfl (by repeat' constructor) (by repeat' constructor) (by repeat' constructor)) (TOk.xP 6 [] (by kernel_rfl) (TOk.xP 6 [] (by kernel_rfl) TOk.d)) ?_
    refine dfB 14 (by kernel_rfl) ?_
    refine doRB rfl (o_st rfl Tryz.sizeOf31 rfl rfl rfl rfl rfl (by repeat' constructor) (by repeat' constructor) (by repeat' constructor)) (TOk.xP 6 [] (by kernel_rfl) (TOk.xP 6 [] (by kernel_rfl) TOk.d)) ?_
    refine tkB 15 rfl (by kernel_rfl) (fun _ _ _ h => h) gnone (TTany _) (p_asg rfl) rfl ?_
    refine dnB (by kernel_rfl) (nmid (fun a w h => by first | exact ⟨b4, b5, z1, z2, wk (is := [1, 0]) (by repeat (first | exact subσ.nil _ | refine subσ.cons rfl ?_)) rfl (by repeat' (first | constructor | apply Sub.suf)) a w h⟩ | exact ⟨b4, b5, z1, z2, wk (is := [0, 0]) (by repeat (first | exact subσ.nil _ | refine subσ.cons rfl ?_)) rfl (by repeat' (first | constructor | apply Sub.suf)) a w h⟩))
 ·
  refine nex fun b4 => nex fun b5 => nex fun z1 => nex fun z2 => ?_
  refine nthen ?_
  refine cs ?_
  refine cmono (fun a w h => subS (l := [qA, qB, qC]) (l' := [qA, qB]) (c := 3) 0 2 (by repeat (first | exact In.z | apply In.s)) (by decide) (by decide) (by decide) rfl h) ?_
  refine cr ?_
  refine ls (op (p_move rfl) rfl) ?_
  refine ls (op (p_slh 2 (by decide) rfl Tryz.underlying36 Tryz.sizeOf31 rfl rfl) rfl) ?_
  refine ls (op (p_bld sb39 rfl (Fill.t (by repeat' constructor) rfl rfl (by repeat' constructor) (Fill.t (by repeat' constructor) rfl rfl (by repeat' constructor) Fill.d))) rfl) ?_
  refine ls (o_bsl [aC] Tryz.underlying29 Tryz.sizeOf39 Tryz.zeroValue39 rfl (Enum.t Enum.d) (RV.t ((none, 0), (none, 0)) rfl (by repeat' (first | constructor | apply Sub.suf)) RV.d) rfl (by decide) (by decide) rfl) ?_
  refine le ?_; intro b41
  refine lmono (fun a w h => freezeN (i := 0) rfl h) ?_
  refine ls (op (p_bld sb31 rfl (Fill.t (by repeat' constructor) rfl rfl (by repeat' constructor) (Fill.t (by repeat' constructor) rfl rfl (by repeat' constructor) Fill.d))) rfl) ?_
  refine ls (o_call (is := []) Tryz.call59 (c_nPastD [qA, qB] _ _ (by decide) fit2 qD ((none, 0), (some ⟨b41, 0, none⟩, 1)) fitqD) rfl rfl (by repeat' (first | constructor | apply Sub.suf)) rfl) ?_
  refine le ?_; rintro ⟨⟨⟨q1, rest1, b3⟩, ⟨yq1, ⟨A1, c1⟩⟩⟩, hr⟩
  obtain ⟨rfl, rfl, rfl⟩ := pthr2 (hr.trans al3)
  refine ls (op (p_move rfl) rfl) ?_
  refine ls (op (p_ext rfl (by repeat' constructor)) rfl) ?_
  refine ls (op (p_ext rfl (by repeat' constructor)) rfl) ?_
  refine ls (op (p_ext rfl (by repeat' constructor)) rfl) ?_
  refine ls (o_alloc Tryz.zeroValue31 rfl rfl) ?_
  refine le ?_; intro b7
  refine ls (o_st rfl Tryz.sizeOf31 rfl rfl rfl rfl rfl (by repeat' constructor) (by repeat' constructor) (by repeat' constructor)) ?_
  refine ls (op (p_asg rfl) rfl) ?_
  refine ls (op (p_asg rfl) rfl) ?_
  refine ln ?_
  refine nthen ?_
  refine cs ?_
  refine cmono (fun a w h => nilC (α := Prim) h) ?_
  refine cmono (fun a w h => nilSl (α := Int) h) ?_
  refine elC (by repeat' constructor) 0 ((show ([qA, qC] : List Patch)[0]? = some qA from rfl)) ?_; rintro zbp zop zyp hAp
  refine elC (by repeat' constructor) 1 ((show ([qA, qC] : List Patch)[1]? = some qC from rfl)) ?_; rintro zbq zoq zyq hAq
  refine elC (by repeat' constructor) 0 ((show ([qB] : List Patch)[0]? = some qB from rfl)) ?_; rintro zbs zos zys hAs
  refine elC (by repeat' constructor) 0 ((show ([qA, qB, qC] : List Patch)[0]? = some qA from rfl)) ?_; rintro zbt zot zyt hAt
  refine elC (by repeat' constructor) 1 ((show ([qA, qB, qC] : List Patch)[1]? = some qB from rfl)) ?_; rintro zbu zou zyu hAu
  refine elC (by repeat' constructor) 2 ((show ([qA, qB, qC] : List Patch)[2]? = some qC from rfl)) ?_; rintro zbv zov zyv hAv
  refine cdB [37, 44, 45, 67, 73, 77] [(7, zbp, zop + 0 * Rp.size Patch, _), (14, zbq, zoq + 1 * Rp.size Patch, _), (26, zbs, zos + 0 * Rp.size Patch, _), (33, b4, 0, _), (36, zbu, zou + 1 * Rp.size Patch, _), (40, b5, 0, _), (43, zbt, zot + 0 * Rp.size Patch, _), (52, b7, 0, _), (63, zbt, zot + 0 * Rp.size Patch, _), (66, zbv, zov + 2 * Rp.size Patch, _), (72, zbt, zot + 0 * Rp.size Patch, _)] TryzX.mixed (by kernel_rfl) (by kernel_rfl) (TOk.t (isInS (by repeat' constructor) (k := 0) rfl (z := 1) (by repeat (first | exact Cut.d | apply Cut.t | apply Cut.s))) (TOk.t (isInS (by repeat' constructor) (k := 0) rfl (z := 1) (by repeat (first | exact Cut.d | apply Cut.t | apply Cut.s))) (TOk.t (isInS (by repeat' constructor) (k := 0) rfl (z := 1) (by repeat (first | exact Cut.d | apply Cut.t | apply Cut.s))) (TOk.t (isBoxS (by repeat' constructor) (k := 4) (by repeat (first | exact Cut.d | apply Cut.t | apply Cut.s))) (TOk.t (isInS (by repeat' constructor) (k := 0) rfl (z := 4) (by repeat (first | exact Cut.d | apply Cut.t | apply Cut.s))) (TOk.t (isBoxS (by repeat' constructor) (k := 4) (by repeat (first | exact Cut.d | apply Cut.t | apply Cut.s))) (TOk.t (isInS (by repeat' constructor) (k := 0) rfl (z := 4) (by repeat (first | exact Cut.d | apply Cut.t | apply Cut.s))) (TOk.t (isBoxS (by repeat' constructor) (k := 1) (by repeat (first | exact Cut.d | apply Cut.t | apply Cut.s))) (TOk.t (isInS (by repeat' constructor) (k := 0) rfl (z := 4) (by repeat (first | exact Cut.d | apply Cut.t | apply Cut.s))) (TOk.t (isInS (by repeat' constructor) (k := 0) rfl (z := 4) (by repeat (first | exact Cut.d | apply Cut.t | apply Cut.s))) (TOk.t (isInS (by repeat' constructor) (k := 0) rfl (z := 4) (by repeat (first | exact Cut.d | apply Cut.t | apply Cut.s))) TOk.d))))))))))) ?_
  refine tkB 0 rfl (by kernel_rfl) (fun _ _ _ h => h) gnone (TTany _) (p_move rfl) rfl ?_
  refine tkB 1 rfl (by kernel_rfl) (fun _ _ _ h => h) gnone (TTany _) (p_lenl rfl Tryz.underlying36) rfl ?_
  refine tkB 2 rfl (by kernel_rfl) (fun _ _ _ h => h) gnone (TTany _) (p_icmp rfl rfl rfl) rfl ?_
  refine tkB 3 rfl (by kernel_rfl) (fun _ _ _ h => h) gnone (TTany _) (p_move rfl) rfl ?_
  refine tkB 4 rfl (by kernel_rfl) (fun _ _ _ h => h) (gyes rfl rfl rfl rfl) (TTany _) (p_move rfl) rfl ?_
  refine tkB 5 rfl (by kernel_rfl) (fun _ _ _ h => h) (gyes rfl rfl rfl rfl) (TTany _) (p_ia 0 hAp (by decide) rfl Tryz.underlying36 Tryz.sizeOf31 rfl rfl) rfl ?_
  refine tkB 6 rfl (by kernel_rfl) (fun _ _ _ h => h) (gyes rfl rfl rfl rfl) (TTany _) (p_fa fa31_0 rfl) rfl ?_
  refine tkB 7 rfl (by kernel_rfl) (fun _ _ _ h => h) (gyes rfl rfl rfl rfl) (TTat (List.Mem.head _)) (p_ld Tryz.isAgg3 rfl) rfl ?_
  refine tkB 8 rfl (by kernel_rfl) (fun _ _ _ h => h) (gyes rfl rfl rfl rfl) (TTany _) (p_icmp rfl rfl rfl) rfl ?_
  refine tkB 9 rfl (by kernel_rfl) (fun _ _ _ h => h) gnone (TTany _) (p_pickt rfl rfl) rfl ?_
  refine tkB 10 rfl (by kernel_rfl) (fun _ _ _ h => h) gnone (TTany _) (p_move rfl) rfl ?_
  refine tkB 11 rfl (by kernel_rfl) (fun _ _ _ h => h) (gyes rfl rfl rfl rfl) (TTany _) (p_move rfl) rfl ?_
  refine tkB 12 rfl (by kernel_rfl) (fun _ _ _ h => h) (gyes rfl rfl rfl rfl) (TTany _) (p_ia 1 hAq (by decide) rfl Tryz.underlying36 Tryz.sizeOf31 rfl rfl) rfl ?_
  refine tkB 13 rfl (by kernel_rfl) (fun _ _ _ h => h) (gyes rfl rfl rfl rfl) (TTany _) (p_fa fa31_0 rfl) rfl ?_
  refine tkB 14 rfl (by kernel_rfl) (fun _ _ _ h => h) (gyes rfl rfl rfl rfl) (TTat (List.Mem.tail _ (List.Mem.head _))) (p_ld Tryz.isAgg3 rfl) rfl ?_
  refine tkB 15 rfl (by kernel_rfl) (fun _ _ _ h => h) (gyes rfl rfl rfl rfl) (TTany _) (p_icmp rfl rfl rfl) rfl ?_
  refine tkB 16 rfl (by kernel_rfl) (fun _ _ _ h => h) gnone (TTany _) (p_pickt rfl rfl) rfl ?_
  refine tkB 17 rfl (by kernel_rfl) (fun _ _ _ h => h) gnone (TTany _) (p_move rfl) rfl ?_
  refine tkB 18 rfl (by kernel_rfl) (fun _ _ _ h => h) (gyes rfl rfl rfl rfl) (TTany _) (p_move rfl) rfl ?_
  refine tkB 19 rfl (by kernel_rfl) (fun _ _ _ h => h) (gyes rfl rfl rfl rfl) (TTany _) (p_lenl rfl Tryz.underlying36) rfl ?_
  refine tkB 20 rfl (by kernel_rfl) (fun _ _ _ h => h) (gyes rfl rfl rfl rfl) (TTany _) (p_icmp rfl rfl rfl) rfl ?_
  refine tkB 21 rfl (by kernel_rfl) (fun _ _ _ h => h) gnone (TTany _) (p_pickt rfl rfl) rfl ?_
  refine tkB 22 rfl (by kernel_rfl) (fun _ _ _ h => h) gnone (TTany _) (p_move rfl) rfl ?_
  refine tkB 23 rfl (by kernel_rfl) (fun _ _ _ h => h) (gyes rfl rfl rfl rfl) (TTany _) (p_move rfl) rfl ?_
  refine tkB 24 rfl (by kernel_rfl) (fun _ _ _ h => h) (gyes rfl rfl rfl rfl) (TTany _) (p_ia 0 hAs (by decide) rfl Tryz.underlying36 Tryz.sizeOf31 rfl rfl) rfl ?_
  refine tkB 25 rfl (by kernel_rfl) (fun _ _ _ h => h) (gyes rfl rfl rfl rfl) (TTany _) (p_fa fa31_0 rfl) rfl ?_
  refine tkB 26 rfl (by kernel_rfl) (fun _ _ _ h => h) (gyes rfl rfl rfl rfl) (TTat (List.Mem.tail _ (List.Mem.tail _ (List.Mem.head _)))) (p_ld Tryz.isAgg3 rfl) rfl ?_
  refine tkB 27 rfl (by kernel_rfl) (fun _ _ _ h => h) (gyes rfl rfl rfl rfl) (TTany _) (p_icmp rfl rfl rfl) rfl ?_
  refine tkB 28 rfl (by kernel_rfl) (fun _ _ _ h => h) gnone (TTany _) (p_pickt rfl rfl) rfl ?_
  refine tkB 29 rfl (by kernel_rfl) (fun _ _ _ h => h) gnone (TTany _) (p_move rfl) rfl ?_
  refine tkB 30 rfl (by kernel_rfl) (fun _ _ _ h => h) (gyes rfl rfl rfl rfl) (TTany _) (p_move rfl) rfl ?_
  refine tkB 31 rfl (by kernel_rfl) (fun _ _ _ h => h) gnone (TTany _) (p_pickt rfl rfl) rfl ?_
  refine tkB 32 rfl (by kernel_rfl) (fun _ _ _ h => h) gnone (TTany _) (p_move rfl) rfl ?_
  refine tkB 33 rfl (by kernel_rfl) (fun _ _ _ h => h) (gyes rfl rfl rfl rfl) (TTat (List.Mem.tail _ (List.Mem.tail _ (List.Mem.tail _ (List.Mem.head _))))) (p_lda Tryz.isAgg31 Tryz.sizeOf31 rfl rfl) rfl ?_
  refine tkB 34 rfl (by kernel_rfl) (fun _ _ _ h => h) (gyes rfl rfl rfl rfl) (TTany _) (p_move rfl) rfl ?_
  refine tkB 35 rfl (by kernel_rfl) (fun _ _ _ h => h) (gyes rfl rfl rfl rfl) (TTany _) (p_ia 1 hAu (by decide) rfl Tryz.underlying36 Tryz.sizeOf31 rfl rfl) rfl ?_
  refine tkB 36 rfl (by kernel_rfl) (fun _ _ _ h => h) (gyes rfl rfl rfl rfl) (TTat (List.Mem.tail _ (List.Mem.tail _ (List.Mem.tail _ (List.Mem.tail _ (List.Mem.head _)))))) (p_lda Tryz.isAgg31 Tryz.sizeOf31 rfl rfl) rfl ?_
  refine dfB 37 (by kernel_rfl) ?_
  refine doGB rfl rfl rfl rfl rfl (o_call (is := []) Tryz.call60 (c_nSame qB qB _ zyu fitqB fitqB) rfl rfl (by repeat' (first | constructor | apply Sub.suf)) rfl) (TOk.xP 37 [32, 29, 22, 17, 10, 9, 8] (by kernel_rfl) (TOk.xP 37 [32, 29, 22, 17, 16, 15] (by kernel_rfl) (TOk.xP 37 [32, 29, 28, 27] (by kernel_rfl) (TOk.xP 37 [] (by kernel_rfl) (TOk.xP 37 [] (by kernel_rfl) (TOk.t (isBoxE fun _ => isBoxS (by repeat' constructor) (k := 4) (by repeat (first | exact Cut.d | apply Cut.t | apply Cut.s))) (TOk.t (isBoxE fun _ => isInS (by repeat' constructor) (k := 0) rfl (z := 4) (by repeat (first | exact Cut.d | apply Cut.t | apply Cut.s))) (TOk.t (isBoxE fun _ => isBoxS (by repeat' constructor) (k := 1) (by repeat (first | exact Cut.d | apply Cut.t | apply Cut.s))) (TOk.t (isBoxE fun _ => isInS (by repeat' constructor) (k := 0) rfl (z := 4) (by repeat (first | exact Cut.d | apply Cut.t | apply Cut.s))) (TOk.t (isBoxE fun _ => isInS (by repeat' constructor) (k := 0) rfl (z := 4) (by repeat (first | exact Cut.d | apply Cut.t | apply Cut.s))) (TOk.t (isBoxE fun _ => isInS (by repeat' constructor) (k := 0) rfl (z := 4) (by repeat (first | exact Cut.d | apply Cut.t | apply Cut.s))) TOk.d))))))))))) ?_
  refine eaB ?_; intro x84
  refine fixB (congrArg Value.bool (decide_eq_true rfl)) ?_
  refine tkB 38 rfl (by kernel_rfl) (fun _ _ _ h => h) gnone (TTany _) (p_pickt rfl rfl) rfl ?_
  refine tkB 39 rfl (by kernel_rfl) (fun _ _ _ h => h) gnone (TTany _) (p_move rfl) rfl ?_
  refine tkB 40 rfl (by kernel_rfl) (fun _ _ _ h => h) (gyes rfl rfl rfl rfl) (TTat (List.Mem.tail _ (List.Mem.tail _ (List.Mem.tail _ (List.Mem.tail _ (List.Mem.tail _ (List.Mem.head _))))))) (p_lda Tryz.isAgg31 Tryz.sizeOf31 rfl rfl) rfl ?_
  refine tkB 41 rfl (by kernel_rfl) (fun _ _ _ h => h) (gyes rfl rfl rfl rfl) (TTany _) (p_move rfl) rfl ?_
  refine tkB 42 rfl (by kernel_rfl) (fun _ _ _ h => h) (gyes rfl rfl rfl rfl) (TTany _) (p_ia 0 hAt (by decide) rfl Tryz.underlying36 Tryz.sizeOf31 rfl rfl) rfl ?_
  refine tkB 43 rfl (by kernel_rfl) (fun _ _ _ h => h) (gyes rfl rfl rfl rfl) (TTat (List.Mem.tail _ (List.Mem.tail _ (List.Mem.tail _ (List.Mem.tail _ (List.Mem.tail _ (List.Mem.tail _ (List.Mem.head _)))))))) (p_lda Tryz.isAgg31 Tryz.sizeOf31 rfl rfl) rfl ?_
  refine dfB 44 (by kernel_rfl) ?_
  refine doGB rfl rfl rfl rfl rfl (o_call (is := []) Tryz.call12 (c_nClone qA zyt fitqA) rfl rfl (by repeat' (first | constructor | apply Sub.suf)) rfl) (TOk.xP 37 [32, 29, 22, 17, 10, 9, 8] (by kernel_rfl) (TOk.xP 37 [32, 29, 22, 17, 16, 15] (by kernel_rfl) (TOk.xP 37 [32, 29, 28, 27] (by kernel_rfl) (TOk.xP 37 [] (by kernel_rfl) (TOk.xP 37 [] (by kernel_rfl) (TOk.t (isBoxE fun _ => isBoxS (by repeat' constructor) (k := 4) (by repeat (first | exact Cut.d | apply Cut.t | apply Cut.s))) (TOk.xP 44 [] (by kernel_rfl) (TOk.t (isBoxE fun _ => isBoxS (by repeat' constructor) (k := 1) (by repeat (first | exact Cut.d | apply Cut.t | apply Cut.s))) (TOk.t (isBoxE fun _ => isInS (by repeat' constructor) (k := 0) rfl (z := 4) (by repeat (first | exact Cut.d | apply Cut.t | apply Cut.s))) (TOk.t (isBoxE fun _ => isInS (by repeat' constructor) (k := 0) rfl (z := 4) (by repeat (first | exact Cut.d | apply Cut.t | apply Cut.s))) (TOk.t (isBoxE fun _ => isInS (by repeat' constructor) (k := 0) rfl (z := 4) (by repeat (first | exact Cut.d | apply Cut.t | apply Cut.s))) TOk.d))))))))))) ?_
  refine eaB ?_; intro y91
  refine dfB 45 (by kernel_rfl) ?_
  refine doGB rfl rfl rfl rfl rfl (o_call (is := []) Tryz.call60 (c_nSame qA qA _ y91 fitqA fitqA) rfl rfl (by repeat' (first | constructor | apply Sub.suf)) rfl) (TOk.xP 37 [32, 29, 22, 17, 10, 9, 8] (by kernel_rfl) (TOk.xP 37 [32, 29, 22, 17, 16, 15] (by kernel_rfl) (TOk.xP 37 [32, 29, 28, 27] (by kernel_rfl) (TOk.xP 37 [] (by kernel_rfl) (TOk.xP 37 [] (by kernel_rfl) (TOk.xP 45 [] (by kernel_rfl) (TOk.xP 44 [] (by kernel_rfl) (TOk.t (isBoxE fun _ => isBoxS (by repeat' constructor) (k := 1) (by repeat (first | exact Cut.d | apply Cut.t | apply Cut.s))) (TOk.t (isBoxE fun _ => isInS (by repeat' constructor) (k := 0) rfl (z := 4) (by repeat (first | exact Cut.d | apply Cut.t | apply Cut.s))) (TOk.t (isBoxE fun _ => isInS (by repeat' constructor) (k := 0) rfl (z := 4) (by repeat (first | exact Cut.d | apply Cut.t | apply Cut.s))) (TOk.t (isBoxE fun _ => isInS (by repeat' constructor) (k := 0) rfl (z := 4) (by repeat (first | exact Cut.d | apply Cut.t | apply Cut.s))) TOk.d))))))))))) ?_
  refine eaB ?_; intro x92
  refine fixB (congrArg Value.bool (decide_eq_true rfl)) ?_
  refine tkB 46 rfl (by kernel_rfl) (fun _ _ _ h => h) gnone (TTany _) (p_pickt rfl rfl) rfl ?_
  refine tkB 47 rfl (by kernel_rfl) (fun _ _ _ h => h) gnone (TTany _) (p_move rfl) rfl ?_
  refine tkB 48 rfl (by kernel_rfl) (fun _ _ _ h => h) (gyes rfl rfl rfl rfl) (TTany _) (p_move rfl) rfl ?_
  refine tkB 49 rfl (by kernel_rfl) (fun _ _ _ h => h) gnone (TTany _) (p_pickt rfl rfl) rfl ?_
  refine tkB 50 rfl (by kernel_rfl) (fun _ _ _ h => h) gnone (TTany _) (p_move rfl) rfl ?_
  refine tkB 51 rfl (by kernel_rfl) (fun _ _ _ h => h) (gyes rfl rfl rfl rfl) (TTany _) (p_fa fa31_0 rfl) rfl ?_
  refine tkB 52 rfl (by kernel_rfl) (fun _ _ _ h => h) (gyes rfl rfl rfl rfl) (TTat (List.Mem.tail _ (List.Mem.tail _ (List.Mem.tail _ (List.Mem.tail _ (List.Mem.tail _ (List.Mem.tail _ (List.Mem.tail _ (List.Mem.head _))))))))) (p_ld Tryz.isAgg3 rfl) rfl ?_
  refine tkB 53 rfl (by kernel_rfl) (fun _ _ _ h => h) (gyes rfl rfl rfl rfl) (TTany _) (p_icmp rfl rfl rfl) rfl ?_
  refine tkB 54 rfl (by kernel_rfl) (fun _ _ _ h => h) gnone (TTany _) (p_pickt rfl rfl) rfl ?_
  refine tkB 55 rfl (by kernel_rfl) (fun _ _ _ h => h) gnone (TTany _) (p_move rfl) rfl ?_
  refine tkB 56 rfl (by kernel_rfl) (fun _ _ _ h => h) (gyes rfl rfl rfl rfl) (TTany _) (p_move rfl) rfl ?_
  refine tkB 57 rfl (by kernel_rfl) (fun _ _ _ h => h) (gyes rfl rfl rfl rfl) (TTany _) (p_lenl rfl Tryz.underlying36) rfl ?_
  refine tkB 58 rfl (by kernel_rfl) (fun _ _ _ h => h) (gyes rfl rfl rfl rfl) (TTany _) (p_icmp rfl rfl rfl) rfl ?_
  refine tkB 59 rfl (by kernel_rfl) (fun _ _ _ h => h) gnone (TTany _) (p_pickt rfl rfl) rfl ?_
  refine tkB 60 rfl (by kernel_rfl) (fun _ _ _ h => h) gnone (TTany _) (p_move rfl) rfl ?_
  refine tkB 61 rfl (by kernel_rfl) (fun _ _ _ h => h) (gyes rfl rfl rfl rfl) (TTany _) (p_move rfl) rfl ?_
  refine tkB 62 rfl (by kernel_rfl) (fun _ _ _ h => h) (gyes rfl rfl rfl rfl) (TTany _) (p_ia 0 hAt (by decide) rfl Tryz.underlying36 Tryz.sizeOf31 rfl rfl) rfl ?_
  refine tkB 63 rfl (by kernel_rfl) (fun _ _ _ h => h) (gyes rfl rfl rfl rfl) (TTat (List.Mem.tail _ (List.Mem.tail _ (List.Mem.tail _ (List.Mem.tail _ (List.Mem.tail _ (List.Mem.tail _ (List.Mem.tail _ (List.Mem.tail _ (List.Mem.head _)))))))))) (p_lda Tryz.isAgg31 Tryz.sizeOf31 rfl rfl) rfl ?_
  refine tkB 64 rfl (by kernel_rfl) (fun _ _ _ h => h) (gyes rfl rfl rfl rfl) (TTany _) (p_move rfl) rfl ?_
  refine tkB 65 rfl (by kernel_rfl) (fun _ _ _ h => h) (gyes rfl rfl rfl rfl) (TTany _) (p_ia 2 hAv (by decide) rfl Tryz.underlying36 Tryz.sizeOf31 rfl rfl) rfl ?_
  refine tkB 66 rfl (by kernel_rfl) (fun _ _ _ h => h) (gyes rfl rfl rfl rfl) (TTat (List.Mem.tail _ (List.Mem.tail _ (List.Mem.tail _ (List.Mem.tail _ (List.Mem.tail _ (List.Mem.tail _ (List.Mem.tail _ (List.Mem.tail _ (List.Mem.tail _ (List.Mem.head _))))))))))) (p_lda Tryz.isAgg31 Tryz.sizeOf31 rfl rfl) rfl ?_
  refine dfB 67 (by kernel_rfl) ?_
  refine doGB rfl rfl rfl rfl rfl (o_call (is := []) Tryz.call61 (c_nNeeds qA qC zyt zyv fitqA fitqC) rfl rfl (by repeat' (first | constructor | apply Sub.suf)) rfl) (TOk.xP 37 [32, 29, 22, 17, 10, 9, 8] (by kernel_rfl) (TOk.xP 37 [32, 29, 22, 17, 16, 15] (by kernel_rfl) (TOk.xP 37 [32, 29, 28, 27] (by kernel_rfl) (TOk.xP 37 [] (by kernel_rfl) (TOk.xP 37 [] (by kernel_rfl) (TOk.xP 45 [] (by kernel_rfl) (TOk.xP 44 [] (by kernel_rfl) (TOk.xP 67 [60, 55, 54, 53] (by kernel_rfl) (TOk.xP 67 [] (by kernel_rfl) (TOk.xP 67 [] (by kernel_rfl) (TOk.t (isBoxE fun _ => isInS (by repeat' constructor) (k := 0) rfl (z := 4) (by repeat (first | exact Cut.d | apply Cut.t | apply Cut.s))) TOk.d))))))))))) ?_
  refine eaB ?_; intro x114
  refine fixB (congrArg Value.bool al7) ?_
  refine tkB 68 rfl (by kernel_rfl) (fun _ _ _ h => h) gnone (TTany _) (p_pickt rfl rfl) rfl ?_
  refine tkB 69 rfl (by kernel_rfl) (fun _ _ _ h => h) gnone (TTany _) (p_move rfl) rfl ?_
  refine tkB 70 rfl (by kernel_rfl) (fun _ _ _ h => h) (gyes rfl rfl rfl rfl) (TTany _) (p_move rfl) rfl ?_
  refine tkB 71 rfl (by kernel_rfl) (fun _ _ _ h => h) (gyes rfl rfl rfl rfl) (TTany _) (p_ia 0 hAt (by decide) rfl Tryz.underlying36 Tryz.sizeOf31 rfl rfl) rfl ?_
  refine tkB 72 rfl (by kernel_rfl) (fun _ _ _ h => h) (gyes rfl rfl rfl rfl) (TTat (List.Mem.tail _ (List.Mem.tail _ (List.Mem.tail _ (List.Mem.tail _ (List.Mem.tail _ (List.Mem.tail _ (List.Mem.tail _ (List.Mem.tail _ (List.Mem.tail _ (List.Mem.tail _ (List.Mem.head _)))))))))))) (p_lda Tryz.isAgg31 Tryz.sizeOf31 rfl rfl) rfl ?_
  refine dfB 73 (by kernel_rfl) ?_
  refine doGB rfl rfl rfl rfl rfl (o_call (is := []) Tryz.call62 (c_nRight qA zyt fitqA) rfl rfl (by repeat' (first | constructor | apply Sub.suf)) rfl) (TOk.xP 37 [32, 29, 22, 17, 10, 9, 8] (by kernel_rfl) (TOk.xP 37 [32, 29, 22, 17, 16, 15] (by kernel_rfl) (TOk.xP 37 [32, 29, 28, 27] (by kernel_rfl) (TOk.xP 37 [] (by kernel_rfl) (TOk.xP 37 [] (by kernel_rfl) (TOk.xP 45 [] (by kernel_rfl) (TOk.xP 44 [] (by kernel_rfl) (TOk.xP 67 [60, 55, 54, 53] (by kernel_rfl) (TOk.xP 67 [] (by kernel_rfl) (TOk.xP 67 [] (by kernel_rfl) (TOk.xP 73 [] (by kernel_rfl) TOk.d))))))))))) ?_
  refine eaB ?_; intro x120
  refine fixB (congrArg Value.bool al5) ?_
  refine tkB 74 rfl (by kernel_rfl) (fun _ _ _ h => h) gnone (TTany _) (p_pickt rfl rfl) rfl ?_
  refine tkB 75 rfl (by kernel_rfl) (fun _ _ _ h => h) gnone (TTany _) (p_move rfl) rfl ?_
  refine tkB 76 rfl (by kernel_rfl) (fun _ _ _ h => h) (gyes rfl rfl rfl rfl) (TTany _) (p_bld sb31 rfl Fill.d) rfl ?_
  refine dfB 77 (by kernel_rfl) ?_
  refine doGB rfl rfl rfl rfl rfl (o_call (is := []) Tryz.call62 (c_nRight Patch.zero ((none, 0), (none, 0)) pzero_fit) rfl rfl (by repeat' (first | constructor | apply Sub.suf)) rfl) (TOk.xP 37 [32, 29, 22, 17, 10, 9, 8] (by kernel_rfl) (TOk.xP 37 [32, 29, 22, 17, 16, 15] (by kernel_rfl) (TOk.xP 37 [32, 29, 28, 27] (by kernel_rfl) (TOk.xP 37 [] (by kernel_rfl) (TOk.xP 37 [] (by kernel_rfl) (TOk.xP 45 [] (by kernel_rfl) (TOk.xP 44 [] (by kernel_rfl) (TOk.xP 67 [60, 55, 54, 53] (by kernel_rfl) (TOk.xP 67 [] (by kernel_rfl) (TOk.xP 67 [] (by kernel_rfl) (TOk.xP 73 [] (by kernel_rfl) TOk.d))))))))))) ?_
  refine eaB ?_; intro x124
  refine fixB (congrArg Value.bool al6) ?_
  refine tkB 78 rfl (by kernel_rfl) (fun _ _ _ h => h) (gyes rfl rfl rfl rfl) (TTany _) (p_not rfl) rfl ?_
  refine tkB 79 rfl (by kernel_rfl) (fun _ _ _ h => h) gnone (TTany _) (p_pickt rfl rfl) rfl ?_
  refine tkB 80 rfl (by kernel_rfl) (fun _ _ _ h => h) gnone (TTany _) (p_asg rfl) rfl ?_
  refine dnB (by kernel_rfl) ?_
  refine nthen ?_
  refine cret ?_
  refine xret (fun _ _ h => h) ?_
  refine rret (is := []) () (Or.inl rfl) (Res.t rfl Res.d) (rfl) rfl (by repeat' (first | constructor | apply Sub.suf))

end Go.Proofs.YtdbiillompeclaaGreatDoor.X

end
section
set_option linter.unusedVariables false
set_option linter.unusedSimpArgs false
namespace Go.Proofs.YtdbiillompeclaaGreatDoor.X
open Go Go.RowKit Go.Proofs Go.Sx
/-! Patches, and what they make of trees. -/
def pl (l : List Patch) : List Prim := (l.map Patch.l).flatten
theorem pl_nil : pl [] = [] := rfl
theorem pl_cons (p : Patch) (l : List Patch) : pl (p :: l) = p.l ++ pl l := rfl
theorem pl_app (a b : List Patch) : pl (a ++ b) = pl a ++ pl b := by unfold pl; rw [List.map_append, List.flatten_append]
theorem pl_one (p : Patch) : pl [p] = p.l := by show p.l ++ [] = _; rw [List.append_nil]
inductive SwR : List Prim → List Prim → Prop
  | refl {a} : SwR a a
  | step {a x l m f s y} : SwR a (x ++ (l ++ m) ++ y) → (f, s, true) = swT l m → SwR a (x ++ (f ++ s) ++ y)
theorem SwR.trans {a b c : List Prim} (h : SwR a b) (k : SwR b c) : SwR a c := by
  induction k with
  | refl => exact h
  | step _ e ih => exact .step ih e
theorem SwR.ctx {a b : List Prim} (h : SwR a b) (u v : List Prim) : SwR (u ++ a ++ v) (u ++ b ++ v) := by
  induction h with
  | refl => exact .refl
  | @step x l m f s y _ e ih =>
    have e1 : u ++ (x ++ (l ++ m) ++ y) ++ v = (u ++ x) ++ (l ++ m) ++ (y ++ v) := by simp only [List.append_assoc]
    have e2 : u ++ (x ++ (f ++ s) ++ y) ++ v = (u ++ x) ++ (f ++ s) ++ (y ++ v) := by simp only [List.append_assoc]
    rw [e1] at ih
    rw [e2]
    exact .step ih e
theorem SwR.one {l m f s : List Prim} (e : (f, s, true) = swT l m) : SwR (l ++ m) (f ++ s) := by
  have h : SwR (l ++ m) ([] ++ (l ++ m) ++ []) := by rw [List.append_nil, List.nil_append]; exact .refl
  have := h.step e
  rwa [List.append_nil, List.nil_append] at this
theorem SwR.runs {a b : List Prim} (h : SwR a b) {T U : List File} (hS : Sor T) (hr : Runs T a U) : Runs T b U := by
  induction h with
  | refl => exact hr
  | @step x l m f s y _ e ih =>
    obtain ⟨N, h1, h2⟩ := runs_app.1 ih
    obtain ⟨M, h3, h4⟩ := runs_app.1 h1
    exact runs_app.2 ⟨N, runs_app.2 ⟨M, h3, runs_swT (runs_sor h3 hS) h4 e⟩, h2⟩
theorem SwR.lns {a b : List Prim} (h : SwR a b) : lns b = lns a ∧ b.length = a.length := by
  induction h with
  | refl => exact ⟨rfl, rfl⟩
  | @step x l m f s y _ e ih =>
    have h1 := swT_lns e
    have h2 := swT_len e
    simp only [lns_app, List.length_append] at ih ⊢
    omega
theorem pswap_swr {p q a b : Patch} (h : (a, b, true) = pswap p q) : SwR (p.l ++ q.l) (a.l ++ b.l) := by
  obtain ⟨f, s, _, h2, rfl, rfl⟩ := pswap_true h
  exact .one h2
theorem pswap_eta (p q : Patch) (h : (pswap p q).2.2 = true) : ((pswap p q).1, (pswap p q).2.1, true) = pswap p q := by
  rw [← h]
theorem ppastR_swr : ∀ (r : List Patch) (q : Patch) (rest : List Patch) {q' : Patch} {rest' : List Patch}, ppastR r q rest = some (q', rest') → SwR (pl r.reverse ++ q.l ++ pl rest) (q'.l ++ pl rest')
  | [], q, rest, q', rest', h => by
    simp only [ppastR, Option.some.injEq, Prod.mk.injEq] at h
    obtain ⟨rfl, rfl⟩ := h
    exact .refl
  | x :: r, q, rest, q', rest', h => by
    rw [ppastR] at h
    split at h
    · rename_i hb
      have ih := ppastR_swr r _ _ h
      have h1 := (pswap_swr (pswap_eta x q hb)).ctx (pl r.reverse) (pl rest)
      rw [List.reverse_cons, pl_app, pl_one]
      rw [pl_cons] at ih
      simp only [List.append_assoc] at h1 ih ⊢
      exact h1.trans ih
    · cases h
theorem ppast_swr {l rest : List Patch} {q q' : Patch} (h : (q', rest, true) = ppast l q) : SwR (pl l ++ q.l) (q'.l ++ pl rest) := by
  unfold ppast at h
  split at h
  · rename_i r hr
    simp only [Prod.mk.injEq, and_true] at h
    obtain ⟨rfl, rfl⟩ := h
    have := ppastR_swr _ _ _ (show ppastR l.reverse q [] = some (r.1, r.2) from hr)
    rw [List.reverse_reverse, pl_nil, List.append_nil] at this
    exact this
  · simp at h
theorem groupF_swr : ∀ (l g r : List Patch) {g' r' : List Patch}, groupF l g r = (g', r') → SwR (pl r ++ pl g ++ pl l) (pl r' ++ pl g')
  | [], g, r, g', r', h => by
    simp only [groupF, Prod.mk.injEq] at h
    obtain ⟨rfl, rfl⟩ := h
    rw [pl_nil, List.append_nil]; exact .refl
  | q :: l, g, r, g', r', h => by
    rw [groupF] at h
    split at h
    · rename_i hb
      have ih := groupF_swr l _ _ h
      have h1 := (ppast_swr (q' := (ppast g q).1) (rest := (ppast g q).2.1) (l := g) (q := q) (by rw [← hb])).ctx (pl r) (pl l)
      rw [pl_app, pl_one] at ih
      rw [pl_cons]
      simp only [List.append_assoc] at h1 ih ⊢
      exact h1.trans ih
    · have ih := groupF_swr l _ _ h
      rw [pl_app, pl_one] at ih
      rw [pl_cons]
      simp only [List.append_assoc] at ih ⊢
      exact ih
theorem group_swr {l g r : List Patch} (h : (g, r) = group l) : SwR (pl l) (pl r ++ pl g) := by
  cases l with
  | nil =>
    simp only [group, Prod.mk.injEq] at h
    obtain ⟨rfl, rfl⟩ := h
    exact .refl
  | cons p l =>
    have := groupF_swr l [p] [] (g' := g) (r' := r) (by rw [h]; rfl)
    rw [pl_nil, List.nil_append, pl_one] at this
    rw [pl_cons]; exact this
theorem runs_det {T U V : List File} {l : List Prim} (h : Runs T l U) (k : Runs T l V) : U = V := (runs_applied h).trans (runs_applied k).symm
theorem pl_split {l : List Patch} {k : Nat} (hk : k < l.length) : pl l = pl (l.take k) ++ (l[k].l ++ pl (l.drop (k + 1))) := by
  conv => lhs; rw [← List.take_append_drop k l, List.drop_eq_getElem_cons hk]
  rw [pl_app, pl_cons]
theorem pl_take {l : List Patch} {k : Nat} (hk : k < l.length) : pl (l.take (k + 1)) = pl (l.take k) ++ l[k].l := by
  rw [List.take_succ_eq_append_getElem hk, pl_app, pl_one]
theorem pl_no {l : List Patch} {k : Nat} {T M M1 : List File} {e : Int} (hk : k < l.length) (h : Runs T (pl (l.take k)) M) (hq : (M1, e) = rowT M l[k].l) (he : ¬ e = 0) (U : List File) : ¬ Runs T (pl l) U := fun hU => by
  rw [pl_split hk] at hU
  obtain ⟨M', h1, h2⟩ := runs_app.1 hU
  obtain rfl := runs_det h1 h
  obtain ⟨N, h3, _⟩ := runs_app.1 h2
  rw [rowT_ok h3] at hq
  exact he (congrArg Prod.snd hq)
theorem pl_yes {l : List Patch} {k : Nat} {T M M1 : List File} (hk : k < l.length) (h : Runs T (pl (l.take k)) M) (hq : (M1, (0 : Int)) = rowT M l[k].l) : Runs T (pl (l.take (k + 1))) M1 := by
  rw [pl_take hk]
  exact runs_app.2 ⟨M, h, rowT_runs hq.symm⟩
theorem lns_pl {l : List Patch} {k : Nat} (hk : k < l.length) : lns (pl (l.take k)) + lns l[k].l ≤ lns (pl l) ∧ (pl (l.take k)).length + l[k].l.length ≤ (pl l).length := by
  rw [pl_split hk]
  simp only [lns_app, List.length_append]
  omega
theorem mem_pl {l : List Patch} {p : Patch} (h : p ∈ l) : lns p.l ≤ lns (pl l) ∧ p.l.length ≤ (pl l).length := by
  obtain ⟨k, hk, rfl⟩ := List.mem_iff_getElem.1 h
  have := lns_pl hk
  omega
end Go.Proofs.YtdbiillompeclaaGreatDoor.X

end
section
set_option linter.unusedVariables false
set_option linter.unusedSimpArgs false
namespace Go.Proofs.YtdbiillompeclaaGreatDoor.X
open Go Go.RowKit Go.Proofs Go.Sx
attribute [local irreducible] slA isA box row

theorem pl_len (l : List Patch) : (pl l).length = ptot l := by
 unfold pl ptot
 induction l with
 | nil => rfl
 | cons p l ih => simp only [List.map_cons, List.flatten_cons, List.length_append, List.sum_cons]; omega
theorem pl_lns (l : List Patch) : lns (pl l) ≤ pmany l := by
 unfold pmany
 induction l with
 | nil => exact Nat.le_refl _
 | cons p l ih =>
  rw [pl_cons, lns_app]
  simp only [List.map_cons, List.sum_cons]
  have h1 := lns_many p.l
  have h2 : Sx.many p.l ≤ p.many := by unfold Patch.many; omega
  omega
theorem few_y7 {l : List TOp} (h : ¬ 0 < fewO l) : l.length ≤ 80 ∧ omany l ≤ 8000 := by
 unfold fewO at h
 split at h
 ·
  assumption
 ·
  omega
theorem fewB_yes {l : List Patch} (h : fewB l = true) : l.length ≤ 12 ∧ ptot l ≤ 40 ∧ pmany l ≤ 6000 := by
 unfold fewB at h
 simp only [Bool.and_eq_true, decide_eq_true_eq] at h
 omega
def Appd (T : List File) (l : List Patch) (q : List File × Bool) : Prop := (q.2 = true → Runs T (pl l) q.1) ∧ (q.2 = false → ∀ U, ¬ Runs T (pl l) U)
theorem Appd.yes {T U : List File} {l : List Patch} {q : List File × Bool} (h : Appd T l q) (hr : Runs T (pl l) U) : q = (U, true) := by
 obtain ⟨M, b⟩ := q
 obtain ⟨h1, h2⟩ := h
 cases b with
 | false => exact absurd hr (h2 rfl U)
 | true => have e : M = U := runs_det (h1 rfl) hr; rw [e]
theorem nf_end {T V : List File} {l g r : List Patch} (hS : Sor T) (hr : Runs T (pl l) V) (hg : (g, r) = group l) : ∃ M, Runs T (pl r) M ∧ Runs M (pl g) V :=
 runs_app.1 ((group_swr hg).runs hS hr)

theorem bne_same (b : Bool) : (!(b == b)) = false := by cases b <;> rfl
theorem needs_ne {p q a b : Patch} {c : Bool} (h : (a, b, c) = pswap p q) : ((!(pswap p q).2.2) == c) = false := by rw [← h]; cases c <;> rfl
theorem group_GI {l : List Patch} (hl : ∀ x ∈ l, x.fit) : GI l l.length (group l).1 (group l).2 := by
 have key : ∀ (n k : Nat) (g r : List Patch), l.length - k = n → k ≤ l.length → GI l k g r → GI l l.length (group l).1 (group l).2 := by
  intro n
  induction n with
  | zero =>
   intro k g r hn hk hI
   have hkl : k = l.length := by omega
   rw [hI.done (by omega), ← hkl]
   exact hI
  | succ n ih =>
   intro k g r hn hk hI
   have hk1 : k < l.length := by omega
   cases hp : ppast g l[k] with
   | mk q t =>
    obtain ⟨rest, b⟩ := t
    by_cases h0 : k = 0
    ·
     exact ih (k + 1) _ _ (by omega) hk1 (hI.no (rest := []) (q := Patch.zero) hk1 hl (.inl h0))
    ·
     cases b with
     | true => exact ih (k + 1) _ _ (by omega) hk1 (hI.yes hk1 h0 hl hp.symm)
     | false => exact ih (k + 1) _ _ (by omega) hk1 (hI.no hk1 hl (.inr hp.symm))
 exact key _ 0 [] [] rfl (Nat.zero_le _) (GI.start l)


set_option maxRecDepth 100000 in
theorem c_applied7 (p b : Nat) (T : List File) (mm nn : Nat) (hi : AppInv mm nn T) (l : List Patch) (A : Option Addr) (c : Nat) (hl : l.length ≤ 2000000) (hf : ∀ x ∈ l, x.fit) (hm : mm + 2 * lns (pl l) ≤ 1800000) (hn : nn + 2 * (pl l).length ≤ 1800000) : Con Tryz.prog 53 [.pointer (some ⟨p, 0, none⟩), .slice A l.length c] [box p 120 [.map (some b)], tr b T] [slA A l] {q : List File × Bool // Appd T l q} (fun q => .bool q.1.2) (fun q => [box p 120 [.map (some b)], tr b q.1.1]) (fun _ => []) := by
 refine con Tryz.func53 rfl Tryz.ntmps53 rfl ?_
 intro M0 F0 w0
 refine cs ?_
 refine cr ?_
 refine ls (op (p_asg rfl) rfl) ?_
 refine ln ?_
 refine nthen ?_
 refine cs ?_
 refine cs ?_
 refine cr ?_
 refine ls (op (p_move rfl) rfl) ?_
 refine ls (op (p_lenl rfl Tryz.underlying36) rfl) ?_
 refine ls (op (p_move rfl) rfl) ?_
 refine ln ?_
 refine nthen ?_
 refine cb ?_
 refine cl (ι := {q : Nat × List File // q.1 ≤ l.length ∧ Runs T (pl (l.take q.1)) q.2}) (fun i => St M0 F0 w0 19 [(0, .pointer (some ⟨p, 0, none⟩)), (7, .slice A l.length c), (8, .int .i64 (l.length : Int)), (9, .int .i64 ((i.1.1 : Nat) : Int))] [box p 120 [.map (some b)], tr b i.1.2] [slA A l]) (fun i => l.length - i.1.1) ⟨(0, T), Nat.zero_le _, rfl⟩ (wk0 (by repeat (first | exact subσ.nil _ | refine subσ.cons rfl ?_)) (by repeat' (first | constructor | apply Sub.suf))) ?_
 rintro ⟨⟨k, M⟩, hk, hr⟩
 refine cmono (S' := St M0 F0 w0 19 [(0, .pointer (some ⟨p, 0, none⟩)), (7, .slice A l.length c), (8, .int .i64 (l.length : Int)), (9, .int .i64 ((k : Nat) : Int))] [box p 120 [.map (some b)], tr b M] [slA A l]) (fun _ _ h => h) ?_
 refine cs ?_
 refine cr ?_
 refine ls (op (p_icmp rfl rfl rfl) rfl) ?_
 refine ln ?_
 refine nthen ?_
 refine cs ?_
 refine cc rfl ?_ ?_
 ·
  intro h10
  dsimp only at hk hr
  try simp only [decide_eq_true_eq, decide_eq_false_iff_not, Bool.not_eq_true', Bool.not_eq_false', Int.not_lt, Int.not_le, ge_iff_le, Bool.not_true, Bool.not_false] at h10
  have hk1 : k < l.length := by omega
  have hiM := (rowT_inv hi (rowT_ok hr).symm)
  have hlp := lns_pl hk1
  have hfk := hf _ (List.getElem_mem hk1)
  refine cskip ?_
  refine nthen ?_
  refine cs ?_
  refine cb ?_
  refine cs ?_
  refine elC (by repeat' constructor) k (List.getElem?_eq_getElem (l := l) hk1) ?_; rintro zbp zop zyp hAp
  refine cpure (St.cap (m := l[k].l.length) (c := zyp.2.2) (by repeat' constructor)) ?_
  intro hcapk
  refine cr ?_
  refine ls (op (p_ia k hAp hk1 rfl Tryz.underlying36 Tryz.sizeOf31 rfl rfl) rfl) ?_
  refine ls (o_ldj Tryz.isAgg31 Tryz.sizeOf31 rfl (by repeat' constructor) 0 rfl (by repeat (first | exact Cut.d | apply Cut.t | apply Cut.s)) rfl) ?_
  refine ls (o_alloc Tryz.zeroValue31 rfl rfl) ?_
  refine le ?_; intro b6
  refine ls (o_st rfl Tryz.sizeOf31 rfl rfl rfl rfl rfl (by repeat' constructor) (by repeat' constructor) (by repeat' constructor)) ?_
  refine ln ?_
  refine nthen ?_
  refine cs ?_
  refine cr ?_
  refine ls (op (p_move rfl) rfl) ?_
  refine ls (op (p_fa fa31_3 rfl) rfl) ?_
  refine ls (o_ld Tryz.isAgg29 rfl (by repeat' constructor) (by repeat' constructor) rfl) ?_
  refine ls (o_call (is := [1, 1]) Tryz.call27 (c_seqApply p b M _ _ hiM l[k].l zyp.2.1 zyp.2.2 hcapk (by omega) hfk.lf (by omega) (by omega)) rfl rfl (by repeat' (first | constructor | apply Sub.suf)) rfl) ?_
  refine le ?_; rintro ⟨⟨M1, e1⟩, hq⟩
  try dsimp only at hq
  refine ls (op (p_icmp rfl rfl rfl) rfl) ?_
  refine ln ?_
  refine nthen ?_
  refine cc rfl ?_ ?_
  ·
   intro h17
   have he : ¬ e1 = 0 := by have h := h17; simpa using h
   refine cs ?_
   refine cr ?_
   refine ls (op (p_asg rfl) rfl) ?_
   refine ln ?_
   refine nthen ?_
   refine cret ?_
   refine xret (fun _ _ h => h) ?_
   refine rret (is := [0, 0]) ⟨(M1, false), (fun h => by cases h), fun _ U => pl_no hk1 hr hq he U⟩ (Or.inl rfl) (Res.t rfl Res.d) (rfl) rfl (by repeat' (first | constructor | apply Sub.suf))
  ·
   intro h17
   obtain rfl : e1 = 0 := by have h := h17; simpa using h
   refine cskip ?_
   refine nblock ?_
   refine nthen ?_
   refine cr ?_
   refine ls (op (p_add rfl rfl (by omega)) rfl) ?_
   refine ls (op (p_move rfl) rfl) ?_
   refine ln ?_
   refine nnext ⟨(k + 1, M1), hk1, pl_yes hk1 hr hq⟩ (by dsimp only; omega) (wk (is := [0, 0]) (by repeat (first | exact subσ.nil _ | refine subσ.cons rfl ?_)) rfl (by repeat' (first | constructor | apply Sub.suf)))
 ·
  intro h10
  dsimp only at hk hr
  try simp only [decide_eq_true_eq, decide_eq_false_iff_not, Bool.not_eq_true', Bool.not_eq_false', Int.not_lt, Int.not_le, ge_iff_le, Bool.not_true, Bool.not_false] at h10
  obtain rfl : k = l.length := by omega
  rw [List.take_length] at hr
  refine cexit ?_
  refine xthen ?_
  refine xthen ?_
  refine xblock ?_
  refine nthen ?_
  refine cs ?_
  refine cr ?_
  refine ls (op (p_asg rfl) rfl) ?_
  refine ln ?_
  refine nthen ?_
  refine cret ?_
  refine xret (fun _ _ h => h) ?_
  refine rret (is := [0, 0]) ⟨(M, true), (fun _ => hr), (fun h => by cases h)⟩ (Or.inl rfl) (Res.t rfl Res.d) (rfl) rfl (by repeat' (first | constructor | apply Sub.suf))

set_option maxRecDepth 100000 in
theorem c_NamedFits (l : List TOp) (A : Option Addr) (c : Nat) (hl : l.length ≤ 1048576) (hM : omany l ≤ 1048576) (ps : List Patch) (B : Option Addr) (c' : Nat) (hlp : ps.length ≤ 2000000) (hf : ∀ x ∈ ps, x.fit) (hMp : pmany ps ≤ 1000000000000) : Con Tryz.prog 8 [.slice A l.length c, .slice B ps.length c'] [] [slA A l, slA B ps] Unit (fun _ => .bool true) (fun _ => []) (fun _ => []) := by
 have hMo : ∀ o ∈ l, o.many ≤ 2000000 := fun o ho => by have := omany_mem ho; omega
 have htok : Tok l.length 2000000 (madeT l) := madeT_tok hMo
 have hlen := htok.len
 have hfit : Tfit (madeT l) := fun x hx => (htok.fit x hx).1
 have hso := madeT_sor l
 have hgood := madeT_good l
 have hinv := AppInv.made l
 refine con Tryz.func8 rfl Tryz.ntmps8 rfl ?_
 intro M0 F0 w0
 refine cs ?_
 refine cr ?_
 refine ls (op (p_asg rfl) rfl) ?_
 refine ln ?_
 refine nthen ?_
 refine cs ?_
 refine cs ?_
 refine cr ?_
 refine ls (op (p_move rfl) rfl) ?_
 refine ls (o_call (is := []) Tryz.call31 (c_Few02 l A c (by omega) (by omega)) rfl rfl (by repeat' (first | constructor | apply Sub.suf)) rfl) ?_
 refine le ?_; intro x13
 refine ls (op (p_icmp rfl rfl rfl) rfl) ?_
 refine ls (op (p_move rfl) rfl) ?_
 refine orX 4 15 19 rfl (subσ.cons (t := 0) rfl (subσ.cons (t := 1) rfl (subσ.cons (t := 4) rfl (subσ.nil _)))) ?_ ?_
 ·
  intro h15
  refine lskip rfl rfl rfl rfl rfl ?_
  refine lskip rfl rfl rfl rfl rfl ?_
  refine lskip rfl rfl rfl rfl rfl ?_
  refine ls (op (p_pickt rfl rfl) rfl) ?_
  refine ln (nmid (wk0 (by repeat (first | exact subσ.nil _ | refine subσ.cons rfl ?_)) (by repeat' (first | constructor | apply Sub.suf))))
 apply exI
 ·
  intro h15
  refine lwant rfl rfl rfl rfl (op (p_move rfl) rfl) ?_
  refine lwant rfl rfl rfl rfl (o_call (is := []) Tryz.call9 (c_few7 ps B c' hlp hf hMp) rfl rfl (by repeat' (first | constructor | apply Sub.suf)) rfl) ?_
  refine le ?_; intro x17
  refine lwant rfl rfl rfl rfl (op (p_not rfl) rfl) ?_
  refine ls (op (p_pickf rfl rfl) rfl) ?_
  refine ln (nmid (wk0 (by repeat (first | exact subσ.nil _ | refine subσ.cons rfl ?_)) (by repeat' (first | constructor | apply Sub.suf))))
 ·
  refine ln ?_
  refine nthen ?_
  refine cc rfl ?_ ?_
  ·
   intro h19
   skip
   refine cs ?_
   refine cr ?_
   refine ls (o_call (is := []) Tryz.call11 (c_alive7) rfl rfl (by repeat' (first | constructor | apply Sub.suf)) rfl) ?_
   refine le ?_; intro x20
   refine ls (op (p_asg rfl) rfl) ?_
   refine ln ?_
   refine nthen ?_
   refine cret ?_
   refine xret (fun _ _ h => h) ?_
   refine rret (is := []) () (Or.inl rfl) (Res.t rfl Res.d) (rfl) rfl (by repeat' (first | constructor | apply Sub.suf))
  ·
   intro h19
   obtain ⟨hw1, hw2⟩ : ¬ 0 < fewO l ∧ fewB ps = true := by have h := h19; simp at h; exact ⟨by omega, h.2⟩
   have hfl := few_y7 hw1
   obtain ⟨hw3, hw4, hw5⟩ := fewB_yes hw2
   have hpl := pl_len ps
   have hpn := pl_lns ps
   refine cskip ?_
   refine nthen ?_
   refine cs ?_
   refine cr ?_
   refine ls (op (p_move rfl) rfl) ?_
   refine ls (o_call (is := []) Tryz.call32 (c_Made02 l A c (by omega) hMo) rfl rfl (by repeat' (first | constructor | apply Sub.suf)) rfl) ?_
   refine le ?_; rintro ⟨⟨p, b⟩, ⟨A2, c2⟩⟩
   refine ls (op (p_move rfl) rfl) ?_
   refine ls (op (p_ext rfl (by repeat' constructor)) rfl) ?_
   refine ls (op (p_ext rfl (by repeat' constructor)) rfl) ?_
   refine ls (op (p_asg rfl) rfl) ?_
   refine ls (op (p_asg rfl) rfl) ?_
   refine ln ?_
   refine nthen ?_
   refine cs ?_
   refine cs ?_
   refine cr ?_
   refine ls (op (p_move rfl) rfl) ?_
   refine ls (op (p_ptrnil Tryz.underlying47 rfl rfl) rfl) ?_
   refine ln ?_
   refine nthen ?_
   refine cc rfl (fun h => by cases h) (fun h => ?_)
   refine cskip ?_
   refine nthen ?_
   refine cs ?_
   refine cr ?_
   refine ls (op (p_move rfl) rfl) ?_
   refine ls (o_call (is := [0, 0]) Tryz.call36 (c_tCopy p b (madeT l)) rfl rfl (by repeat' (first | constructor | apply Sub.suf)) rfl) ?_
   refine le ?_; rintro ⟨p4, b4⟩
   refine ls (op (p_asg rfl) rfl) ?_
   refine ln ?_
   refine nthen ?_
   refine cs ?_
   refine cs ?_
   refine cr ?_
   refine ls (op (p_move rfl) rfl) ?_
   refine ls (op (p_lenl rfl Tryz.underlying90) rfl) ?_
   refine ls (op (p_move rfl) rfl) ?_
   refine ln ?_
   refine nthen ?_
   refine cb ?_
   refine cl (ι := {k : Nat // k ≤ ps.length}) (fun i => St M0 F0 w0 69 [(1, .slice B ps.length c'), (5, .pointer (some ⟨p, 0, none⟩)), (7, .pointer (some ⟨p4, 0, none⟩)), (30, .slice B ps.length c'), (31, .int .i64 (ps.length : Int)), (32, .int .i64 ((i.1 : Nat) : Int))] [box p 120 [.map (some b)], tr b (madeT l), box p4 120 [.map (some b4)], tr b4 (madeT l)] [slA B ps]) (fun i => ps.length - i.1) ⟨0, Nat.zero_le _⟩ (wk (is := [2, 2, 0, 0]) (by repeat (first | exact subσ.nil _ | refine subσ.cons rfl ?_)) rfl (by repeat' (first | constructor | apply Sub.suf))) ?_
   rintro ⟨k, hk⟩
   refine cmono (S' := St M0 F0 w0 69 [(1, .slice B ps.length c'), (5, .pointer (some ⟨p, 0, none⟩)), (7, .pointer (some ⟨p4, 0, none⟩)), (30, .slice B ps.length c'), (31, .int .i64 (ps.length : Int)), (32, .int .i64 ((k : Nat) : Int))] [box p 120 [.map (some b)], tr b (madeT l), box p4 120 [.map (some b4)], tr b4 (madeT l)] [slA B ps]) (fun _ _ h => h) ?_
   refine cs ?_
   refine cr ?_
   refine ls (op (p_icmp rfl rfl rfl) rfl) ?_
   refine ln ?_
   refine nthen ?_
   refine cs ?_
   refine cc rfl ?_ ?_
   ·
    intro h33
    try simp only [decide_eq_true_eq, decide_eq_false_iff_not, Bool.not_eq_true', Bool.not_eq_false', Int.not_lt, Int.not_le, ge_iff_le, Bool.not_true, Bool.not_false] at h33
    have hk1 : k < ps.length := by omega
    refine cskip ?_
    refine nthen ?_
    refine cs ?_
    refine cb ?_
    refine cs ?_
    refine elC (by repeat' constructor) k (List.getElem?_eq_getElem (l := ps) hk1) ?_; rintro zbp zop zyp hAp
    refine cr ?_
    refine ls (op (p_ia k hAp hk1 rfl Tryz.underlying90 Tryz.sizeOf25 rfl rfl) rfl) ?_
    refine ls (o_ldj Tryz.isAgg25 Tryz.sizeOf25 rfl (by repeat' constructor) 0 rfl (by repeat (first | exact Cut.d | apply Cut.t | apply Cut.s)) rfl) ?_
    refine ls (o_alloc Tryz.zeroValue25 rfl rfl) ?_
    refine le ?_; intro b9
    refine ls (o_st rfl Tryz.sizeOf25 rfl rfl rfl rfl rfl (by repeat' constructor) (by repeat' constructor) (by repeat' constructor)) ?_
    refine ln ?_
    refine nthen ?_
    refine cs ?_
    refine cr ?_
    refine ls (o_ldw Tryz.isAgg25 Tryz.sizeOf25 rfl (by repeat' constructor) (by rfl) rfl) ?_
    refine ls (o_call (is := []) Tryz.call10 (c_rRight ps[k] zyp (hf _ (List.getElem_mem hk1))) rfl rfl (by repeat' (first | constructor | apply Sub.suf)) rfl) ?_
    refine le ?_; intro x37
    refine ls (op (p_not rfl) rfl) ?_
    refine ln ?_
    refine nthen ?_
    refine cc rfl ?_ ?_
    ·
     intro h38
     skip
     refine cs ?_
     refine cr ?_
     refine ls (o_call (is := []) Tryz.call11 (c_alive7) rfl rfl (by repeat' (first | constructor | apply Sub.suf)) rfl) ?_
     refine le ?_; intro x39
     refine ls (op (p_asg rfl) rfl) ?_
     refine ln ?_
     refine nthen ?_
     refine cret ?_
     refine xret (fun _ _ h => h) ?_
     refine rret (is := []) () (Or.inl rfl) (Res.t rfl Res.d) (rfl) rfl (by repeat' (first | constructor | apply Sub.suf))
    ·
     intro h38
     skip
     refine cskip ?_
     refine nblock ?_
     refine nthen ?_
     refine cr ?_
     refine ls (op (p_add rfl rfl (by omega)) rfl) ?_
     refine ls (op (p_move rfl) rfl) ?_
     refine ln ?_
     refine nnext ⟨k + 1, hk1⟩ (by dsimp only; omega) (wk (is := [1, 1, 1, 1]) (by repeat (first | exact subσ.nil _ | refine subσ.cons rfl ?_)) rfl (by repeat' (first | constructor | apply Sub.suf)))
   ·
    intro h33
    skip
    refine cexit ?_
    refine xthen ?_
    refine xthen ?_
    refine xblock ?_
    refine nthen ?_
    refine cs ?_
    refine cs ?_
    refine cr ?_
    refine ls (op (p_move rfl) rfl) ?_
    refine ls (op (p_move rfl) rfl) ?_
    refine ls (o_call (is := []) Tryz.call54 (c_Rows7 ps B c' hlp hf) rfl rfl (by repeat' (first | constructor | apply Sub.suf)) rfl) ?_
    refine le ?_; rintro ⟨A43, c43⟩
    refine ls (o_call (is := [0, 0]) Tryz.call53 (c_applied7 p b (madeT l) (omany l) (l.length) hinv ps A43 c43 (by omega) hf (by omega) (by omega)) rfl rfl (by repeat' (first | constructor | apply Sub.suf)) rfl) ?_
    refine le ?_; rintro ⟨⟨V, b44⟩, hv⟩
    try dsimp only at hv
    refine ls (op (p_not rfl) rfl) ?_
    refine ln ?_
    refine nthen ?_
    refine cc rfl ?_ ?_
    ·
     intro h45
     skip
     refine cs ?_
     refine cr ?_
     refine ls (o_call (is := []) Tryz.call11 (c_alive7) rfl rfl (by repeat' (first | constructor | apply Sub.suf)) rfl) ?_
     refine le ?_; intro x46
     refine ls (op (p_asg rfl) rfl) ?_
     refine ln ?_
     refine nthen ?_
     refine cret ?_
     refine xret (fun _ _ h => h) ?_
     refine rret (is := []) () (Or.inl rfl) (Res.t rfl Res.d) (rfl) rfl (by repeat' (first | constructor | apply Sub.suf))
    ·
     intro h45
     obtain rfl : b44 = true := by have h := h45; simpa using h
     have hV := hv.1 rfl
     refine cskip ?_
     refine nthen ?_
     refine cs ?_
     refine cr ?_
     refine ls (op (p_move rfl) rfl) ?_
     refine ls (o_call (is := []) Tryz.call54 (c_Rows7 ps B c' hlp hf) rfl rfl (by repeat' (first | constructor | apply Sub.suf)) rfl) ?_
     refine le ?_; rintro ⟨A49, c49⟩
     refine ls (o_call (is := []) Tryz.call55 (c_nGroup ps A49 c49 hlp hf) rfl rfl (by repeat' (first | constructor | apply Sub.suf)) rfl) ?_
     refine le ?_; rintro ⟨⟨⟨g, r⟩, ⟨⟨Ag, cg⟩, ⟨Ar, cR⟩⟩⟩, hg⟩
     dsimp only at hg
     have hG := group_GI hf; rw [← hg] at hG; have hgl := hG.len; have hfg := hG.fg; have hfr := hG.fr; dsimp only at hgl hfg hfr
     obtain ⟨M, hM1, hM2⟩ := nf_end hso hV hg
     have hsw := (group_swr hg).lns
     rw [lns_app, List.length_append] at hsw
     have hiM := rowT_inv hinv (rowT_ok hM1).symm
     have hiV := rowT_inv hinv (rowT_ok hV).symm
     refine ls (op (p_move rfl) rfl) ?_
     refine ls (op (p_ext rfl (by repeat' constructor)) rfl) ?_
     refine ls (op (p_ext rfl (by repeat' constructor)) rfl) ?_
     refine ls (op (p_asg rfl) rfl) ?_
     refine ls (op (p_asg rfl) rfl) ?_
     refine ln ?_
     refine nthen ?_
     refine cs ?_
     refine cr ?_
     refine ls (o_call (is := []) Tryz.call11 (c_alive7) rfl rfl (by repeat' (first | constructor | apply Sub.suf)) rfl) ?_
     refine le ?_; intro x53
     refine ls (op (p_move rfl) rfl) ?_
     refine lwant rfl rfl rfl rfl (op (p_move rfl) rfl) ?_
     refine lwant rfl rfl rfl rfl (op (p_move rfl) rfl) ?_
     refine lwant rfl rfl rfl rfl (o_call (is := [2, 2]) Tryz.call53 (c_applied7 p4 b4 (madeT l) (omany l) (l.length) hinv r Ar cR (by omega) hfr (by omega) (by omega)) rfl rfl (by repeat' (first | constructor | apply Sub.suf)) rfl) ?_
     refine le ?_; rintro ⟨q57, hq57⟩
     obtain rfl := hq57.yes hM1
     refine ls (op (p_pickt rfl rfl) rfl) ?_
     refine ls (op (p_move rfl) rfl) ?_
     refine lwant rfl rfl rfl rfl (op (p_move rfl) rfl) ?_
     refine lwant rfl rfl rfl rfl (op (p_move rfl) rfl) ?_
     refine lwant rfl rfl rfl rfl (o_call (is := [0, 0]) Tryz.call53 (c_applied7 p4 b4 M (omany l + lns (pl r)) (l.length + (pl r).length) hiM g Ag cg (by omega) hfg (by omega) (by omega)) rfl rfl (by repeat' (first | constructor | apply Sub.suf)) rfl) ?_
     refine le ?_; rintro ⟨q62, hq62⟩
     obtain rfl := hq62.yes hM2
     refine ls (op (p_pickt rfl rfl) rfl) ?_
     refine ls (op (p_move rfl) rfl) ?_
     refine lwant rfl rfl rfl rfl (op (p_move rfl) rfl) ?_
     refine lwant rfl rfl rfl rfl (op (p_move rfl) rfl) ?_
     refine lwant rfl rfl rfl rfl (o_call (is := [2, 2, 0, 0]) Tryz.call37 (c_tSame p b p4 b4 V V (inv_fit hiV (by omega))) rfl rfl (by repeat' (first | constructor | apply Sub.suf)) rfl) ?_
     refine le ?_; intro x67
     refine fixL (congrArg Value.bool (decide_eq_true rfl)) ?_
     refine ls (op (p_pickt rfl rfl) rfl) ?_
     refine ls (op (p_asg rfl) rfl) ?_
     refine ln ?_
     refine nthen ?_
     refine cret ?_
     refine xret (fun _ _ h => h) ?_
     refine rret (is := []) () (Or.inl rfl) (Res.t rfl Res.d) (rfl) rfl (by repeat' (first | constructor | apply Sub.suf))

end Go.Proofs.YtdbiillompeclaaGreatDoor.X

end
section
set_option linter.unusedVariables false
set_option linter.unusedSimpArgs false
namespace Go.Proofs.YtdbiillompeclaaGreatDoor.X
open Go Go.RowKit Go.Proofs Go.Sx Go.Joins Go.ChangeShapes Go.WideShapes Go.Deep
section
variable {H : Type} {enc : TypeId × Value → H} {P : Program} {w : World}
structure PTys (P : Program) (t : TypeId) : Prop where
  ex : ∃ (f0 f1 f2 f3 : Field) (ei tp : TypeId) (g0 g1 g2 g3 g4 g5 : Field) (es : TypeId),
    P.underlying t = some (.struct #[f0, f1, f2, f3]) ∧ oneCellFields P #[f0, f1, f2, f3] = true ∧ P.cellsOf t = 4 ∧
    P.underlying f0.type = some (.int .i64) ∧ P.underlying f1.type = some .string ∧ P.underlying f2.type = some (.slice ei) ∧ P.underlying ei = some (.int .i64) ∧ P.cellsOf ei = 1 ∧ P.underlying f3.type = some (.slice tp) ∧
    P.underlying tp = some (.struct #[g0, g1, g2, g3, g4, g5]) ∧ oneCellFields P #[g0, g1, g2, g3, g4, g5] = true ∧ P.cellsOf tp = 6 ∧
    P.underlying g0.type = some (.int .i64) ∧ P.underlying g1.type = some .string ∧ P.underlying g2.type = some .string ∧ P.underlying g3.type = some (.int .i64) ∧ P.underlying g4.type = some (.slice es) ∧ P.underlying g5.type = some (.slice es) ∧ P.underlying es = some .string ∧ P.cellsOf es = 1
theorem open_patch_at {t : TypeId} {cs : List Value} {fuel : Nat} {x : DataW H × List MemPlace} (B : BulkI H) (hT : PTys P t) (hf : DataW.trod enc P w 0 (fun _ => true) true fuel t cs = some x) :
    ∃ (z : Patch) (y : Rp.Lay Patch), cs = Rp.enc z y ∧ (∀ a ∈ Rp.asn z y, a.p (fun _ => False) w) ∧ z.many + 1 ≤ B.one x.1 := by
  obtain ⟨f0, f1, f2, f3, ei, tp, u0, u1, u2, u3, u4, u5, es, hs, hone, hC, h0, h1, h2, hei, hci, h3, htp, hone2, hC2, k0, k1, k2, k3, k4, k5, hes, hces⟩ := hT.ex
  obtain ⟨xs, n, _, hx, hsz, hlen, hg⟩ := DataW.trod_struct hs hf
  match cs, hsz.trans hC with
  | [c0, c1, c2, c3], _ =>
    obtain ⟨o0, q0⟩ := hone_of hone 0 f0 rfl
    obtain ⟨o1, q1⟩ := hone_of hone 1 f1 rfl
    obtain ⟨o2, q2⟩ := hone_of hone 2 f2 rfl
    obtain ⟨o3, q3⟩ := hone_of hone 3 f3 rfl
    match xs, hlen with
    | [y0, y1, y2, y3], _ =>
      subst hx
      have g0 : DataW.trod enc P w 0 (fun _ => true) true n f0.type [c0] = some y0 := by simpa [o0, q0] using hg 0 f0 rfl
      have g1 : DataW.trod enc P w 0 (fun _ => true) true n f1.type [c1] = some y1 := by simpa [o1, q1] using hg 1 f1 rfl
      have g2 : DataW.trod enc P w 0 (fun _ => true) true n f2.type [c2] = some y2 := by simpa [o2, q2] using hg 2 f2 rfl
      have g3 : DataW.trod enc P w 0 (fun _ => true) true n f3.type [c3] = some y3 := by simpa [o3, q3] using hg 3 f3 rfl
      obtain ⟨z0, r0, e0, _⟩ := DataW.trod_int h0 g0
      obtain ⟨s1, r1, e1, _⟩ := DataW.trod_string h1 g1
      obtain ⟨l2, v2, r2, a2, b2⟩ := open_ints1 B h2 hei hci g2
      obtain ⟨l3, v3, r3, a3, b3, c3, _⟩ := open_slice (α := Prim) B.toBulk h3 hC2 (by decide) Prim.many (fun n cs x hx => open_prim_at B.toBulk htp hone2 hC2 k0 k1 k2 k3 k4 k5 hes hces hx) g3
      cases r0; cases r1; subst r2; subst r3
      refine ⟨⟨z0, s1, l2, l3⟩, (v2, v3), rfl, ?_, ?_⟩
      · intro a ha
        have ha' : a = slA v2.1 l2 ∨ a = slA v3.1 l3 ∨ a = capA v3.2 l3.length := by simpa [Rp.asn] using ha
        rcases ha' with rfl | rfl | rfl
        · exact a2
        · exact a3
        · exact c3
      · simp only [List.map_cons, List.map_nil]
        rw [B.agg]
        simp only [B.cons, B.nil]
        rw [e0, e1]
        simp only [B.str, B.int]
        have e7 : s1.data.toList.length = s1.size := by rw [Array.length_toList]; rfl
        have m3 : Sx.many l3 ≤ B.one y3.1 := b3
        simp only [Patch.many]
        omega
theorem open_patch {r : Reach} {b0 : Nat} {t : TypeId} {v : Value} {d : DataW H} {p : List MemPlace} (B : BulkI H) (hT : PTys P t) (hv : Value.okWide P w r b0 t v) (h : DataW.Trod enc P w 0 (fun _ => true) true t v d p) :
    ∃ (x : Patch) (y : Rp.Lay Patch), v = sv x y ∧ (∀ a ∈ Rp.asn x y, a.p (fun _ => False) w) ∧ x.many + 1 ≤ B.one d := by
  obtain ⟨f0, f1, f2, f3, ei, tp, u0, u1, u2, u3, u4, u5, es, hs, _⟩ := hT.ex
  obtain ⟨cs, rfl, hsz⟩ := okWide_struct hs hv
  obtain ⟨fuel, hf⟩ := h
  obtain ⟨z, y, e1, e2, e3⟩ := open_patch_at B hT hf
  refine ⟨z, y, ?_, e2, e3⟩
  have e4 : cs.toList = Rp.enc z y := e1
  show Value.agg cs = Value.agg (Rp.enc z y).toArray
  rw [← e4]
theorem open_patches {r : Reach} {b0 : Nat} {t e : TypeId} {v : Value} {d : DataW H} {p : List MemPlace} (B : BulkI H) (ht : P.underlying t = some (.slice e)) (hT : PTys P e) (hv : Value.okWide P w r b0 t v) (h : DataW.Trod enc P w 0 (fun _ => true) true t v d p) :
    ∃ (l : List Patch) (y : Option Addr × Nat), v = .slice y.1 l.length y.2 ∧ (slA y.1 l).p (fun _ => False) w ∧ l.length + pmany l ≤ B.one d ∧ l.length ≤ y.2 := by
  obtain ⟨fuel, hf⟩ := h
  have hC : P.cellsOf e = 4 := by obtain ⟨f0, f1, f2, f3, ei, tp, u0, u1, u2, u3, u4, u5, es, hs, _, hC, _⟩ := hT.ex; exact hC
  obtain ⟨a0, len, cap, rfl⟩ := okWide_slice ht hv
  have hf' : DataW.trod enc P w 0 (fun _ => true) true fuel t [.slice a0 len cap] = some (d, p) := hf
  obtain ⟨l, y, e1, e2, e3, e4, _, _⟩ := open_slice (α := Patch) B.toBulk ht hC (by decide) Patch.many (fun n cs x hx => open_patch_at B hT hx) hf'
  exact ⟨l, y, e1, e2, e3, e4⟩
theorem pfit_many {p : Patch} (h : p.many ≤ 2000000) : p.fit := by
  unfold Patch.many at h
  have h1 : ∀ x ∈ p.l, x.many ≤ Sx.many p.l := by
    intro x hx
    unfold Sx.many
    have : x.many ≤ (p.l.map Prim.many).sum := by
      generalize p.l = l at hx
      induction l with
      | nil => cases hx
      | cons y l ih =>
        simp only [List.map_cons, List.sum_cons]
        rcases List.mem_cons.1 hx with rfl | hx
        · omega
        · have := ih hx; omega
    omega
  have h2 := many_len p.l
  exact ⟨by omega, by omega, by omega, fun x hx => by
    have := h1 x hx
    have hm : x.many ≤ 2000000 := by omega
    unfold Prim.many at hm
    have hs : ∀ (l : List ByteArray) (s : ByteArray), s ∈ l → s.size ≤ sizes l := by
      intro l s hs
      unfold sizes
      induction l with
      | nil => cases hs
      | cons y l ih =>
        simp only [List.map_cons, List.sum_cons]
        rcases List.mem_cons.1 hs with rfl | hs
        · omega
        · have := ih hs; omega
    exact ⟨by omega, by omega, by omega, by omega, fun s h => by have := hs _ _ h; omega, fun s h => by have := hs _ _ h; omega⟩⟩
theorem pmany_mem {l : List Patch} {p : Patch} (h : p ∈ l) : p.many ≤ pmany l := by
  unfold pmany
  induction l with
  | nil => cases h
  | cons y l ih =>
    simp only [List.map_cons, List.sum_cons]
    rcases List.mem_cons.1 h with rfl | h
    · omega
    · have := ih h; omega
end
end Go.Proofs.YtdbiillompeclaaGreatDoor.X

end
