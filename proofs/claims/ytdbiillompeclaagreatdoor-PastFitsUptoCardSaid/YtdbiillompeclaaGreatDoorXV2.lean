/- OWN WORK: a part of the proof of a law of the seat YtdbiillompeclaaGreatDoor: contracts. -/
import Derived.Test.YtdbiillompeclaaGreatDoorProg
import Derived.Test.YtdbiillompeclaaGreatDoorXC1
set_option linter.unusedVariables false
set_option linter.unusedSimpArgs false
namespace Go.Proofs.YtdbiillompeclaaGreatDoor.X
open Go Go.RowKit Go.Proofs Go.Sx
attribute [local irreducible] slA isA box row
theorem runs_one {T U V : List File} {l : List Prim} (h : Runs T l U) (k : Runs T l V) : U = V := (runs_applied h).trans (runs_applied k).symm
/-- M is what some of the rows make of T: all that were tried, if none failed -/
def At15 (T : List File) (rows : List (List Prim)) (k : Nat) (is : Bool) (M : List File) : Prop := ∃ j, j ≤ k ∧ Runs T (rows.take j).flatten M ∧ (is = true → j = k)
theorem At15.step {T M M1 : List File} {rows : List (List Prim)} {k : Nat} {e : Int} (h : At15 T rows k true M) (hk : k < rows.length) (hq : (M1, e) = rowT M rows[k]) : At15 T rows (k + 1) (decide (e = 0)) M1 := by
  obtain ⟨j, _, h1, h2⟩ := h
  obtain rfl := h2 rfl
  by_cases he : e = 0
  · subst he
    refine ⟨j + 1, Nat.le_refl _, ?_, fun _ => rfl⟩
    rw [List.take_succ_eq_append_getElem hk, List.flatten_append, runs_app]
    exact ⟨M, h1, by simpa using rowT_runs hq.symm⟩
  · rw [rowT_no hq he]
    exact ⟨j, by omega, h1, fun h => absurd (of_decide_eq_true h) he⟩
theorem At15.keep {T M : List File} {rows : List (List Prim)} {k : Nat} (h : At15 T rows k false M) : At15 T rows (k + 1) false M := by
  obtain ⟨j, h0, h1, _⟩ := h
  exact ⟨j, by omega, h1, fun h => by cases h⟩
theorem flat_news (rows : List (List Prim)) (j : Nat) : news (rows.take j).flatten ≤ (rows.map many).sum ∧ (rows.take j).flatten.length ≤ (rows.map List.length).sum := by
  have key : ∀ (R : List (List Prim)), news R.flatten ≤ (R.map many).sum ∧ R.flatten.length = (R.map List.length).sum := by
    intro R
    induction R with
    | nil => exact ⟨Nat.le_refl _, rfl⟩
    | cons l R ih =>
      simp only [List.flatten_cons, List.map_cons, List.sum_cons, List.length_append]
      have h1 : news (l ++ R.flatten) = news l + news R.flatten := by unfold news; simp
      have h2 := news_le l
      omega
  have h1 := key (rows.take j)
  have h2 := sum_take_le many rows j
  have h3 := sum_take_le List.length rows j
  omega
theorem At15.inv {m n k : Nat} {T M : List File} {rows : List (List Prim)} {is : Bool} (h : At15 T rows k is M) (hi : AppInv m n T) (h1 : (rows.map many).sum ≤ 6000) (h2 : (rows.map List.length).sum ≤ 60) : AppInv (m + 6000) (n + 60) M := by
  obtain ⟨j, _, h3, _⟩ := h
  have := flat_news rows j
  exact inv_mono (runs_inv h3 hi) (by omega) (by omega)
theorem preb_cases {rows : List (List Prim)} {q : Nat} {L lr : List Prim} {er : Int} (hq : q ≤ rows.length) (h : (lr, er) = prebT 0 rows (q : Int) L) : er = 151 ∨ (er = 150 ∧ 64 < (rows.length : Int) - (q : Int)) ∨ (er = 0 ∧ reb (rows.drop q).flatten L = some lr) := by
  have e0 : ((0 + q : Nat) : Int) = (q : Int) := by rw [Nat.zero_add]
  cases hk : known 0 rows.length (q : Int) with
  | false =>
    rw [prebT_no hk] at h
    refine .inr (.inl ⟨congrArg Prod.snd h, ?_⟩)
    unfold known least at hk
    simp only [Bool.and_eq_false_iff, decide_eq_false_iff_not] at hk
    omega
  | true =>
    have h2 := prebT_yes (m := L) (q := q) (by rw [e0]; exact hk)
    rw [e0] at h2
    rw [h2] at h
    cases hr : reb (rows.drop q).flatten L with
    | none => rw [hr] at h; exact .inl (congrArg Prod.snd h)
    | some r => rw [hr] at h; cases h; exact .inr (.inr ⟨rfl, rfl⟩)
theorem fits_end {T U M V : List File} {rows : List (List Prim)} {q : Nat} {L lr : List Prim} (hS : Sor T) (hG : Go.Sx.Good T) (hU : Runs T (rows.take q).flatten U) (hM : Runs T rows.flatten M) (hV : Runs U L V) (h : reb (rows.drop q).flatten L = some lr) : ∃ X, Runs M lr X := by
  rw [← List.take_append_drop q rows, List.flatten_append, runs_app] at hM
  obtain ⟨N, h1, h2⟩ := hM
  obtain rfl := runs_one h1 hU
  have hSu := runs_sor h1 hS
  obtain ⟨s, h3, _⟩ := reb_turn h
  have h4 := runs_swapL (runs_sor h2 hSu) (runs_app.2 ⟨_, runs_back hSu (runs_good h1 hG) h2, hV⟩) h3
  obtain ⟨X, h5, _⟩ := runs_app.1 h4
  exact ⟨X, h5⟩
theorem reb_lns {D L lr : List Prim} (h : reb D L = some lr) : lns lr = lns L ∧ lr.length = L.length := by
  obtain ⟨s, h1, _⟩ := reb_turn h
  exact ⟨(grid_lns (swapL_grid.1 h1)).1, (grid_len (swapL_grid.1 h1)).1⟩
theorem flat_inv {m n j : Nat} {T M : List File} {rows : List (List Prim)} (h : Runs T (rows.take j).flatten M) (hi : AppInv m n T) (h1 : (rows.map many).sum ≤ 6000) (h2 : (rows.map List.length).sum ≤ 60) : AppInv (m + 6000) (n + 60) M := by
  have := flat_news rows j
  exact inv_mono (runs_inv h hi) (by omega) (by omega)
theorem sum_mem {f : List Prim → Nat} {rows : List (List Prim)} {l : List Prim} (h : l ∈ rows) : f l ≤ (rows.map f).sum := by
  induction rows with
  | nil => cases h
  | cons x rows ih =>
    simp only [List.map_cons, List.sum_cons]
    rcases List.mem_cons.1 h with rfl | h
    · omega
    · have := ih h; omega

theorem fa72_0 : FA Tryz.prog 72 0 0 := fun b o w => by kernel_rfl
theorem fa72_1 : FA Tryz.prog 72 1 1 := fun b o w => by kernel_rfl
set_option maxRecDepth 100000 in
theorem c_pRebaseC (b : Nat)(V : Nat) (rows : List (List Prim)) (r : Ring) (hI : RI V rows r) (hV : V + rows.length ≤ 4611686018427387904)(hR : ∀ l ∈ rows, l.length ≤ 2000000 ∧ ∀ x ∈ l, x.fit) (z : Int) (m : List Prim) (A : Option Addr) (c : Nat) (hm : m.length ≤ 2000000) (hfm : ∀ x ∈ m, x.fit) : Con Tryz.prog 44 [.pointer (some ⟨b, 0, none⟩), .slice A m.length c, .int .i64 z] [box b 194 r.cells] [ringA r.rg, slA A m] {x : (List Prim × Int) × (Option Addr × Nat) // x.1 = prebT V rows z m} (fun x => .tuple #[.slice x.1.2.1 x.1.1.1.length x.1.2.2, .int .i64 x.1.1.2]) (fun _ => [box b 194 r.cells]) (fun x => [slA x.1.2.1 x.1.1.1, capA x.1.2.2 x.1.1.1.length]) := by
  refine con Tryz.func44 rfl Tryz.ntmps44 rfl ?_
  intro M0 F0 w0
  refine cs ?_
  refine cr ?_
  refine ls (o_box rfl rfl rfl) ?_
  refine le ?_; intro b4
  refine ls (o_alloc Tryz.zeroValue29 rfl rfl) ?_
  refine le ?_; intro b6
  refine ls (o_alloc Tryz.zeroValue50 rfl rfl) ?_
  refine le ?_; intro b7
  refine ln ?_
  refine nthen ?_
  refine cs ?_
  refine cs ?_
  refine cr ?_
  refine ls (op (p_move rfl) rfl) ?_
  refine ls (op (p_move rfl) rfl) ?_
  refine ls (o_call (is := [3]) Tryz.call94 (c_pKnown b V rows r hI hV z) rfl rfl (by repeat' (first | constructor | apply Sub.suf)) rfl) ?_
  refine le ?_; intro x14
  refine ls (op (p_not rfl) rfl) ?_
  refine ln ?_
  refine nthen ?_
  refine cc rfl ?_ ?_
  · intro h15
    have hk0 : known V rows.length z = false := by simpa using h15
    refine cs ?_
    refine cmono (fun a w h => nilC (α := Prim) h) ?_
    refine cr ?_
    refine ls (o_st rfl Tryz.sizeOf29 rfl rfl rfl rfl rfl (by repeat' constructor) (by repeat' constructor) (by repeat' constructor)) ?_
    refine ls (o_st rfl Tryz.sizeOf50 rfl rfl rfl rfl rfl (by repeat' constructor) (by repeat' constructor) (by repeat' constructor)) ?_
    refine ln ?_
    refine nthen ?_
    refine cret ?_
    refine xret (fun _ _ h => h) ?_
    refine rret (is := [0]) ⟨(([], 150), (none, 0)), (prebT_no hk0).symm⟩ (Or.inl rfl) (Res.c1 rfl Tryz.isAgg29 (by repeat' constructor) (Res.c1 rfl Tryz.isAgg50 (by repeat' constructor) Res.d)) (rfl) rfl (by repeat' (first | constructor | apply Sub.suf))
  · intro h15
    have hk0 : known V rows.length z = true := by simpa using h15
    obtain ⟨q, rfl, hq, hq2⟩ := known_yes hk0
    refine cskip ?_
    refine nthen ?_
    refine cs ?_
    refine cr ?_
    refine ls (o_ld Tryz.isAgg29 rfl (by repeat' constructor) (by repeat' constructor) rfl) ?_
    refine ls (o_call (is := []) Tryz.call95 (c_copied m A c hm hfm) rfl rfl (by repeat' (first | constructor | apply Sub.suf)) rfl) ?_
    refine le ?_; rintro ⟨⟨A1, c1⟩, h1⟩
    refine lmono (fun a w h => freezeN (i := 0) rfl h) ?_
    refine ls (o_st rfl Tryz.sizeOf29 rfl rfl rfl rfl rfl (by repeat' constructor) (by repeat' constructor) (by repeat' constructor)) ?_
    refine ln ?_
    refine nthen ?_
    refine cs ?_
    refine cs ?_
    refine cr ?_
    refine ls (op (p_move rfl) rfl) ?_
    refine ls (op (p_move rfl) rfl) ?_
    refine ls (o_call (is := []) Tryz.call96 (c_pBehind b ((V + q : Nat) : Int)) rfl rfl (by repeat' (first | constructor | apply Sub.suf)) rfl) ?_
    refine le ?_; rintro ⟨bv, bp⟩
    refine ln ?_
    refine nthen ?_
    refine cb ?_
    refine crng (ι := fun pre => {y : List Prim × (Option Addr × Nat) // RbI rows q pre.length m y.1}) rfl Tryz.call137 (c_pBehind1 V rows r hI hV q hq hq2 b bv bp) (fun _ => rfl) rfl (fun pre i => [box b4 29 [.slice i.1.2.1 i.1.1.length i.1.2.2], box b6 29 [.slice none 0 0], box b7 50 [.int .i64 0]]) (fun pre i => [slA i.1.2.1 i.1.1, capA i.1.2.2 i.1.1.length]) (⟨(m, (A1, c1)), RbI.start hfm⟩) (Y := {u : Unit // reb (rows.drop q).flatten m = none}) (fun _ => [box b6 29 [.slice none 0 0], box b7 50 [.int .i64 151]]) (fun _ => []) (is := [5, 4, 3, 0, 0, 0]) rfl (by repeat' (first | constructor | apply Sub.suf)) (by repeat' (first | constructor | apply Sub.suf)) ?_ ?_ ?_
    ·
      rintro M0 F0 w0 lp κ pre ⟨⟨k, ⟨Ak, ck⟩⟩, hk⟩ hx ⟨⟨f, ⟨A2, c2⟩⟩, hB⟩
      dsimp only at hk hx hB ⊢
      subst hx
      have hRk := hR _ (List.getElem_mem hk)
      have hfl := hB.len
      refine cmono (S' := St M0 F0 w0 ⟨33, []⟩ [(4, .pointer (some ⟨b4, 0, none⟩)), (6, .pointer (some ⟨b6, 0, none⟩)), (7, .pointer (some ⟨b7, 0, none⟩)), (22, .slice Ak (rows[q + pre.length]).length ck)] [lrec lp κ .ready none, box b4 29 [.slice A2 f.length c2], box b6 29 [.slice none 0 0], box b7 50 [.int .i64 0]] [slA A2 f, capA c2 f.length, slA Ak (rows[q + pre.length])]) (wk0 (by repeat (first | exact subσ.nil _ | refine subσ.cons rfl ?_)) (by repeat' (first | constructor | apply Sub.suf))) ?_
      refine cr ?_
      refine ls (op (p_asg rfl) rfl) ?_
      refine ln ?_
      refine nbegin (i := 0) rfl ?_
      refine cb ?_
      refine cs ?_
      refine cr ?_
      refine ls (o_ld Tryz.isAgg29 rfl (by repeat' constructor) (by repeat' constructor) rfl) ?_
      refine ls (op (p_move rfl) rfl) ?_
      refine ls (o_call (is := []) Tryz.call97 (c_seqRebaseC (rows[q + pre.length]) f Ak A2 ck c2 hRk.1 (by omega) hRk.2 hB.fit) rfl rfl (by repeat' (first | constructor | apply Sub.suf)) rfl) ?_
      refine le ?_; rintro ⟨⟨⟨g, b2⟩, ⟨A3, c3⟩⟩, hr⟩
      refine ls (op (p_move rfl) rfl) ?_
      refine ls (op (p_ext rfl (by repeat' constructor)) rfl) ?_
      refine ls (op (p_ext rfl (by repeat' constructor)) rfl) ?_
      refine ls (op (p_asg rfl) rfl) ?_
      refine ls (op (p_asg rfl) rfl) ?_
      refine ln ?_
      refine nthen ?_
      refine cs ?_
      refine cs ?_
      refine cr ?_
      refine ls (op (p_move rfl) rfl) ?_
      refine ls (op (p_not rfl) rfl) ?_
      refine ln ?_
      refine nthen ?_
      refine cc rfl ?_ ?_
      · intro h30
        obtain rfl : false = b2 := by cases b2 <;> first | rfl | (simp at h30)
        refine cs ?_
        refine cr ?_
        refine ls (o_st rfl Tryz.sizeOf29 rfl rfl rfl rfl rfl (by repeat' constructor) (by repeat' constructor) (by repeat' constructor)) ?_
        refine ls (o_st rfl Tryz.sizeOf50 rfl rfl rfl rfl rfl (by repeat' constructor) (by repeat' constructor) (by repeat' constructor)) ?_
        refine ln ?_
        refine nthen ?_
        refine cret ?_
        refine xretR (fun _ _ h => h) ?_
        exact nrret ⟨(), hB.stop hk hr⟩ (is := [0, 1, 1]) rfl (by repeat' (first | constructor | apply Sub.suf))
      · intro h30
        obtain rfl : true = b2 := by cases b2 <;> first | rfl | (simp at h30)
        refine cskip ?_
        refine nthen ?_
        refine cr ?_
        refine ls (op (p_move rfl) rfl) ?_
        refine ls (o_st rfl Tryz.sizeOf29 rfl rfl rfl rfl rfl (by repeat' constructor) (by repeat' constructor) (by repeat' constructor)) ?_
        refine ln ?_
        refine nblock ?_
        exact nround ⟨(g, (A3, c3)), by rw [List.length_append]; exact hB.step hk hRk.2 hr⟩ (is := [0, 0, 0, 0]) rfl (by repeat' (first | constructor | apply Sub.suf))
    ·
      rintro D xs hC ⟨⟨f, ⟨A2, c2⟩⟩, hB⟩
      have hd := hB.done hC
      refine nblock ?_
      refine nthen ?_
      refine cs ?_
      refine cr ?_
      refine ls (o_ld Tryz.isAgg29 rfl (by repeat' constructor) (by repeat' constructor) rfl) ?_
      refine ls (o_st rfl Tryz.sizeOf29 rfl rfl rfl rfl rfl (by repeat' constructor) (by repeat' constructor) (by repeat' constructor)) ?_
      refine ls (o_st rfl Tryz.sizeOf50 rfl rfl rfl rfl rfl (by repeat' constructor) (by repeat' constructor) (by repeat' constructor)) ?_
      refine ln ?_
      refine nthen ?_
      refine cret ?_
      refine xret (fun _ _ h => h) ?_
      refine rretm (Dfr.c (i := 6) rfl Dfr.d) (is := [5]) ⟨((f, 0), (A2, c2)), by rw [prebT_yes hk0, hd]⟩ (Or.inl rfl) (Res.c1 rfl Tryz.isAgg29 (by repeat' constructor) (Res.c1 rfl Tryz.isAgg50 (by repeat' constructor) Res.d)) (rfl) rfl (by repeat' (first | constructor | apply Sub.suf))
    ·
      rintro D ⟨_, hst⟩
      refine nmono (fun a w h => nilC (α := Prim) h) ?_
      refine xret (fun _ _ h => h) ?_
      refine rretm (Dfr.c (i := 5) rfl Dfr.d) (is := [4]) ⟨(([], 151), (none, 0)), by rw [prebT_yes hk0, hst]⟩ (Or.inl rfl) (Res.c1 rfl Tryz.isAgg29 (by repeat' constructor) (Res.c1 rfl Tryz.isAgg50 (by repeat' constructor) Res.d)) (rfl) rfl (by repeat' (first | constructor | apply Sub.suf))

set_option maxRecDepth 100000 in
theorem c_PastFits (l : List TOp) (A : Option Addr) (c : Nat) (hl : l.length ≤ 1048576) (hM : omany l ≤ 1048576) (rows : List (List Prim)) (B : Option Addr) (c' : Nat) (hn : rows.length ≤ 1048576) (hR : ∀ l ∈ rows, l.length ≤ 2000000 ∧ ∀ x ∈ l, x.fit) (hMr : (rows.map many).sum ≤ 1048576) (z : Int) (L : List Prim) (D : Option Addr) (d' : Nat) (hL : L.length ≤ 1048576) (hfL : ∀ x ∈ L, x.fit) (hML : many L ≤ 1048576) : Con Tryz.prog 6 [.slice A l.length c, .slice B rows.length c', .agg #[.int .i64 z, .slice D L.length d']] [] [slA A l, slA B rows, slA D L] Unit (fun _ => .bool true) (fun _ => []) (fun _ => []) := by
  have hMo : ∀ o ∈ l, o.many ≤ 2000000 := fun o ho => by have := omany_mem ho; omega
  have htok : Tok l.length 2000000 (madeT l) := madeT_tok hMo
  have hlen := htok.len
  have hfit : Tfit (madeT l) := fun x hx => (htok.fit x hx).1
  have hso := madeT_sor l
  have hgood := madeT_good l
  have hinv := AppInv.made l
  refine con Tryz.func6 rfl Tryz.ntmps6 rfl ?_
  intro M0 F0 w0
  refine cs ?_
  refine cr ?_
  refine ls (o_box rfl rfl rfl) ?_
  refine le ?_; intro b5
  refine ls (op (p_asg rfl) rfl) ?_
  refine ln ?_
  refine nthen ?_
  refine cs ?_
  refine cs ?_
  refine cr ?_
  refine ls (op (p_move rfl) rfl) ?_
  refine ls (o_call (is := []) Tryz.call31 (c_Few02 l A c (by omega) (by omega)) rfl rfl (by repeat' (first | constructor | apply Sub.suf)) rfl) ?_
  refine le ?_; intro x18
  refine ls (op (p_icmp rfl rfl rfl) rfl) ?_
  refine ls (op (p_move rfl) rfl) ?_
  refine orX 6 20 26 rfl (subσ.cons (t := 0) rfl (subσ.cons (t := 1) rfl (subσ.cons (t := 2) rfl (subσ.cons (t := 5) rfl (subσ.cons (t := 6) rfl (subσ.nil _)))))) ?_ ?_
  · intro h20
    refine lskip rfl rfl rfl rfl rfl ?_
    refine lskip rfl rfl rfl rfl rfl ?_
    refine lskip rfl rfl rfl rfl rfl ?_
    refine lskip rfl rfl rfl rfl rfl ?_
    refine lskip rfl rfl rfl rfl rfl ?_
    refine ls (op (p_pickt rfl rfl) rfl) ?_
    refine ln (nmid (wk0 (by repeat (first | exact subσ.nil _ | refine subσ.cons rfl ?_)) (by repeat' (first | constructor | apply Sub.suf))))
  apply exI
  · intro h20
    refine lwant rfl rfl rfl rfl (op (p_move rfl) rfl) ?_
    refine lwant rfl rfl rfl rfl (op (p_fa fa72_1 rfl) rfl) ?_
    refine lwant rfl rfl rfl rfl (o_ld Tryz.isAgg23 rfl (by repeat' constructor) (by repeat' constructor) rfl) ?_
    refine lwant rfl rfl rfl rfl (o_call (is := []) Tryz.call40 (c_few15 rows B c' L D d' (by omega) (by omega) (fun l hl => (hR l hl).1) (by omega) (by have h : (rows.map List.length).sum ≤ (rows.map many).sum := lens_le rows; omega)) rfl rfl (by repeat' (first | constructor | apply Sub.suf)) rfl) ?_
    refine le ?_; intro x24
    refine lwant rfl rfl rfl rfl (op (p_not rfl) rfl) ?_
    refine ls (op (p_pickf rfl rfl) rfl) ?_
    refine ln (nmid (wk0 (by repeat (first | exact subσ.nil _ | refine subσ.cons rfl ?_)) (by repeat' (first | constructor | apply Sub.suf))))
  ·
    refine ls (op (p_move rfl) rfl) ?_
    refine orX 4 27 31 rfl (subσ.cons (t := 0) rfl (subσ.cons (t := 1) rfl (subσ.cons (t := 2) rfl (subσ.cons (t := 5) rfl (subσ.cons (t := 6) rfl (subσ.nil _)))))) ?_ ?_
    · intro h27
      refine lskip rfl rfl rfl rfl rfl ?_
      refine lskip rfl rfl rfl rfl rfl ?_
      refine lskip rfl rfl rfl rfl rfl ?_
      refine ls (op (p_pickt rfl rfl) rfl) ?_
      refine ln (nmid (wk0 (by repeat (first | exact subσ.nil _ | refine subσ.cons rfl ?_)) (by repeat' (first | constructor | apply Sub.suf))))
    apply exI
    · intro h27
      refine lwant rfl rfl rfl rfl (op (p_fa fa72_0 rfl) rfl) ?_
      refine lwant rfl rfl rfl rfl (o_ld Tryz.isAgg3 rfl (by repeat' constructor) (by repeat' constructor) rfl) ?_
      refine lwant rfl rfl rfl rfl (op (p_icmp rfl rfl rfl) rfl) ?_
      refine ls (op (p_pickf rfl rfl) rfl) ?_
      refine ln (nmid (wk0 (by repeat (first | exact subσ.nil _ | refine subσ.cons rfl ?_)) (by repeat' (first | constructor | apply Sub.suf))))
    ·
      refine ls (op (p_move rfl) rfl) ?_
      refine orX 6 32 38 rfl (subσ.cons (t := 0) rfl (subσ.cons (t := 1) rfl (subσ.cons (t := 2) rfl (subσ.cons (t := 5) rfl (subσ.cons (t := 6) rfl (subσ.nil _)))))) ?_ ?_
      · intro h32
        refine lskip rfl rfl rfl rfl rfl ?_
        refine lskip rfl rfl rfl rfl rfl ?_
        refine lskip rfl rfl rfl rfl rfl ?_
        refine lskip rfl rfl rfl rfl rfl ?_
        refine lskip rfl rfl rfl rfl rfl ?_
        refine ls (op (p_pickt rfl rfl) rfl) ?_
        refine ln (nmid (wk0 (by repeat (first | exact subσ.nil _ | refine subσ.cons rfl ?_)) (by repeat' (first | constructor | apply Sub.suf))))
      apply exI
      · intro h32
        refine lwant rfl rfl rfl rfl (op (p_fa fa72_0 rfl) rfl) ?_
        refine lwant rfl rfl rfl rfl (o_ld Tryz.isAgg3 rfl (by repeat' constructor) (by repeat' constructor) rfl) ?_
        refine lwant rfl rfl rfl rfl (op (p_move rfl) rfl) ?_
        refine lwant rfl rfl rfl rfl (op (p_lenl rfl Tryz.underlying70) rfl) ?_
        refine lwant rfl rfl rfl rfl (op (p_icmp rfl rfl rfl) rfl) ?_
        refine ls (op (p_pickf rfl rfl) rfl) ?_
        refine ln (nmid (wk0 (by repeat (first | exact subσ.nil _ | refine subσ.cons rfl ?_)) (by repeat' (first | constructor | apply Sub.suf))))
      ·
        refine ln ?_
        refine nthen ?_
        refine cc rfl ?_ ?_
        · intro h38
          skip
          refine cs ?_
          refine cr ?_
          refine ls (o_call (is := []) Tryz.call41 (c_alive15) rfl rfl (by repeat' (first | constructor | apply Sub.suf)) rfl) ?_
          refine le ?_; intro x39
          refine ls (op (p_asg rfl) rfl) ?_
          refine ln ?_
          refine nthen ?_
          refine cret ?_
          refine xret (fun _ _ h => h) ?_
          refine rret (is := []) () (Or.inl rfl) (Res.t rfl Res.d) (rfl) rfl (by repeat' (first | constructor | apply Sub.suf))
        · intro h38
          obtain ⟨⟨hf0, hz0⟩, hzn⟩ : (fewT rows L = true ∧ 0 ≤ z) ∧ z ≤ (rows.length : Int) := by have h := h38; simp only [Bool.or_eq_false_iff, Bool.not_eq_false', decide_eq_false_iff_not] at h; exact ⟨⟨h.1.1.2, by omega⟩, by omega⟩
          obtain ⟨hf1, hf2⟩ := fewT_yes hf0
          obtain ⟨q, rfl⟩ : ∃ q : Nat, z = (q : Int) := ⟨z.toNat, by omega⟩
          have hLL := lns_many L
          have hs1 : (rows.map many).sum ≤ 6000 := by omega
          have hs2 : (rows.map List.length).sum ≤ 60 := by omega
          refine cskip ?_
          refine nthen ?_
          refine cs ?_
          refine cr ?_
          refine ls (op (p_move rfl) rfl) ?_
          refine ls (o_call (is := []) Tryz.call32 (c_Made02 l A c (by omega) hMo) rfl rfl (by repeat' (first | constructor | apply Sub.suf)) rfl) ?_
          refine le ?_; rintro ⟨⟨p, b⟩, ⟨A2, c2⟩⟩
          refine ls (op (p_move rfl) rfl) ?_
          refine ls (op (p_ext rfl (by repeat' constructor)) rfl) ?_
          refine ls (op (p_ext rfl (by repeat' constructor)) rfl) ?_
          refine ls (op (p_asg rfl) rfl) ?_
          refine ls (op (p_asg rfl) rfl) ?_
          refine ln ?_
          refine nthen ?_
          refine cs ?_
          refine cr ?_
          refine ls (op (p_move rfl) rfl) ?_
          refine ls (o_call (is := []) Tryz.call42 (c_made15 0 0 rfl rows B c' (by omega) (by omega) hR) rfl rfl (by repeat' (first | constructor | apply Sub.suf)) rfl) ?_
          refine le ?_; rintro ⟨⟨b1, r, ⟨A1, c1⟩⟩, hI, hc, h0⟩
          dsimp only at hI hc h0
          refine ls (op (p_move rfl) rfl) ?_
          refine ls (op (p_ext rfl (by repeat' constructor)) rfl) ?_
          refine ls (op (p_ext rfl (by repeat' constructor)) rfl) ?_
          refine ls (o_alloc Tryz.zeroValue76 rfl rfl) ?_
          refine le ?_; intro b10
          refine ls (op (p_asg rfl) rfl) ?_
          refine ls (o_st rfl Tryz.sizeOf76 rfl rfl rfl rfl rfl (by repeat' constructor) (by repeat' constructor) (by repeat' constructor)) ?_
          refine ln ?_
          refine nthen ?_
          refine cs ?_
          refine cs ?_
          refine cr ?_
          refine ls (op (p_move rfl) rfl) ?_
          refine ls (op (p_ptrnil Tryz.underlying47 rfl rfl) rfl) ?_
          refine ls (op (p_move rfl) rfl) ?_
          refine lwant rfl rfl rfl rfl (op (p_move rfl) rfl) ?_
          refine lwant rfl rfl rfl rfl (op (p_ptrnil Tryz.underlying74 rfl rfl) rfl) ?_
          refine ls (op (p_pickf rfl rfl) rfl) ?_
          refine ln ?_
          refine nthen ?_
          refine cc rfl (fun h => by cases h) (fun h => ?_)
          refine cskip ?_
          refine nthen ?_
          refine cs ?_
          refine cr ?_
          refine ls (op (p_asg rfl) rfl) ?_
          refine ln ?_
          refine nthen ?_
          refine cs ?_
          refine cr ?_
          refine ls (op (p_move rfl) rfl) ?_
          refine ls (o_call (is := [2, 2]) Tryz.call36 (c_tCopy p b (madeT l)) rfl rfl (by repeat' (first | constructor | apply Sub.suf)) rfl) ?_
          refine le ?_; rintro ⟨p4, b4t⟩
          refine ls (op (p_asg rfl) rfl) ?_
          refine ln ?_
          refine nthen ?_
          refine cs ?_
          refine cs ?_
          refine cr ?_
          refine ls (op (p_move rfl) rfl) ?_
          refine ls (op (p_lenl rfl Tryz.underlying70) rfl) ?_
          refine ls (op (p_move rfl) rfl) ?_
          refine ln ?_
          refine nthen ?_
          refine cb ?_
          refine cl (ι := {x : Nat × Bool × List File × (Nat × Nat) × List File // x.1 ≤ rows.length ∧ At15 (madeT l) rows x.1 x.2.1 x.2.2.1 ∧ ∃ j, Runs (madeT l) (rows.take j).flatten x.2.2.2.2 ∧ (x.2.1 = true → q < x.1 → j = q)}) (fun i => St M0 F0 w0 135 [(1, .slice B rows.length c'), (5, .pointer (some ⟨b5, 0, none⟩)), (7, .pointer (some ⟨p, 0, none⟩)), (9, .pointer (some ⟨b1, 0, none⟩)), (11, .bool i.1.2.1), (12, .pointer (some ⟨i.1.2.2.2.1.1, 0, none⟩)), (58, .slice B rows.length c'), (59, .int .i64 (rows.length : Int)), (60, .int .i64 (i.1.1 : Int))] [box p 120 [.map (some b)], tr b i.1.2.2.1, box i.1.2.2.2.1.1 120 [.map (some i.1.2.2.2.1.2)], tr i.1.2.2.2.1.2 i.1.2.2.2.2, box b5 72 [.int .i64 ((q : Nat) : Int), .slice D L.length d'], box b1 194 r.cells] [slA B rows, slA D L, ringA r.rg]) (fun i => rows.length - i.1.1) ⟨(0, true, madeT l, (p4, b4t), madeT l), Nat.zero_le _, ⟨0, Nat.le_refl _, rfl, fun _ => rfl⟩, ⟨0, rfl, fun _ h => absurd h (Nat.not_lt_zero _)⟩⟩ (wk (is := [2, 2, 0, 0, 2, 1]) (by repeat (first | exact subσ.nil _ | refine subσ.cons rfl ?_)) rfl (by repeat' (first | constructor | apply Sub.suf))) ?_
          rintro ⟨⟨k, ok, M, ⟨p4, b4t⟩, U⟩, hk, hAt, ⟨j, hj1, hj2⟩⟩
          refine cmono (S' := St M0 F0 w0 135 [(1, .slice B rows.length c'), (5, .pointer (some ⟨b5, 0, none⟩)), (7, .pointer (some ⟨p, 0, none⟩)), (9, .pointer (some ⟨b1, 0, none⟩)), (11, .bool ok), (12, .pointer (some ⟨p4, 0, none⟩)), (58, .slice B rows.length c'), (59, .int .i64 (rows.length : Int)), (60, .int .i64 (k : Int))] [box p 120 [.map (some b)], tr b M, box p4 120 [.map (some b4t)], tr b4t U, box b5 72 [.int .i64 ((q : Nat) : Int), .slice D L.length d'], box b1 194 r.cells] [slA B rows, slA D L, ringA r.rg]) (fun _ _ h => h) ?_
          refine cs ?_
          refine cr ?_
          refine ls (op (p_icmp rfl rfl rfl) rfl) ?_
          refine ln ?_
          refine nthen ?_
          refine cs ?_
          refine cc rfl ?_ ?_
          · intro h61
            dsimp only at hk hAt hj1 hj2
            try simp only [decide_eq_true_eq, decide_eq_false_iff_not, Bool.not_eq_true', Bool.not_eq_false', Int.not_lt, Int.not_le, ge_iff_le, Bool.not_true, Bool.not_false] at h61
            have hk1 : k < rows.length := by omega
            have hRk := hR _ (List.getElem_mem hk1)
            have hiM := hAt.inv hinv hs1 hs2
            have hm1 := sum_mem (f := many) (List.getElem_mem hk1)
            have hm2 := sum_mem (f := List.length) (List.getElem_mem hk1)
            have hm3 := lns_many rows[k]
            refine cskip ?_
            refine nthen ?_
            refine cs ?_
            refine cb ?_
            refine cs ?_
            refine elC (by repeat' constructor) k (List.getElem?_eq_getElem (l := rows) hk1) ?_; rintro zbp zop zyp hAp
            refine cr ?_
            refine ls (op (p_move rfl) rfl) ?_
            refine ls (op (p_ia k hAp hk1 rfl Tryz.underlying70 Tryz.sizeOf23 rfl rfl) rfl) ?_
            refine ls (o_ldi Tryz.isAgg23 rfl (by repeat' constructor) 0 rfl (by repeat (first | exact Cut.d | apply Cut.t | apply Cut.s)) rfl) ?_
            refine ls (op (p_asg rfl) rfl) ?_
            refine ls (op (p_asg rfl) rfl) ?_
            refine ln ?_
            refine nthen ?_
            refine cs ?_
            refine cs ?_
            refine cr ?_
            refine ls (op (p_move rfl) rfl) ?_
            refine ls (op (p_fa fa72_0 rfl) rfl) ?_
            refine ls (o_ld Tryz.isAgg3 rfl (by repeat' constructor) (by repeat' constructor) rfl) ?_
            refine ls (op (p_icmp rfl rfl rfl) rfl) ?_
            refine ln ?_
            refine nthen ?_
            refine cc rfl ?_ ?_
            · intro h68
              have hkq : k = q := by have h := h68; simp at h; omega
              refine cr ?_
              refine ls (op (p_move rfl) rfl) ?_
              refine ls (o_call (is := [0, 0]) Tryz.call36 (c_tCopy p b M) rfl rfl (by repeat' (first | constructor | apply Sub.suf)) rfl) ?_
              refine le ?_; rintro ⟨p5, b5t⟩
              refine ls (op (p_asg rfl) rfl) ?_
              refine ln ?_
              refine nthen ?_
              refine cr ?_
              refine ls (op (p_move rfl) rfl) ?_
              refine ls (op (p_move rfl) rfl) ?_
              refine splitL 72 rfl ?_ ?_
              · intro h72
                obtain rfl : ok = true := h72
                refine lwant rfl rfl rfl rfl (op (p_move rfl) rfl) ?_
                refine lwant rfl rfl rfl rfl (op (p_move rfl) rfl) ?_
                refine lwant rfl rfl rfl rfl (o_call (is := []) Tryz.call43 (c_lNewC rows[k] zyp.1 zyp.2 hRk.1) rfl rfl (by repeat' (first | constructor | apply Sub.suf)) rfl) ?_
                refine le ?_; rintro ⟨A75, c75⟩
                refine lpure (St.cap (m := rows[k].length) (c := c75) (by repeat' constructor)) ?_
                intro hcap75
                refine lwant rfl rfl rfl rfl (o_call (is := [2, 2]) Tryz.call27 (c_seqApply p b M (omany l + 6000) (l.length + 60) hiM rows[k] A75 c75 hcap75 (by omega) hRk.2 (by omega) (by omega)) rfl rfl (by repeat' (first | constructor | apply Sub.suf)) rfl) ?_
                refine le ?_; rintro ⟨⟨M1, e1⟩, hq1⟩
                try dsimp only at hq1
                refine lwant rfl rfl rfl rfl (op (p_icmp rfl rfl rfl) rfl) ?_
                refine ls (op (p_pickt rfl rfl) rfl) ?_
                refine ls (op (p_asg rfl) rfl) ?_
                refine ln ?_
                refine nblock ?_
                refine nthen ?_
                refine cr ?_
                refine ls (op (p_add rfl rfl (by omega)) rfl) ?_
                refine ls (op (p_move rfl) rfl) ?_
                refine ln ?_
                refine nnext ⟨(k + 1, decide (e1 = 0), M1, (p5, b5t), M), hk1, hAt.step hk1 hq1, by { obtain ⟨j', _, g1, g2⟩ := hAt; exact ⟨j', g1, fun _ _ => (g2 rfl).trans hkq⟩ }⟩ (by dsimp only; omega) (wk (is := [0, 0, 0, 0, 2, 2]) (by repeat (first | exact subσ.nil _ | refine subσ.cons rfl ?_)) rfl (by repeat' (first | constructor | apply Sub.suf)))
              · intro h72
                obtain rfl : ok = false := h72
                refine lskip rfl rfl rfl rfl rfl ?_
                refine lskip rfl rfl rfl rfl rfl ?_
                refine lskip rfl rfl rfl rfl rfl ?_
                refine lskip rfl rfl rfl rfl rfl ?_
                refine lskip rfl rfl rfl rfl rfl ?_
                refine ls (op (p_pickf rfl rfl) rfl) ?_
                refine ls (op (p_asg rfl) rfl) ?_
                refine ln ?_
                refine nblock ?_
                refine nthen ?_
                refine cr ?_
                refine ls (op (p_add rfl rfl (by omega)) rfl) ?_
                refine ls (op (p_move rfl) rfl) ?_
                refine ln ?_
                refine nnext ⟨(k + 1, false, M, (p5, b5t), M), hk1, hAt.keep, by { obtain ⟨j', _, g1, g2⟩ := hAt; exact ⟨j', g1, fun h => by cases h⟩ }⟩ (by dsimp only; omega) (wk (is := [2, 2, 0, 0, 2, 2]) (by repeat (first | exact subσ.nil _ | refine subσ.cons rfl ?_)) rfl (by repeat' (first | constructor | apply Sub.suf)))
            · intro h68
              have hkq : ¬ k = q := by have h := h68; simp at h; omega
              refine cskip ?_
              refine nthen ?_
              refine cr ?_
              refine ls (op (p_move rfl) rfl) ?_
              refine ls (op (p_move rfl) rfl) ?_
              refine splitL 72 rfl ?_ ?_
              · intro h72
                obtain rfl : ok = true := h72
                refine lwant rfl rfl rfl rfl (op (p_move rfl) rfl) ?_
                refine lwant rfl rfl rfl rfl (op (p_move rfl) rfl) ?_
                refine lwant rfl rfl rfl rfl (o_call (is := []) Tryz.call43 (c_lNewC rows[k] zyp.1 zyp.2 hRk.1) rfl rfl (by repeat' (first | constructor | apply Sub.suf)) rfl) ?_
                refine le ?_; rintro ⟨A75, c75⟩
                refine lpure (St.cap (m := rows[k].length) (c := c75) (by repeat' constructor)) ?_
                intro hcap75
                refine lwant rfl rfl rfl rfl (o_call (is := [0, 0]) Tryz.call27 (c_seqApply p b M (omany l + 6000) (l.length + 60) hiM rows[k] A75 c75 hcap75 (by omega) hRk.2 (by omega) (by omega)) rfl rfl (by repeat' (first | constructor | apply Sub.suf)) rfl) ?_
                refine le ?_; rintro ⟨⟨M1, e1⟩, hq1⟩
                try dsimp only at hq1
                refine lwant rfl rfl rfl rfl (op (p_icmp rfl rfl rfl) rfl) ?_
                refine ls (op (p_pickt rfl rfl) rfl) ?_
                refine ls (op (p_asg rfl) rfl) ?_
                refine ln ?_
                refine nblock ?_
                refine nthen ?_
                refine cr ?_
                refine ls (op (p_add rfl rfl (by omega)) rfl) ?_
                refine ls (op (p_move rfl) rfl) ?_
                refine ln ?_
                refine nnext ⟨(k + 1, decide (e1 = 0), M1, (p4, b4t), U), hk1, hAt.step hk1 hq1, ⟨j, hj1, fun _ h => hj2 rfl (by dsimp only at h; omega)⟩⟩ (by dsimp only; omega) (wk (is := [0, 0, 0, 0, 0, 0]) (by repeat (first | exact subσ.nil _ | refine subσ.cons rfl ?_)) rfl (by repeat' (first | constructor | apply Sub.suf)))
              · intro h72
                obtain rfl : ok = false := h72
                refine lskip rfl rfl rfl rfl rfl ?_
                refine lskip rfl rfl rfl rfl rfl ?_
                refine lskip rfl rfl rfl rfl rfl ?_
                refine lskip rfl rfl rfl rfl rfl ?_
                refine lskip rfl rfl rfl rfl rfl ?_
                refine ls (op (p_pickf rfl rfl) rfl) ?_
                refine ls (op (p_asg rfl) rfl) ?_
                refine ln ?_
                refine nblock ?_
                refine nthen ?_
                refine cr ?_
                refine ls (op (p_add rfl rfl (by omega)) rfl) ?_
                refine ls (op (p_move rfl) rfl) ?_
                refine ln ?_
                refine nnext ⟨(k + 1, false, M, (p4, b4t), U), hk1, hAt.keep, ⟨j, hj1, fun h => by cases h⟩⟩ (by dsimp only; omega) (wk (is := [0, 0, 0, 0, 0, 0]) (by repeat (first | exact subσ.nil _ | refine subσ.cons rfl ?_)) rfl (by repeat' (first | constructor | apply Sub.suf)))
          · intro h61
            dsimp only at hk hAt hj1 hj2
            try simp only [decide_eq_true_eq, decide_eq_false_iff_not, Bool.not_eq_true', Bool.not_eq_false', Int.not_lt, Int.not_le, ge_iff_le, Bool.not_true, Bool.not_false] at h61
            obtain rfl : k = rows.length := by omega
            have hiM := hAt.inv hinv hs1 hs2
            refine cexit ?_
            refine xthen ?_
            refine xthen ?_
            refine xblock ?_
            refine nthen ?_
            refine cs ?_
            refine cs ?_
            refine cr ?_
            refine ls (op (p_fa fa72_0 rfl) rfl) ?_
            refine ls (o_ld Tryz.isAgg3 rfl (by repeat' constructor) (by repeat' constructor) rfl) ?_
            refine ls (op (p_move rfl) rfl) ?_
            refine ls (op (p_lenl rfl Tryz.underlying70) rfl) ?_
            refine ls (op (p_icmp rfl rfl rfl) rfl) ?_
            refine ln ?_
            refine nthen ?_
            refine cc rfl ?_ ?_
            · intro h84
              have hqn : q = rows.length := by have h := h84; simp at h; omega
              refine cr ?_
              refine ls (op (p_move rfl) rfl) ?_
              refine ls (o_call (is := [0, 0]) Tryz.call36 (c_tCopy p b M) rfl rfl (by repeat' (first | constructor | apply Sub.suf)) rfl) ?_
              refine le ?_; rintro ⟨p6, b6t⟩
              refine ls (op (p_asg rfl) rfl) ?_
              refine ln ?_
              refine nthen ?_
              refine cs ?_
              refine cs ?_
              refine cr ?_
              refine ls (op (p_move rfl) rfl) ?_
              refine ls (op (p_not rfl) rfl) ?_
              refine ls (op (p_move rfl) rfl) ?_
              refine splitL 89 rfl ?_ ?_
              · intro h89
                skip
                refine lskip rfl rfl rfl rfl rfl ?_
                refine lskip rfl rfl rfl rfl rfl ?_
                refine lskip rfl rfl rfl rfl rfl ?_
                refine lskip rfl rfl rfl rfl rfl ?_
                refine lskip rfl rfl rfl rfl rfl ?_
                refine lskip rfl rfl rfl rfl rfl ?_
                refine ls (op (p_pickt rfl rfl) rfl) ?_
                refine ln ?_
                refine nthen ?_
                refine cc rfl (fun h => ?_) (fun h => by cases h)
                refine cs ?_
                refine cr ?_
                refine ls (o_call (is := []) Tryz.call41 (c_alive15) rfl rfl (by repeat' (first | constructor | apply Sub.suf)) rfl) ?_
                refine le ?_; intro x97
                refine ls (op (p_asg rfl) rfl) ?_
                refine ln ?_
                refine nthen ?_
                refine cret ?_
                refine xret (fun _ _ h => h) ?_
                refine rret (is := []) () (Or.inl rfl) (Res.t rfl Res.d) (rfl) rfl (by repeat' (first | constructor | apply Sub.suf))
              · intro h89
                obtain rfl : ok = true := by simpa using h89
                obtain ⟨j', _, g1, g2⟩ := hAt
                obtain rfl := g2 rfl
                have hrM : Runs (madeT l) rows.flatten M := by rwa [List.take_length] at g1
                have hrU : Runs (madeT l) (rows.take q).flatten M := by rw [hqn]; exact g1
                have hiU := hiM
                refine lwant rfl rfl rfl rfl (op (p_move rfl) rfl) ?_
                refine lwant rfl rfl rfl rfl (op (p_fa fa72_1 rfl) rfl) ?_
                refine lwant rfl rfl rfl rfl (o_ld Tryz.isAgg23 rfl (by repeat' constructor) (by repeat' constructor) rfl) ?_
                refine lwant rfl rfl rfl rfl (o_call (is := []) Tryz.call43 (c_lNewC L D d' (by omega)) rfl rfl (by repeat' (first | constructor | apply Sub.suf)) rfl) ?_
                refine le ?_; rintro ⟨A93, c93⟩
                refine lpure (St.cap (m := L.length) (c := c93) (by repeat' constructor)) ?_
                intro hcap93
                refine lwant rfl rfl rfl rfl (o_call (is := [0, 0]) Tryz.call27 (c_seqApply p6 b6t M (omany l + 6000) (l.length + 60) hiU L A93 c93 hcap93 (by omega) hfL (by omega) (by omega)) rfl rfl (by repeat' (first | constructor | apply Sub.suf)) rfl) ?_
                refine le ?_; rintro ⟨⟨V, e2⟩, hq2⟩
                try dsimp only at hq2
                refine lwant rfl rfl rfl rfl (op (p_icmp rfl rfl rfl) rfl) ?_
                refine ls (op (p_pickf rfl rfl) rfl) ?_
                refine ln ?_
                refine nthen ?_
                refine cc rfl ?_ ?_
                · intro h96
                  skip
                  refine cs ?_
                  refine cr ?_
                  refine ls (o_call (is := []) Tryz.call41 (c_alive15) rfl rfl (by repeat' (first | constructor | apply Sub.suf)) rfl) ?_
                  refine le ?_; intro x97
                  refine ls (op (p_asg rfl) rfl) ?_
                  refine ln ?_
                  refine nthen ?_
                  refine cret ?_
                  refine xret (fun _ _ h => h) ?_
                  refine rret (is := []) () (Or.inl rfl) (Res.t rfl Res.d) (rfl) rfl (by repeat' (first | constructor | apply Sub.suf))
                · intro h96
                  obtain rfl : e2 = 0 := by have h := h96; simp at h; exact h
                  have hV := rowT_runs hq2.symm
                  refine cskip ?_
                  refine nthen ?_
                  refine cs ?_
                  refine cdB [3, 6] [(2, b5, 1, _), (5, b5, 0, _)] TryzX.mixed (by kernel_rfl) (by kernel_rfl) (TOk.t (isBoxS (by repeat' constructor) (k := 1) (by repeat (first | exact Cut.d | apply Cut.t | apply Cut.s))) (TOk.t (isBoxS (by repeat' constructor) (k := 1) (by repeat (first | exact Cut.d | apply Cut.t | apply Cut.s))) TOk.d)) ?_
                  refine tkB 0 rfl (by kernel_rfl) (fun _ _ _ h => h) gnone (TTany _) (p_move rfl) rfl ?_
                  refine tkB 1 rfl (by kernel_rfl) (fun _ _ _ h => h) gnone (TTany _) (p_fa fa72_1 rfl) rfl ?_
                  refine tkB 2 rfl (by kernel_rfl) (fun _ _ _ h => h) gnone (TTat (List.Mem.head _)) (p_ld Tryz.isAgg23 rfl) rfl ?_
                  refine tkB 4 rfl (by kernel_rfl) (fun _ _ _ h => h) gnone (TTany _) (p_fa fa72_0 rfl) rfl ?_
                  refine tkB 5 rfl (by kernel_rfl) (fun _ _ _ h => h) gnone (TTat (List.Mem.tail _ (List.Mem.head _))) (p_ld Tryz.isAgg3 rfl) rfl ?_
                  refine dfB 3 (by kernel_rfl) ?_
                  refine doRB rfl (o_call (is := []) Tryz.call43 (c_lNewC L D d' (by omega)) rfl rfl (by repeat' (first | constructor | apply Sub.suf)) rfl) (TOk.xP 3 [] (by kernel_rfl) (TOk.t (isBoxE fun _ => isBoxS (by repeat' constructor) (k := 1) (by repeat (first | exact Cut.d | apply Cut.t | apply Cut.s))) TOk.d)) ?_
                  refine eaB ?_; rintro ⟨A102, c102⟩
                  refine dfB 6 (by kernel_rfl) ?_
                  refine doRB rfl (o_call (is := [7]) Tryz.call44 (c_pRebaseC b1 0 rows r hI (by omega) hR ((q : Nat) : Int) L A102 c102 (by omega) hfL) rfl rfl (by repeat' (first | constructor | apply Sub.suf)) rfl) (TOk.xP 3 [] (by kernel_rfl) (TOk.xP 6 [] (by kernel_rfl) TOk.d)) ?_
                  refine eaB ?_; rintro ⟨⟨⟨lr, er⟩, ⟨A105, c105⟩⟩, hrb⟩
                  dsimp only at hrb
                  refine tkB 7 rfl (by kernel_rfl) (fun _ _ _ h => h) gnone (TTany _) (p_move rfl) rfl ?_
                  refine tkB 8 rfl (by kernel_rfl) (fun _ _ _ h => h) gnone (TTany _) (p_ext rfl (by repeat' constructor)) rfl ?_
                  refine tkB 9 rfl (by kernel_rfl) (fun _ _ _ h => h) gnone (TTany _) (p_ext rfl (by repeat' constructor)) rfl ?_
                  refine tkB 10 rfl (by kernel_rfl) (fun _ _ _ h => h) gnone (TTany _) (p_asg rfl) rfl ?_
                  refine tkB 11 rfl (by kernel_rfl) (fun _ _ _ h => h) gnone (TTany _) (p_asg rfl) rfl ?_
                  refine dnB (by kernel_rfl) ?_
                  refine nthen ?_
                  refine cs ?_
                  refine cpure (St.cap (m := lr.length) (c := c105) (by repeat' constructor)) ?_
                  intro hcap105
                  rcases preb_cases (by omega) hrb with rfl | ⟨rfl, h64⟩ | ⟨rfl, hre⟩
                  ·
                    refine cr ?_
                    refine ls (o_call (is := []) Tryz.call41 (c_alive15) rfl rfl (by repeat' (first | constructor | apply Sub.suf)) rfl) ?_
                    refine le ?_; intro x108
                    refine ls (op (p_move rfl) rfl) ?_
                    refine lwant rfl rfl rfl rfl (op (p_move rfl) rfl) ?_
                    refine lwant rfl rfl rfl rfl (op (p_icmp rfl rfl rfl) rfl) ?_
                    refine fixL (congrArg Value.bool (decide_eq_true rfl)) ?_
                    refine lwant rfl rfl rfl rfl (op (p_move rfl) rfl) ?_
                    refine lskip rfl rfl rfl rfl rfl ?_
                    refine lskip rfl rfl rfl rfl rfl ?_
                    refine lskip rfl rfl rfl rfl rfl ?_
                    refine lskipu rfl rfl rfl rfl ?_
                    refine lskipu rfl rfl rfl rfl ?_
                    refine lskipu rfl rfl rfl rfl ?_
                    refine lskipu rfl rfl rfl rfl ?_
                    refine lskipu rfl rfl rfl rfl ?_
                    refine lskipu rfl rfl rfl rfl ?_
                    refine lskip rfl rfl rfl rfl rfl ?_
                    refine lwant rfl rfl rfl rfl (op (p_pickt rfl rfl) rfl) ?_
                    refine lwant rfl rfl rfl rfl (op (p_move rfl) rfl) ?_
                    refine lskip rfl rfl rfl rfl rfl ?_
                    refine lskip rfl rfl rfl rfl rfl ?_
                    refine lskip rfl rfl rfl rfl rfl ?_
                    refine lskipu rfl rfl rfl rfl ?_
                    refine lskipu rfl rfl rfl rfl ?_
                    refine lskipu rfl rfl rfl rfl ?_
                    refine lskipu rfl rfl rfl rfl ?_
                    refine lskip rfl rfl rfl rfl rfl ?_
                    refine lwant rfl rfl rfl rfl (op (p_pickt rfl rfl) rfl) ?_
                    refine ls (op (p_pickt rfl rfl) rfl) ?_
                    refine ls (op (p_asg rfl) rfl) ?_
                    refine ln ?_
                    refine nthen ?_
                    refine cret ?_
                    refine xret (fun _ _ h => h) ?_
                    refine rret (is := []) () (Or.inl rfl) (Res.t rfl Res.d) (rfl) rfl (by repeat' (first | constructor | apply Sub.suf))
                  ·
                    refine cr ?_
                    refine ls (o_call (is := []) Tryz.call41 (c_alive15) rfl rfl (by repeat' (first | constructor | apply Sub.suf)) rfl) ?_
                    refine le ?_; intro x108
                    refine ls (op (p_move rfl) rfl) ?_
                    refine lwant rfl rfl rfl rfl (op (p_move rfl) rfl) ?_
                    refine lwant rfl rfl rfl rfl (op (p_icmp rfl rfl rfl) rfl) ?_
                    refine fixL (congrArg Value.bool (decide_eq_false (by dsimp only; decide))) ?_
                    refine lwant rfl rfl rfl rfl (op (p_move rfl) rfl) ?_
                    refine lwant rfl rfl rfl rfl (op (p_move rfl) rfl) ?_
                    refine lwant rfl rfl rfl rfl (op (p_icmp rfl rfl rfl) rfl) ?_
                    refine fixL (congrArg Value.bool (decide_eq_true rfl)) ?_
                    refine lwant rfl rfl rfl rfl (op (p_move rfl) rfl) ?_
                    refine lwant rfl rfl rfl rfl (op (p_move rfl) rfl) ?_
                    refine lwant rfl rfl rfl rfl (op (p_lenl rfl Tryz.underlying70) rfl) ?_
                    refine lwant rfl rfl rfl rfl (op (p_fa fa72_0 rfl) rfl) ?_
                    refine lwant rfl rfl rfl rfl (o_ld Tryz.isAgg3 rfl (by repeat' constructor) (by repeat' constructor) rfl) ?_
                    refine lwant rfl rfl rfl rfl (op (p_sub rfl rfl (by omega)) rfl) ?_
                    refine lwant rfl rfl rfl rfl (op (p_icmp rfl rfl rfl) rfl) ?_
                    refine fixL (congrArg Value.bool (decide_eq_true (by omega))) ?_
                    refine lwant rfl rfl rfl rfl (op (p_pickt rfl rfl) rfl) ?_
                    refine lwant rfl rfl rfl rfl (op (p_pickf rfl rfl) rfl) ?_
                    refine lwant rfl rfl rfl rfl (op (p_move rfl) rfl) ?_
                    refine lskip rfl rfl rfl rfl rfl ?_
                    refine lskip rfl rfl rfl rfl rfl ?_
                    refine lskip rfl rfl rfl rfl rfl ?_
                    refine lskipu rfl rfl rfl rfl ?_
                    refine lskipu rfl rfl rfl rfl ?_
                    refine lskipu rfl rfl rfl rfl ?_
                    refine lskipu rfl rfl rfl rfl ?_
                    refine lskip rfl rfl rfl rfl rfl ?_
                    refine lwant rfl rfl rfl rfl (op (p_pickt rfl rfl) rfl) ?_
                    refine ls (op (p_pickt rfl rfl) rfl) ?_
                    refine ls (op (p_asg rfl) rfl) ?_
                    refine ln ?_
                    refine nthen ?_
                    refine cret ?_
                    refine xret (fun _ _ h => h) ?_
                    refine rret (is := []) () (Or.inl rfl) (Res.t rfl Res.d) (rfl) rfl (by repeat' (first | constructor | apply Sub.suf))
                  ·
                    have hlr := reb_lns hre
                    have hfr := (reb_ok hre (flat_fit hR _) hfL).2
                    obtain ⟨X, hX⟩ := fits_end hso hgood hrU hrM hV hre
                    refine cr ?_
                    refine ls (o_call (is := []) Tryz.call41 (c_alive15) rfl rfl (by repeat' (first | constructor | apply Sub.suf)) rfl) ?_
                    refine le ?_; intro x108
                    refine ls (op (p_move rfl) rfl) ?_
                    refine lwant rfl rfl rfl rfl (op (p_move rfl) rfl) ?_
                    refine lwant rfl rfl rfl rfl (op (p_icmp rfl rfl rfl) rfl) ?_
                    refine fixL (congrArg Value.bool (decide_eq_false (by dsimp only; decide))) ?_
                    refine lwant rfl rfl rfl rfl (op (p_move rfl) rfl) ?_
                    refine lwant rfl rfl rfl rfl (op (p_move rfl) rfl) ?_
                    refine lwant rfl rfl rfl rfl (op (p_icmp rfl rfl rfl) rfl) ?_
                    refine fixL (congrArg Value.bool (decide_eq_false (by dsimp only; decide))) ?_
                    refine lwant rfl rfl rfl rfl (op (p_move rfl) rfl) ?_
                    refine lskip rfl rfl rfl rfl rfl ?_
                    refine lskip rfl rfl rfl rfl rfl ?_
                    refine lskip rfl rfl rfl rfl rfl ?_
                    refine lskip rfl rfl rfl rfl rfl ?_
                    refine lskip rfl rfl rfl rfl rfl ?_
                    refine lskip rfl rfl rfl rfl rfl ?_
                    refine lwant rfl rfl rfl rfl (op (p_pickf rfl rfl) rfl) ?_
                    refine lwant rfl rfl rfl rfl (op (p_pickf rfl rfl) rfl) ?_
                    refine lwant rfl rfl rfl rfl (op (p_move rfl) rfl) ?_
                    refine lwant rfl rfl rfl rfl (op (p_move rfl) rfl) ?_
                    refine lwant rfl rfl rfl rfl (op (p_icmp rfl rfl rfl) rfl) ?_
                    refine fixL (congrArg Value.bool (decide_eq_true rfl)) ?_
                    refine lwant rfl rfl rfl rfl (op (p_move rfl) rfl) ?_
                    refine lwant rfl rfl rfl rfl (op (p_move rfl) rfl) ?_
                    refine lwant rfl rfl rfl rfl (op (p_move rfl) rfl) ?_
                    refine lwant rfl rfl rfl rfl (o_call (is := [3, 3]) Tryz.call27 (c_seqApply p b M (omany l + 6000) (l.length + 60) hiM lr A105 c105 hcap105 (by omega) hfr (by omega) (by omega)) rfl rfl (by repeat' (first | constructor | apply Sub.suf)) rfl) ?_
                    refine le ?_; rintro ⟨⟨T9, e9⟩, hq9⟩
                    try dsimp only at hq9
                    obtain ⟨rfl, rfl⟩ := Prod.mk.inj ((rowT_ok hX).symm.trans hq9.symm)
                    refine lwant rfl rfl rfl rfl (op (p_icmp rfl rfl rfl) rfl) ?_
                    refine fixL (congrArg Value.bool (decide_eq_true rfl)) ?_
                    refine lwant rfl rfl rfl rfl (op (p_pickt rfl rfl) rfl) ?_
                    refine lwant rfl rfl rfl rfl (op (p_pickf rfl rfl) rfl) ?_
                    refine ls (op (p_pickt rfl rfl) rfl) ?_
                    refine ls (op (p_asg rfl) rfl) ?_
                    refine ln ?_
                    refine nthen ?_
                    refine cret ?_
                    refine xret (fun _ _ h => h) ?_
                    refine rret (is := []) () (Or.inl rfl) (Res.t rfl Res.d) (rfl) rfl (by repeat' (first | constructor | apply Sub.suf))
            · intro h84
              have hqn : ¬ q = rows.length := by have h := h84; simp at h; omega
              refine cskip ?_
              refine nthen ?_
              refine cs ?_
              refine cs ?_
              refine cr ?_
              refine ls (op (p_move rfl) rfl) ?_
              refine ls (op (p_not rfl) rfl) ?_
              refine ls (op (p_move rfl) rfl) ?_
              refine splitL 89 rfl ?_ ?_
              · intro h89
                skip
                refine lskip rfl rfl rfl rfl rfl ?_
                refine lskip rfl rfl rfl rfl rfl ?_
                refine lskip rfl rfl rfl rfl rfl ?_
                refine lskip rfl rfl rfl rfl rfl ?_
                refine lskip rfl rfl rfl rfl rfl ?_
                refine lskip rfl rfl rfl rfl rfl ?_
                refine ls (op (p_pickt rfl rfl) rfl) ?_
                refine ln ?_
                refine nthen ?_
                refine cc rfl (fun h => ?_) (fun h => by cases h)
                refine cs ?_
                refine cr ?_
                refine ls (o_call (is := []) Tryz.call41 (c_alive15) rfl rfl (by repeat' (first | constructor | apply Sub.suf)) rfl) ?_
                refine le ?_; intro x97
                refine ls (op (p_asg rfl) rfl) ?_
                refine ln ?_
                refine nthen ?_
                refine cret ?_
                refine xret (fun _ _ h => h) ?_
                refine rret (is := []) () (Or.inl rfl) (Res.t rfl Res.d) (rfl) rfl (by repeat' (first | constructor | apply Sub.suf))
              · intro h89
                obtain rfl : ok = true := by simpa using h89
                obtain ⟨j', _, g1, g2⟩ := hAt
                obtain rfl := g2 rfl
                have hrM : Runs (madeT l) rows.flatten M := by rwa [List.take_length] at g1
                obtain rfl : j = q := hj2 rfl (by omega)
                have hrU : Runs (madeT l) (rows.take j).flatten U := hj1
                have hiU := flat_inv hj1 hinv hs1 hs2
                refine lwant rfl rfl rfl rfl (op (p_move rfl) rfl) ?_
                refine lwant rfl rfl rfl rfl (op (p_fa fa72_1 rfl) rfl) ?_
                refine lwant rfl rfl rfl rfl (o_ld Tryz.isAgg23 rfl (by repeat' constructor) (by repeat' constructor) rfl) ?_
                refine lwant rfl rfl rfl rfl (o_call (is := []) Tryz.call43 (c_lNewC L D d' (by omega)) rfl rfl (by repeat' (first | constructor | apply Sub.suf)) rfl) ?_
                refine le ?_; rintro ⟨A93, c93⟩
                refine lpure (St.cap (m := L.length) (c := c93) (by repeat' constructor)) ?_
                intro hcap93
                refine lwant rfl rfl rfl rfl (o_call (is := [2, 2]) Tryz.call27 (c_seqApply p4 b4t U (omany l + 6000) (l.length + 60) hiU L A93 c93 hcap93 (by omega) hfL (by omega) (by omega)) rfl rfl (by repeat' (first | constructor | apply Sub.suf)) rfl) ?_
                refine le ?_; rintro ⟨⟨V, e2⟩, hq2⟩
                try dsimp only at hq2
                refine lwant rfl rfl rfl rfl (op (p_icmp rfl rfl rfl) rfl) ?_
                refine ls (op (p_pickf rfl rfl) rfl) ?_
                refine ln ?_
                refine nthen ?_
                refine cc rfl ?_ ?_
                · intro h96
                  skip
                  refine cs ?_
                  refine cr ?_
                  refine ls (o_call (is := []) Tryz.call41 (c_alive15) rfl rfl (by repeat' (first | constructor | apply Sub.suf)) rfl) ?_
                  refine le ?_; intro x97
                  refine ls (op (p_asg rfl) rfl) ?_
                  refine ln ?_
                  refine nthen ?_
                  refine cret ?_
                  refine xret (fun _ _ h => h) ?_
                  refine rret (is := []) () (Or.inl rfl) (Res.t rfl Res.d) (rfl) rfl (by repeat' (first | constructor | apply Sub.suf))
                · intro h96
                  obtain rfl : e2 = 0 := by have h := h96; simp at h; exact h
                  have hV := rowT_runs hq2.symm
                  refine cskip ?_
                  refine nthen ?_
                  refine cs ?_
                  refine cdB [3, 6] [(2, b5, 1, _), (5, b5, 0, _)] TryzX.mixed (by kernel_rfl) (by kernel_rfl) (TOk.t (isBoxS (by repeat' constructor) (k := 1) (by repeat (first | exact Cut.d | apply Cut.t | apply Cut.s))) (TOk.t (isBoxS (by repeat' constructor) (k := 1) (by repeat (first | exact Cut.d | apply Cut.t | apply Cut.s))) TOk.d)) ?_
                  refine tkB 0 rfl (by kernel_rfl) (fun _ _ _ h => h) gnone (TTany _) (p_move rfl) rfl ?_
                  refine tkB 1 rfl (by kernel_rfl) (fun _ _ _ h => h) gnone (TTany _) (p_fa fa72_1 rfl) rfl ?_
                  refine tkB 2 rfl (by kernel_rfl) (fun _ _ _ h => h) gnone (TTat (List.Mem.head _)) (p_ld Tryz.isAgg23 rfl) rfl ?_
                  refine tkB 4 rfl (by kernel_rfl) (fun _ _ _ h => h) gnone (TTany _) (p_fa fa72_0 rfl) rfl ?_
                  refine tkB 5 rfl (by kernel_rfl) (fun _ _ _ h => h) gnone (TTat (List.Mem.tail _ (List.Mem.head _))) (p_ld Tryz.isAgg3 rfl) rfl ?_
                  refine dfB 3 (by kernel_rfl) ?_
                  refine doRB rfl (o_call (is := []) Tryz.call43 (c_lNewC L D d' (by omega)) rfl rfl (by repeat' (first | constructor | apply Sub.suf)) rfl) (TOk.xP 3 [] (by kernel_rfl) (TOk.t (isBoxE fun _ => isBoxS (by repeat' constructor) (k := 1) (by repeat (first | exact Cut.d | apply Cut.t | apply Cut.s))) TOk.d)) ?_
                  refine eaB ?_; rintro ⟨A102, c102⟩
                  refine dfB 6 (by kernel_rfl) ?_
                  refine doRB rfl (o_call (is := [5]) Tryz.call44 (c_pRebaseC b1 0 rows r hI (by omega) hR ((j : Nat) : Int) L A102 c102 (by omega) hfL) rfl rfl (by repeat' (first | constructor | apply Sub.suf)) rfl) (TOk.xP 3 [] (by kernel_rfl) (TOk.xP 6 [] (by kernel_rfl) TOk.d)) ?_
                  refine eaB ?_; rintro ⟨⟨⟨lr, er⟩, ⟨A105, c105⟩⟩, hrb⟩
                  dsimp only at hrb
                  refine tkB 7 rfl (by kernel_rfl) (fun _ _ _ h => h) gnone (TTany _) (p_move rfl) rfl ?_
                  refine tkB 8 rfl (by kernel_rfl) (fun _ _ _ h => h) gnone (TTany _) (p_ext rfl (by repeat' constructor)) rfl ?_
                  refine tkB 9 rfl (by kernel_rfl) (fun _ _ _ h => h) gnone (TTany _) (p_ext rfl (by repeat' constructor)) rfl ?_
                  refine tkB 10 rfl (by kernel_rfl) (fun _ _ _ h => h) gnone (TTany _) (p_asg rfl) rfl ?_
                  refine tkB 11 rfl (by kernel_rfl) (fun _ _ _ h => h) gnone (TTany _) (p_asg rfl) rfl ?_
                  refine dnB (by kernel_rfl) ?_
                  refine nthen ?_
                  refine cs ?_
                  refine cpure (St.cap (m := lr.length) (c := c105) (by repeat' constructor)) ?_
                  intro hcap105
                  rcases preb_cases (by omega) hrb with rfl | ⟨rfl, h64⟩ | ⟨rfl, hre⟩
                  ·
                    refine cr ?_
                    refine ls (o_call (is := []) Tryz.call41 (c_alive15) rfl rfl (by repeat' (first | constructor | apply Sub.suf)) rfl) ?_
                    refine le ?_; intro x108
                    refine ls (op (p_move rfl) rfl) ?_
                    refine lwant rfl rfl rfl rfl (op (p_move rfl) rfl) ?_
                    refine lwant rfl rfl rfl rfl (op (p_icmp rfl rfl rfl) rfl) ?_
                    refine fixL (congrArg Value.bool (decide_eq_true rfl)) ?_
                    refine lwant rfl rfl rfl rfl (op (p_move rfl) rfl) ?_
                    refine lskip rfl rfl rfl rfl rfl ?_
                    refine lskip rfl rfl rfl rfl rfl ?_
                    refine lskip rfl rfl rfl rfl rfl ?_
                    refine lskipu rfl rfl rfl rfl ?_
                    refine lskipu rfl rfl rfl rfl ?_
                    refine lskipu rfl rfl rfl rfl ?_
                    refine lskipu rfl rfl rfl rfl ?_
                    refine lskipu rfl rfl rfl rfl ?_
                    refine lskipu rfl rfl rfl rfl ?_
                    refine lskip rfl rfl rfl rfl rfl ?_
                    refine lwant rfl rfl rfl rfl (op (p_pickt rfl rfl) rfl) ?_
                    refine lwant rfl rfl rfl rfl (op (p_move rfl) rfl) ?_
                    refine lskip rfl rfl rfl rfl rfl ?_
                    refine lskip rfl rfl rfl rfl rfl ?_
                    refine lskip rfl rfl rfl rfl rfl ?_
                    refine lskipu rfl rfl rfl rfl ?_
                    refine lskipu rfl rfl rfl rfl ?_
                    refine lskipu rfl rfl rfl rfl ?_
                    refine lskipu rfl rfl rfl rfl ?_
                    refine lskip rfl rfl rfl rfl rfl ?_
                    refine lwant rfl rfl rfl rfl (op (p_pickt rfl rfl) rfl) ?_
                    refine ls (op (p_pickt rfl rfl) rfl) ?_
                    refine ls (op (p_asg rfl) rfl) ?_
                    refine ln ?_
                    refine nthen ?_
                    refine cret ?_
                    refine xret (fun _ _ h => h) ?_
                    refine rret (is := []) () (Or.inl rfl) (Res.t rfl Res.d) (rfl) rfl (by repeat' (first | constructor | apply Sub.suf))
                  ·
                    refine cr ?_
                    refine ls (o_call (is := []) Tryz.call41 (c_alive15) rfl rfl (by repeat' (first | constructor | apply Sub.suf)) rfl) ?_
                    refine le ?_; intro x108
                    refine ls (op (p_move rfl) rfl) ?_
                    refine lwant rfl rfl rfl rfl (op (p_move rfl) rfl) ?_
                    refine lwant rfl rfl rfl rfl (op (p_icmp rfl rfl rfl) rfl) ?_
                    refine fixL (congrArg Value.bool (decide_eq_false (by dsimp only; decide))) ?_
                    refine lwant rfl rfl rfl rfl (op (p_move rfl) rfl) ?_
                    refine lwant rfl rfl rfl rfl (op (p_move rfl) rfl) ?_
                    refine lwant rfl rfl rfl rfl (op (p_icmp rfl rfl rfl) rfl) ?_
                    refine fixL (congrArg Value.bool (decide_eq_true rfl)) ?_
                    refine lwant rfl rfl rfl rfl (op (p_move rfl) rfl) ?_
                    refine lwant rfl rfl rfl rfl (op (p_move rfl) rfl) ?_
                    refine lwant rfl rfl rfl rfl (op (p_lenl rfl Tryz.underlying70) rfl) ?_
                    refine lwant rfl rfl rfl rfl (op (p_fa fa72_0 rfl) rfl) ?_
                    refine lwant rfl rfl rfl rfl (o_ld Tryz.isAgg3 rfl (by repeat' constructor) (by repeat' constructor) rfl) ?_
                    refine lwant rfl rfl rfl rfl (op (p_sub rfl rfl (by omega)) rfl) ?_
                    refine lwant rfl rfl rfl rfl (op (p_icmp rfl rfl rfl) rfl) ?_
                    refine fixL (congrArg Value.bool (decide_eq_true (by omega))) ?_
                    refine lwant rfl rfl rfl rfl (op (p_pickt rfl rfl) rfl) ?_
                    refine lwant rfl rfl rfl rfl (op (p_pickf rfl rfl) rfl) ?_
                    refine lwant rfl rfl rfl rfl (op (p_move rfl) rfl) ?_
                    refine lskip rfl rfl rfl rfl rfl ?_
                    refine lskip rfl rfl rfl rfl rfl ?_
                    refine lskip rfl rfl rfl rfl rfl ?_
                    refine lskipu rfl rfl rfl rfl ?_
                    refine lskipu rfl rfl rfl rfl ?_
                    refine lskipu rfl rfl rfl rfl ?_
                    refine lskipu rfl rfl rfl rfl ?_
                    refine lskip rfl rfl rfl rfl rfl ?_
                    refine lwant rfl rfl rfl rfl (op (p_pickt rfl rfl) rfl) ?_
                    refine ls (op (p_pickt rfl rfl) rfl) ?_
                    refine ls (op (p_asg rfl) rfl) ?_
                    refine ln ?_
                    refine nthen ?_
                    refine cret ?_
                    refine xret (fun _ _ h => h) ?_
                    refine rret (is := []) () (Or.inl rfl) (Res.t rfl Res.d) (rfl) rfl (by repeat' (first | constructor | apply Sub.suf))
                  ·
                    have hlr := reb_lns hre
                    have hfr := (reb_ok hre (flat_fit hR _) hfL).2
                    obtain ⟨X, hX⟩ := fits_end hso hgood hrU hrM hV hre
                    refine cr ?_
                    refine ls (o_call (is := []) Tryz.call41 (c_alive15) rfl rfl (by repeat' (first | constructor | apply Sub.suf)) rfl) ?_
                    refine le ?_; intro x108
                    refine ls (op (p_move rfl) rfl) ?_
                    refine lwant rfl rfl rfl rfl (op (p_move rfl) rfl) ?_
                    refine lwant rfl rfl rfl rfl (op (p_icmp rfl rfl rfl) rfl) ?_
                    refine fixL (congrArg Value.bool (decide_eq_false (by dsimp only; decide))) ?_
                    refine lwant rfl rfl rfl rfl (op (p_move rfl) rfl) ?_
                    refine lwant rfl rfl rfl rfl (op (p_move rfl) rfl) ?_
                    refine lwant rfl rfl rfl rfl (op (p_icmp rfl rfl rfl) rfl) ?_
                    refine fixL (congrArg Value.bool (decide_eq_false (by dsimp only; decide))) ?_
                    refine lwant rfl rfl rfl rfl (op (p_move rfl) rfl) ?_
                    refine lskip rfl rfl rfl rfl rfl ?_
                    refine lskip rfl rfl rfl rfl rfl ?_
                    refine lskip rfl rfl rfl rfl rfl ?_
                    refine lskip rfl rfl rfl rfl rfl ?_
                    refine lskip rfl rfl rfl rfl rfl ?_
                    refine lskip rfl rfl rfl rfl rfl ?_
                    refine lwant rfl rfl rfl rfl (op (p_pickf rfl rfl) rfl) ?_
                    refine lwant rfl rfl rfl rfl (op (p_pickf rfl rfl) rfl) ?_
                    refine lwant rfl rfl rfl rfl (op (p_move rfl) rfl) ?_
                    refine lwant rfl rfl rfl rfl (op (p_move rfl) rfl) ?_
                    refine lwant rfl rfl rfl rfl (op (p_icmp rfl rfl rfl) rfl) ?_
                    refine fixL (congrArg Value.bool (decide_eq_true rfl)) ?_
                    refine lwant rfl rfl rfl rfl (op (p_move rfl) rfl) ?_
                    refine lwant rfl rfl rfl rfl (op (p_move rfl) rfl) ?_
                    refine lwant rfl rfl rfl rfl (op (p_move rfl) rfl) ?_
                    refine lwant rfl rfl rfl rfl (o_call (is := [3, 3]) Tryz.call27 (c_seqApply p b M (omany l + 6000) (l.length + 60) hiM lr A105 c105 hcap105 (by omega) hfr (by omega) (by omega)) rfl rfl (by repeat' (first | constructor | apply Sub.suf)) rfl) ?_
                    refine le ?_; rintro ⟨⟨T9, e9⟩, hq9⟩
                    try dsimp only at hq9
                    obtain ⟨rfl, rfl⟩ := Prod.mk.inj ((rowT_ok hX).symm.trans hq9.symm)
                    refine lwant rfl rfl rfl rfl (op (p_icmp rfl rfl rfl) rfl) ?_
                    refine fixL (congrArg Value.bool (decide_eq_true rfl)) ?_
                    refine lwant rfl rfl rfl rfl (op (p_pickt rfl rfl) rfl) ?_
                    refine lwant rfl rfl rfl rfl (op (p_pickf rfl rfl) rfl) ?_
                    refine ls (op (p_pickt rfl rfl) rfl) ?_
                    refine ls (op (p_asg rfl) rfl) ?_
                    refine ln ?_
                    refine nthen ?_
                    refine cret ?_
                    refine xret (fun _ _ h => h) ?_
                    refine rret (is := []) () (Or.inl rfl) (Res.t rfl Res.d) (rfl) rfl (by repeat' (first | constructor | apply Sub.suf))

end Go.Proofs.YtdbiillompeclaaGreatDoor.X
