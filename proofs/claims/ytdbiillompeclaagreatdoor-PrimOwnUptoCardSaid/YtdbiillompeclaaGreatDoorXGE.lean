/- OWN WORK: a part of the proof of a law of the seat YtdbiillompeclaaGreatDoor: contracts. -/
import Derived.Test.YtdbiillompeclaaGreatDoorProg
import Derived.Test.YtdbiillompeclaaGreatDoorXGD
set_option linter.unusedVariables false
set_option linter.unusedSimpArgs false
namespace Go.Proofs.YtdbiillompeclaaGreatDoor.X
open Go Go.RowKit Go.Proofs Go.Sx
attribute [local irreducible] slA isA box row
theorem l_ItoaT (i : Nat) (hi : i ≤ 9223372036854775807) : Con Tryz.prog 107 [.int .i64 (i : Int)] [] [tabA Tryz.prog] Unit (fun _ => .string (toB (Lib.decDigits i))) (fun _ => []) (fun _ => []) := con_itoa i hi (fun n h0 h1 w ht => Tryz.strconv_Itoa n h0 h1 w ht)

theorem put_one2 {nm : ByteArray} {x l : List ByteArray} (h : l.all lineOk = true) : tPut [(nm, x)] nm l = ([(nm, l)], 0) := by
  unfold tPut; rw [if_neg (by rw [one_has]; simp), if_neg (by rw [h]; simp)]
  have : delT [(nm, x)] nm = [] := by simp [delT]
  unfold putT; rw [this]; rfl
theorem rep_ok (k : Nat) : (List.replicate k (⟨#[]⟩ : ByteArray)).all lineOk = true := by
  rw [List.all_eq_true]; intro x hx; rw [List.eq_of_mem_replicate hx]; decide
theorem po_right {p : Prim} (hr : p.right = true) (hk : p.kind = 0) : nameOk p.name = true ∧ p.old.all lineOk = true ∧ p.new.all lineOk = true := by
  unfold Prim.right at hr
  rw [if_pos hk] at hr
  simp only [Bool.and_eq_true] at hr
  exact ⟨hr.1, hr.2.1.1.2, hr.2.1.2⟩
theorem po_all {k : Nat} {l : List ByteArray} (h : l.all lineOk = true) : (List.replicate k (⟨#[]⟩ : ByteArray) ++ l).all lineOk = true := by rw [List.all_append, rep_ok, h]; rfl
theorem po_apply {p : Prim} {k : Nat} (hr : p.right = true) (hk : p.kind = 0) (hkp : p.pos = (k : Int)) : applyT [(p.name, List.replicate k (⟨#[]⟩ : ByteArray) ++ p.old)] p = ([(p.name, List.replicate k (⟨#[]⟩ : ByteArray) ++ p.new)], 0) := by
  obtain ⟨h1, h2⟩ := splT_at (l := List.replicate k (⟨#[]⟩ : ByteArray) ++ p.old) (A := List.replicate k (⟨#[]⟩ : ByteArray)) (B := []) (o := p.old) (n := p.new) (z := p.pos) (by simp) (by rw [hkp]; simp)
  unfold applyT; rw [if_neg (by rw [hr]; simp), if_pos hk]
  unfold hunkT
  rw [one_getL, one_has, h1, h2, if_neg (by simp), List.append_nil, put_one2 (po_all (po_right hr hk).2.2)]
  rfl
theorem sizes_rep (k : Nat) (l : List ByteArray) : sizes (List.replicate k (⟨#[]⟩ : ByteArray) ++ l) = sizes l := by
  unfold sizes
  rw [List.map_append, List.sum_append]
  simp
  exact Nat.mul_zero k
theorem po_text {p : Prim} {k : Nat} (hM : many [p] ≤ 4000) (hk : k ≤ 100) : (textT [(p.name, List.replicate k (⟨#[]⟩ : ByteArray) ++ p.new)]).length ≤ 100000000 := by
  have h0 : p.many ≤ many [p] := many_in (by simp)
  have h1 : p.new.length + sizes p.new + p.name.size ≤ p.many := by unfold Prim.many; omega
  have h2 : Tok 1 5000 [(p.name, List.replicate k (⟨#[]⟩ : ByteArray) ++ p.new)] := ⟨Nat.le_refl _, fun x hx => by
    rw [List.mem_singleton.1 hx]
    refine ⟨?_, ?_, ?_⟩
    · simp only [List.length_append, List.length_replicate]; omega
    · rw [sizes_rep]; omega
    · dsimp only; omega⟩
  exact Nat.le_trans (textT_le h2) (by decide)


set_option maxRecDepth 100000 in
theorem c_PrimOwn (p : Prim) (y : Rp.Lay Prim) (hp : p.fit) (hMp : many [p] ≤ 1000000000000) : Con Tryz.prog 7 [sv p y] [] (Rp.asn p y ++ [tabA Tryz.prog]) Unit (fun _ => .bool true) (fun _ => []) (fun _ => []) := by
  refine con Tryz.func7 rfl Tryz.ntmps7 rfl ?_
  intro M0 F0 w0
  refine cs ?_
  refine cr ?_
  refine ls (o_box rfl rfl rfl) ?_
  refine le ?_; intro b1
  refine ls (op (p_asg rfl) rfl) ?_
  refine ln ?_
  refine nthen ?_
  refine cs ?_
  refine cs ?_
  refine cr ?_
  refine ls (o_ldw Tryz.isAgg83 Tryz.sizeOf83 rfl (by repeat' constructor) (by rfl) rfl) ?_
  refine ls (o_bsl [p] Tryz.underlying23 Tryz.sizeOf83 Tryz.zeroValue83 rfl (Enum.t Enum.d) (RV.t y rfl (by repeat' (first | constructor | apply Sub.suf)) RV.d) rfl (by decide) (by decide) rfl) ?_
  refine le ?_; intro b9
  refine lmono (fun a w h => Go.Sx.freeze (i := 0) rfl h) ?_
  refine ls (o_call (is := []) Tryz.call45 (c_Many [p] (some ⟨b9, 0, none⟩) 1 (by simp) hMp) rfl rfl (by repeat' (first | constructor | apply Sub.suf)) rfl) ?_
  refine le ?_; intro x10
  refine ls (op (p_icmp rfl rfl rfl) rfl) ?_
  refine ls (op (p_move rfl) rfl) ?_
  refine orX 4 12 16 rfl (subσ.cons (t := 0) rfl (subσ.cons (t := 1) rfl (subσ.cons (t := 2) rfl (subσ.nil _)))) ?_ ?_
  · intro h12
    refine lskip rfl rfl rfl rfl rfl ?_
    refine lskip rfl rfl rfl rfl rfl ?_
    refine lskip rfl rfl rfl rfl rfl ?_
    refine ls (op (p_pickt rfl rfl) rfl) ?_
    refine ln (nmid (wk0 (by repeat (first | exact subσ.nil _ | refine subσ.cons rfl ?_)) (by repeat' (first | constructor | apply Sub.suf))))
  apply exI
  · intro h12
    refine lwant rfl rfl rfl rfl (op (p_fa fa83_0 rfl) rfl) ?_
    refine lwant rfl rfl rfl rfl (o_ld Tryz.isAgg3 rfl (by repeat' constructor) (by repeat' constructor) rfl) ?_
    refine lwant rfl rfl rfl rfl (op (p_icmp rfl rfl rfl) rfl) ?_
    refine ls (op (p_pickf rfl rfl) rfl) ?_
    refine ln (nmid (wk0 (by repeat (first | exact subσ.nil _ | refine subσ.cons rfl ?_)) (by repeat' (first | constructor | apply Sub.suf))))
  ·
    refine ls (op (p_move rfl) rfl) ?_
    refine orX 5 17 22 rfl (subσ.cons (t := 0) rfl (subσ.cons (t := 1) rfl (subσ.cons (t := 2) rfl (subσ.nil _)))) ?_ ?_
    · intro h17
      refine lskip rfl rfl rfl rfl rfl ?_
      refine lskip rfl rfl rfl rfl rfl ?_
      refine lskip rfl rfl rfl rfl rfl ?_
      refine lskip rfl rfl rfl rfl rfl ?_
      refine ls (op (p_pickt rfl rfl) rfl) ?_
      refine ln (nmid (wk0 (by repeat (first | exact subσ.nil _ | refine subσ.cons rfl ?_)) (by repeat' (first | constructor | apply Sub.suf))))
    apply exI
    · intro h17
      refine lwant rfl rfl rfl rfl (op (p_fa fa83_4 rfl) rfl) ?_
      refine lwant rfl rfl rfl rfl (o_ld Tryz.isAgg37 rfl (by repeat' constructor) (by repeat' constructor) rfl) ?_
      refine lwant rfl rfl rfl rfl (op (p_lenl rfl Tryz.underlying37) rfl) ?_
      refine lwant rfl rfl rfl rfl (op (p_icmp rfl rfl rfl) rfl) ?_
      refine ls (op (p_pickf rfl rfl) rfl) ?_
      refine ln (nmid (wk0 (by repeat (first | exact subσ.nil _ | refine subσ.cons rfl ?_)) (by repeat' (first | constructor | apply Sub.suf))))
    ·
      refine ls (op (p_move rfl) rfl) ?_
      refine orX 5 23 28 rfl (subσ.cons (t := 0) rfl (subσ.cons (t := 1) rfl (subσ.cons (t := 2) rfl (subσ.nil _)))) ?_ ?_
      · intro h23
        refine lskip rfl rfl rfl rfl rfl ?_
        refine lskip rfl rfl rfl rfl rfl ?_
        refine lskip rfl rfl rfl rfl rfl ?_
        refine lskip rfl rfl rfl rfl rfl ?_
        refine ls (op (p_pickt rfl rfl) rfl) ?_
        refine ln (nmid (wk0 (by repeat (first | exact subσ.nil _ | refine subσ.cons rfl ?_)) (by repeat' (first | constructor | apply Sub.suf))))
      apply exI
      · intro h23
        refine lwant rfl rfl rfl rfl (op (p_fa fa83_5 rfl) rfl) ?_
        refine lwant rfl rfl rfl rfl (o_ld Tryz.isAgg37 rfl (by repeat' constructor) (by repeat' constructor) rfl) ?_
        refine lwant rfl rfl rfl rfl (op (p_lenl rfl Tryz.underlying37) rfl) ?_
        refine lwant rfl rfl rfl rfl (op (p_icmp rfl rfl rfl) rfl) ?_
        refine ls (op (p_pickf rfl rfl) rfl) ?_
        refine ln (nmid (wk0 (by repeat (first | exact subσ.nil _ | refine subσ.cons rfl ?_)) (by repeat' (first | constructor | apply Sub.suf))))
      ·
        refine ls (op (p_move rfl) rfl) ?_
        refine orX 4 29 33 rfl (subσ.cons (t := 0) rfl (subσ.cons (t := 1) rfl (subσ.cons (t := 2) rfl (subσ.nil _)))) ?_ ?_
        · intro h29
          refine lskip rfl rfl rfl rfl rfl ?_
          refine lskip rfl rfl rfl rfl rfl ?_
          refine lskip rfl rfl rfl rfl rfl ?_
          refine ls (op (p_pickt rfl rfl) rfl) ?_
          refine ln (nmid (wk0 (by repeat (first | exact subσ.nil _ | refine subσ.cons rfl ?_)) (by repeat' (first | constructor | apply Sub.suf))))
        apply exI
        · intro h29
          refine lwant rfl rfl rfl rfl (o_ldw Tryz.isAgg83 Tryz.sizeOf83 rfl (by repeat' constructor) (by rfl) rfl) ?_
          refine lwant rfl rfl rfl rfl (o_call (is := []) Tryz.call46 (c_refRight p y hp) rfl rfl (by repeat' (first | constructor | apply Sub.suf)) rfl) ?_
          refine le ?_; intro x31
          refine lwant rfl rfl rfl rfl (op (p_not rfl) rfl) ?_
          refine ls (op (p_pickf rfl rfl) rfl) ?_
          refine ln (nmid (wk0 (by repeat (first | exact subσ.nil _ | refine subσ.cons rfl ?_)) (by repeat' (first | constructor | apply Sub.suf))))
        ·
          refine ls (op (p_move rfl) rfl) ?_
          refine orX 4 34 38 rfl (subσ.cons (t := 0) rfl (subσ.cons (t := 1) rfl (subσ.cons (t := 2) rfl (subσ.nil _)))) ?_ ?_
          · intro h34
            refine lskip rfl rfl rfl rfl rfl ?_
            refine lskip rfl rfl rfl rfl rfl ?_
            refine lskip rfl rfl rfl rfl rfl ?_
            refine ls (op (p_pickt rfl rfl) rfl) ?_
            refine ln (nmid (wk0 (by repeat (first | exact subσ.nil _ | refine subσ.cons rfl ?_)) (by repeat' (first | constructor | apply Sub.suf))))
          apply exI
          · intro h34
            refine lwant rfl rfl rfl rfl (op (p_fa fa83_3 rfl) rfl) ?_
            refine lwant rfl rfl rfl rfl (o_ld Tryz.isAgg3 rfl (by repeat' constructor) (by repeat' constructor) rfl) ?_
            refine lwant rfl rfl rfl rfl (op (p_icmp rfl rfl rfl) rfl) ?_
            refine ls (op (p_pickf rfl rfl) rfl) ?_
            refine ln (nmid (wk0 (by repeat (first | exact subσ.nil _ | refine subσ.cons rfl ?_)) (by repeat' (first | constructor | apply Sub.suf))))
          ·
            refine ln ?_
            refine nthen ?_
            refine cc rfl ?_ ?_
            · intro h38
              skip
              refine cs ?_
              refine cr ?_
              refine ls (o_call (is := []) Tryz.call47 (c_alive03) rfl rfl (by repeat' (first | constructor | apply Sub.suf)) rfl) ?_
              refine le ?_; intro x39
              refine ls (op (p_asg rfl) rfl) ?_
              refine ln ?_
              refine nthen ?_
              refine cret ?_
              refine xret (fun _ _ h => h) ?_
              refine rret (is := []) () (Or.inl rfl) (Res.t rfl Res.d) (rfl) rfl (by repeat' (first | constructor | apply Sub.suf))
            · intro h38
              have h := h38
              simp only [Bool.or_eq_false_iff, Bool.not_eq_false', decide_eq_false_iff_not, Decidable.not_not] at h
              obtain ⟨⟨⟨⟨⟨q1, hk0⟩, q3⟩, q4⟩, hr⟩, q6⟩ := h
              have hk : p.kind = 0 := of_decide_eq_true hk0
              have hM4 : many [p] ≤ 4000 := by omega
              have hlo : p.old.length ≠ 0 := by omega
              have hln : p.new.length ≠ 0 := by omega
              obtain ⟨hps1, hps2⟩ := right_pos hr
              obtain ⟨k, hkp⟩ : ∃ k : Nat, p.pos = (k : Int) := ⟨p.pos.toNat, by omega⟩
              have hk100 : k ≤ 100 := by omega
              obtain ⟨hnm, hal, hbl⟩ := po_right hr hk
              have hne_o : p.old ≠ [] := fun e => hlo (by rw [e]; rfl)
              have hne_n : p.new ≠ [] := fun e => hln (by rw [e]; rfl)
              have hme : p.many ≤ many [p] := many_in (by simp)
              have hml : p.old.length + p.new.length + sizes p.new ≤ p.many := by unfold Prim.many; omega
              refine cskip ?_
              refine nthen ?_
              refine cs ?_
              refine cr ?_
              refine ls (o_ldw Tryz.isAgg83 Tryz.sizeOf83 rfl (by repeat' constructor) (by rfl) rfl) ?_
              refine ls (o_call (is := []) Tryz.call48 (c_primCloneO p y hp) rfl rfl (by repeat' (first | constructor | apply Sub.suf)) rfl) ?_
              refine le ?_; rintro ⟨⟨Az, cz⟩, ⟨Bz, dz⟩⟩
              refine ls (o_alloc Tryz.zeroValue39 rfl rfl) ?_
              refine le ?_; intro b3
              refine ls (o_st rfl Tryz.sizeOf39 rfl rfl rfl rfl rfl (by repeat' constructor) (by repeat' constructor) (by repeat' constructor)) ?_
              refine ln ?_
              refine nthen ?_
              refine cs ?_
              refine cutC (S' := fun a w => ∃ (b4 : Nat) (b5 : Nat) (wi : Rp.Lay Prim) (vi : Rp.Lay Prim), St M0 F0 w0 128 [(1, .pointer (some ⟨b1, 0, none⟩)), (2, .bool false), (3, .pointer (some ⟨b3, 0, none⟩)), (4, .pointer (some ⟨b4, 0, none⟩)), (5, .pointer (some ⟨b5, 0, none⟩))] [row 9 Az cz p.old, row 9 Bz dz p.new, row 9 vi.1.1 vi.1.2 p.old, row 9 vi.2.1 vi.2.2 p.new, row 9 wi.1.1 wi.1.2 p.new, row 9 wi.2.1 wi.2.2 p.old, box b3 39 (Rp.enc p ((Az, cz), (Bz, dz))), box b4 39 (Rp.enc ({ p with old := p.new, new := p.old } : Prim) wi), box b5 39 (Rp.enc p vi), box b1 83 (Rp.enc p y)] (Rp.asn p y ++ [tabA Tryz.prog]) a w) ?_ ?_
              ·
                refine cd [1, 3, 4, 5, 6, 7] [(0, b3, 0, _), (2, b3, 0, _)] TryzX.mixed (TOk.t (isBoxS (by repeat' constructor) (k := 6) (by repeat (first | exact Cut.d | apply Cut.t | apply Cut.s))) (TOk.t (isBoxS (by repeat' constructor) (k := 6) (by repeat (first | exact Cut.d | apply Cut.t | apply Cut.s))) TOk.d)) ?_
                refine tk 0 rfl (by kernel_rfl) (fun _ _ _ h => h) gnone (TTat (List.Mem.head _)) (p_lda Tryz.isAgg39 Tryz.sizeOf39 rfl rfl) rfl ?_
                refine tk 2 rfl (by kernel_rfl) (fun _ _ _ h => h) gnone (TTat (List.Mem.tail _ (List.Mem.head _))) (p_lda Tryz.isAgg39 Tryz.sizeOf39 rfl rfl) rfl ?_
                refine dall (is := [1, 4, 5]) (by kernel_rfl) rfl ?_
                intro i hi; simp only [List.mem_cons, List.mem_nil_iff, or_false] at hi; rcases hi with rfl | rfl | rfl
                ·
                  refine doR rfl (o_call (is := [1, 1]) Tryz.call49 (c_primInvertB p ((Az, cz), (Bz, dz)) hp hk) rfl rfl (by repeat' (first | constructor | apply Sub.suf)) rfl) (TOk.x (by kernel_rfl) (TOk.t (isBoxE fun _ => isBoxS (by repeat' constructor) (k := 6) (by repeat (first | exact Cut.d | apply Cut.t | apply Cut.s))) TOk.d)) ?_
                  refine ea ?_; intro wi
                  refine dall (is := [3, 4, 5]) (by kernel_rfl) rfl ?_
                  intro i hi; simp only [List.mem_cons, List.mem_nil_iff, or_false] at hi; rcases hi with rfl | rfl | rfl
                  ·
                    refine doR rfl (o_call (is := [0, 0]) Tryz.call48 (c_primCloneB p ((Az, cz), (Bz, dz)) hp) rfl rfl (by repeat' (first | constructor | apply Sub.suf)) rfl) (TOk.x (by kernel_rfl) (TOk.x (by kernel_rfl) TOk.d)) ?_
                    refine ea ?_; intro vi
                    refine dall (is := [4, 5]) (by kernel_rfl) rfl ?_
                    intro i hi; simp only [List.mem_cons, List.mem_nil_iff, or_false] at hi; rcases hi with rfl | rfl
                    ·
                      refine doR rfl (o_alloc Tryz.zeroValue39 rfl rfl) (TOk.x (by kernel_rfl) (TOk.x (by kernel_rfl) TOk.d)) ?_
                      refine ea ?_; intro b4
                      refine df 5 (by kernel_rfl) ?_
                      refine doR rfl (o_alloc Tryz.zeroValue39 rfl rfl) (TOk.x (by kernel_rfl) (TOk.x (by kernel_rfl) TOk.d)) ?_
                      refine ea ?_; intro b5
                      refine df 6 (by kernel_rfl) ?_
                      refine doR rfl (o_st rfl Tryz.sizeOf39 rfl rfl rfl rfl rfl (by repeat' constructor) (by repeat' constructor) (by repeat' constructor)) (TOk.x (by kernel_rfl) (TOk.x (by kernel_rfl) TOk.d)) ?_
                      refine df 7 (by kernel_rfl) ?_
                      refine doR rfl (o_st rfl Tryz.sizeOf39 rfl rfl rfl rfl rfl (by repeat' constructor) (by repeat' constructor) (by repeat' constructor)) (TOk.x (by kernel_rfl) (TOk.x (by kernel_rfl) TOk.d)) ?_
                      refine dn (by kernel_rfl) (nmid (fun a w h => by first | exact ⟨b4, b5, wi, vi, wk (is := [2, 2, 2, 2, 2, 2, 2, 1, 0, 0]) (by repeat (first | exact subσ.nil _ | refine subσ.cons rfl ?_)) rfl (by repeat' (first | constructor | apply Sub.suf)) a w h⟩ | exact ⟨b4, b5, wi, vi, wk (is := [2, 2, 2, 2, 2, 2, 2, 0, 0, 0]) (by repeat (first | exact subσ.nil _ | refine subσ.cons rfl ?_)) rfl (by repeat' (first | constructor | apply Sub.suf)) a w h⟩ | exact ⟨b4, b5, wi, vi, wk (is := [1, 1, 1, 1, 2, 2, 2, 1, 0, 0]) (by repeat (first | exact subσ.nil _ | refine subσ.cons rfl ?_)) rfl (by repeat' (first | constructor | apply Sub.suf)) a w h⟩ | exact ⟨b4, b5, wi, vi, wk (is := [0, 0, 0, 0, 2, 2, 2, 1, 0, 0]) (by repeat (first | exact subσ.nil _ | refine subσ.cons rfl ?_)) rfl (by repeat' (first | constructor | apply Sub.suf)) a w h⟩ | exact ⟨b4, b5, wi, vi, wk (is := [1, 1, 1, 1, 2, 2, 2, 0, 0, 0]) (by repeat (first | exact subσ.nil _ | refine subσ.cons rfl ?_)) rfl (by repeat' (first | constructor | apply Sub.suf)) a w h⟩ | exact ⟨b4, b5, wi, vi, wk (is := [0, 0, 0, 0, 2, 2, 2, 0, 0, 0]) (by repeat (first | exact subσ.nil _ | refine subσ.cons rfl ?_)) rfl (by repeat' (first | constructor | apply Sub.suf)) a w h⟩ | exact ⟨b4, b5, wi, vi, wk (is := [1, 1, 1, 1, 1, 1, 2, 1, 0, 0]) (by repeat (first | exact subσ.nil _ | refine subσ.cons rfl ?_)) rfl (by repeat' (first | constructor | apply Sub.suf)) a w h⟩ | exact ⟨b4, b5, wi, vi, wk (is := [0, 0, 0, 0, 1, 1, 2, 1, 0, 0]) (by repeat (first | exact subσ.nil _ | refine subσ.cons rfl ?_)) rfl (by repeat' (first | constructor | apply Sub.suf)) a w h⟩ | exact ⟨b4, b5, wi, vi, wk (is := [0, 0, 0, 0, 0, 0, 2, 1, 0, 0]) (by repeat (first | exact subσ.nil _ | refine subσ.cons rfl ?_)) rfl (by repeat' (first | constructor | apply Sub.suf)) a w h⟩ | exact ⟨b4, b5, wi, vi, wk (is := [1, 1, 1, 1, 1, 1, 2, 0, 0, 0]) (by repeat (first | exact subσ.nil _ | refine subσ.cons rfl ?_)) rfl (by repeat' (first | constructor | apply Sub.suf)) a w h⟩ | exact ⟨b4, b5, wi, vi, wk (is := [0, 0, 0, 0, 1, 1, 2, 0, 0, 0]) (by repeat (first | exact subσ.nil _ | refine subσ.cons rfl ?_)) rfl (by repeat' (first | constructor | apply Sub.suf)) a w h⟩ | exact ⟨b4, b5, wi, vi, wk (is := [0, 0, 0, 0, 0, 0, 2, 0, 0, 0]) (by repeat (first | exact subσ.nil _ | refine subσ.cons rfl ?_)) rfl (by repeat' (first | constructor | apply Sub.suf)) a w h⟩))
                    ·
                      refine doR rfl (o_alloc Tryz.zeroValue39 rfl rfl) (TOk.x (by kernel_rfl) (TOk.x (by kernel_rfl) TOk.d)) ?_
                      refine ea ?_; intro b5
                      refine df 4 (by kernel_rfl) ?_
                      refine doR rfl (o_alloc Tryz.zeroValue39 rfl rfl) (TOk.x (by kernel_rfl) (TOk.x (by kernel_rfl) TOk.d)) ?_
                      refine ea ?_; intro b4
                      refine df 6 (by kernel_rfl) ?_
                      refine doR rfl (o_st rfl Tryz.sizeOf39 rfl rfl rfl rfl rfl (by repeat' constructor) (by repeat' constructor) (by repeat' constructor)) (TOk.x (by kernel_rfl) (TOk.x (by kernel_rfl) TOk.d)) ?_
                      refine df 7 (by kernel_rfl) ?_
                      refine doR rfl (o_st rfl Tryz.sizeOf39 rfl rfl rfl rfl rfl (by repeat' constructor) (by repeat' constructor) (by repeat' constructor)) (TOk.x (by kernel_rfl) (TOk.x (by kernel_rfl) TOk.d)) ?_
                      refine dn (by kernel_rfl) (nmid (fun a w h => by first | exact ⟨b4, b5, wi, vi, wk (is := [2, 2, 2, 2, 2, 2, 2, 1, 0, 0]) (by repeat (first | exact subσ.nil _ | refine subσ.cons rfl ?_)) rfl (by repeat' (first | constructor | apply Sub.suf)) a w h⟩ | exact ⟨b4, b5, wi, vi, wk (is := [2, 2, 2, 2, 2, 2, 2, 0, 0, 0]) (by repeat (first | exact subσ.nil _ | refine subσ.cons rfl ?_)) rfl (by repeat' (first | constructor | apply Sub.suf)) a w h⟩ | exact ⟨b4, b5, wi, vi, wk (is := [1, 1, 1, 1, 2, 2, 2, 1, 0, 0]) (by repeat (first | exact subσ.nil _ | refine subσ.cons rfl ?_)) rfl (by repeat' (first | constructor | apply Sub.suf)) a w h⟩ | exact ⟨b4, b5, wi, vi, wk (is := [0, 0, 0, 0, 2, 2, 2, 1, 0, 0]) (by repeat (first | exact subσ.nil _ | refine subσ.cons rfl ?_)) rfl (by repeat' (first | constructor | apply Sub.suf)) a w h⟩ | exact ⟨b4, b5, wi, vi, wk (is := [1, 1, 1, 1, 2, 2, 2, 0, 0, 0]) (by repeat (first | exact subσ.nil _ | refine subσ.cons rfl ?_)) rfl (by repeat' (first | constructor | apply Sub.suf)) a w h⟩ | exact ⟨b4, b5, wi, vi, wk (is := [0, 0, 0, 0, 2, 2, 2, 0, 0, 0]) (by repeat (first | exact subσ.nil _ | refine subσ.cons rfl ?_)) rfl (by repeat' (first | constructor | apply Sub.suf)) a w h⟩ | exact ⟨b4, b5, wi, vi, wk (is := [1, 1, 1, 1, 1, 1, 2, 1, 0, 0]) (by repeat (first | exact subσ.nil _ | refine subσ.cons rfl ?_)) rfl (by repeat' (first | constructor | apply Sub.suf)) a w h⟩ | exact ⟨b4, b5, wi, vi, wk (is := [0, 0, 0, 0, 1, 1, 2, 1, 0, 0]) (by repeat (first | exact subσ.nil _ | refine subσ.cons rfl ?_)) rfl (by repeat' (first | constructor | apply Sub.suf)) a w h⟩ | exact ⟨b4, b5, wi, vi, wk (is := [0, 0, 0, 0, 0, 0, 2, 1, 0, 0]) (by repeat (first | exact subσ.nil _ | refine subσ.cons rfl ?_)) rfl (by repeat' (first | constructor | apply Sub.suf)) a w h⟩ | exact ⟨b4, b5, wi, vi, wk (is := [1, 1, 1, 1, 1, 1, 2, 0, 0, 0]) (by repeat (first | exact subσ.nil _ | refine subσ.cons rfl ?_)) rfl (by repeat' (first | constructor | apply Sub.suf)) a w h⟩ | exact ⟨b4, b5, wi, vi, wk (is := [0, 0, 0, 0, 1, 1, 2, 0, 0, 0]) (by repeat (first | exact subσ.nil _ | refine subσ.cons rfl ?_)) rfl (by repeat' (first | constructor | apply Sub.suf)) a w h⟩ | exact ⟨b4, b5, wi, vi, wk (is := [0, 0, 0, 0, 0, 0, 2, 0, 0, 0]) (by repeat (first | exact subσ.nil _ | refine subσ.cons rfl ?_)) rfl (by repeat' (first | constructor | apply Sub.suf)) a w h⟩))
                  ·
                    refine doR rfl (o_alloc Tryz.zeroValue39 rfl rfl) (TOk.x (by kernel_rfl) (TOk.t (isBoxE fun _ => isBoxS (by repeat' constructor) (k := 6) (by repeat (first | exact Cut.d | apply Cut.t | apply Cut.s))) TOk.d)) ?_
                    refine ea ?_; intro b4
                    refine dall (is := [3, 5]) (by kernel_rfl) rfl ?_
                    intro i hi; simp only [List.mem_cons, List.mem_nil_iff, or_false] at hi; rcases hi with rfl | rfl
                    ·
                      refine doR rfl (o_call (is := [1, 1]) Tryz.call48 (c_primCloneB p ((Az, cz), (Bz, dz)) hp) rfl rfl (by repeat' (first | constructor | apply Sub.suf)) rfl) (TOk.x (by kernel_rfl) (TOk.x (by kernel_rfl) TOk.d)) ?_
                      refine ea ?_; intro vi
                      refine df 5 (by kernel_rfl) ?_
                      refine doR rfl (o_alloc Tryz.zeroValue39 rfl rfl) (TOk.x (by kernel_rfl) (TOk.x (by kernel_rfl) TOk.d)) ?_
                      refine ea ?_; intro b5
                      refine df 6 (by kernel_rfl) ?_
                      refine doR rfl (o_st rfl Tryz.sizeOf39 rfl rfl rfl rfl rfl (by repeat' constructor) (by repeat' constructor) (by repeat' constructor)) (TOk.x (by kernel_rfl) (TOk.x (by kernel_rfl) TOk.d)) ?_
                      refine df 7 (by kernel_rfl) ?_
                      refine doR rfl (o_st rfl Tryz.sizeOf39 rfl rfl rfl rfl rfl (by repeat' constructor) (by repeat' constructor) (by repeat' constructor)) (TOk.x (by kernel_rfl) (TOk.x (by kernel_rfl) TOk.d)) ?_
                      refine dn (by kernel_rfl) (nmid (fun a w h => by first | exact ⟨b4, b5, wi, vi, wk (is := [2, 2, 2, 2, 2, 2, 2, 1, 0, 0]) (by repeat (first | exact subσ.nil _ | refine subσ.cons rfl ?_)) rfl (by repeat' (first | constructor | apply Sub.suf)) a w h⟩ | exact ⟨b4, b5, wi, vi, wk (is := [2, 2, 2, 2, 2, 2, 2, 0, 0, 0]) (by repeat (first | exact subσ.nil _ | refine subσ.cons rfl ?_)) rfl (by repeat' (first | constructor | apply Sub.suf)) a w h⟩ | exact ⟨b4, b5, wi, vi, wk (is := [1, 1, 1, 1, 2, 2, 2, 1, 0, 0]) (by repeat (first | exact subσ.nil _ | refine subσ.cons rfl ?_)) rfl (by repeat' (first | constructor | apply Sub.suf)) a w h⟩ | exact ⟨b4, b5, wi, vi, wk (is := [0, 0, 0, 0, 2, 2, 2, 1, 0, 0]) (by repeat (first | exact subσ.nil _ | refine subσ.cons rfl ?_)) rfl (by repeat' (first | constructor | apply Sub.suf)) a w h⟩ | exact ⟨b4, b5, wi, vi, wk (is := [1, 1, 1, 1, 2, 2, 2, 0, 0, 0]) (by repeat (first | exact subσ.nil _ | refine subσ.cons rfl ?_)) rfl (by repeat' (first | constructor | apply Sub.suf)) a w h⟩ | exact ⟨b4, b5, wi, vi, wk (is := [0, 0, 0, 0, 2, 2, 2, 0, 0, 0]) (by repeat (first | exact subσ.nil _ | refine subσ.cons rfl ?_)) rfl (by repeat' (first | constructor | apply Sub.suf)) a w h⟩ | exact ⟨b4, b5, wi, vi, wk (is := [1, 1, 1, 1, 1, 1, 2, 1, 0, 0]) (by repeat (first | exact subσ.nil _ | refine subσ.cons rfl ?_)) rfl (by repeat' (first | constructor | apply Sub.suf)) a w h⟩ | exact ⟨b4, b5, wi, vi, wk (is := [0, 0, 0, 0, 1, 1, 2, 1, 0, 0]) (by repeat (first | exact subσ.nil _ | refine subσ.cons rfl ?_)) rfl (by repeat' (first | constructor | apply Sub.suf)) a w h⟩ | exact ⟨b4, b5, wi, vi, wk (is := [0, 0, 0, 0, 0, 0, 2, 1, 0, 0]) (by repeat (first | exact subσ.nil _ | refine subσ.cons rfl ?_)) rfl (by repeat' (first | constructor | apply Sub.suf)) a w h⟩ | exact ⟨b4, b5, wi, vi, wk (is := [1, 1, 1, 1, 1, 1, 2, 0, 0, 0]) (by repeat (first | exact subσ.nil _ | refine subσ.cons rfl ?_)) rfl (by repeat' (first | constructor | apply Sub.suf)) a w h⟩ | exact ⟨b4, b5, wi, vi, wk (is := [0, 0, 0, 0, 1, 1, 2, 0, 0, 0]) (by repeat (first | exact subσ.nil _ | refine subσ.cons rfl ?_)) rfl (by repeat' (first | constructor | apply Sub.suf)) a w h⟩ | exact ⟨b4, b5, wi, vi, wk (is := [0, 0, 0, 0, 0, 0, 2, 0, 0, 0]) (by repeat (first | exact subσ.nil _ | refine subσ.cons rfl ?_)) rfl (by repeat' (first | constructor | apply Sub.suf)) a w h⟩))
                    ·
                      refine doR rfl (o_alloc Tryz.zeroValue39 rfl rfl) (TOk.x (by kernel_rfl) (TOk.t (isBoxE fun _ => isBoxS (by repeat' constructor) (k := 6) (by repeat (first | exact Cut.d | apply Cut.t | apply Cut.s))) TOk.d)) ?_
                      refine ea ?_; intro b5
                      refine df 3 (by kernel_rfl) ?_
                      refine doR rfl (o_call (is := [2, 2]) Tryz.call48 (c_primCloneB p ((Az, cz), (Bz, dz)) hp) rfl rfl (by repeat' (first | constructor | apply Sub.suf)) rfl) (TOk.x (by kernel_rfl) (TOk.x (by kernel_rfl) TOk.d)) ?_
                      refine ea ?_; intro vi
                      refine df 6 (by kernel_rfl) ?_
                      refine doR rfl (o_st rfl Tryz.sizeOf39 rfl rfl rfl rfl rfl (by repeat' constructor) (by repeat' constructor) (by repeat' constructor)) (TOk.x (by kernel_rfl) (TOk.x (by kernel_rfl) TOk.d)) ?_
                      refine df 7 (by kernel_rfl) ?_
                      refine doR rfl (o_st rfl Tryz.sizeOf39 rfl rfl rfl rfl rfl (by repeat' constructor) (by repeat' constructor) (by repeat' constructor)) (TOk.x (by kernel_rfl) (TOk.x (by kernel_rfl) TOk.d)) ?_
                      refine dn (by kernel_rfl) (nmid (fun a w h => by first | exact ⟨b4, b5, wi, vi, wk (is := [2, 2, 2, 2, 2, 2, 2, 1, 0, 0]) (by repeat (first | exact subσ.nil _ | refine subσ.cons rfl ?_)) rfl (by repeat' (first | constructor | apply Sub.suf)) a w h⟩ | exact ⟨b4, b5, wi, vi, wk (is := [2, 2, 2, 2, 2, 2, 2, 0, 0, 0]) (by repeat (first | exact subσ.nil _ | refine subσ.cons rfl ?_)) rfl (by repeat' (first | constructor | apply Sub.suf)) a w h⟩ | exact ⟨b4, b5, wi, vi, wk (is := [1, 1, 1, 1, 2, 2, 2, 1, 0, 0]) (by repeat (first | exact subσ.nil _ | refine subσ.cons rfl ?_)) rfl (by repeat' (first | constructor | apply Sub.suf)) a w h⟩ | exact ⟨b4, b5, wi, vi, wk (is := [0, 0, 0, 0, 2, 2, 2, 1, 0, 0]) (by repeat (first | exact subσ.nil _ | refine subσ.cons rfl ?_)) rfl (by repeat' (first | constructor | apply Sub.suf)) a w h⟩ | exact ⟨b4, b5, wi, vi, wk (is := [1, 1, 1, 1, 2, 2, 2, 0, 0, 0]) (by repeat (first | exact subσ.nil _ | refine subσ.cons rfl ?_)) rfl (by repeat' (first | constructor | apply Sub.suf)) a w h⟩ | exact ⟨b4, b5, wi, vi, wk (is := [0, 0, 0, 0, 2, 2, 2, 0, 0, 0]) (by repeat (first | exact subσ.nil _ | refine subσ.cons rfl ?_)) rfl (by repeat' (first | constructor | apply Sub.suf)) a w h⟩ | exact ⟨b4, b5, wi, vi, wk (is := [1, 1, 1, 1, 1, 1, 2, 1, 0, 0]) (by repeat (first | exact subσ.nil _ | refine subσ.cons rfl ?_)) rfl (by repeat' (first | constructor | apply Sub.suf)) a w h⟩ | exact ⟨b4, b5, wi, vi, wk (is := [0, 0, 0, 0, 1, 1, 2, 1, 0, 0]) (by repeat (first | exact subσ.nil _ | refine subσ.cons rfl ?_)) rfl (by repeat' (first | constructor | apply Sub.suf)) a w h⟩ | exact ⟨b4, b5, wi, vi, wk (is := [0, 0, 0, 0, 0, 0, 2, 1, 0, 0]) (by repeat (first | exact subσ.nil _ | refine subσ.cons rfl ?_)) rfl (by repeat' (first | constructor | apply Sub.suf)) a w h⟩ | exact ⟨b4, b5, wi, vi, wk (is := [1, 1, 1, 1, 1, 1, 2, 0, 0, 0]) (by repeat (first | exact subσ.nil _ | refine subσ.cons rfl ?_)) rfl (by repeat' (first | constructor | apply Sub.suf)) a w h⟩ | exact ⟨b4, b5, wi, vi, wk (is := [0, 0, 0, 0, 1, 1, 2, 0, 0, 0]) (by repeat (first | exact subσ.nil _ | refine subσ.cons rfl ?_)) rfl (by repeat' (first | constructor | apply Sub.suf)) a w h⟩ | exact ⟨b4, b5, wi, vi, wk (is := [0, 0, 0, 0, 0, 0, 2, 0, 0, 0]) (by repeat (first | exact subσ.nil _ | refine subσ.cons rfl ?_)) rfl (by repeat' (first | constructor | apply Sub.suf)) a w h⟩))
                  ·
                    refine doR rfl (o_alloc Tryz.zeroValue39 rfl rfl) (TOk.x (by kernel_rfl) (TOk.t (isBoxE fun _ => isBoxS (by repeat' constructor) (k := 6) (by repeat (first | exact Cut.d | apply Cut.t | apply Cut.s))) TOk.d)) ?_
                    refine ea ?_; intro b5
                    refine dall (is := [3, 4]) (by kernel_rfl) rfl ?_
                    intro i hi; simp only [List.mem_cons, List.mem_nil_iff, or_false] at hi; rcases hi with rfl | rfl
                    ·
                      refine doR rfl (o_call (is := [1, 1]) Tryz.call48 (c_primCloneB p ((Az, cz), (Bz, dz)) hp) rfl rfl (by repeat' (first | constructor | apply Sub.suf)) rfl) (TOk.x (by kernel_rfl) (TOk.x (by kernel_rfl) TOk.d)) ?_
                      refine ea ?_; intro vi
                      refine df 4 (by kernel_rfl) ?_
                      refine doR rfl (o_alloc Tryz.zeroValue39 rfl rfl) (TOk.x (by kernel_rfl) (TOk.x (by kernel_rfl) TOk.d)) ?_
                      refine ea ?_; intro b4
                      refine df 6 (by kernel_rfl) ?_
                      refine doR rfl (o_st rfl Tryz.sizeOf39 rfl rfl rfl rfl rfl (by repeat' constructor) (by repeat' constructor) (by repeat' constructor)) (TOk.x (by kernel_rfl) (TOk.x (by kernel_rfl) TOk.d)) ?_
                      refine df 7 (by kernel_rfl) ?_
                      refine doR rfl (o_st rfl Tryz.sizeOf39 rfl rfl rfl rfl rfl (by repeat' constructor) (by repeat' constructor) (by repeat' constructor)) (TOk.x (by kernel_rfl) (TOk.x (by kernel_rfl) TOk.d)) ?_
                      refine dn (by kernel_rfl) (nmid (fun a w h => by first | exact ⟨b4, b5, wi, vi, wk (is := [2, 2, 2, 2, 2, 2, 2, 1, 0, 0]) (by repeat (first | exact subσ.nil _ | refine subσ.cons rfl ?_)) rfl (by repeat' (first | constructor | apply Sub.suf)) a w h⟩ | exact ⟨b4, b5, wi, vi, wk (is := [2, 2, 2, 2, 2, 2, 2, 0, 0, 0]) (by repeat (first | exact subσ.nil _ | refine subσ.cons rfl ?_)) rfl (by repeat' (first | constructor | apply Sub.suf)) a w h⟩ | exact ⟨b4, b5, wi, vi, wk (is := [1, 1, 1, 1, 2, 2, 2, 1, 0, 0]) (by repeat (first | exact subσ.nil _ | refine subσ.cons rfl ?_)) rfl (by repeat' (first | constructor | apply Sub.suf)) a w h⟩ | exact ⟨b4, b5, wi, vi, wk (is := [0, 0, 0, 0, 2, 2, 2, 1, 0, 0]) (by repeat (first | exact subσ.nil _ | refine subσ.cons rfl ?_)) rfl (by repeat' (first | constructor | apply Sub.suf)) a w h⟩ | exact ⟨b4, b5, wi, vi, wk (is := [1, 1, 1, 1, 2, 2, 2, 0, 0, 0]) (by repeat (first | exact subσ.nil _ | refine subσ.cons rfl ?_)) rfl (by repeat' (first | constructor | apply Sub.suf)) a w h⟩ | exact ⟨b4, b5, wi, vi, wk (is := [0, 0, 0, 0, 2, 2, 2, 0, 0, 0]) (by repeat (first | exact subσ.nil _ | refine subσ.cons rfl ?_)) rfl (by repeat' (first | constructor | apply Sub.suf)) a w h⟩ | exact ⟨b4, b5, wi, vi, wk (is := [1, 1, 1, 1, 1, 1, 2, 1, 0, 0]) (by repeat (first | exact subσ.nil _ | refine subσ.cons rfl ?_)) rfl (by repeat' (first | constructor | apply Sub.suf)) a w h⟩ | exact ⟨b4, b5, wi, vi, wk (is := [0, 0, 0, 0, 1, 1, 2, 1, 0, 0]) (by repeat (first | exact subσ.nil _ | refine subσ.cons rfl ?_)) rfl (by repeat' (first | constructor | apply Sub.suf)) a w h⟩ | exact ⟨b4, b5, wi, vi, wk (is := [0, 0, 0, 0, 0, 0, 2, 1, 0, 0]) (by repeat (first | exact subσ.nil _ | refine subσ.cons rfl ?_)) rfl (by repeat' (first | constructor | apply Sub.suf)) a w h⟩ | exact ⟨b4, b5, wi, vi, wk (is := [1, 1, 1, 1, 1, 1, 2, 0, 0, 0]) (by repeat (first | exact subσ.nil _ | refine subσ.cons rfl ?_)) rfl (by repeat' (first | constructor | apply Sub.suf)) a w h⟩ | exact ⟨b4, b5, wi, vi, wk (is := [0, 0, 0, 0, 1, 1, 2, 0, 0, 0]) (by repeat (first | exact subσ.nil _ | refine subσ.cons rfl ?_)) rfl (by repeat' (first | constructor | apply Sub.suf)) a w h⟩ | exact ⟨b4, b5, wi, vi, wk (is := [0, 0, 0, 0, 0, 0, 2, 0, 0, 0]) (by repeat (first | exact subσ.nil _ | refine subσ.cons rfl ?_)) rfl (by repeat' (first | constructor | apply Sub.suf)) a w h⟩))
                    ·
                      refine doR rfl (o_alloc Tryz.zeroValue39 rfl rfl) (TOk.x (by kernel_rfl) (TOk.t (isBoxE fun _ => isBoxS (by repeat' constructor) (k := 6) (by repeat (first | exact Cut.d | apply Cut.t | apply Cut.s))) TOk.d)) ?_
                      refine ea ?_; intro b4
                      refine df 3 (by kernel_rfl) ?_
                      refine doR rfl (o_call (is := [2, 2]) Tryz.call48 (c_primCloneB p ((Az, cz), (Bz, dz)) hp) rfl rfl (by repeat' (first | constructor | apply Sub.suf)) rfl) (TOk.x (by kernel_rfl) (TOk.x (by kernel_rfl) TOk.d)) ?_
                      refine ea ?_; intro vi
                      refine df 6 (by kernel_rfl) ?_
                      refine doR rfl (o_st rfl Tryz.sizeOf39 rfl rfl rfl rfl rfl (by repeat' constructor) (by repeat' constructor) (by repeat' constructor)) (TOk.x (by kernel_rfl) (TOk.x (by kernel_rfl) TOk.d)) ?_
                      refine df 7 (by kernel_rfl) ?_
                      refine doR rfl (o_st rfl Tryz.sizeOf39 rfl rfl rfl rfl rfl (by repeat' constructor) (by repeat' constructor) (by repeat' constructor)) (TOk.x (by kernel_rfl) (TOk.x (by kernel_rfl) TOk.d)) ?_
                      refine dn (by kernel_rfl) (nmid (fun a w h => by first | exact ⟨b4, b5, wi, vi, wk (is := [2, 2, 2, 2, 2, 2, 2, 1, 0, 0]) (by repeat (first | exact subσ.nil _ | refine subσ.cons rfl ?_)) rfl (by repeat' (first | constructor | apply Sub.suf)) a w h⟩ | exact ⟨b4, b5, wi, vi, wk (is := [2, 2, 2, 2, 2, 2, 2, 0, 0, 0]) (by repeat (first | exact subσ.nil _ | refine subσ.cons rfl ?_)) rfl (by repeat' (first | constructor | apply Sub.suf)) a w h⟩ | exact ⟨b4, b5, wi, vi, wk (is := [1, 1, 1, 1, 2, 2, 2, 1, 0, 0]) (by repeat (first | exact subσ.nil _ | refine subσ.cons rfl ?_)) rfl (by repeat' (first | constructor | apply Sub.suf)) a w h⟩ | exact ⟨b4, b5, wi, vi, wk (is := [0, 0, 0, 0, 2, 2, 2, 1, 0, 0]) (by repeat (first | exact subσ.nil _ | refine subσ.cons rfl ?_)) rfl (by repeat' (first | constructor | apply Sub.suf)) a w h⟩ | exact ⟨b4, b5, wi, vi, wk (is := [1, 1, 1, 1, 2, 2, 2, 0, 0, 0]) (by repeat (first | exact subσ.nil _ | refine subσ.cons rfl ?_)) rfl (by repeat' (first | constructor | apply Sub.suf)) a w h⟩ | exact ⟨b4, b5, wi, vi, wk (is := [0, 0, 0, 0, 2, 2, 2, 0, 0, 0]) (by repeat (first | exact subσ.nil _ | refine subσ.cons rfl ?_)) rfl (by repeat' (first | constructor | apply Sub.suf)) a w h⟩ | exact ⟨b4, b5, wi, vi, wk (is := [1, 1, 1, 1, 1, 1, 2, 1, 0, 0]) (by repeat (first | exact subσ.nil _ | refine subσ.cons rfl ?_)) rfl (by repeat' (first | constructor | apply Sub.suf)) a w h⟩ | exact ⟨b4, b5, wi, vi, wk (is := [0, 0, 0, 0, 1, 1, 2, 1, 0, 0]) (by repeat (first | exact subσ.nil _ | refine subσ.cons rfl ?_)) rfl (by repeat' (first | constructor | apply Sub.suf)) a w h⟩ | exact ⟨b4, b5, wi, vi, wk (is := [0, 0, 0, 0, 0, 0, 2, 1, 0, 0]) (by repeat (first | exact subσ.nil _ | refine subσ.cons rfl ?_)) rfl (by repeat' (first | constructor | apply Sub.suf)) a w h⟩ | exact ⟨b4, b5, wi, vi, wk (is := [1, 1, 1, 1, 1, 1, 2, 0, 0, 0]) (by repeat (first | exact subσ.nil _ | refine subσ.cons rfl ?_)) rfl (by repeat' (first | constructor | apply Sub.suf)) a w h⟩ | exact ⟨b4, b5, wi, vi, wk (is := [0, 0, 0, 0, 1, 1, 2, 0, 0, 0]) (by repeat (first | exact subσ.nil _ | refine subσ.cons rfl ?_)) rfl (by repeat' (first | constructor | apply Sub.suf)) a w h⟩ | exact ⟨b4, b5, wi, vi, wk (is := [0, 0, 0, 0, 0, 0, 2, 0, 0, 0]) (by repeat (first | exact subσ.nil _ | refine subσ.cons rfl ?_)) rfl (by repeat' (first | constructor | apply Sub.suf)) a w h⟩))
                ·
                  refine doR rfl (o_alloc Tryz.zeroValue39 rfl rfl) (TOk.t (isBoxE fun _ => isBoxS (by repeat' constructor) (k := 6) (by repeat (first | exact Cut.d | apply Cut.t | apply Cut.s))) (TOk.t (isBoxE fun _ => isBoxS (by repeat' constructor) (k := 6) (by repeat (first | exact Cut.d | apply Cut.t | apply Cut.s))) TOk.d)) ?_
                  refine ea ?_; intro b4
                  refine dall (is := [1, 5]) (by kernel_rfl) rfl ?_
                  intro i hi; simp only [List.mem_cons, List.mem_nil_iff, or_false] at hi; rcases hi with rfl | rfl
                  ·
                    refine doR rfl (o_call (is := [2, 2]) Tryz.call49 (c_primInvertB p ((Az, cz), (Bz, dz)) hp hk) rfl rfl (by repeat' (first | constructor | apply Sub.suf)) rfl) (TOk.x (by kernel_rfl) (TOk.t (isBoxE fun _ => isBoxS (by repeat' constructor) (k := 6) (by repeat (first | exact Cut.d | apply Cut.t | apply Cut.s))) TOk.d)) ?_
                    refine ea ?_; intro wi
                    refine dall (is := [3, 5]) (by kernel_rfl) rfl ?_
                    intro i hi; simp only [List.mem_cons, List.mem_nil_iff, or_false] at hi; rcases hi with rfl | rfl
                    ·
                      refine doR rfl (o_call (is := [0, 0]) Tryz.call48 (c_primCloneB p ((Az, cz), (Bz, dz)) hp) rfl rfl (by repeat' (first | constructor | apply Sub.suf)) rfl) (TOk.x (by kernel_rfl) (TOk.x (by kernel_rfl) TOk.d)) ?_
                      refine ea ?_; intro vi
                      refine df 5 (by kernel_rfl) ?_
                      refine doR rfl (o_alloc Tryz.zeroValue39 rfl rfl) (TOk.x (by kernel_rfl) (TOk.x (by kernel_rfl) TOk.d)) ?_
                      refine ea ?_; intro b5
                      refine df 6 (by kernel_rfl) ?_
                      refine doR rfl (o_st rfl Tryz.sizeOf39 rfl rfl rfl rfl rfl (by repeat' constructor) (by repeat' constructor) (by repeat' constructor)) (TOk.x (by kernel_rfl) (TOk.x (by kernel_rfl) TOk.d)) ?_
                      refine df 7 (by kernel_rfl) ?_
                      refine doR rfl (o_st rfl Tryz.sizeOf39 rfl rfl rfl rfl rfl (by repeat' constructor) (by repeat' constructor) (by repeat' constructor)) (TOk.x (by kernel_rfl) (TOk.x (by kernel_rfl) TOk.d)) ?_
                      refine dn (by kernel_rfl) (nmid (fun a w h => by first | exact ⟨b4, b5, wi, vi, wk (is := [2, 2, 2, 2, 2, 2, 2, 1, 0, 0]) (by repeat (first | exact subσ.nil _ | refine subσ.cons rfl ?_)) rfl (by repeat' (first | constructor | apply Sub.suf)) a w h⟩ | exact ⟨b4, b5, wi, vi, wk (is := [2, 2, 2, 2, 2, 2, 2, 0, 0, 0]) (by repeat (first | exact subσ.nil _ | refine subσ.cons rfl ?_)) rfl (by repeat' (first | constructor | apply Sub.suf)) a w h⟩ | exact ⟨b4, b5, wi, vi, wk (is := [1, 1, 1, 1, 2, 2, 2, 1, 0, 0]) (by repeat (first | exact subσ.nil _ | refine subσ.cons rfl ?_)) rfl (by repeat' (first | constructor | apply Sub.suf)) a w h⟩ | exact ⟨b4, b5, wi, vi, wk (is := [0, 0, 0, 0, 2, 2, 2, 1, 0, 0]) (by repeat (first | exact subσ.nil _ | refine subσ.cons rfl ?_)) rfl (by repeat' (first | constructor | apply Sub.suf)) a w h⟩ | exact ⟨b4, b5, wi, vi, wk (is := [1, 1, 1, 1, 2, 2, 2, 0, 0, 0]) (by repeat (first | exact subσ.nil _ | refine subσ.cons rfl ?_)) rfl (by repeat' (first | constructor | apply Sub.suf)) a w h⟩ | exact ⟨b4, b5, wi, vi, wk (is := [0, 0, 0, 0, 2, 2, 2, 0, 0, 0]) (by repeat (first | exact subσ.nil _ | refine subσ.cons rfl ?_)) rfl (by repeat' (first | constructor | apply Sub.suf)) a w h⟩ | exact ⟨b4, b5, wi, vi, wk (is := [1, 1, 1, 1, 1, 1, 2, 1, 0, 0]) (by repeat (first | exact subσ.nil _ | refine subσ.cons rfl ?_)) rfl (by repeat' (first | constructor | apply Sub.suf)) a w h⟩ | exact ⟨b4, b5, wi, vi, wk (is := [0, 0, 0, 0, 1, 1, 2, 1, 0, 0]) (by repeat (first | exact subσ.nil _ | refine subσ.cons rfl ?_)) rfl (by repeat' (first | constructor | apply Sub.suf)) a w h⟩ | exact ⟨b4, b5, wi, vi, wk (is := [0, 0, 0, 0, 0, 0, 2, 1, 0, 0]) (by repeat (first | exact subσ.nil _ | refine subσ.cons rfl ?_)) rfl (by repeat' (first | constructor | apply Sub.suf)) a w h⟩ | exact ⟨b4, b5, wi, vi, wk (is := [1, 1, 1, 1, 1, 1, 2, 0, 0, 0]) (by repeat (first | exact subσ.nil _ | refine subσ.cons rfl ?_)) rfl (by repeat' (first | constructor | apply Sub.suf)) a w h⟩ | exact ⟨b4, b5, wi, vi, wk (is := [0, 0, 0, 0, 1, 1, 2, 0, 0, 0]) (by repeat (first | exact subσ.nil _ | refine subσ.cons rfl ?_)) rfl (by repeat' (first | constructor | apply Sub.suf)) a w h⟩ | exact ⟨b4, b5, wi, vi, wk (is := [0, 0, 0, 0, 0, 0, 2, 0, 0, 0]) (by repeat (first | exact subσ.nil _ | refine subσ.cons rfl ?_)) rfl (by repeat' (first | constructor | apply Sub.suf)) a w h⟩))
                    ·
                      refine doR rfl (o_alloc Tryz.zeroValue39 rfl rfl) (TOk.x (by kernel_rfl) (TOk.t (isBoxE fun _ => isBoxS (by repeat' constructor) (k := 6) (by repeat (first | exact Cut.d | apply Cut.t | apply Cut.s))) TOk.d)) ?_
                      refine ea ?_; intro b5
                      refine df 3 (by kernel_rfl) ?_
                      refine doR rfl (o_call (is := [1, 1]) Tryz.call48 (c_primCloneB p ((Az, cz), (Bz, dz)) hp) rfl rfl (by repeat' (first | constructor | apply Sub.suf)) rfl) (TOk.x (by kernel_rfl) (TOk.x (by kernel_rfl) TOk.d)) ?_
                      refine ea ?_; intro vi
                      refine df 6 (by kernel_rfl) ?_
                      refine doR rfl (o_st rfl Tryz.sizeOf39 rfl rfl rfl rfl rfl (by repeat' constructor) (by repeat' constructor) (by repeat' constructor)) (TOk.x (by kernel_rfl) (TOk.x (by kernel_rfl) TOk.d)) ?_
                      refine df 7 (by kernel_rfl) ?_
                      refine doR rfl (o_st rfl Tryz.sizeOf39 rfl rfl rfl rfl rfl (by repeat' constructor) (by repeat' constructor) (by repeat' constructor)) (TOk.x (by kernel_rfl) (TOk.x (by kernel_rfl) TOk.d)) ?_
                      refine dn (by kernel_rfl) (nmid (fun a w h => by first | exact ⟨b4, b5, wi, vi, wk (is := [2, 2, 2, 2, 2, 2, 2, 1, 0, 0]) (by repeat (first | exact subσ.nil _ | refine subσ.cons rfl ?_)) rfl (by repeat' (first | constructor | apply Sub.suf)) a w h⟩ | exact ⟨b4, b5, wi, vi, wk (is := [2, 2, 2, 2, 2, 2, 2, 0, 0, 0]) (by repeat (first | exact subσ.nil _ | refine subσ.cons rfl ?_)) rfl (by repeat' (first | constructor | apply Sub.suf)) a w h⟩ | exact ⟨b4, b5, wi, vi, wk (is := [1, 1, 1, 1, 2, 2, 2, 1, 0, 0]) (by repeat (first | exact subσ.nil _ | refine subσ.cons rfl ?_)) rfl (by repeat' (first | constructor | apply Sub.suf)) a w h⟩ | exact ⟨b4, b5, wi, vi, wk (is := [0, 0, 0, 0, 2, 2, 2, 1, 0, 0]) (by repeat (first | exact subσ.nil _ | refine subσ.cons rfl ?_)) rfl (by repeat' (first | constructor | apply Sub.suf)) a w h⟩ | exact ⟨b4, b5, wi, vi, wk (is := [1, 1, 1, 1, 2, 2, 2, 0, 0, 0]) (by repeat (first | exact subσ.nil _ | refine subσ.cons rfl ?_)) rfl (by repeat' (first | constructor | apply Sub.suf)) a w h⟩ | exact ⟨b4, b5, wi, vi, wk (is := [0, 0, 0, 0, 2, 2, 2, 0, 0, 0]) (by repeat (first | exact subσ.nil _ | refine subσ.cons rfl ?_)) rfl (by repeat' (first | constructor | apply Sub.suf)) a w h⟩ | exact ⟨b4, b5, wi, vi, wk (is := [1, 1, 1, 1, 1, 1, 2, 1, 0, 0]) (by repeat (first | exact subσ.nil _ | refine subσ.cons rfl ?_)) rfl (by repeat' (first | constructor | apply Sub.suf)) a w h⟩ | exact ⟨b4, b5, wi, vi, wk (is := [0, 0, 0, 0, 1, 1, 2, 1, 0, 0]) (by repeat (first | exact subσ.nil _ | refine subσ.cons rfl ?_)) rfl (by repeat' (first | constructor | apply Sub.suf)) a w h⟩ | exact ⟨b4, b5, wi, vi, wk (is := [0, 0, 0, 0, 0, 0, 2, 1, 0, 0]) (by repeat (first | exact subσ.nil _ | refine subσ.cons rfl ?_)) rfl (by repeat' (first | constructor | apply Sub.suf)) a w h⟩ | exact ⟨b4, b5, wi, vi, wk (is := [1, 1, 1, 1, 1, 1, 2, 0, 0, 0]) (by repeat (first | exact subσ.nil _ | refine subσ.cons rfl ?_)) rfl (by repeat' (first | constructor | apply Sub.suf)) a w h⟩ | exact ⟨b4, b5, wi, vi, wk (is := [0, 0, 0, 0, 1, 1, 2, 0, 0, 0]) (by repeat (first | exact subσ.nil _ | refine subσ.cons rfl ?_)) rfl (by repeat' (first | constructor | apply Sub.suf)) a w h⟩ | exact ⟨b4, b5, wi, vi, wk (is := [0, 0, 0, 0, 0, 0, 2, 0, 0, 0]) (by repeat (first | exact subσ.nil _ | refine subσ.cons rfl ?_)) rfl (by repeat' (first | constructor | apply Sub.suf)) a w h⟩))
                  ·
                    refine doR rfl (o_alloc Tryz.zeroValue39 rfl rfl) (TOk.t (isBoxE fun _ => isBoxS (by repeat' constructor) (k := 6) (by repeat (first | exact Cut.d | apply Cut.t | apply Cut.s))) (TOk.t (isBoxE fun _ => isBoxS (by repeat' constructor) (k := 6) (by repeat (first | exact Cut.d | apply Cut.t | apply Cut.s))) TOk.d)) ?_
                    refine ea ?_; intro b5
                    refine df 1 (by kernel_rfl) ?_
                    refine doR rfl (o_call (is := [3, 3]) Tryz.call49 (c_primInvertB p ((Az, cz), (Bz, dz)) hp hk) rfl rfl (by repeat' (first | constructor | apply Sub.suf)) rfl) (TOk.x (by kernel_rfl) (TOk.t (isBoxE fun _ => isBoxS (by repeat' constructor) (k := 6) (by repeat (first | exact Cut.d | apply Cut.t | apply Cut.s))) TOk.d)) ?_
                    refine ea ?_; intro wi
                    refine df 3 (by kernel_rfl) ?_
                    refine doR rfl (o_call (is := [0, 0]) Tryz.call48 (c_primCloneB p ((Az, cz), (Bz, dz)) hp) rfl rfl (by repeat' (first | constructor | apply Sub.suf)) rfl) (TOk.x (by kernel_rfl) (TOk.x (by kernel_rfl) TOk.d)) ?_
                    refine ea ?_; intro vi
                    refine df 6 (by kernel_rfl) ?_
                    refine doR rfl (o_st rfl Tryz.sizeOf39 rfl rfl rfl rfl rfl (by repeat' constructor) (by repeat' constructor) (by repeat' constructor)) (TOk.x (by kernel_rfl) (TOk.x (by kernel_rfl) TOk.d)) ?_
                    refine df 7 (by kernel_rfl) ?_
                    refine doR rfl (o_st rfl Tryz.sizeOf39 rfl rfl rfl rfl rfl (by repeat' constructor) (by repeat' constructor) (by repeat' constructor)) (TOk.x (by kernel_rfl) (TOk.x (by kernel_rfl) TOk.d)) ?_
                    refine dn (by kernel_rfl) (nmid (fun a w h => by first | exact ⟨b4, b5, wi, vi, wk (is := [2, 2, 2, 2, 2, 2, 2, 1, 0, 0]) (by repeat (first | exact subσ.nil _ | refine subσ.cons rfl ?_)) rfl (by repeat' (first | constructor | apply Sub.suf)) a w h⟩ | exact ⟨b4, b5, wi, vi, wk (is := [2, 2, 2, 2, 2, 2, 2, 0, 0, 0]) (by repeat (first | exact subσ.nil _ | refine subσ.cons rfl ?_)) rfl (by repeat' (first | constructor | apply Sub.suf)) a w h⟩ | exact ⟨b4, b5, wi, vi, wk (is := [1, 1, 1, 1, 2, 2, 2, 1, 0, 0]) (by repeat (first | exact subσ.nil _ | refine subσ.cons rfl ?_)) rfl (by repeat' (first | constructor | apply Sub.suf)) a w h⟩ | exact ⟨b4, b5, wi, vi, wk (is := [0, 0, 0, 0, 2, 2, 2, 1, 0, 0]) (by repeat (first | exact subσ.nil _ | refine subσ.cons rfl ?_)) rfl (by repeat' (first | constructor | apply Sub.suf)) a w h⟩ | exact ⟨b4, b5, wi, vi, wk (is := [1, 1, 1, 1, 2, 2, 2, 0, 0, 0]) (by repeat (first | exact subσ.nil _ | refine subσ.cons rfl ?_)) rfl (by repeat' (first | constructor | apply Sub.suf)) a w h⟩ | exact ⟨b4, b5, wi, vi, wk (is := [0, 0, 0, 0, 2, 2, 2, 0, 0, 0]) (by repeat (first | exact subσ.nil _ | refine subσ.cons rfl ?_)) rfl (by repeat' (first | constructor | apply Sub.suf)) a w h⟩ | exact ⟨b4, b5, wi, vi, wk (is := [1, 1, 1, 1, 1, 1, 2, 1, 0, 0]) (by repeat (first | exact subσ.nil _ | refine subσ.cons rfl ?_)) rfl (by repeat' (first | constructor | apply Sub.suf)) a w h⟩ | exact ⟨b4, b5, wi, vi, wk (is := [0, 0, 0, 0, 1, 1, 2, 1, 0, 0]) (by repeat (first | exact subσ.nil _ | refine subσ.cons rfl ?_)) rfl (by repeat' (first | constructor | apply Sub.suf)) a w h⟩ | exact ⟨b4, b5, wi, vi, wk (is := [0, 0, 0, 0, 0, 0, 2, 1, 0, 0]) (by repeat (first | exact subσ.nil _ | refine subσ.cons rfl ?_)) rfl (by repeat' (first | constructor | apply Sub.suf)) a w h⟩ | exact ⟨b4, b5, wi, vi, wk (is := [1, 1, 1, 1, 1, 1, 2, 0, 0, 0]) (by repeat (first | exact subσ.nil _ | refine subσ.cons rfl ?_)) rfl (by repeat' (first | constructor | apply Sub.suf)) a w h⟩ | exact ⟨b4, b5, wi, vi, wk (is := [0, 0, 0, 0, 1, 1, 2, 0, 0, 0]) (by repeat (first | exact subσ.nil _ | refine subσ.cons rfl ?_)) rfl (by repeat' (first | constructor | apply Sub.suf)) a w h⟩ | exact ⟨b4, b5, wi, vi, wk (is := [0, 0, 0, 0, 0, 0, 2, 0, 0, 0]) (by repeat (first | exact subσ.nil _ | refine subσ.cons rfl ?_)) rfl (by repeat' (first | constructor | apply Sub.suf)) a w h⟩))
                ·
                  refine doR rfl (o_alloc Tryz.zeroValue39 rfl rfl) (TOk.t (isBoxE fun _ => isBoxS (by repeat' constructor) (k := 6) (by repeat (first | exact Cut.d | apply Cut.t | apply Cut.s))) (TOk.t (isBoxE fun _ => isBoxS (by repeat' constructor) (k := 6) (by repeat (first | exact Cut.d | apply Cut.t | apply Cut.s))) TOk.d)) ?_
                  refine ea ?_; intro b5
                  refine dall (is := [1, 4]) (by kernel_rfl) rfl ?_
                  intro i hi; simp only [List.mem_cons, List.mem_nil_iff, or_false] at hi; rcases hi with rfl | rfl
                  ·
                    refine doR rfl (o_call (is := [2, 2]) Tryz.call49 (c_primInvertB p ((Az, cz), (Bz, dz)) hp hk) rfl rfl (by repeat' (first | constructor | apply Sub.suf)) rfl) (TOk.x (by kernel_rfl) (TOk.t (isBoxE fun _ => isBoxS (by repeat' constructor) (k := 6) (by repeat (first | exact Cut.d | apply Cut.t | apply Cut.s))) TOk.d)) ?_
                    refine ea ?_; intro wi
                    refine dall (is := [3, 4]) (by kernel_rfl) rfl ?_
                    intro i hi; simp only [List.mem_cons, List.mem_nil_iff, or_false] at hi; rcases hi with rfl | rfl
                    ·
                      refine doR rfl (o_call (is := [0, 0]) Tryz.call48 (c_primCloneB p ((Az, cz), (Bz, dz)) hp) rfl rfl (by repeat' (first | constructor | apply Sub.suf)) rfl) (TOk.x (by kernel_rfl) (TOk.x (by kernel_rfl) TOk.d)) ?_
                      refine ea ?_; intro vi
                      refine df 4 (by kernel_rfl) ?_
                      refine doR rfl (o_alloc Tryz.zeroValue39 rfl rfl) (TOk.x (by kernel_rfl) (TOk.x (by kernel_rfl) TOk.d)) ?_
                      refine ea ?_; intro b4
                      refine df 6 (by kernel_rfl) ?_
                      refine doR rfl (o_st rfl Tryz.sizeOf39 rfl rfl rfl rfl rfl (by repeat' constructor) (by repeat' constructor) (by repeat' constructor)) (TOk.x (by kernel_rfl) (TOk.x (by kernel_rfl) TOk.d)) ?_
                      refine df 7 (by kernel_rfl) ?_
                      refine doR rfl (o_st rfl Tryz.sizeOf39 rfl rfl rfl rfl rfl (by repeat' constructor) (by repeat' constructor) (by repeat' constructor)) (TOk.x (by kernel_rfl) (TOk.x (by kernel_rfl) TOk.d)) ?_
                      refine dn (by kernel_rfl) (nmid (fun a w h => by first | exact ⟨b4, b5, wi, vi, wk (is := [2, 2, 2, 2, 2, 2, 2, 1, 0, 0]) (by repeat (first | exact subσ.nil _ | refine subσ.cons rfl ?_)) rfl (by repeat' (first | constructor | apply Sub.suf)) a w h⟩ | exact ⟨b4, b5, wi, vi, wk (is := [2, 2, 2, 2, 2, 2, 2, 0, 0, 0]) (by repeat (first | exact subσ.nil _ | refine subσ.cons rfl ?_)) rfl (by repeat' (first | constructor | apply Sub.suf)) a w h⟩ | exact ⟨b4, b5, wi, vi, wk (is := [1, 1, 1, 1, 2, 2, 2, 1, 0, 0]) (by repeat (first | exact subσ.nil _ | refine subσ.cons rfl ?_)) rfl (by repeat' (first | constructor | apply Sub.suf)) a w h⟩ | exact ⟨b4, b5, wi, vi, wk (is := [0, 0, 0, 0, 2, 2, 2, 1, 0, 0]) (by repeat (first | exact subσ.nil _ | refine subσ.cons rfl ?_)) rfl (by repeat' (first | constructor | apply Sub.suf)) a w h⟩ | exact ⟨b4, b5, wi, vi, wk (is := [1, 1, 1, 1, 2, 2, 2, 0, 0, 0]) (by repeat (first | exact subσ.nil _ | refine subσ.cons rfl ?_)) rfl (by repeat' (first | constructor | apply Sub.suf)) a w h⟩ | exact ⟨b4, b5, wi, vi, wk (is := [0, 0, 0, 0, 2, 2, 2, 0, 0, 0]) (by repeat (first | exact subσ.nil _ | refine subσ.cons rfl ?_)) rfl (by repeat' (first | constructor | apply Sub.suf)) a w h⟩ | exact ⟨b4, b5, wi, vi, wk (is := [1, 1, 1, 1, 1, 1, 2, 1, 0, 0]) (by repeat (first | exact subσ.nil _ | refine subσ.cons rfl ?_)) rfl (by repeat' (first | constructor | apply Sub.suf)) a w h⟩ | exact ⟨b4, b5, wi, vi, wk (is := [0, 0, 0, 0, 1, 1, 2, 1, 0, 0]) (by repeat (first | exact subσ.nil _ | refine subσ.cons rfl ?_)) rfl (by repeat' (first | constructor | apply Sub.suf)) a w h⟩ | exact ⟨b4, b5, wi, vi, wk (is := [0, 0, 0, 0, 0, 0, 2, 1, 0, 0]) (by repeat (first | exact subσ.nil _ | refine subσ.cons rfl ?_)) rfl (by repeat' (first | constructor | apply Sub.suf)) a w h⟩ | exact ⟨b4, b5, wi, vi, wk (is := [1, 1, 1, 1, 1, 1, 2, 0, 0, 0]) (by repeat (first | exact subσ.nil _ | refine subσ.cons rfl ?_)) rfl (by repeat' (first | constructor | apply Sub.suf)) a w h⟩ | exact ⟨b4, b5, wi, vi, wk (is := [0, 0, 0, 0, 1, 1, 2, 0, 0, 0]) (by repeat (first | exact subσ.nil _ | refine subσ.cons rfl ?_)) rfl (by repeat' (first | constructor | apply Sub.suf)) a w h⟩ | exact ⟨b4, b5, wi, vi, wk (is := [0, 0, 0, 0, 0, 0, 2, 0, 0, 0]) (by repeat (first | exact subσ.nil _ | refine subσ.cons rfl ?_)) rfl (by repeat' (first | constructor | apply Sub.suf)) a w h⟩))
                    ·
                      refine doR rfl (o_alloc Tryz.zeroValue39 rfl rfl) (TOk.x (by kernel_rfl) (TOk.t (isBoxE fun _ => isBoxS (by repeat' constructor) (k := 6) (by repeat (first | exact Cut.d | apply Cut.t | apply Cut.s))) TOk.d)) ?_
                      refine ea ?_; intro b4
                      refine df 3 (by kernel_rfl) ?_
                      refine doR rfl (o_call (is := [1, 1]) Tryz.call48 (c_primCloneB p ((Az, cz), (Bz, dz)) hp) rfl rfl (by repeat' (first | constructor | apply Sub.suf)) rfl) (TOk.x (by kernel_rfl) (TOk.x (by kernel_rfl) TOk.d)) ?_
                      refine ea ?_; intro vi
                      refine df 6 (by kernel_rfl) ?_
                      refine doR rfl (o_st rfl Tryz.sizeOf39 rfl rfl rfl rfl rfl (by repeat' constructor) (by repeat' constructor) (by repeat' constructor)) (TOk.x (by kernel_rfl) (TOk.x (by kernel_rfl) TOk.d)) ?_
                      refine df 7 (by kernel_rfl) ?_
                      refine doR rfl (o_st rfl Tryz.sizeOf39 rfl rfl rfl rfl rfl (by repeat' constructor) (by repeat' constructor) (by repeat' constructor)) (TOk.x (by kernel_rfl) (TOk.x (by kernel_rfl) TOk.d)) ?_
                      refine dn (by kernel_rfl) (nmid (fun a w h => by first | exact ⟨b4, b5, wi, vi, wk (is := [2, 2, 2, 2, 2, 2, 2, 1, 0, 0]) (by repeat (first | exact subσ.nil _ | refine subσ.cons rfl ?_)) rfl (by repeat' (first | constructor | apply Sub.suf)) a w h⟩ | exact ⟨b4, b5, wi, vi, wk (is := [2, 2, 2, 2, 2, 2, 2, 0, 0, 0]) (by repeat (first | exact subσ.nil _ | refine subσ.cons rfl ?_)) rfl (by repeat' (first | constructor | apply Sub.suf)) a w h⟩ | exact ⟨b4, b5, wi, vi, wk (is := [1, 1, 1, 1, 2, 2, 2, 1, 0, 0]) (by repeat (first | exact subσ.nil _ | refine subσ.cons rfl ?_)) rfl (by repeat' (first | constructor | apply Sub.suf)) a w h⟩ | exact ⟨b4, b5, wi, vi, wk (is := [0, 0, 0, 0, 2, 2, 2, 1, 0, 0]) (by repeat (first | exact subσ.nil _ | refine subσ.cons rfl ?_)) rfl (by repeat' (first | constructor | apply Sub.suf)) a w h⟩ | exact ⟨b4, b5, wi, vi, wk (is := [1, 1, 1, 1, 2, 2, 2, 0, 0, 0]) (by repeat (first | exact subσ.nil _ | refine subσ.cons rfl ?_)) rfl (by repeat' (first | constructor | apply Sub.suf)) a w h⟩ | exact ⟨b4, b5, wi, vi, wk (is := [0, 0, 0, 0, 2, 2, 2, 0, 0, 0]) (by repeat (first | exact subσ.nil _ | refine subσ.cons rfl ?_)) rfl (by repeat' (first | constructor | apply Sub.suf)) a w h⟩ | exact ⟨b4, b5, wi, vi, wk (is := [1, 1, 1, 1, 1, 1, 2, 1, 0, 0]) (by repeat (first | exact subσ.nil _ | refine subσ.cons rfl ?_)) rfl (by repeat' (first | constructor | apply Sub.suf)) a w h⟩ | exact ⟨b4, b5, wi, vi, wk (is := [0, 0, 0, 0, 1, 1, 2, 1, 0, 0]) (by repeat (first | exact subσ.nil _ | refine subσ.cons rfl ?_)) rfl (by repeat' (first | constructor | apply Sub.suf)) a w h⟩ | exact ⟨b4, b5, wi, vi, wk (is := [0, 0, 0, 0, 0, 0, 2, 1, 0, 0]) (by repeat (first | exact subσ.nil _ | refine subσ.cons rfl ?_)) rfl (by repeat' (first | constructor | apply Sub.suf)) a w h⟩ | exact ⟨b4, b5, wi, vi, wk (is := [1, 1, 1, 1, 1, 1, 2, 0, 0, 0]) (by repeat (first | exact subσ.nil _ | refine subσ.cons rfl ?_)) rfl (by repeat' (first | constructor | apply Sub.suf)) a w h⟩ | exact ⟨b4, b5, wi, vi, wk (is := [0, 0, 0, 0, 1, 1, 2, 0, 0, 0]) (by repeat (first | exact subσ.nil _ | refine subσ.cons rfl ?_)) rfl (by repeat' (first | constructor | apply Sub.suf)) a w h⟩ | exact ⟨b4, b5, wi, vi, wk (is := [0, 0, 0, 0, 0, 0, 2, 0, 0, 0]) (by repeat (first | exact subσ.nil _ | refine subσ.cons rfl ?_)) rfl (by repeat' (first | constructor | apply Sub.suf)) a w h⟩))
                  ·
                    refine doR rfl (o_alloc Tryz.zeroValue39 rfl rfl) (TOk.t (isBoxE fun _ => isBoxS (by repeat' constructor) (k := 6) (by repeat (first | exact Cut.d | apply Cut.t | apply Cut.s))) (TOk.t (isBoxE fun _ => isBoxS (by repeat' constructor) (k := 6) (by repeat (first | exact Cut.d | apply Cut.t | apply Cut.s))) TOk.d)) ?_
                    refine ea ?_; intro b4
                    refine df 1 (by kernel_rfl) ?_
                    refine doR rfl (o_call (is := [3, 3]) Tryz.call49 (c_primInvertB p ((Az, cz), (Bz, dz)) hp hk) rfl rfl (by repeat' (first | constructor | apply Sub.suf)) rfl) (TOk.x (by kernel_rfl) (TOk.t (isBoxE fun _ => isBoxS (by repeat' constructor) (k := 6) (by repeat (first | exact Cut.d | apply Cut.t | apply Cut.s))) TOk.d)) ?_
                    refine ea ?_; intro wi
                    refine df 3 (by kernel_rfl) ?_
                    refine doR rfl (o_call (is := [0, 0]) Tryz.call48 (c_primCloneB p ((Az, cz), (Bz, dz)) hp) rfl rfl (by repeat' (first | constructor | apply Sub.suf)) rfl) (TOk.x (by kernel_rfl) (TOk.x (by kernel_rfl) TOk.d)) ?_
                    refine ea ?_; intro vi
                    refine df 6 (by kernel_rfl) ?_
                    refine doR rfl (o_st rfl Tryz.sizeOf39 rfl rfl rfl rfl rfl (by repeat' constructor) (by repeat' constructor) (by repeat' constructor)) (TOk.x (by kernel_rfl) (TOk.x (by kernel_rfl) TOk.d)) ?_
                    refine df 7 (by kernel_rfl) ?_
                    refine doR rfl (o_st rfl Tryz.sizeOf39 rfl rfl rfl rfl rfl (by repeat' constructor) (by repeat' constructor) (by repeat' constructor)) (TOk.x (by kernel_rfl) (TOk.x (by kernel_rfl) TOk.d)) ?_
                    refine dn (by kernel_rfl) (nmid (fun a w h => by first | exact ⟨b4, b5, wi, vi, wk (is := [2, 2, 2, 2, 2, 2, 2, 1, 0, 0]) (by repeat (first | exact subσ.nil _ | refine subσ.cons rfl ?_)) rfl (by repeat' (first | constructor | apply Sub.suf)) a w h⟩ | exact ⟨b4, b5, wi, vi, wk (is := [2, 2, 2, 2, 2, 2, 2, 0, 0, 0]) (by repeat (first | exact subσ.nil _ | refine subσ.cons rfl ?_)) rfl (by repeat' (first | constructor | apply Sub.suf)) a w h⟩ | exact ⟨b4, b5, wi, vi, wk (is := [1, 1, 1, 1, 2, 2, 2, 1, 0, 0]) (by repeat (first | exact subσ.nil _ | refine subσ.cons rfl ?_)) rfl (by repeat' (first | constructor | apply Sub.suf)) a w h⟩ | exact ⟨b4, b5, wi, vi, wk (is := [0, 0, 0, 0, 2, 2, 2, 1, 0, 0]) (by repeat (first | exact subσ.nil _ | refine subσ.cons rfl ?_)) rfl (by repeat' (first | constructor | apply Sub.suf)) a w h⟩ | exact ⟨b4, b5, wi, vi, wk (is := [1, 1, 1, 1, 2, 2, 2, 0, 0, 0]) (by repeat (first | exact subσ.nil _ | refine subσ.cons rfl ?_)) rfl (by repeat' (first | constructor | apply Sub.suf)) a w h⟩ | exact ⟨b4, b5, wi, vi, wk (is := [0, 0, 0, 0, 2, 2, 2, 0, 0, 0]) (by repeat (first | exact subσ.nil _ | refine subσ.cons rfl ?_)) rfl (by repeat' (first | constructor | apply Sub.suf)) a w h⟩ | exact ⟨b4, b5, wi, vi, wk (is := [1, 1, 1, 1, 1, 1, 2, 1, 0, 0]) (by repeat (first | exact subσ.nil _ | refine subσ.cons rfl ?_)) rfl (by repeat' (first | constructor | apply Sub.suf)) a w h⟩ | exact ⟨b4, b5, wi, vi, wk (is := [0, 0, 0, 0, 1, 1, 2, 1, 0, 0]) (by repeat (first | exact subσ.nil _ | refine subσ.cons rfl ?_)) rfl (by repeat' (first | constructor | apply Sub.suf)) a w h⟩ | exact ⟨b4, b5, wi, vi, wk (is := [0, 0, 0, 0, 0, 0, 2, 1, 0, 0]) (by repeat (first | exact subσ.nil _ | refine subσ.cons rfl ?_)) rfl (by repeat' (first | constructor | apply Sub.suf)) a w h⟩ | exact ⟨b4, b5, wi, vi, wk (is := [1, 1, 1, 1, 1, 1, 2, 0, 0, 0]) (by repeat (first | exact subσ.nil _ | refine subσ.cons rfl ?_)) rfl (by repeat' (first | constructor | apply Sub.suf)) a w h⟩ | exact ⟨b4, b5, wi, vi, wk (is := [0, 0, 0, 0, 1, 1, 2, 0, 0, 0]) (by repeat (first | exact subσ.nil _ | refine subσ.cons rfl ?_)) rfl (by repeat' (first | constructor | apply Sub.suf)) a w h⟩ | exact ⟨b4, b5, wi, vi, wk (is := [0, 0, 0, 0, 0, 0, 2, 0, 0, 0]) (by repeat (first | exact subσ.nil _ | refine subσ.cons rfl ?_)) rfl (by repeat' (first | constructor | apply Sub.suf)) a w h⟩))
              ·
                refine nex fun b4 => nex fun b5 => nex fun wi => nex fun vi => ?_
                refine nthen ?_
                refine cs ?_
                refine cs ?_
                obtain ⟨⟨Aw, cw⟩, ⟨Bw, dw⟩⟩ := wi
                obtain ⟨⟨Av, cv⟩, ⟨Bv, dv⟩⟩ := vi
                refine cr ?_
                refine ls (op (p_fa fa39_4 rfl) rfl) ?_
                refine ls (o_ld Tryz.isAgg37 rfl (by repeat' constructor) (by repeat' constructor) rfl) ?_
                refine ls (op (p_lenl rfl Tryz.underlying37) rfl) ?_
                refine ls (op (p_icmp rfl rfl rfl) rfl) ?_
                refine fixL (congrArg Value.bool (decide_eq_false (by omega))) ?_
                refine ls (op (p_move rfl) rfl) ?_
                refine lwant rfl rfl rfl rfl (op (p_fa fa39_5 rfl) rfl) ?_
                refine lwant rfl rfl rfl rfl (o_ld Tryz.isAgg37 rfl (by repeat' constructor) (by repeat' constructor) rfl) ?_
                refine lwant rfl rfl rfl rfl (op (p_lenl rfl Tryz.underlying37) rfl) ?_
                refine lwant rfl rfl rfl rfl (op (p_icmp rfl rfl rfl) rfl) ?_
                refine fixL (congrArg Value.bool (decide_eq_false (by omega))) ?_
                refine ls (op (p_pickf rfl rfl) rfl) ?_
                refine ls (op (p_move rfl) rfl) ?_
                refine lwant rfl rfl rfl rfl (op (p_fa fa39_4 rfl) rfl) ?_
                refine lwant rfl rfl rfl rfl (o_ld Tryz.isAgg37 rfl (by repeat' constructor) (by repeat' constructor) rfl) ?_
                refine lwant rfl rfl rfl rfl (op (p_lenl rfl Tryz.underlying37) rfl) ?_
                refine lwant rfl rfl rfl rfl (op (p_icmp rfl rfl rfl) rfl) ?_
                refine fixL (congrArg Value.bool (decide_eq_false (by omega))) ?_
                refine ls (op (p_pickf rfl rfl) rfl) ?_
                refine ls (op (p_move rfl) rfl) ?_
                refine lwant rfl rfl rfl rfl (op (p_fa fa39_5 rfl) rfl) ?_
                refine lwant rfl rfl rfl rfl (o_ld Tryz.isAgg37 rfl (by repeat' constructor) (by repeat' constructor) rfl) ?_
                refine lwant rfl rfl rfl rfl (op (p_lenl rfl Tryz.underlying37) rfl) ?_
                refine lwant rfl rfl rfl rfl (op (p_icmp rfl rfl rfl) rfl) ?_
                refine fixL (congrArg Value.bool (decide_eq_false (by omega))) ?_
                refine ls (op (p_pickf rfl rfl) rfl) ?_
                refine ln ?_
                refine nthen ?_
                refine cc rfl (fun h => by cases h) (fun h => ?_)
                refine cskip ?_
                refine nthen ?_
                refine cs ?_
                refine rowC (α := ByteArray) (A := Aw) (l := p.new) (by repeat' constructor) hne_n ?_; rintro gAw rfl
                refine rowC (α := ByteArray) (A := Bw) (l := p.old) (by repeat' constructor) hne_o ?_; rintro gBw rfl
                refine rowC (α := ByteArray) (A := Av) (l := p.old) (by repeat' constructor) hne_o ?_; rintro gAv rfl
                refine rowC (α := ByteArray) (A := Bv) (l := p.new) (by repeat' constructor) hne_n ?_; rintro gBv rfl
                refine cd [9, 11, 13, 15] [(1, b4, 4, _), (3, b4, 5, _), (5, b5, 4, _), (7, b5, 5, _)] TryzX.mixed (TOk.t (isBoxS (by repeat' constructor) (k := 1) (by repeat (first | exact Cut.d | apply Cut.t | apply Cut.s))) (TOk.t (isBoxS (by repeat' constructor) (k := 1) (by repeat (first | exact Cut.d | apply Cut.t | apply Cut.s))) (TOk.t (isBoxS (by repeat' constructor) (k := 1) (by repeat (first | exact Cut.d | apply Cut.t | apply Cut.s))) (TOk.t (isBoxS (by repeat' constructor) (k := 1) (by repeat (first | exact Cut.d | apply Cut.t | apply Cut.s))) TOk.d)))) ?_
                refine tk 0 rfl (by kernel_rfl) (fun _ _ _ h => h) gnone (TTany _) (p_fa fa39_4 rfl) rfl ?_
                refine tk 1 rfl (by kernel_rfl) (fun _ _ _ h => h) gnone (TTat (List.Mem.head _)) (p_ld Tryz.isAgg37 rfl) rfl ?_
                refine tk 2 rfl (by kernel_rfl) (fun _ _ _ h => h) gnone (TTany _) (p_fa fa39_5 rfl) rfl ?_
                refine tk 3 rfl (by kernel_rfl) (fun _ _ _ h => h) gnone (TTat (List.Mem.tail _ (List.Mem.head _))) (p_ld Tryz.isAgg37 rfl) rfl ?_
                refine tk 4 rfl (by kernel_rfl) (fun _ _ _ h => h) gnone (TTany _) (p_fa fa39_4 rfl) rfl ?_
                refine tk 5 rfl (by kernel_rfl) (fun _ _ _ h => h) gnone (TTat (List.Mem.tail _ (List.Mem.tail _ (List.Mem.head _)))) (p_ld Tryz.isAgg37 rfl) rfl ?_
                refine tk 6 rfl (by kernel_rfl) (fun _ _ _ h => h) gnone (TTany _) (p_fa fa39_5 rfl) rfl ?_
                refine tk 7 rfl (by kernel_rfl) (fun _ _ _ h => h) gnone (TTat (List.Mem.tail _ (List.Mem.tail _ (List.Mem.tail _ (List.Mem.head _))))) (p_ld Tryz.isAgg37 rfl) rfl ?_
                refine tk 8 rfl (by kernel_rfl) (fun _ _ _ h => h) gnone (TTany _) (p_ia 0 rfl (Nat.pos_of_ne_zero hln) rfl Tryz.underlying37 Tryz.sizeOf9 rfl rfl) rfl ?_
                refine df 9 (by kernel_rfl) ?_
                refine doR rfl (o_strow (z := (⟨#[63]⟩ : ByteArray)) (yz := ()) rfl Tryz.sizeOf9 rfl rfl rfl (by repeat' constructor) (Nat.pos_of_ne_zero hln) (by repeat' constructor) (by repeat' (first | constructor | apply Sub.suf))) (TOk.x (by kernel_rfl) (TOk.t (isBoxS (by repeat' constructor) (k := 1) (by repeat (first | exact Cut.d | apply Cut.t | apply Cut.s))) (TOk.t (isBoxS (by repeat' constructor) (k := 1) (by repeat (first | exact Cut.d | apply Cut.t | apply Cut.s))) (TOk.t (isBoxS (by repeat' constructor) (k := 1) (by repeat (first | exact Cut.d | apply Cut.t | apply Cut.s))) TOk.d)))) ?_
                refine tk 10 rfl (by kernel_rfl) (fun _ _ _ h => h) gnone (TTany _) (p_ia 0 rfl (Nat.pos_of_ne_zero hlo) rfl Tryz.underlying37 Tryz.sizeOf9 rfl rfl) rfl ?_
                refine df 11 (by kernel_rfl) ?_
                refine doR rfl (o_strow (z := (⟨#[63]⟩ : ByteArray)) (yz := ()) rfl Tryz.sizeOf9 rfl rfl rfl (by repeat' constructor) (Nat.pos_of_ne_zero hlo) (by repeat' constructor) (by repeat' (first | constructor | apply Sub.suf))) (TOk.x (by kernel_rfl) (TOk.x (by kernel_rfl) (TOk.t (isBoxS (by repeat' constructor) (k := 1) (by repeat (first | exact Cut.d | apply Cut.t | apply Cut.s))) (TOk.t (isBoxS (by repeat' constructor) (k := 1) (by repeat (first | exact Cut.d | apply Cut.t | apply Cut.s))) TOk.d)))) ?_
                refine tk 12 rfl (by kernel_rfl) (fun _ _ _ h => h) gnone (TTany _) (p_ia 0 rfl (Nat.pos_of_ne_zero hlo) rfl Tryz.underlying37 Tryz.sizeOf9 rfl rfl) rfl ?_
                refine df 13 (by kernel_rfl) ?_
                refine doR rfl (o_strow (z := (⟨#[63]⟩ : ByteArray)) (yz := ()) rfl Tryz.sizeOf9 rfl rfl rfl (by repeat' constructor) (Nat.pos_of_ne_zero hlo) (by repeat' constructor) (by repeat' (first | constructor | apply Sub.suf))) (TOk.x (by kernel_rfl) (TOk.x (by kernel_rfl) (TOk.x (by kernel_rfl) (TOk.t (isBoxS (by repeat' constructor) (k := 1) (by repeat (first | exact Cut.d | apply Cut.t | apply Cut.s))) TOk.d)))) ?_
                refine tk 14 rfl (by kernel_rfl) (fun _ _ _ h => h) gnone (TTany _) (p_ia 0 rfl (Nat.pos_of_ne_zero hln) rfl Tryz.underlying37 Tryz.sizeOf9 rfl rfl) rfl ?_
                refine df 15 (by kernel_rfl) ?_
                refine doR rfl (o_strow (z := (⟨#[63]⟩ : ByteArray)) (yz := ()) rfl Tryz.sizeOf9 rfl rfl rfl (by repeat' constructor) (Nat.pos_of_ne_zero hln) (by repeat' constructor) (by repeat' (first | constructor | apply Sub.suf))) (TOk.x (by kernel_rfl) (TOk.x (by kernel_rfl) (TOk.x (by kernel_rfl) (TOk.x (by kernel_rfl) TOk.d)))) ?_
                refine dn (by kernel_rfl) ?_
                refine nthen ?_
                refine cs ?_
                refine cs ?_
                refine cr ?_
                refine ls (o_ldw Tryz.isAgg39 Tryz.sizeOf39 rfl (by repeat' constructor) (by rfl) rfl) ?_
                refine ls (o_ldw Tryz.isAgg83 Tryz.sizeOf83 rfl (by repeat' constructor) (by rfl) rfl) ?_
                refine ls (o_call (is := [0, 0]) Tryz.call50 (c_refSameB p p ((Az, cz), (Bz, dz)) y hp) rfl rfl (by repeat' (first | constructor | apply Sub.suf)) rfl) ?_
                refine le ?_; intro x82
                refine fixL (congrArg Value.bool (decide_eq_true rfl)) ?_
                refine ls (op (p_not rfl) rfl) ?_
                refine ln ?_
                refine nthen ?_
                refine cc rfl (fun h => by cases h) (fun h => ?_)
                refine cskip ?_
                refine nthen ?_
                refine cs ?_
                refine cr ?_
                refine ls (o_call (is := []) Tryz.call23 (c_tNew) rfl rfl (by repeat' (first | constructor | apply Sub.suf)) rfl) ?_
                refine le ?_; rintro ⟨p0, b0⟩
                refine ls (op (p_asg rfl) rfl) ?_
                refine ln ?_
                refine nthen ?_
                refine cs ?_
                refine cs ?_
                refine cd [6, 15, 18, 19, 25] [(5, b1, 1, _), (12, b1, 1, _), (14, b1, 3, _), (17, b1, 4, _), (24, b3, 0, _)] TryzX.mixed (TOk.t (isBoxS (by repeat' constructor) (k := 1) (by repeat (first | exact Cut.d | apply Cut.t | apply Cut.s))) (TOk.t (isBoxS (by repeat' constructor) (k := 1) (by repeat (first | exact Cut.d | apply Cut.t | apply Cut.s))) (TOk.t (isBoxS (by repeat' constructor) (k := 1) (by repeat (first | exact Cut.d | apply Cut.t | apply Cut.s))) (TOk.t (isBoxS (by repeat' constructor) (k := 1) (by repeat (first | exact Cut.d | apply Cut.t | apply Cut.s))) (TOk.t (isBoxS (by repeat' constructor) (k := 6) (by repeat (first | exact Cut.d | apply Cut.t | apply Cut.s))) TOk.d))))) ?_
                refine tk 0 rfl (by kernel_rfl) (fun _ _ _ h => h) gnone (TTany _) (p_move rfl) rfl ?_
                refine tk 1 rfl (by kernel_rfl) (fun _ _ _ h => h) gnone (TTany _) (p_ptrnil Tryz.underlying47 rfl rfl) rfl ?_
                refine tk 2 rfl (by kernel_rfl) (fun _ _ _ h => h) gnone (TTany _) (p_move rfl) rfl ?_
                refine tk 3 rfl (by kernel_rfl) (fun _ _ _ h => h) (gyes rfl rfl rfl rfl) (TTany _) (gpu (p_move rfl)) rfl ?_
                refine tk 4 rfl (by kernel_rfl) (fun _ _ _ h => h) (gyes rfl rfl rfl rfl) (TTany _) (gpu (p_fa fa83_1 rfl)) rfl ?_
                refine tk 5 rfl (by kernel_rfl) (fun _ _ _ h => h) (gyes rfl rfl rfl rfl) (TTat (List.Mem.head _)) (gpu (p_ld Tryz.isAgg9 rfl)) rfl ?_
                refine df 6 (by kernel_rfl) ?_
                refine doG rfl rfl rfl rfl rfl (o_call (is := [0, 0]) Tryz.call25 (c_tAdd p0 b0 [] p.name) rfl rfl (by repeat' (first | constructor | apply Sub.suf)) rfl) (TOk.x (by kernel_rfl) (TOk.t (isBoxE fun _ => isBoxS (by repeat' constructor) (k := 1) (by repeat (first | exact Cut.d | apply Cut.t | apply Cut.s))) (TOk.t (isBoxE fun _ => isBoxS (by repeat' constructor) (k := 1) (by repeat (first | exact Cut.d | apply Cut.t | apply Cut.s))) (TOk.t (isBoxE fun _ => isBoxS (by repeat' constructor) (k := 1) (by repeat (first | exact Cut.d | apply Cut.t | apply Cut.s))) (TOk.t (isBoxE fun _ => isBoxS (by repeat' constructor) (k := 6) (by repeat (first | exact Cut.d | apply Cut.t | apply Cut.s))) TOk.d))))) ?_
                refine ea ?_; rintro ⟨⟨T1, e1⟩, hq1⟩
                try dsimp only at hq1
                obtain ⟨rfl, rfl⟩ := Prod.mk.inj (hq1.trans (one_add hnm))
                refine tk 7 rfl (by kernel_rfl) (fun _ _ _ h => h) (gyes rfl rfl rfl rfl) (TTany _) (gpu (p_icmp rfl rfl rfl)) rfl ?_
                refine tk 8 rfl (by kernel_rfl) (fun _ _ _ h => h) gnone (TTany _) (p_pickf rfl rfl) rfl ?_
                refine tk 9 rfl (by kernel_rfl) (fun _ _ _ h => h) gnone (TTany _) (p_move rfl) rfl ?_
                refine tk 10 rfl (by kernel_rfl) (fun _ _ _ h => h) (gyes rfl rfl rfl rfl) (TTany _) (gpu (p_move rfl)) rfl ?_
                refine tk 11 rfl (by kernel_rfl) (fun _ _ _ h => h) (gyes rfl rfl rfl rfl) (TTany _) (gpu (p_fa fa83_1 rfl)) rfl ?_
                refine tk 12 rfl (by kernel_rfl) (fun _ _ _ h => h) (gyes rfl rfl rfl rfl) (TTat (List.Mem.tail _ (List.Mem.head _))) (gpu (p_ld Tryz.isAgg9 rfl)) rfl ?_
                refine tk 13 rfl (by kernel_rfl) (fun _ _ _ h => h) (gyes rfl rfl rfl rfl) (TTany _) (gpu (p_fa fa83_3 rfl)) rfl ?_
                refine tk 14 rfl (by kernel_rfl) (fun _ _ _ h => h) (gyes rfl rfl rfl rfl) (TTat (List.Mem.tail _ (List.Mem.tail _ (List.Mem.head _)))) (gpu (p_ld Tryz.isAgg3 rfl)) rfl ?_
                refine fixA (congrArg (Value.int .i64) hkp) ?_
                refine tk 16 rfl (by kernel_rfl) (fun _ _ _ h => h) (gyes rfl rfl rfl rfl) (TTany _) (gpu (p_fa fa83_4 rfl)) rfl ?_
                refine tk 17 rfl (by kernel_rfl) (fun _ _ _ h => h) (gyes rfl rfl rfl rfl) (TTat (List.Mem.tail _ (List.Mem.tail _ (List.Mem.tail _ (List.Mem.head _))))) (gpu (p_ld Tryz.isAgg37 rfl)) rfl ?_
                refine df 15 (by kernel_rfl) ?_
                refine doG rfl rfl rfl rfl rfl (o_mk (⟨#[]⟩ : ByteArray) () k Tryz.underlying37 inf9 rfl (by decide) (fun _ _ p hp => by cases hp) rfl rfl rfl rfl (by omega) (by omega) rfl) (TOk.x (by kernel_rfl) (TOk.t (isBoxE fun _ => isBoxS (by repeat' constructor) (k := 1) (by repeat (first | exact Cut.d | apply Cut.t | apply Cut.s))) (TOk.x (by kernel_rfl) (TOk.t (isBoxE fun _ => isBoxS (by repeat' constructor) (k := 1) (by repeat (first | exact Cut.d | apply Cut.t | apply Cut.s))) (TOk.t (isBoxE fun _ => isBoxS (by repeat' constructor) (k := 6) (by repeat (first | exact Cut.d | apply Cut.t | apply Cut.s))) TOk.d))))) ?_
                refine ea ?_; intro gm
                refine df 18 (by kernel_rfl) ?_
                refine doG rfl rfl rfl rfl rfl (o_appX (i := 0) Tryz.underlying37 inf9 rfl (by decide) (by decide) rfl rfl (by rw [List.length_replicate]; omega) rfl (by repeat' (first | constructor | apply Sub.suf)) rfl) (TOk.x (by kernel_rfl) (TOk.t (isBoxE fun _ => isBoxS (by repeat' constructor) (k := 1) (by repeat (first | exact Cut.d | apply Cut.t | apply Cut.s))) (TOk.x (by kernel_rfl) (TOk.x (by kernel_rfl) (TOk.t (isBoxE fun _ => isBoxS (by repeat' constructor) (k := 6) (by repeat (first | exact Cut.d | apply Cut.t | apply Cut.s))) TOk.d))))) ?_
                refine ea ?_; rintro ⟨A103, c103⟩
                refine amono (fun a w h => Go.Sx.freeze (i := 0) rfl h) ?_
                refine df 19 (by kernel_rfl) ?_
                refine doG rfl rfl rfl rfl rfl (o_call (is := [0, 0]) Tryz.call26 (c_tPut p0 b0 [(p.name, [])] p.name (List.replicate k (⟨#[]⟩ : ByteArray) ++ p.old) A103 c103 (by rw [List.length_append, List.length_replicate]; omega)) rfl rfl (by repeat' (first | constructor | apply Sub.suf)) rfl) (TOk.x (by kernel_rfl) (TOk.x (by kernel_rfl) (TOk.x (by kernel_rfl) (TOk.x (by kernel_rfl) (TOk.t (isBoxE fun _ => isBoxS (by repeat' constructor) (k := 6) (by repeat (first | exact Cut.d | apply Cut.t | apply Cut.s))) TOk.d))))) ?_
                refine ea ?_; rintro ⟨⟨T2, e2⟩, hq2⟩
                try dsimp only at hq2
                obtain ⟨rfl, rfl⟩ := Prod.mk.inj (hq2.trans (one_put (po_all hal)))
                have hfU : Tfit [(p.name, List.replicate k (⟨#[]⟩ : ByteArray) ++ p.new)] := fun x hx => by rw [List.mem_singleton.1 hx]; simp only [List.length_append, List.length_replicate]; omega
                have hfT : Tfit [(p.name, List.replicate k (⟨#[]⟩ : ByteArray) ++ p.old)] := fun x hx => by rw [List.mem_singleton.1 hx]; simp only [List.length_append, List.length_replicate]; omega
                have hbT : ∀ u, (getL [(p.name, List.replicate k (⟨#[]⟩ : ByteArray) ++ p.old)] u).length + p.new.length ≤ 2000000 := fun u => by have := Lmax.get (m := 5000) (T := [(p.name, List.replicate k (⟨#[]⟩ : ByteArray) ++ p.old)]) (fun x hx => by rw [List.mem_singleton.1 hx]; simp only [List.length_append, List.length_replicate]; omega) u; omega
                refine tk 20 rfl (by kernel_rfl) (fun _ _ _ h => h) (gyes rfl rfl rfl rfl) (TTany _) (gpu (p_icmp rfl rfl rfl)) rfl ?_
                refine tk 21 rfl (by kernel_rfl) (fun _ _ _ h => h) gnone (TTany _) (p_pickf rfl rfl) rfl ?_
                refine tk 22 rfl (by kernel_rfl) (fun _ _ _ h => h) gnone (TTany _) (p_move rfl) rfl ?_
                refine tk 23 rfl (by kernel_rfl) (fun _ _ _ h => h) (gyes rfl rfl rfl rfl) (TTany _) (gpu (p_move rfl)) rfl ?_
                refine tk 24 rfl (by kernel_rfl) (fun _ _ _ h => h) (gyes rfl rfl rfl rfl) (TTat (List.Mem.tail _ (List.Mem.tail _ (List.Mem.tail _ (List.Mem.tail _ (List.Mem.head _)))))) (gpu (p_lda Tryz.isAgg39 Tryz.sizeOf39 rfl rfl)) rfl ?_
                refine df 25 (by kernel_rfl) ?_
                refine doG rfl rfl rfl rfl rfl (o_call (is := [0, 0, 0, 0]) Tryz.call51 (c_pApplyB p0 b0 [(p.name, List.replicate k (⟨#[]⟩ : ByteArray) ++ p.old)] p ((Az, cz), (Bz, dz)) hp hfT hbT hr hk) rfl rfl (by repeat' (first | constructor | apply Sub.suf)) rfl) (TOk.x (by kernel_rfl) (TOk.x (by kernel_rfl) (TOk.x (by kernel_rfl) (TOk.x (by kernel_rfl) (TOk.x (by kernel_rfl) TOk.d))))) ?_
                refine ea ?_; rintro ⟨⟨T3, e3⟩, hq3⟩
                try dsimp only at hq3
                obtain ⟨rfl, rfl⟩ := Prod.mk.inj (hq3.trans (po_apply hr hk hkp))
                refine tk 26 rfl (by kernel_rfl) (fun _ _ _ h => h) (gyes rfl rfl rfl rfl) (TTany _) (gpu (p_icmp rfl rfl rfl)) rfl ?_
                refine tk 27 rfl (by kernel_rfl) (fun _ _ _ h => h) gnone (TTany _) (p_pickf rfl rfl) rfl ?_
                refine dn (by kernel_rfl) ?_
                refine nthen ?_
                refine cc rfl (fun h => by cases h) (fun h => ?_)
                refine cskip ?_
                refine nthen ?_
                refine cs ?_
                refine cr ?_
                refine ls (op (p_move rfl) rfl) ?_
                refine ls (o_call (is := [0, 0]) Tryz.call52 (c_tText p0 b0 [(p.name, List.replicate k (⟨#[]⟩ : ByteArray) ++ p.new)] (by simp) hfU (po_text hM4 hk100) [tabA Tryz.prog] (fun x hx => l_ItoaT x.2.length (by have := hfU x hx; omega))) rfl rfl (by repeat' (first | constructor | apply Sub.suf)) rfl) ?_
                refine le ?_; intro x114
                refine ls (op (p_asg rfl) rfl) ?_
                refine ln ?_
                refine nthen ?_
                refine cs ?_
                refine rowC (α := ByteArray) (A := Bz) (l := p.new) (by repeat' constructor) hne_n ?_; rintro gz rfl
                have hs1 : (p.new[0]'(by omega)).size ≤ 4000 := by have := sizes_mem1 (List.getElem_mem (l := p.new) (n := 0) (by omega)); omega
                refine cr ?_
                refine ls (op (p_fa fa39_5 rfl) rfl) ?_
                refine ls (o_ld Tryz.isAgg37 rfl (by repeat' constructor) (by repeat' constructor) rfl) ?_
                refine ls (op (p_ia 0 rfl (by omega) rfl Tryz.underlying37 Tryz.sizeOf9 rfl rfl) rfl) ?_
                refine ls (o_ldrS Tryz.isAgg9 rfl (by repeat' constructor) (List.getElem?_eq_getElem (l := p.new) (by omega)) rfl) ?_
                refine ls (op (p_cat rfl rfl (by have : (⟨#[63]⟩ : ByteArray).size = 1 := rfl; omega)) rfl) ?_
                refine ls (op (p_ia 0 rfl (by omega) rfl Tryz.underlying37 Tryz.sizeOf9 rfl rfl) rfl) ?_
                refine ls (o_strow (z := (p.new[0]'(by omega) ++ (⟨#[63]⟩ : ByteArray))) (yz := ()) rfl Tryz.sizeOf9 rfl rfl rfl (by repeat' constructor) (by omega) (by repeat' constructor) (by repeat' (first | constructor | apply Sub.suf))) ?_
                refine ln ?_
                refine nthen ?_
                refine cs ?_
                refine cr ?_
                refine ls (o_call (is := []) Tryz.call47 (c_alive03) rfl rfl (by repeat' (first | constructor | apply Sub.suf)) rfl) ?_
                refine le ?_; intro x121
                refine ls (op (p_move rfl) rfl) ?_
                refine lwant rfl rfl rfl rfl (op (p_move rfl) rfl) ?_
                refine lwant rfl rfl rfl rfl (o_call (is := [0, 0]) Tryz.call52 (c_tText p0 b0 [(p.name, List.replicate k (⟨#[]⟩ : ByteArray) ++ p.new)] (by simp) hfU (po_text hM4 hk100) [tabA Tryz.prog] (fun x hx => l_ItoaT x.2.length (by have := hfU x hx; omega))) rfl rfl (by repeat' (first | constructor | apply Sub.suf)) rfl) ?_
                refine le ?_; intro x124
                refine lwant rfl rfl rfl rfl (op (p_move rfl) rfl) ?_
                refine lwant rfl rfl rfl rfl (op (p_seq rfl rfl) rfl) ?_
                refine fixL (congrArg Value.bool (decide_eq_true rfl)) ?_
                refine ls (op (p_pickt rfl rfl) rfl) ?_
                refine ls (op (p_asg rfl) rfl) ?_
                refine ln ?_
                refine nthen ?_
                refine cret ?_
                refine xret (fun _ _ h => h) ?_
                refine rret (is := []) () (Or.inl rfl) (Res.t rfl Res.d) (rfl) rfl (by repeat' (first | constructor | apply Sub.suf))

end Go.Proofs.YtdbiillompeclaaGreatDoor.X
