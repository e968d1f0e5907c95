/- OWN WORK: a part of the proof of a law of the seat YtjeampaghmcefaaGreatDoor: contracts. -/
import Derived.Test.YtjeampaghmcefaaGreatDoorProg
import Derived.Test.YtjeampaghmcefaaGreatDoorXT4
import Derived.Test.YtjeampaghmcefaaGreatDoorXPl
import Derived.Test.YtjeampaghmcefaaGreatDoorXA3
set_option linter.unusedVariables false
set_option linter.unusedSimpArgs false
namespace Go.Proofs.YtjeampaghmcefaaGreatDoor.X
open Go Go.RowKit Go.Proofs Go.Sx
attribute [local irreducible] slA isA box row


set_option maxRecDepth 100000 in
theorem c_SwapFits (l : List TOp) (A : Option Addr) (c : Nat) (hl : l.length ≤ 1048576) (hM : omany l ≤ 1048576) (u v : Prim) (y z : Rp.Lay Prim) (hu : u.fit) (hv : v.fit) (hMu : u.many ≤ 1048576) (hMv : v.many ≤ 1048576) : Con Tryz.prog 3 [.slice A l.length c, sv u y, sv v z] [] (slA A l :: (Rp.asn u y ++ Rp.asn v z)) Unit (fun _ => .bool true) (fun _ => []) (fun _ => []) := by
  have hMo : ∀ o ∈ l, o.many ≤ 2000000 := fun o ho => by have := omany_mem ho; omega
  have htok : Tok l.length 2000000 (madeT l) := madeT_tok hMo
  have hlen := htok.len
  have hfit : Tfit (madeT l) := fun x hx => (htok.fit x hx).1
  have hso := madeT_sor l
  have hgood := madeT_good l
  have hinv := AppInv.made l
  refine con Tryz.func3 rfl Tryz.ntmps3 rfl ?_
  intro M0 F0 w0
  refine cs ?_
  refine cr ?_
  refine ls (o_box rfl rfl rfl) ?_
  refine le ?_; intro b4
  refine ls (o_box rfl rfl rfl) ?_
  refine le ?_; intro b5
  refine ls (op (p_asg rfl) rfl) ?_
  refine ln ?_
  refine nthen ?_
  refine cs ?_
  refine cs ?_
  refine cr ?_
  refine ls (op (p_move rfl) rfl) ?_
  refine ls (o_call (is := []) Tryz.call6 (c_Few02 l A c (by omega) (by omega)) rfl rfl (by repeat' (first | constructor | apply Sub.suf)) rfl) ?_
  refine le ?_; intro x14
  refine ls (op (p_icmp rfl rfl rfl) rfl) ?_
  refine ls (op (p_move rfl) rfl) ?_
  refine orX 6 16 22 rfl (subσ.cons (t := 0) rfl (subσ.cons (t := 1) rfl (subσ.cons (t := 2) rfl (subσ.cons (t := 4) rfl (subσ.cons (t := 5) rfl (subσ.cons (t := 6) rfl (subσ.nil _))))))) ?_ ?_
  · intro h16
    refine lskip rfl rfl rfl rfl rfl ?_
    refine lskip rfl rfl rfl rfl rfl ?_
    refine lskip rfl rfl rfl rfl rfl ?_
    refine lskip rfl rfl rfl rfl rfl ?_
    refine lskip rfl rfl rfl rfl rfl ?_
    refine ls (op (p_pickt rfl rfl) rfl) ?_
    refine ln (nmid (wk0 (by repeat (first | exact subσ.nil _ | refine subσ.cons rfl ?_)) (by repeat' (first | constructor | apply Sub.suf))))
  apply exI
  · intro h16
    refine lwant rfl rfl rfl rfl (o_ldw Tryz.isAgg25 Tryz.sizeOf25 rfl (by repeat' constructor) (by rfl) rfl) ?_
    refine lwant rfl rfl rfl rfl (o_ldw Tryz.isAgg25 Tryz.sizeOf25 rfl (by repeat' constructor) (by rfl) rfl) ?_
    refine lwant rfl rfl rfl rfl (o_bsl [u, v] Tryz.underlying43 Tryz.sizeOf25 Tryz.zeroValue25 rfl (Enum.t (Enum.t Enum.d)) (RV.t y rfl (by repeat' (first | constructor | apply Sub.suf)) (RV.t z rfl (by repeat' (first | constructor | apply Sub.suf)) RV.d)) rfl (by decide) (by decide) rfl) ?_
    refine le ?_; intro b19
    refine lmono (fun a w h => Go.Sx.freeze (i := 0) rfl h) ?_
    refine lwant rfl rfl rfl rfl (o_call (is := []) Tryz.call7 (c_small [u, v] (some ⟨b19, 0, none⟩) 2 (by simp) (by simp [many]; omega)) rfl rfl (by repeat' (first | constructor | apply Sub.suf)) rfl) ?_
    refine le ?_; intro x20
    refine lwant rfl rfl rfl rfl (op (p_not rfl) rfl) ?_
    refine ls (op (p_pickf rfl rfl) rfl) ?_
    refine ln (nmid (wk0 (by repeat (first | exact subσ.nil _ | refine subσ.cons rfl ?_)) (by repeat' (first | constructor | apply Sub.suf))))
  ·
    refine ln ?_
    refine nthen ?_
    refine cc rfl ?_ ?_
    · intro h22
      skip
      refine cs ?_
      refine cr ?_
      refine ls (o_call (is := []) Tryz.call8 (c_alive) rfl rfl (by repeat' (first | constructor | apply Sub.suf)) rfl) ?_
      refine le ?_; intro x23
      refine ls (op (p_asg rfl) rfl) ?_
      refine ln ?_
      refine nthen ?_
      refine cret ?_
      refine xret (fun _ _ h => h) ?_
      refine rret (is := []) () (Or.inl rfl) (Res.t rfl Res.d) (rfl) rfl (by repeat' (first | constructor | apply Sub.suf))
    · intro h22
      have hf0 : many [u, v] ≤ 5000 := by have h := h22; simp at h; omega
      have hf1 : u.many + v.many ≤ 5000 := by have h := hf0; simp [many] at h; omega
      have hu1 : u.new.length ≤ u.many := by unfold Prim.many; omega
      have hv1 : v.new.length ≤ v.many := by unfold Prim.many; omega
      have hbu : ∀ k, (getL (madeT l) k).length + u.new.length ≤ 2000000 := fun k => by have := hinv.lmax.get k; omega
      refine cskip ?_
      refine nthen ?_
      refine cs ?_
      refine cr ?_
      refine ls (op (p_move rfl) rfl) ?_
      refine ls (o_call (is := []) Tryz.call9 (c_Made02 l A c (by omega) hMo) rfl rfl (by repeat' (first | constructor | apply Sub.suf)) rfl) ?_
      refine le ?_; rintro ⟨⟨p, b⟩, ⟨A2, c2⟩⟩
      refine ls (op (p_move rfl) rfl) ?_
      refine ls (op (p_ext rfl (by repeat' constructor)) rfl) ?_
      refine ls (op (p_ext rfl (by repeat' constructor)) rfl) ?_
      refine ls (op (p_asg rfl) rfl) ?_
      refine ls (op (p_asg rfl) rfl) ?_
      refine ln ?_
      refine nthen ?_
      refine cs ?_
      refine cs ?_
      refine cr ?_
      refine ls (op (p_move rfl) rfl) ?_
      refine ls (op (p_ptrnil Tryz.underlying29 rfl rfl) rfl) ?_
      refine ln ?_
      refine nthen ?_
      refine cc rfl (fun h => by cases h) (fun h => ?_)
      refine cskip ?_
      refine nthen ?_
      refine cs ?_
      refine cr ?_
      refine ls (op (p_move rfl) rfl) ?_
      refine ls (o_call (is := [0, 0]) Tryz.call10 (c_tCopy p b (madeT l)) rfl rfl (by repeat' (first | constructor | apply Sub.suf)) rfl) ?_
      refine le ?_; rintro ⟨p4, b4t⟩
      refine ls (op (p_asg rfl) rfl) ?_
      refine ln ?_
      refine nthen ?_
      refine cs ?_
      refine cs ?_
      refine cr ?_
      refine ls (op (p_move rfl) rfl) ?_
      refine ls (o_ldw Tryz.isAgg25 Tryz.sizeOf25 rfl (by repeat' constructor) (by rfl) rfl) ?_
      refine ls (o_call (is := [2, 2]) Tryz.call11 (c_pApply p b (madeT l) u y hu hfit hbu) rfl rfl (by repeat' (first | constructor | apply Sub.suf)) rfl) ?_
      refine le ?_; rintro ⟨⟨T1, e1⟩, hq1⟩
      try dsimp only at hq1
      rw [apply_eq hso hgood] at hq1
      refine ls (op (p_icmp rfl rfl rfl) rfl) ?_
      refine ls (op (p_move rfl) rfl) ?_
      refine splitL 37 rfl ?_ ?_
      · intro h37
        skip
        refine lskip rfl rfl rfl rfl rfl ?_
        refine lskip rfl rfl rfl rfl rfl ?_
        refine lskip rfl rfl rfl rfl rfl ?_
        refine lskip rfl rfl rfl rfl rfl ?_
        refine ls (op (p_pickt rfl rfl) rfl) ?_
        refine ln ?_
        refine nthen ?_
        refine cc rfl (fun h => ?_) (fun h => by cases h)
        refine cs ?_
        refine cr ?_
        refine ls (o_call (is := []) Tryz.call8 (c_alive) rfl rfl (by repeat' (first | constructor | apply Sub.suf)) rfl) ?_
        refine le ?_; intro x43
        refine ls (op (p_asg rfl) rfl) ?_
        refine ln ?_
        refine nthen ?_
        refine cret ?_
        refine xret (fun _ _ h => h) ?_
        refine rret (is := []) () (Or.inl rfl) (Res.t rfl Res.d) (rfl) rfl (by repeat' (first | constructor | apply Sub.suf))
      · intro h37
        obtain rfl : e1 = 0 := by simpa using h37
        have hr1 : Ran (madeT l) u T1 := hq1.symm
        have hso1 := ran_sor hr1 hso
        have hin1 := hinv.apply u
        have hg1 : Go.Sx.Good T1 := by have h := rApply_good hgood u; rw [hr1] at h; exact h
        rw [hr1] at hin1
        dsimp only at hin1
        have hft1 : Tfit T1 := inv_fit hin1 (by omega)
        have hbv : ∀ k, (getL T1 k).length + v.new.length ≤ 2000000 := fun k => by have := hin1.lmax.get k; omega
        refine lwant rfl rfl rfl rfl (op (p_move rfl) rfl) ?_
        refine lwant rfl rfl rfl rfl (o_ldw Tryz.isAgg25 Tryz.sizeOf25 rfl (by repeat' constructor) (by rfl) rfl) ?_
        refine lwant rfl rfl rfl rfl (o_call (is := [0, 0]) Tryz.call11 (c_pApply p b T1 v z hv hft1 hbv) rfl rfl (by repeat' (first | constructor | apply Sub.suf)) rfl) ?_
        refine le ?_; rintro ⟨⟨T2, e2⟩, hq2⟩
        try dsimp only at hq2
        rw [apply_eq hso1 hg1] at hq2
        refine lwant rfl rfl rfl rfl (op (p_icmp rfl rfl rfl) rfl) ?_
        refine ls (op (p_pickf rfl rfl) rfl) ?_
        refine ln ?_
        refine nthen ?_
        refine cc rfl ?_ ?_
        · intro h42
          skip
          refine cs ?_
          refine cr ?_
          refine ls (o_call (is := []) Tryz.call8 (c_alive) rfl rfl (by repeat' (first | constructor | apply Sub.suf)) rfl) ?_
          refine le ?_; intro x43
          refine ls (op (p_asg rfl) rfl) ?_
          refine ln ?_
          refine nthen ?_
          refine cret ?_
          refine xret (fun _ _ h => h) ?_
          refine rret (is := []) () (Or.inl rfl) (Res.t rfl Res.d) (rfl) rfl (by repeat' (first | constructor | apply Sub.suf))
        · intro h42
          obtain rfl : e2 = 0 := by simpa using h42
          have hr2 : Ran T1 v T2 := hq2.symm
          have hin2 := hin1.apply v
          rw [hr2] at hin2
          dsimp only at hin2
          have hft2 : Tfit T2 := inv_fit hin2 (by omega)
          refine cskip ?_
          refine nthen ?_
          refine cs ?_
          refine cr ?_
          refine ls (o_ldw Tryz.isAgg25 Tryz.sizeOf25 rfl (by repeat' constructor) (by rfl) rfl) ?_
          refine ls (o_ldw Tryz.isAgg25 Tryz.sizeOf25 rfl (by repeat' constructor) (by rfl) rfl) ?_
          refine ls (o_call (is := []) Tryz.call12 (c_Swap u v y z hu hv) rfl rfl (by repeat' (first | constructor | apply Sub.suf)) rfl) ?_
          refine le ?_; rintro ⟨⟨⟨r1, r2, r3⟩, z1, z2⟩, hs⟩
          obtain ⟨k1, k2⟩ := swap_fit hu hv; rw [← hs] at k1 k2; dsimp only at hs k1 k2
          refine ls (op (p_move rfl) rfl) ?_
          refine ls (op (p_ext rfl (by repeat' constructor)) rfl) ?_
          refine ls (op (p_ext rfl (by repeat' constructor)) rfl) ?_
          refine ls (op (p_ext rfl (by repeat' constructor)) rfl) ?_
          refine ls (o_alloc Tryz.zeroValue37 rfl rfl) ?_
          refine le ?_; intro b10
          refine ls (o_alloc Tryz.zeroValue37 rfl rfl) ?_
          refine le ?_; intro b11
          refine ls (o_st rfl Tryz.sizeOf37 rfl rfl rfl rfl rfl (by repeat' constructor) (by repeat' constructor) (by repeat' constructor)) ?_
          refine ls (o_st rfl Tryz.sizeOf37 rfl rfl rfl rfl rfl (by repeat' constructor) (by repeat' constructor) (by repeat' constructor)) ?_
          refine ls (op (p_asg rfl) rfl) ?_
          refine ln ?_
          refine nthen ?_
          refine cs ?_
          refine cs ?_
          refine cr ?_
          refine ls (op (p_move rfl) rfl) ?_
          refine ls (op (p_not rfl) rfl) ?_
          refine ln ?_
          refine nthen ?_
          refine cc rfl ?_ ?_
          · intro h52
            skip
            refine cs ?_
            refine cr ?_
            refine ls (o_call (is := []) Tryz.call8 (c_alive) rfl rfl (by repeat' (first | constructor | apply Sub.suf)) rfl) ?_
            refine le ?_; intro x53
            refine ls (op (p_asg rfl) rfl) ?_
            refine ln ?_
            refine nthen ?_
            refine cret ?_
            refine xret (fun _ _ h => h) ?_
            refine rret (is := []) () (Or.inl rfl) (Res.t rfl Res.d) (rfl) rfl (by repeat' (first | constructor | apply Sub.suf))
          · intro h52
            obtain rfl : r3 = true := by simpa using h52
            obtain ⟨X, hX1, hX2⟩ := ran_swap hso hr1 hr2 hs.symm
            obtain ⟨⟨_, q1, q2, _⟩, ⟨_, q3, q4, _⟩⟩ := swap_keeps hs.symm
            have hso3 := ran_sor hX1 hso
            have hin3 := hinv.apply r1
            have hg3 : Go.Sx.Good X := by have h := rApply_good hgood r1; rw [hX1] at h; exact h
            rw [hX1] at hin3
            dsimp only at hin3
            have hft3 : Tfit X := inv_fit hin3 (by omega)
            have hb1 : ∀ k, (getL (madeT l) k).length + r1.new.length ≤ 2000000 := fun k => by have := hinv.lmax.get k; omega
            have hb2 : ∀ k, (getL X k).length + r2.new.length ≤ 2000000 := fun k => by have := hin3.lmax.get k; omega
            refine cskip ?_
            refine nthen ?_
            refine cs ?_
            refine cr ?_
            refine ls (o_call (is := []) Tryz.call8 (c_alive) rfl rfl (by repeat' (first | constructor | apply Sub.suf)) rfl) ?_
            refine le ?_; intro x54
            refine ls (op (p_move rfl) rfl) ?_
            refine lwant rfl rfl rfl rfl (op (p_move rfl) rfl) ?_
            refine lwant rfl rfl rfl rfl (o_ldw Tryz.isAgg37 Tryz.sizeOf37 rfl (by repeat' constructor) (by rfl) rfl) ?_
            refine lwant rfl rfl rfl rfl (o_call (is := [4, 4]) Tryz.call11 (c_pApply p4 b4t (madeT l) r1 z1 k1 hfit hb1) rfl rfl (by repeat' (first | constructor | apply Sub.suf)) rfl) ?_
            refine le ?_; rintro ⟨⟨T3, e3⟩, hq3⟩
            try dsimp only at hq3
            rw [apply_eq hso hgood] at hq3
            try dsimp only at hq3
            obtain ⟨rfl, rfl⟩ := Prod.mk.inj ((show rApplyT (madeT l) r1 = (X, 0) from hX1).symm.trans hq3.symm)
            refine lwant rfl rfl rfl rfl (op (p_icmp rfl rfl rfl) rfl) ?_
            refine fixL (congrArg Value.bool (decide_eq_true rfl)) ?_
            refine ls (op (p_pickt rfl rfl) rfl) ?_
            refine ls (op (p_move rfl) rfl) ?_
            refine lwant rfl rfl rfl rfl (op (p_move rfl) rfl) ?_
            refine lwant rfl rfl rfl rfl (o_ldw Tryz.isAgg37 Tryz.sizeOf37 rfl (by repeat' constructor) (by rfl) rfl) ?_
            refine lwant rfl rfl rfl rfl (o_call (is := [0, 0]) Tryz.call11 (c_pApply p4 b4t X r2 z2 k2 hft3 hb2) rfl rfl (by repeat' (first | constructor | apply Sub.suf)) rfl) ?_
            refine le ?_; rintro ⟨⟨T4, e4⟩, hq4⟩
            try dsimp only at hq4
            rw [apply_eq hso3 hg3] at hq4
            try dsimp only at hq4
            obtain ⟨rfl, rfl⟩ := Prod.mk.inj ((show rApplyT X r2 = (T2, 0) from hX2).symm.trans hq4.symm)
            refine lwant rfl rfl rfl rfl (op (p_icmp rfl rfl rfl) rfl) ?_
            refine fixL (congrArg Value.bool (decide_eq_true rfl)) ?_
            refine ls (op (p_pickt rfl rfl) rfl) ?_
            refine ls (op (p_move rfl) rfl) ?_
            refine lwant rfl rfl rfl rfl (op (p_move rfl) rfl) ?_
            refine lwant rfl rfl rfl rfl (op (p_move rfl) rfl) ?_
            refine lwant rfl rfl rfl rfl (o_call (is := [4, 4, 0, 0]) Tryz.call13 (c_tSame p b p4 b4t T2 T2 hft2) rfl rfl (by repeat' (first | constructor | apply Sub.suf)) rfl) ?_
            refine le ?_; intro x70
            refine fixL (congrArg Value.bool (decide_eq_true rfl)) ?_
            refine ls (op (p_pickt rfl rfl) rfl) ?_
            refine ls (op (p_asg rfl) rfl) ?_
            refine ln ?_
            refine nthen ?_
            refine cret ?_
            refine xret (fun _ _ h => h) ?_
            refine rret (is := []) () (Or.inl rfl) (Res.t rfl Res.d) (rfl) rfl (by repeat' (first | constructor | apply Sub.suf))

end Go.Proofs.YtjeampaghmcefaaGreatDoor.X
