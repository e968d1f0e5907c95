/- OWN WORK: a part of the proof of a law of the seat YtonmgdamojingaaDoor: the law: for every input of bulk at most 1048576 the law returns true, and the input reads as it did. -/
import Derived.Test.YtonmgdamojingaaDoorXRowH
import Derived.Test.YtonmgdamojingaaDoorXC4
set_option linter.unusedVariables false
namespace Go.Proofs.YtonmgdamojingaaDoor.X
open Go Go.RowKit Go.Proofs Go.Sx Go.ChangeShapes Go.WideShapes Go.ChangeAt Go.Lib
open YtonmgdamojingaaDoor

namespace pastEmpty
theorem laid_met (os : Os) (args : Array Value) : laidMet Tryd.prog Rows.pastEmptyUptoRow.laid ((laidWorld os).forCall (fun _ _ => 0) ⟨#[], args, []⟩).memory :=
  (LaidIn.of_run (l := Rows.pastEmptyUptoRow.laid) [0, 1] 8 (by kernel_rfl) (by kernel_rfl) (by kernel_rfl) (by kernel_rfl)).met
theorem reads (os : Os) {H : Type} (enc : TypeId × Value → H) : ∃ places, DataW.whole enc Tryd.prog ((laidWorld os).forCall (fun _ _ => 0) ⟨#[], #[zeroS, zeroS, zeroI], []⟩).memory Tryd.f4.params.toList Rows.pastEmptySpec.vars false #[zeroS, zeroS, zeroI].toList 8 = some ([.nil, .nil, .lit (.int .i64 0)], [], places) :=
  ⟨[], by kernel_rfl⟩
set_option maxRecDepth 100000 in
theorem contract (H : Type) (enc : TypeId × Value → H) (W : World) (base : Nat) (args : Array Value) (ds gs : List (DataW H)) (before : List MemPlace)
    (hval : ∀ (j : Nat) t v, Tryd.f4.params[j]? = some t → args[j]? = some v → Value.okWide Tryd.prog W .any base t v)
    (hW : DataW.Whole enc Tryd.prog Tryd.f4.params.toList Rows.pastEmptySpec.vars false W args.toList ds gs before) (hk : Rows.uptoSmall H (ds ++ gs) = true) :
    Calls Tryd.prog 4 args W fun e W' => ∃ v, e = .returned v ∧ Rows.pastEmptySpec.post enc Tryd.prog Tryd.f4 false true false false W args v W' := by
  have hW' := hW
  obtain ⟨p, q, hA0, hV, rfl, hfz, hnd⟩ := hW
  have hA : DataW.TrodAll enc Tryd.prog W 0 (fun _ => true) true Tryd.f4.params.toList args.toList ds p := hA0
  rw [Tryd.params4] at hA hval
  obtain ⟨v0, v1, v2, d0, d1, d2, p0, p1, p2, rfl, rfl, rfl, r0, r1, r2⟩ := trodAll_three hA
  obtain ⟨rfl, rfl⟩ := trodVars_none hV
  clear hA0
  simp only [List.append_nil] at hW' hk
  obtain ⟨x0, y0, e0, g0, m0, c0, n0⟩ := open_rows (bulk H) (bulk_nil H) Tryd.underlying22 (by kernel_rfl) Tryd.underlying23 prtys (hval 0 22 v0 (by simp) (by simp)) r0
  have hm0 : x0.length + (x0.map Sx.many).sum + 1 ≤ Rows.uptoBulk d0 := m0
  obtain ⟨x1, y1, e1, g1, m1, n1⟩ := open_row (bulk H) (bulk_nil H) Tryd.underlying23 prtys (hval 1 23 v1 (by simp) (by simp)) r1
  have hm1 : Sx.many x1 + 1 ≤ Rows.uptoBulk d1 := m1
  obtain ⟨x2, e2, _, _, w2⟩ := open_int Tryd.underlying3 (hval 2 3 v2 (by simp) (by simp)) r2
  have z2 := i64_wf w2
  have hb : Rows.uptoBulkAll [d0, d1, d2] ≤ 1048576 := of_decide_eq_true hk
  simp only [Rows.uptoBulkAll] at hb
  have f0 := rows_fit (rows := x0) (by omega)
  have f1 := row_fit (l := x1) (by omega)
  have hlt : ∀ z ∈ p0 ++ p1 ++ p2, z.block < W.heap.size := fun z hz => hW'.lt z (by simpa using hz)
  have hc : Calls Tryd.prog 4 #[v0, v1, v2] W fun e w' => e = .returned (.bool true) ∧ Below W.heap.size W w' := by
    rw [e0, e1, e2]
    exact con_row (c_PastEmpty x0 y0.1 y0.2 (by omega) f0 (by omega) x1 y1.1 y1.2 (by have := many_len x1; omega) f1.2 (by omega) x2) (fun a ha => by rcases List.mem_cons.1 ha with rfl | ha; exact g0; rcases List.mem_cons.1 ha with rfl | ha; exact g1; cases ha)
  refine hc.mono fun e W' ⟨he, hbl⟩ => ?_
  subst he
  exact ⟨_, rfl, post_of_below (pa := p0 ++ (p1 ++ p2)) (pv := []) hW' (fun _ _ _ => trodAll_cons_mk (shut_bool Tryd.underlying4 _) trodAll_mk0)
    (fun sp hsp => trodAll_mk3 (WideElems.Trod_stays laidO (by kernel_rfl) (of_decide_eq_true (by kernel_rfl)) r0 (fun z hz => hbl.same (hlt z (by simp [hz]))) (fun z hz => hsp z (by simp [hz])))
      (WideElems.Trod_stays laidO (by kernel_rfl) (of_decide_eq_true (by kernel_rfl)) r1 (fun z hz => hbl.same (hlt z (by simp [hz]))) (fun z hz => hsp z (by simp [hz])))
      (WideElems.Trod_stays laidO (by kernel_rfl) (of_decide_eq_true (by kernel_rfl)) r2 (fun z hz => hbl.same (hlt z (by simp [hz]))) (fun z hz => hsp z (by simp [hz]))))
    (fun _ _ => rfl) (by simp) hbl (ok_one (by kernel_rfl) rfl (okWide_bool_mk Tryd.underlying4 _))⟩
set_option maxRecDepth 100000 in
theorem lifted (os : Os) (started : os.Started) (H : Type) (enc : TypeId × Value → H) (F : Stop.Interp) :
    ReturnsInHanded {} Tryd.checked os 4 .any ((Rows.OpenSpec.upto Rows.pastEmptySpec).preRow enc Tryd.prog Tryd.f4 Rows.pastEmptyUptoRow.domain false Rows.pastEmptyUptoRow.laid) (((Rows.OpenSpec.upto Rows.pastEmptySpec).at F).post enc Tryd.prog Tryd.f4 false true false false) := by
  obtain ⟨places, hx⟩ := reads os enc
  refine returnsInHanded_of_row (C := Tryd.checked) (s := Rows.OpenSpec.upto Rows.pastEmptySpec) own started (by kernel_rfl) Tryd.func4
    (witness_row_at (enc := enc) (C := Tryd.checked) false (laidWorld os) #[zeroS, zeroS, zeroI] rfl (by kernel_rfl) (by kernel_rfl) (by kernel_rfl)
      (OpenSpec.preRow_of_cond 8 hx (by kernel_rfl) (fun k hk => by cases hk; kernel_rfl) (by kernel_rfl) (laid_met os _))) ?_
  intro W base args ds gs before hval hW _ hcond _ _ _ _
  exact contract H enc W base args ds gs before hval hW (hcond _ rfl)
theorem said : Rows.PastEmptyUptoSaid :=
  OpenClaim.holds_of_cond 4 Tryd.f4 rfl rfl rfl rfl rfl rfl rfl ⟨rfl, rfl, rfl, rfl, rfl⟩ rfl rfl rfl rfl rfl (by kernel_rfl) Tryd.func4 (by kernel_rfl)
    (of_decide_eq_true (by kernel_rfl)) (by unfold Func.isWrapper; first | (rw [if_pos (by decide +kernel)]; kernel_rfl) | (rw [if_neg (by decide +kernel)]; exact ⟨rfl, rfl⟩))
    (fun os started H enc _ F => by rw [OpenClaim.pre_eq_preRow]; exact lifted os started H enc F)
theorem plain (f : FuncId) (fn : Func) (hf : Tryd.pinned.checked.prog.funcNamed "quiltwork/quiltworklaw15.PastEmpty" = some f) (hfn : Tryd.pinned.checked.prog.funcs[f]? = some fn) :
    false = Tryd.pinned.checked.prog.looks [] ∧ ∀ (j : Nat) t, fn.params[j]? = some t → Tryd.pinned.checked.prog.wantsStandIn t = false := by
  obtain rfl : f = 4 := Option.some.inj ((show Tryd.prog.funcNamed "quiltwork/quiltworklaw15.PastEmpty" = some 4 by kernel_rfl).symm.trans hf) |>.symm
  obtain rfl : fn = Tryd.f4 := (Option.some.inj (Tryd.func4.symm.trans hfn)).symm
  refine ⟨by kernel_rfl, fun j t ht => ?_⟩
  rw [Tryd.params4] at ht
  have h2 : t = 22 ∨ t = 23 ∨ t = 3 := by simpa using Array.mem_of_getElem? ht
  rcases h2 with rfl | rfl | rfl
  · exact (show Tryd.prog.wantsStandIn 22 = false by kernel_rfl)
  · exact (show Tryd.prog.wantsStandIn 23 = false by kernel_rfl)
  · exact (show Tryd.prog.wantsStandIn 3 = false by kernel_rfl)
theorem card : Rows.PastEmptyUptoCardSaid :=
  Claim7.holds_tied_plain_at .later [] _ _ _ _ said (fun _ h => by cases h) (by kernel_rfl) (fun _ h => by cases h) pastEmptyUpto_row_tie rfl ⟨rfl, rfl⟩ (by kernel_rfl) rfl plain (by kernel_rfl)
end pastEmpty
end Go.Proofs.YtonmgdamojingaaDoor.X
