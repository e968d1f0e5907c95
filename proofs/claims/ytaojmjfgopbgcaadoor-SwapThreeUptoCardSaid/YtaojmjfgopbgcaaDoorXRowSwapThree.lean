/- OWN WORK: a part of the proof of a law of the seat YtaojmjfgopbgcaaDoor: the law: for every input of bulk at most 1048576 the law returns true, and the input reads as it did. -/
import Derived.Test.YtaojmjfgopbgcaaDoorXRowH
import Derived.Test.YtaojmjfgopbgcaaDoorXA15
set_option linter.unusedVariables false
namespace Go.Proofs.YtaojmjfgopbgcaaDoor.X
open Go Go.RowKit Go.Proofs Go.Sx Go.ChangeShapes Go.WideShapes Go.ChangeAt Go.Lib
open YtaojmjfgopbgcaaDoor

namespace swapThree
theorem laid_met (os : Os) (args : Array Value) : laidMet Tryd.prog Rows.swapThreeUptoRow.laid ((laidWorld os).forCall (fun _ _ => 0) ⟨#[], args, []⟩).memory :=
  (LaidIn.of_run (l := Rows.swapThreeUptoRow.laid) [0, 1] 8 (by kernel_rfl) (by kernel_rfl) (by kernel_rfl) (by kernel_rfl)).met
def zeroA : Value := .agg #[.int .i64 0, .string ⟨#[]⟩, .string ⟨#[]⟩, .int .i64 0, .slice none 0 0, .slice none 0 0, .int .i64 0, .string ⟨#[]⟩, .string ⟨#[]⟩, .int .i64 0, .slice none 0 0, .slice none 0 0, .int .i64 0, .string ⟨#[]⟩, .string ⟨#[]⟩, .int .i64 0, .slice none 0 0, .slice none 0 0]
theorem reads (os : Os) {H : Type} (enc : TypeId × Value → H) : ∃ places, DataW.whole enc Tryd.prog ((laidWorld os).forCall (fun _ _ => 0) ⟨#[], #[zeroA], []⟩).memory Tryd.f5.params.toList Rows.swapThreeSpec.vars false #[zeroA].toList 8 = some ([.agg [.agg [.lit (.int .i64 0), .lit (.string []), .lit (.string []), .lit (.int .i64 0), .nil, .nil], .agg [.lit (.int .i64 0), .lit (.string []), .lit (.string []), .lit (.int .i64 0), .nil, .nil], .agg [.lit (.int .i64 0), .lit (.string []), .lit (.string []), .lit (.int .i64 0), .nil, .nil]]], [], places) :=
  ⟨[], by kernel_rfl⟩
set_option maxRecDepth 100000 in
theorem contract (H : Type) (enc : TypeId × Value → H) (W : World) (base : Nat) (args : Array Value) (ds gs : List (DataW H)) (before : List MemPlace)
    (hval : ∀ (j : Nat) t v, Tryd.f5.params[j]? = some t → args[j]? = some v → Value.okWide Tryd.prog W .any base t v)
    (hW : DataW.Whole enc Tryd.prog Tryd.f5.params.toList Rows.swapThreeSpec.vars false W args.toList ds gs before) (hk : Rows.uptoSmall H (ds ++ gs) = true) :
    Calls Tryd.prog 5 args W fun e W' => ∃ v, e = .returned v ∧ Rows.swapThreeSpec.post enc Tryd.prog Tryd.f5 false true false false W args v W' := by
  have hW' := hW
  obtain ⟨p, q, hA0, hV, rfl, hfz, hnd⟩ := hW
  have hA : DataW.TrodAll enc Tryd.prog W 0 (fun _ => true) true Tryd.f5.params.toList args.toList ds p := hA0
  rw [Tryd.params5] at hA hval
  obtain ⟨v0, d0, rfl, rfl, r0⟩ := trodAll_one hA
  obtain ⟨rfl, rfl⟩ := trodVars_none hV
  clear hA0
  simp only [List.append_nil] at hW' hk
  obtain ⟨z1, z2, z3, y1, y2, y3, e0, g0, m0⟩ := open_prim3 (bulk H) Tryd.underlying34 Tryd.underlying24 (by kernel_rfl) (by kernel_rfl) (by kernel_rfl) (e := 9) Tryd.underlying3 Tryd.underlying9 Tryd.underlying9 Tryd.underlying3 Tryd.underlying22 Tryd.underlying22 Tryd.underlying9 (by kernel_rfl) (hval 0 34 v0 (by simp) (by simp)) r0
  have hb : Rows.uptoBulkAll [d0] ≤ 1048576 := of_decide_eq_true hk
  simp only [Rows.uptoBulkAll] at hb
  have hm : z1.many + z2.many + z3.many ≤ Rows.uptoBulk d0 := m0
  have hlt : ∀ z ∈ p, z.block < W.heap.size := fun z hz => hW'.lt z (by simpa using hz)
  have hc : Calls Tryd.prog 5 #[v0] W fun e w' => e = .returned (.bool true) ∧ Below W.heap.size W w' := by
    rw [e0]
    exact con_row (c_SwapThree z1 z2 z3 y1 y2 y3 (fit_many (by omega)) (fit_many (by omega)) (fit_many (by omega)) (by simp only [many, List.map_cons, List.map_nil, List.sum_cons, List.sum_nil, List.length_cons, List.length_nil]; omega)) g0
  refine hc.mono fun e W' ⟨he, hbl⟩ => ?_
  subst he
  exact ⟨_, rfl, post_of_below (pa := p) (pv := []) hW' (fun _ _ _ => trodAll_cons_mk (shut_bool Tryd.underlying4 _) trodAll_mk0)
    (fun sp hsp => trodAll_mk1 (WideElems.Trod_stays laidO (by kernel_rfl) (of_decide_eq_true (by kernel_rfl)) r0 (fun z hz => hbl.same (hlt z hz)) (fun z hz => hsp z (by simpa using hz))))
    (fun _ _ => rfl) (by simp) hbl (ok_one (by kernel_rfl) rfl (okWide_bool_mk Tryd.underlying4 _))⟩
set_option maxRecDepth 100000 in
theorem lifted (os : Os) (started : os.Started) (H : Type) (enc : TypeId × Value → H) (F : Stop.Interp) :
    ReturnsInHanded {} Tryd.checked os 5 .any ((Rows.OpenSpec.upto Rows.swapThreeSpec).preRow enc Tryd.prog Tryd.f5 Rows.swapThreeUptoRow.domain false Rows.swapThreeUptoRow.laid) (((Rows.OpenSpec.upto Rows.swapThreeSpec).at F).post enc Tryd.prog Tryd.f5 false true false false) := by
  obtain ⟨places, hx⟩ := reads os enc
  refine returnsInHanded_of_row (C := Tryd.checked) (s := Rows.OpenSpec.upto Rows.swapThreeSpec) own started (by kernel_rfl) Tryd.func5
    (witness_row_at (enc := enc) (C := Tryd.checked) false (laidWorld os) #[zeroA] rfl (by kernel_rfl) (by kernel_rfl) (by kernel_rfl)
      (OpenSpec.preRow_of_cond 8 hx (by kernel_rfl) (fun k hk => by cases hk; kernel_rfl) (by kernel_rfl) (laid_met os _))) ?_
  intro W base args ds gs before hval hW _ hcond _ _ _ _
  exact contract H enc W base args ds gs before hval hW (hcond _ rfl)
theorem said : Rows.SwapThreeUptoSaid :=
  OpenClaim.holds_of_cond 5 Tryd.f5 rfl rfl rfl rfl rfl rfl rfl ⟨rfl, rfl, rfl, rfl, rfl⟩ rfl rfl rfl rfl rfl (by kernel_rfl) Tryd.func5 (by kernel_rfl)
    (of_decide_eq_true (by kernel_rfl)) (by unfold Func.isWrapper; first | (rw [if_pos (by decide +kernel)]; kernel_rfl) | (rw [if_neg (by decide +kernel)]; exact ⟨rfl, rfl⟩))
    (fun os started H enc _ F => by rw [OpenClaim.pre_eq_preRow]; exact lifted os started H enc F)
theorem plain (f : FuncId) (fn : Func) (hf : Tryd.pinned.checked.prog.funcNamed "quiltwork/quiltworklaw04.SwapThree" = some f) (hfn : Tryd.pinned.checked.prog.funcs[f]? = some fn) :
    false = Tryd.pinned.checked.prog.looks [] ∧ ∀ (j : Nat) t, fn.params[j]? = some t → Tryd.pinned.checked.prog.wantsStandIn t = false := by
  obtain rfl : f = 5 := Option.some.inj ((show Tryd.prog.funcNamed "quiltwork/quiltworklaw04.SwapThree" = some 5 by kernel_rfl).symm.trans hf) |>.symm
  obtain rfl : fn = Tryd.f5 := (Option.some.inj (Tryd.func5.symm.trans hfn)).symm
  refine ⟨by kernel_rfl, fun j t ht => ?_⟩
  rw [Tryd.params5] at ht
  obtain rfl : t = 34 := by simpa using Array.mem_of_getElem? ht
  exact (show Tryd.prog.wantsStandIn 34 = false by kernel_rfl)
theorem card : Rows.SwapThreeUptoCardSaid :=
  Claim7.holds_tied_plain_at .later [] _ _ _ _ said (fun _ h => by cases h) (by kernel_rfl) (fun _ h => by cases h) swapThreeUpto_row_tie rfl ⟨rfl, rfl⟩ (by kernel_rfl) rfl plain (by kernel_rfl)
end swapThree
end Go.Proofs.YtaojmjfgopbgcaaDoor.X
