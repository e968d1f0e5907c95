/- OWN WORK: a part of the proof of a law of the seat YtmikcpaaomamiaaGreatDoor: the law: for every input of bulk at most 1048576 the law returns true, and the input reads as it did. -/
import Derived.Test.YtmikcpaaomamiaaGreatDoorXRowH
import Derived.Test.YtmikcpaaomamiaaGreatDoorXGC
set_option linter.unusedVariables false
namespace Go.Proofs.YtmikcpaaomamiaaGreatDoor.X
open Go Go.RowKit Go.Proofs Go.Sx Go.ChangeShapes Go.WideShapes Go.ChangeAt Go.Lib
open YtmikcpaaomamiaaGreatDoor
theorem ptys : PTys Tryz.prog 25 := ⟨⟨_, _, _, _, _, _, _, _, _, _, _, _, _, Tryz.underlying25, by kernel_rfl, by kernel_rfl, Tryz.underlying3, Tryz.underlying9, Tryz.underlying22, Tryz.underlying3, by kernel_rfl, Tryz.underlying23, Tryz.underlying61, by kernel_rfl, by kernel_rfl, Tryz.underlying3, Tryz.underlying9, Tryz.underlying9, Tryz.underlying3, Tryz.underlying37, Tryz.underlying37, Tryz.underlying9, by kernel_rfl⟩⟩
namespace namedOwn
theorem laid_met (os : Os) (args : Array Value) : laidMet Tryz.prog Rows.namedOwnUptoRow.laid ((laidWorld os).forCall (fun _ _ => 0) ⟨#[], args, []⟩).memory :=
  (LaidIn.of_run (l := Rows.namedOwnUptoRow.laid) [1, 2] 8 (by kernel_rfl) (by kernel_rfl) (by kernel_rfl) (by kernel_rfl)).met
theorem reads (os : Os) {H : Type} (enc : TypeId × Value → H) : ∃ places, DataW.whole enc Tryz.prog ((laidWorld os).forCall (fun _ _ => 0) ⟨#[], #[(.agg #[.int .i64 0, .string ⟨#[]⟩, .slice none 0 0, .slice none 0 0]), (.agg #[.int .i64 0, .string ⟨#[]⟩, .slice none 0 0, .slice none 0 0])], []⟩).memory Tryz.f3.params.toList Rows.namedOwnSpec.vars false #[(.agg #[.int .i64 0, .string ⟨#[]⟩, .slice none 0 0, .slice none 0 0]), (.agg #[.int .i64 0, .string ⟨#[]⟩, .slice none 0 0, .slice none 0 0])].toList 8 = some ([.agg [.lit (.int .i64 0), .lit (.string []), .nil, .nil], .agg [.lit (.int .i64 0), .lit (.string []), .nil, .nil]], [], places) :=
  ⟨[], by kernel_rfl⟩
set_option maxRecDepth 100000 in
theorem contract (H : Type) (enc : TypeId × Value → H) (W : World) (base : Nat) (args : Array Value) (ds gs : List (DataW H)) (before : List MemPlace)
    (hval : ∀ (j : Nat) t v, Tryz.f3.params[j]? = some t → args[j]? = some v → Value.okWide Tryz.prog W .any base t v)
    (hW : DataW.Whole enc Tryz.prog Tryz.f3.params.toList Rows.namedOwnSpec.vars false W args.toList ds gs before) (hk : Rows.uptoSmall H (ds ++ gs) = true) :
    Calls Tryz.prog 3 args W fun e W' => ∃ v, e = .returned v ∧ Rows.namedOwnSpec.post enc Tryz.prog Tryz.f3 false true false false W args v W' := by
  have hW' := hW
  obtain ⟨p, q, hA0, hV, rfl, hfz, hnd⟩ := hW
  have hA : DataW.TrodAll enc Tryz.prog W 0 (fun _ => true) true Tryz.f3.params.toList args.toList ds p := hA0
  rw [Tryz.params3] at hA hval
  obtain ⟨v0, v1, d0, d1, p0, p1, rfl, rfl, rfl, r0, r1⟩ := trodAll_two hA
  obtain ⟨rfl, rfl⟩ := trodVars_none hV
  clear hA0
  simp only [List.append_nil] at hW' hk
  obtain ⟨x0, y0, e0, g0, m0⟩ := open_patch (bulk H) ptys (hval 0 25 v0 (by simp) (by simp)) r0
  have hm0 : x0.many + 1 ≤ Rows.uptoBulk d0 := m0
  obtain ⟨x1, y1, e1, g1, m1⟩ := open_patch (bulk H) ptys (hval 1 25 v1 (by simp) (by simp)) r1
  have hm1 : x1.many + 1 ≤ Rows.uptoBulk d1 := m1
  have hb : Rows.uptoBulkAll [d0, d1] ≤ 1048576 := of_decide_eq_true hk
  simp only [Rows.uptoBulkAll] at hb
  have hlt : ∀ z ∈ p0 ++ p1, z.block < W.heap.size := fun z hz => hW'.lt z (by simpa using hz)
  have hc : Calls Tryz.prog 3 #[v0, v1] W fun e w' => e = .returned (.bool true) ∧ Below W.heap.size W w' := by
    rw [e0, e1]
    exact con_row (c_NamedOwn x0 x1 y0 y1 (pfit_many (by omega)) (pfit_many (by omega)) (by simp only [pmany, List.map_cons, List.map_nil, List.sum_cons, List.sum_nil]; omega)) (fun a ha => (List.mem_append.1 (show a ∈ Rp.asn x0 y0 ++ Rp.asn x1 y1 from ha)).elim (g0 a) (g1 a))
  refine hc.mono fun e W' ⟨he, hbl⟩ => ?_
  subst he
  exact ⟨_, rfl, post_of_below (pa := p0 ++ p1) (pv := []) hW' (fun _ _ _ => trodAll_cons_mk (shut_bool Tryz.underlying4 _) trodAll_mk0)
    (fun sp hsp => trodAll_mk2 (WideElems.Trod_stays laidO (by kernel_rfl) (of_decide_eq_true (by kernel_rfl)) r0 (fun z hz => hbl.same (hlt z (by simp [hz]))) (fun z hz => hsp z (by simp [hz])))
      (WideElems.Trod_stays laidO (by kernel_rfl) (of_decide_eq_true (by kernel_rfl)) r1 (fun z hz => hbl.same (hlt z (by simp [hz]))) (fun z hz => hsp z (by simp [hz]))))
    (fun _ _ => rfl) (by simp) hbl (ok_one (by kernel_rfl) rfl (okWide_bool_mk Tryz.underlying4 _))⟩
set_option maxRecDepth 100000 in
theorem lifted (os : Os) (started : os.Started) (H : Type) (enc : TypeId × Value → H) (F : Stop.Interp) :
    ReturnsInHanded {} Tryz.checked os 3 .any ((Rows.OpenSpec.upto Rows.namedOwnSpec).preRow enc Tryz.prog Tryz.f3 Rows.namedOwnUptoRow.domain false Rows.namedOwnUptoRow.laid) (((Rows.OpenSpec.upto Rows.namedOwnSpec).at F).post enc Tryz.prog Tryz.f3 false true false false) := by
  obtain ⟨places, hx⟩ := reads os enc
  refine returnsInHanded_of_row (C := Tryz.checked) (s := Rows.OpenSpec.upto Rows.namedOwnSpec) own started (by kernel_rfl) Tryz.func3
    (witness_row_at (enc := enc) (C := Tryz.checked) false (laidWorld os) #[(.agg #[.int .i64 0, .string ⟨#[]⟩, .slice none 0 0, .slice none 0 0]), (.agg #[.int .i64 0, .string ⟨#[]⟩, .slice none 0 0, .slice none 0 0])] rfl (by kernel_rfl) (by kernel_rfl) (by kernel_rfl)
      (OpenSpec.preRow_of_cond 8 hx (by kernel_rfl) (fun k hk => by cases hk; kernel_rfl) (by kernel_rfl) (laid_met os _))) ?_
  intro W base args ds gs before hval hW _ hcond _ _ _ _
  exact contract H enc W base args ds gs before hval hW (hcond _ rfl)
theorem said : Rows.NamedOwnUptoSaid :=
  OpenClaim.holds_of_cond 3 Tryz.f3 rfl rfl rfl rfl rfl rfl rfl ⟨rfl, rfl, rfl, rfl, rfl⟩ rfl rfl rfl rfl rfl (by kernel_rfl) Tryz.func3 (by kernel_rfl)
    (of_decide_eq_true (by kernel_rfl)) (by unfold Func.isWrapper; first | (rw [if_pos (by decide +kernel)]; kernel_rfl) | (rw [if_neg (by decide +kernel)]; exact ⟨rfl, rfl⟩))
    (fun os started H enc _ F => by rw [OpenClaim.pre_eq_preRow]; exact lifted os started H enc F)
theorem plain (f : FuncId) (fn : Func) (hf : Tryz.pinned.checked.prog.funcNamed "quiltwork/quiltworklaw07.NamedOwn" = some f) (hfn : Tryz.pinned.checked.prog.funcs[f]? = some fn) :
    false = Tryz.pinned.checked.prog.looks [] ∧ ∀ (j : Nat) t, fn.params[j]? = some t → Tryz.pinned.checked.prog.wantsStandIn t = false := by
  obtain rfl : f = 3 := Option.some.inj ((show Tryz.prog.funcNamed "quiltwork/quiltworklaw07.NamedOwn" = some 3 by kernel_rfl).symm.trans hf) |>.symm
  obtain rfl : fn = Tryz.f3 := (Option.some.inj (Tryz.func3.symm.trans hfn)).symm
  refine ⟨by kernel_rfl, fun j t ht => ?_⟩
  rw [Tryz.params3] at ht
  have h2 : t = 25 := by simpa using Array.mem_of_getElem? ht
  subst h2
  exact (show Tryz.prog.wantsStandIn 25 = false by kernel_rfl)
theorem card : Rows.NamedOwnUptoCardSaid :=
  Claim7.holds_tied_plain_at .later [] _ _ _ _ said (fun _ h => by cases h) (by kernel_rfl) (fun _ h => by cases h) namedOwnUpto_row_tie rfl ⟨rfl, rfl⟩ (by kernel_rfl) rfl plain (by kernel_rfl)
end namedOwn
end Go.Proofs.YtmikcpaaomamiaaGreatDoor.X
