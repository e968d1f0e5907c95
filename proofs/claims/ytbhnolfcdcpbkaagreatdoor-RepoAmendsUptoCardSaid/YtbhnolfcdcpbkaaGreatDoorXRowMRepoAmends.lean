/- OWN WORK: a part of the proof of a law of the seat YtbhnolfcdcpbkaaGreatDoor: the law: for every input of bulk at most 1048576 the law returns true, and the input reads as it did. -/
import Derived.Test.YtbhnolfcdcpbkaaGreatDoorXRowAH
import Derived.Test.YtbhnolfcdcpbkaaGreatDoorXGAF
import Derived.Test.YtbhnolfcdcpbkaaGreatDoorXRowAJ
set_option linter.unusedVariables false
set_option linter.unusedSimpArgs false
namespace Go.Proofs.YtbhnolfcdcpbkaaGreatDoor.X
open Go Go.RowKit Go.Proofs Go.Sx Go.ChangeShapes Go.WideShapes Go.ChangeAt Go.Lib
open YtbhnolfcdcpbkaaGreatDoor
theorem rotys : ROTys Tryz.prog 75 := ⟨⟨_, _, _, _, _, _, _, _, _, Tryz.underlying75, by kernel_rfl, by kernel_rfl, Tryz.underlying3, Tryz.underlying24, prtys, Tryz.underlying3, Tryz.underlying9, Tryz.underlying61, Tryz.underlying3, by kernel_rfl, Tryz.underlying73, Tryz.underlying9, by kernel_rfl⟩⟩
namespace repoAmends
theorem laid_met (os : Os) (args : Array Value) : laidMet Tryz.prog Rows.repoAmendsUptoRow.laid ((laidWorld os).forCall (fun _ _ => 0) ⟨#[], args, []⟩).memory :=
  (LaidIn.of_run (l := Rows.repoAmendsUptoRow.laid) [0, 1, 2, 4, 5] 8 (by kernel_rfl) (by kernel_rfl) (by kernel_rfl) (by kernel_rfl)).met
theorem reads (os : Os) {H : Type} (enc : TypeId × Value → H) : ∃ places, DataW.whole enc Tryz.prog ((laidWorld os).forCall (fun _ _ => 0) ⟨#[], #[zeroS, (.int .i64 0)], []⟩).memory Tryz.f4.params.toList Rows.repoAmendsSpec.vars false #[zeroS, (.int .i64 0)].toList 8 = some ([.nil, .lit (.int .i64 0)], [], places) :=
  ⟨[], by kernel_rfl⟩
set_option maxRecDepth 100000 in
theorem contract (H : Type) (enc : TypeId × Value → H) (W : World) (base : Nat) (args : Array Value) (ds gs : List (DataW H)) (before : List MemPlace)
    (hval : ∀ (j : Nat) t v, Tryz.f4.params[j]? = some t → args[j]? = some v → Value.okWide Tryz.prog W .any base t v)
    (hW : DataW.Whole enc Tryz.prog Tryz.f4.params.toList Rows.repoAmendsSpec.vars false W args.toList ds gs before) (hk : Rows.uptoSmall H (ds ++ gs) = true) :
    Calls Tryz.prog 4 args W fun e W' => ∃ v, e = .returned v ∧ Rows.repoAmendsSpec.post enc Tryz.prog Tryz.f4 false true false false W args v W' := by
  have hW' := hW
  obtain ⟨p, q, hA0, hV, rfl, hfz, hnd⟩ := hW
  have hA : DataW.TrodAll enc Tryz.prog W 0 (fun _ => true) true Tryz.f4.params.toList args.toList ds p := hA0
  rw [Tryz.params4] at hA hval
  obtain ⟨v0, v1, d0, d1, p0, p1, rfl, rfl, rfl, r0, r1⟩ := trodAll_two hA
  obtain ⟨rfl, rfl⟩ := trodVars_none hV
  clear hA0
  simp only [List.append_nil] at hW' hk
  obtain ⟨x0, y0, e0, g0, m0, cp0⟩ := open_rops (bulk H) (bulk_nil H) Tryz.underlying22 rotys (hval 0 22 v0 (by simp) (by simp)) r0
  have hm0 : x0.length + (x0.map ROp.many).sum ≤ Rows.uptoBulk d0 := m0
  obtain ⟨x1, e1, _, _, w1⟩ := open_int Tryz.underlying3 (hval 1 3 v1 (by simp) (by simp)) r1
  have hb : Rows.uptoBulkAll [d0, d1] ≤ 1048576 := of_decide_eq_true hk
  simp only [Rows.uptoBulkAll] at hb
  have hlt : ∀ z ∈ p0 ++ p1, z.block < W.heap.size := fun z hz => hW'.lt z (by simpa using hz)
  have hc : Calls Tryz.prog 4 #[v0, v1] W fun e w' => e = .returned (.bool true) ∧ Below W.heap.size W w' := by
    rw [e0, e1]
    exact con_row (c_RepoAmends x0 y0.1 y0.2 (by omega) (fun o ho => rop_fit (by have := rop_mem ho; omega)) (rop_sa (by omega)) x1) (fun a ha => by rcases List.mem_cons.1 ha with rfl | ha; exact g0; cases ha)
  refine hc.mono fun e W' ⟨he, hbl⟩ => ?_
  subst he
  exact ⟨_, rfl, post_of_below (pa := p0 ++ p1) (pv := []) hW' (fun _ _ _ => trodAll_cons_mk (shut_bool Tryz.underlying4 _) trodAll_mk0)
    (fun sp hsp => trodAll_mk2 (WideElems.Trod_stays laidO (by kernel_rfl) (of_decide_eq_true (by kernel_rfl)) r0 (fun z hz => hbl.same (hlt z (by simp [hz]))) (fun z hz => hsp z (by simp [hz])))
      (WideElems.Trod_stays laidO (by kernel_rfl) (of_decide_eq_true (by kernel_rfl)) r1 (fun z hz => hbl.same (hlt z (by simp [hz]))) (fun z hz => hsp z (by simp [hz]))))
    (fun _ _ => rfl) (by simp) hbl (ok_one (by kernel_rfl) rfl (okWide_bool_mk Tryz.underlying4 _))⟩
set_option maxRecDepth 100000 in
theorem lifted (os : Os) (started : os.Started) (H : Type) (enc : TypeId × Value → H) (F : Stop.Interp) :
    ReturnsInHanded {} Tryz.checked os 4 .any ((Rows.OpenSpec.upto Rows.repoAmendsSpec).preRow enc Tryz.prog Tryz.f4 Rows.repoAmendsUptoRow.domain false Rows.repoAmendsUptoRow.laid) (((Rows.OpenSpec.upto Rows.repoAmendsSpec).at F).post enc Tryz.prog Tryz.f4 false true false false) := by
  obtain ⟨places, hx⟩ := reads os enc
  refine returnsInHanded_of_row (C := Tryz.checked) (s := Rows.OpenSpec.upto Rows.repoAmendsSpec) own started (by kernel_rfl) Tryz.func4
    (witness_row_at (enc := enc) (C := Tryz.checked) false (laidWorld os) #[zeroS, (.int .i64 0)] rfl (by kernel_rfl) (by kernel_rfl) (by kernel_rfl)
      (OpenSpec.preRow_of_cond 8 hx (by kernel_rfl) (fun k hk => by cases hk; kernel_rfl) (by kernel_rfl) (laid_met os _))) ?_
  intro W base args ds gs before hval hW _ hcond _ _ _ _
  exact contract H enc W base args ds gs before hval hW (hcond _ rfl)
theorem j1 : (Rows.repoAmendsUptoRow.inPlace == Tryz.pinned.checked.prog.inPlace 4) = true := by kernel_rfl
theorem j2 : (Rows.repoAmendsUptoRow.unfollowed == Tryz.pinned.checked.prog.unfollowed 4) = true := by kernel_rfl
theorem j3 : (Rows.repoAmendsUptoRow.recurses == Tryz.pinned.checked.prog.recurses 4) = true := by kernel_rfl
theorem j4 : (Rows.repoAmendsUptoRow.named == Tryz.pinned.checked.prog.varsNamed 4) = true := by kernel_rfl
theorem j5 : (Rows.repoAmendsUptoRow.lifted == Tryz.pinned.checked.prog.liftsFinal) = true := jLifts
set_option maxRecDepth 100000 in
theorem closed : joinedFacts Tryz.pinned.checked.prog 4 Tryz.f4 (Rows.OpenSpec.upto Rows.repoAmendsSpec).bare Rows.repoAmendsUptoRow = true := by
  unfold joinedFacts
  rw [jLaid, jMaps, jStops, jKnobs, j1, j2, j3, j4, jHeard, jEnter, j5]
  kernel_rfl
theorem said : Rows.RepoAmendsUptoSaid :=
  OpenClaim.holds_of_cond 4 Tryz.f4 rfl rfl rfl rfl rfl rfl rfl ⟨rfl, rfl, rfl, rfl, rfl⟩ rfl rfl rfl rfl rfl (by kernel_rfl) Tryz.func4 closed
    (of_decide_eq_true (by kernel_rfl)) (by unfold Func.isWrapper; first | (rw [if_pos (by decide +kernel)]; kernel_rfl) | (rw [if_neg (by decide +kernel)]; exact ⟨rfl, rfl⟩))
    (fun os started H enc _ F => by rw [OpenClaim.pre_eq_preRow]; exact lifted os started H enc F)
end repoAmends
end Go.Proofs.YtbhnolfcdcpbkaaGreatDoor.X
