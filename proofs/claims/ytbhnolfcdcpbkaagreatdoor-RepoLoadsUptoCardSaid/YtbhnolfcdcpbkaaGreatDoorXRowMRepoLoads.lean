/- OWN WORK: a part of the proof of a law of the seat YtbhnolfcdcpbkaaGreatDoor: the law: for every input of bulk at most 1048576 the law returns true, and the input reads as it did. -/
import Derived.Test.YtbhnolfcdcpbkaaGreatDoorXRowLH
import Derived.Test.YtbhnolfcdcpbkaaGreatDoorXGLF
import Derived.Test.YtbhnolfcdcpbkaaGreatDoorXRowLJ
set_option linter.unusedVariables false
set_option linter.unusedSimpArgs false
namespace Go.Proofs.YtbhnolfcdcpbkaaGreatDoor.X
open Go Go.RowKit Go.Proofs Go.Sx Go.ChangeShapes Go.WideShapes Go.ChangeAt Go.Lib
open YtbhnolfcdcpbkaaGreatDoor
theorem rotys : ROTys Tryz.prog 75 := ⟨⟨_, _, _, _, _, _, _, _, _, Tryz.underlying75, by kernel_rfl, by kernel_rfl, Tryz.underlying3, Tryz.underlying24, prtys, Tryz.underlying3, Tryz.underlying9, Tryz.underlying61, Tryz.underlying3, by kernel_rfl, Tryz.underlying73, Tryz.underlying9, by kernel_rfl⟩⟩
theorem ptys : PTys Tryz.prog 99 := ⟨⟨_, _, _, _, _, _, _, _, _, _, _, _, _, Tryz.underlying99, by kernel_rfl, by kernel_rfl, Tryz.underlying3, Tryz.underlying9, Tryz.underlying61, Tryz.underlying3, by kernel_rfl, Tryz.underlying24, Tryz.underlying101, by kernel_rfl, by kernel_rfl, Tryz.underlying3, Tryz.underlying9, Tryz.underlying9, Tryz.underlying3, Tryz.underlying73, Tryz.underlying73, Tryz.underlying9, by kernel_rfl⟩⟩
theorem shtys : SHTys Tryz.prog 33 := ⟨⟨_, _, _, Tryz.underlying33, by kernel_rfl, by kernel_rfl, Tryz.underlying9, Tryz.underlying24, prtys⟩⟩
theorem rstys : RSTys Tryz.prog 27 := ⟨⟨_, _, _, _, _, _, Tryz.underlying27, by kernel_rfl, by kernel_rfl, Tryz.underlying23, ptys, Tryz.underlying24, prtys, Tryz.underlying25, shtys⟩⟩
namespace repoLoads
theorem laid_met (os : Os) (args : Array Value) : laidMet Tryz.prog Rows.repoLoadsUptoRow.laid ((laidWorld os).forCall (fun _ _ => 0) ⟨#[], args, []⟩).memory :=
  (LaidIn.of_run (l := Rows.repoLoadsUptoRow.laid) [0, 1, 2, 4, 5] 8 (by kernel_rfl) (by kernel_rfl) (by kernel_rfl) (by kernel_rfl)).met
theorem reads (os : Os) {H : Type} (enc : TypeId × Value → H) : ∃ places, DataW.whole enc Tryz.prog ((laidWorld os).forCall (fun _ _ => 0) ⟨#[], #[zeroS, zeroS, (.agg #[.slice none 0 0, .slice none 0 0, .slice none 0 0])], []⟩).memory Tryz.f3.params.toList Rows.repoLoadsSpec.vars false #[zeroS, zeroS, (.agg #[.slice none 0 0, .slice none 0 0, .slice none 0 0])].toList 8 = some ([.nil, .nil, .agg [.nil, .nil, .nil]], [], places) :=
  ⟨[], by kernel_rfl⟩
set_option maxRecDepth 100000 in
theorem contract (H : Type) (enc : TypeId × Value → H) (W : World) (base : Nat) (args : Array Value) (ds gs : List (DataW H)) (before : List MemPlace)
    (hval : ∀ (j : Nat) t v, Tryz.f3.params[j]? = some t → args[j]? = some v → Value.okWide Tryz.prog W .any base t v)
    (hW : DataW.Whole enc Tryz.prog Tryz.f3.params.toList Rows.repoLoadsSpec.vars false W args.toList ds gs before) (hk : Rows.uptoSmall H (ds ++ gs) = true) :
    Calls Tryz.prog 3 args W fun e W' => ∃ v, e = .returned v ∧ Rows.repoLoadsSpec.post enc Tryz.prog Tryz.f3 false true false false W args v W' := by
  have hW' := hW
  obtain ⟨p, q, hA0, hV, rfl, hfz, hnd⟩ := hW
  have hA : DataW.TrodAll enc Tryz.prog W 0 (fun _ => true) true Tryz.f3.params.toList args.toList ds p := hA0
  rw [Tryz.params3] at hA hval
  obtain ⟨v0, v1, v2, d0, d1, d2, p0, p1, p2, rfl, rfl, rfl, r0, r1, r2⟩ := trodAll_three hA
  obtain ⟨rfl, rfl⟩ := trodVars_none hV
  clear hA0
  simp only [List.append_nil] at hW' hk
  obtain ⟨x0, y0, e0, g0, m0, cp0⟩ := open_rops (bulk H) (bulk_nil H) Tryz.underlying22 rotys (hval 0 22 v0 (by simp) (by simp)) r0
  have hm0 : x0.length + (x0.map ROp.many).sum ≤ Rows.uptoBulk d0 := m0
  obtain ⟨x1, y1, e1, g1, m1, c1⟩ := open_patches (bulk H) Tryz.underlying23 ptys (hval 1 23 v1 (by simp) (by simp)) r1
  have hm1 : x1.length + pmany x1 ≤ Rows.uptoBulk d1 := m1
  obtain ⟨x2, y2, e2, g2, m2⟩ := open_rs (bulk H) (bulk_nil H) rstys (hval 2 27 v2 (by simp) (by simp)) r2
  have hm2 : x2.many + 1 ≤ Rows.uptoBulk d2 := m2
  have hb : Rows.uptoBulkAll [d0, d1, d2] ≤ 1048576 := of_decide_eq_true hk
  simp only [Rows.uptoBulkAll] at hb
  have hlt : ∀ z ∈ p0 ++ p1 ++ p2, z.block < W.heap.size := fun z hz => hW'.lt z (by simpa using hz)
  have hc : Calls Tryz.prog 3 #[v0, v1, v2] W fun e w' => e = .returned (.bool true) ∧ Below W.heap.size W w' := by
    rw [e0, e1, e2]
    exact con_row (c_RepoLoads x0 y0.1 y0.2 (by omega) (fun o ho => rop_fit (by have := rop_mem ho; omega)) (rop_sa (by omega)) x1 y1.1 y1.2 (fun p hp => pfit_many (by have := pmany_mem hp; omega)) (by omega) (by omega) x2 y2 (rs_parts (s := x2) (by omega)).1.1 (rs_parts (s := x2) (by omega)).1.2.1 (rs_parts (s := x2) (by omega)).1.2.2 (rs_parts (s := x2) (by omega)).2.1.1 (rs_parts (s := x2) (by omega)).2.1.2.1 (rs_parts (s := x2) (by omega)).2.1.2.2 (rs_parts (s := x2) (by omega)).2.2.1 (rs_parts (s := x2) (by omega)).2.2.2) (fun a ha => by rcases List.mem_cons.1 ha with rfl | ha; exact g0; rcases List.mem_cons.1 ha with rfl | ha; exact g1; exact g2 a ha)
  refine hc.mono fun e W' ⟨he, hbl⟩ => ?_
  subst he
  exact ⟨_, rfl, post_of_below (pa := p0 ++ (p1 ++ p2)) (pv := []) hW' (fun _ _ _ => trodAll_cons_mk (shut_bool Tryz.underlying4 _) trodAll_mk0)
    (fun sp hsp => trodAll_mk3 (WideElems.Trod_stays laidO (by kernel_rfl) (of_decide_eq_true (by kernel_rfl)) r0 (fun z hz => hbl.same (hlt z (by simp [hz]))) (fun z hz => hsp z (by simp [hz])))
      (WideElems.Trod_stays laidO (by kernel_rfl) (of_decide_eq_true (by kernel_rfl)) r1 (fun z hz => hbl.same (hlt z (by simp [hz]))) (fun z hz => hsp z (by simp [hz])))
      (WideElems.Trod_stays laidO (by kernel_rfl) (of_decide_eq_true (by kernel_rfl)) r2 (fun z hz => hbl.same (hlt z (by simp [hz]))) (fun z hz => hsp z (by simp [hz]))))
    (fun _ _ => rfl) (by simp) hbl (ok_one (by kernel_rfl) rfl (okWide_bool_mk Tryz.underlying4 _))⟩
set_option maxRecDepth 100000 in
theorem lifted (os : Os) (started : os.Started) (H : Type) (enc : TypeId × Value → H) (F : Stop.Interp) :
    ReturnsInHanded {} Tryz.checked os 3 .any ((Rows.OpenSpec.upto Rows.repoLoadsSpec).preRow enc Tryz.prog Tryz.f3 Rows.repoLoadsUptoRow.domain false Rows.repoLoadsUptoRow.laid) (((Rows.OpenSpec.upto Rows.repoLoadsSpec).at F).post enc Tryz.prog Tryz.f3 false true false false) := by
  obtain ⟨places, hx⟩ := reads os enc
  refine returnsInHanded_of_row (C := Tryz.checked) (s := Rows.OpenSpec.upto Rows.repoLoadsSpec) own started (by kernel_rfl) Tryz.func3
    (witness_row_at (enc := enc) (C := Tryz.checked) false (laidWorld os) #[zeroS, zeroS, (.agg #[.slice none 0 0, .slice none 0 0, .slice none 0 0])] rfl (by kernel_rfl) (by kernel_rfl) (by kernel_rfl)
      (OpenSpec.preRow_of_cond 8 hx (by kernel_rfl) (fun k hk => by cases hk; kernel_rfl) (by kernel_rfl) (laid_met os _))) ?_
  intro W base args ds gs before hval hW _ hcond _ _ _ _
  exact contract H enc W base args ds gs before hval hW (hcond _ rfl)
theorem j1 : (Rows.repoLoadsUptoRow.inPlace == Tryz.pinned.checked.prog.inPlace 3) = true := by kernel_rfl
theorem j2 : (Rows.repoLoadsUptoRow.unfollowed == Tryz.pinned.checked.prog.unfollowed 3) = true := by kernel_rfl
theorem j3 : (Rows.repoLoadsUptoRow.recurses == Tryz.pinned.checked.prog.recurses 3) = true := by kernel_rfl
theorem j4 : (Rows.repoLoadsUptoRow.named == Tryz.pinned.checked.prog.varsNamed 3) = true := by kernel_rfl
theorem j5 : (Rows.repoLoadsUptoRow.lifted == Tryz.pinned.checked.prog.liftsFinal) = true := jLifts
set_option maxRecDepth 100000 in
theorem closed : joinedFacts Tryz.pinned.checked.prog 3 Tryz.f3 (Rows.OpenSpec.upto Rows.repoLoadsSpec).bare Rows.repoLoadsUptoRow = true := by
  unfold joinedFacts
  rw [jLaid, jMaps, jStops, jKnobs, j1, j2, j3, j4, jHeard, jEnter, j5]
  kernel_rfl
theorem said : Rows.RepoLoadsUptoSaid :=
  OpenClaim.holds_of_cond 3 Tryz.f3 rfl rfl rfl rfl rfl rfl rfl ⟨rfl, rfl, rfl, rfl, rfl⟩ rfl rfl rfl rfl rfl (by kernel_rfl) Tryz.func3 closed
    (of_decide_eq_true (by kernel_rfl)) (by unfold Func.isWrapper; first | (rw [if_pos (by decide +kernel)]; kernel_rfl) | (rw [if_neg (by decide +kernel)]; exact ⟨rfl, rfl⟩))
    (fun os started H enc _ F => by rw [OpenClaim.pre_eq_preRow]; exact lifted os started H enc F)
end repoLoads
end Go.Proofs.YtbhnolfcdcpbkaaGreatDoor.X
