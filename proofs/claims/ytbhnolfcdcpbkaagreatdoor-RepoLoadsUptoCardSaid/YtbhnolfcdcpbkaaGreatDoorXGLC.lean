/- OWN WORK: a part of the proof of a law of the seat YtbhnolfcdcpbkaaGreatDoor: the rules by which the code is walked, what the functions compute, and the walk through them. -/
import Derived.Test.YtbhnolfcdcpbkaaGreatDoorXGLB
import Derived.Test.YtbhnolfcdcpbkaaGreatDoorProg
import Derived.Lib.AppendStr
import Derived.Lib.UnsafeStr
import Derived.Lib.Builder
import Derived.Lib.ItoaNum
import Derived.Test.YtbhnolfcdcpbkaaGreatDoorXGLA
set_option linter.unusedVariables false
set_option linter.unusedSimpArgs false
section
namespace Go.Proofs.YtbhnolfcdcpbkaaGreatDoor.X
set_option maxRecDepth 100000
open Go Go.RowKit Go.Proofs Go.Sx
open Tryz
attribute [local irreducible] slA isA box row TrL TrC TrN TrA Pu OpR
set_option maxHeartbeats 8000000
theorem app3 {α : Type} (a : List α) (b : α) (d e : List α) : (a ++ b :: d) ++ e = a ++ b :: (d ++ e) := by simp
theorem app_len3 {a d : List File} {x y : File} {m k : Nat} (h1 : a.length ≤ m) (h2 : d.length ≤ m) (hm : m ≤ 2000000) (hk : k ≤ 100) : ((a ++ x :: d).length + [y].length) * k ≤ 140737488355328 := by
 refine Nat.le_trans (Nat.mul_le_mul (n₂ := 4000002) ?_ hk) (by decide);rw [List.length_append, List.length_cons, List.length_singleton];omega
theorem inf149 : (Tryz.prog.info? 149).map (fun i => (i.zero, i.size, i.bytes)) = some (some (.agg #[.string ⟨#[]⟩, .slice none 0 0]), 2, 40) := by kernel_rfl
theorem c_rGet (T : List File) (A : Option Addr) (c : Nat) (hn : T.length ≤ 2000000) (u : ByteArray) : Con Tryz.prog 149 [.slice A T.length c, .string u] [] [slA A T] (Option Addr × Nat) (fun y => .tuple #[.slice y.1 (getL T u).length y.2, .bool (hasT T u)]) (fun _ => []) (fun y => [slA y.1 (getL T u), nilA y, capA y.2 (getL T u).length]) := by
 refine con func149 rfl ntmps149 rfl ?_;intro M0 F0 w0;refine k_ 13 ?_;refine cl (ι := {q : Nat // q ≤ T.length ∧ getT (T.take q) u = none}) (fun i => St M0 F0 w0 25 [(0, .slice A T.length c), (1, .string u), (6, .int .i64 (i.1 : Int))] [] [slA A T]) (fun i => T.length - i.1) ⟨0, Nat.zero_le _, rfl⟩ (wk0 Φ Ω) ?_;rintro ⟨k, hk, hg⟩;refine cmono (S' := St M0 F0 w0 25 [(0, .slice A T.length c), (1, .string u), (6, .int .i64 (k : Int))] [] [slA A T]) Ħ ?_;refine k_ 9 ?_;refine cc rfl ?_ ?_
 ·intro h10;(try dsimp only at hk hg);(try simp only [nrmZ] at h10);have hk1 : k < T.length := (by omega);refine k_ 5 ?_;refine elC Θ k (List.getElem?_eq_getElem (l := T) hk1) ?_; rintro zbp zop zyp hAp;refine k_ 3 ?_;refine ls (op (p_ia k hAp hk1 rfl underlying85 sizeOf149 rfl rfl) rfl) ?_;refine k_ 1 ?_;refine ls (o_ldi isAgg9 rfl Θ 0 rfl Δ rfl) ?_;refine k_ 4 ?_;refine cc rfl ?_ ?_
  ·intro h19;(try simp only [nrmZ] at h19);have hgt := getT_at hk1 hg h19;have hl : getL T u = T[k].2 := (by simp [getL, hgt]);have hh : hasT T u = true := (by simp [hasT, hgt]);refine k_ 4 ?_;refine ls (op (p_ia k hAp hk1 rfl underlying85 sizeOf149 rfl rfl) rfl) ?_;refine k_ 1 ?_;refine ls (o_ldi isAgg73 rfl Θ 1 rfl Δ rfl) ?_;refine k_ 6 ?_;rw [hl, hh];exact rR [] zyp
  ·intro h19;(try simp only [nrmZ] at h19);have hg2 := getT_take hk1 hg;rw [if_neg h19] at hg2;refine k_ 8 ?_;refine nnext ⟨k + 1, hk1, hg2⟩ (by dsimp only; omega) (wk0 Φ Ω)
 ·intro h10;(try dsimp only at hk hg);(try simp only [nrmZ] at h10);rw [List.take_of_length_le (by omega)] at hg;refine k_ 6 ?_;have hl : getL T u = [] := (by simp [getL, hg]);have hh : hasT T u = false := (by simp [hasT, hg]);refine cmono (fun a w h => nilN h) ?_;refine k_ 7 ?_;rw [hl, hh];exact rR [] (none, 0)
theorem c_rWithout (T : List File) (A : Option Addr) (c : Nat) (hn : T.length ≤ 2000000) (u : ByteArray) : Con Tryz.prog 188 [.slice A T.length c, .string u] [] [slA A T] (Option Addr × Nat) (fun y => .slice y.1 (delT T u).length y.2) (fun _ => []) (fun y => [slA y.1 (delT T u), nilA y]) := by
 refine con func188 rfl ntmps188 rfl ?_;intro M0 F0 w0;refine k_ 12 ?_;refine cmono (fun a w h => nilRow (α := File) 149 h) ?_;refine k_ 5 ?_;refine cl (ι := {q : Nat × Option Addr × Nat // q.1 ≤ T.length}) (fun i => St M0 F0 w0 28 [(0, .slice A T.length c), (1, .string u), (6, .int .i64 (i.1.1 : Int)), (5, .slice i.1.2.1 (delT (T.take i.1.1) u).length i.1.2.2)] [row 149 (i.1.2.1) (i.1.2.2) (delT (T.take i.1.1) u)] [slA A T]) (fun i => T.length - i.1.1) ⟨(0, none, 0), Nat.zero_le _⟩ (wk0 Φ Ω) ?_;rintro ⟨⟨k, A2, c2⟩, hk⟩;refine cmono (S' := St M0 F0 w0 28 [(0, .slice A T.length c), (1, .string u), (6, .int .i64 (k : Int)), (5, .slice A2 (delT (T.take k) u).length c2)] [row 149 (A2) (c2) (delT (T.take k) u)] [slA A T]) Ħ ?_;refine k_ 9 ?_;refine cc rfl ?_ ?_
 ·intro h10;dsimp only at hk;(try simp only [nrmZ] at h10);have hk1 : k < T.length := (by omega);have hde := delT_succ (k := u) hk1;have hdl : (delT (T.take k) u).length ≤ T.length := Nat.le_trans (List.length_filter_le _ _) (by rw [List.length_take]; omega);refine k_ 5 ?_;refine elC Θ k (List.getElem?_eq_getElem (l := T) hk1) ?_; rintro zbp zop zyp hAp;refine k_ 3 ?_;refine ls (op (p_ia k hAp hk1 rfl underlying85 sizeOf149 rfl rfl) rfl) ?_;refine k_ 1 ?_;refine ls (o_ldi isAgg9 rfl Θ 0 rfl Δ rfl) ?_;refine k_ 4 ?_;refine cc rfl ?_ ?_
  ·intro h19;have h20 : ¬ T[k].1 = u := (by simpa using h19);rw [if_neg h20] at hde;refine k_ 4 ?_;refine ls (op (p_ia k hAp hk1 rfl underlying85 sizeOf149 rfl rfl) rfl) ?_;refine ls (o_ldj isAgg149 sizeOf149 rfl Θ 0 rfl Δ rfl) ?_;refine ls (o_bsl [T[k]] underlying85 sizeOf149 zeroValue149 rfl (Enum.t Enum.d) (RV.t zyp rfl Ω RV.d) rfl (by decide) (by decide) rfl) ?_;refine le ?_; intro b25;refine lmono (fun a w h => Go.Sx.freeze (i := 0) rfl h) ?_;refine ls (o_app (is := [0]) underlying85 inf149 rfl (by decide) (by decide) rfl rfl (by simp only [List.length_cons, List.length_nil]; omega) (fun h => by cases h) rfl Ω rfl) ?_;refine le ?_; rintro ⟨A3, c3⟩;rw [← hde];refine k_ 9 ?_;refine nnext ⟨(k + 1, A3, c3), hk1⟩ (by dsimp only; omega) (wK [0])
  ·intro h19;have h20 : T[k].1 = u := (by simpa using h19);rw [if_pos h20, List.append_nil] at hde;refine k_ 8 ?_;rw [← hde];refine nnext ⟨(k + 1, A2, c2), hk1⟩ (by dsimp only; omega) (wK [0])
 ·intro h10;dsimp only at hk;(try simp only [nrmZ] at h10);rw [List.take_of_length_le (by omega)];refine k_ 6 ?_;refine cmono (fun a w h => freezeN (i := 0) rfl h) ?_;refine k_ 7 ?_;exact rR [] (A2, c2)
theorem c_rWith (T : List File) (A : Option Addr) (c : Nat) (hn : T.length ≤ 2000000) (u : ByteArray) (l : List ByteArray) (B : Option Addr) (c' : Nat) : Con Tryz.prog 187 [.slice A T.length c, .string u, .slice B l.length c'] [] [slA A T, slA B l, nilA (B, c'), capA c' l.length] (Option Addr × Nat) (fun y => .slice y.1 (putT T u l).length y.2) (fun _ => []) (fun y => [slA y.1 (putT T u l), nilA y]) := by
 refine con func187 rfl ntmps187 rfl ?_;intro M0 F0 w0;refine k_ 14 ?_;refine lC [] call188 (c_rWithout T A c hn u) ?_; rintro ⟨A1, c1⟩;refine k_ 5 ?_;have hD1 : (delT T u).length ≤ T.length := List.length_filter_le _ _;have hput : putT T u l = (delT T u).filter (fun x => decide (kl x.1 u)) ++ (u, l) :: (delT T u).filter (fun x => decide (kl u x.1)) := rfl;rw [hput];generalize delT T u = D at *;refine cmono (fun a w h => nilRow (α := File) 149 h) ?_;refine k_ 5 ?_;refine cl (ι := {q : Nat × Option Addr × Nat // q.1 ≤ D.length}) (fun i => St M0 F0 w0 61 [(1, .string u), (2, .slice B l.length c'), (8, .slice A1 D.length c1), (9, .int .i64 (i.1.1 : Int)), (7, .slice i.1.2.1 ((D.take i.1.1).filter (fun x => decide (kl x.1 u))).length i.1.2.2)] [row 149 (i.1.2.1) (i.1.2.2) ((D.take i.1.1).filter (fun x => decide (kl x.1 u)))] [slA A1 D, slA B l, nilA (B, c'), capA c' l.length]) (fun i => D.length - i.1.1) ⟨(0, none, 0), Nat.zero_le _⟩ (wk0 Φ Ω) ?_;rintro ⟨⟨k, A2, c2⟩, hk⟩;refine cmono (S' := St M0 F0 w0 61 [(1, .string u), (2, .slice B l.length c'), (8, .slice A1 D.length c1), (9, .int .i64 (k : Int)), (7, .slice A2 ((D.take k).filter (fun x => decide (kl x.1 u))).length c2)] [row 149 (A2) (c2) ((D.take k).filter (fun x => decide (kl x.1 u)))] [slA A1 D, slA B l, nilA (B, c'), capA c' l.length]) Ħ ?_;refine k_ 9 ?_;refine cc rfl ?_ ?_
 ·intro h17;dsimp only at hk;(try simp only [nrmZ] at h17);have hk1 : k < D.length := (by omega);have hde := filt_succ (p := fun x => decide (kl x.1 u)) hk1;have hdl : ((D.take k).filter (fun x => decide (kl x.1 u))).length ≤ D.length := Nat.le_trans (List.length_filter_le _ _) (by rw [List.length_take]; omega);refine k_ 5 ?_;refine elC Θ k (List.getElem?_eq_getElem (l := D) hk1) ?_; rintro zbp zop zyp hAp;refine k_ 3 ?_;refine ls (op (p_ia k hAp hk1 rfl underlying85 sizeOf149 rfl rfl) rfl) ?_;refine k_ 1 ?_;refine ls (o_ldi isAgg9 rfl Θ 0 rfl Δ rfl) ?_;refine k_ 1 ?_;refine ls (op (p_slt rfl rfl) rfl) ?_;refine k_ 2 ?_;refine cc rfl ?_ ?_
  ·intro h26;have h27 : decide (kl D[k].1 u) = true := (by rw [less_kl] at h26; exact h26);rw [if_pos h27] at hde;refine k_ 4 ?_;refine ls (op (p_ia k hAp hk1 rfl underlying85 sizeOf149 rfl rfl) rfl) ?_;refine ls (o_ldj isAgg149 sizeOf149 rfl Θ 0 rfl Δ rfl) ?_;refine ls (o_bsl [D[k]] underlying85 sizeOf149 zeroValue149 rfl (Enum.t Enum.d) (RV.t zyp rfl Ω RV.d) rfl (by decide) (by decide) rfl) ?_;refine le ?_; intro b32;refine lmono (fun a w h => Go.Sx.freeze (i := 0) rfl h) ?_;refine ls (o_app (is := [0]) underlying85 inf149 rfl (by decide) (by decide) rfl rfl (by simp only [List.length_cons, List.length_nil]; omega) (fun h => by cases h) rfl Ω rfl) ?_;refine le ?_; rintro ⟨A3, c3⟩;rw [← hde];refine k_ 9 ?_;refine nnext ⟨(k + 1, A3, c3), hk1⟩ (by dsimp only; omega) (wK [0])
  ·intro h26;have h27 : ¬ decide (kl D[k].1 u) = true := (by rw [less_kl] at h26; rw [h26]; decide);rw [if_neg h27, List.append_nil] at hde;refine k_ 8 ?_;rw [← hde];refine nnext ⟨(k + 1, A2, c2), hk1⟩ (by dsimp only; omega) (wK [0])
 ·intro h17;dsimp only at hk;(try simp only [nrmZ] at h17);rw [List.take_of_length_le (by omega)];have hd2 : (D.filter (fun x => decide (kl x.1 u))).length ≤ D.length := List.length_filter_le _ _;refine k_ 11 ?_;refine ls (o_bsl [((u, l) : File)] underlying85 sizeOf149 zeroValue149 rfl (Enum.t Enum.d) (RV.t (B, c') rfl Ω RV.d) rfl (by decide) (by decide) rfl) ?_;refine le ?_; intro b38;refine lmono (fun a w h => Go.Sx.freeze (i := 0) rfl h) ?_;refine ls (o_app (is := [0]) underlying85 inf149 rfl (by decide) (by decide) rfl rfl (by simp only [List.length_cons, List.length_nil]; omega) (fun h => by cases h) rfl Ω rfl) ?_;refine le ?_; rintro ⟨A4, c4⟩;refine k_ 10 ?_;refine cl (ι := {q : Nat × Option Addr × Nat // q.1 ≤ D.length}) (fun i => St M0 F0 w0 61 [(1, .string u), (8, .slice A1 D.length c1), (10, .int .i64 (i.1.1 : Int)), (7, .slice i.1.2.1 (D.filter (fun x => decide (kl x.1 u)) ++ (u, l) :: (D.take i.1.1).filter (fun x => decide (kl u x.1))).length i.1.2.2)] [row 149 (i.1.2.1) (i.1.2.2) (D.filter (fun x => decide (kl x.1 u)) ++ (u, l) :: (D.take i.1.1).filter (fun x => decide (kl u x.1)))] [slA A1 D]) (fun i => D.length - i.1.1) ⟨(0, A4, c4), Nat.zero_le _⟩ (wk0 Φ Ω) ?_;rintro ⟨⟨j, A5, c5⟩, hj⟩;refine cmono (S' := St M0 F0 w0 61 [(1, .string u), (8, .slice A1 D.length c1), (10, .int .i64 (j : Int)), (7, .slice A5 (D.filter (fun x => decide (kl x.1 u)) ++ (u, l) :: (D.take j).filter (fun x => decide (kl u x.1))).length c5)] [row 149 (A5) (c5) (D.filter (fun x => decide (kl x.1 u)) ++ (u, l) :: (D.take j).filter (fun x => decide (kl u x.1)))] [slA A1 D]) Ħ ?_;refine k_ 9 ?_;refine cc rfl ?_ ?_
  ·intro h43;dsimp only at hj;(try simp only [nrmZ] at h43);have hj1 : j < D.length := (by omega);have hdf := filt_succ (p := fun x => decide (kl u x.1)) hj1;have hdl2 : ((D.take j).filter (fun x => decide (kl u x.1))).length ≤ D.length := Nat.le_trans (List.length_filter_le _ _) (by rw [List.length_take]; omega);refine k_ 5 ?_;refine elC Θ j (List.getElem?_eq_getElem (l := D) hj1) ?_; rintro zbq zoq zyq hAq;refine k_ 3 ?_;refine ls (op (p_ia j hAq hj1 rfl underlying85 sizeOf149 rfl rfl) rfl) ?_;refine k_ 1 ?_;refine ls (o_ldi isAgg9 rfl Θ 0 rfl Δ rfl) ?_;refine k_ 1 ?_;refine ls (op (p_sgt rfl rfl) rfl) ?_;refine k_ 2 ?_;refine cc rfl ?_ ?_
   ·intro h52;have h53 : decide (kl u D[j].1) = true := (by rw [more_kl] at h52; exact h52);rw [if_pos h53] at hdf;refine k_ 4 ?_;refine ls (op (p_ia j hAq hj1 rfl underlying85 sizeOf149 rfl rfl) rfl) ?_;refine ls (o_ldj isAgg149 sizeOf149 rfl Θ 0 rfl Δ rfl) ?_;refine ls (o_bsl [D[j]] underlying85 sizeOf149 zeroValue149 rfl (Enum.t Enum.d) (RV.t zyq rfl Ω RV.d) rfl (by decide) (by decide) rfl) ?_;refine le ?_; intro b58;refine lmono (fun a w h => Go.Sx.freeze (i := 0) rfl h) ?_;refine ls (o_app (is := [0]) underlying85 inf149 rfl (by decide) (by decide) rfl rfl (app_len3 (m := D.length) hd2 hdl2 (by omega) (by decide)) (fun h => by cases h) rfl Ω rfl) ?_;refine le ?_; rintro ⟨A6, c6⟩;rw [app3, ← hdf];refine k_ 9 ?_;refine nnext ⟨(j + 1, A6, c6), hj1⟩ (by dsimp only; omega) (wK [0])
   ·intro h52;have h53 : ¬ decide (kl u D[j].1) = true := (by rw [more_kl] at h52; rw [h52]; decide);rw [if_neg h53, List.append_nil] at hdf;refine k_ 8 ?_;rw [← hdf];refine nnext ⟨(j + 1, A5, c5), hj1⟩ (by dsimp only; omega) (wK [0])
  ·intro h43;dsimp only at hj;(try simp only [nrmZ] at h43);rw [List.take_of_length_le (by omega)];refine k_ 6 ?_;refine cmono (fun a w h => freezeN (i := 0) rfl h) ?_;refine k_ 7 ?_;exact rR [] (A5, c5)
end Go.Proofs.YtbhnolfcdcpbkaaGreatDoor.X
end
section
namespace Go.Proofs.YtbhnolfcdcpbkaaGreatDoor.X
open Go Go.RowKit Go.Proofs Go.Sx
attribute [local irreducible] slA isA box row TrL TrC TrN TrA Pu OpR
set_option maxHeartbeats 8000000
end Go.Proofs.YtbhnolfcdcpbkaaGreatDoor.X
end
section
namespace Go.Sx
open Go Go.RowKit
/-! Texts that are built of pieces. -/
instance instRpByte : Rp UInt8 where
 Lay := Unit
 size := 1
 enc x _ := [.int .u8 (x.toNat : Int)]
 len _ _ := rfl
 one _ _ v hv := by
  simp only [List.mem_cons, List.mem_nil_iff, or_false] at hv;subst hv; rfl
 asn _ _ := []
theorem rowE_bytes {M : Nat → Prop} {w : World} : ∀ {l : List UInt8} {xs : List Value}, RowE M w l xs → xs = Lib.byteCells l
 | _, _, .nil => rfl
 | _, _, .snoc y h _ => by
  rw [rowE_bytes h]; simp [Rp.enc, Lib.byteCells]
theorem bytes_rowE {M : Nat → Prop} {w : World} (l : List UInt8) : RowE M w l (Lib.byteCells l) := by
 have : ∀ (r : List UInt8), RowE M w r.reverse (Lib.byteCells r.reverse) := by
  intro r
  induction r with
  | nil => exact .nil
  | cons x r ih =>
   simp only [List.reverse_cons, Lib.byteCells, List.map_append, List.map_cons, List.map_nil];exact .snoc () ih (fun p hp => by cases hp)
 simpa using this l.reverse
theorem strCells_ofB (s : ByteArray) : Lib.strCells s = Lib.byteCells (ofB s) := rfl
theorem ofB_length (s : ByteArray) : (ofB s).length = s.size := Array.length_toList
section
variable {ro : Option Nat} {P : Program} {M0 F0 : Nat → Prop} {w0 : World} {n : Nm} {σ : List (Nat × Value)} {Ξ : List Xsn} {Γ : List Asn} {d : Nat} {ty : TypeId} {pos : String} {af : Array Edge}
variable {ops : Array Oper} {Q : Exit → Act → World → Prop} {S S' : Act → World → Prop}
theorem p_cat {T : World → Prop} {x y : Operand} {t t' : TypeId} {s u : ByteArray} (hx : ev σ x = some (.string s)) (hy : ev σ y = some (.string u)) (hb : s.size + u.size ≤ 9223372036854775807) : Pu P n σ T ⟨some d, .binOp .add t x y t', ty, pos, af, none⟩ (.string (s ++ u)) :=
 fun a hs w _ => by
  have h1 : ¬ ((s.size + u.size : Nat) : Int) > IntKind.i64.max := by
   have : IntKind.i64.max = 9223372036854775807 := rfl;omega
  simp only [execOp, hs.ev hx, hs.ev hy, eqGuard_add, binOp, Op.stringOp, Sem.run_bind, Sem.run_pure, Result.andThen_ok];rw [if_neg h1]
  rfl
theorem loc_appS {t u e ty' : TypeId} (ht : P.underlying t = some (.slice e)) (hu : P.underlying u = some .string) (hinfo : (P.info? e).map (fun i => (i.zero, i.size, i.bytes)) = some (some (.int .u8 0), 1, 1))
  (A : Option Addr) (c : Nat) (l : List UInt8) (s : ByteArray) (hl : l.length + s.size ≤ 140737488355328) :
  Loc P (fun w => (Builtin.append_ #[t, u] ty' #[.slice A l.length c, .string s]).run P w) [row e A c l] [] {y : Option Addr × Nat // (l ++ ofB s = [] → A = none → y.1 = none)} (fun y => .slice y.1.1 (l ++ ofB s).length y.1.2) (fun y => [row e y.1.1 y.1.2 (l ++ ofB s)]) (fun _ => []) := by
 obtain ⟨i0, hi, hz0, hz1, hz2⟩ := info_parts hinfo;intro M0 Fs w hh;obtain ⟨F, rfl, xs, ho, hF, hr⟩ := hh.one_of;have hxs := rowE_bytes hr;subst hxs;obtain ⟨v', w', h1, h2, h3, h5⟩ := Lib.run_append_own_string (P := P) w 0 t u ty' e i0 ht hu hi hz0 hz1 hz2 _ l.length _ ho s (by simp only [maxLen]; omega) hl (Nat.zero_le _);have hlen : (l ++ ofB s).length = l.length + s.size := by rw [List.length_append, ofB_length]
 obtain ⟨A', c2, rfl⟩ : ∃ A' c2, v' = .slice A' (l.length + s.size) c2 := by
  rcases h2.2 with ⟨rfl, h0⟩ | ⟨g, cap, cur, rfl, _⟩
  ·exact ⟨none, 0, by rw [h0]⟩
  ·exact ⟨_, cap, rfl⟩
 have h4 : (Value.slice A' (l.length + s.size) c2).ownBlock = (Value.slice A l.length c).ownBlock ∨ (Value.slice A' (l.length + s.size) c2).ownBlock = some w.heap.size := by
  rcases ho.2 with ⟨hv, hl0⟩ | ⟨g, cap, cur, hv, hbg, hg, hnc, hcm, hcs, htake⟩
  ·rw [hv] at h1 h5 ⊢
   by_cases hm : s.size = 0
   ·have := h5.2 ⟨rfl, hm⟩;rw [this]; exact .inl rfl
   ·have hr' := run_append_nil_string (P := P) w t u ty' e i0 (.int .u8 0) ht hu hi hz0 s (by omega) (by omega) (by rw [hz2]; omega);rw [h1] at hr'
    injection hr' with hr' _
    rw [hr']; exact .inr rfl
  ·rw [hv] at h1 ⊢
   by_cases hroom : l.length + s.size ≤ cap
   ·have hcs' : cur.size = cap := by have h1 : Rp.size UInt8 = 1 := rfl; rw [h1] at hcs; simpa using hcs
    have hr' := Lib.run_append_room_string (P := P) w t u ty' e i0 ht hu hi hz1 g l.length cap cur hg s hroom (by omega);rw [h1] at hr'
    injection hr' with hr' _
    rw [hr']; exact .inl rfl
   ·have holds : ∀ j u, (Lib.byteCells l)[j]? = some u → w.cell? ((⟨g, 0, none⟩ : Addr).add j) = some u := ho.cells (g := g) (by rw [hv]; rfl);have hxl : (Lib.byteCells l).length = l.length := Lib.byteCells_length l;have hr' := Lib.run_append_grow_string (P := P) w t u ty' e i0 (.int .u8 0) ht hu hi hz0 ⟨g, 0, none⟩ l.length cap (Lib.byteCells l) (by rw [hz1]; simpa using hxl) holds s (by omega) (by omega) (by rw [hz2]; exact growslice_fits (by omega) (by omega));rw [h1] at hr'
    injection hr' with hr' _
    rw [hr']; exact .inr rfl
 have hown : ∀ b, own [F] b ↔ F b := fun b => by simp [own]
 have hup : Upd F w w' := ⟨h3.os, h3.tape, h3.output, h3.size, fun b hb hn => h3.block b hb (fun e' => hn ((hF b).2 e'.symm))⟩;have hF' : ∀ b, (Value.slice A' (l.length + s.size) c2).ownBlock = some b → F b ∨ w.heap.size ≤ b := by
  intro b hb;rcases h4 with h | h
  ·rw [h] at hb; exact .inl ((hF b).2 hb)
  ·rw [h] at hb; cases hb; exact .inr (Nat.le_refl _)
 have hlt' : ∀ b, (Value.slice A' (l.length + s.size) c2).ownBlock = some b → b < w'.heap.size := by
  intro b hb;rcases h2.2 with ⟨h, _⟩ | ⟨g, cap, cur, h, _, hg, _⟩
  ·rw [h] at hb; simp [Value.ownBlock] at hb
  ·rw [h] at hb; simp [Value.ownBlock] at hb; subst hb; exact (Array.getElem?_eq_some_iff.1 hg).1
 have hnil : l ++ ofB s = [] → A = none → A' = none := by
  intro e1 e2;have hl1 := congrArg List.length e1;rw [hlen, List.length_nil] at hl1;have hl0 : l.length = 0 := by omega
  have hs0 : s.size = 0 := by omega
  have hc0 : c = 0 := by
   rcases ho.2 with ⟨hv, _⟩ | ⟨g, cap, cur, hv, _⟩
   ·injection hv
   ·rw [e2] at hv; injection hv with hv; cases hv
  have := h5.2 ⟨by rw [e2, hl0, hc0], hs0⟩
  injection this
 refine ⟨⟨(A', c2), hnil⟩, [fun b => (Value.slice A' (l.length + s.size) c2).ownBlock = some b], w', ?_, hh.one hup hF' hlt' ⟨Lib.byteCells l ++ Lib.strCells s, ?_, ?_, ?_⟩⟩
 ·show (Builtin.append_ #[t, u] ty' #[.slice A l.length c, .string s]).run P w = _;rw [h1, hlen]
 ·rw [hlen]; exact h2
 ·intro x; rw [hlen]
 ·rw [strCells_ofB, show Lib.byteCells l ++ Lib.byteCells (ofB s) = Lib.byteCells (l ++ ofB s) by simp [Lib.byteCells]];exact bytes_rowE _
theorem o_appS {x y : Operand} {t u e : TypeId} {A : Option Addr} {c : Nat} {l : List UInt8} {s : ByteArray} {i : Nat} {Ξ' : List Xsn} (ht : P.underlying t = some (.slice e)) (hu : P.underlying u = some .string) (hinfo : (P.info? e).map (fun i => (i.zero, i.size, i.bytes)) = some (some (.int .u8 0), 1, 1))
  (hx : ev σ x = some (.slice A l.length c)) (hy : ev σ y = some (.string s)) (hl : l.length + s.size ≤ 140737488355328) (hs : takeAll [i] Ξ = some ([row e A c l], Ξ')) (hd : Nat.blt d n.n = true) :
  OpR P ⟨some d, .call ⟨.builtin .append, #[x, y], #[t, u]⟩, ty, pos, af, none⟩ (St M0 F0 w0 n σ Ξ Γ) (fun a w => ∃ q : {y : Option Addr × Nat // (l ++ ofB s = [] → A = none → y.1 = none)}, St M0 F0 w0 n ((d, .slice q.1.1 (l ++ ofB s).length q.1.2) :: σ) (row e q.1.1 q.1.2 (l ++ ofB s) :: Ξ') Γ a w) := by
 refine (o_loc (Γi := []) (loc_appS (P := P) (ty' := ty) ht hu hinfo A c l s hl) ?_ hs .d hd).mono fun a w h => h;intro a hsl w v w' hr;have h1 := hsl.ev hx;have h2 := hsl.ev hy;have hm : (#[x, y] : Array Operand).map a.eval = #[.slice A l.length c, .string s] := by simp [h1, h2]
 simp only [execOp, resolve, invoke, builtin, hm];simp [hr]
theorem loc_ustr {pt it ty' e : TypeId} (hp : P.underlying pt = some (.pointer e)) (hc : P.cellsOf e = 1) (g c : Nat) (l : List UInt8) (h0 : l ≠ []) (hl : l.length ≤ 140737488355328) :
  Loc P (fun w => (Builtin.unsafeString_ #[pt, it] ty' #[.pointer (some ⟨g, 0, none⟩), .int .i64 l.length]).run P w) [row e (some ⟨g, 0, none⟩) c l] [] Unit (fun _ => .string (toB l)) (fun _ => []) (fun _ => []) := by
 intro M0 Fs w hh;obtain ⟨F, rfl, xs, ho, hF, hr⟩ := hh.one_of;have hxs := rowE_bytes hr;subst hxs;rcases ho.2 with ⟨hv, _⟩ | ⟨g', cap, cur, hv, hbg, hg, hnc, hcm, hcs, htake⟩
 ·injection hv with hv; cases hv
 ·injection hv with hv _ _
  injection hv with hv
  injection hv with hv _ _
  subst hv;have hcs' : cur.size = cap := by
   have h1 : Rp.size UInt8 = 1 := rfl;rw [h1] at hcs; simpa using hcs
  have hrun := Lib.run_unsafeString_row w pt it ty' e hp hc g cur.size (by simp [World.shape?, hg]) l h0 (by omega) (by omega) (fun j x hx => ho.cells (g := g) rfl j (.int .u8 x.toNat) (by simp [Lib.byteCells, hx]));have hl0 : l.length ≠ 0 := by simpa using h0
  have hfr : ∀ k, k ≠ g → (w.freeze ⟨g, 0, none⟩ l.length).heap[k]? = w.heap[k]? := fun k hk => by
   unfold World.freeze;rw [if_neg hl0];simp only [Array.getElem?_modify];rw [if_neg (fun e => hk e.symm)]
  have hsz : (w.freeze ⟨g, 0, none⟩ l.length).heap.size = w.heap.size := by
   unfold World.freeze;rw [if_neg hl0]; simp
  have hos : (w.freeze ⟨g, 0, none⟩ l.length).os = w.os ∧ (w.freeze ⟨g, 0, none⟩ l.length).tape = w.tape ∧ (w.freeze ⟨g, 0, none⟩ l.length).output = w.output := by
   unfold World.freeze;rw [if_neg hl0]; exact ⟨rfl, rfl, rfl⟩
  refine ⟨(), [], w.freeze ⟨g, 0, none⟩ l.length, hrun, trivial, .nil, fun b hb => absurd hb (own_nil b), fun b hb => absurd hb (own_nil b), fun b hb => absurd hb (own_nil b), (fun p hp => by cases hp), ⟨hos.1, hos.2.1, hos.2.2, Nat.le_of_eq hsz.symm, fun k _ hk => hfr k fun e => hk ?_⟩, hh.m0, hh.f0⟩;subst e;exact ⟨F, by simp, (hF k).2 rfl⟩
end
end Go.Sx
end
section
namespace Go.Sx
open Go Go.RowKit
section
variable {ro : Option Nat} {P : Program} {M0 F0 : Nat → Prop} {w0 : World} {n : Nm} {σ : List (Nat × Value)} {Ξ : List Xsn} {Γ : List Asn} {d : Nat} {ty : TypeId} {pos : String} {af : Array Edge}
variable {ops : Array Oper} {Q : Exit → Act → World → Prop} {S S' : Act → World → Prop}
theorem p_ptrnil0 {T : World → Prop} {x y : Operand} {t e t' : TypeId} (ht : P.underlying t = some (.pointer e)) (hx : ev σ x = some (.pointer none)) (hy : ev σ y = some (.pointer none)) :
  Pu P n σ T ⟨some d, .binOp .eql t x y t', ty, pos, af, none⟩ (.bool true) := fun b hs w _ => by
 have h1 : ∀ k : Nat, (Op.equalIn (k + 1) t (.pointer none) (.pointer none)).run P w = .ok true w := fun k => by
  simp [Op.equalIn, run_underlying ht]
 have h2 : (Op.equal t (.pointer none) (.pointer none)).run P w = .ok true w := h1 9999;simp [execOp, hs.ev hx, hs.ev hy, eqGuard_at_pointer, binOp, h2]
theorem p_ptrneS {T : World → Prop} {x y : Operand} {t e t' : TypeId} {j : TypeInfo} {a : Addr} (ht : P.underlying t = some (.pointer e)) (he : P.info? e = some j) (hx : ev σ x = some (.pointer (some a))) (hy : ev σ y = some (.pointer (some a))) :
  Pu P n σ T ⟨some d, .binOp .neq t x y t', ty, pos, af, none⟩ (.bool false) := fun b hs w _ => by
 simp [execOp, hs.ev hx, hs.ev hy, eqGuard_at_pointer, Lib.run_neq_ptr_same w a ht he]
theorem o_tou {x : Operand} {src dst t bt : TypeId} {j : TypeInfo} {i b : Nat} {cs : List Value} (hs : P.underlying src = some (.pointer t)) (hdt : P.underlying dst = some .unsafePointer) (ht : P.info? t = some j) (hj : j.size ≠ 0)
  (hx : ev σ x = some (.pointer (some ⟨b, 0, none⟩))) (hi : At (box b bt cs) i Ξ) (hl : 0 < cs.length) (hd : Nat.blt d n.n = true) :
  OpR P ⟨some d, .convert src dst x, ty, pos, af, none⟩ (St M0 F0 w0 n σ Ξ Γ) (St M0 F0 w0 n ((d, .pointer (some ⟨b, 0, none⟩)) :: σ) Ξ Γ) :=
 OpR.of_run rfl fun a w ⟨hsl, Fs, hh⟩ => by
  have hb := hh.cell hi.get;have := Lib.run_to_unsafe (P := P) w (src := src) (dst := dst) (e := bt) (cells := cs.length) ⟨b, 0, none⟩ hs hdt ht hj (by simp [World.shape?, hb]) hl;exact ⟨_, w, by simp [execOp, hsl.ev hx, this], hsl.put hd, Fs, hh⟩
theorem o_fromu {x : Operand} {src dst u bt : TypeId} {j : TypeInfo} {i b : Nat} {cs : List Value} (hs : P.underlying src = some .unsafePointer) (hdt : P.underlying dst = some (.pointer u)) (hu : P.info? u = some j)
  (hx : ev σ x = some (.pointer (some ⟨b, 0, none⟩))) (hi : At (box b bt cs) i Ξ) (hl : liesAt P P.depth bt (cs.length / P.cellsOf bt) 0 u 1 = true) (hd : Nat.blt d n.n = true) :
  OpR P ⟨some d, .convert src dst x, ty, pos, af, none⟩ (St M0 F0 w0 n σ Ξ Γ) (St M0 F0 w0 n ((d, .pointer (some ⟨b, 0, none⟩)) :: σ) Ξ Γ) :=
 OpR.of_run rfl fun a w ⟨hsl, Fs, hh⟩ => by
  have hb := hh.cell hi.get;have := Lib.run_from_unsafe (P := P) w (src := src) (dst := dst) (e := bt) (cells := cs.length) ⟨b, 0, none⟩ hs hdt hu (by simp [World.shape?, hb]) hl;exact ⟨_, w, by simp [execOp, hsl.ev hx, this], hsl.put hd, Fs, hh⟩
theorem p_noesc {T : World → Prop} {x : Operand} {f : FuncId} {fn : Func} {tys : Array TypeId} {v : Value} (hf : P.funcs[f]? = some fn) (hname : (fn.name == "runtime.NumGoroutine") = false)
  (hbd : fn.body.isNone = true) (hn : Extern.findNext fn = none) (he : Extern.find fn = some Extern.AbiNoEscape.same) (hx : ev σ x = some v) : Pu P n σ T ⟨some d, .call ⟨.value (.func f), #[x], tys⟩, ty, pos, af, none⟩ v :=
 fun a hs w _ => by
  have e2 := run_callFunc_extern hf hname hbd hn he #[v] w;rw [Lib.run_noEscape] at e2;simp only [Result.andThen] at e2;simp only [execOp, resolve, Deferred.ofValue, Act.eval, invoke];simp [hs.ev hx, e2]
theorem p_usd {T : World → Prop} {x : Operand} {t : TypeId} {A : Addr} {l c : Nat} (hc : c ≠ 0) (hx : ev σ x = some (.slice (some A) l c)) : Pu P n σ T ⟨some d, .call ⟨.builtin .unsafeSliceData, #[x], #[t]⟩, ty, pos, af, none⟩ (.pointer (some A)) :=
 fun a hs w _ => by simp [execOp, resolve, invoke, builtin, hs.ev hx, Lib.run_unsafeSliceData_row w #[t] ty A l c hc]
theorem p_usdn {T : World → Prop} {x : Operand} {t : TypeId} {l c : Nat} (hx : ev σ x = some (.slice none l c)) : Pu P n σ T ⟨some d, .call ⟨.builtin .unsafeSliceData, #[x], #[t]⟩, ty, pos, af, none⟩ (.pointer none) :=
 fun a hs w _ => by simp [execOp, resolve, invoke, builtin, hs.ev hx, Lib.run_unsafeSliceData_nil w #[t] ty l c]
theorem p_usn {T : World → Prop} {x y : Operand} {t u : TypeId} {p : Option Addr} (hx : ev σ x = some (.pointer p)) (hy : ev σ y = some (.int .i64 0)) : Pu P n σ T ⟨some d, .call ⟨.builtin .unsafeString, #[x, y], #[t, u]⟩, ty, pos, af, none⟩ (.string .empty) :=
 fun a hs w _ => by simp [execOp, resolve, invoke, builtin, hs.ev hx, hs.ev hy, Lib.run_unsafeString_none w t u ty p]
theorem o_ustr {x y : Operand} {pt it e : TypeId} {g c i : Nat} {l : List UInt8} {Ξ' : List Xsn} (hp : P.underlying pt = some (.pointer e)) (hc : P.cellsOf e = 1) (h0 : l ≠ []) (hl : l.length ≤ 140737488355328)
  (hx : ev σ x = some (.pointer (some ⟨g, 0, none⟩))) (hy : ev σ y = some (.int .i64 (l.length : Int))) (hs : takeAll [i] Ξ = some ([row e (some ⟨g, 0, none⟩) c l], Ξ')) (hd : Nat.blt d n.n = true) :
  OpR P ⟨some d, .call ⟨.builtin .unsafeString, #[x, y], #[pt, it]⟩, ty, pos, af, none⟩ (St M0 F0 w0 n σ Ξ Γ) (St M0 F0 w0 n ((d, .string (toB l)) :: σ) Ξ' Γ) :=
 (o_loc (Γi := []) (loc_ustr (P := P) (ty' := ty) (it := it) hp hc g c l h0 hl) (fun a hsl w v w' hr => by
  have h1 := hsl.ev hx;have h2 := hsl.ev hy;have hm : (#[x, y] : Array Operand).map a.eval = #[.pointer (some ⟨g, 0, none⟩), .int .i64 l.length] := by simp [h1, h2]
  simp only [execOp, resolve, invoke, builtin, hm];simp [hr]) hs .d hd).mono fun a w ⟨_, h⟩ => h
theorem St.rowcap {α : Type} [Rp α] {e : TypeId} {A : Option Addr} {c : Nat} {l : List α} {i : Nat} (hi : At (row e A c l) i Ξ) : ∀ a w, St M0 F0 w0 n σ Ξ Γ a w → l.length ≤ c := by
 rintro a w ⟨hs, Fs, hh⟩;obtain ⟨F, hF, xs, ho, _, _⟩ := hh.ex.at hi.get;rcases ho.2 with ⟨hv, h0⟩ | ⟨g, cap, cur, hv, _, _, h2, _⟩
 ·omega
 ·injection hv with _ _ h; omega
end
/-! what a tree's text is -/
def lineT (l : List ByteArray) : List UInt8 := l.flatMap fun s => ofB s ++ [10]
def fileT (x : File) : List UInt8 := ofB x.1 ++ [32] ++ Lib.decDigits x.2.length ++ [10] ++ lineT x.2
def textT (T : List File) : List UInt8 := T.flatMap fileT
theorem ofB_append (a b : ByteArray) : ofB (a ++ b) = ofB a ++ ofB b := by
 unfold ofB;rw [ByteArray.data_append, Array.toList_append]
theorem flat_succ {α : Type} (f : α → List UInt8) {l : List α} {k : Nat} (h : k < l.length) : (l.take (k + 1)).flatMap f = (l.take k).flatMap f ++ f l[k] := by
 rw [List.take_succ_eq_append_getElem h, List.flatMap_append]; simp
theorem flat_le {α : Type} (f : α → List UInt8) (l : List α) (k : Nat) : ((l.take k).flatMap f).length ≤ (l.flatMap f).length := by
 have e : l.flatMap f = (l.take k).flatMap f ++ (l.drop k).flatMap f := by rw [← List.flatMap_append, List.take_append_drop]
 rw [e, List.length_append]; omega
end Go.Sx
end
section
namespace Go.Proofs.YtbhnolfcdcpbkaaGreatDoor.X
set_option maxRecDepth 100000
open Go Go.RowKit Go.Proofs Go.Sx
open Tryz
attribute [local irreducible] slA isA box row TrL TrC TrN TrA Pu OpR
set_option maxHeartbeats 8000000
theorem bldI : ∃ j, Tryz.prog.info? 162 = some j ∧ j.size ≠ 0 := by
 obtain ⟨j, h1, h2⟩ := Option.map_eq_some_iff.1 (show (Tryz.prog.info? 162).map (fun i => i.size) = some 2 by kernel_rfl);exact ⟨j, h1, by omega⟩
theorem bldH : Tryz.prog.info? 162 = some (Classical.choose bldI) ∧ (Classical.choose bldI).size ≠ 0 := Classical.choose_spec bldI
theorem bldL : liesAt Tryz.prog Tryz.prog.depth 162 (2 / Tryz.prog.cellsOf 162) 0 162 1 = true := by kernel_rfl
theorem toB_size (l : List UInt8) : (toB l).size = l.length := by simp [toB, ByteArray.size]
theorem l_Itoa (i : Nat) (hi : i < 100) : Con Tryz.prog 99 [.int .i64 (i : Int)] [] [] Unit (fun _ => .string (toB (Lib.decDigits i))) (fun _ => []) (fun _ => []) := con_same (fun w => Tryz.strconv_Itoa_small i hi w)
theorem inf5 : (Tryz.prog.info? 5).map (fun i => (i.zero, i.size, i.bytes)) = some (some (.int .u8 0), 1, 1) := by kernel_rfl
theorem c_bCheck0 (b : Nat) (v : Value) : Con Tryz.prog 154 [pT b] [box b 162 [.pointer none, v]] [] Unit (fun _ => .tuple #[]) (fun _ => [box b 162 [pT b, v]]) (fun _ => []) := by
 refine con func154 rfl ntmps154 rfl ?_;intro M0 F0 w0;refine k_ 3 ?_;refine ls (op (p_nilck rfl) rfl) ?_;refine k_ 2 ?_;refine ls (op (p_ptrnil0 underlying159 rfl rfl) rfl) ?_;refine k_ 2 ?_;refine cc rfl (fun h => ?_) (fun h => by cases h);refine k_ 3 ?_;refine ls (o_tou underlying159 underlying273 bldH.1 bldH.2 rfl Θ (by simp) rfl) ?_;refine ls (op (p_noesc func211 Ψ Ψ Ψ Ψ rfl) rfl) ?_;refine ls (o_fromu underlying273 underlying159 bldH.1 rfl Θ bldL rfl) ?_;refine ls (op (p_nilck rfl) rfl) ?_;refine k_ 3 ?_;exact rR [0] ()
theorem c_bCheck1 (b : Nat) (v : Value) : Con Tryz.prog 154 [pT b] [box b 162 [pT b, v]] [] Unit (fun _ => .tuple #[]) (fun _ => [box b 162 [pT b, v]]) (fun _ => []) := by
 refine con func154 rfl ntmps154 rfl ?_;intro M0 F0 w0;refine k_ 3 ?_;refine ls (op (p_nilck rfl) rfl) ?_;refine k_ 2 ?_;refine ls (op (p_ptrnil underlying159 rfl rfl) rfl) ?_;refine k_ 2 ?_;refine cc rfl (fun h => by cases h) (fun h => ?_);refine k_ 3 ?_;refine ls (op (p_nilck rfl) rfl) ?_;refine k_ 3 ?_;refine ls (op (p_ptrneS underlying159 bldH.1 rfl rfl) rfl) ?_;refine k_ 2 ?_;refine cc rfl (fun h => by cases h) (fun h => ?_);refine k_ 1 ?_;exact rR [0] ()
theorem c_bCheck (u : Bool) (b : Nat) (v : Value) : Con Tryz.prog 154 [pT b] [box b 162 [(.pointer (if u then some ⟨b, 0, none⟩ else none)), v]] [] Unit (fun _ => .tuple #[]) (fun _ => [box b 162 [pT b, v]]) (fun _ => []) := by
 cases u
 ·exact c_bCheck0 b v
 ·exact c_bCheck1 b v
theorem c_bWrite (u : Bool) (b : Nat) (A : Option Addr) (c : Nat) (l : List UInt8) (s : ByteArray) (l' : List UInt8) (hl' : l ++ ofB s = l') (hl : l.length + s.size ≤ 140737488355328) : Con Tryz.prog 98 [pT b, .string s] [box b 162 [(.pointer (if u then some ⟨b, 0, none⟩ else none)), .slice A l.length c], row 5 A c l] [] {q : Option Addr × Nat // l' = [] → A = none → q.1 = none} (fun _ => .tuple #[.int .i64 (s.size : Int), .nilIface]) (fun q => [box b 162 [pT b, .slice q.1.1 l'.length q.1.2], row 5 q.1.1 q.1.2 l']) (fun _ => []) := by
 subst hl';refine con func98 rfl ntmps98 rfl ?_;intro M0 F0 w0;refine k_ 9 ?_;refine lC [0] call154 (c_bCheck u b (.slice A l.length c)) ?_; intro x7;refine k_ 6 ?_;refine ls (op (p_nilck rfl) rfl) ?_;refine k_ 3 ?_;refine ls (o_appS (i := 1) underlying160 underlying9 inf5 rfl rfl hl rfl rfl) ?_;refine le ?_; rintro ⟨⟨A2, c2⟩, hA2⟩;refine ls (op (p_nilck rfl) rfl) ?_;refine k_ 14 ?_;exact rR [1, 0] ⟨(A2, c2), hA2⟩
theorem c_bString (v : Value) (b : Nat) (A : Option Addr) (c : Nat) (l : List UInt8) (hA : l = [] → A = none) (hl : l.length ≤ 140737488355328) : Con Tryz.prog 101 [pT b] [box b 162 [v, .slice A l.length c], row 5 A c l] [] Unit (fun _ => .string (toB l)) (fun _ => []) (fun _ => []) := by
 refine con func101 rfl ntmps101 rfl ?_;intro M0 F0 w0;refine k_ 6 ?_;rcases Classical.em (l = []) with he | he
 ·
  obtain rfl := hA he;subst he;refine cd [10] [(3, b, 1, _), (8, b, 1, _)] TryzX.mixed (tB 1 (tB 1 TOk.d)) ?_;refine u_ 0 1 ?_;refine tk 1 rfl Ψ Υ gnone (TTany _) (p_nilck rfl) rfl ?_;refine u_ 2 2 ?_;refine tk 4 rfl Ψ Υ gnone (TTany _) (p_usdn rfl) rfl ?_;refine u_ 5 1 ?_;refine tk 6 rfl Ψ Υ gnone (TTany _) (p_nilck rfl) rfl ?_;refine u_ 7 3 ?_;refine df 10 Ψ ?_;refine doR rfl (op (p_usn rfl rfl) rfl) tX ?_;refine u_ 11 1 ?_;refine dn Ψ ?_;refine k_ 3 ?_;exact rR [] ()
 ·
  refine cpure (St.rowcap (α := UInt8) (e := 5) Θ) ?_;intro hcap;have hc0 : c ≠ 0 := (by have := List.length_pos_iff.2 he; omega);refine rowC (α := UInt8) (e := 5) Θ he fun g hg => ?_;subst hg;refine cd [10] [(3, b, 1, _), (8, b, 1, _)] TryzX.mixed (tB 1 (tB 1 TOk.d)) ?_;refine u_ 0 1 ?_;refine tk 1 rfl Ψ Υ gnone (TTany _) (p_nilck rfl) rfl ?_;refine u_ 2 2 ?_;refine tk 4 rfl Ψ Υ gnone (TTany _) (p_usd hc0 rfl) rfl ?_;refine u_ 5 1 ?_;refine tk 6 rfl Ψ Υ gnone (TTany _) (p_nilck rfl) rfl ?_;refine u_ 7 3 ?_;refine df 10 Ψ ?_;refine doR rfl (o_ustr (i := 1) underlying224 Ψ he hl rfl rfl rfl rfl) tX ?_;refine u_ 11 1 ?_;refine dn Ψ ?_;refine k_ 3 ?_;exact rR [] ()
theorem c_lineText (l : List ByteArray) (A : Option Addr) (c : Nat) (hl : l.length ≤ 2000000) (hB : (lineT l).length ≤ 100000000) : Con Tryz.prog 100 [.slice A l.length c] [] [slA A l] Unit (fun _ => .string (toB (lineT l))) (fun _ => []) (fun _ => []) := by
 refine con func100 rfl ntmps100 rfl ?_;intro M0 F0 w0;refine k_ 7 ?_;refine ls (o_alloc zeroValue162 rfl rfl) ?_;refine le ?_; intro b3;refine k_ 4 ?_;refine cmono (fun a w h => nilRow (α := UInt8) 5 h) ?_;refine k_ 7 ?_;refine cl (ι := {q : Nat × Bool × (Option Addr × Nat) // q.1 ≤ l.length ∧ (lineT (l.take q.1) = [] → q.2.2.1 = none)}) (fun i => St M0 F0 w0 17 [(3, pT b3), (6, .slice A l.length c), (7, .int .i64 (l.length : Int)), (8, .int .i64 (i.1.1 : Int))] [box b3 162 [(.pointer (if i.1.2.1 then some ⟨b3, 0, none⟩ else none)), .slice i.1.2.2.1 (lineT (l.take i.1.1)).length i.1.2.2.2], row 5 i.1.2.2.1 i.1.2.2.2 (lineT (l.take i.1.1))] [slA A l]) (fun i => l.length - i.1.1) ⟨(0, false, (none, 0)), Nat.zero_le _, fun _ => rfl⟩ (wK [1, 0]) ?_;rintro ⟨⟨k, u, ⟨A2, c2⟩⟩, hk, hnil⟩;refine cmono (S' := St M0 F0 w0 17 [(3, pT b3), (6, .slice A l.length c), (7, .int .i64 (l.length : Int)), (8, .int .i64 (k : Int))] [box b3 162 [(.pointer (if u then some ⟨b3, 0, none⟩ else none)), .slice A2 (lineT (l.take k)).length c2], row 5 A2 c2 (lineT (l.take k))] [slA A l]) Ħ ?_;refine k_ 6 ?_;refine cc rfl ?_ ?_
 ·intro h9;dsimp only at hk hnil;(try simp only [nrmZ] at h9);have hk1 : k < l.length := (by omega);have hfs : lineT (l.take (k + 1)) = lineT (l.take k) ++ (ofB l[k] ++ [10]) := flat_succ (fun s => ofB s ++ [10]) hk1;have hfl : (lineT (l.take (k + 1))).length ≤ (lineT l).length := flat_le _ l (k + 1);have hsz : (lineT (l.take k)).length + (l[k].size + 1) ≤ 100000000 := (by rw [hfs, List.length_append, List.length_append, ofB_length, List.length_singleton] at hfl; omega);have hst : lineT (l.take k) ++ ofB (l[k] ++ (⟨#[10]⟩ : ByteArray)) = lineT (l.take (k + 1)) := (by rw [hfs, ofB_append]; rfl);have hs1 : (⟨#[10]⟩ : ByteArray).size = 1 := rfl;refine k_ 5 ?_;refine elC Θ k (List.getElem?_eq_getElem (l := l) hk1) ?_; rintro zbp zop zyp hAp;refine cr ?_;refine ls (op (p_ia k hAp hk1 rfl underlying73 sizeOf9 rfl rfl) rfl) ?_;refine ls (o_ldi isAgg9 rfl Θ 0 rfl Δ rfl) ?_;refine k_ 5 ?_;refine ls (op (p_cat rfl rfl (by rw [hs1]; omega)) rfl) ?_;refine lC [0, 0] call98 (c_bWrite u b3 A2 c2 (lineT (l.take k)) (l[k] ++ (⟨#[10]⟩ : ByteArray)) _ hst (by rw [ByteArray.size_append, hs1]; omega)) ?_; rintro ⟨⟨A3, c3⟩, hA3⟩;dsimp only at hA3;refine k_ 7 ?_;refine nnext ⟨(k + 1, true, (A3, c3)), hk1, fun h => hA3 h (hnil (by rw [hfs] at h; exact (List.append_eq_nil_iff.1 h).1))⟩ (by dsimp only; omega) (wK [0, 0])
 ·intro h9;dsimp only at hk hnil;(try simp only [nrmZ] at h9);have htk : l.take k = l := List.take_of_length_le (by omega);refine k_ 7 ?_;refine lC [0, 0] call101 (c_bString _ b3 A2 c2 (lineT (l.take k)) hnil (by rw [htk]; omega)) ?_; intro x16;refine k_ 5 ?_;refine rret (is := []) () (Or.inl rfl) (Res.t rfl Res.d) ?_ rfl Ω;simp only [packV, htk]
theorem c_tText (p b : Nat) (T : List File) (hn : T.length ≤ 2000000) (hf : Tfit T) (hB : (textT T).length ≤ 100000000) (Γt : List Asn) (hI : ∀ x ∈ T, Con Tryz.prog 99 [.int .i64 (x.2.length : Int)] [] Γt Unit (fun _ => .string (toB (Lib.decDigits x.2.length))) (fun _ => []) (fun _ => [])) : Con Tryz.prog 52 [pT p] [box p 139 [.map (some b)], tr b T] Γt Unit (fun _ => .string (toB (textT T))) (fun _ => [box p 139 [.map (some b)], tr b T]) (fun _ => []) := by
 refine con func52 rfl ntmps52 rfl ?_;intro M0 F0 w0;refine k_ 7 ?_;refine ls (o_alloc zeroValue162 rfl rfl) ?_;refine le ?_; intro b3;refine k_ 4 ?_;refine cpure (St.tr (b := b) Θ) ?_;intro hso;refine cmono (fun a w h => nilRow (α := UInt8) 5 h) ?_;refine k_ 2 ?_;refine lC [2, 2] call97 (c_tNames p b T hn) ?_; rintro ⟨A8, c8⟩;refine lmono (fun a w h => Go.Sx.freeze (i := 0) rfl h) ?_;refine k_ 5 ?_;refine cl (ι := {q : Nat × Bool × (Option Addr × Nat) // q.1 ≤ T.length ∧ (textT (T.take q.1) = [] → q.2.2.1 = none)}) (fun i => St M0 F0 w0 33 [(0, pT p), (3, pT b3), (8, .slice A8 T.length c8), (9, .int .i64 (T.length : Int)), (10, .int .i64 (i.1.1 : Int))] [box b3 162 [(.pointer (if i.1.2.1 then some ⟨b3, 0, none⟩ else none)), .slice i.1.2.2.1 (textT (T.take i.1.1)).length i.1.2.2.2], row 5 i.1.2.2.1 i.1.2.2.2 (textT (T.take i.1.1)), box p 139 [.map (some b)], tr b T] (slA A8 (T.map (·.1)) :: Γt)) (fun i => T.length - i.1.1) ⟨(0, false, (none, 0)), Nat.zero_le _, fun _ => rfl⟩ (wK [3, 2, 0, 0]) ?_;rintro ⟨⟨k, u, ⟨A2, c2⟩⟩, hk, hnil⟩;refine cmono (S' := St M0 F0 w0 33 [(0, pT p), (3, pT b3), (8, .slice A8 T.length c8), (9, .int .i64 (T.length : Int)), (10, .int .i64 (k : Int))] [box b3 162 [(.pointer (if u then some ⟨b3, 0, none⟩ else none)), .slice A2 (textT (T.take k)).length c2], row 5 A2 c2 (textT (T.take k)), box p 139 [.map (some b)], tr b T] (slA A8 (T.map (·.1)) :: Γt)) Ħ ?_;refine k_ 6 ?_;refine cc rfl ?_ ?_
 ·intro h11;dsimp only at hk hnil;(try simp only [nrmZ] at h11);have hk1 : k < T.length := (by omega);have hk2 : k < (T.map (·.1)).length := (by simpa using hk1);have hnm : (T.map (·.1))[k] = T[k].1 := List.getElem_map ..;have hmem : T[k] ∈ T := List.getElem_mem hk1;have hgl : getL T T[k].1 = T[k].2 := (by simp [getL, (getT_some (k := T[k].1) (l := T[k].2) hso).2 hmem]);have hfs : textT (T.take (k + 1)) = textT (T.take k) ++ fileT T[k] := flat_succ fileT hk1;have hfl : (textT (T.take (k + 1))).length ≤ (textT T).length := flat_le _ T (k + 1);have hfx : (fileT T[k]).length = T[k].1.size + 1 + (Lib.decDigits T[k].2.length).length + 1 + (lineT T[k].2).length := (by simp only [fileT, List.length_append, ofB_length, List.length_singleton]);have hsz : (textT (T.take k)).length + (T[k].1.size + 1 + (Lib.decDigits T[k].2.length).length + 1 + (lineT T[k].2).length) ≤ 100000000 := (by rw [hfs, List.length_append, hfx] at hfl; omega);have hs1 : (⟨#[10]⟩ : ByteArray).size = 1 := rfl;have hs2 : (⟨#[32]⟩ : ByteArray).size = 1 := rfl;have hst : textT (T.take k) ++ ofB ((((T[k].1 ++ (⟨#[32]⟩ : ByteArray)) ++ toB (Lib.decDigits T[k].2.length)) ++ (⟨#[10]⟩ : ByteArray)) ++ toB (lineT T[k].2)) = textT (T.take (k + 1)) := (by rw [hfs, ofB_append, ofB_append, ofB_append, ofB_append]; rfl);refine k_ 5 ?_;refine elC Θ k (List.getElem?_eq_getElem (l := (T.map (·.1))) hk2) ?_; rintro zbp zop zyp hAp;refine cr ?_;refine ls (op (p_ia k hAp hk1 rfl underlying73 sizeOf9 rfl rfl) rfl) ?_;refine ls (o_ldi isAgg9 rfl Θ 0 rfl Δ rfl) ?_;refine k_ 4 ?_;rw [hnm];refine k_ 2 ?_;refine ls (op (p_nilck rfl) rfl) ?_;refine k_ 3 ?_;refine ls (o_look1 underlying137 underlying9 zeroValue73 rfl rfl Θ rfl) ?_;refine le ?_; rintro y19;rw [hgl];refine k_ 5 ?_;refine ls (op (p_cat rfl rfl (by rw [hs2]; omega)) rfl) ?_;refine k_ 2 ?_;refine lC [] call99 (hI T[k] hmem) ?_; intro x24;refine ls (op (p_cat rfl rfl (by rw [ByteArray.size_append, toB_size, hs2]; omega)) rfl) ?_;refine ls (op (p_cat rfl rfl (by rw [ByteArray.size_append, ByteArray.size_append, toB_size, hs1, hs2]; omega)) rfl) ?_;refine k_ 1 ?_;refine lC [] call100 (c_lineText T[k].2 y19.1 y19.2 (hf _ hmem) (by omega)) ?_; intro x28;refine ls (op (p_cat rfl rfl (by rw [ByteArray.size_append, ByteArray.size_append, ByteArray.size_append, toB_size, toB_size, hs1, hs2]; omega)) rfl) ?_;refine lC [0, 0] call98 (c_bWrite u b3 A2 c2 (textT (T.take k)) _ _ hst (by rw [ByteArray.size_append, ByteArray.size_append, ByteArray.size_append, ByteArray.size_append, toB_size, toB_size, hs1, hs2]; omega)) ?_; rintro ⟨⟨A3, c3⟩, hA3⟩;dsimp only at hA3;refine k_ 7 ?_;refine nnext ⟨(k + 1, true, (A3, c3)), hk1, fun h => hA3 h (hnil (by rw [hfs] at h; exact (List.append_eq_nil_iff.1 h).1))⟩ (by dsimp only; omega) (wK [0, 0, 0, 0])
 ·intro h11;dsimp only at hk hnil;(try simp only [nrmZ] at h11);have htk : T.take k = T := List.take_of_length_le (by omega);refine k_ 7 ?_;refine lC [0, 0] call101 (c_bString _ b3 A2 c2 (textT (T.take k)) hnil (by rw [htk]; omega)) ?_; intro x32;refine k_ 5 ?_;refine rret (is := [0, 0]) () (Or.inl rfl) (Res.t rfl Res.d) ?_ rfl Ω;simp only [packV, htk]
theorem c_Old02 (p b : Nat) (T : List File) (hn : T.length ≤ 2000000) (hf : Tfit T) : Con Tryz.prog 64 [pT p] [box p 139 [.map (some b)], tr b T] [] (Option Addr × Nat) (fun y => .slice y.1 T.length y.2) (fun _ => [box p 139 [.map (some b)], tr b T]) (fun y => [slA y.1 T]) := by
 refine con func64 rfl ntmps64 rfl ?_;intro M0 F0 w0;refine k_ 12 ?_;refine cpure (St.tr (b := b) Θ) ?_;intro hso;refine cmono (fun a w h => nilRow (α := File) 149 h) ?_;refine k_ 2 ?_;refine lC [1, 1] call97 (c_tNames p b T hn) ?_; rintro ⟨A9, c9⟩;refine lmono (fun a w h => Go.Sx.freeze (i := 0) rfl h) ?_;refine k_ 5 ?_;refine cl (ι := {q : Nat × Option Addr × Nat // q.1 ≤ T.length}) (fun i => St M0 F0 w0 29 [(0, pT p), (9, .slice A9 T.length c9), (10, .int .i64 (T.length : Int)), (11, .int .i64 (i.1.1 : Int)), (3, .slice i.1.2.1 (T.take i.1.1).length i.1.2.2)] [row 149 i.1.2.1 i.1.2.2 (T.take i.1.1), box p 139 [.map (some b)], tr b T] [slA A9 (T.map (·.1))]) (fun i => T.length - i.1.1) ⟨(0, none, 0), Nat.zero_le _⟩ (wK [2, 0, 0]) ?_;rintro ⟨⟨k, A2, c2⟩, hk⟩;refine cmono (S' := St M0 F0 w0 29 [(0, pT p), (9, .slice A9 T.length c9), (10, .int .i64 (T.length : Int)), (11, .int .i64 (k : Int)), (3, .slice A2 (T.take k).length c2)] [row 149 A2 c2 (T.take k), box p 139 [.map (some b)], tr b T] [slA A9 (T.map (·.1))]) Ħ ?_;refine k_ 6 ?_;refine cc rfl ?_ ?_
 ·intro h12;dsimp only at hk;(try simp only [nrmZ] at h12);have hk1 : k < T.length := (by omega);have hk2 : k < (T.map (·.1)).length := (by simpa using hk1);have hnm : (T.map (·.1))[k] = T[k].1 := List.getElem_map ..;have hmem : T[k] ∈ T := List.getElem_mem hk1;have hgl : getL T T[k].1 = T[k].2 := (by simp [getL, (getT_some (k := T[k].1) (l := T[k].2) hso).2 hmem]);refine k_ 5 ?_;refine elC Θ k (List.getElem?_eq_getElem (l := (T.map (·.1))) hk2) ?_; rintro zbp zop zyp hAp;refine cr ?_;refine ls (op (p_ia k hAp hk1 rfl underlying73 sizeOf9 rfl rfl) rfl) ?_;refine ls (o_ldi isAgg9 rfl Θ 0 rfl Δ rfl) ?_;refine k_ 4 ?_;rw [hnm];refine k_ 3 ?_;refine lC [1, 1] call116 (c_tGet p b T hf T[k].1) ?_; rintro ⟨A6, c6⟩;rw [hgl];refine lmono (fun a w h => freezeN (i := 0) rfl h) ?_;refine k_ 12 ?_;refine ls (o_bsl [T[k]] underlying85 sizeOf149 zeroValue149 rfl (Enum.t Enum.d) (RV.t (α := File) (A6, c6) rfl Ω RV.d) rfl (by decide) (by decide) rfl) ?_;refine le ?_; intro b25;refine lmono (fun a w h => Go.Sx.freeze (i := 0) rfl h) ?_;refine ls (o_app (is := [2]) underlying85 inf149 rfl (by decide) (by decide) rfl rfl (by rw [List.length_take]; simp only [List.length_cons, List.length_nil]; omega) (fun h => by cases h) rfl Ω rfl) ?_;refine le ?_; rintro ⟨A3, c3⟩;rw [← List.take_succ_eq_append_getElem hk1];refine k_ 8 ?_;refine nnext ⟨(k + 1, A3, c3), hk1⟩ (by dsimp only; omega) (wK [0, 0, 0])
 ·intro h12;dsimp only at hk;(try simp only [nrmZ] at h12);rw [List.take_of_length_le (by omega)];refine k_ 6 ?_;refine cmono (fun a w h => Go.Sx.freeze (i := 0) rfl h) ?_;refine k_ 7 ?_;exact rR [0, 0] (A2, c2)
theorem c_rSame02 (T U : List File) (A B : Option Addr) (c c' : Nat) (hn : T.length ≤ 2000000) (hf : ∀ x ∈ T, x.2.length ≤ 2000000) : Con Tryz.prog 63 [.slice A T.length c, .slice B U.length c'] [] [slA A T, slA B U] Unit (fun _ => .bool (decide (T = U))) (fun _ => []) (fun _ => []) := by
 refine con func63 rfl ntmps63 rfl ?_;intro M0 F0 w0;refine k_ 15 ?_;refine cc rfl ?_ ?_
 ·intro h10;have hne : ¬ T.length = U.length := (by simp at h10; omega);have hTU : ¬ T = U := fun e => hne (congrArg List.length e);refine k_ 7 ?_;refine rret (is := []) () (Or.inl rfl) (Res.t rfl Res.d) ?_ rfl Ω;simp [packV, hTU]
 ·intro h10;have hlen : T.length = U.length := (by simp at h10; omega);refine k_ 9 ?_;refine cl (ι := {q : Nat // q ≤ T.length ∧ T.take q = U.take q}) (fun i => St M0 F0 w0 42 [(0, .slice A T.length c), (1, .slice B U.length c'), (5, .int .i64 (i.1 : Int))] [] [slA A T, slA B U]) (fun i => T.length - i.1) ⟨0, Nat.zero_le _, rfl⟩ (wk0 Φ Ω) ?_;rintro ⟨k, hk, he⟩;refine cmono (S' := St M0 F0 w0 42 [(0, .slice A T.length c), (1, .slice B U.length c'), (5, .int .i64 (k : Int))] [] [slA A T, slA B U]) Ħ ?_;refine k_ 9 ?_;refine cc rfl ?_ ?_
  ·intro h14;(try dsimp only at hk he);(try simp only [nrmZ] at h14);have hk1 : k < T.length := (by omega);have hk2 : k < U.length := (by omega);have hfk := hf _ (List.getElem_mem hk1);refine k_ 5 ?_;refine elC Θ k (List.getElem?_eq_getElem (l := T) hk1) ?_; rintro zbp zop zyp hAp;refine elC Θ k (List.getElem?_eq_getElem (l := U) hk2) ?_; rintro zbq zoq zyq hAq;rcases Classical.em (T[k].1 = U[k].1) with hnm | hnm
   ·
    refine cd [22] [(4, zbp, zop + k * Rp.size File, _), (9, zbq, zoq + k * Rp.size File, _), (16, zbp, zop + k * Rp.size File + 1, _), (21, zbq, zoq + k * Rp.size File + 1, _)] TryzX.mixed (TOk.t (isInS Θ (k := 0) rfl (z := 1) Δ) (TOk.t (isInS Θ (k := 0) rfl (z := 1) Δ) (TOk.t (isInS Θ (k := 1) rfl (z := 1) Δ) (TOk.t (isInS Θ (k := 1) rfl (z := 1) Δ) TOk.d)))) ?_;refine u_ 0 2 ?_;refine tk 2 rfl Ψ Υ gnone (TTany _) (p_ia k hAp hk1 rfl underlying85 sizeOf149 rfl rfl) rfl ?_;refine u_ 3 4 ?_;refine tk 7 rfl Ψ Υ gnone (TTany _) (p_ia k hAq hk2 rfl underlying85 sizeOf149 rfl rfl) rfl ?_;refine u_ 8 3 ?_;refine fixA (congrArg Value.bool (by simp [hnm] : (!decide (T[k].1 = U[k].1)) = false)) ?_;refine u_ 11 3 ?_;refine tk 14 rfl Ψ Υ (gyes rfl rfl rfl rfl) (TTany _) (gpu (p_ia k hAp hk1 rfl underlying85 sizeOf149 rfl rfl)) rfl ?_;refine u_ 15 1 ?_;refine tk 16 rfl Ψ Υ (gyes rfl rfl rfl rfl) (TTat (mT (mT (List.Mem.head _)))) (gpu (p_ld isAgg73 rfl)) rfl ?_;refine u_ 17 2 ?_;refine tk 19 rfl Ψ Υ (gyes rfl rfl rfl rfl) (TTany _) (gpu (p_ia k hAq hk2 rfl underlying85 sizeOf149 rfl rfl)) rfl ?_;refine u_ 20 1 ?_;refine tk 21 rfl Ψ Υ (gyes rfl rfl rfl rfl) (TTat (mT (mT (mT (List.Mem.head _))))) (gpu (p_ld isAgg73 rfl)) rfl ?_;refine df 22 Ψ ?_;refine doG rfl rfl rfl rfl rfl (o_call (is := []) call115 (c_refSame1 T[k].2 U[k].2 zyp.1 zyq.1 zyp.2 zyq.2 hfk) rfl rfl Ω rfl) tX ?_;refine ea ?_; intro x39;refine u_ 23 2 ?_;refine dn Ψ ?_;refine k_ 1 ?_;refine cc rfl ?_ ?_
    ·intro h41;have hlk : ¬ T[k].2 = U[k].2 := (by simpa using h41);have hTU : ¬ T = U := fun e => hlk (by subst e; rfl);refine k_ 7 ?_;refine rret (is := []) () (Or.inl rfl) (Res.t rfl Res.d) ?_ rfl Ω;simp [packV, hTU]
    ·intro h41;have hlk : T[k].2 = U[k].2 := (by simpa using h41);have hek : T[k] = U[k] := Prod.ext hnm hlk;refine k_ 8 ?_;refine nnext ⟨k + 1, hk1, by rw [List.take_succ_eq_append_getElem hk1, List.take_succ_eq_append_getElem hk2, he, hek]⟩ (by dsimp only; omega) (wk0 Φ Ω)
   ·
    have hTU : ¬ T = U := fun e => hnm (by subst e; rfl);refine cd [] [(4, zbp, zop + k * Rp.size File, _), (9, zbq, zoq + k * Rp.size File, _)] TryzX.mixed (TOk.t (isInS Θ (k := 0) rfl (z := 1) Δ) (TOk.t (isInS Θ (k := 0) rfl (z := 1) Δ) TOk.d)) ?_;refine u_ 0 2 ?_;refine tk 2 rfl Ψ Υ gnone (TTany _) (p_ia k hAp hk1 rfl underlying85 sizeOf149 rfl rfl) rfl ?_;refine u_ 3 4 ?_;refine tk 7 rfl Ψ Υ gnone (TTany _) (p_ia k hAq hk2 rfl underlying85 sizeOf149 rfl rfl) rfl ?_;refine u_ 8 3 ?_;refine fixA (congrArg Value.bool (by simp [hnm] : (!decide (T[k].1 = U[k].1)) = true)) ?_;refine u_ 11 14 ?_;refine dn Ψ ?_;refine k_ 1 ?_;refine cc rfl (fun h => ?_) (fun h => by cases h);refine k_ 7 ?_;refine rret (is := []) () (Or.inl rfl) (Res.t rfl Res.d) ?_ rfl Ω;simp [packV, hTU]
  ·intro h14;(try dsimp only at hk he);(try simp only [nrmZ] at h14);rw [List.take_of_length_le (by omega), List.take_of_length_le (by omega)] at he;refine k_ 12 ?_;refine rret (is := []) () (Or.inl rfl) (Res.t rfl Res.d) ?_ rfl Ω;simp [packV, he]
theorem c_mEq (b d : Nat) (T U : List File) (hf : ∀ x ∈ T, x.2.length ≤ 2000000) : Con Tryz.prog 75 [.map (some b), .map (some d), .func (.func 76) #[] #[]] [tr b T, tr d U] [] Unit (fun _ => .bool (decide (T = U))) (fun _ => [tr b T, tr d U]) (fun _ => []) := by
 refine con func75 rfl ntmps75 rfl ?_;intro M0 F0 w0;refine k_ 9 ?_;refine ls (o_lenm underlying137 rfl Θ rfl) ?_;refine k_ 1 ?_;refine ls (o_lenm underlying137 rfl Θ rfl) ?_;refine k_ 3 ?_;refine cc rfl ?_ ?_
 ·intro h15;have hne : ¬ T.length = U.length := (by simp at h15; omega);have hTU : ¬ T = U := fun e => hne (congrArg List.length e);refine k_ 7 ?_;refine rret (is := [0, 0]) () (Or.inl rfl) (Res.t rfl Res.d) ?_ rfl Ω;simp [packV, hTU]
 ·intro h15;have hlen : T.length = U.length := (by simp at h15; omega);refine k_ 6 ?_;refine ls (o_mrange (i := 0) underlying137 rfl rfl rfl) ?_;refine le ?_; intro r17;refine k_ 3 ?_;refine cl (ι := {K : List File // ∀ x ∈ K, getT U x.1 = some x.2}) (fun i => St M0 F0 w0 38 [(1, .map (some d)), (2, .func (.func 76) #[] #[]), (17, pT r17)] [mit b r17 T i.1, tr d U] []) (fun i => T.length - (i.1).length) ⟨[], fun _ h => by cases h⟩ (wK [0, 0]) ?_;rintro ⟨K, hKU⟩;refine cmono (S' := St M0 F0 w0 38 [(1, .map (some d)), (2, .func (.func 76) #[] #[]), (17, pT r17)] [mit b r17 T K, tr d U] []) Ħ ?_;refine cs ?_;(try dsimp only at hKU);refine cpure (St.mit Θ) ?_;rintro ⟨hso, hKn, hKT⟩;refine cpure (St.tr (b := d) Θ) ?_;intro hsu;rcases Classical.em (∃ x ∈ T, x ∉ K) with hK | hK
  ·
   have hlt := nodup_lt hKn hKT hK;refine cr ?_;refine ls (o_mnextS (i := 0) rfl rfl hK rfl) ?_;refine le ?_; rintro ⟨⟨⟨k, l⟩, y⟩, hxT, hxK⟩;refine k_ 4 ?_;refine cc rfl (fun h => ?_) (fun h => by cases h);refine k_ 5 ?_;refine ls (o_mentry rfl Θ rfl) ?_;refine le ?_; rintro y20;refine k_ 10 ?_;refine ls (o_look underlying137 underlying9 zeroValue73 rfl rfl Θ rfl) ?_;refine le ?_; rintro y26;refine k_ 12 ?_;refine splitL 31 rfl ?_ ?_
   ·intro h31;have hTU : ¬ T = U := ne_of_one hso hxT (by have h := h31; simp only [Bool.not_eq_true'] at h; unfold hasT at h; dsimp only at h ⊢; intro e; rw [e] at h; cases h);refine k_ 8 ?_;refine cc rfl (fun h => ?_) (fun h => by cases h);refine k_ 7 ?_;refine nmono (conv (i := 0) rfl mit_tr) ?_;refine rret (is := [0, 0]) () (Or.inl rfl) (Res.t rfl Res.d) ?_ rfl Ω;simp [packV, hTU]
   ·intro h31;have hhas : hasT U k = true := (by have h := h31; simp only [Bool.not_eq_false'] at h; exact h);obtain ⟨lv, hlv⟩ := Option.isSome_iff_exists.1 hhas;have hgl : getL U k = lv := (by simp [getL, hlv]);refine k_ 3 ?_;refine lwant rfl rfl rfl rfl (o_callv (is := []) rfl call76 (c_lineSame l (getL U k) _ _ _ _ (hf _ hxT)) rfl rfl rfl Ω rfl) ?_;refine le ?_; intro x35;refine k_ 4 ?_;refine cc rfl ?_ ?_
    ·intro h37;have hlk : ¬ l = getL U k := (by simpa using h37);have hTU : ¬ T = U := ne_of_one hso hxT (by dsimp only; rw [hlv]; intro e; injection e with e; exact hlk (by rw [hgl, e]));refine k_ 7 ?_;refine nmono (conv (i := 0) rfl mit_tr) ?_;refine rret (is := [0, 0]) () (Or.inl rfl) (Res.t rfl Res.d) ?_ rfl Ω;simp [packV, hTU]
    ·intro h37;have hlk : l = getL U k := (by simpa using h37);refine k_ 2 ?_;refine nnext ⟨K ++ [(k, l)], fun x hx => by rcases List.mem_append.1 hx with hx | hx; exact hKU x hx; rw [List.mem_singleton.1 hx]; dsimp only; rw [hlv, hlk, hgl]⟩ (by dsimp only; simp; omega) (wK [0, 0])
  ·
   have hTU : T = U := eq_of_all hso hsu hlen fun x hx => hKU x (Classical.byContradiction fun h => hK ⟨x, hx, h⟩);refine cr ?_;refine ls (o_mnextN rfl Θ hK rfl) ?_;refine k_ 4 ?_;refine cc rfl (fun h => by cases h) (fun h => ?_);refine k_ 12 ?_;refine nmono (conv (i := 0) rfl mit_tr) ?_;refine rret (is := [0, 0]) () (Or.inl rfl) (Res.t rfl Res.d) ?_ rfl Ω;simp [packV, hTU]
theorem c_tSame (p b q d : Nat) (T U : List File) (hf : ∀ x ∈ T, x.2.length ≤ 2000000) : Con Tryz.prog 31 [pT p, pT q] [box p 139 [.map (some b)], tr b T, box q 139 [.map (some d)], tr d U] [] Unit (fun _ => .bool (decide (T = U))) (fun _ => [box p 139 [.map (some b)], tr b T, box q 139 [.map (some d)], tr d U]) (fun _ => []) := by
 refine con func31 rfl ntmps31 rfl ?_;intro M0 F0 w0;refine k_ 6 ?_;refine cd [8] [(3, p, 0, _), (7, q, 0, _)] TryzX.mixed (tB 1 (tB 1 TOk.d)) ?_;refine u_ 0 1 ?_;refine tk 1 rfl Ψ Υ gnone (TTany _) (p_nilck rfl) rfl ?_;refine u_ 2 3 ?_;refine tk 5 rfl Ψ Υ gnone (TTany _) (p_nilck rfl) rfl ?_;refine u_ 6 2 ?_;refine df 8 Ψ ?_;refine doR rfl (o_call (is := [1, 2]) call75 (c_mEq b d T U hf) rfl rfl Ω rfl) tX ?_;refine ea ?_; intro x13;refine u_ 9 1 ?_;refine dn Ψ ?_;refine k_ 3 ?_;exact rR [2, 0, 1, 0] ()
end Go.Proofs.YtbhnolfcdcpbkaaGreatDoor.X
end
section
namespace Go.Sx
open Go Go.RowKit
/-! Laws on trees, as they stand in memory and in the document. -/
theorem getT_put {T : List File} (h : Sor T) (k k' : ByteArray) (l : List ByteArray) : getT (putT T k l) k' = if k' = k then some l else getT T k' := by
 apply Option.ext;intro v;rw [getT_some (h.put k l), mem_putT]
 by_cases e : k' = k
 ·subst e;rw [if_pos rfl];constructor
  ·rintro (h1 | ⟨_, h2⟩)
   ·injection h1 with _ h1; rw [h1]
   ·exact absurd rfl h2
  ·intro h1; injection h1 with h1; subst h1; exact .inl rfl
 ·rw [if_neg e, getT_some h];constructor
  ·rintro (h1 | ⟨h1, _⟩)
   ·injection h1 with h1 _; exact absurd h1 e
   ·exact h1
  ·exact fun h1 => .inr ⟨h1, e⟩
theorem getT_del {T : List File} (h : Sor T) (k k' : ByteArray) : getT (delT T k) k' = if k' = k then none else getT T k' := by
 apply Option.ext;intro v;rw [getT_some (h.del k), mem_delT]
 by_cases e : k' = k
 ·subst e;rw [if_pos rfl];constructor
  ·rintro ⟨_, h2⟩; exact absurd rfl h2
  ·intro h1; cases h1
 ·rw [if_neg e, getT_some h];exact ⟨fun h1 => h1.1, fun h1 => ⟨h1, e⟩⟩
theorem getT_ext {T U : List File} (hT : Sor T) (hU : Sor U) (h : ∀ k, getT T k = getT U k) : T = U :=
 sor_ext hT hU fun x => by
  have := h x.1;rw [← getT_some (k := x.1) (l := x.2) hT, ← getT_some (k := x.1) (l := x.2) hU, this]
theorem hasT_no {T : List File} {k : ByteArray} (h : hasT T k = false) : getT T k = none := by
 unfold hasT at h;cases e : getT T k with
 | none => rfl
 | some v => rw [e] at h; cases h
theorem hasT_yes {T : List File} {k : ByteArray} (h : hasT T k = true) : getT T k = some (getL T k) := by
 unfold hasT at h;unfold getL;cases e : getT T k with
 | none => rw [e] at h; cases h
 | some v => rfl
theorem tRem_add {M : List File} {k : ByteArray} (hM : Sor M) (hh : hasT M k = false) : tRem (putT M k []) k = (M, 0) := by
 have h1 : getT (putT M k []) k = some [] := by rw [getT_put hM, if_pos rfl]
 have h2 : delT (putT M k []) k = M := getT_ext ((hM.put _ _).del _) hM fun u => by
  rw [getT_del (hM.put _ _), getT_put hM]
  by_cases e : u = k
  ·subst e; rw [if_pos rfl, hasT_no hh]
  ·rw [if_neg e, if_neg e]
 unfold tRem;rw [if_neg (by simp [hasT, h1]), if_neg (by simp [getL, h1]), h2]
theorem moved_get {M : List File} {a b : ByteArray} (hM : Sor M) (ha : hasT M a = true) (hb : hasT M b = false) (u : ByteArray) : getT (delT (putT M b (getL M a)) a) u = if u = a then none else if u = b then some (getL M a) else getT M u := by
 rw [getT_del (hM.put _ _), getT_put hM]
theorem moved_ne {M : List File} {a b : ByteArray} (ha : hasT M a = true) (hb : hasT M b = false) : ¬ b = a := fun e => by
 subst e; rw [ha] at hb; cases hb
theorem move_back {M : List File} {a b : ByteArray} (hM : Sor M) (hn : nameOk a = true) (ha : hasT M a = true) (hb : hasT M b = false) : tMove (delT (putT M b (getL M a)) a) b a = (M, 0) := by
 have hS : Sor (delT (putT M b (getL M a)) a) := (hM.put _ _).del _;have hne := moved_ne ha hb;have h1 : getT (delT (putT M b (getL M a)) a) b = some (getL M a) := by rw [moved_get hM ha hb, if_neg hne, if_pos rfl]
 have h2 : getT (delT (putT M b (getL M a)) a) a = none := by rw [moved_get hM ha hb, if_pos rfl]
 have h3 : getL (delT (putT M b (getL M a)) a) b = getL M a := by rw [getL, h1]; rfl
 unfold tMove;rw [if_neg (by simp [hasT, h1, hn]), if_neg (by simp [hasT, h2]), h3];have : delT (putT (delT (putT M b (getL M a)) a) a (getL M a)) b = M := getT_ext ((hS.put _ _).del _) hM fun u => by
  rw [getT_del (hS.put _ _), getT_put hS, moved_get hM ha hb]
  by_cases e : u = b
  ·subst e; rw [if_pos rfl, hasT_no hb]
  ·rw [if_neg e]
   by_cases e2 : u = a
   ·subst e2; rw [if_pos rfl, hasT_yes ha]
   ·rw [if_neg e2, if_neg e2, if_neg e]
 rw [this]
def Good (T : List File) : Prop := ∀ x ∈ T, nameOk x.1 = true ∧ x.2.all lineOk = true
theorem Good.get {T : List File} (h : Good T) (k : ByteArray) : (getL T k).all lineOk = true := by
 unfold getL getT;cases e : T.find? (fun x => decide (x.1 = k)) with
 | none => rfl
 | some x => simpa using (h x (List.mem_of_find?_eq_some e)).2
theorem Good.put {T : List File} (h : Good T) {k : ByteArray} {l : List ByteArray} (hk : nameOk k = true) (hl : l.all lineOk = true) : Good (putT T k l) := fun x hx => by
 rcases mem_putT.1 hx with rfl | ⟨h1, _⟩
 ·exact ⟨hk, hl⟩
 ·exact h x h1
theorem Good.del {T : List File} (h : Good T) (k : ByteArray) : Good (delT T k) := fun x hx => h x (mem_delT.1 hx).1
end Go.Sx
end
section
namespace Go.Proofs.YtbhnolfcdcpbkaaGreatDoor.X
open Go Go.RowKit Go.Proofs Go.Sx
attribute [local irreducible] slA isA box row TrL TrC TrN TrA Pu OpR
set_option maxHeartbeats 8000000
end Go.Proofs.YtbhnolfcdcpbkaaGreatDoor.X
end
section
namespace Go.Sx
open Go Go.RowKit
section
variable {ro : Option Nat} {P : Program} {M0 F0 : Nat → Prop} {w0 : World} {n : Nm} {σ : List (Nat × Value)} {Ξ : List Xsn} {Γ : List Asn} {d : Nat} {ty : TypeId} {pos : String} {af : Array Edge}
variable {ops : Array Oper} {Q : Exit → Act → World → Prop} {S S' : Act → World → Prop}
theorem slen {A : Option Addr} {m m' c : Nat} (h : m = m') : Value.slice A m c = Value.slice A m' c := by rw [h]
theorem run_app0 {w : World} {t e ty' : TypeId} {i0 : TypeInfo} {A B : Option Addr} {k c c' : Nat} (ht : P.underlying t = some (.slice e)) (hi : P.info? e = some i0) (hc : k ≤ c) :
  (Builtin.append_ #[t, t] ty' #[.slice A k c, .slice B 0 c']).run P w = .ok (.slice A k c) w := by
 cases A <;> cases B <;> simp [Builtin.append_, run_underlying ht, sizeOf, typeInfo, hi, Builtin.lenOf, Builtin.firstCells, hc, loadCells, loadCellsFrom, storeCells]
theorem p_app0 {T : World → Prop} {x y : Operand} {t e : TypeId} {A B : Option Addr} {k c c' : Nat} (ht : P.underlying t = some (.slice e)) (hi : ∃ i0, P.info? e = some i0) (hc : k ≤ c) (hx : ev σ x = some (.slice A k c)) (hy : ev σ y = some (.slice B 0 c')) :
  Pu P n σ T ⟨some d, .call ⟨.builtin .append, #[x, y], #[t, t]⟩, ty, pos, af, none⟩ (.slice A k c) := fun a hs w _ => by
 obtain ⟨i0, hi⟩ := hi;have h1 := hs.ev hx;have h2 := hs.ev hy;have hm : (#[x, y] : Array Operand).map a.eval = #[.slice A k c, .slice B 0 c'] := by simp [h1, h2]
 simp only [execOp, resolve, invoke, builtin, hm];simp [run_app0 ht hi hc]
theorem o_appX {α : Type} [Rp α] {x y : Operand} {t e : TypeId} {z : Value} {bytes : Nat} {A B : Option Addr} {c c' : Nat} {l m : List α} {i : Nat} {Ξ' : List Xsn}
  (ht : P.underlying t = some (.slice e)) (hinfo : (P.info? e).map (fun i => (i.zero, i.size, i.bytes)) = some (some z, Rp.size α, bytes)) (hzs : z.cells.size = Rp.size α) (hsz : 0 < Rp.size α) (hb0 : 0 < bytes)
  (hx : ev σ x = some (.slice A l.length c)) (hy : ev σ y = some (.slice B m.length c')) (hl : (l.length + m.length) * bytes ≤ 140737488355328) (hs : takeAll [i] Ξ = some ([row e A c l], Ξ')) (hg : Sub [slA B m] Γ) (hd : Nat.blt d n.n = true) :
  OpR P ⟨some d, .call ⟨.builtin .append, #[x, y], #[t, t]⟩, ty, pos, af, none⟩ (St M0 F0 w0 n σ Ξ Γ) (fun a w => ∃ q : Option Addr × Nat, St M0 F0 w0 n ((d, .slice q.1 (l ++ m).length q.2) :: σ) (row e q.1 q.2 (l ++ m) :: Ξ') Γ a w) := by
 by_cases hm : m = []
 ·subst hm;obtain ⟨i0, hi, _⟩ := info_parts hinfo;intro K Q a w hS hK;obtain ⟨hsl, Fs, hh⟩ := hS;obtain ⟨Gs, Hs, hp, h1, h2⟩ := hh.ex.takeAll hs;have hh' : Hp M0 F0 w0 (row e A c l :: Ξ') Γ (Gs ++ Hs) w := hh.re (fun b => (own_perm hp b).symm) (perm_pairwise hp hh.dis) (h1.append h2) hh.ga;have hle : l.length ≤ c := rowLe (i := 0) At.z (⟨hsl, _, hh'⟩ : St M0 F0 w0 n σ (row e A c l :: Ξ') Γ a w);have := op (M0 := M0) (F0 := F0) (w0 := w0) (Ξ := row e A c l :: Ξ') (Γ := Γ) (p_app0 (P := P) (n := n) (σ := σ) (T := Any) (d := d) (ty := ty) (pos := pos) (af := af) ht ⟨i0, hi⟩ hle hx hy) hd;refine this K Q a w ⟨hsl, _, hh'⟩ fun a' w' h => hK a' w' ⟨(A, c), ?_⟩
  simpa using h
 ·exact o_app ht hinfo hzs hsz hb0 hx hy hl (fun h => absurd h hm) hs hg hd
theorem o_appF {α : Type} [Rp α] {x y : Operand} {t e : TypeId} {z : Value} {bytes : Nat} {A B : Option Addr} {c c' : Nat} {l m : List α}
  (ht : P.underlying t = some (.slice e)) (hinfo : (P.info? e).map (fun i => (i.zero, i.size, i.bytes)) = some (some z, Rp.size α, bytes)) (hzs : z.cells.size = Rp.size α) (hsz : 0 < Rp.size α) (hb0 : 0 < bytes) (hc : c = l.length)
  (hx : ev σ x = some (.slice A l.length c)) (hy : ev σ y = some (.slice B m.length c')) (hl : (l.length + m.length) * bytes ≤ 140737488355328) (hm : m ≠ []) (hg : Sub [slA A l, slA B m] Γ) (hd : Nat.blt d n.n = true) :
  OpR P ⟨some d, .call ⟨.builtin .append, #[x, y], #[t, t]⟩, ty, pos, af, none⟩ (St M0 F0 w0 n σ Ξ Γ) (fun a w => ∃ q : Option Addr × Nat, St M0 F0 w0 n ((d, .slice q.1 (l ++ m).length q.2) :: σ) (row e q.1 q.2 (l ++ m) :: Ξ) Γ a w) := by
 cases A with
 | some A => exact o_appf ht hinfo hzs hsz hb0 hc hx hy hl (List.length_pos_iff.2 hm) hg hd
 | none =>
  intro K Q a w hS hK;have hmem := hg.mem (slA none l) (by simp);have hl0 : l = [] := by
   obtain ⟨_, Fs, hh⟩ := hS;have h1 := hh.ga _ hmem
   match l, h1 with
   | [], _ => rfl
   | x :: l, h1 =>
    obtain ⟨b, o, y, hA, _⟩ := h1 0 x rfl;cases hA
  subst hl0;subst hc;have := o_app (M0 := M0) (F0 := F0) (w0 := w0) (n := n) (σ := σ) (Ξ := row (α := α) e none 0 [] :: Ξ) (Γ := Γ) (Ξ' := Ξ) (is := [0]) (ty := ty) (pos := pos) (af := af) (A := none) (c := 0) (l := []) (m := m) ht hinfo hzs hsz hb0 hx hy hl (fun h => absurd h hm) rfl (Sub.mk fun p hp => hg.mem p (by simp at hp; simp [hp])) hd;exact this K Q a w (nilRow e hS) hK
end
theorem lpure {ro : Option Nat} {P : Program} {ops : Array Oper} {Q : Exit → Act → World → Prop} {S : Act → World → Prop} {l : List Oper} {φ : Prop} (h : ∀ a w, S a w → φ) (k : φ → TrL ro P ops Q S l) : TrL ro P ops Q S l := fun a w hS => k (h a w hS) a w hS
theorem take_eq_at {l m : List ByteArray} {k j : Nat} (hk : k + j < l.length) (hj : j < m.length) (h : (l.drop k).take m.length = m) : l[k + j] = m[j] := by
 have h1 : ((l.drop k).take m.length)[j]? = m[j]? := by rw [h]
 rw [List.getElem?_take_of_lt hj, List.getElem?_drop, List.getElem?_eq_getElem hk, List.getElem?_eq_getElem hj] at h1
 injection h1
theorem take_step {l m : List ByteArray} {k j : Nat} (hk : k + j < l.length) (hj : j < m.length) (h : (l.drop k).take j = m.take j) (e : l[k + j] = m[j]) : (l.drop k).take (j + 1) = m.take (j + 1) := by
 have hd : j < (l.drop k).length := by rw [List.length_drop]; omega
 rw [List.take_succ_eq_append_getElem hd, List.take_succ_eq_append_getElem hj, h, List.getElem_drop, e]
theorem slen2 {A : Option Addr} {m m' c c' : Nat} (h : m = m') (k : c = c') : Value.slice A m c = Value.slice A m' c' := by rw [h, k]
theorem emem (p q : Prop) : (p ∧ q) ∨ (p ∧ ¬ q) ∨ ¬ p := by
 by_cases p <;> by_cases q <;> simp [*]
theorem subP {α : Type} [Rp α] {M0 F0 : Nat → Prop} {w0 : World} {n : Nm} {σ : List (Nat × Value)} {Ξ : List Xsn} {Γ : List Asn} {A : Option Addr} {l : List α} {a : Act} {w : World} (k : Nat) (hg : In (slA A l) Γ) (hk : k ≤ l.length) (h : St M0 F0 w0 n σ Ξ Γ a w) :
  St M0 F0 w0 n σ Ξ (slA (if k = 0 then A else A.map (·.add (0 * Rp.size α))) (l.take k) :: Γ) a w := by
 obtain ⟨hs, Fs, hh⟩ := h;refine ⟨hs, Fs, { hh with ga := fun p hp => ?_ }⟩;rcases List.mem_cons.1 hp with rfl | hp
 ·by_cases hk0 : k = 0
  ·subst hk0;intro j x hj;simp at hj
  ·have := slA_sub (c := l.length) (hh.ga _ hg.mem) (Nat.zero_le k) hk (Nat.le_refl _);rw [if_neg (by omega), List.drop_zero, Nat.sub_zero] at this;rw [if_neg hk0];exact this
 ·exact hh.ga p hp
/-! Prims and trees. -/
def standsB (l : List ByteArray) (z : Int) (part : List ByteArray) : Bool := decide (0 ≤ z) && decide (z ≤ (l.length : Int)) && decide ((part.length : Int) ≤ (l.length : Int) - z) && decide ((l.drop z.toNat).take part.length = part)
def splT (l : List ByteArray) (z : Int) (old new : List ByteArray) : List ByteArray := if standsB l z old = true then l.take z.toNat ++ new ++ l.drop (z.toNat + old.length) else []
def fitT (q : List File × Int) : List File × Int := (q.1, if q.2 = 0 then 0 else 31)
def hunkT (T : List File) (p : Prim) : List File × Int :=
 if hasT T p.name = false ∨ standsB (getL T p.name) p.pos p.old = false then (T, 31) else fitT (tPut T p.name (splT (getL T p.name) p.pos p.old p.new))
def applyT (T : List File) (p : Prim) : List File × Int :=
 if p.right = false then (T, 30) else if p.kind = 0 then hunkT T p else if p.kind = 3 then fitT (tMove T p.name p.to) else if p.kind = 1 then fitT (tAdd T p.name) else fitT (tRem T p.name)
def rApplyT (T : List File) (p : Prim) : List File × Int :=
 if p.right = false then (T, 30)
 else if p.kind = 0 then (if hasT T p.name = true ∧ standsB (getL T p.name) p.pos p.old = true then (putT T p.name (splT (getL T p.name) p.pos p.old p.new), 0) else (T, 31))
 else if p.kind = 1 then (if hasT T p.name = false then (putT T p.name [], 0) else (T, 31))
 else if p.kind = 2 then (if hasT T p.name = true ∧ (getL T p.name).length = 0 then (delT T p.name, 0) else (T, 31))
 else if p.kind = 3 then (if hasT T p.name = true ∧ hasT T p.to = false then (putT (delT T p.name) p.to (getL T p.name), 0) else (T, 31))
 else (T, 31)
theorem stands_cases (l : List ByteArray) (z : Int) (part : List ByteArray) : (¬ 0 ≤ z) ∨ (0 ≤ z ∧ ¬ z ≤ (l.length : Int)) ∨ (0 ≤ z ∧ z ≤ (l.length : Int) ∧ ¬ (part.length : Int) ≤ (l.length : Int) - z) ∨ ∃ k : Nat, z = (k : Int) ∧ k + part.length ≤ l.length := by
 by_cases h1 : 0 ≤ z
 ·by_cases h2 : z ≤ (l.length : Int)
  ·by_cases h3 : (part.length : Int) ≤ (l.length : Int) - z
   ·exact .inr (.inr (.inr ⟨z.toNat, by omega, by omega⟩))
   ·exact .inr (.inr (.inl ⟨h1, h2, h3⟩))
  ·exact .inr (.inl ⟨h1, h2⟩)
 ·exact .inl h1
theorem standsB_nat {l part : List ByteArray} {k : Nat} (h : k + part.length ≤ l.length) : standsB l (k : Int) part = decide ((l.drop k).take part.length = part) := by
 unfold standsB;rw [decide_eq_true (by omega), decide_eq_true (by omega), decide_eq_true (by omega)];simp
theorem standsB_yes {l part : List ByteArray} {z : Int} (h : standsB l z part = true) : ∃ k : Nat, z = (k : Int) ∧ k + part.length ≤ l.length ∧ (l.drop k).take part.length = part := by
 unfold standsB at h;simp only [Bool.and_eq_true, decide_eq_true_eq] at h;obtain ⟨⟨⟨h1, h2⟩, h3⟩, h4⟩ := h;exact ⟨z.toNat, by omega, by omega, h4⟩
theorem splT_len {l old new : List ByteArray} {z : Int} : (splT l z old new).length ≤ l.length + new.length := by
 unfold splT
 split
 ·rename_i h
  obtain ⟨k, rfl, h1, _⟩ := standsB_yes h;simp only [List.length_append, List.length_take, List.length_drop, Int.toNat_natCast];omega
 ·simp
theorem right_kind {p : Prim} (h : p.right = true) : p.kind = 0 ∨ p.kind = 1 ∨ p.kind = 2 ∨ p.kind = 3 := by
 unfold Prim.right at h;rw [Bool.and_eq_true] at h;have h2 := h.2
 by_cases h0 : p.kind = 0
 ·exact .inl h0
 ·rw [if_neg h0] at h2
  by_cases h3 : p.kind = 3
  ·exact .inr (.inr (.inr h3))
  ·rw [if_neg h3] at h2;simp only [Bool.and_eq_true, Bool.or_eq_true, decide_eq_true_eq] at h2;rcases h2.2 with h | h
   ·exact .inr (.inl h)
   ·exact .inr (.inr (.inl h))
theorem right_name {p : Prim} (h : p.right = true) : nameOk p.name = true := by
 unfold Prim.right at h;rw [Bool.and_eq_true] at h;exact h.1
theorem right_new {p : Prim} (h : p.right = true) (h0 : p.kind = 0) : p.new.all lineOk = true := by
 unfold Prim.right at h;rw [Bool.and_eq_true, if_pos h0] at h;simp only [Bool.and_eq_true] at h;exact h.2.1.2
theorem right_to {p : Prim} (h : p.right = true) (h0 : p.kind = 3) : nameOk p.to = true := by
 unfold Prim.right at h;rw [Bool.and_eq_true, if_neg (by omega), if_pos h0] at h;simp only [Bool.and_eq_true] at h;exact h.2.1.2
theorem splT_ok {l old new : List ByteArray} {z : Int} (hl : l.all lineOk = true) (hn : new.all lineOk = true) : (splT l z old new).all lineOk = true := by
 unfold splT
 split
 ·rw [List.all_eq_true] at hl hn ⊢;intro x hx;rcases List.mem_append.1 hx with hx | hx
  ·rcases List.mem_append.1 hx with hx | hx
   ·exact hl x (List.mem_of_mem_take hx)
   ·exact hn x hx
  ·exact hl x (List.mem_of_mem_drop hx)
 ·rfl
theorem apply_eq {T : List File} (hS : Sor T) (hG : Good T) (p : Prim) : applyT T p = rApplyT T p := by
 unfold applyT rApplyT
 by_cases hr : p.right = false
 ·rw [if_pos hr, if_pos hr]
 ·have hr' : p.right = true := by simpa using hr
  rw [if_neg hr, if_neg hr];rcases right_kind hr' with h | h | h | h
  ·rw [if_pos h, if_pos h];unfold hunkT
   by_cases h1 : hasT T p.name = true
   ·by_cases h2 : standsB (getL T p.name) p.pos p.old = true
    ·rw [if_neg (by simp [h1, h2]), if_pos ⟨h1, h2⟩];unfold tPut;have h4 := splT_ok (z := p.pos) (old := p.old) (hG.get p.name) (right_new hr' h);rw [if_neg (by simp [h1]), if_neg (by simp only [h4]; simp)]
     rfl
    ·rw [if_pos (.inr (by simpa using h2)), if_neg (by simp [h2])]
   ·rw [if_pos (.inl (by simpa using h1)), if_neg (by simp [h1])]
  ·rw [if_neg (by omega), if_neg (by omega), if_pos h, if_neg (by omega), if_pos h];unfold tAdd;have hn := right_name hr';rw [if_neg (by simp [hn])]
   by_cases h1 : hasT T p.name = true
   ·rw [if_pos h1, if_neg (by simp [h1])]; rfl
   ·rw [if_neg h1, if_pos (by simpa using h1)]; rfl
  ·rw [if_neg (by omega), if_neg (by omega), if_neg (by omega), if_neg (by omega), if_neg (by omega), if_pos h];unfold tRem
   by_cases h1 : hasT T p.name = true
   ·rw [if_neg (by simp [h1])]
    by_cases h2 : 0 < (getL T p.name).length
    ·rw [if_pos h2, if_neg (by omega)]; rfl
    ·rw [if_neg h2, if_pos ⟨h1, by omega⟩]; rfl
   ·rw [if_pos (by simpa using h1), if_neg (by simp [h1])]; rfl
  ·rw [if_neg (by omega), if_pos h, if_neg (by omega), if_neg (by omega), if_neg (by omega), if_pos h, move_eq hS];unfold rMove;have hn := right_to hr' h
   by_cases h1 : hasT T p.name = true
   ·rw [if_neg (by simp [h1, hn])]
    by_cases h2 : hasT T p.to = true
    ·rw [if_pos h2, if_neg (by simp [h2])]; rfl
    ·rw [if_neg h2, if_pos ⟨h1, by simpa using h2⟩]; rfl
   ·rw [if_pos (.inl (by simpa using h1)), if_neg (by simp [h1])]; rfl
theorem rApply_sor {T : List File} (hS : Sor T) (p : Prim) : Sor (rApplyT T p).1 := by
 unfold rApplyT
 repeat' split
 all_goals first | exact hS | exact hS.put _ _ | exact hS.del _ | exact (hS.del _).put _ _
theorem rApply_good {T : List File} (hG : Good T) (p : Prim) : Good (rApplyT T p).1 := by
 unfold rApplyT
 by_cases hr : p.right = false
 ·rw [if_pos hr]; exact hG
 ·have hr' : p.right = true := by simpa using hr
  have hn := right_name hr';rw [if_neg hr]
  split
  ·rename_i h
   split
   ·exact hG.put hn (splT_ok (hG.get _) (right_new hr' h))
   ·exact hG
  ·split
   ·split
    ·exact hG.put hn rfl
    ·exact hG
   ·split
    ·split
     ·exact hG.del _
     ·exact hG
    ·split
     ·rename_i h
      split
      ·exact (hG.del _).put (right_to hr' h) (hG.get _)
      ·exact hG
     ·exact hG
end Go.Sx
end
section
namespace Go.Proofs.YtbhnolfcdcpbkaaGreatDoor.X
set_option maxRecDepth 100000
open Go Go.RowKit Go.Proofs Go.Sx
open Tryz
attribute [local irreducible] slA isA box row TrL TrC TrN TrA Pu OpR
set_option maxHeartbeats 8000000
theorem inf9x : ∃ i0, Tryz.prog.info? 9 = some i0 := by
 obtain ⟨i0, h, _⟩ := info_parts inf9;exact ⟨i0, h⟩
theorem c_lineStands (l part : List ByteArray) (A B : Option Addr) (c c' : Nat) (z : Int) (hl : l.length ≤ 2000000) (hp : part.length ≤ 2000000) (hc : l.length ≤ c) : Con Tryz.prog 231 [.slice A l.length c, .int .i64 z, .slice B part.length c'] [] [slA A l, slA B part] Unit (fun _ => .bool (standsB l z part)) (fun _ => []) (fun _ => []) := by
 refine con func231 rfl ntmps231 rfl ?_;intro M0 F0 w0;refine k_ 6 ?_;rcases stands_cases l z part with h1 | ⟨h1, h2⟩ | ⟨h1, h2, h3⟩ | ⟨k, rfl, h4⟩
 ·
  refine k_ 3 ?_;refine fixL (congrArg Value.bool (decide_eq_false h1)) ?_;refine k_ 31 ?_;refine rret (is := []) () (Or.inl rfl) (Res.t rfl Res.d) ?_ rfl Ω;simp [packV, standsB, h1]
 ·
  refine k_ 3 ?_;refine fixL (congrArg Value.bool (decide_eq_true h1)) ?_;refine k_ 5 ?_;refine fixL (congrArg Value.bool (decide_eq_false h2)) ?_;refine k_ 26 ?_;refine rret (is := []) () (Or.inl rfl) (Res.t rfl Res.d) ?_ rfl Ω;simp [packV, standsB, h2]
 ·
  refine k_ 3 ?_;refine fixL (congrArg Value.bool (decide_eq_true h1)) ?_;refine k_ 5 ?_;refine fixL (congrArg Value.bool (decide_eq_true h2)) ?_;refine k_ 9 ?_;refine fixL (congrArg Value.bool (decide_eq_false h3)) ?_;refine k_ 17 ?_;refine rret (is := []) () (Or.inl rfl) (Res.t rfl Res.d) ?_ rfl Ω;simp only [packV, standsB]; rw [decide_eq_false h3]; simp
 ·
  refine cmono (fun a w h => subS (l' := (l.drop k).take part.length) (c := c) k (k + part.length) (by repeat (first | exact In.z | apply In.s)) (by omega) (by omega) hc (by simp) h) ?_;refine k_ 3 ?_;refine fixL (congrArg Value.bool (decide_eq_true (by omega))) ?_;refine k_ 5 ?_;refine fixL (congrArg Value.bool (decide_eq_true (by omega))) ?_;refine k_ 9 ?_;refine fixL (congrArg Value.bool (decide_eq_true (by omega))) ?_;refine k_ 8 ?_;refine lwant rfl rfl rfl rfl (op (p_sl k (k + part.length) (by omega) (by omega) rfl (by omega) underlying73 sizeOf9 rfl rfl rfl) rfl) ?_;refine fixL (slen (m' := ((l.drop k).take part.length).length) (by rw [List.length_take, List.length_drop]; omega)) ?_;refine k_ 1 ?_;refine lwant rfl rfl rfl rfl (o_call (is := []) call76 (c_lineSame ((l.drop k).take part.length) part _ _ _ _ (by rw [List.length_take]; omega)) rfl rfl Ω rfl) ?_;refine le ?_; intro x33;refine k_ 6 ?_;refine rret (is := []) () (Or.inl rfl) (Res.t rfl Res.d) ?_ rfl Ω;rw [standsB_nat h4]; rfl
theorem c_lineSplice (l old wi : List ByteArray) (A B C : Option Addr) (c c' c2 : Nat) (z : Int) (hl : l.length ≤ 2000000) (ho : old.length ≤ 2000000) (hw : l.length + wi.length ≤ 2000000) (hc : l.length ≤ c) : Con Tryz.prog 196 [.slice A l.length c, .int .i64 z, .slice B old.length c', .slice C wi.length c2] [] [slA A l, slA B old, slA C wi] (Option Addr × Nat) (fun y => .tuple #[.slice y.1 (splT l z old wi).length y.2, .bool (standsB l z old)]) (fun y => [row 9 y.1 y.2 (splT l z old wi)]) (fun _ => []) := by
 refine con func196 rfl ntmps196 rfl ?_;intro M0 F0 w0;refine k_ 12 ?_;refine lC [] call231 (c_lineStands l old A B c c' z hl ho hc) ?_; intro x13;refine k_ 3 ?_;refine cc rfl ?_ ?_
 ·intro h14;have hst : standsB l z old = false := (by simpa using h14);have hsp : splT l z old wi = [] := (by simp [splT, hst]);rw [hsp, hst];refine cmono (fun a w h => nilRow (α := ByteArray) 9 h) ?_;refine k_ 8 ?_;exact rR [0] (none, 0)
 ·intro h14;have hst : standsB l z old = true := (by simpa using h14);obtain ⟨k, rfl, hko, _⟩ := standsB_yes hst;have hsp : splT l (k : Int) old wi = l.take k ++ wi ++ l.drop (k + old.length) := (by unfold splT; rw [if_pos hst]; rfl);rw [hsp, hst];have hlk : (l.take k).length = k := (by rw [List.length_take]; omega);have hld : (l.drop (k + old.length)).length = l.length - (k + old.length) := List.length_drop;refine k_ 3 ?_;refine cmono (fun a w h => subP (α := ByteArray) k (by repeat (first | exact In.z | apply In.s)) (by omega) h) ?_;refine cmono (fun a w h => subS (l' := l.drop (k + old.length)) (c := c) (k + old.length) l.length (by repeat (first | exact In.z | apply In.s)) (by omega) (Nat.le_refl _) hc (by rw [List.take_of_length_le (by simp)]) h) ?_;rcases emem (wi = []) (l.drop (k + old.length) = []) with ⟨hwi, hdr⟩ | ⟨hwi, hdr⟩ | hwi
  ·
   have hR : l.take k ++ wi ++ l.drop (k + old.length) = l.take k := (by rw [hwi, hdr]; simp);have hw0 : wi.length = 0 := (by rw [hwi]; rfl);have hd0 : l.length - (k + old.length) = 0 := (by rw [← hld, hdr]; rfl);refine cd [5, 12, 13] [] TryzX.mixed TOk.d ?_;refine u_ 0 3 ?_;refine tk 3 rfl Ψ Υ gnone (TTany _) (p_slm k k (Nat.le_refl _) (by omega) rfl rfl underlying73 sizeOf9 rfl rfl rfl) rfl ?_;refine fixA (slen2 (m' := (l.take k).length) (c' := (l.take k).length) (by omega) (by omega)) ?_;refine u_ 4 1 ?_;refine fixA (slen (m' := 0) hw0) ?_;refine u_ 6 5 ?_;refine tk 11 rfl Ψ Υ gnone (TTany _) (p_sll (k + old.length) (by omega) (by omega) (by omega) underlying73 sizeOf9 rfl rfl) rfl ?_;refine fixA (slen (m' := 0) (by omega)) ?_;refine df 5 Ψ ?_;refine doR rfl (op (p_app0 underlying73 inf9x (Nat.le_refl _) rfl rfl) rfl) TOk.d ?_;refine df 12 Ψ ?_;refine doR rfl (op (p_app0 underlying73 inf9x (Nat.le_refl _) rfl rfl) rfl) TOk.d ?_;refine df 13 Ψ ?_;refine doR rfl (o_call (is := []) call165 (c_sCloneR (l.take k) _ _ (by omega)) rfl rfl Ω rfl) TOk.d ?_;refine ea ?_; rintro ⟨A5, c5⟩;refine u_ 14 2 ?_;refine dn Ψ ?_;refine k_ 3 ?_;rw [hR];exact rR [0] (A5, c5)
  ·
   have hR : l.take k ++ wi ++ l.drop (k + old.length) = l.take k ++ l.drop (k + old.length) := (by rw [hwi]; simp);have hw0 : wi.length = 0 := (by rw [hwi]; rfl);refine cd [5, 12, 13] [] TryzX.mixed TOk.d ?_;refine u_ 0 3 ?_;refine tk 3 rfl Ψ Υ gnone (TTany _) (p_slm k k (Nat.le_refl _) (by omega) rfl rfl underlying73 sizeOf9 rfl rfl rfl) rfl ?_;refine fixA (slen2 (m' := (l.take k).length) (c' := (l.take k).length) (by omega) (by omega)) ?_;refine u_ 4 1 ?_;refine fixA (slen (m' := 0) hw0) ?_;refine u_ 6 5 ?_;refine tk 11 rfl Ψ Υ gnone (TTany _) (p_sll (k + old.length) (by omega) (by omega) (by omega) underlying73 sizeOf9 rfl rfl) rfl ?_;refine fixA (slen (m' := (l.drop (k + old.length)).length) (by omega)) ?_;refine df 5 Ψ ?_;refine doR rfl (op (p_app0 underlying73 inf9x (Nat.le_refl _) rfl rfl) rfl) TOk.d ?_;refine df 12 Ψ ?_;refine doR rfl (o_appF underlying73 inf9 rfl (by decide) (by decide) rfl rfl rfl (by rw [hlk, hld]; omega) hdr Ω rfl) TOk.d ?_;refine ea ?_; rintro ⟨A4, c4⟩;refine amono (fun a w h => Go.Sx.freeze (i := 0) rfl h) ?_;refine df 13 Ψ ?_;refine doR rfl (o_call (is := []) call165 (c_sCloneR (l.take k ++ l.drop (k + old.length)) A4 c4 (by rw [List.length_append]; omega)) rfl rfl Ω rfl) TOk.d ?_;refine ea ?_; rintro ⟨A5, c5⟩;refine u_ 14 2 ?_;refine dn Ψ ?_;refine k_ 3 ?_;rw [hR];exact rR [0] (A5, c5)
  ·
   have hR : l.take k ++ wi ++ l.drop (k + old.length) = l.take k ++ wi ++ l.drop (k + old.length) := rfl;refine cd [5, 12, 13] [] TryzX.mixed TOk.d ?_;refine u_ 0 3 ?_;refine tk 3 rfl Ψ Υ gnone (TTany _) (p_slm k k (Nat.le_refl _) (by omega) rfl rfl underlying73 sizeOf9 rfl rfl rfl) rfl ?_;refine fixA (slen2 (m' := (l.take k).length) (c' := (l.take k).length) (by omega) (by omega)) ?_;refine u_ 4 1 ?_
   skip
   refine u_ 6 5 ?_;refine tk 11 rfl Ψ Υ gnone (TTany _) (p_sll (k + old.length) (by omega) (by omega) (by omega) underlying73 sizeOf9 rfl rfl) rfl ?_;refine fixA (slen (m' := (l.drop (k + old.length)).length) (by omega)) ?_;refine df 5 Ψ ?_;refine doR rfl (o_appF underlying73 inf9 rfl (by decide) (by decide) rfl rfl rfl (by rw [hlk]; omega) hwi Ω rfl) TOk.d ?_;refine ea ?_; rintro ⟨A3, c3⟩;refine df 12 Ψ ?_;refine doR rfl (o_appX (i := 0) underlying73 inf9 rfl (by decide) (by decide) rfl rfl (by rw [List.length_append, hlk, hld]; omega) rfl Ω rfl) TOk.d ?_;refine ea ?_; rintro ⟨A4, c4⟩;refine amono (fun a w h => Go.Sx.freeze (i := 0) rfl h) ?_;refine df 13 Ψ ?_;refine doR rfl (o_call (is := []) call165 (c_sCloneR (l.take k ++ wi ++ l.drop (k + old.length)) A4 c4 (by rw [List.length_append, List.length_append]; omega)) rfl rfl Ω rfl) TOk.d ?_;refine ea ?_; rintro ⟨A5, c5⟩;refine u_ 14 2 ?_;refine dn Ψ ?_;refine k_ 3 ?_;exact rR [0] (A5, c5)
theorem c_pFits (e : Int) : Con Tryz.prog 144 [.int .i64 e] [] [] Unit (fun _ => .int .i64 (if e = 0 then 0 else 31)) (fun _ => []) (fun _ => []) := by
 refine con func144 rfl ntmps144 rfl ?_;intro M0 F0 w0;refine k_ 12 ?_;refine cc rfl ?_ ?_
 ·intro h4;have he : ¬ e = 0 := (by simpa using h4);refine k_ 7 ?_;refine rret (is := []) () (Or.inl rfl) (Res.t rfl Res.d) ?_ rfl Ω;rw [if_neg he]; rfl
 ·intro h4;have he : e = 0 := (by simpa using h4);refine k_ 9 ?_;refine rret (is := []) () (Or.inl rfl) (Res.t rfl Res.d) ?_ rfl Ω;rw [if_pos he]; rfl
theorem c_pCalls : Con Tryz.prog 146 [] [] [] Nat (fun b => .map (some b)) (fun b => [obj b (.map #[{ key := .int .i64 1, val := .func (.func 199) #[] #[], born := 0 }, { key := .int .i64 2, val := .func (.func 200) #[] #[], born := 1 }] 2)]) (fun _ => []) := by
 refine con func146 rfl ntmps146 rfl ?_;intro M0 F0 w0;refine k_ 7 ?_;refine ls (o_mmkx rfl) ?_;refine le ?_; intro m1;refine ls (o_insx underlying215 underlying3 rfl rfl rfl rfl Θ Θ) ?_;refine ls (o_insx underlying215 underlying3 rfl rfl rfl rfl Θ Θ) ?_;refine k_ 6 ?_;exact rR [0] m1
theorem c_pHunk (p b : Nat) (T : List File) (pr : Prim) (y : Rp.Lay Prim) (hp : pr.fit) (hT : Tfit T) (hb : ∀ u, (getL T u).length + pr.new.length ≤ 2000000) : Con Tryz.prog 143 [pT p, sv pr y] [box p 139 [.map (some b)], tr b T] (Rp.asn pr y) {q : List File × Int // q = hunkT T pr} (fun q => .int .i64 q.1.2) (fun q => [box p 139 [.map (some b)], tr b q.1.1]) (fun _ => []) := by
 refine con func143 rfl ntmps143 rfl ?_;intro M0 F0 w0;refine k_ 2 ?_;refine ls (o_box rfl rfl rfl) ?_;refine le ?_; intro b3;refine k_ 8 ?_;refine lC [1, 1] call116 (c_tGet p b T hT pr.name) ?_; rintro ⟨A1, c1⟩;refine lpure (St.rowcap (α := ByteArray) (e := 9) Θ) ?_;intro hcap;refine lmono (fun a w h => freezeN (i := 0) rfl h) ?_;refine k_ 16 ?_;refine lC [] call196 (c_lineSplice (getL T pr.name) pr.old pr.new A1 y.1.1 y.2.1 c1 y.1.2 y.2.2 pr.pos (hT.get _) hp.o (hb _) hcap) ?_; rintro ⟨A2, c2⟩;refine lmono (fun a w h => freezeN (i := 0) rfl h) ?_;refine k_ 13 ?_;refine splitL 29 rfl ?_ ?_
 ·intro h29;have hno : hasT T pr.name = false := (by simpa using h29);refine k_ 5 ?_;refine cc rfl (fun h => ?_) (fun h => by cases h);refine k_ 7 ?_;exact rR [0, 0] ⟨(T, 31), by simp [hunkT, hno]⟩
 ·intro h29;have hyes : hasT T pr.name = true := (by simpa using h29);refine k_ 5 ?_;refine cc rfl ?_ ?_
  ·intro h32;have hst : standsB (getL T pr.name) pr.pos pr.old = false := (by simpa using h32);refine k_ 7 ?_;exact rR [0, 0] ⟨(T, 31), by simp [hunkT, hst]⟩
  ·intro h32;have hst : standsB (getL T pr.name) pr.pos pr.old = true := (by simpa using h32);refine k_ 8 ?_;refine lC [0, 0] call197 (c_tPut p b T pr.name (splT (getL T pr.name) pr.pos pr.old pr.new) A2 c2 (Nat.le_trans splT_len (hb _))) ?_; rintro ⟨⟨T1, e1⟩, hq⟩;refine lC [] call144 (c_pFits e1) ?_; intro x38;refine k_ 5 ?_;exact rR [0, 0] ⟨(T1, if e1 = 0 then 0 else 31), by unfold hunkT; rw [if_neg (show ¬ (hasT T pr.name = false ∨ standsB (getL T pr.name) pr.pos pr.old = false) by simp [hyes, hst]), ← hq]; rfl⟩
theorem c_pApply (p b : Nat) (T : List File) (pr : Prim) (y : Rp.Lay Prim) (hp : pr.fit) (hT : Tfit T) (hb : ∀ u, (getL T u).length + pr.new.length ≤ 2000000) : Con Tryz.prog 90 [pT p, sv pr y] [box p 139 [.map (some b)], tr b T] (Rp.asn pr y) {q : List File × Int // q = applyT T pr} (fun q => .int .i64 q.1.2) (fun q => [box p 139 [.map (some b)], tr b q.1.1]) (fun _ => []) := by
 refine con func90 rfl ntmps90 rfl ?_;intro M0 F0 w0;refine k_ 2 ?_;refine ls (o_box rfl rfl rfl) ?_;refine le ?_; intro b3;refine k_ 7 ?_;refine ls (o_ldw isAgg103 sizeOf103 rfl Θ (by rfl) rfl) ?_;refine lC [] call142 (c_primRight pr y hp) ?_; intro x7;refine k_ 4 ?_;refine cc rfl ?_ ?_
 ·intro h5;have hr : pr.right = false := (by simpa using h5);refine k_ 7 ?_;exact rR [1, 1] ⟨(T, 30), by simp [applyT, hr]⟩
 ·intro h5;have hr : pr.right = true := (by simpa using h5);have hr0 : ¬ pr.right = false := (by rw [hr]; decide);refine k_ 8 ?_;refine cc rfl ?_ ?_
  ·intro h9;have k0 : pr.kind = 0 := (by simpa using h9);refine k_ 3 ?_;refine ls (o_ldw isAgg103 sizeOf103 rfl Θ (by rfl) rfl) ?_;refine lC [1, 1] call143 (c_pHunk p b T pr y hp hT hb) ?_; rintro ⟨⟨T1, e1⟩, hq⟩;refine k_ 5 ?_;exact rR [0, 0] ⟨(T1, e1), by unfold applyT; rw [if_neg hr0, if_pos k0]; exact hq⟩
  ·intro h9;have k0 : ¬ pr.kind = 0 := (by simpa using h9);refine k_ 8 ?_;refine cc rfl ?_ ?_
   ·intro h16;have k3 : pr.kind = 3 := (by simpa using h16);refine k_ 7 ?_;refine lC [1, 1] call145 (c_tMove p b T pr.name pr.to) ?_; rintro ⟨⟨T1, e1⟩, hq⟩;refine lC [] call144 (c_pFits e1) ?_; intro x26;refine k_ 5 ?_;exact rR [0, 0] ⟨(T1, if e1 = 0 then 0 else 31), by unfold applyT; rw [if_neg hr0, if_neg k0, if_pos k3, ← hq]; rfl⟩
   ·intro h16;have k3 : ¬ pr.kind = 3 := (by simpa using h16);refine k_ 4 ?_;have h12 : pr.kind = 1 ∨ pr.kind = 2 := (by rcases right_kind hr with h | h | h | h; exact absurd h k0; exact .inl h; exact .inr h; exact absurd h k3);rcases h12 with k1 | k1
    ·
     refine cd [0, 3, 7, 8] [(2, b3, 0, _), (6, b3, 1, _)] TryzX.mixed (tB 1 (tB 1 TOk.d)) ?_;refine u_ 1 2 ?_;refine fixA (congrArg (Value.int .i64) k1) ?_;refine u_ 4 3 ?_;refine df 0 Ψ ?_;refine doR rfl (o_call (is := []) call146 (c_pCalls) rfl rfl Ω rfl) (TOk.t (isBoxE fun _ => isBoxS Θ (k := 1) Δ) (TOk.t (isBoxE fun _ => isBoxS Θ (k := 1) Δ) TOk.d)) ?_;refine ea ?_; intro bm;refine df 3 Ψ ?_;refine doR rfl (o_lookx underlying215 underlying3 rfl rfl Θ (rfl) rfl) (TOk.x Ψ (tB 1 TOk.d)) ?_;refine df 7 Ψ ?_;refine doR rfl (o_callv (is := [2, 2]) rfl call199 (c_tAdd p b T pr.name) rfl rfl rfl Ω rfl) tX ?_;refine ea ?_; rintro ⟨⟨T1, e1⟩, hq⟩;refine df 8 Ψ ?_;refine doR rfl (o_call (is := []) call144 (c_pFits e1) rfl rfl Ω rfl) tX ?_;refine ea ?_; intro x35;refine u_ 9 1 ?_;refine dn Ψ ?_;refine k_ 3 ?_;exact rR [0, 0] ⟨(T1, if e1 = 0 then 0 else 31), by unfold applyT; rw [if_neg hr0, if_neg k0, if_neg k3, if_pos k1, ← hq]; rfl⟩
    ·
     refine cd [0, 3, 7, 8] [(2, b3, 0, _), (6, b3, 1, _)] TryzX.mixed (tB 1 (tB 1 TOk.d)) ?_;refine u_ 1 2 ?_;refine fixA (congrArg (Value.int .i64) k1) ?_;refine u_ 4 3 ?_;refine df 0 Ψ ?_;refine doR rfl (o_call (is := []) call146 (c_pCalls) rfl rfl Ω rfl) (TOk.t (isBoxE fun _ => isBoxS Θ (k := 1) Δ) (TOk.t (isBoxE fun _ => isBoxS Θ (k := 1) Δ) TOk.d)) ?_;refine ea ?_; intro bm;refine df 3 Ψ ?_;refine doR rfl (o_lookx underlying215 underlying3 rfl rfl Θ (rfl) rfl) (TOk.x Ψ (tB 1 TOk.d)) ?_;refine df 7 Ψ ?_;refine doR rfl (o_callv (is := [2, 2]) rfl call200 (c_tRem p b T pr.name) rfl rfl rfl Ω rfl) tX ?_;refine ea ?_; rintro ⟨⟨T1, e1⟩, hq⟩;refine df 8 Ψ ?_;refine doR rfl (o_call (is := []) call144 (c_pFits e1) rfl rfl Ω rfl) tX ?_;refine ea ?_; intro x35;refine u_ 9 1 ?_;refine dn Ψ ?_;refine k_ 3 ?_;exact rR [0, 0] ⟨(T1, if e1 = 0 then 0 else 31), by unfold applyT; rw [if_neg hr0, if_neg k0, if_neg k3, if_neg (show ¬ pr.kind = 1 by omega), ← hq]; rfl⟩
theorem c_rSplice (l old wi : List ByteArray) (A B C : Option Addr) (c c' c2 : Nat) (z : Int) (hl : l.length ≤ 2000000) (ho : old.length ≤ 2000000) (hw : l.length + wi.length ≤ 2000000) (hc : l.length ≤ c) : Con Tryz.prog 186 [.slice A l.length c, .int .i64 z, .slice B old.length c', .slice C wi.length c2] [] [slA A l, slA B old, slA C wi] (Option Addr × Nat) (fun y => .tuple #[.slice y.1 (splT l z old wi).length y.2, .bool (standsB l z old)]) (fun y => [row 9 y.1 y.2 (splT l z old wi)]) (fun _ => []) := by
 refine con func186 rfl ntmps186 rfl ?_;intro M0 F0 w0;refine k_ 8 ?_;rcases stands_cases l z old with h1 | ⟨h1, h2⟩ | ⟨h1, h2, h3⟩ | ⟨k, rfl, h4⟩
 ·
  have hst : standsB l z old = false := (by simp [standsB, h1]);refine k_ 3 ?_;refine fixL (congrArg Value.bool (decide_eq_true (by omega))) ?_;refine k_ 17 ?_;refine cc rfl (fun h => ?_) (fun h => by cases h);refine cs ?_;have hsp : splT l z old wi = [] := (by simp [splT, hst]);rw [hsp, hst];refine cmono (fun a w h => nilRow (α := ByteArray) 9 h) ?_;refine k_ 7 ?_;exact rR [0] (none, 0)
 ·
  have hst : standsB l z old = false := (by simp [standsB, h2]);refine k_ 3 ?_;refine fixL (congrArg Value.bool (decide_eq_false (by omega))) ?_;refine k_ 5 ?_;refine fixL (congrArg Value.bool (decide_eq_true (by omega))) ?_;refine k_ 12 ?_;refine cc rfl (fun h => ?_) (fun h => by cases h);refine cs ?_;have hsp : splT l z old wi = [] := (by simp [splT, hst]);rw [hsp, hst];refine cmono (fun a w h => nilRow (α := ByteArray) 9 h) ?_;refine k_ 7 ?_;exact rR [0] (none, 0)
 ·
  have hst : standsB l z old = false := (by simp only [standsB]; rw [decide_eq_false h3]; simp);refine k_ 3 ?_;refine fixL (congrArg Value.bool (decide_eq_false (by omega))) ?_;refine k_ 5 ?_;refine fixL (congrArg Value.bool (decide_eq_false (by omega))) ?_;refine k_ 9 ?_;refine fixL (congrArg Value.bool (decide_eq_true (by omega))) ?_;refine k_ 3 ?_;refine cc rfl (fun h => ?_) (fun h => by cases h);refine cs ?_;have hsp : splT l z old wi = [] := (by simp [splT, hst]);rw [hsp, hst];refine cmono (fun a w h => nilRow (α := ByteArray) 9 h) ?_;refine k_ 7 ?_;exact rR [0] (none, 0)
 ·
  have hlk : (l.take k).length = k := (by rw [List.length_take]; omega);have hld : (l.drop (k + old.length)).length = l.length - (k + old.length) := List.length_drop;refine k_ 3 ?_;refine fixL (congrArg Value.bool (decide_eq_false (by omega))) ?_;refine k_ 5 ?_;refine fixL (congrArg Value.bool (decide_eq_false (by omega))) ?_;refine k_ 9 ?_;refine fixL (congrArg Value.bool (decide_eq_false (by omega))) ?_;refine k_ 3 ?_;refine cc rfl (fun h => by cases h) (fun h => ?_);refine k_ 9 ?_;refine cl (ι := {q : Nat // q ≤ old.length ∧ (l.drop k).take q = old.take q}) (fun i => St M0 F0 w0 62 [(0, .slice A l.length c), (1, .int .i64 (k : Int)), (2, .slice B old.length c'), (3, .slice C wi.length c2), (10, .int .i64 (i.1 : Int))] [] [slA A l, slA B old, slA C wi]) (fun i => old.length - i.1) ⟨0, Nat.zero_le _, rfl⟩ (wk0 Φ Ω) ?_;rintro ⟨j, hj, he⟩;refine cmono (S' := St M0 F0 w0 62 [(0, .slice A l.length c), (1, .int .i64 (k : Int)), (2, .slice B old.length c'), (3, .slice C wi.length c2), (10, .int .i64 (j : Int))] [] [slA A l, slA B old, slA C wi]) Ħ ?_;refine k_ 9 ?_;refine cc rfl ?_ ?_
  ·intro h32;(try dsimp only at hj he);(try simp only [nrmZ] at h32);have hj1 : j < old.length := (by omega);have hj2 : k + j < l.length := (by omega);refine k_ 5 ?_;refine elC Θ (k + j) (List.getElem?_eq_getElem (l := l) hj2) ?_; rintro zbp zop zyp hAp;refine elC Θ j (List.getElem?_eq_getElem (l := old) hj1) ?_; rintro zbq zoq zyq hAq;refine cd [] [(5, zbp, zop + (k + j) * Rp.size ByteArray, _), (9, zbq, zoq + j * Rp.size ByteArray, _)] TryzX.mixed (TOk.t (isInS Θ (k := 0) rfl (z := 1) Δ) (TOk.t (isInS Θ (k := 0) rfl (z := 1) Δ) TOk.d)) ?_;refine u_ 0 4 ?_;refine tk 4 rfl Ψ Υ gnone (TTany _) (p_ia (k + j) hAp hj2 (by omega) underlying73 sizeOf9 rfl rfl) rfl ?_;refine u_ 5 3 ?_;refine tk 8 rfl Ψ Υ gnone (TTany _) (p_ia j hAq hj1 rfl underlying73 sizeOf9 rfl rfl) rfl ?_;refine u_ 9 2 ?_;refine dn Ψ ?_;refine k_ 1 ?_;refine cc rfl ?_ ?_
   ·intro h45;have hne : ¬ l[k + j] = old[j] := (by simpa using h45);have hst : standsB l (k : Int) old = false := (by rw [standsB_nat h4]; exact decide_eq_false fun e => hne (take_eq_at hj2 hj1 e));have hsp : splT l (k : Int) old wi = [] := (by simp [splT, hst]);rw [hsp, hst];refine cmono (fun a w h => nilRow (α := ByteArray) 9 h) ?_;refine k_ 8 ?_;exact rR [0] (none, 0)
   ·intro h45;have heq : l[k + j] = old[j] := (by simpa using h45);refine k_ 8 ?_;refine nnext ⟨j + 1, hj1, take_step hj2 hj1 he heq⟩ (by dsimp only; omega) (wk0 Φ Ω)
  ·intro h32;(try dsimp only at hj he);(try simp only [nrmZ] at h32);obtain rfl : j = old.length := (by omega);rw [List.take_length] at he;have hst : standsB l (k : Int) old = true := (by rw [standsB_nat h4, decide_eq_true he]);have hsp : splT l (k : Int) old wi = l.take k ++ wi ++ l.drop (k + old.length) := (by unfold splT; rw [if_pos hst]; rfl);rw [hsp, hst];refine k_ 6 ?_;refine cmono (fun a w h => subS (l' := l.take k) (c := c) 0 k (by repeat (first | exact In.z | apply In.s)) (by omega) (by omega) hc (by simp) h) ?_;refine cmono (fun a w h => subS (l' := l.drop (k + old.length)) (c := c) (k + old.length) l.length (by repeat (first | exact In.z | apply In.s)) (by omega) (Nat.le_refl _) hc (by rw [List.take_of_length_le (by simp)]) h) ?_;refine cr ?_;refine ls (o_bsl ([] : List ByteArray) underlying73 sizeOf9 zeroValue9 rfl Enum.d RV.d rfl (by decide) (by decide) rfl) ?_;refine le ?_; intro b46;refine k_ 2 ?_;refine ls (op (p_slh k (by omega) rfl underlying73 sizeOf9 rfl rfl) rfl) ?_;refine fixL (slen (m' := (l.take k).length) (by omega)) ?_;refine ls (o_appX (i := 0) underlying73 inf9 rfl (by decide) (by decide) rfl rfl (by rw [hlk]; simp only [List.length_nil]; omega) rfl Ω rfl) ?_;refine le ?_; rintro ⟨A5, c5⟩;rw [List.nil_append];refine k_ 7 ?_;refine ls (o_appX (i := 0) underlying73 inf9 rfl (by decide) (by decide) rfl rfl (by rw [hlk]; omega) rfl Ω rfl) ?_;refine le ?_; rintro ⟨A6, c6⟩;refine k_ 11 ?_;refine ls (op (p_sll (k + old.length) (by omega) (by omega) (by omega) underlying73 sizeOf9 rfl rfl) rfl) ?_;refine fixL (slen (m' := (l.drop (k + old.length)).length) (by omega)) ?_;refine ls (o_appX (i := 0) underlying73 inf9 rfl (by decide) (by decide) rfl rfl (by rw [List.length_append, hlk, hld]; omega) rfl Ω rfl) ?_;refine le ?_; rintro ⟨A7, c7⟩;refine k_ 6 ?_;exact rR [0] (A7, c7)
theorem c_rApply (T : List File) (A : Option Addr) (c : Nat) (hn : T.length ≤ 2000000) (pr : Prim) (y : Rp.Lay Prim) (hp : pr.fit) (hb : ∀ u, (getL T u).length + pr.new.length ≤ 2000000) : Con Tryz.prog 138 [.slice A T.length c, sv pr y] [] (slA A T :: Rp.asn pr y) {q : (List File × Int) × (Option Addr × Nat) // q.1 = rApplyT T pr} (fun q => .tuple #[.slice q.1.2.1 q.1.1.1.length q.1.2.2, .int .i64 q.1.1.2]) (fun _ => []) (fun q => [slA q.1.2.1 q.1.1.1]) := by
 refine con func138 rfl ntmps138 rfl ?_;intro M0 F0 w0;refine k_ 2 ?_;refine ls (o_box rfl rfl rfl) ?_;refine le ?_; intro b3;refine k_ 7 ?_;refine ls (o_ldw isAgg101 sizeOf101 rfl Θ (by rfl) rfl) ?_;refine lC [] call114 (c_refRight pr y hp) ?_; intro x13;refine k_ 3 ?_;refine cc rfl ?_ ?_
 ·intro h14;have hr : pr.right = false := (by simpa using h14);refine k_ 9 ?_;exact rR [] ⟨((T, 30), (A, c)), by simp [rApplyT, hr]⟩
 ·intro h14;have hr : pr.right = true := (by simpa using h14);refine k_ 7 ?_;refine lC [] call149 (c_rGet T A c hn pr.name) ?_; rintro ⟨A1, c1⟩;refine lpure (St.cap (m := (getL T pr.name).length) (c := c1) Θ) ?_;intro hcap;refine k_ 12 ?_;refine lC [] call149 (c_rGet T A c hn pr.to) ?_; rintro ⟨A2, c2⟩;refine k_ 21 ?_;refine cc rfl ?_ ?_
  ·intro h32;have k0 : pr.kind = 0 := (by simpa using h32);refine k_ 9 ?_;refine lC [] call186 (c_rSplice (getL T pr.name) pr.old pr.new A1 y.1.1 y.2.1 c1 y.1.2 y.2.2 pr.pos (by have := hb pr.name; omega) hp.o (hb _) hcap) ?_; rintro ⟨A3, c3⟩;refine lmono (fun a w h => freezeN (i := 0) rfl h) ?_;refine k_ 11 ?_;refine andX 2 46 48 rfl (sL [0, 1, 3, 4, 5, 12, 13, 14, 17, 18, 19, 20, 16, 21, 22, 6, 7, 24, 25, 26, 27, 23, 28, 29, 9, 30, 31, 33, 32, 35, 36, 37, 38, 39, 40, 41, 42, 34, 43, 44, 10]) ?_ ?_
   ·intro h46;refine k_ 2 ?_;refine ln (nmid (wk0 Φ Ω))
   apply exI
   ·intro h46;refine k_ 2 ?_;refine ln (nmid (wk0 Φ Ω))
   ·
    refine k_ 2 ?_;refine cc rfl ?_ ?_
    ·intro h48;have hj : hasT T pr.name = true ∧ standsB (getL T pr.name) pr.pos pr.old = true := (by simpa using h48);refine k_ 6 ?_;refine lC [] call187 (c_rWith T A c hn pr.name (splT (getL T pr.name) pr.pos pr.old pr.new) A3 c3) ?_; intro z53;refine k_ 6 ?_;exact rR [] ⟨((putT T pr.name (splT (getL T pr.name) pr.pos pr.old pr.new), 0), z53), by unfold rApplyT; rw [if_neg (by simp [hr]), if_pos k0, if_pos hj]⟩
    ·intro h48;have hj : ¬ (hasT T pr.name = true ∧ standsB (getL T pr.name) pr.pos pr.old = true) := (by have h := h48; simp at h; rintro ⟨h1, h2⟩; rw [h h1] at h2; cases h2);refine k_ 12 ?_;exact rR [] ⟨((T, 31), (A, c)), by unfold rApplyT; rw [if_neg (by simp [hr]), if_pos k0, if_neg hj]⟩
  ·intro h32;have k0 : ¬ pr.kind = 0 := (by simpa using h32);refine k_ 6 ?_;refine cc rfl ?_ ?_
   ·intro h54;have k1 : pr.kind = 1 := (by simpa using h54);refine k_ 6 ?_;refine cc rfl ?_ ?_
    ·intro h57;have hj : hasT T pr.name = false := (by simpa using h57);refine cs ?_;refine cmono (fun a w h => nilN h) ?_;refine k_ 4 ?_;refine lC [] call187 (c_rWith T A c hn pr.name [] none 0) ?_; intro z61;refine k_ 6 ?_;exact rR [] ⟨((putT T pr.name [], 0), z61), by unfold rApplyT; rw [if_neg (by simp [hr]), if_neg k0, if_pos k1, if_pos hj]⟩
    ·intro h57;have hj : hasT T pr.name = true := (by simpa using h57);refine k_ 12 ?_;exact rR [] ⟨((T, 31), (A, c)), by unfold rApplyT; rw [if_neg (by simp [hr]), if_neg k0, if_pos k1, if_neg (by simp [hj])]⟩
   ·intro h54;have k1 : ¬ pr.kind = 1 := (by simpa using h54);refine k_ 6 ?_;refine cc rfl ?_ ?_
    ·intro h62;have k2 : pr.kind = 2 := (by simpa using h62);refine k_ 4 ?_;refine andX 4 65 69 rfl (sL [0, 1, 3, 4, 5, 12, 13, 14, 17, 18, 19, 20, 16, 21, 22, 6, 7, 24, 25, 26, 27, 23, 28, 29, 9, 30, 31, 33, 32, 55, 54, 63, 62]) ?_ ?_
     ·intro h65;refine k_ 4 ?_;refine ln (nmid (wk0 Φ Ω))
     apply exI
     ·intro h65;refine k_ 4 ?_;refine ln (nmid (wk0 Φ Ω))
     ·
      refine k_ 2 ?_;refine cc rfl ?_ ?_
      ·intro h69;have hj : hasT T pr.name = true ∧ (getL T pr.name).length = 0 := (by have h := h69; simp at h; exact ⟨h.1, by simp [h.2]⟩);refine k_ 5 ?_;refine lC [] call188 (c_rWithout T A c hn pr.name) ?_; intro z73;refine k_ 6 ?_;exact rR [] ⟨((delT T pr.name, 0), z73), by unfold rApplyT; rw [if_neg (by simp [hr]), if_neg k0, if_neg k1, if_pos k2, if_pos hj]⟩
      ·intro h69;have hj : ¬ (hasT T pr.name = true ∧ (getL T pr.name).length = 0) := (by have h := h69; simp at h; rintro ⟨h1, h2⟩; exact h h1 (List.eq_nil_of_length_eq_zero h2));refine k_ 12 ?_;exact rR [] ⟨((T, 31), (A, c)), by unfold rApplyT; rw [if_neg (by simp [hr]), if_neg k0, if_neg k1, if_pos k2, if_neg hj]⟩
    ·intro h62;have k2 : ¬ pr.kind = 2 := (by simpa using h62);refine k_ 6 ?_;refine cc rfl ?_ ?_
     ·intro h74;have k3 : pr.kind = 3 := (by simpa using h74);refine k_ 4 ?_;refine andX 3 77 80 rfl (sL [0, 1, 3, 4, 5, 12, 13, 14, 17, 18, 19, 20, 16, 21, 22, 6, 7, 24, 25, 26, 27, 23, 28, 29, 30, 31, 33, 32, 55, 54, 63, 62, 75, 74]) ?_ ?_
      ·intro h77;refine k_ 3 ?_;refine ln (nmid (wk0 Φ Ω))
      apply exI
      ·intro h77;refine k_ 3 ?_;refine ln (nmid (wk0 Φ Ω))
      ·
       refine k_ 2 ?_;refine cc rfl ?_ ?_
       ·intro h80;have hj : hasT T pr.name = true ∧ hasT T pr.to = false := (by have h := h80; simp at h; exact h);refine cs ?_;have hdn : (delT T pr.name).length ≤ 2000000 := Nat.le_trans (List.length_filter_le _ _) hn;refine cd [3, 7] [(2, b3, 1, _), (5, b3, 2, _)] TryzX.mixed (tB 1 (tB 1 TOk.d)) ?_;refine u_ 0 3 ?_;refine u_ 4 3 ?_;refine df 3 Ψ ?_;refine doR rfl (o_call (is := []) call188 (c_rWithout T A c hn pr.name) rfl rfl Ω rfl) (TOk.x Ψ (TOk.t (isBoxE fun _ => isBoxS Θ (k := 1) Δ) TOk.d)) ?_;refine ea ?_; rintro ⟨A4, c4⟩;refine df 7 Ψ ?_;refine doR rfl (o_call (is := []) call187 (c_rWith (delT T pr.name) A4 c4 hdn pr.to (getL T pr.name) A1 c1) rfl rfl Ω rfl) tX ?_;refine ea ?_; intro z88;refine u_ 8 2 ?_;refine dn Ψ ?_;refine k_ 3 ?_;exact rR [] ⟨((putT (delT T pr.name) pr.to (getL T pr.name), 0), z88), by unfold rApplyT; rw [if_neg (by simp [hr]), if_neg k0, if_neg k1, if_neg k2, if_pos k3, if_pos hj]⟩
       ·intro h80;have hj : ¬ (hasT T pr.name = true ∧ hasT T pr.to = false) := (by have h := h80; simp at h; rintro ⟨h1, h2⟩; rw [h h1] at h2; cases h2);refine k_ 12 ?_;exact rR [] ⟨((T, 31), (A, c)), by unfold rApplyT; rw [if_neg (by simp [hr]), if_neg k0, if_neg k1, if_neg k2, if_pos k3, if_neg hj]⟩
     ·intro h74;have k3 : ¬ pr.kind = 3 := (by simpa using h74);refine k_ 12 ?_;exact rR [] ⟨((T, 31), (A, c)), by unfold rApplyT; rw [if_neg (by simp [hr]), if_neg k0, if_neg k1, if_neg k2, if_neg k3]⟩
end Go.Proofs.YtbhnolfcdcpbkaaGreatDoor.X
end
section
namespace Go.Sx
open Go Go.RowKit
/-! What undoes a prim, undoes it; how large trees grow. -/
theorem sortB_eq {l m : List ByteArray} (hp : l.Perm m) (hs : m.Pairwise fun a b => ofB a ≤ ofB b) : sortB l = m := by
 unfold sortB;have e : (l.map ofB).mergeSort (fun x y => decide (x ≤ y)) = m.map ofB := by
  refine List.Perm.eq_of_pairwise (le := fun a b : List UInt8 => decide (a ≤ b) = true) (fun a b _ _ h1 h2 => List.le_antisymm (by simpa using h1) (by simpa using h2)) (List.pairwise_mergeSort ?_ ?_ _) ?_ ?_
  ·intro a b c h1 h2;simp only [decide_eq_true_eq] at *;exact List.le_trans h1 h2
  ·intro a b;simp only [Bool.or_eq_true, decide_eq_true_eq];exact List.le_total a b
  ·rw [List.pairwise_map];exact hs.imp fun {a b} hab => by simpa using hab
  ·exact (List.mergeSort_perm _ _).trans (hp.map ofB)
 rw [e];simp [Function.comp_def, toB_ofB]
theorem sortB_names (p : Prim) : sortB p.names = refNames p := by
 refine sortB_eq (refNames_perm p).symm ?_;unfold refNames
 split
 ·split
  ·rename_i h
   rw [less_kl] at h;have h' : kl p.name p.to := by simpa using h
   simp only [List.pairwise_cons, List.mem_cons, List.mem_nil_iff, or_false, forall_eq, List.not_mem_nil, false_imp_iff, implies_true, List.Pairwise.nil, and_true];exact List.le_of_lt h'
  ·rename_i h
   rw [less_kl] at h;have h' : ¬ kl p.name p.to := by simpa using h
   simp only [List.pairwise_cons, List.mem_cons, List.mem_nil_iff, or_false, forall_eq, List.not_mem_nil, false_imp_iff, implies_true, List.Pairwise.nil, and_true];exact List.not_lt.1 h'
 ·simp
def Lmax (m : Nat) (T : List File) : Prop := ∀ x ∈ T, x.2.length ≤ m
theorem Lmax.get {m : Nat} {T : List File} (h : Lmax m T) (u : ByteArray) : (getL T u).length ≤ m := by
 unfold getL getT;cases e : T.find? (fun x => decide (x.1 = u)) with
 | none => simp
 | some x => simpa using h x (List.mem_of_find?_eq_some e)
theorem Lmax.mono {m m' : Nat} {T : List File} (h : Lmax m T) (hm : m ≤ m') : Lmax m' T := fun x hx => Nat.le_trans (h x hx) hm
theorem Lmax.put {m : Nat} {T : List File} (h : Lmax m T) {k : ByteArray} {l : List ByteArray} (hl : l.length ≤ m) : Lmax m (putT T k l) := fun x hx => by
 rcases mem_putT.1 hx with rfl | ⟨h1, _⟩
 ·exact hl
 ·exact h x h1
theorem Lmax.del {m : Nat} {T : List File} (h : Lmax m T) (k : ByteArray) : Lmax m (delT T k) := fun x hx => h x (mem_delT.1 hx).1
theorem rApply_lmax {m : Nat} {T : List File} (h : Lmax m T) (p : Prim) : Lmax (m + p.new.length) (rApplyT T p).1 := by
 have h1 := h.mono (Nat.le_add_right m p.new.length);unfold rApplyT
 repeat' split
 all_goals first
  | exact h1
  | exact h1.del _
  | exact h1.put (Nat.le_trans splT_len (by have := h.get p.name; omega))
  | exact h1.put (by simp)
  | exact (h1.del _).put (by have := h.get p.name; omega)
theorem rApply_len (T : List File) (p : Prim) : (rApplyT T p).1.length ≤ T.length + 1 := by
 have hd : ∀ k, (delT T k).length ≤ T.length := fun k => List.length_filter_le _ _;unfold rApplyT
 repeat' split
 all_goals first
  | exact Nat.le_succ _
  | exact putT_len _ _ _
  | exact Nat.le_trans (hd _) (Nat.le_succ _)
  | exact Nat.le_trans (putT_len _ _ _) (Nat.succ_le_succ (hd _))
theorem apply_err {T T1 : List File} {p : Prim} {e : Int} (h : (T1, e) = applyT T p) (he : ¬ e = 0) (hS : Sor T) (hG : Good T) : T1 = T := by
 rw [apply_eq hS hG] at h;unfold rApplyT at h
 repeat' split at h
 all_goals first
  | (injection h with h _; done)
  | (injection h with h h2; first | exact h | exact absurd h2 he)
theorem tAdd_rem {M : List File} {k : ByteArray} (hM : Sor M) (hn : nameOk k = true) (hh : getT M k = some []) : tAdd (delT M k) k = (M, 0) := by
 have h1 : getT (delT M k) k = none := by rw [getT_del hM, if_pos rfl]
 unfold tAdd;rw [if_neg (by simp [hn]), if_neg (by simp [hasT, h1])];have : putT (delT M k) k [] = M := getT_ext ((hM.del _).put _ _) hM fun u => by
  rw [getT_put (hM.del _), getT_del hM]
  by_cases e : u = k
  ·subst e; rw [if_pos rfl, hh]
  ·rw [if_neg e, if_neg e]
 rw [this]
theorem splT_yes {l old new : List ByteArray} {k : Nat} (h : standsB l (k : Int) old = true) : splT l (k : Int) old new = l.take k ++ new ++ l.drop (k + old.length) := by unfold splT; rw [if_pos h]; rfl
theorem spl_back {l old new : List ByteArray} {z : Int} (h : standsB l z old = true) : standsB (splT l z old new) z new = true ∧ splT (splT l z old new) z new old = l := by
 obtain ⟨k, rfl, h1, h2⟩ := standsB_yes h;have e1 : splT l (k : Int) old new = l.take k ++ new ++ l.drop (k + old.length) := by unfold splT; rw [if_pos h]; rfl
 have hk : (l.take k).length = k := by rw [List.length_take]; omega
 have hlen : (l.take k ++ new ++ l.drop (k + old.length)).length = k + new.length + (l.length - (k + old.length)) := by rw [List.length_append, List.length_append, hk, List.length_drop]
 have e2 : (l.take k ++ new ++ l.drop (k + old.length)).drop k = new ++ l.drop (k + old.length) := by
  rw [List.append_assoc, List.drop_append, hk, List.drop_of_length_le (by omega), Nat.sub_self]; rfl
 have e3 : (l.take k ++ new ++ l.drop (k + old.length)).take k = l.take k := by
  rw [List.append_assoc, List.take_append, hk, List.take_of_length_le (by omega), Nat.sub_self]; simp
 have e4 : (l.take k ++ new ++ l.drop (k + old.length)).drop (k + new.length) = l.drop (k + old.length) := by
  rw [← List.drop_drop, e2, List.drop_append, List.drop_of_length_le (Nat.le_refl _), Nat.sub_self]; rfl
 have hs : standsB (splT l (k : Int) old new) (k : Int) new = true := by
  rw [e1, standsB_nat (by rw [hlen]; omega), e2];simp
 refine ⟨hs, ?_⟩;have e5 := splT_yes (new := old) hs;rw [e5, e1, e3, e4];have e6 : l = l.take k ++ ((l.drop k).take old.length ++ (l.drop k).drop old.length) := by rw [List.take_append_drop, List.take_append_drop]
 rw [h2, List.drop_drop] at e6;rw [List.append_assoc];exact e6.symm
theorem put_put {T : List File} (h : Sor T) (k : ByteArray) (l m : List ByteArray) : putT (putT T k l) k m = putT T k m :=
 getT_ext ((h.put _ _).put _ _) (h.put _ _) fun u => by
  rw [getT_put (h.put _ _), getT_put h, getT_put h]
  by_cases e : u = k <;> simp [e]
theorem put_same {T : List File} (h : Sor T) {k : ByteArray} {l : List ByteArray} (hk : getT T k = some l) : putT T k l = T :=
 getT_ext (h.put _ _) h fun u => by
  rw [getT_put h]
  by_cases e : u = k
  ·subst e; rw [if_pos rfl, hk]
  ·rw [if_neg e]
theorem apply_back {T T1 : List File} {p : Prim} (hS : Sor T) (hG : Good T) (h : (T1, (0 : Int)) = applyT T p) : applyT T1 p.flip = (T, 0) := by
 rw [apply_eq hS hG] at h;have hS1 : Sor T1 := by have := rApply_sor hS p; rw [← h] at this; exact this
 have hG1 : Good T1 := by have := rApply_good hG p; rw [← h] at this; exact this
 rw [apply_eq hS1 hG1];unfold rApplyT at h ⊢;rw [flip_right]
 by_cases hr : p.right = false
 ·rw [if_pos hr] at h; injection h with _ h; cases h
 ·have hr' : p.right = true := by simpa using hr
  rw [if_neg hr] at h ⊢;rcases right_kind hr' with k0 | k1 | k2 | k3
  ·rw [if_pos k0] at h;have hk : p.flip.kind = 0 := (flip_kind p).1.2 k0;rw [if_pos hk]
   split at h
   ·rename_i hj
    injection h with h _
    obtain ⟨hb1, hb2⟩ := spl_back (new := p.new) hj.2;have hf := flip0 k0;have hg : getT T1 p.name = some (splT (getL T p.name) p.pos p.old p.new) := by rw [h, getT_put hS, if_pos rfl]
    have hn : p.flip.name = p.name ∧ p.flip.pos = p.pos ∧ p.flip.old = p.new ∧ p.flip.new = p.old := by rw [hf]; exact ⟨rfl, rfl, rfl, rfl⟩
    rw [hn.1, hn.2.1, hn.2.2.1, hn.2.2.2, show getL T1 p.name = splT (getL T p.name) p.pos p.old p.new by rw [getL, hg]; rfl, if_pos ⟨by rw [hasT, hg]; rfl, hb1⟩, hb2, h, put_put hS, put_same hS (hasT_yes hj.1)]
   ·injection h with _ h; cases h
  ·rw [if_neg (by omega), if_pos k1] at h;have hf : p.flip = { p with kind := 2 } := by rw [Prim.flip, if_neg (by omega), if_pos (.inl k1), k1]; rfl
   rw [hf]
   split at h
   ·rename_i hj
    injection h with h _
    have hg : getT T1 p.name = some [] := by rw [h, getT_put hS, if_pos rfl]
    rw [if_neg (show ¬ (2 : Int) = 0 by decide), if_neg (show ¬ (2 : Int) = 1 by decide), if_pos rfl, if_pos ⟨by rw [hasT, hg]; rfl, by rw [getL, hg]; rfl⟩];have := tRem_add hS hj;unfold tRem at this;rw [← h, if_neg (by rw [hasT, hg]; simp), if_neg (by rw [getL, hg]; simp)] at this;exact this
   ·injection h with _ h; cases h
  ·rw [if_neg (by omega), if_neg (by omega), if_pos k2] at h;have hf : p.flip = { p with kind := 1 } := by rw [Prim.flip, if_neg (by omega), if_pos (.inr k2), k2]; rfl
   rw [hf]
   split at h
   ·rename_i hj
    injection h with h _
    have h0 : getT T p.name = some [] := by rw [hasT_yes hj.1, List.eq_nil_of_length_eq_zero hj.2]
    have hg : getT T1 p.name = none := by rw [h, getT_del hS, if_pos rfl]
    rw [if_neg (show ¬ (1 : Int) = 0 by decide), if_pos rfl, if_pos (by rw [hasT, hg]; rfl)];have := tAdd_rem hS (right_name hr') h0;unfold tAdd at this;rw [← h, if_neg (by simp [right_name hr']), if_neg (by rw [hasT, hg]; simp)] at this;exact this
   ·injection h with _ h; cases h
  ·rw [if_neg (by omega), if_neg (by omega), if_neg (by omega), if_pos k3] at h;have hf := flip3 k3;rw [hf]
   split at h
   ·rename_i hj
    injection h with h _
    have hd : T1 = delT (putT T p.to (getL T p.name)) p.name := by
     have := move_eq hS p.name p.to;unfold tMove rMove at this;rw [if_neg (by simp [hj.1, right_to hr' k3]), if_neg (by simp [hj.2]), if_neg (by simp [hj.1, right_to hr' k3]), if_neg (by simp [hj.2])] at this
     injection this with this _
     rw [h, ← this]
    have hb := move_back hS (right_name hr') hj.1 hj.2;rw [← hd, move_eq hS1] at hb;unfold rMove at hb;have hto : getT T1 p.to = some (getL T p.name) := by rw [hd, moved_get hS hj.1 hj.2, if_neg (moved_ne hj.1 hj.2), if_pos rfl]
    have hna : getT T1 p.name = none := by rw [hd, moved_get hS hj.1 hj.2, if_pos rfl]
    rw [if_neg (by simp [hasT, hto, right_name hr']), if_neg (by simp [hasT, hna])] at hb;rw [if_neg (by show ¬ p.kind = 0; omega), if_neg (by show ¬ p.kind = 1; omega), if_neg (by show ¬ p.kind = 2; omega), if_pos (by exact k3), if_pos ⟨by rw [hasT, hto]; rfl, by rw [hasT, hna]; rfl⟩];exact hb
   ·injection h with _ h; cases h
end Go.Sx
end
section
namespace Go.Proofs.YtbhnolfcdcpbkaaGreatDoor.X
set_option maxRecDepth 100000
open Go Go.RowKit Go.Proofs Go.Sx
open Tryz
attribute [local irreducible] slA isA box row TrL TrC TrN TrA Pu OpR
set_option maxHeartbeats 8000000
theorem c_tTextS (p b : Nat) (T : List File) (s : ByteArray) (hs : toB (textT T) = s) (hn : T.length ≤ 2000000) (hf : Tfit T) (hB : (textT T).length ≤ 100000000) (Γt : List Asn) (hI : ∀ x ∈ T, Con Tryz.prog 99 [.int .i64 (x.2.length : Int)] [] Γt Unit (fun _ => .string (toB (Lib.decDigits x.2.length))) (fun _ => []) (fun _ => [])) : Con Tryz.prog 52 [pT p] [box p 139 [.map (some b)], tr b T] Γt Unit (fun _ => .string s) (fun _ => [box p 139 [.map (some b)], tr b T]) (fun _ => []) := hs ▸ c_tText p b T hn hf hB Γt hI
theorem c_primInvert (p : Prim) (y : Rp.Lay Prim) (hp : p.fit) : Con Tryz.prog 148 [sv p y] [] (Rp.asn p y) {x : Prim × Rp.Lay Prim // x.1 = p.flip} (fun x => sv x.1.1 x.1.2) (fun _ => []) (fun x => Rp.asn x.1.1 x.1.2) := by
 refine con func148 rfl ntmps148 rfl ?_;intro M0 F0 w0;refine k_ 2 ?_;refine ls (o_box rfl rfl rfl) ?_;refine le ?_; intro b1;refine ls (o_alloc zeroValue103 rfl rfl) ?_;refine le ?_; intro b2;refine k_ 4 ?_;refine ls (o_ldw isAgg103 sizeOf103 rfl Θ (by rfl) rfl) ?_;refine lC [] call110 (c_primClone p y hp) ?_; intro y1;refine k_ 17 ?_;refine cc rfl ?_ ?_
 ·intro h7;(try simp only [nrmZ] at h7);refine k_ 14 ?_;refine ls (o_ldw isAgg103 sizeOf103 rfl Θ (by rfl) rfl) ?_;refine k_ 5 ?_;refine rret (is := []) ⟨({ p with old := p.new, new := p.old }, (y1.2, y1.1)), by rw [flip0 h7]⟩ (Or.inl rfl) (Res.c rfl isAgg103 sizeOf103 Θ (by rfl) Res.d) (rfl) rfl Ω
 ·intro h7;(try simp only [nrmZ] at h7);refine k_ 7 ?_;refine cc rfl ?_ ?_
  ·intro h15;(try simp only [nrmZ] at h15);refine k_ 2 ?_;refine cc rfl ?_ ?_
   ·intro h15b
    skip
    refine k_ 11 ?_;refine ls (o_ldw isAgg103 sizeOf103 rfl Θ (by rfl) rfl) ?_;refine k_ 5 ?_;refine rret (is := []) ⟨({ p with kind := 3 - p.kind }, y1), by rw [Prim.flip, if_neg h7, if_pos (Or.inl h15)]⟩ (Or.inl rfl) (Res.c rfl isAgg103 sizeOf103 Θ (by rfl) Res.d) (rfl) rfl Ω
   ·intro h15b;simp only [decide_eq_false_iff_not] at h15b; exact absurd h15 h15b
  ·intro h15;(try simp only [nrmZ] at h15);refine k_ 5 ?_;refine cc rfl ?_ ?_
   ·intro h15c;simp only [decide_eq_true_eq] at h15c;refine k_ 11 ?_;refine ls (o_ldw isAgg103 sizeOf103 rfl Θ (by rfl) rfl) ?_;refine k_ 5 ?_;refine rret (is := []) ⟨({ p with kind := 3 - p.kind }, y1), by rw [Prim.flip, if_neg h7, if_pos (Or.inr h15c)]⟩ (Or.inl rfl) (Res.c rfl isAgg103 sizeOf103 Θ (by rfl) Res.d) (rfl) rfl Ω
   ·intro h15c;simp only [decide_eq_false_iff_not] at h15c;refine k_ 6 ?_;refine cc rfl ?_ ?_
    ·intro h22;(try simp only [nrmZ] at h22);refine k_ 14 ?_;refine ls (o_ldw isAgg103 sizeOf103 rfl Θ (by rfl) rfl) ?_;refine k_ 5 ?_;refine rret (is := []) ⟨({ p with name := p.to, to := p.name }, y1), by rw [flip3 h22]⟩ (Or.inl rfl) (Res.c rfl isAgg103 sizeOf103 Θ (by rfl) Res.d) (rfl) rfl Ω
    ·intro h22;(try simp only [nrmZ] at h22);refine k_ 5 ?_;refine ls (o_ldw isAgg103 sizeOf103 rfl Θ (by rfl) rfl) ?_;refine k_ 5 ?_;refine rret (is := []) ⟨(p, y1), by rw [Prim.flip, if_neg h7, if_neg (by omega), if_neg h22]⟩ (Or.inl rfl) (Res.c rfl isAgg103 sizeOf103 Θ (by rfl) Res.d) (rfl) rfl Ω
theorem c_refInvert (p : Prim) (y : Rp.Lay Prim) (hp : p.fit) : Con Tryz.prog 185 [sv p y] [] (Rp.asn p y) {x : Prim × Rp.Lay Prim // x.1 = p.flip} (fun x => sv x.1.1 x.1.2) (fun _ => []) (fun x => Rp.asn x.1.1 x.1.2) := by
 refine con func185 rfl ntmps185 rfl ?_;intro M0 F0 w0;refine k_ 2 ?_;refine ls (o_box rfl rfl rfl) ?_;refine le ?_; intro b1;refine ls (o_alloc zeroValue101 rfl rfl) ?_;refine le ?_; intro b2;refine k_ 16 ?_;refine cc rfl ?_ ?_
 ·intro h5;(try simp only [nrmZ] at h5);refine k_ 18 ?_;refine rret (is := []) ⟨({ p with kind := 0, old := p.new, new := p.old }, (y.2, y.1)), by rw [flip0 h5, h5]⟩ (Or.inl rfl) (Res.c rfl isAgg101 sizeOf101 Θ (by rfl) Res.d) (rfl) rfl Ω
 ·intro h5;(try simp only [nrmZ] at h5);refine k_ 6 ?_;refine cc rfl ?_ ?_
  ·intro h18;(try simp only [nrmZ] at h18);refine k_ 8 ?_;refine ls (o_ldw isAgg101 sizeOf101 rfl Θ (by rfl) rfl) ?_;refine k_ 5 ?_;refine rret (is := []) ⟨({ p with kind := 2 }, y), by rw [Prim.flip, if_neg h5, if_pos (Or.inl h18), h18]; rfl⟩ (Or.inl rfl) (Res.c rfl isAgg101 sizeOf101 Θ (by rfl) Res.d) (rfl) rfl Ω
  ·intro h18;(try simp only [nrmZ] at h18);refine k_ 6 ?_;refine cc rfl ?_ ?_
   ·intro h21;(try simp only [nrmZ] at h21);refine k_ 8 ?_;refine ls (o_ldw isAgg101 sizeOf101 rfl Θ (by rfl) rfl) ?_;refine k_ 5 ?_;refine rret (is := []) ⟨({ p with kind := 1 }, y), by rw [Prim.flip, if_neg h5, if_pos (Or.inr h21), h21]; rfl⟩ (Or.inl rfl) (Res.c rfl isAgg101 sizeOf101 Θ (by rfl) Res.d) (rfl) rfl Ω
   ·intro h21;(try simp only [nrmZ] at h21);refine k_ 6 ?_;refine cc rfl ?_ ?_
    ·intro h24;(try simp only [nrmZ] at h24);refine k_ 18 ?_;refine rret (is := []) ⟨({ p with kind := 3, name := p.to, to := p.name }, y), by rw [flip3 h24, h24]⟩ (Or.inl rfl) (Res.c rfl isAgg101 sizeOf101 Θ (by rfl) Res.d) (rfl) rfl Ω
    ·intro h24;(try simp only [nrmZ] at h24);refine k_ 5 ?_;refine ls (o_ldw isAgg101 sizeOf101 rfl Θ (by rfl) rfl) ?_;refine k_ 5 ?_;refine rret (is := []) ⟨(p, y), by rw [Prim.flip, if_neg h5, if_neg (by omega), if_neg h24]⟩ (Or.inl rfl) (Res.c rfl isAgg101 sizeOf101 Θ (by rfl) Res.d) (rfl) rfl Ω
theorem inf103 : (Tryz.prog.info? 103).map (fun i => (i.zero, i.size, i.bytes)) = some (some (.agg #[.int .i64 0, .string ⟨#[]⟩, .string ⟨#[]⟩, .int .i64 0, .slice none 0 0, .slice none 0 0]), 6, 96) := by kernel_rfl
theorem c_seqCloned (l : List Prim) (A0 : Option Addr) (c0 : Nat) (hl : l.length ≤ 2000000) (hf : ∀ x ∈ l, x.fit) : Con Tryz.prog 169 [.slice A0 l.length c0] [] [slA A0 l] (Option Addr × Nat) (fun y => .slice y.1 l.length y.2) (fun y => [row 103 y.1 y.2 l]) (fun _ => []) := by
 refine con func169 rfl ntmps169 rfl ?_;intro M0 F0 w0;refine k_ 12 ?_;refine cmono (fun a w h => nilRow (α := Prim) 103 h) ?_;refine k_ 7 ?_;refine cl (ι := {q : Nat × Option Addr × Nat // q.1 ≤ l.length}) (fun i => St M0 F0 w0 19 [(6, .slice A0 l.length c0), (7, .int .i64 (l.length : Int)), (8, .int .i64 (i.1.1 : Int)), (3, .slice i.1.2.1 (l.take i.1.1).length i.1.2.2)] [row 103 i.1.2.1 i.1.2.2 (l.take i.1.1)] [slA A0 l]) (fun i => l.length - i.1.1) ⟨(0, none, 0), Nat.zero_le _⟩ (wK [0]) ?_;rintro ⟨⟨k, A, c⟩, hk⟩;refine cmono (S' := St M0 F0 w0 19 [(6, .slice A0 l.length c0), (7, .int .i64 (l.length : Int)), (8, .int .i64 (k : Int)), (3, .slice A (l.take k).length c)] [row 103 A c (l.take k)] [slA A0 l]) Ħ ?_;refine k_ 6 ?_;refine cc rfl ?_ ?_
 ·intro h9;dsimp only at hk;(try simp only [nrmZ] at h9);have hk1 : k < l.length := (by omega);refine k_ 5 ?_;refine elC Θ k (List.getElem?_eq_getElem (l := l) hk1) ?_; rintro zbp zop zyp hAp;refine cr ?_;refine ls (op (p_ia k hAp hk1 rfl underlying40 sizeOf103 rfl rfl) rfl) ?_;refine ls (o_ldj isAgg103 sizeOf103 rfl Θ 0 rfl Δ rfl) ?_;refine ls (o_alloc zeroValue103 rfl rfl) ?_;refine le ?_; intro b5;refine k_ 5 ?_;refine ls (o_ldw isAgg103 sizeOf103 rfl Θ (by rfl) rfl) ?_;refine lC [] call110 (c_primClone l[k] zyp (hf _ (List.getElem_mem hk1))) ?_; intro y14;refine ls (o_bsl [l[k]] underlying40 sizeOf103 zeroValue103 rfl (Enum.t Enum.d) (RV.t y14 rfl Ω RV.d) rfl (by decide) (by decide) rfl) ?_;refine le ?_; intro b15;refine lmono (fun a w h => Go.Sx.freeze (i := 0) rfl h) ?_;refine ls (o_app (is := [1]) underlying40 inf103 rfl (by decide) (by decide) rfl rfl (by rw [List.length_take]; simp only [List.length_cons, List.length_nil]; omega) (fun h => by cases h) rfl Ω rfl) ?_;refine le ?_; rintro ⟨A', c'⟩;rw [← List.take_succ_eq_append_getElem hk1];refine k_ 8 ?_;refine nnext ⟨(k + 1, A', c'), hk1⟩ (by dsimp only; omega) (wK [0])
 ·intro h9;dsimp only at hk;(try simp only [nrmZ] at h9);obtain rfl : k = l.length := (by omega);refine k_ 6 ?_;rw [List.take_length];refine k_ 7 ?_;exact rR [0] (A, c)
theorem c_seqPast (p : Prim) (y : Rp.Lay Prim) (hp : p.fit) (m : List Prim) (B : Option Addr) (c : Nat) (hl : m.length ≤ 2000000) (hf : ∀ x ∈ m, x.fit) : Con Tryz.prog 219 [sv p y, .slice B m.length c] [] [slA y.1.1 p.old, slA y.2.1 p.new, slA B m] {x : (List Prim × Prim × Bool) × ((Option Addr × Nat) × Rp.Lay Prim) // x.1 = pastT p m} (fun x => .tuple #[.slice x.1.2.1.1 x.1.1.1.length x.1.2.1.2, sv x.1.1.2.1 x.1.2.2, .bool x.1.1.2.2]) (fun _ => []) (fun x => slA x.1.2.1.1 x.1.1.1 :: Rp.asn x.1.1.2.1 x.1.2.2) := by
 refine con func219 rfl ntmps219 rfl ?_;intro M0 F0 w0;refine k_ 2 ?_;refine ls (o_box rfl rfl rfl) ?_;refine le ?_; intro b2;refine k_ 1 ?_;refine ls (o_alloc zeroValue103 rfl rfl) ?_;refine le ?_; intro b5;refine k_ 5 ?_;refine cmono (fun a w h => nilRow (α := Prim) 103 h) ?_;refine k_ 7 ?_;refine cl (ι := {q : Nat × List Prim × Prim × (Option Addr × Nat) × Rp.Lay Prim // q.1 ≤ m.length ∧ q.2.1.length = q.1 ∧ q.2.2.1.fit ∧ PI p m q.1 q.2.1 q.2.2.1}) (fun i => St M0 F0 w0 36 [(12, .slice B m.length c), (13, .int .i64 (m.length : Int)), (14, .int .i64 (i.1.1 : Int)), (4, .slice i.1.2.2.2.1.1 (i.1.2.1).length i.1.2.2.2.1.2), (2, pT b2), (5, pT b5)] [row 103 i.1.2.2.2.1.1 i.1.2.2.2.1.2 i.1.2.1, box b2 103 (Rp.enc i.1.2.2.1 i.1.2.2.2.2), box b5 103 (Rp.enc Prim.zero ((none, 0), (none, 0)))] [slA (i.1.2.2.2.2).1.1 (i.1.2.2.1).old, slA (i.1.2.2.2.2).2.1 (i.1.2.2.1).new, slA B m]) (fun i => m.length - i.1.1) ⟨(0, [], p, (none, 0), y), Nat.zero_le _, rfl, hp, PI.start p m⟩ (wK [0, 1, 0]) ?_;rintro ⟨⟨k, f, p1, ⟨A1, c1⟩, y1⟩, hk, hfl, hp1, hPI⟩;refine cmono (S' := St M0 F0 w0 36 [(12, .slice B m.length c), (13, .int .i64 (m.length : Int)), (14, .int .i64 (k : Int)), (4, .slice A1 (f).length c1), (2, pT b2), (5, pT b5)] [row 103 A1 c1 f, box b2 103 (Rp.enc p1 y1), box b5 103 (Rp.enc Prim.zero ((none, 0), (none, 0)))] [slA (y1).1.1 (p1).old, slA (y1).2.1 (p1).new, slA B m]) Ħ ?_;refine k_ 6 ?_;refine cc rfl ?_ ?_
 ·intro h15;dsimp only at hk hfl hp1 hPI;(try simp only [nrmZ] at h15);have hk1 : k < m.length := (by omega);refine k_ 5 ?_;refine elC Θ k (List.getElem?_eq_getElem (l := m) hk1) ?_; rintro zbp zop zyp hAp;refine cr ?_;refine ls (op (p_ia k hAp hk1 rfl underlying40 sizeOf103 rfl rfl) rfl) ?_;refine ls (o_ldj isAgg103 sizeOf103 rfl Θ 0 rfl Δ rfl) ?_;refine ls (o_alloc zeroValue103 rfl rfl) ?_;refine le ?_; intro b8;refine k_ 5 ?_;refine ls (o_ldw isAgg103 sizeOf103 rfl Θ (by rfl) rfl) ?_;refine ls (o_ldw isAgg103 sizeOf103 rfl Θ (by rfl) rfl) ?_;refine lC [] call255 (c_Swap p1 m[k] y1 zyp hp1 (hf _ (List.getElem_mem hk1))) ?_; rintro ⟨⟨⟨r1, r2, r3⟩, z1, z2⟩, hr⟩;obtain ⟨e1, e2⟩ := swap_fit hp1 (hf _ (List.getElem_mem hk1)); rw [← hr] at e1 e2; dsimp only at hr e1 e2;refine k_ 4 ?_;refine ls (o_alloc zeroValue103 rfl rfl) ?_;refine le ?_; intro b9;refine ls (o_alloc zeroValue103 rfl rfl) ?_;refine le ?_; intro b10;refine k_ 12 ?_;refine cc rfl ?_ ?_
  ·intro h26;obtain rfl : false = r3 := (by cases r3 <;> first | rfl | (simp at h26))
   refine cs ?_;refine cmono (fun a w h => nilSl (α := Prim) h) ?_;refine cmono (fun a w h => nilSl (α := ByteArray) h) ?_;refine k_ 9 ?_;refine rret (is := []) ⟨(([], Prim.zero, false), ((none, 0), ((none, 0), (none, 0)))), (hPI.stop hk1 hr).symm⟩ (Or.inl rfl) (Res.t rfl (Res.c rfl isAgg103 sizeOf103 Θ (by rfl) (Res.t rfl Res.d))) (rfl) rfl Ω
  ·intro h26;obtain rfl : true = r3 := (by cases r3 <;> first | rfl | (simp at h26))
   refine k_ 2 ?_;refine cd [2, 3, 6] [(1, b9, 0, _), (4, b10, 0, _)] TryzX.mixed (tB 6 (tB 6 TOk.d)) ?_;refine u_ 0 2 ?_;refine u_ 4 1 ?_;refine df 2 Ψ ?_;refine doR rfl (o_bsl [r1] underlying40 sizeOf103 zeroValue103 rfl (Enum.t Enum.d) (RV.t z1 rfl Ω RV.d) rfl (by decide) (by decide) rfl) (TOk.x Ψ (TOk.t (isBoxE fun _ => isBoxS Θ (k := 6) Δ) TOk.d)) ?_;refine ea ?_; intro b30;refine amono (fun a w h => Go.Sx.freeze (i := 0) rfl h) ?_;refine df 3 Ψ ?_;refine doR rfl (o_app (is := [3]) underlying40 inf103 rfl (by decide) (by decide) rfl rfl (by simp only [List.length_cons, List.length_nil]; omega) (fun h => by cases h) rfl Ω rfl) (TOk.x Ψ (TOk.t (isBoxE fun _ => isBoxS Θ (k := 6) Δ) TOk.d)) ?_;refine ea ?_; rintro ⟨A', c'⟩;refine u_ 5 1 ?_;refine df 6 Ψ ?_;refine doR rfl (o_st rfl sizeOf103 rfl rfl rfl rfl rfl Θ Θ Θ) tX ?_;refine dn Ψ ?_;refine k_ 6 ?_;refine nnext ⟨(k + 1, f ++ [r1], r2, (A', c'), z2), hk1, by simp [hfl], e2, hPI.step hk1 hr⟩ (by dsimp only; omega) (wK [0, 3, 3])
 ·intro h15;dsimp only at hk hfl hp1 hPI;(try simp only [nrmZ] at h15);refine k_ 6 ?_;refine cmono (fun a w h => Go.Sx.freeze (i := 0) rfl h) ?_;refine cd [3] [(1, b2, 0, _)] TryzX.mixed (tB 6 TOk.d) ?_;refine u_ 0 3 ?_;refine df 3 Ψ ?_;refine doR rfl (o_st rfl sizeOf103 rfl rfl rfl rfl rfl Θ Θ Θ) tX ?_;refine u_ 4 1 ?_;refine dn Ψ ?_;refine k_ 3 ?_;refine rret (is := []) ⟨((f, p1, true), ((A1, c1), y1)), (hPI.done (by omega)).symm⟩ (Or.inl rfl) (Res.t rfl (Res.c rfl isAgg103 sizeOf103 Θ (by rfl) (Res.t rfl Res.d))) (rfl) rfl Ω
theorem c_Backward (l : List Prim) (A : Option Addr) (c : Nat) : Con Tryz.prog 147 [.slice A l.length c] [] [] Nat (fun b => .func (.func 201) #[] #[pT b]) (fun b => [box b 40 [.slice A l.length c]]) (fun _ => []) := by
 refine con func147 rfl ntmps147 rfl ?_;intro M0 F0 w0;refine k_ 2 ?_;refine ls (o_box rfl rfl rfl) ?_;refine le ?_; intro b1;refine k_ 5 ?_;refine ls (op (p_mkf rfl) rfl) ?_;refine k_ 5 ?_;exact rR [0] b1
theorem c_Backward1 (l : List Prim) (A : Option Addr) (c : Nat) (hl : l.length ≤ 2000000) (B : Nat) : Iter Tryz.prog 201 [pT B] (fun x : {x : Nat × Rp.Lay Prim // x.1 < l.length} => [.int .i64 (x.1.1 : Int), sv (l[x.1.1]'x.2) x.1.2]) (fun x => Rp.asn (l[x.1.1]'x.2) x.1.2) (fun pre x => x.1.1 + pre.length + 1 = l.length) (fun xs => xs.length = l.length) [box B 40 [.slice A l.length c]] [slA A l] := by
 intro lp J Jx hY;refine con func201 rfl ntmps201 rfl ?_;intro M0 F0 w0;refine k_ 9 ?_;refine cl (ι := {q : List {x : Nat × Rp.Lay Prim // x.1 < l.length} × Int // q.1.length ≤ l.length ∧ q.2 = (l.length : Int) - 1 - (q.1.length : Int)}) (fun i => St M0 F0 w0 19 [(0, .func (.yield lp) #[] #[]), (1, pT B), (3, .int .i64 i.1.2)] [J i.1.1, box B 40 [.slice A l.length c]] [slA A l]) (fun i => l.length - (i.1.1).length) ⟨([], (l.length : Int) - 1), Nat.zero_le _, by simp⟩ (wk0 Φ Ω) ?_;rintro ⟨⟨pre, z⟩, hpre, hz⟩;refine cmono (S' := St M0 F0 w0 19 [(0, .func (.yield lp) #[] #[]), (1, pT B), (3, .int .i64 z)] [J pre, box B 40 [.slice A l.length c]] [slA A l]) Ħ ?_;refine k_ 7 ?_;refine cc rfl ?_ ?_
 ·intro h8;dsimp only at hpre hz;(try simp only [nrmZ] at h8);have hk1 : l.length - 1 - pre.length < l.length := (by omega);refine k_ 5 ?_;refine elC Θ (l.length - 1 - pre.length) (List.getElem?_eq_getElem (l := l) hk1) ?_; rintro zbp zop zyp hAp;refine k_ 5 ?_;refine ls (op (p_ia (l.length - 1 - pre.length) hAp hk1 (by omega) underlying40 sizeOf103 rfl rfl) rfl) ?_;refine ls (o_ldj isAgg103 sizeOf103 rfl Θ 0 rfl Δ rfl) ?_;refine ls (o_yield (i := 0) rfl (by have := hY pre ⟨(l.length - 1 - pre.length, zyp), hk1⟩ (by dsimp only; omega); dsimp only at this; rw [show ((l.length - 1 - pre.length : Nat) : Int) = z by omega] at this; exact this) rfl rfl Ω rfl) ?_;refine le ?_; intro bb;refine k_ 3 ?_;refine cc rfl ?_ ?_
  ·intro h18;obtain rfl : false = bb := (by cases bb <;> first | rfl | (simp at h18))
   refine k_ 2 ?_;exact rR [0, 0] ⟨none, fun _ h => by cases h⟩
  ·intro h18;obtain rfl : true = bb := (by cases bb <;> first | rfl | (simp at h18))
   refine k_ 8 ?_;refine nnext ⟨(pre ++ [⟨(l.length - 1 - pre.length, zyp), hk1⟩], z - 1), by simp; omega, by simp; omega⟩ (by simp; omega) (wK [0, 0])
 ·intro h8;dsimp only at hpre hz;(try simp only [nrmZ] at h8);refine k_ 4 ?_;exact rR [0, 0] ⟨some pre, fun xs h => by cases h; omega⟩
theorem c_seqSwap (l m : List Prim) (A B : Option Addr) (c c' : Nat) (hl : l.length ≤ 2000000) (hm : m.length ≤ 2000000) (hfl : ∀ x ∈ l, x.fit) (hfm : ∀ x ∈ m, x.fit) : Con Tryz.prog 170 [.slice A l.length c, .slice B m.length c'] [] [slA A l, slA B m] {x : (List Prim × List Prim × Bool) × ((Option Addr × Nat) × (Option Addr × Nat)) // x.1 = swT l m} (fun x => .tuple #[.slice x.1.2.1.1 x.1.1.1.length x.1.2.1.2, .slice x.1.2.2.1 x.1.1.2.1.length x.1.2.2.2, .bool x.1.1.2.2]) (fun _ => []) (fun x => [slA x.1.2.1.1 x.1.1.1, slA x.1.2.2.1 x.1.1.2.1]) := by
 refine con func170 rfl ntmps170 rfl ?_;intro M0 F0 w0;refine k_ 2 ?_;refine ls (o_alloc zeroValue40 rfl rfl) ?_;refine le ?_; intro b4;refine ls (o_alloc zeroValue40 rfl rfl) ?_;refine le ?_; intro b5;refine ls (o_alloc zeroValue4 rfl rfl) ?_;refine le ?_; intro b6;refine k_ 5 ?_;refine lC [] call169 (c_seqCloned m B c' hm hfm) ?_; rintro ⟨A1, c1⟩;refine lmono (fun a w h => Go.Sx.freeze (i := 0) rfl h) ?_;refine k_ 5 ?_;refine cmono (fun a w h => nilSl (α := Prim) h) ?_;refine k_ 2 ?_;refine lC [] call147 (c_Backward l A c) ?_; intro b15;refine k_ 3 ?_;refine crng (ι := fun pre => {q : List Prim × List Prim × (Option Addr × Nat) × (Option Addr × Nat) // SI l m pre.length q.1 q.2.1 ∧ (q.2.1 = [] → q.2.2.2.2 = 0)}) rfl call201 (c_Backward1 l A c hl b15) (fun _ => rfl) rfl (fun pre i => [box b4 40 [.slice i.1.2.2.1.1 i.1.1.length i.1.2.2.1.2], box b5 40 [.slice i.1.2.2.2.1 i.1.2.1.length i.1.2.2.2.2], box b6 4 [.bool false]]) (fun pre i => [slA i.1.2.2.1.1 i.1.1, slA i.1.2.2.2.1 i.1.2.1]) (⟨(m, [], (A1, c1), (none, 0)), SI.start hfm, fun _ => rfl⟩) (Y := {u : Unit // swT l m = ([], [], false)}) (fun _ => [box b4 40 [.slice none 0 0], box b5 40 [.slice none 0 0], box b6 4 [.bool false]]) (fun _ => []) (is := [3, 2, 1, 0]) rfl Ω Ω ?_ ?_ ?_
 ·
  rintro M0 F0 w0 lp κ pre ⟨⟨k, yk⟩, hk⟩ hx ⟨⟨f, s, ⟨A1, c1⟩, ⟨A2, c2⟩⟩, hI, hA2⟩;dsimp only at hk hx hI hA2;have hfl1 := hI.fl; have hsl1 := hI.sl; have hfk := hfl _ (List.getElem_mem hk);refine cmono (S' := St M0 F0 w0 ⟨35, []⟩ [(4, pT b4), (5, pT b5), (6, pT b6), (17, sv l[k] yk)] [lrec lp κ .ready none, box b4 40 [.slice A1 f.length c1], box b5 40 [.slice A2 s.length c2], box b6 4 [.bool false]] [slA A1 f, slA A2 s, slA yk.1.1 l[k].old, slA yk.2.1 l[k].new]) (wk0 Φ Ω) ?_;refine cr ?_;refine ls (o_alloc zeroValue103 rfl rfl) ?_;refine le ?_; intro b8;refine k_ 2 ?_;refine nbegin (i := 1) rfl ?_;refine k_ 3 ?_;refine ls (o_ldw isAgg103 sizeOf103 rfl Θ (by rfl) rfl) ?_;refine k_ 1 ?_;refine lC [] call219 (c_seqPast l[k] yk hfk f A1 c1 (by omega) hI.ff) ?_; rintro ⟨⟨⟨f', q, r3⟩, ⟨⟨A', c'⟩, z2⟩⟩, hr⟩;dsimp only at hr;refine k_ 4 ?_;refine ls (o_alloc zeroValue103 rfl rfl) ?_;refine le ?_; intro b10;refine k_ 12 ?_;refine cc rfl ?_ ?_
  ·intro h26;obtain rfl : false = r3 := (by cases r3 <;> first | rfl | (simp at h26))
   refine k_ 8 ?_;refine xretR Ħ ?_;exact nrret ⟨(), hI.stop (by omega) hr⟩ (is := [1, 2, 2, 2]) rfl Ω
  ·intro h26;obtain rfl : true = r3 := (by cases r3 <;> first | rfl | (simp at h26))
   have hq := past1_ok (pastT_true hr) hfk hI.ff;refine k_ 2 ?_;refine cd [2, 3, 5, 6, 7] [(1, b10, 0, _), (4, b5, 0, _)] TryzX.mixed (tB 6 (tB 1 TOk.d)) ?_;refine u_ 0 2 ?_;refine u_ 4 1 ?_;refine df 2 Ψ ?_;refine doR rfl (o_call (is := []) call110 (c_primClone q z2 hq.2.1) rfl rfl Ω rfl) (TOk.x Ψ (TOk.t (isBoxE fun _ => isBoxS Θ (k := 1) Δ) TOk.d)) ?_;refine ea ?_; intro z3;refine df 3 Ψ ?_;refine doR rfl (o_bsl [q] underlying40 sizeOf103 zeroValue103 rfl (Enum.t Enum.d) (RV.t z3 rfl Ω RV.d) rfl (by decide) (by decide) rfl) (TOk.x Ψ (TOk.t (isBoxE fun _ => isBoxS Θ (k := 1) Δ) TOk.d)) ?_;refine ea ?_; intro b30;refine df 5 Ψ ?_;refine doR rfl (o_app (is := [0]) underlying40 inf103 rfl (by decide) (by decide) rfl rfl (by simp only [List.length_cons, List.length_nil]; omega) (fun h _ => hA2 h) rfl Ω rfl) tX ?_;refine ea ?_; rintro ⟨A3, c3⟩;refine amono (fun a w h => Go.Sx.freeze (i := 0) rfl h) ?_;refine df 6 Ψ ?_;refine doR rfl (o_st rfl sizeOf40 rfl rfl rfl rfl rfl Θ Θ Θ) tX ?_;refine df 7 Ψ ?_;refine doR rfl (o_st rfl sizeOf40 rfl rfl rfl rfl rfl Θ Θ Θ) tX ?_;refine dn Ψ ?_;refine k_ 1 ?_;exact nround ⟨(f', q :: s, (A', c'), (A3, c3)), by rw [List.length_append]; exact hI.step (by omega) hfl hr, fun h => by cases h⟩ (is := [1, 2, 2, 2]) rfl Ω
 ·
  rintro D xs hC ⟨⟨f, s, ⟨A1, c1⟩, ⟨A2, c2⟩⟩, hI, hA2⟩;dsimp only at hC hI;have hd := hI.done hC;refine k_ 3 ?_;refine cd [2, 3, 4] [(0, b4, 0, _), (1, b5, 0, _)] TryzX.mixed (tB 1 (tB 1 TOk.d)) ?_;refine u_ 0 2 ?_;refine df 2 Ψ ?_;refine doR rfl (o_st rfl sizeOf40 rfl rfl rfl rfl rfl Θ Θ Θ) (TOk.x Ψ (tB 1 TOk.d)) ?_;refine df 3 Ψ ?_;refine doR rfl (o_st rfl sizeOf40 rfl rfl rfl rfl rfl Θ Θ Θ) tX ?_;refine df 4 Ψ ?_;refine doR rfl (o_st rfl sizeOf4 rfl rfl rfl rfl rfl Θ Θ Θ) tX ?_;refine dn Ψ ?_;refine k_ 3 ?_;refine rretm (Dfr.c (i := 4) rfl Dfr.d) (is := []) ⟨((f, s, true), ((A1, c1), (A2, c2))), hd.symm⟩ (Or.inl rfl) (Res.c1 rfl isAgg40 Θ (Res.c1 rfl isAgg40 Θ (Res.c1 rfl isAgg4 Θ Res.d))) (rfl) rfl Ω
 ·
  rintro D ⟨_, hst⟩;refine nmono (fun a w h => nilSl (α := Prim) h) ?_;refine k_ 1 ?_;refine rretm (Dfr.c (i := 4) rfl Dfr.d) (is := []) ⟨(([], [], false), ((none, 0), (none, 0))), hst.symm⟩ (Or.inl rfl) (Res.c1 rfl isAgg40 Θ (Res.c1 rfl isAgg40 Θ (Res.c1 rfl isAgg4 Θ Res.d))) (rfl) rfl Ω
theorem c_IndexFuncP (l : List Prim) (A : Option Addr) (c : Nat) (hl : l.length ≤ 2000000) (f : Prim → Bool) (g : FuncId) (cap : List Value) (Γf : List Asn) (hcf : ∀ args w, (callFunc g args).run Tryz.prog w = .ok (.enter g args) w) (hg : ∀ x ∈ l, ∀ y, Con Tryz.prog g (sv x y :: cap) [] (Rp.asn x y ++ Γf) Unit (fun _ => .bool (f x)) (fun _ => []) (fun _ => [])) : Con Tryz.prog 217 [.slice A l.length c, .func (.func g) #[] cap.toArray] [] (slA A l :: Γf) {r : Int // -1 ≤ r ∧ r ≤ 2000000 ∧ (0 ≤ r ↔ l.any f = true)} (fun r => .int .i64 r.1) (fun _ => []) (fun _ => []) := by
 refine con func217 rfl ntmps217 rfl ?_;intro M0 F0 w0;refine k_ 14 ?_;refine cl (ι := {k : Nat // k ≤ l.length ∧ (l.take k).any f = false}) (fun i => St M0 F0 w0 19 [(0, .slice A l.length c), (1, .func (.func g) #[] cap.toArray), (7, .int .i64 (l.length : Int)), (8, .int .i64 (i.1 : Int))] [] (slA A l :: Γf)) (fun i => l.length - i.1) ⟨0, by simp⟩ (wk0 Φ Ω) ?_;rintro ⟨k, hk, hkk⟩;refine cmono (S' := St M0 F0 w0 19 [(0, .slice A l.length c), (1, .func (.func g) #[] cap.toArray), (7, .int .i64 (l.length : Int)), (8, .int .i64 (k : Int))] [] (slA A l :: Γf)) Ħ ?_;refine k_ 6 ?_;refine cc rfl ?_ ?_
 ·intro h9;(try simp only [nrmZ] at h9);have hk1 : k < l.length := (by omega);refine k_ 11 ?_;refine elC Θ k (List.getElem?_eq_getElem (l := l) hk1) ?_; rintro zbp zop zyp hAp;refine k_ 4 ?_;refine ls (op (p_ia k hAp hk1 rfl underlying40 sizeOf103 rfl rfl) rfl) ?_;refine ls (o_ldj isAgg103 sizeOf103 rfl Θ 0 rfl Δ rfl) ?_;refine ls (o_callv (is := []) rfl hcf (hg _ (List.getElem_mem hk1) _) rfl rfl rfl (Sub.app Ω Ω) rfl) ?_;refine le ?_; intro x16;refine k_ 2 ?_;refine cc rfl ?_ ?_
  ·intro h16;(try simp only [nrmZ] at h16);refine k_ 8 ?_;exact rR [] ⟨(k : Int), by omega, by omega, by simp only [List.any_eq_true]; exact ⟨fun _ => ⟨_, List.getElem_mem hk1, h16⟩, fun _ => by omega⟩⟩
  ·intro h16;(try simp only [nrmZ] at h16);refine k_ 7 ?_;refine nnext ⟨k + 1, hk1, by rw [List.take_succ_eq_append_getElem hk1, List.any_append, hkk]; simp [h16]⟩ (by dsimp only; omega) (wk0 Φ Ω)
 ·intro h9;(try simp only [nrmZ] at h9);refine k_ 12 ?_;exact rR [] ⟨-1, by omega, by omega, by rw [List.take_of_length_le (by omega)] at hkk; simp [hkk]⟩
theorem c_ContainsFuncP (l : List Prim) (A : Option Addr) (c : Nat) (hl : l.length ≤ 2000000) (f : Prim → Bool) (g : FuncId) (cap : List Value) (Γf : List Asn) (hcf : ∀ args w, (callFunc g args).run Tryz.prog w = .ok (.enter g args) w) (hg : ∀ x ∈ l, ∀ y, Con Tryz.prog g (sv x y :: cap) [] (Rp.asn x y ++ Γf) Unit (fun _ => .bool (f x)) (fun _ => []) (fun _ => [])) : Con Tryz.prog 163 [.slice A l.length c, .func (.func g) #[] cap.toArray] [] (slA A l :: Γf) Unit (fun _ => .bool (l.any f)) (fun _ => []) (fun _ => []) := by
 refine con func163 rfl ntmps163 rfl ?_;intro M0 F0 w0;refine k_ 9 ?_;refine lC [] call217 (c_IndexFuncP l A c hl f g cap Γf hcf hg) ?_; rintro ⟨r, hr1, hr2, hr3⟩;refine k_ 6 ?_;refine rret (is := []) () (Or.inl rfl) (Res.t rfl Res.d) ?_ rfl Ω;simp [packV]; rw [Bool.eq_iff_iff]; simp [← hr3]
theorem c_seqRight1 (p : Prim) (y : Rp.Lay Prim) (hp : p.fit) : Con Tryz.prog 164 [sv p y] [] (Rp.asn p y) Unit (fun _ => .bool (!p.right)) (fun _ => []) (fun _ => []) := by
 refine con func164 rfl ntmps164 rfl ?_;intro M0 F0 w0;refine k_ 2 ?_;refine ls (o_box rfl rfl rfl) ?_;refine le ?_; intro b1;refine k_ 5 ?_;refine ls (o_ldw isAgg103 sizeOf103 rfl Θ (by rfl) rfl) ?_;refine lC [] call142 (c_primRight p y hp) ?_; intro x4;refine k_ 6 ?_;exact rR [] ()
theorem c_seqRight (l : List Prim) (A : Option Addr) (c : Nat) (hl : l.length ≤ 2000000) (hf : ∀ x ∈ l, x.fit) : Con Tryz.prog 109 [.slice A l.length c] [] [slA A l] Unit (fun _ => .bool (l.all Prim.right)) (fun _ => []) (fun _ => []) := by
 refine con func109 rfl ntmps109 rfl ?_;intro M0 F0 w0;refine k_ 8 ?_;refine lC [] call163 (c_ContainsFuncP l A c hl (fun x => !x.right) 164 [] [] call164 (fun x hx y => by rw [List.append_nil]; exact c_seqRight1 x y (hf x hx))) ?_; intro x4;refine k_ 6 ?_;refine rret (is := []) () (Or.inl rfl) (Res.t rfl Res.d) ?_ rfl Ω;simp [packV, List.any_eq_not_all_not]
theorem c_ref5Right (l : List Prim) (A : Option Addr) (c : Nat) (hl : l.length ≤ 2000000) (hf : ∀ x ∈ l, x.fit) : Con Tryz.prog 62 [.slice A l.length c] [] [slA A l] Unit (fun _ => .bool (l.all Prim.right)) (fun _ => []) (fun _ => []) := by
 refine con func62 rfl ntmps62 rfl ?_;intro M0 F0 w0;refine k_ 12 ?_;refine cl (ι := {k : Nat // k ≤ l.length ∧ (l.take k).all Prim.right = true}) (fun i => St M0 F0 w0 16 [(0, .slice A l.length c), (3, .int .i64 (i.1 : Int))] [] [slA A l]) (fun i => l.length - i.1) ⟨0, by simp⟩ (wk0 Φ Ω) ?_;rintro ⟨k, hk, hkk⟩;refine cmono (S' := St M0 F0 w0 16 [(0, .slice A l.length c), (3, .int .i64 (k : Int))] [] [slA A l]) Ħ ?_;refine k_ 9 ?_;refine cc rfl ?_ ?_
 ·intro h7;(try simp only [nrmZ] at h7);have hk1 : k < l.length := (by omega);refine k_ 5 ?_;refine elC Θ k (List.getElem?_eq_getElem (l := l) hk1) ?_; rintro zbp zop zyp hAp;refine k_ 3 ?_;refine ls (op (p_ia k hAp hk1 rfl underlying24 sizeOf101 rfl rfl) rfl) ?_;refine ls (o_ldj isAgg101 sizeOf101 rfl Θ 0 rfl Δ rfl) ?_;refine lC [] call114 (c_refRight l[k] zyp (hf _ (List.getElem_mem hk1))) ?_; intro x14;refine k_ 3 ?_;refine cc rfl ?_ ?_
  ·intro h15;(try simp only [nrmZ] at h15);refine k_ 7 ?_;refine rret (is := []) () (Or.inl rfl) (Res.t rfl Res.d) ?_ rfl Ω;simp only [packV]; rw [all_not (List.getElem_mem hk1) h15]
  ·intro h15;(try simp only [nrmZ] at h15);refine k_ 8 ?_;refine nnext ⟨k + 1, hk1, by rw [List.take_succ_eq_append_getElem hk1, List.all_append, hkk]; simp [h15]⟩ (by dsimp only; omega) (wk0 Φ Ω)
 ·intro h7;(try simp only [nrmZ] at h7);refine k_ 12 ?_;refine rret (is := []) () (Or.inl rfl) (Res.t rfl Res.d) ?_ rfl Ω;simp only [packV]; rw [List.take_of_length_le (by omega)] at hkk; rw [hkk]
theorem c_refAllP (l m : List Prim) (A B : Option Addr) (c c' : Nat) (hl : l.length ≤ 2000000) (hf : ∀ x ∈ l, x.fit) : Con Tryz.prog 36 [.slice A l.length c, .slice B m.length c'] [] [slA A l, slA B m] Unit (fun _ => .bool (decide (l = m))) (fun _ => []) (fun _ => []) := by
 refine con func36 rfl ntmps36 rfl ?_;intro M0 F0 w0;refine k_ 15 ?_;refine cc rfl ?_ ?_
 ·intro h10;(try simp only [nrmZ] at h10);refine k_ 7 ?_;refine rret (is := []) () (Or.inl rfl) (Res.t rfl Res.d) ?_ rfl Ω;simp [packV]; intro e; rw [e] at h10; exact h10 rfl
 ·intro h10;(try simp only [nrmZ] at h10);refine k_ 9 ?_;refine cl (ι := {k : Nat // k ≤ l.length ∧ l.take k = m.take k}) (fun i => St M0 F0 w0 27 [(0, .slice A l.length c), (1, .slice B m.length c'), (5, .int .i64 (i.1 : Int))] [] [slA A l, slA B m]) (fun i => l.length - i.1) ⟨0, by simp⟩ (wk0 Φ Ω) ?_;rintro ⟨k, hk, hkk⟩;refine cmono (S' := St M0 F0 w0 27 [(0, .slice A l.length c), (1, .slice B m.length c'), (5, .int .i64 (k : Int))] [] [slA A l, slA B m]) Ħ ?_;refine k_ 9 ?_;refine cc rfl ?_ ?_
  ·intro h14;(try simp only [nrmZ] at h14);have hk1 : k < l.length := (by omega);have hk2 : k < m.length := (by omega);refine k_ 5 ?_;refine elC Θ k (List.getElem?_eq_getElem (l := l) hk1) ?_; rintro zbp zop zyp hAp;refine elC Θ k (List.getElem?_eq_getElem (l := m) hk2) ?_; rintro zbq zoq zyq hAq;refine cd [8] [(3, zbp, zop + k * Rp.size Prim, _), (7, zbq, zoq + k * Rp.size Prim, _)] TryzX.mixed (TOk.t (isInS Θ (k := 0) rfl (z := 6) Δ) (TOk.t (isInS Θ (k := 0) rfl (z := 6) Δ) TOk.d)) ?_;refine u_ 0 2 ?_;refine tk 2 rfl Ψ Υ gnone (TTany _) (p_ia k hAp hk1 rfl underlying24 sizeOf101 rfl rfl) rfl ?_;refine u_ 3 3 ?_;refine tk 6 rfl Ψ Υ gnone (TTany _) (p_ia k hAq hk2 rfl underlying24 sizeOf101 rfl rfl) rfl ?_;refine u_ 7 1 ?_;refine df 8 Ψ ?_;refine doR rfl (o_call (is := []) call86 (c_refSame l[k] m[k] zyp zyq (hf _ (List.getElem_mem hk1))) rfl rfl Ω rfl) tX ?_;refine ea ?_; intro x25;refine u_ 9 1 ?_;refine dn Ψ ?_;refine k_ 1 ?_;refine cc rfl ?_ ?_
   ·intro h26;(try simp only [nrmZ] at h26);refine k_ 7 ?_;refine rret (is := []) () (Or.inl rfl) (Res.t rfl Res.d) ?_ rfl Ω;simp [packV]; rintro rfl; exact h26 rfl
   ·intro h26;(try simp only [nrmZ] at h26);refine k_ 8 ?_;refine nnext ⟨k + 1, hk1, by rw [List.take_succ_eq_append_getElem hk1, List.take_succ_eq_append_getElem hk2, hkk, h26]⟩ (by dsimp only; omega) (wK [])
  ·intro h14;(try simp only [nrmZ] at h14);refine k_ 12 ?_;refine rret (is := []) () (Or.inl rfl) (Res.t rfl Res.d) ?_ rfl Ω;simp [packV]; have := List.take_of_length_le (l := l) (i := k) (by omega); have := List.take_of_length_le (l := m) (i := k) (by omega); simp_all
end Go.Proofs.YtbhnolfcdcpbkaaGreatDoor.X
end
section
namespace Go.Sx
open Go Go.RowKit
end Go.Sx
end
section
namespace Go.Sx
open Go Go.RowKit
def appliedT (M : List File) (ps : List Prim) : List File := ps.foldl (fun T p => (rApplyT T p).1) M
def news (ps : List Prim) : Nat := (ps.map fun p => p.new.length).sum
theorem news_take (ps : List Prim) (k : Nat) : news (ps.take k) ≤ news ps := by
 have e : news ps = news (ps.take k) + news (ps.drop k) := by
  unfold news;rw [← List.sum_append, ← List.map_append, List.take_append_drop]
 omega
structure AppInv (m n : Nat) (T : List File) : Prop where
 so : Sor T
 good : Good T
 lmax : Lmax m T
 len : T.length ≤ n
theorem AppInv.apply {m n : Nat} {T : List File} (h : AppInv m n T) (p : Prim) : AppInv (m + p.new.length) (n + 1) (rApplyT T p).1 :=
 ⟨rApply_sor h.so p, rApply_good h.good p, rApply_lmax h.lmax p, Nat.le_trans (rApply_len T p) (Nat.succ_le_succ h.len)⟩
theorem AppInv.applied {m n : Nat} {M : List File} (h : AppInv m n M) : ∀ (ps : List Prim), AppInv (m + news ps) (n + ps.length) (appliedT M ps) := by
 intro ps
 induction ps generalizing M m n with
 | nil => exact h
 | cons p ps ih =>
  have := ih (h.apply p);have e1 : m + p.new.length + news ps = m + news (p :: ps) := by unfold news; simp only [List.map_cons, List.sum_cons]; omega
  have e2 : n + 1 + ps.length = n + (p :: ps).length := by simp only [List.length_cons]; omega
  rw [e1, e2] at this;exact this
end Go.Sx
end
section
namespace Go.Sx
open Go
/-! Prims that were swapped make of any tree what these made. -/
abbrev Tf := ByteArray → Option (List ByteArray)
def upd (f : Tf) (k : ByteArray) (v : Option (List ByteArray)) : Tf := fun x => if x = k then v else f x
theorem upd_at (f : Tf) (k : ByteArray) (v : Option (List ByteArray)) : upd f k v k = v := if_pos rfl
theorem upd_ne (f : Tf) {k x : ByteArray} (v : Option (List ByteArray)) (h : x ≠ k) : upd f k v x = f x := if_neg h
def Step (f : Tf) (p : Prim) (g : Tf) : Prop :=
 if p.kind = 0 then ∃ A B, f p.name = some (A ++ p.old ++ B) ∧ (A.length : Int) = p.pos ∧ g = upd f p.name (some (A ++ p.new ++ B))
 else if p.kind = 1 then f p.name = none ∧ g = upd f p.name (some [])
 else if p.kind = 2 then f p.name = some [] ∧ g = upd f p.name none
 else ∃ l, f p.name = some l ∧ f p.to = none ∧ g = upd (upd f p.name none) p.to (some l)
theorem step0 {f g : Tf} {p : Prim} (h : p.kind = 0) : Step f p g ↔ ∃ A B, f p.name = some (A ++ p.old ++ B) ∧ (A.length : Int) = p.pos ∧ g = upd f p.name (some (A ++ p.new ++ B)) := by
 unfold Step; rw [if_pos h]
theorem step1 {f g : Tf} {p : Prim} (h : p.kind = 1) : Step f p g ↔ f p.name = none ∧ g = upd f p.name (some []) := by
 unfold Step; rw [if_neg (by omega), if_pos h]
theorem step2 {f g : Tf} {p : Prim} (h : p.kind = 2) : Step f p g ↔ f p.name = some [] ∧ g = upd f p.name none := by
 unfold Step; rw [if_neg (by omega), if_neg (by omega), if_pos h]
theorem step3 {f g : Tf} {p : Prim} (h : p.kind = 3) : Step f p g ↔ ∃ l, f p.name = some l ∧ f p.to = none ∧ g = upd (upd f p.name none) p.to (some l) := by
 unfold Step; rw [if_neg (by omega), if_neg (by omega), if_neg (by omega)]
theorem names3 {p : Prim} (h : p.kind = 3) : p.names = [p.name, p.to] := by unfold Prim.names; rw [if_pos h]
theorem namesN {p : Prim} (h : p.kind ≠ 3) : p.names = [p.name] := by unfold Prim.names; rw [if_neg h]
theorem step_off {f g : Tf} {p : Prim} (hr : p.right = true) (h : Step f p g) {k : ByteArray} (hk : k ∉ p.names) : g k = f k := by
 rcases right_kind hr with h0 | h0 | h0 | h0
 ·obtain ⟨A, B, _, _, rfl⟩ := (step0 h0).1 h;rw [namesN (by omega)] at hk; exact upd_ne _ _ (by simpa using hk)
 ·obtain ⟨_, rfl⟩ := (step1 h0).1 h;rw [namesN (by omega)] at hk; exact upd_ne _ _ (by simpa using hk)
 ·obtain ⟨_, rfl⟩ := (step2 h0).1 h;rw [namesN (by omega)] at hk; exact upd_ne _ _ (by simpa using hk)
 ·obtain ⟨l, _, _, rfl⟩ := (step3 h0).1 h;rw [names3 h0] at hk; simp only [List.mem_cons, List.mem_nil_iff, or_false, not_or] at hk;rw [upd_ne _ _ hk.2, upd_ne _ _ hk.1]
theorem step_local {f g f' g' : Tf} {p : Prim} (hr : p.right = true) (h : Step f p g) (h1 : ∀ k ∈ p.names, f' k = f k) (h2 : ∀ k ∈ p.names, g' k = g k) (h3 : ∀ k, k ∉ p.names → g' k = f' k) : Step f' p g' := by
 have hn : p.name ∈ p.names := by unfold Prim.names; split <;> simp
 rcases right_kind hr with h0 | h0 | h0 | h0
 ·obtain ⟨A, B, e1, e2, e3⟩ := (step0 h0).1 h;refine (step0 h0).2 ⟨A, B, by rw [h1 _ hn, e1], e2, funext fun k => ?_⟩
  by_cases e : k = p.name
  ·subst e; rw [h2 _ hn, upd_at, e3, upd_at]
  ·rw [upd_ne _ _ e, h3 _ (by rw [namesN (by omega)]; simpa using e)]
 ·obtain ⟨e1, e3⟩ := (step1 h0).1 h;refine (step1 h0).2 ⟨by rw [h1 _ hn, e1], funext fun k => ?_⟩
  by_cases e : k = p.name
  ·subst e; rw [h2 _ hn, upd_at, e3, upd_at]
  ·rw [upd_ne _ _ e, h3 _ (by rw [namesN (by omega)]; simpa using e)]
 ·obtain ⟨e1, e3⟩ := (step2 h0).1 h;refine (step2 h0).2 ⟨by rw [h1 _ hn, e1], funext fun k => ?_⟩
  by_cases e : k = p.name
  ·subst e; rw [h2 _ hn, upd_at, e3, upd_at]
  ·rw [upd_ne _ _ e, h3 _ (by rw [namesN (by omega)]; simpa using e)]
 ·obtain ⟨l, e1, e2, e3⟩ := (step3 h0).1 h;have ht : p.to ∈ p.names := by rw [names3 h0]; simp
  refine (step3 h0).2 ⟨l, by rw [h1 _ hn, e1], by rw [h1 _ ht, e2], funext fun k => ?_⟩
  by_cases e : k = p.to
  ·subst e; rw [h2 _ ht, upd_at, e3, upd_at]
  ·rw [upd_ne _ _ e]
   by_cases e' : k = p.name
   ·subst e'; rw [h2 _ hn, upd_at, e3, upd_ne _ _ e, upd_at]
   ·rw [upd_ne _ _ e', h3 _ (by rw [names3 h0]; simp [e, e'])]
open Classical in
theorem step_apart {f g h : Tf} {p q : Prim} (hp : p.right = true) (hq : q.right = true) (h1 : Step f p g) (h2 : Step g q h) (hd : ∀ k ∈ p.names, k ∉ q.names) : ∃ m, Step f q m ∧ Step m p h := by
 refine ⟨fun k => if k ∈ q.names then h k else f k, step_local hq h2 (fun k hk => ?_) (fun k hk => if_pos hk) (fun k hk => if_neg hk), step_local hp h1 (fun k hk => if_neg (hd k hk)) (fun k hk => step_off hq h2 (hd k hk)) fun k hk => ?_⟩
 ·exact (step_off hp h1 (fun hk' => hd k hk' hk)).symm
 ·by_cases e : k ∈ q.names
  ·exact (if_pos e).symm
  ·rw [if_neg e, step_off hq h2 e, step_off hp h1 hk]
theorem meets_no {p q : Prim} (h : p.meets q = false) : ∀ k ∈ p.names, k ∉ q.names := fun k h1 h2 => by
 have : p.meets q = true := by
  unfold Prim.meets;rw [List.any_eq_true];exact ⟨k, h1, by rw [List.any_eq_true]; exact ⟨k, h2, by simp⟩⟩
 rw [h] at this; cases this
theorem split_at {A B C D : List ByteArray} {o : List ByteArray} (h : A ++ o ++ B = C ++ D) (hl : A.length + o.length ≤ C.length) : ∃ E, C = A ++ o ++ E ∧ B = E ++ D := by
 rw [List.append_eq_append_iff] at h;rcases h with ⟨E, h1, h2⟩ | ⟨E, h1, h2⟩
 ·exact ⟨E, h1, h2⟩
 ·have : E = [] := by
   have := congrArg List.length h1;simp only [List.length_append] at this;exact List.eq_nil_of_length_eq_zero (by omega)
  subst this;exact ⟨[], by simpa using h1.symm, by simpa using h2.symm⟩
theorem step_swap {f g h : Tf} {p q a b : Prim} (h1 : Step f p g) (h2 : Step g q h) (hs : swap p q = (a, b, true)) : ∃ m, Step f a m ∧ Step m b h := by
 obtain ⟨hs, hp, hq, ha, hb⟩ := swap_true hs;rcases swapped_cases hs with ⟨h0, h3, hn, hc, ea, eb⟩ | ⟨h0, h3, hn, hc, ea, eb⟩ | ⟨h0, h3, hn, ea, eb⟩ | ⟨h0, h3, hn, ea, eb⟩ | ⟨h0, h3, hn, ht, ea, eb⟩ | ⟨h0, h3, hn, ea, eb⟩ | ⟨h0, h3, hn, ht, ea, eb⟩ | ⟨h4, h5, h3, hm, ea, eb⟩
 ·rw [ea, eb]; obtain ⟨A, B, e1, e2, rfl⟩ := (step0 h0).1 h1;obtain ⟨C, D, e3, e4, rfl⟩ := (step0 h3).1 h2;rw [← hn, upd_at] at e3;obtain ⟨E, rfl, rfl⟩ := split_at (D := q.old ++ D) (by simpa using (Option.some.inj e3)) (by omega);refine ⟨upd f p.name (some (A ++ p.old ++ E ++ q.new ++ D)), (step0 (p := { q with pos := q.pos - ((p.new.length : Int) - p.old.length) }) h3).2 ⟨A ++ p.old ++ E, D, ?_, ?_, ?_⟩, (step0 h0).2 ⟨A, E ++ q.new ++ D, ?_, e2, ?_⟩⟩
  ·dsimp only; rw [← hn, e1]; simp
  ·dsimp only; simp only [List.length_append] at e4 ⊢; omega
  ·dsimp only; rw [← hn]
  ·rw [upd_at]; simp
  ·rw [← hn]; funext k
   by_cases e : k = p.name
   ·subst e; rw [upd_at, upd_at]; simp
   ·rw [upd_ne _ _ e, upd_ne _ _ e, upd_ne _ _ e, upd_ne _ _ e]
 ·rw [ea, eb]; obtain ⟨A, B, e1, e2, rfl⟩ := (step0 h0).1 h1;obtain ⟨C, D, e3, e4, rfl⟩ := (step0 h3).1 h2;rw [← hn, upd_at] at e3;obtain ⟨E, rfl, rfl⟩ := split_at (A := C) (o := q.old) (B := D) (C := A) (D := p.new ++ B) (by simpa using (Option.some.inj e3).symm) (by omega);refine ⟨upd f p.name (some (C ++ q.new ++ (E ++ p.old ++ B))), (step0 h3).2 ⟨C, E ++ p.old ++ B, ?_, e4, ?_⟩, (step0 (p := { p with pos := p.pos + ((q.new.length : Int) - q.old.length) }) h0).2 ⟨C ++ q.new ++ E, B, ?_, ?_, ?_⟩⟩
  ·rw [← hn, e1]; simp
  ·rw [← hn]
  ·dsimp only; rw [upd_at]; simp
  ·dsimp only; simp only [List.length_append] at e2 ⊢; omega
  ·dsimp only; rw [← hn]; funext k
   by_cases e : k = p.name
   ·subst e; rw [upd_at, upd_at]; simp
   ·rw [upd_ne _ _ e, upd_ne _ _ e, upd_ne _ _ e, upd_ne _ _ e]
 ·rw [ea, eb]; exact step_apart hp hq h1 h2 (fun k => by rw [namesN (by omega), namesN (by omega)]; simp only [List.mem_singleton]; rintro rfl; exact hn)
 ·rw [ea, eb]; obtain ⟨A, B, e1, e2, rfl⟩ := (step0 h0).1 h1;obtain ⟨l, e3, e4, rfl⟩ := (step3 h3).1 h2;rw [← hn, upd_at] at e3;obtain rfl := Option.some.inj e3;have hne : q.to ≠ p.name := fun e => by rw [e, upd_at] at e4; cases e4
  rw [upd_ne _ _ hne] at e4;refine ⟨upd (upd f q.name none) q.to (some (A ++ p.old ++ B)), (step3 h3).2 ⟨_, by rw [← hn, e1], e4, rfl⟩, (step0 (p := { p with name := q.to }) h0).2 ⟨A, B, ?_, e2, ?_⟩⟩
  ·dsimp only; rw [upd_at]
  ·dsimp only; rw [← hn]; funext k
   by_cases e : k = q.to
   ·subst e; rw [upd_at, upd_at]
   ·rw [upd_ne _ _ e, upd_ne _ _ e, upd_ne _ _ e]
    by_cases e' : k = p.name
    ·subst e'; rw [upd_at, upd_at]
    ·rw [upd_ne _ _ e', upd_ne _ _ e', upd_ne _ _ e']
 ·rw [ea, eb]; exact step_apart hp hq h1 h2 (fun k => by rw [namesN (by omega), names3 h3]; simp only [List.mem_singleton, List.mem_cons, List.mem_nil_iff, or_false, not_or]; rintro rfl; exact ⟨hn, ht⟩)
 ·rw [ea, eb]; obtain ⟨l, e1, e2, rfl⟩ := (step3 h0).1 h1;obtain ⟨A, B, e3, e4, rfl⟩ := (step0 h3).1 h2;rw [← hn, upd_at] at e3;obtain rfl := Option.some.inj e3;have hne : p.to ≠ p.name := fun e => by rw [e, e1] at e2; cases e2
  refine ⟨upd f p.name (some (A ++ q.new ++ B)), (step0 (p := { q with name := p.name }) h3).2 ⟨A, B, ?_, e4, rfl⟩, (step3 h0).2 ⟨_, upd_at _ _ _, ?_, ?_⟩⟩
  ·dsimp only; rw [e1]
  ·rw [upd_ne _ _ hne, e2]
  ·rw [← hn]; funext k
   by_cases e : k = p.to
   ·subst e; rw [upd_at, upd_at]
   ·rw [upd_ne _ _ e, upd_ne _ _ e, upd_ne _ _ e]
    by_cases e' : k = p.name
    ·subst e'; rw [upd_at, upd_at]
    ·rw [upd_ne _ _ e', upd_ne _ _ e', upd_ne _ _ e']
 ·rw [ea, eb]; exact step_apart hp hq h1 h2 (fun k => by rw [names3 h0, namesN (by omega)]; simp only [List.mem_singleton, List.mem_cons, List.mem_nil_iff, or_false]; rintro (rfl | rfl); exact ht; exact hn)
 ·rw [ea, eb]; exact step_apart hp hq h1 h2 (meets_no hm)
/-! trees -/
theorem hasT_eq (T : List File) (k : ByteArray) : (hasT T k = true ↔ ∃ l, getT T k = some l) := by
 unfold hasT; rw [Option.isSome_iff_exists]
theorem splT_at {l A B o n : List ByteArray} {z : Int} (h : l = A ++ o ++ B) (hz : (A.length : Int) = z) : standsB l z o = true ∧ splT l z o n = A ++ n ++ B := by
 subst hz;have h1 : standsB l (A.length : Int) o = true := by
  rw [standsB_nat (by rw [h]; simp only [List.length_append]; omega), h, decide_eq_true_eq, List.append_assoc, List.drop_left, List.take_left]
 refine ⟨h1, ?_⟩;rw [splT_yes h1, h];rw [show (A ++ o ++ B).take A.length = A by rw [List.append_assoc, List.take_left], show (A ++ o ++ B).drop (A.length + o.length) = B by rw [← List.length_append, List.drop_left]]
theorem stands_at {l o : List ByteArray} {z : Int} (h : standsB l z o = true) : ∃ A B, l = A ++ o ++ B ∧ (A.length : Int) = z := by
 obtain ⟨k, rfl, h1, h2⟩ := standsB_yes h;refine ⟨l.take k, (l.drop k).drop o.length, ?_, by rw [List.length_take]; omega⟩
 conv => rhs; rw [← h2]
 rw [List.append_assoc];have : ((l.drop k).take o.length).length = o.length := by rw [h2]
 rw [this, List.take_append_drop, List.take_append_drop]
def Ran (T : List File) (p : Prim) (U : List File) : Prop := rApplyT T p = (U, 0)
theorem ran_right {T U : List File} {p : Prim} (h : Ran T p U) : p.right = true := by
 unfold Ran rApplyT at h
 split at h
 ·simp at h
 ·rename_i h1; simpa using h1
theorem ran_sor {T U : List File} {p : Prim} (h : Ran T p U) (hS : Sor T) : Sor U := by
 have := rApply_sor hS p; rw [h] at this; exact this
theorem ran_step {T U : List File} {p : Prim} (hS : Sor T) (h : Ran T p U) : Step (getT T) p (getT U) := by
 have hr := ran_right h;unfold Ran rApplyT at h;rw [if_neg (by simp [hr])] at h;rcases right_kind hr with h0 | h0 | h0 | h0
 ·rw [if_pos h0] at h
  split at h
  ·rename_i hc
   obtain ⟨A, B, e1, e2⟩ := stands_at hc.2;simp only [Prod.mk.injEq, and_true] at h;refine (step0 h0).2 ⟨A, B, by rw [← e1]; exact hasT_yes hc.1, e2, funext fun k => ?_⟩;rw [← h, getT_put hS, (splT_at e1 e2).2]; rfl
  ·simp at h
 ·rw [if_neg (by omega), if_pos h0] at h
  split at h
  ·rename_i hc
   simp only [Prod.mk.injEq, and_true] at h;exact (step1 h0).2 ⟨hasT_no hc, funext fun k => by rw [← h, getT_put hS]; rfl⟩
  ·simp at h
 ·rw [if_neg (by omega), if_neg (by omega), if_pos h0] at h
  split at h
  ·rename_i hc
   simp only [Prod.mk.injEq, and_true] at h;exact (step2 h0).2 ⟨by rw [hasT_yes hc.1, List.eq_nil_of_length_eq_zero hc.2], funext fun k => by rw [← h, getT_del hS]; rfl⟩
  ·simp at h
 ·rw [if_neg (by omega), if_neg (by omega), if_neg (by omega), if_pos h0] at h
  split at h
  ·rename_i hc
   simp only [Prod.mk.injEq, and_true] at h;exact (step3 h0).2 ⟨_, hasT_yes hc.1, hasT_no hc.2, funext fun k => by rw [← h, getT_put (hS.del _), getT_del hS]; rfl⟩
  ·simp at h
theorem step_ran {T : List File} {p : Prim} {g : Tf} (hS : Sor T) (hr : p.right = true) (h : Step (getT T) p g) : ∃ U, Ran T p U ∧ getT U = g := by
 unfold Ran rApplyT;rw [if_neg (by simp [hr])];rcases right_kind hr with h0 | h0 | h0 | h0
 ·obtain ⟨A, B, e1, e2, rfl⟩ := (step0 h0).1 h;have hL : getL T p.name = A ++ p.old ++ B := by unfold getL; rw [e1]; rfl
  obtain ⟨s1, s2⟩ := splT_at (n := p.new) hL e2;rw [if_pos h0, if_pos ⟨(hasT_eq _ _).2 ⟨_, e1⟩, s1⟩];exact ⟨_, rfl, funext fun k => by rw [getT_put hS, s2]; rfl⟩
 ·obtain ⟨e1, rfl⟩ := (step1 h0).1 h;rw [if_neg (by omega), if_pos h0, if_pos (by unfold hasT; rw [e1]; rfl)];exact ⟨_, rfl, funext fun k => by rw [getT_put hS]; rfl⟩
 ·obtain ⟨e1, rfl⟩ := (step2 h0).1 h;rw [if_neg (by omega), if_neg (by omega), if_pos h0, if_pos ⟨(hasT_eq _ _).2 ⟨_, e1⟩, by unfold getL; rw [e1]; rfl⟩];exact ⟨_, rfl, funext fun k => by rw [getT_del hS]; rfl⟩
 ·obtain ⟨l, e1, e2, rfl⟩ := (step3 h0).1 h;rw [if_neg (by omega), if_neg (by omega), if_neg (by omega), if_pos h0, if_pos ⟨(hasT_eq _ _).2 ⟨_, e1⟩, by unfold hasT; rw [e2]; rfl⟩];refine ⟨_, rfl, funext fun k => ?_⟩;rw [getT_put (hS.del _), getT_del hS];unfold getL; rw [e1]; rfl
theorem ran_swap {T U V : List File} {p q a b : Prim} (hS : Sor T) (h1 : Ran T p U) (h2 : Ran U q V) (hs : swap p q = (a, b, true)) : ∃ M, Ran T a M ∧ Ran M b V := by
 obtain ⟨_, _, _, ha, hb⟩ := swap_true hs;obtain ⟨m, s1, s2⟩ := step_swap (ran_step hS h1) (ran_step (ran_sor h1 hS) h2) hs;obtain ⟨M, r1, rfl⟩ := step_ran hS ha s1;obtain ⟨W, r2, e⟩ := step_ran (ran_sor r1 hS) hb s2;obtain rfl := getT_ext (ran_sor r2 (ran_sor r1 hS)) (ran_sor h2 (ran_sor h1 hS)) fun k => congrFun e k;exact ⟨M, r1, r2⟩
/-! rows -/
def Runs : List File → List Prim → List File → Prop
 | T, [], U => T = U
 | T, p :: l, U => ∃ M, Ran T p M ∧ Runs M l U
theorem runs_app {l m : List Prim} {U : List File} : ∀ {T : List File}, Runs T (l ++ m) U ↔ ∃ M, Runs T l M ∧ Runs M m U := by
 induction l with
 | nil => intro T; exact ⟨fun h => ⟨T, rfl, h⟩, fun ⟨M, e, h⟩ => by cases e; exact h⟩
 | cons p l ih =>
  intro T;show (∃ M, Ran T p M ∧ Runs M (l ++ m) U) ↔ _;constructor
  ·rintro ⟨M, h1, h2⟩;obtain ⟨N, h3, h4⟩ := ih.1 h2;exact ⟨N, ⟨M, h1, h3⟩, h4⟩
  ·rintro ⟨N, ⟨M, h1, h3⟩, h4⟩;exact ⟨M, h1, ih.2 ⟨N, h3, h4⟩⟩
theorem runs_sor {l : List Prim} {U : List File} : ∀ {T : List File}, Runs T l U → Sor T → Sor U := by
 induction l with
 | nil => intro T h hS; cases h; exact hS
 | cons p l ih => rintro T ⟨M, h1, h2⟩ hS; exact ih h2 (ran_sor h1 hS)
theorem runs_past {m : List Prim} {U : List File} : ∀ {T : List File} {p q : Prim} {f : List Prim}, Sor T → Runs T (p :: m) U → past1 p m = some (f, q) → Runs T (f ++ [q]) U := by
 induction m with
 | nil =>
  intro T p q f hS h hp;obtain ⟨rfl, rfl⟩ := pas_nil.1 hp;exact h
 | cons x m ih =>
  rintro T p q f hS ⟨M, h1, N, h2, h3⟩ hp;obtain ⟨a, b, f', e1, e2, rfl⟩ := pas_cons.1 hp;obtain ⟨K, r1, r2⟩ := ran_swap hS h1 h2 e1;exact ⟨K, r1, ih (ran_sor r1 hS) ⟨N, r2, h3⟩ e2⟩
theorem runs_swapR : ∀ {l m s f t : List Prim} {T U : List File}, Sor T → Runs T (l.reverse ++ m ++ s) U → swapR l m s = some (f, t) → Runs T (f ++ t) U
 | [], m, s, f, t, T, U, hS, h, e => by
  simp only [swapR, Option.some.injEq, Prod.mk.injEq] at e;obtain ⟨rfl, rfl⟩ := e
  simpa using h
 | p :: l, m, s, f, t, T, U, hS, h, e => by
  rw [swapR, Option.bind_eq_some_iff] at e;obtain ⟨⟨n, q⟩, e1, e2⟩ := e;refine runs_swapR hS ?_ e2;rw [List.reverse_cons, List.append_assoc, List.append_assoc, runs_app] at h;obtain ⟨M, r1, r2⟩ := h;rw [show [p] ++ (m ++ s) = (p :: m) ++ s by rfl, runs_app] at r2;obtain ⟨N, r3, r4⟩ := r2;rw [List.append_assoc, runs_app];refine ⟨M, r1, ?_⟩;have := runs_past (runs_sor r1 hS) r3 e1;rw [show n ++ q :: s = (n ++ [q]) ++ s by simp, runs_app];exact ⟨N, this, r4⟩
theorem runs_swapL {l m f s : List Prim} {T U : List File} (hS : Sor T) (h : Runs T (l ++ m) U) (e : swapL l m = some (f, s)) : Runs T (f ++ s) U :=
 runs_swapR (l := l.reverse) hS (by simpa using h) e
theorem ran_back {T U : List File} {p : Prim} (hS : Sor T) (hG : Good T) (h : Ran T p U) : Ran U p.flip T := by
 have h1 : (U, (0 : Int)) = applyT T p := by rw [apply_eq hS hG]; exact h.symm
 have hG1 : Good U := by have := rApply_good hG p; rw [h] at this; exact this
 have := apply_back hS hG h1;rw [apply_eq (ran_sor h hS) hG1] at this;exact this
theorem runs_good {l : List Prim} {U : List File} : ∀ {T : List File}, Runs T l U → Good T → Good U := by
 induction l with
 | nil => intro T h hG; cases h; exact hG
 | cons p l ih => rintro T ⟨M, h1, h2⟩ hG; exact ih h2 (by have := rApply_good hG p; rw [h1] at this; exact this)
theorem invL_cons (p : Prim) (l : List Prim) : invL (p :: l) = invL l ++ [p.flip] := by simp [invL]
theorem runs_back {l : List Prim} {U : List File} : ∀ {T : List File}, Sor T → Good T → Runs T l U → Runs U (invL l) T := by
 induction l with
 | nil => intro T _ _ h; cases h; exact rfl
 | cons p l ih =>
  rintro T hS hG ⟨M, h1, h2⟩;rw [invL_cons, runs_app];exact ⟨M, ih (ran_sor h1 hS) (by have := rApply_good hG p; rw [h1] at this; exact this) h2, T, ran_back hS hG h1, rfl⟩
end Go.Sx
end
section
namespace Go.Proofs.YtbhnolfcdcpbkaaGreatDoor.X
open Go Go.RowKit Go.Proofs Go.Sx
structure Patch where
 id : Int
 note : ByteArray
 deps : List Int
 l : List Prim
 deriving DecidableEq
instance instRpPatch : Rp Patch where
 Lay := (Option Addr × Nat) × (Option Addr × Nat)
 size := 4
 enc p y := [.int .i64 p.id, .string p.note, .slice y.1.1 p.deps.length y.1.2, .slice y.2.1 p.l.length y.2.2]
 len _ _ := rfl
 one _ _ v hv := by
  simp only [List.mem_cons, List.mem_nil_iff, or_false] at hv;rcases hv with rfl | rfl | rfl | rfl <;> rfl
 asn p y := [slA y.1.1 p.deps, slA y.2.1 p.l, capA y.2.2 p.l.length]
def Patch.zero : Patch := ⟨0, ⟨#[]⟩, [], []⟩
structure Patch.fit (p : Patch) : Prop where
 nb : p.note.size ≤ 2000000
 dl : p.deps.length ≤ 2000000
 ll : p.l.length ≤ 2000000
 lf : ∀ x ∈ p.l, x.fit
theorem pzero_fit : Patch.zero.fit := ⟨by decide, by decide, by decide, fun x h => by cases h⟩
theorem slA_none {α : Type} [Rp α] (M : Nat → Prop) (w : World) : (slA none ([] : List α)).p M w := by intro j x hj; simp at hj
def depsOk (id : Int) : Int → List Int → Bool
 | _, [] => true
 | last, n :: r => !(decide (n ≤ last) || decide (1000000000 < n) || decide (n = id)) && depsOk id n r
def Patch.right (p : Patch) : Bool := decide (1 ≤ p.id) && decide (p.id ≤ 1000000000) && lineOk p.note && decide (p.deps.length ≤ 8) && depsOk p.id 0 p.deps && decide (1 ≤ p.l.length) && decide (p.l.length ≤ 24) && p.l.all Prim.right
def pmay (p q : Patch) : Bool := p.right && q.right && !decide (p.id = q.id) && !(q.deps.any fun n => decide (n = p.id)) && !(p.deps.any fun n => decide (n = q.id))
def pswap (p q : Patch) : Patch × Patch × Bool := if (pmay p q && (swT p.l q.l).2.2) = true then ({ q with l := (swT p.l q.l).1 }, { p with l := (swT p.l q.l).2.1 }, true) else (Patch.zero, Patch.zero, false)
theorem swT_ok {l m f s : List Prim} (h : (f, s, true) = swT l m) (hl : ∀ x ∈ l, x.fit) (hm : ∀ x ∈ m, x.fit) : f.length = m.length ∧ s.length = l.length ∧ (∀ x ∈ f, x.fit) ∧ ∀ x ∈ s, x.fit := by
 have key : ∀ (j : Nat) (f1 s1 : List Prim), j ≤ l.length → SI l m j f1 s1 → SI l m l.length f s := by
  intro j
  induction hn : l.length - j generalizing j with
  | zero =>
   intro f1 s1 hj hI;have hjl : j = l.length := by omega
   have := hI.done hjl;rw [this] at h;simp only [Prod.mk.injEq, and_true] at h;obtain ⟨rfl, rfl⟩ := h;rw [← hjl]; exact hI
  | succ n ih =>
   intro f1 s1 hj hI;have hk : (l.length - 1 - j) + j + 1 = l.length := by omega
   have hlt : l.length - 1 - j < l.length := by omega
   cases hp : pastT (l[l.length - 1 - j]) f1 with
   | mk f2 r =>
    obtain ⟨q, b⟩ := r;cases b with
    | true => exact ih (j + 1) (by omega) f2 (q :: s1) (by omega) (hI.step hk hl hp.symm)
    | false =>
     have := hI.stop hk hp.symm;rw [this] at h;simp at h
 have hI := key 0 m [] (Nat.zero_le _) (SI.start hm);exact ⟨hI.fl, hI.sl, hI.ff, hI.fs⟩
theorem pswap_fit {p q : Patch} (hp : p.fit) (hq : q.fit) : (pswap p q).1.fit ∧ (pswap p q).2.1.fit := by
 unfold pswap
 split
 ·rename_i h
  simp only [Bool.and_eq_true] at h;have hs : ((swT p.l q.l).1, (swT p.l q.l).2.1, true) = swT p.l q.l := by rw [← h.2]
  obtain ⟨h1, h2, h3, h4⟩ := swT_ok hs hp.lf hq.lf;exact ⟨⟨hq.nb, hq.dl, by dsimp only; rw [h1]; exact hq.ll, h3⟩, ⟨hp.nb, hp.dl, by dsimp only; rw [h2]; exact hp.ll, h4⟩⟩
 ·exact ⟨pzero_fit, pzero_fit⟩
theorem swapR_grid : ∀ (r : List Prim) {m f S second : List Prim}, swapR r m second = some (f, S) ↔ ∃ s, Grid r.reverse m f s ∧ S = s ++ second
 | [], m, f, S, second => by
  simp only [swapR, Option.some.injEq, Prod.mk.injEq, List.reverse_nil];constructor
  ·rintro ⟨rfl, rfl⟩; exact ⟨[], .nil, rfl⟩
  ·rintro ⟨s, h, rfl⟩;generalize hl : ([] : List Prim) = l at h;cases h with
   | nil => exact ⟨rfl, rfl⟩
   | @row l' p m n q f s hp hg => simp at hl
 | p :: r, m, f, S, second => by
  rw [swapR, Option.bind_eq_some_iff];constructor
  ·rintro ⟨⟨n, q⟩, h1, h2⟩;obtain ⟨s, h3, rfl⟩ := (swapR_grid r).1 h2;refine ⟨s ++ [q], ?_, by simp⟩;rw [List.reverse_cons];exact .row h1 h3
  ·rintro ⟨s, h, rfl⟩;rw [List.reverse_cons] at h;generalize hl : r.reverse ++ [p] = l at h;cases h with
   | nil => simp at hl
   | @row l' p' m n q f s' hp hg =>
    obtain ⟨rfl, h5⟩ := List.append_inj' hl rfl;obtain rfl : p = p' := by simpa using h5
    exact ⟨(n, q), hp, (swapR_grid r).2 ⟨s', hg, by simp⟩⟩
theorem swapL_grid {l m f s : List Prim} : swapL l m = some (f, s) ↔ Grid l m f s := by
 unfold swapL;rw [swapR_grid];simp only [List.reverse_reverse, List.append_nil];constructor
 ·rintro ⟨s', h, rfl⟩; exact h
 ·intro h; exact ⟨s, h, rfl⟩
theorem swT_true {l m f s : List Prim} : (f, s, true) = swT l m ↔ swapL l m = some (f, s) := by
 unfold swT;cases h : swapL l m with
 | none => simp
 | some r => obtain ⟨r1, r2⟩ := r; simp [eq_comm]
theorem pas_right : ∀ {m : List Prim} {p q : Prim} {f : List Prim}, Pas p m f q → p.right = true → q.right = true ∧ f.all Prim.right = true
 | [], p, q, f, h, hp => by
  obtain ⟨rfl, rfl⟩ := pas_nil.1 h;exact ⟨hp, rfl⟩
 | x :: m, p, q, f, h, hp => by
  obtain ⟨a, b, f', h1, h2, rfl⟩ := pas_cons.1 h;obtain ⟨_, _, _, h3, h4⟩ := swap_true h1;obtain ⟨h5, h6⟩ := pas_right h2 h4;exact ⟨h5, by simp [h3, h6]⟩
theorem grid_right {l m f s : List Prim} (h : Grid l m f s) : l.all Prim.right = true → m.all Prim.right = true → f.all Prim.right = true ∧ s.all Prim.right = true := by
 induction h with
 | nil => exact fun _ h => ⟨h, rfl⟩
 | @row l p m n q f s hp hg ih =>
  intro hl hm;rw [List.all_append, Bool.and_eq_true] at hl;have hp1 : p.right = true := by simpa using hl.2
  obtain ⟨h1, h2⟩ := pas_right hp hp1;obtain ⟨h3, h4⟩ := ih hl.1 h2;exact ⟨h3, by rw [List.all_append, h4]; simp [h1]⟩
theorem grid_len {l m f s : List Prim} (h : Grid l m f s) : f.length = m.length ∧ s.length = l.length := by
 induction h with
 | nil => exact ⟨rfl, rfl⟩
 | @row l p m n q f s hp hg ih =>
  have hpl : ∀ {m : List Prim} {p q : Prim} {f : List Prim}, Pas p m f q → f.length = m.length := by
   intro m
   induction m with
   | nil => intro p q f h; obtain ⟨rfl, _⟩ := pas_nil.1 h; rfl
   | cons x m ih2 =>
    intro p q f h;obtain ⟨a, b, f', h1, h2, rfl⟩ := pas_cons.1 h;simp [ih2 h2]
  exact ⟨ih.1.trans (hpl hp), by simp [ih.2]⟩
theorem right_parts {p : Patch} (h : p.right = true) : (1 ≤ p.l.length ∧ p.l.length ≤ 24) ∧ p.l.all Prim.right = true := by
 unfold Patch.right at h;simp only [Bool.and_eq_true, decide_eq_true_eq] at h;exact ⟨⟨h.1.1.2, h.1.2⟩, h.2⟩
theorem right_with {p : Patch} {l : List Prim} (h : p.right = true) (hl : l.length = p.l.length) (hr : l.all Prim.right = true) : ({ p with l := l } : Patch).right = true := by
 unfold Patch.right at h ⊢;simp only [Bool.and_eq_true, decide_eq_true_eq] at h ⊢;refine ⟨⟨⟨h.1.1.1, ?_⟩, ?_⟩, hr⟩
 ·rw [hl]; exact h.1.1.2
 ·rw [hl]; exact h.1.2
theorem pswap_true {p q a b : Patch} (h : (a, b, true) = pswap p q) : ∃ f s, pmay p q = true ∧ (f, s, true) = swT p.l q.l ∧ a = { q with l := f } ∧ b = { p with l := s } := by
 unfold pswap at h
 split at h
 ·rename_i hc
  simp only [Bool.and_eq_true] at hc;simp only [Prod.mk.injEq, and_true] at h;exact ⟨_, _, hc.1, by rw [← hc.2], h.1, h.2⟩
 ·simp at h
/-! Rows of prims and trees: what Apply of a row makes, or that it does not fit. -/
def runE : List File → List Prim → List File × Int
 | T, [] => (T, 0)
 | T, p :: l => if (rApplyT T p).2 = 0 then runE (rApplyT T p).1 l else rApplyT T p
def rowT (T : List File) (l : List Prim) : List File × Int := if (runE T l).2 = 0 then runE T l else (T, (runE T l).2)
theorem runs_runE {l : List Prim} {U : List File} : ∀ {T : List File}, Runs T l U ↔ runE T l = (U, 0) := by
 induction l with
 | nil => intro T; show T = U ↔ (T, (0 : Int)) = (U, 0); simp
 | cons p l ih =>
  intro T;show (∃ M, Ran T p M ∧ Runs M l U) ↔ _;rw [runE];constructor
  ·rintro ⟨M, h1, h2⟩;unfold Ran at h1;rw [h1, if_pos rfl];exact ih.1 h2
  ·intro h
   split at h
   ·rename_i h1
    exact ⟨(rApplyT T p).1, by unfold Ran; rw [← h1], ih.2 h⟩
   ·rename_i h1
    rw [h] at h1; exact absurd rfl h1
theorem rowT_ok {T U : List File} {l : List Prim} (h : Runs T l U) : rowT T l = (U, 0) := by
 unfold rowT; rw [runs_runE.1 h, if_pos rfl]
theorem rowT_runs {T U : List File} {l : List Prim} (h : rowT T l = (U, 0)) : Runs T l U := by
 unfold rowT at h
 split at h
 ·exact runs_runE.2 h
 ·rename_i h1
  simp only [Prod.mk.injEq] at h;exact absurd h.2 h1
theorem runE_app {l m : List Prim} {M : List File} : ∀ {T : List File}, Runs T l M → runE T (l ++ m) = runE M m := by
 induction l with
 | nil => intro T h; cases h; rfl
 | cons p l ih =>
  rintro T ⟨N, h1, h2⟩;rw [List.cons_append, runE];unfold Ran at h1;rw [h1, if_pos rfl];exact ih h2
theorem rowT_err {T M M' : List File} {l : List Prim} {k : Nat} {e : Int} (h : Runs T (l.take k) M) (hk : k < l.length) (he : (M', e) = rApplyT M l[k]) (hne : ¬ e = 0) : rowT T l = (T, e) := by
 have h1 : runE T l = (M', e) := by
  conv => lhs; rw [← List.take_append_drop k l]
  rw [runE_app h, List.drop_eq_getElem_cons hk, runE, ← he, if_neg hne]
 unfold rowT; rw [h1, if_neg hne]
theorem rowT_no {T U : List File} {l : List Prim} {e : Int} (h : (U, e) = rowT T l) (he : ¬ e = 0) : U = T := by
 unfold rowT at h
 split at h
 ·rename_i h1
  have : e = 0 := by have := congrArg Prod.snd h; dsimp only at this; rw [this]; exact h1
  exact absurd this he
 ·exact congrArg Prod.fst h
theorem runs_take {T M M' : List File} {l : List Prim} {k : Nat} (h : Runs T (l.take k) M) (hk : k < l.length) (he : (M', (0 : Int)) = rApplyT M l[k]) : Runs T (l.take (k + 1)) M' := by
 rw [List.take_succ_eq_append_getElem hk, runs_app];exact ⟨M, h, M', he.symm, rfl⟩
theorem runs_all {T M : List File} {l : List Prim} {k : Nat} (h : Runs T (l.take k) M) (hk : l.length ≤ k) : Runs T l M := by
 rwa [List.take_of_length_le hk] at h
theorem runs_applied {l : List Prim} {U : List File} : ∀ {T : List File}, Runs T l U → U = appliedT T l := by
 induction l with
 | nil => intro T h; exact h.symm
 | cons p l ih =>
  rintro T ⟨M, h1, h2⟩;rw [ih h2];unfold Ran at h1;show _ = appliedT (rApplyT T p).1 l;rw [h1]
theorem runs_inv {T U : List File} {l : List Prim} {m n : Nat} (h : Runs T l U) (hi : AppInv m n T) : AppInv (m + news l) (n + l.length) U := by
 rw [runs_applied h]; exact hi.applied l
structure Undo (T : List File) (l : List Prim) (k j : Nat) (M N : List File) : Prop where
 done : Runs M ((invL (l.take k)).take j) N
 left : Runs N ((invL (l.take k)).drop j) T
theorem Undo.start {T M : List File} {l : List Prim} {k : Nat} (hS : Sor T) (hG : Go.Sx.Good T) (h : Runs T (l.take k) M) : Undo T l k 0 M M := ⟨rfl, runs_back hS hG h⟩
theorem Undo.step {T M N : List File} {l : List Prim} {k j : Nat} (h : Undo T l k j M N) (hj : j < (invL (l.take k)).length) : Undo T l k (j + 1) M (rApplyT N (invL (l.take k))[j]).1 := by
 have h2 := h.left;rw [List.drop_eq_getElem_cons hj] at h2;obtain ⟨K, h3, h4⟩ := h2;have e : (rApplyT N (invL (l.take k))[j]).1 = K := by unfold Ran at h3; rw [h3]
 rw [e];refine ⟨?_, h4⟩;rw [List.take_succ_eq_append_getElem hj, runs_app];exact ⟨N, h.done, K, h3, rfl⟩
theorem Undo.stop {T M N : List File} {l : List Prim} {k j : Nat} (h : Undo T l k j M N) (hj : (invL (l.take k)).length ≤ j) : N = T := by
 have := h.left;rw [List.drop_eq_nil_of_le hj] at this;exact this
theorem swT_false {l m f s : List Prim} (h : (f, s, false) = swT l m) : swapL l m = none ∧ f = [] ∧ s = [] := by
 unfold swT at h;cases hh : swapL l m with
 | none => rw [hh] at h; simp at h; exact ⟨rfl, h.1, h.2⟩
 | some r => rw [hh] at h; simp at h
theorem runs_swT {l m f s : List Prim} {T U : List File} (hS : Sor T) (h : Runs T (l ++ m) U) (e : (f, s, true) = swT l m) : Runs T (f ++ s) U := runs_swapL hS h (swT_true.1 e)
/-! what is brought ahead -/
def splK (W : Nat → Bool) (l : List Prim) : Nat → List Prim × List Prim
 | 0 => ([], [])
 | k + 1 => match l[k]? with
  | none => splK W l k
  | some p => if W k && (swT (splK W l k).2 [p]).2.2 then ((splK W l k).1 ++ (swT (splK W l k).2 [p]).1, (swT (splK W l k).2 [p]).2.1) else ((splK W l k).1, (splK W l k).2 ++ [p])
theorem splK_yes {W : Nat → Bool} {l f r a b : List Prim} {k : Nat} (h : (f, r) = splK W l k) (hk : k < l.length) (hw : W k = true) (hs : (a, b, true) = swT r [l[k]]) : (f ++ a, b) = splK W l (k + 1) := by
 rw [splK, List.getElem?_eq_getElem hk];dsimp only;rw [← h];dsimp only;rw [← hs, hw]
 rfl
theorem splK_no {W : Nat → Bool} {l f r a b : List Prim} {k : Nat} {z : Bool} (h : (f, r) = splK W l k) (hk : k < l.length) (hs : (a, b, z) = swT r [l[k]]) (hz : (W k && z) = false) : (f, r ++ [l[k]]) = splK W l (k + 1) := by
 rw [splK, List.getElem?_eq_getElem hk];dsimp only;rw [← h];dsimp only;rw [← hs];dsimp only;rw [hz]
 rfl
theorem splK_no' {W : Nat → Bool} {l f r : List Prim} {k : Nat} (h : (f, r) = splK W l k) (hk : k < l.length) (hw : W k = false) : (f, r ++ [l[k]]) = splK W l (k + 1) := by
 rw [splK, List.getElem?_eq_getElem hk];dsimp only;rw [← h, hw]
 rfl
theorem swT_len {l m f s : List Prim} (h : (f, s, true) = swT l m) : f.length = m.length ∧ s.length = l.length := grid_len (swapL_grid.1 (swT_true.1 h))
theorem swT_fit {l m f s : List Prim} {b : Bool} (h : (f, s, b) = swT l m) (hl : ∀ x ∈ l, x.fit) (hm : ∀ x ∈ m, x.fit) : (∀ x ∈ f, x.fit) ∧ ∀ x ∈ s, x.fit := by
 cases b with
 | false => obtain ⟨_, rfl, rfl⟩ := swT_false h; simp
 | true => exact (swT_ok h hl hm).2.2
theorem splK_len (W : Nat → Bool) (l : List Prim) : ∀ (k : Nat), k ≤ l.length → (splK W l k).1.length + (splK W l k).2.length = k := by
 intro k
 induction k with
 | zero => intro _; rfl
 | succ k ih =>
  intro hk;have ih := ih (by omega);rw [splK, List.getElem?_eq_getElem (by omega)];dsimp only
  split
  ·rename_i h1
   simp only [Bool.and_eq_true] at h1;have := swT_len (l := (splK W l k).2) (m := [l[k]]) (f := (swT (splK W l k).2 [l[k]]).1) (s := (swT (splK W l k).2 [l[k]]).2.1) (by rw [← h1.2]);dsimp only;rw [List.length_append, this.1, this.2];simp only [List.length_cons, List.length_nil]; omega
  ·dsimp only; rw [List.length_append]; simp only [List.length_cons, List.length_nil]; omega
theorem splK_runs (W : Nat → Bool) (l : List Prim) {T : List File} (hS : Sor T) : ∀ (k : Nat) {U : List File}, k ≤ l.length → Runs T (l.take k) U → Runs T ((splK W l k).1 ++ (splK W l k).2) U := by
 intro k
 induction k with
 | zero => intro U _ h; exact h
 | succ k ih =>
  intro U hk h;rw [List.take_succ_eq_append_getElem (by omega), runs_app] at h;obtain ⟨M, h1, h2⟩ := h;have ih := ih (by omega) h1;rw [runs_app] at ih;obtain ⟨N, h3, h4⟩ := ih;have h5 : Runs N ((splK W l k).2 ++ [l[k]]) U := runs_app.2 ⟨M, h4, h2⟩;rw [splK, List.getElem?_eq_getElem (by omega)];dsimp only
  split
  ·rename_i hc
   simp only [Bool.and_eq_true] at hc;have h6 := runs_swT (runs_sor h3 hS) h5 (f := (swT (splK W l k).2 [l[k]]).1) (s := (swT (splK W l k).2 [l[k]]).2.1) (by rw [← hc.2]);dsimp only;rw [List.append_assoc, runs_app];exact ⟨N, h3, h6⟩
  ·dsimp only;rw [runs_app];exact ⟨N, h3, h5⟩
end Go.Proofs.YtbhnolfcdcpbkaaGreatDoor.X
end
section
namespace Go.Sx
open Go Go.RowKit
section
variable {ro : Option Nat} {P : Program} {M0 F0 : Nat → Prop} {w0 : World} {n : Nm} {σ : List (Nat × Value)} {Ξ : List Xsn} {Γ : List Asn}
theorem nilC {α : Type} [Rp α] {a : Act} {w : World} (h : St M0 F0 w0 n σ Ξ Γ a w) : St M0 F0 w0 n σ Ξ (slA (α := α) none [] :: nilA (none, 0) :: capA 0 0 :: Γ) a w := by
 obtain ⟨hs, Fs, hh⟩ := nilSl (α := α) h;refine ⟨hs, Fs, { hh with ga := fun p hp => ?_ }⟩;rcases List.mem_cons.1 hp with rfl | hp
 ·exact hh.ga _ (by simp)
 ·rcases List.mem_cons.1 hp with rfl | hp
  ·exact fun _ => rfl
  ·rcases List.mem_cons.1 hp with rfl | hp
   ·exact Nat.le_refl 0
   ·exact hh.ga p (by simp [hp])
end
theorem con_sub {P : Program} {f : FuncId} {vs : List Value} {Ξi : List Xsn} {Γi : List Asn} {X : Type} {rv : X → Value} {Ξo : X → List Xsn} {Γo Γo' : X → List Asn} (h : Con P f vs Ξi Γi X rv Ξo Γo) (hs : ∀ x, Sub (Γo' x) (Γo x)) : Con P f vs Ξi Γi X rv Ξo Γo' := by
 intro M0 Fs w hh;refine (h M0 Fs w hh).mono ?_;rintro e w' ⟨x, Fs2, rfl, h2⟩;exact ⟨x, Fs2, rfl, { h2 with ga := fun p hp => h2.ga p ((hs x).mem p hp) }⟩
theorem borrow2 {P : Program} {f : FuncId} {args : List Value} {α : Type} [Rp α] {e : TypeId} {A : Option Addr} {c : Nat} {l : List α} {Γi : List Asn} {X : Type} {rv : X → Value} {Ξo : X → List Xsn} {Γo : X → List Asn} (keep : X → Bool)
  (h : Con P f args [] (slA A l :: Γi) X rv Ξo Γo) :
  Con P f args [row e A c l] Γi X rv (fun x => bif keep x then [row e A c l] else Ξo x) (fun x => bif keep x then [] else Γo x) := by
 intro M0 Fs w hh;obtain ⟨F, rfl, hrow⟩ := hh.one_of;have ho : ∀ b, own [F] b ↔ F b := fun b => by simp [own]
 have hsl : Slots ⟨0, []⟩ [] { tmps := #[], defers := [] } := ⟨rfl, rfl, fun t v h => by cases h⟩;obtain ⟨_, Fs', h1⟩ := Go.Sx.freeze (i := 0) rfl (⟨hsl, [F], hh⟩ : St M0 (own [F]) w ⟨0, []⟩ [] [row e A c l] Γi { tmps := #[], defers := [] } w);have hnil : Fs' = [] := by
  cases Fs' with
  | nil => rfl
  | cons G Gs => exact h1.ex.elim
 subst hnil;have hin : Hp M0 (own []) w [] (slA A l :: Γi) [] w := ⟨trivial, .nil, fun b hb => absurd hb (own_nil b), fun b hb => absurd hb (own_nil b), fun b hb => absurd hb (own_nil b), h1.ga, Upd.refl _ _, h1.m0, fun b hb => absurd hb (own_nil b)⟩;refine (h M0 [] w hin).mono ?_;rintro en w' ⟨x, Gs, rfl, hout⟩;have hnew : ∀ b, own Gs b → ¬ b < w.heap.size := fun b hb hl => own_nil b (hout.old b hb hl);have hblk : ∀ b, b < w.heap.size → w'.heap[b]? = w.heap[b]? := fun b hb => hout.up.block b hb (own_nil b);cases hkx : keep x with
 | false =>
  refine ⟨x, Gs, rfl, ?_⟩;dsimp only;rw [hkx];refine ⟨hout.ex, hout.dis, hout.dis0, hout.lt, fun b hb hl => absurd hl (hnew b hb), hout.ga, ⟨hout.up.os, hout.up.tape, hout.up.output, hout.up.size, fun b hb _ => hblk b hb⟩, hh.m0, hh.f0⟩
 | true =>
  refine ⟨x, [F], rfl, ?_⟩;dsimp only;rw [hkx];refine ⟨⟨?_, trivial⟩, hh.dis, hh.dis0, fun b hb => Nat.lt_of_lt_of_le (hh.lt b hb) hout.up.size, fun b hb _ => hb, (fun p hp => by cases hp), ⟨hout.up.os, hout.up.tape, hout.up.output, hout.up.size, fun b hb _ => hblk b hb⟩, hh.m0, hh.f0⟩;exact (row e A c l).st _ _ _ _ _ hrow (fun b hb _ => hblk b hb) (fun b hb hM => hM) hout.up.size
end Go.Sx
namespace Go.Proofs.YtbhnolfcdcpbkaaGreatDoor.X
open Go Go.RowKit Go.Proofs Go.Sx
theorem inv_mono {m n m' n' : Nat} {T : List File} (h : AppInv m n T) (h1 : m ≤ m') (h2 : n ≤ n') : AppInv m' n' T := ⟨h.so, h.good, h.lmax.mono h1, Nat.le_trans h.len h2⟩
theorem news_in {l : List Prim} {p : Prim} (h : p ∈ l) : p.new.length ≤ news l := by
 unfold news
 induction l with
 | nil => cases h
 | cons q l ih =>
  simp only [List.map_cons, List.sum_cons];rcases List.mem_cons.1 h with rfl | h
  ·omega
  ·have := ih h; omega
def lnP (p : Prim) : Nat := p.old.length + p.new.length
def lns (l : List Prim) : Nat := (l.map lnP).sum
theorem lns_many (l : List Prim) : lns l ≤ many l := by
 unfold lns many;have : (l.map lnP).sum ≤ (l.map Prim.many).sum := by
  induction l with
  | nil => simp
  | cons p l ih =>
   simp only [List.map_cons, List.sum_cons];have : lnP p ≤ p.many := by unfold lnP Prim.many; omega
   omega
 omega
theorem lns_cons (p : Prim) (l : List Prim) : lns (p :: l) = lnP p + lns l := by simp [lns]
theorem lns_app (l m : List Prim) : lns (l ++ m) = lns l + lns m := by simp [lns]
theorem lns_inv (l : List Prim) : lns (invL l) = lns l := by
 induction l with
 | nil => rfl
 | cons p l ih =>
  rw [invL_cons, lns_app, ih, lns_cons, lns_cons];have h1 : lnP p.flip = lnP p := by
   unfold lnP Prim.flip
   repeat' split
   all_goals simp
   all_goals omega
  have h2 : lns [] = 0 := rfl;omega
theorem news_lns (l : List Prim) : news l ≤ lns l := by
 unfold news lns
 induction l with
 | nil => simp
 | cons p l ih =>
  simp only [List.map_cons, List.sum_cons];have : p.new.length ≤ lnP p := by unfold lnP; omega
  omega
theorem take_lns (l : List Prim) (k : Nat) : lns (l.take k) ≤ lns l := by
 have h : lns l = lns (l.take k) + lns (l.drop k) := by rw [← lns_app, List.take_append_drop]
 omega
theorem pas_lns : ∀ {m : List Prim} {p q : Prim} {f : List Prim}, Pas p m f q → lns f = lns m ∧ lnP q = lnP p
 | [], p, q, f, h => by
  obtain ⟨rfl, rfl⟩ := pas_nil.1 h;exact ⟨rfl, rfl⟩
 | x :: m, p, q, f, h => by
  obtain ⟨a, b, f', h1, h2, rfl⟩ := pas_cons.1 h;obtain ⟨h3, h4⟩ := pas_lns h2;obtain ⟨⟨_, k1, k2, _⟩, ⟨_, k3, k4, _⟩⟩ := swap_keeps h1;rw [lns_cons, lns_cons, h3, h4];unfold lnP;omega
theorem grid_lns {l m f s : List Prim} (h : Grid l m f s) : lns f = lns m ∧ lns s = lns l := by
 induction h with
 | nil => exact ⟨rfl, rfl⟩
 | row hp hg ih =>
  obtain ⟨h1, h2⟩ := pas_lns hp;rw [lns_app, lns_app, ih.1, ih.2, h1, lns_cons, lns_cons, h2];exact ⟨rfl, rfl⟩
theorem swT_lns {l m f s : List Prim} (h : (f, s, true) = swT l m) : lns f = lns m ∧ lns s = lns l := grid_lns (swapL_grid.1 (swT_true.1 h))
structure Bnd (M : List File) (p : Prim) : Prop where
 so : Sor M
 good : Go.Sx.Good M
 fit : ∀ x ∈ M, x.2.length ≤ 2000000
 b : ∀ u, (getL M u).length + p.new.length ≤ 2000000
 len : M.length ≤ 2000000
theorem run_b {m n k : Nat} {T M : List File} {l : List Prim} (hi : AppInv m n T) (hm : m + 2 * lns l ≤ 1900000) (hn : n + 2 * l.length ≤ 1900000) (h : Runs T (l.take k) M) (hk : k < l.length) : Bnd M l[k] := by
 have h1 := runs_inv h hi;have h2 : news (l.take k) ≤ lns l := Nat.le_trans (news_lns _) (take_lns l k);have h3 : l[k].new.length ≤ lns l := Nat.le_trans (news_in (List.getElem_mem hk)) (news_lns l);have h4 : (l.take k).length ≤ l.length := by rw [List.length_take]; omega
 exact ⟨h1.so, h1.good, fun x hx => by have := h1.lmax x hx; omega, fun u => by have := h1.lmax.get u; omega, by have := h1.len; omega⟩
theorem undo_b {m n k j : Nat} {T M N : List File} {l : List Prim} (hi : AppInv m n T) (hm : m + 2 * lns l ≤ 1900000) (hn : n + 2 * l.length ≤ 1900000) (h : Runs T (l.take k) M) (hu : Undo T l k j M N) (hj : j < (invL (l.take k)).length) : Bnd N (invL (l.take k))[j] := by
 have h1 := runs_inv hu.done (runs_inv h hi);have h2 : news (l.take k) ≤ lns (l.take k) := news_lns (l.take k);have h3 : news (invL (l.take k)) ≤ lns (l.take k) := by have := news_lns (invL (l.take k)); rwa [lns_inv] at this
 have h4 : (l.take k).length ≤ l.length := by rw [List.length_take]; omega
 have h5 := news_take (invL (l.take k)) j;have h6 : news ((invL (l.take k)).take (j + 1)) = news ((invL (l.take k)).take j) + (invL (l.take k))[j].new.length := sum_take_succ (f := fun p : Prim => p.new.length) hj;have h9 := news_take (invL (l.take k)) (j + 1);have h7 : ((invL (l.take k)).take j).length ≤ l.length := by rw [List.length_take, invL_len]; omega
 have h8 := take_lns l k;exact ⟨h1.so, h1.good, fun x hx => by have := h1.lmax x hx; omega, fun u => by have := h1.lmax.get u; omega, by have := h1.len; omega⟩
theorem rowT_inv {m n : Nat} {T U : List File} {l : List Prim} {e : Int} (hi : AppInv m n T) (h : (U, e) = rowT T l) : AppInv (m + lns l) (n + l.length) U := by
 by_cases he : e = 0
 ·subst he;exact inv_mono (runs_inv (rowT_runs h.symm) hi) (by have := news_lns l; omega) (Nat.le_refl _)
 ·rw [rowT_no h he];exact inv_mono hi (by omega) (by omega)
end Go.Proofs.YtbhnolfcdcpbkaaGreatDoor.X
end
section
namespace Go.Proofs.YtbhnolfcdcpbkaaGreatDoor.X
set_option maxRecDepth 100000
open Go Go.RowKit Go.Proofs Go.Sx
open Tryz
attribute [local irreducible] slA isA box row TrL TrC TrN TrA Pu OpR
set_option maxHeartbeats 8000000
theorem inf101 : (Tryz.prog.info? 101).map (fun i => (i.zero, i.size, i.bytes)) = some (some (.agg #[.int .i64 0, .string ⟨#[]⟩, .string ⟨#[]⟩, .int .i64 0, .slice none 0 0, .slice none 0 0]), 6, 96) := by kernel_rfl
theorem c_ref5SwapC (l m : List Prim) (A B : Option Addr) (c c' : Nat) (hl : l.length ≤ 2000000) (hm : m.length ≤ 2000000) (hA0 : l = [] → A = none → c = 0) (hB0 : m = [] → B = none → c' = 0) (hfl : ∀ x ∈ l, x.fit) (hfm : ∀ x ∈ m, x.fit) : Con Tryz.prog 227 [.slice A l.length c, .slice B m.length c'] [] [slA A l, slA B m] {x : (List Prim × List Prim × Bool) × ((Option Addr × Nat) × (Option Addr × Nat)) // x.1 = swT l m} (fun x => .tuple #[.slice x.1.2.1.1 x.1.1.1.length x.1.2.1.2, .slice x.1.2.2.1 x.1.1.2.1.length x.1.2.2.2, .bool x.1.1.2.2]) (fun _ => []) (fun x => [slA x.1.2.1.1 x.1.1.1, slA x.1.2.2.1 x.1.1.2.1, nilA x.1.2.2, capA x.1.2.1.2 x.1.1.1.length, capA x.1.2.2.2 x.1.1.2.1.length]) := by
 refine con func227 rfl ntmps227 rfl ?_;intro M0 F0 w0;refine k_ 9 ?_;refine ls (o_bsl ([] : List Prim) underlying24 sizeOf101 zeroValue101 rfl Enum.d RV.d rfl (by decide) (by decide) rfl) ?_;refine le ?_; intro b13;refine k_ 1 ?_;refine ls (o_app (is := [0]) underlying24 inf101 rfl (by decide) (by decide) rfl rfl (by simp only [List.length_nil]; omega) (fun h hB => hA0 h hB) rfl Ω rfl) ?_;refine le ?_; rintro ⟨A8, c8⟩;refine k_ 1 ?_;refine ls (o_app (is := [0]) underlying24 inf101 rfl (by decide) (by decide) rfl rfl (by simp only [List.length_append, List.length_nil]; omega) (fun h hB => hB0 h hB) rfl Ω rfl) ?_;refine le ?_; rintro ⟨A9, c9⟩;refine k_ 5 ?_
 skip
 refine k_ 8 ?_;refine cl (ι := {q : Nat × Int × List Prim × List Prim × (Option Addr × Nat) // q.1 ≤ l.length ∧ q.2.1 = (l.length : Int) - 1 - (q.1 : Int) ∧ SI l m q.1 q.2.2.1 q.2.2.2.1}) (fun i => St M0 F0 w0 72 [(0, .slice A l.length c), (1, .slice B m.length c'), (7, .slice i.1.2.2.2.2.1 (l ++ m).length i.1.2.2.2.2.2), (8, .int .i64 i.1.2.1)] [row 101 (i.1.2.2.2.2.1) (i.1.2.2.2.2.2) (l.take (l.length - i.1.1) ++ (i.1.2.2.1 ++ i.1.2.2.2.1))] [slA A l, slA B m]) (fun i => l.length - i.1.1) ⟨(0, (l.length : Int) - 1, m, [], (A9, c9)), Nat.zero_le _, by simp, SI.start hfm⟩ (fun a w h => by dsimp only; rw [show l.take (l.length - 0) ++ (m ++ []) = [] ++ l ++ m by simp]; exact wL [0] h) ?_;rintro ⟨⟨j, z, f, s, A1, c1⟩, hj, hz, hI⟩;refine cmono (S' := St M0 F0 w0 72 [(0, .slice A l.length c), (1, .slice B m.length c'), (7, .slice A1 (l ++ m).length c1), (8, .int .i64 z)] [row 101 (A1) (c1) (l.take (l.length - j) ++ (f ++ s))] [slA A l, slA B m]) Ħ ?_;refine k_ 7 ?_;refine cc rfl ?_ ?_
 ·intro h22;dsimp only at hj hz hI;(try simp only [nrmZ] at h22);have hfl1 := hI.fl; have hsl1 := hI.sl;obtain ⟨u, hi⟩ : ∃ u, u + j + 1 = l.length := ⟨l.length - 1 - j, by omega⟩;have hi1 : u < l.length := (by omega);have eR : l.take (l.length - j) ++ (f ++ s) = l.take u ++ ([] ++ (l[u] :: (f.drop 0 ++ s))) := (by rw [show l.length - j = u + 1 by omega, List.take_succ_eq_append_getElem hi1, List.append_assoc]; rfl);rw [eR];refine k_ 10 ?_;refine cl (ι := {q : Nat × List Prim × Prim × (Option Addr × Nat) // q.1 ≤ f.length ∧ q.2.1.length = q.1 ∧ q.2.2.1.fit ∧ PI l[u] f q.1 q.2.1 q.2.2.1}) (fun i => St M0 F0 w0 72 [(0, .slice A l.length c), (1, .slice B m.length c'), (7, .slice i.1.2.2.2.1 (l ++ m).length i.1.2.2.2.2), (8, .int .i64 z), (9, .int .i64 (i.1.1 : Int))] [row 101 (i.1.2.2.2.1) (i.1.2.2.2.2) (l.take u ++ (i.1.2.1 ++ (i.1.2.2.1 :: (f.drop i.1.1 ++ s))))] [slA A l, slA B m]) (fun i => f.length - i.1.1) ⟨(0, [], l[u], (A1, c1)), Nat.zero_le _, rfl, hfl _ (List.getElem_mem hi1), PI.start _ _⟩ (wk0 Φ Ω) ?_;rintro ⟨⟨k, d, p1, A2, c2⟩, hk, hdl, hp1, hPI⟩;refine cmono (S' := St M0 F0 w0 72 [(0, .slice A l.length c), (1, .slice B m.length c'), (7, .slice A2 (l ++ m).length c2), (8, .int .i64 z), (9, .int .i64 (k : Int))] [row 101 (A2) (c2) (l.take u ++ (d ++ (p1 :: (f.drop k ++ s))))] [slA A l, slA B m]) Ħ ?_;refine k_ 9 ?_;refine cc rfl ?_ ?_
  ·intro h28;dsimp only at hk hdl hp1 hPI;(try simp only [nrmZ] at h28);have hk1 : k < f.length := (by omega);have hff := hI.ff _ (List.getElem_mem hk1);have hti : (l.take u).length = u := (by rw [List.length_take]; omega);have eD : f.drop k ++ s = f[k] :: (f.drop (k + 1) ++ s) := (by rw [List.drop_eq_getElem_cons hk1]; rfl);rw [eD];refine rowC Θ (by intro e; simp at e) ?_; rintro g rfl;refine k_ 5 ?_;refine cmono (fun a w h => pin0 Θ Θ h) ?_;refine pinC (u + k) Θ (mid_get1 (by omega)) (fun _ => Θ) ?_; intro yp;refine pinC (u + k + 1) Θ (mid_get2 (by omega)) (fun _ => Θ) ?_; intro yq;refine cutC (S' := fun a w => ∃ (b10 : Nat) (b11 : Nat) (r1 : Prim) (r2 : Prim) (r3 : Bool) (z1 : Rp.Lay Prim) (z2 : Rp.Lay Prim) (hr : (r1, r2, r3) = swap p1 f[k]) (e1 : r1.fit) (e2 : r2.fit), St M0 F0 w0 72 [(0, .slice A l.length c), (1, .slice B m.length c'), (7, .slice (some ⟨g, 0, none⟩) (l ++ m).length c2), (8, .int .i64 z), (9, .int .i64 (k : Int)), (10, pT b10), (11, pT b11), (12, .bool r3)] [rowPin 101 g c2 (l.take u ++ (d ++ (p1 :: f[k] :: (f.drop (k + 1) ++ s)))) [(u + k + 1, f[k], yq), (u + k, p1, yp)], box b10 101 (Rp.enc r1 z1), box b11 101 (Rp.enc r2 z2)] [slA z1.1.1 r1.old, slA z1.2.1 r1.new, slA z2.1.1 r2.old, slA z2.2.1 r2.new, slA A l, slA B m] a w) ?_ ?_
   ·
    refine cd [13, 18, 19, 20, 21] [(5, g, 0 + (u + k) * Rp.size Prim, _), (12, g, 0 + (u + k + 1) * Rp.size Prim, _)] TryzX.mixed (TOk.t (isPin Θ (mT (List.Mem.head _))) (TOk.t (isPin Θ (List.Mem.head _)) TOk.d)) ?_;refine u_ 0 4 ?_;refine tk 4 rfl Ψ Υ gnone (TTany _) (p_ia (u + k) rfl (by rw [List.length_append]; omega) (by omega) underlying24 sizeOf101 rfl rfl) rfl ?_;refine u_ 5 6 ?_;refine tk 11 rfl Ψ Υ gnone (TTany _) (p_ia (u + k + 1) rfl (by rw [List.length_append]; omega) (by omega) underlying24 sizeOf101 rfl rfl) rfl ?_;refine u_ 12 1 ?_;refine dall (is := [13, 18, 19]) Ψ rfl ?_;intro i hi; simp only [List.mem_cons, List.mem_nil_iff, or_false] at hi; rcases hi with rfl | rfl | rfl
    ·
     refine doR rfl (o_call (is := []) call265 (c_refSwap p1 f[k] yp yq hp1 hff) rfl rfl Ω rfl) tX ?_;refine ea ?_; rintro ⟨⟨⟨r1, r2, r3⟩, z1, z2⟩, hr⟩;obtain ⟨e1, e2⟩ := swap_fit hp1 hff; have hr := hr.trans (swap_eq p1 f[k]); rw [← hr] at e1 e2; dsimp only at hr e1 e2;refine u_ 14 4 ?_;refine dall (is := [18, 19]) Ψ rfl ?_;intro i hi; simp only [List.mem_cons, List.mem_nil_iff, or_false] at hi; rcases hi with rfl | rfl
     ·
      refine doR rfl (o_alloc zeroValue101 rfl rfl) tX ?_;refine ea ?_; intro b10;refine df 19 Ψ ?_;refine doR rfl (o_alloc zeroValue101 rfl rfl) tX ?_;refine ea ?_; intro b11;refine df 20 Ψ ?_;refine doR rfl (o_st rfl sizeOf101 rfl rfl rfl rfl rfl Θ Θ Θ) tX ?_;refine df 21 Ψ ?_;refine doR rfl (o_st rfl sizeOf101 rfl rfl rfl rfl rfl Θ Θ Θ) tX ?_;refine u_ 22 1 ?_;refine dn Ψ (nmid (fun a w h => by first | exact ⟨b10, b11, r1, r2, r3, z1, z2, hr, e1, e2, wL [2, 1, 0] h⟩ | exact ⟨b10, b11, r1, r2, r3, z1, z2, hr, e1, e2, wL [2, 0, 0] h⟩))
     ·
      refine doR rfl (o_alloc zeroValue101 rfl rfl) tX ?_;refine ea ?_; intro b11;refine df 18 Ψ ?_;refine doR rfl (o_alloc zeroValue101 rfl rfl) tX ?_;refine ea ?_; intro b10;refine df 20 Ψ ?_;refine doR rfl (o_st rfl sizeOf101 rfl rfl rfl rfl rfl Θ Θ Θ) tX ?_;refine df 21 Ψ ?_;refine doR rfl (o_st rfl sizeOf101 rfl rfl rfl rfl rfl Θ Θ Θ) tX ?_;refine u_ 22 1 ?_;refine dn Ψ (nmid (fun a w h => by first | exact ⟨b10, b11, r1, r2, r3, z1, z2, hr, e1, e2, wL [2, 1, 0] h⟩ | exact ⟨b10, b11, r1, r2, r3, z1, z2, hr, e1, e2, wL [2, 0, 0] h⟩))
    ·
     refine doR rfl (o_alloc zeroValue101 rfl rfl) (TOk.t (isBoxE fun _ => isPin Θ (mT (List.Mem.head _))) (TOk.t (isBoxE fun _ => isPin Θ (List.Mem.head _)) TOk.d)) ?_;refine ea ?_; intro b10;refine dall (is := [13, 19]) Ψ rfl ?_;intro i hi; simp only [List.mem_cons, List.mem_nil_iff, or_false] at hi; rcases hi with rfl | rfl
     ·
      refine doR rfl (o_call (is := []) call265 (c_refSwap p1 f[k] yp yq hp1 hff) rfl rfl Ω rfl) tX ?_;refine ea ?_; rintro ⟨⟨⟨r1, r2, r3⟩, z1, z2⟩, hr⟩;obtain ⟨e1, e2⟩ := swap_fit hp1 hff; have hr := hr.trans (swap_eq p1 f[k]); rw [← hr] at e1 e2; dsimp only at hr e1 e2;refine u_ 14 4 ?_;refine df 19 Ψ ?_;refine doR rfl (o_alloc zeroValue101 rfl rfl) tX ?_;refine ea ?_; intro b11;refine df 20 Ψ ?_;refine doR rfl (o_st rfl sizeOf101 rfl rfl rfl rfl rfl Θ Θ Θ) tX ?_;refine df 21 Ψ ?_;refine doR rfl (o_st rfl sizeOf101 rfl rfl rfl rfl rfl Θ Θ Θ) tX ?_;refine u_ 22 1 ?_;refine dn Ψ (nmid (fun a w h => by first | exact ⟨b10, b11, r1, r2, r3, z1, z2, hr, e1, e2, wL [2, 1, 0] h⟩ | exact ⟨b10, b11, r1, r2, r3, z1, z2, hr, e1, e2, wL [2, 0, 0] h⟩))
     ·
      refine doR rfl (o_alloc zeroValue101 rfl rfl) (TOk.t (isBoxE fun _ => isPin Θ (mT (List.Mem.head _))) (TOk.t (isBoxE fun _ => isPin Θ (List.Mem.head _)) TOk.d)) ?_;refine ea ?_; intro b11;refine df 13 Ψ ?_;refine doR rfl (o_call (is := []) call265 (c_refSwap p1 f[k] yp yq hp1 hff) rfl rfl Ω rfl) tX ?_;refine ea ?_; rintro ⟨⟨⟨r1, r2, r3⟩, z1, z2⟩, hr⟩;obtain ⟨e1, e2⟩ := swap_fit hp1 hff; have hr := hr.trans (swap_eq p1 f[k]); rw [← hr] at e1 e2; dsimp only at hr e1 e2;refine u_ 14 4 ?_;refine df 20 Ψ ?_;refine doR rfl (o_st rfl sizeOf101 rfl rfl rfl rfl rfl Θ Θ Θ) tX ?_;refine df 21 Ψ ?_;refine doR rfl (o_st rfl sizeOf101 rfl rfl rfl rfl rfl Θ Θ Θ) tX ?_;refine u_ 22 1 ?_;refine dn Ψ (nmid (fun a w h => by first | exact ⟨b10, b11, r1, r2, r3, z1, z2, hr, e1, e2, wL [2, 1, 0] h⟩ | exact ⟨b10, b11, r1, r2, r3, z1, z2, hr, e1, e2, wL [2, 0, 0] h⟩))
    ·
     refine doR rfl (o_alloc zeroValue101 rfl rfl) (TOk.t (isBoxE fun _ => isPin Θ (mT (List.Mem.head _))) (TOk.t (isBoxE fun _ => isPin Θ (List.Mem.head _)) TOk.d)) ?_;refine ea ?_; intro b11;refine dall (is := [13, 18]) Ψ rfl ?_;intro i hi; simp only [List.mem_cons, List.mem_nil_iff, or_false] at hi; rcases hi with rfl | rfl
     ·
      refine doR rfl (o_call (is := []) call265 (c_refSwap p1 f[k] yp yq hp1 hff) rfl rfl Ω rfl) tX ?_;refine ea ?_; rintro ⟨⟨⟨r1, r2, r3⟩, z1, z2⟩, hr⟩;obtain ⟨e1, e2⟩ := swap_fit hp1 hff; have hr := hr.trans (swap_eq p1 f[k]); rw [← hr] at e1 e2; dsimp only at hr e1 e2;refine u_ 14 4 ?_;refine df 18 Ψ ?_;refine doR rfl (o_alloc zeroValue101 rfl rfl) tX ?_;refine ea ?_; intro b10;refine df 20 Ψ ?_;refine doR rfl (o_st rfl sizeOf101 rfl rfl rfl rfl rfl Θ Θ Θ) tX ?_;refine df 21 Ψ ?_;refine doR rfl (o_st rfl sizeOf101 rfl rfl rfl rfl rfl Θ Θ Θ) tX ?_;refine u_ 22 1 ?_;refine dn Ψ (nmid (fun a w h => by first | exact ⟨b10, b11, r1, r2, r3, z1, z2, hr, e1, e2, wL [2, 1, 0] h⟩ | exact ⟨b10, b11, r1, r2, r3, z1, z2, hr, e1, e2, wL [2, 0, 0] h⟩))
     ·
      refine doR rfl (o_alloc zeroValue101 rfl rfl) (TOk.t (isBoxE fun _ => isPin Θ (mT (List.Mem.head _))) (TOk.t (isBoxE fun _ => isPin Θ (List.Mem.head _)) TOk.d)) ?_;refine ea ?_; intro b10;refine df 13 Ψ ?_;refine doR rfl (o_call (is := []) call265 (c_refSwap p1 f[k] yp yq hp1 hff) rfl rfl Ω rfl) tX ?_;refine ea ?_; rintro ⟨⟨⟨r1, r2, r3⟩, z1, z2⟩, hr⟩;obtain ⟨e1, e2⟩ := swap_fit hp1 hff; have hr := hr.trans (swap_eq p1 f[k]); rw [← hr] at e1 e2; dsimp only at hr e1 e2;refine u_ 14 4 ?_;refine df 20 Ψ ?_;refine doR rfl (o_st rfl sizeOf101 rfl rfl rfl rfl rfl Θ Θ Θ) tX ?_;refine df 21 Ψ ?_;refine doR rfl (o_st rfl sizeOf101 rfl rfl rfl rfl rfl Θ Θ Θ) tX ?_;refine u_ 22 1 ?_;refine dn Ψ (nmid (fun a w h => by first | exact ⟨b10, b11, r1, r2, r3, z1, z2, hr, e1, e2, wL [2, 1, 0] h⟩ | exact ⟨b10, b11, r1, r2, r3, z1, z2, hr, e1, e2, wL [2, 0, 0] h⟩))
   ·
    refine nex fun b10 => nex fun b11 => nex fun r1 => nex fun r2 => nex fun r3 => nex fun z1 => nex fun z2 => nex fun hr => nex fun e1 => nex fun e2 => ?_;refine k_ 8 ?_;refine cc rfl ?_ ?_
    ·intro h50;obtain rfl : false = r3 := (by cases r3 <;> first | rfl | (simp at h50))
     refine cs ?_;refine cmono (fun a w h => nilC (α := Prim) h) ?_;refine k_ 8 ?_;exact rR [] ⟨(([], [], false), ((none, 0), (none, 0))), by rw [hI.stop hi (hPI.stop hk1 hr).symm]⟩
    ·intro h50;obtain rfl : true = r3 := (by cases r3 <;> first | rfl | (simp at h50))
     refine k_ 3 ?_;refine cmono (fun a w h => unpin Θ Θ h) ?_;refine k_ 5 ?_;refine ls (o_ldw isAgg101 sizeOf101 rfl Θ (by rfl) rfl) ?_;refine ls (op (p_ia (u + k) rfl (by rw [List.length_append]; omega) (by omega) underlying24 sizeOf101 rfl rfl) rfl) ?_;refine ls (o_strow (z := r1) (yz := z1) rfl sizeOf101 rfl rfl rfl Θ (by simp; omega) Θ Ω) ?_;refine k_ 8 ?_;refine ls (o_ldw isAgg101 sizeOf101 rfl Θ (by rfl) rfl) ?_;refine ls (op (p_ia (u + k + 1) rfl (by rw [List.length_append]; omega) (by omega) underlying24 sizeOf101 rfl rfl) rfl) ?_;refine ls (o_strow (z := r2) (yz := z2) rfl sizeOf101 rfl rfl rfl Θ (by simp; omega) Θ Ω) ?_;refine k_ 8 ?_;rw [mid_set (by omega)];refine nnext ⟨(k + 1, d ++ [r1], r2, (some ⟨g, 0, none⟩, c2)), hk1, by simp [hdl], e2, hPI.step hk1 hr⟩ (by dsimp only; omega) (wK [0])
  ·intro h28;dsimp only at hk hdl hp1 hPI;(try simp only [nrmZ] at h28);refine k_ 11 ?_;have hpd := hPI.done (show ¬ k < f.length by omega);have eR2 : l.take u ++ (d ++ (p1 :: (f.drop k ++ s))) = l.take (l.length - (j + 1)) ++ (d ++ (p1 :: s)) := (by rw [show l.length - (j + 1) = u by omega, List.drop_eq_nil_of_le (by omega)]; simp);rw [eR2];refine nnext ⟨(j + 1, z - 1, d, p1 :: s, (A2, c2)), by dsimp only; omega, by dsimp only; omega, hI.step hi hfl hpd.symm⟩ (by dsimp only; omega) (wk0 Φ Ω)
 ·intro h22;dsimp only at hj hz hI;(try simp only [nrmZ] at h22);obtain rfl : j = l.length := (by omega);have hfl1 := hI.fl; have hsl1 := hI.sl; have hd := hI.done rfl;rw [show l.take (l.length - l.length) ++ (f ++ s) = f ++ s by simp];refine k_ 6 ?_;refine rowLeC Θ (fun hle => ?_);refine cmono (fun a w h => freezeN (i := 0) rfl h) ?_;refine nilP (y := (A1, c1)) Θ (fun hn1 => ?_);refine cmono (fun a w h => nilQ (y := (if c1 = m.length then A1 else A1.map (·.add (m.length * Rp.size Prim)), c1 - m.length)) (fun hh => by { dsimp only at hh ⊢; have h0 : A1 = none := by { split at hh; exact hh; simpa using hh }; have := hn1 h0; dsimp only at this; omega }) h) ?_;refine cmono (fun a w h => subS (l' := f) (c := c1) 0 m.length (In.s In.z) (Nat.zero_le _) (by rw [List.length_append]; omega) hle (by simp [hfl1]) h) ?_;refine cmono (fun a w h => subS (l' := s) (c := c1) m.length (f ++ s).length (In.s (In.s In.z)) (by rw [List.length_append]; omega) (Nat.le_refl _) hle (by rw [← hfl1]; simp) h) ?_;refine cmono (fun a w h => capQ (c := c1 - 0) (m := f.length) (by rw [List.length_append] at hle; omega) h) ?_;refine cmono (fun a w h => capQ (c := c1 - m.length) (m := s.length) (by rw [List.length_append] at hle; omega) h) ?_;refine cd [] [] TryzX.mixed TOk.d ?_;refine u_ 0 3 ?_;refine tk 3 rfl Ψ Υ gnone (TTany _) (p_slh m.length (by rw [List.length_append] at hle; omega) rfl underlying24 sizeOf101 rfl rfl) rfl ?_;refine u_ 4 3 ?_;refine tk 7 rfl Ψ Υ gnone (TTany _) (p_sll m.length (by rw [List.length_append]; omega) (by rw [List.length_append] at hle ⊢; omega) rfl underlying24 sizeOf101 rfl rfl) rfl ?_;refine u_ 8 3 ?_;refine dn Ψ ?_;refine k_ 3 ?_;refine rret (is := []) ⟨((f, s, true), ((if c1 = 0 then A1 else A1.map (·.add (0 * Rp.size Prim)), c1 - 0), (if c1 = m.length then A1 else A1.map (·.add (m.length * Rp.size Prim)), c1 - m.length))), hd.symm⟩ (Or.inl rfl) (Res.t rfl (Res.t rfl (Res.t rfl Res.d))) ?_ rfl Ω;dsimp only [packV]; rw [show f.length = m.length - 0 by omega, show s.length = (l ++ m).length - m.length by rw [List.length_append]; omega]; rfl
theorem c_ref5Swap (l m : List Prim) (A B : Option Addr) (c c' : Nat) (hl : l.length ≤ 2000000) (hm : m.length ≤ 2000000) (hA0 : l = [] → A = none → c = 0) (hB0 : m = [] → B = none → c' = 0) (hfl : ∀ x ∈ l, x.fit) (hfm : ∀ x ∈ m, x.fit) : Con Tryz.prog 227 [.slice A l.length c, .slice B m.length c'] [] [slA A l, slA B m] {x : (List Prim × List Prim × Bool) × ((Option Addr × Nat) × (Option Addr × Nat)) // x.1 = swT l m} (fun x => .tuple #[.slice x.1.2.1.1 x.1.1.1.length x.1.2.1.2, .slice x.1.2.2.1 x.1.1.2.1.length x.1.2.2.2, .bool x.1.1.2.2]) (fun _ => []) (fun x => [slA x.1.2.1.1 x.1.1.1, slA x.1.2.2.1 x.1.1.2.1, capA x.1.2.1.2 x.1.1.1.length, capA x.1.2.2.2 x.1.1.2.1.length]) := con_sub (c_ref5SwapC l m A B c c' hl hm hA0 hB0 hfl hfm) (fun x => Ω)
theorem c_lOld (l : List Prim) (A : Option Addr) (c : Nat) (hl : l.length ≤ 2000000) : Con Tryz.prog 37 [.slice A l.length c] [] [slA A l] (Option Addr × Nat) (fun y => .slice y.1 l.length y.2) (fun _ => []) (fun y => [slA y.1 l]) := by
 refine con func37 rfl ntmps37 rfl ?_;intro M0 F0 w0;refine k_ 12 ?_;refine cmono (fun a w h => nilRow (α := Prim) 101 h) ?_;refine k_ 7 ?_;refine cl (ι := {q : Nat × Option Addr × Nat // q.1 ≤ l.length}) (fun i => St M0 F0 w0 18 [(6, .slice A l.length c), (7, .int .i64 (l.length : Int)), (8, .int .i64 (i.1.1 : Int)), (3, .slice i.1.2.1 (l.take i.1.1).length i.1.2.2)] [row 101 (i.1.2.1) (i.1.2.2) (l.take i.1.1)] [slA A l]) (fun i => l.length - i.1.1) ⟨(0, none, 0), Nat.zero_le _⟩ (wk0 Φ Ω) ?_;rintro ⟨⟨k, A2, c2⟩, hk⟩;refine cmono (S' := St M0 F0 w0 18 [(6, .slice A l.length c), (7, .int .i64 (l.length : Int)), (8, .int .i64 (k : Int)), (3, .slice A2 (l.take k).length c2)] [row 101 (A2) (c2) (l.take k)] [slA A l]) Ħ ?_;refine k_ 6 ?_;refine cc rfl ?_ ?_
 ·intro h9;dsimp only at hk;(try simp only [nrmZ] at h9);have hk1 : k < l.length := (by omega);refine k_ 5 ?_;refine elC Θ k (List.getElem?_eq_getElem (l := l) hk1) ?_; rintro zbp zop zyp hAp;refine cr ?_;refine ls (op (p_ia k hAp hk1 rfl underlying40 sizeOf103 rfl rfl) rfl) ?_;refine ls (o_ldj isAgg103 sizeOf103 rfl Θ 0 rfl Δ rfl) ?_;refine ls (o_alloc zeroValue103 rfl rfl) ?_;refine le ?_; intro b5;refine k_ 5 ?_;refine ls (o_ldw isAgg103 sizeOf103 rfl Θ (by rfl) rfl) ?_;refine ls (o_bsl [l[k]] underlying24 sizeOf101 zeroValue101 rfl (Enum.t Enum.d) (RV.t zyp rfl Ω RV.d) rfl (by decide) (by decide) rfl) ?_;refine le ?_; intro b14;refine lmono (fun a w h => Go.Sx.freeze (i := 0) rfl h) ?_;refine ls (o_app (is := [1]) underlying24 inf101 rfl (by decide) (by decide) rfl rfl (by rw [List.length_take]; simp only [List.length_cons, List.length_nil]; omega) (fun h => by cases h) rfl Ω rfl) ?_;refine le ?_; rintro ⟨A3, c3⟩;rw [← List.take_succ_eq_append_getElem hk1];refine k_ 8 ?_;refine nnext ⟨(k + 1, A3, c3), hk1⟩ (by dsimp only; omega) (wK [0])
 ·intro h9;dsimp only at hk;(try simp only [nrmZ] at h9);obtain rfl : k = l.length := (by omega);rw [List.take_length];refine k_ 6 ?_;refine cmono (fun a w h => Go.Sx.freeze (i := 0) rfl h) ?_;refine k_ 7 ?_;exact rR [] (A2, c2)
theorem c_seqInvert (l : List Prim) (A : Option Addr) (c : Nat) (hl : l.length ≤ 2000000) (hf : ∀ x ∈ l, x.fit) : Con Tryz.prog 91 [.slice A l.length c] [] [slA A l] (Option Addr × Nat) (fun y => .slice y.1 (invL l).length y.2) (fun _ => []) (fun y => [slA y.1 (invL l)]) := by
 refine con func91 rfl ntmps91 rfl ?_;intro M0 F0 w0;refine k_ 7 ?_;refine ls (o_alloc zeroValue40 rfl rfl) ?_;refine le ?_; intro b3;refine k_ 4 ?_;refine cmono (fun a w h => nilRow (α := Prim) 103 h) ?_;refine k_ 2 ?_;refine lC [] call147 (c_Backward l A c) ?_; intro b7;refine k_ 3 ?_;refine crng (ι := fun pre => Option Addr × Nat) rfl call201 (c_Backward1 l A c hl b7) (fun _ => rfl) rfl (fun pre i => [box b3 40 [.slice i.1 (invP l pre.length).length i.2], row 103 i.1 i.2 (invP l pre.length)]) (fun pre i => []) ((none, 0)) (Y := Empty) (fun _ => []) (fun _ => []) (is := [2, 1, 0]) rfl Ω Ω ?_ ?_ ?_
 ·
  rintro M0 F0 w0 lp κ pre ⟨⟨k, yk⟩, hk⟩ hx ⟨A2, c2⟩;dsimp only at hk hx ⊢;have hfk := hf _ (List.getElem_mem hk);have hpl := invP_len l (show pre.length ≤ l.length by omega);refine cmono (S' := St M0 F0 w0 ⟨16, []⟩ [(3, pT b3), (9, sv l[k] yk)] [lrec lp κ .ready none, box b3 40 [.slice A2 (invP l pre.length).length c2], row 103 A2 c2 (invP l pre.length)] [slA yk.1.1 l[k].old, slA yk.2.1 l[k].new]) (wk0 Φ Ω) ?_;refine cr ?_;refine ls (o_alloc zeroValue103 rfl rfl) ?_;refine le ?_; intro b5;refine k_ 2 ?_;refine nbegin (i := 1) rfl ?_;refine cb ?_;refine cd [2, 3, 4, 5] [(0, b3, 0, _), (1, b5, 0, _)] TryzX.mixed (tB 1 (tB 6 TOk.d)) ?_;refine u_ 0 2 ?_;refine df 2 Ψ ?_;refine doR rfl (o_call (is := []) call148 (c_primInvert l[k] yk hfk) rfl rfl Ω rfl) (TOk.t (isBoxE fun _ => isBoxS Θ (k := 1) Δ) (TOk.x Ψ TOk.d)) ?_;refine ea ?_; rintro ⟨⟨q1, z1⟩, hz1⟩;obtain rfl : q1 = l[k].flip := hz1;refine df 3 Ψ ?_;refine doR rfl (o_bsl [l[k].flip] underlying40 sizeOf103 zeroValue103 rfl (Enum.t Enum.d) (RV.t z1 rfl Ω RV.d) rfl (by decide) (by decide) rfl) (TOk.t (isBoxE fun _ => isBoxS Θ (k := 1) Δ) (TOk.x Ψ TOk.d)) ?_;refine ea ?_; intro b13;refine amono (fun a w h => Go.Sx.freeze (i := 0) rfl h) ?_;refine df 4 Ψ ?_;refine doR rfl (o_app (is := [3]) underlying40 inf103 rfl (by decide) (by decide) rfl rfl (by rw [hpl]; simp only [List.length_cons, List.length_nil]; omega) (fun h => by cases h) rfl Ω rfl) tX ?_;refine ea ?_; rintro ⟨A3, c3⟩;refine df 5 Ψ ?_;refine doR rfl (o_st rfl sizeOf40 rfl rfl rfl rfl rfl Θ Θ Θ) tX ?_;refine dn Ψ ?_;refine k_ 1 ?_;rw [← invP_step hx];exact nround (A3, c3) (is := [1, 2, 0]) (by rw [List.length_append]; rfl) Ω
 ·
  rintro D xs hC ⟨A2, c2⟩;rw [hC, invP_all];refine k_ 3 ?_;refine cmono (fun a w h => Go.Sx.freeze (i := 1) rfl h) ?_;refine k_ 7 ?_;refine rretm (Dfr.c (i := 2) rfl Dfr.d) (is := []) (A2, c2) (Or.inl rfl) (Res.t rfl Res.d) (rfl) rfl Ω
 ·
  intro D y;exact y.elim
theorem c_ref5Invert (l : List Prim) (A : Option Addr) (c : Nat) (hl : l.length ≤ 2000000) (hf : ∀ x ∈ l, x.fit) : Con Tryz.prog 136 [.slice A l.length c] [] [slA A l] {y : Option Addr × Nat // invL l = [] → y.1 = none → y.2 = 0} (fun y => .slice y.1.1 (invL l).length y.1.2) (fun _ => []) (fun y => [slA y.1.1 (invL l)]) := by
 refine con func136 rfl ntmps136 rfl ?_;intro M0 F0 w0;refine k_ 12 ?_;refine cmono (fun a w h => nilRow (α := Prim) 101 h) ?_;refine k_ 8 ?_;refine cl (ι := {q : Nat × Int × Option Addr × Nat // q.1 ≤ l.length ∧ q.2.1 = (l.length : Int) - 1 - (q.1 : Int) ∧ (q.1 = 0 → q.2.2.2 = 0)}) (fun i => St M0 F0 w0 21 [(0, .slice A l.length c), (3, .slice i.1.2.2.1 (invP l i.1.1).length i.1.2.2.2), (4, .int .i64 i.1.2.1)] [row 101 (i.1.2.2.1) (i.1.2.2.2) (invP l i.1.1)] [slA A l]) (fun i => l.length - i.1.1) ⟨(0, (l.length : Int) - 1, none, 0), Nat.zero_le _, by simp, fun _ => rfl⟩ (wk0 Φ Ω) ?_;rintro ⟨⟨j, z, A2, c2⟩, hj, hz, h0⟩;refine cmono (S' := St M0 F0 w0 21 [(0, .slice A l.length c), (3, .slice A2 (invP l j).length c2), (4, .int .i64 z)] [row 101 (A2) (c2) (invP l j)] [slA A l]) Ħ ?_;refine k_ 7 ?_;refine cc rfl ?_ ?_
 ·intro h9;dsimp only at hj hz h0;(try simp only [nrmZ] at h9);obtain ⟨u, hu⟩ : ∃ u, u + j + 1 = l.length := ⟨l.length - 1 - j, by omega⟩;have hu1 : u < l.length := (by omega);have hpl := invP_len l hj;refine k_ 4 ?_;refine elC Θ u (List.getElem?_eq_getElem (l := l) hu1) ?_; rintro zbp zop zyp hAp;refine k_ 4 ?_;refine ls (op (p_ia u hAp hu1 (by omega) underlying24 sizeOf101 rfl rfl) rfl) ?_;refine ls (o_ldj isAgg101 sizeOf101 rfl Θ 0 rfl Δ rfl) ?_;refine lC [] call185 (c_refInvert l[u] zyp (hf _ (List.getElem_mem hu1))) ?_; rintro ⟨⟨q1, z1⟩, hz1⟩;obtain rfl : q1 = l[u].flip := hz1;refine ls (o_bsl [l[u].flip] underlying24 sizeOf101 zeroValue101 rfl (Enum.t Enum.d) (RV.t z1 rfl Ω RV.d) rfl (by decide) (by decide) rfl) ?_;refine le ?_; intro b18;refine lmono (fun a w h => Go.Sx.freeze (i := 0) rfl h) ?_;refine ls (o_app (is := [0]) underlying24 inf101 rfl (by decide) (by decide) rfl rfl (by rw [hpl]; simp only [List.length_cons, List.length_nil]; omega) (fun h => by cases h) rfl Ω rfl) ?_;refine le ?_; rintro ⟨A3, c3⟩;rw [← invP_step (show u + j + 1 = l.length by omega)];refine k_ 9 ?_;refine nnext ⟨(j + 1, z - 1, A3, c3), by dsimp only; omega, by dsimp only; omega, by dsimp only; omega⟩ (by dsimp only; omega) (wK [0])
 ·intro h9;dsimp only at hj hz h0;(try simp only [nrmZ] at h9);obtain rfl : j = l.length := (by omega);rw [invP_all];refine k_ 6 ?_;refine cmono (fun a w h => Go.Sx.freeze (i := 0) rfl h) ?_;refine k_ 7 ?_;exact rR [] ⟨(A2, c2), fun h _ => h0 (by rw [← invL_len l, h]; rfl)⟩
theorem c_lNewC (l : List Prim) (A : Option Addr) (c : Nat) (hl : l.length ≤ 2000000) : Con Tryz.prog 17 [.slice A l.length c] [] [slA A l] (Option Addr × Nat) (fun y => .slice y.1 l.length y.2) (fun _ => []) (fun y => [slA y.1 l, nilA y, capA y.2 l.length]) := by
 refine con func17 rfl ntmps17 rfl ?_;intro M0 F0 w0;refine k_ 12 ?_;refine cmono (fun a w h => nilRow (α := Prim) 103 h) ?_;refine k_ 7 ?_;refine cl (ι := {q : Nat × Option Addr × Nat // q.1 ≤ l.length}) (fun i => St M0 F0 w0 18 [(6, .slice A l.length c), (7, .int .i64 (l.length : Int)), (8, .int .i64 (i.1.1 : Int)), (3, .slice i.1.2.1 (l.take i.1.1).length i.1.2.2)] [row 103 (i.1.2.1) (i.1.2.2) (l.take i.1.1)] [slA A l]) (fun i => l.length - i.1.1) ⟨(0, none, 0), Nat.zero_le _⟩ (wk0 Φ Ω) ?_;rintro ⟨⟨k, A2, c2⟩, hk⟩;refine cmono (S' := St M0 F0 w0 18 [(6, .slice A l.length c), (7, .int .i64 (l.length : Int)), (8, .int .i64 (k : Int)), (3, .slice A2 (l.take k).length c2)] [row 103 (A2) (c2) (l.take k)] [slA A l]) Ħ ?_;refine k_ 6 ?_;refine cc rfl ?_ ?_
 ·intro h9;dsimp only at hk;(try simp only [nrmZ] at h9);have hk1 : k < l.length := (by omega);refine k_ 5 ?_;refine elC Θ k (List.getElem?_eq_getElem (l := l) hk1) ?_; rintro zbp zop zyp hAp;refine cr ?_;refine ls (op (p_ia k hAp hk1 rfl underlying24 sizeOf101 rfl rfl) rfl) ?_;refine ls (o_ldj isAgg101 sizeOf101 rfl Θ 0 rfl Δ rfl) ?_;refine ls (o_alloc zeroValue101 rfl rfl) ?_;refine le ?_; intro b5;refine k_ 5 ?_;refine ls (o_ldw isAgg101 sizeOf101 rfl Θ (by rfl) rfl) ?_;refine ls (o_bsl [l[k]] underlying40 sizeOf103 zeroValue103 rfl (Enum.t Enum.d) (RV.t zyp rfl Ω RV.d) rfl (by decide) (by decide) rfl) ?_;refine le ?_; intro b14;refine lmono (fun a w h => Go.Sx.freeze (i := 0) rfl h) ?_;refine ls (o_app (is := [1]) underlying40 inf103 rfl (by decide) (by decide) rfl rfl (by rw [List.length_take]; simp only [List.length_cons, List.length_nil]; omega) (fun h => by cases h) rfl Ω rfl) ?_;refine le ?_; rintro ⟨A3, c3⟩;rw [← List.take_succ_eq_append_getElem hk1];refine k_ 8 ?_;refine nnext ⟨(k + 1, A3, c3), hk1⟩ (by dsimp only; omega) (wK [0])
 ·intro h9;dsimp only at hk;(try simp only [nrmZ] at h9);obtain rfl : k = l.length := (by omega);rw [List.take_length];refine k_ 6 ?_;refine cmono (fun a w h => freezeN (i := 0) rfl h) ?_;refine k_ 7 ?_;exact rR [] (A2, c2)
theorem c_lOldC (l : List Prim) (A : Option Addr) (c : Nat) (hl : l.length ≤ 2000000) : Con Tryz.prog 37 [.slice A l.length c] [] [slA A l] (Option Addr × Nat) (fun y => .slice y.1 l.length y.2) (fun _ => []) (fun y => [slA y.1 l, nilA y, capA y.2 l.length]) := by
 refine con func37 rfl ntmps37 rfl ?_;intro M0 F0 w0;refine k_ 12 ?_;refine cmono (fun a w h => nilRow (α := Prim) 101 h) ?_;refine k_ 7 ?_;refine cl (ι := {q : Nat × Option Addr × Nat // q.1 ≤ l.length}) (fun i => St M0 F0 w0 18 [(6, .slice A l.length c), (7, .int .i64 (l.length : Int)), (8, .int .i64 (i.1.1 : Int)), (3, .slice i.1.2.1 (l.take i.1.1).length i.1.2.2)] [row 101 (i.1.2.1) (i.1.2.2) (l.take i.1.1)] [slA A l]) (fun i => l.length - i.1.1) ⟨(0, none, 0), Nat.zero_le _⟩ (wk0 Φ Ω) ?_;rintro ⟨⟨k, A2, c2⟩, hk⟩;refine cmono (S' := St M0 F0 w0 18 [(6, .slice A l.length c), (7, .int .i64 (l.length : Int)), (8, .int .i64 (k : Int)), (3, .slice A2 (l.take k).length c2)] [row 101 (A2) (c2) (l.take k)] [slA A l]) Ħ ?_;refine k_ 6 ?_;refine cc rfl ?_ ?_
 ·intro h9;dsimp only at hk;(try simp only [nrmZ] at h9);have hk1 : k < l.length := (by omega);refine k_ 5 ?_;refine elC Θ k (List.getElem?_eq_getElem (l := l) hk1) ?_; rintro zbp zop zyp hAp;refine cr ?_;refine ls (op (p_ia k hAp hk1 rfl underlying40 sizeOf103 rfl rfl) rfl) ?_;refine ls (o_ldj isAgg103 sizeOf103 rfl Θ 0 rfl Δ rfl) ?_;refine ls (o_alloc zeroValue103 rfl rfl) ?_;refine le ?_; intro b5;refine k_ 5 ?_;refine ls (o_ldw isAgg103 sizeOf103 rfl Θ (by rfl) rfl) ?_;refine ls (o_bsl [l[k]] underlying24 sizeOf101 zeroValue101 rfl (Enum.t Enum.d) (RV.t zyp rfl Ω RV.d) rfl (by decide) (by decide) rfl) ?_;refine le ?_; intro b14;refine lmono (fun a w h => Go.Sx.freeze (i := 0) rfl h) ?_;refine ls (o_app (is := [1]) underlying24 inf101 rfl (by decide) (by decide) rfl rfl (by rw [List.length_take]; simp only [List.length_cons, List.length_nil]; omega) (fun h => by cases h) rfl Ω rfl) ?_;refine le ?_; rintro ⟨A3, c3⟩;rw [← List.take_succ_eq_append_getElem hk1];refine k_ 8 ?_;refine nnext ⟨(k + 1, A3, c3), hk1⟩ (by dsimp only; omega) (wK [0])
 ·intro h9;dsimp only at hk;(try simp only [nrmZ] at h9);obtain rfl : k = l.length := (by omega);rw [List.take_length];refine k_ 6 ?_;refine cmono (fun a w h => freezeN (i := 0) rfl h) ?_;refine k_ 7 ?_;exact rR [] (A2, c2)
theorem c_seqPastC (p : Prim) (y : Rp.Lay Prim) (hp : p.fit) (m : List Prim) (B : Option Addr) (c : Nat) (hl : m.length ≤ 2000000) (hf : ∀ x ∈ m, x.fit) : Con Tryz.prog 219 [sv p y, .slice B m.length c] [] [slA y.1.1 p.old, slA y.2.1 p.new, slA B m] {x : (List Prim × Prim × Bool) × ((Option Addr × Nat) × Rp.Lay Prim) // x.1 = pastT p m} (fun x => .tuple #[.slice x.1.2.1.1 x.1.1.1.length x.1.2.1.2, sv x.1.1.2.1 x.1.2.2, .bool x.1.1.2.2]) (fun _ => []) (fun x => slA x.1.2.1.1 x.1.1.1 :: nilA x.1.2.1 :: capA x.1.2.1.2 x.1.1.1.length :: Rp.asn x.1.1.2.1 x.1.2.2) := by
 refine con func219 rfl ntmps219 rfl ?_;intro M0 F0 w0;refine k_ 2 ?_;refine ls (o_box rfl rfl rfl) ?_;refine le ?_; intro b2;refine k_ 1 ?_;refine ls (o_alloc zeroValue103 rfl rfl) ?_;refine le ?_; intro b5;refine k_ 5 ?_;refine cmono (fun a w h => nilRow (α := Prim) 103 h) ?_;refine k_ 7 ?_;refine cl (ι := {q : Nat × List Prim × Prim × (Option Addr × Nat) × Rp.Lay Prim // q.1 ≤ m.length ∧ q.2.1.length = q.1 ∧ q.2.2.1.fit ∧ PI p m q.1 q.2.1 q.2.2.1}) (fun i => St M0 F0 w0 36 [(12, .slice B m.length c), (13, .int .i64 (m.length : Int)), (14, .int .i64 (i.1.1 : Int)), (4, .slice i.1.2.2.2.1.1 (i.1.2.1).length i.1.2.2.2.1.2), (2, pT b2), (5, pT b5)] [row 103 i.1.2.2.2.1.1 i.1.2.2.2.1.2 i.1.2.1, box b2 103 (Rp.enc i.1.2.2.1 i.1.2.2.2.2), box b5 103 (Rp.enc Prim.zero ((none, 0), (none, 0)))] [slA (i.1.2.2.2.2).1.1 (i.1.2.2.1).old, slA (i.1.2.2.2.2).2.1 (i.1.2.2.1).new, slA B m]) (fun i => m.length - i.1.1) ⟨(0, [], p, (none, 0), y), Nat.zero_le _, rfl, hp, PI.start p m⟩ (wK [0, 1, 0]) ?_;rintro ⟨⟨k, f, p1, ⟨A1, c1⟩, y1⟩, hk, hfl, hp1, hPI⟩;refine cmono (S' := St M0 F0 w0 36 [(12, .slice B m.length c), (13, .int .i64 (m.length : Int)), (14, .int .i64 (k : Int)), (4, .slice A1 (f).length c1), (2, pT b2), (5, pT b5)] [row 103 A1 c1 f, box b2 103 (Rp.enc p1 y1), box b5 103 (Rp.enc Prim.zero ((none, 0), (none, 0)))] [slA (y1).1.1 (p1).old, slA (y1).2.1 (p1).new, slA B m]) Ħ ?_;refine k_ 6 ?_;refine cc rfl ?_ ?_
 ·intro h15;dsimp only at hk hfl hp1 hPI;(try simp only [nrmZ] at h15);have hk1 : k < m.length := (by omega);refine k_ 5 ?_;refine elC Θ k (List.getElem?_eq_getElem (l := m) hk1) ?_; rintro zbp zop zyp hAp;refine cr ?_;refine ls (op (p_ia k hAp hk1 rfl underlying40 sizeOf103 rfl rfl) rfl) ?_;refine ls (o_ldj isAgg103 sizeOf103 rfl Θ 0 rfl Δ rfl) ?_;refine ls (o_alloc zeroValue103 rfl rfl) ?_;refine le ?_; intro b8;refine k_ 5 ?_;refine ls (o_ldw isAgg103 sizeOf103 rfl Θ (by rfl) rfl) ?_;refine ls (o_ldw isAgg103 sizeOf103 rfl Θ (by rfl) rfl) ?_;refine lC [] call255 (c_Swap p1 m[k] y1 zyp hp1 (hf _ (List.getElem_mem hk1))) ?_; rintro ⟨⟨⟨r1, r2, r3⟩, z1, z2⟩, hr⟩;obtain ⟨e1, e2⟩ := swap_fit hp1 (hf _ (List.getElem_mem hk1)); rw [← hr] at e1 e2; dsimp only at hr e1 e2;refine k_ 4 ?_;refine ls (o_alloc zeroValue103 rfl rfl) ?_;refine le ?_; intro b9;refine ls (o_alloc zeroValue103 rfl rfl) ?_;refine le ?_; intro b10;refine k_ 12 ?_;refine cc rfl ?_ ?_
  ·intro h26;obtain rfl : false = r3 := (by cases r3 <;> first | rfl | (simp at h26))
   refine cs ?_;refine cmono (fun a w h => nilC (α := Prim) h) ?_;refine cmono (fun a w h => nilSl (α := ByteArray) h) ?_;refine k_ 9 ?_;refine rret (is := []) ⟨(([], Prim.zero, false), ((none, 0), ((none, 0), (none, 0)))), (hPI.stop hk1 hr).symm⟩ (Or.inl rfl) (Res.t rfl (Res.c rfl isAgg103 sizeOf103 Θ (by rfl) (Res.t rfl Res.d))) (rfl) rfl Ω
  ·intro h26;obtain rfl : true = r3 := (by cases r3 <;> first | rfl | (simp at h26))
   refine k_ 2 ?_;refine cd [2, 3, 6] [(1, b9, 0, _), (4, b10, 0, _)] TryzX.mixed (tB 6 (tB 6 TOk.d)) ?_;refine u_ 0 2 ?_;refine u_ 4 1 ?_;refine df 2 Ψ ?_;refine doR rfl (o_bsl [r1] underlying40 sizeOf103 zeroValue103 rfl (Enum.t Enum.d) (RV.t z1 rfl Ω RV.d) rfl (by decide) (by decide) rfl) (TOk.x Ψ (TOk.t (isBoxE fun _ => isBoxS Θ (k := 6) Δ) TOk.d)) ?_;refine ea ?_; intro b30;refine amono (fun a w h => Go.Sx.freeze (i := 0) rfl h) ?_;refine df 3 Ψ ?_;refine doR rfl (o_app (is := [3]) underlying40 inf103 rfl (by decide) (by decide) rfl rfl (by simp only [List.length_cons, List.length_nil]; omega) (fun h => by cases h) rfl Ω rfl) (TOk.x Ψ (TOk.t (isBoxE fun _ => isBoxS Θ (k := 6) Δ) TOk.d)) ?_;refine ea ?_; rintro ⟨A', c'⟩;refine u_ 5 1 ?_;refine df 6 Ψ ?_;refine doR rfl (o_st rfl sizeOf103 rfl rfl rfl rfl rfl Θ Θ Θ) tX ?_;refine dn Ψ ?_;refine k_ 6 ?_;refine nnext ⟨(k + 1, f ++ [r1], r2, (A', c'), z2), hk1, by simp [hfl], e2, hPI.step hk1 hr⟩ (by dsimp only; omega) (wK [0, 3, 3])
 ·intro h15;dsimp only at hk hfl hp1 hPI;(try simp only [nrmZ] at h15);refine k_ 6 ?_;refine cmono (fun a w h => freezeN (i := 0) rfl h) ?_;refine cd [3] [(1, b2, 0, _)] TryzX.mixed (tB 6 TOk.d) ?_;refine u_ 0 3 ?_;refine df 3 Ψ ?_;refine doR rfl (o_st rfl sizeOf103 rfl rfl rfl rfl rfl Θ Θ Θ) tX ?_;refine u_ 4 1 ?_;refine dn Ψ ?_;refine k_ 3 ?_;refine rret (is := []) ⟨((f, p1, true), ((A1, c1), y1)), (hPI.done (by omega)).symm⟩ (Or.inl rfl) (Res.t rfl (Res.c rfl isAgg103 sizeOf103 Θ (by rfl) (Res.t rfl Res.d))) (rfl) rfl Ω
theorem c_seqSwapR (l m : List Prim) (A B : Option Addr) (c c' : Nat) (hl : l.length ≤ 2000000) (hm : m.length ≤ 2000000) (hfl : ∀ x ∈ l, x.fit) (hfm : ∀ x ∈ m, x.fit) : Con Tryz.prog 170 [.slice A l.length c, .slice B m.length c'] [] [slA A l, slA B m] {x : (List Prim × List Prim × Bool) × ((Option Addr × Nat) × (Option Addr × Nat)) // x.1 = swT l m} (fun x => .tuple #[.slice x.1.2.1.1 x.1.1.1.length x.1.2.1.2, .slice x.1.2.2.1 x.1.1.2.1.length x.1.2.2.2, .bool x.1.1.2.2]) (fun x => [row 103 x.1.2.2.1 x.1.2.2.2 x.1.1.2.1]) (fun x => [slA x.1.2.1.1 x.1.1.1, nilA x.1.2.1, capA x.1.2.1.2 x.1.1.1.length]) := by
 refine con func170 rfl ntmps170 rfl ?_;intro M0 F0 w0;refine k_ 2 ?_;refine ls (o_alloc zeroValue40 rfl rfl) ?_;refine le ?_; intro b4;refine ls (o_alloc zeroValue40 rfl rfl) ?_;refine le ?_; intro b5;refine ls (o_alloc zeroValue4 rfl rfl) ?_;refine le ?_; intro b6;refine k_ 5 ?_;refine lC [] call169 (c_seqCloned m B c' hm hfm) ?_; rintro ⟨A1, c1⟩;refine lmono (fun a w h => freezeN (i := 0) rfl h) ?_;refine k_ 5 ?_;refine cmono (fun a w h => nilRow (α := Prim) 103 h) ?_;refine k_ 2 ?_;refine lC [] call147 (c_Backward l A c) ?_; intro b15;refine k_ 3 ?_;refine crng (ι := fun pre => {q : List Prim × List Prim × (Option Addr × Nat) × (Option Addr × Nat) // SI l m pre.length q.1 q.2.1 ∧ (q.2.1 = [] → q.2.2.2.2 = 0)}) rfl call201 (c_Backward1 l A c hl b15) (fun _ => rfl) rfl (fun pre i => [box b4 40 [.slice i.1.2.2.1.1 i.1.1.length i.1.2.2.1.2], box b5 40 [.slice i.1.2.2.2.1 i.1.2.1.length i.1.2.2.2.2], box b6 4 [.bool false], row 103 i.1.2.2.2.1 i.1.2.2.2.2 i.1.2.1]) (fun pre i => [slA i.1.2.2.1.1 i.1.1, nilA i.1.2.2.1, capA i.1.2.2.1.2 i.1.1.length]) (⟨(m, [], (A1, c1), (none, 0)), SI.start hfm, fun _ => rfl⟩) (Y := {u : Unit // swT l m = ([], [], false)}) (fun _ => [box b4 40 [.slice none 0 0], box b5 40 [.slice none 0 0], box b6 4 [.bool false]]) (fun _ => []) (is := [4, 3, 2, 1, 0]) rfl Ω Ω ?_ ?_ ?_
 ·
  rintro M0 F0 w0 lp κ pre ⟨⟨k, yk⟩, hk⟩ hx ⟨⟨f, s, ⟨A1, c1⟩, ⟨A2, c2⟩⟩, hI, hA2⟩;dsimp only at hk hx hI hA2;have hfl1 := hI.fl; have hsl1 := hI.sl; have hfk := hfl _ (List.getElem_mem hk);refine cmono (S' := St M0 F0 w0 ⟨35, []⟩ [(4, pT b4), (5, pT b5), (6, pT b6), (17, sv l[k] yk)] [lrec lp κ .ready none, box b4 40 [.slice A1 f.length c1], box b5 40 [.slice A2 s.length c2], box b6 4 [.bool false], row 103 A2 c2 s] [slA A1 f, nilA (A1, c1), capA c1 f.length, slA yk.1.1 l[k].old, slA yk.2.1 l[k].new]) (wk0 Φ Ω) ?_;refine cr ?_;refine ls (o_alloc zeroValue103 rfl rfl) ?_;refine le ?_; intro b8;refine k_ 2 ?_;refine nbegin (i := 1) rfl ?_;refine k_ 3 ?_;refine ls (o_ldw isAgg103 sizeOf103 rfl Θ (by rfl) rfl) ?_;refine k_ 1 ?_;refine lC [] call219 (c_seqPastC l[k] yk hfk f A1 c1 (by omega) hI.ff) ?_; rintro ⟨⟨⟨f', q, r3⟩, ⟨⟨A', c'⟩, z2⟩⟩, hr⟩;dsimp only at hr;refine k_ 4 ?_;refine ls (o_alloc zeroValue103 rfl rfl) ?_;refine le ?_; intro b10;refine k_ 12 ?_;refine cc rfl ?_ ?_
  ·intro h26;obtain rfl : false = r3 := (by cases r3 <;> first | rfl | (simp at h26))
   refine k_ 8 ?_;refine xretR Ħ ?_;exact nrret ⟨(), hI.stop (by omega) hr⟩ (is := [1, 2, 2, 2]) rfl Ω
  ·intro h26;obtain rfl : true = r3 := (by cases r3 <;> first | rfl | (simp at h26))
   have hq := past1_ok (pastT_true hr) hfk hI.ff;refine cmono (fun a w h => Go.Sx.freeze (i := 6) rfl h) ?_;refine k_ 2 ?_;refine cd [2, 3, 5, 6, 7] [(1, b10, 0, _), (4, b5, 0, _)] TryzX.mixed (tB 6 (tB 1 TOk.d)) ?_;refine u_ 0 2 ?_;refine u_ 4 1 ?_;refine df 2 Ψ ?_;refine doR rfl (o_call (is := []) call110 (c_primClone q z2 hq.2.1) rfl rfl Ω rfl) (TOk.x Ψ (TOk.t (isBoxE fun _ => isBoxS Θ (k := 1) Δ) TOk.d)) ?_;refine ea ?_; intro z3;refine df 3 Ψ ?_;refine doR rfl (o_bsl [q] underlying40 sizeOf103 zeroValue103 rfl (Enum.t Enum.d) (RV.t z3 rfl Ω RV.d) rfl (by decide) (by decide) rfl) (TOk.x Ψ (TOk.t (isBoxE fun _ => isBoxS Θ (k := 1) Δ) TOk.d)) ?_;refine ea ?_; intro b30;refine df 5 Ψ ?_;refine doR rfl (o_app (is := [0]) underlying40 inf103 rfl (by decide) (by decide) rfl rfl (by simp only [List.length_cons, List.length_nil]; omega) (fun h _ => hA2 h) rfl Ω rfl) tX ?_;refine ea ?_; rintro ⟨A3, c3⟩;refine df 6 Ψ ?_;refine doR rfl (o_st rfl sizeOf40 rfl rfl rfl rfl rfl Θ Θ Θ) tX ?_;refine df 7 Ψ ?_;refine doR rfl (o_st rfl sizeOf40 rfl rfl rfl rfl rfl Θ Θ Θ) tX ?_;refine dn Ψ ?_;refine k_ 1 ?_;exact nround ⟨(f', q :: s, (A', c'), (A3, c3)), by rw [List.length_append]; exact hI.step (by omega) hfl hr, fun h => by cases h⟩ (is := [2, 3, 3, 3, 0]) rfl Ω
 ·
  rintro D xs hC ⟨⟨f, s, ⟨A1, c1⟩, ⟨A2, c2⟩⟩, hI, hA2⟩;dsimp only at hC hI;have hd := hI.done hC;refine k_ 3 ?_;refine cd [2, 3, 4] [(0, b4, 0, _), (1, b5, 0, _)] TryzX.mixed (tB 1 (tB 1 TOk.d)) ?_;refine u_ 0 2 ?_;refine df 2 Ψ ?_;refine doR rfl (o_st rfl sizeOf40 rfl rfl rfl rfl rfl Θ Θ Θ) (TOk.x Ψ (tB 1 TOk.d)) ?_;refine df 3 Ψ ?_;refine doR rfl (o_st rfl sizeOf40 rfl rfl rfl rfl rfl Θ Θ Θ) tX ?_;refine df 4 Ψ ?_;refine doR rfl (o_st rfl sizeOf4 rfl rfl rfl rfl rfl Θ Θ Θ) tX ?_;refine dn Ψ ?_;refine k_ 3 ?_;refine rretm (Dfr.c (i := 5) rfl Dfr.d) (is := [3]) ⟨((f, s, true), ((A1, c1), (A2, c2))), hd.symm⟩ (Or.inl rfl) (Res.c1 rfl isAgg40 Θ (Res.c1 rfl isAgg40 Θ (Res.c1 rfl isAgg4 Θ Res.d))) (rfl) rfl Ω
 ·
  rintro D ⟨_, hst⟩;refine nmono (fun a w h => nilC (α := Prim) h) ?_;refine nmono (fun a w h => nilRow (α := Prim) 103 h) ?_;refine k_ 1 ?_;refine rretm (Dfr.c (i := 5) rfl Dfr.d) (is := [0]) ⟨(([], [], false), ((none, 0), (none, 0))), hst.symm⟩ (Or.inl rfl) (Res.c1 rfl isAgg40 Θ (Res.c1 rfl isAgg40 Θ (Res.c1 rfl isAgg4 Θ Res.d))) (rfl) rfl Ω
theorem c_seqApply (p b : Nat) (T : List File) (mm nn : Nat) (hi : AppInv mm nn T) (l : List Prim) (A : Option Addr) (c : Nat) (hc : l.length ≤ c) (hl : l.length ≤ 900000) (hf : ∀ x ∈ l, x.fit) (hm : mm + 2 * lns l ≤ 1900000) (hn : nn + 2 * l.length ≤ 1900000) : Con Tryz.prog 43 [pT p, .slice A l.length c] [box p 139 [.map (some b)], tr b T] [slA A l] {q : List File × Int // q = rowT T l} (fun q => .int .i64 q.1.2) (fun q => [box p 139 [.map (some b)], tr b q.1.1]) (fun _ => []) := by
 refine con func43 rfl ntmps43 rfl ?_;intro M0 F0 w0;refine k_ 14 ?_;refine cl (ι := {q : Nat × List File // q.1 ≤ l.length ∧ Runs T (l.take q.1) q.2}) (fun i => St M0 F0 w0 37 [(0, pT p), (1, .slice A l.length c), (10, .slice A l.length c), (11, .int .i64 (l.length : Int)), (12, .int .i64 (i.1.1 : Int))] [box p 139 [.map (some b)], tr b i.1.2] [slA A l]) (fun i => l.length - i.1.1) ⟨(0, T), Nat.zero_le _, rfl⟩ (wk0 Φ Ω) ?_;rintro ⟨⟨k, M⟩, hk, hR⟩;refine cmono (S' := St M0 F0 w0 37 [(0, pT p), (1, .slice A l.length c), (10, .slice A l.length c), (11, .int .i64 (l.length : Int)), (12, .int .i64 (k : Int))] [box p 139 [.map (some b)], tr b M] [slA A l]) Ħ ?_;refine k_ 6 ?_;refine cc rfl ?_ ?_
 ·intro h13;dsimp only at hk hR;(try simp only [nrmZ] at h13);have hk1 : k < l.length := (by omega);have hfk := hf _ (List.getElem_mem hk1);have hB := run_b hi hm hn hR hk1;have hlk : (l.take k).length = k := (by rw [List.length_take]; omega);refine k_ 5 ?_;refine elC Θ k (List.getElem?_eq_getElem (l := l) hk1) ?_; rintro zbp zop zyp hAp;refine k_ 2 ?_;refine ls (op (p_ia k hAp hk1 rfl underlying40 sizeOf103 rfl rfl) rfl) ?_;refine ls (o_ldj isAgg103 sizeOf103 rfl Θ 0 rfl Δ rfl) ?_;refine ls (o_alloc zeroValue103 rfl rfl) ?_;refine le ?_; intro b6;refine k_ 7 ?_;refine ls (o_ldw isAgg103 sizeOf103 rfl Θ (by rfl) rfl) ?_;refine lC [1, 1] call90 (c_pApply p b M l[k] zyp hfk hB.fit hB.b) ?_; rintro ⟨⟨M1, e1⟩, hq⟩;(try dsimp only at hq);have hqr := hq;rw [apply_eq hB.so hB.good] at hqr;refine k_ 9 ?_;refine cc rfl ?_ ?_
  ·intro h21;have he : ¬ e1 = 0 := (by simpa using h21);obtain rfl := apply_err hq he hB.so hB.good;refine cmono (fun a w h => subS (l' := l.take k) (c := c) 0 k (by repeat (first | exact In.z | apply In.s)) (by omega) (by omega) hc (by simp) h) ?_;refine k_ 5 ?_;refine ls (op (p_slh k (by omega) rfl underlying40 sizeOf103 rfl rfl) rfl) ?_;refine fixL (slen (m' := (l.take k).length) (by omega)) ?_;refine lC [] call91 (c_seqInvert (l.take k) _ _ (by omega) (fun x hx => hf x (List.mem_of_mem_take hx))) ?_; rintro ⟨A25, c25⟩;refine k_ 5 ?_;refine cl (ι := {q : Nat × List File // q.1 ≤ (invL (l.take k)).length ∧ Undo T l k q.1 M1 q.2}) (fun i => St M0 F0 w0 37 [(0, pT p), (7, .int .i64 e1), (25, .slice A25 (invL (l.take k)).length c25), (26, .int .i64 ((invL (l.take k)).length : Int)), (27, .int .i64 (i.1.1 : Int))] [box p 139 [.map (some b)], tr b i.1.2] [slA A25 (invL (l.take k))]) (fun i => (invL (l.take k)).length - i.1.1) ⟨(0, M1), Nat.zero_le _, Undo.start hi.so hi.good hR⟩ (wK [0, 0]) ?_;rintro ⟨⟨j, N⟩, hj, hU⟩;refine cmono (S' := St M0 F0 w0 37 [(0, pT p), (7, .int .i64 e1), (25, .slice A25 (invL (l.take k)).length c25), (26, .int .i64 ((invL (l.take k)).length : Int)), (27, .int .i64 (j : Int))] [box p 139 [.map (some b)], tr b N] [slA A25 (invL (l.take k))]) Ħ ?_;refine k_ 6 ?_;refine cc rfl ?_ ?_
   ·intro h28;dsimp only at hj hU;(try simp only [nrmZ] at h28);have hj1 : j < (invL (l.take k)).length := (by omega);have hil : (invL (l.take k)).length = k := (by rw [invL_len, hlk]);have hBu := undo_b hi hm hn hR hU hj1;have hfj := invL_fit (fun x hx => hf x (List.mem_of_mem_take hx)) _ (List.getElem_mem hj1);refine k_ 5 ?_;refine elC Θ j (List.getElem?_eq_getElem (l := (invL (l.take k))) hj1) ?_; rintro zbq zoq zyq hAq;refine cr ?_;refine ls (op (p_ia j hAq hj1 rfl underlying40 sizeOf103 rfl rfl) rfl) ?_;refine ls (o_ldj isAgg103 sizeOf103 rfl Θ 0 rfl Δ rfl) ?_;refine ls (o_alloc zeroValue103 rfl rfl) ?_;refine le ?_; intro b9;refine k_ 5 ?_;refine ls (o_ldw isAgg103 sizeOf103 rfl Θ (by rfl) rfl) ?_;refine lC [1, 1] call90 (c_pApply p b N (invL (l.take k))[j] zyq hfj hBu.fit hBu.b) ?_; rintro ⟨⟨N1, e2⟩, hq2⟩;(try dsimp only at hq2);rw [apply_eq hBu.so hBu.good] at hq2;obtain rfl : N1 = (rApplyT N (invL (l.take k))[j]).1 := (by rw [← hq2]);refine k_ 7 ?_;refine nnext ⟨(j + 1, _), hj1, hU.step hj1⟩ (by dsimp only; omega) (wK [0, 0])
   ·intro h28;dsimp only at hj hU;(try simp only [nrmZ] at h28);obtain rfl := hU.stop (by omega);refine k_ 13 ?_;exact rR [0, 0] ⟨(N, e1), (rowT_err hR hk1 hqr he).symm⟩
  ·intro h21;have he : e1 = 0 := (by simpa using h21);subst he;refine k_ 7 ?_;refine nnext ⟨(k + 1, M1), hk1, runs_take hR hk1 hqr⟩ (by dsimp only; omega) (wK [0, 0])
 ·intro h13;dsimp only at hk hR;(try simp only [nrmZ] at h13);have hall := runs_all hR (by omega);refine k_ 12 ?_;exact rR [0, 0] ⟨(M, 0), (rowT_ok hall).symm⟩
theorem c_ref5Apply (T : List File) (A : Option Addr) (c : Nat) (hTn : T.length ≤ 2000000) (mm nn : Nat) (hi : AppInv mm nn T) (l : List Prim) (B : Option Addr) (c' : Nat) (hl : l.length ≤ 900000) (hf : ∀ x ∈ l, x.fit) (hm : mm + 2 * lns l ≤ 1900000) (hn : nn + 2 * l.length ≤ 1900000) : Con Tryz.prog 87 [.slice A T.length c, .slice B l.length c'] [] [slA A T, slA B l] {q : (List File × Int) × (Option Addr × Nat) // q.1 = rowT T l} (fun q => .tuple #[.slice q.1.2.1 q.1.1.1.length q.1.2.2, .int .i64 q.1.1.2]) (fun _ => []) (fun q => [slA q.1.2.1 q.1.1.1]) := by
 refine con func87 rfl ntmps87 rfl ?_;intro M0 F0 w0;refine k_ 19 ?_;refine cl (ι := {q : Nat × List File × (Option Addr × Nat) // q.1 ≤ l.length ∧ Runs T (l.take q.1) q.2.1}) (fun i => St M0 F0 w0 32 [(0, .slice A T.length c), (1, .slice B l.length c'), (6, .slice i.1.2.2.1 (i.1.2.1).length i.1.2.2.2), (7, .int .i64 (i.1.1 : Int))] [] [slA A T, slA B l, slA i.1.2.2.1 i.1.2.1]) (fun i => l.length - i.1.1) ⟨(0, T, (A, c)), Nat.zero_le _, rfl⟩ (wk0 Φ Ω) ?_;rintro ⟨⟨k, M, ⟨A6, c6⟩⟩, hk, hR⟩;refine cmono (S' := St M0 F0 w0 32 [(0, .slice A T.length c), (1, .slice B l.length c'), (6, .slice A6 (M).length c6), (7, .int .i64 (k : Int))] [] [slA A T, slA B l, slA A6 M]) Ħ ?_;refine k_ 9 ?_;refine cc rfl ?_ ?_
 ·intro h14;dsimp only at hk hR;(try simp only [nrmZ] at h14);have hk1 : k < l.length := (by omega);have hfk := hf _ (List.getElem_mem hk1);have hB := run_b hi hm hn hR hk1;refine k_ 5 ?_;refine elC Θ k (List.getElem?_eq_getElem (l := l) hk1) ?_; rintro zbp zop zyp hAp;refine k_ 4 ?_;refine ls (op (p_ia k hAp hk1 rfl underlying24 sizeOf101 rfl rfl) rfl) ?_;refine ls (o_ldj isAgg101 sizeOf101 rfl Θ 0 rfl Δ rfl) ?_;refine lC [] call138 (c_rApply M A6 c6 hB.len l[k] zyp hfk hB.b) ?_; rintro ⟨⟨⟨M1, e1⟩, ⟨A1, c1⟩⟩, hq⟩;(try dsimp only at hq);refine k_ 14 ?_;refine cc rfl ?_ ?_
  ·intro h27;have he : ¬ e1 = 0 := (by simpa using h27);refine k_ 10 ?_;exact rR [] ⟨((T, e1), (A, c)), (rowT_err hR hk1 hq he).symm⟩
  ·intro h27;have he : e1 = 0 := (by simpa using h27);subst he;refine k_ 13 ?_;refine nnext ⟨(k + 1, M1, (A1, c1)), hk1, runs_take hR hk1 hq⟩ (by dsimp only; omega) (wk0 Φ Ω)
 ·intro h14;dsimp only at hk hR;(try simp only [nrmZ] at h14);have hall := runs_all hR (by omega);refine k_ 14 ?_;exact rR [] ⟨((M, 0), (A6, c6)), (rowT_ok hall).symm⟩
theorem inf3 : (Tryz.prog.info? 3).map (fun i => (i.zero, i.size, i.bytes)) = some (some (.int .i64 0), 1, 8) := by kernel_rfl
theorem inf63 : (Tryz.prog.info? 63).map (fun i => (i.zero, i.size, i.bytes)) = some (some (.agg #[.int .i64 0, .string ⟨#[]⟩, .slice none 0 0, .slice none 0 0]), 4, 72) := by kernel_rfl
theorem inf99 : (Tryz.prog.info? 99).map (fun i => (i.zero, i.size, i.bytes)) = some (some (.agg #[.int .i64 0, .string ⟨#[]⟩, .slice none 0 0, .slice none 0 0]), 4, 72) := by kernel_rfl
theorem c_IndexI (l : List Int) (A : Option Addr) (c : Nat) (hl : l.length ≤ 2000000) (v : Int) : Con Tryz.prog 254 [.slice A l.length c, .int .i64 v] [] [slA A l] {r : Int // -1 ≤ r ∧ r ≤ 2000000 ∧ (0 ≤ r ↔ v ∈ l)} (fun r => .int .i64 r.1) (fun _ => []) (fun _ => []) := by
 refine con func254 rfl ntmps254 rfl ?_;intro M0 F0 w0;refine k_ 14 ?_;refine cl (ι := {k : Nat // k ≤ l.length ∧ v ∉ l.take k}) (fun i => St M0 F0 w0 19 [(0, .slice A l.length c), (1, .int .i64 v), (7, .int .i64 (l.length : Int)), (8, .int .i64 (i.1 : Int))] [] [slA A l]) (fun i => l.length - i.1) ⟨0, by simp⟩ (wk0 Φ Ω) ?_;rintro ⟨k, hk, hkk⟩;refine cmono (S' := St M0 F0 w0 19 [(0, .slice A l.length c), (1, .int .i64 v), (7, .int .i64 (l.length : Int)), (8, .int .i64 (k : Int))] [] [slA A l]) Ħ ?_;refine k_ 6 ?_;refine cc rfl ?_ ?_
 ·intro h9;(try simp only [nrmZ] at h9);have hk1 : k < l.length := (by omega);refine k_ 11 ?_;refine elC Θ k (List.getElem?_eq_getElem (l := l) hk1) ?_; rintro zbp zop zyp hAp;refine k_ 4 ?_;refine ls (op (p_ia k hAp hk1 rfl underlying61 sizeOf3 rfl rfl) rfl) ?_;refine ls (o_ldi isAgg3 rfl Θ 0 rfl Δ rfl) ?_;refine k_ 3 ?_;refine cc rfl ?_ ?_
  ·intro h16;(try simp only [nrmZ] at h16);refine k_ 8 ?_;exact rR [] ⟨(k : Int), by omega, by omega, ⟨fun _ => h16 ▸ List.getElem_mem hk1, fun _ => by omega⟩⟩
  ·intro h16;(try simp only [nrmZ] at h16);refine k_ 7 ?_;refine nnext ⟨k + 1, hk1, by rw [List.take_succ_eq_append_getElem hk1, List.mem_append]; simp [h16, hkk]⟩ (by dsimp only; omega) (wk0 Φ Ω)
 ·intro h9;(try simp only [nrmZ] at h9);refine k_ 12 ?_;exact rR [] ⟨-1, by omega, by omega, by rw [List.take_of_length_le (by omega)] at hkk; simp [hkk]⟩
theorem c_ContainsI (l : List Int) (A : Option Addr) (c : Nat) (hl : l.length ≤ 2000000) (v : Int) : Con Tryz.prog 218 [.slice A l.length c, .int .i64 v] [] [slA A l] Unit (fun _ => .bool (l.any fun s => decide (s = v))) (fun _ => []) (fun _ => []) := by
 refine con func218 rfl ntmps218 rfl ?_;intro M0 F0 w0;refine k_ 9 ?_;refine lC [] call254 (c_IndexI l A c hl v) ?_; rintro ⟨r, hr1, hr2, hr3⟩;refine k_ 6 ?_;refine rret (is := []) () (Or.inl rfl) (Res.t rfl Res.d) ?_ rfl Ω;simp [packV]; rw [Bool.eq_iff_iff]; simp [hr3]
theorem c_with (p : Patch) (y : Rp.Lay Patch) (hp : p.fit) (l : List Prim) (A : Option Addr) (c : Nat) (hl : l.length ≤ 2000000) (hf : ∀ x ∈ l, x.fit) : Con Tryz.prog 117 [sv p y, .slice A l.length c] [] [slA y.1.1 p.deps, slA y.2.1 p.l, capA y.2.2 p.l.length, slA A l] (Rp.Lay Patch) (fun y' => sv { p with l := l } y') (fun _ => []) (fun y' => [slA y'.1.1 p.deps, slA y'.2.1 l, capA y'.2.2 l.length]) := by
 refine con func117 rfl ntmps117 rfl ?_;intro M0 F0 w0;refine k_ 2 ?_;refine ls (o_box rfl rfl rfl) ?_;refine le ?_; intro b2;refine ls (o_alloc zeroValue63 rfl rfl) ?_;refine le ?_; intro b4;refine k_ 3 ?_;have hdl := hp.dl;refine k_ 4 ?_;refine ls (o_mk (0 : Int) () p.deps.length underlying61 inf3 rfl (by decide) (fun _ _ p hp => by cases hp) rfl rfl rfl rfl (by omega) (by omega) rfl) ?_;refine le ?_; intro b11;refine k_ 8 ?_;refine ls (o_cpy underlying61 Ψ rfl rfl (by simp) Θ Θ Ω rfl) ?_;rw [List.length_replicate];refine k_ 3 ?_;refine cmono (fun a w h => Go.Sx.freeze (i := 0) rfl h) ?_;refine cmono (fun a w h => nilRow (α := Prim) 103 h) ?_;refine k_ 17 ?_;refine cl (ι := {q : Nat × Option Addr × Nat // q.1 ≤ l.length}) (fun i => St M0 F0 w0 34 [(2, pT b2), (4, pT b4), (19, .slice A l.length c), (20, .int .i64 (l.length : Int)), (21, .int .i64 (i.1.1 : Int))] [row 103 (i.1.2.1) (i.1.2.2) (l.take i.1.1), box b2 63 [.int .i64 p.id, .string p.note, .slice (some ⟨b11, 0, none⟩) p.deps.length p.deps.length, .slice i.1.2.1 (l.take i.1.1).length i.1.2.2], box b4 63 (Rp.enc Patch.zero ((none, 0), (none, 0)))] [slA (some ⟨b11, 0, none⟩) p.deps, slA A l]) (fun i => l.length - i.1.1) ⟨(0, none, 0), Nat.zero_le _⟩ (wK [0, 1, 0]) ?_;rintro ⟨⟨k, A2, c2⟩, hk⟩;refine cmono (S' := St M0 F0 w0 34 [(2, pT b2), (4, pT b4), (19, .slice A l.length c), (20, .int .i64 (l.length : Int)), (21, .int .i64 (k : Int))] [row 103 (A2) (c2) (l.take k), box b2 63 [.int .i64 p.id, .string p.note, .slice (some ⟨b11, 0, none⟩) p.deps.length p.deps.length, .slice A2 (l.take k).length c2], box b4 63 (Rp.enc Patch.zero ((none, 0), (none, 0)))] [slA (some ⟨b11, 0, none⟩) p.deps, slA A l]) Ħ ?_;refine k_ 6 ?_;refine cc rfl ?_ ?_
 ·intro h22;dsimp only at hk;(try simp only [nrmZ] at h22);have hk1 : k < l.length := (by omega);refine k_ 5 ?_;refine elC Θ k (List.getElem?_eq_getElem (l := l) hk1) ?_; rintro zbp zop zyp hAp;refine cr ?_;refine ls (op (p_ia k hAp hk1 rfl underlying40 sizeOf103 rfl rfl) rfl) ?_;refine ls (o_ldj isAgg103 sizeOf103 rfl Θ 0 rfl Δ rfl) ?_;refine ls (o_alloc zeroValue103 rfl rfl) ?_;refine le ?_; intro b7;refine k_ 3 ?_;refine cd [3, 4, 5, 7] [(1, b2, 3, _), (2, b7, 0, _)] TryzX.mixed (tB 1 (tB 6 TOk.d)) ?_;refine u_ 0 3 ?_;refine df 3 Ψ ?_;refine doR rfl (o_call (is := []) call110 (c_primClone l[k] zyp (hf _ (List.getElem_mem hk1))) rfl rfl Ω rfl) (TOk.t (isBoxE fun _ => isBoxS Θ (k := 1) Δ) (TOk.x Ψ TOk.d)) ?_;refine ea ?_; intro y28;refine df 4 Ψ ?_;refine doR rfl (o_bsl [l[k]] underlying40 sizeOf103 zeroValue103 rfl (Enum.t Enum.d) (RV.t y28 rfl Ω RV.d) rfl (by decide) (by decide) rfl) (TOk.t (isBoxE fun _ => isBoxS Θ (k := 1) Δ) (TOk.x Ψ TOk.d)) ?_;refine ea ?_; intro b29;refine amono (fun a w h => Go.Sx.freeze (i := 0) rfl h) ?_;refine df 5 Ψ ?_;refine doR rfl (o_app (is := [1]) underlying40 inf103 rfl (by decide) (by decide) rfl rfl (by rw [List.length_take]; simp only [List.length_cons, List.length_nil]; omega) (fun h => by cases h) rfl Ω rfl) tX ?_;refine ea ?_; rintro ⟨A3, c3⟩;rw [← List.take_succ_eq_append_getElem hk1];refine u_ 6 1 ?_;refine df 7 Ψ ?_;refine doR rfl (o_st rfl sizeOf40 rfl rfl rfl rfl rfl Θ Θ Θ) tX ?_;refine dn Ψ ?_;refine k_ 6 ?_;refine nnext ⟨(k + 1, A3, c3), hk1⟩ (by dsimp only; omega) (wK [0, 1, 1])
 ·intro h22;dsimp only at hk;(try simp only [nrmZ] at h22);obtain rfl : k = l.length := (by omega);rw [List.take_length];refine k_ 6 ?_;refine cmono (fun a w h => freezeN (i := 0) rfl h) ?_;refine cr ?_;refine ls (o_ldw isAgg63 sizeOf63 rfl Θ (by rfl) rfl) ?_;refine k_ 5 ?_;refine rret (is := []) ((some ⟨b11, 0, none⟩, p.deps.length), (A2, c2)) (Or.inl rfl) (Res.c rfl isAgg63 sizeOf63 Θ (by rfl) Res.d) (rfl) rfl Ω
theorem c_nClone (p : Patch) (y : Rp.Lay Patch) (hp : p.fit) : Con Tryz.prog 66 [sv p y] [] [slA y.1.1 p.deps, slA y.2.1 p.l, capA y.2.2 p.l.length] (Rp.Lay Patch) (fun y' => sv p y') (fun _ => []) (fun y' => [slA y'.1.1 p.deps, slA y'.2.1 p.l, capA y'.2.2 p.l.length]) := by
 refine con func66 rfl ntmps66 rfl ?_;intro M0 F0 w0;refine k_ 2 ?_;refine ls (o_box rfl rfl rfl) ?_;refine le ?_; intro b1;refine ls (o_alloc zeroValue63 rfl rfl) ?_;refine le ?_; intro b2;refine k_ 4 ?_;refine ls (o_ldw isAgg63 sizeOf63 rfl Θ (by rfl) rfl) ?_;refine k_ 2 ?_;refine lC [] call117 (c_with p y hp p.l y.2.1 y.2.2 hp.ll hp.lf) ?_; intro y6;refine k_ 5 ?_;refine rret (is := []) y6 (Or.inl rfl) (Res.c rfl isAgg63 sizeOf63 Θ (by rfl) Res.d) (rfl) rfl Ω
theorem c_New7 (p : Patch) (y : Rp.Lay Patch) (hp : p.fit) : Con Tryz.prog 58 [sv p y] [] [slA y.1.1 p.deps, slA y.2.1 p.l, capA y.2.2 p.l.length] (Rp.Lay Patch) (fun y' => sv p y') (fun _ => []) (fun y' => [slA y'.1.1 p.deps, slA y'.2.1 p.l, capA y'.2.2 p.l.length]) := by
 refine con func58 rfl ntmps58 rfl ?_;intro M0 F0 w0;refine k_ 2 ?_;refine ls (o_box rfl rfl rfl) ?_;refine le ?_; intro b1;refine ls (o_alloc zeroValue63 rfl rfl) ?_;refine le ?_; intro b2;refine k_ 3 ?_;refine cd [8, 10] [(1, b1, 0, _), (3, b1, 1, _), (5, b1, 2, _), (7, b1, 3, _)] TryzX.mixed (tB 1 (tB 1 (tB 1 (tB 1 TOk.d)))) ?_;refine u_ 0 8 ?_;refine df 8 Ψ ?_;refine doR rfl (o_call (is := []) call17 (c_lNewC p.l y.2.1 y.2.2 hp.ll) rfl rfl Ω rfl) (TOk.t (isBoxE fun _ => isBoxS Θ (k := 1) Δ) (TOk.t (isBoxE fun _ => isBoxS Θ (k := 1) Δ) (TOk.t (isBoxE fun _ => isBoxS Θ (k := 1) Δ) (TOk.x Ψ TOk.d)))) ?_;refine ea ?_; intro y11;refine u_ 9 1 ?_;refine df 10 Ψ ?_;refine doR rfl (o_st rfl sizeOf63 rfl rfl rfl rfl rfl Θ Θ Θ) tX ?_;refine dn Ψ ?_;refine k_ 3 ?_;refine rret (is := []) (y.1, y11) (Or.inl rfl) (Res.c rfl isAgg63 sizeOf63 Θ (by rfl) Res.d) (rfl) rfl Ω
theorem c_Old7 (p : Patch) (y : Rp.Lay Patch) (hp : p.fit) : Con Tryz.prog 96 [sv p y] [] [slA y.1.1 p.deps, slA y.2.1 p.l, capA y.2.2 p.l.length] (Rp.Lay Patch) (fun y' => sv p y') (fun _ => []) (fun y' => [slA y'.1.1 p.deps, slA y'.2.1 p.l, capA y'.2.2 p.l.length]) := by
 refine con func96 rfl ntmps96 rfl ?_;intro M0 F0 w0;refine k_ 2 ?_;refine ls (o_box rfl rfl rfl) ?_;refine le ?_; intro b1;refine ls (o_alloc zeroValue99 rfl rfl) ?_;refine le ?_; intro b2;refine k_ 3 ?_;refine cd [8, 10] [(1, b1, 0, _), (3, b1, 1, _), (5, b1, 2, _), (7, b1, 3, _)] TryzX.mixed (tB 1 (tB 1 (tB 1 (tB 1 TOk.d)))) ?_;refine u_ 0 8 ?_;refine df 8 Ψ ?_;refine doR rfl (o_call (is := []) call37 (c_lOldC p.l y.2.1 y.2.2 hp.ll) rfl rfl Ω rfl) (TOk.t (isBoxE fun _ => isBoxS Θ (k := 1) Δ) (TOk.t (isBoxE fun _ => isBoxS Θ (k := 1) Δ) (TOk.t (isBoxE fun _ => isBoxS Θ (k := 1) Δ) (TOk.x Ψ TOk.d)))) ?_;refine ea ?_; intro y11;refine u_ 9 1 ?_;refine df 10 Ψ ?_;refine doR rfl (o_st rfl sizeOf99 rfl rfl rfl rfl rfl Θ Θ Θ) tX ?_;refine dn Ψ ?_;refine k_ 3 ?_;refine rret (is := []) (y.1, y11) (Or.inl rfl) (Res.c rfl isAgg99 sizeOf99 Θ (by rfl) Res.d) (rfl) rfl Ω
theorem c_Rows7 (l : List Patch) (A : Option Addr) (c : Nat) (hl : l.length ≤ 2000000) (hf : ∀ x ∈ l, x.fit) : Con Tryz.prog 16 [.slice A l.length c] [] [slA A l] (Option Addr × Nat) (fun y => .slice y.1 l.length y.2) (fun _ => []) (fun y => [slA y.1 l]) := by
 refine con func16 rfl ntmps16 rfl ?_;intro M0 F0 w0;refine k_ 12 ?_;refine cmono (fun a w h => nilRow (α := Patch) 63 h) ?_;refine k_ 7 ?_;refine cl (ι := {q : Nat × Option Addr × Nat // q.1 ≤ l.length}) (fun i => St M0 F0 w0 19 [(6, .slice A l.length c), (7, .int .i64 (l.length : Int)), (8, .int .i64 (i.1.1 : Int)), (3, .slice i.1.2.1 (l.take i.1.1).length i.1.2.2)] [row 63 (i.1.2.1) (i.1.2.2) (l.take i.1.1)] [slA A l]) (fun i => l.length - i.1.1) ⟨(0, none, 0), Nat.zero_le _⟩ (wk0 Φ Ω) ?_;rintro ⟨⟨k, A2, c2⟩, hk⟩;refine cmono (S' := St M0 F0 w0 19 [(6, .slice A l.length c), (7, .int .i64 (l.length : Int)), (8, .int .i64 (k : Int)), (3, .slice A2 (l.take k).length c2)] [row 63 (A2) (c2) (l.take k)] [slA A l]) Ħ ?_;refine k_ 6 ?_;refine cc rfl ?_ ?_
 ·intro h9;dsimp only at hk;(try simp only [nrmZ] at h9);have hk1 : k < l.length := (by omega);refine k_ 5 ?_;refine elC Θ k (List.getElem?_eq_getElem (l := l) hk1) ?_; rintro zbp zop zyp hAp;refine cr ?_;refine ls (op (p_ia k hAp hk1 rfl underlying23 sizeOf99 rfl rfl) rfl) ?_;refine ls (o_ldj isAgg99 sizeOf99 rfl Θ 0 rfl Δ rfl) ?_;refine ls (o_alloc zeroValue99 rfl rfl) ?_;refine le ?_; intro b5;refine k_ 5 ?_;refine ls (o_ldw isAgg99 sizeOf99 rfl Θ (by rfl) rfl) ?_;refine lC [] call58 (c_New7 l[k] zyp (hf _ (List.getElem_mem hk1))) ?_; intro y14;refine ls (o_bsl [l[k]] underlying38 sizeOf63 zeroValue63 rfl (Enum.t Enum.d) (RV.t y14 rfl Ω RV.d) rfl (by decide) (by decide) rfl) ?_;refine le ?_; intro b15;refine lmono (fun a w h => Go.Sx.freeze (i := 0) rfl h) ?_;refine ls (o_app (is := [1]) underlying38 inf63 rfl (by decide) (by decide) rfl rfl (by rw [List.length_take]; simp only [List.length_cons, List.length_nil]; omega) (fun h => by cases h) rfl Ω rfl) ?_;refine le ?_; rintro ⟨A3, c3⟩;rw [← List.take_succ_eq_append_getElem hk1];refine k_ 8 ?_;refine nnext ⟨(k + 1, A3, c3), hk1⟩ (by dsimp only; omega) (wK [0])
 ·intro h9;dsimp only at hk;(try simp only [nrmZ] at h9);obtain rfl : k = l.length := (by omega);rw [List.take_length];refine k_ 6 ?_;refine cmono (fun a w h => Go.Sx.freeze (i := 0) rfl h) ?_;refine k_ 7 ?_;exact rR [] (A2, c2)
theorem c_Olds7 (l : List Patch) (A : Option Addr) (c : Nat) (hl : l.length ≤ 2000000) (hf : ∀ x ∈ l, x.fit) : Con Tryz.prog 49 [.slice A l.length c] [] [slA A l] (Option Addr × Nat) (fun y => .slice y.1 l.length y.2) (fun _ => []) (fun y => [slA y.1 l]) := by
 refine con func49 rfl ntmps49 rfl ?_;intro M0 F0 w0;refine k_ 12 ?_;refine cmono (fun a w h => nilRow (α := Patch) 99 h) ?_;refine k_ 7 ?_;refine cl (ι := {q : Nat × Option Addr × Nat // q.1 ≤ l.length}) (fun i => St M0 F0 w0 19 [(6, .slice A l.length c), (7, .int .i64 (l.length : Int)), (8, .int .i64 (i.1.1 : Int)), (3, .slice i.1.2.1 (l.take i.1.1).length i.1.2.2)] [row 99 (i.1.2.1) (i.1.2.2) (l.take i.1.1)] [slA A l]) (fun i => l.length - i.1.1) ⟨(0, none, 0), Nat.zero_le _⟩ (wk0 Φ Ω) ?_;rintro ⟨⟨k, A2, c2⟩, hk⟩;refine cmono (S' := St M0 F0 w0 19 [(6, .slice A l.length c), (7, .int .i64 (l.length : Int)), (8, .int .i64 (k : Int)), (3, .slice A2 (l.take k).length c2)] [row 99 (A2) (c2) (l.take k)] [slA A l]) Ħ ?_;refine k_ 6 ?_;refine cc rfl ?_ ?_
 ·intro h9;dsimp only at hk;(try simp only [nrmZ] at h9);have hk1 : k < l.length := (by omega);refine k_ 5 ?_;refine elC Θ k (List.getElem?_eq_getElem (l := l) hk1) ?_; rintro zbp zop zyp hAp;refine cr ?_;refine ls (op (p_ia k hAp hk1 rfl underlying38 sizeOf63 rfl rfl) rfl) ?_;refine ls (o_ldj isAgg63 sizeOf63 rfl Θ 0 rfl Δ rfl) ?_;refine ls (o_alloc zeroValue63 rfl rfl) ?_;refine le ?_; intro b5;refine k_ 5 ?_;refine ls (o_ldw isAgg63 sizeOf63 rfl Θ (by rfl) rfl) ?_;refine lC [] call96 (c_Old7 l[k] zyp (hf _ (List.getElem_mem hk1))) ?_; intro y14;refine ls (o_bsl [l[k]] underlying23 sizeOf99 zeroValue99 rfl (Enum.t Enum.d) (RV.t y14 rfl Ω RV.d) rfl (by decide) (by decide) rfl) ?_;refine le ?_; intro b15;refine lmono (fun a w h => Go.Sx.freeze (i := 0) rfl h) ?_;refine ls (o_app (is := [1]) underlying23 inf99 rfl (by decide) (by decide) rfl rfl (by rw [List.length_take]; simp only [List.length_cons, List.length_nil]; omega) (fun h => by cases h) rfl Ω rfl) ?_;refine le ?_; rintro ⟨A3, c3⟩;rw [← List.take_succ_eq_append_getElem hk1];refine k_ 8 ?_;refine nnext ⟨(k + 1, A3, c3), hk1⟩ (by dsimp only; omega) (wK [0])
 ·intro h9;dsimp only at hk;(try simp only [nrmZ] at h9);obtain rfl : k = l.length := (by omega);rw [List.take_length];refine k_ 6 ?_;refine cmono (fun a w h => Go.Sx.freeze (i := 0) rfl h) ?_;refine k_ 7 ?_;exact rR [] (A2, c2)
end Go.Proofs.YtbhnolfcdcpbkaaGreatDoor.X
end
