/- OWN WORK: a part of the proof of a law of the seat YtbhnolfcdcpbkaaGreatDoor: the rules by which the code is walked, what the functions compute, and the walk through them. -/
import Derived.Test.YtbhnolfcdcpbkaaGreatDoorXGAD
import Derived.Test.YtbhnolfcdcpbkaaGreatDoorXGAB
import Derived.Test.YtbhnolfcdcpbkaaGreatDoorProg
import Derived.Test.YtbhnolfcdcpbkaaGreatDoorXGAA
import Derived.Deep.LoopGhost
import Derived.Test.YtbhnolfcdcpbkaaGreatDoorXGAC
set_option linter.unusedVariables false
set_option linter.unusedSimpArgs false
section
namespace Go.Sx
open Go Go.RowKit
theorem borrowZ {P : Program} {f : FuncId} {args : List Value} {Ξz Ξf : List Xsn} {Γi Γ' : List Asn} {X : Type} {rv : X → Value} {Ξo : X → List Xsn} {Γo : X → List Asn}
  (hfz : ∀ (M0 F0 : Nat → Prop) (w0 : World) (a : Act) (w : World), St M0 F0 w0 ⟨0, []⟩ [] Ξz Γi a w → St M0 F0 w0 ⟨0, []⟩ [] [] Γ' a w)
  (h : Con P f args Ξf Γ' X rv Ξo Γo) (hfree : ∀ x, (∀ z ∈ Ξo x, ∀ F M M' w, z.p F M w → z.p F M' w) ∧ Γo x = []) : Con P f args (Ξz ++ Ξf) Γi X rv (fun x => Ξz ++ Ξo x) Γo := by
 intro M0 Fs w hh;obtain ⟨Gs, Hs, rfl, k1, k2⟩ := all2.split hh.ex;obtain ⟨d1, d2, d3⟩ := List.pairwise_append.1 hh.dis;have hown : ∀ b, own (Gs ++ Hs) b ↔ own Gs b ∨ own Hs b := fun b => own_append;have hsep : ∀ b, own Gs b → ¬ own Hs b := fun b ⟨G, hG, hg⟩ ⟨H, hH, hb⟩ => d3 G hG H hH b hg hb;have hsl : Slots ⟨0, []⟩ [] { tmps := #[], defers := [] } := ⟨rfl, rfl, fun t v h => by cases h⟩;have hM : ∀ b, b < w.heap.size → ((M0 b ∨ own Hs b) ∨ own Gs b) → (M0 b ∨ own (Gs ++ Hs) b) := fun b _ hm => by
  rcases hm with (hm | hm) | hm
  ·exact .inl hm
  ·exact .inr ((hown b).2 (.inr hm))
  ·exact .inr ((hown b).2 (.inl hm))
 have hin : Hp (fun b => M0 b ∨ own Hs b) (own Gs) w Ξz Γi Gs w := ⟨k1.st (fun _ _ _ => rfl) hM (Nat.le_refl _), d1, fun b hb hm => hm.elim (hh.dis0 b ((hown b).2 (.inl hb))) (hsep b hb), fun b hb => hh.lt b ((hown b).2 (.inl hb)), fun b hb _ => hb,
  fun p hp => p.st _ _ w w (hh.ga p hp) (fun _ _ _ => rfl) hM (Nat.le_refl _), Upd.refl _ _, fun b hb => hb.elim (hh.m0 b) (fun hb => hh.lt b ((hown b).2 (.inr hb))), fun b hb hm => hm.elim (hh.dis0 b ((hown b).2 (.inl hb))) (hsep b hb)⟩
 obtain ⟨_, Fs', h1⟩ := hfz _ (own Gs) w _ w (⟨hsl, Gs, hin⟩ : St _ (own Gs) w ⟨0, []⟩ [] Ξz Γi { tmps := #[], defers := [] } w);have hnil : Fs' = [] := by
  cases Fs' with
  | nil => rfl
  | cons G Gs => exact h1.ex.elim
 subst hnil;have hin2 : Hp M0 (own Hs) w Ξf Γ' Hs w := ⟨k2.st (fun _ _ _ => rfl) (fun b _ hb => hb.imp id fun hb => (hown b).2 (.inr hb)) (Nat.le_refl _), d2, fun b hb => hh.dis0 b ((hown b).2 (.inr hb)), fun b hb => hh.lt b ((hown b).2 (.inr hb)), fun b hb _ => hb,
  fun p hp => p.st _ _ w w (h1.ga p hp) (fun _ _ _ => rfl) (fun b _ hb => .inl hb) (Nat.le_refl _), Upd.refl _ _, hh.m0, fun b hb => hh.dis0 b ((hown b).2 (.inr hb))⟩
 refine (h M0 Hs w hin2).mono ?_;rintro en w' ⟨x, Ks, rfl, hout⟩;obtain ⟨hfr, hgo⟩ := hfree x;have hGlt : ∀ b, own Gs b → b < w.heap.size := fun b hb => hh.lt b ((hown b).2 (.inl hb));have hGK : ∀ b, own Gs b → ¬ own Ks b := fun b hb hk => hsep b hb (hout.old b hk (hGlt b hb));refine ⟨x, Gs ++ Ks, rfl, ?_⟩;dsimp only;rw [hgo];refine ⟨all2.append ?_ ?_, List.pairwise_append.2 ⟨d1, hout.dis, fun G hG K hK b hb hk => hGK b ⟨G, hG, hb⟩ ⟨K, hK, hk⟩⟩, ?_, ?_, ?_, (fun p hp => by cases hp),
  ⟨hout.up.os, hout.up.tape, hout.up.output, hout.up.size, fun b hb hn => hout.up.block b hb (fun h => hn ((hown b).2 (.inr h)))⟩, hh.m0, hh.f0⟩
 ·refine k1.st (fun b hb hF => hout.up.block b hb (fun hH => ?_)) (fun b hb hm => ?_) hout.up.size
  ·rcases hF with hF | hF
   ·exact hsep b hF hH
   ·exact hF (.inr ((hown b).2 (.inr hH)))
  ·rcases hm with hm | hm
   ·exact .inl hm
   ·rcases own_append.1 hm with hm | hm
    ·exact .inr ((hown b).2 (.inl hm))
    ·exact .inr ((hown b).2 (.inr (hout.old b hm hb)))
 ·have : ∀ {Ξ : List Xsn} {Gs : List (Nat → Prop)} {M M' : Nat → Prop}, (∀ z ∈ Ξ, ∀ F M M' w, z.p F M w → z.p F M' w) → all2 M w' Ξ Gs → all2 M' w' Ξ Gs := by
   intro Ξ
   induction Ξ with
   | nil =>
    intro Gs M M' _ h;cases Gs with
    | nil => trivial
    | cons _ _ => exact h.elim
   | cons z Ξ ih =>
    intro Gs M M' hz h;cases Gs with
    | nil => exact h.elim
    | cons G Gs => exact ⟨hz z (by simp) _ _ _ _ h.1, ih (fun z' h' => hz z' (by simp [h'])) h.2⟩
  exact this hfr hout.ex
 ·intro b hb;rcases own_append.1 hb with hb | hb
  ·exact hh.dis0 b ((hown b).2 (.inl hb))
  ·exact hout.dis0 b hb
 ·intro b hb;rcases own_append.1 hb with hb | hb
  ·exact Nat.lt_of_lt_of_le (hGlt b hb) hout.up.size
  ·exact hout.lt b hb
 ·intro b hb hl;rcases own_append.1 hb with hb | hb
  ·exact (hown b).2 (.inl hb)
  ·exact (hown b).2 (.inr (hout.old b hb hl))
theorem RowE.last {α : Type} [Rp α] {M : Nat → Prop} {w : World} {l : List α} {x : α} {xs : List Value} (h : RowE M w (l ++ [x]) xs) : ∃ xs0 y, xs = xs0 ++ Rp.enc x y ∧ RowE M w l xs0 ∧ ∀ p ∈ Rp.asn x y, p.p M w := by
 generalize e : l ++ [x] = L at h;cases h with
 | nil => simp at e
 | snoc y h ha =>
  obtain ⟨rfl, e2⟩ := List.append_inj' e rfl;have e3 : x = _ := (List.cons.inj e2).1;subst e3;exact ⟨_, y, rfl, h, ha⟩
end Go.Sx
namespace Go.Proofs.YtbhnolfcdcpbkaaGreatDoor.X
open Go Go.RowKit Go.Proofs Go.Sx
/-! A log whose last patch's row is one's own. -/
structure PatchQ where
 p : Patch
 own : Option (Option Addr × Nat)
instance instRpPatchQ : Rp PatchQ where
 Lay := (Option Addr × Nat) × (Option Addr × Nat)
 size := 4
 enc q y := [.int .i64 q.p.id, .string q.p.note, .slice y.1.1 q.p.deps.length y.1.2, .slice (q.own.getD y.2).1 q.p.l.length (q.own.getD y.2).2]
 len _ _ := rfl
 one _ _ v hv := by
  simp only [List.mem_cons, List.mem_nil_iff, or_false] at hv;rcases hv with rfl | rfl | rfl | rfl <;> rfl
 asn q y := match q.own with
  | none => [slA y.1.1 q.p.deps, slA y.2.1 q.p.l, capA y.2.2 q.p.l.length]
  | some _ => [slA y.1.1 q.p.deps]
def frz (q : Patch) : PatchQ := ⟨q, none⟩
def ownQ (q : Patch) (h : Option Addr × Nat) : PatchQ := ⟨q, some h⟩
theorem frz_rowE {M : Nat → Prop} {w : World} : ∀ {l : List Patch} {xs : List Value}, RowE M w l xs → RowE M w (l.map frz) xs
 | _, _, .nil => .nil
 | _, _, .snoc y h ha => by rw [List.map_append]; exact RowE.snoc (α := PatchQ) (x := frz _) y (frz_rowE h) ha
theorem snoc_cases {α : Type} (l : List α) : l = [] ∨ ∃ m q, l = m ++ [q] := by
 rcases List.eq_nil_or_concat l with h | ⟨m, q, h⟩
 ·exact .inl h
 ·exact .inr ⟨m, q, by rw [h]; simp⟩
theorem unfrz_rowE {M : Nat → Prop} {w : World} : ∀ (n : Nat) {l : List Patch} {xs : List Value}, l.length = n → RowE M w (l.map frz) xs → RowE M w l xs
 | 0, l, xs, hn, h => by
  obtain rfl := List.eq_nil_of_length_eq_zero hn;generalize e : List.map frz [] = L at h;cases h with
  | nil => exact .nil
  | snoc y h ha => simp at e
 | n + 1, l, xs, hn, h => by
  rcases snoc_cases l with rfl | ⟨m, q, rfl⟩
  ·simp at hn
  ·rw [List.map_append] at h;obtain ⟨xs0, y, rfl, h1, h2⟩ := RowE.last h;exact .snoc (x := q) y (unfrz_rowE n (by simpa using hn) h1) h2
theorem row_frz {e : TypeId} {A : Option Addr} {c : Nat} {l : List Patch} {F M : Nat → Prop} {w : World} : (row e A c l).p F M w ↔ (row e A c (l.map frz)).p F M w := by
 constructor
 ·rintro ⟨xs, h1, h2, h3⟩;refine ⟨xs, ?_, ?_, frz_rowE h3⟩
  ·rw [List.length_map]; exact h1
  ·rw [List.length_map]; exact h2
 ·rintro ⟨xs, h1, h2, h3⟩;rw [List.length_map] at h1 h2;exact ⟨xs, h1, h2, unfrz_rowE _ rfl h3⟩
section
variable {ro : Option Nat} {P : Program} {M0 F0 : Nat → Prop} {w0 : World} {n : Nm} {σ : List (Nat × Value)} {Ξ : List Xsn} {Γ : List Asn}
theorem St.unQ {e : TypeId} {A : Option Addr} {c i : Nat} {l : List Patch} {Ξ' : List Xsn} {a : Act} {w : World} (hi : takeAt i Ξ = some (row e A c (l.map frz), Ξ')) (h : St M0 F0 w0 n σ Ξ Γ a w) : St M0 F0 w0 n σ (row e A c l :: Ξ') Γ a w := by
 obtain ⟨hs, Fs, hh⟩ := Sx.St.front hi h;obtain ⟨Fs', h1⟩ := hh.conv fun F M w hp => ⟨F, fun _ h => h, row_frz.2 hp⟩
 exact ⟨hs, Fs', h1⟩
theorem St.slQ {A : Option Addr} {l : List Patch} (hg : In (slA A l) Γ) {a : Act} {w : World} (h : St M0 F0 w0 n σ Ξ Γ a w) : St M0 F0 w0 n σ Ξ (slA A (l.map frz) :: Γ) a w := by
 obtain ⟨hs, Fs, hh⟩ := h;refine ⟨hs, Fs, { hh with ga := fun p hp => ?_ }⟩;rcases List.mem_cons.1 hp with rfl | hp
 ·intro j x hj;rw [List.getElem?_map] at hj;cases e : l[j]? with
  | none => rw [e] at hj; cases hj
  | some q =>
   rw [e] at hj;obtain rfl : frz q = x := by simpa using hj
   exact hh.ga _ hg.mem j q e
 ·exact hh.ga p hp
def fzq (l : List Patch) (h : Option Addr × Nat) : List PatchQ := l.dropLast.map frz ++ (match l.getLast? with | some q => [ownQ q h] | none => [])
def oX (tp : TypeId) (l : List Patch) (h : Option Addr × Nat) : Xsn := match l.getLast? with
 | some q => row tp h.1 h.2 q.l
 | none => bunX []
theorem fzq_snoc (l : List Patch) (q : Patch) (h : Option Addr × Nat) : fzq (l ++ [q]) h = l.map frz ++ [ownQ q h] := by unfold fzq; simp
theorem oX_snoc (tp : TypeId) (l : List Patch) (q : Patch) (h : Option Addr × Nat) : oX tp (l ++ [q]) h = row tp h.1 h.2 q.l := by unfold oX; simp
theorem fzq_len (l : List Patch) (h : Option Addr × Nat) : (fzq l h).length = l.length := by
 rcases snoc_cases l with rfl | ⟨m, q, rfl⟩
 ·rfl
 ·rw [fzq_snoc]; simp
theorem St.fzQ {e tp : TypeId} {A : Option Addr} {c : Nat} {l : List Patch} {h : Option Addr × Nat} {a : Act} {w : World} (hS : St M0 F0 w0 n σ (row e A c (fzq l h) :: oX tp l h :: Ξ) Γ a w) : St M0 F0 w0 n σ (row e A c (l.map frz) :: Ξ) Γ a w := by
 rcases snoc_cases l with rfl | ⟨m, q, rfl⟩
 ·obtain ⟨hs, Fs, hh⟩ := hS
  match Fs, hh with
  | [], hh => exact hh.ex.elim
  | [_], hh => exact hh.ex.2.elim
  | F :: G :: Fs, hh =>
   obtain ⟨d0, hd⟩ := List.pairwise_cons.1 hh.dis;obtain ⟨d1, d2⟩ := List.pairwise_cons.1 hd;obtain ⟨Gs, g1, g2, g3⟩ := hh.ex.2.1;have hG : ∀ b, ¬ G b := fun b hb => by
    cases Gs with
    | nil => exact own_nil b ((g3 b).1 hb)
    | cons _ _ => exact g1.elim
   refine ⟨hs, F :: Fs, hh.repart (fun b => ?_) ⟨hh.ex.1, hh.ex.2.2⟩ (List.pairwise_cons.2 ⟨fun K hK => d0 K (by simp [hK]), d2⟩)⟩;rw [own_cons, own_cons, own_cons];exact ⟨fun h => h.imp id .inr, fun h => h.imp id fun h => h.elim (fun h => absurd h (hG b)) id⟩
 ·rw [fzq_snoc, oX_snoc] at hS;have h1 := freezeN (i := 1) rfl hS;obtain ⟨hs, Fs, hh⟩ := h1;have g1 := hh.ga (slA h.1 q.l) (by simp);have g2 := hh.ga (capA h.2 q.l.length) (by simp);obtain ⟨Fs', h2⟩ := hh.conv1 (x' := row e A c ((m ++ [q]).map frz)) (fun F hp => ⟨F, fun _ h => h, by
   obtain ⟨xs, k1, k2, k3⟩ := hp;obtain ⟨xs0, y, rfl, k4, k5⟩ := RowE.last k3;have el : (m.map frz ++ [ownQ q h]).length = ((m ++ [q]).map frz).length := by simp
   refine ⟨_, by rw [← el]; exact k1, by rw [← el]; exact k2, ?_⟩;rw [List.map_append];refine RowE.snoc (α := PatchQ) (x := frz q) (y.1, h) k4 (fun p hp => ?_);have hp' : p = slA y.1.1 q.deps ∨ p = slA h.1 q.l ∨ p = capA h.2 q.l.length := by simpa [Rp.asn, frz] using hp
   rcases hp' with rfl | rfl | rfl
   ·exact k5 _ (by simp [Rp.asn, ownQ])
   ·exact g1
   ·exact g2⟩)
  exact wk0 (subσ.refl _) (Sx.Sub.mk fun p hp => by simp [hp]) a w ⟨hs, Fs', h2⟩
theorem St.fzL {e tp : TypeId} {A : Option Addr} {c : Nat} {l : List Patch} {h : Option Addr × Nat} {a : Act} {w : World} (hS : St M0 F0 w0 n σ (row e A c (fzq l h) :: oX tp l h :: Ξ) Γ a w) : St M0 F0 w0 n σ (row e A c l :: Ξ) Γ a w := St.unQ (i := 0) rfl (St.fzQ hS)
end
end Go.Proofs.YtbhnolfcdcpbkaaGreatDoor.X
end
section
namespace Go.Proofs.YtbhnolfcdcpbkaaGreatDoor.X
set_option maxRecDepth 100000
open Go Go.RowKit Go.Proofs Go.Sx
open Tryz
attribute [local irreducible] slA isA box row TrL TrC TrN TrA Pu OpR
set_option maxHeartbeats 8000000
theorem c_withL (p : Patch) (y : Rp.Lay Patch) (hp : p.fit) (l : List Prim) (A : Option Addr) (c : Nat) (hl : l.length ≤ 2000000) (hf : ∀ x ∈ l, x.fit) : Con Tryz.prog 117 [sv p y, .slice A l.length c] [] [slA y.1.1 p.deps, slA y.2.1 p.l, capA y.2.2 p.l.length, slA A l] (Rp.Lay Patch) (fun y' => sv { p with l := l } y') (fun y' => [row 103 y'.2.1 y'.2.2 l]) (fun y' => [slA y'.1.1 p.deps]) := by
 refine con func117 rfl ntmps117 rfl ?_;intro M0 F0 w0;refine k_ 2 ?_;refine ls (o_box rfl rfl rfl) ?_;refine le ?_; intro b2;refine ls (o_alloc zeroValue63 rfl rfl) ?_;refine le ?_; intro b4;refine k_ 3 ?_;have hdl := hp.dl;refine k_ 4 ?_;refine ls (o_mk (0 : Int) () p.deps.length underlying61 inf3 rfl (by decide) (fun _ _ p hp => by cases hp) rfl rfl rfl rfl (by omega) (by omega) rfl) ?_;refine le ?_; intro b11;refine k_ 8 ?_;refine ls (o_cpy underlying61 Ψ rfl rfl (by simp) Θ Θ Ω rfl) ?_;rw [List.length_replicate];refine k_ 3 ?_;refine cmono (fun a w h => Go.Sx.freeze (i := 0) rfl h) ?_;refine cmono (fun a w h => nilRow (α := Prim) 103 h) ?_;refine k_ 17 ?_;refine cl (ι := {q : Nat × Option Addr × Nat // q.1 ≤ l.length}) (fun i => St M0 F0 w0 34 [(2, pT b2), (4, pT b4), (19, .slice A l.length c), (20, .int .i64 (l.length : Int)), (21, .int .i64 (i.1.1 : Int))] [row 103 (i.1.2.1) (i.1.2.2) (l.take i.1.1), box b2 63 [.int .i64 p.id, .string p.note, .slice (some ⟨b11, 0, none⟩) p.deps.length p.deps.length, .slice i.1.2.1 (l.take i.1.1).length i.1.2.2], box b4 63 (Rp.enc Patch.zero ((none, 0), (none, 0)))] [slA (some ⟨b11, 0, none⟩) p.deps, slA A l]) (fun i => l.length - i.1.1) ⟨(0, none, 0), Nat.zero_le _⟩ (wK [0, 1, 0]) ?_;rintro ⟨⟨k, A2, c2⟩, hk⟩;refine cmono (S' := St M0 F0 w0 34 [(2, pT b2), (4, pT b4), (19, .slice A l.length c), (20, .int .i64 (l.length : Int)), (21, .int .i64 (k : Int))] [row 103 (A2) (c2) (l.take k), box b2 63 [.int .i64 p.id, .string p.note, .slice (some ⟨b11, 0, none⟩) p.deps.length p.deps.length, .slice A2 (l.take k).length c2], box b4 63 (Rp.enc Patch.zero ((none, 0), (none, 0)))] [slA (some ⟨b11, 0, none⟩) p.deps, slA A l]) Ħ ?_;refine k_ 6 ?_;refine cc rfl ?_ ?_
 ·intro h22;dsimp only at hk;(try simp only [nrmZ] at h22);have hk1 : k < l.length := (by omega);refine k_ 5 ?_;refine elC Θ k (List.getElem?_eq_getElem (l := l) hk1) ?_; rintro zbp zop zyp hAp;refine cr ?_;refine ls (op (p_ia k hAp hk1 rfl underlying40 sizeOf103 rfl rfl) rfl) ?_;refine ls (o_ldj isAgg103 sizeOf103 rfl Θ 0 rfl Δ rfl) ?_;refine ls (o_alloc zeroValue103 rfl rfl) ?_;refine le ?_; intro b7;refine k_ 3 ?_;refine cd [3, 4, 5, 7] [(1, b2, 3, _), (2, b7, 0, _)] TryzX.mixed (tB 1 (tB 6 TOk.d)) ?_;refine u_ 0 3 ?_;refine df 3 Ψ ?_;refine doR rfl (o_call (is := []) call110 (c_primClone l[k] zyp (hf _ (List.getElem_mem hk1))) rfl rfl Ω rfl) (TOk.t (isBoxE fun _ => isBoxS Θ (k := 1) Δ) (TOk.x Ψ TOk.d)) ?_;refine ea ?_; intro y28;refine df 4 Ψ ?_;refine doR rfl (o_bsl [l[k]] underlying40 sizeOf103 zeroValue103 rfl (Enum.t Enum.d) (RV.t y28 rfl Ω RV.d) rfl (by decide) (by decide) rfl) (TOk.t (isBoxE fun _ => isBoxS Θ (k := 1) Δ) (TOk.x Ψ TOk.d)) ?_;refine ea ?_; intro b29;refine amono (fun a w h => Go.Sx.freeze (i := 0) rfl h) ?_;refine df 5 Ψ ?_;refine doR rfl (o_app (is := [1]) underlying40 inf103 rfl (by decide) (by decide) rfl rfl (by rw [List.length_take]; simp only [List.length_cons, List.length_nil]; omega) (fun h => by cases h) rfl Ω rfl) tX ?_;refine ea ?_; rintro ⟨A3, c3⟩;rw [← List.take_succ_eq_append_getElem hk1];refine u_ 6 1 ?_;refine df 7 Ψ ?_;refine doR rfl (o_st rfl sizeOf40 rfl rfl rfl rfl rfl Θ Θ Θ) tX ?_;refine dn Ψ ?_;refine k_ 6 ?_;refine nnext ⟨(k + 1, A3, c3), hk1⟩ (by dsimp only; omega) (wK [0, 1, 1])
 ·intro h22;dsimp only at hk;(try simp only [nrmZ] at h22);obtain rfl : k = l.length := (by omega);rw [List.take_length];refine k_ 7 ?_;refine ls (o_ldw isAgg63 sizeOf63 rfl Θ (by rfl) rfl) ?_;refine k_ 5 ?_;refine rret (is := [0]) ((some ⟨b11, 0, none⟩, p.deps.length), (A2, c2)) (Or.inl rfl) (Res.c rfl isAgg63 sizeOf63 Θ (by rfl) Res.d) (rfl) rfl Ω
theorem c_nCloneL (p : Patch) (y : Rp.Lay Patch) (hp : p.fit) : Con Tryz.prog 66 [sv p y] [] [slA y.1.1 p.deps, slA y.2.1 p.l, capA y.2.2 p.l.length] (Rp.Lay Patch) (fun y' => sv p y') (fun y' => [row 103 y'.2.1 y'.2.2 p.l]) (fun y' => [slA y'.1.1 p.deps]) := by
 refine con func66 rfl ntmps66 rfl ?_;intro M0 F0 w0;refine k_ 2 ?_;refine ls (o_box rfl rfl rfl) ?_;refine le ?_; intro b1;refine ls (o_alloc zeroValue63 rfl rfl) ?_;refine le ?_; intro b2;refine k_ 4 ?_;refine ls (o_ldw isAgg63 sizeOf63 rfl Θ (by rfl) rfl) ?_;refine k_ 2 ?_;refine lC [] call117 (c_withL p y hp p.l y.2.1 y.2.2 hp.ll hp.lf) ?_; intro y6;refine k_ 5 ?_;refine rret (is := [0]) y6 (Or.inl rfl) (Res.c rfl isAgg63 sizeOf63 Θ (by rfl) Res.d) (rfl) rfl Ω
theorem c_nSwapS (p q : Patch) (yp yq : Rp.Lay Patch) (hp : p.fit) (hq : q.fit) : Con Tryz.prog 168 [sv p yp, sv q yq] [] [slA yp.1.1 p.deps, slA yp.2.1 p.l, capA yp.2.2 p.l.length, slA yq.1.1 q.deps, slA yq.2.1 q.l, capA yq.2.2 q.l.length] (PTwo (pswap p q)) (fun x => x.v) (fun x => [row 103 x.1.2.2.2.1 x.1.2.2.2.2 x.1.1.2.1.l]) (fun x => [slA x.1.2.1.1.1 x.1.1.1.deps, slA x.1.2.1.2.1 x.1.1.1.l, capA x.1.2.1.2.2 x.1.1.1.l.length, slA x.1.2.2.1.1 x.1.1.2.1.deps]) := by
 refine con func168 rfl ntmps168 rfl ?_;intro M0 F0 w0;refine k_ 2 ?_;refine ls (o_box rfl rfl rfl) ?_;refine le ?_; intro b2;refine ls (o_box rfl rfl rfl) ?_;refine le ?_; intro b3;refine ls (o_alloc zeroValue63 rfl rfl) ?_;refine le ?_; intro b4;refine ls (o_alloc zeroValue63 rfl rfl) ?_;refine le ?_; intro b5;refine k_ 6 ?_;refine ls (o_ldw isAgg63 sizeOf63 rfl Θ (by rfl) rfl) ?_;refine lC [] call105 (c_nRight p yp hp) ?_; intro x10;refine k_ 2 ?_;refine orX 4 12 16 rfl (sL [0, 1, 2, 3, 4, 5, 6]) ?_ ?_
 ·intro h12;refine k_ 4 ?_;refine ln (nmid (wk0 Φ Ω))
 apply exI
 ·intro h12;refine lwant rfl rfl rfl rfl (o_ldw isAgg63 sizeOf63 rfl Θ (by rfl) rfl) ?_;refine lwant rfl rfl rfl rfl (o_call (is := []) call105 (c_nRight q yq hq) rfl rfl Ω rfl) ?_;refine le ?_; intro x14;refine k_ 2 ?_;refine ln (nmid (wk0 Φ Ω))
 ·
  refine k_ 1 ?_;refine orX 6 17 23 rfl (sL [0, 1, 2, 3, 4, 5, 6]) ?_ ?_
  ·intro h17;refine k_ 6 ?_;refine ln (nmid (wk0 Φ Ω))
  apply exI
  ·intro h17;refine k_ 6 ?_;refine ln (nmid (wk0 Φ Ω))
  ·
   refine k_ 1 ?_;refine orX 6 24 30 rfl (sL [0, 1, 2, 3, 4, 5, 6]) ?_ ?_
   ·intro h24;refine k_ 6 ?_;refine ln (nmid (wk0 Φ Ω))
   apply exI
   ·intro h24;refine k_ 4 ?_;refine lwant rfl rfl rfl rfl (o_call (is := []) call218 (c_ContainsI q.deps _ _ hq.dl p.id) rfl rfl Ω rfl) ?_;refine le ?_; intro x29;refine k_ 1 ?_;refine ln (nmid (wk0 Φ Ω))
   ·
    refine k_ 1 ?_;refine orX 6 31 37 rfl (sL [0, 1, 2, 3, 4, 5, 6]) ?_ ?_
    ·intro h31;refine k_ 6 ?_;refine ln (nmid (wk0 Φ Ω))
    apply exI
    ·intro h31;refine k_ 4 ?_;refine lwant rfl rfl rfl rfl (o_call (is := []) call218 (c_ContainsI p.deps _ _ hp.dl q.id) rfl rfl Ω rfl) ?_;refine le ?_; intro x36;refine k_ 1 ?_;refine ln (nmid (wk0 Φ Ω))
    ·
     refine k_ 2 ?_;refine cc rfl ?_ ?_
     ·intro h37;(try simp only [nrmZ] at h37);refine cs ?_;refine cmono (fun a w h => nilC (α := Prim) h) ?_;refine cmono (fun a w h => nilSl (α := Int) h) ?_;refine cmono (fun a w h => nilRow (α := Prim) 103 h) ?_;refine k_ 10 ?_;refine rret (is := [0]) ⟨((Patch.zero, Patch.zero, false), (((none, 0), (none, 0)), ((none, 0), (none, 0)))), by rw [may_t h37]⟩ (Or.inl rfl) (Res.c rfl isAgg63 sizeOf63 Θ (by rfl) (Res.c rfl isAgg63 sizeOf63 Θ (by rfl) (Res.t rfl Res.d))) (rfl) rfl Ω
     ·intro h37;(try simp only [nrmZ] at h37);refine k_ 8 ?_;refine lC [] call170 (c_seqSwap p.l q.l _ _ _ _ hp.ll hq.ll hp.lf hq.lf) ?_; rintro ⟨⟨⟨f, s, b3⟩, ⟨ya, yb⟩⟩, hr⟩;dsimp only at hr;refine k_ 16 ?_;refine cc rfl ?_ ?_
      ·intro h50;obtain rfl : false = b3 := (by cases b3 <;> first | rfl | (simp at h50))
       refine cs ?_;refine cmono (fun a w h => nilC (α := Prim) h) ?_;refine cmono (fun a w h => nilSl (α := Int) h) ?_;refine cmono (fun a w h => nilRow (α := Prim) 103 h) ?_;refine k_ 10 ?_;refine rret (is := [0]) ⟨((Patch.zero, Patch.zero, false), (((none, 0), (none, 0)), ((none, 0), (none, 0)))), by rw [pswap_f hr]⟩ (Or.inl rfl) (Res.c rfl isAgg63 sizeOf63 Θ (by rfl) (Res.c rfl isAgg63 sizeOf63 Θ (by rfl) (Res.t rfl Res.d))) (rfl) rfl Ω
      ·intro h50;obtain rfl : true = b3 := (by cases b3 <;> first | rfl | (simp at h50))
       have hok := swT_ok hr hp.lf hq.lf;have hfl := hok.1; have hsl := hok.2.1; have hpl := hp.ll; have hql := hq.ll;refine k_ 3 ?_;refine cd [2, 5, 6, 7] [(0, b3, 0, _), (3, b2, 0, _)] TryzX.mixed (tB 4 (tB 4 TOk.d)) ?_;refine u_ 0 2 ?_;refine u_ 3 2 ?_;refine df 2 Ψ ?_;refine doR rfl (o_call (is := []) call117 (c_with q yq hq f ya.1 ya.2 (by omega) hok.2.2.1) rfl rfl Ω rfl) (TOk.x Ψ (TOk.t (isBoxE fun _ => isBoxS Θ (k := 4) Δ) TOk.d)) ?_;refine ea ?_; intro y55;refine df 5 Ψ ?_;refine doR rfl (o_call (is := []) call117 (c_withL p yp hp s yb.1 yb.2 (by omega) hok.2.2.2) rfl rfl Ω rfl) tX ?_;refine ea ?_; intro y58;refine df 6 Ψ ?_;refine doR rfl (o_st rfl sizeOf63 rfl rfl rfl rfl rfl Θ Θ Θ) tX ?_;refine df 7 Ψ ?_;refine doR rfl (o_st rfl sizeOf63 rfl rfl rfl rfl rfl Θ Θ Θ) tX ?_;refine u_ 8 1 ?_;refine dn Ψ ?_;refine k_ 3 ?_;refine rret (is := [0]) ⟨(({ q with l := f }, { p with l := s }, true), (y55, y58)), by rw [pswap_t (may_f h37) hr]⟩ (Or.inl rfl) (Res.c rfl isAgg63 sizeOf63 Θ (by rfl) (Res.c rfl isAgg63 sizeOf63 Θ (by rfl) (Res.t rfl Res.d))) (rfl) rfl Ω
theorem c_BackwardW1 (l : List Prim) (A : Option Addr) (c : Nat) (hl : l.length ≤ 2000000) (B : Nat) : Iter Tryz.prog 201 [pT B] (fun x : {x : Nat × Rp.Lay Prim // x.1 < l.length} => [.int .i64 (x.1.1 : Int), sv (l[x.1.1]'x.2) x.1.2]) (fun x => Rp.asn (l[x.1.1]'x.2) x.1.2) (fun pre x => x.1.1 + pre.length + 1 = l.length) (fun xs => xs.length = l.length) [box B 40 [.slice A l.length c], row 103 A c l] [] := by
 intro lp J Jx hY;refine con func201 rfl ntmps201 rfl ?_;intro M0 F0 w0;refine k_ 9 ?_;refine cl (ι := {q : List {x : Nat × Rp.Lay Prim // x.1 < l.length} × Int // q.1.length ≤ l.length ∧ q.2 = (l.length : Int) - 1 - (q.1.length : Int)}) (fun i => St M0 F0 w0 19 [(0, .func (.yield lp) #[] #[]), (1, pT B), (3, .int .i64 i.1.2)] [J i.1.1, box B 40 [.slice A l.length c], row 103 A c l] []) (fun i => l.length - (i.1.1).length) ⟨([], (l.length : Int) - 1), Nat.zero_le _, by simp⟩ (wk0 Φ Ω) ?_;rintro ⟨⟨pre, z⟩, hpre, hz⟩;refine cmono (S' := St M0 F0 w0 19 [(0, .func (.yield lp) #[] #[]), (1, pT B), (3, .int .i64 z)] [J pre, box B 40 [.slice A l.length c], row 103 A c l] []) Ħ ?_;refine k_ 7 ?_;refine cc rfl ?_ ?_
 ·intro h8;dsimp only at hpre hz;(try simp only [nrmZ] at h8);have hk1 : l.length - 1 - pre.length < l.length := (by omega);refine k_ 5 ?_;refine rowC (α := Prim) (A := A) (l := l) Θ (List.ne_nil_of_length_pos (by omega)) ?_;rintro g0 rfl;refine k_ 5 ?_;refine ls (op (p_ia (l.length - 1 - pre.length) rfl hk1 (by omega) underlying40 sizeOf103 rfl rfl) rfl) ?_;refine ls (o_ldrow isAgg103 sizeOf103 rfl Θ (List.getElem?_eq_getElem hk1) rfl) ?_;refine le ?_; intro zyp;refine ls (o_yield (i := 0) rfl (by have := hY pre ⟨(l.length - 1 - pre.length, zyp), hk1⟩ (by dsimp only; omega); dsimp only at this; rw [show ((l.length - 1 - pre.length : Nat) : Int) = z by omega] at this; exact this) rfl rfl Ω rfl) ?_;refine le ?_; intro bb;refine k_ 3 ?_;refine cc rfl ?_ ?_
  ·intro h18;obtain rfl : false = bb := (by cases bb <;> first | rfl | (simp at h18))
   refine k_ 2 ?_;exact rR [0, 0, 0] ⟨none, fun _ h => by cases h⟩
  ·intro h18;obtain rfl : true = bb := (by cases bb <;> first | rfl | (simp at h18))
   refine k_ 8 ?_;refine nnext ⟨(pre ++ [⟨(l.length - 1 - pre.length, zyp), hk1⟩], z - 1), by simp; omega, by simp; omega⟩ (by simp; omega) (wK [0, 0, 0])
 ·intro h8;dsimp only at hpre hz;(try simp only [nrmZ] at h8);refine k_ 4 ?_;exact rR [0, 0, 0] ⟨some pre, fun xs h => by cases h; omega⟩
theorem c_seqInvertW (l : List Prim) (A : Option Addr) (c : Nat) (hl : l.length ≤ 2000000) (hf : ∀ x ∈ l, x.fit) : Con Tryz.prog 91 [.slice A l.length c] [row 103 A c l] [] (Option Addr × Nat) (fun y => .slice y.1 (invL l).length y.2) (fun y => [row 103 y.1 y.2 (invL l), row 103 A c l]) (fun _ => []) := by
 refine con func91 rfl ntmps91 rfl ?_;intro M0 F0 w0;refine k_ 7 ?_;refine ls (o_alloc zeroValue40 rfl rfl) ?_;refine le ?_; intro b3;refine k_ 4 ?_;refine cmono (fun a w h => nilRow (α := Prim) 103 h) ?_;refine k_ 2 ?_;refine lC [] call147 (c_Backward l A c) ?_; intro b7;refine k_ 3 ?_;refine crng (ι := fun pre => Option Addr × Nat) rfl call201 (c_BackwardW1 l A c hl b7) (fun _ => rfl) rfl (fun pre i => [box b3 40 [.slice i.1 (invP l pre.length).length i.2], row 103 i.1 i.2 (invP l pre.length)]) (fun pre i => []) ((none, 0)) (Y := Empty) (fun _ => []) (fun _ => []) (is := [2, 1, 0, 0]) rfl Ω Ω ?_ ?_ ?_
 ·
  rintro M0 F0 w0 lp κ pre ⟨⟨k, yk⟩, hk⟩ hx ⟨A2, c2⟩;dsimp only at hk hx ⊢;have hfk := hf _ (List.getElem_mem hk);have hpl := invP_len l (show pre.length ≤ l.length by omega);refine cmono (S' := St M0 F0 w0 ⟨16, []⟩ [(3, pT b3), (9, sv l[k] yk)] [lrec lp κ .ready none, box b3 40 [.slice A2 (invP l pre.length).length c2], row 103 A2 c2 (invP l pre.length)] [slA yk.1.1 l[k].old, slA yk.2.1 l[k].new]) (wk0 Φ Ω) ?_;refine cr ?_;refine ls (o_alloc zeroValue103 rfl rfl) ?_;refine le ?_; intro b5;refine k_ 2 ?_;refine nbegin (i := 1) rfl ?_;refine cb ?_;refine cd [2, 3, 4, 5] [(0, b3, 0, _), (1, b5, 0, _)] TryzX.mixed (tB 1 (tB 6 TOk.d)) ?_;refine u_ 0 2 ?_;refine df 2 Ψ ?_;refine doR rfl (o_call (is := []) call148 (c_primInvert l[k] yk hfk) rfl rfl Ω rfl) (TOk.t (isBoxE fun _ => isBoxS Θ (k := 1) Δ) (TOk.x Ψ TOk.d)) ?_;refine ea ?_; rintro ⟨⟨q1, z1⟩, hz1⟩;obtain rfl : q1 = l[k].flip := hz1;refine df 3 Ψ ?_;refine doR rfl (o_bsl [l[k].flip] underlying40 sizeOf103 zeroValue103 rfl (Enum.t Enum.d) (RV.t z1 rfl Ω RV.d) rfl (by decide) (by decide) rfl) (TOk.t (isBoxE fun _ => isBoxS Θ (k := 1) Δ) (TOk.x Ψ TOk.d)) ?_;refine ea ?_; intro b13;refine amono (fun a w h => Go.Sx.freeze (i := 0) rfl h) ?_;refine df 4 Ψ ?_;refine doR rfl (o_app (is := [3]) underlying40 inf103 rfl (by decide) (by decide) rfl rfl (by rw [hpl]; simp only [List.length_cons, List.length_nil]; omega) (fun h => by cases h) rfl Ω rfl) tX ?_;refine ea ?_; rintro ⟨A3, c3⟩;refine df 5 Ψ ?_;refine doR rfl (o_st rfl sizeOf40 rfl rfl rfl rfl rfl Θ Θ Θ) tX ?_;refine dn Ψ ?_;refine k_ 1 ?_;rw [← invP_step hx];exact nround (A3, c3) (is := [1, 2, 0]) (by rw [List.length_append]; rfl) Ω
 ·
  rintro D xs hC ⟨A2, c2⟩;rw [hC, invP_all];refine k_ 10 ?_;refine rretm (Dfr.c (i := 4) rfl Dfr.d) (is := [1, 2]) (A2, c2) (Or.inl rfl) (Res.t rfl Res.d) (rfl) rfl Ω
 ·
  intro D y;exact y.elim
theorem c_logAllQ (l : List Patch) (A : Option Addr) (c : Nat) (hl : l.length ≤ 2000000) (hf : ∀ q ∈ l, q.fit) (pl p : Nat) : Con Tryz.prog 23 [pT pl] [box pl 124 [.slice A l.length c, pT p], row 63 A c l] [] ((Option Addr × Nat) × (Option Addr × Nat)) (fun y => .slice y.1.1 l.length y.1.2) (fun y => [row 63 y.1.1 y.1.2 (fzq l y.2), oX 103 (l) (y.2), box pl 124 [.slice A l.length c, pT p], row 63 A c l]) (fun _ => []) := by
 refine con func23 rfl ntmps23 rfl ?_;intro M0 F0 w0;refine k_ 6 ?_;refine cmono (fun a w h => nilRow (α := PatchQ) 63 h) ?_;refine cmono (fun a w h => St.nobun h) ?_;refine k_ 8 ?_;refine ls (op (p_nilck rfl) rfl) ?_;refine k_ 7 ?_;refine cl (ι := {q : Nat × (Option Addr × Nat) × (Option Addr × Nat) // q.1 ≤ l.length}) (fun i => St M0 F0 w0 22 [(3, .slice i.1.2.1.1 (fzq (l.take i.1.1) (i.1.2.2)).length i.1.2.1.2), (9, .slice A l.length c), (10, .int .i64 (l.length : Int)), (11, .int .i64 ((i.1.1 : Nat) : Int))] [row 63 (i.1.2.1.1) (i.1.2.1.2) (fzq (l.take i.1.1) (i.1.2.2)), oX 103 (l.take i.1.1) (i.1.2.2), box pl 124 [.slice A l.length c, pT p], row 63 A c l] []) (fun i => l.length - i.1.1) ⟨(0, (none, 0), (none, 0)), Nat.zero_le _⟩ (wK [1, 0, 0, 0]) ?_;rintro ⟨⟨k, ⟨A3, c3⟩, h3⟩, hk⟩;refine cmono (S' := St M0 F0 w0 22 [(3, .slice A3 (fzq (l.take k) (h3)).length c3), (9, .slice A l.length c), (10, .int .i64 (l.length : Int)), (11, .int .i64 ((k : Nat) : Int))] [row 63 (A3) (c3) (fzq (l.take k) (h3)), oX 103 (l.take k) (h3), box pl 124 [.slice A l.length c, pT p], row 63 A c l] []) Ħ ?_;refine k_ 6 ?_;refine cc rfl ?_ ?_
 ·intro h12;dsimp only at hk;(try simp only [nrmZ] at h12);have hk1 : k < l.length := (by omega);refine k_ 5 ?_;refine cmono (fun a w h => St.fzQ h) ?_;refine rowC (α := Patch) (A := A) (l := l) Θ (List.ne_nil_of_length_pos (by omega)) ?_;rintro g0 rfl;refine cr ?_;refine ls (op (p_ia k rfl hk1 rfl underlying38 sizeOf63 rfl rfl) rfl) ?_;refine ls (o_ldrow isAgg63 sizeOf63 rfl Θ (List.getElem?_eq_getElem hk1) rfl) ?_;refine le ?_; intro zyp;refine ls (o_alloc zeroValue63 rfl rfl) ?_;refine le ?_; intro b5;refine k_ 5 ?_;refine fixL (slen (m' := ((l.take k).map frz).length) (by rw [fzq_len, List.length_map])) ?_;refine ls (o_ldw isAgg63 sizeOf63 rfl Θ (by rfl) rfl) ?_;refine lC [] call66 (c_nCloneL l[k] zyp (hf _ (List.getElem_mem hk1))) ?_; intro y17;refine ls (o_bsl [ownQ l[k] y17.2] underlying38 sizeOf63 zeroValue63 rfl (Enum.t Enum.d) (RV.t y17 rfl Ω RV.d) rfl (by decide) (by decide) rfl) ?_;refine le ?_; intro b18;refine lmono (fun a w h => Go.Sx.freeze (i := 0) rfl h) ?_;refine ls (o_appX (i := 2) underlying38 inf63 rfl (by decide) (by decide) rfl rfl (by simp only [List.length_map, List.length_take, List.length_cons, List.length_nil]; omega) rfl Ω rfl) ?_;refine le ?_; rintro ⟨A19, c19⟩;rw [← fzq_snoc, ← List.take_succ_eq_append_getElem hk1];refine k_ 8 ?_;refine nnext ⟨(k + 1, (A19, c19), y17.2), hk1⟩ (by dsimp only; omega) (fun a w h => by dsimp only; rw [show oX 103 (l.take (k + 1)) y17.2 = row 103 y17.2.1 y17.2.2 l[k].l by rw [List.take_succ_eq_append_getElem hk1, oX_snoc]]; exact wL [0, 0, 1, 1] h)
 ·intro h12;dsimp only at hk;(try simp only [nrmZ] at h12);obtain rfl : k = l.length := (by omega);rw [List.take_length];refine k_ 13 ?_;refine rret (is := [0, 0, 0, 0]) ((A3, c3), h3) (Or.inl rfl) (Res.t rfl Res.d) ?_ rfl Ω;exact slen (fzq_len _ _)
theorem c_logCopyQ (l : List Patch) (A : Option Addr) (c : Nat) (hl : l.length ≤ 2000000) (hf : ∀ q ∈ l, q.fit) (pl p b : Nat) (T : List File) : Con Tryz.prog 65 [pT pl] [box pl 124 [.slice A l.length c, pT p], row 63 A c l, box p 139 [.map (some b)], tr b T] [] (((Option Addr × Nat) × (Option Addr × Nat)) × (Nat × Nat × Nat)) (fun y => pT y.2.1) (fun y => [box y.2.1 124 [.slice y.1.1.1 l.length y.1.1.2, pT y.2.2.1], row 63 y.1.1.1 y.1.1.2 (fzq l y.1.2), oX 103 (l) (y.1.2), box y.2.2.1 139 [.map (some y.2.2.2)], tr y.2.2.2 T, box pl 124 [.slice A l.length c, pT p], row 63 A c l, box p 139 [.map (some b)], tr b T]) (fun _ => []) := by
 refine con func65 rfl ntmps65 rfl ?_;intro M0 F0 w0;refine k_ 8 ?_;refine lC [0, 0] call23 (c_logAllQ l A c hl hf pl p) ?_; rintro ⟨⟨A4, c4⟩, h4⟩;refine k_ 1 ?_;refine lC [2, 3, 3] call88 (c_logTree pl p b T (.slice A l.length c)) ?_; rintro ⟨p6, b6⟩;refine k_ 1 ?_;refine ls (o_box rfl rfl rfl) ?_;refine le ?_; intro b8;refine k_ 5 ?_;exact rR [0, 5, 5, 0, 0, 0, 2, 0, 0] (((A4, c4), h4), (b8, p6, b6))
theorem flq_snoc {α : Type} {ls : List (List α)} {k : Nat} (h : k < ls.length) : (ls.take (k + 1)).flatten = (ls.take k).flatten ++ ls[k] := by
 rw [List.take_succ_eq_append_getElem h, List.flatten_append]; simp
theorem flq_take {α : Type} {ls : List (List α)} {k : Nat} (h : k < ls.length) : (ls.take (k + 1)).flatten.length = (ls.take k).flatten.length + ls[k].length := by
 rw [flq_snoc h, List.length_append]
theorem flq_le {α : Type} (ls : List (List α)) (k : Nat) : (ls.take k).flatten.length ≤ ls.flatten.length := by
 conv => rhs; rw [← List.take_append_drop k ls, List.flatten_append, List.length_append]
 omega
theorem fzL_Z {e tp : TypeId} {A : Option Addr} {c : Nat} {l : List Patch} {h : Option Addr × Nat} (M0 F0 : Nat → Prop) (w0 : World) (a : Act) (w : World) (hS : St M0 F0 w0 ⟨0, []⟩ [] [row e A c (fzq l h), oX tp l h] [] a w) : St M0 F0 w0 ⟨0, []⟩ [] [] [slA A l] a w := Sx.freeze (i := 0) rfl (St.fzL hS)
theorem emk {k n : Nat} (h : k < n) : k + 1 = n ∨ k + 1 < n := by omega
theorem fzq_last {l : List Patch} {k : Nat} (hl : k + 1 = l.length) (hk : k < l.length) (h : Option Addr × Nat) : (fzq l h)[k]? = some (ownQ (l[k]'hk) h) := by
 rcases snoc_cases l with rfl | ⟨m, q, rfl⟩
 ·simp at hk
 ·have e : k = m.length := by simp at hl; omega
  subst e;rw [fzq_snoc];simp
theorem oX_last {tp : TypeId} {l : List Patch} {k : Nat} {h : Option Addr × Nat} (hl : k + 1 = l.length) (hk : k < l.length) : oX tp l h = row tp h.1 h.2 (l[k]'hk).l := by
 rcases snoc_cases l with rfl | ⟨m, q, rfl⟩
 ·simp at hk
 ·have e : k = m.length := by simp at hl; omega
  subst e;rw [oX_snoc];simp
theorem fzq_take {l : List Patch} {k : Nat} (hl : k + 1 = l.length) (h : Option Addr × Nat) : (fzq l h).take k = (l.take k).map frz := by
 rcases snoc_cases l with rfl | ⟨m, q, rfl⟩
 ·simp at hl
 ·have e : k = m.length := by simp at hl; omega
  subst e;rw [fzq_snoc];simp
theorem fl_last {l : List Patch} {k : Nat} {h : Option Addr × Nat} (hl : k + 1 = l.length) (hk : k < l.length) : [(l.take k).map frz, [], [ownQ (l[k]'hk) h]].flatten = fzq l h := by
 rcases snoc_cases l with rfl | ⟨m, q, rfl⟩
 ·simp at hk
 ·have e : k = m.length := by simp at hl; omega
  subst e;rw [fzq_snoc];simp
theorem fl_more {a s : List Patch} {b : Patch} {h : Option Addr × Nat} : [a.map frz, s.map frz, [ownQ b h]].flatten = fzq (a ++ s ++ [b]) h := by
 rw [fzq_snoc]; simp
theorem lastP_last {l : List Patch} {v : Int} {k : Nat} (hl : k + 1 = l.length) (hk : k < l.length) (h : atP l v = (k : Int)) : lastP l v = (l, 0) := by
 rw [lastP_some (s := []) (b := l[k]) hk h (by rw [List.drop_of_length_le (by omega)]; rfl)]
 congr 1
 rw [List.append_nil, ← List.take_succ_eq_append_getElem hk, List.take_of_length_le (by omega)]
def lX (tp : TypeId) (z : Bool) (b : Patch) (y : Rp.Lay Patch) : Xsn := match z with
 | true => bunX []
 | false => row tp y.2.1 y.2.2 b.l
theorem lX_at {tp : TypeId} {z : Bool} {b : Patch} {y : Rp.Lay Patch} (h : z = false) : lX tp z b y = row tp y.2.1 y.2.2 b.l := by rw [h]; rfl
theorem lX_own {tp : TypeId} {k : Nat} {b : Patch} {y : Rp.Lay Patch} : lX tp (decide (k + 1 = 0)) b y = row tp y.2.1 y.2.2 b.l := lX_at (decide_eq_false (by omega))
theorem St.lXfz {M0 F0 : Nat → Prop} {w0 : World} {n : Nm} {σ : List (Nat × Value)} {Ξ Ξ' : List Xsn} {Γ : List Asn} {tp : TypeId} {z : Bool} {b : Patch} {y : Rp.Lay Patch} {i : Nat} (hi : takeAt i Ξ = some (lX tp z b y, Ξ')) (hz : z = true → In (slA y.2.1 b.l) Γ ∧ In (capA y.2.2 b.l.length) Γ) {a : Act} {w : World}
  (h : St M0 F0 w0 n σ Ξ Γ a w) : St M0 F0 w0 n σ Ξ' (slA y.2.1 b.l :: capA y.2.2 b.l.length :: Γ) a w := by
 cases z with
 | false =>
  obtain ⟨hs, Fs, hh⟩ := freezeN hi h;refine ⟨hs, Fs, { hh with ga := fun p hp => ?_ }⟩;rcases List.mem_cons.1 hp with rfl | hp
  ·exact hh.ga _ (by simp)
  rcases List.mem_cons.1 hp with rfl | hp
  ·exact hh.ga _ (by simp)
  ·exact hh.ga _ (by simp [hp])
 | true =>
  obtain ⟨g1, g2⟩ := hz rfl;obtain ⟨hs, Fs, hh⟩ := St.unbun (xs := []) hi h;refine ⟨hs, Fs, { hh with ga := fun p hp => ?_ }⟩;rcases List.mem_cons.1 hp with rfl | hp
  ·exact hh.ga _ g1.mem
  rcases List.mem_cons.1 hp with rfl | hp
  ·exact hh.ga _ g2.mem
  ·exact hh.ga _ hp
theorem c_growQ (k : Nat) (hk : k ≤ 2000000) : Con Tryz.prog 225 [.slice none 0 0, .int .i64 (k : Int)] [] [] (Option Addr × Nat) (fun y => .slice y.1 0 y.2) (fun y => [row 63 y.1 y.2 ([] : List PatchQ)]) (fun _ => []) := by
 refine con func225 rfl ntmps225 rfl ?_;intro M0 F0 w0;refine k_ 10 ?_;refine fixL (congrArg Value.bool (decide_eq_false (by omega))) ?_;refine k_ 2 ?_;refine cc rfl (fun h => by cases h) (fun h => ?_);refine k_ 7 ?_;refine ls (op (p_cap rfl underlying38) rfl) ?_;refine k_ 13 ?_;refine cc rfl ?_ ?_
 ·intro h16;have hk0 : 0 < k := (by have h := h16; simp at h; omega);refine k_ 3 ?_;refine ls (op (p_cap rfl underlying38) rfl) ?_;refine ls (op (p_slh 0 (Nat.zero_le _) rfl underlying38 sizeOf63 rfl rfl) rfl) ?_;refine fixL (v' := .slice none 0 0) rfl ?_;refine k_ 1 ?_;refine ls (o_appZ (frz Patch.zero) ((none, 0), (none, 0)) k underlying38 underlying3 inf63 rfl (by decide) (by decide) (fun M w p hp => by simp only [Rp.asn, frz, List.mem_cons, List.mem_nil_iff, or_false] at hp; rcases hp with rfl | rfl | rfl <;> first | exact slA_none M w | exact Nat.le_refl 0) hk0 (by omega) (by simp) rfl rfl rfl) ?_
  refine le ?_; rintro ⟨g22, c22, hc22⟩;refine lmono (fun a w h => rowTk (α := PatchQ) (l := List.replicate k (frz Patch.zero)) 0 (Nat.zero_le _) Θ Θ h) ?_;refine k_ 2 ?_;refine ls (op (p_slh 0 (Nat.zero_le _) rfl underlying38 sizeOf63 rfl rfl) rfl) ?_;refine fixL slh_val ?_;refine k_ 11 ?_;exact rR [0] (some ⟨g22, 0, none⟩, c22)
 ·intro h16;have hk0 : k = 0 := (by have h := h16; simp at h; omega);refine k_ 3 ?_;refine cmono (fun a w h => nilRow (α := PatchQ) 63 h) ?_;refine k_ 7 ?_;exact rR [0] (none, 0)
theorem c_concatQ (rs : List (List PatchQ)) (B : Option Addr) (c' : Nat) (hls : rs.length ≤ 2000000) (ht : rs.flatten.length ≤ 2000000) : Con Tryz.prog 179 [.slice B rs.length c'] [] [slA B rs] (Option Addr × Nat) (fun y => .slice y.1 rs.flatten.length y.2) (fun y => [row 63 y.1 y.2 rs.flatten]) (fun _ => []) := by
 refine con func179 rfl ntmps179 rfl ?_;intro M0 F0 w0;refine k_ 19 ?_;refine cl (ι := {q : Nat × Int // q.1 ≤ rs.length ∧ q.2 = (((rs.take q.1).flatten.length : Nat) : Int)}) (fun i => St M0 F0 w0 36 [(0, .slice B rs.length c'), (3, .int .i64 i.1.2), (9, .slice B rs.length c'), (10, .int .i64 (rs.length : Int)), (11, .int .i64 ((i.1.1 : Nat) : Int))] [] [slA B rs]) (fun i => rs.length - i.1.1) ⟨(0, 0), Nat.zero_le _, rfl⟩ (wk0 Φ Ω) ?_;rintro ⟨⟨k, n⟩, hk, hn⟩;refine cmono (S' := St M0 F0 w0 36 [(0, .slice B rs.length c'), (3, .int .i64 n), (9, .slice B rs.length c'), (10, .int .i64 (rs.length : Int)), (11, .int .i64 ((k : Nat) : Int))] [] [slA B rs]) Ħ ?_;refine k_ 6 ?_;refine cc rfl ?_ ?_
 ·intro h12;dsimp only at hk hn;(try simp only [nrmZ] at h12);have hk1 : k < rs.length := (by omega);have ht1 := flq_take hk1;have ht2 := flq_le rs (k + 1);refine k_ 5 ?_;refine elC Θ k (List.getElem?_eq_getElem (l := rs) hk1) ?_; rintro zbp zop zyp hAp;refine cr ?_;refine ls (op (p_ia k hAp hk1 rfl underlying242 sizeOf38 rfl rfl) rfl) ?_;refine ls (o_ldi isAgg38 rfl Θ 0 rfl Δ rfl) ?_;refine k_ 16 ?_;refine fixL (congrArg Value.bool (decide_eq_false (by omega))) ?_;refine k_ 2 ?_;refine cc rfl (fun h => by cases h) (fun h => ?_);refine k_ 7 ?_;refine nnext ⟨(k + 1, n + (rs[k].length : Int)), hk1, by dsimp only; omega⟩ (by dsimp only; omega) (wK [])
 ·intro h12;dsimp only at hk hn;(try simp only [nrmZ] at h12);obtain rfl : k = rs.length := (by omega);rw [List.take_length] at hn;refine k_ 8 ?_;refine fixL (congrArg (Value.int .i64) hn) ?_;refine lC [] call225 (c_growQ rs.flatten.length ht) ?_; rintro ⟨A24, c24⟩;refine k_ 12 ?_;refine cl (ι := {q : Nat × (Option Addr × Nat) // q.1 ≤ rs.length}) (fun i => St M0 F0 w0 36 [(0, .slice B rs.length c'), (6, .slice i.1.2.1 (rs.take i.1.1).flatten.length i.1.2.2), (25, .slice B rs.length c'), (26, .int .i64 (rs.length : Int)), (27, .int .i64 ((i.1.1 : Nat) : Int))] [row 63 (i.1.2.1) (i.1.2.2) (rs.take i.1.1).flatten] [slA B rs]) (fun i => rs.length - i.1.1) ⟨(0, (A24, c24)), Nat.zero_le _⟩ (wk0 Φ Ω) ?_;rintro ⟨⟨k, ⟨A6, c6⟩⟩, hk⟩;refine cmono (S' := St M0 F0 w0 36 [(0, .slice B rs.length c'), (6, .slice A6 (rs.take k).flatten.length c6), (25, .slice B rs.length c'), (26, .int .i64 (rs.length : Int)), (27, .int .i64 ((k : Nat) : Int))] [row 63 (A6) (c6) (rs.take k).flatten] [slA B rs]) Ħ ?_;refine k_ 6 ?_;refine cc rfl ?_ ?_
  ·intro h28;dsimp only at hk;(try simp only [nrmZ] at h28);have hk1 : k < rs.length := (by omega);have ht1 := flq_take hk1;have ht2 := flq_le rs (k + 1);refine k_ 5 ?_;refine elC Θ k (List.getElem?_eq_getElem (l := rs) hk1) ?_; rintro zbp zop zyp hAp;refine cr ?_;refine ls (op (p_ia k hAp hk1 rfl underlying242 sizeOf38 rfl rfl) rfl) ?_;refine ls (o_ldi isAgg38 rfl Θ 0 rfl Δ rfl) ?_;refine k_ 6 ?_;refine ls (o_appX (i := 0) underlying38 inf63 rfl (by decide) (by decide) rfl rfl (by omega) rfl Ω rfl) ?_;refine le ?_; rintro ⟨A33, c33⟩;refine k_ 8 ?_;refine nnext ⟨(k + 1, (A33, c33)), hk1⟩ (by dsimp only; omega) (fun a w h => by dsimp only; rw [flq_snoc hk1]; exact wL [0] h)
  ·intro h28;dsimp only at hk;(try simp only [nrmZ] at h28);obtain rfl : k = rs.length := (by omega);rw [List.take_length];refine k_ 13 ?_;exact rR [0] (A6, c6)
theorem c_logPutQ (rs : List (List PatchQ)) (B : Option Addr) (c' : Nat) (hls : rs.length ≤ 2000000) (ht : rs.flatten.length ≤ 2000000) (pl p : Nat) (s0 : Value) : Con Tryz.prog 130 [pT pl, .slice B rs.length c'] [box pl 124 [s0, pT p]] [slA B rs] (Option Addr × Nat) (fun _ => .tuple #[]) (fun y => [box pl 124 [.slice y.1 rs.flatten.length y.2, pT p], row 63 y.1 y.2 rs.flatten]) (fun _ => []) := by
 refine con func130 rfl ntmps130 rfl ?_;intro M0 F0 w0;refine k_ 3 ?_;refine lC [] call179 (c_concatQ rs B c' hls ht) ?_; rintro ⟨A6, c6⟩;refine ls (op (p_nilck rfl) rfl) ?_;refine k_ 3 ?_;exact rR [1, 0] (A6, c6)
theorem c_logAtQ (l : List Patch) (A : Option Addr) (c : Nat) (hl : l.length ≤ 2000000) (h : Option Addr × Nat) (pl p : Nat) (v : Int) : Con Tryz.prog 68 [pT pl, .int .i64 v] [row 63 A c (fzq l h), oX 103 (l) (h), box pl 124 [.slice A l.length c, pT p]] [] Unit (fun _ => .int .i64 (atP l v)) (fun _ => [row 63 A c (fzq l h), oX 103 (l) (h)] ++ [box pl 124 [.slice A l.length c, pT p]]) (fun _ => []) :=
 borrowZ (Ξz := [row 63 A c (fzq l h), oX 103 (l) (h)]) fzL_Z (c_logAtO l A c hl pl p v) (fun _ => ⟨fun z hz => by rw [List.mem_singleton.1 hz]; exact box_free, rfl⟩)
theorem c_logLastQ (l : List Patch) (A : Option Addr) (c : Nat) (hl : l.length ≤ 2000000) (hq0 : Option Addr × Nat) (hf : ∀ q ∈ l, q.fit) (hc : l.length ≤ c) (hA : A = none → c = 0) (pl p : Nat) (v : Int) : Con Tryz.prog 121 [pT pl, .int .i64 v] [row 63 A c (fzq l hq0), oX 103 (l) (hq0), box pl 124 [.slice A l.length c, pT p]] [] {x : (List Patch × Int) × ((Option Addr × Nat) × (Option Addr × Nat)) // x.1 = lastP l v} (fun x => .int .i64 x.1.1.2) (fun x => if x.1.1.2 = 0 then [row 63 x.1.2.1.1 x.1.2.1.2 (fzq x.1.1.1 x.1.2.2), oX 103 (x.1.1.1) (x.1.2.2), box pl 124 [.slice x.1.2.1.1 x.1.1.1.length x.1.2.1.2, pT p]] else []) (fun _ => []) := by
 refine con func121 rfl ntmps121 rfl ?_;intro M0 F0 w0;refine k_ 9 ?_;refine lC [0, 0, 0] call68 (c_logAtQ l A c hl hq0 pl p v) ?_; intro x15;refine k_ 10 ?_;refine cc rfl ?_ ?_
 ·intro h17;have hn : atP l v < 0 := of_decide_eq_true h17;refine k_ 7 ?_;exact rR [] ⟨((l, 81), ((none, 0), (none, 0))), (lastP_no hn).symm⟩
 ·intro h17;have hn : ¬ atP l v < 0 := of_decide_eq_false h17;obtain ⟨k, hk1, hk2, _⟩ : ∃ k : Nat, ∃ h : k < l.length, atP l v = (k : Int) ∧ l[k].id = v ∧ ∀ j (hj : j < k), l[j].id ≠ v := (by rcases atP_cases l v with ⟨h, _⟩ | h; omega; exact h);have hfk := hf _ (List.getElem_mem hk1);have hDl : (l.drop (k + 1)).length = l.length - (k + 1) := List.length_drop;have hfD : ∀ q ∈ (l.drop (k + 1)), q.fit := fun q hq => hf q (List.mem_of_mem_drop hq);refine k_ 3 ?_;rcases emk hk1 with hlast | hmore
  ·
   have hfq := fzq_last hlast hk1 hq0;rw [oX_last hlast hk1];refine rowC (α := PatchQ) (A := A) (l := fzq l hq0) Θ (List.ne_nil_of_length_pos (by rw [fzq_len]; omega)) ?_; rintro g0 rfl;refine k_ 2 ?_;refine ls (op (p_nilck rfl) rfl) ?_;refine k_ 3 ?_;refine ls (op (p_ia k rfl hk1 hk2 underlying38 sizeOf63 rfl rfl) rfl) ?_;refine ls (o_ldrow isAgg63 sizeOf63 rfl Θ hfq rfl) ?_;refine le ?_; intro y24;refine ls (o_alloc zeroValue63 rfl rfl) ?_;refine le ?_; intro b6;refine k_ 4 ?_;refine cmono (fun a w h => nilRow (α := PatchQ) 63 h) ?_;refine k_ 8 ?_;refine ls (op (p_nilck rfl) rfl) ?_;refine k_ 4 ?_;refine ls (op (p_sll (k + 1) (by omega) (by omega) (by omega) underlying38 sizeOf63 rfl rfl) rfl) ?_;refine fixL (slen (m' := 0) (by omega)) ?_;refine k_ 5 ?_;refine cl (ι := Unit) (fun i => St M0 F0 w0 64 [(0, pT pl), (5, .int .i64 (atP l v)), (6, pT b6), (7, .slice none 0 0), (32, .int .i64 0), (33, .int .i64 0)] [row 63 none 0 ([] : List PatchQ), box b6 63 (Rp.enc (ownQ l[k] hq0) y24), row 63 (some ⟨g0, 0, none⟩) c (fzq l hq0), row 103 hq0.1 hq0.2 l[k].l, box pl 124 [.slice (some ⟨g0, 0, none⟩) l.length c, pT p]] [slA y24.1.1 l[k].deps]) (fun i => 0) () (wK [0, 0, 0, 0, 0]) ?_;rintro ⟨⟩;refine cmono (S' := St M0 F0 w0 64 [(0, pT pl), (5, .int .i64 (atP l v)), (6, pT b6), (7, .slice none 0 0), (32, .int .i64 0), (33, .int .i64 0)] [row 63 none 0 ([] : List PatchQ), box b6 63 (Rp.enc (ownQ l[k] hq0) y24), row 63 (some ⟨g0, 0, none⟩) c (fzq l hq0), row 103 hq0.1 hq0.2 l[k].l, box pl 124 [.slice (some ⟨g0, 0, none⟩) l.length c, pT p]] [slA y24.1.1 l[k].deps]) Ħ ?_;refine k_ 6 ?_;refine cc rfl ?_ ?_
   ·intro h34;exact absurd h34 (by decide)
   ·intro h34
    skip
    refine k_ 6 ?_;refine cmono (fun a w h => freezeN (i := 2) rfl h) ?_;refine cmono (fun a w h => freezeN (i := 0) rfl h) ?_;refine cmono (fun a w h => subS (l := fzq l hq0) (l' := (l.take k).map frz) (c := c) 0 k (by repeat (first | exact In.z | apply In.s)) (by omega) (by rw [fzq_len]; omega) (by rw [fzq_len]; exact hc) (by rw [List.drop_zero, Nat.sub_zero]; exact fzq_take hlast hq0) h) ?_;refine cmono (fun a w h => nilQ (y := ((if c = 0 then (some ⟨g0, 0, none⟩ : Option Addr) else (some ⟨g0, 0, none⟩ : Option Addr).map (·.add (0 * Rp.size PatchQ))), c - 0)) (fun e => sub_nil hA e) h) ?_;refine cmono (fun a w h => capQ (c := c - 0) (m := ((l.take k).map frz).length) (by rw [List.length_map, List.length_take]; omega) h) ?_;refine cd [9, 10, 11] [(4, pl, 0, _), (8, b6, 0, _)] TryzX.mixed (tB 1 (tB 4 TOk.d)) ?_;refine u_ 0 2 ?_;refine tk 2 rfl Ψ Υ gnone (TTany _) (p_nilck rfl) rfl ?_;refine u_ 3 3 ?_;refine tk 6 rfl Ψ Υ gnone (TTany _) (p_slh k (by omega) hk2 underlying38 sizeOf63 rfl rfl) rfl ?_;refine fixA (slen (m' := ((l.take k).map frz).length) (by rw [List.length_map, List.length_take]; omega)) ?_;refine u_ 7 2 ?_;refine df 9 Ψ ?_;refine doR rfl (o_bsl [ownQ l[k] hq0] underlying38 sizeOf63 zeroValue63 rfl (Enum.t Enum.d) (RV.t y24 rfl Ω RV.d) rfl (by decide) (by decide) rfl) (TOk.t (isBoxE fun _ => isBoxS Θ (k := 1) Δ) (TOk.x Ψ TOk.d)) ?_;refine ea ?_; intro b61;refine amono (fun a w h => freezeN (i := 0) rfl h) ?_;refine df 10 Ψ ?_;refine doR rfl (o_bsl [(l.take k).map frz, [], [ownQ l[k] hq0]] underlying242 sizeOf38 zeroValue38 rfl (Enum.t (Enum.t (Enum.t Enum.d))) (RV.t ((if c = 0 then (some ⟨g0, 0, none⟩ : Option Addr) else (some ⟨g0, 0, none⟩ : Option Addr).map (·.add (0 * Rp.size PatchQ))), c - 0) rfl Ω (RV.t (none, 0) rfl Ω (RV.t (some ⟨b61, 0, none⟩, 1) rfl Ω RV.d))) rfl (by decide) (by decide) rfl) tX ?_;refine ea ?_; intro b62;refine amono (fun a w h => Go.Sx.freeze (i := 0) rfl h) ?_;refine df 11 Ψ ?_;refine doR rfl (o_call (is := [2]) call130 (c_logPutQ [(l.take k).map frz, [], [ownQ l[k] hq0]] (some ⟨b62, 0, none⟩) 3 (by simp) (by simp only [List.flatten_cons, List.flatten_nil, List.length_append, List.length_map, List.length_take, List.length_cons, List.length_nil]; omega) pl p (.slice (some ⟨g0, 0, none⟩) l.length c)) rfl rfl Ω rfl) tX ?_;refine ea ?_; rintro ⟨A63, c63⟩;refine dn Ψ ?_;refine k_ 2 ?_;rw [fl_last hlast hk1, fzq_len, ← oX_last (tp := 103) hlast hk1];refine k_ 6 ?_;exact rR [1, 2, 0] ⟨((l, 0), ((A63, c63), hq0)), (lastP_last hlast hk1 hk2).symm⟩
  ·
   refine cmono (fun a w h => St.fzL h) ?_;refine cmono (fun a w h => Go.Sx.freeze (i := 0) rfl h) ?_;refine elC (A := A) (l := l) Θ k (List.getElem?_eq_getElem hk1) ?_; rintro zbp zop zyp hAp;refine k_ 2 ?_;refine ls (op (p_nilck rfl) rfl) ?_;refine k_ 3 ?_;refine ls (op (p_ia k hAp hk1 hk2 underlying38 sizeOf63 rfl rfl) rfl) ?_;refine ls (o_ldj isAgg63 sizeOf63 rfl Θ 0 rfl Δ rfl) ?_;refine ls (o_alloc zeroValue63 rfl rfl) ?_;refine le ?_; intro b6;refine k_ 4 ?_;refine cmono (fun a w h => nilRow (α := PatchQ) 63 h) ?_;refine k_ 6 ?_;refine cmono (fun a w h => subS (l' := (l.drop (k + 1))) (c := c) (k + 1) l.length (by repeat (first | exact In.z | apply In.s)) (by omega) (Nat.le_refl _) hc (by rw [List.take_of_length_le (by simp)]) h) ?_;refine k_ 2 ?_;refine ls (op (p_nilck rfl) rfl) ?_;refine k_ 4 ?_;refine ls (op (p_sll (k + 1) (by omega) (by omega) (by omega) underlying38 sizeOf63 rfl rfl) rfl) ?_;refine fixL (slen (m' := (l.drop (k + 1)).length) (by omega)) ?_;refine k_ 5 ?_;refine cl (ι := {q : (Nat × List Patch) × (Patch × Rp.Lay Patch) × (Option Addr × Nat) // q.1.1 ≤ (l.drop (k + 1)).length ∧ lastF l[k] ((l.drop (k + 1)).take q.1.1) = some (q.1.2, q.2.1.1) ∧ (q.1.1 = 0 → q.2.1 = (l[k], zyp))}) (fun i => St M0 F0 w0 64 [(0, pT pl), (5, .int .i64 (atP l v)), (6, pT b6), (7, .slice i.1.2.2.1 ((i.1.1.2).map frz).length i.1.2.2.2), (31, .slice (if c = k + 1 then A else A.map (·.add ((k + 1) * Rp.size Patch))) (l.drop (k + 1)).length (c - (k + 1))), (32, .int .i64 ((l.drop (k + 1)).length : Int)), (33, .int .i64 ((i.1.1.1 : Nat) : Int))] [row 63 (i.1.2.2.1) (i.1.2.2.2) ((i.1.1.2).map frz), lX 103 (decide (i.1.1.1 = 0)) (i.1.2.1.1) (i.1.2.1.2), box b6 63 (Rp.enc (i.1.2.1.1) (i.1.2.1.2)), box pl 124 [.slice A l.length c, pT p]] [slA (i.1.2.1.2).1.1 (i.1.2.1.1).deps, slA zyp.2.1 l[k].l, capA zyp.2.2 l[k].l.length, slA A l, slA (if c = k + 1 then A else A.map (·.add ((k + 1) * Rp.size Patch))) (l.drop (k + 1))]) (fun i => (l.drop (k + 1)).length - i.1.1.1) ⟨((0, []), (l[k], zyp), (none, 0)), Nat.zero_le _, rfl, fun _ => rfl⟩ (fun a w h => wL [1, 0, 0, 0] (St.nobun h)) ?_;rintro ⟨⟨⟨k2, s0⟩, ⟨b0, yb⟩, ⟨A7, c7⟩⟩, hk3, hlf, hz0⟩;refine cmono (S' := St M0 F0 w0 64 [(0, pT pl), (5, .int .i64 (atP l v)), (6, pT b6), (7, .slice A7 ((s0).map frz).length c7), (31, .slice (if c = k + 1 then A else A.map (·.add ((k + 1) * Rp.size Patch))) (l.drop (k + 1)).length (c - (k + 1))), (32, .int .i64 ((l.drop (k + 1)).length : Int)), (33, .int .i64 ((k2 : Nat) : Int))] [row 63 (A7) (c7) ((s0).map frz), lX 103 (decide (k2 = 0)) (b0) (yb), box b6 63 (Rp.enc (b0) (yb)), box pl 124 [.slice A l.length c, pT p]] [slA (yb).1.1 (b0).deps, slA zyp.2.1 l[k].l, capA zyp.2.2 l[k].l.length, slA A l, slA (if c = k + 1 then A else A.map (·.add ((k + 1) * Rp.size Patch))) (l.drop (k + 1))]) Ħ ?_;refine k_ 6 ?_;refine cc rfl ?_ ?_
   ·intro h34;dsimp only at hk3 hlf hz0;(try simp only [nrmZ] at h34);have hk4 : k2 < (l.drop (k + 1)).length := (by omega);have hfb := (lastF_fit hlf hfk (fun q hq => hfD q (List.mem_of_mem_take hq))).2;have hls := lastF_len hlf;have hlt := List.length_take_le k2 (l.drop (k + 1));refine k_ 5 ?_;refine cmono (fun a w h => St.lXfz (i := 1) rfl (fun e => by obtain ⟨rfl, rfl⟩ := Prod.mk.inj (hz0 (of_decide_eq_true e)); exact ⟨(by repeat (first | exact In.z | apply In.s)), (by repeat (first | exact In.z | apply In.s))⟩) h) ?_;refine elC (A := (if c = k + 1 then A else A.map (·.add ((k + 1) * Rp.size Patch)))) (l := (l.drop (k + 1))) Θ k2 (List.getElem?_eq_getElem hk4) ?_; rintro zbq zoq zyq hAq;refine cr ?_;refine ls (op (p_ia k2 hAq hk4 rfl underlying38 sizeOf63 rfl rfl) rfl) ?_;refine ls (o_ldj isAgg63 sizeOf63 rfl Θ 0 rfl Δ rfl) ?_;refine ls (o_alloc zeroValue63 rfl rfl) ?_;refine le ?_; intro b9;refine k_ 5 ?_;refine ls (o_ldw isAgg63 sizeOf63 rfl Θ (by rfl) rfl) ?_;refine ls (o_ldw isAgg63 sizeOf63 rfl Θ (by rfl) rfl) ?_;refine lC [] call168 (c_nSwapS b0 (l.drop (k + 1))[k2] yb zyq hfb (hfD _ (List.getElem_mem hk4))) ?_; rintro ⟨⟨⟨r1, r2, r3⟩, z1, z2⟩, hr⟩;dsimp only at hr;refine k_ 4 ?_;refine ls (o_alloc zeroValue63 rfl rfl) ?_;refine le ?_; intro b10;refine ls (o_alloc zeroValue63 rfl rfl) ?_;refine le ?_; intro b11;refine k_ 12 ?_;refine cc rfl ?_ ?_
    ·intro h45;obtain rfl : r3 = false := (by have h := h45; simpa using h);have hno : lastF l[k] (l.drop (k + 1)) = none := lastF_stuck hk4 hlf hr;refine k_ 7 ?_;exact rR [] ⟨((l, 83), ((none, 0), (none, 0))), (lastP_none hk1 hk2 hno).symm⟩
    ·intro h45;obtain rfl : r3 = true := (by have h := h45; simpa using h);refine k_ 2 ?_;refine cd [2, 3, 6] [(1, b10, 0, _), (4, b11, 0, _)] TryzX.mixed (tB 4 (tB 4 TOk.d)) ?_;refine u_ 0 2 ?_;refine u_ 4 1 ?_;refine df 2 Ψ ?_;refine doR rfl (o_bsl [frz r1] underlying38 sizeOf63 zeroValue63 rfl (Enum.t Enum.d) (RV.t z1 rfl Ω RV.d) rfl (by decide) (by decide) rfl) (TOk.x Ψ (TOk.t (isBoxE fun _ => isBoxS Θ (k := 4) Δ) TOk.d)) ?_;refine ea ?_; intro b48;refine amono (fun a w h => Go.Sx.freeze (i := 0) rfl h) ?_;refine df 3 Ψ ?_;refine doR rfl (o_appX (i := 4) underlying38 inf63 rfl (by decide) (by decide) rfl rfl (by simp only [List.length_map, List.length_cons, List.length_nil]; omega) rfl Ω rfl) (TOk.x Ψ (TOk.t (isBoxE fun _ => isBoxS Θ (k := 4) Δ) TOk.d)) ?_;refine ea ?_; rintro ⟨A49, c49⟩;refine u_ 5 1 ?_;refine df 6 Ψ ?_;refine doR rfl (o_st rfl sizeOf63 rfl rfl rfl rfl rfl Θ Θ Θ) tX ?_;refine dn Ψ ?_;refine k_ 6 ?_;refine nnext ⟨((k2 + 1, s0 ++ [r1]), (r2, z2), (A49, c49)), hk4, lastF_step hk4 hlf hr, fun e => by simp at e⟩ (by dsimp only; omega) (fun a w h => by dsimp only; rw [List.map_append, lX_own]; exact wL [0, 2, 3, 3] h)
   ·intro h34;dsimp only at hk3 hlf hz0;(try simp only [nrmZ] at h34);obtain rfl : k2 = (l.drop (k + 1)).length := (by omega);rw [List.take_length] at hlf;have hls := lastF_len hlf;refine k_ 6 ?_;rw [lX_at (show decide ((l.drop (k + 1)).length = 0) = false from decide_eq_false (by omega))];refine cmono (fun a w h => freezeN (i := 0) rfl h) ?_;refine cmono (fun a w h => subS (l' := l.take k) (c := c) 0 k (by repeat (first | exact In.z | apply In.s)) (by omega) (by omega) hc (by simp) h) ?_;refine cmono (fun a w h => St.slQ (by repeat (first | exact In.z | apply In.s)) h) ?_;refine cmono (fun a w h => nilQ (y := ((if c = 0 then A else A.map (·.add (0 * Rp.size Patch))), c - 0)) (fun e => sub_nil hA e) h) ?_;refine cmono (fun a w h => capQ (c := c - 0) (m := ((l.take k).map frz).length) (by rw [List.length_map, List.length_take]; omega) h) ?_;refine cd [9, 10, 11] [(4, pl, 0, _), (8, b6, 0, _)] TryzX.mixed (tB 1 (tB 4 TOk.d)) ?_;refine u_ 0 2 ?_;refine tk 2 rfl Ψ Υ gnone (TTany _) (p_nilck rfl) rfl ?_;refine u_ 3 3 ?_;refine tk 6 rfl Ψ Υ gnone (TTany _) (p_slh k (by omega) hk2 underlying38 sizeOf63 rfl rfl) rfl ?_;refine fixA (slen (m' := ((l.take k).map frz).length) (by rw [List.length_map, List.length_take]; omega)) ?_;refine u_ 7 2 ?_;refine df 9 Ψ ?_;refine doR rfl (o_bsl [ownQ b0 yb.2] underlying38 sizeOf63 zeroValue63 rfl (Enum.t Enum.d) (RV.t yb rfl Ω RV.d) rfl (by decide) (by decide) rfl) (TOk.t (isBoxE fun _ => isBoxS Θ (k := 1) Δ) (TOk.x Ψ TOk.d)) ?_;refine ea ?_; intro b61;refine amono (fun a w h => freezeN (i := 0) rfl h) ?_;refine df 10 Ψ ?_;refine doR rfl (o_bsl [(l.take k).map frz, s0.map frz, [ownQ b0 yb.2]] underlying242 sizeOf38 zeroValue38 rfl (Enum.t (Enum.t (Enum.t Enum.d))) (RV.t ((if c = 0 then A else A.map (·.add (0 * Rp.size Patch))), c - 0) rfl Ω (RV.t (A7, c7) rfl Ω (RV.t (some ⟨b61, 0, none⟩, 1) rfl Ω RV.d))) rfl (by decide) (by decide) rfl) tX ?_;refine ea ?_; intro b62;refine amono (fun a w h => Go.Sx.freeze (i := 0) rfl h) ?_;refine df 11 Ψ ?_;refine doR rfl (o_call (is := [2]) call130 (c_logPutQ [(l.take k).map frz, s0.map frz, [ownQ b0 yb.2]] (some ⟨b62, 0, none⟩) 3 (by simp) (by simp only [List.flatten_cons, List.flatten_nil, List.length_append, List.length_map, List.length_take, List.length_cons, List.length_nil]; omega) pl p (.slice A l.length c)) rfl rfl Ω rfl) tX ?_;refine ea ?_; rintro ⟨A63, c63⟩;refine dn Ψ ?_;refine k_ 2 ?_;rw [fl_more, fzq_len, ← oX_snoc 103 (l.take k ++ s0) b0 yb.2];refine k_ 6 ?_;exact rR [1, 1, 0] ⟨((l.take k ++ s0 ++ [b0], 0), ((A63, c63), yb.2)), (lastP_some hk1 hk2 hlf).symm⟩
theorem c_logDropQ (l : List Patch) (A : Option Addr) (c : Nat) (hl : l.length ≤ 2000000) (hq0 : Option Addr × Nat) (hz : 0 < l.length) (hf : ∀ q ∈ l, q.fit) (pl p b : Nat) (T : List File) (mm nn : Nat) (hi : AppInv mm nn T) (hm : ∀ q ∈ l, mm + 2 * lns q.l ≤ 1800000) (hn : ∀ q ∈ l, nn + 2 * q.l.length ≤ 1800000) : Con Tryz.prog 71 [pT pl] [box pl 124 [.slice A l.length c, pT p], row 63 A c (fzq l hq0), oX 103 (l) (hq0), box p 139 [.map (some b)], tr b T] [] {x : List File × Rp.Lay Patch // x.1 = (dropP l T).1.2} (fun x => .tuple #[sv (l[l.length - 1]'(by omega)) x.1.2, .bool true]) (fun x => [row 103 x.1.2.2.1 x.1.2.2.2 (l[l.length - 1]'(by omega)).l, box pl 124 [.slice A (l.take (l.length - 1)).length c, pT p], row 63 A c (l.take (l.length - 1)), box p 139 [.map (some b)], tr b x.1.1]) (fun x => [slA x.1.2.1.1 (l[l.length - 1]'(by omega)).deps]) := by
 refine con func71 rfl ntmps71 rfl ?_;intro M0 F0 w0;refine k_ 2 ?_;refine ls (o_alloc zeroValue63 rfl rfl) ?_;refine le ?_; intro b2;refine k_ 6 ?_;refine ls (op (p_nilck rfl) rfl) ?_;refine k_ 14 ?_;refine cc rfl ?_ ?_
 ·intro h13;exact absurd h13 (by simp; omega)
 ·intro h13;have hk1 : l.length - 1 < l.length := (by omega);have hlast : l.length - 1 + 1 = l.length := (by omega);have hfk := hf _ (List.getElem_mem hk1);have hmk := hm _ (List.getElem_mem hk1);have hnk := hn _ (List.getElem_mem hk1);have hii := invL_len l[l.length - 1].l;have hil := lns_inv l[l.length - 1].l;refine k_ 3 ?_;rw [oX_last hlast hk1];refine rowC (α := PatchQ) (A := A) (l := fzq l hq0) Θ (List.ne_nil_of_length_pos (by rw [fzq_len]; omega)) ?_;rintro g0 rfl;refine rowLeC (α := PatchQ) (l := fzq l hq0) Θ (fun hlc => ?_);rw [fzq_len] at hlc;refine k_ 2 ?_;refine ls (op (p_nilck rfl) rfl) ?_;refine k_ 3 ?_;refine ls (op (p_ia (l.length - 1) rfl hk1 (by omega) underlying38 sizeOf63 rfl rfl) rfl) ?_;refine ls (o_ldrow isAgg63 sizeOf63 rfl Θ (fzq_last hlast hk1 hq0) rfl) ?_;refine le ?_; intro zyp;refine ls (o_alloc zeroValue63 rfl rfl) ?_;refine le ?_; intro b5;refine k_ 4 ?_;refine cd [6, 7] [(3, pl, 1, _), (5, b5, 3, _)] TryzX.mixed (tB 1 (tB 1 TOk.d)) ?_;refine u_ 0 1 ?_;refine tk 1 rfl Ψ Υ gnone (TTany _) (p_nilck rfl) rfl ?_;refine u_ 2 4 ?_;refine df 6 Ψ ?_;refine doR rfl (o_call (is := [4]) call91 (c_seqInvertW l[l.length - 1].l hq0.1 hq0.2 hfk.ll hfk.lf) rfl rfl Ω rfl) (TOk.t (isBoxE fun _ => isBoxS Θ (k := 1) Δ) (TOk.x Ψ TOk.d)) ?_;refine ea ?_; rintro ⟨A28, c28⟩;refine amono (fun a w h => freezeN (i := 0) rfl h) ?_;refine apure (St.cap (m := (invL l[l.length - 1].l).length) (c := c28) Θ) ?_;intro hcap28;refine df 7 Ψ ?_;refine doR rfl (o_call (is := [5, 5]) call43 (c_seqApply p b T mm nn hi (invL l[l.length - 1].l) A28 c28 hcap28 (by omega) (invL_fit hfk.lf) (by omega) (by omega)) rfl rfl Ω rfl) tX ?_;refine ea ?_; rintro ⟨⟨U, e29⟩, hq⟩;refine dn Ψ ?_;refine k_ 2 ?_;refine cmono (fun a w h => rowTk (α := PatchQ) (l := fzq l hq0) (l.length - 1) (by rw [fzq_len]; omega) Θ Θ h) ?_;refine k_ 3 ?_;refine ls (op (p_nilck rfl) rfl) ?_;refine k_ 3 ?_;refine ls (op (p_slh (l.length - 1) (by omega) (by omega) underlying38 sizeOf63 rfl rfl) rfl) ?_;refine fixL slh_val ?_;refine fixL (slen (m' := (l.take (l.length - 1)).length) (by rw [List.length_take]; omega)) ?_;refine ls (op (p_nilck rfl) rfl) ?_;refine k_ 5 ?_;rw [fzq_take hlast hq0];refine cmono (fun a w h => St.unQ (i := 6) rfl h) ?_;refine cr ?_;refine ls (o_ldw isAgg63 sizeOf63 rfl Θ (by rfl) rfl) ?_;refine k_ 6 ?_;refine rret (is := [3, 5, 0, 0, 0]) ⟨(U, (zyp.1, hq0)), by rw [dropP_yes hz hq]⟩ (Or.inl rfl) (Res.c rfl isAgg63 sizeOf63 Θ (by rfl) (Res.t rfl Res.d)) (rfl) rfl Ω
end Go.Proofs.YtbhnolfcdcpbkaaGreatDoor.X
end
section
namespace Go.Sx.Sh
open Go Go.RowKit Go.MapKept Go.Sx
/-! Shelves: a map of rows of prims, rising by name. -/
abbrev File := ByteArray × List Prim
def Sor (T : List File) : Prop := T.Pairwise fun a b => kl a.1 b.1
def getT (T : List File) (k : ByteArray) : Option (List Prim) := (T.find? fun x => decide (x.1 = k)).map (·.2)
def getL (T : List File) (k : ByteArray) : List Prim := (getT T k).getD []
def hasT (T : List File) (k : ByteArray) : Bool := (getT T k).isSome
def delT (T : List File) (k : ByteArray) : List File := T.filter fun x => decide (x.1 ≠ k)
def putT (T : List File) (k : ByteArray) (l : List Prim) : List File :=
 (delT T k).filter (fun x => decide (kl x.1 k)) ++ (k, l) :: (delT T k).filter (fun x => decide (kl k x.1))
theorem Sor.nil : Sor [] := List.Pairwise.nil
theorem Sor.keys {T : List File} (h : Sor T) : (T.map (·.1)).Nodup := by
 unfold List.Nodup;rw [List.pairwise_map];exact h.imp fun h => kl_ne h
theorem Sor.key_eq {T : List File} (h : Sor T) {x y : File} (hx : x ∈ T) (hy : y ∈ T) (e : x.1 = y.1) : x = y := by
 induction T with
 | nil => cases hx
 | cons z T ih =>
  obtain ⟨h1, h2⟩ := List.pairwise_cons.1 h;rcases List.mem_cons.1 hx with rfl | hx'
  ·rcases List.mem_cons.1 hy with rfl | hy'
   ·rfl
   ·exact absurd e (kl_ne (h1 y hy'))
  ·rcases List.mem_cons.1 hy with rfl | hy'
   ·exact absurd e.symm (kl_ne (h1 x hx'))
   ·exact ih h2 hx' hy'
theorem mem_delT {T : List File} {k : ByteArray} {x : File} : x ∈ delT T k ↔ x ∈ T ∧ x.1 ≠ k := by simp [delT]
theorem mem_putT {T : List File} {k : ByteArray} {l : List Prim} {x : File} : x ∈ putT T k l ↔ x = (k, l) ∨ (x ∈ T ∧ x.1 ≠ k) := by
 simp only [putT, List.mem_append, List.mem_cons, List.mem_filter, mem_delT, decide_eq_true_eq];constructor
 ·rintro (h | h | h)
  ·exact .inr h.1
  ·exact .inl h
  ·exact .inr h.1
 ·rintro (h | h)
  ·exact .inr (.inl h)
  ·by_cases h1 : kl x.1 k
   ·exact .inl ⟨h, h1⟩
   ·exact .inr (.inr ⟨h, Classical.byContradiction fun h2 => h.2 (kl_tri h1 h2)⟩)
theorem Sor.del {T : List File} (h : Sor T) (k : ByteArray) : Sor (delT T k) := List.Pairwise.filter _ h
theorem Sor.put {T : List File} (h : Sor T) (k : ByteArray) (l : List Prim) : Sor (putT T k l) := by
 refine List.pairwise_append.2 ⟨(h.del k).filter _, List.pairwise_cons.2 ⟨fun x hx => ?_, (h.del k).filter _⟩, fun x hx y hy => ?_⟩
 ·simpa using (List.mem_filter.1 hx).2
 ·have h1 : kl x.1 k := by simpa using (List.mem_filter.1 hx).2
  rcases List.mem_cons.1 hy with rfl | hy
  ·exact h1
  ·exact kl_trans h1 (by simpa using (List.mem_filter.1 hy).2)
theorem getT_some {T : List File} (h : Sor T) {k : ByteArray} {l : List Prim} : getT T k = some l ↔ (k, l) ∈ T := by
 unfold getT;constructor
 ·intro e;obtain ⟨x, hx, rfl⟩ := Option.map_eq_some_iff.1 e;have h1 := List.mem_of_find?_eq_some hx;have h2 : x.1 = k := by simpa using List.find?_some hx
  subst h2; exact h1
 ·intro hm;cases e : T.find? (fun x => decide (x.1 = k)) with
  | none =>
   have := List.find?_eq_none.1 e (k, l) hm;simp at this
  | some x =>
   have h1 := List.mem_of_find?_eq_some e;have h2 : x.1 = k := by simpa using List.find?_some e
   rw [h.key_eq h1 hm h2]; rfl
theorem getT_none {T : List File} {k : ByteArray} : getT T k = none ↔ ∀ x ∈ T, x.1 ≠ k := by
 simp [getT]
theorem Sor.nodup {T : List File} (hT : Sor T) : T.Nodup := by
 unfold List.Nodup;exact List.Pairwise.imp (R := fun a b : File => kl a.1 b.1) (S := fun a b => a ≠ b) (fun h e => kl_ne h (congrArg Prod.fst e)) hT
theorem sor_ext {T U : List File} (hT : Sor T) (hU : Sor U) (h : ∀ x, x ∈ T ↔ x ∈ U) : T = U := by
 have nT := hT.nodup;have nU := hU.nodup;exact List.Perm.eq_of_pairwise (le := fun a b : File => kl a.1 b.1) (fun a b _ _ h1 h2 => absurd (kl_trans h1 h2) (kl_irrefl _)) hT hU ((List.perm_ext_iff_of_nodup nT nU).2 h)
theorem sortB_keys {T : List File} (h : Sor T) {l : List ByteArray} (hp : l.Perm (T.map (·.1))) : sortB l = T.map (·.1) := by
 unfold sortB;have e : (l.map ofB).mergeSort (fun x y => decide (x ≤ y)) = (T.map (·.1)).map ofB := by
  refine List.Perm.eq_of_pairwise (le := fun a b : List UInt8 => decide (a ≤ b) = true) (fun a b _ _ h1 h2 => List.le_antisymm (by simpa using h1) (by simpa using h2)) (List.pairwise_mergeSort ?_ ?_ _) ?_ ?_
  ·intro a b c h1 h2;simp only [decide_eq_true_eq] at *;exact List.le_trans h1 h2
  ·intro a b;simp only [Bool.or_eq_true, decide_eq_true_eq];exact List.le_total a b
  ·rw [List.map_map, List.pairwise_map];exact h.imp fun {a b} hab => by
    simp only [decide_eq_true_eq];exact List.le_of_lt hab
  ·exact (List.mergeSort_perm _ _).trans (hp.map ofB)
 rw [e];simp [Function.comp_def, toB_ofB]
structure EntOk (M : Nat → Prop) (w : World) (e : MapEntry) (x : File) : Prop where
 key : e.key = .string x.1
 val : ∃ y : Option Addr × Nat, e.val = .slice y.1 x.2.length y.2 ∧ (slA y.1 x.2).p M w ∧ (nilA y).p M w
structure MapIs (M : Nat → Prop) (w : World) (T : List File) (es : Array MapEntry) (clock : Nat) : Prop where
 stamped : Stamped es clock
 so : Sor T
 ent : ∀ e ∈ es.toList, ∃ x ∈ T, EntOk M w e x
 cov : ∀ x ∈ T, ∃ e ∈ es.toList, e.key = .string x.1
theorem EntOk.st {M M' : Nat → Prop} {w w' : World} {e : MapEntry} {x : File} (h : EntOk M w e x) (hb : ∀ b, b < w.heap.size → ¬ M b → w'.heap[b]? = w.heap[b]?) (hm : ∀ b, b < w.heap.size → M' b → M b) (hs : w.heap.size ≤ w'.heap.size) : EntOk M' w' e x := by
 obtain ⟨y, h1, h2, h3⟩ := h.val;exact ⟨h.key, y, h1, (slA y.1 x.2).st _ _ _ _ h2 hb hm hs, (nilA y).st _ _ _ _ h3 hb hm hs⟩
theorem MapIs.st {M M' : Nat → Prop} {w w' : World} {T : List File} {es : Array MapEntry} {clock : Nat} (h : MapIs M w T es clock) (hb : ∀ b, b < w.heap.size → ¬ M b → w'.heap[b]? = w.heap[b]?) (hm : ∀ b, b < w.heap.size → M' b → M b) (hs : w.heap.size ≤ w'.heap.size) : MapIs M' w' T es clock :=
 ⟨h.stamped, h.so, fun e he => (h.ent e he).imp fun x hx => ⟨hx.1, hx.2.st hb hm hs⟩, h.cov⟩
section
variable {M : Nat → Prop} {w : World} {T : List File} {es es' : Array MapEntry} {clock clock' : Nat} {k : ByteArray} {l : List Prim}
theorem MapIs.isKey (h : MapIs M w T es clock) : ∀ e ∈ es.toList, IsKey .string e.key := fun e he => by
 obtain ⟨x, _, hx⟩ := h.ent e he;rw [hx.key]; trivial
theorem MapIs.nil : MapIs M w [] #[] 0 := ⟨stamped_empty 0, Sor.nil, fun e he => by simp at he, fun x hx => by simp at hx⟩
theorem MapIs.size (h : MapIs M w T es clock) : es.size = T.length := by
 have h1 : (es.toList.map (·.key)).Perm (T.map fun x => Value.string x.1) := by
  refine (List.perm_ext_iff_of_nodup h.stamped.2.2 ?_).2 fun v => ?_
  ·have := h.so.keys;unfold List.Nodup at this ⊢;rw [List.pairwise_map] at this ⊢;exact this.imp fun {a b} hab e => hab (key_inj e)
  ·simp only [List.mem_map];constructor
   ·rintro ⟨e, he, rfl⟩;obtain ⟨x, hx, hk⟩ := h.ent e he;exact ⟨x, hx, hk.key.symm⟩
   ·rintro ⟨x, hx, rfl⟩;exact h.cov x hx
 have := h1.length_eq
 simpa using this
theorem MapIs.put (h : MapIs M w T es clock) (hst : Stamped es' clock') (hin : ∀ e ∈ es'.toList, (e ∈ es.toList ∧ e.key ≠ .string k) ∨ EntOk M w e (k, l)) (hk : ∃ e ∈ es'.toList, e.key = .string k)
  (hold : ∀ e ∈ es.toList, e.key ≠ .string k → e ∈ es'.toList) : MapIs M w (putT T k l) es' clock' where
 stamped := hst
 so := h.so.put k l
 ent := fun e he => by
  rcases hin e he with ⟨h1, h2⟩ | h1
  ·obtain ⟨x, hx, hx2⟩ := h.ent e h1;exact ⟨x, mem_putT.2 (.inr ⟨hx, fun e' => h2 (by rw [hx2.key, e'])⟩), hx2⟩
  ·exact ⟨(k, l), mem_putT.2 (.inl rfl), h1⟩
 cov := fun x hx => by
  rcases mem_putT.1 hx with rfl | ⟨h1, h2⟩
  ·exact hk
  ·obtain ⟨e, he, hke⟩ := h.cov x h1;exact ⟨e, hold e he (by rw [hke]; exact fun e' => h2 (key_inj e')), hke⟩
theorem MapIs.del (h : MapIs M w T es clock) (hst : Stamped es' clock') (hin : ∀ e ∈ es'.toList, e ∈ es.toList ∧ e.key ≠ .string k) (hold : ∀ e ∈ es.toList, e.key ≠ .string k → e ∈ es'.toList) : MapIs M w (delT T k) es' clock' where
 stamped := hst
 so := h.so.del k
 ent := fun e he => by
  obtain ⟨h1, h2⟩ := hin e he;obtain ⟨x, hx, hx2⟩ := h.ent e h1;exact ⟨x, mem_delT.2 ⟨hx, fun e' => h2 (by rw [hx2.key, e'])⟩, hx2⟩
 cov := fun x hx => by
  obtain ⟨h1, h2⟩ := mem_delT.1 hx;obtain ⟨e, he, hke⟩ := h.cov x h1;exact ⟨e, hold e he (by rw [hke]; exact fun e' => h2 (key_inj e')), hke⟩
theorem MapIs.find (h : MapIs M w T es clock) (k : ByteArray) : (Instr.findNow .string (.string k) es.toList 0 = some none ∧ getT T k = none ∧ ∀ e ∈ es.toList, e.key ≠ .string k) ∨
  ∃ j e l, Instr.findNow .string (.string k) es.toList 0 = some (some (j, e.val)) ∧ es.toList[j]? = some e ∧ EntOk M w e (k, l) ∧ getT T k = some l := by
 rcases findNow_spec (d := .string) (k := .string k) trivial es.toList 0 h.isKey with ⟨h1, h2⟩ | ⟨j, e, h1, h2, h3⟩
 ·refine .inl ⟨h1, getT_none.2 fun x hx e' => ?_, h2⟩;obtain ⟨e, he, hk⟩ := h.cov x hx;exact h2 e he (by rw [hk, e'])
 ·obtain ⟨x, hx, hx2⟩ := h.ent e (List.mem_of_getElem? h2);have : x.1 = k := key_inj (hx2.key.symm.trans h3);subst this;exact .inr ⟨j, e, x.2, by simpa using h1, h2, hx2, (getT_some h.so).2 hx⟩
end
def tr (b : Nat) (T : List File) : Xsn where
 p F M w := (∀ x, F x ↔ x = b) ∧ ∃ es clock, w.heap[b]? = some (.map es clock) ∧ MapIs M w T es clock
 st := by
  rintro F M M' w w' ⟨h1, es, clock, h2, h3⟩ hb hm hs;have hlt : b < w.heap.size := (Array.getElem?_eq_some_iff.1 h2).1;exact ⟨h1, es, clock, by rw [hb b hlt (.inl ((h1 b).2 rfl)), h2], h3.st (fun b hlt hM => hb b hlt (.inr hM)) hm hs⟩
def mit (b r : Nat) (T K : List File) : Xsn where
 p F M w := b ≠ r ∧ (∀ x, F x ↔ x = b ∨ x = r) ∧ ∃ es clock since seen c0, w.heap[b]? = some (.map es clock) ∧ w.heap[r]? = some (.mapIter (some b) since seen c0) ∧ MapIs M w T es clock ∧
  (∀ e ∈ es.toList, e.born < since) ∧ since ≤ c0 ∧ since ≤ clock ∧ K.Nodup ∧ (∀ x ∈ K, x ∈ T) ∧ (∀ e ∈ es.toList, (seen.contains e.born = true ↔ ∃ x ∈ K, e.key = .string x.1)) ∧
  ∀ x, K.getLast? = some x → c0 = clock ∧ ∃ e ∈ es.toList, e.key = .string x.1 ∧ seen.back? = some e.born
 st := by
  rintro F M M' w w' ⟨h0, h1, es, clock, since, seen, c0, h2, h3, h4, h5⟩ hb hm hs;have hlt : b < w.heap.size := (Array.getElem?_eq_some_iff.1 h2).1;have hlt2 : r < w.heap.size := (Array.getElem?_eq_some_iff.1 h3).1;exact ⟨h0, h1, es, clock, since, seen, c0, by rw [hb b hlt (.inl ((h1 b).2 (.inl rfl))), h2], by rw [hb r hlt2 (.inl ((h1 r).2 (.inr rfl))), h3], h4.st (fun b hlt hM => hb b hlt (.inr hM)) hm hs, h5⟩
section
variable {M0 F0 : Nat → Prop} {w0 w w' : World} {Ξ : List Xsn} {Γ : List Asn} {Fs : List (Nat → Prop)}
end
section
variable {ro : Option Nat} {P : Program} {M0 F0 : Nat → Prop} {w0 : World} {n : Nm} {σ : List (Nat × Value)} {Ξ : List Xsn} {Γ : List Asn} {d : Nat} {ty : TypeId} {pos : String} {af : Array Edge}
variable {ops : Array Oper} {Q : Exit → Act → World → Prop} {S S' : Act → World → Prop}
theorem mit_tr {b r : Nat} {T K : List File} : ∀ F M w, (mit b r T K).p F M w → ∃ F', (∀ b, F' b → F b) ∧ (tr b T).p F' M w := by
 rintro F M w ⟨h0, h1, es, clock, since, seen, c0, h2, h3, h4, h5⟩;exact ⟨fun x => x = b, fun x hx => (h1 x).2 (.inl hx), fun x => Iff.rfl, es, clock, h2, h4⟩
theorem o_mmk {t : TypeId} (hd : Nat.blt d n.n = true) : OpR P ⟨some d, .makeMap t none, ty, pos, af, none⟩ (St M0 F0 w0 n σ Ξ Γ) (fun a w => ∃ b, St M0 F0 w0 n ((d, .map (some b)) :: σ) (tr b [] :: Ξ) Γ a w) :=
 OpR.of_run rfl fun a w ⟨hs, Fs, hh⟩ => by
  obtain ⟨Fs', h1⟩ := hh.allocO (.map #[] 0);obtain ⟨Fs2, h2⟩ := h1.conv (x' := tr w.heap.size []) (fun F M w h => ⟨F, fun _ h => h, h.1, #[], 0, h.2, MapIs.nil⟩)
  exact ⟨_, _, by simp [execOp, Instr.makeMap, newObj, Sem.run, Result.andThen], w.heap.size, hs.put hd, Fs2, h2⟩
theorem _root_.Go.Sx.Hp.trS {i b : Nat} {T : List File} {w : World} {Fs} (h : Hp M0 F0 w0 Ξ Γ Fs w) (hi : At (tr b T) i Ξ) : ∃ es clock, w.heap[b]? = some (.map es clock) ∧ MapIs (fun b => M0 b ∨ own Fs b) w T es clock := by
 obtain ⟨F, _, hp⟩ := h.ex.at hi.get;exact hp.2
theorem run_look {M : Nat → Prop} {w : World} {T : List File} {es : Array MapEntry} {clock b : Nat} {t kt et : TypeId} (ht : P.underlying t = some (.map kt et)) (hk : P.underlying kt = some .string) (hz : ∀ w, (zeroValue et).run P w = .ok (.slice none 0 0) w)
  (hb : w.heap[b]? = some (.map es clock)) (h : MapIs M w T es clock) (k : ByteArray) (ok : Bool) :
  ∃ y : Option Addr × Nat, (Instr.lookup t (.map (some b)) (.string k) ok).run P w = .ok (if ok then .tuple #[.slice y.1 (getL T k).length y.2, .bool (hasT T k)] else .slice y.1 (getL T k).length y.2) w ∧ (slA y.1 (getL T k)).p M w ∧ (nilA y).p M w := by
 have hkey : IsKey .string (.string k) := trivial;rcases h.find k with ⟨h1, h2, _⟩ | ⟨j, e, l, h1, h2, h3, h4⟩
 ·refine ⟨(none, 0), ?_, ?_, fun _ => rfl⟩
  ·simp only [Instr.lookup, Sem.run_bind, run_underlying ht, Result.andThen, MapKept.run_getObj_map hb, run_checkKey hk hkey, run_findKey hk h1, hz, Sem.run_pure, Sem.run_map];simp [getL, hasT, h2]
  ·intro j x hj;simp [getL, h2] at hj
 ·obtain ⟨y, hy, hy2, hy3⟩ := h3.val;refine ⟨y, ?_, ?_, hy3⟩
  ·simp only [Instr.lookup, Sem.run_bind, run_underlying ht, Result.andThen, MapKept.run_getObj_map hb, run_checkKey hk hkey, run_findKey hk h1, Sem.run_pure];simp [getL, hasT, h4, hy]
  ·simpa [getL, h4] using hy2
theorem o_look {m k : Operand} {t kt et : TypeId} {b i : Nat} {kk : ByteArray} {T : List File} (ht : P.underlying t = some (.map kt et)) (hk : P.underlying kt = some .string) (hz : ∀ w, (zeroValue et).run P w = .ok (.slice none 0 0) w)
  (hm : ev σ m = some (.map (some b))) (hx : ev σ k = some (.string kk)) (hi : At (tr b T) i Ξ) (hd : Nat.blt d n.n = true) :
  OpR P ⟨some d, .lookup t m k true, ty, pos, af, none⟩ (St M0 F0 w0 n σ Ξ Γ) (fun a w => ∃ y : Option Addr × Nat, St M0 F0 w0 n ((d, .tuple [.slice y.1 (getL T kk).length y.2, .bool (hasT T kk)].toArray) :: σ) Ξ (slA y.1 (getL T kk) :: nilA y :: Γ) a w) :=
 OpR.of_run rfl fun a w ⟨hs, Fs, hh⟩ => by
  obtain ⟨es, clock, hb, h⟩ := hh.trS hi;obtain ⟨y, h1, h2, h3⟩ := run_look ht hk hz hb h kk true;refine ⟨_, w, by simp only [execOp, hs.ev hm, hs.ev hx, Sem.run_bind, h1, Result.andThen]; rfl, y, hs.put hd, Fs, { hh with ga := fun p hp => ?_ }⟩;rcases List.mem_cons.1 hp with rfl | hp
  ·exact h2
  ·rcases List.mem_cons.1 hp with rfl | hp
   ·exact h3
   ·exact hh.ga p hp
theorem o_look1 {m k : Operand} {t kt et : TypeId} {b i : Nat} {kk : ByteArray} {T : List File} (ht : P.underlying t = some (.map kt et)) (hk : P.underlying kt = some .string) (hz : ∀ w, (zeroValue et).run P w = .ok (.slice none 0 0) w)
  (hm : ev σ m = some (.map (some b))) (hx : ev σ k = some (.string kk)) (hi : At (tr b T) i Ξ) (hd : Nat.blt d n.n = true) :
  OpR P ⟨some d, .lookup t m k false, ty, pos, af, none⟩ (St M0 F0 w0 n σ Ξ Γ) (fun a w => ∃ y : Option Addr × Nat, St M0 F0 w0 n ((d, .slice y.1 (getL T kk).length y.2) :: σ) Ξ (slA y.1 (getL T kk) :: nilA y :: Γ) a w) :=
 OpR.of_run rfl fun a w ⟨hs, Fs, hh⟩ => by
  obtain ⟨es, clock, hb, h⟩ := hh.trS hi;obtain ⟨y, h1, h2, h3⟩ := run_look ht hk hz hb h kk false;refine ⟨_, w, by simp only [execOp, hs.ev hm, hs.ev hx, Sem.run_bind, h1, Result.andThen]; rfl, y, hs.put hd, Fs, { hh with ga := fun p hp => ?_ }⟩;rcases List.mem_cons.1 hp with rfl | hp
  ·exact h2
  ·rcases List.mem_cons.1 hp with rfl | hp
   ·exact h3
   ·exact hh.ga p hp
theorem o_lenm {m : Operand} {t kt et : TypeId} {b i : Nat} {T : List File} (ht : P.underlying t = some (.map kt et)) (hm : ev σ m = some (.map (some b))) (hi : At (tr b T) i Ξ) (hd : Nat.blt d n.n = true) :
  OpR P ⟨some d, .call ⟨.builtin .len, #[m], #[t]⟩, ty, pos, af, none⟩ (St M0 F0 w0 n σ Ξ Γ) (St M0 F0 w0 n ((d, .int .i64 (T.length : Int)) :: σ) Ξ Γ) :=
 OpR.of_run rfl fun a w ⟨hs, Fs, hh⟩ => by
  obtain ⟨es, clock, hb, h⟩ := hh.trS hi;refine ⟨_, w, ?_, hs.put hd, Fs, hh⟩;simp [execOp, resolve, invoke, builtin, hs.ev hm, Builtin.len_, run_underlying ht, MapKept.run_getObj_map hb, goInt, h.size, Result.andThen]
theorem tr_set {M0 : Nat → Prop} {Fs : List (Nat → Prop)} {w : World} {b : Nat} {T T' : List File} {Γ : List Asn} (h : Hp M0 (own Fs) w [tr b T] Γ Fs w) {es' : Array MapEntry} {clock' : Nat} (hn : ∀ es clock, w.heap[b]? = some (.map es clock) → MapIs (fun b => M0 b ∨ own Fs b) w T es clock → MapIs (fun b => M0 b ∨ own Fs b) w T' es' clock') :
  Hp M0 (own Fs) w [tr b T'] [] Fs (ChangeMaps.setBlock w b (.map es' clock')) := by
 obtain ⟨F, rfl, hF, es, clock, hb, hm⟩ := h.one_of;have hm' := hn es clock hb hm;have hlt : b < w.heap.size := (Array.getElem?_eq_some_iff.1 hb).1;have hsame := heap_set (o' := .map es' clock') hb;have ho : ∀ x, own [F] x ↔ F x := fun x => by simp [own]
 refine h.oneG ⟨rfl, rfl, rfl, by simp [ChangeMaps.setBlock], fun x hx hne => hsame.2 x (fun e => hne ((hF x).2 e))⟩ (fun b h => .inl h) (fun x hx => by simp only [ChangeMaps.setBlock, Array.size_setIfInBounds]; exact (hF x).1 hx ▸ hlt) ⟨hF, es', clock', hsame.1, ?_⟩ (fun p hp => by cases hp);exact hm'.st (fun x hx hM => hsame.2 x (fun e => hM (.inr ((ho x).2 ((hF x).2 e))))) (fun _ _ h => h) (by simp [ChangeMaps.setBlock])
theorem loc_mupd {M0 : Nat → Prop} {Fs : List (Nat → Prop)} {w : World} {t kt et : TypeId} {b : Nat} {T : List File} (ht : P.underlying t = some (.map kt et)) (hk : P.underlying kt = some .string) (kk : ByteArray) (A : Option Addr) (c : Nat) (l : List Prim)
  (hh : Hp M0 (own Fs) w [tr b T] [slA A l, nilA (A, c)] Fs w) : ∃ (x : Unit) (Fs' : List (Nat → Prop)) (w' : World), (Instr.mapUpdate t (.map (some b)) (.string kk) (.slice A l.length c)).run P w = .ok () w' ∧ Hp M0 (own Fs) w [tr b (putT T kk l)] [] Fs' w' := by
 obtain ⟨F, hFs, hF, es, clock, hb, hm⟩ := hh.one_of;have hkey : IsKey .string (.string kk) := trivial;have hnew : ∀ born, EntOk (fun b => M0 b ∨ own Fs b) w { key := .string kk, val := .slice A l.length c, born := born } (kk, l) := fun born => ⟨rfl, (A, c), rfl, hh.ga _ (by simp), hh.ga _ (by simp)⟩;rw [← hFs] at hm;rcases hm.find kk with ⟨h1, h2, h3⟩ | ⟨j, e, l0, h1, h2, h3, h4⟩
 ·refine ⟨(), Fs, ChangeMaps.setBlock w b (.map (es.push { key := .string kk, val := .slice A l.length c, born := clock }) (clock + 1)), ?_, tr_set hh fun es1 clock1 hb1 hm1 => ?_⟩
  ·simp only [Instr.mapUpdate, Sem.run_bind, run_underlying ht, Result.andThen, MapKept.run_getObj_map hb, run_checkKey hk hkey, run_findKey hk h1, run_setObj_map _ hb]
   rfl
  ·rw [hb] at hb1; cases hb1;refine hm.put (stamped_push hm.stamped h3) (fun e he => ?_) ⟨_, by simp; exact .inr rfl, rfl⟩ (fun e he _ => by simp at he ⊢; exact .inl he);simp only [Array.toList_push, List.mem_append, List.mem_singleton] at he;rcases he with he | rfl
   ·exact .inl ⟨he, h3 e he⟩
   ·exact .inr (hnew _)
 ·have hej : es[j]? = some e := by simpa using h2
  refine ⟨(), Fs, ChangeMaps.setBlock w b (.map (es.modify j fun e => { e with key := .string kk, val := .slice A l.length c }) clock), ?_, tr_set hh fun es1 clock1 hb1 hm1 => ?_⟩
  ·simp only [Instr.mapUpdate, Sem.run_bind, run_underlying ht, Result.andThen, MapKept.run_getObj_map hb, run_checkKey hk hkey, run_findKey hk h1, hej, Option.map_some, Option.getD_some, h3.key, run_keyThatStays hkey, run_setObj_map _ hb]
   rfl
  ·rw [hb] at hb1; cases hb1;have hst : Stamped (es.modify j fun e => { e with key := .string kk, val := .slice A l.length c }) clock := by
    refine stamped_modify hm.stamped j _ (fun _ _ => rfl) (fun e' he' hj => ?_);rw [hej] at hj; cases hj;exact h3.key.symm
   refine hm.put hst (fun e' he => ?_) ⟨{ e with key := .string kk, val := .slice A l.length c }, ?_, rfl⟩ (fun e' he hne => ?_)
   ·obtain ⟨i, e0, hi, ⟨rfl, rfl⟩ | ⟨hne, rfl⟩⟩ := mem_modify he
    ·exact .inr (hnew _)
    ·exact .inl ⟨List.mem_of_getElem? hi, fun ek => hne (nodup_at hm.stamped.2.2 hi h2 (ek.trans h3.key.symm))⟩
   ·have := of_modify (i := j) (f := fun e => { e with key := .string kk, val := .slice A l.length c }) h2
    rwa [if_pos rfl] at this
   ·obtain ⟨i, hi⟩ := List.mem_iff_getElem?.1 he;have := of_modify (i := j) (f := fun e => { e with key := .string kk, val := .slice A l.length c }) hi
    rwa [if_neg (fun e' => by subst e'; rw [hi] at h2; cases h2; exact hne h3.key)] at this
theorem o_mupd {m k v : Operand} {t kt et : TypeId} {b i : Nat} {kk : ByteArray} {T : List File} {A : Option Addr} {c : Nat} {l : List Prim} {Ξ' : List Xsn} (ht : P.underlying t = some (.map kt et)) (hk : P.underlying kt = some .string)
  (hm : ev σ m = some (.map (some b))) (hx : ev σ k = some (.string kk)) (hv : ev σ v = some (.slice A l.length c)) (hs : takeAll [i] Ξ = some ([tr b T], Ξ')) (hg : Sub [slA A l, nilA (A, c)] Γ) :
  OpR P ⟨none, .mapUpdate t m k v, ty, pos, af, none⟩ (St M0 F0 w0 n σ Ξ Γ) (St M0 F0 w0 n σ (tr b (putT T kk l) :: Ξ') Γ) :=
 (o_locs (X := Unit) (Ξo := fun _ => [tr b (putT T kk l)]) (Γo := fun _ => []) (fun _ _ _ h => loc_mupd ht hk kk A c l h) (fun a hs w w' h => by simp only [execOp, hs.ev hm, hs.ev hx, hs.ev hv, Sem.run_bind, h, Result.andThen]; rfl) hs hg).mono fun a w ⟨_, h⟩ => h
theorem loc_mdel {M0 : Nat → Prop} {Fs : List (Nat → Prop)} {w : World} {t t2 kt et ty : TypeId} {b : Nat} {T : List File} (ht : P.underlying t = some (.map kt et)) (hk : P.underlying kt = some .string) (kk : ByteArray)
  (hh : Hp M0 (own Fs) w [tr b T] [] Fs w) : ∃ (x : Unit) (Fs' : List (Nat → Prop)) (w' : World), (Builtin.delete_ #[t, t2] ty #[.map (some b), .string kk]).run P w = .ok (.tuple #[]) w' ∧ Hp M0 (own Fs) w [tr b (delT T kk)] [] Fs' w' := by
 obtain ⟨F, hFs, hF, es, clock, hb, hm⟩ := hh.one_of;have hkey : IsKey .string (.string kk) := trivial;rw [← hFs] at hm;rcases hm.find kk with ⟨h1, h2, h3⟩ | ⟨j, e, l0, h1, h2, h3, h4⟩
 ·refine ⟨(), Fs, ChangeMaps.setBlock w b (.map es clock), ?_, tr_set hh fun es1 clock1 hb1 hm1 => ?_⟩
  ·simp [Builtin.delete_, run_underlying ht, Result.andThen, MapKept.run_getObj_map hb, run_checkKey hk hkey, run_findKey hk h1, run_setObj_map _ hb, ChangeMaps.setBlock]
  ·rw [hb] at hb1; cases hb1;exact hm.del hm.stamped (fun e he => ⟨he, h3 e he⟩) (fun e he _ => he)
 ·have hj : j < es.size := by simpa using (List.getElem?_eq_some_iff.1 h2).1
  refine ⟨(), Fs, ChangeMaps.setBlock w b (.map (es.eraseIdxIfInBounds j) clock), ?_, tr_set hh fun es1 clock1 hb1 hm1 => ?_⟩
  ·simp [Builtin.delete_, run_underlying ht, Result.andThen, MapKept.run_getObj_map hb, run_checkKey hk hkey, run_findKey hk h1, run_setObj_map _ hb, ChangeMaps.setBlock]
  ·rw [hb] at hb1; cases hb1;refine hm.del (stamped_erase hm.stamped j) (fun e' he => ?_) (fun e' he hne => ?_)
   ·obtain ⟨i, hne, hi⟩ := (mem_erase hj).1 he;exact ⟨List.mem_of_getElem? hi, fun ek => hne (nodup_at hm.stamped.2.2 hi h2 (ek.trans h3.key.symm))⟩
   ·obtain ⟨i, hi⟩ := List.mem_iff_getElem?.1 he;exact (mem_erase hj).2 ⟨i, fun e' => by subst e'; rw [hi] at h2; cases h2; exact hne h3.key, hi⟩
theorem o_mrange {m : Operand} {t kt et : TypeId} {b i : Nat} {T : List File} {Ξ' : List Xsn} (ht : P.underlying t = some (.map kt et)) (hm : ev σ m = some (.map (some b))) (hs : takeAll [i] Ξ = some ([tr b T], Ξ')) (hd : Nat.blt d n.n = true) :
  OpR P ⟨some d, .range t m, ty, pos, af, none⟩ (St M0 F0 w0 n σ Ξ Γ) (fun a w => ∃ r, St M0 F0 w0 n ((d, .pointer (some ⟨r, 0, none⟩)) :: σ) (mit b r T [] :: Ξ') Γ a w) := by
 refine (o_loc (run := fun w => (Instr.range t (.map (some b))).run P w) (X := Nat) (rv := fun r => .pointer (some ⟨r, 0, none⟩)) (Ξo := fun r => [mit b r T []]) (Γo := fun _ => []) (Γi := []) ?_ (fun a hs w v w' h => by simp [execOp, hs.ev hm, h, Result.andThen]) hs .d hd).mono fun a w h => h;intro M0 Fs w hh;obtain ⟨F, rfl, hF, es, clock, hb, hmm⟩ := hh.one_of;have hlt : b < w.heap.size := (Array.getElem?_eq_some_iff.1 hb).1;have ho : ∀ x, own [F] x ↔ F x := fun x => by simp [own]
 have hal := heap_alloc w (.mapIter (some b) clock #[] clock);refine ⟨w.heap.size, [fun x => x = b ∨ x = w.heap.size], _, run_range_map w t kt et b es clock ht hb, hh.oneG ⟨rfl, rfl, rfl, by simp, fun x hx _ => hal.2 x hx⟩ (fun x hx => ?_) (fun x hx => ?_) ⟨by omega, fun x => Iff.rfl, es, clock, clock, #[], clock, by rw [hal.2 b hlt, hb], hal.1, ?_, hmm.stamped.1, Nat.le_refl _, Nat.le_refl _, List.nodup_nil, (fun x hx => by cases hx), (fun e he => by simp), (fun x hx => by cases hx)⟩ (fun p hp => by cases hp)⟩
 ·rcases hx with rfl | rfl
  ·exact .inl ((hF _).2 rfl)
  ·exact .inr (Nat.le_refl _)
 ·rcases hx with rfl | rfl <;> simp <;> omega
 ·refine hmm.st (fun x hx _ => hal.2 x hx) (fun x hx hM => ?_) (by simp);rcases hM with hM | hM
  ·exact .inl hM
  ·refine .inr ((ho x).2 ((hF x).2 ?_));have : x = b ∨ x = w.heap.size := by simpa [own] using hM
   omega
theorem loc_nextS {M0 : Nat → Prop} {Fs : List (Nat → Prop)} {w : World} {ty : TypeId} {b r : Nat} {T K : List File} (hh : Hp M0 (own Fs) w [mit b r T K] [] Fs w) (hK : ∃ x ∈ T, x ∉ K) :
  ∃ (z : {z : File × (Option Addr × Nat) // z.1 ∈ T ∧ z.1 ∉ K}) (Fs' : List (Nat → Prop)) (w' : World), (Instr.next (.pointer (some ⟨r, 0, none⟩)) false ty).run P w = .ok (.tuple [.bool true, .string z.1.1.1, .slice z.1.2.1 z.1.1.2.length z.1.2.2].toArray) w' ∧
   Hp M0 (own Fs) w [mit b r T (K ++ [z.1.1])] [slA z.1.2.1 z.1.1.2, nilA z.1.2] Fs' w' := by
 obtain ⟨F, rfl, hbr, hF, es, clock, since, seen, c0, hb, hr, hm, hold, h1, h2, hKn, hKT, hseen, hlast⟩ := hh.one_of;have ho : ∀ x, own [F] x ↔ F x := fun x => by simp [own]
 rcases run_next_at (P := P) w ty r b since c0 seen es clock hr hb hold h1 with ⟨h3, _⟩ | ⟨e, he, w1, hw1, hrun⟩
 ·exfalso
  obtain ⟨x, hx, hxK⟩ := hK;obtain ⟨e, he, hke⟩ := hm.cov x hx;have hno : seen.contains e.born = false := by
   rw [← Bool.not_eq_true];intro hc;obtain ⟨x', hx', hk'⟩ := (hseen e he).1 hc;have := hm.so.key_eq (hKT x' hx') hx (key_inj (hk'.symm.trans hke));exact hxK (this ▸ hx')
  have : e ∈ (leftOf es seen).toList := by
   unfold leftOf;rw [Array.toList_filter, List.mem_filter];exact ⟨he, by simpa using hno⟩
  have h4 : (leftOf es seen).toList.length = 0 := by simpa using h3
  rw [List.eq_nil_of_length_eq_zero h4] at this;cases this
 ·have he' : e ∈ es.toList ∧ seen.contains e.born = false := by
   unfold leftOf at he;rw [Array.toList_filter, List.mem_filter] at he;exact ⟨he.1, by simpa using he.2⟩
  obtain ⟨x, hx, hxe⟩ := hm.ent e he'.1;obtain ⟨y, hy1, hy2, hy3⟩ := hxe.val;have hxK : x ∉ K := fun hxK => by
   have := (hseen e he'.1).2 ⟨x, hxK, hxe.key⟩;rw [he'.2] at this; cases this
  have hh1 : w1.heap = w.heap ∧ w1.os = w.os ∧ w1.tape = w.tape ∧ w1.output = w.output := by rcases hw1 with rfl | rfl <;> exact ⟨rfl, rfl, rfl, rfl⟩
  have hltr : r < w.heap.size := (Array.getElem?_eq_some_iff.1 hr).1;have hr1 : w1.heap[r]? = some (.mapIter (some b) since seen c0) := by rw [hh1.1]; exact hr
  have hset := heap_set (o' := .mapIter (some b) since (seen.push e.born) clock) hr1;have hsz : (ChangeMaps.setBlock w1 r (.mapIter (some b) since (seen.push e.born) clock)).heap.size = w.heap.size := by simp [ChangeMaps.setBlock, hh1.1]
  have hblk : ∀ x, x ≠ r → (ChangeMaps.setBlock w1 r (.mapIter (some b) since (seen.push e.born) clock)).heap[x]? = w.heap[x]? := fun x hx => (hset.2 x hx).trans (by rw [hh1.1]);have hstM : ∀ x, x < w.heap.size → ¬ (M0 x ∨ own [F] x) → (ChangeMaps.setBlock w1 r (.mapIter (some b) since (seen.push e.born) clock)).heap[x]? = w.heap[x]? := fun x _ hM => hblk x fun e => hM (.inr ((ho x).2 ((hF x).2 (.inr e))));refine ⟨⟨(x, y), hx, hxK⟩, [F], ChangeMaps.setBlock w1 r (.mapIter (some b) since (seen.push e.born) clock), ?_, hh.oneG ⟨hh1.2.1, hh1.2.2.1, hh1.2.2.2, Nat.le_of_eq hsz.symm, fun x _ hn => hblk x fun e => hn ((hF x).2 (.inr e))⟩ (fun x h => .inl h) (fun x h => hsz ▸ hh.lt x ((ho x).2 h))
   ⟨hbr, hF, es, clock, since, seen.push e.born, clock, by rw [hblk b hbr, hb], hset.1, hm.st hstM (fun _ _ h => h) (Nat.le_of_eq hsz.symm), hold, h2, h2, ?_, ?_, ?_, ?_⟩ ?_⟩
  ·rw [hrun, hxe.key, hy1]
  ·exact List.nodup_append.2 ⟨hKn, by simp, fun a ha b hb e => hxK (by simp at hb; exact hb ▸ e ▸ ha)⟩
  ·intro z hz;rcases List.mem_append.1 hz with hz | hz
   ·exact hKT z hz
   ·rw [List.mem_singleton.1 hz]; exact hx
  ·intro e2 he2;rw [contains_push, Bool.or_eq_true, hseen e2 he2];constructor
   ·rintro (⟨x', h, k⟩ | h)
    ·exact ⟨x', List.mem_append.2 (.inl h), k⟩
    ·obtain ⟨i, hi⟩ := List.mem_iff_getElem?.1 he2;obtain ⟨j, hj⟩ := List.mem_iff_getElem?.1 he'.1;have := nodup_at (f := (·.born)) hm.stamped.2.1 hi hj (by simpa using h);subst this;rw [hi] at hj; cases hj;exact ⟨x, by simp, hxe.key⟩
   ·rintro ⟨x', h, k⟩;rcases List.mem_append.1 h with h | h
    ·exact .inl ⟨x', h, k⟩
    ·rw [List.mem_singleton.1 h] at k;obtain ⟨i, hi⟩ := List.mem_iff_getElem?.1 he2;obtain ⟨j, hj⟩ := List.mem_iff_getElem?.1 he'.1;have := nodup_at (f := (·.key)) hm.stamped.2.2 hi hj (k.trans hxe.key.symm);subst this;rw [hi] at hj; cases hj;exact .inr (by simp)
  ·intro x' hx';rw [List.getLast?_concat] at hx';cases hx';exact ⟨rfl, e, he'.1, hxe.key, by simp⟩
  ·intro p hp;rcases List.mem_cons.1 hp with rfl | hp
   ·exact (slA y.1 x.2).st _ _ _ _ hy2 hstM (fun _ _ h => h) (Nat.le_of_eq hsz.symm)
   ·rw [List.mem_singleton.1 hp];exact (nilA y).st _ _ _ _ hy3 hstM (fun _ _ h => h) (Nat.le_of_eq hsz.symm)
theorem o_mnextS {it : Operand} {b r i : Nat} {T K : List File} {Ξ' : List Xsn} (hx : ev σ it = some (.pointer (some ⟨r, 0, none⟩))) (hs : takeAll [i] Ξ = some ([mit b r T K], Ξ')) (hK : ∃ x ∈ T, x ∉ K) (hd : Nat.blt d n.n = true) :
  OpR P ⟨some d, .next it false, ty, pos, af, none⟩ (St M0 F0 w0 n σ Ξ Γ) (fun a w => ∃ z : {z : File × (Option Addr × Nat) // z.1 ∈ T ∧ z.1 ∉ K},
   St M0 F0 w0 n ((d, .tuple [.bool true, .string z.1.1.1, .slice z.1.2.1 z.1.1.2.length z.1.2.2].toArray) :: σ) (mit b r T (K ++ [z.1.1]) :: Ξ') (slA z.1.2.1 z.1.1.2 :: nilA z.1.2 :: Γ) a w) :=
 (o_loc (run := fun w => (Instr.next (.pointer (some ⟨r, 0, none⟩)) false ty).run P w) (Γi := []) (X := {z : File × (Option Addr × Nat) // z.1 ∈ T ∧ z.1 ∉ K}) (rv := fun z => .tuple [.bool true, .string z.1.1.1, .slice z.1.2.1 z.1.1.2.length z.1.2.2].toArray)
  (Ξo := fun z => [mit b r T (K ++ [z.1.1])]) (Γo := fun z => [slA z.1.2.1 z.1.1.2, nilA z.1.2]) (fun _ _ _ h => loc_nextS h hK) (fun a hs w v w' h => by simp only [execOp, hs.ev hx, Sem.run_bind, h, Result.andThen]; rfl) hs .d hd).mono fun a w h => h
theorem o_mnextN {it : Operand} {b r i : Nat} {T K : List File} (hx : ev σ it = some (.pointer (some ⟨r, 0, none⟩))) (hi : At (mit b r T K) i Ξ) (hK : ¬ ∃ x ∈ T, x ∉ K) (hd : Nat.blt d n.n = true) :
  OpR P ⟨some d, .next it false, ty, pos, af, none⟩ (St M0 F0 w0 n σ Ξ Γ) (St M0 F0 w0 n ((d, .tuple [.bool false].toArray) :: σ) Ξ Γ) :=
 OpR.of_run rfl fun a w ⟨hs, Fs, hh⟩ => by
  obtain ⟨F, _, hbr, hF, es, clock, since, seen, c0, hb, hr, hm, hold, h1, h2, hKn, hKT, hseen, hlast⟩ := hh.ex.at hi.get;refine ⟨_, w, ?_, hs.put hd, Fs, hh⟩;rcases run_next_at (P := P) w ty r b since c0 seen es clock hr hb hold h1 with ⟨h3, hrun⟩ | ⟨e, he, w1, hw1, hrun⟩
  ·simp only [execOp, hs.ev hx, Sem.run_bind, hrun, Result.andThen]; rfl
  ·exfalso
   unfold leftOf at he;rw [Array.toList_filter, List.mem_filter] at he;obtain ⟨x, hx, hxe⟩ := hm.ent e he.1;refine hK ⟨x, hx, fun hxK => ?_⟩;have := (hseen e he.1).2 ⟨x, hxK, hxe.key⟩;have h5 : seen.contains e.born = false := by simpa using he.2
   rw [this] at h5; cases h5
theorem _root_.Go.Sx.St.trS {i b : Nat} {T : List File} (hi : At (Sh.tr b T) i Ξ) : ∀ a w, St M0 F0 w0 n σ Ξ Γ a w → Sor T := fun a w ⟨_, Fs, hh⟩ => by
 obtain ⟨es, clock, _, h⟩ := hh.trS hi;exact h.so
theorem _root_.Go.Sx.St.mitS {i b r : Nat} {T K : List File} (hi : At (Sh.mit b r T K) i Ξ) : ∀ a w, St M0 F0 w0 n σ Ξ Γ a w → Sor T ∧ K.Nodup ∧ ∀ x ∈ K, x ∈ T := fun a w ⟨_, Fs, hh⟩ => by
 obtain ⟨F, _, hbr, hF, es, clock, since, seen, c0, hb, hr, hm, hold, h1, h2, hKn, hKT, hseen, hlast⟩ := hh.ex.at hi.get;exact ⟨hm.so, hKn, hKT⟩
end
theorem perm_of_all {K T : List File} (hT : Sor T) (hn : K.Nodup) (hs : ∀ x ∈ K, x ∈ T) (hx : ¬ ∃ x ∈ T, x ∉ K) : K.Perm T :=
 (List.perm_ext_iff_of_nodup hn hT.nodup).2 fun x => ⟨hs x, fun h => Classical.byContradiction fun k => hx ⟨x, h, k⟩⟩
theorem eq_of_all {T U : List File} (hT : Sor T) (hU : Sor U) (hl : T.length = U.length) (h : ∀ x ∈ T, getT U x.1 = some x.2) : T = U := by
 have hs : ∀ x ∈ T, x ∈ U := fun x hx => (getT_some hU).1 (h x hx);refine sor_ext hT hU fun x => ⟨hs x, fun hx => Classical.byContradiction fun hn => ?_⟩;have := nodup_lt hT.nodup hs ⟨x, hx, hn⟩;omega
theorem ne_of_one {T U : List File} (hT : Sor T) {x : File} (hx : x ∈ T) (h : ¬ getT U x.1 = some x.2) : ¬ T = U := fun e => h (by subst e; exact (getT_some hT).2 hx)
section
variable {ro : Option Nat} {P : Program} {M0 F0 : Nat → Prop} {w0 : World} {n : Nm} {σ : List (Nat × Value)} {Ξ : List Xsn} {Γ : List Asn} {d : Nat} {ty : TypeId} {pos : String} {af : Array Edge}
variable {ops : Array Oper} {Q : Exit → Act → World → Prop} {S S' : Act → World → Prop}
theorem o_mdel0 {m k : Operand} {t t2 kt et : TypeId} {b i : Nat} {kk : ByteArray} {T : List File} {Ξ' : List Xsn} (ht : P.underlying t = some (.map kt et)) (hk : P.underlying kt = some .string)
  (hm : ev σ m = some (.map (some b))) (hx : ev σ k = some (.string kk)) (hs : takeAll [i] Ξ = some ([tr b T], Ξ')) :
  OpR P ⟨none, .call ⟨.builtin .delete, #[m, k], #[t, t2]⟩, ty, pos, af, none⟩ (St M0 F0 w0 n σ Ξ Γ) (St M0 F0 w0 n σ (tr b (delT T kk) :: Ξ') Γ) :=
 OpR.of_run rfl fun a w ⟨hsl, Fs, hh⟩ => by
  obtain ⟨Gs, Hs, hp, hin, hr'⟩ := hh.select (Γi := []) hs (fun p hp => by cases hp);obtain ⟨x, Fs', w', h1, h2⟩ := loc_mdel (t2 := t2) (ty := ty) ht hk kk hin;exact ⟨.tuple #[], w', by simp [execOp, resolve, invoke, builtin, hsl.ev hm, hsl.ev hx, h1, Result.andThen], hsl, _, hh.back hp hr' h2⟩
theorem o_mentry {it : Operand} {b r i : Nat} {T K : List File} {x : File} (hx : ev σ it = some (.pointer (some ⟨r, 0, none⟩))) (hi : At (mit b r T (K ++ [x])) i Ξ) (hd : Nat.blt d n.n = true) :
  OpR P ⟨some d, .entry it, ty, pos, af, none⟩ (St M0 F0 w0 n σ Ξ Γ) (fun a w => ∃ y : Option Addr × Nat, St M0 F0 w0 n ((d, .tuple [.string x.1, .slice y.1 x.2.length y.2].toArray) :: σ) Ξ (slA y.1 x.2 :: nilA y :: Γ) a w) :=
 OpR.of_run rfl fun a w ⟨hs, Fs, hh⟩ => by
  obtain ⟨F, _, hbr, hF, es, clock, since, seen, c0, hb, hr, hm, hold, h1, h2, hKn, hKT, hseen, hlast⟩ := hh.ex.at hi.get;obtain ⟨rfl, e, he, hke, hbk⟩ := hlast x (List.getLast?_concat ..);obtain ⟨x', hx', hxe⟩ := hm.ent e he;have : x' = x := hm.so.key_eq hx' (hKT x (by simp)) (key_inj (hxe.key.symm.trans hke));subst this;obtain ⟨y, hy1, hy2, hy3⟩ := hxe.val;have hf : es.find? (fun e' => e'.born == e.born) = some e := by rw [← Array.find?_toList]; exact find_born e es.toList hm.stamped.2.1 he
  have hrun : (Instr.entry (.pointer (some ⟨r, 0, none⟩))).run P w = .ok (.tuple #[e.key, e.val]) w := by
   simp only [Instr.entry, getObj, Sem.run_bind, Sem.run, hr, hb, Result.andThen, hbk, bne_self_eq_false, Bool.false_eq_true, if_false, hf]
   rfl
  refine ⟨_, w, by simp only [execOp, hs.ev hx, Sem.run_bind, hrun, Result.andThen, hxe.key, hy1]; rfl, y, hs.put hd, Fs, { hh with ga := fun p hp => ?_ }⟩;rcases List.mem_cons.1 hp with rfl | hp
  ·exact hy2
  ·rcases List.mem_cons.1 hp with rfl | hp
   ·exact hy3
   ·exact hh.ga p hp
theorem o_mclone {x : Operand} {f : FuncId} {fn : Func} {t : TypeId} {tys : Array TypeId} {b i : Nat} {T : List File} (hf : P.funcs[f]? = some fn) (hname : (fn.name == "runtime.NumGoroutine") = false)
  (hbd : fn.body.isNone = true) (hn : Extern.findNext fn = none) (he : Extern.find fn = some Extern.MapsClone.clone) (hx : ev σ x = some (.iface t (.map (some b)))) (hi : At (tr b T) i Ξ) (hd : Nat.blt d n.n = true) :
  OpR P ⟨some d, .call ⟨.value (.func f), #[x], tys⟩, ty, pos, af, none⟩ (St M0 F0 w0 n σ Ξ Γ) (fun a w => ∃ b', St M0 F0 w0 n ((d, .iface t (.map (some b'))) :: σ) (tr b' T :: Ξ) Γ a w) :=
 OpR.of_run rfl fun a w ⟨hs, Fs, hh⟩ => by
  obtain ⟨es, clock, hb, hm⟩ := hh.trS hi;have hlt : b < w.heap.size := (Array.getElem?_eq_some_iff.1 hb).1;obtain ⟨Fs', h1⟩ := hh.allocO (.map es clock);obtain ⟨es2, clock2, hb2, hm2⟩ := h1.trS (i := i + 1) (.s hi);rw [(heap_alloc w _).2 b hlt, hb] at hb2;cases hb2;obtain ⟨Fs2, h2⟩ := h1.conv1 (x' := tr w.heap.size T) (fun F h => ⟨F, fun _ h => h, h.1, es, clock, h.2, hm2⟩);refine ⟨_, _, ?_, w.heap.size, hs.put hd, Fs2, h2⟩;have e1 : (#[x] : Array Operand).map a.eval = #[.iface t (.map (some b))] := by simp [hs.ev hx]
  have e2 := run_callFunc_extern hf hname hbd hn he #[.iface t (.map (some b))] w;rw [run_mclone t hb] at e2;simp only [Result.andThen] at e2;simp only [execOp, resolve, Deferred.ofValue, Act.eval, invoke];simp [hs.ev hx, e2]
end
end Go.Sx.Sh
end
section
namespace Go.Proofs.YtbhnolfcdcpbkaaGreatDoor.X
open Go Go.RowKit Go.Proofs Go.Sx
/-! A repository: the log, what is pending, and shelves. -/
/-! what is brought ahead -/
theorem splK_fit (W : Nat → Bool) (l : List Prim) (hl : ∀ x ∈ l, x.fit) : ∀ (k : Nat), k ≤ l.length → (∀ x ∈ (splK W l k).1, x.fit) ∧ ∀ x ∈ (splK W l k).2, x.fit := by
 intro k
 induction k with
 | zero => intro _; exact ⟨fun x hx => (by cases hx), fun x hx => (by cases hx)⟩
 | succ k ih =>
  intro hk;have ih := ih (by omega);have h1 : ∀ x ∈ [l[k]], x.fit := fun x hx => by rw [List.mem_singleton.1 hx]; exact hl _ (List.getElem_mem _)
  rw [splK, List.getElem?_eq_getElem (by omega)];dsimp only
  split
  ·have h2 := swT_fit (l := (splK W l k).2) (m := [l[k]]) rfl ih.2 h1;exact ⟨fun x hx => (List.mem_append.1 hx).elim (ih.1 x) (h2.1 x), h2.2⟩
  ·exact ⟨ih.1, fun x hx => (List.mem_append.1 hx).elim (ih.2 x) (h1 x)⟩
theorem splK_lns (W : Nat → Bool) (l : List Prim) : ∀ (k : Nat), k ≤ l.length → lns (splK W l k).1 + lns (splK W l k).2 = lns (l.take k) := by
 intro k
 induction k with
 | zero => intro _; rfl
 | succ k ih =>
  intro hk;have ih := ih (by omega);rw [List.take_succ_eq_append_getElem (by omega), lns_app, ← ih, splK, List.getElem?_eq_getElem (by omega)];dsimp only
  split
  ·rename_i hc
   simp only [Bool.and_eq_true] at hc;have h2 := swT_lns (l := (splK W l k).2) (m := [l[k]]) (f := (swT (splK W l k).2 [l[k]]).1) (s := (swT (splK W l k).2 [l[k]]).2.1) (by rw [← hc.2]);dsimp only;rw [lns_app, h2.1, h2.2]; omega
  ·dsimp only; rw [lns_app]; omega
theorem splK_congr {W W' : Nat → Bool} {l : List Prim} : ∀ (n : Nat), (∀ k, k < n → W k = W' k) → splK W l n = splK W' l n := by
 intro n
 induction n with
 | zero => intro _; rfl
 | succ n ih =>
  intro h;rw [splK, splK, ih (fun k hk => h k (by omega)), h n (by omega)]
structure RS where
 log : List Patch
 pend : List Prim
 shv : List Sh.File
def treeR (s : RS) : List File := (rowT (treeP s.log) s.pend).1
def wantP (files : List ByteArray) (p : Prim) : Bool := decide (files.length = 0) || files.any fun f => (refNames p).any fun n => decide (n = f)
def spW (l : List Prim) (files : List ByteArray) (t : Bool) (k : Nat) : Bool := match l[k]? with
 | some p => wantP files p != t
 | none => false
def splR (l : List Prim) (files : List ByteArray) (t : Bool) : List Prim × List Prim := splK (spW l files t) l l.length
def rChange (s : RS) (l : List Prim) : RS × Int := if (rowT (treeR s) l).2 = 0 then (⟨s.log, s.pend ++ l, s.shv⟩, 0) else (s, (rowT (treeR s) l).2)
def rRecord (s : RS) (p : Patch) (files : List ByteArray) : RS × Int :=
 if (splR s.pend files false).1 = [] then (s, 141) else
 if (addD s.log { p with l := (splR s.pend files false).1 }).2 = 0 then (⟨(addD s.log { p with l := (splR s.pend files false).1 }).1, (splR s.pend files false).2, s.shv⟩, 0)
 else (s, (addD s.log { p with l := (splR s.pend files false).1 }).2)
def moreP (l : List Patch) (F : List Prim) : Patch := { l.getLastD Patch.zero with l := (l.getLastD Patch.zero).l ++ F }
def rAmend (s : RS) (id : Int) (files : List ByteArray) : RS × Int :=
 if ¬ (lastP s.log id).2 = 0 then (s, (lastP s.log id).2) else
 if (splR s.pend files false).1 = [] then (s, 141) else
 if (addD (lastP s.log id).1.dropLast (moreP (lastP s.log id).1 (splR s.pend files false).1)).2 = 0 then (⟨(addD (lastP s.log id).1.dropLast (moreP (lastP s.log id).1 (splR s.pend files false).1)).1, (splR s.pend files false).2, s.shv⟩, 0)
 else (s, (addD (lastP s.log id).1.dropLast (moreP (lastP s.log id).1 (splR s.pend files false).1)).2)
def rUnrec (s : RS) (id : Int) : RS × Int :=
 if ¬ (lastP s.log id).2 = 0 then (s, (lastP s.log id).2) else (⟨(lastP s.log id).1.dropLast, ((lastP s.log id).1.getLastD Patch.zero).l ++ s.pend, s.shv⟩, 0)
def rRevert (s : RS) (files : List ByteArray) : (RS × List Prim) × Int :=
 if (splR s.pend files true).2 = [] then ((s, []), 141) else ((⟨s.log, (splR s.pend files true).1, s.shv⟩, invL (splR s.pend files true).2), 0)
def rShelve (s : RS) (nm : ByteArray) (files : List ByteArray) : (RS × List Prim) × Int :=
 if nameOk nm = false ∨ Sh.hasT s.shv nm = true ∨ 3 ≤ s.shv.length then ((s, []), 140) else
 if (splR s.pend files true).2 = [] then ((s, []), 141) else
 ((⟨s.log, (splR s.pend files true).1, Sh.putT s.shv nm (splR s.pend files true).2⟩, invL (splR s.pend files true).2), 0)
def rUnshelve (s : RS) (nm : ByteArray) : (RS × List Prim) × Int :=
 if Sh.hasT s.shv nm = false then ((s, []), 140) else
 if (rowT (treeR s) (Sh.getL s.shv nm)).2 = 0 then ((⟨s.log, s.pend ++ Sh.getL s.shv nm, Sh.delT s.shv nm⟩, Sh.getL s.shv nm), 0) else ((s, []), (rowT (treeR s) (Sh.getL s.shv nm)).2)
def shz (S : List Sh.File) : Nat := (S.map fun x => lns x.2).sum
def shy (S : List Sh.File) : Nat := (S.map fun x => x.2.length).sum
structure RepI (m n : Nat) (s : RS) : Prop where
 log : LogI m n s.log (treeP s.log)
 runs : Runs (treeP s.log) s.pend (treeR s)
 fit : ∀ x ∈ s.pend, x.fit
 so : Sh.Sor s.shv
 sfit : ∀ x ∈ s.shv, nameOk x.1 = true ∧ x.2 ≠ [] ∧ ∀ p ∈ x.2, p.fit
 c3 : s.shv.length ≤ 3
 z : lns (pl s.log) + lns s.pend + shz s.shv ≤ m
 y : (pl s.log).length + s.pend.length + shy s.shv ≤ n
theorem LogI.tight {m n m' n' : Nat} {l : List Patch} {T : List File} (h : LogI m' n' l T) (hz : lns (pl l) ≤ m) (hy : (pl l).length ≤ n) : LogI m n l T := ⟨h.ok, h.d, hz, hy⟩
theorem rowT_yes {T : List File} {l : List Prim} (h : (rowT T l).2 = 0) : Runs T l (rowT T l).1 := rowT_runs (Prod.ext rfl h)
theorem rowT_stay {T : List File} {l : List Prim} (h : ¬ (rowT T l).2 = 0) : (rowT T l).1 = T := rowT_no (e := (rowT T l).2) rfl h
theorem RepI.app {m n : Nat} {s : RS} (h : RepI m n s) : AppInv (m + m) (n + n) (treeR s) :=
 inv_mono (runs_inv h.runs h.log.app) (by have := news_lns s.pend; have := h.z; omega) (by have := h.y; omega)
theorem treeR_of {s : RS} {U : List File} (h : Runs (treeP s.log) s.pend U) : treeR s = U := by unfold treeR; rw [rowT_ok h]
theorem RepI.nil : RepI 0 0 ⟨[], [], []⟩ := ⟨LogI.nil, rfl, (fun x hx => by cases hx), Sh.Sor.nil, (fun x hx => by cases hx), Nat.zero_le _, Nat.le_refl _, Nat.le_refl _⟩
theorem RepI.mono {m n m' n' : Nat} {s : RS} (h : RepI m n s) (hm : m ≤ m') (hn : n ≤ n') : RepI m' n' s := ⟨h.log.mono hm hn, h.runs, h.fit, h.so, h.sfit, h.c3, Nat.le_trans h.z hm, Nat.le_trans h.y hn⟩
/-! Change -/
theorem RepI.change {m n : Nat} {s : RS} (h : RepI m n s) {l : List Prim} (hl : ∀ x ∈ l, x.fit) : RepI (m + lns l) (n + l.length) (rChange s l).1 ∧ treeR (rChange s l).1 = (rowT (treeR s) l).1 ∧ (rChange s l).2 = (rowT (treeR s) l).2 := by
 unfold rChange
 by_cases h0 : (rowT (treeR s) l).2 = 0
 ·rw [if_pos h0];have h1 := rowT_yes h0;have h2 : Runs (treeP s.log) (s.pend ++ l) (rowT (treeR s) l).1 := runs_app.2 ⟨_, h.runs, h1⟩;have h3 : treeR ⟨s.log, s.pend ++ l, s.shv⟩ = (rowT (treeR s) l).1 := treeR_of h2;refine ⟨⟨h.log.mono (by omega) (by omega), by rw [h3]; exact h2, fun x hx => (List.mem_append.1 hx).elim (h.fit x) (hl x), h.so, h.sfit, h.c3, ?_, ?_⟩, h3, h0.symm⟩
  ·have := h.z; dsimp only; rw [lns_app]; omega
  ·have := h.y; dsimp only; rw [List.length_append]; omega
 ·rw [if_neg h0];exact ⟨h.mono (by omega) (by omega), (rowT_stay h0).symm, rfl⟩
/-! Record -/
theorem addD_ok {l : List Patch} {q : Patch} (h : (addD l q).2 = 0) : addD l q = (l ++ [q], 0) ∧ (rowT (treeP l) q.l).2 = 0 := by
 unfold addD at h ⊢
 by_cases h1 : q.right = false
 ·rw [if_pos h1] at h; exact absurd h (by simp)
 rw [if_neg h1] at h ⊢
 by_cases h2 : 0 ≤ atP l q.id
 ·rw [if_pos h2] at h; exact absurd h (by simp)
 rw [if_neg h2] at h ⊢
 by_cases h3 : (q.deps.any fun d => decide (atP l d < 0)) = true
 ·rw [if_pos h3] at h; exact absurd h (by simp)
 rw [if_neg h3] at h ⊢
 by_cases h4 : (rowT (treeP l) q.l).2 = 0
 ·rw [if_pos h4]; exact ⟨rfl, h4⟩
 ·rw [if_neg h4] at h; exact absurd h h4
theorem addD_no {l : List Patch} {q : Patch} (h : ¬ (addD l q).2 = 0) : (addD l q).1 = l := by
 unfold addD at h ⊢
 by_cases h1 : q.right = false
 ·rw [if_pos h1]
 rw [if_neg h1] at h ⊢
 by_cases h2 : 0 ≤ atP l q.id
 ·rw [if_pos h2]
 rw [if_neg h2] at h ⊢
 by_cases h3 : (q.deps.any fun d => decide (atP l d < 0)) = true
 ·rw [if_pos h3]
 rw [if_neg h3] at h ⊢
 by_cases h4 : (rowT (treeP l) q.l).2 = 0
 ·rw [if_pos h4] at h; exact absurd rfl h
 ·rw [if_neg h4]
structure SplI (T U : List File) (l F R : List Prim) : Prop where
 runs : ∃ M, Runs T F M ∧ Runs M R U
 ff : ∀ x ∈ F, x.fit
 fr : ∀ x ∈ R, x.fit
 z : lns F + lns R = lns l
 y : F.length + R.length = l.length
theorem splR_ok {T U : List File} {l : List Prim} (hS : Sor T) (hr : Runs T l U) (hf : ∀ x ∈ l, x.fit) (files : List ByteArray) (t : Bool) : SplI T U l (splR l files t).1 (splR l files t).2 := by
 have h1 := splK_runs (spW l files t) l hS l.length (Nat.le_refl _) (U := U) (by rw [List.take_length]; exact hr);have h2 := splK_fit (spW l files t) l hf l.length (Nat.le_refl _);have h3 := splK_lns (spW l files t) l l.length (Nat.le_refl _);rw [List.take_length] at h3;exact ⟨runs_app.1 h1, h2.1, h2.2, h3, splK_len _ _ _ (Nat.le_refl _)⟩
theorem RepI.split {m n : Nat} {s : RS} (h : RepI m n s) (files : List ByteArray) (t : Bool) : SplI (treeP s.log) (treeR s) s.pend (splR s.pend files t).1 (splR s.pend files t).2 := splR_ok h.log.good.1 h.runs h.fit files t
theorem lns_plsnoc (l : List Patch) (q : Patch) : lns (pl (l ++ [q])) = lns (pl l) + lns q.l := by rw [pl_app, pl_one, lns_app]
theorem len_plsnoc (l : List Patch) (q : Patch) : (pl (l ++ [q])).length = (pl l).length + q.l.length := by rw [pl_app, pl_one, List.length_append]
theorem RepI.record {m n : Nat} {s : RS} (h : RepI m n s) {p : Patch} (hp : p.note.size ≤ 2000000 ∧ p.deps.length ≤ 2000000) (hn : n ≤ 2000000) (files : List ByteArray) : RepI m n (rRecord s p files).1 ∧ treeR (rRecord s p files).1 = treeR s := by
 have hs := h.split files false;unfold rRecord
 by_cases h1 : (splR s.pend files false).1 = []
 ·rw [if_pos h1]; exact ⟨h, rfl⟩
 rw [if_neg h1]
 by_cases h2 : (addD s.log { p with l := (splR s.pend files false).1 }).2 = 0
 ·rw [if_pos h2];have hy := h.y; have hsy := hs.y; have hz := h.z; have hsz := hs.z;have hq : ({ p with l := (splR s.pend files false).1 } : Patch).fit := ⟨hp.1, hp.2, by dsimp only; omega, hs.ff⟩;obtain ⟨e1, e2⟩ := addD_ok h2;have hL := (h.log.addP hq).2.2;rw [e1] at hL ⊢;obtain ⟨M, r1, r2⟩ := hs.runs;have hM : treeP (s.log ++ [{ p with l := (splR s.pend files false).1 }]) = M := by rw [treeP_snoc]; dsimp only; rw [rowT_ok r1]
  have hT : treeR ⟨s.log ++ [{ p with l := (splR s.pend files false).1 }], (splR s.pend files false).2, s.shv⟩ = treeR s := treeR_of (by rw [hM]; exact r2);refine ⟨⟨?_, by rw [hT, hM]; exact r2, hs.fr, h.so, h.sfit, h.c3, ?_, ?_⟩, hT⟩
  ·refine (hL.self).tight ?_ ?_
   ·rw [lns_plsnoc]; dsimp only; omega
   ·rw [len_plsnoc]; dsimp only; omega
  ·dsimp only; rw [lns_plsnoc]; dsimp only; omega
  ·dsimp only; rw [len_plsnoc]; dsimp only; omega
 ·rw [if_neg h2]; exact ⟨h, rfl⟩
/-! Amend, Unrecord -/
structure LastI (m n : Nat) (l : List Patch) (L : List Patch) : Prop where
 ex : ∃ U, LogI m n L.dropLast U ∧ Runs U (L.getLastD Patch.zero).l (treeP l)
 fit : (L.getLastD Patch.zero).fit
 eq : L.dropLast ++ [L.getLastD Patch.zero] = L
 z : lns (pl L.dropLast) + lns (L.getLastD Patch.zero).l = lns (pl l)
 y : (pl L.dropLast).length + (L.getLastD Patch.zero).l.length = (pl l).length
theorem LogI.lastI {m n : Nat} {l : List Patch} (h : LogI m n l (treeP l)) {v : Int} (h0 : (lastP l v).2 = 0) : LastI m n l (lastP l v).1 := by
 obtain ⟨s, b, e, _⟩ := lastP_id (l := l) (l' := (lastP l v).1) (v := v) (Prod.ext rfl h0);have hL := h.last v;have hw := (lastP_swp l v).swr.lns;rw [e] at hL hw ⊢;have e1 : (s ++ [b]).dropLast = s := by simp
 have e2 : (s ++ [b]).getLastD Patch.zero = b := by simp
 obtain ⟨U, h1, h2⟩ := hL.sub;rw [pl_one] at h2;refine ⟨⟨U, by rw [e1]; exact h1, by rw [e2]; exact h2⟩, by rw [e2]; exact hL.ok.fit b (by simp), by rw [e1, e2], ?_, ?_⟩
 ·rw [e1, e2, ← lns_plsnoc]; exact hw.1
 ·rw [e1, e2, ← len_plsnoc]; exact hw.2
theorem RepI.unrec {m n : Nat} {s : RS} (h : RepI m n s) (id : Int) : RepI m n (rUnrec s id).1 ∧ treeR (rUnrec s id).1 = treeR s := by
 unfold rUnrec
 by_cases h0 : (lastP s.log id).2 = 0
 ·rw [if_neg (by simp [h0])];have hl := h.log.lastI h0;obtain ⟨U, h1, h2⟩ := hl.ex;have hU := h1.tree;have hr : Runs (treeP (lastP s.log id).1.dropLast) (((lastP s.log id).1.getLastD Patch.zero).l ++ s.pend) (treeR s) := by rw [hU]; exact runs_app.2 ⟨_, h2, h.runs⟩
  have hT : treeR ⟨(lastP s.log id).1.dropLast, ((lastP s.log id).1.getLastD Patch.zero).l ++ s.pend, s.shv⟩ = treeR s := treeR_of hr;have hz := hl.z; have hy := hl.y; have hz' := h.z; have hy' := h.y;refine ⟨⟨h1.self.tight (by omega) (by omega), by rw [hT]; exact hr, fun x hx => (List.mem_append.1 hx).elim (hl.fit.lf x) (h.fit x), h.so, h.sfit, h.c3, ?_, ?_⟩, hT⟩
  ·dsimp only; rw [lns_app]; omega
  ·dsimp only; rw [List.length_append]; omega
 ·rw [if_pos h0]; exact ⟨h, rfl⟩
theorem RepI.amend {m n : Nat} {s : RS} (h : RepI m n s) (hn : n ≤ 2000000) (id : Int) (files : List ByteArray) : RepI m n (rAmend s id files).1 ∧ treeR (rAmend s id files).1 = treeR s := by
 have hs := h.split files false;unfold rAmend
 by_cases h0 : (lastP s.log id).2 = 0
 ·rw [if_neg (by simp [h0])]
  by_cases h1 : (splR s.pend files false).1 = []
  ·rw [if_pos h1]; exact ⟨h, rfl⟩
  rw [if_neg h1]
  by_cases h2 : (addD (lastP s.log id).1.dropLast (moreP (lastP s.log id).1 (splR s.pend files false).1)).2 = 0
  ·rw [if_pos h2];have hl := h.log.lastI h0;obtain ⟨U, k1, k2⟩ := hl.ex;have hz := hl.z; have hy := hl.y; have hz' := h.z; have hy' := h.y; have hsy := hs.y; have hsz := hs.z;have hq : (moreP (lastP s.log id).1 (splR s.pend files false).1).fit := ⟨hl.fit.nb, hl.fit.dl, by unfold moreP; dsimp only; rw [List.length_append]; omega, fun x hx => (List.mem_append.1 hx).elim (hl.fit.lf x) (hs.ff x)⟩;obtain ⟨e1, e2⟩ := addD_ok h2;have hL := (k1.addP hq).2.2;rw [e1] at hL ⊢;obtain ⟨M, r1, r2⟩ := hs.runs;have hU := k1.tree;have hM : treeP ((lastP s.log id).1.dropLast ++ [moreP (lastP s.log id).1 (splR s.pend files false).1]) = M := by
    rw [treeP_snoc, hU];unfold moreP;dsimp only;rw [rowT_ok (runs_app.2 ⟨_, k2, r1⟩)]
   have hT : treeR ⟨(lastP s.log id).1.dropLast ++ [moreP (lastP s.log id).1 (splR s.pend files false).1], (splR s.pend files false).2, s.shv⟩ = treeR s := treeR_of (by rw [hM]; exact r2);have hml : (moreP (lastP s.log id).1 (splR s.pend files false).1).l = ((lastP s.log id).1.getLastD Patch.zero).l ++ (splR s.pend files false).1 := rfl;refine ⟨⟨?_, by rw [hT, hM]; exact r2, hs.fr, h.so, h.sfit, h.c3, ?_, ?_⟩, hT⟩
   ·refine (hL.self).tight ?_ ?_
    ·rw [lns_plsnoc, hml, lns_app]; omega
    ·rw [len_plsnoc, hml, List.length_append]; omega
   ·dsimp only; rw [lns_plsnoc, hml, lns_app]; omega
   ·dsimp only; rw [len_plsnoc, hml, List.length_append]; omega
  ·rw [if_neg h2]; exact ⟨h, rfl⟩
 ·rw [if_pos h0]; exact ⟨h, rfl⟩
/-! Revert, Shelve, Unshelve -/
theorem shz_del {S : List Sh.File} (hS : Sh.Sor S) {k : ByteArray} {l : List Prim} (h : Sh.getT S k = some l) : shz (Sh.delT S k) + lns l = shz S ∧ shy (Sh.delT S k) + l.length = shy S := by
 induction S with
 | nil => simp [Sh.getT] at h
 | cons x S ih =>
  obtain ⟨h1, h2⟩ := List.pairwise_cons.1 hS
  by_cases hx : x.1 = k
  ·have e : x.2 = l := by
    unfold Sh.getT at h;rw [List.find?_cons_of_pos (by simpa using hx)] at h
    simpa using h
   have ed : Sh.delT (x :: S) k = S := by
    unfold Sh.delT;rw [List.filter_cons_of_neg (by simpa using hx), List.filter_eq_self];intro y hy;have := h1 y hy;simp only [decide_eq_true_eq];rw [← hx];exact fun e => kl_ne this e.symm
   rw [ed];unfold shz shy;simp only [List.map_cons, List.sum_cons, e];omega
  ·have h' : Sh.getT S k = some l := by
    unfold Sh.getT at h ⊢
    rwa [List.find?_cons_of_neg (by simpa using hx)] at h
   have ed : Sh.delT (x :: S) k = x :: Sh.delT S k := by
    unfold Sh.delT;rw [List.filter_cons_of_pos (by simpa using hx)]
   have := ih h2 h';rw [ed];unfold shz shy at this ⊢;simp only [List.map_cons, List.sum_cons];omega
theorem del_none {S : List Sh.File} {k : ByteArray} (h : Sh.hasT S k = false) : Sh.delT S k = S := by
 unfold Sh.delT;rw [List.filter_eq_self];intro x hx;simp only [decide_eq_true_eq];have : Sh.getT S k = none := by unfold Sh.hasT at h; simpa using h
 exact Sh.getT_none.1 this x hx
theorem filt_two (S : List Sh.File) (k : ByteArray) (hk : ∀ x ∈ S, x.1 ≠ k) (f : Sh.File → Nat) : ((S.filter fun x => decide (kl x.1 k)).map f).sum + ((S.filter fun x => decide (kl k x.1)).map f).sum = (S.map f).sum := by
 induction S with
 | nil => rfl
 | cons x S ih =>
  have ih := ih (fun y hy => hk y (by simp [hy]))
  by_cases h1 : kl x.1 k
  ·have h2 : ¬ kl k x.1 := fun h2 => absurd (kl_trans h1 h2) (kl_irrefl _);rw [List.filter_cons_of_pos (by simpa using h1), List.filter_cons_of_neg (by simpa using h2)];simp only [List.map_cons, List.sum_cons]; omega
  ·have h2 : kl k x.1 := Classical.byContradiction fun h2 => hk x (by simp) (kl_tri h1 h2);rw [List.filter_cons_of_neg (by simpa using h1), List.filter_cons_of_pos (by simpa using h2)];simp only [List.map_cons, List.sum_cons]; omega
theorem put_sum {S : List Sh.File} {k : ByteArray} {l : List Prim} (h : Sh.hasT S k = false) (f : Sh.File → Nat) : ((Sh.putT S k l).map f).sum = (S.map f).sum + f (k, l) := by
 have hk : ∀ x ∈ S, x.1 ≠ k := Sh.getT_none.1 (by unfold Sh.hasT at h; simpa using h);unfold Sh.putT;rw [del_none h, List.map_append, List.sum_append, List.map_cons, List.sum_cons];have e : ∀ a b c d : Nat, a + b = c → a + (d + b) = c + d := by omega
 exact e _ _ _ _ (filt_two S k hk f)
theorem RepI.revert {m n : Nat} {s : RS} (h : RepI m n s) (files : List ByteArray) : RepI m n (rRevert s files).1.1 ∧ (∀ p ∈ (rRevert s files).1.2, p.fit) ∧ ((rRevert s files).2 = 0 → rowT (treeR s) (rRevert s files).1.2 = (treeR (rRevert s files).1.1, 0)) := by
 have hs := h.split files true;unfold rRevert
 by_cases h1 : (splR s.pend files true).2 = []
 ·rw [if_pos h1]; exact ⟨h, (fun x hx => by cases hx), fun h => absurd h (by simp)⟩
 rw [if_neg h1];obtain ⟨M, r1, r2⟩ := hs.runs;have hT : treeR ⟨s.log, (splR s.pend files true).1, s.shv⟩ = M := treeR_of r1;have hz := h.z; have hy := h.y; have hsz := hs.z; have hsy := hs.y;refine ⟨⟨h.log, by rw [hT]; exact r1, hs.ff, h.so, h.sfit, h.c3, by dsimp only; omega, by dsimp only; omega⟩, invL_fit hs.fr, fun _ => ?_⟩;rw [hT];exact rowT_ok (runs_back (runs_sor r1 h.log.good.1) (runs_good r1 h.log.good.2) r2)
theorem RepI.shelve {m n : Nat} {s : RS} (h : RepI m n s) (nm : ByteArray) (files : List ByteArray) : RepI m n (rShelve s nm files).1.1 ∧ (∀ p ∈ (rShelve s nm files).1.2, p.fit) ∧ ((rShelve s nm files).2 = 0 → rowT (treeR s) (rShelve s nm files).1.2 = (treeR (rShelve s nm files).1.1, 0)) := by
 have hs := h.split files true;unfold rShelve
 by_cases h0 : nameOk nm = false ∨ Sh.hasT s.shv nm = true ∨ 3 ≤ s.shv.length
 ·rw [if_pos h0]; exact ⟨h, (fun x hx => by cases hx), fun h => absurd h (by simp)⟩
 rw [if_neg h0]
 by_cases h1 : (splR s.pend files true).2 = []
 ·rw [if_pos h1]; exact ⟨h, (fun x hx => by cases hx), fun h => absurd h (by simp)⟩
 rw [if_neg h1];obtain ⟨M, r1, r2⟩ := hs.runs;have hT : treeR ⟨s.log, (splR s.pend files true).1, Sh.putT s.shv nm (splR s.pend files true).2⟩ = M := treeR_of r1;have hz := h.z; have hy := h.y; have hsz := hs.z; have hsy := hs.y;have hno : Sh.hasT s.shv nm = false := by
  cases e : Sh.hasT s.shv nm with
  | false => rfl
  | true => exact absurd (.inr (.inl e)) h0
 have hnm : nameOk nm = true := by
  cases e : nameOk nm with
  | false => exact absurd (.inl e) h0
  | true => rfl
 have e1 := put_sum (l := (splR s.pend files true).2) hno (fun x => lns x.2);have e2 := put_sum (l := (splR s.pend files true).2) hno (fun x => x.2.length);have e3 := put_sum (l := (splR s.pend files true).2) hno (fun _ => 1);simp only [List.map_const', List.sum_replicate_nat] at e3;have h3 : ¬ 3 ≤ s.shv.length := fun e => h0 (.inr (.inr e));refine ⟨⟨h.log, by rw [hT]; exact r1, hs.ff, h.so.put _ _, fun x hx => ?_, by dsimp only; omega, ?_, ?_⟩, invL_fit hs.fr, fun _ => ?_⟩
 ·rcases Sh.mem_putT.1 hx with rfl | ⟨hx, _⟩
  ·exact ⟨hnm, h1, hs.fr⟩
  ·exact h.sfit x hx
 ·unfold shz at hz ⊢; dsimp only at e1 ⊢; omega
 ·unfold shy at hy ⊢; dsimp only at e2 ⊢; omega
 ·rw [hT];exact rowT_ok (runs_back (runs_sor r1 h.log.good.1) (runs_good r1 h.log.good.2) r2)
theorem RepI.shelf {m n : Nat} {s : RS} (h : RepI m n s) {nm : ByteArray} (hh : Sh.hasT s.shv nm = true) : Sh.getT s.shv nm = some (Sh.getL s.shv nm) ∧ Sh.getL s.shv nm ≠ [] ∧ ∀ p ∈ Sh.getL s.shv nm, p.fit := by
 obtain ⟨l, e⟩ := Option.isSome_iff_exists.1 hh;have hg : Sh.getL s.shv nm = l := by unfold Sh.getL; rw [e]; rfl
 have := h.sfit _ ((Sh.getT_some h.so).1 e);rw [hg];exact ⟨e, this.2.1, this.2.2⟩
theorem RepI.unshelve {m n : Nat} {s : RS} (h : RepI m n s) (nm : ByteArray) : RepI m n (rUnshelve s nm).1.1 ∧ (∀ p ∈ (rUnshelve s nm).1.2, p.fit) ∧ ((rUnshelve s nm).2 = 0 → rowT (treeR s) (rUnshelve s nm).1.2 = (treeR (rUnshelve s nm).1.1, 0)) := by
 unfold rUnshelve
 by_cases h0 : Sh.hasT s.shv nm = false
 ·rw [if_pos h0]; exact ⟨h, (fun x hx => by cases hx), fun h => absurd h (by simp)⟩
 rw [if_neg h0];obtain ⟨e, hne, hf⟩ := h.shelf (nm := nm) (by simpa using h0)
 by_cases h1 : (rowT (treeR s) (Sh.getL s.shv nm)).2 = 0
 ·rw [if_pos h1];have h2 := rowT_yes h1;have h3 : Runs (treeP s.log) (s.pend ++ Sh.getL s.shv nm) (rowT (treeR s) (Sh.getL s.shv nm)).1 := runs_app.2 ⟨_, h.runs, h2⟩;have hT : treeR ⟨s.log, s.pend ++ Sh.getL s.shv nm, Sh.delT s.shv nm⟩ = (rowT (treeR s) (Sh.getL s.shv nm)).1 := treeR_of h3;have hd := shz_del h.so e;have hz := h.z; have hy := h.y;refine ⟨⟨h.log, by rw [hT]; exact h3, fun x hx => (List.mem_append.1 hx).elim (h.fit x) (hf x), h.so.del _, fun x hx => h.sfit x (Sh.mem_delT.1 hx).1, Nat.le_trans (List.length_filter_le _ _) h.c3, ?_, ?_⟩, hf, fun _ => ?_⟩
  ·dsimp only; rw [lns_app]; omega
  ·dsimp only; rw [List.length_append]; omega
  ·rw [hT]; exact Prod.ext rfl h1
 ·rw [if_neg h1]; exact ⟨h, (fun x hx => by cases hx), fun h => absurd h h1⟩
/-! A repository in memory: one thing of one's own. -/
structure RY where
 pl : Nat
 p : Nat
 b : Nat
 A : Option Addr
 c : Nat
 Q : Option Addr
 q : Nat
 mb : Nat
 pt : Nat
 bt : Nat
def repL (tr_ tl tt tpa tp : TypeId) (pr : Nat) (l : List Patch) (q : List Prim) (S : List Sh.File) (T U : List File) (y : RY) : List Xsn :=
 [box pr tr_ [.pointer (some ⟨y.pl, 0, none⟩), .slice y.Q q.length y.q, .map (some y.mb), .pointer (some ⟨y.pt, 0, none⟩)],
  box y.pl tl [.slice y.A l.length y.c, .pointer (some ⟨y.p, 0, none⟩)], row tpa y.A y.c l, box y.p tt [.map (some y.b)], Sx.tr y.b T, row tp y.Q y.q q, Sh.tr y.mb S, box y.pt tt [.map (some y.bt)], Sx.tr y.bt U]
def repoX (tr_ tl tt tpa tp : TypeId) (pr : Nat) (s : RS) : Xsn := exX fun y : RY => bunX (repL tr_ tl tt tpa tp pr s.log s.pend s.shv (treeP s.log) (treeR s) y)
section
variable {ro : Option Nat} {P : Program} {M0 F0 : Nat → Prop} {w0 : World} {n : Nm} {σ : List (Nat × Value)} {Ξ : List Xsn} {Γ : List Asn} {Q : Exit → Act → World → Prop}
variable {tr_ tl tt tpa tp : TypeId} {pr : Nat} {s : RS}
theorem unrepC {c : Code} {i : Nat} {Ξ' : List Xsn} (hi : takeAt i Ξ = some (repoX tr_ tl tt tpa tp pr s, Ξ'))
  (k : ∀ (pl p b : Nat) (A : Option Addr) (cA : Nat) (Qa : Option Addr) (cQ mb pt bt : Nat), TrC ro P Q (St M0 F0 w0 n σ (box pr tr_ [.pointer (some ⟨pl, 0, none⟩), .slice Qa s.pend.length cQ, .map (some mb), .pointer (some ⟨pt, 0, none⟩)] ::
   box pl tl [.slice A s.log.length cA, .pointer (some ⟨p, 0, none⟩)] :: row tpa A cA s.log :: box p tt [.map (some b)] :: Sx.tr b (treeP s.log) :: row tp Qa cQ s.pend :: Sh.tr mb s.shv :: box pt tt [.map (some bt)] :: Sx.tr bt (treeR s) :: Ξ') Γ) c) : TrC ro P Q (St M0 F0 w0 n σ Ξ Γ) c := fun a w h => by
 obtain ⟨y, h1⟩ := St.unex hi h;have h2 := St.unbun (i := 0) rfl h1;exact k y.pl y.p y.b y.A y.c y.Q y.q y.mb y.pt y.bt a w h2
theorem St.reord {is : List Nat} {xs Ξr : List Xsn} (hs : takeAll is Ξ = some (xs, Ξr)) {a : Act} {w : World} (h : St M0 F0 w0 n σ Ξ Γ a w) : St M0 F0 w0 n σ (xs ++ Ξr) Γ a w := by
 obtain ⟨hsl, Fs, hh⟩ := h;obtain ⟨Gs, Hs, hp, h1, h2⟩ := hh.ex.takeAll hs;exact ⟨hsl, Gs ++ Hs, hh.repart (fun b => (own_perm hp b).symm) (all2.append h1 h2) (perm_pairwise hp hh.dis)⟩
theorem mkrep (is : List Nat) {Ξr : List Xsn} {l : List Patch} {q : List Prim} {S : List Sh.File} {T U : List File} {pl p b : Nat} {A : Option Addr} {cA : Nat} {Qa : Option Addr} {cQ mb pt bt : Nat}
  (hs : takeAll is Ξ = some ([box pr tr_ [.pointer (some ⟨pl, 0, none⟩), .slice Qa q.length cQ, .map (some mb), .pointer (some ⟨pt, 0, none⟩)],
   box pl tl [.slice A l.length cA, .pointer (some ⟨p, 0, none⟩)], row tpa A cA l, box p tt [.map (some b)], Sx.tr b T, row tp Qa cQ q, Sh.tr mb S, box pt tt [.map (some bt)], Sx.tr bt U], Ξr))
  (e : l = s.log ∧ q = s.pend ∧ S = s.shv ∧ T = treeP s.log ∧ U = treeR s) {a : Act} {w : World} (h : St M0 F0 w0 n σ Ξ Γ a w) : St M0 F0 w0 n σ (repoX tr_ tl tt tpa tp pr s :: Ξr) Γ a w := by
 obtain ⟨rfl, rfl, rfl, rfl, rfl⟩ := e;have h1 := St.reord hs h;have h2 := St.mkbun (xs := repL tr_ tl tt tpa tp pr s.log s.pend s.shv (treeP s.log) (treeR s) ⟨pl, p, b, A, cA, Qa, cQ, mb, pt, bt⟩) h1;exact St.mkex (f := fun y : RY => bunX (repL tr_ tl tt tpa tp pr s.log s.pend s.shv (treeP s.log) (treeR s) y)) _ h2
end
end Go.Proofs.YtbhnolfcdcpbkaaGreatDoor.X
end
section
namespace Go.Proofs.YtbhnolfcdcpbkaaGreatDoor.X
set_option maxRecDepth 100000
open Go Go.RowKit Go.Proofs Go.Sx
open Tryz
attribute [local irreducible] slA isA box row TrL TrC TrN TrA Pu OpR
set_option maxHeartbeats 8000000
theorem mapkS (pre : List Sh.File) (k : ByteArray) (l : List Prim) : (pre ++ [(k, l)]).map (·.1) = pre.map (·.1) ++ [k] := by simp
theorem c_copied (l : List Prim) (A0 : Option Addr) (c0 : Nat) (hl : l.length ≤ 2000000) (hf : ∀ x ∈ l, x.fit) : Con Tryz.prog 57 [.slice A0 l.length c0] [] [slA A0 l] (Option Addr × Nat) (fun y => .slice y.1 l.length y.2) (fun y => [row 103 y.1 y.2 l]) (fun _ => []) := by
 refine con func57 rfl ntmps57 rfl ?_;intro M0 F0 w0;refine k_ 12 ?_;refine cmono (fun a w h => nilRow (α := Prim) 103 h) ?_;refine k_ 7 ?_;refine cl (ι := {q : Nat × Option Addr × Nat // q.1 ≤ l.length}) (fun i => St M0 F0 w0 19 [(6, .slice A0 l.length c0), (7, .int .i64 (l.length : Int)), (8, .int .i64 (i.1.1 : Int)), (3, .slice i.1.2.1 (l.take i.1.1).length i.1.2.2)] [row 103 i.1.2.1 i.1.2.2 (l.take i.1.1)] [slA A0 l]) (fun i => l.length - i.1.1) ⟨(0, none, 0), Nat.zero_le _⟩ (wK [0]) ?_;rintro ⟨⟨k, A, c⟩, hk⟩;refine cmono (S' := St M0 F0 w0 19 [(6, .slice A0 l.length c0), (7, .int .i64 (l.length : Int)), (8, .int .i64 (k : Int)), (3, .slice A (l.take k).length c)] [row 103 A c (l.take k)] [slA A0 l]) Ħ ?_;refine k_ 6 ?_;refine cc rfl ?_ ?_
 ·intro h9;dsimp only at hk;(try simp only [nrmZ] at h9);have hk1 : k < l.length := (by omega);refine k_ 5 ?_;refine elC Θ k (List.getElem?_eq_getElem (l := l) hk1) ?_; rintro zbp zop zyp hAp;refine cr ?_;refine ls (op (p_ia k hAp hk1 rfl underlying40 sizeOf103 rfl rfl) rfl) ?_;refine ls (o_ldj isAgg103 sizeOf103 rfl Θ 0 rfl Δ rfl) ?_;refine ls (o_alloc zeroValue103 rfl rfl) ?_;refine le ?_; intro b5;refine k_ 5 ?_;refine ls (o_ldw isAgg103 sizeOf103 rfl Θ (by rfl) rfl) ?_;refine lC [] call110 (c_primClone l[k] zyp (hf _ (List.getElem_mem hk1))) ?_; intro y14;refine ls (o_bsl [l[k]] underlying40 sizeOf103 zeroValue103 rfl (Enum.t Enum.d) (RV.t y14 rfl Ω RV.d) rfl (by decide) (by decide) rfl) ?_;refine le ?_; intro b15;refine lmono (fun a w h => Go.Sx.freeze (i := 0) rfl h) ?_;refine ls (o_app (is := [1]) underlying40 inf103 rfl (by decide) (by decide) rfl rfl (by rw [List.length_take]; simp only [List.length_cons, List.length_nil]; omega) (fun h => by cases h) rfl Ω rfl) ?_;refine le ?_; rintro ⟨A', c'⟩;rw [← List.take_succ_eq_append_getElem hk1];refine k_ 8 ?_;refine nnext ⟨(k + 1, A', c'), hk1⟩ (by dsimp only; omega) (wK [0])
 ·intro h9;dsimp only at hk;(try simp only [nrmZ] at h9);obtain rfl : k = l.length := (by omega);refine k_ 6 ?_;rw [List.take_length];refine k_ 7 ?_;exact rR [0] (A, c)
theorem c_copiedW (l : List Prim) (A : Option Addr) (c : Nat) (hl : l.length ≤ 2000000) (hf : ∀ x ∈ l, x.fit) : Con Tryz.prog 57 [.slice A l.length c] [row 103 A c l] [] (Option Addr × Nat) (fun y => .slice y.1 l.length y.2) (fun y => [row 103 y.1 y.2 l, row 103 A c l]) (fun _ => []) := by
 refine con func57 rfl ntmps57 rfl ?_;intro M0 F0 w0;refine k_ 6 ?_;refine cmono (fun a w h => nilRow (α := Prim) 103 h) ?_;refine k_ 13 ?_;refine cl (ι := {q : Nat × (Option Addr × Nat) // q.1 ≤ l.length}) (fun i => St M0 F0 w0 19 [(3, .slice i.1.2.1 (l.take i.1.1).length i.1.2.2), (6, .slice A l.length c), (7, .int .i64 (l.length : Int)), (8, .int .i64 ((i.1.1 : Nat) : Int))] [row 103 (i.1.2.1) (i.1.2.2) (l.take i.1.1), row 103 A c l] []) (fun i => l.length - i.1.1) ⟨(0, (none, 0)), Nat.zero_le _⟩ (wk0 Φ Ω) ?_;rintro ⟨⟨k, ⟨A3, c3⟩⟩, hk⟩;refine cmono (S' := St M0 F0 w0 19 [(3, .slice A3 (l.take k).length c3), (6, .slice A l.length c), (7, .int .i64 (l.length : Int)), (8, .int .i64 ((k : Nat) : Int))] [row 103 (A3) (c3) (l.take k), row 103 A c l] []) Ħ ?_;refine k_ 6 ?_;refine cc rfl ?_ ?_
 ·intro h9;dsimp only at hk;(try simp only [nrmZ] at h9);have hk1 : k < l.length := (by omega);refine k_ 5 ?_;refine rowC (α := Prim) (A := A) (l := l) Θ (List.ne_nil_of_length_pos (by omega)) ?_;rintro g0 rfl;refine cr ?_;refine ls (op (p_ia k rfl hk1 rfl underlying40 sizeOf103 rfl rfl) rfl) ?_;refine ls (o_ldrow isAgg103 sizeOf103 rfl Θ (List.getElem?_eq_getElem hk1) rfl) ?_;refine le ?_; intro zyp;refine ls (o_alloc zeroValue103 rfl rfl) ?_;refine le ?_; intro b5;refine k_ 5 ?_;refine ls (o_ldw isAgg103 sizeOf103 rfl Θ (by rfl) rfl) ?_;refine lC [] call110 (c_primClone l[k] zyp (hf _ (List.getElem_mem hk1))) ?_; intro y14;refine ls (o_bsl [l[k]] underlying40 sizeOf103 zeroValue103 rfl (Enum.t Enum.d) (RV.t y14 rfl Ω RV.d) rfl (by decide) (by decide) rfl) ?_;refine le ?_; intro b15;refine lmono (fun a w h => Go.Sx.freeze (i := 0) rfl h) ?_;refine ls (o_appX (i := 1) underlying40 inf103 rfl (by decide) (by decide) rfl rfl (by simp only [List.length_take, List.length_cons, List.length_nil]; omega) rfl Ω rfl) ?_;refine le ?_; rintro ⟨A16, c16⟩;rw [← List.take_succ_eq_append_getElem hk1];refine k_ 8 ?_;refine nnext ⟨(k + 1, (A16, c16)), hk1⟩ (by dsimp only; omega) (wK [0, 1])
 ·intro h9;dsimp only at hk;(try simp only [nrmZ] at h9);obtain rfl : k = l.length := (by omega);rw [List.take_length];refine k_ 13 ?_;exact rR [0, 0] (A3, c3)
theorem c_seqClonedW (l : List Prim) (A : Option Addr) (c : Nat) (hl : l.length ≤ 2000000) (hf : ∀ x ∈ l, x.fit) : Con Tryz.prog 169 [.slice A l.length c] [row 103 A c l] [] (Option Addr × Nat) (fun y => .slice y.1 l.length y.2) (fun y => [row 103 y.1 y.2 l, row 103 A c l]) (fun _ => []) := by
 refine con func169 rfl ntmps169 rfl ?_;intro M0 F0 w0;refine k_ 6 ?_;refine cmono (fun a w h => nilRow (α := Prim) 103 h) ?_;refine k_ 13 ?_;refine cl (ι := {q : Nat × (Option Addr × Nat) // q.1 ≤ l.length}) (fun i => St M0 F0 w0 19 [(3, .slice i.1.2.1 (l.take i.1.1).length i.1.2.2), (6, .slice A l.length c), (7, .int .i64 (l.length : Int)), (8, .int .i64 ((i.1.1 : Nat) : Int))] [row 103 (i.1.2.1) (i.1.2.2) (l.take i.1.1), row 103 A c l] []) (fun i => l.length - i.1.1) ⟨(0, (none, 0)), Nat.zero_le _⟩ (wk0 Φ Ω) ?_;rintro ⟨⟨k, ⟨A3, c3⟩⟩, hk⟩;refine cmono (S' := St M0 F0 w0 19 [(3, .slice A3 (l.take k).length c3), (6, .slice A l.length c), (7, .int .i64 (l.length : Int)), (8, .int .i64 ((k : Nat) : Int))] [row 103 (A3) (c3) (l.take k), row 103 A c l] []) Ħ ?_;refine k_ 6 ?_;refine cc rfl ?_ ?_
 ·intro h9;dsimp only at hk;(try simp only [nrmZ] at h9);have hk1 : k < l.length := (by omega);refine k_ 5 ?_;refine rowC (α := Prim) (A := A) (l := l) Θ (List.ne_nil_of_length_pos (by omega)) ?_;rintro g0 rfl;refine cr ?_;refine ls (op (p_ia k rfl hk1 rfl underlying40 sizeOf103 rfl rfl) rfl) ?_;refine ls (o_ldrow isAgg103 sizeOf103 rfl Θ (List.getElem?_eq_getElem hk1) rfl) ?_;refine le ?_; intro zyp;refine ls (o_alloc zeroValue103 rfl rfl) ?_;refine le ?_; intro b5;refine k_ 5 ?_;refine ls (o_ldw isAgg103 sizeOf103 rfl Θ (by rfl) rfl) ?_;refine lC [] call110 (c_primClone l[k] zyp (hf _ (List.getElem_mem hk1))) ?_; intro y14;refine ls (o_bsl [l[k]] underlying40 sizeOf103 zeroValue103 rfl (Enum.t Enum.d) (RV.t y14 rfl Ω RV.d) rfl (by decide) (by decide) rfl) ?_;refine le ?_; intro b15;refine lmono (fun a w h => Go.Sx.freeze (i := 0) rfl h) ?_;refine ls (o_appX (i := 1) underlying40 inf103 rfl (by decide) (by decide) rfl rfl (by simp only [List.length_take, List.length_cons, List.length_nil]; omega) rfl Ω rfl) ?_;refine le ?_; rintro ⟨A16, c16⟩;rw [← List.take_succ_eq_append_getElem hk1];refine k_ 8 ?_;refine nnext ⟨(k + 1, (A16, c16)), hk1⟩ (by dsimp only; omega) (wK [0, 1])
 ·intro h9;dsimp only at hk;(try simp only [nrmZ] at h9);obtain rfl : k = l.length := (by omega);rw [List.take_length];refine k_ 13 ?_;exact rR [0, 0] (A3, c3)
theorem c_seqSplitW (l : List Prim) (A : Option Addr) (c : Nat) (hl : l.length ≤ 900000) (hf : ∀ x ∈ l, x.fit) (W : Nat → Bool) (g : FuncId) (cap : List Value) (Γf : List Asn) (x0 : Nat → Xsn) (hcf : ∀ args w, (callFunc g args).run Tryz.prog w = .ok (.enter g args) w) (hg : ∀ (k : Nat) (hk : k < l.length) (y : Rp.Lay Prim), Con Tryz.prog g (.int .i64 (k : Int) :: sv l[k] y :: cap) [x0 k] (Rp.asn l[k] y ++ Γf) Unit (fun _ => .bool (W k)) (fun _ => [x0 (k + 1)]) (fun _ => [])) : Con Tryz.prog 122 [.slice A l.length c, .func (.func g) #[] cap.toArray] [row 103 A c l, x0 0] Γf {x : (List Prim × List Prim) × ((Option Addr × Nat) × (Option Addr × Nat)) // x.1 = splK W l l.length} (fun x => .tuple #[.slice x.1.2.1.1 x.1.1.1.length x.1.2.1.2, .slice x.1.2.2.1 x.1.1.2.length x.1.2.2.2]) (fun x => [row 103 x.1.2.1.1 x.1.2.1.2 x.1.1.1, row 103 x.1.2.2.1 x.1.2.2.2 x.1.1.2, row 103 A c l, x0 l.length]) (fun x => []) := by
 refine con func122 rfl ntmps122 rfl ?_;intro M0 F0 w0;refine k_ 8 ?_;refine cmono (fun a w h => nilRow (α := Prim) 103 h) ?_;refine cmono (fun a w h => nilRow (α := Prim) 103 h) ?_;refine k_ 2 ?_;refine lC [2] call169 (c_seqClonedW l A c (by omega) hf) ?_; rintro ⟨A12, c12⟩;refine lmono (fun a w h => freezeN (i := 0) rfl h) ?_;refine k_ 5 ?_;refine cl (ι := {q : Nat × (List Prim × (Option Addr × Nat)) × (List Prim × (Option Addr × Nat)) // q.1 ≤ l.length ∧ (q.2.1.1, q.2.2.1) = splK W l q.1 ∧ ∀ x ∈ q.2.2.1, x.fit}) (fun i => St M0 F0 w0 44 [(1, .func (.func g) #[] cap.toArray), (4, .slice i.1.2.1.2.1 (i.1.2.1.1).length i.1.2.1.2.2), (5, .slice i.1.2.2.2.1 (i.1.2.2.1).length i.1.2.2.2.2), (12, .slice A12 l.length c12), (13, .int .i64 (l.length : Int)), (14, .int .i64 (i.1.1 : Int))] [row 103 (i.1.2.1.2.1) (i.1.2.1.2.2) i.1.2.1.1, row 103 (i.1.2.2.2.1) (i.1.2.2.2.2) i.1.2.2.1, row 103 A c l, x0 (i.1.1)] (slA A12 l :: Γf)) (fun i => l.length - i.1.1) ⟨(0, ([], (none, 0)), ([], (none, 0))), Nat.zero_le _, rfl, (fun x hx => by cases hx)⟩ (wK [1, 1, 0, 0]) ?_;rintro ⟨⟨k, ⟨F, ⟨A4, c4⟩⟩, ⟨R, ⟨A5, c5⟩⟩⟩, hk, hFR, hRf⟩;refine cmono (S' := St M0 F0 w0 44 [(1, .func (.func g) #[] cap.toArray), (4, .slice A4 (F).length c4), (5, .slice A5 (R).length c5), (12, .slice A12 l.length c12), (13, .int .i64 (l.length : Int)), (14, .int .i64 (k : Int))] [row 103 (A4) (c4) F, row 103 (A5) (c5) R, row 103 A c l, x0 (k)] (slA A12 l :: Γf)) Ħ ?_;refine k_ 6 ?_;refine cc rfl ?_ ?_
 ·intro h15;dsimp only at hk hFR hRf;(try simp only [nrmZ] at h15);have hk1 : k < l.length := (by omega);have hfk := hf _ (List.getElem_mem hk1);have hsl := splK_len W l k hk;rw [← hFR] at hsl;dsimp only at hsl;have hf1 : ∀ x ∈ [l[k]], x.fit := fun x hx => by rw [List.mem_singleton.1 hx]; exact hfk
  refine k_ 5 ?_;refine elC Θ k (List.getElem?_eq_getElem (l := l) hk1) ?_; rintro zbp zop zyp hAp;refine k_ 2 ?_;refine ls (op (p_ia k hAp hk1 rfl underlying40 sizeOf103 rfl rfl) rfl) ?_;refine ls (o_ldj isAgg103 sizeOf103 rfl Θ 0 rfl Δ rfl) ?_;refine ls (o_alloc zeroValue103 rfl rfl) ?_;refine le ?_; intro b7;refine k_ 9 ?_;refine ls (o_ldw isAgg103 sizeOf103 rfl Θ (by rfl) rfl) ?_;refine lC [] call110 (c_primClone l[k] zyp hfk) ?_; intro y22;refine ls (o_callv (is := [4]) rfl hcf (hg k hk1 y22) rfl rfl rfl (Sub.app Ω Ω) rfl) ?_;refine le ?_; intro x23;refine k_ 2 ?_;refine cc rfl ?_ ?_
  ·intro h23;have hw : W k = true := h23;refine k_ 3 ?_;refine ls (o_ldw isAgg103 sizeOf103 rfl Θ (by rfl) rfl) ?_;refine ls (o_bsl [l[k]] underlying40 sizeOf103 zeroValue103 rfl (Enum.t Enum.d) (RV.t zyp rfl Ω RV.d) rfl (by decide) (by decide) rfl) ?_;refine le ?_; intro b27;refine lmono (fun a w h => Go.Sx.freeze (i := 0) rfl h) ?_;refine lC [3] call170 (borrow2 (fun x => !x.1.1.2.2) (c_seqSwapR R [l[k]] A5 (some ⟨b27, 0, none⟩) c5 1 (by omega) (by simp) hRf hf1)) ?_; rintro ⟨⟨⟨f', s', b'⟩, ⟨⟨A8, c8⟩, ⟨A9, c9⟩⟩⟩, hr⟩;dsimp only at hr;refine k_ 10 ?_;cases b'
   ·
    obtain ⟨_, rfl, rfl⟩ := swT_false hr;refine k_ 4 ?_;refine cc rfl (fun h => by cases h) (fun h => ?_);refine k_ 4 ?_;refine ls (o_ldw isAgg103 sizeOf103 rfl Θ (by rfl) rfl) ?_;refine ls (o_bsl [l[k]] underlying40 sizeOf103 zeroValue103 rfl (Enum.t Enum.d) (RV.t zyp rfl Ω RV.d) rfl (by decide) (by decide) rfl) ?_;refine le ?_; intro b39;refine lmono (fun a w h => Go.Sx.freeze (i := 0) rfl h) ?_;refine ls (o_app (is := [0]) underlying40 inf103 rfl (by decide) (by decide) rfl rfl (by simp only [List.length_cons, List.length_nil]; omega) (fun h => by cases h) rfl Ω rfl) ?_;refine le ?_; rintro ⟨A40, c40⟩;refine k_ 8 ?_;refine nnext ⟨(k + 1, (F, (A4, c4)), (R ++ [l[k]], (A40, c40))), hk1, splK_no hFR hk1 hr (by rw [hw]; rfl), (fun x hx => (List.mem_append.1 hx).elim (hRf x) (hf1 x))⟩ (by dsimp only; omega) (wK [3, 0, 2, 0])
   ·
    have hln := swT_len hr;have hft := swT_fit hr hRf hf1;have hl1 : [l[k]].length = 1 := rfl;refine k_ 4 ?_;refine cc rfl (fun h => ?_) (fun h => by cases h);refine k_ 4 ?_;refine ls (o_app (is := [3]) underlying40 inf103 rfl (by decide) (by decide) rfl rfl (by dsimp only; omega) (fun h => by dsimp only at h; rw [h] at hln; simp at hln) rfl Ω rfl) ?_;refine le ?_; rintro ⟨A35, c35⟩;refine k_ 13 ?_;refine nnext ⟨(k + 1, (F ++ f', (A35, c35)), (s', (A9, c9))), hk1, splK_yes hFR hk1 hw hr, hft.2⟩ (by dsimp only; omega) (wK [0, 0, 2, 0])
  ·intro h23;have hw : W k = false := (by simpa using h23);refine k_ 4 ?_;refine ls (o_ldw isAgg103 sizeOf103 rfl Θ (by rfl) rfl) ?_;refine ls (o_bsl [l[k]] underlying40 sizeOf103 zeroValue103 rfl (Enum.t Enum.d) (RV.t zyp rfl Ω RV.d) rfl (by decide) (by decide) rfl) ?_;refine le ?_; intro b39;refine lmono (fun a w h => Go.Sx.freeze (i := 0) rfl h) ?_;refine ls (o_app (is := [3]) underlying40 inf103 rfl (by decide) (by decide) rfl rfl (by simp only [List.length_cons, List.length_nil]; omega) (fun h => by cases h) rfl Ω rfl) ?_;refine le ?_; rintro ⟨A40, c40⟩;refine k_ 8 ?_;refine nnext ⟨(k + 1, (F, (A4, c4)), (R ++ [l[k]], (A40, c40))), hk1, splK_no' hFR hk1 hw, (fun x hx => (List.mem_append.1 hx).elim (hRf x) (hf1 x))⟩ (by dsimp only; omega) (wK [3, 0, 2, 0])
 ·intro h15;dsimp only at hk hFR hRf;(try simp only [nrmZ] at h15);obtain rfl : k = l.length := (by omega);refine k_ 15 ?_;exact rR [0, 0, 0, 0] ⟨((F, R), ((A4, c4), (A5, c5))), hFR⟩
theorem c_sh_mClone (b : Nat) (T : List Sh.File) : Con Tryz.prog 67 [.map (some b)] [Sh.tr b T] [] Nat (fun b' => .map (some b')) (fun b' => [Sh.tr b' T, Sh.tr b T]) (fun _ => []) := by
 refine con func67 rfl ntmps67 rfl ?_;intro M0 F0 w0;refine k_ 9 ?_;refine ls (op (p_mapnil underlying53 rfl) rfl) ?_;refine k_ 2 ?_;refine cc rfl (fun h => by cases h) (fun h => ?_);refine k_ 5 ?_;refine ls (op (p_mkif underlying53 rfl) rfl) ?_;refine ls (Sh.o_mclone func118 Ψ Ψ Ψ Ψ rfl Θ rfl) ?_;refine le ?_; intro b7;refine ls (op (p_tas underlying53 rfl) rfl) ?_;refine k_ 5 ?_;exact rR [0, 0] b7
theorem c_sh_mKeys (b : Nat) : Con Tryz.prog 103 [.map (some b)] [] [] Nat (fun q => .func (.func 158) #[] #[pT q]) (fun q => [box q 53 [.map (some b)]]) (fun _ => []) := by
 refine con func103 rfl ntmps103 rfl ?_;intro M0 F0 w0;refine k_ 2 ?_;refine ls (o_box rfl rfl rfl) ?_;refine le ?_; intro b1;refine k_ 5 ?_;refine ls (op (p_mkf rfl) rfl) ?_;refine k_ 5 ?_;exact rR [0] b1
theorem c_sh_mKeys1 (b : Nat) (T : List Sh.File) (q : Nat) : Iter Tryz.prog 158 [pT q] (fun x : Sh.File => [.string x.1]) (fun _ => []) (fun pre x => x ∈ T ∧ x ∉ pre ∧ pre.length < T.length) (fun xs => xs.Perm T) [box q 53 [.map (some b)], Sh.tr b T] [] := by
 intro lp J Jx hY;refine con func158 rfl ntmps158 rfl ?_;intro M0 F0 w0;refine k_ 3 ?_;refine ls (Sh.o_mrange (i := 2) underlying53 rfl rfl rfl) ?_;refine le ?_; intro r5;refine k_ 3 ?_;refine cl (ι := List Sh.File) (fun i => St M0 F0 w0 14 [(0, .func (.yield lp) #[] #[]), (1, pT q), (5, pT r5)] [Sh.mit b r5 T i, J i, box q 53 [.map (some b)]] []) (fun i => T.length - (i).length) [] (wK [0, 0, 0]) ?_;rintro K;refine cmono (S' := St M0 F0 w0 14 [(0, .func (.yield lp) #[] #[]), (1, pT q), (5, pT r5)] [Sh.mit b r5 T K, J K, box q 53 [.map (some b)]] []) Ħ ?_;refine cs ?_;refine cpure (St.mitS Θ) ?_;rintro ⟨hso, hKn, hKT⟩;rcases Classical.em (∃ x ∈ T, x ∉ K) with hK | hK
 ·
  have hlt := nodup_lt hKn hKT hK;refine cr ?_;refine ls (Sh.o_mnextS (i := 0) rfl rfl hK rfl) ?_;refine le ?_; rintro ⟨⟨⟨k, l⟩, y⟩, hxT, hxK⟩;refine k_ 4 ?_;refine cc rfl (fun h => ?_) (fun h => by cases h);refine k_ 5 ?_;refine ls (Sh.o_mentry rfl Θ rfl) ?_;refine le ?_; rintro y8;refine k_ 8 ?_;refine ls (o_yield (i := 1) rfl (hY K (k, l) ⟨hxT, hxK, hlt⟩) rfl rfl Ω rfl) ?_;refine le ?_; intro bb;refine k_ 3 ?_;refine cc rfl ?_ ?_
  ·intro h13;obtain rfl : false = bb := (by cases bb <;> first | rfl | (simp at h13))
   refine k_ 2 ?_;refine nmono (conv (i := 1) rfl Sh.mit_tr) ?_;exact rR [1, 1, 0] ⟨none, fun _ h => by cases h⟩
  ·intro h13;obtain rfl : true = bb := (by cases bb <;> first | rfl | (simp at h13))
   refine k_ 2 ?_;refine nnext (K ++ [(k, l)]) (by simp; omega) (wK [1, 0, 0])
 ·
  refine cr ?_;refine ls (Sh.o_mnextN rfl Θ hK rfl) ?_;refine k_ 4 ?_;refine cc rfl (fun h => by cases h) (fun h => ?_);refine k_ 4 ?_;refine nmono (conv (i := 0) rfl Sh.mit_tr) ?_;exact rR [1, 1, 0] ⟨some K, fun xs h => by cases h; exact Sh.perm_of_all hso hKn hKT hK⟩
theorem c_sh_appSeq (b q : Nat) (T : List Sh.File) (hn : T.length ≤ 2000000) : Con Tryz.prog 213 [.slice none 0 0, .func (.func 158) #[] #[pT q]] [box q 53 [.map (some b)], Sh.tr b T] [] {y : (Option Addr × Nat) × List ByteArray // y.2.Perm (T.map (·.1))} (fun y => .slice y.1.1.1 y.1.2.length y.1.1.2) (fun y => [row 9 y.1.1.1 y.1.1.2 y.1.2, box q 53 [.map (some b)], Sh.tr b T]) (fun _ => []) := by
 refine con func213 rfl ntmps213 rfl ?_;intro M0 F0 w0;refine k_ 2 ?_;refine ls (o_box rfl rfl rfl) ?_;refine le ?_; intro b2;refine k_ 5 ?_;refine cmono (fun a w h => nilRow (α := ByteArray) 9 h) ?_;refine k_ 5 ?_;refine crng (ι := fun _ => Option Addr × Nat) rfl call158 (c_sh_mKeys1 b T q) (fun _ => rfl) rfl (fun pre i => [box b2 73 [.slice i.1 (pre.map (·.1)).length i.2], row 9 i.1 i.2 (pre.map (·.1))]) (fun _ _ => []) ((none, 0)) (Y := Empty) (fun _ => []) (fun _ => []) (is := [1, 0, 0, 0]) rfl Ω Ω ?_ ?_ ?_
 ·
  rintro M0 F0 w0 lp κ pre ⟨k, l⟩ ⟨hxT, hxn, hlt⟩ ⟨A, c⟩;refine cmono (S' := St M0 F0 w0 ⟨13, []⟩ [(2, pT b2), (7, .string k)] [lrec lp κ .ready none, box b2 73 [.slice A (pre.map (·.1)).length c], row 9 A c (pre.map (·.1))] []) (wk0 Φ Ω) ?_;refine k_ 3 ?_;refine nbegin (i := 0) rfl ?_;refine k_ 4 ?_;refine ls (o_bsl [k] underlying73 sizeOf9 zeroValue9 rfl (Enum.t Enum.d) (RV.t () rfl Sub.d RV.d) rfl (by decide) (by decide) rfl) ?_;refine le ?_; intro b10;refine lmono (fun a w h => Go.Sx.freeze (i := 0) rfl h) ?_;refine ls (o_app (is := [2]) underlying73 inf9 rfl (by decide) (by decide) rfl rfl (by simp only [List.length_map, List.length_cons, List.length_nil]; omega) (fun h => by cases h) rfl Ω rfl) ?_;refine le ?_; rintro ⟨A2, c2⟩;refine k_ 3 ?_;refine nmono (fun a w h => by rw [← mapkS pre k l] at h; exact h) ?_;exact nround (A2, c2) (is := [1, 1, 0]) rfl Ω
 ·
  rintro D xs hC ⟨A, c⟩;refine k_ 10 ?_;refine rretm (Dfr.c (i := 4) rfl Dfr.d) (is := [1, 1, 1]) ⟨((A, c), xs.map (·.1)), hC.map _⟩ (Or.inl rfl) (Res.t rfl Res.d) (rfl) rfl Ω
 ·
  intro D y;exact y.elim
theorem c_sh_tCollect (b q : Nat) (T : List Sh.File) (hn : T.length ≤ 2000000) : Con Tryz.prog 156 [.func (.func 158) #[] #[pT q]] [box q 53 [.map (some b)], Sh.tr b T] [] {y : (Option Addr × Nat) × List ByteArray // y.2.Perm (T.map (·.1))} (fun y => .slice y.1.1.1 y.1.2.length y.1.1.2) (fun y => [row 9 y.1.1.1 y.1.1.2 y.1.2, box q 53 [.map (some b)], Sh.tr b T]) (fun _ => []) := by
 refine con func156 rfl ntmps156 rfl ?_;intro M0 F0 w0;refine k_ 8 ?_;refine lC [0, 0] call213 (c_sh_appSeq b q T hn) ?_; intro x4;refine k_ 5 ?_;exact rR [0, 0, 0] x4
theorem c_sh_tSorted (b q : Nat) (T : List Sh.File) (hn : T.length ≤ 2000000) : Con Tryz.prog 102 [.func (.func 158) #[] #[pT q]] [box q 53 [.map (some b)], Sh.tr b T] [] (Option Addr × Nat) (fun y => .slice y.1 T.length y.2) (fun y => [row 9 y.1 y.2 (T.map (·.1)), box q 53 [.map (some b)], Sh.tr b T]) (fun _ => []) := by
 refine con func102 rfl ntmps102 rfl ?_;intro M0 F0 w0;refine k_ 8 ?_;refine lC [0, 0] call156 (c_sh_tCollect b q T hn) ?_; rintro ⟨⟨⟨A5, c5⟩, ks⟩, hks⟩;refine k_ 4 ?_;dsimp only at hks;refine cpure (St.trS (b := b) Θ) ?_;intro hso;have hlen : ks.length = T.length := (by have := hks.length_eq; simpa using this);have hsb := Sh.sortB_keys hso hks;refine k_ 2 ?_;refine lC [0] call157 (l_Sort 9 A5 c5 ks (by omega)) ?_; intro u7;refine k_ 3 ?_;rw [hsb];refine k_ 7 ?_;refine rret (is := [0, 0, 0]) (A5, c5) (Or.inl rfl) (Res.t rfl Res.d) ?_ rfl Ω;simp [packV, hlen]
theorem want_eq {files : List ByteArray} {p : Prim} : (decide ((files.length : Int) = 0) || (sortB p.names).any fun s => files.any fun t => decide (t = s)) = wantP files p := by
 unfold wantP;rw [sortB_names, Bool.eq_iff_iff];simp only [Bool.or_eq_true, decide_eq_true_eq, List.any_eq_true];constructor
 ·rintro (h | ⟨s, hs, t, ht, e⟩)
  ·exact .inl (by omega)
  ·exact .inr ⟨t, ht, s, hs, e.symm⟩
 ·rintro (h | ⟨t, ht, s, hs, e⟩)
  ·exact .inl (by omega)
  ·exact .inr ⟨s, hs, t, ht, e.symm⟩
theorem spW_f {l : List Prim} {files : List ByteArray} {k : Nat} (hk : k < l.length) : spW l files false k = wantP files l[k] := by
 unfold spW; rw [List.getElem?_eq_getElem hk]; dsimp only; cases wantP files l[k] <;> rfl
theorem spW_t {l : List Prim} {files : List ByteArray} {k : Nat} (hk : k < l.length) : spW l files true k = !wantP files l[k] := by
 unfold spW; rw [List.getElem?_eq_getElem hk]; dsimp only; cases wantP files l[k] <;> rfl
theorem chR_no {s : RS} {l : List Prim} {U : List File} {e : Int} (h : (U, e) = rowT (treeR s) l) (he : ¬ e = 0) : rChange s l = (s, e) := by unfold rChange; rw [← h, if_neg he]
theorem chR_yes {s : RS} {l : List Prim} {U : List File} (h : (U, 0) = rowT (treeR s) l) : rChange s l = (⟨s.log, s.pend ++ l, s.shv⟩, 0) := by unfold rChange; rw [← h, if_pos rfl]
theorem chR_tree {m n : Nat} {s : RS} (hI : RepI m n s) {l : List Prim} {U : List File} (h : (U, 0) = rowT (treeR s) l) : treeR ⟨s.log, s.pend ++ l, s.shv⟩ = U := treeR_of (runs_app.2 ⟨_, hI.runs, rowT_runs h.symm⟩)
theorem c_wanted1 (files : List ByteArray) (B : Option Addr) (c' : Nat) (hfl : files.length ≤ 2000000) (b : Nat) (s : ByteArray) : Con Tryz.prog 173 [.string s, pT b] [box b 73 [.slice B files.length c']] [slA B files] Unit (fun _ => .bool (files.any fun t => decide (t = s))) (fun _ => [box b 73 [.slice B files.length c']]) (fun _ => []) := by
 refine con func173 rfl ntmps173 rfl ?_;intro M0 F0 w0;refine k_ 9 ?_;refine lC [] call174 (c_Contains files B c' hfl s) ?_; intro x6;refine k_ 5 ?_;exact rR [0] ()
theorem c_wanted (p : Prim) (y : Rp.Lay Prim) (files : List ByteArray) (B : Option Addr) (c' : Nat) (hfl : files.length ≤ 2000000) : Con Tryz.prog 124 [sv p y, .slice B files.length c'] [] (Rp.asn p y ++ [slA B files]) Unit (fun _ => .bool (wantP files p)) (fun _ => []) (fun _ => []) := by
 refine con func124 rfl ntmps124 rfl ?_;intro M0 F0 w0;refine k_ 2 ?_;refine ls (o_box rfl rfl rfl) ?_;refine le ?_; intro b2;refine ls (o_box rfl rfl rfl) ?_;refine le ?_; intro b3;refine k_ 9 ?_;refine orX 5 8 13 rfl (sL [0, 1, 4]) ?_ ?_
 ·intro h8;refine k_ 5 ?_;refine ln (nmid (wk0 Φ Ω))
 apply exI
 ·intro h8;refine lwant rfl rfl rfl rfl (o_ldw isAgg103 sizeOf103 rfl Θ (by rfl) rfl) ?_;refine lwant rfl rfl rfl rfl (o_call (is := []) call172 (c_primNames p y) rfl rfl Ω rfl) ?_;refine le ?_; rintro ⟨⟨l1, y1⟩, hl1⟩;obtain rfl : l1 = sortB p.names := hl1;refine lwant rfl rfl rfl rfl (op (p_mkf rfl) rfl) ?_;refine lwant rfl rfl rfl rfl (o_call (is := [0]) call171 (c_ContainsFunc1 (sortB p.names) y1.1 y1.2 (by rw [sortB_length]; unfold Prim.names; split <;> simp) (fun s => files.any fun t => decide (t = s)) 173 [pT b3] [slA B files] (box b3 73 [.slice B files.length c']) call173 (fun s _ => c_wanted1 files B c' hfl b3 s)) rfl rfl Ω rfl) ?_
  refine le ?_; intro x12;refine k_ 1 ?_;refine ln (nmid (wk0 Φ Ω))
 ·
  refine k_ 5 ?_;refine rret (is := []) () (Or.inl rfl) (Res.t rfl Res.d) ?_ rfl Ω;simp only [packV]; rw [want_eq]
theorem c_split1 (k : Nat) (p : Prim) (y : Rp.Lay Prim) (files : List ByteArray) (B : Option Addr) (c' : Nat) (hfl : files.length ≤ 2000000) (b : Nat) : Con Tryz.prog 123 [.int .i64 (k : Int), sv p y, pT b] [box b 73 [.slice B files.length c']] (Rp.asn p y ++ [slA B files]) Unit (fun _ => .bool (wantP files p)) (fun _ => [box b 73 [.slice B files.length c']]) (fun _ => []) := by
 refine con func123 rfl ntmps123 rfl ?_;intro M0 F0 w0;refine k_ 2 ?_;refine ls (o_box rfl rfl rfl) ?_;refine le ?_; intro b4;refine k_ 5 ?_;refine ls (o_ldw isAgg103 sizeOf103 rfl Θ (by rfl) rfl) ?_;refine k_ 1 ?_;refine lC [] call124 (c_wanted p y files B c' hfl) ?_; intro x8;refine k_ 5 ?_;exact rR [1] ()
theorem c_undo1 (k : Nat) (p : Prim) (y : Rp.Lay Prim) (files : List ByteArray) (B : Option Addr) (c' : Nat) (hfl : files.length ≤ 2000000) (b : Nat) : Con Tryz.prog 151 [.int .i64 (k : Int), sv p y, pT b] [box b 73 [.slice B files.length c']] (Rp.asn p y ++ [slA B files]) Unit (fun _ => .bool (!wantP files p)) (fun _ => [box b 73 [.slice B files.length c']]) (fun _ => []) := by
 refine con func151 rfl ntmps151 rfl ?_;intro M0 F0 w0;refine k_ 2 ?_;refine ls (o_box rfl rfl rfl) ?_;refine le ?_; intro b4;refine k_ 5 ?_;refine ls (o_ldw isAgg103 sizeOf103 rfl Θ (by rfl) rfl) ?_;refine k_ 1 ?_;refine lC [] call124 (c_wanted p y files B c' hfl) ?_; intro x8;refine k_ 6 ?_;exact rR [1] ()
theorem c_repSplit (pr : Nat) (s : RS) (m n : Nat) (hI : RepI m n s) (hm : m ≤ 100000) (hn : n ≤ 100000) (files : List ByteArray) (B : Option Addr) (c' : Nat) (hfl : files.length ≤ 2000000) : Con Tryz.prog 70 [pT pr, .slice B files.length c'] [repoX 56 124 139 63 103 (pr) (s)] [slA B files] {x : (List Prim × List Prim) × ((Option Addr × Nat) × (Option Addr × Nat)) // x.1 = splR s.pend files false} (fun x => .tuple #[.slice x.1.2.1.1 x.1.1.1.length x.1.2.1.2, .slice x.1.2.2.1 x.1.1.2.length x.1.2.2.2]) (fun x => [row 103 x.1.2.1.1 x.1.2.1.2 x.1.1.1, row 103 x.1.2.2.1 x.1.2.2.2 x.1.1.2, repoX 56 124 139 63 103 (pr) (s)]) (fun _ => []) := by
 refine con func70 rfl ntmps70 rfl ?_;intro M0 F0 w0;refine k_ 2 ?_;refine ls (o_box rfl rfl rfl) ?_;refine le ?_; intro b3;refine k_ 5 ?_;have hpl : s.pend.length ≤ 900000 := (by have := hI.y; omega);refine unrepC (i := 1) rfl ?_; intro pl p b A cA Qa cQ mb pt bt;refine k_ 2 ?_;refine ls (op (p_nilck rfl) rfl) ?_;refine k_ 2 ?_;refine ls (op (p_mkf rfl) rfl) ?_;refine lC [5, 8] call122 (c_seqSplitW s.pend Qa cQ hpl hI.fit (spW s.pend files false) 123 [pT b3] [slA B files] (fun _ => box b3 73 [.slice B files.length c']) call123 (fun k hk y => by rw [spW_f hk]; exact c_split1 k s.pend[k] y files B c' hfl b3)) ?_; rintro ⟨⟨⟨F, R⟩, ⟨⟨A1, c1⟩, ⟨A2, c2⟩⟩⟩, hr⟩;dsimp only at hr;refine k_ 8 ?_;refine nmono (fun a w h => mkrep (s := s) [4, 4, 4, 4, 4, 2, 3, 3, 3] rfl ⟨rfl, rfl, rfl, rfl, rfl⟩ h) ?_;exact rR [1, 1, 0] ⟨((F, R), ((A1, c1), (A2, c2))), hr⟩
theorem c_repChange (pr : Nat) (s : RS) (m n : Nat) (hI : RepI m n s) (hm : m ≤ 100000) (hn : n ≤ 100000) (l : List Prim) (B : Option Addr) (c' : Nat) (hcap : l.length ≤ c') (hlf : ∀ x ∈ l, x.fit) (hlz : lns l ≤ 100000) (hly : l.length ≤ 100000) : Con Tryz.prog 50 [pT pr, .slice B l.length c'] [repoX 56 124 139 63 103 (pr) (s)] [slA B l] {x : RS × Int // x = rChange s l} (fun x => .int .i64 x.1.2) (fun x => [repoX 56 124 139 63 103 (pr) (x.1.1)]) (fun _ => []) := by
 refine con func50 rfl ntmps50 rfl ?_;intro M0 F0 w0;refine k_ 7 ?_;have hpl := hI.y;refine unrepC (i := 0) rfl ?_; intro pl p b A cA Qa cQ mb pt bt;refine k_ 2 ?_;refine ls (op (p_nilck rfl) rfl) ?_;refine k_ 3 ?_;refine lC [7, 7] call43 (c_seqApply pt bt (treeR s) (m + m) (n + n) hI.app l B c' hcap (by omega) hlf (by omega) (by omega)) ?_; rintro ⟨⟨U, e11⟩, hq⟩;refine k_ 9 ?_;refine cc rfl ?_ ?_
 ·intro h13;have he : ¬ e11 = 0 := (by have h := h13; simpa using h);obtain rfl : U = treeR s := rowT_no hq he;refine k_ 8 ?_;refine nmono (fun a w h => mkrep (s := s) [2, 2, 2, 2, 2, 2, 2, 0, 0] rfl ⟨rfl, rfl, rfl, rfl, rfl⟩ h) ?_;exact rR [0] ⟨(s, e11), (chR_no hq he).symm⟩
 ·intro h13;obtain rfl : e11 = 0 := (by have h := h13; simpa using h);refine k_ 3 ?_;refine cd [6, 7, 10] [(4, pr, 1, _)] TryzX.mixed (tB 1 TOk.d) ?_;refine u_ 0 2 ?_;refine tk 2 rfl Ψ Υ gnone (TTany _) (p_nilck rfl) rfl ?_;refine u_ 3 3 ?_;refine df 6 Ψ ?_;refine doR rfl (o_call (is := []) call57 (c_copied l B c' (by omega) hlf) rfl rfl Ω rfl) (TOk.t (isBoxE fun _ => isBoxS Θ (k := 1) Δ) TOk.d) ?_;refine ea ?_; rintro ⟨A21, c21⟩;refine amono (fun a w h => Go.Sx.freeze (i := 0) rfl h) ?_;refine df 7 Ψ ?_;refine doR rfl (o_appX (i := 7) underlying40 inf103 rfl (by decide) (by decide) rfl rfl (by omega) rfl Ω rfl) tX ?_;refine ea ?_; rintro ⟨A22, c22⟩;refine tk 8 rfl Ψ Υ gnone (TTany _) (p_nilck rfl) rfl ?_;refine u_ 9 1 ?_;refine df 10 Ψ ?_;refine doR rfl (o_st rfl sizeOf40 rfl rfl rfl rfl rfl Θ Θ Θ) tX ?_;refine dn Ψ ?_;refine k_ 8 ?_;refine nmono (fun a w h => mkrep (s := ⟨s.log, s.pend ++ l, s.shv⟩) [3, 3, 3, 3, 3, 0, 2, 0, 0] rfl ⟨rfl, rfl, rfl, rfl, (chR_tree hI hq).symm⟩ h) ?_;exact rR [0] ⟨(⟨s.log, s.pend ++ l, s.shv⟩, 0), (chR_yes hq).symm⟩
theorem shy_mem {S : List Sh.File} {x : Sh.File} (h : x ∈ S) : x.2.length ≤ shy S := by
 induction S with
 | nil => cases h
 | cons y S ih =>
  unfold shy at ih ⊢;rw [List.map_cons, List.sum_cons];rcases List.mem_cons.1 h with rfl | h
  ·omega
  ·have := ih h; omega
theorem RepI.shl {m n : Nat} {s : RS} (h : RepI m n s) (nm : ByteArray) : (Sh.getL s.shv nm).length ≤ n := by
 unfold Sh.getL;cases e : Sh.getT s.shv nm with
 | none => exact Nat.zero_le _
 | some l =>
  have h1 : l.length ≤ shy s.shv := shy_mem ((Sh.getT_some h.so).1 e);have h2 := h.y;simp only [Option.getD_some]; omega
theorem RepI.shf {m n : Nat} {s : RS} (h : RepI m n s) (nm : ByteArray) : ∀ p ∈ Sh.getL s.shv nm, p.fit := by
 unfold Sh.getL;cases e : Sh.getT s.shv nm with
 | none => intro p hp; cases hp
 | some l => exact (h.sfit _ ((Sh.getT_some h.so).1 e)).2.2
theorem c_repNew : Con Tryz.prog 33 [] [] [] Nat (fun pr => pT pr) (fun pr => [repoX 56 124 139 63 103 (pr) (⟨[], [], []⟩)]) (fun _ => []) := by
 refine con func33 rfl ntmps33 rfl ?_;intro M0 F0 w0;refine k_ 7 ?_;refine lC [] call78 (c_logNew) ?_; rintro ⟨pl, p, b⟩;refine k_ 1 ?_;refine ls (Sh.o_mmk rfl) ?_;refine le ?_; intro mb;refine lC [] call79 (c_tNew) ?_; rintro ⟨pt, bt⟩;refine k_ 1 ?_;refine ls (o_box rfl rfl rfl) ?_;refine le ?_; intro b6;refine k_ 5 ?_;refine nmono (fun a w h => nilRow (α := Patch) 63 h) ?_;refine nmono (fun a w h => nilRow (α := Prim) 103 h) ?_;refine nmono (fun a w h => mkrep (s := ⟨[], [], []⟩) [2, 5, 1, 4, 4, 0, 2, 0, 0] rfl ⟨rfl, rfl, rfl, rfl, rfl⟩ h) ?_;exact rR [0] b6
theorem c_recBase (pl p b : Nat) (T : List File) (s0 : Value) : Con Tryz.prog 41 [.agg #[pT pl]] [box pl 124 [s0, pT p], box p 139 [.map (some b)], tr b T] [] (Nat × Nat) (fun y => pT y.1) (fun y => [box y.1 139 [.map (some y.2)], tr y.2 T, box pl 124 [s0, pT p], box p 139 [.map (some b)], tr b T]) (fun _ => []) := by
 refine con func41 rfl ntmps41 rfl ?_;intro M0 F0 w0;refine k_ 2 ?_;refine ls (o_box rfl rfl rfl) ?_;refine le ?_; intro b1;refine k_ 7 ?_;refine lC [1, 1, 1] call88 (c_logTree pl p b T s0) ?_; rintro ⟨p5, b5⟩;refine k_ 5 ?_;exact rR [0, 0, 0, 0, 0] (p5, b5)
theorem c_recLog (l : List Patch) (A : Option Addr) (c : Nat) (hl : l.length ≤ 2000000) (hf : ∀ q ∈ l, q.fit) (pl p b : Nat) (T : List File) : Con Tryz.prog 22 [.agg #[pT pl]] [box pl 124 [.slice A l.length c, pT p], row 63 A c l, box p 139 [.map (some b)], tr b T] [] ((Option Addr × Nat) × (Nat × Nat × Nat)) (fun y => pT y.2.1) (fun y => [box y.2.1 124 [.slice y.1.1 l.length y.1.2, pT y.2.2.1], row 63 y.1.1 y.1.2 l, box y.2.2.1 139 [.map (some y.2.2.2)], tr y.2.2.2 T, box pl 124 [.slice A l.length c, pT p], row 63 A c l, box p 139 [.map (some b)], tr b T]) (fun _ => []) := by
 refine con func22 rfl ntmps22 rfl ?_;intro M0 F0 w0;refine k_ 2 ?_;refine ls (o_box rfl rfl rfl) ?_;refine le ?_; intro b1;refine k_ 7 ?_;refine lC [1, 1, 1, 1] call65 (c_logCopy l A c hl hf pl p b T) ?_; intro y5;refine k_ 5 ?_;exact rR [0, 0, 0, 0, 0, 0, 0, 0] y5
theorem c_repPendO (l : List Prim) (A : Option Addr) (c : Nat) (hl : l.length ≤ 2000000) (hf : ∀ x ∈ l, x.fit) (pr : Nat) (v0 v2 v3 : Value) : Con Tryz.prog 24 [pT pr] [box pr 56 [v0, .slice A l.length c, v2, v3], row 103 A c l] [] (Option Addr × Nat) (fun y => .slice y.1 l.length y.2) (fun y => [row 103 y.1 y.2 l, box pr 56 [v0, .slice A l.length c, v2, v3], row 103 A c l]) (fun _ => []) := by
 refine con func24 rfl ntmps24 rfl ?_;intro M0 F0 w0;refine k_ 8 ?_;refine ls (op (p_nilck rfl) rfl) ?_;refine k_ 2 ?_;refine lC [1] call57 (c_copiedW l A c hl hf) ?_; intro y7;refine k_ 5 ?_;exact rR [0, 1, 0] y7
theorem c_repTreeO (p b : Nat) (T : List File) (pr : Nat) (v0 v1 v2 : Value) : Con Tryz.prog 32 [pT pr] [box pr 56 [v0, v1, v2, pT p], box p 139 [.map (some b)], tr b T] [] (Nat × Nat) (fun y => pT y.1) (fun y => [box y.1 139 [.map (some y.2)], tr y.2 T, box pr 56 [v0, v1, v2, pT p], box p 139 [.map (some b)], tr b T]) (fun _ => []) := by
 refine con func32 rfl ntmps32 rfl ?_;intro M0 F0 w0;refine k_ 8 ?_;refine ls (op (p_nilck rfl) rfl) ?_;refine k_ 2 ?_;refine lC [1, 1] call77 (c_tCopy p b T) ?_; rintro ⟨p7, b7⟩;refine k_ 5 ?_;exact rR [0, 0, 2, 0, 0] (p7, b7)
theorem c_repPending (pr : Nat) (s : RS) (m n : Nat) (hI : RepI m n s) (hm : m ≤ 100000) (hn : n ≤ 100000) : Con Tryz.prog 24 [pT pr] [repoX 56 124 139 63 103 (pr) (s)] [] (Option Addr × Nat) (fun y => .slice y.1 s.pend.length y.2) (fun y => [row 103 y.1 y.2 s.pend, repoX 56 124 139 63 103 (pr) (s)]) (fun _ => []) := by
 refine con func24 rfl ntmps24 rfl ?_;intro M0 F0 w0;refine k_ 6 ?_;have hpl : s.pend.length ≤ 900000 := (by have := hI.y; omega);refine unrepC (i := 0) rfl ?_; intro pl p b A cA Qa cQ mb pt bt;refine k_ 2 ?_;refine ls (op (p_nilck rfl) rfl) ?_;refine k_ 2 ?_;refine lC [5] call57 (c_copiedW s.pend Qa cQ (by omega) hI.fit) ?_; intro y7;refine k_ 5 ?_;refine nmono (fun a w h => mkrep (s := s) [2, 2, 2, 2, 2, 1, 1, 1, 1] rfl ⟨rfl, rfl, rfl, rfl, rfl⟩ h) ?_;exact rR [1, 0] y7
theorem c_repCopy (pr : Nat) (s : RS) (m n : Nat) (hI : RepI m n s) (hm : m ≤ 100000) (hn : n ≤ 100000) : Con Tryz.prog 25 [pT pr] [repoX 56 124 139 63 103 (pr) (s)] [] Nat (fun y => pT y) (fun y => [repoX 56 124 139 63 103 (y) (s), repoX 56 124 139 63 103 (pr) (s)]) (fun _ => []) := by
 refine con func25 rfl ntmps25 rfl ?_;intro M0 F0 w0;refine k_ 6 ?_;have hpl : s.pend.length ≤ 900000 := (by have := hI.y; omega);have hlg := hI.log.len;refine unrepC (i := 0) rfl ?_; intro pl p b A cA Qa cQ mb pt bt;refine cd [4, 7, 12, 14, 16] [(3, pr, 0, _), (11, pr, 2, _)] TryzX.mixed (tB 1 (tB 1 TOk.d)) ?_;refine u_ 0 1 ?_;refine tk 1 rfl Ψ Υ gnone (TTany _) (p_nilck rfl) rfl ?_;refine u_ 2 2 ?_;refine u_ 6 1 ?_;refine u_ 8 1 ?_;refine tk 9 rfl Ψ Υ gnone (TTany _) (p_nilck rfl) rfl ?_;refine u_ 10 2 ?_;refine u_ 13 1 ?_;refine df 4 Ψ ?_;refine doR rfl (o_call (is := [1, 1, 1, 1]) call22 (c_recLog s.log A cA (by omega) hI.log.ok.fit pl p b (treeP s.log)) rfl rfl Ω rfl) (TOk.x Ψ (TOk.t (isBoxE fun _ => isBoxS Θ (k := 1) Δ) TOk.d)) ?_;refine ea ?_; rintro ⟨⟨A7, c7⟩, ⟨l7, p7, b7⟩⟩;refine u_ 5 1 ?_;refine df 7 Ψ ?_;refine doR rfl (o_call (is := [8, 8]) call24 (c_repPendO s.pend Qa cQ (by omega) hI.fit pr (pT pl) (.map (some mb)) (pT pt)) rfl rfl Ω rfl) (TOk.x Ψ (TOk.t (isBoxE fun _ => isBoxS Θ (k := 1) Δ) TOk.d)) ?_;refine ea ?_; rintro ⟨A10, c10⟩;refine df 12 Ψ ?_;refine doR rfl (o_call (is := [11]) call67 (c_sh_mClone mb s.shv) rfl rfl Ω rfl) tX ?_;refine ea ?_; intro m15;refine df 14 Ψ ?_;refine doR rfl (o_call (is := [3, 12, 12]) call32 (c_repTreeO pt bt (treeR s) pr (pT pl) (.slice Qa s.pend.length cQ) (.map (some mb))) rfl rfl Ω rfl) tX ?_;refine ea ?_; rintro ⟨p17, b17⟩;refine u_ 15 1 ?_;refine df 16 Ψ ?_;refine doR rfl (o_box rfl rfl rfl) tX ?_;refine ea ?_; intro b19;refine u_ 17 1 ?_;refine dn Ψ ?_;refine k_ 3 ?_;refine nmono (fun a w h => mkrep (s := s) [0, 9, 9, 9, 9, 7, 5, 0, 0] rfl ⟨rfl, rfl, rfl, rfl, rfl⟩ h) ?_;refine nmono (fun a w h => mkrep (s := s) [1, 5, 5, 5, 5, 4, 3, 1, 1] rfl ⟨rfl, rfl, rfl, rfl, rfl⟩ h) ?_;exact rR [1, 0] b19
theorem c_repShelf (pr : Nat) (s : RS) (m n : Nat) (hI : RepI m n s) (hm : m ≤ 100000) (hn : n ≤ 100000) (nm : ByteArray) : Con Tryz.prog 51 [pT pr, .string nm] [repoX 56 124 139 63 103 (pr) (s)] [] (Option Addr × Nat) (fun y => .tuple #[.slice y.1 (Sh.getL s.shv nm).length y.2, .bool (Sh.hasT s.shv nm)]) (fun y => [row 103 y.1 y.2 (Sh.getL s.shv nm), repoX 56 124 139 63 103 (pr) (s)]) (fun _ => []) := by
 refine con func51 rfl ntmps51 rfl ?_;intro M0 F0 w0;refine k_ 7 ?_;have hsl := hI.shl nm;refine unrepC (i := 0) rfl ?_; intro pl p b A cA Qa cQ mb pt bt;refine k_ 2 ?_;refine ls (op (p_nilck rfl) rfl) ?_;refine k_ 3 ?_;refine ls (Sh.o_look underlying53 underlying9 zeroValue40 rfl rfl Θ rfl) ?_;refine le ?_; rintro y14;refine k_ 10 ?_;refine lC [] call57 (c_copied (Sh.getL s.shv nm) y14.1 y14.2 (by omega) (hI.shf nm)) ?_; intro y18;refine k_ 7 ?_;refine nmono (fun a w h => mkrep (s := s) [1, 1, 1, 1, 1, 1, 1, 1, 1] rfl ⟨rfl, rfl, rfl, rfl, rfl⟩ h) ?_;exact rR [1, 0] y18
theorem c_repShelves (pr : Nat) (s : RS) (m n : Nat) (hI : RepI m n s) (hm : m ≤ 100000) (hn : n ≤ 100000) : Con Tryz.prog 53 [pT pr] [repoX 56 124 139 63 103 (pr) (s)] [] (Option Addr × Nat) (fun y => .slice y.1 s.shv.length y.2) (fun y => [row 9 y.1 y.2 (s.shv.map (·.1)), repoX 56 124 139 63 103 (pr) (s)]) (fun _ => []) := by
 refine con func53 rfl ntmps53 rfl ?_;intro M0 F0 w0;refine k_ 6 ?_;have hc3 := hI.c3;refine unrepC (i := 0) rfl ?_; intro pl p b A cA Qa cQ mb pt bt;refine k_ 2 ?_;refine ls (op (p_nilck rfl) rfl) ?_;refine k_ 2 ?_;refine lC [] call103 (c_sh_mKeys mb) ?_; intro b7;refine lC [0, 6] call102 (c_sh_tSorted mb b7 s.shv (by omega)) ?_; intro y8;refine k_ 5 ?_;refine nmono (fun a w h => mkrep (s := s) [3, 3, 3, 3, 3, 3, 2, 2, 2] rfl ⟨rfl, rfl, rfl, rfl, rfl⟩ h) ?_;exact rR [1, 0] y8
def rUndo (s : RS) (files : List ByteArray) : (RS × (List Prim × List Prim)) × Int :=
 if (splR s.pend files true).2 = [] then ((s, ([], [])), 141) else ((⟨s.log, (splR s.pend files true).1, s.shv⟩, ((splR s.pend files true).2, invL (splR s.pend files true).2)), 0)
theorem und_no {s : RS} {files : List ByteArray} {F : List Prim} (hr : (F, []) = splR s.pend files true) : rUndo s files = ((s, ([], [])), 141) := by unfold rUndo; rw [← hr, if_pos rfl]
theorem und_yes {s : RS} {files : List ByteArray} {F R : List Prim} (hr : (F, R) = splR s.pend files true) (h0 : ¬ R = []) : rUndo s files = ((⟨s.log, F, s.shv⟩, (R, invL R)), 0) := by unfold rUndo; rw [← hr, if_neg h0]
theorem und_U {m n : Nat} {s : RS} (hI : RepI m n s) {files : List ByteArray} {F R : List Prim} (hr : (F, R) = splR s.pend files true) (h0 : ¬ R = []) {U : List File} {e : Int} (hq : (U, e) = rowT (treeR s) (invL R)) : U = treeR ⟨s.log, F, s.shv⟩ := by
 have h := (hI.revert files).2.2;unfold rRevert at h;rw [← hr, if_neg h0] at h;have h := h rfl;dsimp only at h;rw [h] at hq;exact congrArg Prod.fst hq
theorem rRevert_eq {s : RS} {files : List ByteArray} : rRevert s files = (((rUndo s files).1.1, (rUndo s files).1.2.2), (rUndo s files).2) := by unfold rRevert rUndo; split <;> rfl
theorem c_repUndo (pr : Nat) (s : RS) (m n : Nat) (hI : RepI m n s) (hm : m ≤ 100000) (hn : n ≤ 100000) (files : List ByteArray) (B : Option Addr) (c' : Nat) (hfl : files.length ≤ 2000000) : Con Tryz.prog 93 [pT pr, .slice B files.length c'] [repoX 56 124 139 63 103 (pr) (s)] [slA B files] {x : ((RS × (List Prim × List Prim)) × Int) × ((Option Addr × Nat) × (Option Addr × Nat)) // x.1 = rUndo s files} (fun x => .tuple #[.slice x.1.2.1.1 x.1.1.1.2.1.length x.1.2.1.2, .slice x.1.2.2.1 x.1.1.1.2.2.length x.1.2.2.2, .int .i64 x.1.1.2]) (fun x => [repoX 56 124 139 63 103 (pr) (x.1.1.1.1)]) (fun x => [slA x.1.2.1.1 x.1.1.1.2.1, nilA x.1.2.1, slA x.1.2.2.1 x.1.1.1.2.2, nilA x.1.2.2, capA x.1.2.1.2 x.1.1.1.2.1.length, capA x.1.2.2.2 x.1.1.1.2.2.length]) := by
 refine con func93 rfl ntmps93 rfl ?_;intro M0 F0 w0;refine k_ 2 ?_;refine ls (o_box rfl rfl rfl) ?_;refine le ?_; intro b3;refine k_ 6 ?_;have hpl : s.pend.length ≤ 900000 := (by have := hI.y; omega);have hs := hI.split files true;refine unrepC (i := 1) rfl ?_; intro pl p b A cA Qa cQ mb pt bt;refine k_ 2 ?_;refine ls (op (p_nilck rfl) rfl) ?_;refine k_ 2 ?_;refine ls (op (p_mkf rfl) rfl) ?_;refine lC [5, 8] call122 (c_seqSplitW s.pend Qa cQ hpl hI.fit (spW s.pend files true) 151 [pT b3] [slA B files] (fun _ => box b3 73 [.slice B files.length c']) call151 (fun k hk y => by rw [spW_t hk]; exact c_undo1 k s.pend[k] y files B c' hfl b3)) ?_; rintro ⟨⟨⟨F, R⟩, ⟨⟨A1, c1⟩, ⟨A2, c2⟩⟩⟩, hr⟩;dsimp only at hr;have hsz := hs.z;have hsy := hs.y;have hsr := hs.fr;rw [show (splR s.pend files true) = (F, R) from hr.symm] at hsz hsy hsr;dsimp only at hsz hsy hsr;have hii := invL_len R;have hil := lns_inv R;have hIz := hI.z;have hIy := hI.y;refine k_ 15 ?_;refine cc rfl ?_ ?_
 ·intro h19;(try simp only [nrmZ] at h19);obtain rfl : R = [] := List.eq_nil_of_length_eq_zero (by omega);refine k_ 9 ?_;refine nmono (fun a w h => mkrep (s := s) [4, 4, 4, 4, 4, 2, 3, 3, 3] rfl ⟨rfl, rfl, rfl, rfl, rfl⟩ h) ?_;refine nmono (fun a w h => nilRow (α := Prim) 103 h) ?_;refine nmono (fun a w h => freezeN (i := 0) rfl h) ?_;exact rR [0] ⟨(((s, ([], [])), 141), ((none, 0), (none, 0))), (und_no hr).symm⟩
 ·intro h19;(try simp only [nrmZ] at h19);have hR0 : ¬ R = [] := fun e => by have h : R.length = 0 := congrArg List.length e; omega
  refine k_ 5 ?_;refine lC [1] call91 (c_seqInvertW R A2 c2 (by omega) hsr) ?_; rintro ⟨A21, c21⟩;refine lmono (fun a w h => freezeN (i := 0) rfl h) ?_;refine lmono (fun a w h => freezeN (i := 0) rfl h) ?_;refine lpure (St.cap (m := (invL R).length) (c := c21) Θ) ?_;intro hcap21;refine k_ 6 ?_;refine ls (op (p_nilck rfl) rfl) ?_;refine k_ 3 ?_;refine lC [9, 9] call43 (c_seqApply pt bt (treeR s) (m + m) (n + n) hI.app (invL R) A21 c21 hcap21 (by omega) (invL_fit hsr) (by omega) (by omega)) ?_; rintro ⟨⟨U, e27⟩, hq⟩;obtain rfl : U = treeR ⟨s.log, F, s.shv⟩ := und_U hI hr hR0 hq;refine k_ 6 ?_;refine ls (op (p_nilck rfl) rfl) ?_;refine k_ 15 ?_;refine nmono (fun a w h => mkrep (s := ⟨s.log, F, s.shv⟩) [5, 5, 5, 5, 5, 2, 4, 0, 0] rfl ⟨rfl, rfl, rfl, rfl, rfl⟩ h) ?_;exact rR [0] ⟨(((⟨s.log, F, s.shv⟩, (R, invL R)), 0), ((A2, c2), (A21, c21))), (und_yes hr hR0).symm⟩
theorem c_repRevert (pr : Nat) (s : RS) (m n : Nat) (hI : RepI m n s) (hm : m ≤ 100000) (hn : n ≤ 100000) (files : List ByteArray) (B : Option Addr) (c' : Nat) (hfl : files.length ≤ 2000000) : Con Tryz.prog 45 [pT pr, .slice B files.length c'] [repoX 56 124 139 63 103 (pr) (s)] [slA B files] {x : ((RS × List Prim) × Int) × (Option Addr × Nat) // x.1 = rRevert s files} (fun x => .tuple #[.slice x.1.2.1 x.1.1.1.2.length x.1.2.2, .int .i64 x.1.1.2]) (fun x => [repoX 56 124 139 63 103 (pr) (x.1.1.1.1)]) (fun x => [slA x.1.2.1 x.1.1.1.2, nilA x.1.2, capA x.1.2.2 x.1.1.1.2.length]) := by
 refine con func45 rfl ntmps45 rfl ?_;intro M0 F0 w0;refine k_ 10 ?_;refine lC [0] call93 (c_repUndo pr s m n hI hm hn files B c' hfl) ?_; rintro ⟨⟨⟨⟨s1, g, v⟩, e12⟩, ⟨⟨A1, c1⟩, ⟨A2, c2⟩⟩⟩, hr⟩;dsimp only at hr;refine k_ 19 ?_;exact rR [0] ⟨(((s1, v), e12), (A2, c2)), by rw [rRevert_eq, ← hr]⟩
theorem shelve_no {s : RS} {nm : ByteArray} {files : List ByteArray} (h : nameOk nm = false ∨ Sh.hasT s.shv nm = true ∨ 3 ≤ s.shv.length) : rShelve s nm files = ((s, []), 140) := by unfold rShelve; rw [if_pos h]
theorem shelve_yes {s s1 : RS} {nm : ByteArray} {files : List ByteArray} {g v : List Prim} {e : Int} (hr : ((s1, (g, v)), e) = rUndo s files) (h : ¬ (nameOk nm = false ∨ Sh.hasT s.shv nm = true ∨ 3 ≤ s.shv.length)) : rShelve s nm files = (((if e = 0 then ⟨s1.log, s1.pend, Sh.putT s1.shv nm g⟩ else s1), v), e) := by
 unfold rShelve;unfold rUndo at hr;rw [if_neg h]
 split at hr
 ·rename_i h1
  obtain ⟨⟨rfl, rfl, rfl⟩, rfl⟩ : (s1 = s ∧ g = [] ∧ v = []) ∧ e = 141 := (by simpa [Prod.ext_iff] using hr);rw [if_pos h1]; rfl
 ·rename_i h1
  rw [if_neg h1];obtain ⟨rfl, h2⟩ : s1 = ⟨s.log, (splR s.pend files true).1, s.shv⟩ ∧ ((g, v), e) = (((splR s.pend files true).2, invL (splR s.pend files true).2), (0 : Int)) := by
   refine ⟨congrArg (fun x => x.1.1) hr, ?_⟩;exact Prod.ext (congrArg (fun x => x.1.2) hr) (congrArg (fun x => x.2) hr)
  cases h2
  rfl
theorem shg_t {a b : Bool} {n : Nat} (h : (a || !b || decide ((n : Int) ≥ 3)) = true) : b = false ∨ a = true ∨ 3 ≤ n := by
 simp only [Bool.or_eq_true, Bool.not_eq_true', decide_eq_true_eq] at h;rcases h with (h | h) | h
 ·exact .inr (.inl h)
 ·exact .inl h
 ·exact .inr (.inr (by omega))
theorem shg_f {a b : Bool} {n : Nat} (h : (a || !b || decide ((n : Int) ≥ 3)) = false) : ¬ (b = false ∨ a = true ∨ 3 ≤ n) := by
 simp only [Bool.or_eq_false_iff, Bool.not_eq_false', decide_eq_false_iff_not] at h;rintro (g | g | g)
 ·rw [h.1.2] at g; cases g
 ·rw [h.1.1] at g; cases g
 ·omega
theorem shz_mem {S : List Sh.File} {x : Sh.File} (h : x ∈ S) : lns x.2 ≤ shz S := by
 induction S with
 | nil => cases h
 | cons y S ih =>
  unfold shz at ih ⊢;rw [List.map_cons, List.sum_cons];rcases List.mem_cons.1 h with rfl | h
  ·omega
  ·have := ih h; omega
theorem RepI.shz' {m n : Nat} {s : RS} (h : RepI m n s) (nm : ByteArray) : lns (Sh.getL s.shv nm) ≤ m := by
 unfold Sh.getL;cases e : Sh.getT s.shv nm with
 | none => exact Nat.zero_le _
 | some l =>
  have h1 : lns l ≤ shz s.shv := shz_mem ((Sh.getT_some h.so).1 e);have h2 := h.z;simp only [Option.getD_some]; omega
theorem unsh_no0 {s : RS} {nm : ByteArray} (h : Sh.hasT s.shv nm = false) : rUnshelve s nm = ((s, []), 140) := by unfold rUnshelve; rw [if_pos h]
theorem unsh_no {s s1 : RS} {nm : ByteArray} {e : Int} (h : Sh.hasT s.shv nm = true) (hr : (s1, e) = rChange s (Sh.getL s.shv nm)) (he : ¬ e = 0) : rUnshelve s nm = ((s1, []), e) := by
 unfold rUnshelve;unfold rChange at hr;rw [if_neg (by rw [h]; simp)]
 split at hr
 ·cases hr; exact absurd rfl he
 ·rename_i h1
  rw [if_neg h1]; cases hr; rfl
theorem unsh_yes {s s1 : RS} {nm : ByteArray} (h : Sh.hasT s.shv nm = true) (hr : (s1, 0) = rChange s (Sh.getL s.shv nm)) : rUnshelve s nm = ((⟨s1.log, s1.pend, Sh.delT s1.shv nm⟩, Sh.getL s.shv nm), 0) := by
 unfold rUnshelve;unfold rChange at hr;rw [if_neg (by rw [h]; simp)]
 split at hr
 ·rename_i h1
  rw [if_pos h1]; cases hr; rfl
 ·rename_i h1
  exact absurd (congrArg Prod.snd hr).symm h1
theorem c_repShelve (pr : Nat) (s : RS) (m n : Nat) (hI : RepI m n s) (hm : m ≤ 100000) (hn : n ≤ 100000) (nm : ByteArray) (files : List ByteArray) (B : Option Addr) (c' : Nat) (hfl : files.length ≤ 2000000) : Con Tryz.prog 46 [pT pr, .string nm, .slice B files.length c'] [repoX 56 124 139 63 103 (pr) (s)] [slA B files] {x : ((RS × List Prim) × Int) × (Option Addr × Nat) // x.1 = rShelve s nm files} (fun x => .tuple #[.slice x.1.2.1 x.1.1.1.2.length x.1.2.2, .int .i64 x.1.1.2]) (fun x => [repoX 56 124 139 63 103 (pr) (x.1.1.1.1)]) (fun x => [slA x.1.2.1 x.1.1.1.2, nilA x.1.2, capA x.1.2.2 x.1.1.1.2.length]) := by
 refine con func46 rfl ntmps46 rfl ?_;intro M0 F0 w0;refine k_ 8 ?_;refine unrepC (i := 0) rfl ?_; intro pl p b A cA Qa cQ mb pt bt;refine k_ 2 ?_;refine ls (op (p_nilck rfl) rfl) ?_;refine k_ 3 ?_;refine ls (Sh.o_look underlying53 underlying9 zeroValue40 rfl rfl Θ rfl) ?_;refine le ?_; rintro y19;refine k_ 11 ?_;refine orX 4 23 27 rfl (sL [0, 1, 2, 6, 7, 14, 15, 16, 17, 18, 19, 13, 20, 21]) ?_ ?_
 ·intro h23;refine k_ 4 ?_;refine ln (nmid (wk0 Φ Ω))
 apply exI
 ·intro h23;refine k_ 1 ?_;refine lwant rfl rfl rfl rfl (o_call (is := []) call94 (c_treeNamed nm) rfl rfl Ω rfl) ?_;refine le ?_; intro x25;refine k_ 2 ?_;refine ln (nmid (wk0 Φ Ω))
 ·
  refine k_ 1 ?_;refine orX 7 28 35 rfl (sL [0, 1, 2, 6, 7, 14, 15, 16, 17, 18, 19, 13, 20, 21]) ?_ ?_
  ·intro h28;refine k_ 7 ?_;refine ln (nmid (wk0 Φ Ω))
  apply exI
  ·intro h28;refine k_ 1 ?_;refine lwant rfl rfl rfl rfl (op (p_nilck rfl) rfl) ?_;refine k_ 2 ?_;refine lwant rfl rfl rfl rfl (Sh.o_lenm underlying53 rfl Θ rfl) ?_;refine k_ 2 ?_;refine ln (nmid (wk0 Φ Ω))
  ·
   refine k_ 2 ?_;refine cc rfl ?_ ?_
   ·intro h35;refine k_ 8 ?_;refine nmono (fun a w h => mkrep (s := s) [0, 0, 0, 0, 0, 0, 0, 0, 0] rfl ⟨rfl, rfl, rfl, rfl, rfl⟩ h) ?_;refine nmono (fun a w h => nilRow (α := Prim) 103 h) ?_;refine nmono (fun a w h => freezeN (i := 0) rfl h) ?_;exact rR [0] ⟨(((s, []), 140), (none, 0)), (shelve_no (shg_t h35)).symm⟩
   ·intro h35;refine k_ 3 ?_;refine cmono (fun a w h => mkrep (s := s) [0, 0, 0, 0, 0, 0, 0, 0, 0] rfl ⟨rfl, rfl, rfl, rfl, rfl⟩ h) ?_;refine k_ 3 ?_;refine lC [0] call93 (c_repUndo pr s m n hI hm hn files B c' hfl) ?_; rintro ⟨⟨⟨⟨s1, g, v⟩, e39⟩, ⟨⟨A1, c1⟩, ⟨A2, c2⟩⟩⟩, hr⟩;dsimp only at hr;refine k_ 16 ?_;refine cc rfl ?_ ?_
    ·intro h44;(try simp only [nrmZ] at h44);refine unrepC (i := 0) rfl ?_; intro pl' p' b' A' cA' Qa' cQ' mb' pt' bt';refine k_ 2 ?_;refine ls (op (p_nilck rfl) rfl) ?_;refine k_ 4 ?_;refine ls (Sh.o_mupd (i := 6) underlying53 underlying9 rfl rfl rfl rfl Ω) ?_;refine k_ 12 ?_;refine nmono (fun a w h => mkrep (s := ⟨s1.log, s1.pend, Sh.putT s1.shv nm g⟩) [1, 1, 1, 1, 1, 1, 0, 0, 0] rfl ⟨rfl, rfl, rfl, rfl, rfl⟩ h) ?_;exact rR [0] ⟨(((⟨s1.log, s1.pend, Sh.putT s1.shv nm g⟩, v), e39), (A2, c2)), by rw [shelve_yes hr (shg_f h35), if_pos h44]⟩
    ·intro h44;(try simp only [nrmZ] at h44);refine k_ 12 ?_;exact rR [0] ⟨(((s1, v), e39), (A2, c2)), by rw [shelve_yes hr (shg_f h35), if_neg h44]⟩
theorem c_repUnshelve (pr : Nat) (s : RS) (m n : Nat) (hI : RepI m n s) (hm : m ≤ 100000) (hn : n ≤ 100000) (nm : ByteArray) : Con Tryz.prog 47 [pT pr, .string nm] [repoX 56 124 139 63 103 (pr) (s)] [] {x : ((RS × List Prim) × Int) × (Option Addr × Nat) // x.1 = rUnshelve s nm} (fun x => .tuple #[.slice x.1.2.1 x.1.1.1.2.length x.1.2.2, .int .i64 x.1.1.2]) (fun x => [repoX 56 124 139 63 103 (pr) (x.1.1.1.1)]) (fun x => [slA x.1.2.1 x.1.1.1.2, nilA x.1.2, capA x.1.2.2 x.1.1.1.2.length]) := by
 refine con func47 rfl ntmps47 rfl ?_;intro M0 F0 w0;refine k_ 7 ?_;have hsl := hI.shl nm;have hsz := hI.shz' nm;refine k_ 3 ?_;refine lC [0] call51 (c_repShelf pr s m n hI hm hn nm) ?_; rintro ⟨A12, c12⟩;refine lmono (fun a w h => freezeN (i := 0) rfl h) ?_;refine lpure (St.cap (m := (Sh.getL s.shv nm).length) (c := c12) Θ) ?_;intro hcap12;refine k_ 14 ?_;refine cc rfl ?_ ?_
 ·intro h16;(try simp only [nrmZ] at h16);refine k_ 8 ?_;refine nmono (fun a w h => nilRow (α := Prim) 103 h) ?_;refine nmono (fun a w h => freezeN (i := 0) rfl h) ?_;exact rR [0] ⟨(((s, []), 140), (none, 0)), (unsh_no0 h16).symm⟩
 ·intro h16;(try simp only [nrmZ] at h16);refine k_ 7 ?_;refine lC [0] call50 (c_repChange pr s m n hI hm hn (Sh.getL s.shv nm) A12 c12 hcap12 (hI.shf nm) (by omega) (by omega)) ?_; rintro ⟨⟨s1, e19⟩, hr⟩;(try dsimp only at hr);refine k_ 9 ?_;refine cc rfl ?_ ?_
  ·intro h21;have he : ¬ e19 = 0 := (by have h := h21; simpa using h);refine k_ 9 ?_;refine nmono (fun a w h => nilRow (α := Prim) 103 h) ?_;refine nmono (fun a w h => freezeN (i := 0) rfl h) ?_;exact rR [0] ⟨(((s1, []), e19), (none, 0)), (unsh_no h16 hr he).symm⟩
  ·intro h21;obtain rfl : e19 = 0 := (by have h := h21; simpa using h);refine k_ 3 ?_;refine unrepC (i := 0) rfl ?_; intro pl p b A cA Qa cQ mb pt bt;refine k_ 2 ?_;refine ls (op (p_nilck rfl) rfl) ?_;refine k_ 3 ?_;refine ls (Sh.o_mdel0 (i := 6) underlying53 underlying9 rfl rfl rfl) ?_;refine k_ 11 ?_;refine nmono (fun a w h => mkrep (s := ⟨s1.log, s1.pend, Sh.delT s1.shv nm⟩) [1, 1, 1, 1, 1, 1, 0, 0, 0] rfl ⟨rfl, rfl, rfl, rfl, rfl⟩ h) ?_;exact rR [0] ⟨(((⟨s1.log, s1.pend, Sh.delT s1.shv nm⟩, Sh.getL s.shv nm), 0), (A12, c12)), (unsh_yes h16 hr).symm⟩
theorem c_logLastQY (l : List Patch) (A : Option Addr) (c : Nat) (hl : l.length ≤ 2000000) (hq0 : Option Addr × Nat) (hf : ∀ q ∈ l, q.fit) (hc : l.length ≤ c) (hA : A = none → c = 0) (pl p : Nat) (v : Int) (h0 : (lastP l v).2 = 0) : Con Tryz.prog 121 [pT pl, .int .i64 v] [row 63 A c (fzq l hq0), oX 103 (l) (hq0), box pl 124 [.slice A l.length c, pT p]] [] {x : List Patch × ((Option Addr × Nat) × (Option Addr × Nat)) // x.1 = (lastP l v).1} (fun _ => .int .i64 0) (fun x => [row 63 x.1.2.1.1 x.1.2.1.2 (fzq x.1.1 x.1.2.2), oX 103 (x.1.1) (x.1.2.2), box pl 124 [.slice x.1.2.1.1 x.1.1.length x.1.2.1.2, pT p]]) (fun _ => []) := by
 intro M0 Fs w hh;refine (c_logLastQ l A c hl hq0 hf hc hA pl p v M0 Fs w hh).mono ?_;rintro e w' ⟨x, Fs', rfl, h⟩;have hx : x.1.1.2 = 0 := (by rw [x.2]; exact h0);refine ⟨⟨(x.1.1.1, x.1.2), congrArg Prod.fst x.2⟩, Fs', by dsimp only; rw [hx], ?_⟩;dsimp only at h;rw [if_pos hx] at h;exact h
theorem c_logLastQN (l : List Patch) (A : Option Addr) (c : Nat) (hl : l.length ≤ 2000000) (hq0 : Option Addr × Nat) (hf : ∀ q ∈ l, q.fit) (hc : l.length ≤ c) (hA : A = none → c = 0) (pl p : Nat) (v : Int) (h0 : ¬ (lastP l v).2 = 0) : Con Tryz.prog 121 [pT pl, .int .i64 v] [row 63 A c (fzq l hq0), oX 103 (l) (hq0), box pl 124 [.slice A l.length c, pT p]] [] Unit (fun _ => .int .i64 (lastP l v).2) (fun _ => []) (fun _ => []) := by
 intro M0 Fs w hh;refine (c_logLastQ l A c hl hq0 hf hc hA pl p v M0 Fs w hh).mono ?_;rintro e w' ⟨x, Fs', rfl, h⟩;have hx : ¬ x.1.1.2 = 0 := (by rw [x.2]; exact h0);refine ⟨(), Fs', by dsimp only; rw [x.2], ?_⟩;dsimp only at h;rw [if_neg hx] at h;exact h
theorem c_endsY (l : List Patch) (A : Option Addr) (c : Nat) (hl : l.length ≤ 2000000) (hf : ∀ q ∈ l, q.fit) (pl p b : Nat) (T : List File) (v : Int) (h0 : (lastP l v).2 = 0) : Con Tryz.prog 69 [.agg #[pT pl], .int .i64 v] [box pl 124 [.slice A l.length c, pT p], row 63 A c l, box p 139 [.map (some b)], tr b T] [] {x : List Patch × ((Option Addr × Nat) × (Option Addr × Nat)) × (Nat × Nat × Nat) // x.1 = (lastP l v).1} (fun x => .tuple #[pT x.1.2.2.1, .int .i64 0]) (fun x => [box x.1.2.2.1 124 [.slice x.1.2.1.1.1 x.1.1.length x.1.2.1.1.2, pT x.1.2.2.2.1], row 63 x.1.2.1.1.1 x.1.2.1.1.2 (fzq x.1.1 x.1.2.1.2), oX 103 (x.1.1) (x.1.2.1.2), box x.1.2.2.2.1 139 [.map (some x.1.2.2.2.2)], tr x.1.2.2.2.2 T, box pl 124 [.slice A l.length c, pT p], row 63 A c l, box p 139 [.map (some b)], tr b T]) (fun _ => []) := by
 refine con func69 rfl ntmps69 rfl ?_;intro M0 F0 w0;refine k_ 2 ?_;refine ls (o_box rfl rfl rfl) ?_;refine le ?_; intro b2;refine k_ 8 ?_;refine lC [1, 1, 1, 1] call65 (c_logCopyQ l A c hl hf pl p b T) ?_; rintro ⟨⟨⟨A4, c4⟩, h4⟩, ⟨l', p', b'⟩⟩;refine k_ 5 ?_;refine cpure (rowFact (α := PatchQ) (A := A4) (c := c4) (l := fzq l h4) Θ) ?_;rintro ⟨hA4, hc4⟩;rw [fzq_len] at hc4;refine k_ 3 ?_;refine lC [1, 1, 0] call121 (c_logLastQY l A4 c4 hl h4 hf hc4 hA4 l' p' v h0) ?_; rintro ⟨⟨L, ⟨⟨A5, c5⟩, h5⟩⟩, hL⟩;refine k_ 9 ?_;refine cc rfl ?_ ?_
 ·intro h15;exact absurd h15 (by decide)
 ·intro h15
  skip
  refine k_ 11 ?_;exact rR [2, 0, 0, 0, 0, 0, 0, 0, 0] ⟨(L, ((A5, c5), h5), (l', p', b')), hL⟩
theorem c_endsN (l : List Patch) (A : Option Addr) (c : Nat) (hl : l.length ≤ 2000000) (hf : ∀ q ∈ l, q.fit) (pl p b : Nat) (T : List File) (v : Int) (h0 : ¬ (lastP l v).2 = 0) : Con Tryz.prog 69 [.agg #[pT pl], .int .i64 v] [box pl 124 [.slice A l.length c, pT p], row 63 A c l, box p 139 [.map (some b)], tr b T] [] Unit (fun _ => .tuple #[.pointer none, .int .i64 (lastP l v).2]) (fun _ => [box pl 124 [.slice A l.length c, pT p], row 63 A c l, box p 139 [.map (some b)], tr b T]) (fun _ => []) := by
 refine con func69 rfl ntmps69 rfl ?_;intro M0 F0 w0;refine k_ 2 ?_;refine ls (o_box rfl rfl rfl) ?_;refine le ?_; intro b2;refine k_ 8 ?_;refine lC [1, 1, 1, 1] call65 (c_logCopyQ l A c hl hf pl p b T) ?_; rintro ⟨⟨⟨A4, c4⟩, h4⟩, ⟨l', p', b'⟩⟩;refine k_ 5 ?_;refine cpure (rowFact (α := PatchQ) (A := A4) (c := c4) (l := fzq l h4) Θ) ?_;rintro ⟨hA4, hc4⟩;rw [fzq_len] at hc4;refine k_ 3 ?_;refine lC [1, 1, 0] call121 (c_logLastQN l A4 c4 hl h4 hf hc4 hA4 l' p' v h0) ?_; rintro ⟨⟩;refine k_ 9 ?_;refine cc rfl ?_ ?_
 ·intro h15
  skip
  refine k_ 9 ?_;exact rR [2, 2, 2, 2] ()
 ·intro h15;exact absurd (by simpa using h15) h0
theorem rec_0 {s : RS} {p : Patch} {files : List ByteArray} {R : List Prim} (hr : ([], R) = splR s.pend files false) : rRecord s p files = (s, 141) := by unfold rRecord; rw [← hr, if_pos rfl]
theorem rec_no {s : RS} {p : Patch} {files : List ByteArray} {F R : List Prim} {e : Int} (hr : (F, R) = splR s.pend files false) (h0 : ¬ F = []) (h2 : e = (addD s.log { p with l := F }).2) (he : ¬ e = 0) : rRecord s p files = (s, e) := by
 unfold rRecord; rw [← hr]; dsimp only; rw [if_neg h0, ← h2, if_neg he]
theorem rec_yes {s : RS} {p : Patch} {files : List ByteArray} {F R : List Prim} {l1 : List Patch} (hr : (F, R) = splR s.pend files false) (h0 : ¬ F = []) (h1 : l1 = (addD s.log { p with l := F }).1) (h2 : 0 = (addD s.log { p with l := F }).2) : rRecord s p files = (⟨l1, R, s.shv⟩, 0) := by
 unfold rRecord; rw [← hr]; dsimp only; rw [if_neg h0, ← h2, if_pos rfl, ← h1]
theorem rec_tree {m n : Nat} {s s1 : RS} (h : RepI m n s) {p : Patch} (hp : p.note.size ≤ 2000000 ∧ p.deps.length ≤ 2000000) (hn : n ≤ 2000000) {files : List ByteArray} {e : Int} (hrec : rRecord s p files = (s1, e)) : treeR s1 = treeR s := by
 have := (h.record hp hn files).2;rw [hrec] at this;exact this
theorem c_repRecord (pr : Nat) (s : RS) (m n : Nat) (hI : RepI m n s) (hm : m ≤ 100000) (hn : n ≤ 100000) (id : Int) (note : ByteArray) (hnb : note.size ≤ 2000000) (deps : List Int) (D : Option Addr) (cD : Nat) (hdl : deps.length ≤ 2000000) (files : List ByteArray) (B : Option Addr) (c' : Nat) (hfl : files.length ≤ 2000000) : Con Tryz.prog 29 [pT pr, .int .i64 id, .string note, .slice D deps.length cD, .slice B files.length c'] [repoX 56 124 139 63 103 (pr) (s)] [slA D deps, slA B files] {x : RS × Int // x = rRecord s ⟨id, note, deps, []⟩ files} (fun x => .int .i64 x.1.2) (fun x => [repoX 56 124 139 63 103 (pr) (x.1.1)]) (fun _ => []) := by
 refine con func29 rfl ntmps29 rfl ?_;intro M0 F0 w0;refine k_ 6 ?_;have hs := hI.split files false;have hIz := hI.z;have hIy := hI.y;have hlg := hI.log.len;refine k_ 3 ?_;refine lC [0] call70 (c_repSplit pr s m n hI hm hn files B c' hfl) ?_; rintro ⟨⟨⟨F, R⟩, ⟨⟨A1, c1⟩, ⟨A2, c2⟩⟩⟩, hr⟩;dsimp only at hr;have hsz := hs.z;have hsy := hs.y;have hsf := hs.ff;rw [show (splR s.pend files false) = (F, R) from hr.symm] at hsz hsy hsf;dsimp only at hsz hsy hsf;refine k_ 15 ?_;refine cc rfl ?_ ?_
 ·intro h22;(try simp only [nrmZ] at h22);obtain rfl : F = [] := List.eq_nil_of_length_eq_zero (by omega);refine k_ 7 ?_;exact rR [2] ⟨(s, 141), (rec_0 hr).symm⟩
 ·intro h22;(try simp only [nrmZ] at h22);have hF0 : ¬ F = [] := fun e => by have h : F.length = 0 := congrArg List.length e; omega
  have hq : Patch.fit (⟨id, note, deps, F⟩ : Patch) := ⟨hnb, hdl, by dsimp only; omega, hsf⟩;refine k_ 4 ?_;refine cmono (fun a w h => freezeN (i := 0) rfl h) ?_;refine unrepC (i := 1) rfl ?_; intro pl p b A cA Qa cQ mb pt bt;refine k_ 2 ?_;refine ls (op (p_nilck rfl) rfl) ?_;refine k_ 8 ?_;refine lC [1, 1, 1, 1] call55 (c_logAdd s.log A cA (by omega) pl p b (treeP s.log) (⟨id, note, deps, F⟩ : Patch) ((D, cD), (A1, c1)) hq m n hI.log.app (by dsimp only; omega) (by dsimp only; omega)) ?_; rintro ⟨⟨⟨⟨l1, T1⟩, e1⟩, ⟨A33, c33⟩⟩, ho⟩;dsimp only at ho;obtain ⟨ha1, ha2, ha3⟩ := hI.log.addP hq;rw [← ho] at ha1 ha2 ha3;dsimp only at ha1 ha2 ha3;obtain rfl : T1 = treeP l1 := (by rw [ha1]; exact ha3.tree.symm);refine k_ 9 ?_;refine cc rfl ?_ ?_
  ·intro h35;have he : ¬ e1 = 0 := (by have h := h35; simpa using h);have hrec := rec_no (p := ⟨id, note, deps, []⟩) hr hF0 ha2 he;obtain rfl : l1 = s.log := ha1.trans (addD_no (by rw [← ha2]; exact he));refine k_ 8 ?_;refine nmono (fun a w h => mkrep (s := s) [4, 0, 0, 0, 0, 0, 0, 0, 0] rfl ⟨rfl, rfl, rfl, rfl, rfl⟩ h) ?_;exact rR [0] ⟨(s, e1), hrec.symm⟩
  ·intro h35;obtain rfl : e1 = 0 := (by have h := h35; simpa using h);have hrec := rec_yes (p := ⟨id, note, deps, []⟩) hr hF0 ha1 ha2;refine k_ 6 ?_;refine ls (op (p_nilck rfl) rfl) ?_;refine k_ 11 ?_;refine nmono (fun a w h => mkrep (s := ⟨l1, R, s.shv⟩) [4, 0, 0, 0, 0, 4, 1, 1, 1] rfl ⟨rfl, rfl, rfl, rfl, (rec_tree hI ⟨hnb, hdl⟩ (by omega) hrec).symm⟩ h) ?_;exact rR [0] ⟨(⟨l1, R, s.shv⟩, 0), hrec.symm⟩
theorem unr_no {s : RS} {id : Int} (h0 : ¬ (lastP s.log id).2 = 0) : rUnrec s id = (s, (lastP s.log id).2) := by unfold rUnrec; rw [if_pos h0]
theorem unr_yes {s : RS} {id : Int} {L : List Patch} (h0 : (lastP s.log id).2 = 0) (hL : L = (lastP s.log id).1) : rUnrec s id = (⟨L.dropLast, (L.getLastD Patch.zero).l ++ s.pend, s.shv⟩, 0) := by
 unfold rUnrec; rw [if_neg (by simp [h0]), hL]
theorem take_dl {α : Type} {l : List α} : l.take (l.length - 1) = l.dropLast := List.dropLast_eq_take.symm
theorem gl_at {l : List Patch} (h : 0 < l.length) : l.getLastD Patch.zero = l[l.length - 1] := by
 rw [List.getLastD_eq_getLast?, List.getLast?_eq_getElem?, List.getElem?_eq_getElem (by omega)]; rfl
theorem drop_tree {m n : Nat} {L : List Patch} {T U : List File} (h : LogI m n L T) (h0 : 0 < L.length) (hU : U = (dropP L T).1.2) : U = treeP L.dropLast := by
 have h1 := h.drop.2.1.tree;have h2 : (dropD L).1.1 = L.dropLast := (by unfold dropD; rw [dif_pos h0]; exact take_dl);rw [h2, ← hU] at h1;exact h1.symm
theorem unr_tree {m n : Nat} {s : RS} (hI : RepI m n s) {id : Int} {L : List Patch} (h0 : (lastP s.log id).2 = 0) (hL : L = (lastP s.log id).1) : treeR s = treeR ⟨L.dropLast, (L.getLastD Patch.zero).l ++ s.pend, s.shv⟩ := by
 have h := (hI.unrec id).2;rw [unr_yes h0 hL] at h;exact h.symm
theorem c_repUnrecN (pr : Nat) (s : RS) (m n : Nat) (hI : RepI m n s) (hm : m ≤ 100000) (hn : n ≤ 100000) (id : Int) (h0 : ¬ (lastP s.log id).2 = 0) : Con Tryz.prog 28 [pT pr, .int .i64 id] [repoX 56 124 139 63 103 (pr) (s)] [] {x : RS × Int // x = rUnrec s id} (fun x => .int .i64 x.1.2) (fun x => [repoX 56 124 139 63 103 (pr) (x.1.1)]) (fun _ => []) := by
 refine con func28 rfl ntmps28 rfl ?_;intro M0 F0 w0;refine k_ 6 ?_;have hlg := hI.log.len;refine unrepC (i := 0) rfl ?_; intro pl p b A cA Qa cQ mb pt bt;refine k_ 2 ?_;refine ls (op (p_nilck rfl) rfl) ?_;refine k_ 3 ?_;refine lC [1, 1, 1, 1] call69 (c_endsN s.log A cA (by omega) hI.log.ok.fit pl p b (treeP s.log) id h0) ?_; rintro ⟨⟩;refine k_ 14 ?_;refine cc rfl ?_ ?_
 ·intro h19
  skip
  refine k_ 8 ?_;refine nmono (fun a w h => mkrep (s := s) [4, 0, 0, 0, 0, 0, 0, 0, 0] rfl ⟨rfl, rfl, rfl, rfl, rfl⟩ h) ?_;exact rR [0] ⟨(s, (lastP s.log id).2), (unr_no h0).symm⟩
 ·intro h19;exact absurd (by simpa using h19) h0
theorem c_repUnrecY (pr : Nat) (s : RS) (m n : Nat) (hI : RepI m n s) (hm : m ≤ 100000) (hn : n ≤ 100000) (id : Int) (h0 : (lastP s.log id).2 = 0) : Con Tryz.prog 28 [pT pr, .int .i64 id] [repoX 56 124 139 63 103 (pr) (s)] [] {x : RS × Int // x = rUnrec s id} (fun x => .int .i64 x.1.2) (fun x => [repoX 56 124 139 63 103 (pr) (x.1.1)]) (fun _ => []) := by
 refine con func28 rfl ntmps28 rfl ?_;intro M0 F0 w0;refine k_ 6 ?_;have hlg := hI.log.len;have hIy := hI.y;refine unrepC (i := 0) rfl ?_; intro pl p b A cA Qa cQ mb pt bt;refine k_ 2 ?_;refine ls (op (p_nilck rfl) rfl) ?_;refine k_ 3 ?_;refine lC [1, 1, 1, 1] call69 (c_endsY s.log A cA (by omega) hI.log.ok.fit pl p b (treeP s.log) id h0) ?_; rintro ⟨⟨L, ⟨⟨A5, c5⟩, h5⟩, ⟨l', p', b'⟩⟩, hL⟩;dsimp only at hL;have hla : LastI m n s.log L := (by rw [hL]; exact hI.log.lastI h0);have hLI : LogI m n L (treeP s.log) := (by rw [hL]; exact hI.log.last id);have hL0 : 0 < L.length := (by rw [← hla.eq]; simp);have hLn := hLI.len;have hLm := hLI.mem (List.getElem_mem (show L.length - 1 < L.length by omega));refine k_ 14 ?_;refine cc rfl ?_ ?_
 ·intro h19;exact absurd h19 (by decide)
 ·intro h19
  skip
  refine k_ 5 ?_;refine lC [0, 0, 0, 0, 0] call71 (c_logDropQ L A5 c5 (by omega) h5 hL0 hLI.ok.fit l' p' b' (treeP s.log) m n hI.log.app (fun q hq => by have := hLI.mem hq; omega) (fun q hq => by have := hLI.mem hq; omega)) ?_; rintro ⟨⟨U, ⟨yd, ⟨A6, c6⟩⟩⟩, hU0⟩;dsimp only at hU0;have hU : U = treeP L.dropLast := drop_tree hLI hL0 hU0;have hTR := unr_tree hI h0 hL;refine k_ 3 ?_;refine ls (o_alloc zeroValue63 rfl rfl) ?_;refine le ?_; intro b7;refine k_ 5 ?_;refine cmono (fun a w h => freezeN (i := 11) rfl h) ?_;refine cd [9, 13, 16] [(4, b7, 3, _), (8, pr, 1, _)] TryzX.mixed (tB 1 (tB 1 TOk.d)) ?_;refine u_ 0 6 ?_;refine tk 6 rfl Ψ Υ gnone (TTany _) (p_nilck rfl) rfl ?_;refine u_ 7 2 ?_;refine df 9 Ψ ?_;refine doR rfl (o_appX (i := 1) underlying40 inf103 rfl (by decide) (by decide) rfl rfl (by omega) rfl Ω rfl) tX ?_;refine ea ?_; rintro ⟨A35, c35⟩;refine tk 10 rfl Ψ Υ gnone (TTany _) (p_nilck rfl) rfl ?_;refine u_ 11 2 ?_;refine df 13 Ψ ?_;refine doR rfl (o_st rfl sizeOf49 rfl rfl rfl rfl rfl Θ Θ Θ) tX ?_;refine tk 14 rfl Ψ Υ gnone (TTany _) (p_nilck rfl) rfl ?_;refine u_ 15 1 ?_;refine df 16 Ψ ?_;refine doR rfl (o_st rfl sizeOf40 rfl rfl rfl rfl rfl Θ Θ Θ) tX ?_;refine dn Ψ ?_;refine k_ 8 ?_;refine nmono (fun a w h => mkrep (s := ⟨L.dropLast, (L.getLastD Patch.zero).l ++ s.pend, s.shv⟩) [10, 2, 2, 2, 2, 0, 5, 5, 5] rfl ⟨take_dl, by rw [gl_at hL0], rfl, hU, hTR⟩ h) ?_;exact rR [0] ⟨(⟨L.dropLast, (L.getLastD Patch.zero).l ++ s.pend, s.shv⟩, 0), (unr_yes h0 hL).symm⟩
theorem ama_no0 {s : RS} {id : Int} {files : List ByteArray} (h0 : ¬ (lastP s.log id).2 = 0) : rAmend s id files = (s, (lastP s.log id).2) := by unfold rAmend; rw [if_pos h0]
theorem ama_0 {s : RS} {id : Int} {files : List ByteArray} {R : List Prim} (h0 : (lastP s.log id).2 = 0) (hr : ([], R) = splR s.pend files false) : rAmend s id files = (s, 141) := by
 unfold rAmend; rw [if_neg (by simp [h0]), ← hr, if_pos rfl]
theorem more_eq {L : List Patch} (h : 0 < L.length) {F : List Prim} : moreP L F = { L[L.length - 1] with l := L[L.length - 1].l ++ F } := by unfold moreP; rw [gl_at h]
theorem drop_logI {m n : Nat} {L : List Patch} {T U : List File} (h : LogI m n L T) (h0 : 0 < L.length) (hU : U = (dropP L T).1.2) : LogI m n (L.take (L.length - 1)) U := by
 have h1 := h.drop.2.1;have h2 : (dropD L).1.1 = L.take (L.length - 1) := (by unfold dropD; rw [dif_pos h0]);rw [h2, ← hU] at h1;exact h1
theorem ama_no {s : RS} {id : Int} {files : List ByteArray} {F R : List Prim} {L : List Patch} {e : Int} (h0 : (lastP s.log id).2 = 0) (hL : L = (lastP s.log id).1) (hr : (F, R) = splR s.pend files false) (hF : ¬ F = []) (h2 : e = (addD L.dropLast (moreP L F)).2) (he : ¬ e = 0) : rAmend s id files = (s, e) := by
 unfold rAmend; rw [if_neg (by simp [h0]), ← hr, ← hL]; dsimp only; rw [if_neg hF, ← h2, if_neg he]
theorem ama_yes {s : RS} {id : Int} {files : List ByteArray} {F R : List Prim} {L l1 : List Patch} (h0 : (lastP s.log id).2 = 0) (hL : L = (lastP s.log id).1) (hr : (F, R) = splR s.pend files false) (hF : ¬ F = []) (h1 : l1 = (addD L.dropLast (moreP L F)).1) (h2 : 0 = (addD L.dropLast (moreP L F)).2) : rAmend s id files = (⟨l1, R, s.shv⟩, 0) := by
 unfold rAmend; rw [if_neg (by simp [h0]), ← hr, ← hL]; dsimp only; rw [if_neg hF, ← h2, if_pos rfl, ← h1]
theorem ama_tree {m n : Nat} {s s1 : RS} (h : RepI m n s) (hn : n ≤ 2000000) {id : Int} {files : List ByteArray} {e : Int} (hrec : rAmend s id files = (s1, e)) : treeR s1 = treeR s := by
 have := (h.amend hn id files).2;rw [hrec] at this;exact this
theorem c_repUnrec (pr : Nat) (s : RS) (m n : Nat) (hI : RepI m n s) (hm : m ≤ 100000) (hn : n ≤ 100000) (id : Int) : Con Tryz.prog 28 [pT pr, .int .i64 id] [repoX 56 124 139 63 103 (pr) (s)] [] {x : RS × Int // x = rUnrec s id} (fun x => .int .i64 x.1.2) (fun x => [repoX 56 124 139 63 103 (pr) (x.1.1)]) (fun _ => []) := by
 by_cases h0 : (lastP s.log id).2 = 0
 ·exact c_repUnrecY pr s m n hI hm hn id h0
 ·exact c_repUnrecN pr s m n hI hm hn id h0
theorem c_repAmendN (pr : Nat) (s : RS) (m n : Nat) (hI : RepI m n s) (hm : m ≤ 100000) (hn : n ≤ 100000) (id : Int) (files : List ByteArray) (B : Option Addr) (c' : Nat) (hfl : files.length ≤ 2000000) (h0 : ¬ (lastP s.log id).2 = 0) : Con Tryz.prog 27 [pT pr, .int .i64 id, .slice B files.length c'] [repoX 56 124 139 63 103 (pr) (s)] [slA B files] {x : RS × Int // x = rAmend s id files} (fun x => .int .i64 x.1.2) (fun x => [repoX 56 124 139 63 103 (pr) (x.1.1)]) (fun _ => []) := by
 refine con func27 rfl ntmps27 rfl ?_;intro M0 F0 w0;refine k_ 6 ?_;have hlg := hI.log.len;have hs := hI.split files false;have hIz := hI.z;have hIy := hI.y;refine unrepC (i := 0) rfl ?_; intro pl p b A cA Qa cQ mb pt bt;refine k_ 2 ?_;refine ls (op (p_nilck rfl) rfl) ?_;refine k_ 3 ?_;refine lC [1, 1, 1, 1] call69 (c_endsN s.log A cA (by omega) hI.log.ok.fit pl p b (treeP s.log) id h0) ?_; rintro ⟨⟩;refine k_ 8 ?_;refine cmono (fun a w h => mkrep (s := s) [4, 0, 0, 0, 0, 0, 0, 0, 0] rfl ⟨rfl, rfl, rfl, rfl, rfl⟩ h) ?_;refine k_ 3 ?_;refine lC [0] call70 (c_repSplit pr s m n hI hm hn files B c' hfl) ?_; rintro ⟨⟨⟨F, R⟩, ⟨⟨A1, c1⟩, ⟨A2, c2⟩⟩⟩, hr⟩;dsimp only at hr;refine k_ 16 ?_;refine cc rfl ?_ ?_
 ·intro h29
  skip
  refine k_ 8 ?_;exact rR [2] ⟨(s, (lastP s.log id).2), (ama_no0 h0).symm⟩
 ·intro h29;exact absurd (by simpa using h29) h0
theorem c_repAmendY (pr : Nat) (s : RS) (m n : Nat) (hI : RepI m n s) (hm : m ≤ 100000) (hn : n ≤ 100000) (id : Int) (files : List ByteArray) (B : Option Addr) (c' : Nat) (hfl : files.length ≤ 2000000) (h0 : (lastP s.log id).2 = 0) : Con Tryz.prog 27 [pT pr, .int .i64 id, .slice B files.length c'] [repoX 56 124 139 63 103 (pr) (s)] [slA B files] {x : RS × Int // x = rAmend s id files} (fun x => .int .i64 x.1.2) (fun x => [repoX 56 124 139 63 103 (pr) (x.1.1)]) (fun _ => []) := by
 refine con func27 rfl ntmps27 rfl ?_;intro M0 F0 w0;refine k_ 6 ?_;have hlg := hI.log.len;have hs := hI.split files false;have hIz := hI.z;have hIy := hI.y;refine unrepC (i := 0) rfl ?_; intro pl p b A cA Qa cQ mb pt bt;refine k_ 2 ?_;refine ls (op (p_nilck rfl) rfl) ?_;refine k_ 3 ?_;refine lC [1, 1, 1, 1] call69 (c_endsY s.log A cA (by omega) hI.log.ok.fit pl p b (treeP s.log) id h0) ?_; rintro ⟨⟨L, ⟨⟨A5, c5⟩, h5⟩, ⟨l', p', b'⟩⟩, hL⟩;dsimp only at hL;have hla : LastI m n s.log L := (by rw [hL]; exact hI.log.lastI h0);have hLI : LogI m n L (treeP s.log) := (by rw [hL]; exact hI.log.last id);have hL0 : 0 < L.length := (by rw [← hla.eq]; simp);have hLn := hLI.len;have hk1 : L.length - 1 < L.length := (by omega);have hLm := hLI.mem (List.getElem_mem hk1);have hfk := hLI.ok.fit _ (List.getElem_mem hk1);refine k_ 8 ?_;refine cmono (fun a w h => mkrep (s := s) [9, 5, 5, 5, 5, 5, 5, 5, 5] rfl ⟨rfl, rfl, rfl, rfl, rfl⟩ h) ?_;refine k_ 3 ?_;refine lC [0] call70 (c_repSplit pr s m n hI hm hn files B c' hfl) ?_; rintro ⟨⟨⟨F, R⟩, ⟨⟨A1, c1⟩, ⟨A2, c2⟩⟩⟩, hr⟩;dsimp only at hr;have hsz := hs.z;have hsy := hs.y;have hsf := hs.ff;rw [show (splR s.pend files false) = (F, R) from hr.symm] at hsz hsy hsf;dsimp only at hsz hsy hsf;refine k_ 16 ?_;refine cc rfl ?_ ?_
 ·intro h29;exact absurd h29 (by decide)
 ·intro h29
  skip
  refine k_ 8 ?_;refine cc rfl ?_ ?_
  ·intro h33;(try simp only [nrmZ] at h33);obtain rfl : F = [] := List.eq_nil_of_length_eq_zero (by omega);refine k_ 7 ?_;exact rR [2] ⟨(s, 141), (ama_0 h0 hr).symm⟩
  ·intro h33;(try simp only [nrmZ] at h33);have hF0 : ¬ F = [] := fun e => by have h : F.length = 0 := congrArg List.length e; omega
   have hq : Patch.fit ({ L[L.length - 1] with l := L[L.length - 1].l ++ F } : Patch) := ⟨hfk.nb, hfk.dl, by dsimp only; rw [List.length_append]; omega, fun x hx => (List.mem_append.1 hx).elim (hfk.lf x) (hsf x)⟩;refine k_ 4 ?_;refine cmono (fun a w h => freezeN (i := 0) rfl h) ?_;refine k_ 2 ?_;refine lC [2, 2, 2, 2, 2] call71 (c_logDropQ L A5 c5 (by omega) h5 hL0 hLI.ok.fit l' p' b' (treeP s.log) m n hI.log.app (fun q hq => by have := hLI.mem hq; omega) (fun q hq => by have := hLI.mem hq; omega)) ?_; rintro ⟨⟨U, ⟨yd, ⟨A6, c6⟩⟩⟩, hU0⟩;dsimp only at hU0;have hP : LogI m n (L.take (L.length - 1)) U := drop_logI hLI hL0 hU0;have hPn := hP.len;refine k_ 3 ?_;refine ls (o_alloc zeroValue63 rfl rfl) ?_;refine le ?_; intro b11;refine k_ 9 ?_;refine ls (o_appX (i := 1) underlying40 inf103 rfl (by decide) (by decide) rfl rfl (by dsimp only; omega) rfl Ω rfl) ?_;refine le ?_; rintro ⟨A45, c45⟩;refine k_ 6 ?_;refine cmono (fun a w h => freezeN (i := 0) rfl h) ?_;refine k_ 2 ?_;refine ls (o_ldw isAgg63 sizeOf63 rfl Θ (by rfl) rfl) ?_;refine lC [1, 1, 1, 1] call55 (c_logAdd (L.take (L.length - 1)) A5 c5 (by omega) l' p' b' U ({ L[L.length - 1] with l := L[L.length - 1].l ++ F } : Patch) (yd, (A45, c45)) hq m n hP.app (by dsimp only; rw [lns_app]; omega) (by dsimp only; rw [List.length_append]; omega)) ?_; rintro ⟨⟨⟨⟨l1, T1⟩, e1⟩, ⟨A49, c49⟩⟩, ho⟩;dsimp only at ho;obtain ⟨ha1, ha2, ha3⟩ := hP.addP hq;rw [← ho] at ha1 ha2 ha3;dsimp only at ha1 ha2 ha3;obtain rfl : T1 = treeP l1 := (by rw [ha1]; exact ha3.tree.symm);rw [take_dl, ← more_eq hL0] at ha1 ha2;refine k_ 9 ?_;refine cc rfl ?_ ?_
   ·intro h51;have he : ¬ e1 = 0 := (by have h := h51; simpa using h);have hrec := ama_no h0 hL hr hF0 ha2 he;refine k_ 8 ?_;exact rR [6] ⟨(s, e1), hrec.symm⟩
   ·intro h51;obtain rfl : e1 = 0 := (by have h := h51; simpa using h);have hrec := ama_yes h0 hL hr hF0 ha1 ha2;refine k_ 3 ?_;refine unrepC (i := 6) rfl ?_; intro plx px bx Ax cAx Qx cQx mbx ptx btx;refine k_ 5 ?_;refine ls (op (p_nilck rfl) rfl) ?_;refine k_ 3 ?_;refine ls (op (p_nilck rfl) rfl) ?_;refine k_ 11 ?_;refine nmono (fun a w h => mkrep (s := ⟨l1, R, s.shv⟩) [0, 8, 8, 8, 8, 9, 5, 5, 5] rfl ⟨rfl, rfl, rfl, rfl, (ama_tree hI (by omega) hrec).symm⟩ h) ?_;exact rR [0] ⟨(⟨l1, R, s.shv⟩, 0), hrec.symm⟩
theorem c_repAmend (pr : Nat) (s : RS) (m n : Nat) (hI : RepI m n s) (hm : m ≤ 100000) (hn : n ≤ 100000) (id : Int) (files : List ByteArray) (B : Option Addr) (c' : Nat) (hfl : files.length ≤ 2000000): Con Tryz.prog 27 [pT pr, .int .i64 id, .slice B files.length c'] [repoX 56 124 139 63 103 (pr) (s)] [slA B files] {x : RS × Int // x = rAmend s id files} (fun x => .int .i64 x.1.2) (fun x => [repoX 56 124 139 63 103 (pr) (x.1.1)]) (fun _ => []) := by
 by_cases h0 : (lastP s.log id).2 = 0
 ·exact c_repAmendY pr s m n hI hm hn id files B c' hfl h0
 ·exact c_repAmendN pr s m n hI hm hn id files B c' hfl h0
end Go.Proofs.YtbhnolfcdcpbkaaGreatDoor.X
end
section
namespace Go.Sx
open Go Go.RowKit
/-! A shelf as data: its name, and what lies on it. -/
instance instRpShelf : Rp (ByteArray × List Prim) where
 Lay := Option Addr × Nat
 size := 2
 enc x y := [.string x.1, .slice y.1 x.2.length y.2]
 len _ _ := rfl
 one _ _ v hv := by
  simp only [List.mem_cons, List.mem_nil_iff, or_false] at hv;rcases hv with rfl | rfl <;> rfl
 asn x y := [slA y.1 x.2, nilA y, capA y.2 x.2.length]
section
variable {P : Program} {n : Nm} {σ : List (Nat × Value)} {d : Nat} {ty : TypeId} {pos : String} {af : Array Edge}
end
end Go.Sx
namespace Go.Proofs.YtbhnolfcdcpbkaaGreatDoor.X
open Go Go.RowKit Go.Proofs Go.Sx
end Go.Proofs.YtbhnolfcdcpbkaaGreatDoor.X
end
section
namespace Go.Proofs.YtbhnolfcdcpbkaaGreatDoor.X
set_option maxRecDepth 100000
open Go Go.RowKit Go.Proofs Go.Sx
open Tryz
attribute [local irreducible] slA isA box row TrL TrC TrN TrA Pu OpR
set_option maxHeartbeats 8000000
end Go.Proofs.YtbhnolfcdcpbkaaGreatDoor.X
end
section
namespace Go.Proofs.YtbhnolfcdcpbkaaGreatDoor.X
open Go Go.RowKit Go.Proofs Go.Sx
/-! Lines that two rows have in common. -/
def lcsGo (x : ByteArray) (f : List ByteArray → Nat) : List ByteArray → Nat
 | [] => 0
 | y :: b => if x = y then f b + 1 else max (f (y :: b)) (lcsGo x f b)
def lcs : List ByteArray → List ByteArray → Nat
 | [] => fun _ => 0
 | x :: a => lcsGo x (lcs a)
theorem lcs_nil (b : List ByteArray) : lcs [] b = 0 := rfl
theorem lcs_nilr (a : List ByteArray) : lcs a [] = 0 := by cases a <;> rfl
theorem lcs_cons (x y : ByteArray) (a b : List ByteArray) : lcs (x :: a) (y :: b) = if x = y then lcs a b + 1 else max (lcs a (y :: b)) (lcs (x :: a) b) := rfl
theorem sub_tail {c a : List ByteArray} {x : ByteArray} (h : c.Sublist (x :: a)) : c.tail.Sublist a := by
 cases h with
 | cons _ h => exact (List.tail_sublist c).trans h
 | cons_cons _ h => exact h
theorem lcs_ub : ∀ (n : Nat) (a b c : List ByteArray), a.length + b.length ≤ n → c.Sublist a → c.Sublist b → c.length ≤ lcs a b := by
 intro n
 induction n with
 | zero =>
  intro a b c hn h1 h2;have h3 := h1.length_le;omega
 | succ n ih =>
  intro a b c hn h1 h2;cases a with
  | nil => have := h1.length_le; simp at this; simp [this]
  | cons x a =>
   cases b with
   | nil => have := h2.length_le; simp at this; simp [this]
   | cons y b =>
    simp only [List.length_cons] at hn;rw [lcs_cons]
    split
    ·have := ih a b c.tail (by omega) (sub_tail h1) (sub_tail h2);simp only [List.length_tail] at this;omega
    ·rename_i hne
     cases h1 with
     | cons _ h1 => have := ih a (y :: b) c (by simp; omega) h1 h2; omega
     | @cons_cons c' _ _ h1 =>
      cases h2 with
      | cons _ h2 => have := ih (x :: a) b (x :: c') (by simp; omega) (h1.cons_cons x) h2; omega
      | cons_cons _ h2 => exact absurd rfl hne
theorem lcs_ex : ∀ (n : Nat) (a b : List ByteArray), a.length + b.length ≤ n → ∃ c, List.Sublist c a ∧ List.Sublist c b ∧ c.length = lcs a b := by
 intro n
 induction n with
 | zero =>
  intro a b hn;obtain rfl : a = [] := List.length_eq_zero_iff.1 (by omega);exact ⟨[], List.nil_sublist _, List.nil_sublist _, (lcs_nil b).symm⟩
 | succ n ih =>
  intro a b hn;cases a with
  | nil => exact ⟨[], List.nil_sublist _, List.nil_sublist _, (lcs_nil b).symm⟩
  | cons x a =>
   cases b with
   | nil => exact ⟨[], List.nil_sublist _, List.nil_sublist _, (lcs_nilr _).symm⟩
   | cons y b =>
    simp only [List.length_cons] at hn;rw [lcs_cons]
    split
    ·rename_i e
     subst e;obtain ⟨c, h1, h2, h3⟩ := ih a b (by omega);exact ⟨x :: c, h1.cons_cons x, h2.cons_cons x, by simp [h3]⟩
    ·obtain ⟨c, h1, h2, h3⟩ := ih a (y :: b) (by simp; omega);obtain ⟨d, k1, k2, k3⟩ := ih (x :: a) b (by simp; omega);rcases Nat.le_total (lcs a (y :: b)) (lcs (x :: a) b) with h | h
     ·exact ⟨d, k1, k2.cons y, by omega⟩
     ·exact ⟨c, h1.cons x, h2, by omega⟩
theorem lcs_le {a b c : List ByteArray} (h1 : c.Sublist a) (h2 : c.Sublist b) : c.length ≤ lcs a b := lcs_ub _ a b c (Nat.le_refl _) h1 h2
theorem lcs_has (a b : List ByteArray) : ∃ c, List.Sublist c a ∧ List.Sublist c b ∧ c.length = lcs a b := lcs_ex _ a b (Nat.le_refl _)
theorem lcs_comm (a b : List ByteArray) : lcs a b = lcs b a := by
 obtain ⟨c, h1, h2, h3⟩ := lcs_has a b;obtain ⟨d, k1, k2, k3⟩ := lcs_has b a;have := lcs_le h2 h1;have := lcs_le k2 k1;omega
theorem lcs_lenl (a b : List ByteArray) : lcs a b ≤ a.length := by
 obtain ⟨c, h2, _, h3⟩ := lcs_has a b;have := h2.length_le;omega
theorem lcs_lenr (a b : List ByteArray) : lcs a b ≤ b.length := by rw [lcs_comm]; exact lcs_lenl b a
/-! the tables -/
def cmn (a b : List ByteArray) (i k : Nat) : Nat := lcs (a.drop i) (b.drop k)
theorem cmn_end {a b : List ByteArray} {i k : Nat} (h : a.length ≤ i ∨ b.length ≤ k) : cmn a b i k = 0 := by
 unfold cmn;rcases h with h | h
 ·rw [List.drop_eq_nil_of_le h, lcs_nil]
 ·rw [List.drop_eq_nil_of_le h, lcs_nilr]
theorem cmn_at {a b : List ByteArray} {i k : Nat} (hi : i < a.length) (hk : k < b.length) : cmn a b i k = if a[i] = b[k] then cmn a b (i + 1) (k + 1) + 1 else max (cmn a b (i + 1) k) (cmn a b i (k + 1)) := by
 unfold cmn;rw [List.drop_eq_getElem_cons hi, List.drop_eq_getElem_cons hk, lcs_cons]
theorem cmn_eq {a b : List ByteArray} {i k : Nat} (hi : i < a.length) (hk : k < b.length) (h : a[i] = b[k]) : cmn a b i k = cmn a b (i + 1) (k + 1) + 1 := by rw [cmn_at hi hk, if_pos h]
theorem cmn_ne {a b : List ByteArray} {i k : Nat} (hi : i < a.length) (hk : k < b.length) (h : ¬ a[i] = b[k]) : cmn a b i k = max (cmn a b (i + 1) k) (cmn a b i (k + 1)) := by rw [cmn_at hi hk, if_neg h]
theorem cmn_le {a b : List ByteArray} {i k : Nat} : cmn a b i k ≤ b.length - k := by
 have := lcs_lenr (a.drop i) (b.drop k);rw [List.length_drop] at this; exact this
/-! the pairs -/
structure Cand (a b : List ByteArray) (i k x y : Nat) : Prop where
 ix : i ≤ x
 ky : k ≤ y
 xl : x < a.length
 yl : y < b.length
 eq : a[x] = b[y]
 n : cmn a b x y = cmn a b i k
theorem cand_ex (a b : List ByteArray) : ∀ (n i k : Nat), a.length - i + (b.length - k) ≤ n → 0 < cmn a b i k → ∃ x y, Cand a b i k x y := by
 intro n
 induction n with
 | zero =>
  intro i k hn h;rw [cmn_end (.inl (by omega))] at h;omega
 | succ n ih =>
  intro i k hn h
  by_cases hi : i < a.length
  ·by_cases hk : k < b.length
   ·by_cases he : a[i] = b[k]
    ·exact ⟨i, k, Nat.le_refl _, Nat.le_refl _, hi, hk, he, rfl⟩
    ·have h1 := cmn_ne hi hk he;rcases Nat.le_total (cmn a b (i + 1) k) (cmn a b i (k + 1)) with h2 | h2
     ·obtain ⟨x, y, c⟩ := ih i (k + 1) (by omega) (by omega);exact ⟨x, y, c.ix, by have := c.ky; omega, c.xl, c.yl, c.eq, by rw [c.n]; omega⟩
     ·obtain ⟨x, y, c⟩ := ih (i + 1) k (by omega) (by omega);exact ⟨x, y, by have := c.ix; omega, c.ky, c.xl, c.yl, c.eq, by rw [c.n]; omega⟩
   ·rw [cmn_end (.inr (by omega))] at h; omega
  ·rw [cmn_end (.inl (by omega))] at h; omega
def NextP (a b : List ByteArray) (i k x y : Nat) : Prop := Cand a b i k x y ∧ ∀ x' y', Cand a b i k x' y' → x < x' ∨ x = x' ∧ y ≤ y'
def NoneB (a b : List ByteArray) (i k x y : Nat) : Prop := ∀ x' y', Cand a b i k x' y' → x < x' ∨ x = x' ∧ y ≤ y'
theorem noneB_0 (a b : List ByteArray) (i k : Nat) : NoneB a b i k i k := fun x' y' c => by
 have := c.ix; have := c.ky;rcases Nat.lt_or_ge i x' with h | h
 ·exact .inl h
 ·exact .inr ⟨by omega, c.ky⟩
theorem noneB_y {a b : List ByteArray} {i k x y : Nat} (h : NoneB a b i k x y) (hn : ¬ Cand a b i k x y) : NoneB a b i k x (y + 1) := fun x' y' c => by
 rcases h x' y' c with h | ⟨rfl, h⟩
 ·exact .inl h
 ·rcases Nat.lt_or_ge y y' with h2 | h2
  ·exact .inr ⟨rfl, h2⟩
  ·have : y = y' := by omega
   subst this; exact absurd c hn
theorem noneB_x {a b : List ByteArray} {i k x y : Nat} (h : NoneB a b i k x y) (hy : b.length ≤ y) : NoneB a b i k (x + 1) k := fun x' y' c => by
 have := c.yl;have := c.ky;rcases h x' y' c with h | ⟨rfl, h⟩
 ·rcases Nat.lt_or_ge (x + 1) x' with h2 | h2
  ·exact .inl h2
  ·exact .inr ⟨by omega, c.ky⟩
 ·omega
theorem noneB_end {a b : List ByteArray} {i k x y : Nat} (h : NoneB a b i k x y) (hx : a.length ≤ x) : ¬ 0 < cmn a b i k := fun h0 => by
 obtain ⟨x', y', c⟩ := cand_ex a b _ i k (Nat.le_refl _) h0;have := c.xl;rcases h x' y' c with h | ⟨h, _⟩ <;> omega
theorem next_one {a b : List ByteArray} {i k x y x' y' : Nat} (h : NextP a b i k x y) (h' : NextP a b i k x' y') : x = x' ∧ y = y' := by
 rcases h.2 x' y' h'.1 with h1 | ⟨h1, h2⟩ <;> rcases h'.2 x y h.1 with h3 | ⟨h3, h4⟩ <;> omega
inductive Chain (a b : List ByteArray) : List (Nat × Nat) → Nat → Nat → Prop
 | nil : Chain a b [] 0 0
 | snoc {l i k x y} : Chain a b l i k → 0 < cmn a b i k → NextP a b i k x y → Chain a b (l ++ [(x, y)]) (x + 1) (y + 1)
def Comm (a b : List ByteArray) (l : List (Nat × Nat)) : Prop := ∃ i k, Chain a b l i k ∧ cmn a b i k = 0
theorem next_cmn {a b : List ByteArray} {i k x y : Nat} (h : Cand a b i k x y) : cmn a b i k = cmn a b (x + 1) (y + 1) + 1 := by
 rw [← h.n]; exact cmn_eq h.xl h.yl h.eq
theorem Chain.len {a b : List ByteArray} {l : List (Nat × Nat)} {i k : Nat} (h : Chain a b l i k) : l.length + cmn a b i k = lcs a b := by
 induction h with
 | nil => simp [cmn]
 | snoc _ _ hn ih => have := next_cmn hn.1; simp; omega
theorem Chain.le {a b : List ByteArray} {l : List (Nat × Nat)} {i k : Nat} (h : Chain a b l i k) : i ≤ a.length ∧ k ≤ b.length := by
 cases h with
 | nil => exact ⟨Nat.zero_le _, Nat.zero_le _⟩
 | snoc _ _ hn => exact ⟨hn.1.xl, hn.1.yl⟩
theorem Chain.one {a b : List ByteArray} {l : List (Nat × Nat)} {i k : Nat} (h : Chain a b l i k) : ∀ {m : List (Nat × Nat)} {i' k' : Nat}, Chain a b m i' k' → l.length = m.length → l = m ∧ i = i' ∧ k = k' := by
 induction h with
 | nil =>
  intro m i' k' h' hl;cases h' with
  | nil => exact ⟨rfl, rfl, rfl⟩
  | snoc => simp at hl
 | snoc h0 hp hn ih =>
  intro m i' k' h' hl;cases h' with
  | nil => simp at hl
  | snoc h0' hp' hn' =>
   obtain ⟨rfl, rfl, rfl⟩ := ih h0' (by simpa using hl);obtain ⟨rfl, rfl⟩ := next_one hn hn';exact ⟨rfl, rfl, rfl⟩
theorem Comm.len {a b : List ByteArray} {l : List (Nat × Nat)} (h : Comm a b l) : l.length = lcs a b := by
 obtain ⟨i, k, h1, h2⟩ := h;have := h1.len; omega
theorem Comm.one {a b : List ByteArray} {l m : List (Nat × Nat)} (h : Comm a b l) (h' : Comm a b m) : l = m := by
 have e : l.length = m.length := by rw [h.len, h'.len]
 obtain ⟨i, k, h1, _⟩ := h;obtain ⟨i', k', h2, _⟩ := h';exact (h1.one h2 e).1
/-! there are such pairs -/
theorem lex_least {p : Nat → Nat → Prop} (h : ∃ x y, p x y) : ∃ x y, p x y ∧ ∀ x' y', p x' y' → x < x' ∨ x = x' ∧ y ≤ y' := by
 have h1 : ∃ x, ∃ y, p x y := h;obtain ⟨hx, hmin⟩ := leastOf_spec h1;obtain ⟨hy, hmin2⟩ := leastOf_spec hx;refine ⟨_, _, hy, fun x' y' hp => ?_⟩;have h2 := hmin x' ⟨y', hp⟩;rcases Nat.lt_or_ge (leastOf fun x => ∃ y, p x y) x' with h3 | h3
 ·exact .inl h3
 ·have e : (leastOf fun x => ∃ y, p x y) = x' := by omega
  refine .inr ⟨e, hmin2 y' ?_⟩;rw [e]; exact hp
theorem next_ex {a b : List ByteArray} {i k : Nat} (h : 0 < cmn a b i k) : ∃ x y, NextP a b i k x y := lex_least (cand_ex a b _ i k (Nat.le_refl _) h)
theorem comm_ex (a b : List ByteArray) : ∃ l, Comm a b l := by
 have key : ∀ (n : Nat) (l : List (Nat × Nat)) (i k : Nat), Chain a b l i k → cmn a b i k ≤ n → ∃ l, Comm a b l := by
  intro n
  induction n with
  | zero => intro l i k h hn; exact ⟨l, i, k, h, by omega⟩
  | succ n ih =>
   intro l i k h hn;rcases Nat.eq_zero_or_pos (cmn a b i k) with h0 | h0
   ·exact ⟨l, i, k, h, h0⟩
   ·obtain ⟨x, y, hxy⟩ := next_ex h0;have := next_cmn hxy.1;exact ih _ _ _ (h.snoc h0 hxy) (by omega)
 exact key _ [] 0 0 Chain.nil (Nat.le_refl _)
noncomputable def commF (a b : List ByteArray) : List (Nat × Nat) := Classical.choose (comm_ex a b)
theorem commF_spec (a b : List ByteArray) : Comm a b (commF a b) := Classical.choose_spec (comm_ex a b)
theorem Comm.eq {a b : List ByteArray} {l : List (Nat × Nat)} (h : Comm a b l) : l = commF a b := h.one (commF_spec a b)
/-! The hunks that make one row of another one. -/
def hunkP (nm : ByteArray) (a b : List ByteArray) (p q : Nat × Nat) : Prim := ⟨0, nm, e0, (p.2 : Int), (a.drop p.1).take (q.1 - p.1), (b.drop p.2).take (q.2 - p.2)⟩
def hk (nm : ByteArray) (a b : List ByteArray) (p q : Nat × Nat) : List Prim := if p.1 < q.1 ∨ p.2 < q.2 then [hunkP nm a b p q] else []
def linS (nm : ByteArray) (a b : List ByteArray) (s : List Prim × (Nat × Nat)) (q : Nat × Nat) : List Prim × (Nat × Nat) := (s.1 ++ hk nm a b s.2 q, (q.1 + 1, q.2 + 1))
def linF (nm : ByteArray) (a b : List ByteArray) (l : List (Nat × Nat)) : List Prim × (Nat × Nat) := l.foldl (linS nm a b) ([], (0, 0))
theorem linF_snoc (nm : ByteArray) (a b : List ByteArray) (l : List (Nat × Nat)) (q : Nat × Nat) : linF nm a b (l ++ [q]) = ((linF nm a b l).1 ++ hk nm a b (linF nm a b l).2 q, (q.1 + 1, q.2 + 1)) := by
 unfold linF; rw [List.foldl_append]; rfl
theorem linF_take {nm : ByteArray} {a b : List ByteArray} {l : List (Nat × Nat)} {j : Nat} (hj : j < l.length) : linF nm a b (l.take (j + 1)) = ((linF nm a b (l.take j)).1 ++ hk nm a b (linF nm a b (l.take j)).2 l[j], (l[j].1 + 1, l[j].2 + 1)) := by
 rw [List.take_succ_eq_append_getElem hj, linF_snoc]
def linAll (nm : ByteArray) (a b : List ByteArray) (l : List (Nat × Nat)) : List Prim := (linF nm a b (l ++ [(a.length, b.length)])).1
theorem Chain.lin {a b : List ByteArray} {l : List (Nat × Nat)} {i k : Nat} (nm : ByteArray) (h : Chain a b l i k) : (linF nm a b l).2 = (i, k) := by
 cases h with
 | nil => rfl
 | snoc h0 hp hn => rw [linF_snoc]
/-! How the tables come to hold what is common. -/
def longB (l m : List ByteArray) : Bool := decide ((200 : Int) < (l.length : Int)) || decide ((200 : Int) < (m.length : Int))
theorem longB_no {l m : List ByteArray} (h : longB l m = false) : l.length ≤ 200 ∧ m.length ≤ 200 := by
 unfold longB at h;simp only [Bool.or_eq_false_iff, decide_eq_false_iff_not] at h;omega
def tf (l m : List ByteArray) (p q : Nat) : Nat → Nat → Int := fun r k => if p ≤ r ∨ (r + 1 = p ∧ q ≤ k) then (cmn l m r k : Int) else 0
theorem tf_in {l m : List ByteArray} {p q r k : Nat} (h : p ≤ r ∨ (r + 1 = p ∧ q ≤ k)) : tf l m p q r k = (cmn l m r k : Int) := by unfold tf; rw [if_pos h]
theorem tf0 (l m : List ByteArray) (q r k : Nat) : tf l m 0 q r k = (cmn l m r k : Int) := tf_in (.inl (Nat.zero_le _))
theorem len_init (l m : List ByteArray) : List.replicate (l.length + 1) (List.replicate (m.length + 1) (0 : Int)) = mkT (l.length + 1) (m.length + 1) (tf l m l.length m.length) := by
 rw [mkT_rep rfl];refine mkT_ext fun r k hr hk => ?_;unfold tf
 split
 ·rw [cmn_end (by omega)]; rfl
 ·rfl
theorem len_row (l m : List ByteArray) (p : Nat) (hp : p < l.length) : mkT (l.length + 1) (m.length + 1) (tf l m (p + 1) 0) = mkT (l.length + 1) (m.length + 1) (tf l m p m.length) := by
 refine mkT_ext fun r k hr hk => ?_;unfold tf
 by_cases h1 : p ≤ r
 ·rw [if_pos (by omega), if_pos (.inl h1)]
 ·rw [if_neg (by omega)]
  split
  ·rw [cmn_end (by omega)]; rfl
  ·rfl
theorem len_ne {l m : List ByteArray} {p q : Nat} (hp : p < l.length) (hq : q < m.length) (h : ¬ l[p] = m[q]) :
  mkT (l.length + 1) (m.length + 1) (upF (tf l m (p + 1) (q + 1)) p q (max (tf l m (p + 1) (q + 1) (p + 1) q) (tf l m (p + 1) (q + 1) p (q + 1)))) = mkT (l.length + 1) (m.length + 1) (tf l m (p + 1) q) := by
 refine mkT_ext fun r k hr hk => ?_;unfold upF
 by_cases h1 : r = p ∧ k = q
 ·obtain ⟨rfl, rfl⟩ := h1;rw [if_pos ⟨rfl, rfl⟩, tf_in (.inl (Nat.le_refl _)), tf_in (.inr ⟨rfl, Nat.le_refl _⟩), tf_in (.inr ⟨rfl, Nat.le_refl _⟩), cmn_ne hp hq h];omega
 ·rw [if_neg h1];unfold tf
  by_cases h2 : p + 1 ≤ r ∨ (r + 1 = p + 1 ∧ q + 1 ≤ k)
  ·rw [if_pos h2, if_pos (by omega)]
  ·rw [if_neg h2, if_neg (by omega)]
theorem len_eq {l m : List ByteArray} {p q : Nat} {z : Int} (hp : p < l.length) (hq : q < m.length) (h : l[p] = m[q]) :
  mkT (l.length + 1) (m.length + 1) (upF (upF (tf l m (p + 1) (q + 1)) p q z) p q (upF (tf l m (p + 1) (q + 1)) p q z (p + 1) (q + 1) + 1)) = mkT (l.length + 1) (m.length + 1) (tf l m (p + 1) q) := by
 refine mkT_ext fun r k hr hk => ?_;have e1 : upF (tf l m (p + 1) (q + 1)) p q z (p + 1) (q + 1) = (cmn l m (p + 1) (q + 1) : Int) := by
  unfold upF; rw [if_neg (by omega), tf_in (.inl (Nat.le_refl _))]
 rw [e1];unfold upF
 by_cases h1 : r = p ∧ k = q
 ·obtain ⟨rfl, rfl⟩ := h1;rw [if_pos ⟨rfl, rfl⟩, tf_in (.inr ⟨rfl, Nat.le_refl _⟩), cmn_eq hp hq h];omega
 ·rw [if_neg h1, if_neg h1];unfold tf
  by_cases h2 : p + 1 ≤ r ∨ (r + 1 = p + 1 ∧ q + 1 ≤ k)
  ·rw [if_pos h2, if_pos (by omega)]
  ·rw [if_neg h2, if_neg (by omega)]
theorem upF_at (f : Nat → Nat → Int) (r k : Nat) (v : Int) (r' k' : Nat) : upF f r k v r' k' = if r' = r ∧ k' = k then v else f r' k' := rfl
end Go.Proofs.YtbhnolfcdcpbkaaGreatDoor.X
end
section
namespace Go.Proofs.YtbhnolfcdcpbkaaGreatDoor.X
set_option maxRecDepth 100000
open Go Go.RowKit Go.Proofs Go.Sx
open Tryz
attribute [local irreducible] slA isA box row TrL TrC TrN TrA Pu OpR
set_option maxHeartbeats 8000000
theorem hunk_some {l m : List ByteArray} {p q : Nat × Nat} (h1 : p.1 ≤ q.1) (h2 : p.2 ≤ q.2) (h3 : q.1 ≤ l.length) (h4 : q.2 ≤ m.length) : decide (p.1 < q.1 ∨ p.2 < q.2) = decide ((0 : Int) < (((l.drop p.1).take (q.1 - p.1)).length : Int) + (((m.drop p.2).take (q.2 - p.2)).length : Int)) := by
 rw [decide_eq_decide, List.length_take, List.length_take, List.length_drop, List.length_drop];omega
theorem inf61 : (Tryz.prog.info? 61).map (fun i => (i.zero, i.size, i.bytes)) = some (some (.slice none 0 0), 1, 24) := by kernel_rfl
theorem inf256 : (Tryz.prog.info? 256).map (fun i => (i.zero, i.size, i.bytes)) = some (some (.agg #[.int .i64 0, .int .i64 0]), 2, 16) := by kernel_rfl
theorem c_dLong (l m : List ByteArray) (A B : Option Addr) (c c' : Nat) : Con Tryz.prog 190 [.slice A l.length c, .slice B m.length c'] [] [] Unit (fun _ => .bool (longB l m)) (fun _ => []) (fun _ => []) := by
 refine con func190 rfl ntmps190 rfl ?_;intro M0 F0 w0;refine k_ 11 ?_;refine orX 4 8 12 rfl (sL [4]) ?_ ?_
 ·intro h8;refine k_ 4 ?_;refine ln (nmid (wk0 Φ Ω))
 apply exI
 ·intro h8;refine k_ 4 ?_;refine ln (nmid (wk0 Φ Ω))
 ·
  refine k_ 5 ?_;exact rR [] ()
theorem c_dLengths (l m : List ByteArray) (A B : Option Addr) (c c' : Nat) (hl : l.length ≤ 200) (hm : m.length ≤ 200) : Con Tryz.prog 229 [.slice A l.length c, .slice B m.length c'] [] [slA A l, slA B m] (Option Addr × Nat) (fun x => .slice x.1 (l.length + 1) x.2) (fun _ => []) (fun x => [slA x.1 (mkT (l.length + 1) (m.length + 1) (tf l m (0) (m.length)))]) := by
 refine con func229 rfl ntmps229 rfl ?_;intro M0 F0 w0;refine k_ 10 ?_;refine ls (o_mk (⟨none, 0, 0⟩ : Hdr) () (l.length + 1) underlying295 inf61 rfl (by decide) (fun _ _ p hp => by cases hp) (by omega) (by omega) rfl rfl (by omega) (by omega) rfl) ?_;refine le ?_; intro g;rw [List.length_replicate];refine lmono (fun a w h => tab0 (β := Int) (e2 := 3) (m := (m.length + 1)) (ls := List.replicate 0 (List.replicate (m.length + 1) 0)) Θ (hd_0 (m.length + 1) (l.length + 1)) rfl Θ h) ?_;refine k_ 12 ?_;refine cl (ι := {q : Nat × List Nat // q.2.length = q.1 ∧ q.1 ≤ l.length + 1}) (fun i => St M0 F0 w0 89 [(0, .slice A l.length c), (1, .slice B m.length c'), (5, .slice (some ⟨g, 0, none⟩) (l.length + 1) (l.length + 1)), (14, .int .i64 ((l.length + 1 : Nat) : Int)), (15, .int .i64 ((i.1.1 : Nat) : Int))] [tab 61 3 g (l.length + 1) (hd (m.length + 1) i.1.2 (l.length + 1)) (m.length + 1) i.1.2 (List.replicate (i.1.1) (List.replicate (m.length + 1) 0))] [slA A l, slA B m]) (fun i => l.length + 1 - i.1.1) ⟨(0, []), rfl, Nat.zero_le _⟩ (wk0 Φ Ω) ?_;rintro ⟨⟨k, gs⟩, hgk, hk⟩;refine cmono (S' := St M0 F0 w0 89 [(0, .slice A l.length c), (1, .slice B m.length c'), (5, .slice (some ⟨g, 0, none⟩) (l.length + 1) (l.length + 1)), (14, .int .i64 ((l.length + 1 : Nat) : Int)), (15, .int .i64 ((k : Nat) : Int))] [tab 61 3 g (l.length + 1) (hd (m.length + 1) gs (l.length + 1)) (m.length + 1) gs (List.replicate (k) (List.replicate (m.length + 1) 0))] [slA A l, slA B m]) Ħ ?_;refine k_ 6 ?_;refine cc rfl ?_ ?_
 ·intro h16;dsimp only at hgk hk;(try simp only [nrmZ] at h16);subst hgk;have hg1 : gs.length < l.length + 1 := (by omega);refine k_ 16 ?_;refine ls (o_mk (0 : Int) () (m.length + 1) underlying61 inf3 rfl (by decide) (fun _ _ p hp => by cases hp) (by omega) (by omega) rfl rfl (by omega) (by omega) rfl) ?_;refine le ?_; intro b23;rw [List.length_replicate];refine ls (op (p_ia gs.length rfl hg1 rfl underlying295 sizeOf61 rfl rfl) rfl) ?_;refine ls (o_tput (i := 1) (k := 0) (j := gs.length) rfl sizeOf61 rfl rfl rfl (by rw [hd_length (by omega)]; exact hg1) (hd_set hg1) List.replicate_succ'.symm) ?_;refine k_ 7 ?_;refine nnext ⟨(gs.length + 1, gs ++ [b23]), by simp, by dsimp only; omega⟩ (by dsimp only; omega) (wk0 Φ Ω)
 ·intro h16;dsimp only at hgk hk;(try simp only [nrmZ] at h16);obtain rfl : k = l.length + 1 := (by omega);have hgs : gs.length = l.length + 1 := hgk;refine k_ 15 ?_;refine cl (ι := {p : Nat // p ≤ l.length}) (fun i => St M0 F0 w0 89 [(0, .slice A l.length c), (1, .slice B m.length c'), (5, .slice (some ⟨g, 0, none⟩) (l.length + 1) (l.length + 1)), (7, .int .i64 ((i.1 : Int) - 1))] [tab 61 3 g (l.length + 1) (hd (m.length + 1) gs (l.length + 1)) (m.length + 1) gs (mkT (l.length + 1) (m.length + 1) (tf l m (i.1) (m.length)))] [slA A l, slA B m]) (fun i => i.1) ⟨l.length, Nat.le_refl _⟩ ((fun a w h => by dsimp only; rw [← len_init]; exact wk0 Φ Ω a w h)) ?_;rintro ⟨p, hp⟩;refine cmono (S' := St M0 F0 w0 89 [(0, .slice A l.length c), (1, .slice B m.length c'), (5, .slice (some ⟨g, 0, none⟩) (l.length + 1) (l.length + 1)), (7, .int .i64 ((p : Int) - 1))] [tab 61 3 g (l.length + 1) (hd (m.length + 1) gs (l.length + 1)) (m.length + 1) gs (mkT (l.length + 1) (m.length + 1) (tf l m (p) (m.length)))] [slA A l, slA B m]) Ħ ?_;refine k_ 7 ?_;refine cc rfl ?_ ?_
  ·intro h30;(try simp only [nrmZ] at h30);obtain ⟨p, rfl⟩ : ∃ p', p = p' + 1 := ⟨p - 1, by omega⟩;refine k_ 13 ?_;refine cl (ι := {q : Nat // q ≤ m.length}) (fun i => St M0 F0 w0 89 [(0, .slice A l.length c), (1, .slice B m.length c'), (5, .slice (some ⟨g, 0, none⟩) (l.length + 1) (l.length + 1)), (7, .int .i64 (((p + 1 : Nat) : Int) - 1)), (8, .int .i64 ((i.1 : Int) - 1))] [tab 61 3 g (l.length + 1) (hd (m.length + 1) gs (l.length + 1)) (m.length + 1) gs (mkT (l.length + 1) (m.length + 1) (tf l m (p + 1) (i.1)))] [slA A l, slA B m]) (fun i => i.1) ⟨m.length, Nat.le_refl _⟩ (wk0 Φ Ω) ?_;rintro ⟨q, hq⟩;refine cmono (S' := St M0 F0 w0 89 [(0, .slice A l.length c), (1, .slice B m.length c'), (5, .slice (some ⟨g, 0, none⟩) (l.length + 1) (l.length + 1)), (7, .int .i64 (((p + 1 : Nat) : Int) - 1)), (8, .int .i64 ((q : Int) - 1))] [tab 61 3 g (l.length + 1) (hd (m.length + 1) gs (l.length + 1)) (m.length + 1) gs (mkT (l.length + 1) (m.length + 1) (tf l m (p + 1) (q)))] [slA A l, slA B m]) Ħ ?_;refine k_ 7 ?_;refine cc rfl ?_ ?_
   ·intro h37;(try simp only [nrmZ] at h37);obtain ⟨q, rfl⟩ : ∃ q', q = q' + 1 := ⟨q - 1, by omega⟩;have hp1 : p < l.length := (by omega);have hq1 : q < m.length := (by omega);refine k_ 5 ?_;refine cdB [23] [(3, g, 0 + p * Rp.size Hdr, _), (9, g, 0 + (p + 1) * Rp.size Hdr, _), (12, gs[p + 1], 0 + q * Rp.size Int, _), (16, g, 0 + p * Rp.size Hdr, _), (20, gs[p], 0 + (q + 1) * Rp.size Int, _)] TryzX.mixed Ψ Ψ (TOk.t (isTabH Θ (hd_at hgs (by omega))) (TOk.t (isTabH Θ (hd_at hgs (by omega))) (TOk.t (isTabI Θ (List.getElem?_eq_getElem (by omega : (p + 1) < gs.length)) (mkT_row (f := tf l m (p + 1) (q + 1)) (by omega)) (mkR_at (f := (tf l m (p + 1) (q + 1)) (p + 1)) (by omega))) (TOk.t (isTabH Θ (hd_at hgs (by omega))) (TOk.t (isTabI Θ (List.getElem?_eq_getElem (by omega : p < gs.length)) (mkT_row (f := tf l m (p + 1) (q + 1)) (by omega)) (mkR_at (f := (tf l m (p + 1) (q + 1)) p) (by omega))) TOk.d))))) ?_;refine t_ 0 2 ?_;refine tkB 2 rfl Ψ Υ gnone (TTany _) (p_ia p rfl (by omega) (by omega) underlying295 sizeOf61 rfl rfl) rfl ?_;refine t_ 3 5 ?_;refine tkB 8 rfl Ψ Υ gnone (TTany _) (p_ia (p + 1) rfl (by omega) (by omega) underlying295 sizeOf61 rfl rfl) rfl ?_;refine t_ 9 2 ?_;refine tkB 11 rfl Ψ Υ gnone (TTany _) (p_ia q rfl (show q < m.length + 1 by omega) (by omega) underlying61 sizeOf3 rfl rfl) rfl ?_;refine t_ 12 3 ?_;refine tkB 15 rfl Ψ Υ gnone (TTany _) (p_ia p rfl (by omega) (by omega) underlying295 sizeOf61 rfl rfl) rfl ?_;refine t_ 16 3 ?_;refine tkB 19 rfl Ψ Υ gnone (TTany _) (p_ia (q + 1) rfl (show (q + 1) < m.length + 1 by omega) (by omega) underlying61 sizeOf3 rfl rfl) rfl ?_;refine t_ 20 1 ?_;refine tkB 21 rfl Ψ Υ gnone (TTany _) (p_max rfl rfl) rfl ?_;refine tkB 22 rfl Ψ Υ gnone (TTany _) (p_ia q rfl (show q < m.length + 1 by omega) (by omega) underlying61 sizeOf3 rfl rfl) rfl ?_;refine dfB 23 Ψ ?_;refine doRB rfl (o_tst (j := p) (k := q) (b := gs[p]) (l := (List.range (m.length + 1)).map ((tf l m (p + 1) (q + 1)) p)) (z := max (tf l m (p + 1) (q + 1) (p + 1) q) (tf l m (p + 1) (q + 1) p (q + 1))) (yz := ()) rfl sizeOf3 rfl rfl rfl Θ (List.getElem?_eq_getElem (by omega : p < gs.length)) (mkT_row (by omega)) (by rw [mkR_length]; omega) (mkT_set (g := upF (tf l m (p + 1) (q + 1)) p q (max (tf l m (p + 1) (q + 1) (p + 1) q) (tf l m (p + 1) (q + 1) p (q + 1)))) (fun _ _ _ _ => rfl)) Θ Ω) (TOk.xP 23 [] Ψ (TOk.xP 23 [] Ψ (TOk.xP 23 [] Ψ (TOk.xP 23 [] Ψ (TOk.xP 23 [] Ψ TOk.d))))) ?_;refine dnB Ψ ?_;refine k_ 2 ?_;refine elC (A := A) (l := l) Θ p (List.getElem?_eq_getElem (l := l) hp1) ?_; rintro zba zoa zya hAa;refine elC (A := B) (l := m) Θ q (List.getElem?_eq_getElem (l := m) hq1) ?_; rintro zbb zob zyb hAb;refine cdB [] [(3, zba, zoa + p * Rp.size ByteArray, _), (7, zbb, zob + q * Rp.size ByteArray, _)] TryzX.mixed Ψ Ψ (TOk.t (isInS Θ (k := 0) rfl (z := 1) Δ) (TOk.t (isInS Θ (k := 0) rfl (z := 1) Δ) TOk.d)) ?_;refine t_ 0 2 ?_;refine tkB 2 rfl Ψ Υ gnone (TTany _) (p_ia p hAa hp1 (by omega) underlying73 sizeOf9 rfl rfl) rfl ?_;refine t_ 3 3 ?_;refine tkB 6 rfl Ψ Υ gnone (TTany _) (p_ia q hAb hq1 (by omega) underlying73 sizeOf9 rfl rfl) rfl ?_;refine t_ 7 2 ?_;refine dnB Ψ ?_;refine k_ 1 ?_;refine cc rfl ?_ ?_
    ·intro h71;(try simp only [nrmZ] at h71);refine cdB [16] [(3, g, 0 + p * Rp.size Hdr, _), (9, g, 0 + (p + 1) * Rp.size Hdr, _), (13, gs[p + 1], 0 + (q + 1) * Rp.size Int, _)] TryzX.mixed Ψ Ψ (TOk.t (isTabH Θ (hd_at hgs (by omega))) (TOk.t (isTabH Θ (hd_at hgs (by omega))) (TOk.t (isTabI Θ (List.getElem?_eq_getElem (by omega : (p + 1) < gs.length)) (mkT_row (f := upF (tf l m (p + 1) (q + 1)) p q (max (tf l m (p + 1) (q + 1) (p + 1) q) (tf l m (p + 1) (q + 1) p (q + 1)))) (by omega)) (mkR_at (f := (upF (tf l m (p + 1) (q + 1)) p q (max (tf l m (p + 1) (q + 1) (p + 1) q) (tf l m (p + 1) (q + 1) p (q + 1)))) (p + 1)) (by omega))) TOk.d))) ?_;refine t_ 0 2 ?_;refine tkB 2 rfl Ψ Υ gnone (TTany _) (p_ia p rfl (by omega) (by omega) underlying295 sizeOf61 rfl rfl) rfl ?_;refine t_ 3 5 ?_;refine tkB 8 rfl Ψ Υ gnone (TTany _) (p_ia (p + 1) rfl (by omega) (by omega) underlying295 sizeOf61 rfl rfl) rfl ?_;refine t_ 9 3 ?_;refine tkB 12 rfl Ψ Υ gnone (TTany _) (p_ia (q + 1) rfl (show (q + 1) < m.length + 1 by omega) (by omega) underlying61 sizeOf3 rfl rfl) rfl ?_;refine t_ 13 1 ?_;refine tkB 14 rfl Ψ Υ gnone (TTany _) (p_add rfl rfl (by rw [upF_at, if_neg (by omega), tf_in (.inl (Nat.le_refl _))]; have := cmn_le (a := l) (b := m) (i := p + 1) (k := q + 1); omega)) rfl ?_;refine tkB 15 rfl Ψ Υ gnone (TTany _) (p_ia q rfl (show q < m.length + 1 by omega) (by omega) underlying61 sizeOf3 rfl rfl) rfl ?_;refine dfB 16 Ψ ?_;refine doRB rfl (o_tst (j := p) (k := q) (b := gs[p]) (l := (List.range (m.length + 1)).map ((upF (tf l m (p + 1) (q + 1)) p q (max (tf l m (p + 1) (q + 1) (p + 1) q) (tf l m (p + 1) (q + 1) p (q + 1)))) p)) (z := (upF (tf l m (p + 1) (q + 1)) p q (max (tf l m (p + 1) (q + 1) (p + 1) q) (tf l m (p + 1) (q + 1) p (q + 1)))) (p + 1) (q + 1) + 1) (yz := ()) rfl sizeOf3 rfl rfl rfl Θ (List.getElem?_eq_getElem (by omega : p < gs.length)) (mkT_row (by omega)) (by rw [mkR_length]; omega) (mkT_set (g := upF (upF (tf l m (p + 1) (q + 1)) p q (max (tf l m (p + 1) (q + 1) (p + 1) q) (tf l m (p + 1) (q + 1) p (q + 1)))) p q ((upF (tf l m (p + 1) (q + 1)) p q (max (tf l m (p + 1) (q + 1) (p + 1) q) (tf l m (p + 1) (q + 1) p (q + 1)))) (p + 1) (q + 1) + 1)) (fun _ _ _ _ => rfl)) Θ Ω) (TOk.xP 16 [] Ψ (TOk.xP 16 [] Ψ (TOk.xP 16 [] Ψ TOk.d))) ?_;refine dnB Ψ ?_;refine k_ 5 ?_;refine fixL (v' := .int .i64 ((q : Int) - 1)) (by congr 1; omega) ?_;refine k_ 2 ?_;refine nnext ⟨q, by omega⟩ (by dsimp only; omega) (fun a w h => by dsimp only; rw [← len_eq hp1 hq1 h71]; exact wk0 Φ Ω a w h)
    ·intro h71;(try simp only [nrmZ] at h71);refine k_ 6 ?_;refine fixL (v' := .int .i64 ((q : Int) - 1)) (by congr 1; omega) ?_;refine k_ 2 ?_;refine nnext ⟨q, by omega⟩ (by dsimp only; omega) (fun a w h => by dsimp only; rw [← len_ne hp1 hq1 h71]; exact wk0 Φ Ω a w h)
   ·intro h37;(try simp only [nrmZ] at h37);obtain rfl : q = 0 := (by omega);refine k_ 9 ?_;refine fixL (v' := .int .i64 ((p : Int) - 1)) (by congr 1; omega) ?_;refine k_ 2 ?_;refine nnext ⟨p, by omega⟩ (by dsimp only; omega) (fun a w h => by dsimp only; rw [← len_row l m p (by omega)]; exact wk0 Φ Ω a w h)
  ·intro h30;(try simp only [nrmZ] at h30);obtain rfl : p = 0 := (by omega);refine k_ 6 ?_;refine cmono (fun a w h => freezeTab (i := 0) rfl (hd_all hgs) mkT_mem h) ?_;refine k_ 7 ?_;exact rR [] (some ⟨g, 0, none⟩, l.length + 1)
theorem c_dCommon (l m : List ByteArray) (A B : Option Addr) (c c' : Nat) (hl : l.length ≤ 1000000) (hm : m.length ≤ 1000000) : Con Tryz.prog 193 [.slice A l.length c, .slice B m.length c'] [] [slA A l, slA B m] {x : List (Nat × Nat) × (Option Addr × Nat) // (longB l m = true → x.1 = []) ∧ (longB l m = false → Comm l m x.1)} (fun x => .slice x.1.2.1 x.1.1.length x.1.2.2) (fun x => [row 256 x.1.2.1 x.1.2.2 x.1.1]) (fun _ => []) := by
 refine con func193 rfl ntmps193 rfl ?_;intro M0 F0 w0;refine k_ 5 ?_;refine cscope ?_;refine k_ 5 ?_;refine lC [] call190 (c_dLong l m A B c c') ?_; intro x13;refine k_ 2 ?_;refine cc rfl ?_ ?_
 ·intro h13
  skip
  refine cs ?_;refine cmono (fun a w h => nilRow (α := Nat × Nat) 256 h) ?_;refine k_ 6 ?_;exact rR [0] ⟨([], (none, 0)), fun _ => rfl, fun h => by rw [h13] at h; cases h⟩
 ·intro h13;obtain ⟨hl2, hm2⟩ := longB_no h13;refine k_ 6 ?_;refine lC [] call229 (c_dLengths l m A B c c' hl2 hm2) ?_; rintro ⟨A5, c5⟩;refine k_ 4 ?_;refine cmono (fun a w h => nilRow (α := Nat × Nat) 256 h) ?_;refine k_ 11 ?_;refine clabel ?_;refine k_ 3 ?_;refine cl (ι := {q : List (Nat × Nat) × (Nat × Nat) × (Option Addr × Nat) // Chain l m q.1 q.2.1.1 q.2.1.2}) (fun i => St M0 F0 w0 76 [(0, .slice A l.length c), (1, .slice B m.length c'), (5, .slice A5 (l.length + 1) c5), (6, .slice i.1.2.2.1 (i.1.1).length i.1.2.2.2), (7, .int .i64 ((i.1.2.1.1 : Nat) : Int)), (8, .int .i64 ((i.1.2.1.2 : Nat) : Int))] [row 256 (i.1.2.2.1) (i.1.2.2.2) i.1.1] [slA A l, slA B m, slA A5 (mkT (l.length + 1) (m.length + 1) (tf l m (0) (m.length)))]) (fun i => cmn l m (i.1.2.1.1) (i.1.2.1.2)) ⟨([], (0, 0), (none, 0)), Chain.nil⟩ (wk0 Φ Ω) ?_;rintro ⟨⟨o, ⟨u, k⟩, ⟨A6, c6⟩⟩, hch⟩;refine cmono (S' := St M0 F0 w0 76 [(0, .slice A l.length c), (1, .slice B m.length c'), (5, .slice A5 (l.length + 1) c5), (6, .slice A6 (o).length c6), (7, .int .i64 ((u : Nat) : Int)), (8, .int .i64 ((k : Nat) : Int))] [row 256 (A6) (c6) o] [slA A l, slA B m, slA A5 (mkT (l.length + 1) (m.length + 1) (tf l m (0) (m.length)))]) Ħ ?_;refine k_ 2 ?_;dsimp only at hch;have hle := hch.le;refine elC (A := A5) (l := mkT (l.length + 1) (m.length + 1) (tf l m (0) (m.length))) Θ u (mkT_row (by omega)) ?_; rintro zbt zot zyt hAt;refine elC (A := zyt.1) (l := (List.range (m.length + 1)).map ((tf l m (0) (m.length)) u)) Θ k (mkR_at (by omega)) ?_; rintro zbu zou zyu hAu;refine k_ 3 ?_;refine ls (op (p_ia u hAt (by omega) rfl underlying295 sizeOf61 rfl rfl) rfl) ?_;refine ls (o_ldi isAgg61 rfl Θ 0 rfl Δ rfl) ?_;refine k_ 1 ?_;refine ls (op (p_ia k hAu (by rw [mkR_length]; omega) rfl underlying61 sizeOf3 rfl rfl) rfl) ?_;refine ls (o_ldi isAgg3 rfl Θ 0 rfl Δ rfl) ?_;refine k_ 3 ?_;refine cc rfl ?_ ?_
  ·intro h24;have hpos : 0 < cmn l m u k := (by have h := h24; rw [tf0] at h; simp at h; omega);refine k_ 10 ?_;refine cl (ι := {x : Nat // u ≤ x ∧ x ≤ l.length ∧ NoneB l m u k x k}) (fun i => St M0 F0 w0 76 [(0, .slice A l.length c), (1, .slice B m.length c'), (5, .slice A5 (l.length + 1) c5), (6, .slice A6 (o).length c6), (7, .int .i64 ((u : Nat) : Int)), (8, .int .i64 ((k : Nat) : Int)), (9, .int .i64 ((i.1 : Nat) : Int))] [row 256 A6 c6 o] [slA A l, slA B m, slA A5 (mkT (l.length + 1) (m.length + 1) (tf l m (0) (m.length)))]) (fun i => l.length - i.1) ⟨u, Nat.le_refl _, hle.1, noneB_0 l m u k⟩ (wk0 Φ Ω) ?_;rintro ⟨x, hix, hxl, hnx⟩;refine cmono (S' := St M0 F0 w0 76 [(0, .slice A l.length c), (1, .slice B m.length c'), (5, .slice A5 (l.length + 1) c5), (6, .slice A6 (o).length c6), (7, .int .i64 ((u : Nat) : Int)), (8, .int .i64 ((k : Nat) : Int)), (9, .int .i64 ((x : Nat) : Int))] [row 256 A6 c6 o] [slA A l, slA B m, slA A5 (mkT (l.length + 1) (m.length + 1) (tf l m (0) (m.length)))]) Ħ ?_;refine k_ 9 ?_;refine cc rfl ?_ ?_
   ·intro h29;(try simp only [nrmZ] at h29);have hx1 : x < l.length := (by omega);refine k_ 11 ?_;refine cl (ι := {y : Nat // k ≤ y ∧ y ≤ m.length ∧ NoneB l m u k x y}) (fun i => St M0 F0 w0 76 [(0, .slice A l.length c), (1, .slice B m.length c'), (5, .slice A5 (l.length + 1) c5), (6, .slice A6 (o).length c6), (7, .int .i64 ((u : Nat) : Int)), (8, .int .i64 ((k : Nat) : Int)), (9, .int .i64 ((x : Nat) : Int)), (10, .int .i64 ((i.1 : Nat) : Int))] [row 256 A6 c6 o] [slA A l, slA B m, slA A5 (mkT (l.length + 1) (m.length + 1) (tf l m (0) (m.length)))]) (fun i => m.length - i.1) ⟨k, Nat.le_refl _, hle.2, hnx⟩ (wk0 Φ Ω) ?_;rintro ⟨y, hky, hyl, hny⟩;refine cmono (S' := St M0 F0 w0 76 [(0, .slice A l.length c), (1, .slice B m.length c'), (5, .slice A5 (l.length + 1) c5), (6, .slice A6 (o).length c6), (7, .int .i64 ((u : Nat) : Int)), (8, .int .i64 ((k : Nat) : Int)), (9, .int .i64 ((x : Nat) : Int)), (10, .int .i64 ((y : Nat) : Int))] [row 256 A6 c6 o] [slA A l, slA B m, slA A5 (mkT (l.length + 1) (m.length + 1) (tf l m (0) (m.length)))]) Ħ ?_;refine k_ 9 ?_;refine cc rfl ?_ ?_
    ·intro h36;(try simp only [nrmZ] at h36);have hy1 : y < m.length := (by omega);refine k_ 5 ?_;rcases Classical.em (l[x] = m[y]) with heq | heq
     ·
      refine elC (A := A) (l := l) Θ x (List.getElem?_eq_getElem (l := l) hx1) ?_; rintro zba zoa zya hAa;refine elC (A := B) (l := m) Θ y (List.getElem?_eq_getElem (l := m) hy1) ?_; rintro zbb zob zyb hAb;refine elC (A := A5) (l := mkT (l.length + 1) (m.length + 1) (tf l m (0) (m.length))) Θ x (mkT_row (by omega)) ?_; rintro zbt2 zot2 zyt2 hAt2;refine elC (A := zyt2.1) (l := (List.range (m.length + 1)).map ((tf l m (0) (m.length)) x)) Θ y (mkR_at (by omega)) ?_; rintro zbu2 zou2 zyu2 hAu2;refine elC (A := A5) (l := mkT (l.length + 1) (m.length + 1) (tf l m (0) (m.length))) Θ u (mkT_row (by omega)) ?_; rintro zbt3 zot3 zyt3 hAt3;refine elC (A := zyt3.1) (l := (List.range (m.length + 1)).map ((tf l m (0) (m.length)) u)) Θ k (mkR_at (by omega)) ?_; rintro zbu3 zou3 zyu3 hAu3;refine cdB [] [(3, zba, zoa + x * Rp.size ByteArray, _), (7, zbb, zob + y * Rp.size ByteArray, _), (13, zbt2, zot2 + x * Rp.size (List Int), _), (16, zbu2, zou2 + y * Rp.size Int, _), (20, zbt3, zot3 + u * Rp.size (List Int), _), (23, zbu3, zou3 + k * Rp.size Int, _)] TryzX.mixed Ψ Ψ (TOk.t (isInS Θ (k := 0) rfl (z := 1) Δ) (TOk.t (isInS Θ (k := 0) rfl (z := 1) Δ) (TOk.t (isInS Θ (k := 0) rfl (z := 1) Δ) (TOk.t (isInS Θ (k := 0) rfl (z := 1) Δ) (TOk.t (isInS Θ (k := 0) rfl (z := 1) Δ) (TOk.t (isInS Θ (k := 0) rfl (z := 1) Δ) TOk.d)))))) ?_;refine t_ 0 2 ?_;refine tkB 2 rfl Ψ Υ gnone (TTany _) (p_ia x hAa hx1 rfl underlying73 sizeOf9 rfl rfl) rfl ?_;refine t_ 3 3 ?_;refine tkB 6 rfl Ψ Υ gnone (TTany _) (p_ia y hAb hy1 rfl underlying73 sizeOf9 rfl rfl) rfl ?_;refine t_ 7 2 ?_;refine fixB (congrArg Value.bool (decide_eq_true heq)) ?_;refine t_ 9 3 ?_;refine tkB 12 rfl Ψ Υ (gyes rfl rfl rfl rfl) (TTany _) (p_ia x hAt2 (by first | omega | (rw [mkR_length]; omega)) rfl underlying295 sizeOf61 rfl rfl) rfl ?_;refine tkB 13 rfl Ψ Υ (gyes rfl rfl rfl rfl) (TTat (mT (mT (List.Mem.head _)))) (p_ld isAgg61 rfl) rfl ?_;refine t_ 14 1 ?_;refine tkB 15 rfl Ψ Υ (gyes rfl rfl rfl rfl) (TTany _) (p_ia y hAu2 (by first | omega | (rw [mkR_length]; omega)) rfl underlying61 sizeOf3 rfl rfl) rfl ?_;refine tkB 16 rfl Ψ Υ (gyes rfl rfl rfl rfl) (TTat (mT (mT (mT (List.Mem.head _))))) (p_ld isAgg3 rfl) rfl ?_;refine t_ 17 2 ?_;refine tkB 19 rfl Ψ Υ (gyes rfl rfl rfl rfl) (TTany _) (p_ia u hAt3 (by first | omega | (rw [mkR_length]; omega)) rfl underlying295 sizeOf61 rfl rfl) rfl ?_;refine tkB 20 rfl Ψ Υ (gyes rfl rfl rfl rfl) (TTat (mT (mT (mT (mT (List.Mem.head _)))))) (p_ld isAgg61 rfl) rfl ?_;refine t_ 21 1 ?_;refine tkB 22 rfl Ψ Υ (gyes rfl rfl rfl rfl) (TTany _) (p_ia k hAu3 (by first | omega | (rw [mkR_length]; omega)) rfl underlying61 sizeOf3 rfl rfl) rfl ?_;refine tkB 23 rfl Ψ Υ (gyes rfl rfl rfl rfl) (TTat (mT (mT (mT (mT (mT (List.Mem.head _))))))) (p_ld isAgg3 rfl) rfl ?_;refine t_ 24 2 ?_;refine dnB Ψ ?_;refine k_ 1 ?_;refine cc rfl ?_ ?_
      ·intro h64;have hc : Cand l m u k x y := ⟨hix, hky, hx1, hy1, heq, by have h := h64; rw [tf0, tf0] at h; simp at h; omega⟩;have hnp : NextP l m u k x y := ⟨hc, hny⟩;have hlen := hch.len;refine k_ 6 ?_;refine ls (o_bsl [(x, y)] underlying257 sizeOf256 zeroValue256 rfl (Enum.t Enum.d) (RV.t () rfl Ω RV.d) rfl (by decide) (by decide) rfl) ?_;refine le ?_; intro b69;refine lmono (fun a w h => Go.Sx.freeze (i := 0) rfl h) ?_;refine ls (o_app (is := [0]) underlying257 inf256 rfl (by decide) (by decide) rfl rfl (by simp only [List.length_cons, List.length_nil]; have := lcs_lenl l m; omega) (fun h => by cases h) rfl Ω rfl) ?_;refine le ?_; rintro ⟨A70, c70⟩;refine k_ 14 ?_;refine xblock' rfl ?_;refine k_ 2 ?_;refine xblock' rfl ?_;refine xblock' rfl ?_;refine k_ 2 ?_;refine xblock' rfl ?_;refine k_ 1 ?_;refine nnext ⟨(o ++ [(x, y)], (x + 1, y + 1), (A70, c70)), hch.snoc hpos hnp⟩ (by have := next_cmn hc; dsimp only; omega) (wk0 Φ Ω)
      ·intro h64;have hc : ¬ Cand l m u k x y := fun c => by have h := h64; rw [tf0, tf0, c.n] at h; simp at h
       refine k_ 8 ?_;refine nnext ⟨y + 1, by omega, hy1, noneB_y hny hc⟩ (by dsimp only; omega) (wk0 Φ Ω)
     ·
      refine elC (A := A) (l := l) Θ x (List.getElem?_eq_getElem (l := l) hx1) ?_; rintro zba zoa zya hAa;refine elC (A := B) (l := m) Θ y (List.getElem?_eq_getElem (l := m) hy1) ?_; rintro zbb zob zyb hAb;refine cdB [] [(3, zba, zoa + x * Rp.size ByteArray, _), (7, zbb, zob + y * Rp.size ByteArray, _)] TryzX.mixed Ψ Ψ (TOk.t (isInS Θ (k := 0) rfl (z := 1) Δ) (TOk.t (isInS Θ (k := 0) rfl (z := 1) Δ) TOk.d)) ?_;refine t_ 0 2 ?_;refine tkB 2 rfl Ψ Υ gnone (TTany _) (p_ia x hAa hx1 rfl underlying73 sizeOf9 rfl rfl) rfl ?_;refine t_ 3 3 ?_;refine tkB 6 rfl Ψ Υ gnone (TTany _) (p_ia y hAb hy1 rfl underlying73 sizeOf9 rfl rfl) rfl ?_;refine t_ 7 2 ?_;refine fixB (congrArg Value.bool (decide_eq_false heq)) ?_;refine t_ 9 17 ?_;refine dnB Ψ ?_;refine k_ 1 ?_;refine cc rfl (fun h => by cases h) (fun h => ?_);refine k_ 8 ?_;refine nnext ⟨y + 1, by omega, hy1, noneB_y hny (fun c => heq c.eq)⟩ (by dsimp only; omega) (wk0 Φ Ω)
    ·intro h36;(try simp only [nrmZ] at h36);refine k_ 11 ?_;refine nnext ⟨x + 1, by omega, hx1, noneB_x hny (by omega)⟩ (by dsimp only; omega) (wk0 Φ Ω)
   ·intro h29;(try simp only [nrmZ] at h29);refine k_ 5 ?_;exact absurd hpos (noneB_end hnx (by omega))
  ·intro h24;have hzero : cmn l m u k = 0 := (by have h := h24; rw [tf0] at h; simp at h; omega);refine k_ 13 ?_;exact rR [0] ⟨(o, (A6, c6)), (fun h => by rw [h13] at h; cases h), fun _ => ⟨u, k, hch, hzero⟩⟩
theorem c_dHunk (nm : ByteArray) (l m : List ByteArray) (A B : Option Addr) (c c' : Nat) (hl : l.length ≤ 1000000) (hm : m.length ≤ 1000000) (hc : l.length ≤ c) (hc' : m.length ≤ c') (p q : Nat × Nat) (h1 : p.1 ≤ q.1) (h2 : p.2 ≤ q.2) (h3 : q.1 ≤ l.length) (h4 : q.2 ≤ m.length) : Con Tryz.prog 194 [.string nm, .slice A l.length c, .slice B m.length c', .agg #[.int .i64 ((p.1 : Nat) : Int), .int .i64 ((p.2 : Nat) : Int)], .agg #[.int .i64 ((q.1 : Nat) : Int), .int .i64 ((q.2 : Nat) : Int)]] [] [slA A l, slA B m] (Rp.Lay Prim) (fun y => .tuple #[sv (hunkP nm l m p q) y, .bool (decide (p.1 < q.1 ∨ p.2 < q.2))]) (fun _ => []) (fun y => Rp.asn (hunkP nm l m p q) y) := by
 refine con func194 rfl ntmps194 rfl ?_;intro M0 F0 w0;refine k_ 2 ?_;refine ls (o_box rfl rfl rfl) ?_;refine le ?_; intro b8;refine ls (o_box rfl rfl rfl) ?_;refine le ?_; intro b9;refine ls (o_alloc zeroValue103 rfl rfl) ?_;refine le ?_; intro b10;refine k_ 4 ?_;refine cmono (fun a w h => subS (A := A) (l := l) (l' := (l.drop p.1).take (q.1 - p.1)) (c := c) p.1 q.1 (by repeat (first | exact In.z | apply In.s)) (by omega) (by omega) (by omega) rfl h) ?_;refine cmono (fun a w h => subS (A := B) (l := m) (l' := (m.drop p.2).take (q.2 - p.2)) (c := c') p.2 q.2 (by repeat (first | exact In.z | apply In.s)) (by omega) (by omega) (by omega) rfl h) ?_;refine cdB [9, 16, 18, 19] [(2, b8, 1, _), (5, b8, 0, _), (7, b9, 0, _), (12, b8, 1, _), (14, b9, 1, _)] TryzX.mixed Ψ Ψ (tB 1 (tB 1 (tB 1 (tB 1 (tB 1 TOk.d))))) ?_;refine t_ 0 8 ?_;refine tkB 8 rfl Ψ Υ gnone (TTany _) (p_sl p.1 q.1 (by omega) (by omega) rfl rfl underlying73 sizeOf9 rfl rfl rfl) rfl ?_;refine fixB (slen (m' := ((l.drop p.1).take (q.1 - p.1)).length) (by rw [List.length_take, List.length_drop]; omega)) ?_;refine t_ 10 5 ?_;refine tkB 15 rfl Ψ Υ gnone (TTany _) (p_sl p.2 q.2 (by omega) (by omega) rfl rfl underlying73 sizeOf9 rfl rfl rfl) rfl ?_;refine fixB (slen (m' := ((m.drop p.2).take (q.2 - p.2)).length) (by rw [List.length_take, List.length_drop]; omega)) ?_;refine dallB (is := [9, 18]) Ψ rfl ?_;intro i hi; simp only [List.mem_cons, List.mem_nil_iff, or_false] at hi; rcases hi with rfl | rfl
 ·
  refine doRB rfl (o_call (is := []) call165 (c_sClone ((l.drop p.1).take (q.1 - p.1)) (if c = p.1 then A else A.map (·.add (p.1 * Rp.size ByteArray))) (c - p.1) (by rw [List.length_take, List.length_drop]; omega)) rfl rfl Ω rfl) (TOk.t (isBoxE fun _ => isBoxS Θ (k := 1) Δ) (TOk.xP 9 [8] Ψ (TOk.xP 9 [8] Ψ (TOk.t (isBoxE fun _ => isBoxS Θ (k := 1) Δ) (TOk.t (isBoxE fun _ => isBoxS Θ (k := 1) Δ) TOk.d))))) ?_;refine eaB ?_; rintro ⟨A22, c22⟩;refine dallB (is := [16, 18]) Ψ rfl ?_;intro i hi; simp only [List.mem_cons, List.mem_nil_iff, or_false] at hi; rcases hi with rfl | rfl
  ·
   refine doRB rfl (o_call (is := []) call165 (c_sClone ((m.drop p.2).take (q.2 - p.2)) (if c' = p.2 then B else B.map (·.add (p.2 * Rp.size ByteArray))) (c' - p.2) (by rw [List.length_take, List.length_drop]; omega)) rfl rfl Ω rfl) (TOk.t (isBoxE fun _ => isBoxS Θ (k := 1) Δ) (TOk.xP 9 [8] Ψ (TOk.xP 9 [8] Ψ (TOk.xP 16 [15] Ψ (TOk.xP 16 [15] Ψ TOk.d))))) ?_;refine eaB ?_; rintro ⟨A29, c29⟩;refine t_ 17 1 ?_;refine dfB 18 Ψ ?_;refine doRB rfl (o_alloc zeroValue103 rfl rfl) (TOk.t (isBoxE fun _ => isBoxS Θ (k := 1) Δ) (TOk.xP 9 [8] Ψ (TOk.xP 9 [8] Ψ (TOk.xP 16 [15] Ψ (TOk.xP 16 [15] Ψ TOk.d))))) ?_;refine eaB ?_; intro b12;refine dfB 19 Ψ ?_;refine doRB rfl (o_st rfl sizeOf103 rfl rfl rfl rfl rfl Θ Θ Θ) (TOk.xP 19 [] Ψ (TOk.xP 9 [8] Ψ (TOk.xP 9 [8] Ψ (TOk.xP 16 [15] Ψ (TOk.xP 16 [15] Ψ TOk.d))))) ?_;refine dnB Ψ ?_;refine k_ 2 ?_;refine cdB [9] [(0, b12, 0, _), (2, b12, 4, _), (5, b12, 5, _)] TryzX.mixed Ψ Ψ (tB 6 (tB 1 (tB 1 TOk.d))) ?_;refine t_ 0 7 ?_;refine tkB 7 rfl Ψ Υ gnone (TTany _) (p_add rfl rfl (by rw [List.length_take, List.length_take, List.length_drop, List.length_drop]; omega)) rfl ?_;refine t_ 8 1 ?_;refine dfB 9 Ψ ?_;refine doRB rfl (o_st rfl sizeOf103 rfl rfl rfl rfl rfl Θ Θ Θ) (TOk.xP 9 [] Ψ (tB 1 (tB 1 TOk.d))) ?_;refine t_ 10 1 ?_;refine dnB Ψ ?_;refine k_ 3 ?_;refine rret (is := []) ((A22, c22), (A29, c29)) (Or.inl rfl) (Res.c rfl isAgg103 sizeOf103 Θ (by rfl) (Res.t rfl Res.d)) ?_ rfl Ω;simp only [packV]; rw [hunk_some h1 h2 h3 h4]; rfl
  ·
   refine doRB rfl (o_alloc zeroValue103 rfl rfl) (TOk.t (isBoxE fun _ => isBoxS Θ (k := 1) Δ) (TOk.xP 9 [8] Ψ (TOk.xP 9 [8] Ψ (TOk.t (isBoxE fun _ => isBoxS Θ (k := 1) Δ) (TOk.t (isBoxE fun _ => isBoxS Θ (k := 1) Δ) TOk.d))))) ?_;refine eaB ?_; intro b12;refine dfB 16 Ψ ?_;refine doRB rfl (o_call (is := []) call165 (c_sClone ((m.drop p.2).take (q.2 - p.2)) (if c' = p.2 then B else B.map (·.add (p.2 * Rp.size ByteArray))) (c' - p.2) (by rw [List.length_take, List.length_drop]; omega)) rfl rfl Ω rfl) (TOk.t (isBoxE fun _ => isBoxS Θ (k := 1) Δ) (TOk.xP 9 [8] Ψ (TOk.xP 9 [8] Ψ (TOk.xP 16 [15] Ψ (TOk.xP 16 [15] Ψ TOk.d))))) ?_;refine eaB ?_; rintro ⟨A29, c29⟩;refine t_ 17 1 ?_;refine dfB 19 Ψ ?_;refine doRB rfl (o_st rfl sizeOf103 rfl rfl rfl rfl rfl Θ Θ Θ) (TOk.xP 19 [] Ψ (TOk.xP 9 [8] Ψ (TOk.xP 9 [8] Ψ (TOk.xP 16 [15] Ψ (TOk.xP 16 [15] Ψ TOk.d))))) ?_;refine dnB Ψ ?_;refine k_ 2 ?_;refine cdB [9] [(0, b12, 0, _), (2, b12, 4, _), (5, b12, 5, _)] TryzX.mixed Ψ Ψ (tB 6 (tB 1 (tB 1 TOk.d))) ?_;refine t_ 0 7 ?_;refine tkB 7 rfl Ψ Υ gnone (TTany _) (p_add rfl rfl (by rw [List.length_take, List.length_take, List.length_drop, List.length_drop]; omega)) rfl ?_;refine t_ 8 1 ?_;refine dfB 9 Ψ ?_;refine doRB rfl (o_st rfl sizeOf103 rfl rfl rfl rfl rfl Θ Θ Θ) (TOk.xP 9 [] Ψ (tB 1 (tB 1 TOk.d))) ?_;refine t_ 10 1 ?_;refine dnB Ψ ?_;refine k_ 3 ?_;refine rret (is := []) ((A22, c22), (A29, c29)) (Or.inl rfl) (Res.c rfl isAgg103 sizeOf103 Θ (by rfl) (Res.t rfl Res.d)) ?_ rfl Ω;simp only [packV]; rw [hunk_some h1 h2 h3 h4]; rfl
 ·
  refine doRB rfl (o_alloc zeroValue103 rfl rfl) (TOk.t (isBoxE fun _ => isBoxS Θ (k := 1) Δ) (TOk.t (isBoxE fun _ => isBoxS Θ (k := 1) Δ) (TOk.t (isBoxE fun _ => isBoxS Θ (k := 1) Δ) (TOk.t (isBoxE fun _ => isBoxS Θ (k := 1) Δ) (TOk.t (isBoxE fun _ => isBoxS Θ (k := 1) Δ) TOk.d))))) ?_;refine eaB ?_; intro b12;refine dfB 9 Ψ ?_;refine doRB rfl (o_call (is := []) call165 (c_sClone ((l.drop p.1).take (q.1 - p.1)) (if c = p.1 then A else A.map (·.add (p.1 * Rp.size ByteArray))) (c - p.1) (by rw [List.length_take, List.length_drop]; omega)) rfl rfl Ω rfl) (TOk.t (isBoxE fun _ => isBoxS Θ (k := 1) Δ) (TOk.xP 9 [8] Ψ (TOk.xP 9 [8] Ψ (TOk.t (isBoxE fun _ => isBoxS Θ (k := 1) Δ) (TOk.t (isBoxE fun _ => isBoxS Θ (k := 1) Δ) TOk.d))))) ?_;refine eaB ?_; rintro ⟨A22, c22⟩;refine dfB 16 Ψ ?_;refine doRB rfl (o_call (is := []) call165 (c_sClone ((m.drop p.2).take (q.2 - p.2)) (if c' = p.2 then B else B.map (·.add (p.2 * Rp.size ByteArray))) (c' - p.2) (by rw [List.length_take, List.length_drop]; omega)) rfl rfl Ω rfl) (TOk.t (isBoxE fun _ => isBoxS Θ (k := 1) Δ) (TOk.xP 9 [8] Ψ (TOk.xP 9 [8] Ψ (TOk.xP 16 [15] Ψ (TOk.xP 16 [15] Ψ TOk.d))))) ?_;refine eaB ?_; rintro ⟨A29, c29⟩;refine t_ 17 1 ?_;refine dfB 19 Ψ ?_;refine doRB rfl (o_st rfl sizeOf103 rfl rfl rfl rfl rfl Θ Θ Θ) (TOk.xP 19 [] Ψ (TOk.xP 9 [8] Ψ (TOk.xP 9 [8] Ψ (TOk.xP 16 [15] Ψ (TOk.xP 16 [15] Ψ TOk.d))))) ?_;refine dnB Ψ ?_;refine k_ 2 ?_;refine cdB [9] [(0, b12, 0, _), (2, b12, 4, _), (5, b12, 5, _)] TryzX.mixed Ψ Ψ (tB 6 (tB 1 (tB 1 TOk.d))) ?_;refine t_ 0 7 ?_;refine tkB 7 rfl Ψ Υ gnone (TTany _) (p_add rfl rfl (by rw [List.length_take, List.length_take, List.length_drop, List.length_drop]; omega)) rfl ?_;refine t_ 8 1 ?_;refine dfB 9 Ψ ?_;refine doRB rfl (o_st rfl sizeOf103 rfl rfl rfl rfl rfl Θ Θ Θ) (TOk.xP 9 [] Ψ (tB 1 (tB 1 TOk.d))) ?_;refine t_ 10 1 ?_;refine dnB Ψ ?_;refine k_ 3 ?_;refine rret (is := []) ((A22, c22), (A29, c29)) (Or.inl rfl) (Res.c rfl isAgg103 sizeOf103 Θ (by rfl) (Res.t rfl Res.d)) ?_ rfl Ω;simp only [packV]; rw [hunk_some h1 h2 h3 h4]; rfl
end Go.Proofs.YtbhnolfcdcpbkaaGreatDoor.X
end
