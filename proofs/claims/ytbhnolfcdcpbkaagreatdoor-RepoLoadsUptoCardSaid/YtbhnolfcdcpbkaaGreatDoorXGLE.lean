/- OWN WORK: a part of the proof of a law of the seat YtbhnolfcdcpbkaaGreatDoor: the rules by which the code is walked, what the functions compute, and the walk through them. -/
import Derived.Test.YtbhnolfcdcpbkaaGreatDoorXGLD
import Derived.Test.YtbhnolfcdcpbkaaGreatDoorXGLB
import Derived.Test.YtbhnolfcdcpbkaaGreatDoorProg
import Derived.Test.YtbhnolfcdcpbkaaGreatDoorXGLA
import Derived.Deep.LoopGhost
import Derived.Test.YtbhnolfcdcpbkaaGreatDoorXGLC
set_option linter.unusedVariables false
set_option linter.unusedSimpArgs false
section
namespace Go.Proofs.YtbhnolfcdcpbkaaGreatDoor.X
open Go Go.RowKit Go.Proofs Go.Sx
/-! A repository: the log, what is pending, and shelves. -/
/-! what is brought ahead -/
theorem splK_fit (W : Nat → Bool) (l : List Prim) (hl : ∀ x ∈ l, x.fit) : ∀ (k : Nat), k ≤ l.length → (∀ x ∈ (splK W l k).1, x.fit) ∧ ∀ x ∈ (splK W l k).2, x.fit := by
 intro k
 induction k with
 | zero => intro _; exact ⟨fun x hx => (by cases hx), fun x hx => (by cases hx)⟩
 | succ k ih =>
  intro hk;have ih := ih (by omega);have h1 : ∀ x ∈ [l[k]], x.fit := fun x hx => by rw [List.mem_singleton.1 hx]; exact hl _ (List.getElem_mem _)
  rw [splK, List.getElem?_eq_getElem (by omega)];dsimp only
  split
  ·have h2 := swT_fit (l := (splK W l k).2) (m := [l[k]]) rfl ih.2 h1;exact ⟨fun x hx => (List.mem_append.1 hx).elim (ih.1 x) (h2.1 x), h2.2⟩
  ·exact ⟨ih.1, fun x hx => (List.mem_append.1 hx).elim (ih.2 x) (h1 x)⟩
theorem splK_lns (W : Nat → Bool) (l : List Prim) : ∀ (k : Nat), k ≤ l.length → lns (splK W l k).1 + lns (splK W l k).2 = lns (l.take k) := by
 intro k
 induction k with
 | zero => intro _; rfl
 | succ k ih =>
  intro hk;have ih := ih (by omega);rw [List.take_succ_eq_append_getElem (by omega), lns_app, ← ih, splK, List.getElem?_eq_getElem (by omega)];dsimp only
  split
  ·rename_i hc
   simp only [Bool.and_eq_true] at hc;have h2 := swT_lns (l := (splK W l k).2) (m := [l[k]]) (f := (swT (splK W l k).2 [l[k]]).1) (s := (swT (splK W l k).2 [l[k]]).2.1) (by rw [← hc.2]);dsimp only;rw [lns_app, h2.1, h2.2]; omega
  ·dsimp only; rw [lns_app]; omega
theorem splK_congr {W W' : Nat → Bool} {l : List Prim} : ∀ (n : Nat), (∀ k, k < n → W k = W' k) → splK W l n = splK W' l n := by
 intro n
 induction n with
 | zero => intro _; rfl
 | succ n ih =>
  intro h;rw [splK, splK, ih (fun k hk => h k (by omega)), h n (by omega)]
structure RS where
 log : List Patch
 pend : List Prim
 shv : List Sh.File
def treeR (s : RS) : List File := (rowT (treeP s.log) s.pend).1
def wantP (files : List ByteArray) (p : Prim) : Bool := decide (files.length = 0) || files.any fun f => (refNames p).any fun n => decide (n = f)
def spW (l : List Prim) (files : List ByteArray) (t : Bool) (k : Nat) : Bool := match l[k]? with
 | some p => wantP files p != t
 | none => false
def splR (l : List Prim) (files : List ByteArray) (t : Bool) : List Prim × List Prim := splK (spW l files t) l l.length
def rChange (s : RS) (l : List Prim) : RS × Int := if (rowT (treeR s) l).2 = 0 then (⟨s.log, s.pend ++ l, s.shv⟩, 0) else (s, (rowT (treeR s) l).2)
def rRecord (s : RS) (p : Patch) (files : List ByteArray) : RS × Int :=
 if (splR s.pend files false).1 = [] then (s, 141) else
 if (addD s.log { p with l := (splR s.pend files false).1 }).2 = 0 then (⟨(addD s.log { p with l := (splR s.pend files false).1 }).1, (splR s.pend files false).2, s.shv⟩, 0)
 else (s, (addD s.log { p with l := (splR s.pend files false).1 }).2)
def moreP (l : List Patch) (F : List Prim) : Patch := { l.getLastD Patch.zero with l := (l.getLastD Patch.zero).l ++ F }
def rAmend (s : RS) (id : Int) (files : List ByteArray) : RS × Int :=
 if ¬ (lastP s.log id).2 = 0 then (s, (lastP s.log id).2) else
 if (splR s.pend files false).1 = [] then (s, 141) else
 if (addD (lastP s.log id).1.dropLast (moreP (lastP s.log id).1 (splR s.pend files false).1)).2 = 0 then (⟨(addD (lastP s.log id).1.dropLast (moreP (lastP s.log id).1 (splR s.pend files false).1)).1, (splR s.pend files false).2, s.shv⟩, 0)
 else (s, (addD (lastP s.log id).1.dropLast (moreP (lastP s.log id).1 (splR s.pend files false).1)).2)
def rUnrec (s : RS) (id : Int) : RS × Int :=
 if ¬ (lastP s.log id).2 = 0 then (s, (lastP s.log id).2) else (⟨(lastP s.log id).1.dropLast, ((lastP s.log id).1.getLastD Patch.zero).l ++ s.pend, s.shv⟩, 0)
def rRevert (s : RS) (files : List ByteArray) : (RS × List Prim) × Int :=
 if (splR s.pend files true).2 = [] then ((s, []), 141) else ((⟨s.log, (splR s.pend files true).1, s.shv⟩, invL (splR s.pend files true).2), 0)
def rShelve (s : RS) (nm : ByteArray) (files : List ByteArray) : (RS × List Prim) × Int :=
 if nameOk nm = false ∨ hasT s.shv nm = true ∨ 3 ≤ s.shv.length then ((s, []), 140) else
 if (splR s.pend files true).2 = [] then ((s, []), 141) else
 ((⟨s.log, (splR s.pend files true).1, putT s.shv nm (splR s.pend files true).2⟩, invL (splR s.pend files true).2), 0)
def rUnshelve (s : RS) (nm : ByteArray) : (RS × List Prim) × Int :=
 if hasT s.shv nm = false then ((s, []), 140) else
 if (rowT (treeR s) (getL s.shv nm)).2 = 0 then ((⟨s.log, s.pend ++ getL s.shv nm, delT s.shv nm⟩, getL s.shv nm), 0) else ((s, []), (rowT (treeR s) (getL s.shv nm)).2)
def shz (S : List Sh.File) : Nat := (S.map fun x => lns x.2).sum
def shy (S : List Sh.File) : Nat := (S.map fun x => x.2.length).sum
structure RepI (m n : Nat) (s : RS) : Prop where
 log : LogI m n s.log (treeP s.log)
 runs : Runs (treeP s.log) s.pend (treeR s)
 fit : ∀ x ∈ s.pend, x.fit
 so : Sor s.shv
 sfit : ∀ x ∈ s.shv, nameOk x.1 = true ∧ x.2 ≠ [] ∧ ∀ p ∈ x.2, p.fit
 c3 : s.shv.length ≤ 3
 z : lns (pl s.log) + lns s.pend + shz s.shv ≤ m
 y : (pl s.log).length + s.pend.length + shy s.shv ≤ n
theorem LogI.tight {m n m' n' : Nat} {l : List Patch} {T : List File} (h : LogI m' n' l T) (hz : lns (pl l) ≤ m) (hy : (pl l).length ≤ n) : LogI m n l T := ⟨h.ok, h.d, hz, hy⟩
theorem rowT_yes {T : List File} {l : List Prim} (h : (rowT T l).2 = 0) : Runs T l (rowT T l).1 := rowT_runs (Prod.ext rfl h)
theorem rowT_stay {T : List File} {l : List Prim} (h : ¬ (rowT T l).2 = 0) : (rowT T l).1 = T := rowT_no (e := (rowT T l).2) rfl h
theorem RepI.app {m n : Nat} {s : RS} (h : RepI m n s) : AppInv (m + m) (n + n) (treeR s) :=
 inv_mono (runs_inv h.runs h.log.app) (by have := news_lns s.pend; have := h.z; omega) (by have := h.y; omega)
theorem treeR_of {s : RS} {U : List File} (h : Runs (treeP s.log) s.pend U) : treeR s = U := by unfold treeR; rw [rowT_ok h]
theorem RepI.nil : RepI 0 0 ⟨[], [], []⟩ := ⟨LogI.nil, rfl, (fun x hx => by cases hx), Sor.nil, (fun x hx => by cases hx), Nat.zero_le _, Nat.le_refl _, Nat.le_refl _⟩
theorem RepI.mono {m n m' n' : Nat} {s : RS} (h : RepI m n s) (hm : m ≤ m') (hn : n ≤ n') : RepI m' n' s := ⟨h.log.mono hm hn, h.runs, h.fit, h.so, h.sfit, h.c3, Nat.le_trans h.z hm, Nat.le_trans h.y hn⟩
/-! Change -/
theorem RepI.change {m n : Nat} {s : RS} (h : RepI m n s) {l : List Prim} (hl : ∀ x ∈ l, x.fit) : RepI (m + lns l) (n + l.length) (rChange s l).1 ∧ treeR (rChange s l).1 = (rowT (treeR s) l).1 ∧ (rChange s l).2 = (rowT (treeR s) l).2 := by
 unfold rChange
 by_cases h0 : (rowT (treeR s) l).2 = 0
 ·rw [if_pos h0];have h1 := rowT_yes h0;have h2 : Runs (treeP s.log) (s.pend ++ l) (rowT (treeR s) l).1 := runs_app.2 ⟨_, h.runs, h1⟩;have h3 : treeR ⟨s.log, s.pend ++ l, s.shv⟩ = (rowT (treeR s) l).1 := treeR_of h2;refine ⟨⟨h.log.mono (by omega) (by omega), by rw [h3]; exact h2, fun x hx => (List.mem_append.1 hx).elim (h.fit x) (hl x), h.so, h.sfit, h.c3, ?_, ?_⟩, h3, h0.symm⟩
  ·have := h.z; dsimp only; rw [lns_app]; omega
  ·have := h.y; dsimp only; rw [List.length_append]; omega
 ·rw [if_neg h0];exact ⟨h.mono (by omega) (by omega), (rowT_stay h0).symm, rfl⟩
/-! Record -/
theorem addD_ok {l : List Patch} {q : Patch} (h : (addD l q).2 = 0) : addD l q = (l ++ [q], 0) ∧ (rowT (treeP l) q.l).2 = 0 := by
 unfold addD at h ⊢
 by_cases h1 : q.right = false
 ·rw [if_pos h1] at h; exact absurd h (by simp)
 rw [if_neg h1] at h ⊢
 by_cases h2 : 0 ≤ atP l q.id
 ·rw [if_pos h2] at h; exact absurd h (by simp)
 rw [if_neg h2] at h ⊢
 by_cases h3 : (q.deps.any fun d => decide (atP l d < 0)) = true
 ·rw [if_pos h3] at h; exact absurd h (by simp)
 rw [if_neg h3] at h ⊢
 by_cases h4 : (rowT (treeP l) q.l).2 = 0
 ·rw [if_pos h4]; exact ⟨rfl, h4⟩
 ·rw [if_neg h4] at h; exact absurd h h4
theorem addD_no {l : List Patch} {q : Patch} (h : ¬ (addD l q).2 = 0) : (addD l q).1 = l := by
 unfold addD at h ⊢
 by_cases h1 : q.right = false
 ·rw [if_pos h1]
 rw [if_neg h1] at h ⊢
 by_cases h2 : 0 ≤ atP l q.id
 ·rw [if_pos h2]
 rw [if_neg h2] at h ⊢
 by_cases h3 : (q.deps.any fun d => decide (atP l d < 0)) = true
 ·rw [if_pos h3]
 rw [if_neg h3] at h ⊢
 by_cases h4 : (rowT (treeP l) q.l).2 = 0
 ·rw [if_pos h4] at h; exact absurd rfl h
 ·rw [if_neg h4]
structure SplI (T U : List File) (l F R : List Prim) : Prop where
 runs : ∃ M, Runs T F M ∧ Runs M R U
 ff : ∀ x ∈ F, x.fit
 fr : ∀ x ∈ R, x.fit
 z : lns F + lns R = lns l
 y : F.length + R.length = l.length
theorem splR_ok {T U : List File} {l : List Prim} (hS : Sor T) (hr : Runs T l U) (hf : ∀ x ∈ l, x.fit) (files : List ByteArray) (t : Bool) : SplI T U l (splR l files t).1 (splR l files t).2 := by
 have h1 := splK_runs (spW l files t) l hS l.length (Nat.le_refl _) (U := U) (by rw [List.take_length]; exact hr);have h2 := splK_fit (spW l files t) l hf l.length (Nat.le_refl _);have h3 := splK_lns (spW l files t) l l.length (Nat.le_refl _);rw [List.take_length] at h3;exact ⟨runs_app.1 h1, h2.1, h2.2, h3, splK_len _ _ _ (Nat.le_refl _)⟩
theorem RepI.split {m n : Nat} {s : RS} (h : RepI m n s) (files : List ByteArray) (t : Bool) : SplI (treeP s.log) (treeR s) s.pend (splR s.pend files t).1 (splR s.pend files t).2 := splR_ok h.log.good.1 h.runs h.fit files t
theorem lns_plsnoc (l : List Patch) (q : Patch) : lns (pl (l ++ [q])) = lns (pl l) + lns q.l := by rw [pl_app, pl_one, lns_app]
theorem len_plsnoc (l : List Patch) (q : Patch) : (pl (l ++ [q])).length = (pl l).length + q.l.length := by rw [pl_app, pl_one, List.length_append]
theorem RepI.record {m n : Nat} {s : RS} (h : RepI m n s) {p : Patch} (hp : p.note.size ≤ 2000000 ∧ p.deps.length ≤ 2000000) (hn : n ≤ 2000000) (files : List ByteArray) : RepI m n (rRecord s p files).1 ∧ treeR (rRecord s p files).1 = treeR s := by
 have hs := h.split files false;unfold rRecord
 by_cases h1 : (splR s.pend files false).1 = []
 ·rw [if_pos h1]; exact ⟨h, rfl⟩
 rw [if_neg h1]
 by_cases h2 : (addD s.log { p with l := (splR s.pend files false).1 }).2 = 0
 ·rw [if_pos h2];have hy := h.y; have hsy := hs.y; have hz := h.z; have hsz := hs.z;have hq : ({ p with l := (splR s.pend files false).1 } : Patch).fit := ⟨hp.1, hp.2, by dsimp only; omega, hs.ff⟩;obtain ⟨e1, e2⟩ := addD_ok h2;have hL := (h.log.addP hq).2.2;rw [e1] at hL ⊢;obtain ⟨M, r1, r2⟩ := hs.runs;have hM : treeP (s.log ++ [{ p with l := (splR s.pend files false).1 }]) = M := by rw [treeP_snoc]; dsimp only; rw [rowT_ok r1]
  have hT : treeR ⟨s.log ++ [{ p with l := (splR s.pend files false).1 }], (splR s.pend files false).2, s.shv⟩ = treeR s := treeR_of (by rw [hM]; exact r2);refine ⟨⟨?_, by rw [hT, hM]; exact r2, hs.fr, h.so, h.sfit, h.c3, ?_, ?_⟩, hT⟩
  ·refine (hL.self).tight ?_ ?_
   ·rw [lns_plsnoc]; dsimp only; omega
   ·rw [len_plsnoc]; dsimp only; omega
  ·dsimp only; rw [lns_plsnoc]; dsimp only; omega
  ·dsimp only; rw [len_plsnoc]; dsimp only; omega
 ·rw [if_neg h2]; exact ⟨h, rfl⟩
/-! Amend, Unrecord -/
structure LastI (m n : Nat) (l : List Patch) (L : List Patch) : Prop where
 ex : ∃ U, LogI m n L.dropLast U ∧ Runs U (L.getLastD Patch.zero).l (treeP l)
 fit : (L.getLastD Patch.zero).fit
 eq : L.dropLast ++ [L.getLastD Patch.zero] = L
 z : lns (pl L.dropLast) + lns (L.getLastD Patch.zero).l = lns (pl l)
 y : (pl L.dropLast).length + (L.getLastD Patch.zero).l.length = (pl l).length
theorem LogI.lastI {m n : Nat} {l : List Patch} (h : LogI m n l (treeP l)) {v : Int} (h0 : (lastP l v).2 = 0) : LastI m n l (lastP l v).1 := by
 obtain ⟨s, b, e, _⟩ := lastP_id (l := l) (l' := (lastP l v).1) (v := v) (Prod.ext rfl h0);have hL := h.last v;have hw := (lastP_swp l v).swr.lns;rw [e] at hL hw ⊢;have e1 : (s ++ [b]).dropLast = s := by simp
 have e2 : (s ++ [b]).getLastD Patch.zero = b := by simp
 obtain ⟨U, h1, h2⟩ := hL.sub;rw [pl_one] at h2;refine ⟨⟨U, by rw [e1]; exact h1, by rw [e2]; exact h2⟩, by rw [e2]; exact hL.ok.fit b (by simp), by rw [e1, e2], ?_, ?_⟩
 ·rw [e1, e2, ← lns_plsnoc]; exact hw.1
 ·rw [e1, e2, ← len_plsnoc]; exact hw.2
theorem RepI.unrec {m n : Nat} {s : RS} (h : RepI m n s) (id : Int) : RepI m n (rUnrec s id).1 ∧ treeR (rUnrec s id).1 = treeR s := by
 unfold rUnrec
 by_cases h0 : (lastP s.log id).2 = 0
 ·rw [if_neg (by simp [h0])];have hl := h.log.lastI h0;obtain ⟨U, h1, h2⟩ := hl.ex;have hU := h1.tree;have hr : Runs (treeP (lastP s.log id).1.dropLast) (((lastP s.log id).1.getLastD Patch.zero).l ++ s.pend) (treeR s) := by rw [hU]; exact runs_app.2 ⟨_, h2, h.runs⟩
  have hT : treeR ⟨(lastP s.log id).1.dropLast, ((lastP s.log id).1.getLastD Patch.zero).l ++ s.pend, s.shv⟩ = treeR s := treeR_of hr;have hz := hl.z; have hy := hl.y; have hz' := h.z; have hy' := h.y;refine ⟨⟨h1.self.tight (by omega) (by omega), by rw [hT]; exact hr, fun x hx => (List.mem_append.1 hx).elim (hl.fit.lf x) (h.fit x), h.so, h.sfit, h.c3, ?_, ?_⟩, hT⟩
  ·dsimp only; rw [lns_app]; omega
  ·dsimp only; rw [List.length_append]; omega
 ·rw [if_pos h0]; exact ⟨h, rfl⟩
theorem RepI.amend {m n : Nat} {s : RS} (h : RepI m n s) (hn : n ≤ 2000000) (id : Int) (files : List ByteArray) : RepI m n (rAmend s id files).1 ∧ treeR (rAmend s id files).1 = treeR s := by
 have hs := h.split files false;unfold rAmend
 by_cases h0 : (lastP s.log id).2 = 0
 ·rw [if_neg (by simp [h0])]
  by_cases h1 : (splR s.pend files false).1 = []
  ·rw [if_pos h1]; exact ⟨h, rfl⟩
  rw [if_neg h1]
  by_cases h2 : (addD (lastP s.log id).1.dropLast (moreP (lastP s.log id).1 (splR s.pend files false).1)).2 = 0
  ·rw [if_pos h2];have hl := h.log.lastI h0;obtain ⟨U, k1, k2⟩ := hl.ex;have hz := hl.z; have hy := hl.y; have hz' := h.z; have hy' := h.y; have hsy := hs.y; have hsz := hs.z;have hq : (moreP (lastP s.log id).1 (splR s.pend files false).1).fit := ⟨hl.fit.nb, hl.fit.dl, by unfold moreP; dsimp only; rw [List.length_append]; omega, fun x hx => (List.mem_append.1 hx).elim (hl.fit.lf x) (hs.ff x)⟩;obtain ⟨e1, e2⟩ := addD_ok h2;have hL := (k1.addP hq).2.2;rw [e1] at hL ⊢;obtain ⟨M, r1, r2⟩ := hs.runs;have hU := k1.tree;have hM : treeP ((lastP s.log id).1.dropLast ++ [moreP (lastP s.log id).1 (splR s.pend files false).1]) = M := by
    rw [treeP_snoc, hU];unfold moreP;dsimp only;rw [rowT_ok (runs_app.2 ⟨_, k2, r1⟩)]
   have hT : treeR ⟨(lastP s.log id).1.dropLast ++ [moreP (lastP s.log id).1 (splR s.pend files false).1], (splR s.pend files false).2, s.shv⟩ = treeR s := treeR_of (by rw [hM]; exact r2);have hml : (moreP (lastP s.log id).1 (splR s.pend files false).1).l = ((lastP s.log id).1.getLastD Patch.zero).l ++ (splR s.pend files false).1 := rfl;refine ⟨⟨?_, by rw [hT, hM]; exact r2, hs.fr, h.so, h.sfit, h.c3, ?_, ?_⟩, hT⟩
   ·refine (hL.self).tight ?_ ?_
    ·rw [lns_plsnoc, hml, lns_app]; omega
    ·rw [len_plsnoc, hml, List.length_append]; omega
   ·dsimp only; rw [lns_plsnoc, hml, lns_app]; omega
   ·dsimp only; rw [len_plsnoc, hml, List.length_append]; omega
  ·rw [if_neg h2]; exact ⟨h, rfl⟩
 ·rw [if_pos h0]; exact ⟨h, rfl⟩
/-! Revert, Shelve, Unshelve -/
theorem shz_del {S : List Sh.File} (hS : Sor S) {k : ByteArray} {l : List Prim} (h : getT S k = some l) : shz (delT S k) + lns l = shz S ∧ shy (delT S k) + l.length = shy S := by
 induction S with
 | nil => simp [getT] at h
 | cons x S ih =>
  obtain ⟨h1, h2⟩ := List.pairwise_cons.1 hS
  by_cases hx : x.1 = k
  ·have e : x.2 = l := by
    unfold getT at h;rw [List.find?_cons_of_pos (by simpa using hx)] at h
    simpa using h
   have ed : delT (x :: S) k = S := by
    unfold delT;rw [List.filter_cons_of_neg (by simpa using hx), List.filter_eq_self];intro y hy;have := h1 y hy;simp only [decide_eq_true_eq];rw [← hx];exact fun e => kl_ne this e.symm
   rw [ed];unfold shz shy;simp only [List.map_cons, List.sum_cons, e];omega
  ·have h' : getT S k = some l := by
    unfold getT at h ⊢
    rwa [List.find?_cons_of_neg (by simpa using hx)] at h
   have ed : delT (x :: S) k = x :: delT S k := by
    unfold delT;rw [List.filter_cons_of_pos (by simpa using hx)]
   have := ih h2 h';rw [ed];unfold shz shy at this ⊢;simp only [List.map_cons, List.sum_cons];omega
theorem del_none {S : List Sh.File} {k : ByteArray} (h : hasT S k = false) : delT S k = S := by
 unfold delT;rw [List.filter_eq_self];intro x hx;simp only [decide_eq_true_eq];have : getT S k = none := by unfold hasT at h; simpa using h
 exact getT_none.1 this x hx
theorem filt_two (S : List Sh.File) (k : ByteArray) (hk : ∀ x ∈ S, x.1 ≠ k) (f : Sh.File → Nat) : ((S.filter fun x => decide (kl x.1 k)).map f).sum + ((S.filter fun x => decide (kl k x.1)).map f).sum = (S.map f).sum := by
 induction S with
 | nil => rfl
 | cons x S ih =>
  have ih := ih (fun y hy => hk y (by simp [hy]))
  by_cases h1 : kl x.1 k
  ·have h2 : ¬ kl k x.1 := fun h2 => absurd (kl_trans h1 h2) (kl_irrefl _);rw [List.filter_cons_of_pos (by simpa using h1), List.filter_cons_of_neg (by simpa using h2)];simp only [List.map_cons, List.sum_cons]; omega
  ·have h2 : kl k x.1 := Classical.byContradiction fun h2 => hk x (by simp) (kl_tri h1 h2);rw [List.filter_cons_of_neg (by simpa using h1), List.filter_cons_of_pos (by simpa using h2)];simp only [List.map_cons, List.sum_cons]; omega
theorem put_sum {S : List Sh.File} {k : ByteArray} {l : List Prim} (h : hasT S k = false) (f : Sh.File → Nat) : ((putT S k l).map f).sum = (S.map f).sum + f (k, l) := by
 have hk : ∀ x ∈ S, x.1 ≠ k := getT_none.1 (by unfold hasT at h; simpa using h);unfold putT;rw [del_none h, List.map_append, List.sum_append, List.map_cons, List.sum_cons];have e : ∀ a b c d : Nat, a + b = c → a + (d + b) = c + d := by omega
 exact e _ _ _ _ (filt_two S k hk f)
theorem RepI.revert {m n : Nat} {s : RS} (h : RepI m n s) (files : List ByteArray) : RepI m n (rRevert s files).1.1 ∧ (∀ p ∈ (rRevert s files).1.2, p.fit) ∧ ((rRevert s files).2 = 0 → rowT (treeR s) (rRevert s files).1.2 = (treeR (rRevert s files).1.1, 0)) := by
 have hs := h.split files true;unfold rRevert
 by_cases h1 : (splR s.pend files true).2 = []
 ·rw [if_pos h1]; exact ⟨h, (fun x hx => by cases hx), fun h => absurd h (by simp)⟩
 rw [if_neg h1];obtain ⟨M, r1, r2⟩ := hs.runs;have hT : treeR ⟨s.log, (splR s.pend files true).1, s.shv⟩ = M := treeR_of r1;have hz := h.z; have hy := h.y; have hsz := hs.z; have hsy := hs.y;refine ⟨⟨h.log, by rw [hT]; exact r1, hs.ff, h.so, h.sfit, h.c3, by dsimp only; omega, by dsimp only; omega⟩, invL_fit hs.fr, fun _ => ?_⟩;rw [hT];exact rowT_ok (runs_back (runs_sor r1 h.log.good.1) (runs_good r1 h.log.good.2) r2)
theorem RepI.shelve {m n : Nat} {s : RS} (h : RepI m n s) (nm : ByteArray) (files : List ByteArray) : RepI m n (rShelve s nm files).1.1 ∧ (∀ p ∈ (rShelve s nm files).1.2, p.fit) ∧ ((rShelve s nm files).2 = 0 → rowT (treeR s) (rShelve s nm files).1.2 = (treeR (rShelve s nm files).1.1, 0)) := by
 have hs := h.split files true;unfold rShelve
 by_cases h0 : nameOk nm = false ∨ hasT s.shv nm = true ∨ 3 ≤ s.shv.length
 ·rw [if_pos h0]; exact ⟨h, (fun x hx => by cases hx), fun h => absurd h (by simp)⟩
 rw [if_neg h0]
 by_cases h1 : (splR s.pend files true).2 = []
 ·rw [if_pos h1]; exact ⟨h, (fun x hx => by cases hx), fun h => absurd h (by simp)⟩
 rw [if_neg h1];obtain ⟨M, r1, r2⟩ := hs.runs;have hT : treeR ⟨s.log, (splR s.pend files true).1, putT s.shv nm (splR s.pend files true).2⟩ = M := treeR_of r1;have hz := h.z; have hy := h.y; have hsz := hs.z; have hsy := hs.y;have hno : hasT s.shv nm = false := by
  cases e : hasT s.shv nm with
  | false => rfl
  | true => exact absurd (.inr (.inl e)) h0
 have hnm : nameOk nm = true := by
  cases e : nameOk nm with
  | false => exact absurd (.inl e) h0
  | true => rfl
 have e1 := put_sum (l := (splR s.pend files true).2) hno (fun x => lns x.2);have e2 := put_sum (l := (splR s.pend files true).2) hno (fun x => x.2.length);have e3 := put_sum (l := (splR s.pend files true).2) hno (fun _ => 1);simp only [List.map_const', List.sum_replicate_nat] at e3;have h3 : ¬ 3 ≤ s.shv.length := fun e => h0 (.inr (.inr e));refine ⟨⟨h.log, by rw [hT]; exact r1, hs.ff, h.so.put _ _, fun x hx => ?_, by dsimp only; omega, ?_, ?_⟩, invL_fit hs.fr, fun _ => ?_⟩
 ·rcases mem_putT.1 hx with rfl | ⟨hx, _⟩
  ·exact ⟨hnm, h1, hs.fr⟩
  ·exact h.sfit x hx
 ·unfold shz at hz ⊢; dsimp only at e1 ⊢; omega
 ·unfold shy at hy ⊢; dsimp only at e2 ⊢; omega
 ·rw [hT];exact rowT_ok (runs_back (runs_sor r1 h.log.good.1) (runs_good r1 h.log.good.2) r2)
theorem RepI.shelf {m n : Nat} {s : RS} (h : RepI m n s) {nm : ByteArray} (hh : hasT s.shv nm = true) : getT s.shv nm = some (getL s.shv nm) ∧ getL s.shv nm ≠ [] ∧ ∀ p ∈ getL s.shv nm, p.fit := by
 obtain ⟨l, e⟩ := Option.isSome_iff_exists.1 hh;have hg : getL s.shv nm = l := by unfold getL; rw [e]; rfl
 have := h.sfit _ ((getT_some h.so).1 e);rw [hg];exact ⟨e, this.2.1, this.2.2⟩
theorem RepI.unshelve {m n : Nat} {s : RS} (h : RepI m n s) (nm : ByteArray) : RepI m n (rUnshelve s nm).1.1 ∧ (∀ p ∈ (rUnshelve s nm).1.2, p.fit) ∧ ((rUnshelve s nm).2 = 0 → rowT (treeR s) (rUnshelve s nm).1.2 = (treeR (rUnshelve s nm).1.1, 0)) := by
 unfold rUnshelve
 by_cases h0 : hasT s.shv nm = false
 ·rw [if_pos h0]; exact ⟨h, (fun x hx => by cases hx), fun h => absurd h (by simp)⟩
 rw [if_neg h0];obtain ⟨e, hne, hf⟩ := h.shelf (nm := nm) (by simpa using h0)
 by_cases h1 : (rowT (treeR s) (getL s.shv nm)).2 = 0
 ·rw [if_pos h1];have h2 := rowT_yes h1;have h3 : Runs (treeP s.log) (s.pend ++ getL s.shv nm) (rowT (treeR s) (getL s.shv nm)).1 := runs_app.2 ⟨_, h.runs, h2⟩;have hT : treeR ⟨s.log, s.pend ++ getL s.shv nm, delT s.shv nm⟩ = (rowT (treeR s) (getL s.shv nm)).1 := treeR_of h3;have hd := shz_del h.so e;have hz := h.z; have hy := h.y;refine ⟨⟨h.log, by rw [hT]; exact h3, fun x hx => (List.mem_append.1 hx).elim (h.fit x) (hf x), h.so.del _, fun x hx => h.sfit x (mem_delT.1 hx).1, Nat.le_trans (List.length_filter_le _ _) h.c3, ?_, ?_⟩, hf, fun _ => ?_⟩
  ·dsimp only; rw [lns_app]; omega
  ·dsimp only; rw [List.length_append]; omega
  ·rw [hT]; exact Prod.ext rfl h1
 ·rw [if_neg h1]; exact ⟨h, (fun x hx => by cases hx), fun h => absurd h h1⟩
/-! A repository in memory: one thing of one's own. -/
structure RY where
 pl : Nat
 p : Nat
 b : Nat
 A : Option Addr
 c : Nat
 Q : Option Addr
 q : Nat
 mb : Nat
 pt : Nat
 bt : Nat
def repL (tr_ tl tt tpa tp : TypeId) (pr : Nat) (l : List Patch) (q : List Prim) (S : List Sh.File) (T U : List File) (y : RY) : List Xsn :=
 [box pr tr_ [.pointer (some ⟨y.pl, 0, none⟩), .slice y.Q q.length y.q, .map (some y.mb), .pointer (some ⟨y.pt, 0, none⟩)],
  box y.pl tl [.slice y.A l.length y.c, .pointer (some ⟨y.p, 0, none⟩)], row tpa y.A y.c l, box y.p tt [.map (some y.b)], Sx.tr y.b T, row tp y.Q y.q q, tr y.mb S, box y.pt tt [.map (some y.bt)], Sx.tr y.bt U]
def repoX (tr_ tl tt tpa tp : TypeId) (pr : Nat) (s : RS) : Xsn := exX fun y : RY => bunX (repL tr_ tl tt tpa tp pr s.log s.pend s.shv (treeP s.log) (treeR s) y)
section
variable {ro : Option Nat} {P : Program} {M0 F0 : Nat → Prop} {w0 : World} {n : Nm} {σ : List (Nat × Value)} {Ξ : List Xsn} {Γ : List Asn} {Q : Exit → Act → World → Prop}
variable {tr_ tl tt tpa tp : TypeId} {pr : Nat} {s : RS}
theorem unrepC {c : Code} {i : Nat} {Ξ' : List Xsn} (hi : takeAt i Ξ = some (repoX tr_ tl tt tpa tp pr s, Ξ'))
  (k : ∀ (pl p b : Nat) (A : Option Addr) (cA : Nat) (Qa : Option Addr) (cQ mb pt bt : Nat), TrC ro P Q (St M0 F0 w0 n σ (box pr tr_ [.pointer (some ⟨pl, 0, none⟩), .slice Qa s.pend.length cQ, .map (some mb), .pointer (some ⟨pt, 0, none⟩)] ::
   box pl tl [.slice A s.log.length cA, .pointer (some ⟨p, 0, none⟩)] :: row tpa A cA s.log :: box p tt [.map (some b)] :: Sx.tr b (treeP s.log) :: row tp Qa cQ s.pend :: tr mb s.shv :: box pt tt [.map (some bt)] :: Sx.tr bt (treeR s) :: Ξ') Γ) c) : TrC ro P Q (St M0 F0 w0 n σ Ξ Γ) c := fun a w h => by
 obtain ⟨y, h1⟩ := St.unex hi h;have h2 := St.unbun (i := 0) rfl h1;exact k y.pl y.p y.b y.A y.c y.Q y.q y.mb y.pt y.bt a w h2
theorem St.reord {is : List Nat} {xs Ξr : List Xsn} (hs : takeAll is Ξ = some (xs, Ξr)) {a : Act} {w : World} (h : St M0 F0 w0 n σ Ξ Γ a w) : St M0 F0 w0 n σ (xs ++ Ξr) Γ a w := by
 obtain ⟨hsl, Fs, hh⟩ := h;obtain ⟨Gs, Hs, hp, h1, h2⟩ := hh.ex.takeAll hs;exact ⟨hsl, Gs ++ Hs, hh.repart (fun b => (own_perm hp b).symm) (all2.append h1 h2) (perm_pairwise hp hh.dis)⟩
theorem mkrep (is : List Nat) {Ξr : List Xsn} {l : List Patch} {q : List Prim} {S : List Sh.File} {T U : List File} {pl p b : Nat} {A : Option Addr} {cA : Nat} {Qa : Option Addr} {cQ mb pt bt : Nat}
  (hs : takeAll is Ξ = some ([box pr tr_ [.pointer (some ⟨pl, 0, none⟩), .slice Qa q.length cQ, .map (some mb), .pointer (some ⟨pt, 0, none⟩)],
   box pl tl [.slice A l.length cA, .pointer (some ⟨p, 0, none⟩)], row tpa A cA l, box p tt [.map (some b)], Sx.tr b T, row tp Qa cQ q, tr mb S, box pt tt [.map (some bt)], Sx.tr bt U], Ξr))
  (e : l = s.log ∧ q = s.pend ∧ S = s.shv ∧ T = treeP s.log ∧ U = treeR s) {a : Act} {w : World} (h : St M0 F0 w0 n σ Ξ Γ a w) : St M0 F0 w0 n σ (repoX tr_ tl tt tpa tp pr s :: Ξr) Γ a w := by
 obtain ⟨rfl, rfl, rfl, rfl, rfl⟩ := e;have h1 := St.reord hs h;have h2 := St.mkbun (xs := repL tr_ tl tt tpa tp pr s.log s.pend s.shv (treeP s.log) (treeR s) ⟨pl, p, b, A, cA, Qa, cQ, mb, pt, bt⟩) h1;exact St.mkex (f := fun y : RY => bunX (repL tr_ tl tt tpa tp pr s.log s.pend s.shv (treeP s.log) (treeR s) y)) _ h2
end
end Go.Proofs.YtbhnolfcdcpbkaaGreatDoor.X
end
section
namespace Go.Proofs.YtbhnolfcdcpbkaaGreatDoor.X
set_option maxRecDepth 100000
open Go Go.RowKit Go.Proofs Go.Sx
open Tryz
attribute [local irreducible] slA isA box row TrL TrC TrN TrA Pu OpR
set_option maxHeartbeats 8000000
theorem mapkS (pre : List Sh.File) (k : ByteArray) (l : List Prim) : (pre ++ [(k, l)]).map (·.1) = pre.map (·.1) ++ [k] := by simp
theorem c_copied (l : List Prim) (A0 : Option Addr) (c0 : Nat) (hl : l.length ≤ 2000000) (hf : ∀ x ∈ l, x.fit) : Con Tryz.prog 57 [.slice A0 l.length c0] [] [slA A0 l] (Option Addr × Nat) (fun y => .slice y.1 l.length y.2) (fun y => [row 103 y.1 y.2 l]) (fun _ => []) := by
 refine con func57 rfl ntmps57 rfl ?_;intro M0 F0 w0;refine k_ 12 ?_;refine cmono (fun a w h => nilRow (α := Prim) 103 h) ?_;refine k_ 7 ?_;refine cl (ι := {q : Nat × Option Addr × Nat // q.1 ≤ l.length}) (fun i => St M0 F0 w0 19 [(6, .slice A0 l.length c0), (7, .int .i64 (l.length : Int)), (8, .int .i64 (i.1.1 : Int)), (3, .slice i.1.2.1 (l.take i.1.1).length i.1.2.2)] [row 103 i.1.2.1 i.1.2.2 (l.take i.1.1)] [slA A0 l]) (fun i => l.length - i.1.1) ⟨(0, none, 0), Nat.zero_le _⟩ (wK [0]) ?_;rintro ⟨⟨k, A, c⟩, hk⟩;refine cmono (S' := St M0 F0 w0 19 [(6, .slice A0 l.length c0), (7, .int .i64 (l.length : Int)), (8, .int .i64 (k : Int)), (3, .slice A (l.take k).length c)] [row 103 A c (l.take k)] [slA A0 l]) Ħ ?_;refine k_ 6 ?_;refine cc rfl ?_ ?_
 ·intro h9;dsimp only at hk;(try simp only [nrmZ] at h9);have hk1 : k < l.length := (by omega);refine k_ 5 ?_;refine elC Θ k (List.getElem?_eq_getElem (l := l) hk1) ?_; rintro zbp zop zyp hAp;refine cr ?_;refine ls (op (p_ia k hAp hk1 rfl underlying40 sizeOf103 rfl rfl) rfl) ?_;refine ls (o_ldj isAgg103 sizeOf103 rfl Θ 0 rfl Δ rfl) ?_;refine ls (o_alloc zeroValue103 rfl rfl) ?_;refine le ?_; intro b5;refine k_ 5 ?_;refine ls (o_ldw isAgg103 sizeOf103 rfl Θ (by rfl) rfl) ?_;refine lC [] call110 (c_primClone l[k] zyp (hf _ (List.getElem_mem hk1))) ?_; intro y14;refine ls (o_bsl [l[k]] underlying40 sizeOf103 zeroValue103 rfl (Enum.t Enum.d) (RV.t y14 rfl Ω RV.d) rfl (by decide) (by decide) rfl) ?_;refine le ?_; intro b15;refine lmono (fun a w h => Go.Sx.freeze (i := 0) rfl h) ?_;refine ls (o_app (is := [1]) underlying40 inf103 rfl (by decide) (by decide) rfl rfl (by rw [List.length_take]; simp only [List.length_cons, List.length_nil]; omega) (fun h => by cases h) rfl Ω rfl) ?_;refine le ?_; rintro ⟨A', c'⟩;rw [← List.take_succ_eq_append_getElem hk1];refine k_ 8 ?_;refine nnext ⟨(k + 1, A', c'), hk1⟩ (by dsimp only; omega) (wK [0])
 ·intro h9;dsimp only at hk;(try simp only [nrmZ] at h9);obtain rfl : k = l.length := (by omega);refine k_ 6 ?_;rw [List.take_length];refine k_ 7 ?_;exact rR [0] (A, c)
theorem c_copiedW (l : List Prim) (A : Option Addr) (c : Nat) (hl : l.length ≤ 2000000) (hf : ∀ x ∈ l, x.fit) : Con Tryz.prog 57 [.slice A l.length c] [row 103 A c l] [] (Option Addr × Nat) (fun y => .slice y.1 l.length y.2) (fun y => [row 103 y.1 y.2 l, row 103 A c l]) (fun _ => []) := by
 refine con func57 rfl ntmps57 rfl ?_;intro M0 F0 w0;refine k_ 6 ?_;refine cmono (fun a w h => nilRow (α := Prim) 103 h) ?_;refine k_ 13 ?_;refine cl (ι := {q : Nat × (Option Addr × Nat) // q.1 ≤ l.length}) (fun i => St M0 F0 w0 19 [(3, .slice i.1.2.1 (l.take i.1.1).length i.1.2.2), (6, .slice A l.length c), (7, .int .i64 (l.length : Int)), (8, .int .i64 ((i.1.1 : Nat) : Int))] [row 103 (i.1.2.1) (i.1.2.2) (l.take i.1.1), row 103 A c l] []) (fun i => l.length - i.1.1) ⟨(0, (none, 0)), Nat.zero_le _⟩ (wk0 Φ Ω) ?_;rintro ⟨⟨k, ⟨A3, c3⟩⟩, hk⟩;refine cmono (S' := St M0 F0 w0 19 [(3, .slice A3 (l.take k).length c3), (6, .slice A l.length c), (7, .int .i64 (l.length : Int)), (8, .int .i64 ((k : Nat) : Int))] [row 103 (A3) (c3) (l.take k), row 103 A c l] []) Ħ ?_;refine k_ 6 ?_;refine cc rfl ?_ ?_
 ·intro h9;dsimp only at hk;(try simp only [nrmZ] at h9);have hk1 : k < l.length := (by omega);refine k_ 5 ?_;refine rowC (α := Prim) (A := A) (l := l) Θ (List.ne_nil_of_length_pos (by omega)) ?_;rintro g0 rfl;refine cr ?_;refine ls (op (p_ia k rfl hk1 rfl underlying40 sizeOf103 rfl rfl) rfl) ?_;refine ls (o_ldrow isAgg103 sizeOf103 rfl Θ (List.getElem?_eq_getElem hk1) rfl) ?_;refine le ?_; intro zyp;refine ls (o_alloc zeroValue103 rfl rfl) ?_;refine le ?_; intro b5;refine k_ 5 ?_;refine ls (o_ldw isAgg103 sizeOf103 rfl Θ (by rfl) rfl) ?_;refine lC [] call110 (c_primClone l[k] zyp (hf _ (List.getElem_mem hk1))) ?_; intro y14;refine ls (o_bsl [l[k]] underlying40 sizeOf103 zeroValue103 rfl (Enum.t Enum.d) (RV.t y14 rfl Ω RV.d) rfl (by decide) (by decide) rfl) ?_;refine le ?_; intro b15;refine lmono (fun a w h => Go.Sx.freeze (i := 0) rfl h) ?_;refine ls (o_appX (i := 1) underlying40 inf103 rfl (by decide) (by decide) rfl rfl (by simp only [List.length_take, List.length_cons, List.length_nil]; omega) rfl Ω rfl) ?_;refine le ?_; rintro ⟨A16, c16⟩;rw [← List.take_succ_eq_append_getElem hk1];refine k_ 8 ?_;refine nnext ⟨(k + 1, (A16, c16)), hk1⟩ (by dsimp only; omega) (wK [0, 1])
 ·intro h9;dsimp only at hk;(try simp only [nrmZ] at h9);obtain rfl : k = l.length := (by omega);rw [List.take_length];refine k_ 13 ?_;exact rR [0, 0] (A3, c3)
theorem c_seqClonedW (l : List Prim) (A : Option Addr) (c : Nat) (hl : l.length ≤ 2000000) (hf : ∀ x ∈ l, x.fit) : Con Tryz.prog 169 [.slice A l.length c] [row 103 A c l] [] (Option Addr × Nat) (fun y => .slice y.1 l.length y.2) (fun y => [row 103 y.1 y.2 l, row 103 A c l]) (fun _ => []) := by
 refine con func169 rfl ntmps169 rfl ?_;intro M0 F0 w0;refine k_ 6 ?_;refine cmono (fun a w h => nilRow (α := Prim) 103 h) ?_;refine k_ 13 ?_;refine cl (ι := {q : Nat × (Option Addr × Nat) // q.1 ≤ l.length}) (fun i => St M0 F0 w0 19 [(3, .slice i.1.2.1 (l.take i.1.1).length i.1.2.2), (6, .slice A l.length c), (7, .int .i64 (l.length : Int)), (8, .int .i64 ((i.1.1 : Nat) : Int))] [row 103 (i.1.2.1) (i.1.2.2) (l.take i.1.1), row 103 A c l] []) (fun i => l.length - i.1.1) ⟨(0, (none, 0)), Nat.zero_le _⟩ (wk0 Φ Ω) ?_;rintro ⟨⟨k, ⟨A3, c3⟩⟩, hk⟩;refine cmono (S' := St M0 F0 w0 19 [(3, .slice A3 (l.take k).length c3), (6, .slice A l.length c), (7, .int .i64 (l.length : Int)), (8, .int .i64 ((k : Nat) : Int))] [row 103 (A3) (c3) (l.take k), row 103 A c l] []) Ħ ?_;refine k_ 6 ?_;refine cc rfl ?_ ?_
 ·intro h9;dsimp only at hk;(try simp only [nrmZ] at h9);have hk1 : k < l.length := (by omega);refine k_ 5 ?_;refine rowC (α := Prim) (A := A) (l := l) Θ (List.ne_nil_of_length_pos (by omega)) ?_;rintro g0 rfl;refine cr ?_;refine ls (op (p_ia k rfl hk1 rfl underlying40 sizeOf103 rfl rfl) rfl) ?_;refine ls (o_ldrow isAgg103 sizeOf103 rfl Θ (List.getElem?_eq_getElem hk1) rfl) ?_;refine le ?_; intro zyp;refine ls (o_alloc zeroValue103 rfl rfl) ?_;refine le ?_; intro b5;refine k_ 5 ?_;refine ls (o_ldw isAgg103 sizeOf103 rfl Θ (by rfl) rfl) ?_;refine lC [] call110 (c_primClone l[k] zyp (hf _ (List.getElem_mem hk1))) ?_; intro y14;refine ls (o_bsl [l[k]] underlying40 sizeOf103 zeroValue103 rfl (Enum.t Enum.d) (RV.t y14 rfl Ω RV.d) rfl (by decide) (by decide) rfl) ?_;refine le ?_; intro b15;refine lmono (fun a w h => Go.Sx.freeze (i := 0) rfl h) ?_;refine ls (o_appX (i := 1) underlying40 inf103 rfl (by decide) (by decide) rfl rfl (by simp only [List.length_take, List.length_cons, List.length_nil]; omega) rfl Ω rfl) ?_;refine le ?_; rintro ⟨A16, c16⟩;rw [← List.take_succ_eq_append_getElem hk1];refine k_ 8 ?_;refine nnext ⟨(k + 1, (A16, c16)), hk1⟩ (by dsimp only; omega) (wK [0, 1])
 ·intro h9;dsimp only at hk;(try simp only [nrmZ] at h9);obtain rfl : k = l.length := (by omega);rw [List.take_length];refine k_ 13 ?_;exact rR [0, 0] (A3, c3)
theorem c_seqSplitW (l : List Prim) (A : Option Addr) (c : Nat) (hl : l.length ≤ 900000) (hf : ∀ x ∈ l, x.fit) (W : Nat → Bool) (g : FuncId) (cap : List Value) (Γf : List Asn) (x0 : Nat → Xsn) (hcf : ∀ args w, (callFunc g args).run Tryz.prog w = .ok (.enter g args) w) (hg : ∀ (k : Nat) (hk : k < l.length) (y : Rp.Lay Prim), Con Tryz.prog g (.int .i64 (k : Int) :: sv l[k] y :: cap) [x0 k] (Rp.asn l[k] y ++ Γf) Unit (fun _ => .bool (W k)) (fun _ => [x0 (k + 1)]) (fun _ => [])) : Con Tryz.prog 122 [.slice A l.length c, .func (.func g) #[] cap.toArray] [row 103 A c l, x0 0] Γf {x : (List Prim × List Prim) × ((Option Addr × Nat) × (Option Addr × Nat)) // x.1 = splK W l l.length} (fun x => .tuple #[.slice x.1.2.1.1 x.1.1.1.length x.1.2.1.2, .slice x.1.2.2.1 x.1.1.2.length x.1.2.2.2]) (fun x => [row 103 x.1.2.1.1 x.1.2.1.2 x.1.1.1, row 103 x.1.2.2.1 x.1.2.2.2 x.1.1.2, row 103 A c l, x0 l.length]) (fun x => []) := by
 refine con func122 rfl ntmps122 rfl ?_;intro M0 F0 w0;refine k_ 8 ?_;refine cmono (fun a w h => nilRow (α := Prim) 103 h) ?_;refine cmono (fun a w h => nilRow (α := Prim) 103 h) ?_;refine k_ 2 ?_;refine lC [2] call169 (c_seqClonedW l A c (by omega) hf) ?_; rintro ⟨A12, c12⟩;refine lmono (fun a w h => freezeN (i := 0) rfl h) ?_;refine k_ 5 ?_;refine cl (ι := {q : Nat × (List Prim × (Option Addr × Nat)) × (List Prim × (Option Addr × Nat)) // q.1 ≤ l.length ∧ (q.2.1.1, q.2.2.1) = splK W l q.1 ∧ ∀ x ∈ q.2.2.1, x.fit}) (fun i => St M0 F0 w0 44 [(1, .func (.func g) #[] cap.toArray), (4, .slice i.1.2.1.2.1 (i.1.2.1.1).length i.1.2.1.2.2), (5, .slice i.1.2.2.2.1 (i.1.2.2.1).length i.1.2.2.2.2), (12, .slice A12 l.length c12), (13, .int .i64 (l.length : Int)), (14, .int .i64 (i.1.1 : Int))] [row 103 (i.1.2.1.2.1) (i.1.2.1.2.2) i.1.2.1.1, row 103 (i.1.2.2.2.1) (i.1.2.2.2.2) i.1.2.2.1, row 103 A c l, x0 (i.1.1)] (slA A12 l :: Γf)) (fun i => l.length - i.1.1) ⟨(0, ([], (none, 0)), ([], (none, 0))), Nat.zero_le _, rfl, (fun x hx => by cases hx)⟩ (wK [1, 1, 0, 0]) ?_;rintro ⟨⟨k, ⟨F, ⟨A4, c4⟩⟩, ⟨R, ⟨A5, c5⟩⟩⟩, hk, hFR, hRf⟩;refine cmono (S' := St M0 F0 w0 44 [(1, .func (.func g) #[] cap.toArray), (4, .slice A4 (F).length c4), (5, .slice A5 (R).length c5), (12, .slice A12 l.length c12), (13, .int .i64 (l.length : Int)), (14, .int .i64 (k : Int))] [row 103 (A4) (c4) F, row 103 (A5) (c5) R, row 103 A c l, x0 (k)] (slA A12 l :: Γf)) Ħ ?_;refine k_ 6 ?_;refine cc rfl ?_ ?_
 ·intro h15;dsimp only at hk hFR hRf;(try simp only [nrmZ] at h15);have hk1 : k < l.length := (by omega);have hfk := hf _ (List.getElem_mem hk1);have hsl := splK_len W l k hk;rw [← hFR] at hsl;dsimp only at hsl;have hf1 : ∀ x ∈ [l[k]], x.fit := fun x hx => by rw [List.mem_singleton.1 hx]; exact hfk
  refine k_ 5 ?_;refine elC Θ k (List.getElem?_eq_getElem (l := l) hk1) ?_; rintro zbp zop zyp hAp;refine k_ 2 ?_;refine ls (op (p_ia k hAp hk1 rfl underlying40 sizeOf103 rfl rfl) rfl) ?_;refine ls (o_ldj isAgg103 sizeOf103 rfl Θ 0 rfl Δ rfl) ?_;refine ls (o_alloc zeroValue103 rfl rfl) ?_;refine le ?_; intro b7;refine k_ 9 ?_;refine ls (o_ldw isAgg103 sizeOf103 rfl Θ (by rfl) rfl) ?_;refine lC [] call110 (c_primClone l[k] zyp hfk) ?_; intro y22;refine ls (o_callv (is := [4]) rfl hcf (hg k hk1 y22) rfl rfl rfl (Sub.app Ω Ω) rfl) ?_;refine le ?_; intro x23;refine k_ 2 ?_;refine cc rfl ?_ ?_
  ·intro h23;have hw : W k = true := h23;refine k_ 3 ?_;refine ls (o_ldw isAgg103 sizeOf103 rfl Θ (by rfl) rfl) ?_;refine ls (o_bsl [l[k]] underlying40 sizeOf103 zeroValue103 rfl (Enum.t Enum.d) (RV.t zyp rfl Ω RV.d) rfl (by decide) (by decide) rfl) ?_;refine le ?_; intro b27;refine lmono (fun a w h => Go.Sx.freeze (i := 0) rfl h) ?_;refine lC [3] call170 (borrow2 (fun x => !x.1.1.2.2) (c_seqSwapR R [l[k]] A5 (some ⟨b27, 0, none⟩) c5 1 (by omega) (by simp) hRf hf1)) ?_; rintro ⟨⟨⟨f', s', b'⟩, ⟨⟨A8, c8⟩, ⟨A9, c9⟩⟩⟩, hr⟩;dsimp only at hr;refine k_ 10 ?_;cases b'
   ·
    obtain ⟨_, rfl, rfl⟩ := swT_false hr;refine k_ 4 ?_;refine cc rfl (fun h => by cases h) (fun h => ?_);refine k_ 4 ?_;refine ls (o_ldw isAgg103 sizeOf103 rfl Θ (by rfl) rfl) ?_;refine ls (o_bsl [l[k]] underlying40 sizeOf103 zeroValue103 rfl (Enum.t Enum.d) (RV.t zyp rfl Ω RV.d) rfl (by decide) (by decide) rfl) ?_;refine le ?_; intro b39;refine lmono (fun a w h => Go.Sx.freeze (i := 0) rfl h) ?_;refine ls (o_app (is := [0]) underlying40 inf103 rfl (by decide) (by decide) rfl rfl (by simp only [List.length_cons, List.length_nil]; omega) (fun h => by cases h) rfl Ω rfl) ?_;refine le ?_; rintro ⟨A40, c40⟩;refine k_ 8 ?_;refine nnext ⟨(k + 1, (F, (A4, c4)), (R ++ [l[k]], (A40, c40))), hk1, splK_no hFR hk1 hr (by rw [hw]; rfl), (fun x hx => (List.mem_append.1 hx).elim (hRf x) (hf1 x))⟩ (by dsimp only; omega) (wK [3, 0, 2, 0])
   ·
    have hln := swT_len hr;have hft := swT_fit hr hRf hf1;have hl1 : [l[k]].length = 1 := rfl;refine k_ 4 ?_;refine cc rfl (fun h => ?_) (fun h => by cases h);refine k_ 4 ?_;refine ls (o_app (is := [3]) underlying40 inf103 rfl (by decide) (by decide) rfl rfl (by dsimp only; omega) (fun h => by dsimp only at h; rw [h] at hln; simp at hln) rfl Ω rfl) ?_;refine le ?_; rintro ⟨A35, c35⟩;refine k_ 13 ?_;refine nnext ⟨(k + 1, (F ++ f', (A35, c35)), (s', (A9, c9))), hk1, splK_yes hFR hk1 hw hr, hft.2⟩ (by dsimp only; omega) (wK [0, 0, 2, 0])
  ·intro h23;have hw : W k = false := (by simpa using h23);refine k_ 4 ?_;refine ls (o_ldw isAgg103 sizeOf103 rfl Θ (by rfl) rfl) ?_;refine ls (o_bsl [l[k]] underlying40 sizeOf103 zeroValue103 rfl (Enum.t Enum.d) (RV.t zyp rfl Ω RV.d) rfl (by decide) (by decide) rfl) ?_;refine le ?_; intro b39;refine lmono (fun a w h => Go.Sx.freeze (i := 0) rfl h) ?_;refine ls (o_app (is := [3]) underlying40 inf103 rfl (by decide) (by decide) rfl rfl (by simp only [List.length_cons, List.length_nil]; omega) (fun h => by cases h) rfl Ω rfl) ?_;refine le ?_; rintro ⟨A40, c40⟩;refine k_ 8 ?_;refine nnext ⟨(k + 1, (F, (A4, c4)), (R ++ [l[k]], (A40, c40))), hk1, splK_no' hFR hk1 hw, (fun x hx => (List.mem_append.1 hx).elim (hRf x) (hf1 x))⟩ (by dsimp only; omega) (wK [3, 0, 2, 0])
 ·intro h15;dsimp only at hk hFR hRf;(try simp only [nrmZ] at h15);obtain rfl : k = l.length := (by omega);refine k_ 15 ?_;exact rR [0, 0, 0, 0] ⟨((F, R), ((A4, c4), (A5, c5))), hFR⟩
theorem c_sh_mClone (b : Nat) (T : List Sh.File) : Con Tryz.prog 67 [.map (some b)] [tr b T] [] Nat (fun b' => .map (some b')) (fun b' => [tr b' T, tr b T]) (fun _ => []) := by
 refine con func67 rfl ntmps67 rfl ?_;intro M0 F0 w0;refine k_ 9 ?_;refine ls (op (p_mapnil underlying53 rfl) rfl) ?_;refine k_ 2 ?_;refine cc rfl (fun h => by cases h) (fun h => ?_);refine k_ 5 ?_;refine ls (op (p_mkif underlying53 rfl) rfl) ?_;refine ls (o_mclone func118 Ψ Ψ Ψ Ψ rfl Θ rfl) ?_;refine le ?_; intro b7;refine ls (op (p_tas underlying53 rfl) rfl) ?_;refine k_ 5 ?_;exact rR [0, 0] b7
theorem c_sh_mKeys (b : Nat) : Con Tryz.prog 103 [.map (some b)] [] [] Nat (fun q => .func (.func 158) #[] #[pT q]) (fun q => [box q 53 [.map (some b)]]) (fun _ => []) := by
 refine con func103 rfl ntmps103 rfl ?_;intro M0 F0 w0;refine k_ 2 ?_;refine ls (o_box rfl rfl rfl) ?_;refine le ?_; intro b1;refine k_ 5 ?_;refine ls (op (p_mkf rfl) rfl) ?_;refine k_ 5 ?_;exact rR [0] b1
theorem c_sh_mKeys1 (b : Nat) (T : List Sh.File) (q : Nat) : Iter Tryz.prog 158 [pT q] (fun x : Sh.File => [.string x.1]) (fun _ => []) (fun pre x => x ∈ T ∧ x ∉ pre ∧ pre.length < T.length) (fun xs => xs.Perm T) [box q 53 [.map (some b)], tr b T] [] := by
 intro lp J Jx hY;refine con func158 rfl ntmps158 rfl ?_;intro M0 F0 w0;refine k_ 3 ?_;refine ls (o_mrange (i := 2) underlying53 rfl rfl rfl) ?_;refine le ?_; intro r5;refine k_ 3 ?_;refine cl (ι := List Sh.File) (fun i => St M0 F0 w0 14 [(0, .func (.yield lp) #[] #[]), (1, pT q), (5, pT r5)] [mit b r5 T i, J i, box q 53 [.map (some b)]] []) (fun i => T.length - (i).length) [] (wK [0, 0, 0]) ?_;rintro K;refine cmono (S' := St M0 F0 w0 14 [(0, .func (.yield lp) #[] #[]), (1, pT q), (5, pT r5)] [mit b r5 T K, J K, box q 53 [.map (some b)]] []) Ħ ?_;refine cs ?_;refine cpure (St.mit Θ) ?_;rintro ⟨hso, hKn, hKT⟩;rcases Classical.em (∃ x ∈ T, x ∉ K) with hK | hK
 ·
  have hlt := nodup_lt hKn hKT hK;refine cr ?_;refine ls (o_mnextS (i := 0) rfl rfl hK rfl) ?_;refine le ?_; rintro ⟨⟨⟨k, l⟩, y⟩, hxT, hxK⟩;refine k_ 4 ?_;refine cc rfl (fun h => ?_) (fun h => by cases h);refine k_ 5 ?_;refine ls (o_mentry rfl Θ rfl) ?_;refine le ?_; rintro y8;refine k_ 8 ?_;refine ls (o_yield (i := 1) rfl (hY K (k, l) ⟨hxT, hxK, hlt⟩) rfl rfl Ω rfl) ?_;refine le ?_; intro bb;refine k_ 3 ?_;refine cc rfl ?_ ?_
  ·intro h13;obtain rfl : false = bb := (by cases bb <;> first | rfl | (simp at h13))
   refine k_ 2 ?_;refine nmono (conv (i := 1) rfl mit_tr) ?_;exact rR [1, 1, 0] ⟨none, fun _ h => by cases h⟩
  ·intro h13;obtain rfl : true = bb := (by cases bb <;> first | rfl | (simp at h13))
   refine k_ 2 ?_;refine nnext (K ++ [(k, l)]) (by simp; omega) (wK [1, 0, 0])
 ·
  refine cr ?_;refine ls (o_mnextN rfl Θ hK rfl) ?_;refine k_ 4 ?_;refine cc rfl (fun h => by cases h) (fun h => ?_);refine k_ 4 ?_;refine nmono (conv (i := 0) rfl mit_tr) ?_;exact rR [1, 1, 0] ⟨some K, fun xs h => by cases h; exact perm_of_all hso hKn hKT hK⟩
theorem c_sh_appSeq (b q : Nat) (T : List Sh.File) (hn : T.length ≤ 2000000) : Con Tryz.prog 213 [.slice none 0 0, .func (.func 158) #[] #[pT q]] [box q 53 [.map (some b)], tr b T] [] {y : (Option Addr × Nat) × List ByteArray // y.2.Perm (T.map (·.1))} (fun y => .slice y.1.1.1 y.1.2.length y.1.1.2) (fun y => [row 9 y.1.1.1 y.1.1.2 y.1.2, box q 53 [.map (some b)], tr b T]) (fun _ => []) := by
 refine con func213 rfl ntmps213 rfl ?_;intro M0 F0 w0;refine k_ 2 ?_;refine ls (o_box rfl rfl rfl) ?_;refine le ?_; intro b2;refine k_ 5 ?_;refine cmono (fun a w h => nilRow (α := ByteArray) 9 h) ?_;refine k_ 5 ?_;refine crng (ι := fun _ => Option Addr × Nat) rfl call158 (c_sh_mKeys1 b T q) (fun _ => rfl) rfl (fun pre i => [box b2 73 [.slice i.1 (pre.map (·.1)).length i.2], row 9 i.1 i.2 (pre.map (·.1))]) (fun _ _ => []) ((none, 0)) (Y := Empty) (fun _ => []) (fun _ => []) (is := [1, 0, 0, 0]) rfl Ω Ω ?_ ?_ ?_
 ·
  rintro M0 F0 w0 lp κ pre ⟨k, l⟩ ⟨hxT, hxn, hlt⟩ ⟨A, c⟩;refine cmono (S' := St M0 F0 w0 ⟨13, []⟩ [(2, pT b2), (7, .string k)] [lrec lp κ .ready none, box b2 73 [.slice A (pre.map (·.1)).length c], row 9 A c (pre.map (·.1))] []) (wk0 Φ Ω) ?_;refine k_ 3 ?_;refine nbegin (i := 0) rfl ?_;refine k_ 4 ?_;refine ls (o_bsl [k] underlying73 sizeOf9 zeroValue9 rfl (Enum.t Enum.d) (RV.t () rfl Sub.d RV.d) rfl (by decide) (by decide) rfl) ?_;refine le ?_; intro b10;refine lmono (fun a w h => Go.Sx.freeze (i := 0) rfl h) ?_;refine ls (o_app (is := [2]) underlying73 inf9 rfl (by decide) (by decide) rfl rfl (by simp only [List.length_map, List.length_cons, List.length_nil]; omega) (fun h => by cases h) rfl Ω rfl) ?_;refine le ?_; rintro ⟨A2, c2⟩;refine k_ 3 ?_;refine nmono (fun a w h => by rw [← mapkS pre k l] at h; exact h) ?_;exact nround (A2, c2) (is := [1, 1, 0]) rfl Ω
 ·
  rintro D xs hC ⟨A, c⟩;refine k_ 10 ?_;refine rretm (Dfr.c (i := 4) rfl Dfr.d) (is := [1, 1, 1]) ⟨((A, c), xs.map (·.1)), hC.map _⟩ (Or.inl rfl) (Res.t rfl Res.d) (rfl) rfl Ω
 ·
  intro D y;exact y.elim
theorem c_sh_tCollect (b q : Nat) (T : List Sh.File) (hn : T.length ≤ 2000000) : Con Tryz.prog 156 [.func (.func 158) #[] #[pT q]] [box q 53 [.map (some b)], tr b T] [] {y : (Option Addr × Nat) × List ByteArray // y.2.Perm (T.map (·.1))} (fun y => .slice y.1.1.1 y.1.2.length y.1.1.2) (fun y => [row 9 y.1.1.1 y.1.1.2 y.1.2, box q 53 [.map (some b)], tr b T]) (fun _ => []) := by
 refine con func156 rfl ntmps156 rfl ?_;intro M0 F0 w0;refine k_ 8 ?_;refine lC [0, 0] call213 (c_sh_appSeq b q T hn) ?_; intro x4;refine k_ 5 ?_;exact rR [0, 0, 0] x4
theorem c_sh_tSorted (b q : Nat) (T : List Sh.File) (hn : T.length ≤ 2000000) : Con Tryz.prog 102 [.func (.func 158) #[] #[pT q]] [box q 53 [.map (some b)], tr b T] [] (Option Addr × Nat) (fun y => .slice y.1 T.length y.2) (fun y => [row 9 y.1 y.2 (T.map (·.1)), box q 53 [.map (some b)], tr b T]) (fun _ => []) := by
 refine con func102 rfl ntmps102 rfl ?_;intro M0 F0 w0;refine k_ 8 ?_;refine lC [0, 0] call156 (c_sh_tCollect b q T hn) ?_; rintro ⟨⟨⟨A5, c5⟩, ks⟩, hks⟩;refine k_ 4 ?_;dsimp only at hks;refine cpure (St.tr (b := b) Θ) ?_;intro hso;have hlen : ks.length = T.length := (by have := hks.length_eq; simpa using this);have hsb := sortB_keys hso hks;refine k_ 2 ?_;refine lC [0] call157 (l_Sort 9 A5 c5 ks (by omega)) ?_; intro u7;refine k_ 3 ?_;rw [hsb];refine k_ 7 ?_;refine rret (is := [0, 0, 0]) (A5, c5) (Or.inl rfl) (Res.t rfl Res.d) ?_ rfl Ω;simp [packV, hlen]
theorem want_eq {files : List ByteArray} {p : Prim} : (decide ((files.length : Int) = 0) || (sortB p.names).any fun s => files.any fun t => decide (t = s)) = wantP files p := by
 unfold wantP;rw [sortB_names, Bool.eq_iff_iff];simp only [Bool.or_eq_true, decide_eq_true_eq, List.any_eq_true];constructor
 ·rintro (h | ⟨s, hs, t, ht, e⟩)
  ·exact .inl (by omega)
  ·exact .inr ⟨t, ht, s, hs, e.symm⟩
 ·rintro (h | ⟨t, ht, s, hs, e⟩)
  ·exact .inl (by omega)
  ·exact .inr ⟨s, hs, t, ht, e.symm⟩
theorem spW_f {l : List Prim} {files : List ByteArray} {k : Nat} (hk : k < l.length) : spW l files false k = wantP files l[k] := by
 unfold spW; rw [List.getElem?_eq_getElem hk]; dsimp only; cases wantP files l[k] <;> rfl
theorem spW_t {l : List Prim} {files : List ByteArray} {k : Nat} (hk : k < l.length) : spW l files true k = !wantP files l[k] := by
 unfold spW; rw [List.getElem?_eq_getElem hk]; dsimp only; cases wantP files l[k] <;> rfl
theorem chR_no {s : RS} {l : List Prim} {U : List File} {e : Int} (h : (U, e) = rowT (treeR s) l) (he : ¬ e = 0) : rChange s l = (s, e) := by unfold rChange; rw [← h, if_neg he]
theorem chR_yes {s : RS} {l : List Prim} {U : List File} (h : (U, 0) = rowT (treeR s) l) : rChange s l = (⟨s.log, s.pend ++ l, s.shv⟩, 0) := by unfold rChange; rw [← h, if_pos rfl]
theorem chR_tree {m n : Nat} {s : RS} (hI : RepI m n s) {l : List Prim} {U : List File} (h : (U, 0) = rowT (treeR s) l) : treeR ⟨s.log, s.pend ++ l, s.shv⟩ = U := treeR_of (runs_app.2 ⟨_, hI.runs, rowT_runs h.symm⟩)
theorem c_wanted1 (files : List ByteArray) (B : Option Addr) (c' : Nat) (hfl : files.length ≤ 2000000) (b : Nat) (s : ByteArray) : Con Tryz.prog 173 [.string s, pT b] [box b 73 [.slice B files.length c']] [slA B files] Unit (fun _ => .bool (files.any fun t => decide (t = s))) (fun _ => [box b 73 [.slice B files.length c']]) (fun _ => []) := by
 refine con func173 rfl ntmps173 rfl ?_;intro M0 F0 w0;refine k_ 9 ?_;refine lC [] call174 (c_Contains files B c' hfl s) ?_; intro x6;refine k_ 5 ?_;exact rR [0] ()
theorem c_wanted (p : Prim) (y : Rp.Lay Prim) (files : List ByteArray) (B : Option Addr) (c' : Nat) (hfl : files.length ≤ 2000000) : Con Tryz.prog 124 [sv p y, .slice B files.length c'] [] (Rp.asn p y ++ [slA B files]) Unit (fun _ => .bool (wantP files p)) (fun _ => []) (fun _ => []) := by
 refine con func124 rfl ntmps124 rfl ?_;intro M0 F0 w0;refine k_ 2 ?_;refine ls (o_box rfl rfl rfl) ?_;refine le ?_; intro b2;refine ls (o_box rfl rfl rfl) ?_;refine le ?_; intro b3;refine k_ 9 ?_;refine orX 5 8 13 rfl (sL [0, 1, 4]) ?_ ?_
 ·intro h8;refine k_ 5 ?_;refine ln (nmid (wk0 Φ Ω))
 apply exI
 ·intro h8;refine lwant rfl rfl rfl rfl (o_ldw isAgg103 sizeOf103 rfl Θ (by rfl) rfl) ?_;refine lwant rfl rfl rfl rfl (o_call (is := []) call172 (c_primNames p y) rfl rfl Ω rfl) ?_;refine le ?_; rintro ⟨⟨l1, y1⟩, hl1⟩;obtain rfl : l1 = sortB p.names := hl1;refine lwant rfl rfl rfl rfl (op (p_mkf rfl) rfl) ?_;refine lwant rfl rfl rfl rfl (o_call (is := [0]) call171 (c_ContainsFunc1 (sortB p.names) y1.1 y1.2 (by rw [sortB_length]; unfold Prim.names; split <;> simp) (fun s => files.any fun t => decide (t = s)) 173 [pT b3] [slA B files] (box b3 73 [.slice B files.length c']) call173 (fun s _ => c_wanted1 files B c' hfl b3 s)) rfl rfl Ω rfl) ?_
  refine le ?_; intro x12;refine k_ 1 ?_;refine ln (nmid (wk0 Φ Ω))
 ·
  refine k_ 5 ?_;refine rret (is := []) () (Or.inl rfl) (Res.t rfl Res.d) ?_ rfl Ω;simp only [packV]; rw [want_eq]
theorem c_split1 (k : Nat) (p : Prim) (y : Rp.Lay Prim) (files : List ByteArray) (B : Option Addr) (c' : Nat) (hfl : files.length ≤ 2000000) (b : Nat) : Con Tryz.prog 123 [.int .i64 (k : Int), sv p y, pT b] [box b 73 [.slice B files.length c']] (Rp.asn p y ++ [slA B files]) Unit (fun _ => .bool (wantP files p)) (fun _ => [box b 73 [.slice B files.length c']]) (fun _ => []) := by
 refine con func123 rfl ntmps123 rfl ?_;intro M0 F0 w0;refine k_ 2 ?_;refine ls (o_box rfl rfl rfl) ?_;refine le ?_; intro b4;refine k_ 5 ?_;refine ls (o_ldw isAgg103 sizeOf103 rfl Θ (by rfl) rfl) ?_;refine k_ 1 ?_;refine lC [] call124 (c_wanted p y files B c' hfl) ?_; intro x8;refine k_ 5 ?_;exact rR [1] ()
theorem c_undo1 (k : Nat) (p : Prim) (y : Rp.Lay Prim) (files : List ByteArray) (B : Option Addr) (c' : Nat) (hfl : files.length ≤ 2000000) (b : Nat) : Con Tryz.prog 151 [.int .i64 (k : Int), sv p y, pT b] [box b 73 [.slice B files.length c']] (Rp.asn p y ++ [slA B files]) Unit (fun _ => .bool (!wantP files p)) (fun _ => [box b 73 [.slice B files.length c']]) (fun _ => []) := by
 refine con func151 rfl ntmps151 rfl ?_;intro M0 F0 w0;refine k_ 2 ?_;refine ls (o_box rfl rfl rfl) ?_;refine le ?_; intro b4;refine k_ 5 ?_;refine ls (o_ldw isAgg103 sizeOf103 rfl Θ (by rfl) rfl) ?_;refine k_ 1 ?_;refine lC [] call124 (c_wanted p y files B c' hfl) ?_; intro x8;refine k_ 6 ?_;exact rR [1] ()
theorem c_repSplit (pr : Nat) (s : RS) (m n : Nat) (hI : RepI m n s) (hm : m ≤ 100000) (hn : n ≤ 100000) (files : List ByteArray) (B : Option Addr) (c' : Nat) (hfl : files.length ≤ 2000000) : Con Tryz.prog 70 [pT pr, .slice B files.length c'] [repoX 56 124 139 63 103 (pr) (s)] [slA B files] {x : (List Prim × List Prim) × ((Option Addr × Nat) × (Option Addr × Nat)) // x.1 = splR s.pend files false} (fun x => .tuple #[.slice x.1.2.1.1 x.1.1.1.length x.1.2.1.2, .slice x.1.2.2.1 x.1.1.2.length x.1.2.2.2]) (fun x => [row 103 x.1.2.1.1 x.1.2.1.2 x.1.1.1, row 103 x.1.2.2.1 x.1.2.2.2 x.1.1.2, repoX 56 124 139 63 103 (pr) (s)]) (fun _ => []) := by
 refine con func70 rfl ntmps70 rfl ?_;intro M0 F0 w0;refine k_ 2 ?_;refine ls (o_box rfl rfl rfl) ?_;refine le ?_; intro b3;refine k_ 5 ?_;have hpl : s.pend.length ≤ 900000 := (by have := hI.y; omega);refine unrepC (i := 1) rfl ?_; intro pl p b A cA Qa cQ mb pt bt;refine k_ 2 ?_;refine ls (op (p_nilck rfl) rfl) ?_;refine k_ 2 ?_;refine ls (op (p_mkf rfl) rfl) ?_;refine lC [5, 8] call122 (c_seqSplitW s.pend Qa cQ hpl hI.fit (spW s.pend files false) 123 [pT b3] [slA B files] (fun _ => box b3 73 [.slice B files.length c']) call123 (fun k hk y => by rw [spW_f hk]; exact c_split1 k s.pend[k] y files B c' hfl b3)) ?_; rintro ⟨⟨⟨F, R⟩, ⟨⟨A1, c1⟩, ⟨A2, c2⟩⟩⟩, hr⟩;dsimp only at hr;refine k_ 8 ?_;refine nmono (fun a w h => mkrep (s := s) [4, 4, 4, 4, 4, 2, 3, 3, 3] rfl ⟨rfl, rfl, rfl, rfl, rfl⟩ h) ?_;exact rR [1, 1, 0] ⟨((F, R), ((A1, c1), (A2, c2))), hr⟩
theorem c_repChange (pr : Nat) (s : RS) (m n : Nat) (hI : RepI m n s) (hm : m ≤ 100000) (hn : n ≤ 100000) (l : List Prim) (B : Option Addr) (c' : Nat) (hcap : l.length ≤ c') (hlf : ∀ x ∈ l, x.fit) (hlz : lns l ≤ 100000) (hly : l.length ≤ 100000) : Con Tryz.prog 50 [pT pr, .slice B l.length c'] [repoX 56 124 139 63 103 (pr) (s)] [slA B l] {x : RS × Int // x = rChange s l} (fun x => .int .i64 x.1.2) (fun x => [repoX 56 124 139 63 103 (pr) (x.1.1)]) (fun _ => []) := by
 refine con func50 rfl ntmps50 rfl ?_;intro M0 F0 w0;refine k_ 7 ?_;have hpl := hI.y;refine unrepC (i := 0) rfl ?_; intro pl p b A cA Qa cQ mb pt bt;refine k_ 2 ?_;refine ls (op (p_nilck rfl) rfl) ?_;refine k_ 3 ?_;refine lC [7, 7] call43 (c_seqApply pt bt (treeR s) (m + m) (n + n) hI.app l B c' hcap (by omega) hlf (by omega) (by omega)) ?_; rintro ⟨⟨U, e11⟩, hq⟩;refine k_ 9 ?_;refine cc rfl ?_ ?_
 ·intro h13;have he : ¬ e11 = 0 := (by have h := h13; simpa using h);obtain rfl : U = treeR s := rowT_no hq he;refine k_ 8 ?_;refine nmono (fun a w h => mkrep (s := s) [2, 2, 2, 2, 2, 2, 2, 0, 0] rfl ⟨rfl, rfl, rfl, rfl, rfl⟩ h) ?_;exact rR [0] ⟨(s, e11), (chR_no hq he).symm⟩
 ·intro h13;obtain rfl : e11 = 0 := (by have h := h13; simpa using h);refine k_ 3 ?_;refine cd [6, 7, 10] [(4, pr, 1, _)] TryzX.mixed (tB 1 TOk.d) ?_;refine u_ 0 2 ?_;refine tk 2 rfl Ψ Υ gnone (TTany _) (p_nilck rfl) rfl ?_;refine u_ 3 3 ?_;refine df 6 Ψ ?_;refine doR rfl (o_call (is := []) call57 (c_copied l B c' (by omega) hlf) rfl rfl Ω rfl) (TOk.t (isBoxE fun _ => isBoxS Θ (k := 1) Δ) TOk.d) ?_;refine ea ?_; rintro ⟨A21, c21⟩;refine amono (fun a w h => Go.Sx.freeze (i := 0) rfl h) ?_;refine df 7 Ψ ?_;refine doR rfl (o_appX (i := 7) underlying40 inf103 rfl (by decide) (by decide) rfl rfl (by omega) rfl Ω rfl) tX ?_;refine ea ?_; rintro ⟨A22, c22⟩;refine tk 8 rfl Ψ Υ gnone (TTany _) (p_nilck rfl) rfl ?_;refine u_ 9 1 ?_;refine df 10 Ψ ?_;refine doR rfl (o_st rfl sizeOf40 rfl rfl rfl rfl rfl Θ Θ Θ) tX ?_;refine dn Ψ ?_;refine k_ 8 ?_;refine nmono (fun a w h => mkrep (s := ⟨s.log, s.pend ++ l, s.shv⟩) [3, 3, 3, 3, 3, 0, 2, 0, 0] rfl ⟨rfl, rfl, rfl, rfl, (chR_tree hI hq).symm⟩ h) ?_;exact rR [0] ⟨(⟨s.log, s.pend ++ l, s.shv⟩, 0), (chR_yes hq).symm⟩
theorem shy_mem {S : List Sh.File} {x : Sh.File} (h : x ∈ S) : x.2.length ≤ shy S := by
 induction S with
 | nil => cases h
 | cons y S ih =>
  unfold shy at ih ⊢;rw [List.map_cons, List.sum_cons];rcases List.mem_cons.1 h with rfl | h
  ·omega
  ·have := ih h; omega
theorem RepI.shl {m n : Nat} {s : RS} (h : RepI m n s) (nm : ByteArray) : (getL s.shv nm).length ≤ n := by
 unfold getL;cases e : getT s.shv nm with
 | none => exact Nat.zero_le _
 | some l =>
  have h1 : l.length ≤ shy s.shv := shy_mem ((getT_some h.so).1 e);have h2 := h.y;simp only [Option.getD_some]; omega
theorem RepI.shf {m n : Nat} {s : RS} (h : RepI m n s) (nm : ByteArray) : ∀ p ∈ getL s.shv nm, p.fit := by
 unfold getL;cases e : getT s.shv nm with
 | none => intro p hp; cases hp
 | some l => exact (h.sfit _ ((getT_some h.so).1 e)).2.2
theorem c_repNew : Con Tryz.prog 33 [] [] [] Nat (fun pr => pT pr) (fun pr => [repoX 56 124 139 63 103 (pr) (⟨[], [], []⟩)]) (fun _ => []) := by
 refine con func33 rfl ntmps33 rfl ?_;intro M0 F0 w0;refine k_ 7 ?_;refine lC [] call78 (c_logNew) ?_; rintro ⟨pl, p, b⟩;refine k_ 1 ?_;refine ls (o_mmk (β := Prim) rfl) ?_;refine le ?_; intro mb;refine lC [] call79 (c_tNew) ?_; rintro ⟨pt, bt⟩;refine k_ 1 ?_;refine ls (o_box rfl rfl rfl) ?_;refine le ?_; intro b6;refine k_ 5 ?_;refine nmono (fun a w h => nilRow (α := Patch) 63 h) ?_;refine nmono (fun a w h => nilRow (α := Prim) 103 h) ?_;refine nmono (fun a w h => mkrep (s := ⟨[], [], []⟩) [2, 5, 1, 4, 4, 0, 2, 0, 0] rfl ⟨rfl, rfl, rfl, rfl, rfl⟩ h) ?_;exact rR [0] b6
theorem c_recBase (pl p b : Nat) (T : List File) (s0 : Value) : Con Tryz.prog 41 [.agg #[pT pl]] [box pl 124 [s0, pT p], box p 139 [.map (some b)], tr b T] [] (Nat × Nat) (fun y => pT y.1) (fun y => [box y.1 139 [.map (some y.2)], tr y.2 T, box pl 124 [s0, pT p], box p 139 [.map (some b)], tr b T]) (fun _ => []) := by
 refine con func41 rfl ntmps41 rfl ?_;intro M0 F0 w0;refine k_ 2 ?_;refine ls (o_box rfl rfl rfl) ?_;refine le ?_; intro b1;refine k_ 7 ?_;refine lC [1, 1, 1] call88 (c_logTree pl p b T s0) ?_; rintro ⟨p5, b5⟩;refine k_ 5 ?_;exact rR [0, 0, 0, 0, 0] (p5, b5)
theorem c_recLog (l : List Patch) (A : Option Addr) (c : Nat) (hl : l.length ≤ 2000000) (hf : ∀ q ∈ l, q.fit) (pl p b : Nat) (T : List File) : Con Tryz.prog 22 [.agg #[pT pl]] [box pl 124 [.slice A l.length c, pT p], row 63 A c l, box p 139 [.map (some b)], tr b T] [] ((Option Addr × Nat) × (Nat × Nat × Nat)) (fun y => pT y.2.1) (fun y => [box y.2.1 124 [.slice y.1.1 l.length y.1.2, pT y.2.2.1], row 63 y.1.1 y.1.2 l, box y.2.2.1 139 [.map (some y.2.2.2)], tr y.2.2.2 T, box pl 124 [.slice A l.length c, pT p], row 63 A c l, box p 139 [.map (some b)], tr b T]) (fun _ => []) := by
 refine con func22 rfl ntmps22 rfl ?_;intro M0 F0 w0;refine k_ 2 ?_;refine ls (o_box rfl rfl rfl) ?_;refine le ?_; intro b1;refine k_ 7 ?_;refine lC [1, 1, 1, 1] call65 (c_logCopy l A c hl hf pl p b T) ?_; intro y5;refine k_ 5 ?_;exact rR [0, 0, 0, 0, 0, 0, 0, 0] y5
theorem c_repPendO (l : List Prim) (A : Option Addr) (c : Nat) (hl : l.length ≤ 2000000) (hf : ∀ x ∈ l, x.fit) (pr : Nat) (v0 v2 v3 : Value) : Con Tryz.prog 24 [pT pr] [box pr 56 [v0, .slice A l.length c, v2, v3], row 103 A c l] [] (Option Addr × Nat) (fun y => .slice y.1 l.length y.2) (fun y => [row 103 y.1 y.2 l, box pr 56 [v0, .slice A l.length c, v2, v3], row 103 A c l]) (fun _ => []) := by
 refine con func24 rfl ntmps24 rfl ?_;intro M0 F0 w0;refine k_ 8 ?_;refine ls (op (p_nilck rfl) rfl) ?_;refine k_ 2 ?_;refine lC [1] call57 (c_copiedW l A c hl hf) ?_; intro y7;refine k_ 5 ?_;exact rR [0, 1, 0] y7
theorem c_repTreeO (p b : Nat) (T : List File) (pr : Nat) (v0 v1 v2 : Value) : Con Tryz.prog 32 [pT pr] [box pr 56 [v0, v1, v2, pT p], box p 139 [.map (some b)], tr b T] [] (Nat × Nat) (fun y => pT y.1) (fun y => [box y.1 139 [.map (some y.2)], tr y.2 T, box pr 56 [v0, v1, v2, pT p], box p 139 [.map (some b)], tr b T]) (fun _ => []) := by
 refine con func32 rfl ntmps32 rfl ?_;intro M0 F0 w0;refine k_ 8 ?_;refine ls (op (p_nilck rfl) rfl) ?_;refine k_ 2 ?_;refine lC [1, 1] call77 (c_tCopy p b T) ?_; rintro ⟨p7, b7⟩;refine k_ 5 ?_;exact rR [0, 0, 2, 0, 0] (p7, b7)
theorem c_repPending (pr : Nat) (s : RS) (m n : Nat) (hI : RepI m n s) (hm : m ≤ 100000) (hn : n ≤ 100000) : Con Tryz.prog 24 [pT pr] [repoX 56 124 139 63 103 (pr) (s)] [] (Option Addr × Nat) (fun y => .slice y.1 s.pend.length y.2) (fun y => [row 103 y.1 y.2 s.pend, repoX 56 124 139 63 103 (pr) (s)]) (fun _ => []) := by
 refine con func24 rfl ntmps24 rfl ?_;intro M0 F0 w0;refine k_ 6 ?_;have hpl : s.pend.length ≤ 900000 := (by have := hI.y; omega);refine unrepC (i := 0) rfl ?_; intro pl p b A cA Qa cQ mb pt bt;refine k_ 2 ?_;refine ls (op (p_nilck rfl) rfl) ?_;refine k_ 2 ?_;refine lC [5] call57 (c_copiedW s.pend Qa cQ (by omega) hI.fit) ?_; intro y7;refine k_ 5 ?_;refine nmono (fun a w h => mkrep (s := s) [2, 2, 2, 2, 2, 1, 1, 1, 1] rfl ⟨rfl, rfl, rfl, rfl, rfl⟩ h) ?_;exact rR [1, 0] y7
theorem c_repCopy (pr : Nat) (s : RS) (m n : Nat) (hI : RepI m n s) (hm : m ≤ 100000) (hn : n ≤ 100000) : Con Tryz.prog 25 [pT pr] [repoX 56 124 139 63 103 (pr) (s)] [] Nat (fun y => pT y) (fun y => [repoX 56 124 139 63 103 (y) (s), repoX 56 124 139 63 103 (pr) (s)]) (fun _ => []) := by
 refine con func25 rfl ntmps25 rfl ?_;intro M0 F0 w0;refine k_ 6 ?_;have hpl : s.pend.length ≤ 900000 := (by have := hI.y; omega);have hlg := hI.log.len;refine unrepC (i := 0) rfl ?_; intro pl p b A cA Qa cQ mb pt bt;refine cd [4, 7, 12, 14, 16] [(3, pr, 0, _), (11, pr, 2, _)] TryzX.mixed (tB 1 (tB 1 TOk.d)) ?_;refine u_ 0 1 ?_;refine tk 1 rfl Ψ Υ gnone (TTany _) (p_nilck rfl) rfl ?_;refine u_ 2 2 ?_;refine u_ 6 1 ?_;refine u_ 8 1 ?_;refine tk 9 rfl Ψ Υ gnone (TTany _) (p_nilck rfl) rfl ?_;refine u_ 10 2 ?_;refine u_ 13 1 ?_;refine df 4 Ψ ?_;refine doR rfl (o_call (is := [1, 1, 1, 1]) call22 (c_recLog s.log A cA (by omega) hI.log.ok.fit pl p b (treeP s.log)) rfl rfl Ω rfl) (TOk.x Ψ (TOk.t (isBoxE fun _ => isBoxS Θ (k := 1) Δ) TOk.d)) ?_;refine ea ?_; rintro ⟨⟨A7, c7⟩, ⟨l7, p7, b7⟩⟩;refine u_ 5 1 ?_;refine df 7 Ψ ?_;refine doR rfl (o_call (is := [8, 8]) call24 (c_repPendO s.pend Qa cQ (by omega) hI.fit pr (pT pl) (.map (some mb)) (pT pt)) rfl rfl Ω rfl) (TOk.x Ψ (TOk.t (isBoxE fun _ => isBoxS Θ (k := 1) Δ) TOk.d)) ?_;refine ea ?_; rintro ⟨A10, c10⟩;refine df 12 Ψ ?_;refine doR rfl (o_call (is := [11]) call67 (c_sh_mClone mb s.shv) rfl rfl Ω rfl) tX ?_;refine ea ?_; intro m15;refine df 14 Ψ ?_;refine doR rfl (o_call (is := [3, 12, 12]) call32 (c_repTreeO pt bt (treeR s) pr (pT pl) (.slice Qa s.pend.length cQ) (.map (some mb))) rfl rfl Ω rfl) tX ?_;refine ea ?_; rintro ⟨p17, b17⟩;refine u_ 15 1 ?_;refine df 16 Ψ ?_;refine doR rfl (o_box rfl rfl rfl) tX ?_;refine ea ?_; intro b19;refine u_ 17 1 ?_;refine dn Ψ ?_;refine k_ 3 ?_;refine nmono (fun a w h => mkrep (s := s) [0, 9, 9, 9, 9, 7, 5, 0, 0] rfl ⟨rfl, rfl, rfl, rfl, rfl⟩ h) ?_;refine nmono (fun a w h => mkrep (s := s) [1, 5, 5, 5, 5, 4, 3, 1, 1] rfl ⟨rfl, rfl, rfl, rfl, rfl⟩ h) ?_;exact rR [1, 0] b19
theorem c_repShelf (pr : Nat) (s : RS) (m n : Nat) (hI : RepI m n s) (hm : m ≤ 100000) (hn : n ≤ 100000) (nm : ByteArray) : Con Tryz.prog 51 [pT pr, .string nm] [repoX 56 124 139 63 103 (pr) (s)] [] (Option Addr × Nat) (fun y => .tuple #[.slice y.1 (getL s.shv nm).length y.2, .bool (hasT s.shv nm)]) (fun y => [row 103 y.1 y.2 (getL s.shv nm), repoX 56 124 139 63 103 (pr) (s)]) (fun _ => []) := by
 refine con func51 rfl ntmps51 rfl ?_;intro M0 F0 w0;refine k_ 7 ?_;have hsl := hI.shl nm;refine unrepC (i := 0) rfl ?_; intro pl p b A cA Qa cQ mb pt bt;refine k_ 2 ?_;refine ls (op (p_nilck rfl) rfl) ?_;refine k_ 3 ?_;refine ls (o_look underlying53 underlying9 zeroValue40 rfl rfl Θ rfl) ?_;refine le ?_; rintro y14;refine k_ 10 ?_;refine lC [] call57 (c_copied (getL s.shv nm) y14.1 y14.2 (by omega) (hI.shf nm)) ?_; intro y18;refine k_ 7 ?_;refine nmono (fun a w h => mkrep (s := s) [1, 1, 1, 1, 1, 1, 1, 1, 1] rfl ⟨rfl, rfl, rfl, rfl, rfl⟩ h) ?_;exact rR [1, 0] y18
theorem c_repShelves (pr : Nat) (s : RS) (m n : Nat) (hI : RepI m n s) (hm : m ≤ 100000) (hn : n ≤ 100000) : Con Tryz.prog 53 [pT pr] [repoX 56 124 139 63 103 (pr) (s)] [] (Option Addr × Nat) (fun y => .slice y.1 s.shv.length y.2) (fun y => [row 9 y.1 y.2 (s.shv.map (·.1)), repoX 56 124 139 63 103 (pr) (s)]) (fun _ => []) := by
 refine con func53 rfl ntmps53 rfl ?_;intro M0 F0 w0;refine k_ 6 ?_;have hc3 := hI.c3;refine unrepC (i := 0) rfl ?_; intro pl p b A cA Qa cQ mb pt bt;refine k_ 2 ?_;refine ls (op (p_nilck rfl) rfl) ?_;refine k_ 2 ?_;refine lC [] call103 (c_sh_mKeys mb) ?_; intro b7;refine lC [0, 6] call102 (c_sh_tSorted mb b7 s.shv (by omega)) ?_; intro y8;refine k_ 5 ?_;refine nmono (fun a w h => mkrep (s := s) [3, 3, 3, 3, 3, 3, 2, 2, 2] rfl ⟨rfl, rfl, rfl, rfl, rfl⟩ h) ?_;exact rR [1, 0] y8
def rUndo (s : RS) (files : List ByteArray) : (RS × (List Prim × List Prim)) × Int :=
 if (splR s.pend files true).2 = [] then ((s, ([], [])), 141) else ((⟨s.log, (splR s.pend files true).1, s.shv⟩, ((splR s.pend files true).2, invL (splR s.pend files true).2)), 0)
theorem und_no {s : RS} {files : List ByteArray} {F : List Prim} (hr : (F, []) = splR s.pend files true) : rUndo s files = ((s, ([], [])), 141) := by unfold rUndo; rw [← hr, if_pos rfl]
theorem und_yes {s : RS} {files : List ByteArray} {F R : List Prim} (hr : (F, R) = splR s.pend files true) (h0 : ¬ R = []) : rUndo s files = ((⟨s.log, F, s.shv⟩, (R, invL R)), 0) := by unfold rUndo; rw [← hr, if_neg h0]
theorem und_U {m n : Nat} {s : RS} (hI : RepI m n s) {files : List ByteArray} {F R : List Prim} (hr : (F, R) = splR s.pend files true) (h0 : ¬ R = []) {U : List File} {e : Int} (hq : (U, e) = rowT (treeR s) (invL R)) : U = treeR ⟨s.log, F, s.shv⟩ := by
 have h := (hI.revert files).2.2;unfold rRevert at h;rw [← hr, if_neg h0] at h;have h := h rfl;dsimp only at h;rw [h] at hq;exact congrArg Prod.fst hq
theorem rRevert_eq {s : RS} {files : List ByteArray} : rRevert s files = (((rUndo s files).1.1, (rUndo s files).1.2.2), (rUndo s files).2) := by unfold rRevert rUndo; split <;> rfl
theorem c_repUndo (pr : Nat) (s : RS) (m n : Nat) (hI : RepI m n s) (hm : m ≤ 100000) (hn : n ≤ 100000) (files : List ByteArray) (B : Option Addr) (c' : Nat) (hfl : files.length ≤ 2000000) : Con Tryz.prog 93 [pT pr, .slice B files.length c'] [repoX 56 124 139 63 103 (pr) (s)] [slA B files] {x : ((RS × (List Prim × List Prim)) × Int) × ((Option Addr × Nat) × (Option Addr × Nat)) // x.1 = rUndo s files} (fun x => .tuple #[.slice x.1.2.1.1 x.1.1.1.2.1.length x.1.2.1.2, .slice x.1.2.2.1 x.1.1.1.2.2.length x.1.2.2.2, .int .i64 x.1.1.2]) (fun x => [repoX 56 124 139 63 103 (pr) (x.1.1.1.1)]) (fun x => [slA x.1.2.1.1 x.1.1.1.2.1, nilA x.1.2.1, slA x.1.2.2.1 x.1.1.1.2.2, nilA x.1.2.2, capA x.1.2.1.2 x.1.1.1.2.1.length, capA x.1.2.2.2 x.1.1.1.2.2.length]) := by
 refine con func93 rfl ntmps93 rfl ?_;intro M0 F0 w0;refine k_ 2 ?_;refine ls (o_box rfl rfl rfl) ?_;refine le ?_; intro b3;refine k_ 6 ?_;have hpl : s.pend.length ≤ 900000 := (by have := hI.y; omega);have hs := hI.split files true;refine unrepC (i := 1) rfl ?_; intro pl p b A cA Qa cQ mb pt bt;refine k_ 2 ?_;refine ls (op (p_nilck rfl) rfl) ?_;refine k_ 2 ?_;refine ls (op (p_mkf rfl) rfl) ?_;refine lC [5, 8] call122 (c_seqSplitW s.pend Qa cQ hpl hI.fit (spW s.pend files true) 151 [pT b3] [slA B files] (fun _ => box b3 73 [.slice B files.length c']) call151 (fun k hk y => by rw [spW_t hk]; exact c_undo1 k s.pend[k] y files B c' hfl b3)) ?_; rintro ⟨⟨⟨F, R⟩, ⟨⟨A1, c1⟩, ⟨A2, c2⟩⟩⟩, hr⟩;dsimp only at hr;have hsz := hs.z;have hsy := hs.y;have hsr := hs.fr;rw [show (splR s.pend files true) = (F, R) from hr.symm] at hsz hsy hsr;dsimp only at hsz hsy hsr;have hii := invL_len R;have hil := lns_inv R;have hIz := hI.z;have hIy := hI.y;refine k_ 15 ?_;refine cc rfl ?_ ?_
 ·intro h19;(try simp only [nrmZ] at h19);obtain rfl : R = [] := List.eq_nil_of_length_eq_zero (by omega);refine k_ 9 ?_;refine nmono (fun a w h => mkrep (s := s) [4, 4, 4, 4, 4, 2, 3, 3, 3] rfl ⟨rfl, rfl, rfl, rfl, rfl⟩ h) ?_;refine nmono (fun a w h => nilRow (α := Prim) 103 h) ?_;refine nmono (fun a w h => freezeN (i := 0) rfl h) ?_;exact rR [0] ⟨(((s, ([], [])), 141), ((none, 0), (none, 0))), (und_no hr).symm⟩
 ·intro h19;(try simp only [nrmZ] at h19);have hR0 : ¬ R = [] := fun e => by have h : R.length = 0 := congrArg List.length e; omega
  refine k_ 5 ?_;refine lC [1] call91 (c_seqInvertW R A2 c2 (by omega) hsr) ?_; rintro ⟨A21, c21⟩;refine lmono (fun a w h => freezeN (i := 0) rfl h) ?_;refine lmono (fun a w h => freezeN (i := 0) rfl h) ?_;refine lpure (St.cap (m := (invL R).length) (c := c21) Θ) ?_;intro hcap21;refine k_ 6 ?_;refine ls (op (p_nilck rfl) rfl) ?_;refine k_ 3 ?_;refine lC [9, 9] call43 (c_seqApply pt bt (treeR s) (m + m) (n + n) hI.app (invL R) A21 c21 hcap21 (by omega) (invL_fit hsr) (by omega) (by omega)) ?_; rintro ⟨⟨U, e27⟩, hq⟩;obtain rfl : U = treeR ⟨s.log, F, s.shv⟩ := und_U hI hr hR0 hq;refine k_ 6 ?_;refine ls (op (p_nilck rfl) rfl) ?_;refine k_ 15 ?_;refine nmono (fun a w h => mkrep (s := ⟨s.log, F, s.shv⟩) [5, 5, 5, 5, 5, 2, 4, 0, 0] rfl ⟨rfl, rfl, rfl, rfl, rfl⟩ h) ?_;exact rR [0] ⟨(((⟨s.log, F, s.shv⟩, (R, invL R)), 0), ((A2, c2), (A21, c21))), (und_yes hr hR0).symm⟩
theorem c_repRevert (pr : Nat) (s : RS) (m n : Nat) (hI : RepI m n s) (hm : m ≤ 100000) (hn : n ≤ 100000) (files : List ByteArray) (B : Option Addr) (c' : Nat) (hfl : files.length ≤ 2000000) : Con Tryz.prog 45 [pT pr, .slice B files.length c'] [repoX 56 124 139 63 103 (pr) (s)] [slA B files] {x : ((RS × List Prim) × Int) × (Option Addr × Nat) // x.1 = rRevert s files} (fun x => .tuple #[.slice x.1.2.1 x.1.1.1.2.length x.1.2.2, .int .i64 x.1.1.2]) (fun x => [repoX 56 124 139 63 103 (pr) (x.1.1.1.1)]) (fun x => [slA x.1.2.1 x.1.1.1.2, nilA x.1.2, capA x.1.2.2 x.1.1.1.2.length]) := by
 refine con func45 rfl ntmps45 rfl ?_;intro M0 F0 w0;refine k_ 10 ?_;refine lC [0] call93 (c_repUndo pr s m n hI hm hn files B c' hfl) ?_; rintro ⟨⟨⟨⟨s1, g, v⟩, e12⟩, ⟨⟨A1, c1⟩, ⟨A2, c2⟩⟩⟩, hr⟩;dsimp only at hr;refine k_ 19 ?_;exact rR [0] ⟨(((s1, v), e12), (A2, c2)), by rw [rRevert_eq, ← hr]⟩
theorem shelve_no {s : RS} {nm : ByteArray} {files : List ByteArray} (h : nameOk nm = false ∨ hasT s.shv nm = true ∨ 3 ≤ s.shv.length) : rShelve s nm files = ((s, []), 140) := by unfold rShelve; rw [if_pos h]
theorem shelve_yes {s s1 : RS} {nm : ByteArray} {files : List ByteArray} {g v : List Prim} {e : Int} (hr : ((s1, (g, v)), e) = rUndo s files) (h : ¬ (nameOk nm = false ∨ hasT s.shv nm = true ∨ 3 ≤ s.shv.length)) : rShelve s nm files = (((if e = 0 then ⟨s1.log, s1.pend, putT s1.shv nm g⟩ else s1), v), e) := by
 unfold rShelve;unfold rUndo at hr;rw [if_neg h]
 split at hr
 ·rename_i h1
  obtain ⟨⟨rfl, rfl, rfl⟩, rfl⟩ : (s1 = s ∧ g = [] ∧ v = []) ∧ e = 141 := (by simpa [Prod.ext_iff] using hr);rw [if_pos h1]; rfl
 ·rename_i h1
  rw [if_neg h1];obtain ⟨rfl, h2⟩ : s1 = ⟨s.log, (splR s.pend files true).1, s.shv⟩ ∧ ((g, v), e) = (((splR s.pend files true).2, invL (splR s.pend files true).2), (0 : Int)) := by
   refine ⟨congrArg (fun x => x.1.1) hr, ?_⟩;exact Prod.ext (congrArg (fun x => x.1.2) hr) (congrArg (fun x => x.2) hr)
  cases h2
  rfl
theorem shg_t {a b : Bool} {n : Nat} (h : (a || !b || decide ((n : Int) ≥ 3)) = true) : b = false ∨ a = true ∨ 3 ≤ n := by
 simp only [Bool.or_eq_true, Bool.not_eq_true', decide_eq_true_eq] at h;rcases h with (h | h) | h
 ·exact .inr (.inl h)
 ·exact .inl h
 ·exact .inr (.inr (by omega))
theorem shg_f {a b : Bool} {n : Nat} (h : (a || !b || decide ((n : Int) ≥ 3)) = false) : ¬ (b = false ∨ a = true ∨ 3 ≤ n) := by
 simp only [Bool.or_eq_false_iff, Bool.not_eq_false', decide_eq_false_iff_not] at h;rintro (g | g | g)
 ·rw [h.1.2] at g; cases g
 ·rw [h.1.1] at g; cases g
 ·omega
theorem shz_mem {S : List Sh.File} {x : Sh.File} (h : x ∈ S) : lns x.2 ≤ shz S := by
 induction S with
 | nil => cases h
 | cons y S ih =>
  unfold shz at ih ⊢;rw [List.map_cons, List.sum_cons];rcases List.mem_cons.1 h with rfl | h
  ·omega
  ·have := ih h; omega
theorem RepI.shz' {m n : Nat} {s : RS} (h : RepI m n s) (nm : ByteArray) : lns (getL s.shv nm) ≤ m := by
 unfold getL;cases e : getT s.shv nm with
 | none => exact Nat.zero_le _
 | some l =>
  have h1 : lns l ≤ shz s.shv := shz_mem ((getT_some h.so).1 e);have h2 := h.z;simp only [Option.getD_some]; omega
theorem unsh_no0 {s : RS} {nm : ByteArray} (h : hasT s.shv nm = false) : rUnshelve s nm = ((s, []), 140) := by unfold rUnshelve; rw [if_pos h]
theorem unsh_no {s s1 : RS} {nm : ByteArray} {e : Int} (h : hasT s.shv nm = true) (hr : (s1, e) = rChange s (getL s.shv nm)) (he : ¬ e = 0) : rUnshelve s nm = ((s1, []), e) := by
 unfold rUnshelve;unfold rChange at hr;rw [if_neg (by rw [h]; simp)]
 split at hr
 ·cases hr; exact absurd rfl he
 ·rename_i h1
  rw [if_neg h1]; cases hr; rfl
theorem unsh_yes {s s1 : RS} {nm : ByteArray} (h : hasT s.shv nm = true) (hr : (s1, 0) = rChange s (getL s.shv nm)) : rUnshelve s nm = ((⟨s1.log, s1.pend, delT s1.shv nm⟩, getL s.shv nm), 0) := by
 unfold rUnshelve;unfold rChange at hr;rw [if_neg (by rw [h]; simp)]
 split at hr
 ·rename_i h1
  rw [if_pos h1]; cases hr; rfl
 ·rename_i h1
  exact absurd (congrArg Prod.snd hr).symm h1
theorem c_repShelve (pr : Nat) (s : RS) (m n : Nat) (hI : RepI m n s) (hm : m ≤ 100000) (hn : n ≤ 100000) (nm : ByteArray) (files : List ByteArray) (B : Option Addr) (c' : Nat) (hfl : files.length ≤ 2000000) : Con Tryz.prog 46 [pT pr, .string nm, .slice B files.length c'] [repoX 56 124 139 63 103 (pr) (s)] [slA B files] {x : ((RS × List Prim) × Int) × (Option Addr × Nat) // x.1 = rShelve s nm files} (fun x => .tuple #[.slice x.1.2.1 x.1.1.1.2.length x.1.2.2, .int .i64 x.1.1.2]) (fun x => [repoX 56 124 139 63 103 (pr) (x.1.1.1.1)]) (fun x => [slA x.1.2.1 x.1.1.1.2, nilA x.1.2, capA x.1.2.2 x.1.1.1.2.length]) := by
 refine con func46 rfl ntmps46 rfl ?_;intro M0 F0 w0;refine k_ 8 ?_;refine unrepC (i := 0) rfl ?_; intro pl p b A cA Qa cQ mb pt bt;refine k_ 2 ?_;refine ls (op (p_nilck rfl) rfl) ?_;refine k_ 3 ?_;refine ls (o_look underlying53 underlying9 zeroValue40 rfl rfl Θ rfl) ?_;refine le ?_; rintro y19;refine k_ 11 ?_;refine orX 4 23 27 rfl (sL [0, 1, 2, 6, 7, 14, 15, 16, 17, 18, 19, 13, 20, 21]) ?_ ?_
 ·intro h23;refine k_ 4 ?_;refine ln (nmid (wk0 Φ Ω))
 apply exI
 ·intro h23;refine k_ 1 ?_;refine lwant rfl rfl rfl rfl (o_call (is := []) call94 (c_treeNamed nm) rfl rfl Ω rfl) ?_;refine le ?_; intro x25;refine k_ 2 ?_;refine ln (nmid (wk0 Φ Ω))
 ·
  refine k_ 1 ?_;refine orX 7 28 35 rfl (sL [0, 1, 2, 6, 7, 14, 15, 16, 17, 18, 19, 13, 20, 21]) ?_ ?_
  ·intro h28;refine k_ 7 ?_;refine ln (nmid (wk0 Φ Ω))
  apply exI
  ·intro h28;refine k_ 1 ?_;refine lwant rfl rfl rfl rfl (op (p_nilck rfl) rfl) ?_;refine k_ 2 ?_;refine lwant rfl rfl rfl rfl (o_lenm underlying53 rfl Θ rfl) ?_;refine k_ 2 ?_;refine ln (nmid (wk0 Φ Ω))
  ·
   refine k_ 2 ?_;refine cc rfl ?_ ?_
   ·intro h35;refine k_ 8 ?_;refine nmono (fun a w h => mkrep (s := s) [0, 0, 0, 0, 0, 0, 0, 0, 0] rfl ⟨rfl, rfl, rfl, rfl, rfl⟩ h) ?_;refine nmono (fun a w h => nilRow (α := Prim) 103 h) ?_;refine nmono (fun a w h => freezeN (i := 0) rfl h) ?_;exact rR [0] ⟨(((s, []), 140), (none, 0)), (shelve_no (shg_t h35)).symm⟩
   ·intro h35;refine k_ 3 ?_;refine cmono (fun a w h => mkrep (s := s) [0, 0, 0, 0, 0, 0, 0, 0, 0] rfl ⟨rfl, rfl, rfl, rfl, rfl⟩ h) ?_;refine k_ 3 ?_;refine lC [0] call93 (c_repUndo pr s m n hI hm hn files B c' hfl) ?_; rintro ⟨⟨⟨⟨s1, g, v⟩, e39⟩, ⟨⟨A1, c1⟩, ⟨A2, c2⟩⟩⟩, hr⟩;dsimp only at hr;refine k_ 16 ?_;refine cc rfl ?_ ?_
    ·intro h44;(try simp only [nrmZ] at h44);refine unrepC (i := 0) rfl ?_; intro pl' p' b' A' cA' Qa' cQ' mb' pt' bt';refine k_ 2 ?_;refine ls (op (p_nilck rfl) rfl) ?_;refine k_ 4 ?_;refine ls (o_mupd (i := 6) underlying53 underlying9 rfl rfl rfl rfl Ω) ?_;refine k_ 12 ?_;refine nmono (fun a w h => mkrep (s := ⟨s1.log, s1.pend, putT s1.shv nm g⟩) [1, 1, 1, 1, 1, 1, 0, 0, 0] rfl ⟨rfl, rfl, rfl, rfl, rfl⟩ h) ?_;exact rR [0] ⟨(((⟨s1.log, s1.pend, putT s1.shv nm g⟩, v), e39), (A2, c2)), by rw [shelve_yes hr (shg_f h35), if_pos h44]⟩
    ·intro h44;(try simp only [nrmZ] at h44);refine k_ 12 ?_;exact rR [0] ⟨(((s1, v), e39), (A2, c2)), by rw [shelve_yes hr (shg_f h35), if_neg h44]⟩
theorem c_repUnshelve (pr : Nat) (s : RS) (m n : Nat) (hI : RepI m n s) (hm : m ≤ 100000) (hn : n ≤ 100000) (nm : ByteArray) : Con Tryz.prog 47 [pT pr, .string nm] [repoX 56 124 139 63 103 (pr) (s)] [] {x : ((RS × List Prim) × Int) × (Option Addr × Nat) // x.1 = rUnshelve s nm} (fun x => .tuple #[.slice x.1.2.1 x.1.1.1.2.length x.1.2.2, .int .i64 x.1.1.2]) (fun x => [repoX 56 124 139 63 103 (pr) (x.1.1.1.1)]) (fun x => [slA x.1.2.1 x.1.1.1.2, nilA x.1.2, capA x.1.2.2 x.1.1.1.2.length]) := by
 refine con func47 rfl ntmps47 rfl ?_;intro M0 F0 w0;refine k_ 7 ?_;have hsl := hI.shl nm;have hsz := hI.shz' nm;refine k_ 3 ?_;refine lC [0] call51 (c_repShelf pr s m n hI hm hn nm) ?_; rintro ⟨A12, c12⟩;refine lmono (fun a w h => freezeN (i := 0) rfl h) ?_;refine lpure (St.cap (m := (getL s.shv nm).length) (c := c12) Θ) ?_;intro hcap12;refine k_ 14 ?_;refine cc rfl ?_ ?_
 ·intro h16;(try simp only [nrmZ] at h16);refine k_ 8 ?_;refine nmono (fun a w h => nilRow (α := Prim) 103 h) ?_;refine nmono (fun a w h => freezeN (i := 0) rfl h) ?_;exact rR [0] ⟨(((s, []), 140), (none, 0)), (unsh_no0 h16).symm⟩
 ·intro h16;(try simp only [nrmZ] at h16);refine k_ 7 ?_;refine lC [0] call50 (c_repChange pr s m n hI hm hn (getL s.shv nm) A12 c12 hcap12 (hI.shf nm) (by omega) (by omega)) ?_; rintro ⟨⟨s1, e19⟩, hr⟩;(try dsimp only at hr);refine k_ 9 ?_;refine cc rfl ?_ ?_
  ·intro h21;have he : ¬ e19 = 0 := (by have h := h21; simpa using h);refine k_ 9 ?_;refine nmono (fun a w h => nilRow (α := Prim) 103 h) ?_;refine nmono (fun a w h => freezeN (i := 0) rfl h) ?_;exact rR [0] ⟨(((s1, []), e19), (none, 0)), (unsh_no h16 hr he).symm⟩
  ·intro h21;obtain rfl : e19 = 0 := (by have h := h21; simpa using h);refine k_ 3 ?_;refine unrepC (i := 0) rfl ?_; intro pl p b A cA Qa cQ mb pt bt;refine k_ 2 ?_;refine ls (op (p_nilck rfl) rfl) ?_;refine k_ 3 ?_;refine ls (o_mdel0 (i := 6) underlying53 underlying9 rfl rfl rfl) ?_;refine k_ 11 ?_;refine nmono (fun a w h => mkrep (s := ⟨s1.log, s1.pend, delT s1.shv nm⟩) [1, 1, 1, 1, 1, 1, 0, 0, 0] rfl ⟨rfl, rfl, rfl, rfl, rfl⟩ h) ?_;exact rR [0] ⟨(((⟨s1.log, s1.pend, delT s1.shv nm⟩, getL s.shv nm), 0), (A12, c12)), (unsh_yes h16 hr).symm⟩
theorem c_logLastQY (l : List Patch) (A : Option Addr) (c : Nat) (hl : l.length ≤ 2000000) (hq0 : Option Addr × Nat) (hf : ∀ q ∈ l, q.fit) (hc : l.length ≤ c) (hA : A = none → c = 0) (pl p : Nat) (v : Int) (h0 : (lastP l v).2 = 0) : Con Tryz.prog 121 [pT pl, .int .i64 v] [row 63 A c (fzq l hq0), oX 103 (l) (hq0), box pl 124 [.slice A l.length c, pT p]] [] {x : List Patch × ((Option Addr × Nat) × (Option Addr × Nat)) // x.1 = (lastP l v).1} (fun _ => .int .i64 0) (fun x => [row 63 x.1.2.1.1 x.1.2.1.2 (fzq x.1.1 x.1.2.2), oX 103 (x.1.1) (x.1.2.2), box pl 124 [.slice x.1.2.1.1 x.1.1.length x.1.2.1.2, pT p]]) (fun _ => []) := by
 intro M0 Fs w hh;refine (c_logLastQ l A c hl hq0 hf hc hA pl p v M0 Fs w hh).mono ?_;rintro e w' ⟨x, Fs', rfl, h⟩;have hx : x.1.1.2 = 0 := (by rw [x.2]; exact h0);refine ⟨⟨(x.1.1.1, x.1.2), congrArg Prod.fst x.2⟩, Fs', by dsimp only; rw [hx], ?_⟩;dsimp only at h;rw [if_pos hx] at h;exact h
theorem c_logLastQN (l : List Patch) (A : Option Addr) (c : Nat) (hl : l.length ≤ 2000000) (hq0 : Option Addr × Nat) (hf : ∀ q ∈ l, q.fit) (hc : l.length ≤ c) (hA : A = none → c = 0) (pl p : Nat) (v : Int) (h0 : ¬ (lastP l v).2 = 0) : Con Tryz.prog 121 [pT pl, .int .i64 v] [row 63 A c (fzq l hq0), oX 103 (l) (hq0), box pl 124 [.slice A l.length c, pT p]] [] Unit (fun _ => .int .i64 (lastP l v).2) (fun _ => []) (fun _ => []) := by
 intro M0 Fs w hh;refine (c_logLastQ l A c hl hq0 hf hc hA pl p v M0 Fs w hh).mono ?_;rintro e w' ⟨x, Fs', rfl, h⟩;have hx : ¬ x.1.1.2 = 0 := (by rw [x.2]; exact h0);refine ⟨(), Fs', by dsimp only; rw [x.2], ?_⟩;dsimp only at h;rw [if_neg hx] at h;exact h
theorem c_endsY (l : List Patch) (A : Option Addr) (c : Nat) (hl : l.length ≤ 2000000) (hf : ∀ q ∈ l, q.fit) (pl p b : Nat) (T : List File) (v : Int) (h0 : (lastP l v).2 = 0) : Con Tryz.prog 69 [.agg #[pT pl], .int .i64 v] [box pl 124 [.slice A l.length c, pT p], row 63 A c l, box p 139 [.map (some b)], tr b T] [] {x : List Patch × ((Option Addr × Nat) × (Option Addr × Nat)) × (Nat × Nat × Nat) // x.1 = (lastP l v).1} (fun x => .tuple #[pT x.1.2.2.1, .int .i64 0]) (fun x => [box x.1.2.2.1 124 [.slice x.1.2.1.1.1 x.1.1.length x.1.2.1.1.2, pT x.1.2.2.2.1], row 63 x.1.2.1.1.1 x.1.2.1.1.2 (fzq x.1.1 x.1.2.1.2), oX 103 (x.1.1) (x.1.2.1.2), box x.1.2.2.2.1 139 [.map (some x.1.2.2.2.2)], tr x.1.2.2.2.2 T, box pl 124 [.slice A l.length c, pT p], row 63 A c l, box p 139 [.map (some b)], tr b T]) (fun _ => []) := by
 refine con func69 rfl ntmps69 rfl ?_;intro M0 F0 w0;refine k_ 2 ?_;refine ls (o_box rfl rfl rfl) ?_;refine le ?_; intro b2;refine k_ 8 ?_;refine lC [1, 1, 1, 1] call65 (c_logCopyQ l A c hl hf pl p b T) ?_; rintro ⟨⟨⟨A4, c4⟩, h4⟩, ⟨l', p', b'⟩⟩;refine k_ 5 ?_;refine cpure (rowFact (α := PatchQ) (A := A4) (c := c4) (l := fzq l h4) Θ) ?_;rintro ⟨hA4, hc4⟩;rw [fzq_len] at hc4;refine k_ 3 ?_;refine lC [1, 1, 0] call121 (c_logLastQY l A4 c4 hl h4 hf hc4 hA4 l' p' v h0) ?_; rintro ⟨⟨L, ⟨⟨A5, c5⟩, h5⟩⟩, hL⟩;refine k_ 9 ?_;refine cc rfl ?_ ?_
 ·intro h15;exact absurd h15 (by decide)
 ·intro h15
  skip
  refine k_ 11 ?_;exact rR [2, 0, 0, 0, 0, 0, 0, 0, 0] ⟨(L, ((A5, c5), h5), (l', p', b')), hL⟩
theorem c_endsN (l : List Patch) (A : Option Addr) (c : Nat) (hl : l.length ≤ 2000000) (hf : ∀ q ∈ l, q.fit) (pl p b : Nat) (T : List File) (v : Int) (h0 : ¬ (lastP l v).2 = 0) : Con Tryz.prog 69 [.agg #[pT pl], .int .i64 v] [box pl 124 [.slice A l.length c, pT p], row 63 A c l, box p 139 [.map (some b)], tr b T] [] Unit (fun _ => .tuple #[.pointer none, .int .i64 (lastP l v).2]) (fun _ => [box pl 124 [.slice A l.length c, pT p], row 63 A c l, box p 139 [.map (some b)], tr b T]) (fun _ => []) := by
 refine con func69 rfl ntmps69 rfl ?_;intro M0 F0 w0;refine k_ 2 ?_;refine ls (o_box rfl rfl rfl) ?_;refine le ?_; intro b2;refine k_ 8 ?_;refine lC [1, 1, 1, 1] call65 (c_logCopyQ l A c hl hf pl p b T) ?_; rintro ⟨⟨⟨A4, c4⟩, h4⟩, ⟨l', p', b'⟩⟩;refine k_ 5 ?_;refine cpure (rowFact (α := PatchQ) (A := A4) (c := c4) (l := fzq l h4) Θ) ?_;rintro ⟨hA4, hc4⟩;rw [fzq_len] at hc4;refine k_ 3 ?_;refine lC [1, 1, 0] call121 (c_logLastQN l A4 c4 hl h4 hf hc4 hA4 l' p' v h0) ?_; rintro ⟨⟩;refine k_ 9 ?_;refine cc rfl ?_ ?_
 ·intro h15
  skip
  refine k_ 9 ?_;exact rR [2, 2, 2, 2] ()
 ·intro h15;exact absurd (by simpa using h15) h0
theorem rec_0 {s : RS} {p : Patch} {files : List ByteArray} {R : List Prim} (hr : ([], R) = splR s.pend files false) : rRecord s p files = (s, 141) := by unfold rRecord; rw [← hr, if_pos rfl]
theorem rec_no {s : RS} {p : Patch} {files : List ByteArray} {F R : List Prim} {e : Int} (hr : (F, R) = splR s.pend files false) (h0 : ¬ F = []) (h2 : e = (addD s.log { p with l := F }).2) (he : ¬ e = 0) : rRecord s p files = (s, e) := by
 unfold rRecord; rw [← hr]; dsimp only; rw [if_neg h0, ← h2, if_neg he]
theorem rec_yes {s : RS} {p : Patch} {files : List ByteArray} {F R : List Prim} {l1 : List Patch} (hr : (F, R) = splR s.pend files false) (h0 : ¬ F = []) (h1 : l1 = (addD s.log { p with l := F }).1) (h2 : 0 = (addD s.log { p with l := F }).2) : rRecord s p files = (⟨l1, R, s.shv⟩, 0) := by
 unfold rRecord; rw [← hr]; dsimp only; rw [if_neg h0, ← h2, if_pos rfl, ← h1]
theorem rec_tree {m n : Nat} {s s1 : RS} (h : RepI m n s) {p : Patch} (hp : p.note.size ≤ 2000000 ∧ p.deps.length ≤ 2000000) (hn : n ≤ 2000000) {files : List ByteArray} {e : Int} (hrec : rRecord s p files = (s1, e)) : treeR s1 = treeR s := by
 have := (h.record hp hn files).2;rw [hrec] at this;exact this
theorem c_repRecord (pr : Nat) (s : RS) (m n : Nat) (hI : RepI m n s) (hm : m ≤ 100000) (hn : n ≤ 100000) (id : Int) (note : ByteArray) (hnb : note.size ≤ 2000000) (deps : List Int) (D : Option Addr) (cD : Nat) (hdl : deps.length ≤ 2000000) (files : List ByteArray) (B : Option Addr) (c' : Nat) (hfl : files.length ≤ 2000000) : Con Tryz.prog 29 [pT pr, .int .i64 id, .string note, .slice D deps.length cD, .slice B files.length c'] [repoX 56 124 139 63 103 (pr) (s)] [slA D deps, slA B files] {x : RS × Int // x = rRecord s ⟨id, note, deps, []⟩ files} (fun x => .int .i64 x.1.2) (fun x => [repoX 56 124 139 63 103 (pr) (x.1.1)]) (fun _ => []) := by
 refine con func29 rfl ntmps29 rfl ?_;intro M0 F0 w0;refine k_ 6 ?_;have hs := hI.split files false;have hIz := hI.z;have hIy := hI.y;have hlg := hI.log.len;refine k_ 3 ?_;refine lC [0] call70 (c_repSplit pr s m n hI hm hn files B c' hfl) ?_; rintro ⟨⟨⟨F, R⟩, ⟨⟨A1, c1⟩, ⟨A2, c2⟩⟩⟩, hr⟩;dsimp only at hr;have hsz := hs.z;have hsy := hs.y;have hsf := hs.ff;rw [show (splR s.pend files false) = (F, R) from hr.symm] at hsz hsy hsf;dsimp only at hsz hsy hsf;refine k_ 15 ?_;refine cc rfl ?_ ?_
 ·intro h22;(try simp only [nrmZ] at h22);obtain rfl : F = [] := List.eq_nil_of_length_eq_zero (by omega);refine k_ 7 ?_;exact rR [2] ⟨(s, 141), (rec_0 hr).symm⟩
 ·intro h22;(try simp only [nrmZ] at h22);have hF0 : ¬ F = [] := fun e => by have h : F.length = 0 := congrArg List.length e; omega
  have hq : Patch.fit (⟨id, note, deps, F⟩ : Patch) := ⟨hnb, hdl, by dsimp only; omega, hsf⟩;refine k_ 4 ?_;refine cmono (fun a w h => freezeN (i := 0) rfl h) ?_;refine unrepC (i := 1) rfl ?_; intro pl p b A cA Qa cQ mb pt bt;refine k_ 2 ?_;refine ls (op (p_nilck rfl) rfl) ?_;refine k_ 8 ?_;refine lC [1, 1, 1, 1] call55 (c_logAdd s.log A cA (by omega) pl p b (treeP s.log) (⟨id, note, deps, F⟩ : Patch) ((D, cD), (A1, c1)) hq m n hI.log.app (by dsimp only; omega) (by dsimp only; omega)) ?_; rintro ⟨⟨⟨⟨l1, T1⟩, e1⟩, ⟨A33, c33⟩⟩, ho⟩;dsimp only at ho;obtain ⟨ha1, ha2, ha3⟩ := hI.log.addP hq;rw [← ho] at ha1 ha2 ha3;dsimp only at ha1 ha2 ha3;obtain rfl : T1 = treeP l1 := (by rw [ha1]; exact ha3.tree.symm);refine k_ 9 ?_;refine cc rfl ?_ ?_
  ·intro h35;have he : ¬ e1 = 0 := (by have h := h35; simpa using h);have hrec := rec_no (p := ⟨id, note, deps, []⟩) hr hF0 ha2 he;obtain rfl : l1 = s.log := ha1.trans (addD_no (by rw [← ha2]; exact he));refine k_ 8 ?_;refine nmono (fun a w h => mkrep (s := s) [4, 0, 0, 0, 0, 0, 0, 0, 0] rfl ⟨rfl, rfl, rfl, rfl, rfl⟩ h) ?_;exact rR [0] ⟨(s, e1), hrec.symm⟩
  ·intro h35;obtain rfl : e1 = 0 := (by have h := h35; simpa using h);have hrec := rec_yes (p := ⟨id, note, deps, []⟩) hr hF0 ha1 ha2;refine k_ 6 ?_;refine ls (op (p_nilck rfl) rfl) ?_;refine k_ 11 ?_;refine nmono (fun a w h => mkrep (s := ⟨l1, R, s.shv⟩) [4, 0, 0, 0, 0, 4, 1, 1, 1] rfl ⟨rfl, rfl, rfl, rfl, (rec_tree hI ⟨hnb, hdl⟩ (by omega) hrec).symm⟩ h) ?_;exact rR [0] ⟨(⟨l1, R, s.shv⟩, 0), hrec.symm⟩
theorem unr_no {s : RS} {id : Int} (h0 : ¬ (lastP s.log id).2 = 0) : rUnrec s id = (s, (lastP s.log id).2) := by unfold rUnrec; rw [if_pos h0]
theorem unr_yes {s : RS} {id : Int} {L : List Patch} (h0 : (lastP s.log id).2 = 0) (hL : L = (lastP s.log id).1) : rUnrec s id = (⟨L.dropLast, (L.getLastD Patch.zero).l ++ s.pend, s.shv⟩, 0) := by
 unfold rUnrec; rw [if_neg (by simp [h0]), hL]
theorem take_dl {α : Type} {l : List α} : l.take (l.length - 1) = l.dropLast := List.dropLast_eq_take.symm
theorem gl_at {l : List Patch} (h : 0 < l.length) : l.getLastD Patch.zero = l[l.length - 1] := by
 rw [List.getLastD_eq_getLast?, List.getLast?_eq_getElem?, List.getElem?_eq_getElem (by omega)]; rfl
theorem drop_tree {m n : Nat} {L : List Patch} {T U : List File} (h : LogI m n L T) (h0 : 0 < L.length) (hU : U = (dropP L T).1.2) : U = treeP L.dropLast := by
 have h1 := h.drop.2.1.tree;have h2 : (dropD L).1.1 = L.dropLast := (by unfold dropD; rw [dif_pos h0]; exact take_dl);rw [h2, ← hU] at h1;exact h1.symm
theorem unr_tree {m n : Nat} {s : RS} (hI : RepI m n s) {id : Int} {L : List Patch} (h0 : (lastP s.log id).2 = 0) (hL : L = (lastP s.log id).1) : treeR s = treeR ⟨L.dropLast, (L.getLastD Patch.zero).l ++ s.pend, s.shv⟩ := by
 have h := (hI.unrec id).2;rw [unr_yes h0 hL] at h;exact h.symm
theorem c_repUnrecN (pr : Nat) (s : RS) (m n : Nat) (hI : RepI m n s) (hm : m ≤ 100000) (hn : n ≤ 100000) (id : Int) (h0 : ¬ (lastP s.log id).2 = 0) : Con Tryz.prog 28 [pT pr, .int .i64 id] [repoX 56 124 139 63 103 (pr) (s)] [] {x : RS × Int // x = rUnrec s id} (fun x => .int .i64 x.1.2) (fun x => [repoX 56 124 139 63 103 (pr) (x.1.1)]) (fun _ => []) := by
 refine con func28 rfl ntmps28 rfl ?_;intro M0 F0 w0;refine k_ 6 ?_;have hlg := hI.log.len;refine unrepC (i := 0) rfl ?_; intro pl p b A cA Qa cQ mb pt bt;refine k_ 2 ?_;refine ls (op (p_nilck rfl) rfl) ?_;refine k_ 3 ?_;refine lC [1, 1, 1, 1] call69 (c_endsN s.log A cA (by omega) hI.log.ok.fit pl p b (treeP s.log) id h0) ?_; rintro ⟨⟩;refine k_ 14 ?_;refine cc rfl ?_ ?_
 ·intro h19
  skip
  refine k_ 8 ?_;refine nmono (fun a w h => mkrep (s := s) [4, 0, 0, 0, 0, 0, 0, 0, 0] rfl ⟨rfl, rfl, rfl, rfl, rfl⟩ h) ?_;exact rR [0] ⟨(s, (lastP s.log id).2), (unr_no h0).symm⟩
 ·intro h19;exact absurd (by simpa using h19) h0
theorem c_repUnrecY (pr : Nat) (s : RS) (m n : Nat) (hI : RepI m n s) (hm : m ≤ 100000) (hn : n ≤ 100000) (id : Int) (h0 : (lastP s.log id).2 = 0) : Con Tryz.prog 28 [pT pr, .int .i64 id] [repoX 56 124 139 63 103 (pr) (s)] [] {x : RS × Int // x = rUnrec s id} (fun x => .int .i64 x.1.2) (fun x => [repoX 56 124 139 63 103 (pr) (x.1.1)]) (fun _ => []) := by
 refine con func28 rfl ntmps28 rfl ?_;intro M0 F0 w0;refine k_ 6 ?_;have hlg := hI.log.len;have hIy := hI.y;refine unrepC (i := 0) rfl ?_; intro pl p b A cA Qa cQ mb pt bt;refine k_ 2 ?_;refine ls (op (p_nilck rfl) rfl) ?_;refine k_ 3 ?_;refine lC [1, 1, 1, 1] call69 (c_endsY s.log A cA (by omega) hI.log.ok.fit pl p b (treeP s.log) id h0) ?_; rintro ⟨⟨L, ⟨⟨A5, c5⟩, h5⟩, ⟨l', p', b'⟩⟩, hL⟩;dsimp only at hL;have hla : LastI m n s.log L := (by rw [hL]; exact hI.log.lastI h0);have hLI : LogI m n L (treeP s.log) := (by rw [hL]; exact hI.log.last id);have hL0 : 0 < L.length := (by rw [← hla.eq]; simp);have hLn := hLI.len;have hLm := hLI.mem (List.getElem_mem (show L.length - 1 < L.length by omega));refine k_ 14 ?_;refine cc rfl ?_ ?_
 ·intro h19;exact absurd h19 (by decide)
 ·intro h19
  skip
  refine k_ 5 ?_;refine lC [0, 0, 0, 0, 0] call71 (c_logDropQ L A5 c5 (by omega) h5 hL0 hLI.ok.fit l' p' b' (treeP s.log) m n hI.log.app (fun q hq => by have := hLI.mem hq; omega) (fun q hq => by have := hLI.mem hq; omega)) ?_; rintro ⟨⟨U, ⟨yd, ⟨A6, c6⟩⟩⟩, hU0⟩;dsimp only at hU0;have hU : U = treeP L.dropLast := drop_tree hLI hL0 hU0;have hTR := unr_tree hI h0 hL;refine k_ 3 ?_;refine ls (o_alloc zeroValue63 rfl rfl) ?_;refine le ?_; intro b7;refine k_ 5 ?_;refine cmono (fun a w h => freezeN (i := 11) rfl h) ?_;refine cd [9, 13, 16] [(4, b7, 3, _), (8, pr, 1, _)] TryzX.mixed (tB 1 (tB 1 TOk.d)) ?_;refine u_ 0 6 ?_;refine tk 6 rfl Ψ Υ gnone (TTany _) (p_nilck rfl) rfl ?_;refine u_ 7 2 ?_;refine df 9 Ψ ?_;refine doR rfl (o_appX (i := 1) underlying40 inf103 rfl (by decide) (by decide) rfl rfl (by omega) rfl Ω rfl) tX ?_;refine ea ?_; rintro ⟨A35, c35⟩;refine tk 10 rfl Ψ Υ gnone (TTany _) (p_nilck rfl) rfl ?_;refine u_ 11 2 ?_;refine df 13 Ψ ?_;refine doR rfl (o_st rfl sizeOf49 rfl rfl rfl rfl rfl Θ Θ Θ) tX ?_;refine tk 14 rfl Ψ Υ gnone (TTany _) (p_nilck rfl) rfl ?_;refine u_ 15 1 ?_;refine df 16 Ψ ?_;refine doR rfl (o_st rfl sizeOf40 rfl rfl rfl rfl rfl Θ Θ Θ) tX ?_;refine dn Ψ ?_;refine k_ 8 ?_;refine nmono (fun a w h => mkrep (s := ⟨L.dropLast, (L.getLastD Patch.zero).l ++ s.pend, s.shv⟩) [10, 2, 2, 2, 2, 0, 5, 5, 5] rfl ⟨take_dl, by rw [gl_at hL0], rfl, hU, hTR⟩ h) ?_;exact rR [0] ⟨(⟨L.dropLast, (L.getLastD Patch.zero).l ++ s.pend, s.shv⟩, 0), (unr_yes h0 hL).symm⟩
theorem ama_no0 {s : RS} {id : Int} {files : List ByteArray} (h0 : ¬ (lastP s.log id).2 = 0) : rAmend s id files = (s, (lastP s.log id).2) := by unfold rAmend; rw [if_pos h0]
theorem ama_0 {s : RS} {id : Int} {files : List ByteArray} {R : List Prim} (h0 : (lastP s.log id).2 = 0) (hr : ([], R) = splR s.pend files false) : rAmend s id files = (s, 141) := by
 unfold rAmend; rw [if_neg (by simp [h0]), ← hr, if_pos rfl]
theorem more_eq {L : List Patch} (h : 0 < L.length) {F : List Prim} : moreP L F = { L[L.length - 1] with l := L[L.length - 1].l ++ F } := by unfold moreP; rw [gl_at h]
theorem drop_logI {m n : Nat} {L : List Patch} {T U : List File} (h : LogI m n L T) (h0 : 0 < L.length) (hU : U = (dropP L T).1.2) : LogI m n (L.take (L.length - 1)) U := by
 have h1 := h.drop.2.1;have h2 : (dropD L).1.1 = L.take (L.length - 1) := (by unfold dropD; rw [dif_pos h0]);rw [h2, ← hU] at h1;exact h1
theorem ama_no {s : RS} {id : Int} {files : List ByteArray} {F R : List Prim} {L : List Patch} {e : Int} (h0 : (lastP s.log id).2 = 0) (hL : L = (lastP s.log id).1) (hr : (F, R) = splR s.pend files false) (hF : ¬ F = []) (h2 : e = (addD L.dropLast (moreP L F)).2) (he : ¬ e = 0) : rAmend s id files = (s, e) := by
 unfold rAmend; rw [if_neg (by simp [h0]), ← hr, ← hL]; dsimp only; rw [if_neg hF, ← h2, if_neg he]
theorem ama_yes {s : RS} {id : Int} {files : List ByteArray} {F R : List Prim} {L l1 : List Patch} (h0 : (lastP s.log id).2 = 0) (hL : L = (lastP s.log id).1) (hr : (F, R) = splR s.pend files false) (hF : ¬ F = []) (h1 : l1 = (addD L.dropLast (moreP L F)).1) (h2 : 0 = (addD L.dropLast (moreP L F)).2) : rAmend s id files = (⟨l1, R, s.shv⟩, 0) := by
 unfold rAmend; rw [if_neg (by simp [h0]), ← hr, ← hL]; dsimp only; rw [if_neg hF, ← h2, if_pos rfl, ← h1]
theorem ama_tree {m n : Nat} {s s1 : RS} (h : RepI m n s) (hn : n ≤ 2000000) {id : Int} {files : List ByteArray} {e : Int} (hrec : rAmend s id files = (s1, e)) : treeR s1 = treeR s := by
 have := (h.amend hn id files).2;rw [hrec] at this;exact this
theorem c_repUnrec (pr : Nat) (s : RS) (m n : Nat) (hI : RepI m n s) (hm : m ≤ 100000) (hn : n ≤ 100000) (id : Int) : Con Tryz.prog 28 [pT pr, .int .i64 id] [repoX 56 124 139 63 103 (pr) (s)] [] {x : RS × Int // x = rUnrec s id} (fun x => .int .i64 x.1.2) (fun x => [repoX 56 124 139 63 103 (pr) (x.1.1)]) (fun _ => []) := by
 by_cases h0 : (lastP s.log id).2 = 0
 ·exact c_repUnrecY pr s m n hI hm hn id h0
 ·exact c_repUnrecN pr s m n hI hm hn id h0
theorem c_repAmendN (pr : Nat) (s : RS) (m n : Nat) (hI : RepI m n s) (hm : m ≤ 100000) (hn : n ≤ 100000) (id : Int) (files : List ByteArray) (B : Option Addr) (c' : Nat) (hfl : files.length ≤ 2000000) (h0 : ¬ (lastP s.log id).2 = 0) : Con Tryz.prog 27 [pT pr, .int .i64 id, .slice B files.length c'] [repoX 56 124 139 63 103 (pr) (s)] [slA B files] {x : RS × Int // x = rAmend s id files} (fun x => .int .i64 x.1.2) (fun x => [repoX 56 124 139 63 103 (pr) (x.1.1)]) (fun _ => []) := by
 refine con func27 rfl ntmps27 rfl ?_;intro M0 F0 w0;refine k_ 6 ?_;have hlg := hI.log.len;have hs := hI.split files false;have hIz := hI.z;have hIy := hI.y;refine unrepC (i := 0) rfl ?_; intro pl p b A cA Qa cQ mb pt bt;refine k_ 2 ?_;refine ls (op (p_nilck rfl) rfl) ?_;refine k_ 3 ?_;refine lC [1, 1, 1, 1] call69 (c_endsN s.log A cA (by omega) hI.log.ok.fit pl p b (treeP s.log) id h0) ?_; rintro ⟨⟩;refine k_ 8 ?_;refine cmono (fun a w h => mkrep (s := s) [4, 0, 0, 0, 0, 0, 0, 0, 0] rfl ⟨rfl, rfl, rfl, rfl, rfl⟩ h) ?_;refine k_ 3 ?_;refine lC [0] call70 (c_repSplit pr s m n hI hm hn files B c' hfl) ?_; rintro ⟨⟨⟨F, R⟩, ⟨⟨A1, c1⟩, ⟨A2, c2⟩⟩⟩, hr⟩;dsimp only at hr;refine k_ 16 ?_;refine cc rfl ?_ ?_
 ·intro h29
  skip
  refine k_ 8 ?_;exact rR [2] ⟨(s, (lastP s.log id).2), (ama_no0 h0).symm⟩
 ·intro h29;exact absurd (by simpa using h29) h0
theorem c_repAmendY (pr : Nat) (s : RS) (m n : Nat) (hI : RepI m n s) (hm : m ≤ 100000) (hn : n ≤ 100000) (id : Int) (files : List ByteArray) (B : Option Addr) (c' : Nat) (hfl : files.length ≤ 2000000) (h0 : (lastP s.log id).2 = 0) : Con Tryz.prog 27 [pT pr, .int .i64 id, .slice B files.length c'] [repoX 56 124 139 63 103 (pr) (s)] [slA B files] {x : RS × Int // x = rAmend s id files} (fun x => .int .i64 x.1.2) (fun x => [repoX 56 124 139 63 103 (pr) (x.1.1)]) (fun _ => []) := by
 refine con func27 rfl ntmps27 rfl ?_;intro M0 F0 w0;refine k_ 6 ?_;have hlg := hI.log.len;have hs := hI.split files false;have hIz := hI.z;have hIy := hI.y;refine unrepC (i := 0) rfl ?_; intro pl p b A cA Qa cQ mb pt bt;refine k_ 2 ?_;refine ls (op (p_nilck rfl) rfl) ?_;refine k_ 3 ?_;refine lC [1, 1, 1, 1] call69 (c_endsY s.log A cA (by omega) hI.log.ok.fit pl p b (treeP s.log) id h0) ?_; rintro ⟨⟨L, ⟨⟨A5, c5⟩, h5⟩, ⟨l', p', b'⟩⟩, hL⟩;dsimp only at hL;have hla : LastI m n s.log L := (by rw [hL]; exact hI.log.lastI h0);have hLI : LogI m n L (treeP s.log) := (by rw [hL]; exact hI.log.last id);have hL0 : 0 < L.length := (by rw [← hla.eq]; simp);have hLn := hLI.len;have hk1 : L.length - 1 < L.length := (by omega);have hLm := hLI.mem (List.getElem_mem hk1);have hfk := hLI.ok.fit _ (List.getElem_mem hk1);refine k_ 8 ?_;refine cmono (fun a w h => mkrep (s := s) [9, 5, 5, 5, 5, 5, 5, 5, 5] rfl ⟨rfl, rfl, rfl, rfl, rfl⟩ h) ?_;refine k_ 3 ?_;refine lC [0] call70 (c_repSplit pr s m n hI hm hn files B c' hfl) ?_; rintro ⟨⟨⟨F, R⟩, ⟨⟨A1, c1⟩, ⟨A2, c2⟩⟩⟩, hr⟩;dsimp only at hr;have hsz := hs.z;have hsy := hs.y;have hsf := hs.ff;rw [show (splR s.pend files false) = (F, R) from hr.symm] at hsz hsy hsf;dsimp only at hsz hsy hsf;refine k_ 16 ?_;refine cc rfl ?_ ?_
 ·intro h29;exact absurd h29 (by decide)
 ·intro h29
  skip
  refine k_ 8 ?_;refine cc rfl ?_ ?_
  ·intro h33;(try simp only [nrmZ] at h33);obtain rfl : F = [] := List.eq_nil_of_length_eq_zero (by omega);refine k_ 7 ?_;exact rR [2] ⟨(s, 141), (ama_0 h0 hr).symm⟩
  ·intro h33;(try simp only [nrmZ] at h33);have hF0 : ¬ F = [] := fun e => by have h : F.length = 0 := congrArg List.length e; omega
   have hq : Patch.fit ({ L[L.length - 1] with l := L[L.length - 1].l ++ F } : Patch) := ⟨hfk.nb, hfk.dl, by dsimp only; rw [List.length_append]; omega, fun x hx => (List.mem_append.1 hx).elim (hfk.lf x) (hsf x)⟩;refine k_ 4 ?_;refine cmono (fun a w h => freezeN (i := 0) rfl h) ?_;refine k_ 2 ?_;refine lC [2, 2, 2, 2, 2] call71 (c_logDropQ L A5 c5 (by omega) h5 hL0 hLI.ok.fit l' p' b' (treeP s.log) m n hI.log.app (fun q hq => by have := hLI.mem hq; omega) (fun q hq => by have := hLI.mem hq; omega)) ?_; rintro ⟨⟨U, ⟨yd, ⟨A6, c6⟩⟩⟩, hU0⟩;dsimp only at hU0;have hP : LogI m n (L.take (L.length - 1)) U := drop_logI hLI hL0 hU0;have hPn := hP.len;refine k_ 3 ?_;refine ls (o_alloc zeroValue63 rfl rfl) ?_;refine le ?_; intro b11;refine k_ 9 ?_;refine ls (o_appX (i := 1) underlying40 inf103 rfl (by decide) (by decide) rfl rfl (by dsimp only; omega) rfl Ω rfl) ?_;refine le ?_; rintro ⟨A45, c45⟩;refine k_ 6 ?_;refine cmono (fun a w h => freezeN (i := 0) rfl h) ?_;refine k_ 2 ?_;refine ls (o_ldw isAgg63 sizeOf63 rfl Θ (by rfl) rfl) ?_;refine lC [1, 1, 1, 1] call55 (c_logAdd (L.take (L.length - 1)) A5 c5 (by omega) l' p' b' U ({ L[L.length - 1] with l := L[L.length - 1].l ++ F } : Patch) (yd, (A45, c45)) hq m n hP.app (by dsimp only; rw [lns_app]; omega) (by dsimp only; rw [List.length_append]; omega)) ?_; rintro ⟨⟨⟨⟨l1, T1⟩, e1⟩, ⟨A49, c49⟩⟩, ho⟩;dsimp only at ho;obtain ⟨ha1, ha2, ha3⟩ := hP.addP hq;rw [← ho] at ha1 ha2 ha3;dsimp only at ha1 ha2 ha3;obtain rfl : T1 = treeP l1 := (by rw [ha1]; exact ha3.tree.symm);rw [take_dl, ← more_eq hL0] at ha1 ha2;refine k_ 9 ?_;refine cc rfl ?_ ?_
   ·intro h51;have he : ¬ e1 = 0 := (by have h := h51; simpa using h);have hrec := ama_no h0 hL hr hF0 ha2 he;refine k_ 8 ?_;exact rR [6] ⟨(s, e1), hrec.symm⟩
   ·intro h51;obtain rfl : e1 = 0 := (by have h := h51; simpa using h);have hrec := ama_yes h0 hL hr hF0 ha1 ha2;refine k_ 3 ?_;refine unrepC (i := 6) rfl ?_; intro plx px bx Ax cAx Qx cQx mbx ptx btx;refine k_ 5 ?_;refine ls (op (p_nilck rfl) rfl) ?_;refine k_ 3 ?_;refine ls (op (p_nilck rfl) rfl) ?_;refine k_ 11 ?_;refine nmono (fun a w h => mkrep (s := ⟨l1, R, s.shv⟩) [0, 8, 8, 8, 8, 9, 5, 5, 5] rfl ⟨rfl, rfl, rfl, rfl, (ama_tree hI (by omega) hrec).symm⟩ h) ?_;exact rR [0] ⟨(⟨l1, R, s.shv⟩, 0), hrec.symm⟩
theorem c_repAmend (pr : Nat) (s : RS) (m n : Nat) (hI : RepI m n s) (hm : m ≤ 100000) (hn : n ≤ 100000) (id : Int) (files : List ByteArray) (B : Option Addr) (c' : Nat) (hfl : files.length ≤ 2000000): Con Tryz.prog 27 [pT pr, .int .i64 id, .slice B files.length c'] [repoX 56 124 139 63 103 (pr) (s)] [slA B files] {x : RS × Int // x = rAmend s id files} (fun x => .int .i64 x.1.2) (fun x => [repoX 56 124 139 63 103 (pr) (x.1.1)]) (fun _ => []) := by
 by_cases h0 : (lastP s.log id).2 = 0
 ·exact c_repAmendY pr s m n hI hm hn id files B c' hfl h0
 ·exact c_repAmendN pr s m n hI hm hn id files B c' hfl h0
end Go.Proofs.YtbhnolfcdcpbkaaGreatDoor.X
end
section
namespace Go.Sx
open Go Go.RowKit
/-! A shelf as data: its name, and what lies on it. -/
instance instRpShelf : Rp (ByteArray × List Prim) where
 Lay := Option Addr × Nat
 size := 2
 enc x y := [.string x.1, .slice y.1 x.2.length y.2]
 len _ _ := rfl
 one _ _ v hv := by
  simp only [List.mem_cons, List.mem_nil_iff, or_false] at hv;rcases hv with rfl | rfl <;> rfl
 asn x y := [slA y.1 x.2, nilA y, capA y.2 x.2.length]
section
variable {P : Program} {n : Nm} {σ : List (Nat × Value)} {d : Nat} {ty : TypeId} {pos : String} {af : Array Edge}
theorem p_sle {T : World → Prop} {x y : Operand} {t t' : TypeId} {s u : ByteArray} (hx : ev σ x = some (.string s)) (hy : ev σ y = some (.string u)) :
  Pu P n σ T ⟨some d, .binOp .leq t x y t', ty, pos, af, none⟩ (.bool (Op.bytesLess s.toList u.toList || decide (s = u))) :=
 fun a hs w _ => by simp [execOp, hs.ev hx, hs.ev hy, eqGuard_at_string, binOp, Op.stringOp, str_beq]
end
end Go.Sx
namespace Go.Proofs.YtbhnolfcdcpbkaaGreatDoor.X
open Go Go.RowKit Go.Proofs Go.Sx
def rowBad (n : Nat) (last : ByteArray) (x : Sh.File) : Bool := (!nameOk x.1 || (Op.bytesLess x.1.toList last.toList || decide (x.1 = last))) || decide ((n : Int) > 3)
def rowsR (n : Nat) : ByteArray → List Sh.File → Bool
 | _, [] => true
 | last, x :: r => !rowBad n last x && rowsR n x.1 r
def rowP (x : Sh.File) : Bool := decide ((x.2.length : Int) = 0) || !(x.2.all Prim.right)
def rRight (l : List Sh.File) : Int := if rowsR l.length ⟨#[]⟩ l = false then 140 else if l.any rowP = true then 30 else 0
theorem rowsR_bad {n : Nat} {last : ByteArray} {l : List Sh.File} {k : Nat} (hk : k < l.length) (h : rowBad n last l[k] = true) : rowsR n last (l.drop k) = false := by
 rw [List.drop_eq_getElem_cons hk, rowsR, h]; rfl
theorem rowsR_good {n : Nat} {last : ByteArray} {l : List Sh.File} {k : Nat} (hk : k < l.length) (h : rowBad n last l[k] = false) : rowsR n last (l.drop k) = rowsR n l[k].1 (l.drop (k + 1)) := by
 rw [List.drop_eq_getElem_cons hk, rowsR, h]; rfl
end Go.Proofs.YtbhnolfcdcpbkaaGreatDoor.X
end
section
namespace Go.Proofs.YtbhnolfcdcpbkaaGreatDoor.X
set_option maxRecDepth 100000
open Go Go.RowKit Go.Proofs Go.Sx
open Tryz
attribute [local irreducible] slA isA box row TrL TrC TrN TrA Pu OpR
set_option maxHeartbeats 8000000
theorem c_IndexFuncR (l : List Sh.File) (A : Option Addr) (c : Nat) (hl : l.length ≤ 2000000) (f : Sh.File → Bool) (g : FuncId) (cap : List Value) (Γf : List Asn) (hcf : ∀ args w, (callFunc g args).run Tryz.prog w = .ok (.enter g args) w) (hg : ∀ x ∈ l, ∀ y, Con Tryz.prog g (sv x y :: cap) [] (Rp.asn x y ++ Γf) Unit (fun _ => .bool (f x)) (fun _ => []) (fun _ => [])) : Con Tryz.prog 162 [.slice A l.length c, .func (.func g) #[] cap.toArray] [] (slA A l :: Γf) {r : Int // -1 ≤ r ∧ r ≤ 2000000 ∧ (0 ≤ r ↔ l.any f = true)} (fun r => .int .i64 r.1) (fun _ => []) (fun _ => []) := by
 refine con func162 rfl ntmps162 rfl ?_;intro M0 F0 w0;refine k_ 14 ?_;refine cl (ι := {k : Nat // k ≤ l.length ∧ (l.take k).any f = false}) (fun i => St M0 F0 w0 19 [(0, .slice A l.length c), (1, .func (.func g) #[] cap.toArray), (7, .int .i64 (l.length : Int)), (8, .int .i64 (i.1 : Int))] [] (slA A l :: Γf)) (fun i => l.length - i.1) ⟨0, by simp⟩ (wk0 Φ Ω) ?_;rintro ⟨k, hk, hkk⟩;refine cmono (S' := St M0 F0 w0 19 [(0, .slice A l.length c), (1, .func (.func g) #[] cap.toArray), (7, .int .i64 (l.length : Int)), (8, .int .i64 (k : Int))] [] (slA A l :: Γf)) Ħ ?_;refine k_ 6 ?_;refine cc rfl ?_ ?_
 ·intro h9;(try simp only [nrmZ] at h9);have hk1 : k < l.length := (by omega);refine k_ 11 ?_;refine elC Θ k (List.getElem?_eq_getElem (l := l) hk1) ?_; rintro zbp zop zyp hAp;refine k_ 4 ?_;refine ls (op (p_ia k hAp hk1 rfl underlying42 sizeOf112 rfl rfl) rfl) ?_;refine ls (o_ldj isAgg112 sizeOf112 rfl Θ 0 rfl Δ rfl) ?_;refine ls (o_callv (is := []) rfl hcf (hg _ (List.getElem_mem hk1) _) rfl rfl rfl (Sub.app Ω Ω) rfl) ?_;refine le ?_; intro x16;refine k_ 2 ?_;refine cc rfl ?_ ?_
  ·intro h16;(try simp only [nrmZ] at h16);refine k_ 8 ?_;exact rR [] ⟨(k : Int), by omega, by omega, by simp only [List.any_eq_true]; exact ⟨fun _ => ⟨_, List.getElem_mem hk1, h16⟩, fun _ => by omega⟩⟩
  ·intro h16;(try simp only [nrmZ] at h16);refine k_ 7 ?_;refine nnext ⟨k + 1, hk1, by rw [List.take_succ_eq_append_getElem hk1, List.any_append, hkk]; simp [h16]⟩ (by dsimp only; omega) (wk0 Φ Ω)
 ·intro h9;(try simp only [nrmZ] at h9);refine k_ 12 ?_;exact rR [] ⟨-1, by omega, by omega, by rw [List.take_of_length_le (by omega)] at hkk; simp [hkk]⟩
theorem c_ContainsFuncR (l : List Sh.File) (A : Option Addr) (c : Nat) (hl : l.length ≤ 2000000) (f : Sh.File → Bool) (g : FuncId) (cap : List Value) (Γf : List Asn) (hcf : ∀ args w, (callFunc g args).run Tryz.prog w = .ok (.enter g args) w) (hg : ∀ x ∈ l, ∀ y, Con Tryz.prog g (sv x y :: cap) [] (Rp.asn x y ++ Γf) Unit (fun _ => .bool (f x)) (fun _ => []) (fun _ => [])) : Con Tryz.prog 107 [.slice A l.length c, .func (.func g) #[] cap.toArray] [] (slA A l :: Γf) Unit (fun _ => .bool (l.any f)) (fun _ => []) (fun _ => []) := by
 refine con func107 rfl ntmps107 rfl ?_;intro M0 F0 w0;refine k_ 9 ?_;refine lC [] call162 (c_IndexFuncR l A c hl f g cap Γf hcf hg) ?_; rintro ⟨r, hr1, hr2, hr3⟩;refine k_ 6 ?_;refine rret (is := []) () (Or.inl rfl) (Res.t rfl Res.d) ?_ rfl Ω;simp [packV]; rw [Bool.eq_iff_iff]; simp [← hr3]
theorem c_right1 (x : Sh.File) (y : Rp.Lay Sh.File) (hl : x.2.length ≤ 2000000) (hf : ∀ p ∈ x.2, p.fit) : Con Tryz.prog 108 [sv x y] [] (Rp.asn x y) Unit (fun _ => .bool (rowP x)) (fun _ => []) (fun _ => []) := by
 refine con func108 rfl ntmps108 rfl ?_;intro M0 F0 w0;refine k_ 2 ?_;refine ls (o_box rfl rfl rfl) ?_;refine le ?_; intro b1;refine k_ 10 ?_;refine orX 5 7 12 rfl (sL [0, 2]) ?_ ?_
 ·intro h7;refine k_ 5 ?_;refine ln (nmid (wk0 Φ Ω))
 apply exI
 ·intro h7;refine k_ 2 ?_;refine lwant rfl rfl rfl rfl (o_call (is := []) call109 (c_seqRight x.2 y.1 y.2 hl hf) rfl rfl Ω rfl) ?_;refine le ?_; intro x10;refine k_ 2 ?_;refine ln (nmid (wk0 Φ Ω))
 ·
  refine k_ 5 ?_;exact rR [] ()
theorem c_right (l : List Sh.File) (A : Option Addr) (c : Nat) (hl : l.length ≤ 2000000) (hf : ∀ x ∈ l, x.2.length ≤ 2000000 ∧ ∀ p ∈ x.2, p.fit) : Con Tryz.prog 56 [.slice A l.length c] [] [slA A l] Unit (fun _ => .int .i64 (rRight l)) (fun _ => []) (fun _ => []) := by
 refine con func56 rfl ntmps56 rfl ?_;intro M0 F0 w0;refine k_ 19 ?_;refine cl (ι := {q : Nat × ByteArray // q.1 ≤ l.length ∧ rowsR l.length ⟨#[]⟩ l = rowsR l.length q.2 (l.drop q.1)}) (fun i => St M0 F0 w0 32 [(0, .slice A l.length c), (3, .string i.1.2), (6, .slice A l.length c), (7, .int .i64 (l.length : Int)), (8, .int .i64 (i.1.1 : Int))] [] [slA A l]) (fun i => l.length - i.1.1) ⟨(0, ⟨#[]⟩), Nat.zero_le _, rfl⟩ (wk0 Φ Ω) ?_;rintro ⟨⟨k, last⟩, hk, hkk⟩;refine cmono (S' := St M0 F0 w0 32 [(0, .slice A l.length c), (3, .string last), (6, .slice A l.length c), (7, .int .i64 (l.length : Int)), (8, .int .i64 (k : Int))] [] [slA A l]) Ħ ?_;refine k_ 6 ?_;refine cc rfl ?_ ?_
 ·intro h9;dsimp only at hk hkk;(try simp only [nrmZ] at h9);have hk1 : k < l.length := (by omega);refine k_ 5 ?_;refine elC Θ k (List.getElem?_eq_getElem (l := l) hk1) ?_; rintro zbp zop zyp hAp;refine cr ?_;refine ls (op (p_ia k hAp hk1 rfl underlying42 sizeOf112 rfl rfl) rfl) ?_;refine ls (o_ldj isAgg112 sizeOf112 rfl Θ 0 rfl Δ rfl) ?_;refine ls (o_alloc zeroValue112 rfl rfl) ?_;refine le ?_; intro b5;refine k_ 8 ?_;refine lC [] call94 (c_treeNamed l[k].1) ?_; intro x14;refine k_ 2 ?_;refine orX 5 16 21 rfl (sL [0, 6, 7, 8, 9, 10, 11, 5]) ?_ ?_
  ·intro h16;refine k_ 5 ?_;refine ln (nmid (wk0 Φ Ω))
  apply exI
  ·intro h16;refine k_ 3 ?_;refine lwant rfl rfl rfl rfl (op (p_sle rfl rfl) rfl) ?_;refine k_ 1 ?_;refine ln (nmid (wk0 Φ Ω))
  ·
   refine k_ 1 ?_;refine orX 4 22 26 rfl (sL [0, 6, 7, 8, 9, 10, 11, 5]) ?_ ?_
   ·intro h22;refine k_ 4 ?_;refine ln (nmid (wk0 Φ Ω))
   apply exI
   ·intro h22;refine k_ 4 ?_;refine ln (nmid (wk0 Φ Ω))
   ·
    refine k_ 2 ?_;refine cc rfl ?_ ?_
    ·intro h26;have hb : rowBad l.length last l[k] = true := h26;refine k_ 7 ?_;refine rret (is := []) () (Or.inl rfl) (Res.t rfl Res.d) ?_ rfl Ω;simp only [packV]; unfold rRight; rw [if_pos (hkk.trans (rowsR_bad hk1 hb))]
    ·intro h26;have hb : rowBad l.length last l[k] = false := h26;refine k_ 13 ?_;refine nnext ⟨(k + 1, l[k].1), hk1, hkk.trans (rowsR_good hk1 hb)⟩ (by dsimp only; omega) (wK [])
 ·intro h9;dsimp only at hk hkk;(try simp only [nrmZ] at h9);rw [List.drop_of_length_le (by omega)] at hkk;refine k_ 9 ?_;refine lC [] call107 (c_ContainsFuncR l A c hl rowP 108 [] [] call108 (fun x hx y => by rw [List.append_nil]; exact c_right1 x y (hf x hx).1 (hf x hx).2)) ?_; intro x31;refine k_ 2 ?_;refine cc rfl ?_ ?_
  ·intro h31;(try simp only [nrmZ] at h31);refine k_ 7 ?_;refine rret (is := []) () (Or.inl rfl) (Res.t rfl Res.d) ?_ rfl Ω;simp only [packV]; unfold rRight; rw [if_neg (by rw [hkk]; simp [rowsR]), if_pos h31]
  ·intro h31;(try simp only [nrmZ] at h31);refine k_ 9 ?_;refine rret (is := []) () (Or.inl rfl) (Res.t rfl Res.d) ?_ rfl Ω;simp only [packV]; unfold rRight; rw [if_neg (by rw [hkk]; simp [rowsR]), if_neg (by rw [h31]; simp)]
end Go.Proofs.YtbhnolfcdcpbkaaGreatDoor.X
end
section
namespace Go.Proofs.YtbhnolfcdcpbkaaGreatDoor.X
open Go Go.RowKit Go.Proofs Go.Sx
/-! Lines that two rows have in common. -/
def lcsGo (x : ByteArray) (f : List ByteArray → Nat) : List ByteArray → Nat
 | [] => 0
 | y :: b => if x = y then f b + 1 else max (f (y :: b)) (lcsGo x f b)
def lcs : List ByteArray → List ByteArray → Nat
 | [] => fun _ => 0
 | x :: a => lcsGo x (lcs a)
theorem lcs_nil (b : List ByteArray) : lcs [] b = 0 := rfl
theorem lcs_nilr (a : List ByteArray) : lcs a [] = 0 := by cases a <;> rfl
theorem lcs_cons (x y : ByteArray) (a b : List ByteArray) : lcs (x :: a) (y :: b) = if x = y then lcs a b + 1 else max (lcs a (y :: b)) (lcs (x :: a) b) := rfl
theorem sub_tail {c a : List ByteArray} {x : ByteArray} (h : c.Sublist (x :: a)) : c.tail.Sublist a := by
 cases h with
 | cons _ h => exact (List.tail_sublist c).trans h
 | cons_cons _ h => exact h
theorem lcs_ub : ∀ (n : Nat) (a b c : List ByteArray), a.length + b.length ≤ n → c.Sublist a → c.Sublist b → c.length ≤ lcs a b := by
 intro n
 induction n with
 | zero =>
  intro a b c hn h1 h2;have h3 := h1.length_le;omega
 | succ n ih =>
  intro a b c hn h1 h2;cases a with
  | nil => have := h1.length_le; simp at this; simp [this]
  | cons x a =>
   cases b with
   | nil => have := h2.length_le; simp at this; simp [this]
   | cons y b =>
    simp only [List.length_cons] at hn;rw [lcs_cons]
    split
    ·have := ih a b c.tail (by omega) (sub_tail h1) (sub_tail h2);simp only [List.length_tail] at this;omega
    ·rename_i hne
     cases h1 with
     | cons _ h1 => have := ih a (y :: b) c (by simp; omega) h1 h2; omega
     | @cons_cons c' _ _ h1 =>
      cases h2 with
      | cons _ h2 => have := ih (x :: a) b (x :: c') (by simp; omega) (h1.cons_cons x) h2; omega
      | cons_cons _ h2 => exact absurd rfl hne
theorem lcs_ex : ∀ (n : Nat) (a b : List ByteArray), a.length + b.length ≤ n → ∃ c, List.Sublist c a ∧ List.Sublist c b ∧ c.length = lcs a b := by
 intro n
 induction n with
 | zero =>
  intro a b hn;obtain rfl : a = [] := List.length_eq_zero_iff.1 (by omega);exact ⟨[], List.nil_sublist _, List.nil_sublist _, (lcs_nil b).symm⟩
 | succ n ih =>
  intro a b hn;cases a with
  | nil => exact ⟨[], List.nil_sublist _, List.nil_sublist _, (lcs_nil b).symm⟩
  | cons x a =>
   cases b with
   | nil => exact ⟨[], List.nil_sublist _, List.nil_sublist _, (lcs_nilr _).symm⟩
   | cons y b =>
    simp only [List.length_cons] at hn;rw [lcs_cons]
    split
    ·rename_i e
     subst e;obtain ⟨c, h1, h2, h3⟩ := ih a b (by omega);exact ⟨x :: c, h1.cons_cons x, h2.cons_cons x, by simp [h3]⟩
    ·obtain ⟨c, h1, h2, h3⟩ := ih a (y :: b) (by simp; omega);obtain ⟨d, k1, k2, k3⟩ := ih (x :: a) b (by simp; omega);rcases Nat.le_total (lcs a (y :: b)) (lcs (x :: a) b) with h | h
     ·exact ⟨d, k1, k2.cons y, by omega⟩
     ·exact ⟨c, h1.cons x, h2, by omega⟩
theorem lcs_le {a b c : List ByteArray} (h1 : c.Sublist a) (h2 : c.Sublist b) : c.length ≤ lcs a b := lcs_ub _ a b c (Nat.le_refl _) h1 h2
theorem lcs_has (a b : List ByteArray) : ∃ c, List.Sublist c a ∧ List.Sublist c b ∧ c.length = lcs a b := lcs_ex _ a b (Nat.le_refl _)
theorem lcs_comm (a b : List ByteArray) : lcs a b = lcs b a := by
 obtain ⟨c, h1, h2, h3⟩ := lcs_has a b;obtain ⟨d, k1, k2, k3⟩ := lcs_has b a;have := lcs_le h2 h1;have := lcs_le k2 k1;omega
theorem lcs_lenl (a b : List ByteArray) : lcs a b ≤ a.length := by
 obtain ⟨c, h2, _, h3⟩ := lcs_has a b;have := h2.length_le;omega
theorem lcs_lenr (a b : List ByteArray) : lcs a b ≤ b.length := by rw [lcs_comm]; exact lcs_lenl b a
/-! the tables -/
def cmn (a b : List ByteArray) (i k : Nat) : Nat := lcs (a.drop i) (b.drop k)
theorem cmn_end {a b : List ByteArray} {i k : Nat} (h : a.length ≤ i ∨ b.length ≤ k) : cmn a b i k = 0 := by
 unfold cmn;rcases h with h | h
 ·rw [List.drop_eq_nil_of_le h, lcs_nil]
 ·rw [List.drop_eq_nil_of_le h, lcs_nilr]
theorem cmn_at {a b : List ByteArray} {i k : Nat} (hi : i < a.length) (hk : k < b.length) : cmn a b i k = if a[i] = b[k] then cmn a b (i + 1) (k + 1) + 1 else max (cmn a b (i + 1) k) (cmn a b i (k + 1)) := by
 unfold cmn;rw [List.drop_eq_getElem_cons hi, List.drop_eq_getElem_cons hk, lcs_cons]
theorem cmn_eq {a b : List ByteArray} {i k : Nat} (hi : i < a.length) (hk : k < b.length) (h : a[i] = b[k]) : cmn a b i k = cmn a b (i + 1) (k + 1) + 1 := by rw [cmn_at hi hk, if_pos h]
theorem cmn_ne {a b : List ByteArray} {i k : Nat} (hi : i < a.length) (hk : k < b.length) (h : ¬ a[i] = b[k]) : cmn a b i k = max (cmn a b (i + 1) k) (cmn a b i (k + 1)) := by rw [cmn_at hi hk, if_neg h]
theorem cmn_le {a b : List ByteArray} {i k : Nat} : cmn a b i k ≤ b.length - k := by
 have := lcs_lenr (a.drop i) (b.drop k);rw [List.length_drop] at this; exact this
/-! the pairs -/
structure Cand (a b : List ByteArray) (i k x y : Nat) : Prop where
 ix : i ≤ x
 ky : k ≤ y
 xl : x < a.length
 yl : y < b.length
 eq : a[x] = b[y]
 n : cmn a b x y = cmn a b i k
theorem cand_ex (a b : List ByteArray) : ∀ (n i k : Nat), a.length - i + (b.length - k) ≤ n → 0 < cmn a b i k → ∃ x y, Cand a b i k x y := by
 intro n
 induction n with
 | zero =>
  intro i k hn h;rw [cmn_end (.inl (by omega))] at h;omega
 | succ n ih =>
  intro i k hn h
  by_cases hi : i < a.length
  ·by_cases hk : k < b.length
   ·by_cases he : a[i] = b[k]
    ·exact ⟨i, k, Nat.le_refl _, Nat.le_refl _, hi, hk, he, rfl⟩
    ·have h1 := cmn_ne hi hk he;rcases Nat.le_total (cmn a b (i + 1) k) (cmn a b i (k + 1)) with h2 | h2
     ·obtain ⟨x, y, c⟩ := ih i (k + 1) (by omega) (by omega);exact ⟨x, y, c.ix, by have := c.ky; omega, c.xl, c.yl, c.eq, by rw [c.n]; omega⟩
     ·obtain ⟨x, y, c⟩ := ih (i + 1) k (by omega) (by omega);exact ⟨x, y, by have := c.ix; omega, c.ky, c.xl, c.yl, c.eq, by rw [c.n]; omega⟩
   ·rw [cmn_end (.inr (by omega))] at h; omega
  ·rw [cmn_end (.inl (by omega))] at h; omega
def NextP (a b : List ByteArray) (i k x y : Nat) : Prop := Cand a b i k x y ∧ ∀ x' y', Cand a b i k x' y' → x < x' ∨ x = x' ∧ y ≤ y'
def NoneB (a b : List ByteArray) (i k x y : Nat) : Prop := ∀ x' y', Cand a b i k x' y' → x < x' ∨ x = x' ∧ y ≤ y'
theorem noneB_0 (a b : List ByteArray) (i k : Nat) : NoneB a b i k i k := fun x' y' c => by
 have := c.ix; have := c.ky;rcases Nat.lt_or_ge i x' with h | h
 ·exact .inl h
 ·exact .inr ⟨by omega, c.ky⟩
theorem noneB_y {a b : List ByteArray} {i k x y : Nat} (h : NoneB a b i k x y) (hn : ¬ Cand a b i k x y) : NoneB a b i k x (y + 1) := fun x' y' c => by
 rcases h x' y' c with h | ⟨rfl, h⟩
 ·exact .inl h
 ·rcases Nat.lt_or_ge y y' with h2 | h2
  ·exact .inr ⟨rfl, h2⟩
  ·have : y = y' := by omega
   subst this; exact absurd c hn
theorem noneB_x {a b : List ByteArray} {i k x y : Nat} (h : NoneB a b i k x y) (hy : b.length ≤ y) : NoneB a b i k (x + 1) k := fun x' y' c => by
 have := c.yl;have := c.ky;rcases h x' y' c with h | ⟨rfl, h⟩
 ·rcases Nat.lt_or_ge (x + 1) x' with h2 | h2
  ·exact .inl h2
  ·exact .inr ⟨by omega, c.ky⟩
 ·omega
theorem noneB_end {a b : List ByteArray} {i k x y : Nat} (h : NoneB a b i k x y) (hx : a.length ≤ x) : ¬ 0 < cmn a b i k := fun h0 => by
 obtain ⟨x', y', c⟩ := cand_ex a b _ i k (Nat.le_refl _) h0;have := c.xl;rcases h x' y' c with h | ⟨h, _⟩ <;> omega
theorem next_one {a b : List ByteArray} {i k x y x' y' : Nat} (h : NextP a b i k x y) (h' : NextP a b i k x' y') : x = x' ∧ y = y' := by
 rcases h.2 x' y' h'.1 with h1 | ⟨h1, h2⟩ <;> rcases h'.2 x y h.1 with h3 | ⟨h3, h4⟩ <;> omega
inductive Chain (a b : List ByteArray) : List (Nat × Nat) → Nat → Nat → Prop
 | nil : Chain a b [] 0 0
 | snoc {l i k x y} : Chain a b l i k → 0 < cmn a b i k → NextP a b i k x y → Chain a b (l ++ [(x, y)]) (x + 1) (y + 1)
def Comm (a b : List ByteArray) (l : List (Nat × Nat)) : Prop := ∃ i k, Chain a b l i k ∧ cmn a b i k = 0
theorem next_cmn {a b : List ByteArray} {i k x y : Nat} (h : Cand a b i k x y) : cmn a b i k = cmn a b (x + 1) (y + 1) + 1 := by
 rw [← h.n]; exact cmn_eq h.xl h.yl h.eq
theorem Chain.len {a b : List ByteArray} {l : List (Nat × Nat)} {i k : Nat} (h : Chain a b l i k) : l.length + cmn a b i k = lcs a b := by
 induction h with
 | nil => simp [cmn]
 | snoc _ _ hn ih => have := next_cmn hn.1; simp; omega
theorem Chain.le {a b : List ByteArray} {l : List (Nat × Nat)} {i k : Nat} (h : Chain a b l i k) : i ≤ a.length ∧ k ≤ b.length := by
 cases h with
 | nil => exact ⟨Nat.zero_le _, Nat.zero_le _⟩
 | snoc _ _ hn => exact ⟨hn.1.xl, hn.1.yl⟩
theorem Chain.one {a b : List ByteArray} {l : List (Nat × Nat)} {i k : Nat} (h : Chain a b l i k) : ∀ {m : List (Nat × Nat)} {i' k' : Nat}, Chain a b m i' k' → l.length = m.length → l = m ∧ i = i' ∧ k = k' := by
 induction h with
 | nil =>
  intro m i' k' h' hl;cases h' with
  | nil => exact ⟨rfl, rfl, rfl⟩
  | snoc => simp at hl
 | snoc h0 hp hn ih =>
  intro m i' k' h' hl;cases h' with
  | nil => simp at hl
  | snoc h0' hp' hn' =>
   obtain ⟨rfl, rfl, rfl⟩ := ih h0' (by simpa using hl);obtain ⟨rfl, rfl⟩ := next_one hn hn';exact ⟨rfl, rfl, rfl⟩
theorem Comm.len {a b : List ByteArray} {l : List (Nat × Nat)} (h : Comm a b l) : l.length = lcs a b := by
 obtain ⟨i, k, h1, h2⟩ := h;have := h1.len; omega
theorem Comm.one {a b : List ByteArray} {l m : List (Nat × Nat)} (h : Comm a b l) (h' : Comm a b m) : l = m := by
 have e : l.length = m.length := by rw [h.len, h'.len]
 obtain ⟨i, k, h1, _⟩ := h;obtain ⟨i', k', h2, _⟩ := h';exact (h1.one h2 e).1
/-! there are such pairs -/
theorem lex_least {p : Nat → Nat → Prop} (h : ∃ x y, p x y) : ∃ x y, p x y ∧ ∀ x' y', p x' y' → x < x' ∨ x = x' ∧ y ≤ y' := by
 have h1 : ∃ x, ∃ y, p x y := h;obtain ⟨hx, hmin⟩ := leastOf_spec h1;obtain ⟨hy, hmin2⟩ := leastOf_spec hx;refine ⟨_, _, hy, fun x' y' hp => ?_⟩;have h2 := hmin x' ⟨y', hp⟩;rcases Nat.lt_or_ge (leastOf fun x => ∃ y, p x y) x' with h3 | h3
 ·exact .inl h3
 ·have e : (leastOf fun x => ∃ y, p x y) = x' := by omega
  refine .inr ⟨e, hmin2 y' ?_⟩;rw [e]; exact hp
theorem next_ex {a b : List ByteArray} {i k : Nat} (h : 0 < cmn a b i k) : ∃ x y, NextP a b i k x y := lex_least (cand_ex a b _ i k (Nat.le_refl _) h)
theorem comm_ex (a b : List ByteArray) : ∃ l, Comm a b l := by
 have key : ∀ (n : Nat) (l : List (Nat × Nat)) (i k : Nat), Chain a b l i k → cmn a b i k ≤ n → ∃ l, Comm a b l := by
  intro n
  induction n with
  | zero => intro l i k h hn; exact ⟨l, i, k, h, by omega⟩
  | succ n ih =>
   intro l i k h hn;rcases Nat.eq_zero_or_pos (cmn a b i k) with h0 | h0
   ·exact ⟨l, i, k, h, h0⟩
   ·obtain ⟨x, y, hxy⟩ := next_ex h0;have := next_cmn hxy.1;exact ih _ _ _ (h.snoc h0 hxy) (by omega)
 exact key _ [] 0 0 Chain.nil (Nat.le_refl _)
noncomputable def commF (a b : List ByteArray) : List (Nat × Nat) := Classical.choose (comm_ex a b)
theorem commF_spec (a b : List ByteArray) : Comm a b (commF a b) := Classical.choose_spec (comm_ex a b)
theorem Comm.eq {a b : List ByteArray} {l : List (Nat × Nat)} (h : Comm a b l) : l = commF a b := h.one (commF_spec a b)
/-! The hunks that make one row of another one. -/
def hunkP (nm : ByteArray) (a b : List ByteArray) (p q : Nat × Nat) : Prim := ⟨0, nm, e0, (p.2 : Int), (a.drop p.1).take (q.1 - p.1), (b.drop p.2).take (q.2 - p.2)⟩
def hk (nm : ByteArray) (a b : List ByteArray) (p q : Nat × Nat) : List Prim := if p.1 < q.1 ∨ p.2 < q.2 then [hunkP nm a b p q] else []
def linS (nm : ByteArray) (a b : List ByteArray) (s : List Prim × (Nat × Nat)) (q : Nat × Nat) : List Prim × (Nat × Nat) := (s.1 ++ hk nm a b s.2 q, (q.1 + 1, q.2 + 1))
def linF (nm : ByteArray) (a b : List ByteArray) (l : List (Nat × Nat)) : List Prim × (Nat × Nat) := l.foldl (linS nm a b) ([], (0, 0))
theorem linF_snoc (nm : ByteArray) (a b : List ByteArray) (l : List (Nat × Nat)) (q : Nat × Nat) : linF nm a b (l ++ [q]) = ((linF nm a b l).1 ++ hk nm a b (linF nm a b l).2 q, (q.1 + 1, q.2 + 1)) := by
 unfold linF; rw [List.foldl_append]; rfl
theorem linF_take {nm : ByteArray} {a b : List ByteArray} {l : List (Nat × Nat)} {j : Nat} (hj : j < l.length) : linF nm a b (l.take (j + 1)) = ((linF nm a b (l.take j)).1 ++ hk nm a b (linF nm a b (l.take j)).2 l[j], (l[j].1 + 1, l[j].2 + 1)) := by
 rw [List.take_succ_eq_append_getElem hj, linF_snoc]
def linAll (nm : ByteArray) (a b : List ByteArray) (l : List (Nat × Nat)) : List Prim := (linF nm a b (l ++ [(a.length, b.length)])).1
theorem Chain.lin {a b : List ByteArray} {l : List (Nat × Nat)} {i k : Nat} (nm : ByteArray) (h : Chain a b l i k) : (linF nm a b l).2 = (i, k) := by
 cases h with
 | nil => rfl
 | snoc h0 hp hn => rw [linF_snoc]
/-! How the tables come to hold what is common. -/
def longB (l m : List ByteArray) : Bool := decide ((200 : Int) < (l.length : Int)) || decide ((200 : Int) < (m.length : Int))
theorem longB_no {l m : List ByteArray} (h : longB l m = false) : l.length ≤ 200 ∧ m.length ≤ 200 := by
 unfold longB at h;simp only [Bool.or_eq_false_iff, decide_eq_false_iff_not] at h;omega
def tf (l m : List ByteArray) (p q : Nat) : Nat → Nat → Int := fun r k => if p ≤ r ∨ (r + 1 = p ∧ q ≤ k) then (cmn l m r k : Int) else 0
theorem tf_in {l m : List ByteArray} {p q r k : Nat} (h : p ≤ r ∨ (r + 1 = p ∧ q ≤ k)) : tf l m p q r k = (cmn l m r k : Int) := by unfold tf; rw [if_pos h]
theorem tf0 (l m : List ByteArray) (q r k : Nat) : tf l m 0 q r k = (cmn l m r k : Int) := tf_in (.inl (Nat.zero_le _))
theorem len_init (l m : List ByteArray) : List.replicate (l.length + 1) (List.replicate (m.length + 1) (0 : Int)) = mkT (l.length + 1) (m.length + 1) (tf l m l.length m.length) := by
 rw [mkT_rep rfl];refine mkT_ext fun r k hr hk => ?_;unfold tf
 split
 ·rw [cmn_end (by omega)]; rfl
 ·rfl
theorem len_row (l m : List ByteArray) (p : Nat) (hp : p < l.length) : mkT (l.length + 1) (m.length + 1) (tf l m (p + 1) 0) = mkT (l.length + 1) (m.length + 1) (tf l m p m.length) := by
 refine mkT_ext fun r k hr hk => ?_;unfold tf
 by_cases h1 : p ≤ r
 ·rw [if_pos (by omega), if_pos (.inl h1)]
 ·rw [if_neg (by omega)]
  split
  ·rw [cmn_end (by omega)]; rfl
  ·rfl
theorem len_ne {l m : List ByteArray} {p q : Nat} (hp : p < l.length) (hq : q < m.length) (h : ¬ l[p] = m[q]) :
  mkT (l.length + 1) (m.length + 1) (upF (tf l m (p + 1) (q + 1)) p q (max (tf l m (p + 1) (q + 1) (p + 1) q) (tf l m (p + 1) (q + 1) p (q + 1)))) = mkT (l.length + 1) (m.length + 1) (tf l m (p + 1) q) := by
 refine mkT_ext fun r k hr hk => ?_;unfold upF
 by_cases h1 : r = p ∧ k = q
 ·obtain ⟨rfl, rfl⟩ := h1;rw [if_pos ⟨rfl, rfl⟩, tf_in (.inl (Nat.le_refl _)), tf_in (.inr ⟨rfl, Nat.le_refl _⟩), tf_in (.inr ⟨rfl, Nat.le_refl _⟩), cmn_ne hp hq h];omega
 ·rw [if_neg h1];unfold tf
  by_cases h2 : p + 1 ≤ r ∨ (r + 1 = p + 1 ∧ q + 1 ≤ k)
  ·rw [if_pos h2, if_pos (by omega)]
  ·rw [if_neg h2, if_neg (by omega)]
theorem len_eq {l m : List ByteArray} {p q : Nat} {z : Int} (hp : p < l.length) (hq : q < m.length) (h : l[p] = m[q]) :
  mkT (l.length + 1) (m.length + 1) (upF (upF (tf l m (p + 1) (q + 1)) p q z) p q (upF (tf l m (p + 1) (q + 1)) p q z (p + 1) (q + 1) + 1)) = mkT (l.length + 1) (m.length + 1) (tf l m (p + 1) q) := by
 refine mkT_ext fun r k hr hk => ?_;have e1 : upF (tf l m (p + 1) (q + 1)) p q z (p + 1) (q + 1) = (cmn l m (p + 1) (q + 1) : Int) := by
  unfold upF; rw [if_neg (by omega), tf_in (.inl (Nat.le_refl _))]
 rw [e1];unfold upF
 by_cases h1 : r = p ∧ k = q
 ·obtain ⟨rfl, rfl⟩ := h1;rw [if_pos ⟨rfl, rfl⟩, tf_in (.inr ⟨rfl, Nat.le_refl _⟩), cmn_eq hp hq h];omega
 ·rw [if_neg h1, if_neg h1];unfold tf
  by_cases h2 : p + 1 ≤ r ∨ (r + 1 = p + 1 ∧ q + 1 ≤ k)
  ·rw [if_pos h2, if_pos (by omega)]
  ·rw [if_neg h2, if_neg (by omega)]
theorem upF_at (f : Nat → Nat → Int) (r k : Nat) (v : Int) (r' k' : Nat) : upF f r k v r' k' = if r' = r ∧ k' = k then v else f r' k' := rfl
end Go.Proofs.YtbhnolfcdcpbkaaGreatDoor.X
end
section
namespace Go.Proofs.YtbhnolfcdcpbkaaGreatDoor.X
set_option maxRecDepth 100000
open Go Go.RowKit Go.Proofs Go.Sx
open Tryz
attribute [local irreducible] slA isA box row TrL TrC TrN TrA Pu OpR
set_option maxHeartbeats 8000000
theorem hunk_some {l m : List ByteArray} {p q : Nat × Nat} (h1 : p.1 ≤ q.1) (h2 : p.2 ≤ q.2) (h3 : q.1 ≤ l.length) (h4 : q.2 ≤ m.length) : decide (p.1 < q.1 ∨ p.2 < q.2) = decide ((0 : Int) < (((l.drop p.1).take (q.1 - p.1)).length : Int) + (((m.drop p.2).take (q.2 - p.2)).length : Int)) := by
 rw [decide_eq_decide, List.length_take, List.length_take, List.length_drop, List.length_drop];omega
theorem inf61 : (Tryz.prog.info? 61).map (fun i => (i.zero, i.size, i.bytes)) = some (some (.slice none 0 0), 1, 24) := by kernel_rfl
theorem inf256 : (Tryz.prog.info? 256).map (fun i => (i.zero, i.size, i.bytes)) = some (some (.agg #[.int .i64 0, .int .i64 0]), 2, 16) := by kernel_rfl
theorem c_dLong (l m : List ByteArray) (A B : Option Addr) (c c' : Nat) : Con Tryz.prog 190 [.slice A l.length c, .slice B m.length c'] [] [] Unit (fun _ => .bool (longB l m)) (fun _ => []) (fun _ => []) := by
 refine con func190 rfl ntmps190 rfl ?_;intro M0 F0 w0;refine k_ 11 ?_;refine orX 4 8 12 rfl (sL [4]) ?_ ?_
 ·intro h8;refine k_ 4 ?_;refine ln (nmid (wk0 Φ Ω))
 apply exI
 ·intro h8;refine k_ 4 ?_;refine ln (nmid (wk0 Φ Ω))
 ·
  refine k_ 5 ?_;exact rR [] ()
theorem c_dLengths (l m : List ByteArray) (A B : Option Addr) (c c' : Nat) (hl : l.length ≤ 200) (hm : m.length ≤ 200) : Con Tryz.prog 229 [.slice A l.length c, .slice B m.length c'] [] [slA A l, slA B m] (Option Addr × Nat) (fun x => .slice x.1 (l.length + 1) x.2) (fun _ => []) (fun x => [slA x.1 (mkT (l.length + 1) (m.length + 1) (tf l m (0) (m.length)))]) := by
 refine con func229 rfl ntmps229 rfl ?_;intro M0 F0 w0;refine k_ 10 ?_;refine ls (o_mk (⟨none, 0, 0⟩ : Hdr) () (l.length + 1) underlying295 inf61 rfl (by decide) (fun _ _ p hp => by cases hp) (by omega) (by omega) rfl rfl (by omega) (by omega) rfl) ?_;refine le ?_; intro g;rw [List.length_replicate];refine lmono (fun a w h => tab0 (β := Int) (e2 := 3) (m := (m.length + 1)) (ls := List.replicate 0 (List.replicate (m.length + 1) 0)) Θ (hd_0 (m.length + 1) (l.length + 1)) rfl Θ h) ?_;refine k_ 12 ?_;refine cl (ι := {q : Nat × List Nat // q.2.length = q.1 ∧ q.1 ≤ l.length + 1}) (fun i => St M0 F0 w0 89 [(0, .slice A l.length c), (1, .slice B m.length c'), (5, .slice (some ⟨g, 0, none⟩) (l.length + 1) (l.length + 1)), (14, .int .i64 ((l.length + 1 : Nat) : Int)), (15, .int .i64 ((i.1.1 : Nat) : Int))] [tab 61 3 g (l.length + 1) (hd (m.length + 1) i.1.2 (l.length + 1)) (m.length + 1) i.1.2 (List.replicate (i.1.1) (List.replicate (m.length + 1) 0))] [slA A l, slA B m]) (fun i => l.length + 1 - i.1.1) ⟨(0, []), rfl, Nat.zero_le _⟩ (wk0 Φ Ω) ?_;rintro ⟨⟨k, gs⟩, hgk, hk⟩;refine cmono (S' := St M0 F0 w0 89 [(0, .slice A l.length c), (1, .slice B m.length c'), (5, .slice (some ⟨g, 0, none⟩) (l.length + 1) (l.length + 1)), (14, .int .i64 ((l.length + 1 : Nat) : Int)), (15, .int .i64 ((k : Nat) : Int))] [tab 61 3 g (l.length + 1) (hd (m.length + 1) gs (l.length + 1)) (m.length + 1) gs (List.replicate (k) (List.replicate (m.length + 1) 0))] [slA A l, slA B m]) Ħ ?_;refine k_ 6 ?_;refine cc rfl ?_ ?_
 ·intro h16;dsimp only at hgk hk;(try simp only [nrmZ] at h16);subst hgk;have hg1 : gs.length < l.length + 1 := (by omega);refine k_ 16 ?_;refine ls (o_mk (0 : Int) () (m.length + 1) underlying61 inf3 rfl (by decide) (fun _ _ p hp => by cases hp) (by omega) (by omega) rfl rfl (by omega) (by omega) rfl) ?_;refine le ?_; intro b23;rw [List.length_replicate];refine ls (op (p_ia gs.length rfl hg1 rfl underlying295 sizeOf61 rfl rfl) rfl) ?_;refine ls (o_tput (i := 1) (k := 0) (j := gs.length) rfl sizeOf61 rfl rfl rfl (by rw [hd_length (by omega)]; exact hg1) (hd_set hg1) List.replicate_succ'.symm) ?_;refine k_ 7 ?_;refine nnext ⟨(gs.length + 1, gs ++ [b23]), by simp, by dsimp only; omega⟩ (by dsimp only; omega) (wk0 Φ Ω)
 ·intro h16;dsimp only at hgk hk;(try simp only [nrmZ] at h16);obtain rfl : k = l.length + 1 := (by omega);have hgs : gs.length = l.length + 1 := hgk;refine k_ 15 ?_;refine cl (ι := {p : Nat // p ≤ l.length}) (fun i => St M0 F0 w0 89 [(0, .slice A l.length c), (1, .slice B m.length c'), (5, .slice (some ⟨g, 0, none⟩) (l.length + 1) (l.length + 1)), (7, .int .i64 ((i.1 : Int) - 1))] [tab 61 3 g (l.length + 1) (hd (m.length + 1) gs (l.length + 1)) (m.length + 1) gs (mkT (l.length + 1) (m.length + 1) (tf l m (i.1) (m.length)))] [slA A l, slA B m]) (fun i => i.1) ⟨l.length, Nat.le_refl _⟩ ((fun a w h => by dsimp only; rw [← len_init]; exact wk0 Φ Ω a w h)) ?_;rintro ⟨p, hp⟩;refine cmono (S' := St M0 F0 w0 89 [(0, .slice A l.length c), (1, .slice B m.length c'), (5, .slice (some ⟨g, 0, none⟩) (l.length + 1) (l.length + 1)), (7, .int .i64 ((p : Int) - 1))] [tab 61 3 g (l.length + 1) (hd (m.length + 1) gs (l.length + 1)) (m.length + 1) gs (mkT (l.length + 1) (m.length + 1) (tf l m (p) (m.length)))] [slA A l, slA B m]) Ħ ?_;refine k_ 7 ?_;refine cc rfl ?_ ?_
  ·intro h30;(try simp only [nrmZ] at h30);obtain ⟨p, rfl⟩ : ∃ p', p = p' + 1 := ⟨p - 1, by omega⟩;refine k_ 13 ?_;refine cl (ι := {q : Nat // q ≤ m.length}) (fun i => St M0 F0 w0 89 [(0, .slice A l.length c), (1, .slice B m.length c'), (5, .slice (some ⟨g, 0, none⟩) (l.length + 1) (l.length + 1)), (7, .int .i64 (((p + 1 : Nat) : Int) - 1)), (8, .int .i64 ((i.1 : Int) - 1))] [tab 61 3 g (l.length + 1) (hd (m.length + 1) gs (l.length + 1)) (m.length + 1) gs (mkT (l.length + 1) (m.length + 1) (tf l m (p + 1) (i.1)))] [slA A l, slA B m]) (fun i => i.1) ⟨m.length, Nat.le_refl _⟩ (wk0 Φ Ω) ?_;rintro ⟨q, hq⟩;refine cmono (S' := St M0 F0 w0 89 [(0, .slice A l.length c), (1, .slice B m.length c'), (5, .slice (some ⟨g, 0, none⟩) (l.length + 1) (l.length + 1)), (7, .int .i64 (((p + 1 : Nat) : Int) - 1)), (8, .int .i64 ((q : Int) - 1))] [tab 61 3 g (l.length + 1) (hd (m.length + 1) gs (l.length + 1)) (m.length + 1) gs (mkT (l.length + 1) (m.length + 1) (tf l m (p + 1) (q)))] [slA A l, slA B m]) Ħ ?_;refine k_ 7 ?_;refine cc rfl ?_ ?_
   ·intro h37;(try simp only [nrmZ] at h37);obtain ⟨q, rfl⟩ : ∃ q', q = q' + 1 := ⟨q - 1, by omega⟩;have hp1 : p < l.length := (by omega);have hq1 : q < m.length := (by omega);refine k_ 5 ?_;refine cdB [23] [(3, g, 0 + p * Rp.size Hdr, _), (9, g, 0 + (p + 1) * Rp.size Hdr, _), (12, gs[p + 1], 0 + q * Rp.size Int, _), (16, g, 0 + p * Rp.size Hdr, _), (20, gs[p], 0 + (q + 1) * Rp.size Int, _)] TryzX.mixed Ψ Ψ (TOk.t (isTabH Θ (hd_at hgs (by omega))) (TOk.t (isTabH Θ (hd_at hgs (by omega))) (TOk.t (isTabI Θ (List.getElem?_eq_getElem (by omega : (p + 1) < gs.length)) (mkT_row (f := tf l m (p + 1) (q + 1)) (by omega)) (mkR_at (f := (tf l m (p + 1) (q + 1)) (p + 1)) (by omega))) (TOk.t (isTabH Θ (hd_at hgs (by omega))) (TOk.t (isTabI Θ (List.getElem?_eq_getElem (by omega : p < gs.length)) (mkT_row (f := tf l m (p + 1) (q + 1)) (by omega)) (mkR_at (f := (tf l m (p + 1) (q + 1)) p) (by omega))) TOk.d))))) ?_;refine t_ 0 2 ?_;refine tkB 2 rfl Ψ Υ gnone (TTany _) (p_ia p rfl (by omega) (by omega) underlying295 sizeOf61 rfl rfl) rfl ?_;refine t_ 3 5 ?_;refine tkB 8 rfl Ψ Υ gnone (TTany _) (p_ia (p + 1) rfl (by omega) (by omega) underlying295 sizeOf61 rfl rfl) rfl ?_;refine t_ 9 2 ?_;refine tkB 11 rfl Ψ Υ gnone (TTany _) (p_ia q rfl (show q < m.length + 1 by omega) (by omega) underlying61 sizeOf3 rfl rfl) rfl ?_;refine t_ 12 3 ?_;refine tkB 15 rfl Ψ Υ gnone (TTany _) (p_ia p rfl (by omega) (by omega) underlying295 sizeOf61 rfl rfl) rfl ?_;refine t_ 16 3 ?_;refine tkB 19 rfl Ψ Υ gnone (TTany _) (p_ia (q + 1) rfl (show (q + 1) < m.length + 1 by omega) (by omega) underlying61 sizeOf3 rfl rfl) rfl ?_;refine t_ 20 1 ?_;refine tkB 21 rfl Ψ Υ gnone (TTany _) (p_max rfl rfl) rfl ?_;refine tkB 22 rfl Ψ Υ gnone (TTany _) (p_ia q rfl (show q < m.length + 1 by omega) (by omega) underlying61 sizeOf3 rfl rfl) rfl ?_;refine dfB 23 Ψ ?_;refine doRB rfl (o_tst (j := p) (k := q) (b := gs[p]) (l := (List.range (m.length + 1)).map ((tf l m (p + 1) (q + 1)) p)) (z := max (tf l m (p + 1) (q + 1) (p + 1) q) (tf l m (p + 1) (q + 1) p (q + 1))) (yz := ()) rfl sizeOf3 rfl rfl rfl Θ (List.getElem?_eq_getElem (by omega : p < gs.length)) (mkT_row (by omega)) (by rw [mkR_length]; omega) (mkT_set (g := upF (tf l m (p + 1) (q + 1)) p q (max (tf l m (p + 1) (q + 1) (p + 1) q) (tf l m (p + 1) (q + 1) p (q + 1)))) (fun _ _ _ _ => rfl)) Θ Ω) (TOk.xP 23 [] Ψ (TOk.xP 23 [] Ψ (TOk.xP 23 [] Ψ (TOk.xP 23 [] Ψ (TOk.xP 23 [] Ψ TOk.d))))) ?_;refine dnB Ψ ?_;refine k_ 2 ?_;refine elC (A := A) (l := l) Θ p (List.getElem?_eq_getElem (l := l) hp1) ?_; rintro zba zoa zya hAa;refine elC (A := B) (l := m) Θ q (List.getElem?_eq_getElem (l := m) hq1) ?_; rintro zbb zob zyb hAb;refine cdB [] [(3, zba, zoa + p * Rp.size ByteArray, _), (7, zbb, zob + q * Rp.size ByteArray, _)] TryzX.mixed Ψ Ψ (TOk.t (isInS Θ (k := 0) rfl (z := 1) Δ) (TOk.t (isInS Θ (k := 0) rfl (z := 1) Δ) TOk.d)) ?_;refine t_ 0 2 ?_;refine tkB 2 rfl Ψ Υ gnone (TTany _) (p_ia p hAa hp1 (by omega) underlying73 sizeOf9 rfl rfl) rfl ?_;refine t_ 3 3 ?_;refine tkB 6 rfl Ψ Υ gnone (TTany _) (p_ia q hAb hq1 (by omega) underlying73 sizeOf9 rfl rfl) rfl ?_;refine t_ 7 2 ?_;refine dnB Ψ ?_;refine k_ 1 ?_;refine cc rfl ?_ ?_
    ·intro h71;(try simp only [nrmZ] at h71);refine cdB [16] [(3, g, 0 + p * Rp.size Hdr, _), (9, g, 0 + (p + 1) * Rp.size Hdr, _), (13, gs[p + 1], 0 + (q + 1) * Rp.size Int, _)] TryzX.mixed Ψ Ψ (TOk.t (isTabH Θ (hd_at hgs (by omega))) (TOk.t (isTabH Θ (hd_at hgs (by omega))) (TOk.t (isTabI Θ (List.getElem?_eq_getElem (by omega : (p + 1) < gs.length)) (mkT_row (f := upF (tf l m (p + 1) (q + 1)) p q (max (tf l m (p + 1) (q + 1) (p + 1) q) (tf l m (p + 1) (q + 1) p (q + 1)))) (by omega)) (mkR_at (f := (upF (tf l m (p + 1) (q + 1)) p q (max (tf l m (p + 1) (q + 1) (p + 1) q) (tf l m (p + 1) (q + 1) p (q + 1)))) (p + 1)) (by omega))) TOk.d))) ?_;refine t_ 0 2 ?_;refine tkB 2 rfl Ψ Υ gnone (TTany _) (p_ia p rfl (by omega) (by omega) underlying295 sizeOf61 rfl rfl) rfl ?_;refine t_ 3 5 ?_;refine tkB 8 rfl Ψ Υ gnone (TTany _) (p_ia (p + 1) rfl (by omega) (by omega) underlying295 sizeOf61 rfl rfl) rfl ?_;refine t_ 9 3 ?_;refine tkB 12 rfl Ψ Υ gnone (TTany _) (p_ia (q + 1) rfl (show (q + 1) < m.length + 1 by omega) (by omega) underlying61 sizeOf3 rfl rfl) rfl ?_;refine t_ 13 1 ?_;refine tkB 14 rfl Ψ Υ gnone (TTany _) (p_add rfl rfl (by rw [upF_at, if_neg (by omega), tf_in (.inl (Nat.le_refl _))]; have := cmn_le (a := l) (b := m) (i := p + 1) (k := q + 1); omega)) rfl ?_;refine tkB 15 rfl Ψ Υ gnone (TTany _) (p_ia q rfl (show q < m.length + 1 by omega) (by omega) underlying61 sizeOf3 rfl rfl) rfl ?_;refine dfB 16 Ψ ?_;refine doRB rfl (o_tst (j := p) (k := q) (b := gs[p]) (l := (List.range (m.length + 1)).map ((upF (tf l m (p + 1) (q + 1)) p q (max (tf l m (p + 1) (q + 1) (p + 1) q) (tf l m (p + 1) (q + 1) p (q + 1)))) p)) (z := (upF (tf l m (p + 1) (q + 1)) p q (max (tf l m (p + 1) (q + 1) (p + 1) q) (tf l m (p + 1) (q + 1) p (q + 1)))) (p + 1) (q + 1) + 1) (yz := ()) rfl sizeOf3 rfl rfl rfl Θ (List.getElem?_eq_getElem (by omega : p < gs.length)) (mkT_row (by omega)) (by rw [mkR_length]; omega) (mkT_set (g := upF (upF (tf l m (p + 1) (q + 1)) p q (max (tf l m (p + 1) (q + 1) (p + 1) q) (tf l m (p + 1) (q + 1) p (q + 1)))) p q ((upF (tf l m (p + 1) (q + 1)) p q (max (tf l m (p + 1) (q + 1) (p + 1) q) (tf l m (p + 1) (q + 1) p (q + 1)))) (p + 1) (q + 1) + 1)) (fun _ _ _ _ => rfl)) Θ Ω) (TOk.xP 16 [] Ψ (TOk.xP 16 [] Ψ (TOk.xP 16 [] Ψ TOk.d))) ?_;refine dnB Ψ ?_;refine k_ 5 ?_;refine fixL (v' := .int .i64 ((q : Int) - 1)) (by congr 1; omega) ?_;refine k_ 2 ?_;refine nnext ⟨q, by omega⟩ (by dsimp only; omega) (fun a w h => by dsimp only; rw [← len_eq hp1 hq1 h71]; exact wk0 Φ Ω a w h)
    ·intro h71;(try simp only [nrmZ] at h71);refine k_ 6 ?_;refine fixL (v' := .int .i64 ((q : Int) - 1)) (by congr 1; omega) ?_;refine k_ 2 ?_;refine nnext ⟨q, by omega⟩ (by dsimp only; omega) (fun a w h => by dsimp only; rw [← len_ne hp1 hq1 h71]; exact wk0 Φ Ω a w h)
   ·intro h37;(try simp only [nrmZ] at h37);obtain rfl : q = 0 := (by omega);refine k_ 9 ?_;refine fixL (v' := .int .i64 ((p : Int) - 1)) (by congr 1; omega) ?_;refine k_ 2 ?_;refine nnext ⟨p, by omega⟩ (by dsimp only; omega) (fun a w h => by dsimp only; rw [← len_row l m p (by omega)]; exact wk0 Φ Ω a w h)
  ·intro h30;(try simp only [nrmZ] at h30);obtain rfl : p = 0 := (by omega);refine k_ 6 ?_;refine cmono (fun a w h => freezeTab (i := 0) rfl (hd_all hgs) mkT_mem h) ?_;refine k_ 7 ?_;exact rR [] (some ⟨g, 0, none⟩, l.length + 1)
theorem c_dCommon (l m : List ByteArray) (A B : Option Addr) (c c' : Nat) (hl : l.length ≤ 1000000) (hm : m.length ≤ 1000000) : Con Tryz.prog 193 [.slice A l.length c, .slice B m.length c'] [] [slA A l, slA B m] {x : List (Nat × Nat) × (Option Addr × Nat) // (longB l m = true → x.1 = []) ∧ (longB l m = false → Comm l m x.1)} (fun x => .slice x.1.2.1 x.1.1.length x.1.2.2) (fun x => [row 256 x.1.2.1 x.1.2.2 x.1.1]) (fun _ => []) := by
 refine con func193 rfl ntmps193 rfl ?_;intro M0 F0 w0;refine k_ 5 ?_;refine cscope ?_;refine k_ 5 ?_;refine lC [] call190 (c_dLong l m A B c c') ?_; intro x13;refine k_ 2 ?_;refine cc rfl ?_ ?_
 ·intro h13
  skip
  refine cs ?_;refine cmono (fun a w h => nilRow (α := Nat × Nat) 256 h) ?_;refine k_ 6 ?_;exact rR [0] ⟨([], (none, 0)), fun _ => rfl, fun h => by rw [h13] at h; cases h⟩
 ·intro h13;obtain ⟨hl2, hm2⟩ := longB_no h13;refine k_ 6 ?_;refine lC [] call229 (c_dLengths l m A B c c' hl2 hm2) ?_; rintro ⟨A5, c5⟩;refine k_ 4 ?_;refine cmono (fun a w h => nilRow (α := Nat × Nat) 256 h) ?_;refine k_ 11 ?_;refine clabel ?_;refine k_ 3 ?_;refine cl (ι := {q : List (Nat × Nat) × (Nat × Nat) × (Option Addr × Nat) // Chain l m q.1 q.2.1.1 q.2.1.2}) (fun i => St M0 F0 w0 76 [(0, .slice A l.length c), (1, .slice B m.length c'), (5, .slice A5 (l.length + 1) c5), (6, .slice i.1.2.2.1 (i.1.1).length i.1.2.2.2), (7, .int .i64 ((i.1.2.1.1 : Nat) : Int)), (8, .int .i64 ((i.1.2.1.2 : Nat) : Int))] [row 256 (i.1.2.2.1) (i.1.2.2.2) i.1.1] [slA A l, slA B m, slA A5 (mkT (l.length + 1) (m.length + 1) (tf l m (0) (m.length)))]) (fun i => cmn l m (i.1.2.1.1) (i.1.2.1.2)) ⟨([], (0, 0), (none, 0)), Chain.nil⟩ (wk0 Φ Ω) ?_;rintro ⟨⟨o, ⟨u, k⟩, ⟨A6, c6⟩⟩, hch⟩;refine cmono (S' := St M0 F0 w0 76 [(0, .slice A l.length c), (1, .slice B m.length c'), (5, .slice A5 (l.length + 1) c5), (6, .slice A6 (o).length c6), (7, .int .i64 ((u : Nat) : Int)), (8, .int .i64 ((k : Nat) : Int))] [row 256 (A6) (c6) o] [slA A l, slA B m, slA A5 (mkT (l.length + 1) (m.length + 1) (tf l m (0) (m.length)))]) Ħ ?_;refine k_ 2 ?_;dsimp only at hch;have hle := hch.le;refine elC (A := A5) (l := mkT (l.length + 1) (m.length + 1) (tf l m (0) (m.length))) Θ u (mkT_row (by omega)) ?_; rintro zbt zot zyt hAt;refine elC (A := zyt.1) (l := (List.range (m.length + 1)).map ((tf l m (0) (m.length)) u)) Θ k (mkR_at (by omega)) ?_; rintro zbu zou zyu hAu;refine k_ 3 ?_;refine ls (op (p_ia u hAt (by omega) rfl underlying295 sizeOf61 rfl rfl) rfl) ?_;refine ls (o_ldi isAgg61 rfl Θ 0 rfl Δ rfl) ?_;refine k_ 1 ?_;refine ls (op (p_ia k hAu (by rw [mkR_length]; omega) rfl underlying61 sizeOf3 rfl rfl) rfl) ?_;refine ls (o_ldi isAgg3 rfl Θ 0 rfl Δ rfl) ?_;refine k_ 3 ?_;refine cc rfl ?_ ?_
  ·intro h24;have hpos : 0 < cmn l m u k := (by have h := h24; rw [tf0] at h; simp at h; omega);refine k_ 10 ?_;refine cl (ι := {x : Nat // u ≤ x ∧ x ≤ l.length ∧ NoneB l m u k x k}) (fun i => St M0 F0 w0 76 [(0, .slice A l.length c), (1, .slice B m.length c'), (5, .slice A5 (l.length + 1) c5), (6, .slice A6 (o).length c6), (7, .int .i64 ((u : Nat) : Int)), (8, .int .i64 ((k : Nat) : Int)), (9, .int .i64 ((i.1 : Nat) : Int))] [row 256 A6 c6 o] [slA A l, slA B m, slA A5 (mkT (l.length + 1) (m.length + 1) (tf l m (0) (m.length)))]) (fun i => l.length - i.1) ⟨u, Nat.le_refl _, hle.1, noneB_0 l m u k⟩ (wk0 Φ Ω) ?_;rintro ⟨x, hix, hxl, hnx⟩;refine cmono (S' := St M0 F0 w0 76 [(0, .slice A l.length c), (1, .slice B m.length c'), (5, .slice A5 (l.length + 1) c5), (6, .slice A6 (o).length c6), (7, .int .i64 ((u : Nat) : Int)), (8, .int .i64 ((k : Nat) : Int)), (9, .int .i64 ((x : Nat) : Int))] [row 256 A6 c6 o] [slA A l, slA B m, slA A5 (mkT (l.length + 1) (m.length + 1) (tf l m (0) (m.length)))]) Ħ ?_;refine k_ 9 ?_;refine cc rfl ?_ ?_
   ·intro h29;(try simp only [nrmZ] at h29);have hx1 : x < l.length := (by omega);refine k_ 11 ?_;refine cl (ι := {y : Nat // k ≤ y ∧ y ≤ m.length ∧ NoneB l m u k x y}) (fun i => St M0 F0 w0 76 [(0, .slice A l.length c), (1, .slice B m.length c'), (5, .slice A5 (l.length + 1) c5), (6, .slice A6 (o).length c6), (7, .int .i64 ((u : Nat) : Int)), (8, .int .i64 ((k : Nat) : Int)), (9, .int .i64 ((x : Nat) : Int)), (10, .int .i64 ((i.1 : Nat) : Int))] [row 256 A6 c6 o] [slA A l, slA B m, slA A5 (mkT (l.length + 1) (m.length + 1) (tf l m (0) (m.length)))]) (fun i => m.length - i.1) ⟨k, Nat.le_refl _, hle.2, hnx⟩ (wk0 Φ Ω) ?_;rintro ⟨y, hky, hyl, hny⟩;refine cmono (S' := St M0 F0 w0 76 [(0, .slice A l.length c), (1, .slice B m.length c'), (5, .slice A5 (l.length + 1) c5), (6, .slice A6 (o).length c6), (7, .int .i64 ((u : Nat) : Int)), (8, .int .i64 ((k : Nat) : Int)), (9, .int .i64 ((x : Nat) : Int)), (10, .int .i64 ((y : Nat) : Int))] [row 256 A6 c6 o] [slA A l, slA B m, slA A5 (mkT (l.length + 1) (m.length + 1) (tf l m (0) (m.length)))]) Ħ ?_;refine k_ 9 ?_;refine cc rfl ?_ ?_
    ·intro h36;(try simp only [nrmZ] at h36);have hy1 : y < m.length := (by omega);refine k_ 5 ?_;rcases Classical.em (l[x] = m[y]) with heq | heq
     ·
      refine elC (A := A) (l := l) Θ x (List.getElem?_eq_getElem (l := l) hx1) ?_; rintro zba zoa zya hAa;refine elC (A := B) (l := m) Θ y (List.getElem?_eq_getElem (l := m) hy1) ?_; rintro zbb zob zyb hAb;refine elC (A := A5) (l := mkT (l.length + 1) (m.length + 1) (tf l m (0) (m.length))) Θ x (mkT_row (by omega)) ?_; rintro zbt2 zot2 zyt2 hAt2;refine elC (A := zyt2.1) (l := (List.range (m.length + 1)).map ((tf l m (0) (m.length)) x)) Θ y (mkR_at (by omega)) ?_; rintro zbu2 zou2 zyu2 hAu2;refine elC (A := A5) (l := mkT (l.length + 1) (m.length + 1) (tf l m (0) (m.length))) Θ u (mkT_row (by omega)) ?_; rintro zbt3 zot3 zyt3 hAt3;refine elC (A := zyt3.1) (l := (List.range (m.length + 1)).map ((tf l m (0) (m.length)) u)) Θ k (mkR_at (by omega)) ?_; rintro zbu3 zou3 zyu3 hAu3;refine cdB [] [(3, zba, zoa + x * Rp.size ByteArray, _), (7, zbb, zob + y * Rp.size ByteArray, _), (13, zbt2, zot2 + x * Rp.size (List Int), _), (16, zbu2, zou2 + y * Rp.size Int, _), (20, zbt3, zot3 + u * Rp.size (List Int), _), (23, zbu3, zou3 + k * Rp.size Int, _)] TryzX.mixed Ψ Ψ (TOk.t (isInS Θ (k := 0) rfl (z := 1) Δ) (TOk.t (isInS Θ (k := 0) rfl (z := 1) Δ) (TOk.t (isInS Θ (k := 0) rfl (z := 1) Δ) (TOk.t (isInS Θ (k := 0) rfl (z := 1) Δ) (TOk.t (isInS Θ (k := 0) rfl (z := 1) Δ) (TOk.t (isInS Θ (k := 0) rfl (z := 1) Δ) TOk.d)))))) ?_;refine t_ 0 2 ?_;refine tkB 2 rfl Ψ Υ gnone (TTany _) (p_ia x hAa hx1 rfl underlying73 sizeOf9 rfl rfl) rfl ?_;refine t_ 3 3 ?_;refine tkB 6 rfl Ψ Υ gnone (TTany _) (p_ia y hAb hy1 rfl underlying73 sizeOf9 rfl rfl) rfl ?_;refine t_ 7 2 ?_;refine fixB (congrArg Value.bool (decide_eq_true heq)) ?_;refine t_ 9 3 ?_;refine tkB 12 rfl Ψ Υ (gyes rfl rfl rfl rfl) (TTany _) (p_ia x hAt2 (by first | omega | (rw [mkR_length]; omega)) rfl underlying295 sizeOf61 rfl rfl) rfl ?_;refine tkB 13 rfl Ψ Υ (gyes rfl rfl rfl rfl) (TTat (mT (mT (List.Mem.head _)))) (p_ld isAgg61 rfl) rfl ?_;refine t_ 14 1 ?_;refine tkB 15 rfl Ψ Υ (gyes rfl rfl rfl rfl) (TTany _) (p_ia y hAu2 (by first | omega | (rw [mkR_length]; omega)) rfl underlying61 sizeOf3 rfl rfl) rfl ?_;refine tkB 16 rfl Ψ Υ (gyes rfl rfl rfl rfl) (TTat (mT (mT (mT (List.Mem.head _))))) (p_ld isAgg3 rfl) rfl ?_;refine t_ 17 2 ?_;refine tkB 19 rfl Ψ Υ (gyes rfl rfl rfl rfl) (TTany _) (p_ia u hAt3 (by first | omega | (rw [mkR_length]; omega)) rfl underlying295 sizeOf61 rfl rfl) rfl ?_;refine tkB 20 rfl Ψ Υ (gyes rfl rfl rfl rfl) (TTat (mT (mT (mT (mT (List.Mem.head _)))))) (p_ld isAgg61 rfl) rfl ?_;refine t_ 21 1 ?_;refine tkB 22 rfl Ψ Υ (gyes rfl rfl rfl rfl) (TTany _) (p_ia k hAu3 (by first | omega | (rw [mkR_length]; omega)) rfl underlying61 sizeOf3 rfl rfl) rfl ?_;refine tkB 23 rfl Ψ Υ (gyes rfl rfl rfl rfl) (TTat (mT (mT (mT (mT (mT (List.Mem.head _))))))) (p_ld isAgg3 rfl) rfl ?_;refine t_ 24 2 ?_;refine dnB Ψ ?_;refine k_ 1 ?_;refine cc rfl ?_ ?_
      ·intro h64;have hc : Cand l m u k x y := ⟨hix, hky, hx1, hy1, heq, by have h := h64; rw [tf0, tf0] at h; simp at h; omega⟩;have hnp : NextP l m u k x y := ⟨hc, hny⟩;have hlen := hch.len;refine k_ 6 ?_;refine ls (o_bsl [(x, y)] underlying257 sizeOf256 zeroValue256 rfl (Enum.t Enum.d) (RV.t () rfl Ω RV.d) rfl (by decide) (by decide) rfl) ?_;refine le ?_; intro b69;refine lmono (fun a w h => Go.Sx.freeze (i := 0) rfl h) ?_;refine ls (o_app (is := [0]) underlying257 inf256 rfl (by decide) (by decide) rfl rfl (by simp only [List.length_cons, List.length_nil]; have := lcs_lenl l m; omega) (fun h => by cases h) rfl Ω rfl) ?_;refine le ?_; rintro ⟨A70, c70⟩;refine k_ 14 ?_;refine xblock' rfl ?_;refine k_ 2 ?_;refine xblock' rfl ?_;refine xblock' rfl ?_;refine k_ 2 ?_;refine xblock' rfl ?_;refine k_ 1 ?_;refine nnext ⟨(o ++ [(x, y)], (x + 1, y + 1), (A70, c70)), hch.snoc hpos hnp⟩ (by have := next_cmn hc; dsimp only; omega) (wk0 Φ Ω)
      ·intro h64;have hc : ¬ Cand l m u k x y := fun c => by have h := h64; rw [tf0, tf0, c.n] at h; simp at h
       refine k_ 8 ?_;refine nnext ⟨y + 1, by omega, hy1, noneB_y hny hc⟩ (by dsimp only; omega) (wk0 Φ Ω)
     ·
      refine elC (A := A) (l := l) Θ x (List.getElem?_eq_getElem (l := l) hx1) ?_; rintro zba zoa zya hAa;refine elC (A := B) (l := m) Θ y (List.getElem?_eq_getElem (l := m) hy1) ?_; rintro zbb zob zyb hAb;refine cdB [] [(3, zba, zoa + x * Rp.size ByteArray, _), (7, zbb, zob + y * Rp.size ByteArray, _)] TryzX.mixed Ψ Ψ (TOk.t (isInS Θ (k := 0) rfl (z := 1) Δ) (TOk.t (isInS Θ (k := 0) rfl (z := 1) Δ) TOk.d)) ?_;refine t_ 0 2 ?_;refine tkB 2 rfl Ψ Υ gnone (TTany _) (p_ia x hAa hx1 rfl underlying73 sizeOf9 rfl rfl) rfl ?_;refine t_ 3 3 ?_;refine tkB 6 rfl Ψ Υ gnone (TTany _) (p_ia y hAb hy1 rfl underlying73 sizeOf9 rfl rfl) rfl ?_;refine t_ 7 2 ?_;refine fixB (congrArg Value.bool (decide_eq_false heq)) ?_;refine t_ 9 17 ?_;refine dnB Ψ ?_;refine k_ 1 ?_;refine cc rfl (fun h => by cases h) (fun h => ?_);refine k_ 8 ?_;refine nnext ⟨y + 1, by omega, hy1, noneB_y hny (fun c => heq c.eq)⟩ (by dsimp only; omega) (wk0 Φ Ω)
    ·intro h36;(try simp only [nrmZ] at h36);refine k_ 11 ?_;refine nnext ⟨x + 1, by omega, hx1, noneB_x hny (by omega)⟩ (by dsimp only; omega) (wk0 Φ Ω)
   ·intro h29;(try simp only [nrmZ] at h29);refine k_ 5 ?_;exact absurd hpos (noneB_end hnx (by omega))
  ·intro h24;have hzero : cmn l m u k = 0 := (by have h := h24; rw [tf0] at h; simp at h; omega);refine k_ 13 ?_;exact rR [0] ⟨(o, (A6, c6)), (fun h => by rw [h13] at h; cases h), fun _ => ⟨u, k, hch, hzero⟩⟩
theorem c_dHunk (nm : ByteArray) (l m : List ByteArray) (A B : Option Addr) (c c' : Nat) (hl : l.length ≤ 1000000) (hm : m.length ≤ 1000000) (hc : l.length ≤ c) (hc' : m.length ≤ c') (p q : Nat × Nat) (h1 : p.1 ≤ q.1) (h2 : p.2 ≤ q.2) (h3 : q.1 ≤ l.length) (h4 : q.2 ≤ m.length) : Con Tryz.prog 194 [.string nm, .slice A l.length c, .slice B m.length c', .agg #[.int .i64 ((p.1 : Nat) : Int), .int .i64 ((p.2 : Nat) : Int)], .agg #[.int .i64 ((q.1 : Nat) : Int), .int .i64 ((q.2 : Nat) : Int)]] [] [slA A l, slA B m] (Rp.Lay Prim) (fun y => .tuple #[sv (hunkP nm l m p q) y, .bool (decide (p.1 < q.1 ∨ p.2 < q.2))]) (fun _ => []) (fun y => Rp.asn (hunkP nm l m p q) y) := by
 refine con func194 rfl ntmps194 rfl ?_;intro M0 F0 w0;refine k_ 2 ?_;refine ls (o_box rfl rfl rfl) ?_;refine le ?_; intro b8;refine ls (o_box rfl rfl rfl) ?_;refine le ?_; intro b9;refine ls (o_alloc zeroValue103 rfl rfl) ?_;refine le ?_; intro b10;refine k_ 4 ?_;refine cmono (fun a w h => subS (A := A) (l := l) (l' := (l.drop p.1).take (q.1 - p.1)) (c := c) p.1 q.1 (by repeat (first | exact In.z | apply In.s)) (by omega) (by omega) (by omega) rfl h) ?_;refine cmono (fun a w h => subS (A := B) (l := m) (l' := (m.drop p.2).take (q.2 - p.2)) (c := c') p.2 q.2 (by repeat (first | exact In.z | apply In.s)) (by omega) (by omega) (by omega) rfl h) ?_;refine cdB [9, 16, 18, 19] [(2, b8, 1, _), (5, b8, 0, _), (7, b9, 0, _), (12, b8, 1, _), (14, b9, 1, _)] TryzX.mixed Ψ Ψ (tB 1 (tB 1 (tB 1 (tB 1 (tB 1 TOk.d))))) ?_;refine t_ 0 8 ?_;refine tkB 8 rfl Ψ Υ gnone (TTany _) (p_sl p.1 q.1 (by omega) (by omega) rfl rfl underlying73 sizeOf9 rfl rfl rfl) rfl ?_;refine fixB (slen (m' := ((l.drop p.1).take (q.1 - p.1)).length) (by rw [List.length_take, List.length_drop]; omega)) ?_;refine t_ 10 5 ?_;refine tkB 15 rfl Ψ Υ gnone (TTany _) (p_sl p.2 q.2 (by omega) (by omega) rfl rfl underlying73 sizeOf9 rfl rfl rfl) rfl ?_;refine fixB (slen (m' := ((m.drop p.2).take (q.2 - p.2)).length) (by rw [List.length_take, List.length_drop]; omega)) ?_;refine dallB (is := [9, 18]) Ψ rfl ?_;intro i hi; simp only [List.mem_cons, List.mem_nil_iff, or_false] at hi; rcases hi with rfl | rfl
 ·
  refine doRB rfl (o_call (is := []) call165 (c_sClone ((l.drop p.1).take (q.1 - p.1)) (if c = p.1 then A else A.map (·.add (p.1 * Rp.size ByteArray))) (c - p.1) (by rw [List.length_take, List.length_drop]; omega)) rfl rfl Ω rfl) (TOk.t (isBoxE fun _ => isBoxS Θ (k := 1) Δ) (TOk.xP 9 [8] Ψ (TOk.xP 9 [8] Ψ (TOk.t (isBoxE fun _ => isBoxS Θ (k := 1) Δ) (TOk.t (isBoxE fun _ => isBoxS Θ (k := 1) Δ) TOk.d))))) ?_;refine eaB ?_; rintro ⟨A22, c22⟩;refine dallB (is := [16, 18]) Ψ rfl ?_;intro i hi; simp only [List.mem_cons, List.mem_nil_iff, or_false] at hi; rcases hi with rfl | rfl
  ·
   refine doRB rfl (o_call (is := []) call165 (c_sClone ((m.drop p.2).take (q.2 - p.2)) (if c' = p.2 then B else B.map (·.add (p.2 * Rp.size ByteArray))) (c' - p.2) (by rw [List.length_take, List.length_drop]; omega)) rfl rfl Ω rfl) (TOk.t (isBoxE fun _ => isBoxS Θ (k := 1) Δ) (TOk.xP 9 [8] Ψ (TOk.xP 9 [8] Ψ (TOk.xP 16 [15] Ψ (TOk.xP 16 [15] Ψ TOk.d))))) ?_;refine eaB ?_; rintro ⟨A29, c29⟩;refine t_ 17 1 ?_;refine dfB 18 Ψ ?_;refine doRB rfl (o_alloc zeroValue103 rfl rfl) (TOk.t (isBoxE fun _ => isBoxS Θ (k := 1) Δ) (TOk.xP 9 [8] Ψ (TOk.xP 9 [8] Ψ (TOk.xP 16 [15] Ψ (TOk.xP 16 [15] Ψ TOk.d))))) ?_;refine eaB ?_; intro b12;refine dfB 19 Ψ ?_;refine doRB rfl (o_st rfl sizeOf103 rfl rfl rfl rfl rfl Θ Θ Θ) (TOk.xP 19 [] Ψ (TOk.xP 9 [8] Ψ (TOk.xP 9 [8] Ψ (TOk.xP 16 [15] Ψ (TOk.xP 16 [15] Ψ TOk.d))))) ?_;refine dnB Ψ ?_;refine k_ 2 ?_;refine cdB [9] [(0, b12, 0, _), (2, b12, 4, _), (5, b12, 5, _)] TryzX.mixed Ψ Ψ (tB 6 (tB 1 (tB 1 TOk.d))) ?_;refine t_ 0 7 ?_;refine tkB 7 rfl Ψ Υ gnone (TTany _) (p_add rfl rfl (by rw [List.length_take, List.length_take, List.length_drop, List.length_drop]; omega)) rfl ?_;refine t_ 8 1 ?_;refine dfB 9 Ψ ?_;refine doRB rfl (o_st rfl sizeOf103 rfl rfl rfl rfl rfl Θ Θ Θ) (TOk.xP 9 [] Ψ (tB 1 (tB 1 TOk.d))) ?_;refine t_ 10 1 ?_;refine dnB Ψ ?_;refine k_ 3 ?_;refine rret (is := []) ((A22, c22), (A29, c29)) (Or.inl rfl) (Res.c rfl isAgg103 sizeOf103 Θ (by rfl) (Res.t rfl Res.d)) ?_ rfl Ω;simp only [packV]; rw [hunk_some h1 h2 h3 h4]; rfl
  ·
   refine doRB rfl (o_alloc zeroValue103 rfl rfl) (TOk.t (isBoxE fun _ => isBoxS Θ (k := 1) Δ) (TOk.xP 9 [8] Ψ (TOk.xP 9 [8] Ψ (TOk.t (isBoxE fun _ => isBoxS Θ (k := 1) Δ) (TOk.t (isBoxE fun _ => isBoxS Θ (k := 1) Δ) TOk.d))))) ?_;refine eaB ?_; intro b12;refine dfB 16 Ψ ?_;refine doRB rfl (o_call (is := []) call165 (c_sClone ((m.drop p.2).take (q.2 - p.2)) (if c' = p.2 then B else B.map (·.add (p.2 * Rp.size ByteArray))) (c' - p.2) (by rw [List.length_take, List.length_drop]; omega)) rfl rfl Ω rfl) (TOk.t (isBoxE fun _ => isBoxS Θ (k := 1) Δ) (TOk.xP 9 [8] Ψ (TOk.xP 9 [8] Ψ (TOk.xP 16 [15] Ψ (TOk.xP 16 [15] Ψ TOk.d))))) ?_;refine eaB ?_; rintro ⟨A29, c29⟩;refine t_ 17 1 ?_;refine dfB 19 Ψ ?_;refine doRB rfl (o_st rfl sizeOf103 rfl rfl rfl rfl rfl Θ Θ Θ) (TOk.xP 19 [] Ψ (TOk.xP 9 [8] Ψ (TOk.xP 9 [8] Ψ (TOk.xP 16 [15] Ψ (TOk.xP 16 [15] Ψ TOk.d))))) ?_;refine dnB Ψ ?_;refine k_ 2 ?_;refine cdB [9] [(0, b12, 0, _), (2, b12, 4, _), (5, b12, 5, _)] TryzX.mixed Ψ Ψ (tB 6 (tB 1 (tB 1 TOk.d))) ?_;refine t_ 0 7 ?_;refine tkB 7 rfl Ψ Υ gnone (TTany _) (p_add rfl rfl (by rw [List.length_take, List.length_take, List.length_drop, List.length_drop]; omega)) rfl ?_;refine t_ 8 1 ?_;refine dfB 9 Ψ ?_;refine doRB rfl (o_st rfl sizeOf103 rfl rfl rfl rfl rfl Θ Θ Θ) (TOk.xP 9 [] Ψ (tB 1 (tB 1 TOk.d))) ?_;refine t_ 10 1 ?_;refine dnB Ψ ?_;refine k_ 3 ?_;refine rret (is := []) ((A22, c22), (A29, c29)) (Or.inl rfl) (Res.c rfl isAgg103 sizeOf103 Θ (by rfl) (Res.t rfl Res.d)) ?_ rfl Ω;simp only [packV]; rw [hunk_some h1 h2 h3 h4]; rfl
 ·
  refine doRB rfl (o_alloc zeroValue103 rfl rfl) (TOk.t (isBoxE fun _ => isBoxS Θ (k := 1) Δ) (TOk.t (isBoxE fun _ => isBoxS Θ (k := 1) Δ) (TOk.t (isBoxE fun _ => isBoxS Θ (k := 1) Δ) (TOk.t (isBoxE fun _ => isBoxS Θ (k := 1) Δ) (TOk.t (isBoxE fun _ => isBoxS Θ (k := 1) Δ) TOk.d))))) ?_;refine eaB ?_; intro b12;refine dfB 9 Ψ ?_;refine doRB rfl (o_call (is := []) call165 (c_sClone ((l.drop p.1).take (q.1 - p.1)) (if c = p.1 then A else A.map (·.add (p.1 * Rp.size ByteArray))) (c - p.1) (by rw [List.length_take, List.length_drop]; omega)) rfl rfl Ω rfl) (TOk.t (isBoxE fun _ => isBoxS Θ (k := 1) Δ) (TOk.xP 9 [8] Ψ (TOk.xP 9 [8] Ψ (TOk.t (isBoxE fun _ => isBoxS Θ (k := 1) Δ) (TOk.t (isBoxE fun _ => isBoxS Θ (k := 1) Δ) TOk.d))))) ?_;refine eaB ?_; rintro ⟨A22, c22⟩;refine dfB 16 Ψ ?_;refine doRB rfl (o_call (is := []) call165 (c_sClone ((m.drop p.2).take (q.2 - p.2)) (if c' = p.2 then B else B.map (·.add (p.2 * Rp.size ByteArray))) (c' - p.2) (by rw [List.length_take, List.length_drop]; omega)) rfl rfl Ω rfl) (TOk.t (isBoxE fun _ => isBoxS Θ (k := 1) Δ) (TOk.xP 9 [8] Ψ (TOk.xP 9 [8] Ψ (TOk.xP 16 [15] Ψ (TOk.xP 16 [15] Ψ TOk.d))))) ?_;refine eaB ?_; rintro ⟨A29, c29⟩;refine t_ 17 1 ?_;refine dfB 19 Ψ ?_;refine doRB rfl (o_st rfl sizeOf103 rfl rfl rfl rfl rfl Θ Θ Θ) (TOk.xP 19 [] Ψ (TOk.xP 9 [8] Ψ (TOk.xP 9 [8] Ψ (TOk.xP 16 [15] Ψ (TOk.xP 16 [15] Ψ TOk.d))))) ?_;refine dnB Ψ ?_;refine k_ 2 ?_;refine cdB [9] [(0, b12, 0, _), (2, b12, 4, _), (5, b12, 5, _)] TryzX.mixed Ψ Ψ (tB 6 (tB 1 (tB 1 TOk.d))) ?_;refine t_ 0 7 ?_;refine tkB 7 rfl Ψ Υ gnone (TTany _) (p_add rfl rfl (by rw [List.length_take, List.length_take, List.length_drop, List.length_drop]; omega)) rfl ?_;refine t_ 8 1 ?_;refine dfB 9 Ψ ?_;refine doRB rfl (o_st rfl sizeOf103 rfl rfl rfl rfl rfl Θ Θ Θ) (TOk.xP 9 [] Ψ (tB 1 (tB 1 TOk.d))) ?_;refine t_ 10 1 ?_;refine dnB Ψ ?_;refine k_ 3 ?_;refine rret (is := []) ((A22, c22), (A29, c29)) (Or.inl rfl) (Res.c rfl isAgg103 sizeOf103 Θ (by rfl) (Res.t rfl Res.d)) ?_ rfl Ω;simp only [packV]; rw [hunk_some h1 h2 h3 h4]; rfl
end Go.Proofs.YtbhnolfcdcpbkaaGreatDoor.X
end
section
namespace Go.Proofs.YtbhnolfcdcpbkaaGreatDoor.X
open Go Go.RowKit Go.Proofs Go.Sx
/-! What makes one tree of another one. -/
noncomputable def linesT (nm : ByteArray) (a b : List ByteArray) : List Prim := if longB a b = true then [] else linAll nm a b (commF a b)
theorem linesT_long {nm : ByteArray} {a b : List ByteArray} (h : longB a b = true) : linesT nm a b = [] := by unfold linesT; rw [if_pos h]
theorem linesT_not {nm : ByteArray} {a b : List ByteArray} (h : longB a b = false) : linesT nm a b = linAll nm a b (commF a b) := by unfold linesT; rw [if_neg (by rw [h]; simp)]
theorem linF_len (nm : ByteArray) (a b : List ByteArray) (l : List (Nat × Nat)) : (linF nm a b l).1.length ≤ l.length := by
 have key : ∀ (l : List (Nat × Nat)) (s : List Prim × (Nat × Nat)), (l.foldl (linS nm a b) s).1.length ≤ s.1.length + l.length := by
  intro l
  induction l with
  | nil => intro s; simp
  | cons q l ih =>
   intro s;have h1 := ih (linS nm a b s q);have h2 : (linS nm a b s q).1.length ≤ s.1.length + 1 := by
    unfold linS hk; dsimp only; split <;> simp
   simp only [List.foldl_cons, List.length_cons]; omega
 have := key l ([], (0, 0))
 simpa [linF] using this
theorem linesT_len (nm : ByteArray) (a b : List ByteArray) : (linesT nm a b).length ≤ 201 := by
 cases h : longB a b with
 | true => rw [linesT_long h]; simp
 | false =>
  rw [linesT_not h];have h1 := longB_no h;have h2 := linF_len nm a b (commF a b ++ [(a.length, b.length)]);have h3 := (commF_spec a b).len;have h4 := lcs_lenl a b;unfold linAll;simp only [List.length_append, List.length_singleton] at h2;omega
theorem Chain.mono {a b : List ByteArray} {l : List (Nat × Nat)} {i k : Nat} (h : Chain a b l i k) : ∀ (j : Nat) (hj : j < l.length), (linF e0 a b (l.take j)).2.1 ≤ l[j].1 ∧ (linF e0 a b (l.take j)).2.2 ≤ l[j].2 ∧ l[j].1 < a.length ∧ l[j].2 < b.length := by
 induction h with
 | nil => intro j hj; simp at hj
 | @snoc l i k x y h0 hp hn ih =>
  intro j hj;rcases Nat.lt_or_ge j l.length with h | h
  ·have := ih j h;rw [List.take_append_of_le_length (by omega)]
   simpa [List.getElem_append_left h] using this
  ·have hjl : j = l.length := by simp at hj; omega
   subst hjl;rw [List.take_append_of_le_length (Nat.le_refl _), List.take_length, h0.lin];have c := hn.1;simp;exact ⟨c.ix, c.ky, c.xl, c.yl⟩
theorem linF_snd (nm nm' : ByteArray) (a b : List ByteArray) (l : List (Nat × Nat)) : (linF nm a b l).2 = (linF nm' a b l).2 := by
 have key : ∀ (l : List (Nat × Nat)) (s s' : List Prim × (Nat × Nat)), s.2 = s'.2 → (l.foldl (linS nm a b) s).2 = (l.foldl (linS nm' a b) s').2 := by
  intro l
  induction l with
  | nil => intro s s' h; exact h
  | cons q l ih => intro s s' h; exact ih _ _ rfl
 exact key l _ _ rfl
theorem Comm.step {nm : ByteArray} {a b : List ByteArray} {l : List (Nat × Nat)} (h : Comm a b l) (j : Nat) (hj : j < (l ++ [(a.length, b.length)]).length) :
  (linF nm a b ((l ++ [(a.length, b.length)]).take j)).2.1 ≤ (l ++ [(a.length, b.length)])[j].1 ∧ (linF nm a b ((l ++ [(a.length, b.length)]).take j)).2.2 ≤ (l ++ [(a.length, b.length)])[j].2 ∧ (l ++ [(a.length, b.length)])[j].1 ≤ a.length ∧ (l ++ [(a.length, b.length)])[j].2 ≤ b.length := by
 obtain ⟨i, k, h1, h2⟩ := h;rw [linF_snd nm e0];rcases Nat.lt_or_ge j l.length with h | h
 ·have := h1.mono j h;rw [List.take_append_of_le_length (by omega), List.getElem_append_left h];omega
 ·have hjl : j = l.length := by simp at hj; omega
  subst hjl;rw [List.take_append_of_le_length (Nat.le_refl _), List.take_length, h1.lin];have := h1.le;simp;omega
def filesT (T U : List File) (both : Bool) : List ByteArray := (T.map (·.1)).filter fun s => !(!(hasT U s == both))
def wideB (T : List File) : Bool := (T.map (·.1)).any fun s => longB (getL T s) []
def pRm (s : ByteArray) : Prim := ⟨2, s, e0, 0, [], []⟩
def pAd (s : ByteArray) : Prim := ⟨1, s, e0, 0, [], []⟩
noncomputable def goneT (T : List File) (s : ByteArray) : List Prim := linesT s (getL T s) [] ++ [pRm s]
noncomputable def comeT (U : List File) (s : ByteArray) : List Prim := [pAd s] ++ linesT s [] (getL U s)
noncomputable def bothT (T U : List File) (s : ByteArray) : List Prim := linesT s (getL T s) (getL U s)
noncomputable def treesT (T U : List File) : List Prim := if (wideB T || wideB U) = true then [] else (filesT T U false).flatMap (goneT T) ++ (filesT U T false).flatMap (comeT U) ++ (filesT T U true).flatMap (bothT T U)
theorem treesT_yes {T U : List File} (h : (wideB T || wideB U) = true) : treesT T U = [] := by unfold treesT; rw [if_pos h]
theorem treesT_no {T U : List File} (h : (wideB T || wideB U) = false) : treesT T U = (filesT T U false).flatMap (goneT T) ++ (filesT U T false).flatMap (comeT U) ++ (filesT T U true).flatMap (bothT T U) := by unfold treesT; rw [if_neg (by rw [h]; simp)]
theorem fm_take {α : Type} {f : α → List Prim} {l : List α} {k : Nat} (hk : k < l.length) : (l.take (k + 1)).flatMap f = (l.take k).flatMap f ++ f l[k] := by
 rw [List.take_succ_eq_append_getElem hk, List.flatMap_append]; simp
theorem fm_len {α : Type} {f : α → List Prim} {m : Nat} (h : ∀ x, (f x).length ≤ m) : ∀ (l : List α), (l.flatMap f).length ≤ l.length * m
 | [] => by simp
 | x :: l => by
  have := fm_len h l;have := h x;simp only [List.flatMap_cons, List.length_append, List.length_cons, Nat.succ_mul];omega
theorem goneT_len (T : List File) (s : ByteArray) : (goneT T s).length ≤ 202 := by unfold goneT; have := linesT_len s (getL T s) []; simp; omega
theorem comeT_len (U : List File) (s : ByteArray) : (comeT U s).length ≤ 202 := by unfold comeT; have := linesT_len s [] (getL U s); simp; omega
theorem bothT_len (T U : List File) (s : ByteArray) : (bothT T U s).length ≤ 202 := by unfold bothT; have := linesT_len s (getL T s) (getL U s); omega
theorem filesT_len (T U : List File) (b : Bool) : (filesT T U b).length ≤ T.length := by unfold filesT; have := List.length_filter_le (fun s => !(!(hasT U s == b))) (T.map (·.1)); simpa using this
theorem wide_get {T : List File} (hT : Sor T) (h : wideB T = false) (s : ByteArray) : (getL T s).length ≤ 200 := by
 unfold wideB at h;unfold getL;cases hg : getT T s with
 | none => simp
 | some l =>
  have hm := (getT_some hT).1 hg;have h2 : ∀ x ∈ T, ¬ longB (getL T x.1) [] = true := by
   intro x hx;have := List.any_eq_false.1 h x.1 (List.mem_map_of_mem hx);exact this
  have h3 := h2 (s, l) hm;have : longB (getL T s) [] = false := by simpa using h3
  have := (longB_no this).1;unfold getL at this;rw [hg] at this;exact this
/-! one after the other, deleted -/
structure DelI (l : List ByteArray) (f : ByteArray → Bool) (i j : Nat) (l' : List ByteArray) : Prop where
 len : l'.length = l.length
 ij : i < j
 jl : j ≤ l.length
 tk : l'.take i = (l.take j).filter fun s => !f s
 dr : ∀ q, j ≤ q → l'[q]? = l[q]?
theorem DelI.start {l : List ByteArray} {f : ByteArray → Bool} {k : Nat} (hk : k < l.length) (h1 : (l.take k).any f = false) (h2 : f l[k] = true) : DelI l f k (k + 1) l := by
 refine ⟨rfl, by omega, hk, ?_, fun _ _ => rfl⟩;rw [List.take_succ_eq_append_getElem hk, List.filter_append, List.filter_eq_self.2 fun x hx => ?_]
 ·simp [h2]
 ·have := List.any_eq_false.1 h1 x hx
  simpa using this
theorem DelI.keep {l l' : List ByteArray} {f : ByteArray → Bool} {i j : Nat} (h : DelI l f i j l') (hj : j < l.length) (hf : f l[j] = false) : DelI l f (i + 1) (j + 1) (l'.set i l[j]) := by
 have h0 := h.ij;have hi : i < l'.length := by have := h.len; omega
 refine ⟨by rw [List.length_set]; exact h.len, by omega, hj, ?_, fun q hq => ?_⟩
 ·rw [List.take_succ_eq_append_getElem (by rw [List.length_set]; exact hi), List.getElem_set_self, List.take_set_of_le (Nat.le_refl _), h.tk, List.take_succ_eq_append_getElem hj, List.filter_append];simp [hf]
 ·rw [List.getElem?_set_ne (by omega)]; exact h.dr q (by omega)
theorem DelI.skip {l l' : List ByteArray} {f : ByteArray → Bool} {i j : Nat} (h : DelI l f i j l') (hj : j < l.length) (hf : f l[j] = true) : DelI l f i (j + 1) l' := by
 have h0 := h.ij;refine ⟨h.len, by omega, hj, ?_, fun q hq => h.dr q (by omega)⟩;rw [h.tk, List.take_succ_eq_append_getElem hj, List.filter_append];simp [hf]
theorem DelI.get {l l' : List ByteArray} {f : ByteArray → Bool} {i j : Nat} (h : DelI l f i j l') (hj : j < l.length) : l'[j]? = some l[j] := by
 rw [h.dr j (Nat.le_refl _), List.getElem?_eq_getElem hj]
theorem DelI.done {l l' : List ByteArray} {f : ByteArray → Bool} {i j : Nat} (h : DelI l f i j l') (hj : ¬ j < l.length) (r : List ByteArray) : (l'.take i ++ r).take i = l.filter (fun s => !f s) ∧ i = (l.filter fun s => !f s).length := by
 have h0 := h.ij; have h1 := h.jl; have h2 := h.len;obtain rfl : j = l.length := by omega
 have h3 := h.tk;rw [List.take_length] at h3;have h4 : (l'.take i).length = i := by rw [List.length_take]; omega
 refine ⟨by rw [List.take_left' h4, h3], ?_⟩;rw [← h3, h4]
theorem filter_none {l : List ByteArray} {f : ByteArray → Bool} (h : l.any f = false) : l = l.filter fun s => !f s := by
 refine (List.filter_eq_self.2 fun x hx => ?_).symm;have := List.any_eq_false.1 h x hx
 simpa using this
end Go.Proofs.YtbhnolfcdcpbkaaGreatDoor.X
end
section
namespace Go.Sx
open Go Go.RowKit
section
variable {ro : Option Nat} {P : Program} {M0 F0 : Nat → Prop} {w0 : World} {n : Nm} {σ : List (Nat × Value)} {Ξ : List Xsn} {Γ : List Asn} {d : Nat} {ty : TypeId} {pos : String} {af : Array Edge}
theorem o_ldrS {x : Operand} {t e : TypeId} {g c : Nat} {l : List ByteArray} {i j : Nat} {z : ByteArray} (hag : ∀ w, (isAgg t).run P w = .ok false w) (hx : ev σ x = some (.pointer (some ⟨g, 0 + j * Rp.size ByteArray, none⟩)))
  (hi : At (row e (some ⟨g, 0, none⟩) c l) i Ξ) (hj : l[j]? = some z) (hd : Nat.blt d n.n = true) :
  OpR P ⟨some d, .load t x, ty, pos, af, none⟩ (St M0 F0 w0 n σ Ξ Γ) (St M0 F0 w0 n ((d, .string z) :: σ) Ξ Γ) := by
 refine OpR.of_run rfl fun a w ⟨hs, Fs, hh⟩ => ?_;obtain ⟨y, h1, h2⟩ := rowAt hi hj hh;exact ⟨.string z, w, p_ld hag hx a hs w h1, hs.put hd, Fs, hh⟩
end
end Go.Sx
end
section
namespace Go.Proofs.YtbhnolfcdcpbkaaGreatDoor.X
set_option maxRecDepth 100000
open Go Go.RowKit Go.Proofs Go.Sx
open Tryz
attribute [local irreducible] slA isA box row TrL TrC TrN TrA Pu OpR
set_option maxHeartbeats 8000000
theorem c_dLines (nm : ByteArray) (l m : List ByteArray) (A B : Option Addr) (c c' : Nat) (hl : l.length ≤ 1000000) (hm : m.length ≤ 1000000) (hc : l.length ≤ c) (hc' : m.length ≤ c') : Con Tryz.prog 141 [.string nm, .slice A l.length c, .slice B m.length c'] [] [slA A l, slA B m] (Option Addr × Nat) (fun x => .slice x.1 (linesT nm l m).length x.2) (fun x => [row 103 x.1 x.2 (linesT nm l m)]) (fun _ => []) := by
 refine con func141 rfl ntmps141 rfl ?_;intro M0 F0 w0;refine k_ 10 ?_;refine lC [] call190 (c_dLong l m A B c c') ?_; intro x15;refine k_ 2 ?_;refine cc rfl ?_ ?_
 ·intro h15
  skip
  refine cs ?_;refine cmono (fun a w h => nilRow (α := Prim) 103 h) ?_;refine cmono (fun a w h => rowEq (α := Prim) Θ (linesT_long (nm := nm) h15).symm Θ h) ?_;refine k_ 6 ?_;refine rret (is := [0]) (none, 0) (Or.inl rfl) (Res.t rfl Res.d) ?_ rfl Ω;rw [linesT_long h15]; rfl
 ·intro h15;obtain ⟨hl2, hm2⟩ := longB_no h15;refine k_ 8 ?_;refine cmono (fun a w h => nilRow (α := Prim) 103 h) ?_;refine k_ 2 ?_;refine ls (o_alloc zeroValue256 rfl rfl) ?_;refine le ?_; intro b8;refine k_ 8 ?_;refine lC [] call193 (c_dCommon l m A B c c' hl hm) ?_; rintro ⟨⟨o, ⟨A19, c19⟩⟩, hlo, hno⟩;dsimp only at hlo hno;obtain rfl := (hno h15).eq;have hcm := commF_spec l m;have hcl := hcm.len;have hcl2 := lcs_lenl l m;refine k_ 5 ?_;refine ls (o_bsl [(l.length, m.length)] underlying257 sizeOf256 zeroValue256 rfl (Enum.t Enum.d) (RV.t () rfl Ω RV.d) rfl (by decide) (by decide) rfl) ?_;refine le ?_; intro b25;refine lmono (fun a w h => Go.Sx.freeze (i := 0) rfl h) ?_;refine ls (o_app (is := [0]) underlying257 inf256 rfl (by decide) (by decide) rfl rfl (by simp only [List.length_cons, List.length_nil]; omega) (fun h => by cases h) rfl Ω rfl) ?_;refine le ?_; rintro ⟨A26, c26⟩;refine lmono (fun a w h => Go.Sx.freeze (i := 0) rfl h) ?_;refine k_ 5 ?_;refine cl (ι := {q : Nat × Option Addr × Nat // q.1 ≤ (commF l m ++ [(l.length, m.length)]).length}) (fun i => St M0 F0 w0 55 [(0, .string nm), (1, .slice A l.length c), (2, .slice B m.length c'), (7, .slice i.1.2.1 (linF nm l m ((commF l m ++ [(l.length, m.length)]).take (i.1.1))).1.length i.1.2.2), (8, pT b8), (26, .slice A26 (commF l m ++ [(l.length, m.length)]).length c26), (27, .int .i64 (((commF l m ++ [(l.length, m.length)]).length : Nat) : Int)), (28, .int .i64 ((i.1.1 : Nat) : Int))] [row 103 (i.1.2.1) (i.1.2.2) (linF nm l m ((commF l m ++ [(l.length, m.length)]).take (i.1.1))).1, box b8 256 [.int .i64 (((linF nm l m ((commF l m ++ [(l.length, m.length)]).take (i.1.1))).2.1 : Nat) : Int), .int .i64 (((linF nm l m ((commF l m ++ [(l.length, m.length)]).take (i.1.1))).2.2 : Nat) : Int)]] [slA A l, slA B m, slA A26 (commF l m ++ [(l.length, m.length)])]) (fun i => (commF l m ++ [(l.length, m.length)]).length - i.1.1) ⟨(0, none, 0), Nat.zero_le _⟩ (wK [1, 0]) ?_;rintro ⟨⟨k, A7, c7⟩, hk⟩;refine cmono (S' := St M0 F0 w0 55 [(0, .string nm), (1, .slice A l.length c), (2, .slice B m.length c'), (7, .slice A7 (linF nm l m ((commF l m ++ [(l.length, m.length)]).take (k))).1.length c7), (8, pT b8), (26, .slice A26 (commF l m ++ [(l.length, m.length)]).length c26), (27, .int .i64 (((commF l m ++ [(l.length, m.length)]).length : Nat) : Int)), (28, .int .i64 ((k : Nat) : Int))] [row 103 (A7) (c7) (linF nm l m ((commF l m ++ [(l.length, m.length)]).take (k))).1, box b8 256 [.int .i64 (((linF nm l m ((commF l m ++ [(l.length, m.length)]).take (k))).2.1 : Nat) : Int), .int .i64 (((linF nm l m ((commF l m ++ [(l.length, m.length)]).take (k))).2.2 : Nat) : Int)]] [slA A l, slA B m, slA A26 (commF l m ++ [(l.length, m.length)])]) Ħ ?_;refine k_ 6 ?_;refine cc rfl ?_ ?_
  ·intro h29;dsimp only at hk;(try simp only [nrmZ] at h29);have hk1 : k < (commF l m ++ [(l.length, m.length)]).length := (by omega);have hPL : (commF l m ++ [(l.length, m.length)]).length ≤ 201 := (by simp only [List.length_append, List.length_singleton]; omega);have hst := hcm.step (nm := nm) k hk1;have hlt := linF_take (nm := nm) (a := l) (b := m) hk1;have hln := linF_len nm l m ((commF l m ++ [(l.length, m.length)]).take k);have hln2 : ((commF l m ++ [(l.length, m.length)]).take k).length ≤ 201 := (by simp only [List.length_take, List.length_append, List.length_singleton]; omega);refine k_ 5 ?_;refine elC (A := A26) (l := (commF l m ++ [(l.length, m.length)])) Θ k (List.getElem?_eq_getElem hk1) ?_; rintro zbp zop zyp hAp;refine cr ?_;refine ls (op (p_ia k hAp hk1 rfl underlying257 sizeOf256 rfl rfl) rfl) ?_;refine ls (o_ldj isAgg256 sizeOf256 rfl Θ 0 rfl Δ rfl) ?_;refine ls (o_alloc zeroValue256 rfl rfl) ?_;refine le ?_; intro b10;refine k_ 9 ?_;refine ls (o_ldw isAgg256 sizeOf256 rfl Θ (by rfl) rfl) ?_;refine ls (o_ldw isAgg256 sizeOf256 rfl Θ (by rfl) rfl) ?_;refine lC [] call194 (c_dHunk nm l m A B c c' hl hm hc hc' (linF nm l m ((commF l m ++ [(l.length, m.length)]).take (k))).2 (commF l m ++ [(l.length, m.length)])[k] hst.1 hst.2.1 hst.2.2.1 hst.2.2.2) ?_; rintro ⟨⟨A38, c38⟩, ⟨A39, c39⟩⟩;refine k_ 3 ?_;refine ls (o_alloc zeroValue103 rfl rfl) ?_;refine le ?_; intro b11;refine k_ 9 ?_;refine cc rfl ?_ ?_
   ·intro h41;have hq : (linF nm l m ((commF l m ++ [(l.length, m.length)]).take (k))).2.1 < (commF l m ++ [(l.length, m.length)])[k].1 ∨ (linF nm l m ((commF l m ++ [(l.length, m.length)]).take (k))).2.2 < (commF l m ++ [(l.length, m.length)])[k].2 := of_decide_eq_true h41;have hh : Go.Proofs.YtbhnolfcdcpbkaaGreatDoor.X.hk nm l m (linF nm l m ((commF l m ++ [(l.length, m.length)]).take (k))).2 (commF l m ++ [(l.length, m.length)])[k] = [hunkP nm l m (linF nm l m ((commF l m ++ [(l.length, m.length)]).take (k))).2 (commF l m ++ [(l.length, m.length)])[k]] := if_pos hq;refine k_ 2 ?_;refine ls (o_ldw isAgg103 sizeOf103 rfl Θ (by rfl) rfl) ?_;refine ls (o_bsl [hunkP nm l m (linF nm l m ((commF l m ++ [(l.length, m.length)]).take (k))).2 (commF l m ++ [(l.length, m.length)])[k]] underlying40 sizeOf103 zeroValue103 rfl (Enum.t Enum.d) (RV.t ((A38, c38), (A39, c39)) rfl Ω RV.d) rfl (by decide) (by decide) rfl) ?_;refine le ?_; intro b44;refine lmono (fun a w h => Go.Sx.freeze (i := 0) rfl h) ?_;refine ls (o_app (is := [2]) underlying40 inf103 rfl (by decide) (by decide) rfl rfl (by simp only [List.length_cons, List.length_nil]; omega) (fun h => by cases h) rfl Ω rfl) ?_;refine le ?_; rintro ⟨A45, c45⟩;refine k_ 19 ?_;refine nnext ⟨(k + 1, A45, c45), hk1⟩ (by dsimp only; omega) (fun a w h => by dsimp only; rw [hlt, hh]; exact wL [0, 2] h)
   ·intro h41;have hq : ¬ ((linF nm l m ((commF l m ++ [(l.length, m.length)]).take (k))).2.1 < (commF l m ++ [(l.length, m.length)])[k].1 ∨ (linF nm l m ((commF l m ++ [(l.length, m.length)]).take (k))).2.2 < (commF l m ++ [(l.length, m.length)])[k].2) := of_decide_eq_false h41;have hh : Go.Proofs.YtbhnolfcdcpbkaaGreatDoor.X.hk nm l m (linF nm l m ((commF l m ++ [(l.length, m.length)]).take (k))).2 (commF l m ++ [(l.length, m.length)])[k] = [] := if_neg hq;refine k_ 18 ?_;refine nnext ⟨(k + 1, A7, c7), hk1⟩ (by dsimp only; omega) (fun a w h => by dsimp only; rw [hlt, hh, List.append_nil]; exact wL [2, 2] h)
  ·intro h29;dsimp only at hk;(try simp only [nrmZ] at h29);obtain rfl : k = (commF l m ++ [(l.length, m.length)]).length := (by omega);rw [List.take_length];refine k_ 6 ?_;refine cmono (fun a w h => rowEq (α := Prim) Θ (linesT_not (nm := nm) h15).symm Θ h) ?_;refine k_ 7 ?_;refine rret (is := [0]) (A7, c7) (Or.inl rfl) (Res.t rfl Res.d) ?_ rfl Ω;rw [linesT_not h15]; rfl
theorem c_IndexFuncK (l : List ByteArray) (A : Option Addr) (c : Nat) (hl : l.length ≤ 2000000) (f : ByteArray → Bool) (g : FuncId) (cap : List Value) (Γf : List Asn) (x : Xsn) (hcf : ∀ args w, (callFunc g args).run Tryz.prog w = .ok (.enter g args) w) (hg : ∀ s, Con Tryz.prog g (.string s :: cap) [x] Γf Unit (fun _ => .bool (f s)) (fun _ => [x]) (fun _ => [])) : Con Tryz.prog 220 [.slice A l.length c, .func (.func g) #[] cap.toArray] [row 9 A c (l), x] Γf {r : Int // (r = -1 ∧ l.any f = false) ∨ ∃ k : Nat, r = (k : Int) ∧ ∃ h : k < l.length, (l.take k).any f = false ∧ f l[k] = true} (fun r => .int .i64 r.1) (fun _ => [row 9 A c (l), x]) (fun _ => []) := by
 refine con func220 rfl ntmps220 rfl ?_;intro M0 F0 w0;refine k_ 14 ?_;refine cl (ι := {k : Nat // k ≤ l.length ∧ (l.take k).any f = false}) (fun i => St M0 F0 w0 19 [(0, .slice A l.length c), (1, .func (.func g) #[] cap.toArray), (7, .int .i64 (l.length : Int)), (8, .int .i64 (i.1 : Int))] [row 9 A c (l), x] Γf) (fun i => l.length - i.1) ⟨0, by simp⟩ (wk0 Φ Ω) ?_;rintro ⟨k, hk, hkk⟩;refine cmono (S' := St M0 F0 w0 19 [(0, .slice A l.length c), (1, .func (.func g) #[] cap.toArray), (7, .int .i64 (l.length : Int)), (8, .int .i64 (k : Int))] [row 9 A c (l), x] Γf) Ħ ?_;refine k_ 6 ?_;refine cc rfl ?_ ?_
 ·intro h9;(try simp only [nrmZ] at h9);have hk1 : k < l.length := (by omega);refine k_ 11 ?_;refine rowC (α := ByteArray) (A := A) (l := l) Θ (List.ne_nil_of_length_pos (by omega)) ?_;rintro g0 rfl;refine k_ 4 ?_;refine ls (op (p_ia k rfl hk1 rfl underlying73 sizeOf9 rfl rfl) rfl) ?_;refine ls (o_ldrS isAgg9 rfl Θ (List.getElem?_eq_getElem hk1) rfl) ?_;refine ls (o_callv (is := [1]) rfl hcf (hg l[k]) rfl rfl rfl Ω rfl) ?_;refine le ?_; intro x16;refine k_ 2 ?_;refine cc rfl ?_ ?_
  ·intro h16;(try simp only [nrmZ] at h16);refine k_ 8 ?_;exact rR [1, 0] ⟨(k : Int), .inr ⟨k, rfl, hk1, hkk, h16⟩⟩
  ·intro h16;(try simp only [nrmZ] at h16);refine k_ 7 ?_;refine nnext ⟨k + 1, hk1, by rw [List.take_succ_eq_append_getElem hk1, List.any_append, hkk]; simp [h16]⟩ (by dsimp only; omega) (wK [1, 0])
 ·intro h9;(try simp only [nrmZ] at h9);refine k_ 12 ?_;exact rR [0, 0] ⟨-1, .inl ⟨rfl, by rw [List.take_of_length_le (by omega)] at hkk; exact hkk⟩⟩
theorem c_DeleteFunc (l : List ByteArray) (A : Option Addr) (c : Nat) (hl : l.length ≤ 2000000) (f : ByteArray → Bool) (g : FuncId) (cap : List Value) (Γf : List Asn) (x : Xsn) (hcf : ∀ args w, (callFunc g args).run Tryz.prog w = .ok (.enter g args) w) (hg : ∀ s, Con Tryz.prog g (.string s :: cap) [x] Γf Unit (fun _ => .bool (f s)) (fun _ => [x]) (fun _ => [])) : Con Tryz.prog 191 [.slice A l.length c, .func (.func g) #[] cap.toArray] [row 9 A c (l), x] Γf Unit (fun _ => .slice A (l.filter fun s => !f s).length c) (fun _ => [row 9 A c ((l.filter fun s => !f s)), x]) (fun _ => []) := by
 refine con func191 rfl ntmps191 rfl ?_;intro M0 F0 w0;refine k_ 9 ?_;refine lC [0, 0] call220 (c_IndexFuncK l A c hl f g cap Γf x hcf hg) ?_; rintro ⟨r, hr⟩;refine k_ 10 ?_;refine cc rfl ?_ ?_
 ·intro h12;have hn : l.any f = false := (by rcases hr with ⟨_, h⟩ | ⟨k, rfl, _⟩; exact h; simp at h12);refine cs ?_;refine cmono (fun a w h => rowEq (α := ByteArray) Θ (filter_none hn) Θ h) ?_;refine k_ 7 ?_;refine rret (is := [0, 0]) () (Or.inl rfl) (Res.t rfl Res.d) ?_ rfl Ω;rw [← filter_none hn]; rfl
 ·intro h12;obtain ⟨k0, rfl, hk0, hk1, hk2⟩ : ∃ k : Nat, r = (k : Int) ∧ ∃ h : k < l.length, (l.take k).any f = false ∧ f l[k] = true := (by rcases hr with ⟨rfl, _⟩ | h; simp at h12; exact h);refine k_ 6 ?_;refine ls (op (p_add rfl rfl (by dsimp only; omega)) rfl) ?_;refine k_ 4 ?_;refine cl (ι := {q : (Nat × Nat) × List ByteArray // DelI l f q.1.1 q.1.2 q.2}) (fun i => St M0 F0 w0 42 [(0, .slice A l.length c), (1, .func (.func g) #[] cap.toArray), (5, .int .i64 ((i.1.1.1 : Nat) : Int)), (6, .int .i64 ((i.1.1.2 : Nat) : Int))] [row 9 A c (i.1.2), x] Γf) (fun i => l.length - i.1.1.2) ⟨((k0, k0 + 1), l), DelI.start hk0 hk1 hk2⟩ (wk0 Φ Ω) ?_;rintro ⟨⟨⟨i, j⟩, L⟩, hI⟩;refine cmono (S' := St M0 F0 w0 42 [(0, .slice A l.length c), (1, .func (.func g) #[] cap.toArray), (5, .int .i64 ((i : Nat) : Int)), (6, .int .i64 ((j : Nat) : Int))] [row 9 A c (L), x] Γf) Ħ ?_;refine k_ 9 ?_;refine cc rfl ?_ ?_
  ·intro h19;dsimp only at hI;(try simp only [nrmZ] at h19);have hj1 : j < l.length := (by omega);have hIl := hI.len; have hIj := hI.ij;refine k_ 5 ?_;refine rowC (α := ByteArray) (A := A) (l := L) Θ (List.ne_nil_of_length_pos (by omega)) ?_;rintro g0 rfl;refine k_ 3 ?_;refine ls (op (p_ia j rfl hj1 rfl underlying73 sizeOf9 rfl rfl) rfl) ?_;refine ls (o_ldrS isAgg9 rfl Θ (hI.get hj1) rfl) ?_;refine k_ 7 ?_;refine ls (o_callv (is := [1]) rfl hcf (hg l[j]) rfl rfl rfl Ω rfl) ?_;refine le ?_; intro x28;refine k_ 3 ?_;refine cc rfl ?_ ?_
   ·intro h29;have hf : f l[j] = false := (by simpa using h29);refine k_ 5 ?_;refine ls (op (p_ia i rfl (by omega) rfl underlying73 sizeOf9 rfl rfl) rfl) ?_;refine ls (o_strowE (j := i) (z := l[j]) (yz := ()) rfl sizeOf9 rfl rfl rfl Θ (by omega) rfl Θ Ω) ?_;refine k_ 14 ?_;refine nnext ⟨((i + 1, j + 1), L.set i l[j]), hI.keep hj1 hf⟩ (by dsimp only; omega) (wK [1, 0])
   ·intro h29;have hf : f l[j] = true := (by simpa using h29);refine k_ 8 ?_;refine nnext ⟨((i, j + 1), L), hI.skip hj1 hf⟩ (by dsimp only; omega) (wK [1, 0])
  ·intro h19;dsimp only at hI;(try simp only [nrmZ] at h19);have h19' : ¬ j < l.length := (by omega);have hIl := hI.len; have hIj := hI.ij; have hIk := hI.jl;refine k_ 6 ?_;refine rowLeC (α := ByteArray) (l := L) Θ (fun hlc => ?_);refine k_ 3 ?_;refine ls (op (p_sll i (by omega) (by omega) rfl underlying73 sizeOf9 rfl rfl) rfl) ?_;refine ls (o_clr (lo := i) (N := l.length) hIl underlying73 zeroValue9 rfl (by omega) Θ Θ) ?_;refine k_ 3 ?_;refine cmono (fun a w h => rowTk (α := ByteArray) (l := L.take i ++ List.replicate (l.length - i) ⟨#[]⟩) i (by simp only [List.length_append, List.length_take, List.length_replicate]; omega) Θ Θ h) ?_;obtain ⟨hd1, hd2⟩ := hI.done h19' (List.replicate (l.length - i) ⟨#[]⟩);refine cmono (fun a w h => rowEq (α := ByteArray) Θ hd1 Θ h) ?_;refine k_ 3 ?_;refine ls (op (p_slh i (by omega) rfl underlying73 sizeOf9 rfl rfl) rfl) ?_;refine fixL slh_val ?_;refine k_ 5 ?_;refine rret (is := [0, 0]) () (Or.inl rfl) (Res.t rfl Res.d) ?_ rfl Ω;rw [← hd2]; rfl
theorem c_wide1 (s : ByteArray) (q p b : Nat) (T : List File) (hT : Tfit T) : Con Tryz.prog 189 [.string s, pT q] [box q 54 [pT p], box p 139 [.map (some b)], tr b T] [] Unit (fun _ => .bool (longB (getL T s) [])) (fun _ => [box q 54 [pT p], box p 139 [.map (some b)], tr b T]) (fun _ => []) := by
 refine con func189 rfl ntmps189 rfl ?_;intro M0 F0 w0;refine k_ 9 ?_;refine lC [1, 1] call116 (c_tGet p b T hT s) ?_; rintro ⟨A9, c9⟩;refine k_ 10 ?_;refine lC [] call190 (c_dLong (getL T s) [] A9 none c9 0) ?_; intro x13;refine k_ 5 ?_;exact rR [3, 1, 1] ()
theorem c_wide (p b : Nat) (T : List File) (hT : Tfit T) (hn : T.length ≤ 2000000) : Con Tryz.prog 139 [pT p] [box p 139 [.map (some b)], tr b T] [] Unit (fun _ => .bool (wideB T)) (fun _ => [box p 139 [.map (some b)], tr b T]) (fun _ => []) := by
 refine con func139 rfl ntmps139 rfl ?_;intro M0 F0 w0;refine k_ 2 ?_;refine ls (o_box rfl rfl rfl) ?_;refine le ?_; intro b1;refine k_ 6 ?_;refine lC [1, 1] call97 (c_tNames p b T hn) ?_; rintro ⟨A4, c4⟩;refine lmono (fun a w h => Go.Sx.freeze (i := 0) rfl h) ?_;refine lmono (fun a w h => stBun (is := [2, 0, 0]) (Γ1 := []) rfl Sub.d h) ?_;refine fixL (slen (m' := (T.map (·.1)).length) (by rw [List.length_map])) ?_;refine ls (op (p_mkf rfl) rfl) ?_;refine lC [0] call171 (c_ContainsFunc1 (T.map (·.1)) A4 c4 (by rw [List.length_map]; exact hn) (fun s => longB (getL T s) []) 189 [pT b1] [] (bun [box b1 54 [pT p], box p 139 [.map (some b)], tr b T] []) call189 (fun s _ => con_bun (Ξ0 := []) (Ξo := fun _ => []) (c_wide1 s b1 p b T hT))) ?_; intro x6;refine lmono (fun a w h => stUnbun (i := 0) rfl h) ?_;refine k_ 5 ?_;exact rR [1, 1] ()
theorem c_files1 (s : ByteArray) (q e p b : Nat) (T : List File) (hT : Tfit T) (both : Bool) : Con Tryz.prog 192 [.string s, pT q, pT e] [box q 54 [pT p], box e 4 [.bool both], box p 139 [.map (some b)], tr b T] [] Unit (fun _ => .bool (!(hasT T s == both))) (fun _ => [box q 54 [pT p], box e 4 [.bool both], box p 139 [.map (some b)], tr b T]) (fun _ => []) := by
 refine con func192 rfl ntmps192 rfl ?_;intro M0 F0 w0;refine k_ 9 ?_;refine lC [2, 2] call116 (c_tGet p b T hT s) ?_; rintro ⟨A10, c10⟩;refine k_ 11 ?_;refine ls (op (p_bne underlying4 rfl rfl) rfl) ?_;refine k_ 5 ?_;exact rR [3, 3, 1, 1] ()
theorem c_files (p b : Nat) (T : List File) (p2 b2 : Nat) (U : List File) (hT : Tfit T) (hn : T.length ≤ 2000000) (hU : Tfit U) (hn2 : U.length ≤ 2000000) (both : Bool) : Con Tryz.prog 140 [pT p, pT p2, .bool both] [box p 139 [.map (some b)], tr b T, box p2 139 [.map (some b2)], tr b2 U] [] (Option Addr × Nat) (fun y => .slice y.1 (filesT T U both).length y.2) (fun _ => [box p 139 [.map (some b)], tr b T, box p2 139 [.map (some b2)], tr b2 U]) (fun y => [slA y.1 (filesT T U both)]) := by
 refine con func140 rfl ntmps140 rfl ?_;intro M0 F0 w0;refine k_ 2 ?_;refine ls (o_box rfl rfl rfl) ?_;refine le ?_; intro b4;refine ls (o_box rfl rfl rfl) ?_;refine le ?_; intro b5;refine k_ 6 ?_;refine lC [2, 2] call97 (c_tNames p b T hn) ?_; rintro ⟨A8, c8⟩;refine lmono (fun a w h => stBun (is := [4, 3, 3, 3]) (Γ1 := []) rfl Sub.d h) ?_;refine fixL (slen (m' := (T.map (·.1)).length) (by rw [List.length_map])) ?_;refine ls (op (p_mkf rfl) rfl) ?_;refine lC [1, 0] call191 (c_DeleteFunc (T.map (·.1)) A8 c8 (by rw [List.length_map]; exact hn) (fun s => !(hasT U s == both)) 192 [pT b4, pT b5] [] (bun [box b4 54 [pT p2], box b5 4 [.bool both], box p2 139 [.map (some b2)], tr b2 U] []) call192 (fun s => con_bun (Ξ0 := []) (Ξo := fun _ => []) (c_files1 s b4 b5 p2 b2 U hU both))) ?_; intro x10;refine lmono (fun a w h => stUnbun (i := 1) rfl h) ?_;refine k_ 5 ?_;refine nmono (fun a w h => Go.Sx.freeze (i := 4) rfl h) ?_;exact rR [4, 4, 2, 2] (A8, c8)
theorem c_dTrees (p b : Nat) (T : List File) (hT : Tfit T) (hn : T.length ≤ 2000000) (hST : Sor T) (p2 b2 : Nat) (U : List File) (hU : Tfit U) (hn2 : U.length ≤ 2000000) (hSU : Sor U) : Con Tryz.prog 89 [pT p, pT p2] [box p 139 [.map (some b)], tr b T, box p2 139 [.map (some b2)], tr b2 U] [] (Option Addr × Nat) (fun x => .slice x.1 (treesT T U).length x.2) (fun x => [row 103 x.1 x.2 (treesT T U), box p 139 [.map (some b)], tr b T, box p2 139 [.map (some b2)], tr b2 U]) (fun _ => []) := by
 refine con func89 rfl ntmps89 rfl ?_;intro M0 F0 w0;refine k_ 9 ?_;refine ls (op (p_ptrnil underlying54 rfl rfl) rfl) ?_;refine k_ 2 ?_;refine cc rfl (fun h => by cases h) (fun h => ?_);refine k_ 6 ?_;refine ls (op (p_ptrnil underlying54 rfl rfl) rfl) ?_;refine k_ 2 ?_;refine cc rfl (fun h => by cases h) (fun h => ?_);refine k_ 6 ?_;refine lC [0, 0] call139 (c_wide p b T hT hn) ?_; intro x27;refine k_ 1 ?_;refine orX 3 28 31 rfl (sL [0, 1, 4, 20, 21, 23, 24]) ?_ ?_
 ·intro h28;refine k_ 3 ?_;refine ln (nmid (wk0 Φ Ω))
 apply exI
 ·intro h28;refine k_ 1 ?_;refine lwant rfl rfl rfl rfl (o_call (is := [2, 2]) call139 (c_wide p2 b2 U hU hn2) rfl rfl Ω rfl) ?_;refine le ?_; intro x30;refine lmono (fun a w h => stPerm (is := [2, 2]) rfl h) ?_;refine k_ 1 ?_;refine ln (nmid (wk0 Φ Ω))
 ·
  refine k_ 2 ?_;refine cc rfl ?_ ?_
  ·intro h31;have hw : (wideB T || wideB U) = true := h31;refine cs ?_;refine cmono (fun a w h => nilRow (α := Prim) 103 h) ?_;refine cmono (fun a w h => rowEq (α := Prim) Θ ((treesT_yes hw).symm) Θ h) ?_;refine k_ 6 ?_;refine rret (is := [0, 0, 0, 0, 0]) (none, 0) (Or.inl rfl) (Res.t rfl Res.d) ?_ rfl Ω;rw [treesT_yes hw]; rfl
  ·intro h31;have hw : (wideB T || wideB U) = false := h31;obtain ⟨hw1, hw2⟩ := Bool.or_eq_false_iff.1 hw;have hwT := wide_get hST hw1;have hwU := wide_get hSU hw2;refine k_ 9 ?_;refine cmono (fun a w h => nilRow (α := Prim) 103 h) ?_;refine k_ 3 ?_;refine lC [1, 1, 1, 1] call140 (c_files p b T p2 b2 U hT hn hU hn2 false) ?_; rintro ⟨A34, c34⟩;refine k_ 5 ?_;refine cl (ι := {q : Nat × Option Addr × Nat // q.1 ≤ (filesT T U false).length}) (fun i => St M0 F0 w0 108 [(0, pT p), (1, pT p2), (5, .slice i.1.2.1 (((filesT T U false).take (i.1.1)).flatMap (goneT T)).length i.1.2.2), (34, .slice A34 (filesT T U false).length c34), (35, .int .i64 (((filesT T U false).length : Nat) : Int)), (36, .int .i64 ((i.1.1 : Nat) : Int))] [row 103 (i.1.2.1) (i.1.2.2) (((filesT T U false).take (i.1.1)).flatMap (goneT T)), box p 139 [.map (some b)], tr b T, box p2 139 [.map (some b2)], tr b2 U] [slA A34 (filesT T U false)]) (fun i => (filesT T U false).length - i.1.1) ⟨(0, none, 0), Nat.zero_le _⟩ (wK [4, 0, 0, 0, 0]) ?_;rintro ⟨⟨k, A5, c5⟩, hk⟩;refine cmono (S' := St M0 F0 w0 108 [(0, pT p), (1, pT p2), (5, .slice A5 (((filesT T U false).take (k)).flatMap (goneT T)).length c5), (34, .slice A34 (filesT T U false).length c34), (35, .int .i64 (((filesT T U false).length : Nat) : Int)), (36, .int .i64 ((k : Nat) : Int))] [row 103 (A5) (c5) (((filesT T U false).take (k)).flatMap (goneT T)), box p 139 [.map (some b)], tr b T, box p2 139 [.map (some b2)], tr b2 U] [slA A34 (filesT T U false)]) Ħ ?_;refine k_ 6 ?_;refine cc rfl ?_ ?_
   ·intro h37;dsimp only at hk;(try simp only [nrmZ] at h37);have hk1 : k < (filesT T U false).length := (by omega);have hb1 := fm_len (goneT_len T) (filesT T U false);have hb2 := fm_len (comeT_len U) (filesT U T false);have hb3 := fm_len (bothT_len T U) ((filesT T U true).take k);have hb4 := fm_len (goneT_len T) ((filesT T U false).take k);have hb5 := fm_len (comeT_len U) ((filesT U T false).take k);have hf1 := filesT_len T U false;have hf2 := filesT_len U T false;have hf3 := filesT_len T U true;have ht1 := List.length_take_le k (filesT T U false);have ht2 := List.length_take_le k (filesT U T false);have ht3 := List.length_take_le k (filesT T U true);refine k_ 5 ?_;refine elC (A := A34) (l := filesT T U false) Θ k (List.getElem?_eq_getElem hk1) ?_; rintro zbp zop zyp hAp;refine cr ?_;refine ls (op (p_ia k hAp hk1 rfl underlying73 sizeOf9 rfl rfl) rfl) ?_;refine ls (o_ldi isAgg9 rfl Θ 0 rfl Δ rfl) ?_;refine k_ 7 ?_;refine lC [1, 1] call116 (c_tGet p b T hT (filesT T U false)[k]) ?_; rintro ⟨A43, c43⟩;refine lmono (fun a w h => freezeN (i := 0) rfl h) ?_;refine lpure (St.cap (m := (getL T (filesT T U false)[k]).length) (c := c43) Θ) ?_;intro hcap43;refine k_ 7 ?_;refine cmono (fun a w h => nilSl (α := ByteArray) h) ?_;refine k_ 4 ?_;refine lC [] call141 (c_dLines (filesT T U false)[k] (getL T (filesT T U false)[k]) [] A43 none c43 0 (by have := hwT (filesT T U false)[k]; omega) (Nat.zero_le _) hcap43 (Nat.le_refl _)) ?_; rintro ⟨A49, c49⟩;refine lmono (fun a w h => freezeN (i := 0) rfl h) ?_;refine lpure (St.nil (y := (A49, c49)) Θ) ?_;intro hn49;refine ls (o_app (is := [2]) underlying40 inf103 rfl (by decide) (by decide) rfl rfl (by (try simp only [List.length_append, List.length_cons, List.length_nil]); have hll := linesT_len ((filesT T U false)[k]) (getL T (filesT T U false)[k]) ([]); omega) (fun _ h => hn49 h) rfl Ω rfl) ?_;refine le ?_; rintro ⟨A50, c50⟩;refine k_ 2 ?_;refine ls (o_bsl [pRm (filesT T U false)[k]] underlying40 sizeOf103 zeroValue103 rfl (Enum.t Enum.d) (RV.t ((none, 0), (none, 0)) rfl Ω RV.d) rfl (by decide) (by decide) rfl) ?_;refine le ?_; intro b53;refine lmono (fun a w h => Go.Sx.freeze (i := 0) rfl h) ?_;refine ls (o_app (is := [0]) underlying40 inf103 rfl (by decide) (by decide) rfl rfl (by (try simp only [List.length_append, List.length_cons, List.length_nil]); have hll := linesT_len ((filesT T U false)[k]) (getL T (filesT T U false)[k]) ([]); omega) (fun h => by cases h) rfl Ω rfl) ?_;refine le ?_; rintro ⟨A54, c54⟩;refine k_ 8 ?_;refine nnext ⟨(k + 1, A54, c54), hk1⟩ (by dsimp only; omega) (fun a w h => by dsimp only; rw [fm_take hk1, show goneT T (filesT T U false)[k] = linesT (filesT T U false)[k] (getL T (filesT T U false)[k]) [] ++ [pRm (filesT T U false)[k]] from rfl, ← List.append_assoc]; exact wL [0, 0, 0, 0, 0] h)
   ·intro h37;dsimp only at hk;(try simp only [nrmZ] at h37);obtain rfl : k = (filesT T U false).length := (by omega);rw [List.take_length];refine k_ 10 ?_;refine lC [3, 3, 1, 1] call140 (c_files p2 b2 U p b T hU hn2 hT hn false) ?_; rintro ⟨A58, c58⟩;refine k_ 5 ?_;refine cl (ι := {q : Nat × Option Addr × Nat // q.1 ≤ (filesT U T false).length}) (fun i => St M0 F0 w0 108 [(0, pT p), (1, pT p2), (5, .slice i.1.2.1 ((filesT T U false).flatMap (goneT T) ++ ((filesT U T false).take (i.1.1)).flatMap (comeT U)).length i.1.2.2), (58, .slice A58 (filesT U T false).length c58), (59, .int .i64 (((filesT U T false).length : Nat) : Int)), (60, .int .i64 ((i.1.1 : Nat) : Int))] [row 103 (i.1.2.1) (i.1.2.2) ((filesT T U false).flatMap (goneT T) ++ ((filesT U T false).take (i.1.1)).flatMap (comeT U)), box p 139 [.map (some b)], tr b T, box p2 139 [.map (some b2)], tr b2 U] [slA A58 (filesT U T false)]) (fun i => (filesT U T false).length - i.1.1) ⟨(0, A5, c5), Nat.zero_le _⟩ ((fun a w h => by dsimp only; rw [List.take_zero, List.flatMap_nil, List.append_nil]; exact wL [4, 2, 2, 0, 0] h)) ?_;rintro ⟨⟨k, A5, c5⟩, hk⟩;refine cmono (S' := St M0 F0 w0 108 [(0, pT p), (1, pT p2), (5, .slice A5 ((filesT T U false).flatMap (goneT T) ++ ((filesT U T false).take (k)).flatMap (comeT U)).length c5), (58, .slice A58 (filesT U T false).length c58), (59, .int .i64 (((filesT U T false).length : Nat) : Int)), (60, .int .i64 ((k : Nat) : Int))] [row 103 (A5) (c5) ((filesT T U false).flatMap (goneT T) ++ ((filesT U T false).take (k)).flatMap (comeT U)), box p 139 [.map (some b)], tr b T, box p2 139 [.map (some b2)], tr b2 U] [slA A58 (filesT U T false)]) Ħ ?_;refine k_ 6 ?_;refine cc rfl ?_ ?_
    ·intro h61;dsimp only at hk;(try simp only [nrmZ] at h61);have hk1 : k < (filesT U T false).length := (by omega);have hb1 := fm_len (goneT_len T) (filesT T U false);have hb2 := fm_len (comeT_len U) (filesT U T false);have hb3 := fm_len (bothT_len T U) ((filesT T U true).take k);have hb4 := fm_len (goneT_len T) ((filesT T U false).take k);have hb5 := fm_len (comeT_len U) ((filesT U T false).take k);have hf1 := filesT_len T U false;have hf2 := filesT_len U T false;have hf3 := filesT_len T U true;have ht1 := List.length_take_le k (filesT T U false);have ht2 := List.length_take_le k (filesT U T false);have ht3 := List.length_take_le k (filesT T U true);refine k_ 5 ?_;refine elC (A := A58) (l := filesT U T false) Θ k (List.getElem?_eq_getElem hk1) ?_; rintro zbp zop zyp hAp;refine cr ?_;refine ls (op (p_ia k hAp hk1 rfl underlying73 sizeOf9 rfl rfl) rfl) ?_;refine ls (o_ldi isAgg9 rfl Θ 0 rfl Δ rfl) ?_;refine k_ 7 ?_;refine lC [3, 3] call116 (c_tGet p2 b2 U hU (filesT U T false)[k]) ?_; rintro ⟨A67, c67⟩;refine lmono (fun a w h => freezeN (i := 0) rfl h) ?_;refine lpure (St.cap (m := (getL U (filesT U T false)[k]).length) (c := c67) Θ) ?_;intro hcap67;refine k_ 7 ?_;refine cmono (fun a w h => nilSl (α := ByteArray) h) ?_;refine k_ 4 ?_;refine ls (o_bsl [pAd (filesT U T false)[k]] underlying40 sizeOf103 zeroValue103 rfl (Enum.t Enum.d) (RV.t ((none, 0), (none, 0)) rfl Ω RV.d) rfl (by decide) (by decide) rfl) ?_;refine le ?_; intro b73;refine lmono (fun a w h => Go.Sx.freeze (i := 0) rfl h) ?_;refine ls (o_app (is := [2]) underlying40 inf103 rfl (by decide) (by decide) rfl rfl (by (try simp only [List.length_append, List.length_cons, List.length_nil]); omega) (fun h => by cases h) rfl Ω rfl) ?_;refine le ?_; rintro ⟨A74, c74⟩;refine k_ 2 ?_;refine lC [] call141 (c_dLines (filesT U T false)[k] [] (getL U (filesT U T false)[k]) none A67 0 c67 (Nat.zero_le _) (by have := hwU (filesT U T false)[k]; omega) (Nat.le_refl _) hcap67) ?_; rintro ⟨A77, c77⟩;refine lmono (fun a w h => freezeN (i := 0) rfl h) ?_;refine lpure (St.nil (y := (A77, c77)) Θ) ?_;intro hn77;refine ls (o_app (is := [0]) underlying40 inf103 rfl (by decide) (by decide) rfl rfl (by (try simp only [List.length_append, List.length_cons, List.length_nil]); have hll := linesT_len ((filesT U T false)[k]) ([]) (getL U (filesT U T false)[k]); omega) (fun _ h => hn77 h) rfl Ω rfl) ?_;refine le ?_; rintro ⟨A78, c78⟩;refine k_ 8 ?_;refine nnext ⟨(k + 1, A78, c78), hk1⟩ (by dsimp only; omega) (fun a w h => by dsimp only; rw [fm_take hk1, show comeT U (filesT U T false)[k] = [pAd (filesT U T false)[k]] ++ linesT (filesT U T false)[k] [] (getL U (filesT U T false)[k]) from rfl, ← List.append_assoc, ← List.append_assoc]; exact wL [0, 2, 2, 0, 0] h)
    ·intro h61;dsimp only at hk;(try simp only [nrmZ] at h61);obtain rfl : k = (filesT U T false).length := (by omega);rw [List.take_length];refine k_ 10 ?_;refine lC [1, 1, 1, 1] call140 (c_files p b T p2 b2 U hT hn hU hn2 true) ?_; rintro ⟨A82, c82⟩;refine k_ 5 ?_;refine cl (ι := {q : Nat × Option Addr × Nat // q.1 ≤ (filesT T U true).length}) (fun i => St M0 F0 w0 108 [(0, pT p), (1, pT p2), (5, .slice i.1.2.1 (((filesT T U false).flatMap (goneT T) ++ (filesT U T false).flatMap (comeT U)) ++ ((filesT T U true).take (i.1.1)).flatMap (bothT T U)).length i.1.2.2), (82, .slice A82 (filesT T U true).length c82), (83, .int .i64 (((filesT T U true).length : Nat) : Int)), (84, .int .i64 ((i.1.1 : Nat) : Int))] [row 103 (i.1.2.1) (i.1.2.2) (((filesT T U false).flatMap (goneT T) ++ (filesT U T false).flatMap (comeT U)) ++ ((filesT T U true).take (i.1.1)).flatMap (bothT T U)), box p 139 [.map (some b)], tr b T, box p2 139 [.map (some b2)], tr b2 U] [slA A82 (filesT T U true)]) (fun i => (filesT T U true).length - i.1.1) ⟨(0, A5, c5), Nat.zero_le _⟩ ((fun a w h => by dsimp only; rw [List.take_zero, List.flatMap_nil, List.append_nil]; exact wL [4, 0, 0, 0, 0] h)) ?_;rintro ⟨⟨k, A5, c5⟩, hk⟩;refine cmono (S' := St M0 F0 w0 108 [(0, pT p), (1, pT p2), (5, .slice A5 (((filesT T U false).flatMap (goneT T) ++ (filesT U T false).flatMap (comeT U)) ++ ((filesT T U true).take (k)).flatMap (bothT T U)).length c5), (82, .slice A82 (filesT T U true).length c82), (83, .int .i64 (((filesT T U true).length : Nat) : Int)), (84, .int .i64 ((k : Nat) : Int))] [row 103 (A5) (c5) (((filesT T U false).flatMap (goneT T) ++ (filesT U T false).flatMap (comeT U)) ++ ((filesT T U true).take (k)).flatMap (bothT T U)), box p 139 [.map (some b)], tr b T, box p2 139 [.map (some b2)], tr b2 U] [slA A82 (filesT T U true)]) Ħ ?_;refine k_ 6 ?_;refine cc rfl ?_ ?_
     ·intro h85;dsimp only at hk;(try simp only [nrmZ] at h85);have hk1 : k < (filesT T U true).length := (by omega);have hb1 := fm_len (goneT_len T) (filesT T U false);have hb2 := fm_len (comeT_len U) (filesT U T false);have hb3 := fm_len (bothT_len T U) ((filesT T U true).take k);have hb4 := fm_len (goneT_len T) ((filesT T U false).take k);have hb5 := fm_len (comeT_len U) ((filesT U T false).take k);have hf1 := filesT_len T U false;have hf2 := filesT_len U T false;have hf3 := filesT_len T U true;have ht1 := List.length_take_le k (filesT T U false);have ht2 := List.length_take_le k (filesT U T false);have ht3 := List.length_take_le k (filesT T U true);refine k_ 5 ?_;refine elC (A := A82) (l := filesT T U true) Θ k (List.getElem?_eq_getElem hk1) ?_; rintro zbp zop zyp hAp;refine cr ?_;refine ls (op (p_ia k hAp hk1 rfl underlying73 sizeOf9 rfl rfl) rfl) ?_;refine ls (o_ldi isAgg9 rfl Θ 0 rfl Δ rfl) ?_;refine k_ 7 ?_;refine lC [1, 1] call116 (c_tGet p b T hT (filesT T U true)[k]) ?_; rintro ⟨A91, c91⟩;refine lmono (fun a w h => freezeN (i := 0) rfl h) ?_;refine lpure (St.cap (m := (getL T (filesT T U true)[k]).length) (c := c91) Θ) ?_;intro hcap91;refine k_ 11 ?_;refine lC [3, 3] call116 (c_tGet p2 b2 U hU (filesT T U true)[k]) ?_; rintro ⟨A97, c97⟩;refine lmono (fun a w h => freezeN (i := 0) rfl h) ?_;refine lpure (St.cap (m := (getL U (filesT T U true)[k]).length) (c := c97) Θ) ?_;intro hcap97;refine k_ 12 ?_;refine lC [] call141 (c_dLines (filesT T U true)[k] (getL T (filesT T U true)[k]) (getL U (filesT T U true)[k]) A91 A97 c91 c97 (by have := hwT (filesT T U true)[k]; omega) (by have := hwU (filesT T U true)[k]; omega) hcap91 hcap97) ?_; rintro ⟨A104, c104⟩;refine lmono (fun a w h => freezeN (i := 0) rfl h) ?_;refine lpure (St.nil (y := (A104, c104)) Θ) ?_;intro hn104;refine ls (o_app (is := [4]) underlying40 inf103 rfl (by decide) (by decide) rfl rfl (by (try simp only [List.length_append, List.length_cons, List.length_nil]); have hll := linesT_len ((filesT T U true)[k]) (getL T (filesT T U true)[k]) (getL U (filesT T U true)[k]); omega) (fun _ h => hn104 h) rfl Ω rfl) ?_;refine le ?_; rintro ⟨A105, c105⟩;refine k_ 8 ?_;refine nnext ⟨(k + 1, A105, c105), hk1⟩ (by dsimp only; omega) (fun a w h => by dsimp only; rw [fm_take hk1, show bothT T U (filesT T U true)[k] = linesT (filesT T U true)[k] (getL T (filesT T U true)[k]) (getL U (filesT T U true)[k]) from rfl, ← List.append_assoc]; exact wL [0, 2, 2, 0, 0] h)
     ·intro h85;dsimp only at hk;(try simp only [nrmZ] at h85);obtain rfl : k = (filesT T U true).length := (by omega);rw [List.take_length];refine k_ 6 ?_;refine cmono (fun a w h => rowEq (α := Prim) Θ ((treesT_no hw).symm) Θ h) ?_;refine k_ 7 ?_;refine rret (is := [0, 0, 0, 0, 0]) (A5, c5) (Or.inl rfl) (Res.t rfl Res.d) ?_ rfl Ω;rw [treesT_no hw]; rfl
theorem inv_tfit {m n : Nat} {T : List File} (h : AppInv m n T) (hm : m ≤ 2000000) (hn : n ≤ 2000000) : Tfit T ∧ T.length ≤ 2000000 ∧ Sor T := ⟨fun x hx => Nat.le_trans (h.lmax x hx) hm, Nat.le_trans h.len hn, h.so⟩
theorem c_repDiff (pr : Nat) (s : RS) (m n : Nat) (hI : RepI m n s) (hm : m ≤ 100000) (hn : n ≤ 100000) : Con Tryz.prog 42 [pT pr] [repoX 56 124 139 63 103 (pr) (s)] [] (Option Addr × Nat) (fun y => .slice y.1 (treesT (treeP s.log) (treeR s)).length y.2) (fun y => [row 103 y.1 y.2 (treesT (treeP s.log) (treeR s)), repoX 56 124 139 63 103 (pr) (s)]) (fun _ => []) := by
 refine con func42 rfl ntmps42 rfl ?_;intro M0 F0 w0;refine k_ 6 ?_;have hT1 := inv_tfit hI.log.app (by omega) (by omega);have hT2 := inv_tfit hI.app (by omega) (by omega);refine unrepC (i := 0) rfl ?_; intro pl p b A cA Qa cQ mb pt bt;refine cd [4, 9] [(3, pr, 0, _), (8, pr, 3, _)] TryzX.mixed (tB 1 (tB 1 TOk.d)) ?_;refine u_ 0 1 ?_;refine tk 1 rfl Ψ Υ gnone (TTany _) (p_nilck rfl) rfl ?_;refine u_ 2 2 ?_;refine u_ 5 1 ?_;refine tk 6 rfl Ψ Υ gnone (TTany _) (p_nilck rfl) rfl ?_;refine u_ 7 2 ?_;refine df 4 Ψ ?_;refine doR rfl (o_call (is := [1, 2, 2]) call41 (c_recBase pl p b (treeP s.log) (.slice A s.log.length cA)) rfl rfl Ω rfl) (TOk.x Ψ (TOk.t (isBoxE fun _ => isBoxS Θ (k := 1) Δ) TOk.d)) ?_;refine ea ?_; rintro ⟨p7, b7⟩;refine df 9 Ψ ?_;refine doR rfl (o_call (is := [0, 0, 7, 7]) call89 (c_dTrees p7 b7 (treeP s.log) hT1.1 hT1.2.1 hT1.2.2 pt bt (treeR s) hT2.1 hT2.2.1 hT2.2.2) rfl rfl Ω rfl) tX ?_;refine ea ?_; intro y12;refine u_ 10 1 ?_;refine dn Ψ ?_;refine k_ 3 ?_;refine nmono (fun a w h => mkrep (s := s) [8, 5, 7, 5, 5, 5, 5, 3, 3] rfl ⟨rfl, rfl, rfl, rfl, rfl⟩ h) ?_;exact rR [1, 0] y12
end Go.Proofs.YtbhnolfcdcpbkaaGreatDoor.X
end
section
namespace Go.Proofs.YtbhnolfcdcpbkaaGreatDoor.X
open Go Go.RowKit Go.Proofs Go.Sx
/-! A state as data; a call upon it; what calls make. -/
deriving instance DecidableEq for RS
instance instRpRS : Rp RS where
 Lay := ((Option Addr × Nat) × (Option Addr × Nat)) × (Option Addr × Nat)
 size := 3
 enc s y := [.slice y.1.1.1 s.log.length y.1.1.2, .slice y.1.2.1 s.pend.length y.1.2.2, .slice y.2.1 s.shv.length y.2.2]
 len _ _ := rfl
 one _ _ v hv := by
  simp only [List.mem_cons, List.mem_nil_iff, or_false] at hv;rcases hv with rfl | rfl | rfl <;> rfl
 asn s y := [slA y.1.1.1 s.log, nilA y.1.1, capA y.1.1.2 s.log.length, slA y.1.2.1 s.pend, capA y.1.2.2 s.pend.length, slA y.2.1 s.shv, capA y.2.2 s.shv.length]
structure ROp where
 kind : Int
 l : List Prim
 id : Int
 s : ByteArray
 deps : List Int
 files : List ByteArray
instance instRpROp : Rp ROp where
 Lay := (Option Addr × Nat) × (Option Addr × Nat) × (Option Addr × Nat)
 size := 6
 enc o y := [.int .i64 o.kind, .slice y.1.1 o.l.length y.1.2, .int .i64 o.id, .string o.s, .slice y.2.1.1 o.deps.length y.2.1.2, .slice y.2.2.1 o.files.length y.2.2.2]
 len _ _ := rfl
 one _ _ v hv := by
  simp only [List.mem_cons, List.mem_nil_iff, or_false] at hv;rcases hv with rfl | rfl | rfl | rfl | rfl | rfl <;> rfl
 asn o y := [slA y.1.1 o.l, slA y.2.1.1 o.deps, slA y.2.2.1 o.files]
structure ROp.fit (o : ROp) : Prop where
 ll : o.l.length ≤ 2000000
 lf : ∀ x ∈ o.l, x.fit
 nb : o.s.size ≤ 2000000
 dl : o.deps.length ≤ 2000000
 fl : o.files.length ≤ 2000000
def actR (s : RS) (o : ROp) : (RS × List Prim) × Int :=
 if o.kind = 0 then (((rChange s o.l).1, []), (rChange s o.l).2)
 else if o.kind = 1 then (((rRecord s ⟨o.id, o.s, o.deps, []⟩ o.files).1, []), (rRecord s ⟨o.id, o.s, o.deps, []⟩ o.files).2)
 else if o.kind = 2 then (((rAmend s o.id o.files).1, []), (rAmend s o.id o.files).2)
 else if o.kind = 3 then (((rUnrec s o.id).1, []), (rUnrec s o.id).2)
 else if o.kind = 4 then rRevert s o.files
 else if o.kind = 5 then rShelve s o.s o.files
 else if o.kind = 6 then rUnshelve s o.s
 else ((s, []), 0)
theorem getL_len {S : List Sh.File} (k : ByteArray) : (getL S k).length ≤ shy S := by
 unfold getL;cases h : getT S k with
 | none => simp
 | some l =>
  simp only [Option.getD_some];unfold getT at h
  induction S with
  | nil => simp at h
  | cons x S ih =>
   by_cases hx : x.1 = k
   ·rw [List.find?_cons_of_pos (by simpa using hx)] at h;unfold shy;simp only [Option.map_some, Option.some.injEq] at h;rw [List.map_cons, List.sum_cons, h]; omega
   ·rw [List.find?_cons_of_neg (by simpa using hx)] at h;have := ih h;unfold shy at this ⊢;rw [List.map_cons, List.sum_cons]; omega
theorem RepI.actR {m n : Nat} {s : RS} {o : ROp} (h : RepI m n s) (ho : o.fit) (hn : n ≤ 2000000) :
  RepI (m + lns o.l) (n + o.l.length) (X.actR s o).1.1 ∧ (∀ p ∈ (X.actR s o).1.2, p.fit) ∧ (X.actR s o).1.2.length ≤ n := by
 have hM : ∀ {s'}, RepI m n s' → RepI (m + lns o.l) (n + o.l.length) s' := fun h => h.mono (by omega) (by omega);have h0 : (∀ p ∈ ([] : List Prim), p.fit) ∧ ([] : List Prim).length ≤ n := ⟨(fun p hp => by cases hp), Nat.zero_le _⟩;have hs := h.split o.files true;have hsy := hs.y;have hy := h.y;unfold X.actR
 split
 ·exact ⟨(h.change ho.lf).1, h0⟩
 split
 ·exact ⟨hM (h.record (p := ⟨o.id, o.s, o.deps, []⟩) ⟨ho.nb, ho.dl⟩ hn o.files).1, h0⟩
 split
 ·exact ⟨hM (h.amend hn o.id o.files).1, h0⟩
 split
 ·exact ⟨hM (h.unrec o.id).1, h0⟩
 split
 ·refine ⟨hM (h.revert o.files).1, (h.revert o.files).2.1, ?_⟩;unfold rRevert
  split
  ·exact Nat.zero_le _
  ·rw [invL_len]; omega
 split
 ·refine ⟨hM (h.shelve o.s o.files).1, (h.shelve o.s o.files).2.1, ?_⟩;unfold rShelve
  split
  ·exact Nat.zero_le _
  split
  ·exact Nat.zero_le _
  ·rw [invL_len]; omega
 split
 ·refine ⟨hM (h.unshelve o.s).1, (h.unshelve o.s).2.1, ?_⟩;have hg := getL_len (S := s.shv) o.s;unfold rUnshelve
  split
  ·exact Nat.zero_le _
  split
  ·dsimp only; omega
  ·exact Nat.zero_le _
 ·exact ⟨hM h, h0⟩
def madeR (ops : List ROp) : RS := ops.foldl (fun s o => (X.actR s o).1.1) ⟨[], [], []⟩
def roz (ops : List ROp) : Nat := (ops.map fun o => lns o.l).sum
def roy (ops : List ROp) : Nat := (ops.map fun o => o.l.length).sum
theorem madeR_snoc (ops : List ROp) (o : ROp) : madeR (ops ++ [o]) = (X.actR (madeR ops) o).1.1 := by unfold madeR; rw [List.foldl_append]; rfl
theorem mader_fold : ∀ (ops : List ROp) {s : RS} {m n : Nat}, (∀ o ∈ ops, o.fit) → n + roy ops ≤ 2000000 → RepI m n s → RepI (m + roz ops) (n + roy ops) (ops.foldl (fun s o => (X.actR s o).1.1) s)
 | [], s, m, n, _, _, h => h
 | o :: ops, s, m, n, hf, hn, h => by
  have e1 : m + roz (o :: ops) = m + lns o.l + roz ops := by unfold roz; simp only [List.map_cons, List.sum_cons]; omega
  have e2 : n + roy (o :: ops) = n + o.l.length + roy ops := by unfold roy; simp only [List.map_cons, List.sum_cons]; omega
  have h1 := (h.actR (hf o (by simp)) (by omega)).1;rw [e1, e2];exact mader_fold ops (fun x hx => hf x (by simp [hx])) (by omega) h1
theorem madeR_ok {ops : List ROp} (hf : ∀ o ∈ ops, o.fit) (hn : roy ops ≤ 2000000) : RepI (roz ops) (roy ops) (madeR ops) := by
 have h := mader_fold ops hf (by omega) RepI.nil;simp only [Nat.zero_add] at h;exact h
theorem roz_take (ops : List ROp) (k : Nat) : roz (ops.take k) ≤ roz ops := by
 unfold roz
 conv => rhs; rw [← List.take_append_drop k ops, List.map_append, List.sum_append]
 omega
theorem roy_take (ops : List ROp) (k : Nat) : roy (ops.take k) ≤ roy ops := by
 unfold roy
 conv => rhs; rw [← List.take_append_drop k ops, List.map_append, List.sum_append]
 omega
theorem ro_mem {ops : List ROp} {k : Nat} (hk : k < ops.length) : lns ops[k].l ≤ roz ops ∧ ops[k].l.length ≤ roy ops := by
 have h1 := sum_take_succ (f := fun o : ROp => lns o.l) hk;have h2 := sum_take_le (fun o : ROp => lns o.l) ops (k + 1);have h3 := sum_take_succ (f := fun o : ROp => o.l.length) hk;have h4 := sum_take_le (fun o : ROp => o.l.length) ops (k + 1);unfold roz roy;omega
/-! Amend, or Unrecord and Record -/
theorem lastF_keep : ∀ {D : List Patch} {a b : Patch} {s : List Patch}, lastF a D = some (s, b) → b.note = a.note ∧ b.deps = a.deps := by
 intro D
 induction D with
 | nil => intro a b s h; simp only [lastF, Option.some.injEq, Prod.mk.injEq] at h; rw [← h.2]; exact ⟨rfl, rfl⟩
 | cons q D ih =>
  intro a b s h;unfold lastF at h
  split at h
  ·rename_i hp
   cases e : lastF (pswap a q).2.1 D with
   | none => rw [e] at h; simp at h
   | some x =>
    rw [e] at h;simp only [Option.map_some, Option.some.injEq, Prod.mk.injEq] at h;have h1 := ih (s := x.1) (b := x.2) e;rw [← h.2];have h2 : (pswap a q).2.1.note = a.note ∧ (pswap a q).2.1.deps = a.deps := by
     unfold pswap at hp ⊢
     split
     ·exact ⟨rfl, rfl⟩
     ·rename_i h3; rw [if_neg h3] at hp; simp at hp
    exact ⟨h1.1.trans h2.1, h1.2.trans h2.2⟩
  ·simp at h
theorem last_get {l : List Patch} {v : Int} (h : (lastP l v).2 = 0) : ∃ p, getP l v = (p, true) ∧ p.id = v ∧ ∃ s b, (lastP l v).1 = s ++ [b] ∧ b.id = v ∧ b.note = p.note ∧ b.deps = p.deps := by
 unfold lastP at h ⊢
 split
 ·rename_i hk
  rw [dif_pos hk] at h;rcases atP_cases l v with ⟨h1, _⟩ | ⟨k, hk', h1, h2, h3⟩
  ·omega
  have ek : (atP l v).toNat = k := by omega
  have hg : getP l v = (l[k], true) := getP_yes hk' h1;refine ⟨l[k], hg, h2, ?_⟩;cases e : lastF (l[(atP l v).toNat]'hk.2) (l.drop ((atP l v).toNat + 1)) with
  | none => rw [e] at h; simp at h
  | some x =>
   have h4 := lastF_keep (s := x.1) (b := x.2) e;have h5 := (lastF_ids (s := x.1) (b := x.2) e).2;simp only [ek] at h4 h5;exact ⟨_, _, rfl, h5.trans h2, h4.1, h4.2⟩
 ·rename_i hk; rw [dif_neg hk] at h; simp at h
/-! what is counted -/
def roA (o : ROp) : Nat := Sx.many o.l + o.s.size + o.deps.length + o.files.length + sizes o.files
def roB (o : ROp) : Nat := o.l.length
def few14 (ops : List ROp) : Int := if ((ops.length : Int) ≤ 24 ∧ (((ops.map roB).sum : Nat) : Int) ≤ 40) ∧ (((ops.map roA).sum : Nat) : Int) ≤ 6000 then 0 else (((ops.map roA).sum : Nat) : Int) + (((ops.map roB).sum : Nat) : Int) + (ops.length : Int)
theorem few14_yes {ops : List ROp} (h : ¬ 0 < few14 ops) : ops.length ≤ 24 ∧ roz ops ≤ 6000 ∧ roy ops ≤ 40 ∧ ∀ o ∈ ops, o.s.size ≤ 6000 ∧ o.deps.length ≤ 6000 ∧ o.files.length ≤ 6000 ∧ Sx.many o.l ≤ 6000 := by
 unfold few14 at h;have h1 : (ops.length : Int) ≤ 24 ∧ (((ops.map roB).sum : Nat) : Int) ≤ 40 ∧ (((ops.map roA).sum : Nat) : Int) ≤ 6000 := by
  by_cases h1 : ((ops.length : Int) ≤ 24 ∧ (((ops.map roB).sum : Nat) : Int) ≤ 40) ∧ (((ops.map roA).sum : Nat) : Int) ≤ 6000
  ·exact ⟨h1.1.1, h1.1.2, h1.2⟩
  ·rw [if_neg h1] at h; omega
 have h2 : roz ops ≤ (ops.map roA).sum := by
  unfold roz
  clear h h1
  induction ops with
  | nil => exact Nat.le_refl _
  | cons o ops ih =>
   simp only [List.map_cons, List.sum_cons];have h3 := lns_many o.l;have h4 : Sx.many o.l ≤ roA o := by unfold roA; omega
   omega
 have h3 : ∀ o ∈ ops, roA o ≤ (ops.map roA).sum := by
  clear h h1 h2
  induction ops with
  | nil => intro o ho; cases ho
  | cons x ops ih =>
   intro o ho;simp only [List.map_cons, List.sum_cons];rcases List.mem_cons.1 ho with rfl | ho
   ·omega
   ·have := ih o ho; omega
 have h5 : roy ops = (ops.map roB).sum := rfl;refine ⟨by omega, by omega, by omega, fun o ho => ?_⟩;have h4 := h3 o ho;have h6 : Sx.many o.l + o.s.size + o.deps.length + o.files.length + sizes o.files = roA o := rfl;refine ⟨?_, ?_, ?_, ?_⟩ <;> omega
end Go.Proofs.YtbhnolfcdcpbkaaGreatDoor.X
end
section
namespace Go.Sx
open Go
def wantF (wn : List Bool) (k : Nat) : Bool := if h : k < wn.length then wn[k] else false
theorem wantF_at {wn : List Bool} {k : Nat} (h : k < wn.length) : wantF wn k = wn[k] := by unfold wantF; rw [dif_pos h]
theorem wantF_no {wn : List Bool} {k : Nat} (h : ¬ k < wn.length) : wantF wn k = false := by unfold wantF; rw [dif_neg h]
end Go.Sx
end
