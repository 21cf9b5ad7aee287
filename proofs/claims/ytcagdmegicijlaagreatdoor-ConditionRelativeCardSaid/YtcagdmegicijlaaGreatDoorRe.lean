/- The law holds for every input. No condition. -/
import Derived.Test.YtcagdmegicijlaaGreatDoorRe05
import Derived.Test.YtcagdmegicijlaaGreatDoorCards
import Derived.Test.YtcagdmegicijlaaGreatDoorTie
import Derived.JoinedCond
import Derived.Deep.DeepWitnessRowRef
import Derived.Lay
import Derived.ProofKit
set_option linter.unusedVariables false
set_option linter.unusedSectionVars false
set_option linter.unusedSimpArgs false
set_option maxHeartbeats 4000000
namespace Go.Proofs.YtcagdmegicijlaaGreatDoor
open Go Go.RowKit
theorem fits_eq {n K : Nat} {r : Row} (hl : r.terms.length < 1000000) (hn : 1000000 ≤ n) : za3 n (K : Int) r = some (rowOK K r) := by
 have := zco (body := za3.l1 n (K : Int) r) (len := r.terms.length) (st := fun (s : Int) i => (s, (i : Int))) (g := fun i s => some (rowP K s (r.terms.drop i) && zaM r.bound 1000000000)) (fun _ _ => True) (fun rec i s hi _ hr => ?_) (fun rec s _ => ?_) n 0 (-1) (Nat.zero_le _) (by omega) trivial
 ·simpa [za3, rowOK] using this
 ·simp only [za3.l1, zo hi, if_true, za hi, Option.bind_some, zd (show i < 4611686018427387904 by omega), hr r.terms[i].cell trivial]
  rw [zr hi, rowP]
  by_cases h : (decide (s < r.terms[i].cell) && decide (r.terms[i].cell < (K : Int)) && (r.terms[i].factor != 0) && zaM r.terms[i].factor 1000) = true
  ·rw [h, Bool.true_and]
   simp only [zaM, Bool.and_eq_true, decide_eq_true_eq, bne_iff_ne] at h
   rw [if_neg (by simp; omega)]
  ·rw [if_pos (by
    simp only [zaM, Bool.and_eq_true, decide_eq_true_eq, bne_iff_ne, ne_eq] at h
    simp only [Bool.or_eq_true, decide_eq_true_eq, beq_iff_eq]
    omega)]
   simp only [Bool.not_eq_true] at h
   rw [h]; rfl
 ·simp [za3.l1, zaM, rowP]
theorem ref17_Row_eq {n K : Nat} {r : Row} (hl : r.terms.length < 1000000) (hn : 1000000 ≤ n) : zcQ n r (K : Int) = some (rowOK K r) := by
 have := zco (body := zcQ.l1 n r (K : Int)) (len := r.terms.length) (st := fun (s : Int) i => (s, (i : Int))) (g := fun i s => some (rowP K s (r.terms.drop i) && zaM r.bound 1000000000)) (fun _ _ => True) (fun rec i s hi _ hr => ?_) (fun rec s _ => ?_) n 0 (-1) (Nat.zero_le _) (by omega) trivial
 ·simpa [zcQ, rowOK] using this
 ·simp only [zcQ.l1, zo hi, if_true, za hi, Option.bind_some, zan, Option.isSome_some, Bool.or_true, grd, Option.getD_some, zd (show i < 4611686018427387904 by omega), hr r.terms[i].cell trivial]
  rw [zr hi, rowP]
  by_cases h : (decide (s < r.terms[i].cell) && decide (r.terms[i].cell < (K : Int)) && (r.terms[i].factor != 0) && zaM r.terms[i].factor 1000) = true
  ·rw [h, Bool.true_and]
   simp only [zaM, Bool.and_eq_true, decide_eq_true_eq, bne_iff_ne] at h
   rw [if_neg (by simp; omega)]
  ·rw [if_pos (by
    simp only [zaM, Bool.and_eq_true, decide_eq_true_eq, bne_iff_ne, ne_eq] at h
    simp only [Bool.or_eq_true, decide_eq_true_eq, beq_iff_eq, Bool.not_eq_true', Bool.and_eq_false_iff, decide_eq_false_iff_not]
    omega)]
   simp only [Bool.not_eq_true] at h
   rw [h]; rfl
 ·simp [zcQ.l1, zan, zaM, rowP]
def shortR (R : List Row) : Prop := R.length < 1000000 ∧ ∀ r ∈ R, r.terms.length < 1000000
theorem ref17_Valid_eq {n : Nat} {box : List Range} {R : List Row} (hg : goodB box = true) (hl : box.length ≤ 100) (hR : shortR R) (hn : 1000000 ≤ n) : zG n box R = some (R.all (rowOK box.length)) := by
 unfold zG
 rw [if_neg (by simp; omega)]
 have := zL (body := zG.l1 n box R) (len := box.length) (st := fun i => (i : Int)) (g := fun _ => some (R.all (rowOK box.length))) (fun rec i hi hr => ?_) (fun rec => ?_) n 0 (Nat.zero_le _) (by omega)
 ·simpa using this
 ·have := List.all_eq_true.1 hg _ (List.getElem_mem hi)
  simp only [Bool.and_eq_true, decide_eq_true_eq] at this
  have h1 : (decide (-1000000 ≤ box[i].lo) && decide (box[i].lo ≤ 1000000)) = true := by simp; omega
  have h2 : (decide (-1000000 ≤ box[i].hi) && decide (box[i].hi ≤ 1000000)) = true := by simp; omega
  simp only [zG.l1, zo hi, if_true, za hi, Option.bind_some, zan, h1, h2, Option.isSome_some, Bool.or_true, grd, Option.getD_some, Bool.not_true, Bool.or_self, Bool.false_eq_true, if_false, zd (show i < 4611686018427387904 by omega), hr]
 ·simp only [zG.l1, zaN, Bool.false_eq_true, if_false]
  have hR1 := hR.1
  have := zaT (body := zG.l2 n box R) (l := R) (n := n) (st := fun i => (i : Int)) (rowOK box.length) (some false) (some true) (fun rec i hi => ?_) (fun rec => ?_) (by omega)
  ·rw [show ((0 : Nat) : Int) = 0 from rfl] at this
   rw [this]; split <;> simp_all
  ·simp only [zG.l2, zo hi, if_true, za hi, Option.bind_some, ref17_Row_eq (hR.2 _ (List.getElem_mem hi)) hn, zd (show i < 4611686018427387904 by omega)]
   cases rowOK box.length R[i] <;> simp
  ·simp [zG.l2]
theorem ref17_Empty_eq {n : Nat} {box : List Range} (hg : goodB box = true) (hl : box.length ≤ 100) (hn : 1000000 ≤ n) : zbc n box = some false := by
 unfold zbc
 have := zL (body := zbc.l1 n box) (len := box.length) (st := fun i => (i : Int)) (g := fun _ => some false) (fun rec i hi hr => ?_) (fun rec => ?_) n 0 (Nat.zero_le _) (by omega)
 ·simpa using this
 ·have := List.all_eq_true.1 hg _ (List.getElem_mem hi)
  simp only [Bool.and_eq_true, decide_eq_true_eq] at this
  simp only [zbc.l1, zo hi, if_true, za hi, Option.bind_some]
  rw [if_neg (by simp; omega), zd (by omega), hr]
 ·simp [zbc.l1]
theorem IndexFunc_LRange_eq {n : Nat} {l : List Range} {f : Range → Option Bool} {p : Range → Bool} (hf : ∀ x ∈ l, f x = some (p x)) (hl : l.length < 1000000) (hn : 1000000 ≤ n) : z9 n l f = some (l.any p) := by
 unfold z9 zt
 have := zL (body := zt.l1 n l f) (len := l.length) (st := fun i => (i : Int)) (g := fun i => some (ixP p (l.drop i) i)) (fun rec i hi hr => ?_) (fun rec => ?_) n 0 (Nat.zero_le _) (by omega)
 ·rw [show ((0 : Nat) : Int) = 0 from rfl] at this
  rw [this, Option.bind_some, List.drop_zero, ixP_any]
 ·simp only [zt.l1, zo hi, if_true, za hi, Option.bind_some, hf _ (List.getElem_mem hi), zd (show i < 4611686018427387904 by omega), hr]
  rw [zr hi]; simp only [ixP]
  cases p l[i] <;> simp
 ·simp [zt.l1, ixP]
theorem ContainsFunc_LLRow_eq {n : Nat} {l : List (List Row)} {f : List Row → Option Bool} {p : List Row → Bool} (hf : ∀ x ∈ l, f x = some (p x)) (hl : l.length < 1000000) (hn : 1000000 ≤ n) : zav n l f = some (l.any p) := by
 unfold zav zK
 have := zL (body := zK.l1 n l f) (len := l.length) (st := fun i => (i : Int)) (g := fun i => some (ixP p (l.drop i) i)) (fun rec i hi hr => ?_) (fun rec => ?_) n 0 (Nat.zero_le _) (by omega)
 ·rw [show ((0 : Nat) : Int) = 0 from rfl] at this
  rw [this, Option.bind_some, List.drop_zero, ixP_any]
 ·simp only [zK.l1, zo hi, if_true, za hi, Option.bind_some, hf _ (List.getElem_mem hi), zd (show i < 4611686018427387904 by omega), hr]
  rw [zr hi]; simp only [ixP]
  cases p l[i] <;> simp
 ·simp [zK.l1, ixP]
theorem interval_Valid_eq {n : Nat} {box : List Range} {R : List Row} (hg : goodB box = true) (hl : box.length ≤ 100) (hR : shortR R) (hn : 1000000 ≤ n) : za5 n box R = some (R.all (rowOK box.length)) := by
 have hb : zbm n box = some true := by
  unfold zbm
  have := zL (body := zbm.l1 n box) (len := box.length) (st := fun i => (i : Int)) (g := fun _ => some true) (fun rec i hi hr => ?_) (fun rec => ?_) n 0 (Nat.zero_le _) (by omega)
  ·simpa using this
  ·have := List.all_eq_true.1 hg _ (List.getElem_mem hi)
   simp only [Bool.and_eq_true, decide_eq_true_eq] at this
   simp only [zbm.l1, zo hi, if_true, za hi, Option.bind_some]
   rw [if_neg (by simp; omega), zd (by omega), hr]
  ·simp [zbm.l1]; omega
 have hc : zh n R (fun q0 => zbj n q0 box) = some (R.any fun r => !rowOK box.length r) := zbW (fun x hx => by
  unfold zbj
  rw [fits_eq (hR.2 x hx) hn]; rfl) hR.1 hn
 unfold za5
 rw [hb, hc]
 simp [grd, List.all_eq_not_any_not]
theorem interval_Empty_eq {n : Nat} {box : List Range} (hg : goodB box = true) (hl : box.length ≤ 100) (hn : 1000000 ≤ n) : zbs n box = some false := by
 unfold zbs
 rw [IndexFunc_LRange_eq (f := fun q0 => interval_empty n q0) (p := fun r => decide (r.hi < r.lo)) (fun x _ => rfl) (by omega) hn, Option.bind_some]
 congr 1
 rw [List.any_eq_false]
 intro r hr
 have := List.all_eq_true.1 hg _ hr
 simp only [Bool.and_eq_true, decide_eq_true_eq] at this
 simp; omega
end Go.Proofs.YtcagdmegicijlaaGreatDoor
namespace Go.Proofs.YtcagdmegicijlaaGreatDoor
open Go Go.RowKit
def leastB4 (x : Int) : Bool := decide (x < -4000000) || decide (4000000 < x)
def graphF (K : Nat) (g : Graph) : Bool := (((decide (g.size < 1) || decide (6 < g.size)) || decide (g.first < 0)) || decide (sub64 (K : Int) (mul64 g.size g.size) < g.first)) || ((g.least.length : Int) != mul64 g.size g.size)
def zcU (K : Nat) (g : Graph) : Bool := !graphF K g && !g.least.any leastB4
def caseV (K : Nat) (rows : List Row) : Bool := decide (rows.length ≤ 64) && rows.all (rowOK K)
def sysP (K : Nat) (R : List Row) (G : List Graph) (cs : List (List Row)) : Bool := (decide (R.length ≤ 1024) && R.all (rowOK K) && decide (G.length ≤ 64) && decide (cs.length ≤ 1024)) && (G.all (zcU K) && cs.all (caseV K))
structure SysOK (R : List Row) (G : List Graph) (cs : List (List Row)) : Prop where
 rows : shortR R
 graphs : G.length < 1000000 ∧ ∀ g ∈ G, g.least.length < 1000000
 cases : cs.length < 1000000 ∧ ∀ rows ∈ cs, shortR rows
theorem system_graph_eq {n K : Nat} {g : Graph} (hl : g.least.length < 1000000) (hn : 1000000 ≤ n) : system_graph n (K : Int) g = some (zcU K g) := by
 unfold system_graph zcU
 by_cases h : graphF K g = true
 ·have h' := h
  unfold graphF at h'
  rw [if_pos h', h]; rfl
 ·have h' := h
  unfold graphF at h'
  rw [if_neg h', zbz (f := fun q0 => system_graph_1 n q0) (p := leastB4) (fun x _ => rfl) (by omega) (by omega), Option.bind_some]
  simp only [Bool.not_eq_true] at h
  rw [h]; rfl
theorem system_Valid_eq {n : Nat} {box : List Range} {R : List Row} {G : List Graph} {cs : List (List Row)} (hg : goodB box = true) (hl : box.length ≤ 100) (hS : SysOK R G cs) (hn : 1000000 ≤ n) : zaC n ⟨box, R, G, cs⟩ = some (sysP box.length R G cs) := by
 unfold zaC
 have hrows : ∀ (rows : List Row) (k : Int), shortR rows → zcx n ⟨box, R, G, cs⟩ rows k = some (decide ((rows.length : Int) ≤ k) && rows.all (rowOK box.length)) := fun rows k hr => by
  unfold zcx
  simp only [interval_Valid_eq hg hl hr hn, Option.isSome_some, Bool.or_true, grd, if_true, Option.getD_some]
 have hbox : za5 n box [] = some true := by rw [interval_Valid_eq hg hl ⟨by simp, by simp⟩ hn]; rfl
 simp only [hbox, Option.bind_some, interval_Empty_eq hg hl hn, hrows R 1024 hS.rows, Option.isSome_some, Bool.or_true, grd, if_true, Option.getD_some, Bool.not_true, Bool.false_or]
 have hloop : loopF (zaC.l1 n ⟨box, R, G, cs⟩) n 0 = some (G.all (zcU box.length) && cs.all (caseV box.length)) := by
  have := zaT (body := zaC.l1 n ⟨box, R, G, cs⟩) (l := G) (n := n) (st := fun i => (i : Int)) (zcU box.length) (some false) (some (cs.all (caseV box.length))) (fun rec i hi => ?_) (fun rec => ?_) (by have := hS.graphs.1; omega)
  ·rw [show ((0 : Nat) : Int) = 0 from rfl] at this
   rw [this]; cases G.all (zcU box.length) <;> rfl
  ·simp only [zaC.l1, zo hi, if_true, za hi, Option.bind_some, system_graph_eq (hS.graphs.2 _ (List.getElem_mem hi)) hn, zd (show i < 4611686018427387904 by have := hS.graphs.1; omega)]
   cases zcU box.length G[i] <;> simp
  ·simp only [zaC.l1, zaN, Bool.false_eq_true, if_false]
   rw [ContainsFunc_LLRow_eq (p := fun rows => !caseV box.length rows) (fun x hx => by
    unfold system_Valid_1
    rw [hrows x 64 (hS.cases.2 x hx), Option.bind_some]
    congr 2
    unfold caseV
    congr 1
    exact decide_eq_decide.2 (by omega)) hS.cases.1 hn, Option.bind_some]
   simp [List.all_eq_not_any_not]
 have e1 : decide ((R.length : Int) ≤ 1024) = decide (R.length ≤ 1024) := decide_eq_decide.2 (by omega)
 have e2 : decide (64 < (G.length : Int)) = !decide (G.length ≤ 64) := by rw [← decide_not]; exact decide_eq_decide.2 (by omega)
 have e3 : decide (1024 < (cs.length : Int)) = !decide (cs.length ≤ 1024) := by rw [← decide_not]; exact decide_eq_decide.2 (by omega)
 rw [hloop, e1, e2, e3]
 unfold sysP
 generalize decide (R.length ≤ 1024) = a
 generalize R.all (rowOK box.length) = b
 generalize decide (G.length ≤ 64) = c
 generalize decide (cs.length ≤ 1024) = d
 cases a <;> cases b <;> cases c <;> cases d <;> rfl
theorem ref18_Valid_eq {n : Nat} {box : List Range} {R : List Row} {G : List Graph} {cs : List (List Row)} (hg : goodB box = true) (hl : box.length ≤ 100) (hS : SysOK R G cs) (hn : 1000000 ≤ n) : zR n ⟨box, R, G, cs⟩ = some (sysP box.length R G cs) := by
 unfold zR
 simp only [ref17_Valid_eq hg hl hS.rows hn, ref17_Empty_eq hg hl hn, Option.isSome_some, Bool.or_true, grd, if_true, Option.getD_some, Bool.or_false]
 have hgr : ∀ i (rec : Int → Option Bool) (hi : i < G.length), zR.l2 n ⟨box, R, G, cs⟩ rec (i : Int) = if zcU box.length G[i] = true then rec ((i + 1 : Nat) : Int) else some false := fun i rec hi => by
  have hgl := hS.graphs.2 _ (List.getElem_mem hi)
  have h3 := zaT (body := zR.l3 n (i : Int) rec G[i]) (l := G[i].least) (n := n) (st := fun j => (j : Int)) (fun x => !leastB4 x) (some false) (rec (add64 (i : Int) 1)) (fun rec' j hj => ?_) (fun rec' => ?_) (by omega)
  ·rw [show ((0 : Nat) : Int) = 0 from rfl] at h3
   simp only [zR.l2, zo hi, if_true, za hi, Option.bind_some, h3, zd (show i < 4611686018427387904 by have := hS.graphs.1; omega)]
   by_cases h : graphF box.length G[i] = true
   ·have h' := h
    unfold graphF at h'
    rw [if_pos h', if_neg (by unfold zcU; rw [h]; simp)]
   ·have h' := h
    unfold graphF at h'
    rw [if_neg h']
    have e : zcU box.length G[i] = G[i].least.all fun x => !leastB4 x := by
     unfold zcU
     simp only [Bool.not_eq_true] at h
     rw [h, Bool.not_false, Bool.true_and, List.all_eq_not_any_not]
     simp
    rw [e]
  ·simp only [zR.l3, zo hj, if_true, za hj, Option.bind_some, Option.isSome_some, Bool.or_true, grd, Option.getD_some, zd (show j < 4611686018427387904 by omega)]
   by_cases h : leastB4 G[i].least[j] = true
   ·have h' := h
    unfold leastB4 at h'
    rw [if_pos h', h]; rfl
   ·have h' := h
    unfold leastB4 at h'
    simp only [Bool.not_eq_true] at h
    rw [if_neg h', h]; rfl
  ·simp [zR.l3]
 have hloop : loopF (zR.l1 n ⟨box, R, G, cs⟩) n 0 = some (G.all (zcU box.length) && cs.all (caseV box.length)) := by
  have := zaT (body := zR.l1 n ⟨box, R, G, cs⟩) (l := cs) (n := n) (st := fun i => (i : Int)) (caseV box.length) (some false) (some (G.all (zcU box.length))) (fun rec i hi => ?_) (fun rec => ?_) (by have := hS.cases.1; omega)
  ·rw [show ((0 : Nat) : Int) = 0 from rfl] at this
   rw [this]; cases cs.all (caseV box.length) <;> cases G.all (zcU box.length) <;> rfl
  ·simp only [zR.l1, zo hi, if_true, za hi, Option.bind_some, ref17_Valid_eq hg hl (hS.cases.2 _ (List.getElem_mem hi)) hn, Option.isSome_some, Bool.or_true, grd, Option.getD_some, zd (show i < 4611686018427387904 by have := hS.cases.1; omega)]
   unfold caseV
   by_cases h : cs[i].length ≤ 64
   ·rw [decide_eq_true h, decide_eq_false (by omega), Bool.true_and, Bool.false_or]
    cases cs[i].all (rowOK box.length) <;> rfl
   ·rw [decide_eq_false h, decide_eq_true (show (64 : Int) < (cs[i].length : Int) by omega)]
    rfl
  ·simp only [zR.l1, zaN, Bool.false_eq_true, if_false]
   have := zaT (body := zR.l2 n ⟨box, R, G, cs⟩) (l := G) (n := n) (st := fun i => (i : Int)) (zcU box.length) (some false) (some true) (fun rec i hi => hgr i rec hi) (fun rec => ?_) (by have := hS.graphs.1; omega)
   ·rw [show ((0 : Nat) : Int) = 0 from rfl] at this
    rw [this]; cases G.all (zcU box.length) <;> rfl
   ·simp [zR.l2]
 have e1 : decide (1024 < (R.length : Int)) = !decide (R.length ≤ 1024) := by rw [← decide_not]; exact decide_eq_decide.2 (by omega)
 have e2 : decide (64 < (G.length : Int)) = !decide (G.length ≤ 64) := by rw [← decide_not]; exact decide_eq_decide.2 (by omega)
 have e3 : decide (1024 < (cs.length : Int)) = !decide (cs.length ≤ 1024) := by rw [← decide_not]; exact decide_eq_decide.2 (by omega)
 rw [hloop, e1, e2, e3]
 unfold sysP
 generalize decide (R.length ≤ 1024) = a
 generalize R.all (rowOK box.length) = b
 generalize decide (G.length ≤ 64) = c
 generalize decide (cs.length ≤ 1024) = d
 cases a <;> cases b <;> cases c <;> cases d <;> rfl
end Go.Proofs.YtcagdmegicijlaaGreatDoor
namespace Go.Proofs.YtcagdmegicijlaaGreatDoor
open Go Go.RowKit
theorem changed_eq {n : Nat} {r : Row} {f g : Int → Option Int} {fP : Int → Int} {B : Int} (hf : ∀ x, f x = some (fP x)) (hg : g r.bound = some B) (hl : r.terms.length ≤ 1000) (hn : 1000000 ≤ n) : zF n r f g = some ⟨r.terms.map fun t => ⟨t.cell, fP t.factor⟩, B⟩ := by
 unfold zF
 rw [hg, Option.bind_some]
 have := loopF_map (body := zF.l1 n r f B) (l := r.terms) (n := n) (st := fun b i => (b, (i : Int))) (fun t => (⟨t.cell, fP t.factor⟩ : Term)) (fun b => some (⟨b, B⟩ : Row)) [] (fun rec b i hi hb => ?_) (fun rec b hb => ?_) (by omega)
 ·simpa using this
 ·simp only [zF.l1, zo hi, if_true, za hi, Option.bind_some, hf]
  rw [zJ (by simp at hb; simp; omega), Option.bind_some, zd (by omega)]
 ·simp [zF.l1]
theorem same_eq {n : Nat} {r : Row} (hl : r.terms.length ≤ 1000) (hn : 1000000 ≤ n) : zF n r (fun q0 => zaV n q0) (fun q0 => zaV n q0) = some r := by
 rw [changed_eq (f := fun q0 => zaV n q0) (g := fun q0 => zaV n q0) (fP := id) (B := r.bound) (fun _ => rfl) rfl hl hn]
 simp
theorem graph_tot {n K : Nat} {c : Constraint} {f : Int → Option Int} (hK : mul64 c.size c.size = (K : Int)) (hK2 : K ≤ 36) (hf : ∀ x, ∃ y, f x = some y) (hn : 1000000 ≤ n) : ∃ g, zV n c f = some g ∧ g.least.length ≤ 36 := by
 unfold zV
 have := za9 (body := zV.l1 n c f) (k := K) (n := n) (st := fun (b : List Int) i => (b, (i : Int))) (fun i b => b.length ≤ i) (fun g : Graph => g.least.length ≤ 36) (fun rec i b hi hI hr => ?_) (fun rec b hI => ?_) (by omega) [] (by simp)
 ·simpa using this
 ·obtain ⟨y, hy⟩ := hf (add64 c.first (i : Int))
  simp only [zV.l1, hK, lt_nat hi, if_true, hy, Option.bind_some]
  rw [zJ (by simp; omega), Option.bind_some, zd (by omega)]
  exact hr _ (by simp; omega)
 ·simp only [zV.l1, hK, ge_nat (Nat.le_refl K), Bool.false_eq_true, if_false]
  exact ⟨_, rfl, by simp; omega⟩
structure ConOK (K : Nat) (c : Constraint) : Prop where
 kind : c.kind = 0 ∨ c.kind = 1
 len : c.row.terms.length ≤ 1000
 sz : c.kind = 1 → ∃ s : Nat, c.size = (s : Int) ∧ 1 ≤ s ∧ s ≤ 6 ∧ 0 ≤ c.first ∧ c.first + ((s * s : Nat) : Int) ≤ (K : Int)
theorem ConOK.mul {K : Nat} {c : Constraint} (h : ConOK K c) (hk : c.kind = 1) : ∃ k : Nat, mul64 c.size c.size = (k : Int) ∧ k ≤ 36 := by
 obtain ⟨s, h1, h2, h3, -⟩ := h.sz hk
 have h4 : s * s ≤ 36 := Nat.mul_le_mul h3 h3
 refine ⟨s * s, ?_, h4⟩
 rw [h1, mul64_sm (by rw [← Int.natCast_mul]; omega) (by rw [← Int.natCast_mul]; omega)]; simp
structure ActOK (a : Action) : Prop where
 delta : a.effect.delta.length ≤ 20
 hold : a.effect.hold.length ≤ 10
 terms : ∀ r ∈ a.effect.hold, r.terms.length ≤ 1000
theorem raised_tot {n K : Nat} {a : Action} {c : Constraint} (ha : ActOK a) (hc : ConOK K c) (hk : c.kind = 1) (hn : 1000000 ≤ n) : ∃ l, zx n a c = some l := by
 obtain ⟨k, h1, h2⟩ := hc.mul hk
 have := ha.delta
 exact ⟨_, condition_raised_eq h1 (by omega) (by omega) (by omega) (by omega)⟩
theorem change_tot {n : Nat} {a : Action} {r : Row} (ha : ActOK a) (hr : r.terms.length ≤ 1000) (hn : 1000000 ≤ n) : ∃ x, zi n a r = some x := by
 have := ha.delta
 exact ⟨_, condition_change_eq (by omega) (by omega) (by omega) (by omega)⟩
noncomputable def gr (n : Nat) (c : Constraint) (f : Int → Option Int) : Graph := (zV n c f).getD default
noncomputable def gS (n : Nat) (ef : Bool) (a b : Action) (c : Constraint) : List Graph :=
 if (c.kind != 1) = true then [] else
  [gr n c fun q0 => zbn n q0] ++ ((if (decide (0 < (((zx n a c).getD []).length : Int))) = true then [gr n c fun q0 => zak n q0 a] else []) ++
   (if (ef && decide (0 < (((zx n b c).getD default).length : Int))) = true then [gr n c fun q0 => zaj n q0 b] else []))
noncomputable def finS (n : Nat) (box : List Range) (a b : Action) (R : List Row) (c : Constraint) (G : List Graph) : Option (System × Int) :=
  jn (fun (v : (List Row) × (List (List Row))) =>
   let b6_150 := v.1
   let c3_3_151 := v.2
   (zaC n (⟨box, b6_150, G, c3_3_151⟩ : System)).bind fun x267_155 =>
   if (!x267_155) = true then
    some ((⟨[], [], [], []⟩ : System), 8)
   else
    some ((⟨box, b6_150, G, c3_3_151⟩ : System), 0)) fun k_152 =>
  if (c.kind == 1) = true then
   (zw n box c a b).bind fun x254_153 =>
   if ((x254_153.length : Int) == 0) = true then
    (app 32 R [(⟨[], (-1)⟩ : Row)]).bind fun x264_154 =>
    k_152 (x264_154, x254_153)
   else
    k_152 (R, x254_153)
  else
   k_152 (R, [])
theorem graph_get {n K : Nat} {c : Constraint} {f : Int → Option Int} (hc : ConOK K c) (hk : c.kind = 1) (hf : ∀ x, ∃ y, f x = some y) (hn : 1000000 ≤ n) : zV n c f = some (gr n c f) ∧ (gr n c f).least.length ≤ 36 := by
 obtain ⟨k, h1, h2⟩ := hc.mul hk
 obtain ⟨g, h3, h4⟩ := graph_tot h1 h2 hf hn
 unfold gr
 rw [h3]
 exact ⟨rfl, h4⟩
theorem gS_len {n K : Nat} {ef : Bool} {a b : Action} {c : Constraint} (ha : ActOK a) (hb : ActOK b) (hc : ConOK K c) (hn : 1000000 ≤ n) : (gS n ef a b c).length ≤ 3 ∧ ∀ g ∈ gS n ef a b c, g.least.length ≤ 36 := by
 unfold gS
 split
 ·simp
 ·rename_i hk
  have hk : c.kind = 1 := by simpa using hk
  have f3 : ∀ x, ∃ y, zak n x a = some y := fun x => by
   unfold zak
   have := ha.delta
   rw [zZ _ (by omega) (by omega)]; exact ⟨_, rfl⟩
  have f4 : ∀ x, ∃ y, zaj n x b = some y := fun x => by
   unfold zaj
   have := hb.delta
   rw [zZ _ (by omega) (by omega)]; exact ⟨_, rfl⟩
  have g2 := (graph_get (f := fun q0 => zbn n q0) hc hk (fun x => ⟨_, rfl⟩) hn).2
  have g3 := (graph_get (f := fun q0 => zak n q0 a) hc hk f3 hn).2
  have g4 := (graph_get (f := fun q0 => zaj n q0 b) hc hk f4 hn).2
  constructor
  ·split <;> split <;> simp
  ·intro g hg
   simp only [List.mem_append, List.mem_singleton] at hg
   rcases hg with hg | hg | hg
   ·subst hg; exact g2
   ·split at hg
    ·simp at hg; subst hg; exact g3
    ·simp at hg
   ·split at hg
    ·simp at hg; subst hg; exact g4
    ·simp at hg
theorem gloop_eq {n K : Nat} {m : Model} {q : Question} {a b : Action} {box : List Range} {R : List Row} {c : Constraint} (ha : ActOK a) (hb : ActOK b) (hc : ∀ c ∈ m.constraints, ConOK K c) (hl : m.constraints.length ≤ 1000) (hn : 1000000 ≤ n) :
  loopF (zc.l4 n m q a b box R c.kind c.family c.row.terms c.row.bound c.first c.size) n ([], 0) = finS n box a b R c ((List.range m.constraints.length).flatMap fun i => gS n (q.e != q.f) a b (m.constraints.getD i default)) := by
 have := loopF_app (body := zc.l4 n m q a b box R c.kind c.family c.row.terms c.row.bound c.first c.size) (k := m.constraints.length) (n := n) (st := fun b i => (b, (i : Int))) (fun i => gS n (q.e != q.f) a b (m.constraints.getD i default)) (finS n box a b R c) 3 []
  (fun i hi => ?_) (fun rec b7 i hi hI => ?_) (fun rec b7 hI => ?_) (by omega)
 ·simpa using this
 ·have e : m.constraints.getD i default = m.constraints[i] := by simp [List.getD, hi]
  rw [e]
  exact (gS_len ha hb (hc _ (List.getElem_mem hi)) hn).1
 ·have e : m.constraints.getD i default = m.constraints[i] := by simp [List.getD, hi]
  have hci := hc _ (List.getElem_mem hi)
  have hI' : b7.length ≤ 3000 := by simp at hI; omega
  simp only [zc.l4, zo hi, if_true, jn, za hi, Option.bind_some, e, zd (show i < 4611686018427387904 by omega)]
  unfold gS
  by_cases hk : (m.constraints[i].kind != 1) = true
  ·rw [if_pos hk, if_pos hk, List.append_nil]
  ·rw [if_neg hk, if_neg hk]
   have hk : m.constraints[i].kind = 1 := by simpa using hk
   have f3 : ∀ x, ∃ y, zak n x a = some y := fun x => by
    unfold zak
    have := ha.delta
    rw [zZ _ (by omega) (by omega)]; exact ⟨_, rfl⟩
   have f4 : ∀ x, ∃ y, zaj n x b = some y := fun x => by
    unfold zaj
    have := hb.delta
    rw [zZ _ (by omega) (by omega)]; exact ⟨_, rfl⟩
   obtain ⟨ra, hra⟩ := raised_tot ha hci hk hn
   obtain ⟨rb, hrb⟩ := raised_tot hb hci hk hn
   rw [(graph_get (f := fun q0 => zbn n q0) hci hk (fun x => ⟨_, rfl⟩) hn).1, (graph_get (f := fun q0 => zak n q0 a) hci hk f3 hn).1, (graph_get (f := fun q0 => zaj n q0 b) hci hk f4 hn).1, hra, hrb]
   simp only [Option.bind_some, Option.getD_some, Option.isSome_some, Bool.or_true, grd, if_true]
   rw [zJ (by simp; omega), Option.bind_some]
   by_cases h3 : (decide (0 < (ra.length : Int))) = true
   ·rw [if_pos h3, if_pos h3, zJ (by simp; omega), Option.bind_some]
    by_cases h4 : ((q.e != q.f) && decide (0 < (rb.length : Int))) = true
    ·rw [if_pos h4, if_pos h4, zJ (by simp; omega), Option.bind_some]
     simp only [List.append_assoc]
    ·rw [if_neg h4, if_neg h4]
     simp only [List.append_assoc, List.append_nil]
   ·rw [if_neg h3, if_neg h3]
    by_cases h4 : ((q.e != q.f) && decide (0 < (rb.length : Int))) = true
    ·rw [if_pos h4, if_pos h4, zJ (by simp; omega), Option.bind_some]
     simp only [List.append_assoc, List.nil_append]
    ·rw [if_neg h4, if_neg h4]
     simp only [List.append_nil]
 ·simp only [zc.l4, zaN, Bool.false_eq_true, if_false]
  rfl
end Go.Proofs.YtcagdmegicijlaaGreatDoor
namespace Go.Proofs.YtcagdmegicijlaaGreatDoor
open Go Go.RowKit
noncomputable def brokenS (n : Nat) (m : Model) (q : Question) (a b : Action) (box : List Range) (R : List Row) : Option (System × Int) :=
  jn (fun (v : (List Row) × Int × Int × (List Term) × Int × Int × Int) =>
   let b6_84 := v.1
   let c9_0_85 := v.2.1
   let c9_1_86 := v.2.2.1
   let c9_2_87 := v.2.2.2.1
   let c9_3_88 := v.2.2.2.2.1
   let c9_4_89 := v.2.2.2.2.2.1
   let c9_5_90 := v.2.2.2.2.2.2
   loopF (zc.l4 n m q a b box b6_84 c9_0_85 c9_1_86 c9_2_87 c9_3_88 c9_4_89 c9_5_90) n (([] : List Graph), 0)) fun k_91 =>
  if q.target.hold = true then
   (idx a.effect.hold q.target.index).bind fun x164_92 =>
   (zi n b x164_92).bind fun x170_93 =>
   (zF n x164_92 (fun q0 => zaQ n q0) (fun q0 => zas n q0 x170_93)).bind fun x9_94 =>
   (app 32 R [x9_94]).bind fun x11_95 =>
   k_91 (x11_95, 0, 0, [], 0, 0, 0)
  else
   (idx m.constraints q.target.index).bind fun x177_96 =>
   if (x177_96.kind == 0) = true then
    (zi n a x177_96.row).bind fun x188_97 =>
    (zi n b x177_96.row).bind fun x192_98 =>
    (zF n x177_96.row (fun q0 => zaQ n q0) (fun q0 => zas n q0 (add64 x188_97 x192_98))).bind fun x9_99 =>
    (app 32 R [x9_99]).bind fun x11_100 =>
    k_91 (x11_100, x177_96.kind, x177_96.family, x177_96.row.terms, x177_96.row.bound, x177_96.first, x177_96.size)
   else
    k_91 (R, x177_96.kind, x177_96.family, x177_96.row.terms, x177_96.row.bound, x177_96.first, x177_96.size)
noncomputable def tailS (n : Nat) (m : Model) (q : Question) (a b : Action) (box : List Range) (R : List Row) : Option (System × Int) :=
  (app 32 [] a.effect.hold).bind fun x128_64 =>
  jn (fun (v : (List Row)) =>
   let b8_65 := v
   loopF (zc.l3 n m q a b box b8_65) n (R, 0)) fun k_66 =>
  if (q.e != q.f) = true then
   (app 32 x128_64 b.effect.hold).bind fun x138_67 =>
   k_66 x138_67
  else
   k_66 x128_64
def endS (n : Nat) (S : System) (v : Option Bool) : Option (System × Int) := v.bind fun v => if (!v) = true then some ((⟨[], [], [], []⟩ : System), 8) else some (S, 0)
theorem tail_eq {n : Nat} {m : Model} {q : Question} {a b : Action} {box : List Range} (ha : ActOK a) (hb : ActOK b) (hc : ∀ c ∈ m.constraints, ConOK box.length c) (hl : m.constraints.length ≤ 1000) (hbx : box.length ≤ 1000)
  (hh : q.target.hold = true → 0 ≤ q.target.index ∧ q.target.index < (a.effect.hold.length : Int)) (hh2 : q.target.hold = false → 0 ≤ q.target.index ∧ q.target.index < (m.constraints.length : Int)) (hn : 1000000 ≤ n) :
  ∃ (X : List Row) (G : List Graph) (cs : List (List Row)), (X.length ≤ 30 ∧ ∀ r ∈ X, r.terms.length ≤ 1000) ∧ (G.length ≤ 3000 ∧ ∀ g ∈ G, g.least.length ≤ 36) ∧ CasesOK cs ∧
   ∀ R : List Row, R.length ≤ 1000 → tailS n m q a b box R = endS n ⟨box, R ++ X, G, cs⟩ (zaC n ⟨box, R ++ X, G, cs⟩) := by
 obtain ⟨H, hH⟩ : ∃ H : List Row, H = a.effect.hold ++ (if (q.e != q.f) = true then b.effect.hold else []) := ⟨_, rfl⟩
 have hHl : H.length ≤ 20 ∧ ∀ r ∈ H, r.terms.length ≤ 1000 := by
  have h1 := ha.hold
  have h2 := hb.hold
  rw [hH]
  constructor
  ·rw [List.length_append]; split <;> first | omega | (simp; omega)
  ·intro r hr
   rcases List.mem_append.1 hr with hr | hr
   ·exact ha.terms r hr
   ·split at hr
    ·exact hb.terms r hr
    ·simp at hr
 have hstep : ∀ R : List Row, R.length ≤ 1000 → tailS n m q a b box R = brokenS n m q a b box (R ++ H) := fun R hR => by
  have h1 := ha.hold
  have h2 := hb.hold
  have hloop : loopF (zc.l3 n m q a b box H) n (R, 0) = brokenS n m q a b box (R ++ H) := by
   have := loopF_map (body := zc.l3 n m q a b box H) (l := H) (n := n) (st := fun b i => (b, (i : Int))) (fun r : Row => r) (brokenS n m q a b box) R (fun rec b6 i hi hb6 => ?_) (fun rec b6 hb6 => ?_) (by omega)
   ·simpa using this
   ·simp only [zc.l3, zo hi, if_true, za hi, Option.bind_some, same_eq (hHl.2 _ (List.getElem_mem hi)) hn]
    rw [zJ (by first | omega | (simp; omega)), Option.bind_some, zd (by omega)]
   ·simp only [zc.l3, zaN, Bool.false_eq_true, if_false]
    rfl
  unfold tailS
  simp only [jn]
  rw [zJ (by first | omega | (simp; omega)), Option.bind_some, List.nil_append]
  by_cases he : (q.e != q.f) = true
  ·rw [if_pos he, zJ (by first | omega | (simp; omega)), Option.bind_some, ← hloop, hH, if_pos he]
  ·rw [if_neg he, ← hloop, hH, if_neg he, List.append_nil]
 obtain ⟨G, hG⟩ : ∃ G, G = (List.range m.constraints.length).flatMap fun i => gS n (q.e != q.f) a b (m.constraints.getD i default) := ⟨_, rfl⟩
 have hGl : G.length ≤ 3000 ∧ ∀ g ∈ G, g.least.length ≤ 36 := by
  have key : ∀ k, k ≤ m.constraints.length → ((List.range k).flatMap fun i => gS n (q.e != q.f) a b (m.constraints.getD i default)).length ≤ 3 * k ∧ ∀ g ∈ ((List.range k).flatMap fun i => gS n (q.e != q.f) a b (m.constraints.getD i default)), g.least.length ≤ 36 := by
   intro k
   induction k with
   | zero => intro _; simp
   | succ k ih =>
    intro hk
    obtain ⟨i1, i2⟩ := ih (by omega)
    have e : m.constraints.getD k default = m.constraints[k]'(by omega) := by simp [List.getD, show k < m.constraints.length by omega]
    obtain ⟨g1, g2⟩ := gS_len (n := n) (ef := (q.e != q.f)) ha hb (hc _ (List.getElem_mem (show k < m.constraints.length by omega))) hn
    rw [range_snoc, e]
    constructor
    ·rw [List.length_append]; omega
    ·intro g hg
     rcases List.mem_append.1 hg with hg | hg
     ·exact i2 g hg
     ·exact g2 g hg
  rw [hG]
  obtain ⟨k1, k2⟩ := key _ (Nat.le_refl _)
  exact ⟨by omega, k2⟩
 have h0 : ∀ (c : Constraint) (R : List Row), (c.kind == 1) = false → finS n box a b R c G = endS n ⟨box, R, G, []⟩ (zaC n ⟨box, R, G, []⟩) := fun c R hk => by
  unfold finS
  simp only [jn, hk, Bool.false_eq_true, if_false]
  rfl
 have c0 : CasesOK [] := ⟨by simp, by simp⟩
 cases hhold : q.target.hold with
 | true =>
  obtain ⟨i1, i2⟩ := hh hhold
  obtain ⟨r, hr⟩ := zbr i1 i2
  have hrl := ha.terms r (idx_mem hr)
  obtain ⟨x, hx⟩ := change_tot hb hrl hn
  have hnr := changed_eq (n := n) (r := r) (f := fun q0 => zaQ n q0) (g := fun q0 => zas n q0 x) (fP := neg64) (B := sub64 (add64 (neg64 r.bound) x) 1) (fun _ => rfl) rfl hrl hn
  refine ⟨H ++ [⟨r.terms.map fun t => ⟨t.cell, neg64 t.factor⟩, sub64 (add64 (neg64 r.bound) x) 1⟩], G, [], ⟨by first | omega | (simp; omega), fun s hs => ?_⟩, hGl, c0, fun R hR => ?_⟩
  ·rcases List.mem_append.1 hs with hs | hs
   ·exact hHl.2 s hs
   ·simp at hs; subst hs; simpa using hrl
  ·rw [hstep R hR]
   unfold brokenS
   simp only [jn, hhold, if_true, hr, Option.bind_some, hx, hnr]
   rw [zJ (by first | omega | (simp; omega)), Option.bind_some]
   have := gloop_eq (q := q) (a := a) (b := b) (box := box) (R := R ++ H ++ [⟨r.terms.map fun t => ⟨t.cell, neg64 t.factor⟩, sub64 (add64 (neg64 r.bound) x) 1⟩]) (c := ⟨0, 0, ⟨[], 0⟩, 0, 0⟩) ha hb hc hl hn
   rw [← hG] at this
   rw [List.append_assoc] at this ⊢
   exact this.trans (h0 _ _ rfl)
 | false =>
  obtain ⟨i1, i2⟩ := hh2 hhold
  obtain ⟨c, hcx⟩ := zbr i1 i2
  have hco := hc c (idx_mem hcx)
  have hgl := fun R : List Row => (gloop_eq (q := q) (a := a) (b := b) (box := box) (R := R) (c := c) ha hb hc hl hn)
  rw [← hG] at hgl
  rcases hco.kind with hk | hk
  ·obtain ⟨x, hx⟩ := change_tot ha hco.len hn
   obtain ⟨y, hy⟩ := change_tot hb hco.len hn
   have hnr := changed_eq (n := n) (r := c.row) (f := fun q0 => zaQ n q0) (g := fun q0 => zas n q0 (add64 x y)) (fP := neg64) (B := sub64 (add64 (neg64 c.row.bound) (add64 x y)) 1) (fun _ => rfl) rfl hco.len hn
   refine ⟨H ++ [⟨c.row.terms.map fun t => ⟨t.cell, neg64 t.factor⟩, sub64 (add64 (neg64 c.row.bound) (add64 x y)) 1⟩], G, [], ⟨by first | omega | (simp; omega), fun s hs => ?_⟩, hGl, c0, fun R hR => ?_⟩
   ·rcases List.mem_append.1 hs with hs | hs
    ·exact hHl.2 s hs
    ·simp at hs; subst hs; simpa using hco.len
   ·rw [hstep R hR]
    unfold brokenS
    have hk' : (c.kind == 0) = true := by simp [hk]
    simp only [jn, hhold, Bool.false_eq_true, if_false, hcx, Option.bind_some, hk', if_true, hx, hy, hnr]
    rw [zJ (by first | omega | (simp; omega)), Option.bind_some, List.append_assoc]
    exact (hgl _).trans (h0 _ _ (by simp [hk]))
  ·obtain ⟨s, s1, s2, s3, s4, s5⟩ := hco.sz hk
   obtain ⟨cs, hcs, hcsO⟩ := cases_tot (n := n) (box := box) (e := a) (f := b) s1 s2 s3 s4 s5 hbx ha.delta hb.delta hn
   have hk0 : (c.kind == 0) = false := by simp [hk]
   have hk1 : (c.kind == 1) = true := by simp [hk]
   by_cases he : ((cs.length : Int) == 0) = true
   ·refine ⟨H ++ [⟨[], -1⟩], G, cs, ⟨by first | omega | (simp; omega), fun s hs => ?_⟩, hGl, hcsO, fun R hR => ?_⟩
    ·rcases List.mem_append.1 hs with hs | hs
     ·exact hHl.2 s hs
     ·simp at hs; subst hs; simp
    ·rw [hstep R hR]
     unfold brokenS
     simp only [jn, hhold, Bool.false_eq_true, if_false, hcx, Option.bind_some, hk0]
     refine (hgl _).trans ?_
     unfold finS
     simp only [jn, hk1, if_true, hcs, Option.bind_some, he]
     rw [zJ (by first | omega | (simp; omega)), Option.bind_some, List.append_assoc]
     rfl
   ·refine ⟨H, G, cs, ⟨by omega, hHl.2⟩, hGl, hcsO, fun R hR => ?_⟩
    rw [hstep R hR]
    unfold brokenS
    simp only [jn, hhold, Bool.false_eq_true, if_false, hcx, Option.bind_some, hk0]
    refine (hgl _).trans ?_
    unfold finS
    simp only [jn, hk1, if_true, hcs, Option.bind_some]
    rw [if_neg he]
    rfl
end Go.Proofs.YtcagdmegicijlaaGreatDoor
namespace Go.Proofs.YtcagdmegicijlaaGreatDoor
open Go Go.RowKit
noncomputable def chgN (n : Nat) (a : Action) (r : Row) : Int := (zi n a r).getD 0
noncomputable def kS (n : Nat) (q : Question) (rows : List Int) (a b : Action) (i : Nat) (c : Constraint) : Int :=
 if (decide ((i : Int) ∈ rows) && (q.target.hold || (q.target.index != (i : Int)))) = true then gmax (gmax (gmax 0 (chgN n a c.row)) (chgN n b c.row)) (add64 (chgN n a c.row) (chgN n b c.row)) else gmax (gmax 0 (chgN n a c.row)) (chgN n b c.row)
noncomputable def rowS (n : Nat) (q : Question) (rows : List Int) (a b : Action) (i : Nat) (c : Constraint) : List Row := if (c.kind != 0) = true then [] else [⟨c.row.terms, sub64 c.row.bound (kS n q rows a b i c)⟩]
noncomputable def rowsR (n : Nat) (m : Model) (q : Question) (rows : List Int) (a b : Action) : List Row := (List.range m.constraints.length).flatMap fun i => rowS n q rows a b i (m.constraints.getD i default)
theorem change_get {n : Nat} {a : Action} {r : Row} (ha : ActOK a) (hr : r.terms.length ≤ 1000) (hn : 1000000 ≤ n) : zi n a r = some (chgN n a r) := by
 obtain ⟨x, hx⟩ := change_tot ha hr hn
 unfold chgN
 rw [hx]; rfl
theorem rows_loop {n : Nat} {m : Model} {q : Question} {rows : List Int} {a b : Action} {box : List Range} (ha : ActOK a) (hb : ActOK b) (hc : ∀ c ∈ m.constraints, ConOK box.length c) (hl : m.constraints.length ≤ 1000) (hr : rows.length ≤ 1000) (hn : 1000000 ≤ n) :
  loopF (zc.l2 n m q rows a b box) n ([], 0) = tailS n m q a b box (rowsR n m q rows a b) := by
 have := loopF_app (body := zc.l2 n m q rows a b box) (k := m.constraints.length) (n := n) (st := fun b i => (b, (i : Int))) (fun i => rowS n q rows a b i (m.constraints.getD i default)) (tailS n m q a b box) 1 []
  (fun i hi => ?_) (fun rec b6 i hi hI => ?_) (fun rec b6 hI => ?_) (by omega)
 ·simpa [rowsR] using this
 ·unfold rowS; split <;> simp
 ·have e : m.constraints.getD i default = m.constraints[i] := by simp [List.getD, hi]
  have hci := hc _ (List.getElem_mem hi)
  have hI' : b6.length ≤ 3000 := by simp at hI; omega
  rw [e]
  simp only [zc.l2, zo hi, if_true, jn, za hi, Option.bind_some, change_get ha hci.len hn, change_get hb hci.len hn, Contains_Lint_eq (show rows.length < 1000000 by omega) hn]
  unfold rowS
  by_cases hk : (m.constraints[i].kind != 0) = true
  ·rw [if_pos hk, if_pos hk, List.append_nil, zd (by omega)]
  ·rw [if_neg hk, if_neg hk]
   have hch := fun k : Int => changed_eq (n := n) (r := m.constraints[i].row) (f := fun q0 => zaV n q0) (g := fun q0 => condition_less_1 n q0 k) (fP := id) (B := sub64 m.constraints[i].row.bound k) (fun _ => rfl) rfl hci.len hn
   have hid : (m.constraints[i].row.terms.map fun t => (⟨t.cell, id t.factor⟩ : Term)) = m.constraints[i].row.terms := by simp
   simp only [hid] at hch
   unfold kS
   split <;> (rw [hch, Option.bind_some, zJ (by first | omega | (simp; omega)), Option.bind_some, zd (by omega)])
 ·simp only [zc.l2, zaN, Bool.false_eq_true, if_false]
  rfl
def badR (m : Model) (x : Int) : Bool := (decide (x < 0) || decide ((m.constraints.length : Int) ≤ x)) || (((idx m.constraints x).getD default).kind != 0)
theorem System_closed {n : Nat} {m : Model} {q : Question} {rows : List Int} {a b : Action} (hF : Fuel n) (hS : SmallM m) (hV : ValidM m) (hq : questP m q = true) (ha : idx m.actions q.e = some a) (hb : idx m.actions q.f = some b) (hA : ActOK a) (hB : ActOK b) (hc : ∀ c ∈ m.constraints, ConOK (boxM m).length c) (hr : rows.length ≤ 1000) :
  zc n m q rows = if (rows.all fun x => !badR m x) = true then tailS n m q a b (boxM m) (rowsR n m q rows a b) else some (⟨[], [], [], []⟩, 2) := by
 have hn := hF.big
 have hn : 1000000 ≤ n := by omega
 have hcl := hS.constraints
 have hst : model_Strict n m = some (boxM m) := by
  unfold model_Strict model_ranges
  rw [model_Valid_eq hF hS, validP_iff.2 hV, Option.bind_some, if_neg (by simp), cells_Ranges_eq hF (by have := hS.sorts; omega) (by have := hS.tables; omega) (fun t ht => by have := (hS.tab t ht).2; omega), if_pos hV.lay]
  rfl
 unfold zc
 rw [symmetry_Valid_eq hF hS, validP_iff.2 hV, hq, Option.bind_some, if_neg (by simp)]
 have := zaT (body := zc.l1 n m q rows) (l := rows) (n := n) (st := fun i => (i : Int)) (fun x => !badR m x) (some (⟨[], [], [], []⟩, 2)) (tailS n m q a b (boxM m) (rowsR n m q rows a b)) (fun rec i hi => ?_) (fun rec => ?_) (by omega)
 ·simpa using this
 ·simp only [zc.l1, zo hi, if_true, za hi, Option.bind_some]
  by_cases h1 : (decide (rows[i] < 0) || decide ((m.constraints.length : Int) ≤ rows[i])) = true
  ·have hbad : badR m rows[i] = true := by unfold badR; rw [h1]; rfl
   rw [hbad]
   simp only [h1, Bool.true_or, grd, if_true, Bool.not_true, Bool.false_eq_true, if_false]
  ·have h2 := h1
   simp only [Bool.or_eq_true, decide_eq_true_eq, not_or, Int.not_le, Int.not_lt] at h2
   obtain ⟨c, hcx⟩ := zbr h2.1 h2.2
   simp only [Bool.not_eq_true] at h1
   unfold badR
   simp only [h1, hcx, Bool.false_or, Option.isSome_some, grd, if_true, Option.getD_some, zd (show i < 4611686018427387904 by omega)]
   cases c.kind != 0 <;> simp
 ·simp only [zc.l1, zaN, Bool.false_eq_true, if_false, ha, hb, hst, Option.bind_some]
  exact rows_loop hA hB hc (by omega) hr hn
theorem Acyclic_tot {n K : Nat} {E : List Bool} (hK : K ≤ 6) (hE : E.length = K * K) (hn : 1000000 ≤ n) : ∃ v, zl n (K : Int) E = some v := by
 have h36 : K * K ≤ 36 := Nat.mul_le_mul hK hK
 have main : ∃ v, zl n (K : Int) E = some v ∧ True := by
  unfold zl
  have := za9 (body := zl.l1 n (K : Int) E) (k := K) (n := n) (st := fun (b : List Bool) i => (b, (i : Int))) (fun i b => b.length = i) (fun _ : Bool => True) (fun rec i b hi hI hr => ?_) (fun rec b hI => ?_) (by omega) [] rfl
  ·simpa using this
  ·simp only [zl.l1, lt_nat hi, if_true]
   rw [zJ (by simp; omega), Option.bind_some, zd (by omega)]
   exact hr _ (by simp; omega)
  ·simp only [zl.l1, ge_nat (Nat.le_refl K), Bool.false_eq_true, if_false]
   have := za9 (body := zl.l2 n (K : Int) E) (k := K) (n := n) (st := fun (b : List Bool) i => (b, (i : Int))) (fun i b => b.length = K) (fun _ : Bool => True) (fun rec i b hi hI hr => ?_) (fun rec b hI => ?_) (by omega) b hI
   ·simpa using this
   ·simp only [zl.l2, lt_nat hi, if_true]
    have := za9 (body := zl.l3 n (K : Int) E (i : Int) rec) (k := K) (n := n) (st := fun (b : List Bool) j => (b, (j : Int))) (fun j b => b.length = K) (fun _ : Bool => True) (fun rec2 j b hj hI hr2 => ?_) (fun rec2 b hI => ?_) (by omega) b hI
    ·simpa using this
    ·simp only [zl.l3, lt_nat hj, if_true, jn, zd (show j < 4611686018427387904 by omega)]
     have := za9 (body := zl.l4 n (K : Int) E b (j : Int) (fun v => rec2 (v, ((j + 1 : Nat) : Int)))) (k := K) (n := n) (st := fun (x : Bool) p => (x, (p : Int))) (fun p x => True) (fun _ : Bool => True) (fun rec3 p x hp _ hr3 => ?_) (fun rec3 x _ => ?_) (by omega) true trivial
     ·simpa using this
     ·have hpair := pair_lt hp hj
      have e1 : mul64 (p : Int) (K : Int) = ((p * K : Nat) : Int) := by
       unfold mul64
       rw [zbX (by rw [← Int.natCast_mul]; omega) (by rw [← Int.natCast_mul]; omega)]; simp
      simp only [zl.l4, lt_nat hp, if_true, jn, za (show p < b.length by omega), Option.bind_some, e1]
      rw [add64_nat (by omega), za (show p * K + j < E.length by omega)]
      simp only [Option.isSome_some, Bool.or_true, grd, if_true, zd (show p < 4611686018427387904 by omega)]
      split <;> exact hr3 _ trivial
     ·simp only [zl.l4, ge_nat (Nat.le_refl K), Bool.false_eq_true, if_false]
      split
      ·obtain ⟨b', hb1, hb2⟩ := sto_tot (l := b) (i := j) (x := false) (by omega)
       rw [za (show j < b.length by omega), Option.bind_some, hb1, Option.bind_some]
       exact hr2 b' (by omega)
      ·exact hr2 b hI
    ·simp only [zl.l3, ge_nat (Nat.le_refl K), Bool.false_eq_true, if_false, zd (show i < 4611686018427387904 by omega)]
     exact hr b hI
   ·simp only [zl.l2, ge_nat (Nat.le_refl K), Bool.false_eq_true, if_false]
    have := za9 (body := zl.l5 n (K : Int) b) (k := K) (n := n) (st := fun (_ : Unit) i => (i : Int)) (fun i _ => True) (fun _ : Bool => True) (fun rec i _ hi _ hr => ?_) (fun rec _ _ => ?_) (by omega) () trivial
    ·simpa using this
    ·simp only [zl.l5, lt_nat hi, if_true, za (show i < b.length by omega), Option.bind_some]
     split
     ·exact ⟨_, rfl, trivial⟩
     ·rw [zd (by omega)]; exact hr () trivial
    ·simp only [zl.l5, ge_nat (Nat.le_refl K), Bool.false_eq_true, if_false]
     exact ⟨_, rfl, trivial⟩
 obtain ⟨v, hv, -⟩ := main
 exact ⟨v, hv⟩
end Go.Proofs.YtcagdmegicijlaaGreatDoor
namespace Go.Proofs.YtcagdmegicijlaaGreatDoor
open Go Go.RowKit
noncomputable def valN (n : Nat) (r : Row) (x : List Int) : Int := (zaH n r x).getD 0
theorem Value_terms {n : Nat} {r s : Row} {x : List Int} (h : r.terms = s.terms) : zaH n r x = zaH n s x := by
 cases r; cases s
 simp only at h
 subst h
 rfl
theorem Value_get {n K : Nat} {r : Row} {x : List Int} (hr : rowOK K r = true) (hl : r.terms.length < 1000000) (hx : x.length = K) (hn : 1000000 ≤ n) : zaH n r x = some (valN n r x) := by
 have hcell : ∀ t ∈ r.terms, 0 ≤ t.cell ∧ t.cell < (K : Int) := fun t ht => by
  simp only [rowOK, Bool.and_eq_true] at hr
  have := rowP_terms hr.1 (by omega) t ht
  exact ⟨this.1, this.2.1⟩
 have main : ∃ v, zaH n r x = some v ∧ True := by
  unfold zaH
  have := za9 (body := zaH.l1 n r x) (k := r.terms.length) (n := n) (st := fun (s : Int) i => (s, (i : Int))) (fun i s => True) (fun _ : Int => True) (fun rec i s hi _ h => ?_) (fun rec s _ => ?_) (by omega) 0 trivial
  ·simpa using this
  ·obtain ⟨c1, c2⟩ := hcell _ (List.getElem_mem hi)
   obtain ⟨y, hy⟩ := zbr (l := x) c1 (by omega)
   simp only [zaH.l1, zo hi, if_true, za hi, Option.bind_some, hy, zd (show i < 4611686018427387904 by omega)]
   exact h _ trivial
  ·simp only [zaH.l1, zaN, Bool.false_eq_true, if_false]
   exact ⟨_, rfl, trivial⟩
 obtain ⟨v, hv, -⟩ := main
 unfold valN
 rw [hv]; rfl
theorem Edges_tot {n K : Nat} {g : Graph} {x : List Int} (hg : zcU K g = true) (hx : x.length = K) (hK : K ≤ 1000) (hn : 1000000 ≤ n) : ∃ (s : Nat) (E : List Bool), g.size = (s : Int) ∧ s ≤ 6 ∧ zbu n g x = some E ∧ E.length = s * s := by
 simp only [zcU, graphF, Bool.and_eq_true, Bool.not_eq_true', Bool.or_eq_false_iff, decide_eq_false_iff_not, Int.not_lt, bne_eq_false_iff_eq] at hg
 obtain ⟨⟨⟨⟨⟨g1, g2⟩, g3⟩, g4⟩, g5⟩, -⟩ := hg
 obtain ⟨s, hs⟩ : ∃ s : Nat, g.size = (s : Int) := ⟨g.size.toNat, by omega⟩
 have h36 : s * s ≤ 36 := Nat.mul_le_mul (show s ≤ 6 by omega) (show s ≤ 6 by omega)
 have em : mul64 g.size g.size = ((s * s : Nat) : Int) := by
  rw [hs, mul64_sm (by rw [← Int.natCast_mul]; omega) (by rw [← Int.natCast_mul]; omega)]; simp
 rw [em, sub64_sm (by omega) (by omega)] at g4
 rw [em] at g5
 refine ⟨s, ?_⟩
 unfold zbu
 have := za9 (body := zbu.l1 n g x) (k := s * s) (n := n) (st := fun (b : List Bool) i => (b, (i : Int))) (fun i b => b.length = i) (fun E : List Bool => E.length = s * s) (fun rec i b hi hI h => ?_) (fun rec b hI => ?_) (by omega) [] rfl
 ·obtain ⟨E, h1, h2⟩ := this
  exact ⟨E, hs, by omega, h1, h2⟩
 ·obtain ⟨y, hy⟩ := zbr (l := x) (i := add64 g.first (i : Int)) (by rw [add64_sm (by omega) (by omega)]; omega) (by rw [add64_sm (by omega) (by omega)]; omega)
  simp only [zbu.l1, em, lt_nat hi, if_true, hy, Option.bind_some, za (show i < g.least.length by omega)]
  rw [zJ (by simp; omega), Option.bind_some, zd (by omega)]
  exact h _ (by simp; omega)
 ·simp only [zbu.l1, em, ge_nat (Nat.le_refl _), Bool.false_eq_true, if_false]
  exact ⟨b, rfl, hI⟩
noncomputable def acyN (n : Nat) (g : Graph) (x : List Int) : Bool := ((zbu n g x).bind fun E => zl n g.size E).getD false
noncomputable def rowF (n : Nat) (x : List Int) (i : Nat) (r : Row) : List Int := if (decide (r.bound < valN n r x)) = true then [(i : Int)] else []
noncomputable def rowsF (n : Nat) (x : List Int) (R : List Row) : List Int := (List.range R.length).flatMap fun i => rowF n x i (R.getD i default)
noncomputable def graphsF (n : Nat) (x : List Int) (G : List Graph) : List Int := (List.range G.length).flatMap fun i => if (!acyN n (G.getD i default) x) = true then [(i : Int)] else []
theorem right_eq {n : Nat} {S : System} {x : List Int} {K : Nat} (hV : zR n S = some true) (hK : S.box.length = K) (hx : x.length = K) (hl : x.length ≤ 1000) (hs : ∀ v ∈ x, -4000000 ≤ v ∧ v ≤ 4000000) (hn : 1000000 ≤ n) : zbe n S x = some true := by
 unfold zbe
 rw [hV, Option.bind_some, if_neg (by simp; omega)]
 have := zL (body := zbe.l1 n x) (len := x.length) (st := fun i => (i : Int)) (g := fun _ => some true) (fun rec i hi hr => ?_) (fun rec => ?_) n 0 (Nat.zero_le _) (by omega)
 ·simpa using this
 ·obtain ⟨h1, h2⟩ := hs _ (List.getElem_mem hi)
  simp only [zbe.l1, zo hi, if_true, za hi, Option.bind_some, Option.isSome_some, Bool.or_true, grd, Option.getD_some]
  rw [if_neg (by simp; omega), zd (by omega), hr]
 ·simp [zbe.l1]
theorem Fails_eq {n : Nat} {box : List Range} {R : List Row} {G : List Graph} {cs : List (List Row)} {x : List Int} (hS : SysOK R G cs) (hP : sysP box.length R G cs = true) (hr : zbe n ⟨box, R, G, cs⟩ x = some true) (hx : x.length = box.length) (hl : box.length ≤ 1000) (hn : 1000000 ≤ n) :
  zaA n ⟨box, R, G, cs⟩ x = some (rowsF n x R, graphsF n x G) := by
 simp only [sysP, Bool.and_eq_true, decide_eq_true_eq, List.all_eq_true] at hP
 obtain ⟨⟨⟨⟨p1, p2⟩, p3⟩, p4⟩, p5, p6⟩ := hP
 unfold zaA
 rw [hr, Option.bind_some, if_neg (by simp)]
 have h2 : ∀ b : List Int, loopF (zaA.l2 n ⟨box, R, G, cs⟩ x b) n ([], 0) = some (b, graphsF n x G) := fun b => by
  have := loopF_app (body := zaA.l2 n ⟨box, R, G, cs⟩ x b) (k := G.length) (n := n) (st := fun l i => (l, (i : Int))) (fun i => if (!acyN n (G.getD i default) x) = true then [(i : Int)] else []) (fun l => some (b, l)) 1 [] (fun i hi => by split <;> simp) (fun rec l i hi hI => ?_) (fun rec l hI => ?_) (by omega)
  ·simpa [graphsF] using this
  ·have e : G.getD i default = G[i] := by simp [List.getD, hi]
   obtain ⟨s, E, s1, s2, s3, s4⟩ := Edges_tot (n := n) (p5 _ (List.getElem_mem hi)) hx hl hn
   obtain ⟨v, hv⟩ := Acyclic_tot (n := n) s2 s4 hn
   rw [← s1] at hv
   have ea : acyN n G[i] x = v := by unfold acyN; rw [s3, Option.bind_some, hv]; rfl
   simp only [zaA.l2, zo hi, if_true, jn, za hi, Option.bind_some, s3, hv, e, ea, zd (show i < 4611686018427387904 by omega)]
   split
   ·rw [zJ (by simp at hI; simp; omega), Option.bind_some]
   ·rw [List.append_nil]
  ·simp only [zaA.l2, zaN, Bool.false_eq_true, if_false]
 have := loopF_app (body := zaA.l1 n ⟨box, R, G, cs⟩ x) (k := R.length) (n := n) (st := fun l i => (l, (i : Int))) (fun i => rowF n x i (R.getD i default)) (fun l => some (l, graphsF n x G)) 1 [] (fun i hi => by unfold rowF; split <;> simp) (fun rec l i hi hI => ?_) (fun rec l hI => ?_) (by omega)
 ·simpa [rowsF] using this
 ·have e : R.getD i default = R[i] := by simp [List.getD, hi]
  have hv := Value_get (n := n) (x := x) (p2 _ (List.getElem_mem hi)) (hS.rows.2 _ (List.getElem_mem hi)) hx hn
  simp only [zaA.l1, zo hi, if_true, jn, za hi, Option.bind_some, hv, e, zd (show i < 4611686018427387904 by omega)]
  unfold rowF
  split
  ·rw [zJ (by simp at hI; simp; omega), Option.bind_some]
  ·rw [List.append_nil]
 ·simp only [zaA.l1, zaN, Bool.false_eq_true, if_false]
  exact h2 l
theorem Case_tot {n : Nat} {box : List Range} {R : List Row} {G : List Graph} {cs : List (List Row)} {x : List Int} (hS : SysOK R G cs) (hP : sysP box.length R G cs = true) (hx : x.length = box.length) (hn : 1000000 ≤ n) : ∃ r, loopF (zaR.l1 n ⟨box, R, G, cs⟩ x) n 0 = some r ∧ True := by
 simp only [sysP, Bool.and_eq_true, decide_eq_true_eq, List.all_eq_true] at hP
 obtain ⟨⟨⟨⟨p1, p2⟩, p3⟩, p4⟩, p5, p6⟩ := hP
 have := za9 (body := zaR.l1 n ⟨box, R, G, cs⟩ x) (k := cs.length) (n := n) (st := fun (_ : Unit) i => (i : Int)) (fun _ _ => True) (fun _ : Int × Bool => True) (fun rec i _ hi _ h => ?_) (fun rec _ _ => ?_) (by omega) () trivial
 ·simpa using this
 ·have hci := p6 _ (List.getElem_mem hi)
  simp only [caseV, Bool.and_eq_true, decide_eq_true_eq, List.all_eq_true] at hci
  simp only [zaR.l1, zo hi, if_true]
  have := za9 (body := zaR.l2 n ⟨box, R, G, cs⟩ x (i : Int) rec) (k := cs[i].length) (n := n) (st := fun (b : Bool) j => (b, (j : Int))) (fun _ _ => True) (fun _ : Int × Bool => True) (fun rec2 j b hj _ h2 => ?_) (fun rec2 b _ => ?_) (by omega) true trivial
  ·simpa using this
  ·have hv := Value_get (n := n) (x := x) (hci.2 _ (List.getElem_mem hj)) ((hS.cases.2 _ (List.getElem_mem hi)).2 _ (List.getElem_mem hj)) hx hn
   simp only [zaR.l2, jn, za hi, Option.bind_some, zo hj, if_true, za hj, hv, zd (show j < 4611686018427387904 by omega)]
   split <;> exact h2 _ trivial
  ·simp only [zaR.l2, jn, za hi, Option.bind_some, zaN, Bool.false_eq_true, if_false]
   split
   ·exact ⟨_, rfl, trivial⟩
   ·rw [zd (by omega)]; exact h () trivial
 ·simp only [zaR.l1, zaN, Bool.false_eq_true, if_false]
  exact ⟨_, rfl, trivial⟩
inductive Weaker : List Row → List Row → Prop
 | nil : Weaker [] []
 | cons {r s : Row} {R S : List Row} : r.terms = s.terms → r.bound ≤ s.bound → Weaker R S → Weaker (r :: R) (s :: S)
theorem Weaker.refl : ∀ R : List Row, Weaker R R
 | [] => .nil
 | _ :: R => .cons rfl (Int.le_refl _) (Weaker.refl R)
theorem Weaker.append {R S R' S' : List Row} (h : Weaker R S) (h' : Weaker R' S') : Weaker (R ++ R') (S ++ S') := by
 induction h with
 | nil => exact h'
 | cons h1 h2 _ ih => exact .cons h1 h2 ih
theorem Weaker.len {R S : List Row} (h : Weaker R S) : R.length = S.length := by
 induction h with
 | nil => rfl
 | cons _ _ _ ih => simp [ih]
theorem Weaker.get {R S : List Row} (h : Weaker R S) : ∀ i, i < R.length → (R.getD i default).terms = (S.getD i default).terms ∧ (R.getD i default).bound ≤ (S.getD i default).bound := by
 induction h with
 | nil => intro i hi; simp at hi
 | cons h1 h2 _ ih =>
  intro i hi
  cases i with
  | zero => exact ⟨h1, h2⟩
  | succ i => simpa using ih i (by simpa using hi)
theorem Weaker.fails {n : Nat} {x : List Int} {R S : List Row} (h : Weaker R S) (hR : rowsF n x R = []) : rowsF n x S = [] := by
 unfold rowsF at *
 rw [List.flatMap_eq_nil_iff] at *
 intro i hi
 have hi' : i < R.length := by rw [h.len]; exact List.mem_range.1 hi
 have h1 := hR i (List.mem_range.2 hi')
 obtain ⟨e1, e2⟩ := h.get i hi'
 unfold rowF at *
 have ev : valN n (R.getD i default) x = valN n (S.getD i default) x := by unfold valN; rw [Value_terms e1]
 rw [ev] at h1
 split at h1
 ·cases h1
 ·rename_i hle
  rw [if_neg]
  simp only [decide_eq_true_eq] at hle ⊢
  omega
theorem Holds_weaker {n : Nat} {box : List Range} {R R' : List Row} {G : List Graph} {cs : List (List Row)} {x : List Int} (hg : goodB box = true) (hl : box.length ≤ 100) (hS : SysOK R G cs) (hS' : SysOK R' G cs) (hP : sysP box.length R G cs = true) (hP' : sysP box.length R' G cs = true) (hw : Weaker R R') (hx : inBox box x = true) (hn : 1000000 ≤ n) :
  ∃ v v', zb2 n ⟨box, R, G, cs⟩ x = some v ∧ zb2 n ⟨box, R', G, cs⟩ x = some v' ∧ (v = true → v' = true) := by
 have hxl := inBox_len hx
 have hsm : ∀ v ∈ x, -4000000 ≤ v ∧ v ≤ 4000000 := fun v hv => by
  obtain ⟨i, hi, rfl⟩ := List.mem_iff_getElem.1 hv
  have h1 := inBox_get hx i (by omega) hi
  have h2 := List.all_eq_true.1 hg _ (List.getElem_mem (show i < box.length by omega))
  simp only [Bool.and_eq_true, decide_eq_true_eq] at h2
  omega
 have hv := ref18_Valid_eq hg hl hS hn
 have hv' := ref18_Valid_eq hg hl hS' hn
 rw [hP] at hv
 rw [hP'] at hv'
 have r1 := right_eq hv rfl hxl (by omega) hsm hn
 have r2 := right_eq hv' rfl hxl (by omega) hsm hn
 obtain ⟨c, hc, -⟩ := Case_tot (n := n) (x := x) hS hP hxl hn
 have hc' : loopF (zaR.l1 n ⟨box, R', G, cs⟩ x) n 0 = some c := hc
 unfold zb2
 simp only [hv, hv', Option.bind_some, ref17_Contains_in hx hl hn, Fails_eq hS hP r1 hxl (by omega) hn, Fails_eq hS' hP' r2 hxl (by omega) hn]
 unfold zaR
 simp only [r1, r2, hc, hc', Option.bind_some, Option.isSome_some, Bool.or_true, grd, if_true, Option.getD_some, Bool.not_true, Bool.or_self, Bool.false_eq_true, if_false]
 refine ⟨_, _, rfl, rfl, fun h => ?_⟩
 simp only [Bool.and_eq_true] at h ⊢
 obtain ⟨⟨h1, h2⟩, h3⟩ := h
 refine ⟨⟨?_, h2⟩, h3⟩
 have : rowsF n x R = [] := by
  have : (rowsF n x R).length = 0 := by simpa using h1
  exact List.length_eq_zero_iff.1 this
 rw [hw.fails this]; rfl
end Go.Proofs.YtcagdmegicijlaaGreatDoor
namespace Go.Proofs.YtcagdmegicijlaaGreatDoor
open Go Go.RowKit
theorem Ints_refl {n : Nat} {l : List Int} (hl : l.length < 1000000) (hn : 1000000 ≤ n) : zbD n l l = some true := by
 unfold zbD
 rw [if_neg (by simp)]
 have := zL (body := zbD.l1 n l l) (len := l.length) (st := fun i => (i : Int)) (g := fun _ => some true) (fun rec i hi hr => ?_) (fun rec => ?_) n 0 (Nat.zero_le _) (by omega)
 ·simpa using this
 ·simp only [zbD.l1, zo hi, if_true, za hi, Option.bind_some, bne_self_eq_false, Bool.false_eq_true, if_false, zd (show i < 4611686018427387904 by omega), hr]
 ·simp [zbD.l1]
theorem Ranges_refl {n : Nat} {l : List Range} (hl : l.length < 1000000) (hn : 1000000 ≤ n) : zce n l l = some true := by
 unfold zce
 rw [if_neg (by simp)]
 have := zL (body := zce.l1 n l l) (len := l.length) (st := fun i => (i : Int)) (g := fun _ => some true) (fun rec i hi hr => ?_) (fun rec => ?_) n 0 (Nat.zero_le _) (by omega)
 ·simpa using this
 ·simp only [zce.l1, zo hi, if_true, za hi, Option.bind_some, decide_true, Bool.not_true, Bool.false_eq_true, if_false, zd (show i < 4611686018427387904 by omega), hr]
 ·simp [zce.l1]
theorem Terms_refl {n : Nat} {r : Row} (hl : r.terms.length < 1000000) (hn : 1000000 ≤ n) : zbf n r r = some true := by
 unfold zbf
 rw [if_neg (by simp)]
 have := zL (body := zbf.l1 n r r) (len := r.terms.length) (st := fun i => (i : Int)) (g := fun _ => some true) (fun rec i hi hr => ?_) (fun rec => ?_) n 0 (Nat.zero_le _) (by omega)
 ·simpa using this
 ·simp only [zbf.l1, zo hi, if_true, za hi, Option.bind_some, decide_true, Bool.not_true, Bool.false_eq_true, if_false, zd (show i < 4611686018427387904 by omega), hr]
 ·simp [zbf.l1]
theorem rows_refl {n : Nat} {R : List Row} (hR : shortR R) (hn : 1000000 ≤ n) : zbk n R R = some true := by
 have hl := hR.1
 unfold zbk
 rw [if_neg (by simp)]
 have := zL (body := zbk.l1 n R R) (len := R.length) (st := fun i => (i : Int)) (g := fun _ => some true) (fun rec i hi hr => ?_) (fun rec => ?_) n 0 (Nat.zero_le _) (by omega)
 ·simpa using this
 ·simp only [zbk.l1, zo hi, if_true, za hi, Option.bind_some, Option.isSome_some, Option.getD_some, Terms_refl (hR.2 _ (List.getElem_mem hi)) hn, Bool.or_true, grd, bne_self_eq_false, Bool.not_true, Bool.or_self, Bool.false_eq_true, if_false, zd (show i < 4611686018427387904 by omega), hr]
 ·simp [zbk.l1]
theorem Same_refl {n : Nat} {box : List Range} {R : List Row} {G : List Graph} {cs : List (List Row)} (hb : box.length ≤ 1000) (hS : SysOK R G cs) (hn : 1000000 ≤ n) : zar n ⟨box, R, G, cs⟩ ⟨box, R, G, cs⟩ = some true := by
 have hgl := hS.graphs.1
 have hcl := hS.cases.1
 unfold zar
 simp only [Ranges_refl (n := n) (show box.length < 1000000 by omega) hn, rows_refl hS.rows hn, Option.bind_some, Option.isSome_some, Option.getD_some, Bool.or_true, grd, if_true, Bool.not_true, bne_self_eq_false, Bool.or_self, Bool.false_eq_true, if_false]
 have := zL (body := zar.l1 n ⟨box, R, G, cs⟩ ⟨box, R, G, cs⟩) (len := G.length) (st := fun i => (i : Int)) (g := fun _ => some true) (fun rec i hi hr => ?_) (fun rec => ?_) n 0 (Nat.zero_le _) (by omega)
 ·simpa using this
 ·simp only [zar.l1, zo hi, if_true, za hi, Option.bind_some, Option.isSome_some, Option.getD_some, Ints_refl (hS.graphs.2 _ (List.getElem_mem hi)) hn, Bool.or_true, grd, bne_self_eq_false, Bool.not_true, Bool.or_self, Bool.false_eq_true, if_false, zd (show i < 4611686018427387904 by omega), hr]
 ·simp only [zar.l1, zaN, Bool.false_eq_true, if_false]
  have := zL (body := zar.l2 n ⟨box, R, G, cs⟩ ⟨box, R, G, cs⟩) (len := cs.length) (st := fun i => (i : Int)) (g := fun _ => some true) (fun rec i hi hr => ?_) (fun rec => ?_) n 0 (Nat.zero_le _) (by omega)
  ·simpa using this
  ·simp only [zar.l2, zo hi, if_true, za hi, Option.bind_some, rows_refl (hS.cases.2 _ (List.getElem_mem hi)) hn, Bool.not_true, Bool.false_eq_true, if_false, zd (show i < 4611686018427387904 by omega), hr]
  ·simp [zar.l2]
theorem chgP_bd {d : List Change} (hd : smallD d) : ∀ {l : List Term}, (∀ t ∈ l, -1000 ≤ t.factor ∧ t.factor ≤ 1000) → -(1000000000000 * (l.length : Int)) ≤ chgP d l ∧ chgP d l ≤ 1000000000000 * (l.length : Int)
 | [], _ => by simp [chgP]
 | t :: l, h => by
  have ih := chgP_bd hd (l := l) fun t ht => h t (by simp [ht])
  obtain ⟨f1, f2⟩ := h t (by simp)
  obtain ⟨a1, a2⟩ := added_small hd t.cell
  have := mul_bd f1 f2 a1 a2
  simp only [chgP, List.length_cons]
  omega
theorem chgN_bd {n : Nat} {a : Action} {r : Row} (ha : ActOK a) (hd : smallD a.effect.delta) (ht : ∀ t ∈ r.terms, -1000 ≤ t.factor ∧ t.factor ≤ 1000) (hl : r.terms.length ≤ 1000) (hn : 1000000 ≤ n) : -1000000000000000 ≤ chgN n a r ∧ chgN n a r ≤ 1000000000000000 := by
 have h1 := ha.delta
 unfold chgN
 rw [condition_change_eq (by omega) (by omega) (by omega) (by omega), change_zero hd ht hl]
 have := chgP_bd hd ht
 simp only [Option.getD_some]
 omega
theorem gmax_ge (x y : Int) : x ≤ gmax x y ∧ y ≤ gmax x y := by unfold gmax; split <;> omega
theorem gmax_le {x y B : Int} (h1 : x ≤ B) (h2 : y ≤ B) : gmax x y ≤ B := by unfold gmax; split <;> omega
theorem kS_facts {n : Nat} {q : Question} {rows less : List Int} {a b : Action} {i : Nat} {c : Constraint} (hx : -1000000000000000 ≤ chgN n a c.row ∧ chgN n a c.row ≤ 1000000000000000) (hy : -1000000000000000 ≤ chgN n b c.row ∧ chgN n b c.row ≤ 1000000000000000) (hsub : (i : Int) ∈ less → (i : Int) ∈ rows) :
  0 ≤ kS n q less a b i c ∧ kS n q less a b i c ≤ kS n q rows a b i c ∧ kS n q rows a b i c ≤ 2000000000000000 := by
 have hs : add64 (chgN n a c.row) (chgN n b c.row) = chgN n a c.row + chgN n b c.row := add64_sm (by omega) (by omega)
 unfold kS
 rw [hs]
 generalize chgN n a c.row = x at *
 generalize chgN n b c.row = y at *
 have g1 := gmax_ge 0 x
 have g2 := gmax_ge (gmax 0 x) y
 have g3 := gmax_ge (gmax (gmax 0 x) y) (x + y)
 have u1 : gmax 0 x ≤ 1000000000000000 := gmax_le (by omega) (by omega)
 have u2 : gmax (gmax 0 x) y ≤ 1000000000000000 := gmax_le u1 (by omega)
 have u3 : gmax (gmax (gmax 0 x) y) (x + y) ≤ 2000000000000000 := gmax_le (by omega) (by omega)
 by_cases h1 : (i : Int) ∈ less
 ·have h2 := hsub h1
  simp only [h1, h2, decide_true, Bool.true_and]
  split <;> omega
 ·simp only [h1, decide_false, Bool.false_and, Bool.false_eq_true, if_false]
  split <;> omega
theorem rowsR_congr {n : Nat} {m : Model} {q : Question} {rows less : List Int} {a b : Action} (h : ∀ i : Nat, (decide ((i : Int) ∈ less) && (q.target.hold || (q.target.index != (i : Int)))) = (decide ((i : Int) ∈ rows) && (q.target.hold || (q.target.index != (i : Int))))) : rowsR n m q less a b = rowsR n m q rows a b := by
 unfold rowsR rowS kS
 simp only [h]
theorem rowsR_weaker {n K : Nat} {m : Model} {q : Question} {rows less : List Int} {a b : Action} (hsub : ∀ x, x ∈ less → x ∈ rows)
  (hx : ∀ c ∈ m.constraints, c.kind = 0 → (-1000000000000000 ≤ chgN n a c.row ∧ chgN n a c.row ≤ 1000000000000000) ∧ (-1000000000000000 ≤ chgN n b c.row ∧ chgN n b c.row ≤ 1000000000000000) ∧ -1000000000 ≤ c.row.bound ∧ c.row.bound ≤ 1000000000) (hok : (rowsR n m q rows a b).all (rowOK K) = true) :
  Weaker (rowsR n m q rows a b) (rowsR n m q less a b) ∧ (rowsR n m q less a b).all (rowOK K) = true := by
 have key : ∀ i, i < m.constraints.length → Weaker (rowS n q rows a b i (m.constraints.getD i default)) (rowS n q less a b i (m.constraints.getD i default)) ∧ ((rowS n q rows a b i (m.constraints.getD i default)).all (rowOK K) = true → (rowS n q less a b i (m.constraints.getD i default)).all (rowOK K) = true) := by
  intro i hi
  have e : m.constraints.getD i default = m.constraints[i] := by simp [List.getD, hi]
  rw [e]
  unfold rowS
  by_cases hk : (m.constraints[i].kind != 0) = true
  ·rw [if_pos hk, if_pos hk]; exact ⟨.nil, fun _ => rfl⟩
  ·rw [if_neg hk, if_neg hk]
   have hk : m.constraints[i].kind = 0 := by simpa using hk
   obtain ⟨x1, x2, b1, b2⟩ := hx _ (List.getElem_mem hi) hk
   obtain ⟨k1, k2, k3⟩ := kS_facts (q := q) (rows := rows) (less := less) (i := i) x1 x2 (hsub _)
   have s1 : sub64 m.constraints[i].row.bound (kS n q rows a b i m.constraints[i]) = m.constraints[i].row.bound - kS n q rows a b i m.constraints[i] := sub64_sm (by omega) (by omega)
   have s2 : sub64 m.constraints[i].row.bound (kS n q less a b i m.constraints[i]) = m.constraints[i].row.bound - kS n q less a b i m.constraints[i] := sub64_sm (by omega) (by omega)
   rw [s1, s2]
   refine ⟨.cons rfl (by simp only; omega) .nil, fun h => ?_⟩
   simp only [List.all_cons, List.all_nil, Bool.and_true, rowOK, zaM, Bool.and_eq_true, decide_eq_true_eq] at h ⊢
   exact ⟨h.1, by omega, by omega⟩
 have hall : ∀ k, k ≤ m.constraints.length → Weaker ((List.range k).flatMap fun i => rowS n q rows a b i (m.constraints.getD i default)) ((List.range k).flatMap fun i => rowS n q less a b i (m.constraints.getD i default)) := by
  intro k
  induction k with
  | zero => intro _; exact .nil
  | succ k ih => intro hk; rw [range_snoc, range_snoc]; exact (ih (by omega)).append (key k (by omega)).1
 refine ⟨hall _ (Nat.le_refl _), ?_⟩
 unfold rowsR at hok ⊢
 rw [List.all_flatMap] at hok ⊢
 rw [List.all_eq_true] at hok ⊢
 intro i hi
 exact (key i (List.mem_range.1 hi)).2 (hok i hi)
theorem rowsR_short {n : Nat} {m : Model} {q : Question} {rows : List Int} {a b : Action} (hl : m.constraints.length ≤ 60) (hc : ∀ c ∈ m.constraints, c.row.terms.length ≤ 1000) : (rowsR n m q rows a b).length ≤ 60 ∧ ∀ r ∈ rowsR n m q rows a b, r.terms.length ≤ 1000 := by
 unfold rowsR
 constructor
 ·have : ∀ k, ((List.range k).flatMap fun i => rowS n q rows a b i (m.constraints.getD i default)).length ≤ k := by
   intro k
   induction k with
   | zero => simp
   | succ k ih =>
    rw [range_snoc, List.length_append]
    have : (rowS n q rows a b k (m.constraints.getD k default)).length ≤ 1 := by unfold rowS; split <;> simp
    omega
  have := this m.constraints.length
  omega
 ·intro r hr
  obtain ⟨i, hi, hri⟩ := List.mem_flatMap.1 hr
  have hi := List.mem_range.1 hi
  have e : m.constraints.getD i default = m.constraints[i] := by simp [List.getD, hi]
  rw [e] at hri
  unfold rowS at hri
  split at hri
  ·simp at hri
  ·simp at hri; subst hri; exact hc _ (List.getElem_mem hi)
end Go.Proofs.YtcagdmegicijlaaGreatDoor
namespace Go.Proofs.YtcagdmegicijlaaGreatDoor
open Go Go.RowKit
theorem act_ok {m : Model} (hS : SmallM m) {a : Action} (ha : a ∈ m.actions) : ActOK a := by
 obtain ⟨-, h1, h2, -, h4⟩ := hS.act a ha
 exact ⟨h1, h2, fun r hr => by have := h4 r hr; omega⟩
theorem con_ok {m : Model} (hS : SmallM m) (hV : ValidM m) {c : Constraint} (hc : c ∈ m.constraints) : ConOK (boxM m).length c := by
 have hl := hS.con c hc
 rcases con_in hS hV hc with ⟨h1, -, -, -⟩ | ⟨s, h1, h2, h3, h4, h5, h6⟩
 ·exact ⟨.inl h1, by omega, fun h => by omega⟩
 ·exact ⟨.inr h1, by omega, fun _ => ⟨s, h2, h3, h4, h5, h6⟩⟩
theorem con_bound {m : Model} (hV : ValidM m) {c : Constraint} (hc : c ∈ m.constraints) (hk : c.kind = 0) : rowOK (zQ m.sorts true m.tables).length c.row = true := by
 rcases valid_con hV hc with h | h
 ·simp only [plainP, Bool.and_eq_true] at h
  exact h.2
 ·have := (acy_size hV h).1; omega
theorem sysOK_of {R X : List Row} {G : List Graph} {cs : List (List Row)} (hR : R.length ≤ 60 ∧ ∀ r ∈ R, r.terms.length ≤ 1000) (hX : X.length ≤ 30 ∧ ∀ r ∈ X, r.terms.length ≤ 1000) (hG : G.length ≤ 3000 ∧ ∀ g ∈ G, g.least.length ≤ 36) (hc : CasesOK cs) : SysOK (R ++ X) G cs := by
 refine ⟨⟨by rw [List.length_append]; omega, fun r hr => ?_⟩, ⟨by omega, fun g hg => by have := hG.2 g hg; omega⟩, ⟨by have := hc.1; omega, fun rows hrows => ?_⟩⟩
 ·rcases List.mem_append.1 hr with hr | hr
  ·have := hR.2 r hr; omega
  ·have := hX.2 r hr; omega
 ·obtain ⟨h1, h2⟩ := hc.2 rows hrows
  exact ⟨by omega, fun r hr => by have := h2 r hr; omega⟩
theorem Relative_law {m : Model} {q : Question} {rows : List Int} : zbK 18446744073709551616 m q rows = some true := by
 unfold zbK
 have hF := fuel_N
 have hn := hF.big
 have hn1 : 1000000 ≤ 18446744073709551616 := by omega
 rw [awake_spec, ref13_Few_eq (by omega)]
 simp only [Option.bind_some, Bool.not_true, Bool.false_eq_true, if_false]
 by_cases hfew : (!fewP m || decide (20 < (rows.length : Int))) = true
 ·rw [if_pos hfew]
 rw [if_neg hfew]
 simp only [Bool.or_eq_true, Bool.not_eq_true', decide_eq_true_eq, not_or, Bool.not_eq_false] at hfew
 obtain ⟨hf, hrl⟩ := hfew
 have hS := fewP_small hf
 by_cases hvq : (validP m && questP m q) = true
 case neg =>
  have : zc 18446744073709551616 m q rows = some (⟨[], [], [], []⟩, 1) := by
   unfold zc
   simp only [Bool.not_eq_true] at hvq
   rw [symmetry_Valid_eq hF hS, hvq, Option.bind_some, if_pos (by simp)]
  rw [this, Option.bind_some, if_pos (by simp)]
 simp only [Bool.and_eq_true] at hvq
 have hV := validP_iff.1 hvq.1
 obtain ⟨q1, q2, q3, q4, q5⟩ := questP_spec hvq.2
 obtain ⟨a, ha⟩ := zbr q1.1 q1.2
 obtain ⟨b, hb⟩ := zbr q2.1 q2.2
 have hA := act_ok hS (idx_mem ha)
 have hB := act_ok hS (idx_mem hb)
 have hC : ∀ c ∈ m.constraints, ConOK (boxM m).length c := fun c hc => con_ok hS hV hc
 have hfp := hf
 simp only [fewP, zbV, hV.lay, if_true, Bool.and_eq_true, decide_eq_true_eq] at hfp
 have hK : (boxM m).length ≤ 12 := hfp.2.2.1
 have hgood := box_good hV.lay
 have hcount := countB_few hgood (by decide) (by decide) hfp.2.2.2
 have hcnt : zcz (boxM m) < 18446744073709551616 := by
  have e : zcz (boxM m) = zcz (zQ m.sorts true m.tables) := rfl
  rw [e]
  omega
 have hcl := hS.constraints
 have hsys := fun (rs : List Int) (h : rs.length ≤ 1000) => System_closed (rows := rs) hF hS hV hvq.2 ha hb hA hB hC h
 obtain ⟨X, G, cs, hX, hG, hcs, htail⟩ := tail_eq (n := 18446744073709551616) (m := m) (q := q) (box := boxM m) hA hB hC (by omega) (by omega) (fun h => ⟨q3, q4 h a ha⟩) (fun h => ⟨q3, (q5 h).2⟩) hn1
 have hct : ∀ c ∈ m.constraints, c.row.terms.length ≤ 1000 := fun c hc => (hC c hc).len
 have hshort := fun rs : List Int => rowsR_short (n := 18446744073709551616) (q := q) (rows := rs) (a := a) (b := b) hcl hct
 have hso := fun rs : List Int => sysOK_of (hshort rs) hX hG hcs
 have hres : ∀ rs : List Int, rs.length ≤ 1000 → (rs.all fun x => !badR m x) = true → zc 18446744073709551616 m q rs = endS 18446744073709551616 ⟨boxM m, rowsR 18446744073709551616 m q rs a b ++ X, G, cs⟩ (some (sysP (boxM m).length (rowsR 18446744073709551616 m q rs a b ++ X) G cs)) := fun rs h1 h2 => by
  rw [hsys rs h1, if_pos h2, htail _ (by have := (hshort rs).1; omega), system_Valid_eq hgood (by omega) (hso rs) hn1]
 by_cases hbad : (rows.all fun x => !badR m x) = true
 case neg => rw [hsys rows (by omega), if_neg hbad, Option.bind_some, if_pos (by simp)]
 rw [hres rows (by omega) hbad]
 by_cases hP : sysP (boxM m).length (rowsR 18446744073709551616 m q rows a b ++ X) G cs = true
 case neg =>
  simp only [Bool.not_eq_true] at hP
  rw [hP]
  simp [endS]
 rw [hP]
 simp only [endS, Option.bind_some, Bool.not_true, Bool.false_eq_true, if_false]
 cases rows with
 | nil => simp
 | cons r0 rs =>
  rw [if_neg (by simp; omega)]
  have hcut : cut (r0 :: rs) 1 ((r0 :: rs).length : Int) = some rs := by
   have := cut_end (l := r0 :: rs) (a := 1) (by simp)
   simpa using this
  have hidx : idx (r0 :: rs) 0 = some r0 := rfl
  have hrs : rs.length ≤ 20 := by simp at hrl; omega
  have hbad1 : (rs.all fun x => !badR m x) = true := by simp only [List.all_cons, Bool.and_eq_true] at hbad; exact hbad.2
  have hbad2 : (((r0 :: rs) ++ [r0]).all fun x => !badR m x) = true := by
   simp only [List.all_cons, Bool.and_eq_true] at hbad
   simp [hbad.1, hbad.2]
  have htw : rowsR 18446744073709551616 m q ((r0 :: rs) ++ [r0]) a b = rowsR 18446744073709551616 m q (r0 :: rs) a b := rowsR_congr fun i => by
   have : ((i : Int) ∈ (r0 :: rs) ++ [r0]) ↔ ((i : Int) ∈ r0 :: rs) := by
    simp only [List.mem_append, List.mem_cons, List.not_mem_nil, or_false]
    exact ⟨fun h => h.elim id .inl, .inl⟩
   simp only [this]
  have hPw := hP
  simp only [sysP, Bool.and_eq_true, List.all_append] at hPw
  obtain ⟨hw, hwok⟩ := rowsR_weaker (n := 18446744073709551616) (K := (boxM m).length) (m := m) (q := q) (rows := r0 :: rs) (less := rs) (a := a) (b := b) (fun x hx => List.mem_cons_of_mem _ hx) (fun c hc hk => by
   have hro := con_bound hV hc hk
   have hterm : ∀ t ∈ c.row.terms, -1000 ≤ t.factor ∧ t.factor ≤ 1000 := fun t ht => by
    simp only [rowOK, Bool.and_eq_true] at hro
    have := rowP_terms hro.1 (by omega) t ht
    exact ⟨this.2.2.1, this.2.2.2⟩
   have hbd : -1000000000 ≤ c.row.bound ∧ c.row.bound ≤ 1000000000 := by
    simp only [rowOK, zaM, Bool.and_eq_true, decide_eq_true_eq] at hro
    omega
   exact ⟨chgN_bd hA (act_delta hV (idx_mem ha)).1 hterm (hct c hc) hn1, chgN_bd hB (act_delta hV (idx_mem hb)).1 hterm (hct c hc) hn1, hbd⟩) hPw.1.1.1.2.1
  have hP2 : sysP (boxM m).length (rowsR 18446744073709551616 m q rs a b ++ X) G cs = true := by
   have hlen := hw.len
   simp only [sysP, Bool.and_eq_true, List.all_append, List.length_append, decide_eq_true_eq] at hP ⊢
   obtain ⟨⟨⟨⟨p1, p2⟩, p3⟩, p4⟩, p5⟩ := hP
   exact ⟨⟨⟨⟨by omega, hwok, p2.2⟩, p3⟩, p4⟩, p5⟩
  have happ : app 8 (r0 :: rs) [r0] = some ((r0 :: rs) ++ [r0]) := zJ (by simp; omega)
  have happ0 : app 8 [] (r0 :: rs) = some (r0 :: rs) := by rw [zJ (by simp; omega)]; rfl
  simp only [hcut, hidx, happ0, happ, Option.bind_some, hres rs (by omega) hbad1, hres _ (by simp; omega) hbad2, htw, hP, hP2, endS, Bool.not_true, Bool.false_eq_true, if_false, Same_refl (n := 18446744073709551616) (show (boxM m).length ≤ 1000 by omega) (hso (r0 :: rs)) hn1]
  simp only [bne_self_eq_false, Bool.or_self, Option.isSome_some, Bool.or_true, grd, if_true, Option.getD_some, Bool.not_true, Bool.false_eq_true, if_false]
  have hst : zbp 18446744073709551616 m (fun q0 => zaU 18446744073709551616 q0 ⟨boxM m, rowsR 18446744073709551616 m q (r0 :: rs) a b ++ X, G, cs⟩ ⟨boxM m, rowsR 18446744073709551616 m q rs a b ++ X, G, cs⟩) = some true := by
   unfold zbp
   rw [ref22_Box_eq hS hV.lay (by omega), Option.bind_some, ref17_Least_eq (by omega) (by omega), Option.bind_some]
   refine states_all hgood (by omega) (by omega) hcnt fun s hs => ?_
   obtain ⟨v, v', h1, h2, h3⟩ := Holds_weaker (n := 18446744073709551616) hgood (by omega) (hso (r0 :: rs)) (hso rs) hP hP2 (hw.append (Weaker.refl X)) hs hn1
   unfold zaU
   rw [h1, Option.bind_some, h2]
   cases v with
   | false => simp [grd]
   | true => rw [h3 rfl]; simp [grd]
  by_cases htgt : ((!q.target.hold) && (r0 == q.target.index)) = true
  ·have hless : rowsR 18446744073709551616 m q rs a b = rowsR 18446744073709551616 m q (r0 :: rs) a b := rowsR_congr fun i => by
    simp only [Bool.and_eq_true, Bool.not_eq_true', beq_iff_eq] at htgt
    obtain ⟨t1, t2⟩ := htgt
    rw [t1, Bool.false_or]
    by_cases hi : q.target.index = (i : Int)
    ·simp [hi]
    ·have : ((i : Int) ∈ r0 :: rs) ↔ ((i : Int) ∈ rs) := by
      simp only [List.mem_cons, or_iff_right_iff_imp]
      intro e; exact absurd (by rw [← t2, e]) hi
     simp only [this]
   rw [hless] at hst ⊢
   simp only [Same_refl (n := 18446744073709551616) (show (boxM m).length ≤ 1000 by omega) (hso (r0 :: rs)) hn1, Option.isSome_some, Bool.or_true, if_true, Option.getD_some, Bool.not_true, Bool.and_false, Bool.false_eq_true, if_false, hst, Option.bind_some]
  ·simp only [Bool.not_eq_true] at htgt
   simp only [htgt, Bool.not_false, Bool.true_or, if_true, Bool.false_and, Bool.false_eq_true, if_false, hst, Option.bind_some]
end Go.Proofs.YtcagdmegicijlaaGreatDoor
namespace Go.Proofs.YtcagdmegicijlaaGreatDoor
theorem closed6 : joinedFacts Tryz.pinned.checked.prog 8 Tryz.f8 (OpenSpec.ofChange Rows.conditionRelativeSpec).bare Rows.conditionRelativeRow = true := by
 unfold joinedFacts
 simp only [Bool.and_eq_true]
 repeat' apply And.intro
 all_goals as_aux_lemma => kernel_rfl
end Go.Proofs.YtcagdmegicijlaaGreatDoor
namespace Go.Proofs.YtcagdmegicijlaaGreatDoor
open Go.ChangeShapes Go.WideShapes Go.ChangeAt Go.RowKit
theorem own : ownKnob Tryz.prog.godebug = none := by kernel_rfl
theorem laidOut : laidOutB Tryz.prog = true := by kernel_rfl
set_option maxRecDepth 100000 in
theorem contract6 (H : Type) (enc : TypeId × Value → H) (W : World) (base : Nat) (args : Array Value) (ds gs : List (DataW H)) (before : List MemPlace)
  (hval : ∀ (j : Nat) t v, Tryz.f8.params[j]? = some t → args[j]? = some v → Value.okWide Tryz.prog W .any base t v)
  (hW : DataW.Whole enc Tryz.prog Tryz.f8.params.toList Rows.conditionRelativeSpec.vars false W args.toList ds gs before) (hL : laidMetH Tryz.prog Rows.conditionRelativeRow.laid W) (hS : W.ShapedOpen Tryz.prog) :
  Calls Tryz.prog 8 args W fun e W' => ∃ v, e = .returned v ∧ Rows.conditionRelativeSpec.post enc Tryz.prog Tryz.f8 false true false false W args v W' := by
 have hW' := hW
 obtain ⟨p, q, hA0, hV, rfl, hfz, hnd⟩ := hW
 have hA : DataW.TrodAll enc Tryz.prog W 0 (fun _ => true) true Tryz.f8.params.toList args.toList ds p := hA0
 rw [Tryz.params8] at hA hval
 obtain ⟨v0, vs0, d0, ds0, p0, q0, hargs, rfl, rfl, h0, r0⟩ := trodAll_cons hA
 obtain ⟨v1, vs1, d1, ds1, p1, q1, rfl, rfl, rfl, h1, r1⟩ := trodAll_cons r0
 obtain ⟨v2, vs2, d2, ds2, p2, q2, rfl, rfl, rfl, h2, r2⟩ := trodAll_cons r1
 obtain ⟨rfl, rfl, rfl⟩ := trodAll_nil r2
 obtain rfl : args = #[v0, v1, v2] := by cases args; simp_all
 obtain ⟨rfl, rfl⟩ := trodVars_none hV
 obtain ⟨a0, k0⟩ := dModel.of_arg (hval 0 _ v0 rfl rfl) h0
 obtain ⟨a1, k1⟩ := dQuest.of_arg (hval 1 _ v1 rfl rfl) h1
 obtain ⟨a2, k2⟩ := dInts.of_arg (hval 2 _ v2 rfl rfl) h2
 have hrun := (law22_ConditionRelative_ok _ a0 a1 a2 true Relative_law).run Noneof W #[v0, v1, v2] (fun _ h => h.elim) (glob_ok hL hS) (by
  simp only [D.reps]
  exact ⟨v0, _, rfl, k0, v1, _, rfl, k1, v2, _, rfl, k2, rfl⟩)
 refine hrun.mono fun e W' ⟨u, he, hf, hu⟩ => ?_
 simp only [D.rep] at hu
 subst hu
 subst he
 refine ⟨_, rfl, post_kept hW' rfl rfl rfl laidOut (fun t ht => ?_) hf (fun _ _ _ => trodAll_cons_mk (shut_bool Tryz.underlying4 _) trodAll_mk0)⟩
 rw [Tryz.params8] at ht
 have hall : ([30, 37, 22].all fun t => Tryz.prog.readableRec t && decide (t < Tryz.prog.types.size)) = true := by kernel_rfl
 have := List.all_eq_true.1 hall t (by simpa using ht)
 simpa using this
theorem reads6 (os : Os) {H : Type} (enc : TypeId × Value → H) : ∃ places, DataW.whole enc Tryz.prog ((World.laidAll Tryz.prog os Rows.conditionRelativeRow.laid).forCall (fun _ _ => 0) ⟨#[], #[.agg #[.slice none 0 0, .slice none 0 0, .slice none 0 0, .slice none 0 0, .slice none 0 0, .slice none 0 0, .slice none 0 0], .agg #[.int .i64 0, .int .i64 0, .bool false, .int .i64 0], .slice none 0 0], []⟩).memory Tryz.f8.params.toList Rows.conditionRelativeSpec.vars false
  (#[.agg #[.slice none 0 0, .slice none 0 0, .slice none 0 0, .slice none 0 0, .slice none 0 0, .slice none 0 0, .slice none 0 0], .agg #[.int .i64 0, .int .i64 0, .bool false, .int .i64 0], .slice none 0 0] : Array Value).toList 8 =
  some ([.agg [.nil, .nil, .nil, .nil, .nil, .nil, .nil], .agg [.lit (.int .i64 0), .lit (.int .i64 0), .agg [.lit (.bool false), .lit (.int .i64 0)]], .nil], [], places) :=
 ⟨[], by kernel_rfl⟩
set_option maxRecDepth 100000 in
theorem lifted6 (os : Os) (started : os.Started) (H : Type) (enc : TypeId × Value → H) (F : Stop.Interp) :
  ReturnsInHanded {} Tryz.checked os 8 .any ((OpenSpec.ofChange Rows.conditionRelativeSpec).preRow enc Tryz.prog Tryz.f8 Rows.conditionRelativeRow.domain false Rows.conditionRelativeRow.laid) (((OpenSpec.ofChange Rows.conditionRelativeSpec).at F).post enc Tryz.prog Tryz.f8 false true false false) := by
 obtain ⟨places, hx⟩ := reads6 os enc
 refine returnsInHanded_of_row (C := Tryz.checked) (s := OpenSpec.ofChange Rows.conditionRelativeSpec) own started (by kernel_rfl) Tryz.func8
  (witness_row_atRef (enc := enc) (C := Tryz.checked) false (World.laidAll Tryz.prog os Rows.conditionRelativeRow.laid) _ (World.laidAll_os _ _ _) (by kernel_rfl) (by kernel_rfl) (by kernel_rfl)
   (OpenSpec.preRow_of_cond 8 hx (by kernel_rfl) (fun k hk => by cases hk) (by kernel_rfl) (laidMet_laidAll _ (by kernel_rfl) (by kernel_rfl)))) ?_
 intro W base args ds gs before hval hW _ _ _ hL hS _
 exact contract6 H enc W base args ds gs before hval hW hL hS
theorem said6 : Rows.ConditionRelativeSaid :=
 OpenClaim.holds_of_cond 8 Tryz.f8 rfl rfl rfl rfl rfl rfl rfl ⟨rfl, rfl, rfl, rfl, rfl⟩ rfl rfl rfl rfl rfl (by kernel_rfl) Tryz.func8 closed6
  (of_decide_eq_true (by kernel_rfl)) (by unfold Func.isWrapper; first | (rw [if_pos (by decide +kernel)]; kernel_rfl) | (rw [if_neg (by decide +kernel)]; exact ⟨rfl, rfl⟩))
  (fun os started H enc _ F => by rw [OpenClaim.pre_eq_preRow]; exact lifted6 os started H enc F)
theorem plain6 (f : FuncId) (fn : Func) (hf : Tryz.pinned.checked.prog.funcNamed Rows.conditionRelativeRow.func = some f) (hfn : Tryz.pinned.checked.prog.funcs[f]? = some fn) :
  false = Tryz.pinned.checked.prog.looks [] ∧ ∀ (j : Nat) t, fn.params[j]? = some t → Tryz.pinned.checked.prog.wantsStandIn t = false := by
 obtain rfl : f = 8 := Option.some.inj ((show Tryz.prog.funcNamed Rows.conditionRelativeRow.func = some 8 by kernel_rfl).symm.trans hf) |>.symm
 obtain rfl : fn = Tryz.f8 := (Option.some.inj (Tryz.func8.symm.trans hfn)).symm
 refine ⟨by kernel_rfl, fun j t ht => ?_⟩
 rw [Tryz.params8] at ht
 have hall : ([30, 37, 22].all fun u => !Tryz.prog.wantsStandIn u) = true := by kernel_rfl
 have := List.all_eq_true.1 hall t (by simpa using Array.mem_of_getElem? ht)
 exact (show Tryz.prog.wantsStandIn t = false by simpa using this)
theorem conditionRelative_holds : Rows.ConditionRelativeCardSaid :=
 Claim7.holds_tied_plain_at .later [] _ _ _ _ said6 (fun _ h => by cases h) (by kernel_rfl) (fun _ h => by cases h) conditionRelative_row_tie rfl ⟨rfl, rfl⟩ (by kernel_rfl) rfl plain6 (by kernel_rfl)
end Go.Proofs.YtcagdmegicijlaaGreatDoor
