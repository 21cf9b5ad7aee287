/- The law holds for every input. No condition. -/
import Derived.Test.YtcagdmegicijlaaGreatDoorMn05
import Derived.Test.YtcagdmegicijlaaGreatDoorCards
import Derived.Test.YtcagdmegicijlaaGreatDoorTie
import Derived.JoinedCond
import Derived.Deep.DeepWitnessRowRef
import Derived.Lay
import Derived.ProofKit
set_option linter.unusedVariables false
set_option linter.unusedSectionVars false
set_option linter.unusedSimpArgs false
set_option maxHeartbeats 4000000
namespace Go.Proofs.YtcagdmegicijlaaGreatDoor
open Go Go.RowKit
theorem zby {x y} (h1 : -9223372036854775808 ≤ x + y) (h2 : x + y ≤ 9223372036854775807) : add64 x y = x + y := zaL h1 h2
theorem zeb {x y} (h1 : -9223372036854775808 ≤ x * y) (h2 : x * y ≤ 9223372036854775807) : mul64 x y = x * y := zaL h1 h2
theorem zgY {x y} (h1 : -9223372036854775808 ≤ x - y) (h2 : x - y ≤ 9223372036854775807) : sub64 x y = x - y := zaL h1 h2
def ziD (r : List (List Row)) : Prop := r.length ≤ 900000 ∧ ∀ rows ∈ r, rows.length ≤ 6 ∧ ∀ row ∈ rows, row.terms.length ≤ 1
theorem zj5 {n c e f} (k) (he : e.effect.delta.length ≤ 20) (hf : f.effect.delta.length ≤ 20) (hn : 1000000 ≤ n) : ∃ r, zaN n k e c f = some r := by
 unfold zaN;rw [zab _ (by omega) (by omega), ya, zab _ (by omega) (by omega), ya];exact ⟨_, rfl⟩
theorem cases3_tot {n c e f K cyc b1 k} {Q : List (List Row) → Prop} (hv : VertL K cyc) (h6 : K ≤ 6) (he : e.effect.delta.length ≤ 20) (hf : f.effect.delta.length ≤ 20) (hn : 1000000 ≤ n) (hb : b1.length ≤ 900000)
  (hk : ∀ b : List (List Row), b.length ≤ b1.length + 1 → (∀ rows ∈ b, rows ∈ b1 ∨ (rows.length ≤ 6 ∧ ∀ row ∈ rows, row.terms.length ≤ 1)) → ∃ r, k b = some r ∧ Q r) : ∃ r, loopF (zg.l3 n c e f b1 k cyc) n (([] : List Row), false, false, 0) = some r ∧ Q r := by
 have hl := hv.2.1;have hl1 := hv.1;have := za1 (body := zg.l3 n c e f b1 k cyc) (k := cyc.length) (n := n) (st := fun (s : List Row × Bool × Bool) i => (s.1, s.2.1, s.2.2, (i : Int))) (fun i s => s.1.length ≤ i ∧ ∀ row ∈ s.1, row.terms.length ≤ 1) Q
  (fun rec i s hi hI hr => ?_) (fun rec s hI => ?_) (by omega) ([], false, false) ⟨by simp, by simp⟩
 ·simpa using this
 ·obtain ⟨b2, x, y⟩ := s;simp only at hI;have hmod : ∃ r : Nat, rem64 (add64 (i : Int) 1) (cyc.length : Int) = some (r : Int) ∧ r < cyc.length := by
   rw [zb (by omega)];refine ⟨(i + 1) % cyc.length, ?_, Nat.mod_lt _ (by omega)⟩;unfold rem64;rw [if_neg (by omega)];congr 1
  obtain ⟨r, hr1, hr2⟩ := hmod;simp only [zg.l3, zh hi, if_true, za hi, ya, hr1, za hr2];rw [zab _ (by omega) (by omega), zab _ (by omega) (by omega)];simp only [yj, yr, grd, if_true];obtain ⟨z, hz⟩ := zj5 (n := n) (c := c) (e := e) (f := f) (add64 (mul64 cyc[i] c.size) cyc[r]) he hf hn;rw [hz, ya, zq (by have := hI.1; simp; omega), ya, zb (by omega)];exact hr (_, _, _) ⟨by have := hI.1; simp; omega, fun row hrow => by
   rcases yG.1 hrow with h | h
   ·exact hI.2 row h
   ·simp at h; subst h; simp⟩
 ·obtain ⟨b2, x, y⟩ := s;simp only at hI;simp only [zg.l3, zah, ye, if_false];split
  ·rw [zq (by simp; omega), ya];exact hk _ (by simp) fun rows hrows => by
    rcases yG.1 hrows with h | h
    ·exact .inl h
    ·simp at h; subst h; exact .inr ⟨by have := hI.1; omega, hI.2⟩
  ·exact hk _ (by omega) fun rows h => .inl h
theorem sto_tot {α : Type} {l : List α} {i : Nat} {x : α} (h : i < l.length) : ∃ r, sto l (i : Int) x = some r ∧ r.length = l.length := by
 unfold sto;simp [h]
theorem cases_tot {n : Nat} {box : List Range} {c e f} {K : Nat} (hs : c.size = (K : Int)) (h1 : 1 ≤ K) (h6 : K ≤ 6) (h0 : 0 ≤ c.first) (hbx : c.first + ((K * K : Nat) : Int) ≤ (box.length : Int)) (hbl : box.length ≤ 1000) (he : e.effect.delta.length ≤ 20) (hf : f.effect.delta.length ≤ 20) (hn : 1000000 ≤ n) :
  ∃ r, zg n box c e f = some r ∧ ziD r := by
 have h4 : K * K ≤ 36 := yY h6 h6;have em : mul64 c.size c.size = ((K * K : Nat) : Int) := by
  rw [hs, zeb (by rw [← yK]; omega) (by rw [← yK]; omega)]; simp
 have hmk : mkl 1 (mul64 c.size c.size) false = some (List.replicate (K * K) false) := by
  rw [em]; unfold mkl; rw [if_pos (by omega), yq]
 unfold zg;rw [hmk, ya];have := za1 (body := zg.l1 n box c e f (List.replicate (K * K) false)) (k := K * K) (n := n) (st := fun (s : List Bool) i => (s, (i : Int))) (fun i s => s.length = K * K) ziD
  (fun rec i s hi hI hr => ?_) (fun rec s hI => ?_) (by omega) (List.replicate (K * K) false) (by simp)
 ·simpa using this
 ·have hlt : decide ((i : Int) < ((List.replicate (K * K) false).length : Int)) = true := by simp; omega
  obtain ⟨z, hz⟩ := zj5 (n := n) (c := c) (e := e) (f := f) (i : Int) he hf hn;obtain ⟨w, hw⟩ := za8 (l := box) (i := add64 c.first (i : Int)) (by rw [zby (by omega) (by omega)]; omega) (by rw [zby (by omega) (by omega)]; omega);obtain ⟨s', hs1, hs2⟩ := sto_tot (l := s) (i := i) (x := decide (1 ≤ add64 w.hi z)) (by omega);simp only [zg.l1, hlt, if_true, hw, ya, hz, za (show i < s.length by omega), hs1];rw [zb (by omega)];exact hr s' (by omega)
 ·have hge : decide (((K * K : Nat) : Int) < ((List.replicate (K * K) false).length : Int)) = false := by simp
  simp only [zg.l1, hge, ye, if_false];obtain ⟨cyc, hc1, hc2, hc3⟩ := Cycles_tot (n := n) (size := c.size) (edges := s) hs h1 h6 hI hn;rw [hc1, ya];have := za1 (body := zg.l2 n c e f cyc) (k := cyc.length) (n := n) (st := fun (s : List (List Row)) i => (s, (i : Int))) (fun i s => s.length ≤ i ∧ ∀ rows ∈ s, rows.length ≤ 6 ∧ ∀ row ∈ rows, row.terms.length ≤ 1) ziD
   (fun rec i s hi hI hr => ?_) (fun rec s hI => ?_) (by omega) [] ⟨by simp, by simp⟩
  ·simpa using this
  ·simp only [zg.l2, zh hi, if_true, jn, za hi, ya];refine cases3_tot (K := K) (hc3 _ (yg hi)) h6 he hf hn (by have := hI.1; omega) fun b hb hbr => ?_
   rw [zb (by omega)];exact hr b ⟨by have := hI.1; omega, fun rows hrows => (hbr rows hrows).elim (hI.2 rows) id⟩
  ·simp only [zg.l2, zah, ye, if_false];exact ⟨s, rfl, by have := hI.1; omega, hI.2⟩
theorem fits_eq {n K : Nat} {r} (hl : r.terms.length < 1000000) (hn : 1000000 ≤ n) : zbz n (K : Int) r = some (rowOK K r) := by
 have := zbA (body := zbz.l1 n (K : Int) r) (len := r.terms.length) (st := fun (s : Int) i => (s, (i : Int))) (g := fun i s => some (rowP K s (r.terms.drop i) && zau r.bound 1000000000)) (fun _ _ => True) (fun rec i s hi _ hr => ?_) (fun rec s _ => ?_) n 0 (-1) (yp _) (by omega) trivial
 ·simpa [zbz, rowOK] using this
 ·simp only [zbz.l1, zh hi, if_true, za hi, ya, zb (i := i) (by omega), hr r.terms[i].cell trivial];rw [zj hi, rowP];by_cases h : (decide (s < r.terms[i].cell) && decide (r.terms[i].cell < (K : Int)) && (r.terms[i].factor != 0) && zau r.terms[i].factor 1000) = true
  ·rw [h, yD];simp only [zau, yb, yd, bne_iff_ne] at h;rw [if_neg (by simp; omega)]
  ·rw [if_pos (by
    simp only [zau, yb, yd, bne_iff_ne, ne_eq] at h;simp only [yz, yd, beq_iff_eq];omega)]
   simp only [yF] at h;rw [h]; rfl
 ·simp [zbz.l1, zau, rowP]
theorem ref17_Row_eq {n K : Nat} {r} (hl : r.terms.length < 1000000) (hn : 1000000 ≤ n) : zdw n r (K : Int) = some (rowOK K r) := by
 have := zbA (body := zdw.l1 n r (K : Int)) (len := r.terms.length) (st := fun (s : Int) i => (s, (i : Int))) (g := fun i s => some (rowP K s (r.terms.drop i) && zau r.bound 1000000000)) (fun _ _ => True) (fun rec i s hi _ hr => ?_) (fun rec s _ => ?_) n 0 (-1) (yp _) (by omega) trivial
 ·simpa [zdw, rowOK] using this
 ·simp only [zdw.l1, zh hi, if_true, za hi, ya, zaJ, yj, yr, grd, yf, zb (i := i) (by omega), hr r.terms[i].cell trivial];rw [zj hi, rowP];by_cases h : (decide (s < r.terms[i].cell) && decide (r.terms[i].cell < (K : Int)) && (r.terms[i].factor != 0) && zau r.terms[i].factor 1000) = true
  ·rw [h, yD];simp only [zau, yb, yd, bne_iff_ne] at h;rw [if_neg (by simp; omega)]
  ·rw [if_pos (by
    simp only [zau, yb, yd, bne_iff_ne, ne_eq] at h;simp only [yz, yd, beq_iff_eq, yx, ut, yC];omega)]
   simp only [yF] at h;rw [h]; rfl
 ·simp [zdw.l1, zaJ, zau, rowP]
def shortR (R : List Row) : Prop := R.length < 1000000 ∧ ∀ r ∈ R, r.terms.length < 1000000
theorem zhp {n : Nat} {box : List Range} {R : List Row} (hg : goodB box = true) (hl : box.length ≤ 100) (hR : shortR R) (hn : 1000000 ≤ n) : zO n box R = some (R.all (rowOK box.length)) := by
 unfold zO;rw [if_neg (by simp; omega)];have := zF (body := zO.l1 n box R) (len := box.length) (st := fun i => (i : Int)) (g := fun _ => some (R.all (rowOK box.length))) (fun rec i hi hr => ?_) (fun rec => ?_) n 0 (yp _) (by omega)
 ·simpa using this
 ·have := ym.1 hg _ (yg hi);simp only [yb, yd] at this;have h1 : (decide (-1000000 ≤ box[i].lo) && decide (box[i].lo ≤ 1000000)) = true := by simp; omega
  have h2 : (decide (-1000000 ≤ box[i].hi) && decide (box[i].hi ≤ 1000000)) = true := by simp; omega
  simp only [zO.l1, zh hi, if_true, za hi, ya, zaJ, h1, h2, yj, yr, grd, yf, y8, uO, ye, if_false, zb (i := i) (by omega), hr]
 ·simp only [zO.l1, zah, ye, if_false];have hR1 := hR.1;have := zaf (body := zO.l2 n box R) (l := R) (n := n) (st := fun i => (i : Int)) (rowOK box.length) (some false) (some true) (fun rec i hi => ?_) (fun rec => ?_) (by omega)
  ·rw [show ((0 : Nat) : Int) = 0 from rfl] at this;rw [this]; split <;> simp_all
  ·simp only [zO.l2, zh hi, if_true, za hi, ya, ref17_Row_eq (hR.2 _ (yg hi)) hn, zb (i := i) (by omega)];cases rowOK box.length R[i] <;> simp
  ·simp [zO.l2]
theorem ref17_Empty_eq {n box} (hg : goodB box = true) (hl : box.length ≤ 100) (hn : 1000000 ≤ n) : zbK n box = some false := by
 unfold zbK;have := zF (body := zbK.l1 n box) (len := box.length) (st := fun i => (i : Int)) (g := fun _ => some false) (fun rec i hi hr => ?_) (fun rec => ?_) n 0 (yp _) (by omega)
 ·simpa using this
 ·have := ym.1 hg _ (yg hi);simp only [yb, yd] at this;simp only [zbK.l1, zh hi, if_true, za hi, ya];rw [if_neg (by simp; omega), zb (by omega), hr]
 ·simp [zbK.l1]
theorem zhx {n l f p} (hf : ∀ x ∈ l, f x = some (p x)) (hl : l.length < 1000000) (hn : 1000000 ≤ n) : zan n l f = some (l.any p) := by
 unfold zan zB;have := zF (body := zB.l1 n l f) (len := l.length) (st := fun i => (i : Int)) (g := fun i => some (ixP p (l.drop i) i)) (fun rec i hi hr => ?_) (fun rec => ?_) n 0 (yp _) (by omega)
 ·rw [show ((0 : Nat) : Int) = 0 from rfl] at this;rw [this, ya, List.drop_zero, zgk]
 ·simp only [zB.l1, zh hi, if_true, za hi, ya, hf _ (yg hi), zb (i := i) (by omega), hr];rw [zj hi]; simp only [ixP];cases p l[i] <;> simp
 ·simp [zB.l1, ixP]
theorem zf8 {n l f p} (hf : ∀ x ∈ l, f x = some (p x)) (hl : l.length < 1000000) (hn : 1000000 ≤ n) : zaT n l f = some (l.any p) := by
 unfold zaT zT;have := zF (body := zT.l1 n l f) (len := l.length) (st := fun i => (i : Int)) (g := fun i => some (ixP p (l.drop i) i)) (fun rec i hi hr => ?_) (fun rec => ?_) n 0 (yp _) (by omega)
 ·rw [show ((0 : Nat) : Int) = 0 from rfl] at this;rw [this, ya, List.drop_zero, zgk]
 ·simp only [zT.l1, zh hi, if_true, za hi, ya, hf _ (yg hi), zb (i := i) (by omega), hr];rw [zj hi]; simp only [ixP];cases p l[i] <;> simp
 ·simp [zT.l1, ixP]
theorem zfi {n box R} (hg : goodB box = true) (hl : box.length ≤ 100) (hR : shortR R) (hn : 1000000 ≤ n) : zbD n box R = some (R.all (rowOK box.length)) := by
 have hb : zbS n box = some true := by
  unfold zbS;have := zF (body := zbS.l1 n box) (len := box.length) (st := fun i => (i : Int)) (g := fun _ => some true) (fun rec i hi hr => ?_) (fun rec => ?_) n 0 (yp _) (by omega)
  ·simpa using this
  ·have := ym.1 hg _ (yg hi);simp only [yb, yd] at this;simp only [zbS.l1, zh hi, if_true, za hi, ya];rw [if_neg (by simp; omega), zb (by omega), hr]
  ·simp [zbS.l1]; omega
 have hc : zl n R (fun q0 => zbP n q0 box) = some (R.any fun r => !rowOK box.length r) := zcx (fun x hx => by
  unfold zbP;rw [fits_eq (hR.2 x hx) hn]; rfl) hR.1 hn
 unfold zbD;rw [hb, hc];simp [grd, List.all_eq_not_any_not]
theorem ziS {n box} (hg : goodB box = true) (hl : box.length ≤ 100) (hn : 1000000 ≤ n) : zbZ n box = some false := by
 unfold zbZ;rw [zhx (f := fun q0 => zeY n q0) (p := fun r => decide (r.hi < r.lo)) (fun x _ => rfl) (by omega) hn, ya];congr 1;rw [List.any_eq_false];intro r hr;have := ym.1 hg _ hr;simp only [yb, yd] at this;simp; omega
def zhG (x : Int) : Bool := decide (x < -4000000) || decide (4000000 < x)
def zh2 (K : Nat) (g : Graph) : Bool := (((decide (g.size < 1) || decide (6 < g.size)) || decide (g.first < 0)) || decide (sub64 (K : Int) (mul64 g.size g.size) < g.first)) || ((g.least.length : Int) != mul64 g.size g.size)
def zc0 (K : Nat) (g : Graph) : Bool := !zh2 K g && !g.least.any zhG
def caseV (K : Nat) (rows : List Row) : Bool := decide (rows.length ≤ 64) && rows.all (rowOK K)
def sysP (K : Nat) (R : List Row) (G : List Graph) (cs : List (List Row)) : Bool := (decide (R.length ≤ 1024) && R.all (rowOK K) && decide (G.length ≤ 64) && decide (cs.length ≤ 1024)) && (G.all (zc0 K) && cs.all (caseV K))
structure SysOK (R : List Row) (G : List Graph) (cs : List (List Row)) : Prop where
 rows : shortR R
 graphs : G.length < 1000000 ∧ ∀ g ∈ G, g.least.length < 1000000
 cases : cs.length < 1000000 ∧ ∀ rows ∈ cs, shortR rows
theorem zkU {n K : Nat} {g} (hl : g.least.length < 1000000) (hn : 1000000 ≤ n) : zeT n (K : Int) g = some (zc0 K g) := by
 unfold zeT zc0;by_cases h : zh2 K g = true
 ·have h' := h;unfold zh2 at h';rw [if_pos h', h]; rfl
 ·have h' := h;unfold zh2 at h';rw [if_neg h', zb3 (f := fun q0 => ze8 n q0) (p := zhG) (fun x _ => rfl) (by omega) (by omega), ya];simp only [yF] at h;rw [h]; rfl
theorem zkS {n : Nat} {box : List Range} {R : List Row} {G : List Graph} {cs : List (List Row)} (hg : goodB box = true) (hl : box.length ≤ 100) (hS : SysOK R G cs) (hn : 1000000 ≤ n) : za3 n ⟨box, R, G, cs⟩ = some (sysP box.length R G cs) := by
 unfold za3;have hrows : ∀ (rows : List Row) (k : Int), shortR rows → zdc n ⟨box, R, G, cs⟩ rows k = some (decide ((rows.length : Int) ≤ k) && rows.all (rowOK box.length)) := fun rows k hr => by
  unfold zdc;simp only [zfi hg hl hr hn, yj, yr, grd, if_true, yf]
 have hbox : zbD n box [] = some true := by rw [zfi hg hl ⟨by simp, by simp⟩ hn]; rfl
 simp only [hbox, ya, ziS hg hl hn, hrows R 1024 hS.rows, yj, yr, grd, if_true, yf, y8, uw];have hloop : loopF (za3.l1 n ⟨box, R, G, cs⟩) n 0 = some (G.all (zc0 box.length) && cs.all (caseV box.length)) := by
  have := zaf (body := za3.l1 n ⟨box, R, G, cs⟩) (l := G) (n := n) (st := fun i => (i : Int)) (zc0 box.length) (some false) (some (cs.all (caseV box.length))) (fun rec i hi => ?_) (fun rec => ?_) (by have := hS.graphs.1; omega)
  ·rw [show ((0 : Nat) : Int) = 0 from rfl] at this;rw [this]; cases G.all (zc0 box.length) <;> rfl
  ·simp only [za3.l1, zh hi, if_true, za hi, ya, zkU (hS.graphs.2 _ (yg hi)) hn, zb (show i < 4611686018427387904 by have := hS.graphs.1; omega)];cases zc0 box.length G[i] <;> simp
  ·simp only [za3.l1, zah, ye, if_false];rw [zf8 (p := fun rows => !caseV box.length rows) (fun x hx => by
    unfold ze7;rw [hrows x 64 (hS.cases.2 x hx), ya];congr 2;unfold caseV;congr 1;exact decide_eq_decide.2 (by omega)) hS.cases.1 hn, ya]
   simp [List.all_eq_not_any_not]
 have e1 : decide ((R.length : Int) ≤ 1024) = decide (R.length ≤ 1024) := decide_eq_decide.2 (by omega);have e2 : decide (64 < (G.length : Int)) = !decide (G.length ≤ 64) := by rw [← decide_not]; exact decide_eq_decide.2 (by omega)
 have e3 : decide (1024 < (cs.length : Int)) = !decide (cs.length ≤ 1024) := by rw [← decide_not]; exact decide_eq_decide.2 (by omega)
 rw [hloop, e1, e2, e3];unfold sysP;generalize decide (R.length ≤ 1024) = a;generalize R.all (rowOK box.length) = b;generalize decide (G.length ≤ 64) = c;generalize decide (cs.length ≤ 1024) = d;cases a <;> cases b <;> cases c <;> cases d <;> rfl
theorem ref18_Valid_eq {n box R G cs} (hg : goodB box = true) (hl : box.length ≤ 100) (hS : SysOK R G cs) (hn : 1000000 ≤ n) : zY n ⟨box, R, G, cs⟩ = some (sysP box.length R G cs) := by
 unfold zY;simp only [zhp hg hl hS.rows hn, ref17_Empty_eq hg hl hn, yj, yr, grd, if_true, yf, uS];have hgr : ∀ i (rec : Int → Option Bool) (hi : i < G.length), zY.l2 n ⟨box, R, G, cs⟩ rec (i : Int) = if zc0 box.length G[i] = true then rec ((i + 1 : Nat) : Int) else some false := fun i rec hi => by
  have hgl := hS.graphs.2 _ (yg hi);have h3 := zaf (body := zY.l3 n (i : Int) rec G[i]) (l := G[i].least) (n := n) (st := fun j => (j : Int)) (fun x => !zhG x) (some false) (rec (add64 (i : Int) 1)) (fun rec' j hj => ?_) (fun rec' => ?_) (by omega)
  ·rw [show ((0 : Nat) : Int) = 0 from rfl] at h3;simp only [zY.l2, zh hi, if_true, za hi, ya, h3, zb (show i < 4611686018427387904 by have := hS.graphs.1; omega)];by_cases h : zh2 box.length G[i] = true
   ·have h' := h;unfold zh2 at h';rw [if_pos h', if_neg (by unfold zc0; rw [h]; simp)]
   ·have h' := h;unfold zh2 at h';rw [if_neg h'];have e : zc0 box.length G[i] = G[i].least.all fun x => !zhG x := by
     unfold zc0;simp only [yF] at h;rw [h, uD, yD, List.all_eq_not_any_not];simp
    rw [e]
  ·simp only [zY.l3, zh hj, if_true, za hj, ya, yj, yr, grd, yf, zb (i := j) (by omega)];by_cases h : zhG G[i].least[j] = true
   ·have h' := h;unfold zhG at h';rw [if_pos h', h]; rfl
   ·have h' := h;unfold zhG at h';simp only [yF] at h;rw [if_neg h', h]; rfl
  ·simp [zY.l3]
 have hloop : loopF (zY.l1 n ⟨box, R, G, cs⟩) n 0 = some (G.all (zc0 box.length) && cs.all (caseV box.length)) := by
  have := zaf (body := zY.l1 n ⟨box, R, G, cs⟩) (l := cs) (n := n) (st := fun i => (i : Int)) (caseV box.length) (some false) (some (G.all (zc0 box.length))) (fun rec i hi => ?_) (fun rec => ?_) (by have := hS.cases.1; omega)
  ·rw [show ((0 : Nat) : Int) = 0 from rfl] at this;rw [this]; cases cs.all (caseV box.length) <;> cases G.all (zc0 box.length) <;> rfl
  ·simp only [zY.l1, zh hi, if_true, za hi, ya, zhp hg hl (hS.cases.2 _ (yg hi)) hn, yj, yr, grd, yf, zb (show i < 4611686018427387904 by have := hS.cases.1; omega)];unfold caseV;by_cases h : cs[i].length ≤ 64
   ·rw [decide_eq_true h, decide_eq_false (by omega), yD, uw];cases cs[i].all (rowOK box.length) <;> rfl
   ·rw [decide_eq_false h, decide_eq_true (show (64 : Int) < (cs[i].length : Int) by omega)];rfl
  ·simp only [zY.l1, zah, ye, if_false];have := zaf (body := zY.l2 n ⟨box, R, G, cs⟩) (l := G) (n := n) (st := fun i => (i : Int)) (zc0 box.length) (some false) (some true) (fun rec i hi => hgr i rec hi) (fun rec => ?_) (by have := hS.graphs.1; omega)
   ·rw [show ((0 : Nat) : Int) = 0 from rfl] at this;rw [this]; cases G.all (zc0 box.length) <;> rfl
   ·simp [zY.l2]
 have e1 : decide (1024 < (R.length : Int)) = !decide (R.length ≤ 1024) := by rw [← decide_not]; exact decide_eq_decide.2 (by omega)
 have e2 : decide (64 < (G.length : Int)) = !decide (G.length ≤ 64) := by rw [← decide_not]; exact decide_eq_decide.2 (by omega)
 have e3 : decide (1024 < (cs.length : Int)) = !decide (cs.length ≤ 1024) := by rw [← decide_not]; exact decide_eq_decide.2 (by omega)
 rw [hloop, e1, e2, e3];unfold sysP;generalize decide (R.length ≤ 1024) = a;generalize R.all (rowOK box.length) = b;generalize decide (G.length ≤ 64) = c;generalize decide (cs.length ≤ 1024) = d;cases a <;> cases b <;> cases c <;> cases d <;> rfl
theorem zgQ {n : Nat} {r} {f g : Int → Option Int} {fP : Int → Int} {B : Int} (hf : ∀ x, f x = some (fP x)) (hg : g r.bound = some B) (hl : r.terms.length ≤ 1000) (hn : 1000000 ≤ n) : zM n r f g = some ⟨r.terms.map fun t => ⟨t.cell, fP t.factor⟩, B⟩ := by
 unfold zM;rw [hg, ya];have := zkt (body := zM.l1 n r f B) (l := r.terms) (n := n) (st := fun b i => (b, (i : Int))) (fun t => (⟨t.cell, fP t.factor⟩ : Term)) (fun b => some (⟨b, B⟩ : Row)) [] (fun rec b i hi hb => ?_) (fun rec b hb => ?_) (by omega)
 ·simpa using this
 ·simp only [zM.l1, zh hi, if_true, za hi, ya, hf];rw [zq (by simp at hb; simp; omega), ya, zb (by omega)]
 ·simp [zM.l1]
theorem same_eq {n : Nat} {r} (hl : r.terms.length ≤ 1000) (hn : 1000000 ≤ n) : zM n r (fun q0 => zbl n q0) (fun q0 => zbl n q0) = some r := by
 rw [zgQ (f := fun q0 => zbl n q0) (g := fun q0 => zbl n q0) (fP := id) (B := r.bound) (fun _ => rfl) rfl hl hn];simp
theorem graph_tot {n K : Nat} {c} {f : Int → Option Int} (hK : mul64 c.size c.size = (K : Int)) (hK2 : K ≤ 36) (hf : ∀ x, ∃ y, f x = some y) (hn : 1000000 ≤ n) : ∃ g, zL n c f = some g ∧ g.least.length ≤ 36 := by
 unfold zL;have := za1 (body := zL.l1 n c f) (k := K) (n := n) (st := fun (b : List Int) i => (b, (i : Int))) (fun i b => b.length ≤ i) (fun g : Graph => g.least.length ≤ 36) (fun rec i b hi hI hr => ?_) (fun rec b hI => ?_) (by omega) [] (by simp)
 ·simpa using this
 ·obtain ⟨y, hy⟩ := hf (add64 c.first (i : Int));simp only [zL.l1, hK, zcy hi, if_true, hy, ya];rw [zq (by simp; omega), ya, zb (by omega)];exact hr _ (by simp; omega)
 ·simp only [zL.l1, hK, zb9 (yn K), ye, if_false];exact ⟨_, rfl, by simp; omega⟩
structure ConOK (K : Nat) (c : Constraint) : Prop where
 kind : c.kind = 0 ∨ c.kind = 1
 len : c.row.terms.length ≤ 1000
 sz : c.kind = 1 → ∃ s : Nat, c.size = (s : Int) ∧ 1 ≤ s ∧ s ≤ 6 ∧ 0 ≤ c.first ∧ c.first + ((s * s : Nat) : Int) ≤ (K : Int)
theorem ConOK.mul {K c} (h : ConOK K c) (hk : c.kind = 1) : ∃ k : Nat, mul64 c.size c.size = (k : Int) ∧ k ≤ 36 := by
 obtain ⟨s, h1, h2, h3, -⟩ := h.sz hk;have h4 : s * s ≤ 36 := yY h3 h3;refine ⟨s * s, ?_, h4⟩;rw [h1, zeb (by rw [← yK]; omega) (by rw [← yK]; omega)]; simp
structure ActOK (a : Action) : Prop where
 delta : a.effect.delta.length ≤ 20
 hold : a.effect.hold.length ≤ 10
 terms : ∀ r ∈ a.effect.hold, r.terms.length ≤ 1000
theorem raised_tot {n K a c} (ha : ActOK a) (hc : ConOK K c) (hk : c.kind = 1) (hn : 1000000 ≤ n) : ∃ l, zn n a c = some l := by
 obtain ⟨k, h1, h2⟩ := hc.mul hk;have := ha.delta;exact ⟨_, zel h1 (by omega) (by omega) (by omega) (by omega)⟩
theorem change_tot {n a r} (ha : ActOK a) (hr : r.terms.length ≤ 1000) (hn : 1000000 ≤ n) : ∃ x, zm n a r = some x := by
 have := ha.delta;exact ⟨_, zc8 (by omega) (by omega) (by omega) (by omega)⟩
noncomputable def gr (n : Nat) (c : Constraint) (f : Int → Option Int) : Graph := (zL n c f).getD default
noncomputable def gS (n : Nat) (ef : Bool) (a b : Action) (c : Constraint) : List Graph :=
 if (c.kind != 1) = true then [] else
  [gr n c fun q0 => zbs n q0] ++ ((if (decide (0 < (((zn n a c).getD []).length : Int))) = true then [gr n c fun q0 => z9 n q0 a] else []) ++
   (if (ef && decide (0 < (((zn n b c).getD default).length : Int))) = true then [gr n c fun q0 => zaa n q0 b] else []))
noncomputable def finS (n : Nat) (box : List Range) (a b : Action) (R : List Row) (c : Constraint) (G : List Graph) : Option (System × Int) :=
  jn (fun (v : (List Row) × (List (List Row))) =>
   let b6_150 := v.1
   let c3_3_151 := v.2
   (za3 n (⟨box, b6_150, G, c3_3_151⟩ : System)).bind fun x267_155 =>
   if (!x267_155) = true then
    some ((⟨[], [], [], []⟩ : System), 8)
   else
    some ((⟨box, b6_150, G, c3_3_151⟩ : System), 0)) fun k_152 =>
  if (c.kind == 1) = true then
   (zg n box c a b).bind fun x254_153 =>
   if ((x254_153.length : Int) == 0) = true then
    (app 32 R [(⟨[], (-1)⟩ : Row)]).bind fun x264_154 =>
    k_152 (x264_154, x254_153)
   else
    k_152 (R, x254_153)
  else
   k_152 (R, [])
theorem zfg {n K : Nat} {c} {f : Int → Option Int} (hc : ConOK K c) (hk : c.kind = 1) (hf : ∀ x, ∃ y, f x = some y) (hn : 1000000 ≤ n) : zL n c f = some (gr n c f) ∧ (gr n c f).least.length ≤ 36 := by
 obtain ⟨k, h1, h2⟩ := hc.mul hk;obtain ⟨g, h3, h4⟩ := graph_tot h1 h2 hf hn;unfold gr;rw [h3];exact ⟨rfl, h4⟩
theorem gS_len {n K ef a b c} (ha : ActOK a) (hb : ActOK b) (hc : ConOK K c) (hn : 1000000 ≤ n) : (gS n ef a b c).length ≤ 3 ∧ ∀ g ∈ gS n ef a b c, g.least.length ≤ 36 := by
 unfold gS;split
 ·simp
 ·rename_i hk;have hk : c.kind = 1 := by simpa using hk
  have f3 : ∀ x, ∃ y, z9 n x a = some y := fun x => by
   unfold z9;have := ha.delta;rw [zab _ (by omega) (by omega)]; exact ⟨_, rfl⟩
  have f4 : ∀ x, ∃ y, zaa n x b = some y := fun x => by
   unfold zaa;have := hb.delta;rw [zab _ (by omega) (by omega)]; exact ⟨_, rfl⟩
  have g2 := (zfg (f := fun q0 => zbs n q0) hc hk (fun x => ⟨_, rfl⟩) hn).2;have g3 := (zfg (f := fun q0 => z9 n q0 a) hc hk f3 hn).2;have g4 := (zfg (f := fun q0 => zaa n q0 b) hc hk f4 hn).2;constructor
  ·split <;> split <;> simp
  ·intro g hg;simp only [yG, yO] at hg;rcases hg with hg | hg | hg
   ·subst hg; exact g2
   ·split at hg
    ·simp at hg; subst hg; exact g3
    ·simp at hg
   ·split at hg
    ·simp at hg; subst hg; exact g4
    ·simp at hg
theorem gloop_eq {n K m q a b box R c} (ha : ActOK a) (hb : ActOK b) (hc : ∀ c ∈ m.constraints, ConOK K c) (hl : m.constraints.length ≤ 1000) (hn : 1000000 ≤ n) :
  loopF (ze.l4 n m q a b box R c.kind c.family c.row.terms c.row.bound c.first c.size) n ([], 0) = finS n box a b R c ((List.range m.constraints.length).flatMap fun i => gS n (q.e != q.f) a b (m.constraints.getD i default)) := by
 have := zcD (body := ze.l4 n m q a b box R c.kind c.family c.row.terms c.row.bound c.first c.size) (k := m.constraints.length) (n := n) (st := fun b i => (b, (i : Int))) (fun i => gS n (q.e != q.f) a b (m.constraints.getD i default)) (finS n box a b R c) 3 []
  (fun i hi => ?_) (fun rec b7 i hi hI => ?_) (fun rec b7 hI => ?_) (by omega)
 ·simpa using this
 ·have e : m.constraints.getD i default = m.constraints[i] := by simp [List.getD, hi]
  rw [e];exact (gS_len ha hb (hc _ (yg hi)) hn).1
 ·have e : m.constraints.getD i default = m.constraints[i] := by simp [List.getD, hi]
  have hci := hc _ (yg hi);have hI' : b7.length ≤ 3000 := by simp at hI; omega
  simp only [ze.l4, zh hi, if_true, jn, za hi, ya, e, zb (i := i) (by omega)];unfold gS;by_cases hk : (m.constraints[i].kind != 1) = true
  ·rw [if_pos hk, if_pos hk, ug]
  ·rw [if_neg hk, if_neg hk];have hk : m.constraints[i].kind = 1 := by simpa using hk
   have f3 : ∀ x, ∃ y, z9 n x a = some y := fun x => by
    unfold z9;have := ha.delta;rw [zab _ (by omega) (by omega)]; exact ⟨_, rfl⟩
   have f4 : ∀ x, ∃ y, zaa n x b = some y := fun x => by
    unfold zaa;have := hb.delta;rw [zab _ (by omega) (by omega)]; exact ⟨_, rfl⟩
   obtain ⟨ra, hra⟩ := raised_tot ha hci hk hn;obtain ⟨rb, hrb⟩ := raised_tot hb hci hk hn;rw [(zfg (f := fun q0 => zbs n q0) hci hk (fun x => ⟨_, rfl⟩) hn).1, (zfg (f := fun q0 => z9 n q0 a) hci hk f3 hn).1, (zfg (f := fun q0 => zaa n q0 b) hci hk f4 hn).1, hra, hrb];simp only [ya, yf, yj, yr, grd, if_true];rw [zq (by simp; omega), ya];by_cases h3 : (decide (0 < (ra.length : Int))) = true
   ·rw [if_pos h3, if_pos h3, zq (by simp; omega), ya];by_cases h4 : ((q.e != q.f) && decide (0 < (rb.length : Int))) = true
    ·rw [if_pos h4, if_pos h4, zq (by simp; omega), ya];simp only [yJ]
    ·rw [if_neg h4, if_neg h4];simp only [yJ, ug]
   ·rw [if_neg h3, if_neg h3];by_cases h4 : ((q.e != q.f) && decide (0 < (rb.length : Int))) = true
    ·rw [if_pos h4, if_pos h4, zq (by simp; omega), ya];simp only [yJ, yV]
    ·rw [if_neg h4, if_neg h4];simp only [ug]
 ·simp only [ze.l4, zah, ye, if_false];rfl
noncomputable def zhz (n : Nat) (m : Model) (q : Question) (a b : Action) (box : List Range) (R : List Row) : Option (System × Int) :=
  jn (fun (v : (List Row) × Int × Int × (List Term) × Int × Int × Int) =>
   let b6_84 := v.1
   let c9_0_85 := v.2.1
   let c9_1_86 := v.2.2.1
   let c9_2_87 := v.2.2.2.1
   let c9_3_88 := v.2.2.2.2.1
   let c9_4_89 := v.2.2.2.2.2.1
   let c9_5_90 := v.2.2.2.2.2.2
   loopF (ze.l4 n m q a b box b6_84 c9_0_85 c9_1_86 c9_2_87 c9_3_88 c9_4_89 c9_5_90) n (([] : List Graph), 0)) fun k_91 =>
  if q.target.hold = true then
   (idx a.effect.hold q.target.index).bind fun x164_92 =>
   (zm n b x164_92).bind fun x170_93 =>
   (zM n x164_92 (fun q0 => zbg n q0) (fun q0 => zaP n q0 x170_93)).bind fun x9_94 =>
   (app 32 R [x9_94]).bind fun x11_95 =>
   k_91 (x11_95, 0, 0, [], 0, 0, 0)
  else
   (idx m.constraints q.target.index).bind fun x177_96 =>
   if (x177_96.kind == 0) = true then
    (zm n a x177_96.row).bind fun x188_97 =>
    (zm n b x177_96.row).bind fun x192_98 =>
    (zM n x177_96.row (fun q0 => zbg n q0) (fun q0 => zaP n q0 (add64 x188_97 x192_98))).bind fun x9_99 =>
    (app 32 R [x9_99]).bind fun x11_100 =>
    k_91 (x11_100, x177_96.kind, x177_96.family, x177_96.row.terms, x177_96.row.bound, x177_96.first, x177_96.size)
   else
    k_91 (R, x177_96.kind, x177_96.family, x177_96.row.terms, x177_96.row.bound, x177_96.first, x177_96.size)
noncomputable def tailS (n : Nat) (m : Model) (q : Question) (a b : Action) (box : List Range) (R : List Row) : Option (System × Int) :=
  (app 32 [] a.effect.hold).bind fun x128_64 =>
  jn (fun (v : (List Row)) =>
   let b8_65 := v
   loopF (ze.l3 n m q a b box b8_65) n (R, 0)) fun k_66 =>
  if (q.e != q.f) = true then
   (app 32 x128_64 b.effect.hold).bind fun x138_67 =>
   k_66 x138_67
  else
   k_66 x128_64
def endS (n : Nat) (S : System) (v : Option Bool) : Option (System × Int) := v.bind fun v => if (!v) = true then some ((⟨[], [], [], []⟩ : System), 8) else some (S, 0)
noncomputable def chgN (n : Nat) (a : Action) (r : Row) : Int := (zm n a r).getD 0
noncomputable def kS (n : Nat) (q : Question) (rows : List Int) (a b : Action) (i : Nat) (c : Constraint) : Int :=
 if (decide ((i : Int) ∈ rows) && (q.target.hold || (q.target.index != (i : Int)))) = true then gmax (gmax (gmax 0 (chgN n a c.row)) (chgN n b c.row)) (add64 (chgN n a c.row) (chgN n b c.row)) else gmax (gmax 0 (chgN n a c.row)) (chgN n b c.row)
noncomputable def rowS (n : Nat) (q : Question) (rows : List Int) (a b : Action) (i : Nat) (c : Constraint) : List Row := if (c.kind != 0) = true then [] else [⟨c.row.terms, sub64 c.row.bound (kS n q rows a b i c)⟩]
noncomputable def rowsR (n : Nat) (m : Model) (q : Question) (rows : List Int) (a b : Action) : List Row := (List.range m.constraints.length).flatMap fun i => rowS n q rows a b i (m.constraints.getD i default)
theorem zfb {n a r} (ha : ActOK a) (hr : r.terms.length ≤ 1000) (hn : 1000000 ≤ n) : zm n a r = some (chgN n a r) := by
 obtain ⟨x, hx⟩ := change_tot ha hr hn;unfold chgN;rw [hx]; rfl
theorem rows_loop {n m q rows a b box} (ha : ActOK a) (hb : ActOK b) (hc : ∀ c ∈ m.constraints, ConOK box.length c) (hl : m.constraints.length ≤ 1000) (hr : rows.length ≤ 1000) (hn : 1000000 ≤ n) :
  loopF (ze.l2 n m q rows a b box) n ([], 0) = tailS n m q a b box (rowsR n m q rows a b) := by
 have := zcD (body := ze.l2 n m q rows a b box) (k := m.constraints.length) (n := n) (st := fun b i => (b, (i : Int))) (fun i => rowS n q rows a b i (m.constraints.getD i default)) (tailS n m q a b box) 1 []
  (fun i hi => ?_) (fun rec b6 i hi hI => ?_) (fun rec b6 hI => ?_) (by omega)
 ·simpa [rowsR] using this
 ·unfold rowS; split <;> simp
 ·have e : m.constraints.getD i default = m.constraints[i] := by simp [List.getD, hi]
  have hci := hc _ (yg hi);have hI' : b6.length ≤ 3000 := by simp at hI; omega
  rw [e];simp only [ze.l2, zh hi, if_true, jn, za hi, ya, zfb ha hci.len hn, zfb hb hci.len hn, zdZ (show rows.length < 1000000 by omega) hn];unfold rowS;by_cases hk : (m.constraints[i].kind != 0) = true
  ·rw [if_pos hk, if_pos hk, ug, zb (by omega)]
  ·rw [if_neg hk, if_neg hk];have hch := fun k : Int => zgQ (n := n) (r := m.constraints[i].row) (f := fun q0 => zbl n q0) (g := fun q0 => zd1 n q0 k) (fP := id) (B := sub64 m.constraints[i].row.bound k) (fun _ => rfl) rfl hci.len hn
   have hid : (m.constraints[i].row.terms.map fun t => (⟨t.cell, id t.factor⟩ : Term)) = m.constraints[i].row.terms := by simp
   simp only [hid] at hch;unfold kS;split <;> (rw [hch, ya, zq (by first | omega | (simp; omega)), ya, zb (by omega)])
 ·simp only [ze.l2, zah, ye, if_false];rfl
def badR (m : Model) (x : Int) : Bool := (decide (x < 0) || decide ((m.constraints.length : Int) ≤ x)) || (((idx m.constraints x).getD default).kind != 0)
theorem System_closed {n m q rows a b} (hF : Fuel n) (hS : SmallM m) (hV : ValidM m) (hq : zgB m q = true) (ha : idx m.actions q.e = some a) (hb : idx m.actions q.f = some b) (hA : ActOK a) (hB : ActOK b) (hc : ∀ c ∈ m.constraints, ConOK (boxM m).length c) (hr : rows.length ≤ 1000) :
  ze n m q rows = if (rows.all fun x => !badR m x) = true then tailS n m q a b (boxM m) (rowsR n m q rows a b) else some (⟨[], [], [], []⟩, 2) := by
 have hn := hF.big;have hn : 1000000 ≤ n := by omega
 have hcl := hS.constraints;have hst : zeL n m = some (boxM m) := by
  unfold zeL zgw;rw [zhf hF hS, zgZ.2 hV, ya, if_neg (by simp), zga hF (by have := hS.sorts; omega) (by have := hS.tables; omega) (fun t ht => by have := (hS.tab t ht).2; omega), if_pos hV.lay];rfl
 unfold ze;rw [zfy hF hS, zgZ.2 hV, hq, ya, if_neg (by simp)];have := zaf (body := ze.l1 n m q rows) (l := rows) (n := n) (st := fun i => (i : Int)) (fun x => !badR m x) (some (⟨[], [], [], []⟩, 2)) (tailS n m q a b (boxM m) (rowsR n m q rows a b)) (fun rec i hi => ?_) (fun rec => ?_) (by omega)
 ·simpa using this
 ·simp only [ze.l1, zh hi, if_true, za hi, ya];by_cases h1 : (decide (rows[i] < 0) || decide ((m.constraints.length : Int) ≤ rows[i])) = true
  ·have hbad : badR m rows[i] = true := by unfold badR; rw [h1]; rfl
   rw [hbad];simp only [h1, uG, grd, if_true, y8, ye, if_false]
  ·have h2 := h1;simp only [yz, yd, not_or, Int.not_le, Int.not_lt] at h2;obtain ⟨c, hcx⟩ := za8 h2.1 h2.2;simp only [yF] at h1;unfold badR;simp only [h1, hcx, uw, yj, grd, if_true, yf, zb (i := i) (by omega)];cases c.kind != 0 <;> simp
 ·simp only [ze.l1, zah, ye, if_false, ha, hb, hst, ya];exact rows_loop hA hB hc (by omega) hr hn
theorem Acyclic_tot {n K : Nat} {E : List Bool} (hK : K ≤ 6) (hE : E.length = K * K) (hn : 1000000 ≤ n) : ∃ v, zc n (K : Int) E = some v := by
 have h36 : K * K ≤ 36 := yY hK hK;have main : ∃ v, zc n (K : Int) E = some v ∧ True := by
  unfold zc;have := za1 (body := zc.l1 n (K : Int) E) (k := K) (n := n) (st := fun (b : List Bool) i => (b, (i : Int))) (fun i b => b.length = i) (fun _ : Bool => True) (fun rec i b hi hI hr => ?_) (fun rec b hI => ?_) (by omega) [] rfl
  ·simpa using this
  ·simp only [zc.l1, zcy hi, if_true];rw [zq (by simp; omega), ya, zb (by omega)];exact hr _ (by simp; omega)
  ·simp only [zc.l1, zb9 (yn K), ye, if_false];have := za1 (body := zc.l2 n (K : Int) E) (k := K) (n := n) (st := fun (b : List Bool) i => (b, (i : Int))) (fun i b => b.length = K) (fun _ : Bool => True) (fun rec i b hi hI hr => ?_) (fun rec b hI => ?_) (by omega) b hI
   ·simpa using this
   ·simp only [zc.l2, zcy hi, if_true];have := za1 (body := zc.l3 n (K : Int) E (i : Int) rec) (k := K) (n := n) (st := fun (b : List Bool) j => (b, (j : Int))) (fun j b => b.length = K) (fun _ : Bool => True) (fun rec2 j b hj hI hr2 => ?_) (fun rec2 b hI => ?_) (by omega) b hI
    ·simpa using this
    ·simp only [zc.l3, zcy hj, if_true, jn, zb (i := j) (by omega)];have := za1 (body := zc.l4 n (K : Int) E b (j : Int) (fun v => rec2 (v, ((j + 1 : Nat) : Int)))) (k := K) (n := n) (st := fun (x : Bool) p => (x, (p : Int))) (fun p x => True) (fun _ : Bool => True) (fun rec3 p x hp _ hr3 => ?_) (fun rec3 x _ => ?_) (by omega) true trivial
     ·simpa using this
     ·have hpair := ze1 hp hj;have e1 : mul64 (p : Int) (K : Int) = ((p * K : Nat) : Int) := by
       unfold mul64;rw [zaL (by rw [← yK]; omega) (by rw [← yK]; omega)]; simp
      simp only [zc.l4, zcy hp, if_true, jn, za (show p < b.length by omega), ya, e1];rw [zcY (by omega), za (show p * K + j < E.length by omega)];simp only [yj, yr, grd, if_true, zb (i := p) (by omega)];split <;> exact hr3 _ trivial
     ·simp only [zc.l4, zb9 (yn K), ye, if_false];split
      ·obtain ⟨b', hb1, hb2⟩ := sto_tot (l := b) (i := j) (x := false) (by omega);rw [za (show j < b.length by omega), ya, hb1, ya];exact hr2 b' (by omega)
      ·exact hr2 b hI
    ·simp only [zc.l3, zb9 (yn K), ye, if_false, zb (i := i) (by omega)];exact hr b hI
   ·simp only [zc.l2, zb9 (yn K), ye, if_false];have := za1 (body := zc.l5 n (K : Int) b) (k := K) (n := n) (st := fun (_ : Unit) i => (i : Int)) (fun i _ => True) (fun _ : Bool => True) (fun rec i _ hi _ hr => ?_) (fun rec _ _ => ?_) (by omega) () trivial
    ·simpa using this
    ·simp only [zc.l5, zcy hi, if_true, za (show i < b.length by omega), ya];split
     ·exact ⟨_, rfl, trivial⟩
     ·rw [zb (by omega)]; exact hr () trivial
    ·simp only [zc.l5, zb9 (yn K), ye, if_false];exact ⟨_, rfl, trivial⟩
 obtain ⟨v, hv, -⟩ := main;exact ⟨v, hv⟩
noncomputable def valN (n : Nat) (r : Row) (x : List Int) : Int := (zaI n r x).getD 0
theorem Value_get {n K r x} (hr : rowOK K r = true) (hl : r.terms.length < 1000000) (hx : x.length = K) (hn : 1000000 ≤ n) : zaI n r x = some (valN n r x) := by
 have hcell : ∀ t ∈ r.terms, 0 ≤ t.cell ∧ t.cell < (K : Int) := fun t ht => by
  simp only [rowOK, yb] at hr;have := zei hr.1 (by omega) t ht;exact ⟨this.1, this.2.1⟩
 have main : ∃ v, zaI n r x = some v ∧ True := by
  unfold zaI;have := za1 (body := zaI.l1 n r x) (k := r.terms.length) (n := n) (st := fun (s : Int) i => (s, (i : Int))) (fun i s => True) (fun _ : Int => True) (fun rec i s hi _ h => ?_) (fun rec s _ => ?_) (by omega) 0 trivial
  ·simpa using this
  ·obtain ⟨c1, c2⟩ := hcell _ (yg hi);obtain ⟨y, hy⟩ := za8 (l := x) c1 (by omega);simp only [zaI.l1, zh hi, if_true, za hi, ya, hy, zb (i := i) (by omega)];exact h _ trivial
  ·simp only [zaI.l1, zah, ye, if_false];exact ⟨_, rfl, trivial⟩
 obtain ⟨v, hv, -⟩ := main;unfold valN;rw [hv]; rfl
theorem Edges_tot {n K g x} (hg : zc0 K g = true) (hx : x.length = K) (hK : K ≤ 1000) (hn : 1000000 ≤ n) : ∃ (s : Nat) (E : List Bool), g.size = (s : Int) ∧ s ≤ 6 ∧ zaY n g x = some E ∧ E.length = s * s := by
 simp only [zc0, zh2, yb, yx, ua, yC, Int.not_lt, bne_eq_false_iff_eq] at hg;obtain ⟨⟨⟨⟨⟨g1, g2⟩, g3⟩, g4⟩, g5⟩, -⟩ := hg;obtain ⟨s, hs⟩ : ∃ s : Nat, g.size = (s : Int) := ⟨g.size.toNat, by omega⟩
 have h36 : s * s ≤ 36 := yY (show s ≤ 6 by omega) (show s ≤ 6 by omega);have em : mul64 g.size g.size = ((s * s : Nat) : Int) := by
  rw [hs, zeb (by rw [← yK]; omega) (by rw [← yK]; omega)]; simp
 rw [em, zgY (by omega) (by omega)] at g4;rw [em] at g5;refine ⟨s, ?_⟩;unfold zaY;have := za1 (body := zaY.l1 n g x) (k := s * s) (n := n) (st := fun (b : List Bool) i => (b, (i : Int))) (fun i b => b.length = i) (fun E : List Bool => E.length = s * s) (fun rec i b hi hI h => ?_) (fun rec b hI => ?_) (by omega) [] rfl
 ·obtain ⟨E, h1, h2⟩ := this;exact ⟨E, hs, by omega, h1, h2⟩
 ·obtain ⟨y, hy⟩ := za8 (l := x) (i := add64 g.first (i : Int)) (by rw [zby (by omega) (by omega)]; omega) (by rw [zby (by omega) (by omega)]; omega);simp only [zaY.l1, em, zcy hi, if_true, hy, ya, za (show i < g.least.length by omega)];rw [zq (by simp; omega), ya, zb (by omega)];exact h _ (by simp; omega)
 ·simp only [zaY.l1, em, zb9 (yn _), ye, if_false];exact ⟨b, rfl, hI⟩
noncomputable def acyN (n : Nat) (g : Graph) (x : List Int) : Bool := ((zaY n g x).bind fun E => zc n g.size E).getD false
noncomputable def rowF (n : Nat) (x : List Int) (i : Nat) (r : Row) : List Int := if (decide (r.bound < valN n r x)) = true then [(i : Int)] else []
noncomputable def rowsF (n : Nat) (x : List Int) (R : List Row) : List Int := (List.range R.length).flatMap fun i => rowF n x i (R.getD i default)
noncomputable def ziR (n : Nat) (x : List Int) (G : List Graph) : List Int := (List.range G.length).flatMap fun i => if (!acyN n (G.getD i default) x) = true then [(i : Int)] else []
theorem right_eq {n S x K} (hV : zY n S = some true) (hK : S.box.length = K) (hx : x.length = K) (hl : x.length ≤ 1000) (hs : ∀ v ∈ x, -4000000 ≤ v ∧ v ≤ 4000000) (hn : 1000000 ≤ n) : zbL n S x = some true := by
 unfold zbL;rw [hV, ya, if_neg (by simp; omega)];have := zF (body := zbL.l1 n x) (len := x.length) (st := fun i => (i : Int)) (g := fun _ => some true) (fun rec i hi hr => ?_) (fun rec => ?_) n 0 (yp _) (by omega)
 ·simpa using this
 ·obtain ⟨h1, h2⟩ := hs _ (yg hi);simp only [zbL.l1, zh hi, if_true, za hi, ya, yj, yr, grd, yf];rw [if_neg (by simp; omega), zb (by omega), hr]
 ·simp [zbL.l1]
theorem Fails_eq {n box R G cs x} (hS : SysOK R G cs) (hP : sysP box.length R G cs = true) (hr : zbL n ⟨box, R, G, cs⟩ x = some true) (hx : x.length = box.length) (hl : box.length ≤ 1000) (hn : 1000000 ≤ n) :
  zaZ n ⟨box, R, G, cs⟩ x = some (rowsF n x R, ziR n x G) := by
 simp only [sysP, yb, yd, ym] at hP;obtain ⟨⟨⟨⟨p1, p2⟩, p3⟩, p4⟩, p5, p6⟩ := hP;unfold zaZ;rw [hr, ya, if_neg (by simp)];have h2 : ∀ b : List Int, loopF (zaZ.l2 n ⟨box, R, G, cs⟩ x b) n ([], 0) = some (b, ziR n x G) := fun b => by
  have := zcD (body := zaZ.l2 n ⟨box, R, G, cs⟩ x b) (k := G.length) (n := n) (st := fun l i => (l, (i : Int))) (fun i => if (!acyN n (G.getD i default) x) = true then [(i : Int)] else []) (fun l => some (b, l)) 1 [] (fun i hi => by split <;> simp) (fun rec l i hi hI => ?_) (fun rec l hI => ?_) (by omega)
  ·simpa [ziR] using this
  ·have e : G.getD i default = G[i] := by simp [List.getD, hi]
   obtain ⟨s, E, s1, s2, s3, s4⟩ := Edges_tot (n := n) (p5 _ (yg hi)) hx hl hn;obtain ⟨v, hv⟩ := Acyclic_tot (n := n) s2 s4 hn;rw [← s1] at hv;have ea : acyN n G[i] x = v := by unfold acyN; rw [s3, ya, hv]; rfl
   simp only [zaZ.l2, zh hi, if_true, jn, za hi, ya, s3, hv, e, ea, zb (i := i) (by omega)];split
   ·rw [zq (by simp at hI; simp; omega), ya]
   ·rw [ug]
  ·simp only [zaZ.l2, zah, ye, if_false]
 have := zcD (body := zaZ.l1 n ⟨box, R, G, cs⟩ x) (k := R.length) (n := n) (st := fun l i => (l, (i : Int))) (fun i => rowF n x i (R.getD i default)) (fun l => some (l, ziR n x G)) 1 [] (fun i hi => by unfold rowF; split <;> simp) (fun rec l i hi hI => ?_) (fun rec l hI => ?_) (by omega)
 ·simpa [rowsF] using this
 ·have e : R.getD i default = R[i] := by simp [List.getD, hi]
  have hv := Value_get (n := n) (x := x) (p2 _ (yg hi)) (hS.rows.2 _ (yg hi)) hx hn;simp only [zaZ.l1, zh hi, if_true, jn, za hi, ya, hv, e, zb (i := i) (by omega)];unfold rowF;split
  ·rw [zq (by simp at hI; simp; omega), ya]
  ·rw [ug]
 ·simp only [zaZ.l1, zah, ye, if_false];exact h2 l
inductive Weaker : List Row → List Row → Prop
 | nil : Weaker [] []
 | cons {r s : Row} {R S : List Row} : r.terms = s.terms → r.bound ≤ s.bound → Weaker R S → Weaker (r :: R) (s :: S)
theorem chgP_bd {d} (hd : zeC d) : ∀ {l : List Term}, (∀ t ∈ l, -1000 ≤ t.factor ∧ t.factor ≤ 1000) → -(1000000000000 * (l.length : Int)) ≤ chgP d l ∧ chgP d l ≤ 1000000000000 * (l.length : Int)
 | [], _ => by simp [chgP]
 | t :: l, h => by
  have ih := chgP_bd hd (l := l) fun t ht => h t (by simp [ht])
  obtain ⟨f1, f2⟩ := h t (by simp);obtain ⟨a1, a2⟩ := zbX hd t.cell;have := mul_bd f1 f2 a1 a2;simp only [chgP, yQ];omega
theorem chgN_bd {n a r} (ha : ActOK a) (hd : zeC a.effect.delta) (ht : ∀ t ∈ r.terms, -1000 ≤ t.factor ∧ t.factor ≤ 1000) (hl : r.terms.length ≤ 1000) (hn : 1000000 ≤ n) : -1000000000000000 ≤ chgN n a r ∧ chgN n a r ≤ 1000000000000000 := by
 have h1 := ha.delta;unfold chgN;rw [zc8 (by omega) (by omega) (by omega) (by omega), zj8 hd ht hl];have := chgP_bd hd ht;simp only [yf];omega
theorem gmax_ge (x y) : x ≤ gmax x y ∧ y ≤ gmax x y := by unfold gmax; split <;> omega
theorem gmax_le {x y B} (h1 : x ≤ B) (h2 : y ≤ B) : gmax x y ≤ B := by unfold gmax; split <;> omega
theorem kS_facts {n : Nat} {q} {rows less : List Int} {a b} {i : Nat} {c} (hx : -1000000000000000 ≤ chgN n a c.row ∧ chgN n a c.row ≤ 1000000000000000) (hy : -1000000000000000 ≤ chgN n b c.row ∧ chgN n b c.row ≤ 1000000000000000) (hsub : (i : Int) ∈ less → (i : Int) ∈ rows) :
  0 ≤ kS n q less a b i c ∧ kS n q less a b i c ≤ kS n q rows a b i c ∧ kS n q rows a b i c ≤ 2000000000000000 := by
 have hs : add64 (chgN n a c.row) (chgN n b c.row) = chgN n a c.row + chgN n b c.row := zby (by omega) (by omega);unfold kS;rw [hs];generalize chgN n a c.row = x at *;generalize chgN n b c.row = y at *;have g1 := gmax_ge 0 x;have g2 := gmax_ge (gmax 0 x) y;have g3 := gmax_ge (gmax (gmax 0 x) y) (x + y);have u1 : gmax 0 x ≤ 1000000000000000 := gmax_le (by omega) (by omega);have u2 : gmax (gmax 0 x) y ≤ 1000000000000000 := gmax_le u1 (by omega);have u3 : gmax (gmax (gmax 0 x) y) (x + y) ≤ 2000000000000000 := gmax_le (by omega) (by omega);by_cases h1 : (i : Int) ∈ less
 ·have h2 := hsub h1;simp only [h1, h2, decide_true, yD];split <;> omega
 ·simp only [h1, decide_false, y6, ye, if_false];split <;> omega
theorem rowsR_short {n m q rows a b} (hl : m.constraints.length ≤ 60) (hc : ∀ c ∈ m.constraints, c.row.terms.length ≤ 1000) : (rowsR n m q rows a b).length ≤ 60 ∧ ∀ r ∈ rowsR n m q rows a b, r.terms.length ≤ 1000 := by
 unfold rowsR;constructor
 ·have : ∀ k, ((List.range k).flatMap fun i => rowS n q rows a b i (m.constraints.getD i default)).length ≤ k := by
   intro k
   induction k with
   | zero => simp
   | succ k ih =>
    rw [range_snoc, yI];have : (rowS n q rows a b k (m.constraints.getD k default)).length ≤ 1 := by unfold rowS; split <;> simp
    omega
  have := this m.constraints.length;omega
 ·intro r hr;obtain ⟨i, hi, hri⟩ := ue.1 hr;have hi := yL.1 hi;have e : m.constraints.getD i default = m.constraints[i] := by simp [List.getD, hi]
  rw [e] at hri;unfold rowS at hri;split at hri
  ·simp at hri
  ·simp at hri; subst hri; exact hc _ (yg hi)
theorem act_ok {m} (hS : SmallM m) {a} (ha : a ∈ m.actions) : ActOK a := by
 obtain ⟨-, h1, h2, -, h4⟩ := hS.act a ha;exact ⟨h1, h2, fun r hr => by have := h4 r hr; omega⟩
theorem con_ok {m} (hS : SmallM m) (hV : ValidM m) {c} (hc : c ∈ m.constraints) : ConOK (boxM m).length c := by
 have hl := hS.con c hc;rcases con_in hS hV hc with ⟨h1, -, -, -⟩ | ⟨s, h1, h2, h3, h4, h5, h6⟩
 ·exact ⟨.inl h1, by omega, fun h => by omega⟩
 ·exact ⟨.inr h1, by omega, fun _ => ⟨s, h2, h3, h4, h5, h6⟩⟩
theorem con_bound {m} (hV : ValidM m) {c} (hc : c ∈ m.constraints) (hk : c.kind = 0) : rowOK (zJ m.sorts true m.tables).length c.row = true := by
 rcases valid_con hV hc with h | h
 ·simp only [zd8, yb] at h;exact h.2
 ·have := (acy_size hV h).1; omega
theorem sysOK_of {R X G cs} (hR : R.length ≤ 60 ∧ ∀ r ∈ R, r.terms.length ≤ 1000) (hX : X.length ≤ 30 ∧ ∀ r ∈ X, r.terms.length ≤ 1000) (hG : G.length ≤ 3000 ∧ ∀ g ∈ G, g.least.length ≤ 36) (hc : ziD cs) : SysOK (R ++ X) G cs := by
 refine ⟨⟨by rw [yI]; omega, fun r hr => ?_⟩, ⟨by omega, fun g hg => by have := hG.2 g hg; omega⟩, ⟨by have := hc.1; omega, fun rows hrows => ?_⟩⟩
 ·rcases yG.1 hr with hr | hr
  ·have := hR.2 r hr; omega
  ·have := hX.2 r hr; omega
 ·obtain ⟨h1, h2⟩ := hc.2 rows hrows;exact ⟨by omega, fun r hr => by have := h2 r hr; omega⟩
section
variable (E : Nat → Nat → Bool) (K : Nat)
def fstN (l : List Int) : Nat := (l.headD 0).toNat
def lstN (l : List Int) : Nat := (l.getLastD 0).toNat
def zdl (l : List Int) : Bool := E (lstN l) (fstN l)
def ext1 (l : List Int) (i : Nat) : List (List Int) := if (E (lstN l) (fstN l + 1 + i) && !decide (((fstN l + 1 + i : Nat) : Int) ∈ l)) = true then [l ++ [((fstN l + 1 + i : Nat) : Int)]] else []
def ext (l : List Int) : List (List Int) := (List.range (K - (fstN l + 1))).flatMap (ext1 E l)
def dfs : Nat → List Int → List (List Int)
 | 0, _ => []
 | d + 1, l => (if zdl E l = true then [l] else []) ++ (ext E K l).flatMap (dfs d)
def lev : Nat → List (List Int) → List (List Int)
 | 0, ls => ls
 | r + 1, ls => lev r (ls.flatMap (ext E K))
theorem zh8 : ∀ (r : Nat) (ls : List (List Int)), lev E K (r + 1) ls = (lev E K r ls).flatMap (ext E K)
 | 0, _ => rfl
 | r + 1, ls => zh8 r (ls.flatMap (ext E K))
theorem zf2 {α β : Type} (f g : α → List β) : ∀ l : List α, (l.flatMap fun x => f x ++ g x).Perm (l.flatMap f ++ l.flatMap g)
 | [] => by simp
 | x :: l => by
  simp only [uv, yJ];refine .append_left _ ?_;exact ((zf2 f g l).append_left _).trans (List.perm_append_comm_assoc _ _ _)
theorem ziP {α : Type} (p) : ∀ l : List α, (l.flatMap fun x => if p x = true then [x] else []) = l.filter p
 | [] => rfl
 | x :: l => by rw [uv, ziP p l, List.filter_cons]; split <;> rfl
theorem dfs_perm : ∀ (d : Nat) (ls : List (List Int)), (ls.flatMap (dfs E K d)).Perm ((List.range d).flatMap fun r => (lev E K r ls).filter (zdl E))
 | 0, ls => by
  have : (ls.flatMap (dfs E K 0)) = [] := List.flatMap_eq_nil_iff.2 fun _ _ => rfl
  rw [this]; exact .refl _
 | d + 1, ls => by
  have e : ls.flatMap (dfs E K (d + 1)) = ls.flatMap fun l => (if zdl E l = true then [l] else []) ++ (ext E K l).flatMap (dfs E K d) := rfl
  rw [e, List.range_succ_eq_map, uv, List.flatMap_map];refine (zf2 _ _ ls).trans ?_;rw [ziP];refine .append_left _ ?_;have := dfs_perm d (ls.flatMap (ext E K));rw [List.flatMap_assoc] at this;exact this
theorem zjm : ∀ (l x y : List Int), lexP (l ++ x) (l ++ y) = lexP x y
 | [], _, _ => rfl
 | a :: l, x, y => by simp only [ud, lexP]; rw [if_neg (by omega), if_neg (by omega)]; exact zjm l x y
theorem lex_app_lt : ∀ {l m : List Int} (x y : List Int), l.length = m.length → lexP l m < 0 → lexP (l ++ x) (m ++ y) < 0
 | [], [], _, _, _, h => by simp [lexP] at h
 | [], _ :: _, _, _, h, _ => by simp at h
 | _ :: _, [], _, _, h, _ => by simp at h
 | a :: l, b :: m, x, y, hl, h => by
  simp only [ud, lexP] at h ⊢;split
  ·omega
  ·rename_i h1;rw [if_neg h1] at h;split
   ·rename_i h2; rw [if_pos h2] at h; omega
   ·rename_i h2;rw [if_neg h2] at h;exact lex_app_lt x y (by simpa using hl) h
theorem mem_ext1 {l x i} (h : x ∈ ext1 E l i) : E (lstN l) (fstN l + 1 + i) = true ∧ ((fstN l + 1 + i : Nat) : Int) ∉ l ∧ x = l ++ [((fstN l + 1 + i : Nat) : Int)] := by
 unfold ext1 at h;split at h
 ·rename_i hc;simp only [yb, yx, yC] at hc;exact ⟨hc.1, hc.2, by simpa using h⟩
 ·simp at h
theorem ziZ {l x} (h : x ∈ ext E K l) : ∃ i, i < K - (fstN l + 1) ∧ E (lstN l) (fstN l + 1 + i) = true ∧ ((fstN l + 1 + i : Nat) : Int) ∉ l ∧ x = l ++ [((fstN l + 1 + i : Nat) : Int)] := by
 obtain ⟨i, hi, hx⟩ := ue.1 h;exact ⟨i, yL.1 hi, mem_ext1 E hx⟩
theorem ext_pw (l) : (ext E K l).Pairwise fun x y => lexP x y < 0 := by
 unfold ext;rw [List.pairwise_flatMap];refine ⟨fun i _ => ?_, List.pairwise_lt_range.imp fun {i j} hij x hx y hy => ?_⟩
 ·unfold ext1; split <;> simp
 ·obtain ⟨-, -, rfl⟩ := mem_ext1 E hx;obtain ⟨-, -, rfl⟩ := mem_ext1 E hy;rw [zjm];simp only [lexP];rw [if_pos (by omega)]; omega
theorem lev_pw : ∀ (r c : Nat) (ls : List (List Int)), (∀ l ∈ ls, l.length = c) → (ls.Pairwise fun x y => lexP x y < 0) → (∀ l ∈ lev E K r ls, l.length = c + r) ∧ (lev E K r ls).Pairwise fun x y => lexP x y < 0
 | 0, c, ls, h1, h2 => ⟨h1, h2⟩
 | r + 1, c, ls, h1, h2 => by
  have := lev_pw r (c + 1) (ls.flatMap (ext E K)) (fun x hx => ?_) ?_
  ·exact ⟨fun l hl => by rw [this.1 l hl]; omega, this.2⟩
  ·obtain ⟨l, hl, hx⟩ := ue.1 hx;obtain ⟨i, -, -, -, rfl⟩ := ziZ E K hx;simp [h1 l hl]
  ·rw [List.pairwise_flatMap];refine ⟨fun l _ => ext_pw E K l, ?_⟩;refine List.Pairwise.imp_of_mem (fun {a b} ha hb hab x hx y hy => ?_) h2;obtain ⟨i, -, -, -, rfl⟩ := ziZ E K hx;obtain ⟨j, -, -, -, rfl⟩ := ziZ E K hy;exact lex_app_lt _ _ (by rw [h1 a ha, h1 b hb]) hab
theorem cmpC_lt (x y) : cmpC x y < 0 ↔ (x.length < y.length ∨ (x.length = y.length ∧ lexP x y < 0)) := by
 unfold cmpC cmpI;by_cases e : (x.length : Int) < y.length
 ·simp [e]; omega
 ·by_cases e2 : (y.length : Int) < x.length
  ·simp [e, e2]; omega
  ·simp [e, e2]; omega
theorem all_pw (d c ls) (h1 : ∀ l ∈ ls, l.length = c) (h2 : ls.Pairwise fun x y => lexP x y < 0) : ((List.range d).flatMap fun r => (lev E K r ls).filter (zdl E)).Pairwise fun x y => cmpC x y < 0 := by
 rw [List.pairwise_flatMap];refine ⟨fun r _ => ?_, List.pairwise_lt_range.imp fun {i j} hij x hx y hy => ?_⟩
 ·have := lev_pw E K r c ls h1 h2;refine List.Pairwise.imp_of_mem (fun {a b} ha hb hab => ?_) (this.2.filter (zdl E));rw [cmpC_lt];exact .inr ⟨by rw [this.1 a (List.mem_filter.1 ha).1, this.1 b (List.mem_filter.1 hb).1], hab⟩
 ·have hi := (lev_pw E K i c ls h1 h2).1 x (List.mem_filter.1 hx).1;have hj := (lev_pw E K j c ls h1 h2).1 y (List.mem_filter.1 hy).1;rw [cmpC_lt];exact .inl (by omega)
end
theorem perm_uniq {α : Type} {R : α → α → Prop} (hanti : ∀ a b, R a b → R b a → a = b) : ∀ {l m : List α}, l.Perm m → l.Pairwise R → m.Pairwise R → l = m
 | [], m, h, _, _ => by simpa using h.length_eq.symm
 | a :: l, [], h, _, _ => by simpa using h.length_eq
 | a :: l, b :: m, h, h1, h2 => by
  have e : a = b := by
   rw [uN] at h1 h2;have ha := h.mem_iff.1 (List.mem_cons_self (a := a) (l := l));have hb := h.mem_iff.2 (List.mem_cons_self (a := b) (l := m));rcases yP.1 ha with ha | ha
   ·exact ha
   ·rcases yP.1 hb with hb | hb
    ·exact hb.symm
    ·exact hanti _ _ (h1.1 b hb) (h2.1 a ha)
  subst e;rw [perm_uniq hanti ((List.perm_cons a).1 h) (uN.1 h1).2 (uN.1 h2).2]
def ones (K : Nat) : List (List Int) := (List.range K).map fun (i : Nat) => [(i : Int)]
theorem ones_pw (K) : (∀ l ∈ ones K, l.length = 1) ∧ (ones K).Pairwise fun x y => lexP x y < 0 := by
 unfold ones;refine ⟨fun l hl => ?_, ?_⟩
 ·obtain ⟨i, -, rfl⟩ := yU.1 hl; rfl
 ·rw [List.pairwise_map];refine List.pairwise_lt_range.imp fun {i j} hij => ?_
  simp only [lexP];rw [if_pos (by omega)]; omega
def cycP (E : Nat → Nat → Bool) (K : Nat) : List (List Int) := (List.range K).flatMap fun r => (lev E K r (ones K)).filter (zdl E)
theorem zdI {α β : Type} {f : α → List β} {B : Nat} : ∀ {l : List α}, (∀ x ∈ l, (f x).length ≤ B) → (l.flatMap f).length ≤ l.length * B
 | [], _ => by simp
 | x :: l, h => by
  have h1 := h x (by simp);have h2 := zdI (l := l) fun y hy => h y (by simp [hy])
  simp only [uv, yI, yQ, y9];omega
theorem ext_len {E : Nat → Nat → Bool} {K : Nat} (hK : K ≤ 6) (l : List Int) : (ext E K l).length ≤ 6 := by
 have := zdI (f := ext1 E l) (B := 1) (l := List.range (K - (fstN l + 1))) fun i _ => by unfold ext1; split <;> simp
 unfold ext;rw [uJ] at this;omega
theorem dfs_len {E : Nat → Nat → Bool} {K : Nat} (hK : K ≤ 6) : ∀ (d : Nat) (l : List Int), (dfs E K d l).length ≤ 7 ^ d
 | 0, _ => by simp [dfs]
 | d + 1, l => by
  have h1 := ext_len (E := E) hK l;have h2 := zdI (f := dfs E K d) (B := 7 ^ d) (l := ext E K l) fun x _ => dfs_len hK d x
  have h3 : (ext E K l).length * 7 ^ d ≤ 6 * 7 ^ d := yM _ h1;have h4 : 1 ≤ 7 ^ d := uQ _ _ (by omega);simp only [dfs, yI, uK];have h5 : (if zdl E l = true then [l] else []).length ≤ 1 := by split <;> simp
  omega
structure PathL (K : Nat) (l : List Int) : Prop where
 nd : l.Nodup
 pos : 1 ≤ l.length
 mem : ∀ x ∈ l, 0 ≤ x ∧ x < (K : Int)
theorem PathL.len {K l} (h : PathL K l) : l.length ≤ K := zih h.nd h.mem
theorem PathL.snoc {K l} (h : PathL K l) {b} (hb : b < K) (hm : (b : Int) ∉ l) : PathL K (l ++ [(b : Int)]) := by
 refine ⟨?_, by simp, fun x hx => ?_⟩
 ·rw [List.nodup_append];exact ⟨h.nd, by simp, fun a ha b' hb' e => by simp at hb'; subst hb'; subst e; exact hm ha⟩
 ·rcases yG.1 hx with hx | hx
  ·exact h.mem x hx
  ·simp at hx; subst hx; omega
theorem PathL.fst {K l} (h : PathL K l) : idx l 0 = some ((fstN l : Nat) : Int) ∧ fstN l < K := by
 cases l with
 | nil => have := h.pos; simp at this
 | cons x t =>
  have := h.mem x (by simp);have e : fstN (x :: t) = x.toNat := rfl;rw [e];refine ⟨?_, by omega⟩;have : idx (x :: t) 0 = some x := rfl;rw [this]; congr 1; omega
theorem PathL.lst {K l} (h : PathL K l) (h6 : K ≤ 6) : idx l (sub64 (l.length : Int) 1) = some ((lstN l : Nat) : Int) ∧ lstN l < K := by
 have hp := h.pos;have hK := h.len;have hi : l.length - 1 < l.length := by omega
 have hm := h.mem _ (yg hi);have e : l.getLastD 0 = l[l.length - 1] := by
  rw [List.getLastD_eq_getLast?, List.getLast?_eq_getElem?, yt hi]; rfl
 have e2 : lstN l = l[l.length - 1].toNat := by unfold lstN; rw [e]
 refine ⟨?_, by omega⟩;rw [ze6 (by omega) (by omega), za hi, e2]; congr 1; omega
theorem visit_eq {n : Nat} {g : DGraph} {K : Nat} (hg : GraphOK g K) (hn : 1000000 ≤ n) : ∀ (d k : Nat) (l : List Int) (out : List (List Int)), PathL K l → K - l.length = d → d < k → out.length ≤ 1000000 - 7 ^ (d + 1) → d ≤ 5 →
  zy n g k l out = some (out ++ dfs (hasP g) K (d + 1) l) := by
 intro d
 induction d using Nat.strongRecOn with
 | ind d ih =>
  intro k l out hp hd hk ho hd5;obtain ⟨k, rfl⟩ : ∃ k', k = k' + 1 := ⟨k - 1, by omega⟩
  have hK := hg.le;have hl1 := hp.pos;have hl2 := hp.len;have hp7 : 7 ≤ 7 ^ (d + 1) := Nat.le_self_pow (by omega) 7;obtain ⟨e2, hfK⟩ := hp.fst;obtain ⟨e1, hlK⟩ := hp.lst hK;have h7 : 7 ^ (d + 1) = 7 * 7 ^ d := by rw [uK]; omega
  have hone : 1 ≤ 7 ^ d := uQ _ _ (by omega);have h77 : 7 ^ (d + 1) ≤ 117649 := by
   have : 7 ^ (d + 1) ≤ 7 ^ 6 := uy (by omega) (by omega);simpa using this
  simp only [zy, e1, e2, ya, has_eq hg hlK hfK];have loop : ∀ out1 : List (List Int), out1.length ≤ out.length + 1 → loopF (zy.l1 n g (zy n g k) l ((lstN l : Nat) : Int)) n (add64 ((fstN l : Nat) : Int) 1, out1) = some (out1 ++ (ext (hasP g) K l).flatMap (dfs (hasP g) K d)) := by
   intro out1 ho1;rw [zb (by omega)];have := zcD (body := zy.l1 n g (zy n g k) l ((lstN l : Nat) : Int)) (k := K - (fstN l + 1)) (n := n) (st := fun (o : List (List Int)) i => (((fstN l + 1 + i : Nat) : Int), o)) (fun i => (ext1 (hasP g) l i).flatMap (dfs (hasP g) K d)) some (7 ^ d) out1
    (fun i hi => ?_) (fun rec o i hi hI => ?_) (fun rec o hI => ?_) (by omega)
   ·simp only [uo] at this;rw [this];unfold ext;rw [List.flatMap_assoc]
   ·have h1 := zdI (f := dfs (hasP g) K d) (B := 7 ^ d) (l := ext1 (hasP g) l i) fun x _ => dfs_len hK d x
    have h2 : (ext1 (hasP g) l i).length ≤ 1 := by unfold ext1; split <;> simp
    have h3 : (ext1 (hasP g) l i).length * 7 ^ d ≤ 1 * 7 ^ d := yM _ h2;omega
   ·have hb : fstN l + 1 + i < K := by omega
    have hlt : decide (((fstN l + 1 + i : Nat) : Int) < g.size) = true := by rw [hg.size]; simp; omega
    have hnx : add64 ((fstN l + 1 + i : Nat) : Int) 1 = ((fstN l + 1 + (i + 1) : Nat) : Int) := by rw [zb (by omega)]; rfl
    simp only [zy.l1, hlt, if_true, has_eq hg hlK hb, ya, hnx];unfold ext1;by_cases hh : hasP g (lstN l) (fstN l + 1 + i) = true
    ·rw [if_pos hh, zdZ (by omega) hn, ya];by_cases hm : ((fstN l + 1 + i : Nat) : Int) ∈ l
     ·rw [if_pos (by simpa using hm), if_neg (by simp only [hm, decide_true, y8, Bool.and_false]; simp)];simp
     ·rw [if_neg (by simpa using hm), zq (by simp; omega), ya, yV, zq (by simp; omega), ya, if_pos (by simp only [hh, hm, decide_false, uD, uM])];have hp2 := hp.snoc hb hm;have hlen := hp2.len;simp only [yI, yQ, ux] at hlen;have hd1 : 1 ≤ d := by omega
      have h6 : i * 7 ^ d ≤ 5 * 7 ^ d := yM _ (by omega);have := ih (d - 1) (by omega) k (l ++ [((fstN l + 1 + i : Nat) : Int)]) o hp2 (by simp; omega) (by omega) (by rw [show d - 1 + 1 = d by omega]; omega) (by omega);rw [show d - 1 + 1 = d by omega] at this;rw [this, ya];simp
    ·rw [if_neg hh, if_neg (by simp only [yF] at hh; simp [hh])];simp
   ·have hge : decide (((fstN l + 1 + (K - (fstN l + 1)) : Nat) : Int) < g.size) = false := by rw [hg.size]; simp; omega
    simp only [zy.l1, hge, ye, if_false]
  have hcl : zdl (hasP g) l = hasP g (lstN l) (fstN l) := rfl;simp only [dfs, hcl];by_cases hh : hasP g (lstN l) (fstN l) = true
  ·rw [if_pos hh, if_pos hh, zq (by simp; omega), ya, yV, zq (by simp; omega), ya, loop _ (by simp), yJ]
  ·rw [if_neg hh, if_neg hh, loop _ (by omega), yV]
theorem cycles_eq {n g K} (hg : GraphOK g K) (hn : 1000000 ≤ n) : loopF (digraph_cycles.l1 n g) n (0, []) = some ((ones K).flatMap (dfs (hasP g) K K)) := by
 have hK := hg.le;have hd : 7 ^ K ≤ 117649 := by
  have : 7 ^ K ≤ 7 ^ 6 := uy (by omega) (by omega);simpa using this
 have := zcD (body := digraph_cycles.l1 n g) (k := K) (n := n) (st := fun (o : List (List Int)) i => ((i : Int), o)) (fun i => dfs (hasP g) K K [(i : Int)]) some 117649 []
  (fun i hi => uk (dfs_len hK K _) hd) (fun rec o i hi hI => ?_) (fun rec o hI => ?_) (by omega)
 ·rw [ones, List.flatMap_map];simpa using this
 ·have hlt : decide ((i : Int) < g.size) = true := by rw [hg.size]; simp; omega
  have h5 : i * 117649 ≤ 5 * 117649 := yM _ (by omega);have hv := visit_eq hg hn (K - 1) n [(i : Int)] o ⟨by simp, by simp, by simp; omega⟩ (by simp) (by omega) (by rw [show K - 1 + 1 = K by omega]; simp at hI; omega) (by omega);rw [show K - 1 + 1 = K by omega] at hv;simp only [digraph_cycles.l1, hlt, if_true, hv, ya];rw [zb (by omega)]
 ·have hge : decide ((K : Int) < g.size) = false := by rw [hg.size]; simp
  simp only [digraph_cycles.l1, hge, ye, if_false]
theorem mem_dfs {E K} : ∀ (d : Nat) {l x : List Int}, PathL K l → x ∈ dfs E K d l → PathL K x
 | 0, _, _, _, h => by simp [dfs] at h
 | d + 1, l, x, hp, h => by
  simp only [dfs, yG, ue] at h;rcases h with h | ⟨y, hy, hx⟩
  ·split at h
   ·simp at h; subst h; exact hp
   ·simp at h
  ·obtain ⟨i, hi, -, hm, rfl⟩ := ziZ E K hy;exact mem_dfs d (hp.snoc (by omega) hm) hx
theorem one_path {K i} (hi : i < K) : PathL K [(i : Int)] := ⟨by simp, by simp, by simp; omega⟩
theorem ziL {n : Nat} {edges : List Bool} {K : Nat} (h1 : 1 ≤ K) (h6 : K ≤ 6) (hl : edges.length = K * K) (hn : 1000000 ≤ n) : zbC n (K : Int) edges = some (cycP (hasP ⟨(K : Int), edges⟩) K) := by
 have hg : GraphOK ⟨(K : Int), edges⟩ K := ⟨rfl, h6, hl⟩
 have h4 : K * K ≤ 36 := yY h6 h6;have e : mul64 (K : Int) (K : Int) = ((K * K : Nat) : Int) := by
  unfold mul64;rw [zaL (by rw [← yK]; omega) (by rw [← yK]; omega)]; simp
 have hopen : zdf n (K : Int) edges = some (⟨(K : Int), edges⟩, true) := by
  unfold zdf;rw [e, hl];simp; omega
 have hd : 7 ^ K ≤ 117649 := by
  have : 7 ^ K ≤ 7 ^ 6 := uy (by omega) (by omega);simpa using this
 unfold zbC;rw [hopen, ya, if_neg (by simp), cycles_eq hg hn, ya];have hmem : ∀ x ∈ (ones K).flatMap (dfs (hasP ⟨(K : Int), edges⟩) K K), PathL K x := fun x hx => by
  obtain ⟨l, hl, hx⟩ := ue.1 hx;obtain ⟨i, hi, rfl⟩ := yU.1 hl;exact mem_dfs K (one_path (yL.1 hi)) hx
 have hlen : ((ones K).flatMap (dfs (hasP ⟨(K : Int), edges⟩) K K)).length ≤ 6 * 117649 := by
  have := zdI (f := dfs (hasP ⟨(K : Int), edges⟩) K K) (B := 117649) (l := ones K) fun x _ => uk (dfs_len h6 K x) hd
  have e : (ones K).length = K := by simp [ones]
  rw [e] at this;exact uk this (yM _ h6)
 obtain ⟨s1, s2⟩ := sortO_of (f := zb8 n) (c := cmpC) (l := (ones K).flatMap (dfs (hasP ⟨(K : Int), edges⟩) K K)) (fun x hx y _ => ziJ (by have := (hmem x hx).len; omega) hn) (fun x => by have := zfG x x; omega) (fun _ _ _ => ziI) (fun _ _ _ => zj9) (by omega);rw [s1];refine congrArg some ?_;have hp := zi3 s2;have hs := sortF_sorted s2;refine perm_uniq (R := fun x y => ¬ cmpC y x < 0) (fun a b h1 h2 => ?_) (hp.trans (dfs_perm _ K K (ones K))) ?_ ?_
 ·have := zfG a b;exact zka (by omega)
 ·refine List.Pairwise.imp_of_mem (fun {a b} ha hb hab => ?_) hs;have ha' := hmem a (hp.mem_iff.1 ha);have hb' := hmem b (hp.mem_iff.1 hb);rw [ziJ (by have := hb'.len; omega) hn] at hab;exact hab
 ·refine (all_pw _ K K 1 (ones K) (ones_pw K).1 (ones_pw K).2).imp fun {a b} h => ?_
  have := zfG a b;omega
theorem loopF_app2 {γ δ S R : Type} {body : (S → Option R) → S → Option R} {k n : Nat} {st : List γ → List δ → Nat → S} (g : Nat → List γ) (h : Nat → List δ) (fin : List γ → List δ → Option R) (B : Nat) (b0 : List γ) (c0 : List δ) (hB : ∀ i, i < k → (g i).length ≤ B) (hC : ∀ i, i < k → (h i).length ≤ B)
  (step : ∀ rec (b : List γ) (c : List δ) i, i < k → b.length ≤ b0.length + i * B → c.length ≤ c0.length + i * B → body rec (st b c i) = rec (st (b ++ g i) (c ++ h i) (i + 1))) (done : ∀ rec (b : List γ) (c : List δ), b.length ≤ b0.length + k * B → c.length ≤ c0.length + k * B → body rec (st b c k) = fin b c) (hn : k < n) :
  loopF body n (st b0 c0 0) = fin (b0 ++ (List.range k).flatMap g) (c0 ++ (List.range k).flatMap h) := by
 have := zbA (σ := List γ × List δ) (body := body) (len := k) (st := fun s i => st s.1 s.2 i) (g := fun i s => fin (s.1 ++ (List.range' i (k - i)).flatMap g) (s.2 ++ (List.range' i (k - i)).flatMap h)) (fun i s => s.1.length ≤ b0.length + i * B ∧ s.2.length ≤ c0.length + i * B) (fun rec i s hi hI hr => ?_) (fun rec s hI => ?_) n 0 (b0, c0) (yp _) (by omega) (by simp)
 ·simpa [List.range_eq_range'] using this
 ·have h1 := hB i hi;have h2 := hC i hi;rw [step rec s.1 s.2 i hi hI.1 hI.2, hr (s.1 ++ g i, s.2 ++ h i) ⟨by simp only [yI]; rw [y9]; omega, by simp only [yI]; rw [y9]; omega⟩];have : List.range' i (k - i) = i :: List.range' (i + 1) (k - (i + 1)) := by rw [show k - i = (k - (i + 1)) + 1 by omega, List.range'_succ]
  rw [this, uv, uv, yJ, yJ]
 ·rw [done rec s.1 s.2 hI.1 hI.2]; simp
theorem ref19_has_eq {n l v} (hl : l.length < 1000000) (hn : 1000000 ≤ n) : zcI n l v = some (decide (v ∈ l)) := by
 unfold zcI;have := zaf (body := zcI.l1 n l v) (l := l) (n := n) (st := fun i => (i : Int)) (fun x => !(x == v)) (some true) (some false) (fun rec i hi => ?_) (fun rec => ?_) (by omega)
 ·rw [show loopF (zcI.l1 n l v) n 0 = loopF (zcI.l1 n l v) n ((0 : Nat) : Int) from rfl, this];by_cases hm : v ∈ l
  ·rw [if_neg (by simp only [ym, yx, uf]; exact fun h => h v hm rfl)]; simp [hm]
  ·rw [if_pos (by simp only [ym, yx, uf]; exact fun x hx e => hm (e ▸ hx))]; simp [hm]
 ·simp only [zcI.l1, zh hi, if_true, za hi, ya];rw [zb (i := i) (by omega)];cases l[i] == v <;> simp
 ·simp only [zcI.l1, zah, ye, if_false]
theorem ref19_with_eq {n l v} (hl : l.length < 1000000) (hn : 1000000 ≤ n) : zdi n l v = some (l ++ [v]) := by
 unfold zdi;have := zkt (body := zdi.l1 n l v) (l := l) (n := n) (st := fun b i => (b, (i : Int))) (fun x : Int => x) (fun b => some (b ++ [v])) [] (fun rec b i hi hb => ?_) (fun rec b hb => ?_) (by omega)
 ·simpa using this
 ·simp only [zdi.l1, zh hi, if_true, za hi, ya];rw [zq (by simp at hb; simp; omega), ya, zb (by omega)]
 ·simp only [zdi.l1, zah, ye, if_false];rw [zq (by simp at hb; simp; omega)]; rfl
theorem edgeP_eq {edges : List Bool} {K a b : Nat} (hg : GraphOK ⟨(K : Int), edges⟩ K) (ha : a < K) (hb : b < K) : idx edges (add64 (mul64 (a : Int) (K : Int)) (b : Int)) = some (hasP ⟨(K : Int), edges⟩ a b) := by
 have := has_eq (n := 0) hg ha hb;unfold za0 at this;simpa using this
theorem zgT {E K} : ∀ (r : Nat) {ls : List (List Int)}, (∀ l ∈ ls, PathL K l) → ∀ l ∈ lev E K r ls, PathL K l
 | 0, _, h => h
 | r + 1, ls, h => zgT r fun x hx => by
  obtain ⟨l, hl, hx⟩ := ue.1 hx;obtain ⟨i, hi, -, hm, rfl⟩ := ziZ E K hx;exact (h l hl).snoc (by omega) hm
theorem lev_len {E K} (h6 : K ≤ 6) : ∀ (r : Nat) (ls : List (List Int)), (lev E K r ls).length ≤ ls.length * 7 ^ r
 | 0, ls => by simp [lev]
 | r + 1, ls => by
  have h1 := lev_len (E := E) h6 r (ls.flatMap (ext E K));have h2 := zdI (f := ext E K) (B := 6) (l := ls) fun x _ => ext_len h6 x
  have h3 : (ls.flatMap (ext E K)).length * 7 ^ r ≤ ls.length * 7 * 7 ^ r := yM _ (by omega);rw [uK, Nat.mul_comm (7 ^ r) 7, ← Nat.mul_assoc];exact uk h1 h3
theorem zgy {K} : ∀ l ∈ ones K, PathL K l := fun l hl => by
 obtain ⟨i, hi, rfl⟩ := yU.1 hl;exact one_path (yL.1 hi)
theorem filter_range {α : Type} (p : α → Bool) (l : List α) (d : α) : (List.range l.length).flatMap (fun i => if p (l.getD i d) = true then [l.getD i d] else []) = l.filter p := by
 rw [← ziP p l];have e : l = (List.range l.length).map fun i => l.getD i d := by
  refine List.ext_getElem (by simp) fun i h1 h2 => ?_
  simp [yw, yt h1]
 conv => rhs; rw [e]
 rw [List.flatMap_map]
theorem ziQ {α β : Type} (f : α → List β) (l : List α) (d : α) : (List.range l.length).flatMap (fun i => f (l.getD i d)) = l.flatMap f := by
 have e : l = (List.range l.length).map fun i => l.getD i d := by
  refine List.ext_getElem (by simp) fun i h1 h2 => ?_
  simp [yw, yt h1]
 conv => rhs; rw [e]
 rw [List.flatMap_map]
theorem ref19_round {n : Nat} {edges : List Bool} {K : Nat} (h6 : K ≤ 6) (hl : edges.length = K * K) (hn : 1000000 ≤ n) {ls out : List (List Int)} {r : Int} {rec : List (List Int) × List (List Int) × Int → Option (List (List Int))} (hp : ∀ l ∈ ls, PathL K l) (hlen : ls.length ≤ 800000) (ho : out.length ≤ 100000000) :
  loopF (zA.l3 n (K : Int) edges ls r rec) n (out, ([] : List (List Int)), 0) = rec (out ++ ls.filter (zdl (hasP ⟨(K : Int), edges⟩)), ls.flatMap (ext (hasP ⟨(K : Int), edges⟩) K), add64 r 1) := by
 have hg : GraphOK ⟨(K : Int), edges⟩ K := ⟨rfl, h6, hl⟩
 have := loopF_app2 (body := zA.l3 n (K : Int) edges ls r rec) (k := ls.length) (n := n) (st := fun b c i => (b, c, (i : Int))) (fun i => if zdl (hasP ⟨(K : Int), edges⟩) (ls.getD i []) = true then [ls.getD i []] else []) (fun i => ext (hasP ⟨(K : Int), edges⟩) K (ls.getD i []))
  (fun b c => rec (b, c, add64 r 1)) 6 out [] (fun i _ => by split <;> simp) (fun i _ => ext_len h6 _) (fun rec2 b c i hi hb hc => ?_) (fun rec2 b c hb hc => ?_) (by omega)
 ·rw [filter_range, ziQ] at this;simpa using this
 ·have e : ls.getD i [] = ls[i] := by simp [yw, hi]
  have hpl := hp _ (yg hi);obtain ⟨e2, hfK⟩ := hpl.fst;obtain ⟨e1, hlK⟩ := hpl.lst h6;have hlK6 := hpl.len;rw [e];have inner : ∀ b1 : List (List Int), loopF (zA.l4 n (K : Int) edges ls (i : Int) rec2 ((lstN ls[i] : Nat) : Int) b1) n (c, add64 ((fstN ls[i] : Nat) : Int) 1) = rec2 (b1, c ++ ext (hasP ⟨(K : Int), edges⟩) K ls[i], ((i + 1 : Nat) : Int)) := by
   intro b1;rw [zb (by omega)];have := zcD (body := zA.l4 n (K : Int) edges ls (i : Int) rec2 ((lstN ls[i] : Nat) : Int) b1) (k := K - (fstN ls[i] + 1)) (n := n) (st := fun (o : List (List Int)) j => (o, ((fstN ls[i] + 1 + j : Nat) : Int))) (fun j => ext1 (hasP ⟨(K : Int), edges⟩) ls[i] j) (fun o => rec2 (b1, o, add64 (i : Int) 1)) 1 c
    (fun j _ => by unfold ext1; split <;> simp) (fun rec3 o j hj hI => ?_) (fun rec3 o hI => ?_) (by omega)
   ·simp only [uo] at this;rw [this, zb (i := i) (by omega)];rfl
   ·have hb : fstN ls[i] + 1 + j < K := by omega
    have hlt : decide (((fstN ls[i] + 1 + j : Nat) : Int) < (K : Int)) = true := by simp; omega
    have hnx : add64 ((fstN ls[i] + 1 + j : Nat) : Int) 1 = ((fstN ls[i] + 1 + (j + 1) : Nat) : Int) := by rw [zb (by omega)]; rfl
    simp only [zA.l4, hlt, if_true, jn, edgeP_eq hg hlK hb, za hi, ya, yj, yf, ref19_has_eq (show ls[i].length < 1000000 by omega) hn, ref19_with_eq (show ls[i].length < 1000000 by omega) hn, yr, grd, hnx];unfold ext1;split
    ·rw [zq (by simp at hI hc; simp; omega), ya]
    ·simp
   ·have hge : decide (((fstN ls[i] + 1 + (K - (fstN ls[i] + 1)) : Nat) : Int) < (K : Int)) = false := by simp; omega
    simp only [zA.l4, hge, ye, if_false]
  have hcl : zdl (hasP ⟨(K : Int), edges⟩) ls[i] = hasP ⟨(K : Int), edges⟩ (lstN ls[i]) (fstN ls[i]) := rfl;simp only [zA.l3, zh hi, if_true, jn, za hi, ya, e1, e2, edgeP_eq hg hlK hfK, hcl];split
  ·rw [zq (by simp; omega), ya, inner]
  ·rw [inner, ug]
 ·simp only [zA.l3, zah, ye, if_false]
theorem zkL {n : Nat} {edges : List Bool} {K : Nat} (h1 : 1 ≤ K) (h6 : K ≤ 6) (hl : edges.length = K * K) (hn : 1000000 ≤ n) : zA n (K : Int) edges = some (cycP (hasP ⟨(K : Int), edges⟩) K) := by
 have h4 : K * K ≤ 36 := yY h6 h6;have e : mul64 (K : Int) (K : Int) = ((K * K : Nat) : Int) := by
  unfold mul64;rw [zaL (by rw [← yK]; omega) (by rw [← yK]; omega)]; simp
 have hv : zhO n (K : Int) edges = some true := by
  unfold zhO;rw [e, hl];simp; omega
 unfold zA;rw [hv, ya, if_neg (by simp)];have hones : (ones K).length = K := by simp [ones]
 have rounds : loopF (zA.l2 n (K : Int) edges) n (([] : List (List Int)), ones K, 0) = some (cycP (hasP ⟨(K : Int), edges⟩) K) := by
  have := zbA (σ := List (List Int) × List (List Int)) (body := zA.l2 n (K : Int) edges) (len := K) (st := fun s i => (s.1, s.2, (i : Int))) (g := fun _ _ => some (cycP (hasP ⟨(K : Int), edges⟩) K))
   (fun i s => s.1 = (List.range i).flatMap (fun r => (lev (hasP ⟨(K : Int), edges⟩) K r (ones K)).filter (zdl (hasP ⟨(K : Int), edges⟩))) ∧ s.2 = lev (hasP ⟨(K : Int), edges⟩) K i (ones K) ∧ s.1.length ≤ i * 800000) (fun rec i s hi hI hr => ?_) (fun rec s hI => ?_) n 0 ([], ones K) (yp _) (by omega) ⟨rfl, rfl, by simp⟩
  ·exact this
  ·obtain ⟨s1, s2⟩ := s;obtain ⟨i1, i2, i3⟩ := hI;simp only at i1 i2 i3;have hlen : s2.length ≤ 800000 := by
    have := lev_len (E := hasP ⟨(K : Int), edges⟩) h6 i (ones K);rw [hones] at this;have h7 : 7 ^ i ≤ 7 ^ 5 := uy (by omega) (by omega);have h8 : K * 7 ^ i ≤ 6 * 7 ^ 5 := yY h6 h7;rw [i2];simp only [Nat.reducePow, Nat.reduceMul] at h8;omega
   have hpath : ∀ l ∈ s2, PathL K l := by rw [i2]; exact zgT i zgy
   simp only [zA.l2, zcy hi, if_true];rw [ref19_round h6 hl hn hpath hlen (by omega), zb (by omega)];refine hr (_, _) ⟨?_, ?_, ?_⟩
   ·simp only;rw [uz, List.flatMap_append, ← i1, i2]; simp
   ·rw [zh8, ← i2]; rfl
   ·simp only [yI];have := List.length_filter_le (zdl (hasP ⟨(K : Int), edges⟩)) s2;rw [y9]; omega
  ·obtain ⟨s1, s2⟩ := s;obtain ⟨i1, -, -⟩ := hI;simp only at i1;simp only [zA.l2, zb9 (yn K), ye, if_false];rw [i1]; rfl
 have := zcD (body := zA.l1 n (K : Int) edges) (k := K) (n := n) (st := fun (b : List (List Int)) i => (b, (i : Int))) (fun i => [[(i : Int)]]) (fun b => loopF (zA.l2 n (K : Int) edges) n (([] : List (List Int)), b, 0)) 1 []
  (fun i _ => by simp) (fun rec b i hi hb => ?_) (fun rec b hb => ?_) (by omega)
 ·have eo : (List.range K).flatMap (fun i : Nat => [[(i : Int)]]) = ones K := by
   unfold ones;rw [List.map_eq_flatMap]
  rw [eo, yV, rounds] at this;exact this
 ·simp only [zA.l1, zcy hi, if_true];rw [zq (by simp at hb; simp; omega), ya, zb (by omega)]
 ·simp only [zA.l1, zb9 (yn K), ye, if_false]
theorem zjY (a b c) : add64 (add64 a b) c = add64 a (add64 b c) := by
 simp only [add64, w64, IntKind.wrap_i64]; omega
theorem low_bound (x y) : add64 (add64 (-1) x) y = sub64 (add64 x y) 1 := by
 simp only [add64, sub64, w64, IntKind.wrap_i64]; omega
structure SameA (a : Action) : Prop where
 add : ∀ c, addP c a.effect.delta 0 = zr a.effect.delta c
 len : a.effect.delta.length ≤ 20
theorem SameA.Add {n a} (h : SameA a) (hn : 1000000 ≤ n) (c) : zbf n a.effect c = some (zr a.effect.delta c) := by
 have := h.len;rw [zjt c (by omega) (by omega), h.add]
theorem SameA.added {n a} (h : SameA a) (hn : 1000000 ≤ n) (c) : zD n a c = some (zr a.effect.delta c) := by
 have := h.len;exact zab c (by omega) (by omega)
theorem loopF_cyc {S R : Type} {body : (S → Option R) → S → Option R} {k n : Nat} {st : List Row → Bool → Bool → Nat → S} (Rr : Nat → Row) (p q : Nat → Bool) (fin : List Row → Bool → Bool → Option R)
  (step : ∀ rec rows x y i, i < k → rows.length ≤ i → body rec (st rows x y i) = rec (st (rows ++ [Rr i]) (x || p i) (y || q i) (i + 1))) (done : ∀ rec rows x y, rows.length ≤ k → body rec (st rows x y k) = fin rows x y) (hn : k < n) :
  loopF body n (st [] false false 0) = fin ((List.range k).map Rr) ((List.range k).any p) ((List.range k).any q) := by
 have := zbA (σ := List Row × Bool × Bool) (body := body) (len := k) (st := fun s i => st s.1 s.2.1 s.2.2 i) (g := fun _ _ => fin ((List.range k).map Rr) ((List.range k).any p) ((List.range k).any q)) (fun i s => s = ((List.range i).map Rr, (List.range i).any p, (List.range i).any q)) (fun rec i s hi hI hr => ?_) (fun rec s hI => ?_) n 0 ([], false, false) (yp _) (by omega) rfl
 ·exact this
 ·subst hI;rw [step rec _ _ _ i hi (by simp)];refine hr (_, _, _) ?_;simp only [uz, uh, List.any_append, yT, List.map_nil, uT, List.any_nil, uS];cases (List.range i).any p <;> cases (List.range i).any q <;> rfl
 ·subst hI;rw [done rec _ _ _ (by simp)]
def zct (c : Constraint) (cyc : List Int) (i : Nat) : Int := add64 c.first (add64 (mul64 (cyc.getD i 0) c.size) (cyc.getD ((i + 1) % cyc.length) 0))
def ziN (A B : Int → Int) (c : Constraint) (cyc : List Int) (i : Nat) : Row := ⟨[⟨zct c cyc i, -1⟩], sub64 (add64 (A (zct c cyc i)) (B (zct c cyc i))) 1⟩
def zdH (A B : Int → Int) (c : Constraint) (cyc : List Int) : List (List Row) :=
 if ((List.range cyc.length).any (fun i => decide (0 < A (zct c cyc i))) && (List.range cyc.length).any (fun i => decide (0 < B (zct c cyc i)))) = true then [(List.range cyc.length).map (ziN A B c cyc)] else []
def zha (A B : Int → Int) (box : List Range) (c : Constraint) (K : Nat) : List (List Row) :=
 (cycP (hasP ⟨(K : Int), (List.range (K * K)).map fun i : Nat => decide (1 ≤ add64 ((idx box (add64 c.first (i : Int))).getD default).hi (add64 (A (add64 c.first (i : Int))) (B (add64 c.first (i : Int)))))⟩) K).flatMap (zdH A B c)
theorem cyc_next {K cyc} (hp : PathL K cyc) (h6 : K ≤ 6) {i} (hi : i < cyc.length) : ∃ r : Nat, rem64 (add64 (i : Int) 1) (cyc.length : Int) = some (r : Int) ∧ r < cyc.length ∧ r = (i + 1) % cyc.length := by
 have := hp.len;rw [zb (by omega)];refine ⟨(i + 1) % cyc.length, ?_, Nat.mod_lt _ (by omega), rfl⟩;unfold rem64;rw [if_neg (by omega)];congr 1
theorem getD_at {l : List Int} {i : Nat} (hi : i < l.length) : l.getD i 0 = l[i] := by simp [yw, hi]
section
variable {n : Nat} {c : Constraint} {a b : Action} {K : Nat} (ha : SameA a) (hb : SameA b) (h6 : K ≤ 6) (hn : 1000000 ≤ n)
include ha hb h6 hn
theorem cases3_eq {cyc : List Int} {b1 : List (List Row)} {k : List (List Row) → Option (List (List Row))} (hp : PathL K cyc) (hb1 : b1.length ≤ 1000000) :
  loopF (zg.l3 n c a b b1 k cyc) n (([] : List Row), false, false, 0) = k (b1 ++ zdH (zr a.effect.delta) (zr b.effect.delta) c cyc) := by
 have hlen := hp.len;have := loopF_cyc (body := zg.l3 n c a b b1 k cyc) (k := cyc.length) (n := n) (st := fun rows x y i => (rows, x, y, (i : Int))) (ziN (zr a.effect.delta) (zr b.effect.delta) c cyc) (fun i => decide (0 < zr a.effect.delta (zct c cyc i))) (fun i => decide (0 < zr b.effect.delta (zct c cyc i)))
  (fun rows x y => if (x && y) = true then k (b1 ++ [rows]) else k b1) (fun rec rows x y i hi hr => ?_) (fun rec rows x y hr => ?_) (by omega)
 ·unfold zdH;refine this.trans ?_;split
  ·rfl
  ·rw [ug]
 ·obtain ⟨r, hr1, hr2, hr3⟩ := cyc_next hp h6 hi;have hcell : add64 c.first (add64 (mul64 cyc[i] c.size) cyc[r]) = zct c cyc i := by
   unfold zct; rw [getD_at hi, ← hr3, getD_at hr2]
  have h1 : zaN n (add64 (mul64 cyc[i] c.size) cyc[r]) a c b = some (add64 (zr a.effect.delta (zct c cyc i)) (zr b.effect.delta (zct c cyc i))) := by
   unfold zaN;rw [hcell, ha.added hn, ya, hb.added hn, ya]
  simp only [zg.l3, zh hi, if_true, za hi, ya, hr1, za hr2, hcell, ha.added hn, hb.added hn, h1, yj, yf, yr, grd];rw [zq (by simp; omega), ya, zb (by omega)];rfl
 ·simp only [zg.l3, zah, ye, if_false];split
  ·rw [zq (by simp; omega), ya]
  ·rfl
theorem rcases3_eq {cs : List (List Int)} {j : Nat} (hj : j < cs.length) {b1 : List (List Row)} {k : List (List Row) → Option (List (List Row))} (hp : PathL K cs[j]) (hb1 : b1.length ≤ 1000000) :
  loopF (zat.l3 n c a.effect b.effect cs b1 (j : Int) k) n (([] : List Row), false, false, 0) = k (b1 ++ zdH (zr a.effect.delta) (zr b.effect.delta) c cs[j]) := by
 have hlen := hp.len;have := loopF_cyc (body := zat.l3 n c a.effect b.effect cs b1 (j : Int) k) (k := cs[j].length) (n := n) (st := fun rows x y i => (rows, x, y, (i : Int))) (ziN (zr a.effect.delta) (zr b.effect.delta) c cs[j]) (fun i => decide (0 < zr a.effect.delta (zct c cs[j] i))) (fun i => decide (0 < zr b.effect.delta (zct c cs[j] i)))
  (fun rows x y => if (x && y) = true then k (b1 ++ [rows]) else k b1) (fun rec rows x y i hi hr => ?_) (fun rec rows x y hr => ?_) (by omega)
 ·unfold zdH;refine this.trans ?_;split
  ·rfl
  ·rw [ug]
 ·obtain ⟨r, hr1, hr2, hr3⟩ := cyc_next hp h6 hi;have hcell : add64 (add64 c.first (mul64 cs[j][i] c.size)) cs[j][r] = zct c cs[j] i := by
   rw [zjY];unfold zct; rw [getD_at hi, ← hr3, getD_at hr2]
  simp only [zat.l3, za hj, zh hi, if_true, za hi, ya, hr1, za hr2, hcell, ha.Add hn, hb.Add hn, yj, yf, yr, grd, low_bound];rw [zq (by simp; omega), ya, zb (by omega)];rfl
 ·simp only [zat.l3, za hj, ya, zah, ye, if_false];split
  ·rw [zq (by simp; omega), ya]
  ·rfl
theorem cases_both {box : List Range} (hs : c.size = (K : Int)) (h1 : 1 ≤ K) (h0 : 0 ≤ c.first) (hbx : c.first + ((K * K : Nat) : Int) ≤ (box.length : Int)) (hbl : box.length ≤ 1000) :
  zg n box c a b = some (zha (zr a.effect.delta) (zr b.effect.delta) box c K) ∧ zat n box c a.effect b.effect = some (zha (zr a.effect.delta) (zr b.effect.delta) box c K) := by
 have h4 : K * K ≤ 36 := yY h6 h6;have em : mul64 c.size c.size = ((K * K : Nat) : Int) := by
  rw [hs, zeb (by rw [← yK]; omega) (by rw [← yK]; omega)]; simp
 have hmk : mkl 1 (mul64 c.size c.size) false = some (List.replicate (K * K) false) := by
  rw [em]; unfold mkl; rw [if_pos (by omega), yq]
 obtain ⟨V, hV⟩ : ∃ V : Nat → Bool, V = fun i : Nat => decide (1 ≤ add64 ((idx box (add64 c.first (i : Int))).getD default).hi (add64 (zr a.effect.delta (add64 c.first (i : Int))) (zr b.effect.delta (add64 c.first (i : Int))))) := ⟨_, rfl⟩
 obtain ⟨edges, hE⟩ : ∃ edges, edges = (List.range (K * K)).map V := ⟨_, rfl⟩
 have hEl : edges.length = K * K := by rw [hE]; simp
 have hbox : ∀ i, i < K * K → ∃ w, idx box (add64 c.first (i : Int)) = some w := fun i hi => za8 (by rw [zby (by omega) (by omega)]; omega) (by rw [zby (by omega) (by omega)]; omega)
 have hcyc : zbC n (K : Int) edges = some (cycP (hasP ⟨(K : Int), edges⟩) K) := ziL h1 h6 hEl hn;have hrcyc : zA n (K : Int) edges = some (cycP (hasP ⟨(K : Int), edges⟩) K) := zkL h1 h6 hEl hn;obtain ⟨cyc, hcy⟩ : ∃ cyc, cyc = cycP (hasP ⟨(K : Int), edges⟩) K := ⟨_, rfl⟩
 have hcl : cyc.length ≤ 900000 := by
  obtain ⟨r, r1, r2, -⟩ := Cycles_tot (n := n) (size := (K : Int)) (edges := edges) rfl h1 h6 hEl hn;rw [hcyc] at r1;rw [hcy];cases r1;exact r2
 have hcp : ∀ l ∈ cyc, PathL K l := fun l hl => by
  rw [hcy] at hl;obtain ⟨r, -, hl⟩ := ue.1 hl;exact zgT r zgy l (List.mem_filter.1 hl).1
 have hres : zha (zr a.effect.delta) (zr b.effect.delta) box c K = cyc.flatMap (zdH (zr a.effect.delta) (zr b.effect.delta) c) := by
  unfold zha;rw [hcy, hE, hV]
 rw [← hcy] at hcyc hrcyc;rw [hres];have hgl : ∀ x : List Int, (zdH (zr a.effect.delta) (zr b.effect.delta) c x).length ≤ 1 := fun x => by unfold zdH; split <;> simp
 constructor
 ·unfold zg;rw [hmk, ya];have := zF (body := zg.l1 n box c a b (List.replicate (K * K) false)) (len := K * K) (st := fun i => ((List.range i).map V ++ List.replicate (K * K - i) false, (i : Int))) (g := fun _ => some (cyc.flatMap (zdH (zr a.effect.delta) (zr b.effect.delta) c))) (fun rec i hi hr => ?_) (fun rec => ?_) n 0 (yp _) (by omega)
  ·simpa using this
  ·have hlt : decide ((i : Int) < ((List.replicate (K * K) false).length : Int)) = true := by simp; omega
   obtain ⟨w, hw⟩ := hbox i hi;have hz : zaN n (i : Int) a c b = some (add64 (zr a.effect.delta (add64 c.first (i : Int))) (zr b.effect.delta (add64 c.first (i : Int)))) := by
    unfold zaN;rw [ha.added hn, ya, hb.added hn, ya]
   have hvi : V i = decide (1 ≤ add64 w.hi (add64 (zr a.effect.delta (add64 c.first (i : Int))) (zr b.effect.delta (add64 c.first (i : Int))))) := by rw [hV]; simp only [hw, yf]
   have hin : i < ((List.range i).map V ++ List.replicate (K * K - i) false).length := by simp; omega
   have hst : sto ((List.range i).map V ++ List.replicate (K * K - i) false) (i : Int) (V i) = some ((List.range (i + 1)).map V ++ List.replicate (K * K - (i + 1)) false) := by
    unfold sto;rw [if_pos ⟨by omega, by omega⟩, yq];congr 1;rw [List.set_append_right _ _ (by simp), show K * K - i = (K * K - (i + 1)) + 1 by omega, List.replicate_succ];simp [uz]
   simp only [zg.l1, hlt, if_true, hw, ya, hz, za hin];rw [← hvi, hst, ya, zb (by omega)];exact hr
  ·have hge : decide (((K * K : Nat) : Int) < ((List.replicate (K * K) false).length : Int)) = false := by simp
   have e0 : (List.range (K * K)).map V ++ List.replicate (K * K - K * K) false = edges := by rw [hE]; simp
   simp only [zg.l1, hge, ye, if_false, e0];rw [hs, hcyc, ya];have := zcD (body := zg.l2 n c a b cyc) (k := cyc.length) (n := n) (st := fun (s : List (List Row)) i => (s, (i : Int))) (fun i => zdH (zr a.effect.delta) (zr b.effect.delta) c (cyc.getD i [])) some 1 [] (fun i _ => hgl _) (fun rec s i hi hI => ?_) (fun rec s hI => ?_) (by omega)
   ·rw [ziQ] at this;simpa using this
   ·have e : cyc.getD i [] = cyc[i] := by simp [yw, hi]
    rw [e];simp only [zg.l2, zh hi, if_true, jn, za hi, ya];rw [cases3_eq ha hb h6 hn (hcp _ (yg hi)) (by simp at hI; omega), zb (by omega)]
   ·simp only [zg.l2, zah, ye, if_false]
 ·unfold zat;have := zcD (body := zat.l1 n box c a.effect b.effect) (k := K * K) (n := n) (st := fun (s : List Bool) i => (s, (i : Int))) (fun i => [V i]) (fun s => (zA n c.size s).bind fun x59_21 => loopF (zat.l2 n c a.effect b.effect x59_21) n (([] : List (List Row)), 0)) 1 [] (fun i _ => by simp) (fun rec s i hi hI => ?_) (fun rec s hI => ?_) (by omega)
  ·have e0 : (List.range (K * K)).flatMap (fun i => [V i]) = edges := by rw [hE, List.map_eq_flatMap]
   rw [e0, yV, hs, hrcyc, ya] at this;refine this.trans ?_;have := zcD (body := zat.l2 n c a.effect b.effect cyc) (k := cyc.length) (n := n) (st := fun (s : List (List Row)) i => (s, (i : Int))) (fun i => zdH (zr a.effect.delta) (zr b.effect.delta) c (cyc.getD i [])) some 1 [] (fun i _ => hgl _) (fun rec s i hi hI => ?_) (fun rec s hI => ?_) (by omega)
   ·rw [ziQ] at this;simpa using this
   ·have e : cyc.getD i [] = cyc[i] := by simp [yw, hi]
    rw [e];simp only [zat.l2, zh hi, if_true, jn];rw [rcases3_eq ha hb h6 hn hi (hcp _ (yg hi)) (by simp at hI; omega), zb (by omega)]
   ·simp only [zat.l2, zah, ye, if_false]
  ·have hlt : decide ((i : Int) < mul64 c.size c.size) = true := by rw [em]; simp; omega
   obtain ⟨w, hw⟩ := hbox i hi;have hvi : V i = decide (1 ≤ add64 (add64 w.hi (zr a.effect.delta (add64 c.first (i : Int)))) (zr b.effect.delta (add64 c.first (i : Int)))) := by rw [hV, zjY]; simp only [hw, yf]
   simp only [zat.l1, hlt, if_true, hw, ya, ha.Add hn, hb.Add hn];rw [← hvi, zq (by simp at hI; simp; omega), ya, zb (by omega)]
  ·have hge : decide (((K * K : Nat) : Int) < mul64 c.size c.size) = false := by rw [em]; simp
   simp only [zat.l1, hge, ye, if_false]
end

theorem zjU {n m} (hn : 4294967296 ≤ n) (hS : SmallM m) (hV : ValidM m) {a} (ha : a ∈ m.actions) : SameA a :=
 ⟨((zfJ hn hS hV).acts a ha).2.2.1, by have := (act_ok hS ha).delta; omega⟩
section
variable {E : Nat → Nat → Bool} {K : Nat}
theorem anyR_iff {p} : ∀ {k i : Nat}, anyR p i k = true ↔ ∃ j, i ≤ j ∧ j < i + k ∧ p j = true
 | 0, i => by simp [anyR]; omega
 | k + 1, i => by
  simp only [anyR, yz, anyR_iff (k := k) (i := i + 1)];constructor
  ·rintro (h | ⟨j, h1, h2, h3⟩)
   ·exact ⟨i, yn _, by omega, h⟩
   ·exact ⟨j, by omega, by omega, h3⟩
  ·rintro ⟨j, h1, h2, h3⟩;by_cases e : i = j
   ·subst e; exact .inl h3
   ·exact .inr ⟨j, by omega, by omega, h3⟩
theorem zh7 : ∀ (r : Nat) (ls : List (List Int)), lev E K r ls = ls.flatMap fun l => lev E K r [l]
 | 0, ls => by simp [lev]
 | r + 1, ls => by
  have e : ∀ l, lev E K (r + 1) [l] = (ext E K l).flatMap fun x => lev E K r [x] := fun l => by
   have : lev E K (r + 1) [l] = lev E K r (ext E K l) := by simp [lev]
   rw [this, zh7 r]
  simp only [e];rw [lev, zh7 r, List.flatMap_assoc]
theorem fstN_snoc {l x} (h : l ≠ []) : fstN (l ++ [x]) = fstN l := by
 cases l with
 | nil => exact absurd rfl h
 | cons a t => rfl
theorem zic {l : List Int} {x : Nat} : lstN (l ++ [(x : Int)]) = x := by simp [lstN]
theorem zdJ {l x} : x ∈ ext E K l ↔ ∃ j, fstN l + 1 ≤ j ∧ j < K ∧ E (lstN l) j = true ∧ (j : Int) ∉ l ∧ x = l ++ [(j : Int)] := by
 constructor
 ·intro h;obtain ⟨i, h1, h2, h3, h4⟩ := ziZ E K h;exact ⟨fstN l + 1 + i, by omega, by omega, h2, h3, h4⟩
 ·rintro ⟨j, h1, h2, h3, h4, rfl⟩;refine ue.2 ⟨j - (fstN l + 1), yL.2 (by omega), ?_⟩;have e : fstN l + 1 + (j - (fstN l + 1)) = j := by omega
  unfold ext1;rw [e, if_pos (by simp [h3, h4])];simp
theorem neP_lev : ∀ (d : Nat) (path : List Int) (first last : Nat), path ≠ [] → fstN path = first → lstN path = last →
  (neP E K d path first last = true ↔ ∃ x ∈ lev E K d [path], zdl E x = true)
 | 0, path, first, last, _, h1, h2 => by
  subst h1 h2;simp [neP, lev, zdl]
 | d + 1, path, first, last, h0, h1, h2 => by
  subst h1 h2;have e : lev E K (d + 1) [path] = lev E K d (ext E K path) := by simp [lev]
  rw [e, zh7, neP, anyR_iff];simp only [ue];constructor
  ·rintro ⟨j, j1, j2, j3⟩;simp only [yb, yx, ua, yC, Bool.not_eq_false'] at j3;obtain ⟨⟨j3, j4⟩, j5⟩ := j3;obtain ⟨x, x1, x2⟩ := (neP_lev d (path ++ [(j : Int)]) (fstN path) j (by simp) (fstN_snoc h0) zic).1 j5;exact ⟨x, ⟨_, zdJ.2 ⟨j, j1, by omega, j4, j3, rfl⟩, x1⟩, x2⟩
  ·rintro ⟨x, ⟨y, y1, y2⟩, x2⟩;obtain ⟨j, j1, j2, j3, j4, rfl⟩ := zdJ.1 y1;refine ⟨j, j1, by omega, ?_⟩;simp only [yb, yx, ua, yC, Bool.not_eq_false'];exact ⟨⟨j4, j3⟩, (neP_lev d (path ++ [(j : Int)]) (fstN path) j (by simp) (fstN_snoc h0) zic).2 ⟨x, y2, x2⟩⟩
theorem zfO {x} : x ∈ cycP E K ↔ ∃ r, r < K ∧ x ∈ lev E K r (ones K) ∧ zdl E x = true := by
 simp only [cycP, ue, yL, List.mem_filter]
theorem zhU : acycE E K = true ↔ ∀ x, x ∉ cycP E K := by
 unfold acycE;rw [zjQ];constructor
 ·intro h x hx;obtain ⟨r, r1, r2, r3⟩ := zfO.1 hx;rw [zh7] at r2;obtain ⟨l, l1, l2⟩ := ue.1 r2;obtain ⟨a, a1, rfl⟩ := yU.1 l1;have := zja.1 (h (r + 1) (by omega) (by omega)) a (yL.1 a1);rw [Nat.add_sub_cancel, (neP_lev r [(a : Int)] a a (by simp) (by simp [fstN]) (by simp [lstN])).2 ⟨x, l2, r3⟩] at this;cases this
 ·intro h len h1 h2;refine zja.2 fun a ha => ?_
  cases hn : neP E K (len - 1) [(a : Int)] a a with
  | false => rfl
  | true =>
   obtain ⟨x, x1, x2⟩ := (neP_lev (len - 1) [(a : Int)] a a (by simp) (by simp [fstN]) (by simp [lstN])).1 hn;refine absurd (zfO.2 ⟨len - 1, by omega, ?_, x2⟩) (h x);rw [zh7];exact ue.2 ⟨_, yU.2 ⟨a, yL.2 ha, rfl⟩, x1⟩
def vtx (l : List Int) (i : Nat) : Nat := (l.getD i 0).toNat
def Chn (E : Nat → Nat → Bool) (l : List Int) : Prop := ∀ j, j + 1 < l.length → E (vtx l j) (vtx l (j + 1)) = true
theorem zg0 {l x i} (h : i < l.length) : vtx (l ++ [x]) i = vtx l i := by
 unfold vtx;rw [yw, yw, yk h]
theorem vtx_right {l : List Int} {x : Nat} : vtx (l ++ [(x : Int)]) l.length = x := by
 unfold vtx;rw [yw];simp
theorem lstN_vtx {l} : lstN l = vtx l (l.length - 1) := by
 unfold lstN vtx;rw [List.getLastD_eq_getLast?, List.getLast?_eq_getElem?, yw]
theorem fstN_vtx {l} : fstN l = vtx l 0 := by
 cases l <;> rfl
theorem Chn.snoc {l : List Int} {b : Nat} (h0 : l ≠ []) : Chn E (l ++ [(b : Int)]) ↔ Chn E l ∧ E (lstN l) b = true := by
 have hp : 0 < l.length := List.length_pos_iff.2 h0;constructor
 ·intro h;refine ⟨fun j hj => ?_, ?_⟩
  ·have := h j (by simp; omega)
   rwa [zg0 (by omega), zg0 (by omega)] at this
  ·have := h (l.length - 1) (by simp; omega)
   rwa [zg0 (by omega), show l.length - 1 + 1 = l.length by omega, vtx_right, ← lstN_vtx] at this
 ·rintro ⟨h1, h2⟩ j hj;simp only [yI, yQ, ux] at hj;by_cases e : j + 1 < l.length
  ·rw [zg0 (by omega), zg0 (by omega)]; exact h1 j e
  ·have e2 : j + 1 = l.length := by omega
   rw [zg0 (by omega), e2, vtx_right, show j = l.length - 1 by omega, ← lstN_vtx]; exact h2
theorem lev_ne : ∀ {r : Nat} {x : List Int}, x ∈ lev E K r (ones K) → x ≠ [] := fun {r x} h e => by
 have := (zgT r zgy x h).pos;rw [e] at this; simp at this
theorem lev_chn : ∀ {r : Nat} {x : List Int}, x ∈ lev E K r (ones K) → Chn E x
 | 0, x, h => by
  obtain ⟨a, -, rfl⟩ := yU.1 h;intro j hj; simp at hj
 | r + 1, x, h => by
  rw [zh8] at h;obtain ⟨y, y1, y2⟩ := ue.1 h;obtain ⟨j, -, -, j3, -, rfl⟩ := zdJ.1 y2;exact (Chn.snoc (lev_ne y1)).2 ⟨lev_chn y1, j3⟩
theorem lev_with {F} : ∀ {r : Nat} {x : List Int}, x ∈ lev F K r (ones K) → Chn E x → x ∈ lev E K r (ones K)
 | 0, x, h, _ => h
 | r + 1, x, h, hc => by
  rw [zh8] at h ⊢;obtain ⟨y, y1, y2⟩ := ue.1 h;obtain ⟨j, j1, j2, -, j4, rfl⟩ := zdJ.1 y2;obtain ⟨c1, c2⟩ := (Chn.snoc (lev_ne y1)).1 hc;exact ue.2 ⟨y, lev_with y1 c1, zdJ.2 ⟨j, j1, j2, c2, j4, rfl⟩⟩
def CycIn (E : Nat → Nat → Bool) (l : List Int) : Prop := ∀ i, i < l.length → E (vtx l i) (vtx l ((i + 1) % l.length)) = true
theorem cycIn_iff {l} (h0 : l ≠ []) : CycIn E l ↔ Chn E l ∧ zdl E l = true := by
 have hp : 0 < l.length := List.length_pos_iff.2 h0;unfold zdl;rw [lstN_vtx, fstN_vtx];constructor
 ·intro h;refine ⟨fun j hj => ?_, ?_⟩
  ·have := h j (by omega)
   rwa [Nat.mod_eq_of_lt hj] at this
  ·have := h (l.length - 1) (by omega)
   rwa [show l.length - 1 + 1 = l.length by omega, Nat.mod_self] at this
 ·rintro ⟨h1, h2⟩ i hi;by_cases e : i + 1 < l.length
  ·rw [Nat.mod_eq_of_lt e]; exact h1 i e
  ·have e2 : i + 1 = l.length := by omega
   rw [e2, Nat.mod_self, show i = l.length - 1 by omega]; exact h2
theorem cycP_in {x} (h : x ∈ cycP E K) : CycIn E x := by
 obtain ⟨r, -, r2, r3⟩ := zfO.1 h;exact (cycIn_iff (lev_ne r2)).2 ⟨lev_chn r2, r3⟩
theorem zkd {F x} (h : x ∈ cycP F K) (hc : CycIn E x) : x ∈ cycP E K := by
 obtain ⟨r, r1, r2, -⟩ := zfO.1 h;obtain ⟨c1, c2⟩ := (cycIn_iff (lev_ne r2)).1 hc;exact zfO.2 ⟨r, r1, lev_with r2 c1, c2⟩
theorem zhW {x} (h : x ∈ cycP E K) : PathL K x := by
 obtain ⟨r, -, r2, -⟩ := zfO.1 h;exact zgT r zgy x r2
theorem CycIn.mono {F x} (hp : PathL K x) (h : ∀ a b, a < K → b < K → E a b = true → F a b = true) (hc : CycIn E x) : CycIn F x := fun i hi => by
 have hm : ∀ j, j < x.length → vtx x j < K := fun j hj => by
  have := hp.mem x[j] (yg hj);unfold vtx;rw [yw, yt hj];simp only [yf]; omega
 exact h _ _ (hm i hi) (hm _ (Nat.mod_lt _ (by omega))) (hc i hi)
structure Walk (E : Nat → Nat → Bool) (K p : Nat) (f : Nat → Nat) : Prop where
 per : ∀ i, f (i + p) = f i
 lt : ∀ i, f i < K
 edge : ∀ i, E (f i) (f (i + 1)) = true
theorem argmin (f : Nat → Nat) : ∀ p, 0 < p → ∃ t, t < p ∧ ∀ j, j < p → f t ≤ f j
  | 0, h => by omega
  | 1, _ => ⟨0, by omega, fun j hj => by have : j = 0 := by omega
                                         subst this; exact yn _⟩
  | p + 2, _ => by
    obtain ⟨t, t1, t2⟩ := argmin f (p + 1) (by omega);by_cases h : f t ≤ f (p + 1)
    · exact ⟨t, by omega, fun j hj => by
        by_cases e : j = p + 1
        · subst e; exact h
        · exact t2 j (by omega)⟩
    · exact ⟨p + 1, by omega, fun j hj => by
        by_cases e : j = p + 1
        · subst e; exact yn _
        · have := t2 j (by omega); omega⟩
theorem per_mod {f : Nat → Nat} {p : Nat} (h : ∀ i, f (i + p) = f i) : ∀ i, f i = f (i % p) := fun i => by
 have : ∀ k i, f (i + k * p) = f i := fun k => by
  induction k with
  | zero => intro i; simp
  | succ k ih => intro i; rw [y9, ← Nat.add_assoc, h, ih]
 have e := this (i / p) (i % p);rw [Nat.mul_comm, Nat.mod_add_div] at e;exact e
theorem walk_list {p : Nat} {f : Nat → Nat} (hp : 0 < p) (hw : Walk E K p f) (hinj : ∀ i j, i < p → j < p → f i = f j → i = j) : ∃ t, t < p ∧ ((List.range p).map fun i => ((f (t + i) : Nat) : Int)) ∈ cycP E K := by
 obtain ⟨t, t1, t2⟩ := argmin f p hp;have gmod := per_mod hw.per;have ginj : ∀ i j, i < p → j < p → f (t + i) = f (t + j) → i = j := fun i j hi hj e => by
  rw [gmod (t + i), gmod (t + j)] at e;have := hinj _ _ (Nat.mod_lt _ hp) (Nat.mod_lt _ hp) e;have h1 : (t + i) % p = if t + i < p then t + i else t + i - p := by
   split
   ·rw [Nat.mod_eq_of_lt ‹_›]
   ·rw [Nat.mod_eq_sub_mod (by omega), Nat.mod_eq_of_lt (by omega)]
  have h2 : (t + j) % p = if t + j < p then t + j else t + j - p := by
   split
   ·rw [Nat.mod_eq_of_lt ‹_›]
   ·rw [Nat.mod_eq_sub_mod (by omega), Nat.mod_eq_of_lt (by omega)]
  rw [h1, h2] at this;split at this <;> split at this <;> omega
 have gmin : ∀ j, 0 < j → j < p → f t + 1 ≤ f (t + j) := fun j h0 hj => by
  have h1 : f t ≤ f (t + j) := by rw [gmod (t + j)]; exact t2 _ (Nat.mod_lt _ hp)
  have h2 : f t ≠ f (t + j) := fun e => by
   have := ginj 0 j (by omega) hj (by simpa using e);omega
  omega
 have hlev : ∀ r, r < p → ((List.range (r + 1)).map fun i => ((f (t + i) : Nat) : Int)) ∈ lev E K r (ones K) := fun r => by
  induction r with
  | zero =>
   intro _;exact yU.2 ⟨f t, yL.2 (hw.lt t), by simp [uz]⟩
  | succ r ih2 =>
   intro hr;have hy := ih2 (by omega);rw [zh8];refine ue.2 ⟨_, hy, zdJ.2 ⟨f (t + (r + 1)), ?_, hw.lt _, ?_, ?_, ?_⟩⟩
   ·have : fstN ((List.range (r + 1)).map fun i => ((f (t + i) : Nat) : Int)) = f t := by
     rw [List.range_succ_eq_map]; simp [fstN]
    rw [this]; exact gmin _ (by omega) hr
   ·have : lstN ((List.range (r + 1)).map fun i => ((f (t + i) : Nat) : Int)) = f (t + r) := by
     rw [uz, uh]; exact zic
    rw [this]; exact hw.edge (t + r)
   ·intro hm;obtain ⟨i, i1, i2⟩ := yU.1 hm;have := ginj i (r + 1) (by have := yL.1 i1; omega) hr (by omega);have := yL.1 i1;omega
   ·rw [uz (n := r + 1), uh]; rfl
 have hl := hlev (p - 1) (by omega);rw [show p - 1 + 1 = p by omega] at hl;have hpl := (zgT (p - 1) zgy _ hl).len;simp only [uc, uJ] at hpl;refine ⟨t, t1, zfO.2 ⟨p - 1, by omega, hl, ?_⟩⟩;unfold zdl;have h1 : lstN ((List.range p).map fun i => ((f (t + i) : Nat) : Int)) = f (t + (p - 1)) := by
  obtain ⟨k, rfl⟩ : ∃ k, p = k + 1 := ⟨p - 1, by omega⟩
  rw [uz, uh]; exact zic
 have h2 : fstN ((List.range p).map fun i => ((f (t + i) : Nat) : Int)) = f t := by
  obtain ⟨k, rfl⟩ : ∃ k, p = k + 1 := ⟨p - 1, by omega⟩
  rw [List.range_succ_eq_map]; simp [fstN]
 rw [h1, h2];have := hw.edge (t + (p - 1))
 rwa [show t + (p - 1) + 1 = t + p by omega, hw.per] at this
theorem walk_cyc : ∀ (p : Nat), 0 < p → ∀ f, Walk E K p f → ∃ x, x ∈ cycP E K := by
 intro p
 induction p using Nat.strongRecOn with
 | ind p ih =>
  intro hp f hw;by_cases hd : ∃ i j, i < j ∧ j < p ∧ f i = f j
  ·obtain ⟨i, j, h1, h2, h3⟩ := hd;have hd0 : 0 < j - i := by omega
   refine ih (j - i) (by omega) hd0 (fun n => f (i + n % (j - i))) ⟨fun n => by simp, fun n => hw.lt _, fun n => ?_⟩;have hlt := Nat.mod_lt n hd0;by_cases e : n % (j - i) + 1 < j - i
   ·have : (n + 1) % (j - i) = n % (j - i) + 1 := by
     rw [Nat.add_mod, Nat.mod_eq_of_lt (a := 1) (by omega), Nat.mod_eq_of_lt e]
    rw [this];exact hw.edge _
   ·have e2 : n % (j - i) + 1 = j - i := by omega
    have : (n + 1) % (j - i) = 0 := by
     by_cases e1 : j - i = 1
     ·rw [e1, Nat.mod_one]
     ·rw [Nat.add_mod, Nat.mod_eq_of_lt (a := 1) (by omega), e2, Nat.mod_self]
    rw [this, uo, h3];have := hw.edge (i + n % (j - i))
    rwa [show i + n % (j - i) + 1 = j by omega] at this
  ·have hinj : ∀ i j, i < p → j < p → f i = f j → i = j := fun i j hi hj e => by
    rcases Nat.lt_trichotomy i j with h | h | h
    ·exact absurd ⟨i, j, h, hj, e⟩ hd
    ·exact h
    ·exact absurd ⟨j, i, h, hi, e.symm⟩ hd
   obtain ⟨t, -, ht⟩ := walk_list hp hw hinj;exact ⟨_, ht⟩
def Before (E : Nat → Nat → Bool) (K : Nat) (S : Nat → Prop) : Prop := ∀ a, a < K → S a → ∃ b, b < K ∧ S b ∧ E b a = true
theorem before_cyc {S} (hS : Before E K S) {s} (hs : s < K) (hs2 : S s) : ∃ x, x ∈ cycP E K := by
 have hch : ∀ a : {a : Nat // a < K ∧ S a}, ∃ b : {a : Nat // a < K ∧ S a}, E b.1 a.1 = true := fun a => by
  obtain ⟨b, b1, b2, b3⟩ := hS a.1 a.2.1 a.2.2;exact ⟨⟨b, b1, b2⟩, b3⟩
 let pred := fun a => Classical.choose (hch a)
 have hpred : ∀ a, E (pred a).1 a.1 = true := fun a => Classical.choose_spec (hch a)
 let u : Nat → {a : Nat // a < K ∧ S a} := fun n => Nat.rec ⟨s, hs, hs2⟩ (fun _ a => pred a) n
 have hu : ∀ n, E (u (n + 1)).1 (u n).1 = true := fun n => hpred (u n)
 have hrep : ∃ i j, i < j ∧ j ≤ K ∧ (u i).1 = (u j).1 := by
  refine Classical.byContradiction fun hno => ?_
  have hnd : ((List.range (K + 1)).map fun i => ((u i).1 : Int)).Nodup := by
   unfold List.Nodup;rw [List.pairwise_map];refine List.Pairwise.imp_of_mem (fun {a b} ha hb hab e => ?_) List.pairwise_lt_range;exact hno ⟨a, b, hab, by have := yL.1 hb; omega, by omega⟩
  have := zih (K := K) hnd fun x hx => by
   obtain ⟨i, -, rfl⟩ := yU.1 hx;have := (u i).2.1;omega
  simp only [uc, uJ] at this;omega
 obtain ⟨i, j, h1, h2, h3⟩ := hrep;have hd0 : 0 < j - i := by omega
 refine walk_cyc (j - i) hd0 (fun n => (u (j - n % (j - i))).1) ⟨fun n => by simp, fun n => (u _).2.1, fun n => ?_⟩;have hlt := Nat.mod_lt n hd0;by_cases e : n % (j - i) + 1 < j - i
 ·have : (n + 1) % (j - i) = n % (j - i) + 1 := by
   rw [Nat.add_mod, Nat.mod_eq_of_lt (a := 1) (by omega), Nat.mod_eq_of_lt e]
  simp only [this];have := hu (j - (n % (j - i) + 1))
  rwa [show j - (n % (j - i) + 1) + 1 = j - n % (j - i) by omega] at this
 ·have e2 : n % (j - i) + 1 = j - i := by omega
  have : (n + 1) % (j - i) = 0 := by
   by_cases e1 : j - i = 1
   ·rw [e1, Nat.mod_one]
   ·rw [Nat.add_mod, Nat.mod_eq_of_lt (a := 1) (by omega), e2, Nat.mod_self]
  simp only [this, Nat.sub_zero];rw [← h3];have := hu i
  rwa [show i + 1 = j - n % (j - i) by omega] at this
theorem cyc_before {x} (h : x ∈ cycP E K) : Before E K (fun a => (a : Int) ∈ x) ∧ ∃ a, a < K ∧ (a : Int) ∈ x := by
 have hp := zhW h;have hc := cycP_in h;have hpos := hp.pos;have hv : ∀ j, j < x.length → vtx x j < K ∧ ((vtx x j : Nat) : Int) ∈ x ∧ x[j]? = some ((vtx x j : Nat) : Int) := fun j hj => by
  have hm := hp.mem x[j] (yg hj);have e : ((vtx x j : Nat) : Int) = x[j] := by
   unfold vtx;rw [yw, yt hj];simp only [yf]; omega
  rw [e];exact ⟨by omega, yg hj, yt hj⟩
 refine ⟨fun a ha hm => ?_, vtx x 0, (hv 0 (by omega)).1, (hv 0 (by omega)).2.1⟩;obtain ⟨i, hi, e⟩ := List.getElem_of_mem hm;have hj : ∃ j, j < x.length ∧ (j + 1) % x.length = i := by
  by_cases e0 : i = 0
  ·exact ⟨x.length - 1, by omega, by rw [show x.length - 1 + 1 = x.length by omega, Nat.mod_self, e0]⟩
  ·exact ⟨i - 1, by omega, by rw [show i - 1 + 1 = i by omega, Nat.mod_eq_of_lt hi]⟩
 obtain ⟨j, j1, j2⟩ := hj;have := hc j j1;rw [j2] at this;have ei : vtx x i = a := by
  unfold vtx;rw [yw, yt hi, e];simp
 rw [ei] at this;exact ⟨vtx x j, (hv j j1).1, (hv j j1).2.1, this⟩
end
theorem count_off {b : List Bool} {j : Nat} (hj : j < b.length) : (b.set j false).count true ≤ b.count true ∧ (b.getD j false = true → (b.set j false).count true < b.count true) := by
 have e : b.getD j false = b[j] := by simp [yw, hj]
 have hc := List.count_set (a := false) (b := true) (l := b) (i := j) hj;simp only [beq_iff_eq, ye, if_false, uo] at hc;refine ⟨by rw [hc]; omega, fun h => ?_⟩;rw [e] at h;have : 0 < b.count true := List.count_pos_iff.2 (by rw [← h]; exact yg hj);rw [hc, if_pos h]; omega
theorem sto_at {α : Type} {l : List α} {i : Nat} {x : α} (h : i < l.length) : sto l (i : Int) x = some (l.set i x) := by
 unfold sto;simp [h]
theorem Acyclic_eq {n K : Nat} {edges : List Bool} (hK : K ≤ 6) (hE : edges.length = K * K) (hn : 1000000 ≤ n) : zc n (K : Int) edges = some (acycE (hasP ⟨(K : Int), edges⟩) K) := by
 have h36 : K * K ≤ 36 := yY hK hK;obtain ⟨EE, hEE⟩ : ∃ EE, EE = hasP ⟨(K : Int), edges⟩ := ⟨_, rfl⟩
 have hget : ∀ p j, p < K → j < K → edges[p * K + j]? = some (EE p j) := fun p j hp hj => by
  have hlt := ze1 hp hj;rw [hEE];simp [hasP, yw, hE, hlt]
 rw [← hEE];have main : ∃ v, zc n (K : Int) edges = some v ∧ v = acycE EE K := by
  unfold zc;have := za1 (body := zc.l1 n (K : Int) edges) (k := K) (n := n) (st := fun (b : List Bool) i => (b, (i : Int))) (fun i b => b = List.replicate i true) (fun v : Bool => v = acycE EE K) (fun rec i b hi hI hr => ?_) (fun rec b hI => ?_) (by omega) [] rfl
  ·simpa using this
  ·subst hI;simp only [zc.l1, zcy hi, if_true];rw [zq (by simp; omega), ya, zb (by omega)];exact hr _ List.replicate_succ'.symm
  ·subst hI;simp only [zc.l1, zb9 (yn K), ye, if_false];have := za1 (body := zc.l2 n (K : Int) edges) (k := K) (n := n) (st := fun (b : List Bool) i => (b, (i : Int))) (fun i b => b.length = K ∧ (∀ C, Before EE K C → ∀ a, a < K → C a → b.getD a false = true) ∧ (b.count true ≤ K - i ∨ ∃ x, x ∈ cycP EE K)) (fun v : Bool => v = acycE EE K) (fun rec i b hi hI hr => ?_) (fun rec b hI => ?_) (by omega) (List.replicate K true) ⟨by simp, fun C _ a ha _ => by simp [yw, ha], .inl (by simp)⟩
   ·simpa using this
   ·obtain ⟨I1, I2, I3⟩ := hI;simp only [zc.l2, zcy hi, if_true];have := za1 (body := zc.l3 n (K : Int) edges (i : Int) rec) (k := K) (n := n) (st := fun (b : List Bool) j => (b, (j : Int))) (fun j c => c.length = K ∧ (∀ C, Before EE K C → ∀ a, a < K → C a → c.getD a false = true) ∧ ((c = b ∧ ∀ a, a < j → b.getD a false = true → ∃ p, p < K ∧ b.getD p false = true ∧ EE p a = true) ∨ c.count true < b.count true)) (fun v : Bool => v = acycE EE K) (fun rec2 j c hj hJ hr2 => ?_) (fun rec2 c hJ => ?_) (by omega) b ⟨I1, I2, .inl ⟨rfl, fun a h => by omega⟩⟩
    ·simpa using this
    ·obtain ⟨J1, J2, J3⟩ := hJ;simp only [zc.l3, zcy hj, if_true, jn, zb (i := j) (by omega)];have := za1 (body := zc.l4 n (K : Int) edges c (j : Int) (fun v => rec2 (v, ((j + 1 : Nat) : Int)))) (k := K) (n := n) (st := fun (x : Bool) p => (x, (p : Int))) (fun p x => x = true ↔ ∀ p', p' < p → ¬ (c.getD p' false = true ∧ EE p' j = true)) (fun v : Bool => v = acycE EE K) (fun rec3 p x hp hx hr3 => ?_) (fun rec3 x hx => ?_) (by omega) true (by simp)
     ·simpa using this
     ·have hpair := ze1 hp hj;have e1 : mul64 (p : Int) (K : Int) = ((p * K : Nat) : Int) := by
       unfold mul64;rw [zaL (by rw [← yK]; omega) (by rw [← yK]; omega)]; simp
      have ec : c.getD p false = c[p] := by simp [yw, show p < c.length by omega]
      have ee : idx edges ((p * K + j : Nat) : Int) = some (EE p j) := by
       rw [za (by omega)];have := hget p j hp hj
       rwa [yt (by omega)] at this
      simp only [zc.l4, zcy hp, if_true, jn, za (show p < c.length by omega), ya, e1];rw [zcY (by omega), ee];simp only [yj, yr, grd, if_true, yf, zb (i := p) (by omega)];by_cases hc : (c[p] && EE p j) = true
      ·rw [if_pos hc];refine hr3 _ ?_;simp only [yb] at hc;simp only [ye, false_iff];intro hall;exact hall p (by omega) ⟨by rw [ec]; exact hc.1, hc.2⟩
      ·rw [if_neg hc];refine hr3 _ ?_;rw [hx];simp only [yb] at hc;constructor
       ·intro h p' hp';by_cases e : p' = p
        ·subst e; rw [ec]; exact hc
        ·exact h p' (by omega)
       ·intro h p' hp'; exact h p' (by omega)
     ·simp only [zc.l4, zb9 (yn K), ye, if_false];by_cases hf : x = true
      ·have hfree := hx.1 hf;rw [if_pos hf, za (show j < c.length by omega), ya, sto_at (by omega), ya];refine hr2 _ ⟨by simp [J1], fun C hC a ha hCa => ?_, ?_⟩
       ·have hne : a ≠ j := fun e => by
         subst e;obtain ⟨q, q1, q2, q3⟩ := hC a ha hCa;exact hfree q q1 ⟨J2 C hC q q1 q2, q3⟩
        rw [yw, yB (by omega), ← yw];exact J2 C hC a ha hCa
       ·obtain ⟨o1, o2⟩ := count_off (b := c) (j := j) (by omega);rcases J3 with ⟨rfl, h⟩ | h
        ·by_cases e : c.getD j false = true
         ·exact .inr (o2 e)
         ·have hs : c.set j false = c := by
           have e2 : c[j]'(by omega) = false := by
            simpa [yw, show j < c.length by omega] using e
           rw [← e2];exact List.set_getElem_self _
          rw [hs];exact .inl ⟨rfl, fun a ha hb => by
           by_cases e2 : a = j
           ·subst e2; exact absurd hb e
           ·exact h a (by omega) hb⟩
        ·exact .inr (by omega)
      ·rw [if_neg hf];refine hr2 c ⟨J1, J2, ?_⟩;rcases J3 with ⟨rfl, h⟩ | h
       ·refine .inl ⟨rfl, fun a ha hb => ?_⟩;by_cases e2 : a = j
        ·subst e2;exact Classical.byContradiction fun hno => hf (hx.2 fun p' hp' hh => hno ⟨p', hp', hh.1, hh.2⟩)
        ·exact h a (by omega) hb
       ·exact .inr h
    ·obtain ⟨J1, J2, J3⟩ := hJ;simp only [zc.l3, zb9 (yn K), ye, if_false, zb (i := i) (by omega)];refine hr c ⟨J1, J2, ?_⟩;rcases I3 with I3 | I3
     ·rcases J3 with ⟨rfl, h⟩ | h
      ·by_cases e : ∃ a, a < K ∧ c.getD a false = true
       ·obtain ⟨a, a1, a2⟩ := e;exact .inr (before_cyc (S := fun a => c.getD a false = true) (fun a ha h1 => h a ha h1) a1 a2)
       ·left;have : c.count true = 0 := List.count_eq_zero.2 fun hm => by
         obtain ⟨a, a1, a2⟩ := List.getElem_of_mem hm;exact e ⟨a, by omega, by simp [yw, a1, a2]⟩
        omega
      ·exact .inl (by omega)
     ·exact .inr I3
   ·obtain ⟨I1, I2, I3⟩ := hI;simp only [zc.l2, zb9 (yn K), ye, if_false];have := za1 (body := zc.l5 n (K : Int) b) (k := K) (n := n) (st := fun (_ : Unit) i => (i : Int)) (fun i _ => ∀ a, a < i → b.getD a false = false) (fun v : Bool => v = acycE EE K) (fun rec i _ hi hI hr => ?_) (fun rec _ hI => ?_) (by omega) () (fun a h => by omega)
    ·simpa using this
    ·have eb : b.getD i false = b[i] := by simp [yw, show i < b.length by omega]
     simp only [zc.l5, zcy hi, if_true, za (show i < b.length by omega), ya];by_cases hb : b[i] = true
     ·rw [if_pos hb];refine ⟨_, rfl, ?_⟩;have hpos : 0 < b.count true := List.count_pos_iff.2 (by rw [← hb]; exact yg _);rcases I3 with I3 | ⟨x, hx⟩
      ·omega
      ·cases ha : acycE EE K with
       | false => rfl
       | true => exact absurd hx (zhU.1 ha x)
     ·rw [if_neg hb, zb (by omega)];exact hr () fun a ha => by
       by_cases e : a = i
       ·subst e; rw [eb]; simpa using hb
       ·exact hI a (by omega)
    ·simp only [zc.l5, zb9 (yn K), ye, if_false];refine ⟨_, rfl, ?_⟩;symm;rw [zhU];intro x hx;obtain ⟨hB, a, a1, a2⟩ := cyc_before hx;have := I2 _ hB a a1 a2;rw [hI a a1] at this;cases this
 obtain ⟨v, hv, rfl⟩ := main;exact hv
def tinyS (x : List Int) : Prop := ∀ v ∈ x, -9999 ≤ v ∧ v ≤ 9999
theorem Value_val {n K r x} (hr : rowOK K r = true) (hl : r.terms.length < 1000000) (hx : x.length = K) (hs : tinyS x) (hn : 1000000 ≤ n) : zaI n r x = some (sumP x r.terms) := by
 have hterm : ∀ t ∈ r.terms, zhv K t := fun t ht => by
  simp only [rowOK, yb] at hr;exact zei hr.1 (by omega) t ht
 have := zbA (body := zaI.l1 n r x) (len := r.terms.length) (st := fun (s : Int) i => (s, (i : Int))) (g := fun _ _ => some (sumP x r.terms)) (fun i s => s + sumP x (r.terms.drop i) = sumP x r.terms ∧ (-(9999000 * i : Int) ≤ s ∧ s ≤ 9999000 * i)) (fun rec i s hi hI hr => ?_) (fun rec s hI => ?_) n 0 0 (yp _) (by omega) (by simp)
 ·simpa [zaI] using this
 ·obtain ⟨h1, h2, h3⟩ := hI;obtain ⟨t1, t2, t3, t4⟩ := hterm _ (yg hi);have hv := getD_mem (s := x) t1 (by omega);obtain ⟨v1, v2⟩ := hs _ hv;obtain ⟨b1, b2⟩ := mul_bd t3 t4 v1 v2;simp only [zaI.l1, zh hi, if_true, za hi, ya, zh1 t1 (by omega : r.terms[i].cell < (x.length : Int))];rw [zeb (by omega) (by omega), zby (by omega) (by omega), zb (by omega)];refine hr _ ⟨?_, by omega, by omega⟩;rw [zj hi, sumP] at h1;omega
 ·obtain ⟨h1, -⟩ := hI;simp only [zaI.l1, zah, ye, if_false];simp only [List.drop_length, sumP] at h1;congr 1; omega
def rowH (x : List Int) (r : Row) : Bool := decide (sumP x r.terms ≤ r.bound)
def edgeG (x : List Int) (g : Graph) (a b : Nat) : Bool := decide (g.least.getD (a * g.size.toNat + b) 0 ≤ x.getD (g.first + ((a * g.size.toNat + b : Nat) : Int)).toNat 0)
def zd6 (x : List Int) (g : Graph) : Bool := acycE (edgeG x g) g.size.toNat
theorem zjX {E F K} (h : ∀ a b, a < K → b < K → E a b = F a b) : acycE E K = acycE F K := by
 rw [Bool.eq_iff_iff];exact ⟨ziF fun a b ha hb hF => by rw [h a b ha hb]; exact hF, ziF fun a b ha hb hE => by rw [← h a b ha hb]; exact hE⟩
theorem acyN_eq {n K g x} (hg : zc0 K g = true) (hx : x.length = K) (hK : K ≤ 1000) (hn : 1000000 ≤ n) : acyN n g x = zd6 x g := by
 obtain ⟨s, E, s1, s2, s3, s4⟩ := Edges_tot (n := n) hg hx hK hn;simp only [zc0, zh2, yb, yx, ua, yC, Int.not_lt, bne_eq_false_iff_eq] at hg;obtain ⟨⟨⟨⟨⟨g1, g2⟩, g3⟩, g4⟩, g5⟩, -⟩ := hg;have h36 : s * s ≤ 36 := yY s2 s2;have em : mul64 g.size g.size = ((s * s : Nat) : Int) := by
  rw [s1, zeb (by rw [← yK]; omega) (by rw [← yK]; omega)]; simp
 rw [em, zgY (by omega) (by omega)] at g4;rw [em] at g5;have hval : zaY n g x = some ((List.range (s * s)).map fun k => decide (g.least.getD k 0 ≤ x.getD (g.first + (k : Int)).toNat 0)) := by
  unfold zaY;have := zF (body := zaY.l1 n g x) (len := s * s) (st := fun i => (((List.range i).map fun k => decide (g.least.getD k 0 ≤ x.getD (g.first + (k : Int)).toNat 0)), (i : Int))) (g := fun _ => some ((List.range (s * s)).map fun k => decide (g.least.getD k 0 ≤ x.getD (g.first + (k : Int)).toNat 0))) (fun rec i hi hr => ?_) (fun rec => ?_) n 0 (yp _) (by omega)
  ·simpa using this
  ·have e1 : add64 g.first (i : Int) = g.first + (i : Int) := zby (by omega) (by omega)
   have e2 : g.least.getD i 0 = g.least[i]'(by omega) := by simp [yw, show i < g.least.length by omega]
   simp only [zaY.l1, em, zcy hi, if_true, e1, zh1 (s := x) (c := g.first + (i : Int)) (by omega) (by omega), ya, za (show i < g.least.length by omega)];rw [zq (by simp; omega), ya, zb (by omega), ← hr];simp only [uz, uh, yT, List.map_nil, e2]
  ·simp only [zaY.l1, em, zb9 (yn _), ye, if_false]
 unfold acyN;rw [hval, ya, s1, Acyclic_eq s2 (by simp) hn, yf];unfold zd6;rw [s1, yq];refine zjX fun a b ha hb => ?_
 have hp := ze1 ha hb;unfold hasP edgeG;simp only [yq, s1];rw [yw];simp [hp]
theorem rowsF_nil {n K x R} (hR : R.all (rowOK K) = true) (hl : ∀ r ∈ R, r.terms.length < 1000000) (hx : x.length = K) (hs : tinyS x) (hn : 1000000 ≤ n) : ((rowsF n x R).length == 0) = R.all (rowH x) := by
 rw [Bool.eq_iff_iff, beq_iff_eq, List.length_eq_zero_iff, ym];unfold rowsF;rw [List.flatMap_eq_nil_iff];have key : ∀ i (hi : i < R.length), rowF n x i (R.getD i default) = [] ↔ rowH x R[i] = true := fun i hi => by
  have e : R.getD i default = R[i] := by simp [List.getD, hi]
  have hv := Value_val (n := n) (ym.1 hR _ (yg hi)) (hl _ (yg hi)) hx hs hn;rw [e];unfold rowF rowH valN;rw [hv, yf];by_cases h : R[i].bound < sumP x R[i].terms
  ·simp [h]
  ·simp [h]; omega
 constructor
 ·intro h r hr;obtain ⟨i, hi, rfl⟩ := List.getElem_of_mem hr;exact (key i hi).1 (h i (yL.2 hi))
 ·intro h i hi;exact (key i (yL.1 hi)).2 (h _ (yg _))
theorem graphsF_nil {n K x G} (hG : G.all (zc0 K) = true) (hx : x.length = K) (hK : K ≤ 1000) (hn : 1000000 ≤ n) : ((ziR n x G).length == 0) = G.all (zd6 x) := by
 rw [Bool.eq_iff_iff, beq_iff_eq, List.length_eq_zero_iff, ym];unfold ziR;rw [List.flatMap_eq_nil_iff];have key : ∀ i (hi : i < G.length), (if (!acyN n (G.getD i default) x) = true then [(i : Int)] else []) = [] ↔ zd6 x G[i] = true := fun i hi => by
  have e : G.getD i default = G[i] := by simp [List.getD, hi]
  rw [e, acyN_eq (ym.1 hG _ (yg hi)) hx hK hn];cases zd6 x G[i] <;> simp
 constructor
 ·intro h r hr;obtain ⟨i, hi, rfl⟩ := List.getElem_of_mem hr;exact (key i hi).1 (h i (yL.2 hi))
 ·intro h i hi;exact (key i (yL.1 hi)).2 (h _ (yg _))
theorem Case_eq {n box R G cs x} (hS : SysOK R G cs) (hP : sysP box.length R G cs = true) (hx : x.length = box.length) (hs : tinyS x) (hn : 1000000 ≤ n) : ∃ r, loopF (zbu.l1 n ⟨box, R, G, cs⟩ x) n 0 = some r ∧ r.2 = cs.any (fun rows => rows.all (rowH x)) := by
 simp only [sysP, yb, yd, ym] at hP;obtain ⟨⟨⟨⟨p1, p2⟩, p3⟩, p4⟩, p5, p6⟩ := hP;have := za1 (body := zbu.l1 n ⟨box, R, G, cs⟩ x) (k := cs.length) (n := n) (st := fun (_ : Unit) i => (i : Int)) (fun i _ => ∀ j (hj : j < cs.length), j < i → (cs[j].all (rowH x)) = false) (fun r : Int × Bool => r.2 = cs.any (fun rows => rows.all (rowH x))) (fun rec i _ hi hI h => ?_) (fun rec _ hI => ?_) (by omega) () (fun j _ hj => by omega)
 ·simpa using this
 ·have hci := p6 _ (yg hi);simp only [caseV, yb, yd, ym] at hci;simp only [zbu.l1, zh hi, if_true];have := za1 (body := zbu.l2 n ⟨box, R, G, cs⟩ x (i : Int) rec) (k := cs[i].length) (n := n) (st := fun (b : Bool) j => (b, (j : Int))) (fun j b => b = (cs[i].take j).all (rowH x)) (fun r : Int × Bool => r.2 = cs.any (fun rows => rows.all (rowH x))) (fun rec2 j b hj hJ h2 => ?_) (fun rec2 b hJ => ?_) (by omega) true (by simp)
  ·simpa using this
  ·have hv := Value_val (n := n) (x := x) (hci.2 _ (yg hj)) ((hS.cases.2 _ (yg hi)).2 _ (yg hj)) hx hs hn;have hst : (cs[i].take (j + 1)).all (rowH x) = ((cs[i].take j).all (rowH x) && rowH x cs[i][j]) := by
    rw [yy hj, List.all_append]; simp
   simp only [zbu.l2, jn, za hi, ya, zh hj, if_true, za hj, hv, zb (i := j) (by omega)];have hr : rowH x cs[i][j] = !decide (cs[i][j].bound < sumP x cs[i][j].terms) := by
    unfold rowH;rw [Bool.eq_iff_iff]; simp
   by_cases hlt : (decide (cs[i][j].bound < sumP x cs[i][j].terms)) = true
   ·rw [if_pos hlt];exact h2 _ (by rw [hst, hr, hlt]; simp)
   ·rw [if_neg hlt];refine h2 _ ?_;simp only [yF] at hlt;rw [hst, hr, hlt, hJ]; simp
  ·simp only [zbu.l2, jn, za hi, ya, zah, ye, if_false];rw [List.take_length] at hJ;by_cases hb : b = true
   ·rw [if_pos hb];refine ⟨_, rfl, ?_⟩;symm;rw [uu];exact ⟨cs[i], yg hi, by rw [← hJ, hb]⟩
   ·rw [if_neg hb, zb (by omega)];refine h () fun j hj hji => ?_
    by_cases e : j = i
    ·subst e; rw [← hJ]; simpa using hb
    ·exact hI j hj (by omega)
 ·simp only [zbu.l1, zah, ye, if_false];refine ⟨_, rfl, ?_⟩;symm;rw [List.any_eq_false];intro rows hrows;obtain ⟨j, hj, rfl⟩ := List.getElem_of_mem hrows;rw [hI j hj hj]; simp
theorem tiny_box {box x} (hg : goodB box = true) (hx : inBox box x = true) : tinyS x := fun v hv => by
 have hxl := zeo hx;obtain ⟨i, hi, rfl⟩ := List.mem_iff_getElem.1 hv;have h1 := zfh hx i (by omega) hi;have h2 := ym.1 hg _ (yg (show i < box.length by omega));simp only [yb, yd] at h2;omega
theorem Holds_closed {n box R G cs x} (hg : goodB box = true) (hl : box.length ≤ 100) (hS : SysOK R G cs) (hP : sysP box.length R G cs = true) (hx : inBox box x = true) (hn : 1000000 ≤ n) :
  zfV n ⟨box, R, G, cs⟩ x = some ((R.all (rowH x) && G.all (zd6 x)) && (cs.isEmpty || cs.any (fun rows => rows.all (rowH x)))) := by
 have hxl := zeo hx;have hs := tiny_box hg hx;have hsm : ∀ v ∈ x, -4000000 ≤ v ∧ v ≤ 4000000 := fun v hv => by have := hs v hv; omega
 have hv := ref18_Valid_eq hg hl hS hn;rw [hP] at hv;have r1 := right_eq hv rfl hxl (by omega) hsm hn;obtain ⟨c, hc, hc2⟩ := Case_eq (n := n) (x := x) hS hP hxl hs hn;have hP' := hP;simp only [sysP, yb, yd] at hP';obtain ⟨⟨⟨⟨p1, p2⟩, p3⟩, p4⟩, p5, p6⟩ := hP';have f1 := rowsF_nil (n := n) p2 hS.rows.2 hxl hs hn;have f2 := graphsF_nil (n := n) p5 hxl (by omega) hn;unfold zfV;simp only [hv, ya, zfs hx hl hn, Fails_eq hS hP r1 hxl (by omega) hn];unfold zbu;simp only [r1, hc, ya, yj, yr, grd, if_true, yf, y8, uO, ye, if_false, hc2];congr 2
 ·rw [← f1, ← f2];congr 1 <;> (rw [Bool.eq_iff_iff]; simp)
 ·congr 1;cases cs <;> simp
  omega
theorem chgN_eq {n a r} (ha : ActOK a) (hd : zeC a.effect.delta) (ht : ∀ t ∈ r.terms, -1000 ≤ t.factor ∧ t.factor ≤ 1000) (hl : r.terms.length ≤ 1000) (hn : 1000000 ≤ n) : chgN n a r = chgP a.effect.delta r.terms := by
 have := ha.delta;unfold chgN;rw [zc8 (by omega) (by omega) (by omega) (by omega), zj8 hd ht hl]; rfl
def zd7 (q : Question) (a b : Action) : List Row := a.effect.hold ++ (if (q.e != q.f) = true then b.effect.hold else [])
noncomputable def zcu (n : Nat) (m : Model) (q : Question) (a b : Action) : List Graph := (List.range m.constraints.length).flatMap fun i => gS n (q.e != q.f) a b (m.constraints.getD i default)
def zkD (r : Row) (x : Int) : Row := ⟨r.terms.map fun t => ⟨t.cell, neg64 t.factor⟩, sub64 (add64 (neg64 r.bound) x) 1⟩
inductive Tgt (n : Nat) (m : Model) (q : Question) (a b : Action) (box : List Range) : List Row → List (List Row) → Prop
 | hold (r : Row) : q.target.hold = true → idx a.effect.hold q.target.index = some r → Tgt n m q a b box [zkD r (chgN n b r)] []
 | row (c : Constraint) : q.target.hold = false → idx m.constraints q.target.index = some c → c.kind = 0 → Tgt n m q a b box [zkD c.row (add64 (chgN n a c.row) (chgN n b c.row))] []
 | none (c : Constraint) (s : Nat) : q.target.hold = false → idx m.constraints q.target.index = some c → c.kind = 1 → c.size = (s : Int) → zha (zr a.effect.delta) (zr b.effect.delta) box c s = [] → Tgt n m q a b box [⟨[], -1⟩] []
 | graph (c : Constraint) (s : Nat) : q.target.hold = false → idx m.constraints q.target.index = some c → c.kind = 1 → c.size = (s : Int) → zha (zr a.effect.delta) (zr b.effect.delta) box c s ≠ [] → Tgt n m q a b box [] (zha (zr a.effect.delta) (zr b.effect.delta) box c s)
theorem tail3_eq {n m q a b box} (ha : ActOK a) (hb : ActOK b) (hc : ∀ c ∈ m.constraints, ConOK box.length c) (sa : SameA a) (sb : SameA b) (hl : m.constraints.length ≤ 1000) (hbx : box.length ≤ 1000)
  (hh : q.target.hold = true → 0 ≤ q.target.index ∧ q.target.index < (a.effect.hold.length : Int)) (hh2 : q.target.hold = false → 0 ≤ q.target.index ∧ q.target.index < (m.constraints.length : Int)) (hn : 1000000 ≤ n) :
  ∃ (Y : List Row) (cs : List (List Row)), Tgt n m q a b box Y cs ∧ ((zd7 q a b ++ Y).length ≤ 30 ∧ ∀ r ∈ zd7 q a b ++ Y, r.terms.length ≤ 1000) ∧ ((zcu n m q a b).length ≤ 3000 ∧ ∀ g ∈ zcu n m q a b, g.least.length ≤ 36) ∧ ziD cs ∧
   ∀ R : List Row, R.length ≤ 1000 → tailS n m q a b box R = endS n ⟨box, R ++ (zd7 q a b ++ Y), zcu n m q a b, cs⟩ (za3 n ⟨box, R ++ (zd7 q a b ++ Y), zcu n m q a b, cs⟩) := by
 obtain ⟨H, hH⟩ : ∃ H : List Row, H = zd7 q a b := ⟨_, rfl⟩
 have hHl : H.length ≤ 20 ∧ ∀ r ∈ H, r.terms.length ≤ 1000 := by
  have h1 := ha.hold;have h2 := hb.hold;rw [hH];unfold zd7;constructor
  ·rw [yI]; split <;> first | omega | (simp; omega)
  ·intro r hr;rcases yG.1 hr with hr | hr
   ·exact ha.terms r hr
   ·split at hr
    ·exact hb.terms r hr
    ·simp at hr
 have hstep : ∀ R : List Row, R.length ≤ 1000 → tailS n m q a b box R = zhz n m q a b box (R ++ H) := fun R hR => by
  have h1 := ha.hold;have h2 := hb.hold;have hloop : loopF (ze.l3 n m q a b box H) n (R, 0) = zhz n m q a b box (R ++ H) := by
   have := zkt (body := ze.l3 n m q a b box H) (l := H) (n := n) (st := fun b i => (b, (i : Int))) (fun r : Row => r) (zhz n m q a b box) R (fun rec b6 i hi hb6 => ?_) (fun rec b6 hb6 => ?_) (by omega)
   ·simpa using this
   ·simp only [ze.l3, zh hi, if_true, za hi, ya, same_eq (hHl.2 _ (yg hi)) hn];rw [zq (by first | omega | (simp; omega)), ya, zb (by omega)]
   ·simp only [ze.l3, zah, ye, if_false];rfl
  unfold tailS;simp only [jn];rw [zq (by first | omega | (simp; omega)), ya, yV];by_cases he : (q.e != q.f) = true
  ·rw [if_pos he, zq (by first | omega | (simp; omega)), ya, ← hloop, hH, zd7, if_pos he]
  ·rw [if_neg he, ← hloop, hH, zd7, if_neg he, ug]
 obtain ⟨G, hG⟩ : ∃ G, G = zcu n m q a b := ⟨_, rfl⟩
 have hGl : G.length ≤ 3000 ∧ ∀ g ∈ G, g.least.length ≤ 36 := by
  have key : ∀ k, k ≤ m.constraints.length → ((List.range k).flatMap fun i => gS n (q.e != q.f) a b (m.constraints.getD i default)).length ≤ 3 * k ∧ ∀ g ∈ ((List.range k).flatMap fun i => gS n (q.e != q.f) a b (m.constraints.getD i default)), g.least.length ≤ 36 := by
   intro k
   induction k with
   | zero => intro _; simp
   | succ k ih =>
    intro hk;obtain ⟨i1, i2⟩ := ih (by omega);have e : m.constraints.getD k default = m.constraints[k]'(by omega) := by simp [List.getD, show k < m.constraints.length by omega]
    obtain ⟨g1, g2⟩ := gS_len (n := n) (ef := (q.e != q.f)) ha hb (hc _ (yg (show k < m.constraints.length by omega))) hn;rw [range_snoc, e];constructor
    ·rw [yI]; omega
    ·intro g hg;rcases yG.1 hg with hg | hg
     ·exact i2 g hg
     ·exact g2 g hg
  rw [hG];obtain ⟨k1, k2⟩ := key _ (yn _);unfold zcu;exact ⟨by omega, k2⟩
 have h0 : ∀ (c : Constraint) (R : List Row), (c.kind == 1) = false → finS n box a b R c G = endS n ⟨box, R, G, []⟩ (za3 n ⟨box, R, G, []⟩) := fun c R hk => by
  unfold finS;simp only [jn, hk, ye, if_false];rfl
 have c0 : ziD [] := ⟨by simp, by simp⟩
 rw [← hG, ← hH];cases hhold : q.target.hold with
 | true =>
  obtain ⟨i1, i2⟩ := hh hhold;obtain ⟨r, hr⟩ := za8 i1 i2;have hrl := ha.terms r (za4 hr);have hx := zfb hb hrl hn;have hnr := zgQ (n := n) (r := r) (f := fun q0 => zbg n q0) (g := fun q0 => zaP n q0 (chgN n b r)) (fP := neg64) (B := sub64 (add64 (neg64 r.bound) (chgN n b r)) 1) (fun _ => rfl) rfl hrl hn;refine ⟨_, _, .hold r hhold hr, ⟨by first | omega | (simp; omega), fun s hs => ?_⟩, hGl, c0, fun R hR => ?_⟩
  ·rcases yG.1 hs with hs | hs
   ·exact hHl.2 s hs
   ·simp at hs; subst hs; simpa [zkD] using hrl
  ·rw [hstep R hR];unfold zhz;simp only [jn, hhold, if_true, hr, ya, hx, hnr];rw [zq (by first | omega | (simp; omega)), ya];have := gloop_eq (q := q) (a := a) (b := b) (box := box) (R := R ++ H ++ [zkD r (chgN n b r)]) (c := ⟨0, 0, ⟨[], 0⟩, 0, 0⟩) ha hb hc hl hn;rw [← zcu, ← hG] at this;rw [yJ] at this ⊢;exact this.trans (h0 _ _ rfl)
 | false =>
  obtain ⟨i1, i2⟩ := hh2 hhold;obtain ⟨c, hcx⟩ := za8 i1 i2;have hco := hc c (za4 hcx);have hgl := fun R : List Row => (gloop_eq (q := q) (a := a) (b := b) (box := box) (R := R) (c := c) ha hb hc hl hn)
  rw [← zcu, ← hG] at hgl;rcases hco.kind with hk | hk
  ·have hx := zfb ha hco.len hn;have hy := zfb hb hco.len hn;have hnr := zgQ (n := n) (r := c.row) (f := fun q0 => zbg n q0) (g := fun q0 => zaP n q0 (add64 (chgN n a c.row) (chgN n b c.row))) (fP := neg64) (B := sub64 (add64 (neg64 c.row.bound) (add64 (chgN n a c.row) (chgN n b c.row))) 1) (fun _ => rfl) rfl hco.len hn;refine ⟨_, _, .row c hhold hcx hk, ⟨by first | omega | (simp; omega), fun s hs => ?_⟩, hGl, c0, fun R hR => ?_⟩
   ·rcases yG.1 hs with hs | hs
    ·exact hHl.2 s hs
    ·simp at hs; subst hs; simpa [zkD] using hco.len
   ·rw [hstep R hR];unfold zhz;have hk' : (c.kind == 0) = true := by simp [hk]
    simp only [jn, hhold, ye, if_false, hcx, ya, hk', if_true, hx, hy, hnr];rw [zq (by first | omega | (simp; omega)), ya, yJ];exact (hgl _).trans (h0 _ _ (by simp [hk]))
  ·obtain ⟨s, s1, s2, s3, s4, s5⟩ := hco.sz hk;obtain ⟨cs, hcs, hcsO⟩ := cases_tot (n := n) (box := box) (e := a) (f := b) s1 s2 s3 s4 s5 hbx ha.delta hb.delta hn;have hcq : cs = zha (zr a.effect.delta) (zr b.effect.delta) box c s := by
    have := (cases_both (n := n) (c := c) sa sb s3 hn (box := box) s1 s2 s4 s5 hbx).1;rw [hcs] at this;exact Option.some.inj this
   have hk0 : (c.kind == 0) = false := by simp [hk]
   have hk1 : (c.kind == 1) = true := by simp [hk]
   by_cases he : cs = []
   ·have he' : ((cs.length : Int) == 0) = true := by simp [he]
    refine ⟨_, _, .none c s hhold hcx hk s1 (hcq ▸ he), ⟨by first | omega | (simp; omega), fun s hs => ?_⟩, hGl, c0, fun R hR => ?_⟩
    ·rcases yG.1 hs with hs | hs
     ·exact hHl.2 s hs
     ·simp at hs; subst hs; simp
    ·rw [hstep R hR];unfold zhz;simp only [jn, hhold, ye, if_false, hcx, ya, hk0];refine (hgl _).trans ?_;unfold finS;simp only [jn, hk1, if_true, hcs, ya, he'];rw [zq (by first | omega | (simp; omega)), ya, yJ, he];rfl
   ·have he' : ¬ ((cs.length : Int) == 0) = true := by simp [he]
    refine ⟨_, _, .graph c s hhold hcx hk s1 (hcq ▸ he), ⟨by simpa using (by omega : H.length ≤ 30), by simpa using hHl.2⟩, hGl, hcq ▸ hcsO, fun R hR => ?_⟩;rw [hstep R hR];unfold zhz;simp only [jn, hhold, ye, if_false, hcx, ya, hk0];refine (hgl _).trans ?_;unfold finS;simp only [jn, hk1, if_true, hcs, ya];rw [if_neg he', ← hcq, ug];rfl
theorem gr_eq {n K : Nat} {c} {s : Nat} {f : Int → Option Int} {fP : Int → Int} (hs : c.size = (s : Int)) (h6 : s ≤ 6) (hf : ∀ x, f x = some (fP x)) (hn : 1000000 ≤ n) : gr n c f = ⟨c.first, c.size, (List.range (s * s)).map fun i : Nat => sub64 1 (fP (add64 c.first (i : Int)))⟩ := by
 have h4 : s * s ≤ 36 := yY h6 h6;have em : mul64 c.size c.size = ((s * s : Nat) : Int) := by
  rw [hs, zeb (by rw [← yK]; omega) (by rw [← yK]; omega)]; simp
 have : zL n c f = some ⟨c.first, c.size, (List.range (s * s)).map fun i : Nat => sub64 1 (fP (add64 c.first (i : Int)))⟩ := by
  unfold zL;have := zF (body := zL.l1 n c f) (len := s * s) (st := fun i => (((List.range i).map fun i : Nat => sub64 1 (fP (add64 c.first (i : Int)))), (i : Int))) (g := fun _ => some (⟨c.first, c.size, (List.range (s * s)).map fun i : Nat => sub64 1 (fP (add64 c.first (i : Int)))⟩ : Graph)) (fun rec i hi hr => ?_) (fun rec => ?_) n 0 (yp _) (by omega)
  ·simpa using this
  ·simp only [zL.l1, em, zcy hi, if_true, hf, ya];rw [zq (by simp; omega), ya, zb (by omega), ← hr];simp only [uz, uh, yT, List.map_nil]
  ·simp only [zL.l1, em, zb9 (yn _), ye, if_false]
 unfold gr;rw [this]; rfl
theorem gr_holds {n K : Nat} {c} {x y : List Int} {f : Int → Option Int} {fP : Int → Int} (hc : ConOK K c) (hk : c.kind = 1) (hx : x.length = K) (hK : K ≤ 1000) (hf : ∀ z, f z = some (fP z)) (hsm : ∀ z, -4000000000 ≤ fP z ∧ fP z ≤ 4000000000)
  (hy : ∀ i : Int, 0 ≤ i → i < (K : Int) → y.getD i.toNat 0 = x.getD i.toNat 0 + fP i) (hn : 1000000 ≤ n) : zd6 x (gr n c f) = zQ c y := by
 obtain ⟨s, s1, s2, s3, s4, s5⟩ := hc.sz hk;have h4 : s * s ≤ 36 := yY s3 s3;rw [gr_eq (K := K) s1 s3 hf hn];unfold zd6 zQ;rw [if_pos hk];simp only [s1, yq];refine zjX fun a b ha hb => ?_
 have hp := ze1 ha hb;have hcell : c.first + (a : Int) * (s : Int) + (b : Int) = c.first + ((a * s + b : Nat) : Int) := by rw [Int.natCast_add, yK]; omega
 have hb2 := hsm (c.first + ((a * s + b : Nat) : Int));unfold edgeG edgeP;rw [Bool.eq_iff_iff];simp only [yd, s1, yq, hcell];rw [hy _ (by omega) (by omega), yw, y7, List.getElem?_range hp];simp only [yS, yf];rw [zby (by omega) (by omega), zgY (by omega) (by omega)];omega
theorem vtx_ok {K x} (hp : PathL K x) {j} (hj : j < x.length) : vtx x j < K ∧ x.getD j 0 = ((vtx x j : Nat) : Int) := by
 have hm := hp.mem x[j] (yg hj);unfold vtx;rw [yw, yt hj];simp only [yf]; omega
section
variable {c : Constraint} {K : Nat} {box : List Range} {s : List Int} {da db : List Change}
theorem cyc_cell (hs : c.size = (K : Int)) (h6 : K ≤ 6) (h0 : 0 ≤ c.first) (h1 : c.first ≤ 1000) {x} (hp : PathL K x) {i} (hi : i < x.length) :
  zct c x i = c.first + ((vtx x i * K + vtx x ((i + 1) % x.length) : Nat) : Int) := by
 obtain ⟨v1, v2⟩ := vtx_ok hp hi;obtain ⟨w1, w2⟩ := vtx_ok hp (Nat.mod_lt (i + 1) (show 0 < x.length by omega));have hpl := ze1 v1 w1;have h36 : K * K ≤ 36 := yY h6 h6;have hm : ((vtx x i : Nat) : Int) * (K : Int) = ((vtx x i * K : Nat) : Int) := (yK _ _).symm;unfold zct;rw [v2, w2, hs, zeb (by rw [hm]; omega) (by rw [hm]; omega), hm, zcY (by omega), zby (by omega) (by omega)]
theorem edge_plus (hs : c.size = (K : Int)) (h0 : 0 ≤ c.first) (hf : c.first + ((K * K : Nat) : Int) ≤ (s.length : Int)) {a b} (ha : a < K) (hb : b < K) : edgeP (plusP s da) c a b = decide (1 ≤ s.getD (c.first + ((a * K + b : Nat) : Int)).toNat 0 + zr da (c.first + ((a * K + b : Nat) : Int))) := by
 have hp := ze1 ha hb;have hcell : c.first + (a : Int) * c.size + (b : Int) = c.first + ((a * K + b : Nat) : Int) := by rw [hs, Int.natCast_add, yK]; omega
 unfold edgeP;rw [hcell, zgU (by omega) (by omega)]
theorem ziO (hs : c.size = (K : Int)) (h0 : 0 ≤ c.first) (hf : c.first + ((K * K : Nat) : Int) ≤ (s.length : Int)) {a b} (ha : a < K) (hb : b < K) : edgeP (plusP (plusP s da) db) c a b = decide (1 ≤ s.getD (c.first + ((a * K + b : Nat) : Int)).toNat 0 + zr da (c.first + ((a * K + b : Nat) : Int)) + zr db (c.first + ((a * K + b : Nat) : Int))) := by
 have hp := ze1 ha hb;rw [edge_plus hs h0 (by rw [zec]; exact hf) ha hb, zgU (by omega) (by omega)]
theorem edge_row (hs : c.size = (K : Int)) (h6 : K ≤ 6) (h0 : 0 ≤ c.first) (hf : c.first + ((K * K : Nat) : Int) ≤ (s.length : Int)) (hl : s.length ≤ 1000) (hA : zeC da) (hB : zeC db) {x} (hp : PathL K x) {i} (hi : i < x.length) :
  rowH s (ziN (zr da) (zr db) c x i) = edgeP (plusP (plusP s da) db) c (vtx x i) (vtx x ((i + 1) % x.length)) := by
 have v1 := (vtx_ok hp hi).1;have w1 := (vtx_ok hp (Nat.mod_lt (i + 1) (show 0 < x.length by omega))).1;rw [ziO hs h0 hf v1 w1];unfold rowH ziN;rw [Bool.eq_iff_iff, yd, yd];rw [cyc_cell hs h6 h0 (by omega) hp hi];have a1 := zbX hA (c.first + ((vtx x i * K + vtx x ((i + 1) % x.length) : Nat) : Int));have b1 := zbX hB (c.first + ((vtx x i * K + vtx x ((i + 1) % x.length) : Nat) : Int));simp only [sumP];rw [zby (by omega) (by omega), zgY (by omega) (by omega)];omega
theorem cases_iff (hk : c.kind = 1) (hs : c.size = (K : Int)) (h6 : K ≤ 6) (h0 : 0 ≤ c.first) (hf : c.first + ((K * K : Nat) : Int) ≤ (box.length : Int)) (hg : goodB box = true) (hx : inBox box s = true) (hl : box.length ≤ 1000) (hA : zeC da) (hB : zeC db)
  (ha : zQ c (plusP s da) = true) (hb : zQ c (plusP s db) = true) : (zha (zr da) (zr db) box c K).any (fun rows => rows.all (rowH s)) = !zQ c (plusP (plusP s da) db) := by
 have hxl := zeo hx;have hK : c.size.toNat = K := by omega
 have h36 : K * K ≤ 36 := yY h6 h6;have hfs : c.first + ((K * K : Nat) : Int) ≤ (s.length : Int) := by omega
 have hbig : ∀ a b, a < K → b < K → edgeP (plusP (plusP s da) db) c a b = true → hasP ⟨(K : Int), (List.range (K * K)).map fun i : Nat => decide (1 ≤ add64 ((idx box (add64 c.first (i : Int))).getD default).hi (add64 (zr da (add64 c.first (i : Int))) (zr db (add64 c.first (i : Int)))))⟩ a b = true := by
  intro a b h1 h2 he;have hp := ze1 h1 h2;rw [ziO hs h0 hfs h1 h2] at he;have e1 : add64 c.first ((a * K + b : Nat) : Int) = c.first + ((a * K + b : Nat) : Int) := zby (by omega) (by omega)
  obtain ⟨z, hz⟩ := yW (show 0 ≤ c.first + ((a * K + b : Nat) : Int) by omega);have hzl : z < box.length := by omega
  have hin := zfh hx z hzl (by omega);have hgz := ym.1 hg _ (yg hzl);simp only [yb, yd] at hgz;have a1 := zbX hA (z : Int);have b1 := zbX hB (z : Int);unfold hasP;simp only [yq];rw [yw, y7, List.getElem?_range hp];simp only [yS, yf, e1];rw [hz, yq] at he;rw [hz, za hzl, yf, zby (x := zr da (z : Int)) (by omega) (by omega), zby (by omega) (by omega)];have e2 : s.getD z 0 = s[z]'(by omega) := by simp [yw, show z < s.length by omega]
  rw [e2] at he;simp only [yd] at he ⊢;omega
 have hrows : ∀ x, PathL K x → (((List.range x.length).map (ziN (zr da) (zr db) c x)).all (rowH s) = true ↔ CycIn (edgeP (plusP (plusP s da) db) c) x) := fun x hp => by
  rw [List.all_map, ym];unfold CycIn;constructor
  ·intro h i hi;have := h i (yL.2 hi)
   rwa [Function.comp_apply, edge_row hs h6 h0 hfs (by omega) hA hB hp hi] at this
  ·intro h i hi;rw [Function.comp_apply, edge_row hs h6 h0 hfs (by omega) hA hB hp (yL.1 hi)];exact h i (yL.1 hi)
 have hup : ∀ (d e : List Change) x, x ∈ cycP (edgeP (plusP (plusP s da) db) c) K → zQ c (plusP s e) = true → (∀ z, zr da z + zr db z = zr d z + zr e z) → (List.range x.length).any (fun i => decide (0 < zr d (zct c x i))) = true := by
  intro d e x hxc hh hsum;have hp := zhW hxc;refine Classical.byContradiction fun hno => ?_
  simp only [yF, List.any_eq_false, yL, yd] at hno;have hin : CycIn (edgeP (plusP s e) c) x := fun i hi => by
   have v1 := (vtx_ok hp hi).1;have w1 := (vtx_ok hp (Nat.mod_lt (i + 1) (show 0 < x.length by omega))).1;have h1 := cycP_in hxc i hi;have h2 := hno i hi;rw [cyc_cell hs h6 h0 (by omega) hp hi] at h2;rw [ziO hs h0 hfs v1 w1] at h1;rw [edge_plus hs h0 hfs v1 w1];have h3 := hsum (c.first + ((vtx x i * K + vtx x ((i + 1) % x.length) : Nat) : Int));simp only [yd] at h1 ⊢;omega
  unfold zQ at hh;rw [if_pos hk, hK] at hh;exact zhU.1 hh x (zkd hxc hin)
 have hab : zQ c (plusP (plusP s da) db) = acycE (edgeP (plusP (plusP s da) db) c) K := by unfold zQ; rw [if_pos hk, hK]
 rw [hab, Bool.eq_iff_iff, yx, ← yF, zhU, uu];constructor
 ·rintro ⟨rows, hr, hall⟩ hno;obtain ⟨x, hx1, hx2⟩ := ue.1 hr;have hp := zhW hx1;unfold zdH at hx2;split at hx2
  ·simp only [yO] at hx2;subst hx2;exact hno x (zkd hx1 ((hrows x hp).1 hall))
  ·simp at hx2
 ·intro hex;obtain ⟨x, hxc⟩ : ∃ x, x ∈ cycP (edgeP (plusP (plusP s da) db) c) K := Classical.byContradiction fun h => hex fun x hx => h ⟨x, hx⟩
  have hp := zhW hxc;have hin := cycP_in hxc;refine ⟨_, ue.2 ⟨x, zkd hxc (hin.mono hp hbig), ?_⟩, (hrows x hp).2 hin⟩;unfold zdH;rw [if_pos]
  ·exact yO.2 rfl
  ·rw [hup da db x hxc hb (fun _ => rfl), hup db da x hxc ha (fun z => Int.add_comm _ _)]; rfl
theorem neg_small {x} (h1 : -1000000000000000000 ≤ x) (h2 : x ≤ 1000000000000000000) : neg64 x = -x := by
 unfold neg64; exact zaL (by omega) (by omega)
theorem sum_neg {K} : ∀ {l : List Term}, (∀ t ∈ l, zhv K t) → sumP s (l.map fun t => ⟨t.cell, neg64 t.factor⟩) = -sumP s l
 | [], _ => rfl
 | t :: l, h => by
  obtain ⟨-, -, t3, t4⟩ := h t (by simp);simp only [yT, sumP];rw [sum_neg (fun u hu => h u (by simp [hu])), neg_small (by omega) (by omega), Int.neg_mul];omega
theorem negRow_H {K r x} (ht : ∀ t ∈ r.terms, zhv K t) (hb : -1000000000 ≤ r.bound ∧ r.bound ≤ 1000000000) (hx : -1000000000000000000 ≤ x ∧ x ≤ 1000000000000000000) : rowH s (zkD r x) = !decide (sumP s r.terms + x ≤ r.bound) := by
 unfold rowH zkD;simp only [];rw [sum_neg ht, neg_small (by omega) (by omega), zby (by omega) (by omega), zgY (by omega) (by omega), Bool.eq_iff_iff];simp only [yx, yd, yC];omega
end
theorem zki {x y B} : gmax x y ≤ B ↔ x ≤ B ∧ y ≤ B :=
 ⟨fun h => by have := gmax_ge x y; omega, fun h => gmax_le h.1 h.2⟩
def relB (q : Question) (i : Int) : Bool := q.target.hold || (q.target.index != i)
def zf9 (m : Model) (q : Question) (a b : Action) (s : List Int) : Bool :=
 if q.target.hold = true then !zQ ⟨0, 0, (idx a.effect.hold q.target.index).getD default, 0, 0⟩ (plusP s b.effect.delta)
 else !zQ ((idx m.constraints q.target.index).getD default) (plusP (plusP s a.effect.delta) b.effect.delta)
def showsP (m : Model) (q : Question) (rows : List Int) (a b : Action) (s : List Int) : Bool :=
 (possP m a.effect s && possP m b.effect s) && (rows.all (fun i => !(relB q i && !zQ ((idx m.constraints i).getD default) (plusP (plusP s a.effect.delta) b.effect.delta))) && zf9 m q a b s)
structure Scene (n : Nat) (m : Model) (q : Question) (a b : Action) (s : List Int) : Prop where
 small : SmallM m
 valid : ValidM m
 quest : zgB m q = true
 ha : idx m.actions q.e = some a
 hb : idx m.actions q.f = some b
 box : inBox (boxM m) s = true
 len : (boxM m).length ≤ 100
 fuel : 4294967296 ≤ n
section
variable {n : Nat} {m : Model} {q : Question} {rows : List Int} {a b : Action} {s : List Int}
theorem Scene.state (h : Scene n m q a b s) : StateOK m s := state_ok h.valid.lay h.box
theorem Scene.conIn (h : Scene n m q a b s) {c} (hc : c ∈ m.constraints) : ConIn c s.length := by
 rw [h.state.len]; exact con_in h.small h.valid hc
theorem Scene.conOK (h : Scene n m q a b s) {c} (hc : c ∈ m.constraints) : ConOK (boxM m).length c := con_ok h.small h.valid hc
theorem Scene.dA (h : Scene n m q a b s) : zeC a.effect.delta ∧ ∀ r ∈ a.effect.hold, rowOK (boxM m).length r = true := zjW h.valid (za4 h.ha)
theorem Scene.dB (h : Scene n m q a b s) : zeC b.effect.delta ∧ ∀ r ∈ b.effect.hold, rowOK (boxM m).length r = true := zjW h.valid (za4 h.hb)
theorem Scene.oA (h : Scene n m q a b s) : ActOK a := act_ok h.small (za4 h.ha)
theorem Scene.oB (h : Scene n m q a b s) : ActOK b := act_ok h.small (za4 h.hb)
theorem Scene.sA (h : Scene n m q a b s) : SameA a := zjU h.fuel h.small h.valid (za4 h.ha)
theorem Scene.sB (h : Scene n m q a b s) : SameA b := zjU h.fuel h.small h.valid (za4 h.hb)
theorem Scene.same (h : Scene n m q a b s) (he : (q.e != q.f) = false) : a = b := by
 have e : q.e = q.f := by simpa using he
 have h1 := h.ha;rw [e, h.hb] at h1;exact (Option.some.inj h1).symm
theorem Scene.row (h : Scene n m q a b s) {c} (hc : c ∈ m.constraints) (hk : c.kind = 0) :
  (∀ t ∈ c.row.terms, zhv s.length t) ∧ c.row.terms.length ≤ 1000 ∧ (-1000000000 ≤ c.row.bound ∧ c.row.bound ≤ 1000000000) ∧ chgN n a c.row = chgP a.effect.delta c.row.terms ∧ chgN n b c.row = chgP b.effect.delta c.row.terms ∧
   (-1000000000000000 ≤ chgN n a c.row ∧ chgN n a c.row ≤ 1000000000000000) ∧ (-1000000000000000 ≤ chgN n b c.row ∧ chgN n b c.row ≤ 1000000000000000) := by
 have hn : 1000000 ≤ n := by have := h.fuel; omega
 have hro := con_bound h.valid hc hk;have hbd : -1000000000 ≤ c.row.bound ∧ c.row.bound ≤ 1000000000 := by
  simp only [rowOK, zau, yb, yd] at hro;omega
 have hlen := (h.conOK hc).len;have ht : ∀ t ∈ c.row.terms, zhv s.length t := by
  cases h.conIn hc with
  | row _ ht _ _ => exact ht
  | graph _ hk1 => omega
 have hf : ∀ t ∈ c.row.terms, -1000 ≤ t.factor ∧ t.factor ≤ 1000 := fun t h => (ht t h).2.2
 exact ⟨ht, hlen, hbd, chgN_eq h.oA h.dA.1 hf hlen hn, chgN_eq h.oB h.dB.1 hf hlen hn, chgN_bd h.oA h.dA.1 hf hlen hn, chgN_bd h.oB h.dB.1 hf hlen hn⟩
theorem zen {c} (hk : c.kind = 0) (x) : zQ c x = decide (sumP x c.row.terms ≤ c.row.bound) := by
 unfold zQ; rw [if_neg (by omega)]
theorem rowsR_iff (h : Scene n m q a b s) : (rowsR n m q rows a b).all (rowH s) = true ↔ ∀ i (hi : i < m.constraints.length), m.constraints[i].kind = 0 →
  ((zQ m.constraints[i] s = true ∧ zQ m.constraints[i] (plusP s a.effect.delta) = true) ∧ zQ m.constraints[i] (plusP s b.effect.delta) = true) ∧ ((i : Int) ∈ rows → relB q (i : Int) = true → zQ m.constraints[i] (plusP (plusP s a.effect.delta) b.effect.delta) = true) := by
 unfold rowsR;rw [List.all_flatMap, ym];have key : ∀ i (hi : i < m.constraints.length), ((rowS n q rows a b i (m.constraints.getD i default)).all (rowH s) = true ↔ (m.constraints[i].kind = 0 →
   ((zQ m.constraints[i] s = true ∧ zQ m.constraints[i] (plusP s a.effect.delta) = true) ∧ zQ m.constraints[i] (plusP s b.effect.delta) = true) ∧ ((i : Int) ∈ rows → relB q (i : Int) = true → zQ m.constraints[i] (plusP (plusP s a.effect.delta) b.effect.delta) = true))) := fun i hi => by
  have e : m.constraints.getD i default = m.constraints[i] := by simp [List.getD, hi]
  rw [e];unfold rowS;by_cases hk : m.constraints[i].kind = 0
  ·obtain ⟨ht, hlen, hbd, ea, eb, ba, bb⟩ := h.row (yg hi) hk;rw [if_neg (by simp [hk]), zen hk, zen hk, zen hk, zen hk];have e1 := zfY (s := s) (d := a.effect.delta) ht;have e2 := zfY (s := s) (d := b.effect.delta) ht;have e3 := zfY (s := plusP s a.effect.delta) (d := b.effect.delta) (l := m.constraints[i].row.terms) (by rw [zec]; exact ht);rw [e3, e1, e2];rw [← ea, ← eb];have hs : add64 (chgN n a m.constraints[i].row) (chgN n b m.constraints[i].row) = chgN n a m.constraints[i].row + chgN n b m.constraints[i].row := zby (by omega) (by omega);obtain ⟨k1, -, k3⟩ := kS_facts (q := q) (rows := rows) (less := rows) (i := i) ba bb id;simp only [ub, List.all_nil, ul, rowH];rw [zgY (by omega) (by omega)];simp only [yd, hk, true_imp_iff];have hle : sumP s m.constraints[i].row.terms ≤ m.constraints[i].row.bound - kS n q rows a b i m.constraints[i] ↔ kS n q rows a b i m.constraints[i] ≤ m.constraints[i].row.bound - sumP s m.constraints[i].row.terms := by omega
   rw [hle];unfold kS;rw [hs];by_cases hr : (i : Int) ∈ rows ∧ relB q (i : Int) = true
   ·obtain ⟨r1, r2⟩ := hr;have r2' := r2;unfold relB at r2';simp only [r1, r2', decide_true, uM, if_true, zki, true_imp_iff, r2];omega
   ·have : (decide ((i : Int) ∈ rows) && (q.target.hold || (q.target.index != (i : Int)))) = false := by
     rw [Bool.eq_false_iff];intro hh;rw [yb, yd] at hh;exact hr hh
    rw [this];simp only [ye, if_false, zki];constructor
    ·intro h; exact ⟨by omega, fun h1 h2 => absurd ⟨h1, h2⟩ hr⟩
    ·intro h; omega
  ·rw [if_pos (by simpa using hk)];simp [hk]
 constructor
 ·intro hh i hi;exact (key i hi).1 (hh i (yL.2 hi))
 ·intro hh i hi;exact (key i (yL.1 hi)).2 (hh i (yL.1 hi))
theorem Scene.lenP (h : Scene n m q a b s) : s.length = (boxM m).length := h.state.len
theorem zkF (h : Scene n m q a b s) {x} (hx : x ∈ m.actions) {c} (hc : c ∈ m.constraints) (hk : c.kind = 1) (hno : ¬ 0 < (((zn n x c).getD []).length : Int)) (hs : zQ c s = true) : zQ c (plusP s x.effect.delta) = true := by
 have hn := h.fuel;have hL := h.len;obtain ⟨k, k1, k2⟩ := (h.conOK hc).mul hk;have hxo := (act_ok h.small hx).delta;rw [zel k1 (by omega) (by omega) (by omega) (by omega), yf] at hno;obtain ⟨size, z1, z2, z3, z4, z5⟩ := (h.conOK hc).sz hk;have hKs : k = size * size := by
  have : size * size ≤ 36 := yY z3 z3;have e : mul64 c.size c.size = ((size * size : Nat) : Int) := by
   rw [z1, zeb (by rw [← yK]; omega) (by rw [← yK]; omega)]; simp
  rw [k1] at e; omega
 refine graph_keeps hk ⟨z1, z2, z3, z4, by rw [h.lenP]; exact z5, by rw [h.lenP]; omega⟩ (fun j hj => ?_) hs;have := raised_nil (p := zgC x.effect.delta c) (k := k) (i := 0) (by omega) j (by omega) (by omega);unfold zgC at this;have e : add64 c.first (j : Int) = c.first + (j : Int) := zby (by omega) (by omega)
 rw [e] at this;simpa using this
theorem graphsH_iff (h : Scene n m q a b s) : (zcu n m q a b).all (zd6 s) = true ↔ ∀ i (hi : i < m.constraints.length), m.constraints[i].kind = 1 →
  (zQ m.constraints[i] s = true ∧ zQ m.constraints[i] (plusP s a.effect.delta) = true) ∧ zQ m.constraints[i] (plusP s b.effect.delta) = true := by
 have hn : 1000000 ≤ n := by have := h.fuel; omega
 have hL := h.len;unfold zcu;rw [List.all_flatMap, ym];have key : ∀ i (hi : i < m.constraints.length), ((gS n (q.e != q.f) a b (m.constraints.getD i default)).all (zd6 s) = true ↔ (m.constraints[i].kind = 1 →
   (zQ m.constraints[i] s = true ∧ zQ m.constraints[i] (plusP s a.effect.delta) = true) ∧ zQ m.constraints[i] (plusP s b.effect.delta) = true)) := fun i hi => by
  have e : m.constraints.getD i default = m.constraints[i] := by simp [List.getD, hi]
  rw [e];have hc := yg hi;unfold gS;by_cases hk : m.constraints[i].kind = 1
  ·rw [if_neg (by simp [hk]), show (zn n b m.constraints[i]).getD default = (zn n b m.constraints[i]).getD [] from rfl];have hco := h.conOK hc;have g2 : zd6 s (gr n m.constraints[i] fun q0 => zbs n q0) = zQ m.constraints[i] s :=
    gr_holds (fP := fun _ => 0) hco hk h.lenP (by omega) (fun _ => rfl) (fun _ => by omega) (fun i _ _ => by omega) hn
   have g3 : zd6 s (gr n m.constraints[i] fun q0 => z9 n q0 a) = zQ m.constraints[i] (plusP s a.effect.delta) :=
    gr_holds (fP := zr a.effect.delta) hco hk h.lenP (by omega) (fun z => by unfold z9; rw [h.sA.added hn]; rfl) (fun z => by have := zbX h.dA.1 z; omega) (fun i h0 h1 => zgU h0 (by rw [h.lenP]; exact h1)) hn
   have g4 : zd6 s (gr n m.constraints[i] fun q0 => zaa n q0 b) = zQ m.constraints[i] (plusP s b.effect.delta) :=
    gr_holds (fP := zr b.effect.delta) hco hk h.lenP (by omega) (fun z => by unfold zaa; rw [h.sB.added hn]; rfl) (fun z => by have := zbX h.dB.1 z; omega) (fun i h0 h1 => zgU h0 (by rw [h.lenP]; exact h1)) hn
   have k3 := fun hno => zkF h (za4 h.ha) hc hk hno
   have k4 := fun hno => zkF h (za4 h.hb) hc hk hno
   rw [List.all_append, List.all_append];simp only [ub, List.all_nil, ul, g2, hk, true_imp_iff];by_cases h3 : 0 < (((zn n a m.constraints[i]).getD []).length : Int)
   ·rw [if_pos (by simpa using h3)];simp only [ub, List.all_nil, ul, g3];cases hef : (q.e != q.f) with
    | false =>
     have hab := h.same hef;subst hab;simp only [y6, ye, if_false, List.all_nil, ul, yb];exact ⟨fun h => ⟨h, h.2⟩, fun h => h.1⟩
    | true =>
     by_cases h4 : 0 < (((zn n b m.constraints[i]).getD []).length : Int)
     ·rw [if_pos (by simpa using h4)];simp only [ub, List.all_nil, ul, g4, yb, and_assoc]
     ·rw [if_neg (by simpa using h4)];simp only [List.all_nil, ul, yb];exact ⟨fun h => ⟨h, k4 h4 h.1⟩, fun h => h.1⟩
   ·rw [if_neg (by simpa using h3)];simp only [List.all_nil, yD];cases hef : (q.e != q.f) with
    | false =>
     have hab := h.same hef;subst hab;simp only [y6, ye, if_false, List.all_nil, ul];exact ⟨fun h => ⟨⟨h, k3 h3 h⟩, k3 h3 h⟩, fun h => h.1.1⟩
    | true =>
     by_cases h4 : 0 < (((zn n b m.constraints[i]).getD []).length : Int)
     ·rw [if_pos (by simpa using h4)];simp only [ub, List.all_nil, ul, g4, yb];exact ⟨fun h => ⟨⟨h.1, k3 h3 h.1⟩, h.2⟩, fun h => ⟨h.1.1, h.2⟩⟩
     ·rw [if_neg (by simpa using h4)];simp only [List.all_nil, ul];exact ⟨fun h => ⟨⟨h, k3 h3 h⟩, k4 h4 h⟩, fun h => h.1.1⟩
  ·rw [if_pos (by simpa using hk)];simp [hk]
 constructor
 ·intro hh i hi;exact (key i hi).1 (hh i (yL.2 hi))
 ·intro hh i hi;exact (key i (yL.1 hi)).2 (hh i (yL.1 hi))
theorem holdsH_iff (h : Scene n m q a b s) : (zd7 q a b).all (rowH s) = (a.effect.hold.all (fun r => zQ ⟨0, 0, r, 0, 0⟩ s) && b.effect.hold.all (fun r => zQ ⟨0, 0, r, 0, 0⟩ s)) := by
 have e : (fun r => zQ ⟨0, 0, r, 0, 0⟩ s) = rowH s := by
  funext r;unfold rowH;exact zen rfl s
 rw [e];unfold zd7;rw [List.all_append];cases hef : (q.e != q.f) with
 | false =>
  have hab := h.same hef;subst hab;simp
 | true => simp
theorem target_iff {Y cs} (h : Scene n m q a b s) (hT : Tgt n m q a b (boxM m) Y cs)
  (hg : ∀ c ∈ m.constraints, c.kind = 1 → zQ c (plusP s a.effect.delta) = true ∧ zQ c (plusP s b.effect.delta) = true) :
  (Y.all (rowH s) && (cs.isEmpty || cs.any (fun rows => rows.all (rowH s)))) = zf9 m q a b s := by
 have hn : 1000000 ≤ n := by have := h.fuel; omega
 have hgood := zjS h.valid.lay;unfold zf9;cases hT with
 | hold r h1 h2 =>
  rw [if_pos h1, h2, yf, zen rfl];have hro := h.dA.2 r (za4 h2);have hlen := h.oA.terms r (za4 h2);have hbd : -1000000000 ≤ r.bound ∧ r.bound ≤ 1000000000 := by
   simp only [rowOK, zau, yb, yd] at hro;omega
  have ht : ∀ t ∈ r.terms, zhv (boxM m).length t := by
   simp only [rowOK, yb] at hro;exact zei hro.1 (by decide)
  have hf : ∀ t ∈ r.terms, -1000 ≤ t.factor ∧ t.factor ≤ 1000 := fun t h => (ht t h).2.2
  have hb := chgN_bd h.oB h.dB.1 hf hlen hn;simp only [ub, List.all_nil, ul, List.isEmpty_nil, uG];rw [negRow_H ht hbd (by omega), chgN_eq h.oB h.dB.1 hf hlen hn, zfY (by rw [h.lenP]; exact ht)]
 | row c h1 h2 hk =>
  rw [if_neg (by simp [h1]), h2, yf, zen hk];obtain ⟨ht, hlen, hbd, ea, eb, ba, bb⟩ := h.row (za4 h2) hk;simp only [ub, List.all_nil, ul, List.isEmpty_nil, uG];rw [zby (by omega) (by omega), negRow_H ht hbd (by omega), zfY (by rw [zec]; exact ht), zfY ht, ea, eb, Int.add_assoc]
 | none c k h1 h2 hk hz he =>
  rw [if_neg (by simp [h1]), h2, yf];obtain ⟨size, z1, z2, z3, z4, z5⟩ := (h.conOK (za4 h2)).sz hk;have hks : k = size := by omega
  subst hks;obtain ⟨ga, gb⟩ := hg c (za4 h2) hk;rw [← cases_iff hk z1 z3 z4 z5 hgood h.box (by have := h.len; omega) h.dA.1 h.dB.1 ga gb, he];rfl
 | graph c k h1 h2 hk hz he =>
  rw [if_neg (by simp [h1]), h2, yf];obtain ⟨size, z1, z2, z3, z4, z5⟩ := (h.conOK (za4 h2)).sz hk;have hks : k = size := by omega
  subst hks;obtain ⟨ga, gb⟩ := hg c (za4 h2) hk;rw [← cases_iff hk z1 z3 z4 z5 hgood h.box (by have := h.len; omega) h.dA.1 h.dB.1 ga gb];have : (zha (zr a.effect.delta) (zr b.effect.delta) (boxM m) c k).isEmpty = false := by
   rw [Bool.eq_false_iff]; intro hh; exact he (List.isEmpty_iff.1 hh)
  rw [this]; rfl
theorem means_iff {Y cs} (h : Scene n m q a b s) (hT : Tgt n m q a b (boxM m) Y cs) (hrows : ∀ i ∈ rows, ∃ (k : Nat) (hk : k < m.constraints.length), i = (k : Int) ∧ m.constraints[k].kind = 0) :
  (((rowsR n m q rows a b ++ (zd7 q a b ++ Y)).all (rowH s) && (zcu n m q a b).all (zd6 s)) && (cs.isEmpty || cs.any (fun rows => rows.all (rowH s)))) = showsP m q rows a b s := by
 rw [List.all_append, List.all_append, holdsH_iff h];have h1 := rowsR_iff (rows := rows) h;have h2 := graphsH_iff h;have kinds : ∀ c ∈ m.constraints, c.kind = 0 ∨ c.kind = 1 := fun c hc => (h.conOK hc).kind
 have base : ((rowsR n m q rows a b).all (rowH s) = true ∧ (a.effect.hold.all (fun r => zQ ⟨0, 0, r, 0, 0⟩ s) = true ∧ b.effect.hold.all (fun r => zQ ⟨0, 0, r, 0, 0⟩ s) = true)) ∧ (zcu n m q a b).all (zd6 s) = true ↔
   (possP m a.effect s = true ∧ possP m b.effect s = true) ∧ rows.all (fun i => !(relB q i && !zQ ((idx m.constraints i).getD default) (plusP (plusP s a.effect.delta) b.effect.delta))) = true := by
  rw [h1, h2];unfold possP;simp only [yb, ym];constructor
  ·rintro ⟨⟨r1, r2, r3⟩, g1⟩;have hall : ∀ c ∈ m.constraints, (zQ c s = true ∧ zQ c (plusP s a.effect.delta) = true) ∧ zQ c (plusP s b.effect.delta) = true := fun c hc => by
    obtain ⟨i, hi, rfl⟩ := List.getElem_of_mem hc;rcases kinds _ hc with hk | hk
    ·exact (r1 i hi hk).1
    ·exact g1 i hi hk
   refine ⟨⟨⟨fun c hc => (hall c hc).1, r2⟩, fun c hc => ⟨(hall c hc).1.1, (hall c hc).2⟩, r3⟩, fun i hi => ?_⟩;obtain ⟨k, hk, rfl, hk0⟩ := hrows i hi;rw [za hk, yf];cases hr : relB q (k : Int) with
   | false => rfl
   | true => rw [(r1 k hk hk0).2 hi hr]; rfl
  ·rintro ⟨⟨⟨a1, a2⟩, b1, b2⟩, r1⟩;refine ⟨⟨fun i hi hk => ⟨⟨a1 _ (yg hi), (b1 _ (yg hi)).2⟩, fun hm hr => ?_⟩, a2, b2⟩, fun i hi hk => ⟨a1 _ (yg hi), (b1 _ (yg hi)).2⟩⟩;have := r1 _ hm;rw [za hi, yf, hr] at this;simpa using this
 rw [Bool.eq_iff_iff];unfold showsP;have tgt : ((rowsR n m q rows a b).all (rowH s) = true ∧ (a.effect.hold.all (fun r => zQ ⟨0, 0, r, 0, 0⟩ s) = true ∧ b.effect.hold.all (fun r => zQ ⟨0, 0, r, 0, 0⟩ s) = true)) ∧ (zcu n m q a b).all (zd6 s) = true →
   ((Y.all (rowH s) && (cs.isEmpty || cs.any (fun rows => rows.all (rowH s)))) = true ↔ zf9 m q a b s = true) := fun hb => by
  rw [target_iff h hT fun c hc hk => ?_];obtain ⟨i, hi, rfl⟩ := List.getElem_of_mem hc;have := h2.1 hb.2 i hi hk;exact ⟨this.1.2, this.2⟩
 simp only [yb] at base tgt ⊢;constructor
 ·rintro ⟨⟨⟨r1, r2, r3⟩, r4⟩, r5⟩;have hb := base.1 ⟨⟨r1, r2⟩, r4⟩;exact ⟨hb.1, hb.2, (tgt ⟨⟨r1, r2⟩, r4⟩).1 ⟨r3, r5⟩⟩
 ·rintro ⟨r1, r2, r3⟩;have hb := base.2 ⟨r1, r2⟩;obtain ⟨y1, y2⟩ := (tgt hb).2 r3;exact ⟨⟨⟨hb.1.1, hb.1.2, y1⟩, hb.2⟩, y2⟩
end
theorem Shows_eq {n m q rows a b s} (h : Scene n m q a b s) (hl : rows.length ≤ 1000) (hrows : ∀ i ∈ rows, ∃ (k : Nat) (hk : k < m.constraints.length), i = (k : Int) ∧ m.constraints[k].kind = 0) : zaK n m q rows s = some (showsP m q rows a b s) := by
 have hn := h.fuel;have hL := h.len;have hG := zfJ hn h.small h.valid;obtain ⟨q1, q2, q3, q4, q5⟩ := zhK h.quest;have ham := za4 h.ha;have hbm := za4 h.hb;obtain ⟨a1, a2, a3, a4⟩ := hG.acts a ham;obtain ⟨b1, b2, b3, b4⟩ := hG.acts b hbm;obtain ⟨da, ra⟩ := h.dA;obtain ⟨db, rb⟩ := h.dB;have hs := h.state;have hsl := hs.len;have hss : ziu s := fun x hx => by have := hs.small x hx; omega
 have hpa : ziu (plusP s a.effect.delta) := fun x hx => by have := zfo hs.small da x hx; omega
 have hpb : ziu (plusP s b.effect.delta) := fun x hx => by have := zfo hs.small db x hx; omega
 have hpab : ziu (plusP (plusP s a.effect.delta) b.effect.delta) := fun x hx => by
  have := zfo (B := 1000009999) (fun y hy => by have := zfo hs.small da y hy; omega) db x hx; omega
 have hla := zec s a.effect.delta;have hlb := zec s b.effect.delta;have hlab := zec (plusP s a.effect.delta) b.effect.delta;have hcons : ∀ c ∈ m.constraints, zaX n c (plusP (plusP s a.effect.delta) b.effect.delta) = some (zQ c (plusP (plusP s a.effect.delta) b.effect.delta)) := fun c hc =>
  zhS (by rw [hlab, hla]; exact h.conIn hc) hpab (by omega) hn
 have hend : ∀ rec, zaK.l2 n m q rows s a b (plusP (plusP s a.effect.delta) b.effect.delta) rec (rows.length : Int) = some (zf9 m q a b s) := fun rec => by
  simp only [zaK.l2, zah, ye, if_false];unfold zf9;cases hh : q.target.hold with
  | true =>
   simp only [if_true];obtain ⟨r, hr⟩ := za8 q3 (q4 hh a h.ha);have hci := row_in (ra r (za4 hr)) (by have := h.oA.terms r (za4 hr); omega);have hrow : zeB n r (plusP s b.effect.delta) = some (zQ ⟨0, 0, r, 0, 0⟩ (plusP s b.effect.delta)) := by
    unfold zeB;rw [zhS (by rw [hlb, hsl]; exact hci) hpb (by omega) hn]; rfl
   rw [hr, ya, Plus_eq b1 b2 b3 db hss (by omega) (by omega), ya, hrow];rfl
  | false =>
   simp only [ye, if_false];obtain ⟨c, hc⟩ := za8 q3 (q5 hh).2;rw [hc, ya, hcons c (za4 hc)];rfl
 have hloop2 : loopF (zaK.l2 n m q rows s a b (plusP (plusP s a.effect.delta) b.effect.delta)) n 0 = if (rows.all fun i => !(relB q i && !zQ ((idx m.constraints i).getD default) (plusP (plusP s a.effect.delta) b.effect.delta))) = true then some (zf9 m q a b s) else some false := by
  have := zaf (body := zaK.l2 n m q rows s a b (plusP (plusP s a.effect.delta) b.effect.delta)) (l := rows) (n := n) (st := fun i => (i : Int)) (fun i => !(relB q i && !zQ ((idx m.constraints i).getD default) (plusP (plusP s a.effect.delta) b.effect.delta))) (some false) (some (zf9 m q a b s)) (fun rec i hi => ?_) (fun rec => hend rec) (by omega)
  ·simpa using this
  ·obtain ⟨k, hk, e, -⟩ := hrows _ (yg hi);have hc : idx m.constraints rows[i] = some m.constraints[k] := by rw [e]; exact za hk
   simp only [zaK.l2, zh hi, if_true, za hi, yj, yr, grd, yf, hc, hcons _ (yg hk), zb (i := i) (by omega)];unfold relB;cases (q.target.hold || (q.target.index != rows[i])) && !zQ m.constraints[k] (plusP (plusP s a.effect.delta) b.effect.delta) <;> simp
 have hloop1 : loopF (zaK.l1 n m q rows s) n 0 = some (showsP m q rows a b s) := by
  have := zF (body := zaK.l1 n m q rows s) (len := rows.length) (st := fun i => (i : Int)) (g := fun _ => some (showsP m q rows a b s)) (fun rec i hi hr => ?_) (fun rec => ?_) n 0 (yp _) (by omega)
  ·simpa using this
  ·obtain ⟨k, hk, e, -⟩ := hrows _ (yg hi);simp only [zaK.l1, zh hi, if_true, za hi, ya, yj, yr, grd, yf, zb (i := i) (by omega), hr];rw [if_neg (by rw [e]; simp; omega)]
  ·simp only [zaK.l1, zah, ye, if_false, h.ha, h.hb, ya, zjV h.small h.valid ham hs (by omega) hn, zjV h.small h.valid hbm hs (by omega) hn, yj, yr, grd, if_true, yf];rw [Plus_eq a1 a2 a3 da hss (by omega) (by omega), ya, Plus_eq b1 b2 b3 db hpa (by omega) (by omega), ya, hloop2];unfold showsP;generalize (rows.all fun i => !(relB q i && !zQ ((idx m.constraints i).getD default) (plusP (plusP s a.effect.delta) b.effect.delta))) = X;cases possP m a.effect s <;> cases possP m b.effect s <;> cases X <;> simp
 unfold zaK;rw [ref16_Total_eq h.valid.lay (by omega), ya, if_neg (by simp [hsl])];exact hloop1
theorem badR_ok {m} {rows : List Int} (h : (rows.all fun x => !badR m x) = true) : ∀ i ∈ rows, ∃ (k : Nat) (hk : k < m.constraints.length), i = (k : Int) ∧ m.constraints[k].kind = 0 := fun i hi => by
 have := ym.1 h i hi;unfold badR at this;simp only [yx, ua, yC, Int.not_lt, Int.not_le, bne_eq_false_iff_eq] at this;obtain ⟨⟨h1, h2⟩, h3⟩ := this;obtain ⟨k, rfl⟩ := yW h1;have hk : k < m.constraints.length := by omega
 rw [za hk, yf] at h3;exact ⟨k, hk, rfl, h3⟩
theorem System_told {n m q rows a b} (hF : Fuel n) (hS : SmallM m) (hV : ValidM m) (hq : zgB m q = true) (ha : idx m.actions q.e = some a) (hb : idx m.actions q.f = some b) (hK : (boxM m).length ≤ 12) (hl : rows.length ≤ 1000) :
  (∃ e, ze n m q rows = some (⟨[], [], [], []⟩, e) ∧ e ≠ 0) ∨ ((rows.all fun x => !badR m x) = true ∧ ∃ Y cs, Tgt n m q a b (boxM m) Y cs ∧ SysOK (rowsR n m q rows a b ++ (zd7 q a b ++ Y)) (zcu n m q a b) cs ∧ sysP (boxM m).length (rowsR n m q rows a b ++ (zd7 q a b ++ Y)) (zcu n m q a b) cs = true ∧
   ze n m q rows = some (⟨boxM m, rowsR n m q rows a b ++ (zd7 q a b ++ Y), zcu n m q a b, cs⟩, 0)) := by
 have hn := hF.big;have hn1 : 1000000 ≤ n := by omega
 obtain ⟨q1, q2, q3, q4, q5⟩ := zhK hq;have hA := act_ok hS (za4 ha);have hB := act_ok hS (za4 hb);have sA := zjU hn hS hV (za4 ha);have sB := zjU hn hS hV (za4 hb);have hC : ∀ c ∈ m.constraints, ConOK (boxM m).length c := fun c hc => con_ok hS hV hc
 have hgood := zjS hV.lay;have hcl := hS.constraints;have hct : ∀ c ∈ m.constraints, c.row.terms.length ≤ 1000 := fun c hc => (hC c hc).len
 rw [System_closed (rows := rows) hF hS hV hq ha hb hA hB hC hl];by_cases hbad : (rows.all fun x => !badR m x) = true
 case neg =>
  rw [if_neg hbad];exact .inl ⟨2, rfl, by decide⟩
 rw [if_pos hbad];obtain ⟨Y, cs, hT, hX, hG, hcs, htail⟩ := tail3_eq (n := n) (m := m) (q := q) (box := boxM m) hA hB hC sA sB (by omega) (by omega) (fun h => ⟨q3, q4 h a ha⟩) (fun h => ⟨q3, (q5 h).2⟩) hn1;have hshort := rowsR_short (n := n) (q := q) (rows := rows) (a := a) (b := b) hcl hct;have hso := sysOK_of hshort hX hG hcs;rw [htail _ (by have := hshort.1; omega), zkS hgood (by omega) hso hn1];cases hP : sysP (boxM m).length (rowsR n m q rows a b ++ (zd7 q a b ++ Y)) (zcu n m q a b) cs with
 | false => exact .inl ⟨8, by simp [endS], by decide⟩
 | true => exact .inr ⟨hbad, Y, cs, hT, hso, hP, by simp [endS]⟩
theorem Means_law {m q} {rows : List Int} : zcV 18446744073709551616 m q rows = some true := by
 unfold zcV;have hF := fuel_N;have hn := hF.big;have hn1 : 1000000 ≤ 18446744073709551616 := by omega
 rw [awake_spec, ref13_Few_eq (by omega)];simp only [ya, y8, ye, if_false];by_cases hfew : (!fewP m || decide (20 < (rows.length : Int))) = true
 ·rw [if_pos hfew]
 rw [if_neg hfew];simp only [yz, yx, yd, not_or, Bool.not_eq_false] at hfew;obtain ⟨hf, hrl⟩ := hfew;have hS := fewP_small hf;by_cases hvq : (zfB m && zgB m q) = true
 case neg =>
  have : ze 18446744073709551616 m q rows = some (⟨[], [], [], []⟩, 1) := by
   unfold ze;simp only [yF] at hvq;rw [zfy hF hS, hvq, ya, if_pos (by simp)]
  rw [this, ya, if_pos (by simp)]
 have hvq' := hvq;simp only [yb] at hvq;have hV := zgZ.1 hvq.1;obtain ⟨q1, q2, q3, q4, q5⟩ := zhK hvq.2;obtain ⟨a, ha⟩ := za8 q1.1 q1.2;obtain ⟨b, hb⟩ := za8 q2.1 q2.2;have hfp := hf;simp only [fewP, zcw, hV.lay, if_true, yb, yd] at hfp;have hK : (boxM m).length ≤ 12 := hfp.2.2.1;have hgood := zjS hV.lay;have hcount := countB_few hgood (by decide) (by decide) hfp.2.2.2;have hcnt : zde (boxM m) < 18446744073709551616 := by
  have e : zde (boxM m) = zde (zJ m.sorts true m.tables) := rfl;rw [e];omega
 rcases System_told (rows := rows) hF hS hV hvq.2 ha hb hK (by omega) with ⟨e, h1, h2⟩ | ⟨hbad, Y, cs, hT, hso, hP, h1⟩
 ·rw [h1, ya, if_pos (by simpa using h2)]
 ·rw [h1, ya, if_neg (by simp), ref16_Valid_eq hn hS, hvq'];have hst : zbp 18446744073709551616 m (fun q0 => zaU 18446744073709551616 q0 ⟨boxM m, rowsR 18446744073709551616 m q rows a b ++ (zd7 q a b ++ Y), zcu 18446744073709551616 m q a b, cs⟩ m q rows) = some true := by
   unfold zbp;rw [ref22_Box_eq hS hV.lay (by omega), ya, ref17_Least_eq (by omega) (by omega), ya];refine states_all hgood (by omega) (by omega) hcnt fun s hs => ?_
   have hsc : Scene 18446744073709551616 m q a b s := ⟨hS, hV, hvq.2, ha, hb, hs, by omega, hn⟩
   unfold zaU;rw [Holds_closed hgood (by omega) hso hP hs hn1, ya, means_iff hsc hT (badR_ok hbad), Shows_eq hsc (by omega) (badR_ok hbad)];simp
  simp only [ya, hst];simp [grd]
theorem closed4 : joinedFacts Tryz.pinned.checked.prog 6 Tryz.f6 (OpenSpec.ofChange Rows.conditionMeansSpec).bare Rows.conditionMeansRow = true := by
 unfold joinedFacts
 simp only [yb]
 repeat' apply And.intro
 all_goals as_aux_lemma => kernel_rfl
section
open Go.ChangeShapes Go.WideShapes Go.ChangeAt Go.RowKit
theorem own : ownKnob Tryz.prog.godebug = none := by kernel_rfl
theorem laidOut : laidOutB Tryz.prog = true := by kernel_rfl
set_option maxRecDepth 100000 in
theorem contract4 (H : Type) (enc : TypeId × Value → H) (W : World) (base : Nat) (args : Array Value) (ds gs : List (DataW H)) (before : List MemPlace)
  (hval : ∀ (j : Nat) t v, Tryz.f6.params[j]? = some t → args[j]? = some v → Value.okWide Tryz.prog W .any base t v)
  (hW : DataW.Whole enc Tryz.prog Tryz.f6.params.toList Rows.conditionMeansSpec.vars false W args.toList ds gs before) (hL : laidMetH Tryz.prog Rows.conditionMeansRow.laid W) (hS : W.ShapedOpen Tryz.prog) :
  Calls Tryz.prog 6 args W fun e W' => ∃ v, e = .returned v ∧ Rows.conditionMeansSpec.post enc Tryz.prog Tryz.f6 false true false false W args v W' := by
 have hW' := hW
 obtain ⟨p, q, hA0, hV, rfl, hfz, hnd⟩ := hW
 have hA : DataW.TrodAll enc Tryz.prog W 0 (fun _ => true) true Tryz.f6.params.toList args.toList ds p := hA0
 rw [Tryz.params6] at hA hval
 obtain ⟨v0, vs0, d0, ds0, p0, q0, hargs, rfl, rfl, h0, r0⟩ := trodAll_cons hA
 obtain ⟨v1, vs1, d1, ds1, p1, q1, rfl, rfl, rfl, h1, r1⟩ := trodAll_cons r0
 obtain ⟨v2, vs2, d2, ds2, p2, q2, rfl, rfl, rfl, h2, r2⟩ := trodAll_cons r1
 obtain ⟨rfl, rfl, rfl⟩ := trodAll_nil r2
 obtain rfl : args = #[v0, v1, v2] := by cases args; simp_all
 obtain ⟨rfl, rfl⟩ := trodVars_none hV
 obtain ⟨a0, k0⟩ := dModel.of_arg (hval 0 _ v0 rfl rfl) h0
 obtain ⟨a1, k1⟩ := dQuest.of_arg (hval 1 _ v1 rfl rfl) h1
 obtain ⟨a2, k2⟩ := dInts.of_arg (hval 2 _ v2 rfl rfl) h2
 have hrun := (zfM _ a0 a1 a2 true Means_law).run Noneof W #[v0, v1, v2] (fun _ h => h.elim) (glob_ok hL hS) (by
  simp only [D.reps]
  exact ⟨v0, _, rfl, k0, v1, _, rfl, k1, v2, _, rfl, k2, rfl⟩)
 refine hrun.mono fun e W' ⟨u, he, hf, hu⟩ => ?_
 simp only [D.rep] at hu
 subst hu
 subst he
 refine ⟨_, rfl, post_kept hW' rfl rfl rfl laidOut (fun t ht => ?_) hf (fun _ _ _ => trodAll_cons_mk (shut_bool Tryz.underlying4 _) trodAll_mk0)⟩
 rw [Tryz.params6] at ht
 have hall : ([30, 37, 22].all fun t => Tryz.prog.readableRec t && decide (t < Tryz.prog.types.size)) = true := by kernel_rfl
 have := ym.1 hall t (by simpa using ht)
 simpa using this
theorem reads4 (os : Os) {H : Type} (enc : TypeId × Value → H) : ∃ places, DataW.whole enc Tryz.prog ((World.laidAll Tryz.prog os Rows.conditionMeansRow.laid).forCall (fun _ _ => 0) ⟨#[], #[.agg #[.slice none 0 0, .slice none 0 0, .slice none 0 0, .slice none 0 0, .slice none 0 0, .slice none 0 0, .slice none 0 0], .agg #[.int .i64 0, .int .i64 0, .bool false, .int .i64 0], .slice none 0 0], []⟩).memory Tryz.f6.params.toList Rows.conditionMeansSpec.vars false
  (#[.agg #[.slice none 0 0, .slice none 0 0, .slice none 0 0, .slice none 0 0, .slice none 0 0, .slice none 0 0, .slice none 0 0], .agg #[.int .i64 0, .int .i64 0, .bool false, .int .i64 0], .slice none 0 0] : Array Value).toList 8 =
  some ([.agg [.nil, .nil, .nil, .nil, .nil, .nil, .nil], .agg [.lit (.int .i64 0), .lit (.int .i64 0), .agg [.lit (.bool false), .lit (.int .i64 0)]], .nil], [], places) :=
 ⟨[], by kernel_rfl⟩
set_option maxRecDepth 100000 in
theorem lifted4 (os : Os) (started : os.Started) (H : Type) (enc : TypeId × Value → H) (F : Stop.Interp) :
  ReturnsInHanded {} Tryz.checked os 6 .any ((OpenSpec.ofChange Rows.conditionMeansSpec).preRow enc Tryz.prog Tryz.f6 Rows.conditionMeansRow.domain false Rows.conditionMeansRow.laid) (((OpenSpec.ofChange Rows.conditionMeansSpec).at F).post enc Tryz.prog Tryz.f6 false true false false) := by
 obtain ⟨places, hx⟩ := reads4 os enc
 refine returnsInHanded_of_row (C := Tryz.checked) (s := OpenSpec.ofChange Rows.conditionMeansSpec) own started (by kernel_rfl) Tryz.func6
  (witness_row_atRef (enc := enc) (C := Tryz.checked) false (World.laidAll Tryz.prog os Rows.conditionMeansRow.laid) _ (World.laidAll_os _ _ _) (by kernel_rfl) (by kernel_rfl) (by kernel_rfl)
   (OpenSpec.preRow_of_cond 8 hx (by kernel_rfl) (fun k hk => by cases hk) (by kernel_rfl) (laidMet_laidAll _ (by kernel_rfl) (by kernel_rfl)))) ?_
 intro W base args ds gs before hval hW _ _ _ hL hS _
 exact contract4 H enc W base args ds gs before hval hW hL hS
theorem said4 : Rows.ConditionMeansSaid :=
 OpenClaim.holds_of_cond 6 Tryz.f6 rfl rfl rfl rfl rfl rfl rfl ⟨rfl, rfl, rfl, rfl, rfl⟩ rfl rfl rfl rfl rfl (by kernel_rfl) Tryz.func6 closed4
  (of_decide_eq_true (by kernel_rfl)) (by unfold Func.isWrapper; first | (rw [if_pos (by decide +kernel)]; kernel_rfl) | (rw [if_neg (by decide +kernel)]; exact ⟨rfl, rfl⟩))
  (fun os started H enc _ F => by rw [OpenClaim.pre_eq_preRow]; exact lifted4 os started H enc F)
theorem plain4 (f : FuncId) (fn : Func) (hf : Tryz.pinned.checked.prog.funcNamed Rows.conditionMeansRow.func = some f) (hfn : Tryz.pinned.checked.prog.funcs[f]? = some fn) :
  false = Tryz.pinned.checked.prog.looks [] ∧ ∀ (j : Nat) t, fn.params[j]? = some t → Tryz.pinned.checked.prog.wantsStandIn t = false := by
 obtain rfl : f = 6 := Option.some.inj ((show Tryz.prog.funcNamed Rows.conditionMeansRow.func = some 6 by kernel_rfl).symm.trans hf) |>.symm
 obtain rfl : fn = Tryz.f6 := (Option.some.inj (Tryz.func6.symm.trans hfn)).symm
 refine ⟨by kernel_rfl, fun j t ht => ?_⟩
 rw [Tryz.params6] at ht
 have hall : ([30, 37, 22].all fun u => !Tryz.prog.wantsStandIn u) = true := by kernel_rfl
 have := ym.1 hall t (by simpa using Array.mem_of_getElem? ht)
 exact (show Tryz.prog.wantsStandIn t = false by simpa using this)
theorem conditionMeans_holds : Rows.ConditionMeansCardSaid :=
 Claim7.holds_tied_plain_at .later [] _ _ _ _ said4 (fun _ h => by cases h) (by kernel_rfl) (fun _ h => by cases h) conditionMeans_row_tie rfl ⟨rfl, rfl⟩ (by kernel_rfl) rfl plain4 (by kernel_rfl)
end
end Go.Proofs.YtcagdmegicijlaaGreatDoor
