/- Part of the proof of one law of the seat. -/
import Derived.Test.YtcagdmegicijlaaGreatDoorSy02
import Derived.Shelf.SlSortCmp.Whole1
import Derived.Shelf.SlSortCmp.NoneTotal
import Derived.RangeFuncRecord
import Derived.RangeFuncCalls
import Derived.RangeFuncLeaves
import Derived.WalkKit
import Derived.TacticsIn
import Derived.TacticsInMore
import Derived.BigFrameIn
import Derived.OwnWalkIn
set_option linter.unusedVariables false
set_option linter.unusedSectionVars false
set_option linter.unusedSimpArgs false
set_option maxHeartbeats 4000000
namespace Go.Proofs.YtcagdmegicijlaaGreatDoor
open Go Go.RowKit
abbrev yH := @_root_.decide_eq_false_iff_not
abbrev ug := @_root_.Bool.and_eq_false_iff
section
open Go Go.RowKit Go.Sort Go.Shelf
theorem znL {α β : Type} {cf : α → α → Int} {l : List α} (h : swoB cf l = true) (g : β → α) (hg : ∀ b, g b ∈ l) : SWO (ltOf fun x y : β => cf (g x) (g y)) := by
 unfold swoB at h;rw [yp] at h;have k : ∀ x y z : β, ¬ cf (g x) (g x) < 0 ∧ (cf (g x) (g y) < 0 → cf (g y) (g z) < 0 → cf (g x) (g z) < 0) ∧ (¬ cf (g x) (g y) < 0 → ¬ cf (g y) (g z) < 0 → ¬ cf (g x) (g z) < 0) := by
  intro x y z;have h1 := h _ (hg x);rw [yc, yp] at h1;have h2 := h1.2 _ (hg y);rw [yp] at h2;have h3 := h2 _ (hg z);have h0 := h1.1;simp only [yG, yH] at h0;simp only [yc, yv, yG, ug, yf, yH] at h3;exact ⟨h0, by omega, by omega⟩
 refine ⟨fun x => ?_, fun x y z h1 h2 => ?_, fun x y z h1 h2 => ?_⟩
 ·have := (k x x x).1;simpa only [ltOf, yH] using this
 ·simp only [ltOf, yf] at *;exact (k x y z).2.1 h1 h2
 ·simp only [ltOf, yH] at *;exact (k x y z).2.2 h1 h2
theorem zha {n : Nat} {cf : Fin (n + 1) → Fin (n + 1) → Int} (hO : SWO (ltOf cf)) : (zec n cf).size = n + 1 ∧ (zec n cf).toList.Perm (List.ofFn (n := n + 1) id) ∧ (zec n cf).toList.Pairwise fun x y => ltOf cf y x = false := by
 obtain ⟨⟨h1, _, h2⟩, h3⟩ := pdq_sorts (ltOf cf) hO (Array.ofFn (n := n + 1) id) 0 (n + 1) (Lib.bitLen (n + 1)) true true (yo _) (by simp) (Or.inl rfl);have hs : (zec n cf).size = n + 1 := by
  change (pdq (ltOf cf) (Array.ofFn (n := n + 1) id) 0 (n + 1) (Lib.bitLen (n + 1)) true true).size = n + 1;rw [h1]; simp
 refine ⟨hs, ?_, ?_⟩
 ·have e : ∀ (arr : Array (Fin (n + 1))) (m : Nat), arr.size = m → arr.extract 0 m = arr := by
   rintro arr m rfl;exact Array.extract_size
  have e1 := e (zec n cf) (n + 1) hs;have e2 := e (Array.ofFn (n := n + 1) id) (n + 1) (by simp);change ((zec n cf).extract 0 (n + 1)).toList.Perm _ at h2;rw [e1, e2] at h2;simpa using h2
 ·rw [List.pairwise_iff_getElem];intro i j hi hj hij;have hi' : i < (zec n cf).size := by simpa using hi
  have hj' : j < (zec n cf).size := by simpa using hj
  have := h3 i j (yo _) hij (by omega);change ltOf cf (zec n cf)[j]! (zec n cf)[i]! = false at this;rw [getElem!_pos (zec n cf) j hj', getElem!_pos (zec n cf) i hi'] at this;simpa using this
theorem zlB {α : Type} : ∀ (l : List α) (n : Nat) (h : n = l.length), (List.ofFn (n := n) id).map (fun i => l[i.val]'(by rw [← h]; exact i.isLt)) = l := by
 intro l n h;subst h;apply List.ext_getElem
 ·simp
 ·intro i h1 h2;simp
theorem zia {α : Type} {cf : α → α → Int} {l : List α} (h : swoB cf l = true) : (sortF cf l).Perm l := by
 cases l with
 | nil => simp [sortF]
 | cons x xs =>
  have hO : SWO (ltOf fun i j : Fin (xs.length + 1) => cf ((x :: xs)[i.val]'(by simp)) ((x :: xs)[j.val]'(by simp))) := znL h (fun i : Fin (xs.length + 1) => (x :: xs)[i.val]'(by simp)) (fun i => yk _);have h2 := (zha hO).2.1.map fun i => (x :: xs)[i.val]'(by simp)
  rw [zlB (x :: xs) (xs.length + 1) (by simp)] at h2;exact h2
theorem zl0 {α : Type} {cf : α → α → Int} {l : List α} (h : swoB cf l = true) : (sortF cf l).Pairwise fun x y => ¬ cf y x < 0 := by
 cases l with
 | nil => simp [sortF]
 | cons x xs =>
  have hO : SWO (ltOf fun i j : Fin (xs.length + 1) => cf ((x :: xs)[i.val]'(by simp)) ((x :: xs)[j.val]'(by simp))) := znL h (fun i : Fin (xs.length + 1) => (x :: xs)[i.val]'(by simp)) (fun i => yk _);have h2 := (zha hO).2.2;simp only [sortF, List.pairwise_map];refine h2.imp fun {a b} hab => ?_
  simpa [ltOf] using hab
theorem zkK {α : Type} {f : α → α → Option Int} {l r : List α} (h : sortO f l = some r) : (∀ x ∈ l, ∀ y ∈ l, (f x y).isSome = true) ∧ swoB (fun x y => (f x y).getD 0) l = true ∧ l.length < 4611686018427387904 ∧ r = sortF (fun x y => (f x y).getD 0) l := by
 unfold sortO at h;split at h
 ·rename_i hc;simp only [yc, yf, yp] at hc;cases h;exact ⟨fun x hx y hy => hc.1.1 x hx y hy, hc.1.2, hc.2, rfl⟩
 ·cases h
theorem zl1 {α : Type} {f : α → α → Option Int} {l r : List α} (h : sortO f l = some r) : r.length = l.length := by
 obtain ⟨_, h1, _, rfl⟩ := zkK h;exact (zia h1).length_eq
variable [Globs]
theorem Fr.grow_eq {w w' : World} (h : Fr zd w w') : ∃ q os, w' = grow (w.drewN q) os := by
 refine ⟨w'.drawn - w.drawn, w'.heap.extract w.heap.size w'.heap.size, ?_⟩;obtain ⟨heap, tape, drawn, os, output⟩ := w;obtain ⟨heap', tape', drawn', os', output'⟩ := w';obtain ⟨h1, h2, h3, h4, h5, h6⟩ := h;simp only at h1 h2 h3 h4 h5 h6;subst h1 h2 h3;have e : heap' = heap ++ heap'.extract heap.size heap'.size := by
  apply Array.ext_getElem?;intro i;by_cases hi : i < heap.size
  ·rw [Array.getElem?_append_left hi]; exact h5 i hi (fun x => x)
  ·rw [Array.getElem?_append_right (by omega), Array.getElem?_extract];simp only [show heap.size + (i - heap.size) = i by omega];by_cases hj : i < heap'.size
   ·rw [if_pos (by omega)]
   ·rw [if_neg (by omega)]; exact Array.getElem?_eq_none (by omega)
 simp only [grow, World.drewN, World.mk.injEq];exact ⟨e, trivial, by omega, trivial, trivial⟩
theorem znm {α : Type} [Inhabited α] {enc : α → Value} {w : World} {g n : Nat} {os : Array Obj} (d : Array α) : Fr (fun b => some g = some b) w (sortWorld enc w g 0 n d os) := by
 refine ⟨rfl, rfl, rfl, by simp [sortWorld], fun k hk hne => ?_, Nat.le_add_right _ _⟩;unfold sortWorld;rw [heap_grow_old _ _ (by simpa using hk)];have : g ≠ k := fun e => hne (by rw [e])
 simp [putRow, mapBlock, Sort.ahead, Array.getElem?_modify, this]
theorem zl9 {P : Program} {A : Nat → Prop} {w : World} {k g blk : Nat} (hA : ∀ b, A b → b < w.heap.size) (hG : zeg A w) (hb : A blk) {vals : Fin (k + 1) → Value} {encs : Fin (k + 1) → D} (hr : ∀ i, (encs i).rep A w (vals i)) {cf : Fin (k + 1) → Fin (k + 1) → Int}
  (hp : ∀ i j, Pure P g [encs i, encs j] (.int (cf i j))) : CmpLays1 P g #[] vals cf blk 0 (k + 1) w := by
 intro m os dk _ x y;have f0 : Fr (fun b => some blk = some b) w (sortWorld vals w blk 0 m dk os) := znm dk;have hW : ∀ b, some blk = some b → A b := fun b e => by cases e; exact hb
 have h := (hp x y).run A (sortWorld vals w blk 0 m dk os) #[vals x, vals y] (fun b hb => yJ (hA b hb) f0.size) (hG.fr f0 hW (fun _ _ h => h)) (by
  simp only [D.reps];exact ⟨_, _, rfl, D.rep_fr f0 hW (fun _ _ h => h) _ _ (hr x), _, _, rfl, D.rep_fr f0 hW (fun _ _ h => h) _ _ (hr y), rfl⟩)
 simp only [Array.append_empty];refine h.mono ?_;rintro e w' ⟨u, rfl, hf, hu⟩;simp only [D.rep] at hu;obtain ⟨q, os', he⟩ := hf.grow_eq;exact ⟨by rw [hu], q, os', he⟩
theorem D.flat_one {A : Nat → Prop} {w : World} : ∀ {xs : List D} {cs : List Value}, (∀ x ∈ xs, x.shape = none) → (D.flat A w 1 xs cs ↔ D.reps A w xs cs)
 | [], cs, _ => by simp only [D.flat, D.reps]
 | x :: xs, cs, h => by
  simp only [D.flat, D.reps];constructor
  ·rintro ⟨u, cs', rfl, hk, h1, h2⟩;have hc := D.cells_of_one h1 (h x (by simp));refine ⟨u, cs', by rw [hc]; rfl, h1, (D.flat_one fun y hy => h y (by simp [hy])).1 h2⟩
  ·rintro ⟨u, cs', rfl, h1, h2⟩;have hc := D.cells_of_one h1 (h x (by simp));exact ⟨u, cs', by rw [hc]; rfl, by rw [hc]; rfl, h1, (D.flat_one fun y hy => h y (by simp [hy])).2 h2⟩
theorem D.reps_of_get {A : Nat → Prop} {w : World} : ∀ {ds : List D} {vs : List Value}, vs.length = ds.length → (∀ (i : Nat) (d : D) (v : Value), ds[i]? = some d → vs[i]? = some v → d.rep A w v) → D.reps A w ds vs
 | [], [], _, _ => by simp only [D.reps]
 | d :: ds, v :: vs, hl, h => by
  simp only [D.reps];exact ⟨v, vs, rfl, h 0 d v rfl rfl, D.reps_of_get (by simpa using hl) fun i d' v' h1 h2 => h (i + 1) d' v' (by simpa using h1) (by simpa using h2)⟩
 | [], _ :: _, hl, _ => by simp at hl
 | _ :: _, [], hl, _ => by simp at hl
theorem zjp {w : World} {g : Nat} {f : Array Value → Array Value} {cur : Array Value} {e : TypeId} {fr : Nat × Nat} (hb : w.heap[g]? = some (.cells cur e fr)) : mapBlock w g f = w.setRow g (f cur) := by
 unfold mapBlock World.setRow;congr 1;apply Array.ext_getElem?;intro i;simp only [Array.getElem?_modify];split
 ·rename_i h; subst h; simp [hb, onCells]
 ·rfl
theorem TriL.sort1 {P : Program} {C : Ctx} {ops : Array Oper} {o : Oper} {rest : List Oper} {Q : Exit → St → Prop} {T : List (Nat × V)} {H : List Blk} {ρ : Ren} (L : SlLaysF.n6 P ρ) {α : Type} {F : FuncId} {tys : Array TypeId} {x y : Operand} {el : TypeId} {i n g : Nat} {enc : α → D} {l r : List α} {cmp : α → α → Option Int}
  (hF : ρ.f 6 = F) (hg : o.guard = none) (ho : o.op = .call { callee := .value (.func F), args := #[x, y], argTypes := tys }) (hd : dstOK o.dst C.n = true) (hc : callable P F = true) (hcg : callable P g = true)
  (hx : ev T x = some (.vec i n)) (hy : ev T y = some (.d (.fn (.func g) [] []))) (hi : H[i]? = some (.vec el 1 (l.map enc))) (hn : n = l.length) (h1 : ∀ x, (enc x).shape = none) (h2 : ∀ x, (enc x).ones = true) (hs : sortO cmp l = some r)
  (hp : ∀ a b v, cmp a b = some v → Pure P g [enc a, enc b] (.int v))
  (kk : TriL P C ops rest Q ((⟨T, H.set i (.vec el 1 (r.map enc))⟩ : St).put o.dst .junk)) : TriL P C ops (o :: rest) Q ⟨T, H⟩ := by
 subst hF;obtain ⟨hsome, hswo, hlen, rfl⟩ := zkK hs;refine ⟨fun bs a w hR => wpList_plain hg fun K hK => ?_⟩;have hxr := hR.ev hx;have hyr := hR.ev hy;simp only [V.rep, hi] at hxr;simp only [V.rep, D.rep, D.reps] at hyr;obtain ⟨vs, us, hyv, hv0, hu0⟩ := hyr;have hv0 : vs = #[] := by simpa using hv0
 have hu0 : us = #[] := by simpa using hu0
 subst hv0 hu0;obtain ⟨cells, hown, hbs, hflat⟩ := hxr.2 (by simpa using hn);have hrun : (execOp a.eval o).run P w = .ok (.enter (ρ.f 6) #[a.eval x, a.eval y]) w := by
  have hk : ∀ k, a.eval (.func k) = .func (.func k) #[] #[] := fun _ => rfl
  simp only [execOp, ho, resolve, hk, Deferred.ofValue, Sem.run_bind, Sem.run_pure, Result.andThen_ok, invoke];simpa using zbI hc #[a.eval x, a.eval y] w
 have hR' : ∀ {w' : World} {H' : List Blk} {u : Value}, R C bs ⟨T, H'⟩ a w' → R C bs ((⟨T, H'⟩ : St).put o.dst .junk) (a.put o.dst u) w' := fun h => h.put (Fr.refl _ _) o.dst hd (v := .junk) (by simp only [V.rep])
 refine Oper.wp_of_runs (K := fun u w' => R C bs ⟨T, H.set i (.vec el 1 ((sortF (fun x y => (cmp x y).getD 0) l).map enc))⟩ a w') ?_ fun u w' h => hK _ _ (kk.run bs _ _ (hR' h))
 rw [hrun];simp only [zig];have hshape : ∀ (l : List α), ∀ d ∈ l.map enc, d.shape = none := fun l d hd => by
  obtain ⟨z, _, rfl⟩ := yY.1 hd;exact h1 z
 cases l with
 | nil =>
  have hset : H.set i (.vec el 1 ((sortF (fun x y => (cmp x y).getD 0) ([] : List α)).map enc)) = H := by
   refine uf fun j => ?_
   by_cases hij : i = j
   ·subst hij; rw [yt (yb.1 hi).1, hi]; rfl
   ·rw [yy hij]
  rw [hset];have hn0 : n = 0 := by simpa using hn
  subst hn0;have hxv : ∃ p cap, a.eval x = .slice p 0 cap := by
   rcases hown.2 with ⟨h, _⟩ | ⟨g', cap, cur, h, _⟩
   ·exact ⟨_, _, h⟩
   ·exact ⟨_, _, h⟩
  obtain ⟨p, cap, hxv⟩ := hxv;rw [hxv];refine (AnyF.slices_SortFunc_none { L with } p cap (a.eval y) w).mono ?_;rintro e w' ⟨rfl, rfl⟩;exact ⟨_, rfl, hR⟩
 | cons z zs =>
  obtain ⟨k, hk⟩ : ∃ k, k = zs.length := ⟨_, rfl⟩
  have hnk : n = k + 1 := by rw [hn, hk]; rfl
  obtain ⟨gb, cap, cur, hxv, _, hheap, hncap, hcapm, hcurs, htake⟩ := hown.2.resolve_left (fun h => by omega);have hob : bs[i]? = some (some gb) := by rw [hbs, hxv]; rfl
  have hcl : cells.length = k + 1 := by rw [hown.1, hnk]; simp
  obtain ⟨vals, hvals⟩ : ∃ vals : Fin (k + 1) → Value, ∀ j : Fin (k + 1), cells[j.val]? = some (vals j) :=
   ⟨fun j => cells[j.val]'(by have := j.isLt; omega), fun j => yB _⟩
  have hll : (z :: zs).length = k + 1 := by rw [hk]; rfl
  obtain ⟨el', hel⟩ : ∃ el' : Fin (k + 1) → α, ∀ j : Fin (k + 1), (z :: zs)[j.val]? = some (el' j) :=
   ⟨fun j => (z :: zs)[j.val]'(by have := j.isLt; omega), fun j => yB _⟩
  have hreps := (D.flat_one (hshape (z :: zs))).1 hflat
  have hval : ∀ j, (enc (el' j)).rep (Own C.A0 bs) w (vals j) := by
   intro j;obtain ⟨v, hv, hr⟩ := D.reps_get hreps j.val (enc (el' j)) (by rw [yX, hel j]; rfl);rw [hvals j] at hv;cases hv;exact hr
  have hmem : ∀ j, el' j ∈ z :: zs := fun j => yu (hel j)
  have hO : SWO (ltOf fun p q : Fin (k + 1) => (cmp (el' p) (el' q)).getD 0) := znL hswo el' hmem;have hAlt : ∀ b, Own C.A0 bs b → b < w.heap.size := fun b hb => hb.elim (hR.own.foreign b) (hR.own.lt b)
  have hgb : Own C.A0 bs gb := .inr (yu hob);have hcmp : CmpLays1 P g #[] vals (fun p q : Fin (k + 1) => (cmp (el' p) (el' q)).getD 0) gb 0 (k + 1) w := zl9 hAlt hR.own.glob hgb hval fun p q => by
   obtain ⟨v, hv⟩ := Option.isSome_iff_exists.1 (hsome _ (hmem p) _ (hmem q));have := hp _ _ _ hv;rw [hv];exact this
  have hone : OneCell vals := fun j => D.flat_ones (fun d hd => by obtain ⟨q, _, rfl⟩ := yY.1 hd; exact h2 q) hflat _ (yu (hvals j))
  have eg : ∀ args w, (callFunc g args).run P w = .ok (.enter g args) w := fun args w => zbI hcg args w
  have hH : Holds vals w gb 0 (Array.ofFn (n := k + 1) id) := by
   intro j hj;have hj' : j < k + 1 := by simpa using hj
   refine ⟨?_, by simp [World.frozen?, hheap]⟩;rw [getElem!_pos _ j hj, uy, zZ hheap];have h2 : (cur.toList.take (n * 1))[j]? = cells[j]? := by rw [htake]
   rw [List.getElem?_take_of_lt (by omega)] at h2;rw [← yV, h2];have := hvals ⟨j, hj'⟩;simpa using this
  have hcon := Any.slices_SortFunc_eq L vals hone (fun p q : Fin (k + 1) => (cmp (el' p) (el' q)).getD 0) hO g #[] gb 0 cap (Array.ofFn (n := k + 1) id) w eg (by simpa using hcmp) hH (ym.1 hheap).1 (by have := hlen; rw [hll] at this; simpa using this);rw [hxv, hyv];have hsz : (Array.ofFn (n := k + 1) (id : Fin (k + 1) → Fin (k + 1))).size = k + 1 := by simp
  rw [hsz] at hcon;rw [hnk];refine hcon.mono ?_;rintro e w' ⟨rfl, m, os, rfl⟩;refine ⟨_, rfl, ?_⟩;change R C bs ⟨T, _⟩ a (sortWorld vals w gb 0 m (zec k fun p q : Fin (k + 1) => (cmp (el' p) (el' q)).getD 0) os);have hsp := zha hO;obtain ⟨ix, hix⟩ : ∃ ix, ix = zec k fun p q : Fin (k + 1) => (cmp (el' p) (el' q)).getD 0 := ⟨_, rfl⟩
  rw [← hix] at hsp ⊢;have hres : sortF (fun x y => (cmp x y).getD 0) (z :: zs) = ix.toList.map el' := by
   have hel' : ∀ (j : Fin (zs.length + 1)), el' (j.cast (by rw [hk])) = (z :: zs)[j.val]'(by simp) := fun j => by
    have := hel (j.cast (by rw [hk]));rw [yB (by simp)] at this;simpa using this.symm
   subst hk;have hel2 : el' = fun j => (z :: zs)[j.val]'(by simp) := funext fun j => hel' j
   rw [hix, hel2]; rfl
  rw [hres];have hnew : (putCells vals 0 ix cur).toList.take ((k + 1) * 1) = ix.toList.map vals := by
   apply uf;intro j;have hcs : k + 1 ≤ cur.size := by rw [hcurs]; omega
   by_cases hj : j < k + 1
   ·rw [List.getElem?_take_of_lt (by omega), yV];have hj2 : j < ix.size := by rw [hsp.1]; exact hj
    simp [putCells, hj2, show j < cur.size by omega, getElem!_pos ix j hj2]
   ·rw [List.getElem?_take_eq_none (by omega), List.getElem?_eq_none (by simp [hsp.1]; omega)]
  have hw1 : sortWorld vals w gb 0 m ix os = grow (Sort.ahead (w.setRow gb (putCells vals 0 ix cur)) m) os := by
   unfold sortWorld;rw [putRow_ahead];unfold putRow;rw [zjp hheap]
  rw [hw1];have hR1 : R C bs ⟨T, H.set i (.vec el 1 ((ix.toList.map el').map enc))⟩ a (w.setRow gb (putCells vals 0 ix cur)) := by
   refine R.vecTurn (cur := cur) hR hi hob hheap (by simp [putCells]) (by simp [hsp.1, hk]) ?_ (by simp);have e1 : ((z :: zs).map enc).length * 1 = (k + 1) * 1 := by simp [hk]
   rw [e1, hnew];refine (D.flat_one (hshape _)).2 (D.reps_of_get (by simp) fun j d v hd hv => ?_);simp only [yX, Option.map_eq_some_iff] at hd hv;obtain ⟨q, ⟨p, hp1, rfl⟩, rfl⟩ := hd;obtain ⟨p', hp2, rfl⟩ := hv;rw [hp1] at hp2;cases hp2;exact hval p
  have hfr : Fr zd (w.setRow gb (putCells vals 0 ix cur)) (grow (Sort.ahead (w.setRow gb (putCells vals 0 ix cur)) m) os) :=
   ⟨rfl, rfl, rfl, by simp [Sort.ahead], fun b hb _ => by rw [heap_grow_old _ _ (by simpa [Sort.ahead] using hb)]; rfl, Nat.le_add_right _ _⟩
  exact hR1.put hfr none rfl (v := .junk) (u := Go.undef) (by simp only [V.rep])
end
section
variable {P : Program} {C : Ctx} {ops : Array Oper} {o : Oper} {rest : List Oper} {Q : Exit → St → Prop} {T : List (Nat × V)} {H : List Blk}
variable [Globs]
theorem TriI.to {fuel : Nat} {listed : Array Bool} {s : St} (listed' : Array Bool) (e : listed = listed') (h : TriI P C ops fuel listed' Q s) : TriI P C ops fuel listed Q s := by subst e; exact h
theorem TriI.via {fuel : Nat} {listed : Array Bool} {s : St} (f : Nat) (l' : Array Bool) (s' : St) (h : TriI P C ops f l' Q s') (k : TriI P C ops f l' Q s' → TriI P C ops fuel listed Q s) : TriI P C ops fuel listed Q s := k h
theorem TriI.keepT {fuel : Nat} {listed : Array Bool} {T K : List (Nat × V)} (ks : List Nat) (hK : Looks T ks K) (h : TriI P C ops fuel listed Q ⟨K, H⟩) : TriI P C ops fuel listed Q ⟨T, H⟩ :=
 ⟨fun bs a w hR => h.run bs a w (hR.weaken hK.sub.look)⟩
theorem TriI.ge {P : Program} {C : Ctx} {ops : Array Oper} {fuel : Nat} {listed : Array Bool} {Q : Exit → St → Prop} {s t : St} (hl : s.ge t) (hgn : Nat.ble C.gn t.H.length = true) (h : TriI P C ops fuel listed Q t) : TriI P C ops fuel listed Q s :=
 ⟨fun _ a w hR => let ⟨bs', hR'⟩ := hR.ge hl hgn; h.run bs' a w hR'⟩
theorem TriL.ge {P : Program} {C : Ctx} {ops : Array Oper} {rest : List Oper} {Q : Exit → St → Prop} {s t : St} (hl : s.ge t) (hgn : Nat.ble C.gn t.H.length = true) (h : TriL P C ops rest Q t) : TriL P C ops rest Q s :=
 ⟨fun _ a w hR => let ⟨bs', hR'⟩ := hR.ge hl hgn; h.run bs' a w hR'⟩
theorem TriI.cut {fuel : Nat} {listed : Array Bool} {H' : List Blk} (H : List Blk) (hl : ∃ X, H' = H ++ X) (h1 : (H.all (Blk.under H.length)) = true) (h2 : (T.all fun p => p.2.under H.length) = true) (hT : Sub T T) (hgn : Nat.ble C.gn H.length = true)
  (h : TriI P C ops fuel listed Q ⟨T, H⟩) : TriI P C ops fuel listed Q ⟨T, H'⟩ :=
 .ge (t := ⟨T, H⟩) (let ⟨X, hX⟩ := hl; ⟨X, hX, h1, h2, hT⟩) hgn h
theorem OneI.ofG {s s' : St} (hd : zd2 o = true) (hw : Wants C ops o s true) (h : TriL P C ops [{ o with guard := none }] (After s') s) : OneI P C ops o s s' := by
 refine ⟨fun bs a w hR Q i K hi hK => ?_⟩;have h1 := h.run bs a w hR;have hw := hw.run bs a w hR;unfold wpOpIn;simp only [hi, hw, if_true];unfold wpList at h1;have h0 : Region.wanted { o with guard := none } (yielded ops a.tmps) = true := rfl;rw [if_pos h0] at h1;rcases h1 with h1 | ⟨_, a1, w1, h1⟩
 ·have h2 : o.wp P a w (QR C (After s') .normal) (QR C (After s')) := h1;exact Oper.wpIn_wide (.inl rfl) (zf0 hd) (Oper.wp_after hK h2)
 ·rcases h1 with ⟨bs', s1, ⟨h, _⟩, hR⟩ | ⟨h, _⟩ <;> cases h
theorem OneI.no {s : St} (hd : dstOK o.dst C.n = true) (hw : Wants C ops o s false) : OneI P C ops o s (s.put o.dst .junk) := by
 refine ⟨fun bs a w hR Q i K hi hK => ?_⟩;have hw := hw.run bs a w hR;unfold wpOpIn;simp only [hi, hw];exact ⟨fun _ _ => trivial, hK _ _ ⟨bs, hR.put (Fr.refl _ _) o.dst hd (v := .junk) (by simp only [V.rep])⟩⟩
theorem zmU {f : FuncId} {fn : Func} {α : Type} {t el : TypeId} {k bytes : Nat} {enc : α → D} {xs zs : List α} (hf : P.funcs[f]? = some fn) (hbody : fn.body = some (zls t)) (hN : fn.ntmps = 8) (hrs : fn.results = #[.tmp 2])
  (ht : zbq P t el k bytes = true) (hb : Nat.blt 0 bytes = true) (hones : ∀ z, (enc z).ones = true) (hk : ∀ x, (enc x).kOK k = true) (hv : Go.Proofs.YtcagdmegicijlaaGreatDoor.app bytes [] xs = some zs) : Pure P f [.sl k (xs.map enc)] (.sl k (zs.map enc)) := by
 have hz : zs = xs := by have := (appS hv).1; simpa using this
 have htu := (zb5 ht).1;refine Pure.ot hf hbody hN rfl fun A w => ?_
 rw [hrs];refine .seq (.region (.op rfl rfl (.assign rfl rfl) (.nil ?_)));refine .seq (.seq (.region (.op rfl rfl (.move rfl rfl) (.eqNil rfl rfl rfl htu rfl fun b hxs => .nil ?_))));refine .cond (t := b) rfl (fun hbt => ?_) (fun _ => .skip ?_)
 ·have hxs := hxs hbt;have hxs : xs = [] := by simpa using hxs
  subst hxs;subst hz;refine .seq (.region (.op rfl rfl (.assign rfl rfl) (.nil ?_)));refine .nilVec 2 k el rfl (.ret ?_);exact zbv rfl (.vec rfl rfl)
 ·refine .seq (.region (.buildVec (α := α) (enc := enc) [] rfl rfl rfl rfl rfl ht rfl hk (by simp [Nat.ble_eq]) ?_));refine .op rfl rfl (.move rfl rfl) ?_;refine .app rfl rfl rfl rfl rfl rfl rfl rfl ht hb hones hv ?_;refine .op rfl rfl (.assign rfl rfl) (.nil ?_);refine .ret ?_;exact zbv rfl (.vec rfl (by simp))
theorem OpV.makeFunc1 {e : Operand → Option V} {g : FuncId} {x : Operand} {d : D} (ho : o.op = .makeFunc (.func g) #[x] #[]) (hx : e x = some (.d d)) : OpV P o e H (.d (.fn (.func g) [d] [])) :=
 .of_same fun A0 bs w f _ hf => by
  have h1 := hf x (by simp [ho, Op.operands]) _ hx;refine ⟨.func (.func g) #[f x] #[], by simp [execOp, ho, Instr.makeFunc], ?_⟩;simp only [V.rep, D.rep, D.reps] at h1 ⊢;exact ⟨#[f x], #[], rfl, ⟨f x, [], rfl, h1, rfl⟩, rfl⟩
end
noncomputable section
def zhl (n : Nat) : Option Model :=
 some (⟨[], [(⟨[99], 1, [], (⟨0, 3⟩ : Range), 0⟩ : Table)], [[99]], [(⟨0, 0, (⟨[(⟨0, (-1)⟩ : Term)], 0⟩ : Row), 0, 0⟩ : Constraint), (⟨0, 0, (⟨[(⟨0, 1⟩ : Term)], 3⟩ : Row), 0, 0⟩ : Constraint)], [(⟨[116, 119, 111], false, []⟩ : Operation)], [(⟨0, [], (⟨[(⟨0, 2⟩ : Change)], [], []⟩ : Effect)⟩ : Action)], []⟩ : Model)
def zN.l1 (n : Nat) (t0 : List Int) (t1 : Int → Option Bool) (b : Int → Option Int) (a : Int) : Option Int :=
 if (decide (a < (t0.length : Int))) then
 (idx t0 a).bind fun c =>
 (t1 c).bind fun d =>
 if d then
 some a
 else
 b (add64 a 1)
 else
 some (-1)
def zN (n : Nat) (t0 : List Int) (t1 : Int → Option Bool) : Option Int :=
 loopF (zN.l1 n t0 t1) n 0
def zr (n : Nat) (t0 : List Int) (t1 : Int → Option Bool) : Option Bool :=
 (zN n t0 t1).bind fun a =>
 some (decide (0 ≤ a))
def zds (n : Nat) (t0 : Int) (t1 : Int) (t2 : Int) : Option Bool :=
 some ((decide (t1 ≤ t0)) && (decide (t0 ≤ t2)))
def ze7 (n : Nat) (t0 : Int) : Option Bool :=
 (zds n t0 1 6).bind fun a =>
 some (!a)
def ze6 (n : Nat) (t0 : List Int) : Option Bool :=
 (zr n t0 (fun q0 => ze7 n q0)).bind fun a =>
 some (!a)
def zV.l1 (n : Nat) (t0 : List Bool) (t1 : Bool) (b : Int → Option Int) (a : Int) : Option Int :=
 if (decide (a < (t0.length : Int))) then
 (idx t0 a).bind fun c =>
 if (t1 == c) then
 some a
 else
 b (add64 a 1)
 else
 some (-1)
def zV (n : Nat) (t0 : List Bool) (t1 : Bool) : Option Int :=
 loopF (zV.l1 n t0 t1) n 0
def zbz (n : Nat) (t0 : List Bool) (t1 : Bool) : Option Bool :=
 (zV n t0 t1).bind fun a =>
 some (decide (0 ≤ a))
def zfF (n : Nat) (t0 : List Bool) : Option Bool :=
 (zbz n t0 false).bind fun a =>
 some (!a)
def zes (n : Nat) (t0 : List UInt8) (t1 : Int → Option Bool) : Option (List (List UInt8)) :=
 none
def zge (n : Nat) (t0 : Int) : Option Bool :=
 if (decide (wk .u32 t0 ≤ 255)) then
 jn (fun (b : Bool) =>
 if b then
 some true
 else
 some false) fun a =>
 if (t0 == 9) then
 a (t0 == 9)
 else
 if (t0 == 10) then
 a (t0 == 10)
 else
 if (t0 == 11) then
 a (t0 == 11)
 else
 if (t0 == 12) then
 a (t0 == 12)
 else
 if (t0 == 13) then
 a (t0 == 13)
 else
 if (t0 == 32) then
 a (t0 == 32)
 else
 if (t0 == 133) then
 a (t0 == 133)
 else
 a (t0 == 160)
 else
 none
def zaT.l4 (n : Nat) (t0 : List UInt8) (e : Int) (c : ((List (List UInt8)) × Int × Int × Int) → Option (List (List UInt8))) (b : List (List UInt8)) (d : Int → Option (List (List UInt8))) (a : Int) : Option (List (List UInt8)) :=
 grd (!(decide (a < (t0.length : Int))) || (sidx t0 a).isSome) <|
 grd (!(decide (a < (t0.length : Int))) || (idx tab0 ((sidx t0 a).getD default)).isSome) <|
 if ((decide (a < (t0.length : Int))) && (((idx tab0 ((sidx t0 a).getD default)).getD default) != 0)) then
 d (add64 a 1)
 else
 c (b, add64 e 1, a, a)
def zaT.l3 (n : Nat) (t0 : List UInt8) (e : ((List (List UInt8)) × Int × Int × Int) → Option (List (List UInt8))) (s : (List (List UInt8)) × Int × Int × Int) : Option (List (List UInt8)) :=
 let a := s.2.1
 let c := s.2.2.1
 let b := s.2.2.2
 if (decide (b < (t0.length : Int))) then
 (sidx t0 b).bind fun j =>
 (idx tab0 j).bind fun k =>
 if (k == 0) then
 e (s.1, a, c, add64 b 1)
 else
 (cut t0 c b).bind fun l =>
 (idx s.1 a).bind fun o =>
 (sto s.1 a l).bind fun h =>
 loopF (zaT.l4 n t0 a e h) n (add64 b 1)
 else
 jn (fun (f : (List (List UInt8))) =>
 some f) fun d =>
 if (decide (c < (t0.length : Int))) then
 (cut t0 c (t0.length : Int)).bind fun i =>
 (idx s.1 a).bind fun m =>
 (sto s.1 a i).bind fun g =>
 d g
 else
 d s.1
def zaT.l2 (n : Nat) (t0 : List UInt8) (c : List (List UInt8)) (b : Int → Option (List (List UInt8))) (a : Int) : Option (List (List UInt8)) :=
 grd (!(decide (a < (t0.length : Int))) || (sidx t0 a).isSome) <|
 grd (!(decide (a < (t0.length : Int))) || (idx tab0 ((sidx t0 a).getD default)).isSome) <|
 if ((decide (a < (t0.length : Int))) && (((idx tab0 ((sidx t0 a).getD default)).getD default) != 0)) then
 b (add64 a 1)
 else
 loopF (zaT.l3 n t0) n (c, 0, a, a)
def zaT.l1 (n : Nat) (t0 : List UInt8) (d : (Int × Int × Int × Int) → Option (List (List UInt8))) (s : Int × Int × Int × Int) : Option (List (List UInt8)) :=
 let a := s.2.2.2
 if (decide (a < (t0.length : Int))) then
 (sidx t0 a).bind fun b =>
 (idx tab0 b).bind fun c =>
 d (add64 s.1 (band .i64 s.2.1 (bnot .i64 (wk .i64 c))), wk .i64 c, bor .u8 s.2.2.1 b, add64 a 1)
 else
 if (decide (128 ≤ s.2.2.1)) then
 (zes n t0 (fun q0 => zge n q0)).bind fun e =>
 some e
 else
 (mkl 16 s.1 ([] : List UInt8)).bind fun f =>
 loopF (zaT.l2 n t0 f) n 0
def zaT (n : Nat) (t0 : List UInt8) : Option (List (List UInt8)) :=
 loopF (zaT.l1 n t0) n (0, 1, 0, 0)
def zbn.l1 (n : Nat) (a : List (List UInt8)) (b : ((GMap (List UInt8) Bool) × Int) → Option (GMap (List UInt8) Bool)) (s : (GMap (List UInt8) Bool) × Int) : Option (GMap (List UInt8) Bool) :=
 if (decide (s.2 < (a.length : Int))) then
 (idx a s.2).bind fun c =>
 b ((s.1.put c true), add64 s.2 1)
 else
 some s.1
def zbn (n : Nat) : Option (GMap (List UInt8) Bool) :=
 (zaT n [115, 111, 114, 116, 32, 114, 101, 108, 97, 116, 105, 111, 110, 32, 99, 111, 117, 110, 116, 101, 114, 32, 115, 101, 116, 32, 114, 101, 103, 105, 115, 116, 101, 114, 32, 105, 110, 118, 97, 114, 105, 97, 110, 116, 32, 111, 112, 101, 114, 97, 116, 105, 111, 110, 32, 107, 101, 121, 32, 114, 101, 102, 101, 114, 101, 110, 99, 101, 32, 116, 111, 32, 99, 111, 117, 110, 116, 32, 97, 99, 121, 99, 108, 105, 99, 32, 97, 108, 108, 32, 115, 117, 109, 32, 105, 110, 32, 97, 100, 100, 119, 105, 110, 115, 32, 114, 101, 109, 111, 118, 101, 119, 105, 110, 115, 32, 108, 97, 115, 116, 32, 109, 117, 108, 116, 105, 32, 104, 105, 100, 101, 32, 111, 114, 100, 101, 114, 101, 100, 32, 114, 101, 113, 117, 105, 114, 101, 32, 104, 111, 108, 100, 32, 105, 110, 115, 101, 114, 116, 32, 100, 101, 108, 101, 116, 101, 32, 97, 100, 100, 32, 102, 114, 111, 109, 32, 112, 117, 116, 32, 100, 114, 111, 112, 32, 97, 115, 115, 105, 103, 110, 32, 102, 111, 114, 32, 119, 104, 101, 114, 101, 32, 97, 110, 100, 32, 111, 114, 32, 110, 111, 116]).bind fun a =>
 loopF (zbn.l1 n a) n ((GMap.empty : GMap (List UInt8) Bool), 0)
def zbL (n : Nat) (t0 : Int) : Option Bool :=
 some ((((t0 == 32) || (t0 == 9)) || (t0 == 10)) || (t0 == 13))
def zcl.l1 (n : Nat) (t0 : List UInt8) (t1 : Int → Option Bool) (b : Int → Option Int) (a : Int) : Option Int :=
 grd (!(decide (a < (t0.length : Int))) || (sidx t0 a).isSome) <|
 grd (!(decide (a < (t0.length : Int))) || (t1 ((sidx t0 a).getD default)).isSome) <|
 if ((decide (a < (t0.length : Int))) && ((t1 ((sidx t0 a).getD default)).getD default)) then
 b (add64 a 1)
 else
 some a
def zcl (n : Nat) (t0 : List UInt8) (t1 : Int → Option Bool) : Option Int :=
 loopF (zcl.l1 n t0 t1) n 0
def zfQ (n : Nat) (t0 : Int) : Option Bool :=
 some (t0 != 10)
def zcv.l1 (n : Nat) (t0 : List UInt8) (b : Int → Option Int) (a : Int) : Option Int :=
 if (decide (a < (t0.length : Int))) then
 (sidx t0 a).bind fun c =>
 (zbL n c).bind fun d =>
 if d then
 b (add64 a 1)
 else
 (sidx t0 a).bind fun e =>
 if (e == 35) then
 (cut t0 a (t0.length : Int)).bind fun f =>
 (zcl n f (fun q0 => zfQ n q0)).bind fun g =>
 b (add64 a g)
 else
 some a
 else
 some a
def zcv (n : Nat) (t0 : List UInt8) : Option Int :=
 loopF (zcv.l1 n t0) n 0
def zck (n : Nat) (t0 : Int) : Option Bool :=
 some ((decide (97 ≤ t0)) && (decide (t0 ≤ 122)))
def za5 (n : Nat) (t0 : Int) : Option Bool :=
 some ((decide (48 ≤ t0)) && (decide (t0 ≤ 57)))
def zh4 (n : Nat) (t0 : Int) : Option Bool :=
 (zck n t0).bind fun a =>
 grd (a || (za5 n t0).isSome) <|
 some ((a || ((za5 n t0).getD default)) || (t0 == 95))
def zba (n : Nat) (t0 : List UInt8) (t1 : List UInt8) : Option Bool :=
 grd (!(decide ((t1.length : Int) ≤ (t0.length : Int))) || (cut t0 0 (t1.length : Int)).isSome) <|
 some ((decide ((t1.length : Int) ≤ (t0.length : Int))) && (decide (((cut t0 0 (t1.length : Int)).getD default) = t1)))
def zcB (n : Nat) (t0 : List UInt8) (t1 : List UInt8) : Option Bool :=
 (zba n t0 t1).bind fun a =>
 some a
def zbb (n : Nat) (t0 : List UInt8) (t1 : Int) : Option Int :=
 some (Lib.indexByte t0 t1.toNat.toUInt8)
def zb0 (n : Nat) (t0 : List UInt8) (t1 : Int) : Option Int :=
 (zbb n t0 t1).bind fun a =>
 some a
def za0.l1 (n : Nat) (t0 : List UInt8) (b : Int → Option Int) (a : Int) : Option Int :=
 if (decide (a < ([[61, 61], [33, 61], [60, 61], [62, 61], [46, 46]].length : Int))) then
 (idx [[61, 61], [33, 61], [60, 61], [62, 61], [46, 46]] a).bind fun d =>
 (zcB n t0 d).bind fun c =>
 if c then
 some 2
 else
 b (add64 a 1)
 else
 grd (!(!decide (t0 = [])) || (sidx t0 0).isSome) <|
 grd (!(!decide (t0 = [])) || (zb0 n [60, 62, 61, 43, 45, 42, 40, 41, 123, 125, 44, 58, 59] ((sidx t0 0).getD default)).isSome) <|
 if ((!decide (t0 = [])) && (decide (0 ≤ ((zb0 n [60, 62, 61, 43, 45, 42, 40, 41, 123, 125, 44, 58, 59] ((sidx t0 0).getD default)).getD default)))) then
 some 1
 else
 some 0
def za0 (n : Nat) (t0 : List UInt8) : Option Int :=
 loopF (za0.l1 n t0) n 0
def zcW (n : Nat) (t0 : List UInt8) : Option Bool :=
 (sidx t0 0).bind fun b =>
 (zck n b).bind fun a =>
 grd (a || (sidx t0 0).isSome) <|
 grd (a || (za5 n ((sidx t0 0).getD default)).isSome) <|
 grd ((a || ((za5 n ((sidx t0 0).getD default)).getD default)) || (za0 n t0).isSome) <|
 some ((a || ((za5 n ((sidx t0 0).getD default)).getD default)) || (decide (0 < ((za0 n t0).getD default))))
def zas.l2 (n : Nat) (a : List UInt8) (c : (Int × Int) → Option Token) (d : Int → Option Token) (b : Int) : Option Token :=
 grd (!(decide (b < (a.length : Int))) || (sidx a b).isSome) <|
 grd (!(decide (b < (a.length : Int))) || (zbL n ((sidx a b).getD default)).isSome) <|
 grd (!((decide (b < (a.length : Int))) && (!((zbL n ((sidx a b).getD default)).getD default))) || (sidx a b).isSome) <|
 grd (!(((decide (b < (a.length : Int))) && (!((zbL n ((sidx a b).getD default)).getD default))) && (((sidx a b).getD default) != 35)) || (cut a b (a.length : Int)).isSome) <|
 grd (!(((decide (b < (a.length : Int))) && (!((zbL n ((sidx a b).getD default)).getD default))) && (((sidx a b).getD default) != 35)) || (zcW n ((cut a b (a.length : Int)).getD default)).isSome) <|
 if ((((decide (b < (a.length : Int))) && (!((zbL n ((sidx a b).getD default)).getD default))) && (((sidx a b).getD default) != 35)) && (!((zcW n ((cut a b (a.length : Int)).getD default)).getD default))) then
 d (add64 b 1)
 else
 c (5, b)
def zas.l1 (n : Nat) (t1 : List UInt8) (t2 : GMap (List UInt8) Bool) (p : Unit → Option Token) (s : Unit) : Option Token :=
 (cut t1 0 (t1.length : Int)).bind fun f =>
 (zcv n f).bind fun c =>
 (cut t1 (add64 0 c) (t1.length : Int)).bind fun a =>
 jn (fun (e : Int × Int) =>
 some (⟨e.1, 0, add64 0 c, add64 (add64 0 c) e.2⟩ : Token)) fun b =>
 if (decide (a = [])) then
 b (0, 0)
 else
 (sidx a 0).bind fun g =>
 (zck n g).bind fun h =>
 if h then
 (zcl n a (fun q0 => zh4 n q0)).bind fun d =>
 (cut a 0 d).bind fun i =>
 if ((t2.get? i).getD false) then
 b (2, d)
 else
 b (1, d)
 else
 (sidx a 0).bind fun j =>
 (za5 n j).bind fun k =>
 if k then
 (zcl n a (fun q0 => za5 n q0)).bind fun l =>
 b (3, l)
 else
 (za0 n a).bind fun m =>
 if (decide (0 < m)) then
 (za0 n a).bind fun o =>
 b (4, o)
 else
 loopF (zas.l2 n a b) n 1
def zas (n : Nat) (t1 : List UInt8) (t2 : GMap (List UInt8) Bool) : Option Token :=
 loopF (zas.l1 n t1 t2) n ()
def zdM (n : Nat) (t0 : List UInt8) : Option Int :=
 if ((decide (t0 = [])) || (decide (4096 < (t0.length : Int)))) = true then some 0
 else
 (zbn n).bind fun kw =>
 (zas n t0 kw).bind fun tok =>
 if (tok.at_ != 0 || tok.end_ != (t0.length : Int)) = true then some 0 else some tok.kind
def zeQ (n : Nat) (t0 : List UInt8) : Option Bool :=
 grd (!(decide ((t0.length : Int) ≤ 16)) || (zdM n t0).isSome) <|
 some ((decide ((t0.length : Int) ≤ 16)) && (((zdM n t0).getD default) == 1))
def zb9 (n : Nat) (t0 : Int) (t1 : List Int) : Option Bool :=
 some ((decide (t0 < 0)) || (decide ((t1.length : Int) ≤ t0)))
def zdm (n : Nat) (t0 : List Int) (t1 : List Int) : Option Bool :=
 grd (!(decide ((t1.length : Int) ≤ 3)) || (zr n t1 (fun q0 => zb9 n q0 t0)).isSome) <|
 some ((decide ((t1.length : Int) ≤ 3)) && (!((zr n t1 (fun q0 => zb9 n q0 t0)).getD default)))
def zeh (n : Nat) (t0 : Table) : Option Bool :=
 jn (fun (b : Bool) =>
 if b then
 some (((decide (t0.range.lo ≤ t0.range.hi)) && (decide ((-9999) ≤ t0.range.lo))) && (decide (t0.range.hi ≤ 9999)))
 else
 some (decide ((t0.range : Range) = (⟨0, 1⟩ : Range)))) fun a =>
 if (t0.kind == 1) then
 a (t0.kind == 1)
 else
 if (t0.kind == 4) then
 a (t0.kind == 4)
 else
 a (t0.kind == 5)
def zbJ (n : Nat) (t0 : Table) : Option Bool :=
 some ((t0.kind == 0) || (t0.kind == 1))
def zaV.l1 (n : Nat) (t0 : List Int) (t1 : List Int) (a : (Int × Int) → Option Int) (s : Int × Int) : Option Int :=
 if (decide (s.2 < (t1.length : Int))) then
 (idx t1 s.2).bind fun b =>
 (idx t0 b).bind fun c =>
 a (mul64 s.1 c, add64 s.2 1)
 else
 some s.1
def zaV (n : Nat) (t0 : List Int) (t1 : List Int) : Option Int :=
 loopF (zaV.l1 n t0 t1) n (1, 0)
def zbp.l1 (n : Nat) (t0 : List Int) (t1 : List Table) (f : ((GMap (List UInt8) Bool) × Int × Int × Int) → Option Bool) (s : (GMap (List UInt8) Bool) × Int × Int × Int) : Option Bool :=
 let b := s.2.2.1
 let d := s.2.2.2
 if (decide (d < (t1.length : Int))) then
 jn (fun (c : (GMap (List UInt8) Bool) × Int × Int) =>
 f (c.1, c.2.1, c.2.2, add64 d 1)) fun e =>
 (idx t1 d).bind fun a =>
 (zeQ n a.name).bind fun g =>
 (zds n a.kind 0 5).bind fun h =>
 (zdm n t0 a.columns).bind fun i =>
 (zeh n a).bind fun j =>
 (zfF n [g, !((s.1.get? a.name).getD false), h, i, j]).bind fun k =>
 if (!k) then
 some false
 else
 (zbJ n a).bind fun l =>
 if l then
 if (a.first != s.2.1) then
 some false
 else
 (zaV n t0 a.columns).bind fun m =>
 e ((s.1.put a.name true), add64 s.2.1 m, b)
 else
 if (a.first != b) then
 some false
 else
 (zaV n t0 a.columns).bind fun o =>
 e ((s.1.put a.name true), s.2.1, add64 b o)
 else
 some ((decide (s.2.1 ≤ 128)) && (decide (b ≤ 64)))
def zbp (n : Nat) (t0 : List Int) (t1 : List Table) : Option Bool :=
 (ze6 n t0).bind fun a =>
 (zfF n [decide ((t0.length : Int) ≤ 4), decide ((t1.length : Int) ≤ 12), a]).bind fun b =>
 if (!b) then
 some false
 else
 loopF (zbp.l1 n t0 t1) n ((GMap.empty : GMap (List UInt8) Bool), 0, 0, 0)
def zai.l1 (n : Nat) (t0 : List (List UInt8)) (b : ((GMap (List UInt8) Bool) × Int) → Option Bool) (s : (GMap (List UInt8) Bool) × Int) : Option Bool :=
 if (decide (s.2 < (t0.length : Int))) then
 (idx t0 s.2).bind fun a =>
 (zeQ n a).bind fun c =>
 if ((!c) || ((s.1.get? a).getD false)) then
 some false
 else
 b ((s.1.put a true), add64 s.2 1)
 else
 some true
def zai (n : Nat) (t0 : List (List UInt8)) : Option Bool :=
 loopF (zai.l1 n t0) n ((GMap.empty : GMap (List UInt8) Bool), 0)
def zd0 (n : Nat) (t0 : Int) (t1 : Int) : Option (Int × Int) :=
 (shrO .u64 t0 32).bind fun a =>
 (shrO .u64 t1 32).bind fun b =>
 (shrO .u64 (wk .u64 ((band .u64 t0 4294967295) * (band .u64 t1 4294967295))) 32).bind fun c =>
 (shrO .u64 (wk .u64 ((wk .u64 (a * (band .u64 t1 4294967295))) + c)) 32).bind fun d =>
 (shrO .u64 (wk .u64 ((band .u64 (wk .u64 ((wk .u64 (a * (band .u64 t1 4294967295))) + c)) 4294967295) + (wk .u64 ((band .u64 t0 4294967295) * b)))) 32).bind fun e =>
 some (wk .u64 ((wk .u64 ((wk .u64 (a * b)) + d)) + e), wk .u64 (t0 * t1))
def zdK (n : Nat) (t0 : Int) (t1 : Int) : Option (Int × Int) :=
 (zd0 n t0 t1).bind fun a =>
 some (a.1, a.2)
def zF.l1 (n : Nat) (b : ((List Range) × Int) → Option (List Range)) (s : (List Range) × Int) : Option (List Range) :=
 let a := s.1
 if (decide (s.2 < (a.length : Int))) then
 (cut a s.2 (a.length : Int)).bind fun c =>
 (cut a 0 s.2).bind fun d =>
 b ((zcD a s.2.toNat a.length ((a.drop 0).take (s.2.toNat - 0))), add64 s.2 (min (a.length - s.2.toNat) ((a.drop 0).take (s.2.toNat - 0)).length : Nat))
 else
 some a
def zF (n : Nat) (t0 : List Range) (t1 : Int) : Option (List Range) :=
 if (decide (t1 < 0)) then
 none
 else
 (zdK n (wk .u64 (t0.length : Int)) (wk .u64 t1)).bind fun a =>
 if ((decide (0 < a.1)) || (decide (9223372036854775807 < a.2))) then
 none
 else
 (mkl 16 (wk .i64 a.2) (⟨0, 0⟩ : Range)).bind fun b =>
 loopF (zF.l1 n) n ((zcD b 0 b.length t0), (min (b.length - 0) t0.length : Nat))
def zbk.l1 (n : Nat) (t0 : List Int) (t1 : List Table) (t2 : Bool) (d : ((List Range) × Int) → Option (List Range)) (s : (List Range) × Int) : Option (List Range) :=
 if (decide (s.2 < (t1.length : Int))) then
 jn (fun (c : (List Range)) =>
 d (c, add64 s.2 1)) fun b =>
 (idx t1 s.2).bind fun a =>
 (zbJ n a).bind fun e =>
 if (e == t2) then
 (zaV n t0 a.columns).bind fun f =>
 (zF n [a.range] f).bind fun g =>
 (app 16 s.1 g).bind fun h =>
 b h
 else
 b s.1
 else
 some s.1
def zbk (n : Nat) (t0 : List Int) (t1 : List Table) (t2 : Bool) : Option (List Range) :=
 (zbp n t0 t1).bind fun a =>
 if (!a) then
 some []
 else
 loopF (zbk.l1 n t0 t1 t2) n (([] : List Range), 0)
def zad (n : Nat) (t0 : Int) (t1 : Int) : Option Bool :=
 some ((decide (0 ≤ t0)) && (decide (t0 < t1)))
def zau (n : Nat) (t0 : Int) (t1 : Int) : Option Bool :=
 some ((decide (neg64 t1 ≤ t0)) && (decide (t0 ≤ t1)))
def zaq.l1 (n : Nat) (t0 : Judge) (t1 : Row) (b : (Int × Int) → Option Bool) (s : Int × Int) : Option Bool :=
 if (decide (s.2 < (t1.terms.length : Int))) then
 (idx t1.terms s.2).bind fun a =>
 grd ((((decide (a.cell ≤ s.1)) || (decide ((t0.strict.length : Int) ≤ a.cell))) || (a.factor == 0)) || (zau n a.factor 1000).isSome) <|
 if ((((decide (a.cell ≤ s.1)) || (decide ((t0.strict.length : Int) ≤ a.cell))) || (a.factor == 0)) || (!((zau n a.factor 1000).getD default))) then
 some false
 else
 b (a.cell, add64 s.2 1)
 else
 (zau n t1.bound 1000000000).bind fun c =>
 some c
def zaq (n : Nat) (t0 : Judge) (t1 : Row) : Option Bool :=
 loopF (zaq.l1 n t0 t1) n ((-1), 0)
def za6 (n : Nat) (t0 : Table) (t1 : Constraint) (t2 : Judge) : Option Bool :=
 grd (!((t0.kind == 0) && ((t0.columns.length : Int) == 2)) || (idx t0.columns 0).isSome) <|
 grd (!((t0.kind == 0) && ((t0.columns.length : Int) == 2)) || (idx t0.columns 1).isSome) <|
 grd (!((((t0.kind == 0) && ((t0.columns.length : Int) == 2)) && (((idx t0.columns 0).getD default) == ((idx t0.columns 1).getD default))) && (t0.first == t1.first)) || (idx t0.columns 0).isSome) <|
 grd (!((((t0.kind == 0) && ((t0.columns.length : Int) == 2)) && (((idx t0.columns 0).getD default) == ((idx t0.columns 1).getD default))) && (t0.first == t1.first)) || (idx t2.model.sorts ((idx t0.columns 0).getD default)).isSome) <|
 some (((((t0.kind == 0) && ((t0.columns.length : Int) == 2)) && (((idx t0.columns 0).getD default) == ((idx t0.columns 1).getD default))) && (t0.first == t1.first)) && (((idx t2.model.sorts ((idx t0.columns 0).getD default)).getD default) == t1.size))
def zt.l1 (n : Nat) (t0 : List Table) (t1 : Table → Option Bool) (b : Int → Option Int) (a : Int) : Option Int :=
 if (decide (a < (t0.length : Int))) then
 (idx t0 a).bind fun c =>
 (t1 c).bind fun d =>
 if d then
 some a
 else
 b (add64 a 1)
 else
 some (-1)
def zt (n : Nat) (t0 : List Table) (t1 : Table → Option Bool) : Option Int :=
 loopF (zt.l1 n t0 t1) n 0
def zJ (n : Nat) (t0 : List Table) (t1 : Table → Option Bool) : Option Bool :=
 (zt n t0 t1).bind fun a =>
 some (decide (0 ≤ a))
def zbo (n : Nat) (t0 : Judge) (t1 : Constraint) : Option Bool :=
 grd (!(((t1.row.terms.length : Int) == 0) && (t1.row.bound == 0)) || (zJ n t0.model.tables (fun q0 => za6 n q0 t1 t0)).isSome) <|
 some ((((t1.row.terms.length : Int) == 0) && (t1.row.bound == 0)) && ((zJ n t0.model.tables (fun q0 => za6 n q0 t1 t0)).getD default))
def zH.l1 (n : Nat) (t0 : List Term) (t1 : List Term) (b : Int → Option Bool) (a : Int) : Option Bool :=
 if (decide (a < (t0.length : Int))) then
 (idx t0 a).bind fun c =>
 (idx t1 a).bind fun d =>
 if (!decide ((c : Term) = d)) then
 some false
 else
 b (add64 a 1)
 else
 some true
def zH (n : Nat) (t0 : List Term) (t1 : List Term) : Option Bool :=
 if ((t0.length : Int) != (t1.length : Int)) then
 some false
 else
 loopF (zH.l1 n t0 t1) n 0
def zcX (n : Nat) (t0 : Row) (t1 : Int) (t2 : Int) (t3 : Int) : Option Bool :=
 (zH n t0.terms [(⟨t1, t2⟩ : Term)]).bind fun a =>
 some (a && (t0.bound == t3))
def zU.l1 (n : Nat) (t0 : Judge) (h : Int → Option Bool) (b : Int) : Option Bool :=
 if (decide (b < (t0.model.constraints.length : Int))) then
 jn (fun (m : Unit) =>
 h (add64 b 1)) fun d =>
 (idx t0.model.constraints b).bind fun a =>
 jn (fun (o : Unit) =>
 (quo64 b 2).bind fun j =>
 if (decide (j < (t0.strict.length : Int))) then
 (quo64 b 2).bind fun k =>
 (idx t0.strict k).bind fun g =>
 jn (fun (c : Int × Int) =>
 grd ((a.kind != 0) || (quo64 b 2).isSome) <|
 grd ((a.kind != 0) || (zcX n a.row ((quo64 b 2).getD default) c.1 c.2).isSome) <|
 if ((a.kind != 0) || (!((zcX n a.row ((quo64 b 2).getD default) c.1 c.2).getD default))) then
 some false
 else
 d ()) fun f =>
 (rem64 b 2).bind fun l =>
 if (l == 0) then
 f ((-1), neg64 g.lo)
 else
 f (1, g.hi)
 else
 d ()) fun e =>
 (zad n a.family (t0.model.families.length : Int)).bind fun i =>
 if (!i) then
 some false
 else
 if (a.kind == 0) then
 grd (((a.first != 0) || (a.size != 0)) || (zaq n t0 a.row).isSome) <|
 if (((a.first != 0) || (a.size != 0)) || (!((zaq n t0 a.row).getD default))) then
 some false
 else
 e ()
 else
 grd ((a.kind != 1) || (zbo n t0 a).isSome) <|
 if ((a.kind != 1) || (!((zbo n t0 a).getD default))) then
 some false
 else
 e ()
 else
 some true
def zU (n : Nat) (t0 : Judge) : Option Bool :=
 if ((decide (512 < (t0.model.constraints.length : Int))) || (decide ((t0.model.constraints.length : Int) < mul64 2 (t0.strict.length : Int)))) then
 some false
 else
 loopF (zU.l1 n t0) n 0
def zaQ (n : Nat) (t0 : Int) (t1 : Judge) : Option Bool :=
 some ((decide (t0 < (-1))) || (decide ((t1.model.sorts.length : Int) ≤ t0)))
def zB.l1 (n : Nat) (t0 : Judge) (b : ((List (List UInt8)) × Int) → Option Bool) (s : (List (List UInt8)) × Int) : Option Bool :=
 if (decide (s.2 < (t0.model.operations.length : Int))) then
 (idx t0.model.operations s.2).bind fun a =>
 (app 16 s.1 [a.name]).bind fun c =>
 grd ((decide (3 < (a.sorts.length : Int))) || (zr n a.sorts (fun q0 => zaQ n q0 t0)).isSome) <|
 if ((decide (3 < (a.sorts.length : Int))) || ((zr n a.sorts (fun q0 => zaQ n q0 t0)).getD default)) then
 some false
 else
 b (c, add64 s.2 1)
 else
 grd (!(decide ((s.1.length : Int) ≤ 8)) || (zai n s.1).isSome) <|
 some ((decide ((s.1.length : Int) ≤ 8)) && ((zai n s.1).getD default))
def zB (n : Nat) (t0 : Judge) : Option Bool :=
 loopF (zB.l1 n t0) n (([] : List (List UInt8)), 0)
def zc1 (n : Nat) (t0 : Int) : Option Bool :=
 some (t0 != t0)
def zbT (n : Nat) (t0 : Int) (t1 : Int) : Option Int :=
 (zc1 n t0).bind fun b =>
 (zc1 n t1).bind fun a =>
 if b then
 if a then
 some 0
 else
 some (-1)
 else
 if a then
 some 1
 else
 if (decide (t0 < t1)) then
 some (-1)
 else
 if (decide (t1 < t0)) then
 some 1
 else
 some 0
def zg.l1 (n : Nat) (t0 : List Int) (t1 : List Int) (c : Int → Option Int) (a : Int) : Option Int :=
 if (decide (a < (t0.length : Int))) then
 (idx t0 a).bind fun d =>
 if (decide ((t1.length : Int) ≤ a)) then
 some 1
 else
 (idx t1 a).bind fun e =>
 (zbT n d e).bind fun b =>
 if (b != 0) then
 some b
 else
 c (add64 a 1)
 else
 if (decide ((t0.length : Int) < (t1.length : Int))) then
 some (-1)
 else
 some 0
def zg (n : Nat) (t0 : List Int) (t1 : List Int) : Option Int :=
 loopF (zg.l1 n t0 t1) n 0
def zaU.l2 (n : Nat) (t0 : List Int) (e : Int) (f : Table) (d : ((List Int) × Int × Int) → Option (Int × (List Int) × Bool)) (s : (List Int) × Int × Int) : Option (Int × (List Int) × Bool) :=
 let a := s.2.2
 if (decide (0 ≤ a)) then
 (idx f.columns a).bind fun g =>
 (idx t0 g).bind fun b =>
 (rem64 s.2.1 b).bind fun h =>
 (quo64 s.2.1 b).bind fun i =>
 (idx s.1 a).bind fun j =>
 (sto s.1 a h).bind fun c =>
 d (c, i, sub64 a 1)
 else
 some (e, s.1, true)
def zaU.l1 (n : Nat) (t0 : List Int) (t1 : List Table) (t2 : Bool) (t3 : Int) (e : Int → Option (Int × (List Int) × Bool)) (b : Int) : Option (Int × (List Int) × Bool) :=
 if (decide (b < (t1.length : Int))) then
 (idx t1 b).bind fun a =>
 (zbJ n a).bind fun c =>
 grd (((c != t2) || (decide (sub64 t3 a.first < 0))) || (zaV n t0 a.columns).isSome) <|
 if (((c != t2) || (decide (sub64 t3 a.first < 0))) || (decide (((zaV n t0 a.columns).getD default) ≤ sub64 t3 a.first))) then
 e (add64 b 1)
 else
 (mkl 8 (a.columns.length : Int) (0 : Int)).bind fun d =>
 loopF (zaU.l2 n t0 b a) n (d, sub64 t3 a.first, sub64 (d.length : Int) 1)
 else
 some (0, [], false)
def zaU (n : Nat) (t0 : List Int) (t1 : List Table) (t2 : Bool) (t3 : Int) : Option (Int × (List Int) × Bool) :=
 (zbp n t0 t1).bind fun a =>
 if ((!a) || (decide (t3 < 0))) then
 some (0, [], false)
 else
 loopF (zaU.l1 n t0 t1 t2 t3) n 0
def zbg (n : Nat) (t0 : Judge) (t1 : Update) : Option Bool :=
 (zaU n t0.model.sorts t0.model.tables false t1.cell).bind fun c =>
 if (!c.2.2) then
 some false
 else
 (idx t0.model.tables c.1).bind fun a =>
 jn (fun (d : Bool) =>
 if d then
 some (((t1.kind == 0) || (t1.kind == 1)) && (t1.value == 0))
 else
 some (((t1.kind == 2) && (decide (a.range.lo ≤ t1.value))) && (decide (t1.value ≤ a.range.hi)))) fun b =>
 if (a.kind == 2) then
 b (a.kind == 2)
 else
 b (a.kind == 3)
def zaY (n : Nat) (t0 : Row) (t1 : Judge) : Option Bool :=
 (zaq n t1 t0).bind fun a =>
 some (!a)
def zD.l1 (n : Nat) (t0 : List Row) (t1 : Row → Option Bool) (b : Int → Option Int) (a : Int) : Option Int :=
 if (decide (a < (t0.length : Int))) then
 (idx t0 a).bind fun c =>
 (t1 c).bind fun d =>
 if d then
 some a
 else
 b (add64 a 1)
 else
 some (-1)
def zD (n : Nat) (t0 : List Row) (t1 : Row → Option Bool) : Option Int :=
 loopF (zD.l1 n t0 t1) n 0
def zl (n : Nat) (t0 : List Row) (t1 : Row → Option Bool) : Option Bool :=
 (zD n t0 t1).bind fun a =>
 some (decide (0 ≤ a))
def zG.l2 (n : Nat) (t0 : Judge) (t1 : Effect) (b : (Int × Int) → Option Bool) (s : Int × Int) : Option Bool :=
 if (decide (s.2 < (t1.updates.length : Int))) then
 (idx t1.updates s.2).bind fun a =>
 grd ((decide (a.cell ≤ s.1)) || (zbg n t0 a).isSome) <|
 if ((decide (a.cell ≤ s.1)) || (!((zbg n t0 a).getD default))) then
 some false
 else
 b (a.cell, add64 s.2 1)
 else
 grd (!((decide ((t1.hold.length : Int) ≤ 8)) && (decide ((t1.updates.length : Int) ≤ 32))) || (zl n t1.hold (fun q0 => zaY n q0 t0)).isSome) <|
 some (((decide ((t1.hold.length : Int) ≤ 8)) && (decide ((t1.updates.length : Int) ≤ 32))) && (!((zl n t1.hold (fun q0 => zaY n q0 t0)).getD default)))
def zG.l1 (n : Nat) (t0 : Judge) (t1 : Effect) (b : (Int × Int) → Option Bool) (s : Int × Int) : Option Bool :=
 if (decide (s.2 < (t1.delta.length : Int))) then
 (idx t1.delta s.2).bind fun a =>
 grd ((((decide (a.cell ≤ s.1)) || (decide ((t0.strict.length : Int) ≤ a.cell))) || (a.add == 0)) || (zau n a.add 1000000000).isSome) <|
 if ((((decide (a.cell ≤ s.1)) || (decide ((t0.strict.length : Int) ≤ a.cell))) || (a.add == 0)) || (!((zau n a.add 1000000000).getD default))) then
 some false
 else
 b (a.cell, add64 s.2 1)
 else
 loopF (zG.l2 n t0 t1) n ((-1), 0)
def zG (n : Nat) (t0 : Judge) (t1 : Effect) : Option Bool :=
 loopF (zG.l1 n t0 t1) n ((-1), 0)
def zu.l2 (n : Nat) (t0 : Judge) (f : Int) (j : Int → Option Bool) (b : Action) (h : Operation) (i : Int → Option Bool) (e : Int) : Option Bool :=
 if (decide (e < (h.sorts.length : Int))) then
 (idx h.sorts e).bind fun a =>
 (idx b.arguments e).bind fun c =>
 grd (!(decide (a < 0)) || (zau n c 9999).isSome) <|
 grd (((decide (a < 0)) && (!((zau n c 9999).getD default))) || (!(decide (0 ≤ a)) || (idx t0.model.sorts a).isSome)) <|
 grd (((decide (a < 0)) && (!((zau n c 9999).getD default))) || (!(decide (0 ≤ a)) || (zad n c ((idx t0.model.sorts a).getD default)).isSome)) <|
 if (((decide (a < 0)) && (!((zau n c 9999).getD default))) || ((decide (0 ≤ a)) && (!((zad n c ((idx t0.model.sorts a).getD default)).getD default)))) then
 some false
 else
 i (add64 e 1)
 else
 jn (fun (l : Unit) =>
 (zG n t0 b.effect).bind fun k =>
 if (!k) then
 some false
 else
 j (add64 f 1)) fun g =>
 if (decide (0 < f)) then
 (idx t0.model.actions (sub64 f 1)).bind fun d =>
 grd ((decide (b.operation < d.operation)) || (!(d.operation == b.operation) || (zg n d.arguments b.arguments).isSome)) <|
 if ((decide (b.operation < d.operation)) || ((d.operation == b.operation) && (decide (0 ≤ ((zg n d.arguments b.arguments).getD default))))) then
 some false
 else
 g ()
 else
 g ()
def zu.l1 (n : Nat) (t0 : Judge) (d : Int → Option Bool) (b : Int) : Option Bool :=
 if (decide (b < (t0.model.actions.length : Int))) then
 (idx t0.model.actions b).bind fun a =>
 (zad n a.operation (t0.model.operations.length : Int)).bind fun c =>
 grd ((!c) || (idx t0.model.operations a.operation).isSome) <|
 if ((!c) || ((a.arguments.length : Int) != ((((idx t0.model.operations a.operation).getD default).sorts).length : Int))) then
 some false
 else
 (idx t0.model.operations a.operation).bind fun e =>
 loopF (zu.l2 n t0 b d a e) n 0
 else
 some true
def zu (n : Nat) (t0 : Judge) : Option Bool :=
 if (decide (256 < (t0.model.actions.length : Int))) then
 some false
 else
 loopF (zu.l1 n t0) n 0
def zcF (n : Nat) (t0 : Hide) (t1 : Int) (t2 : GMap Int Bool) : Option Bool :=
 some ((t0.table == t1) && ((t2.get? t0.to).getD false))
def zx.l1 (n : Nat) (t0 : List Hide) (t1 : Hide → Option Bool) (b : Int → Option Int) (a : Int) : Option Int :=
 if (decide (a < (t0.length : Int))) then
 (idx t0 a).bind fun c =>
 (t1 c).bind fun d =>
 if d then
 some a
 else
 b (add64 a 1)
 else
 some (-1)
def zx (n : Nat) (t0 : List Hide) (t1 : Hide → Option Bool) : Option Int :=
 loopF (zx.l1 n t0 t1) n 0
def zar (n : Nat) (t0 : List Hide) (t1 : Hide → Option Bool) : Option Bool :=
 (zx n t0 t1).bind fun a =>
 some (decide (0 ≤ a))
def zc.l4 (n : Nat) (t0 : Judge) (c : GMap Int Bool) (e : Int) (d : ((GMap Int Bool) × Int) → Option Bool) (b : ((GMap Int Bool) × (List Nat) × Nat) → Option Bool) (s : (GMap Int Bool) × (List Nat) × Nat) : Option Bool :=
 stepM s.1 s.2.1 c.clock s.2.2 (
 d (s.1, add64 e 1)) fun a =>
 grd (decide (s.1.es.map (·.1)).Nodup) <|
 (zar n t0.model.hides (fun q0 => zcF n q0 a.2.1 s.1)).bind fun f =>
 if (!f) then
 b ((s.1.del a.2.1), s.2.1 ++ [a.1], s.1.clock)
 else
 b (s.1, s.2.1 ++ [a.1], s.1.clock)
def zc.l3 (n : Nat) (t0 : Judge) (a : ((GMap Int Bool) × Int) → Option Bool) (s : (GMap Int Bool) × Int) : Option Bool :=
 if (decide (s.2 < (t0.model.hides.length : Int))) then
 loopF (zc.l4 n t0 s.1 s.2 a) n (s.1, ([] : List Nat), s.1.clock)
 else
 some ((s.1.es.length : Int) == 0)
def zc.l2 (n : Nat) (t0 : Judge) (a : ((GMap Int Bool) × Int) → Option Bool) (s : (GMap Int Bool) × Int) : Option Bool :=
 if (decide (s.2 < (t0.model.hides.length : Int))) then
 (idx t0.model.hides s.2).bind fun b =>
 a ((s.1.put b.table true), add64 s.2 1)
 else
 loopF (zc.l3 n t0) n (s.1, 0)
def zc.l1 (n : Nat) (t0 : Judge) (f : Int → Option Bool) (d : Int) : Option Bool :=
 if (decide (d < (t0.model.hides.length : Int))) then
 (idx t0.model.hides d).bind fun a =>
 (zad n a.table (t0.model.tables.length : Int)).bind fun e =>
 grd ((!e) || (zad n a.to (t0.model.tables.length : Int)).isSome) <|
 if (((!e) || (!((zad n a.to (t0.model.tables.length : Int)).getD default))) || (a.table == a.to)) then
 some false
 else
 (idx t0.model.tables a.table).bind fun b =>
 (idx t0.model.tables a.to).bind fun c =>
 grd (((b.kind != 0) || (c.kind != 0)) || (zad n a.column (b.columns.length : Int)).isSome) <|
 grd (((((b.kind != 0) || (c.kind != 0)) || (!((zad n a.column (b.columns.length : Int)).getD default))) || ((c.columns.length : Int) != 1)) || (idx c.columns 0).isSome) <|
 grd (((((b.kind != 0) || (c.kind != 0)) || (!((zad n a.column (b.columns.length : Int)).getD default))) || ((c.columns.length : Int) != 1)) || (idx b.columns a.column).isSome) <|
 if (((((b.kind != 0) || (c.kind != 0)) || (!((zad n a.column (b.columns.length : Int)).getD default))) || ((c.columns.length : Int) != 1)) || (((idx c.columns 0).getD default) != ((idx b.columns a.column).getD default))) then
 some false
 else
 f (add64 d 1)
 else
 loopF (zc.l2 n t0) n ((GMap.empty : GMap Int Bool), 0)
def zc (n : Nat) (t0 : Judge) : Option Bool :=
 if (decide (12 < (t0.model.hides.length : Int))) then
 some false
 else
 loopF (zc.l1 n t0) n 0
def zcR (n : Nat) (t0 : Model) : Option Bool :=
 (zbp n t0.sorts t0.tables).bind fun c =>
 grd (((!c) || (decide (24 < (t0.families.length : Int)))) || (zai n t0.families).isSome) <|
 if (((!c) || (decide (24 < (t0.families.length : Int)))) || (!((zai n t0.families).getD default))) then
 some false
 else
 (zbk n t0.sorts t0.tables true).bind fun a =>
 (zU n (⟨t0, a⟩ : Judge)).bind fun b =>
 grd (!b || (zB n (⟨t0, a⟩ : Judge)).isSome) <|
 grd (!(b && ((zB n (⟨t0, a⟩ : Judge)).getD default)) || (zu n (⟨t0, a⟩ : Judge)).isSome) <|
 grd (!((b && ((zB n (⟨t0, a⟩ : Judge)).getD default)) && ((zu n (⟨t0, a⟩ : Judge)).getD default)) || (zc n (⟨t0, a⟩ : Judge)).isSome) <|
 some (((b && ((zB n (⟨t0, a⟩ : Judge)).getD default)) && ((zu n (⟨t0, a⟩ : Judge)).getD default)) && ((zc n (⟨t0, a⟩ : Judge)).getD default))
def zh.l5 (n : Nat) (a : Int) (f : ((List Place) × (List Place) × Int) → Option ((Option Layout) × Bool)) (h : Table) (e : List (List Int)) (g : ((List Place) × (List Place) × Int) → Option ((Option Layout) × Bool)) (s : (List Place) × (List Place) × Int) : Option ((Option Layout) × Bool) :=
 if (decide (s.2.2 < (e.length : Int))) then
 jn (fun (b : (List Place) × (List Place)) =>
 g (b.1, b.2, add64 s.2.2 1)) fun c =>
 (idx e s.2.2).bind fun d =>
 if (decide (h.kind ≤ 1)) then
 (app 32 s.1 [(⟨a, d⟩ : Place)]).bind fun i =>
 c (i, s.2.1)
 else
 (app 32 s.2.1 [(⟨a, d⟩ : Place)]).bind fun j =>
 c (s.1, j)
 else
 f (s.1, s.2.1, add64 a 1)
def zh.l4 (n : Nat) (c : Int) (a : ((List (List Int)) × Int) → Option ((Option Layout) × Bool)) (d : List Int) (e : Int) (b : ((List (List Int)) × Int) → Option ((Option Layout) × Bool)) (s : (List (List Int)) × Int) : Option ((Option Layout) × Bool) :=
 if (decide (s.2 < e)) then
 (app 8 [] d).bind fun f =>
 (app 8 f [s.2]).bind fun g =>
 (app 24 s.1 [g]).bind fun h =>
 b (h, add64 s.2 1)
 else
 a (s.1, add64 c 1)
def zh.l3 (n : Nat) (t0 : Model) (a : List (List Int)) (d : Int) (b : ((List (List Int)) × Int) → Option ((Option Layout) × Bool)) (e : Int) (c : ((List (List Int)) × Int) → Option ((Option Layout) × Bool)) (s : (List (List Int)) × Int) : Option ((Option Layout) × Bool) :=
 if (decide (s.2 < (a.length : Int))) then
 (idx a s.2).bind fun f =>
 (idx t0.sorts e).bind fun g =>
 loopF (zh.l4 n s.2 c f g) n (s.1, 0)
 else
 b (s.1, add64 d 1)
def zh.l2 (n : Nat) (t0 : Model) (b : List Place) (c : List Place) (f : Int) (d : ((List Place) × (List Place) × Int) → Option ((Option Layout) × Bool)) (a : Table) (e : ((List (List Int)) × Int) → Option ((Option Layout) × Bool)) (s : (List (List Int)) × Int) : Option ((Option Layout) × Bool) :=
 if (decide (s.2 < (a.columns.length : Int))) then
 (idx a.columns s.2).bind fun g =>
 loopF (zh.l3 n t0 s.1 s.2 e g) n (([] : List (List Int)), 0)
 else
 loopF (zh.l5 n f d a s.1) n (b, c, 0)
def zh.l1 (n : Nat) (t0 : Model) (a : ((List Place) × (List Place) × Int) → Option ((Option Layout) × Bool)) (s : (List Place) × (List Place) × Int) : Option ((Option Layout) × Bool) :=
 if (decide (s.2.2 < (t0.tables.length : Int))) then
 (idx t0.tables s.2.2).bind fun b =>
 loopF (zh.l2 n t0 s.1 s.2.1 s.2.2 a b) n ([[]], 0)
 else
 some (some ((⟨t0, s.1, s.2.1⟩ : Layout)), true)
def zh (n : Nat) (t0 : Model) : Option ((Option Layout) × Bool) :=
 (zcR n t0).bind fun a =>
 if (!a) then
 some (none, false)
 else
 loopF (zh.l1 n t0) n (([] : List Place), ([] : List Place), 0)
def zbe (n : Nat) (t0 : Layout) (t1 : Question) : Option Bool :=
 if (((((decide (t1.e < 0)) || (decide (t1.f < 0))) || (decide ((t0.m.actions.length : Int) ≤ t1.e))) || (decide ((t0.m.actions.length : Int) ≤ t1.f))) || (decide (t1.target.index < 0))) then
 some false
 else
 if t1.target.hold then
 (idx t0.m.actions t1.e).bind fun a =>
 some (decide (t1.target.index < (a.effect.hold.length : Int)))
 else
 some ((decide (t1.e ≤ t1.f)) && (decide (t1.target.index < (t0.m.constraints.length : Int))))
def zcK (n : Nat) (t0 : Model) (t1 : Question) : Option Bool :=
 (zh n t0).bind fun a =>
 grd (!a.2 || (a.1).isSome) <|
 grd (!a.2 || (zbe n ((a.1).getD default) t1).isSome) <|
 some (a.2 && ((zbe n ((a.1).getD default) t1).getD default))
def zfZ (n : Nat) (t0 : Model) (t1 : Bool) : Option (List Range) :=
 (zcR n t0).bind fun b =>
 if (!b) then
 some []
 else
 (zbk n t0.sorts t0.tables t1).bind fun a =>
 some a
def zek (n : Nat) (t0 : Model) : Option (List Range) :=
 (zfZ n t0 true).bind fun a =>
 some a
def zC.l1 (n : Nat) (t0 : Action) (t1 : Int) (c : Int → Option Int) (a : Int) : Option Int :=
 if (decide (a < (t0.effect.delta.length : Int))) then
 (idx t0.effect.delta a).bind fun b =>
 if (b.cell == t1) then
 some b.add
 else
 c (add64 a 1)
 else
 some 0
def zC (n : Nat) (t0 : Action) (t1 : Int) : Option Int :=
 loopF (zC.l1 n t0 t1) n 0
def zj.l1 (n : Nat) (t0 : Action) (t1 : Row) (b : (Int × Int) → Option Int) (s : Int × Int) : Option Int :=
 if (decide (s.2 < (t1.terms.length : Int))) then
 (idx t1.terms s.2).bind fun a =>
 (zC n t0 a.cell).bind fun c =>
 b (add64 s.1 (mul64 a.factor c), add64 s.2 1)
 else
 some s.1
def zj (n : Nat) (t0 : Action) (t1 : Row) : Option Int :=
 loopF (zj.l1 n t0 t1) n (0, 0)
def zab.l1 (n : Nat) (t0 : List Int) (t1 : Int) (b : Int → Option Int) (a : Int) : Option Int :=
 if (decide (a < (t0.length : Int))) then
 (idx t0 a).bind fun c =>
 if (t1 == c) then
 some a
 else
 b (add64 a 1)
 else
 some (-1)
def zab (n : Nat) (t0 : List Int) (t1 : Int) : Option Int :=
 loopF (zab.l1 n t0 t1) n 0
def zay (n : Nat) (t0 : List Int) (t1 : Int) : Option Bool :=
 (zab n t0 t1).bind fun a =>
 some (decide (0 ≤ a))
def zdC (n : Nat) (t0 : Int) (t1 : Int) : Option Int :=
 some (sub64 t0 t1)
def zK.l1 (n : Nat) (t0 : Row) (t1 : Int → Option Int) (c : Int) (b : ((List Term) × Int) → Option Row) (s : (List Term) × Int) : Option Row :=
 if (decide (s.2 < (t0.terms.length : Int))) then
 (idx t0.terms s.2).bind fun a =>
 (t1 a.factor).bind fun d =>
 (app 16 s.1 [(⟨a.cell, d⟩ : Term)]).bind fun e =>
 b (e, add64 s.2 1)
 else
 some (⟨s.1, c⟩ : Row)
def zK (n : Nat) (t0 : Row) (t1 : Int → Option Int) (t2 : Int → Option Int) : Option Row :=
 (t2 t0.bound).bind fun a =>
 loopF (zK.l1 n t0 t1 a) n (([] : List Term), 0)
def za8 (n : Nat) (t0 : Int) : Option Int :=
 some t0
def zaH (n : Nat) (t0 : Int) (t1 : Int) : Option Int :=
 some (sub64 (add64 (neg64 t0) t1) 1)
def za4 (n : Nat) (t0 : Int) : Option Int :=
 some (neg64 t0)
def zO.l1 (n : Nat) (t0 : Constraint) (t1 : Int → Option Int) (a : ((List Int) × Int) → Option Graph) (s : (List Int) × Int) : Option Graph :=
 if (decide (s.2 < mul64 t0.size t0.size)) then
 (t1 (add64 t0.first s.2)).bind fun b =>
 (app 8 s.1 [sub64 1 b]).bind fun c =>
 a (c, add64 s.2 1)
 else
 some (⟨t0.first, t0.size, s.1⟩ : Graph)
def zO (n : Nat) (t0 : Constraint) (t1 : Int → Option Int) : Option Graph :=
 loopF (zO.l1 n t0 t1) n (([] : List Int), 0)
def zaW (n : Nat) (t0 : Int) : Option Int :=
 some 0
def zz.l1 (n : Nat) (t0 : Action) (t1 : Constraint) (c : ((List Int) × Int) → Option (List Int)) (s : (List Int) × Int) : Option (List Int) :=
 if (decide (s.2 < mul64 t1.size t1.size)) then
 jn (fun (b : (List Int)) =>
 c (b, add64 s.2 1)) fun a =>
 (zC n t0 (add64 t1.first s.2)).bind fun d =>
 if (decide (0 < d)) then
 (app 8 s.1 [s.2]).bind fun e =>
 a e
 else
 a s.1
 else
 some s.1
def zz (n : Nat) (t0 : Action) (t1 : Constraint) : Option (List Int) :=
 loopF (zz.l1 n t0 t1) n (([] : List Int), 0)
def zR (n : Nat) (t0 : Int) (t1 : Action) : Option Int :=
 (zC n t1 t0).bind fun a =>
 some a
def zah (n : Nat) (t0 : Int) (t1 : Action) : Option Int :=
 (zC n t1 t0).bind fun a =>
 some a
def zaF (n : Nat) (t0 : Int) (t1 : Action) (t2 : Constraint) (t3 : Action) : Option Int :=
 (zC n t1 (add64 t2.first t0)).bind fun a =>
 (zC n t3 (add64 t2.first t0)).bind fun b =>
 some (add64 a b)
def zcV (n : Nat) (t0 : Int) (t1 : List Bool) : Option (DGraph × Bool) :=
 some ((⟨t0, t1⟩ : DGraph), ((decide (1 ≤ t0)) && (decide (t0 ≤ 6))) && ((t1.length : Int) == (mul64 t0 t0)))
def zaP (n : Nat) (t0 : DGraph) (t1 : Int) (t2 : Int) : Option Bool :=
 (idx t0.edges (add64 (mul64 t1 t0.size) t2)).bind fun a =>
 some a
def zct.l1 (n : Nat) (t0 : List Int) (c : Int → Option Int) (a : Int) : Option Int :=
 if (decide (a < (t0.length : Int))) then
 (idx t0 a).bind fun b =>
 if (b != 0) then
 some b
 else
 c (add64 a 1)
 else
 some 0
def zct (n : Nat) (t0 : List Int) : Option Int :=
 loopF (zct.l1 n t0) n 0
def zbU (n : Nat) (t0 : List Int) (t1 : List Int) : Option Int :=
 (zbT n (t0.length : Int) (t1.length : Int)).bind fun c =>
 (zg n t0 t1).bind fun a =>
 (zct n [c, a]).bind fun b =>
 some b
def zw.l1 (n : Nat) (g : DGraph) (v : List Int → List (List Int) → Option (List (List Int))) (l : List Int) (last : Int) (rec : Int × List (List Int) → Option (List (List Int))) (s : Int × List (List Int)) : Option (List (List Int)) :=
 if (decide (s.1 < g.size)) then
 (zaP n g last s.1).bind fun e =>
 if e then
 (zay n l s.1).bind fun f =>
 if f = true then rec (add64 s.1 1, s.2)
 else
 (app 8 [] l).bind fun c =>
 (app 8 c [s.1]).bind fun l2 =>
 (v l2 s.2).bind fun out =>
 rec (add64 s.1 1, out)
 else rec (add64 s.1 1, s.2)
 else some s.2
def zw (n : Nat) (g : DGraph) : Nat → List Int → List (List Int) → Option (List (List Int))
 | 0, _, _ => none
 | k + 1, l, out =>
 (idx l (sub64 (l.length : Int) 1)).bind fun last =>
 (idx l 0).bind fun first =>
 (zaP n g last first).bind fun e =>
 if e then
 (app 8 [] l).bind fun c =>
 (app 24 out [c]).bind fun out =>
 loopF (zw.l1 n g (zw n g k) l last) n (add64 first 1, out)
 else loopF (zw.l1 n g (zw n g k) l last) n (add64 first 1, out)
def digraph_cycles.l1 (n : Nat) (g : DGraph) (rec : Int × List (List Int) → Option (List (List Int))) (s : Int × List (List Int)) : Option (List (List Int)) :=
 if (decide (s.1 < g.size)) then
 (zw n g n [s.1] s.2).bind fun out =>
 rec (add64 s.1 1, out)
 else some s.2
def zbl (n : Nat) (t0 : Int) (t1 : List Bool) : Option (List (List Int)) :=
 (zcV n t0 t1).bind fun o =>
 if (!o.2) = true then some []
 else
 (loopF (digraph_cycles.l1 n o.1) n (0, [])).bind fun out =>
 sortO (zbU n) out
def zf.l3 (n : Nat) (t1 : Constraint) (t2 : Action) (t3 : Action) (f : List (List Row)) (g : ((List (List Row))) → Option (List (List Row))) (c : List Int) (h : ((List Row) × Bool × Bool × Int) → Option (List (List Row))) (s : (List Row) × Bool × Bool × Int) : Option (List (List Row)) :=
 let e := s.2.2.1
 let d := s.2.2.2
 if (decide (d < (c.length : Int))) then
 (idx c d).bind fun a =>
 (rem64 (add64 d 1) (c.length : Int)).bind fun l =>
 (idx c l).bind fun b =>
 grd (s.2.1 || (zC n t2 (add64 t1.first (add64 (mul64 a t1.size) b))).isSome) <|
 grd (e || (zC n t3 (add64 t1.first (add64 (mul64 a t1.size) b))).isSome) <|
 (zaF n (add64 (mul64 a t1.size) b) t2 t1 t3).bind fun i =>
 (app 32 s.1 [(⟨[(⟨add64 t1.first (add64 (mul64 a t1.size) b), (-1)⟩ : Term)], sub64 i 1⟩ : Row)]).bind fun j =>
 h (j, s.2.1 || (decide (0 < ((zC n t2 (add64 t1.first (add64 (mul64 a t1.size) b))).getD default))), e || (decide (0 < ((zC n t3 (add64 t1.first (add64 (mul64 a t1.size) b))).getD default))), add64 d 1)
 else
 if (s.2.1 && e) then
 (app 24 f [s.1]).bind fun k =>
 g k
 else
 g f
def zf.l2 (n : Nat) (t1 : Constraint) (t2 : Action) (t3 : Action) (a : List (List Int)) (d : ((List (List Row)) × Int) → Option (List (List Row))) (s : (List (List Row)) × Int) : Option (List (List Row)) :=
 if (decide (s.2 < (a.length : Int))) then
 jn (fun (b : (List (List Row))) =>
 d (b, add64 s.2 1)) fun c =>
 (idx a s.2).bind fun e =>
 loopF (zf.l3 n t1 t2 t3 s.1 c e) n (([] : List Row), false, false, 0)
 else
 some s.1
def zf.l1 (n : Nat) (t0 : List Range) (t1 : Constraint) (t2 : Action) (t3 : Action) (c : List Bool) (b : ((List Bool) × Int) → Option (List (List Row))) (s : (List Bool) × Int) : Option (List (List Row)) :=
 if (decide (s.2 < (c.length : Int))) then
 (idx t0 (add64 t1.first s.2)).bind fun d =>
 (zaF n s.2 t2 t1 t3).bind fun e =>
 (idx s.1 s.2).bind fun g =>
 (sto s.1 s.2 (decide (1 ≤ add64 d.hi e))).bind fun a =>
 b (a, add64 s.2 1)
 else
 (zbl n t1.size s.1).bind fun f =>
 loopF (zf.l2 n t1 t2 t3 f) n (([] : List (List Row)), 0)
def zf (n : Nat) (t0 : List Range) (t1 : Constraint) (t2 : Action) (t3 : Action) : Option (List (List Row)) :=
 (mkl 1 (mul64 t1.size t1.size) (false : Bool)).bind fun a =>
 loopF (zf.l1 n t0 t1 t2 t3 a) n (a, 0)
def zbD.l1 (n : Nat) (t0 : List Range) (c : Int → Option Bool) (b : Int) : Option Bool :=
 if (decide (b < (t0.length : Int))) then
 (idx t0 b).bind fun a =>
 if ((((decide (a.lo < (-1000000))) || (decide (1000000 < a.lo))) || (decide (a.hi < (-1000000)))) || (decide (1000000 < a.hi))) then
 some false
 else
 c (add64 b 1)
 else
 some (decide ((t0.length : Int) ≤ 128))
def zbD (n : Nat) (t0 : List Range) : Option Bool :=
 loopF (zbD.l1 n t0) n 0
def zbj.l1 (n : Nat) (t0 : Int) (t1 : Row) (b : (Int × Int) → Option Bool) (s : Int × Int) : Option Bool :=
 if (decide (s.2 < (t1.terms.length : Int))) then
 (idx t1.terms s.2).bind fun a =>
 if (((((decide (a.cell ≤ s.1)) || (decide (t0 ≤ a.cell))) || (a.factor == 0)) || (decide (a.factor < (-1000)))) || (decide (1000 < a.factor))) then
 some false
 else
 b (a.cell, add64 s.2 1)
 else
 some ((decide ((-1000000000) ≤ t1.bound)) && (decide (t1.bound ≤ 1000000000)))
def zbj (n : Nat) (t0 : Int) (t1 : Row) : Option Bool :=
 loopF (zbj.l1 n t0 t1) n ((-1), 0)
def zbA (n : Nat) (t0 : Row) (t1 : List Range) : Option Bool :=
 (zbj n (t1.length : Int) t0).bind fun a =>
 some (!a)
def zbm (n : Nat) (t0 : List Range) (t1 : List Row) : Option Bool :=
 (zbD n t0).bind fun a =>
 grd (!a || (zl n t1 (fun q0 => zbA n q0 t0)).isSome) <|
 some (a && (!((zl n t1 (fun q0 => zbA n q0 t0)).getD default)))
def zA.l1 (n : Nat) (t0 : List Range) (t1 : Range → Option Bool) (b : Int → Option Int) (a : Int) : Option Int :=
 if (decide (a < (t0.length : Int))) then
 (idx t0 a).bind fun c =>
 (t1 c).bind fun d =>
 if d then
 some a
 else
 b (add64 a 1)
 else
 some (-1)
def zA (n : Nat) (t0 : List Range) (t1 : Range → Option Bool) : Option Int :=
 loopF (zA.l1 n t0 t1) n 0
def zak (n : Nat) (t0 : List Range) (t1 : Range → Option Bool) : Option Bool :=
 (zA n t0 t1).bind fun a =>
 some (decide (0 ≤ a))
def zey (n : Nat) (t0 : Range) : Option Bool :=
 some (decide (t0.hi < t0.lo))
def zbK (n : Nat) (t0 : List Range) : Option Bool :=
 (zak n t0 (fun q0 => zey n q0)).bind fun a =>
 some a
def zcT (n : Nat) (t0 : System) (t1 : List Row) (t2 : Int) : Option Bool :=
 grd (!(decide ((t1.length : Int) ≤ t2)) || (zbm n t0.box t1).isSome) <|
 some ((decide ((t1.length : Int) ≤ t2)) && ((zbm n t0.box t1).getD default))
def zeG (n : Nat) (t0 : Int) : Option Bool :=
 some ((decide (t0 < (-4000000))) || (decide (4000000 < t0)))
def zet (n : Nat) (t0 : Int) (t1 : Graph) : Option Bool :=
 if (((((decide (t1.size < 1)) || (decide (6 < t1.size))) || (decide (t1.first < 0))) || (decide (sub64 t0 (mul64 t1.size t1.size) < t1.first))) || ((t1.least.length : Int) != (mul64 t1.size t1.size))) then
 some false
 else
 (zr n t1.least (fun q0 => zeG n q0)).bind fun a =>
 some (!a)
def zeF (n : Nat) (t0 : List Row) (t1 : System) : Option Bool :=
 (zcT n t1 t0 64).bind fun a =>
 some (!a)
def zP.l1 (n : Nat) (t0 : List (List Row)) (t1 : (List Row) → Option Bool) (b : Int → Option Int) (a : Int) : Option Int :=
 if (decide (a < (t0.length : Int))) then
 (idx t0 a).bind fun c =>
 (t1 c).bind fun d =>
 if d then
 some a
 else
 b (add64 a 1)
 else
 some (-1)
def zP (n : Nat) (t0 : List (List Row)) (t1 : (List Row) → Option Bool) : Option Int :=
 loopF (zP.l1 n t0 t1) n 0
def zaL (n : Nat) (t0 : List (List Row)) (t1 : (List Row) → Option Bool) : Option Bool :=
 (zP n t0 t1).bind fun a =>
 some (decide (0 ≤ a))
def zaS.l1 (n : Nat) (t0 : System) (b : Int → Option Bool) (a : Int) : Option Bool :=
 if (decide (a < (t0.graphs.length : Int))) then
 (idx t0.graphs a).bind fun c =>
 (zet n (t0.box.length : Int) c).bind fun d =>
 if (!d) then
 some false
 else
 b (add64 a 1)
 else
 (zaL n t0.cases (fun q0 => zeF n q0 t0)).bind fun e =>
 some (!e)
def zaS (n : Nat) (t0 : System) : Option Bool :=
 (zbm n t0.box ([] : List Row)).bind fun a =>
 grd ((!a) || (zbK n t0.box).isSome) <|
 grd (((!a) || ((zbK n t0.box).getD default)) || (zcT n t0 t0.rows 1024).isSome) <|
 if (((((!a) || ((zbK n t0.box).getD default)) || (!((zcT n t0 t0.rows 1024).getD default))) || (decide (64 < (t0.graphs.length : Int)))) || (decide (1024 < (t0.cases.length : Int)))) then
 some false
 else
 loopF (zaS.l1 n t0) n 0
def ze.l4 (n : Nat) (t0 : Model) (t1 : Question) (j : Action) (c : Action) (k : List Range) (d : List Row) (m : Int) (r : Int) (t : List Term) (u : Int) (w : Int) (x : Int) (y : ((List Graph) × Int) → Option (System × Int)) (s : (List Graph) × Int) : Option (System × Int) :=
 if (decide (s.2 < (t0.constraints.length : Int))) then
 jn (fun (q : (List Graph)) =>
 y (q, add64 s.2 1)) fun g =>
 (idx t0.constraints s.2).bind fun a =>
 if (a.kind != 1) then
 g s.1
 else
 (zO n a (fun q0 => zaW n q0)).bind fun z =>
 (app 40 s.1 [z]).bind fun p =>
 jn (fun (l : (List Graph)) =>
 grd (!(t1.e != t1.f) || (zz n c a).isSome) <|
 if ((t1.e != t1.f) && (decide (0 < (((zz n c a).getD default).length : Int)))) then
 (zO n a (fun q0 => zah n q0 c)).bind fun D =>
 (app 40 l [D]).bind fun E =>
 g E
 else
 g l) fun o =>
 (zz n j a).bind fun A =>
 if (decide (0 < (A.length : Int))) then
 (zO n a (fun q0 => zR n q0 j)).bind fun B =>
 (app 40 p [B]).bind fun C =>
 o C
 else
 o p
 else
 jn (fun (b : (List Row) × (List (List Row))) =>
 (zaS n (⟨k, b.1, s.1, b.2⟩ : System)).bind fun G =>
 if (!G) then
 some ((⟨[], [], [], []⟩ : System), 8)
 else
 some ((⟨k, b.1, s.1, b.2⟩ : System), 0)) fun h =>
 if (m == 1) then
 (zf n k (⟨m, r, (⟨t, u⟩ : Row), w, x⟩ : Constraint) j c).bind fun i =>
 if ((i.length : Int) == 0) then
 (app 32 d [(⟨[], (-1)⟩ : Row)]).bind fun F =>
 h (F, i)
 else
 h (d, i)
 else
 h (d, [])
def ze.l3 (n : Nat) (t0 : Model) (t1 : Question) (d : Action) (e : Action) (r : List Range) (f : List Row) (h : ((List Row) × Int) → Option (System × Int)) (s : (List Row) × Int) : Option (System × Int) :=
 if (decide (s.2 < (f.length : Int))) then
 (idx f s.2).bind fun k =>
 (zK n k (fun q0 => za8 n q0) (fun q0 => za8 n q0)).bind fun l =>
 (app 32 s.1 [l]).bind fun m =>
 h (m, add64 s.2 1)
 else
 jn (fun (b : (List Row) × Int × Int × (List Term) × Int × Int × Int) =>
 loopF (ze.l4 n t0 t1 d e r b.1 b.2.1 b.2.2.1 b.2.2.2.1 b.2.2.2.2.1 b.2.2.2.2.2.1 b.2.2.2.2.2.2) n (([] : List Graph), 0)) fun c =>
 if t1.target.hold then
 (idx d.effect.hold t1.target.index).bind fun g =>
 (zj n e g).bind fun o =>
 (zK n g (fun q0 => za4 n q0) (fun q0 => zaH n q0 o)).bind fun t =>
 (app 32 s.1 [t]).bind fun j =>
 c (j, 0, 0, [], 0, 0, 0)
 else
 (idx t0.constraints t1.target.index).bind fun a =>
 if (a.kind == 0) then
 (zj n d a.row).bind fun p =>
 (zj n e a.row).bind fun q =>
 (zK n a.row (fun q0 => za4 n q0) (fun q0 => zaH n q0 (add64 p q))).bind fun u =>
 (app 32 s.1 [u]).bind fun i =>
 c (i, a.kind, a.family, a.row.terms, a.row.bound, a.first, a.size)
 else
 c (s.1, a.kind, a.family, a.row.terms, a.row.bound, a.first, a.size)
def ze.l2 (n : Nat) (t0 : Model) (t1 : Question) (t2 : List Int) (b : Action) (c : Action) (u : List Range) (o : ((List Row) × Int) → Option (System × Int)) (s : (List Row) × Int) : Option (System × Int) :=
 if (decide (s.2 < (t0.constraints.length : Int))) then
 jn (fun (l : (List Row)) =>
 o (l, add64 s.2 1)) fun h =>
 (idx t0.constraints s.2).bind fun a =>
 if (a.kind != 0) then
 h s.1
 else
 (zj n b a.row).bind fun d =>
 (zj n c a.row).bind fun g =>
 jn (fun (t : Int) =>
 (zK n a.row (fun q0 => za8 n q0) (fun q0 => zdC n q0 t)).bind fun p =>
 (app 32 s.1 [p]).bind fun q =>
 h q) fun i =>
 (zay n t2 s.2).bind fun w =>
 if (w && (t1.target.hold || (t1.target.index != s.2))) then
 i (gmax (gmax (gmax 0 d) g) (add64 d g))
 else
 i (gmax (gmax 0 d) g)
 else
 (app 32 [] b.effect.hold).bind fun k =>
 jn (fun (m : (List Row)) =>
 loopF (ze.l3 n t0 t1 b c u m) n (s.1, 0)) fun j =>
 if (t1.e != t1.f) then
 (app 32 k c.effect.hold).bind fun r =>
 j r
 else
 j k
def ze.l1 (n : Nat) (t0 : Model) (t1 : Question) (t2 : List Int) (c : Int → Option (System × Int)) (b : Int) : Option (System × Int) :=
 if (decide (b < (t2.length : Int))) then
 (idx t2 b).bind fun a =>
 grd (((decide (a < 0)) || (decide ((t0.constraints.length : Int) ≤ a))) || (idx t0.constraints a).isSome) <|
 if (((decide (a < 0)) || (decide ((t0.constraints.length : Int) ≤ a))) || ((((idx t0.constraints a).getD default).kind) != 0)) then
 some ((⟨[], [], [], []⟩ : System), 2)
 else
 c (add64 b 1)
 else
 (idx t0.actions t1.e).bind fun d =>
 (idx t0.actions t1.f).bind fun g =>
 (zek n t0).bind fun h =>
 loopF (ze.l2 n t0 t1 t2 d g h) n (([] : List Row), 0)
def ze (n : Nat) (t0 : Model) (t1 : Question) (t2 : List Int) : Option (System × Int) :=
 (zcK n t0 t1).bind fun a =>
 if (!a) then
 some ((⟨[], [], [], []⟩ : System), 1)
 else
 loopF (ze.l1 n t0 t1 t2) n 0
def zcH (n : Nat) (t0 : Model) (t1 : Question) : Option Bool :=
 (idx t0.actions t1.e).bind fun c =>
 (idx t0.actions t1.f).bind fun b =>
 if t1.target.hold then
 (idx c.effect.hold t1.target.index).bind fun h =>
 (zj n b h).bind fun i =>
 some (decide (0 < i))
 else
 (idx t0.constraints t1.target.index).bind fun a =>
 if (a.kind == 0) then
 (zj n c a.row).bind fun d =>
 grd (!(decide (0 < d)) || (zj n b a.row).isSome) <|
 some ((decide (0 < d)) && (decide (0 < ((zj n b a.row).getD default))))
 else
 (zz n c a).bind fun g =>
 grd (!(decide (0 < (g.length : Int))) || (zz n b a).isSome) <|
 some ((decide (0 < (g.length : Int))) && (decide (0 < (((zz n b a).getD default).length : Int))))
def zci (n : Nat) (t0 : Question) (t1 : Model) : Option Bool :=
 (zcH n t1 t0).bind fun a =>
 some (!a)
def zaa.l1 (n : Nat) (t0 : List Question) (t1 : Question → Option Bool) (b : Int → Option Int) (a : Int) : Option Int :=
 if (decide (a < (t0.length : Int))) then
 (idx t0 a).bind fun c =>
 (t1 c).bind fun d =>
 if d then
 some a
 else
 b (add64 a 1)
 else
 some (-1)
def zaa (n : Nat) (t0 : List Question) (t1 : Question → Option Bool) : Option Int :=
 loopF (zaa.l1 n t0 t1) n 0
def zS.l5 (n : Nat) (t0 : Model) (f : List Question) (h : ((List Question)) → Option (List Question)) (i : ((List Question) × Int × Int) → Option (List Question)) (s : (List Question) × Int × Int) : Option (List Question) :=
 let a := s.1
 let b := s.2.1
 if (decide (s.2.2 < (a.length : Int))) then
 jn (fun (c : (List Question) × Int) =>
 i (c.1, c.2, add64 s.2.2 1)) fun d =>
 (idx a s.2.2).bind fun e =>
 (zci n e t0).bind fun j =>
 if (!j) then
 (idx a b).bind fun l =>
 (sto a b e).bind fun g =>
 d (g, add64 b 1)
 else
 d (a, b)
 else
 (cut a b (a.length : Int)).bind fun m =>
 (cut (zcD a b.toNat a.length (List.replicate (a.length - b.toNat) (⟨0, 0, ⟨false, 0⟩⟩ : Question))) 0 b).bind fun o =>
 (app 32 f (((zcD a b.toNat a.length (List.replicate (a.length - b.toNat) (⟨0, 0, ⟨false, 0⟩⟩ : Question))).drop 0).take (b.toNat - 0))).bind fun k =>
 h k
def zS.l4 (n : Nat) (t0 : Model) (e : Int) (b : List Question) (f : Int) (c : ((List Question)) → Option (List Question)) (g : Action) (d : ((List Question) × Int) → Option (List Question)) (s : (List Question) × Int) : Option (List Question) :=
 if (decide (s.2 < (g.effect.hold.length : Int))) then
 (app 32 s.1 [(⟨e, f, (⟨true, s.2⟩ : Target)⟩ : Question)]).bind fun h =>
 d (h, add64 s.2 1)
 else
 (zaa n s.1 (fun q0 => zci n q0 t0)).bind fun a =>
 if (a == (-1)) then
 (app 32 b s.1).bind fun i =>
 c i
 else
 loopF (zS.l5 n t0 b c) n (s.1, a, add64 a 1)
def zS.l3 (n : Nat) (t0 : Model) (a : Int) (d : List Question) (b : Int) (f : ((List Question)) → Option (List Question)) (g : ((List Question) × Int) → Option (List Question)) (s : (List Question) × Int) : Option (List Question) :=
 if (decide (s.2 < (t0.constraints.length : Int))) then
 jn (fun (e : (List Question)) =>
 g (e, add64 s.2 1)) fun c =>
 if (decide (a ≤ b)) then
 (app 32 s.1 [(⟨a, b, (⟨false, s.2⟩ : Target)⟩ : Question)]).bind fun h =>
 c h
 else
 c s.1
 else
 (idx t0.actions a).bind fun i =>
 loopF (zS.l4 n t0 a d b f i) n (s.1, 0)
def zS.l2 (n : Nat) (t0 : Model) (a : Int) (e : ((List Question) × Int) → Option (List Question)) (d : ((List Question) × Int) → Option (List Question)) (s : (List Question) × Int) : Option (List Question) :=
 if (decide (s.2 < (t0.actions.length : Int))) then
 jn (fun (b : (List Question)) =>
 d (b, add64 s.2 1)) fun c =>
 loopF (zS.l3 n t0 a s.1 s.2 c) n (([] : List Question), 0)
 else
 e (s.1, add64 a 1)
def zS.l1 (n : Nat) (t0 : Model) (a : ((List Question) × Int) → Option (List Question)) (s : (List Question) × Int) : Option (List Question) :=
 if (decide (s.2 < (t0.actions.length : Int))) then
 loopF (zS.l2 n t0 s.2 a) n (s.1, 0)
 else
 some s.1
def zS (n : Nat) (t0 : Model) : Option (List Question) :=
 (zcR n t0).bind fun a =>
 if (!a) then
 some []
 else
 loopF (zS.l1 n t0) n (([] : List Question), 0)
def zag (n : Nat) (t0 : Model) (t1 : Question) : Option Bool :=
 (zcK n t0 t1).bind fun a =>
 grd (!a || (zcH n t0 t1).isSome) <|
 some (a && ((zcH n t0 t1).getD default))
def zca (n : Nat) (t0 : Model) (t1 : Int) (t2 : Row) : Option Int :=
 (zcR n t0).bind fun c =>
 if (((!c) || (decide (t1 < 0))) || (decide ((t0.actions.length : Int) ≤ t1))) then
 some 0
 else
 (idx t0.actions t1).bind fun a =>
 (zj n a t2).bind fun b =>
 some b
def zM.l1 (n : Nat) (t0 : List Question) (t1 : List Question) (b : Int → Option Bool) (a : Int) : Option Bool :=
 if (decide (a < (t0.length : Int))) then
 (idx t0 a).bind fun c =>
 (idx t1 a).bind fun d =>
 if (!decide ((c : Question) = d)) then
 some false
 else
 b (add64 a 1)
 else
 some true
def zM (n : Nat) (t0 : List Question) (t1 : List Question) : Option Bool :=
 if ((t0.length : Int) != (t1.length : Int)) then
 some false
 else
 loopF (zM.l1 n t0 t1) n 0
def zg2 (n : Nat) : Option Bool :=
 (zhl n ).bind fun b =>
 (ze n b (⟨0, 0, (⟨false, 1⟩ : Target)⟩ : Question) ([] : List Int)).bind fun a =>
 (zS n b).bind fun c =>
 grd (!((a.2 == 0) && ((a.1.rows.length : Int) == 3)) || (idx a.1.rows 1).isSome) <|
 grd (!(((a.2 == 0) && ((a.1.rows.length : Int) == 3)) && ((((idx a.1.rows 1).getD default).bound) == 1)) || (idx a.1.rows 2).isSome) <|
 grd (!((((a.2 == 0) && ((a.1.rows.length : Int) == 3)) && ((((idx a.1.rows 1).getD default).bound) == 1)) && ((((idx a.1.rows 2).getD default).bound) == 0)) || (idx a.1.rows 2).isSome) <|
 grd (!(((((a.2 == 0) && ((a.1.rows.length : Int) == 3)) && ((((idx a.1.rows 1).getD default).bound) == 1)) && ((((idx a.1.rows 2).getD default).bound) == 0)) && (((((idx a.1.rows 2).getD default).terms).length : Int) == 1)) || (idx a.1.rows 2).isSome) <|
 grd (!(((((a.2 == 0) && ((a.1.rows.length : Int) == 3)) && ((((idx a.1.rows 1).getD default).bound) == 1)) && ((((idx a.1.rows 2).getD default).bound) == 0)) && (((((idx a.1.rows 2).getD default).terms).length : Int) == 1)) || (idx (((idx a.1.rows 2).getD default).terms) 0).isSome) <|
 grd (!((((((a.2 == 0) && ((a.1.rows.length : Int) == 3)) && ((((idx a.1.rows 1).getD default).bound) == 1)) && ((((idx a.1.rows 2).getD default).bound) == 0)) && (((((idx a.1.rows 2).getD default).terms).length : Int) == 1)) && ((((idx (((idx a.1.rows 2).getD default).terms) 0).getD default).factor) == (-1))) || (zag n b (⟨0, 0, (⟨false, 1⟩ : Target)⟩ : Question)).isSome) <|
 grd (!(((((((a.2 == 0) && ((a.1.rows.length : Int) == 3)) && ((((idx a.1.rows 1).getD default).bound) == 1)) && ((((idx a.1.rows 2).getD default).bound) == 0)) && (((((idx a.1.rows 2).getD default).terms).length : Int) == 1)) && ((((idx (((idx a.1.rows 2).getD default).terms) 0).getD default).factor) == (-1))) && ((zag n b (⟨0, 0, (⟨false, 1⟩ : Target)⟩ : Question)).getD default)) || (zag n b (⟨0, 0, (⟨false, 0⟩ : Target)⟩ : Question)).isSome) <|
 grd (!((((((((a.2 == 0) && ((a.1.rows.length : Int) == 3)) && ((((idx a.1.rows 1).getD default).bound) == 1)) && ((((idx a.1.rows 2).getD default).bound) == 0)) && (((((idx a.1.rows 2).getD default).terms).length : Int) == 1)) && ((((idx (((idx a.1.rows 2).getD default).terms) 0).getD default).factor) == (-1))) && ((zag n b (⟨0, 0, (⟨false, 1⟩ : Target)⟩ : Question)).getD default)) && (!((zag n b (⟨0, 0, (⟨false, 0⟩ : Target)⟩ : Question)).getD default))) || (idx b.constraints 0).isSome) <|
 grd (!((((((((a.2 == 0) && ((a.1.rows.length : Int) == 3)) && ((((idx a.1.rows 1).getD default).bound) == 1)) && ((((idx a.1.rows 2).getD default).bound) == 0)) && (((((idx a.1.rows 2).getD default).terms).length : Int) == 1)) && ((((idx (((idx a.1.rows 2).getD default).terms) 0).getD default).factor) == (-1))) && ((zag n b (⟨0, 0, (⟨false, 1⟩ : Target)⟩ : Question)).getD default)) && (!((zag n b (⟨0, 0, (⟨false, 0⟩ : Target)⟩ : Question)).getD default))) || (zca n b 0 (((idx b.constraints 0).getD default).row)).isSome) <|
 grd (!(((((((((a.2 == 0) && ((a.1.rows.length : Int) == 3)) && ((((idx a.1.rows 1).getD default).bound) == 1)) && ((((idx a.1.rows 2).getD default).bound) == 0)) && (((((idx a.1.rows 2).getD default).terms).length : Int) == 1)) && ((((idx (((idx a.1.rows 2).getD default).terms) 0).getD default).factor) == (-1))) && ((zag n b (⟨0, 0, (⟨false, 1⟩ : Target)⟩ : Question)).getD default)) && (!((zag n b (⟨0, 0, (⟨false, 0⟩ : Target)⟩ : Question)).getD default))) && (((zca n b 0 (((idx b.constraints 0).getD default).row)).getD default) == (-2))) || (zM n c [(⟨0, 0, (⟨false, 1⟩ : Target)⟩ : Question)]).isSome) <|
 some ((((((((((a.2 == 0) && ((a.1.rows.length : Int) == 3)) && ((((idx a.1.rows 1).getD default).bound) == 1)) && ((((idx a.1.rows 2).getD default).bound) == 0)) && (((((idx a.1.rows 2).getD default).terms).length : Int) == 1)) && ((((idx (((idx a.1.rows 2).getD default).terms) 0).getD default).factor) == (-1))) && ((zag n b (⟨0, 0, (⟨false, 1⟩ : Target)⟩ : Question)).getD default)) && (!((zag n b (⟨0, 0, (⟨false, 0⟩ : Target)⟩ : Question)).getD default))) && (((zca n b 0 (((idx b.constraints 0).getD default).row)).getD default) == (-2))) && ((zM n c [(⟨0, 0, (⟨false, 1⟩ : Target)⟩ : Question)]).getD default))
def zco.l1 (n : Nat) (t0 : List Int) (t1 : List Table) (c : Int → Option Bool) (a : Int) : Option Bool :=
 if (decide (a < (t1.length : Int))) then
 (idx t1 a).bind fun b =>
 grd ((decide (40 < (b.name.length : Int))) || (idx t1 a).isSome) <|
 if ((decide (40 < (b.name.length : Int))) || (decide (12 < ((((idx t1 a).getD default).columns).length : Int)))) then
 some false
 else
 c (add64 a 1)
 else
 some ((decide ((t0.length : Int) ≤ 12)) && (decide ((t1.length : Int) ≤ 20)))
def zco (n : Nat) (t0 : List Int) (t1 : List Table) : Option Bool :=
 loopF (zco.l1 n t0 t1) n 0
def zm.l5 (n : Nat) (f : Int) (c : Int → Option Bool) (b : Action) (d : Int → Option Bool) (a : Int) : Option Bool :=
 if (decide (a < (b.effect.hold.length : Int))) then
 (idx b.effect.hold a).bind fun e =>
 if (decide (20 < (e.terms.length : Int))) then
 some false
 else
 d (add64 a 1)
 else
 c (add64 f 1)
def zm.l4 (n : Nat) (t0 : Model) (c : Int → Option Bool) (b : Int) : Option Bool :=
 if (decide (b < (t0.actions.length : Int))) then
 (idx t0.actions b).bind fun a =>
 (idx t0.actions b).bind fun d =>
 if ((((decide (6 < (d.arguments.length : Int))) || (decide (20 < (a.effect.delta.length : Int)))) || (decide (10 < (a.effect.hold.length : Int)))) || (decide (40 < (a.effect.updates.length : Int)))) then
 some false
 else
 loopF (zm.l5 n b c a) n 0
 else
 some true
def zm.l3 (n : Nat) (t0 : Model) (c : Int → Option Bool) (a : Int) : Option Bool :=
 if (decide (a < (t0.operations.length : Int))) then
 (idx t0.operations a).bind fun b =>
 grd ((decide (40 < (b.name.length : Int))) || (idx t0.operations a).isSome) <|
 if ((decide (40 < (b.name.length : Int))) || (decide (6 < ((((idx t0.operations a).getD default).sorts).length : Int)))) then
 some false
 else
 c (add64 a 1)
 else
 loopF (zm.l4 n t0) n 0
def zm.l2 (n : Nat) (t0 : Model) (b : Int → Option Bool) (a : Int) : Option Bool :=
 if (decide (a < (t0.constraints.length : Int))) then
 (idx t0.constraints a).bind fun c =>
 if (decide (20 < (c.row.terms.length : Int))) then
 some false
 else
 b (add64 a 1)
 else
 loopF (zm.l3 n t0) n 0
def zm.l1 (n : Nat) (t0 : Model) (b : Int → Option Bool) (a : Int) : Option Bool :=
 if (decide (a < (t0.families.length : Int))) then
 (idx t0.families a).bind fun c =>
 if (decide (40 < (c.length : Int))) then
 some false
 else
 b (add64 a 1)
 else
 loopF (zm.l2 n t0) n 0
def zm (n : Nat) (t0 : Model) : Option Bool :=
 grd ((((((((decide (8 < (t0.sorts.length : Int))) || (decide (6 < (t0.tables.length : Int)))) || (decide (20 < (t0.families.length : Int)))) || (decide (60 < (t0.constraints.length : Int)))) || (decide (8 < (t0.operations.length : Int)))) || (decide (30 < (t0.actions.length : Int)))) || (decide (12 < (t0.hides.length : Int)))) || (zco n t0.sorts t0.tables).isSome) <|
 if ((((((((decide (8 < (t0.sorts.length : Int))) || (decide (6 < (t0.tables.length : Int)))) || (decide (20 < (t0.families.length : Int)))) || (decide (60 < (t0.constraints.length : Int)))) || (decide (8 < (t0.operations.length : Int)))) || (decide (30 < (t0.actions.length : Int)))) || (decide (12 < (t0.hides.length : Int)))) || (!((zco n t0.sorts t0.tables).getD default))) then
 some false
 else
 loopF (zm.l1 n t0) n 0
def zaX.l1 (n : Nat) (t0 : List Int) (c : Int → Option Bool) (a : Int) : Option Bool :=
 if (decide (a < (t0.length : Int))) then
 (idx t0 a).bind fun b =>
 grd ((decide (b < 1)) || (idx t0 a).isSome) <|
 if ((decide (b < 1)) || (decide (6 < ((idx t0 a).getD default)))) then
 some false
 else
 c (add64 a 1)
 else
 some true
def zaX (n : Nat) (t0 : List Int) : Option Bool :=
 loopF (zaX.l1 n t0) n 0
def zY.l1 (n : Nat) (t0 : List Int) (t1 : List Int) (b : (Int × Int) → Option Int) (s : Int × Int) : Option Int :=
 if (decide (s.2 < (t1.length : Int))) then
 (idx t1 s.2).bind fun a =>
 grd ((decide (a < 0)) || (idx t1 s.2).isSome) <|
 if ((decide (a < 0)) || (decide ((t0.length : Int) ≤ ((idx t1 s.2).getD default)))) then
 some 0
 else
 (idx t1 s.2).bind fun c =>
 (idx t0 c).bind fun d =>
 b (mul64 s.1 d, add64 s.2 1)
 else
 some s.1
def zY (n : Nat) (t0 : List Int) (t1 : List Int) : Option Int :=
 grd ((decide (3 < (t1.length : Int))) || (zaX n t0).isSome) <|
 if ((decide (3 < (t1.length : Int))) || (!((zaX n t0).getD default))) then
 some 0
 else
 loopF (zY.l1 n t0 t1) n (1, 0)
def zaI (n : Nat) (t0 : Int) : Option Bool :=
 some ((((t0 == 9) || (t0 == 10)) || (t0 == 13)) || (t0 == 32))
def zaZ.l2 (n : Nat) (t0 : List UInt8) (b : Int → Option Int) (c : Int → Option Int) (a : Int) : Option Int :=
 grd (!(decide (a < (t0.length : Int))) || (sidx t0 a).isSome) <|
 if ((decide (a < (t0.length : Int))) && (((sidx t0 a).getD default) != 10)) then
 c (add64 a 1)
 else
 b a
def zaZ.l1 (n : Nat) (t0 : List UInt8) (b : Int → Option Int) (a : Int) : Option Int :=
 grd (!(decide (a < (t0.length : Int))) || (sidx t0 a).isSome) <|
 grd (!(decide (a < (t0.length : Int))) || (zaI n ((sidx t0 a).getD default)).isSome) <|
 grd (!(decide (a < (t0.length : Int))) || (((zaI n ((sidx t0 a).getD default)).getD default) || (sidx t0 a).isSome)) <|
 if ((decide (a < (t0.length : Int))) && (((zaI n ((sidx t0 a).getD default)).getD default) || (((sidx t0 a).getD default) == 35))) then
 (sidx t0 a).bind fun c =>
 if (c == 35) then
 loopF (zaZ.l2 n t0 b) n a
 else
 b (add64 a 1)
 else
 some a
def zaZ (n : Nat) (t0 : List UInt8) (t1 : Int) : Option Int :=
 loopF (zaZ.l1 n t0) n t1
def zaA (n : Nat) (t0 : Int) : Option Bool :=
 some ((decide (97 ≤ t0)) && (decide (t0 ≤ 122)))
def zaO (n : Nat) (t0 : Int) : Option Bool :=
 some ((decide (48 ≤ t0)) && (decide (t0 ≤ 57)))
def zeB (n : Nat) : Option (List (List UInt8)) :=
 some [[115, 111, 114, 116], [114, 101, 108, 97, 116, 105, 111, 110], [99, 111, 117, 110, 116, 101, 114], [115, 101, 116], [114, 101, 103, 105, 115, 116, 101, 114], [105, 110, 118, 97, 114, 105, 97, 110, 116], [111, 112, 101, 114, 97, 116, 105, 111, 110], [107, 101, 121], [114, 101, 102, 101, 114, 101, 110, 99, 101], [116, 111], [99, 111, 117, 110, 116], [97, 99, 121, 99, 108, 105, 99], [97, 108, 108], [115, 117, 109], [105, 110], [97, 100, 100, 119, 105, 110, 115], [114, 101, 109, 111, 118, 101, 119, 105, 110, 115], [108, 97, 115, 116], [109, 117, 108, 116, 105], [104, 105, 100, 101], [111, 114, 100, 101, 114, 101, 100], [114, 101, 113, 117, 105, 114, 101], [104, 111, 108, 100], [105, 110, 115, 101, 114, 116], [100, 101, 108, 101, 116, 101], [97, 100, 100], [102, 114, 111, 109], [112, 117, 116], [100, 114, 111, 112], [97, 115, 115, 105, 103, 110], [102, 111, 114], [119, 104, 101, 114, 101], [97, 110, 100], [111, 114], [110, 111, 116]]
def zcb.l1 (n : Nat) (t0 : List (List UInt8)) (t1 : List UInt8) (b : Int → Option Bool) (a : Int) : Option Bool :=
 if (decide (a < (t0.length : Int))) then
 (idx t0 a).bind fun c =>
 if (decide (c = t1)) then
 some true
 else
 b (add64 a 1)
 else
 some false
def zcb (n : Nat) (t0 : List (List UInt8)) (t1 : List UInt8) : Option Bool :=
 loopF (zcb.l1 n t0 t1) n 0
def zfi (n : Nat) : Option (List (List UInt8)) :=
 some [[61, 61], [33, 61], [60, 61], [62, 61], [46, 46], [60], [62], [61], [43], [45], [42], [40], [41], [123], [125], [44], [58], [59]]
def za1.l1 (n : Nat) (t0 : List UInt8) (t1 : Int) (c : List (List UInt8)) (d : Int → Option Int) (b : Int) : Option Int :=
 if (decide (b < (c.length : Int))) then
 (idx c b).bind fun a =>
 grd (!(decide (add64 t1 (a.length : Int) ≤ (t0.length : Int))) || (cut t0 t1 (add64 t1 (a.length : Int))).isSome) <|
 grd (!(decide (add64 t1 (a.length : Int) ≤ (t0.length : Int))) || (idx c b).isSome) <|
 if ((decide (add64 t1 (a.length : Int) ≤ (t0.length : Int))) && (decide (((cut t0 t1 (add64 t1 (a.length : Int))).getD default) = ((idx c b).getD default)))) then
 some (a.length : Int)
 else
 d (add64 b 1)
 else
 some 0
def za1 (n : Nat) (t0 : List UInt8) (t1 : Int) : Option Int :=
 (zfi n ).bind fun a =>
 loopF (za1.l1 n t0 t1 a) n 0
def zao.l3 (n : Nat) (t0 : List UInt8) (b : Int → Option (Int × Int)) (a : Int) : Option (Int × Int) :=
 grd (!(decide (a < (t0.length : Int))) || (sidx t0 a).isSome) <|
 grd (!(decide (a < (t0.length : Int))) || (zaI n ((sidx t0 a).getD default)).isSome) <|
 grd (!((decide (a < (t0.length : Int))) && (!((zaI n ((sidx t0 a).getD default)).getD default))) || (sidx t0 a).isSome) <|
 grd (!(((decide (a < (t0.length : Int))) && (!((zaI n ((sidx t0 a).getD default)).getD default))) && (((sidx t0 a).getD default) != 35)) || (sidx t0 a).isSome) <|
 grd (!(((decide (a < (t0.length : Int))) && (!((zaI n ((sidx t0 a).getD default)).getD default))) && (((sidx t0 a).getD default) != 35)) || (zaA n ((sidx t0 a).getD default)).isSome) <|
 grd (!((((decide (a < (t0.length : Int))) && (!((zaI n ((sidx t0 a).getD default)).getD default))) && (((sidx t0 a).getD default) != 35)) && (!((zaA n ((sidx t0 a).getD default)).getD default))) || (sidx t0 a).isSome) <|
 grd (!((((decide (a < (t0.length : Int))) && (!((zaI n ((sidx t0 a).getD default)).getD default))) && (((sidx t0 a).getD default) != 35)) && (!((zaA n ((sidx t0 a).getD default)).getD default))) || (zaO n ((sidx t0 a).getD default)).isSome) <|
 grd (!(((((decide (a < (t0.length : Int))) && (!((zaI n ((sidx t0 a).getD default)).getD default))) && (((sidx t0 a).getD default) != 35)) && (!((zaA n ((sidx t0 a).getD default)).getD default))) && (!((zaO n ((sidx t0 a).getD default)).getD default))) || (za1 n t0 a).isSome) <|
 if ((((((decide (a < (t0.length : Int))) && (!((zaI n ((sidx t0 a).getD default)).getD default))) && (((sidx t0 a).getD default) != 35)) && (!((zaA n ((sidx t0 a).getD default)).getD default))) && (!((zaO n ((sidx t0 a).getD default)).getD default))) && (((za1 n t0 a).getD default) == 0)) then
 b (add64 a 1)
 else
 some (5, a)
def zao.l2 (n : Nat) (t0 : List UInt8) (b : Int → Option (Int × Int)) (a : Int) : Option (Int × Int) :=
 grd (!(decide (a < (t0.length : Int))) || (sidx t0 a).isSome) <|
 grd (!(decide (a < (t0.length : Int))) || (zaO n ((sidx t0 a).getD default)).isSome) <|
 if ((decide (a < (t0.length : Int))) && ((zaO n ((sidx t0 a).getD default)).getD default)) then
 b (add64 a 1)
 else
 some (3, a)
def zao.l1 (n : Nat) (t0 : List UInt8) (t1 : Int) (b : Int → Option (Int × Int)) (a : Int) : Option (Int × Int) :=
 grd (!(decide (a < (t0.length : Int))) || (sidx t0 a).isSome) <|
 grd (!(decide (a < (t0.length : Int))) || (zaA n ((sidx t0 a).getD default)).isSome) <|
 grd (!(decide (a < (t0.length : Int))) || (((zaA n ((sidx t0 a).getD default)).getD default) || (sidx t0 a).isSome)) <|
 grd (!(decide (a < (t0.length : Int))) || (((zaA n ((sidx t0 a).getD default)).getD default) || (zaO n ((sidx t0 a).getD default)).isSome)) <|
 grd (!(decide (a < (t0.length : Int))) || ((((zaA n ((sidx t0 a).getD default)).getD default) || ((zaO n ((sidx t0 a).getD default)).getD default)) || (sidx t0 a).isSome)) <|
 if ((decide (a < (t0.length : Int))) && ((((zaA n ((sidx t0 a).getD default)).getD default) || ((zaO n ((sidx t0 a).getD default)).getD default)) || (((sidx t0 a).getD default) == 95))) then
 b (add64 a 1)
 else
 (zeB n ).bind fun c =>
 (cut t0 t1 a).bind fun d =>
 (zcb n c d).bind fun e =>
 if e then
 some (2, a)
 else
 some (1, a)
def zao (n : Nat) (t0 : List UInt8) (t1 : Int) : Option (Int × Int) :=
 (sidx t0 t1).bind fun b =>
 (zaA n b).bind fun c =>
 if c then
 loopF (zao.l1 n t0 t1) n t1
 else
 (sidx t0 t1).bind fun d =>
 (zaO n d).bind fun e =>
 if e then
 loopF (zao.l2 n t0) n t1
 else
 (za1 n t0 t1).bind fun a =>
 if (decide (0 < a)) then
 some (4, add64 t1 a)
 else
 loopF (zao.l3 n t0) n t1
def zcw.l1 (n : Nat) (t0 : List UInt8) (c : ((List Token) × Int) → Option ((List Token) × Int)) (s : (List Token) × Int) : Option ((List Token) × Int) :=
 (zaZ n t0 s.2).bind fun d =>
 if (decide (d < (t0.length : Int))) then
 (zaZ n t0 s.2).bind fun b =>
 (zao n t0 b).bind fun a =>
 (app 32 s.1 [(⟨a.1, s.2, b, a.2⟩ : Token)]).bind fun e =>
 c (e, a.2)
 else
 (app 32 s.1 [(⟨0, s.2, (t0.length : Int), (t0.length : Int)⟩ : Token)]).bind fun f =>
 some (f, 0)
def zcw (n : Nat) (t0 : List UInt8) : Option ((List Token) × Int) :=
 if (decide (4096 < (t0.length : Int))) then
 some ([], 8)
 else
 loopF (zcw.l1 n t0) n (([] : List Token), 0)
def zgp (n : Nat) (t0 : List UInt8) : Option Int :=
 (zcw n t0).bind fun a =>
 grd (((a.2 != 0) || ((a.1.length : Int) != 2)) || (idx a.1 0).isSome) <|
 grd ((((a.2 != 0) || ((a.1.length : Int) != 2)) || ((((idx a.1 0).getD default).at_) != 0)) || (idx a.1 0).isSome) <|
 if ((((a.2 != 0) || ((a.1.length : Int) != 2)) || ((((idx a.1 0).getD default).at_) != 0)) || ((((idx a.1 0).getD default).end_) != (t0.length : Int))) then
 some 0
 else
 (idx a.1 0).bind fun b =>
 some b.kind
def zeV (n : Nat) (t0 : List UInt8) : Option Bool :=
 (zgp n t0).bind fun a =>
 some ((a == 1) && (decide ((t0.length : Int) ≤ 16)))
def zbE (n : Nat) (t0 : Int) : Option Bool :=
 some ((t0 == 0) || (t0 == 1))
def zav.l2 (n : Nat) (t0 : List Int) (t1 : List Table) (c : Int) (d : Int) (k : Int) (f : (Int × Int) → Option Bool) (a : Table) (g : Int → Option Bool) (e : Int) : Option Bool :=
 if (decide (e < k)) then
 (idx t1 e).bind fun i =>
 if (decide (i.name = a.name)) then
 some false
 else
 g (add64 e 1)
 else
 (zY n t0 a.columns).bind fun b =>
 (zeV n a.name).bind fun j =>
 if ((((!j) || (decide (a.kind < 0))) || (decide (5 < a.kind))) || (b == 0)) then
 some false
 else
 if (((decide (a.range.hi < a.range.lo)) || (decide (a.range.lo < (-9999)))) || (decide (9999 < a.range.hi))) then
 some false
 else
 if ((((a.kind == 0) || (a.kind == 2)) || (a.kind == 3)) && ((a.range.lo != 0) || (a.range.hi != 1))) then
 some false
 else
 (zbE n a.kind).bind fun h =>
 if h then
 if (a.first != c) then
 some false
 else
 f (add64 c b, d)
 else
 if (a.first != d) then
 some false
 else
 f (c, add64 d b)
def zav.l1 (n : Nat) (t0 : List Int) (t1 : List Table) (c : (Int × Int × Int) → Option Bool) (s : Int × Int × Int) : Option Bool :=
 if (decide (s.2.2 < (t1.length : Int))) then
 jn (fun (a : Int × Int) =>
 c (a.1, a.2, add64 s.2.2 1)) fun b =>
 (idx t1 s.2.2).bind fun d =>
 loopF (zav.l2 n t0 t1 s.1 s.2.1 s.2.2 b d) n 0
 else
 some ((decide (s.1 ≤ 128)) && (decide (s.2.1 ≤ 64)))
def zav (n : Nat) (t0 : List Int) (t1 : List Table) : Option Bool :=
 grd ((decide (4 < (t0.length : Int))) || (zaX n t0).isSome) <|
 if (((decide (4 < (t0.length : Int))) || (!((zaX n t0).getD default))) || (decide (12 < (t1.length : Int)))) then
 some false
 else
 loopF (zav.l1 n t0 t1) n (0, 0, 0)
def zaB.l2 (n : Nat) (t0 : List Int) (t1 : List Table) (t2 : Bool) (a : Int) (c : ((List Range) × Int) → Option (List Range)) (d : ((List Range) × Int) → Option (List Range)) (s : (List Range) × Int) : Option (List Range) :=
 (idx t1 a).bind fun e =>
 (zbE n e.kind).bind fun b =>
 grd (!(b == t2) || (idx t1 a).isSome) <|
 grd (!(b == t2) || (zY n t0 (((idx t1 a).getD default).columns)).isSome) <|
 if ((b == t2) && (decide (s.2 < ((zY n t0 (((idx t1 a).getD default).columns)).getD default)))) then
 (idx t1 a).bind fun f =>
 (app 16 s.1 [f.range]).bind fun g =>
 d (g, add64 s.2 1)
 else
 c (s.1, add64 a 1)
def zaB.l1 (n : Nat) (t0 : List Int) (t1 : List Table) (t2 : Bool) (a : ((List Range) × Int) → Option (List Range)) (s : (List Range) × Int) : Option (List Range) :=
 if (decide (s.2 < (t1.length : Int))) then
 loopF (zaB.l2 n t0 t1 t2 s.2 a) n (s.1, 0)
 else
 some s.1
def zaB (n : Nat) (t0 : List Int) (t1 : List Table) (t2 : Bool) : Option (List Range) :=
 (zav n t0 t1).bind fun a =>
 if (!a) then
 some ([] : List Range)
 else
 loopF (zaB.l1 n t0 t1 t2) n (([] : List Range), 0)
def zb2 (n : Nat) (t0 : Model) : Option (List Range) :=
 (zaB n t0.sorts t0.tables true).bind fun a =>
 some a
def zbs.l2 (n : Nat) (a : List Range) (d : (Int × Int) → Option Bool) (s : Int × Int) : Option Bool :=
 if (decide (s.2 < (a.length : Int))) then
 (idx a s.2).bind fun b =>
 (idx a s.2).bind fun c =>
 if (decide (4096 < mul64 s.1 (add64 (sub64 b.hi c.lo) 1))) then
 some false
 else
 d (mul64 s.1 (add64 (sub64 b.hi c.lo) 1), add64 s.2 1)
 else
 some true
def zbs.l1 (n : Nat) (t0 : Model) (c : Int → Option Bool) (a : Int) : Option Bool :=
 if (decide (a < (t0.actions.length : Int))) then
 (idx t0.actions a).bind fun d =>
 if (decide (4 < (d.effect.hold.length : Int))) then
 some false
 else
 c (add64 a 1)
 else
 (zb2 n t0).bind fun b =>
 if (decide (12 < (b.length : Int))) then
 some false
 else
 loopF (zbs.l2 n b) n (1, 0)
def zbs (n : Nat) (t0 : Model) : Option Bool :=
 (zm n t0).bind fun a =>
 if (((!a) || (decide (12 < (t0.actions.length : Int)))) || (decide (40 < (t0.constraints.length : Int)))) then
 some false
 else
 loopF (zbs.l1 n t0) n 0
def zaj.l1 (n : Nat) (t0 : List (List UInt8)) (c : Int → Option Bool) (a : Int) : Option Bool :=
 if (decide (a < (t0.length : Int))) then
 (idx t0 a).bind fun d =>
 (zeV n d).bind fun b =>
 grd ((!b) || (cut t0 0 a).isSome) <|
 grd ((!b) || (idx t0 a).isSome) <|
 grd ((!b) || (zcb n ((cut t0 0 a).getD default) ((idx t0 a).getD default)).isSome) <|
 if ((!b) || ((zcb n ((cut t0 0 a).getD default) ((idx t0 a).getD default)).getD default)) then
 some false
 else
 c (add64 a 1)
 else
 some true
def zaj (n : Nat) (t0 : List (List UInt8)) : Option Bool :=
 loopF (zaj.l1 n t0) n 0
def zaC.l1 (n : Nat) (t0 : List Term) (t1 : List Term) (b : Int → Option Bool) (a : Int) : Option Bool :=
 if (decide (a < (t0.length : Int))) then
 (idx t0 a).bind fun c =>
 (idx t1 a).bind fun d =>
 if (!decide ((c : Term) = d)) then
 some false
 else
 b (add64 a 1)
 else
 some true
def zaC (n : Nat) (t0 : List Term) (t1 : List Term) : Option Bool :=
 if ((t0.length : Int) != (t1.length : Int)) then
 some false
 else
 loopF (zaC.l1 n t0 t1) n 0
def zb7 (n : Nat) (t0 : Row) (t1 : Row) : Option Bool :=
 grd (!(t0.bound == t1.bound) || (zaC n t0.terms t1.terms).isSome) <|
 some ((t0.bound == t1.bound) && ((zaC n t0.terms t1.terms).getD default))
def z9 (n : Nat) (t0 : Int) (t1 : Int) : Option Bool :=
 some ((decide (neg64 t1 ≤ t0)) && (decide (t0 ≤ t1)))
def zbX.l1 (n : Nat) (t0 : Row) (t1 : Int) (c : Int → Option Bool) (b : Int) : Option Bool :=
 if (decide (b < (t0.terms.length : Int))) then
 (idx t0.terms b).bind fun a =>
 grd (((decide (a.cell < 0)) || (decide (t1 ≤ a.cell))) || (!(decide (0 < b)) || (idx t0.terms (sub64 b 1)).isSome)) <|
 grd (((((decide (a.cell < 0)) || (decide (t1 ≤ a.cell))) || ((decide (0 < b)) && (decide (a.cell ≤ ((idx t0.terms (sub64 b 1)).getD default).cell)))) || (a.factor == 0)) || (z9 n a.factor 1000).isSome) <|
 if (((((decide (a.cell < 0)) || (decide (t1 ≤ a.cell))) || ((decide (0 < b)) && (decide (a.cell ≤ ((idx t0.terms (sub64 b 1)).getD default).cell)))) || (a.factor == 0)) || (!((z9 n a.factor 1000).getD default))) then
 some false
 else
 c (add64 b 1)
 else
 (z9 n t0.bound 1000000000).bind fun d =>
 some d
def zbX (n : Nat) (t0 : Row) (t1 : Int) : Option Bool :=
 loopF (zbX.l1 n t0 t1) n 0
def zbi.l1 (n : Nat) (t0 : Model) (t1 : Constraint) (c : Int → Option Bool) (b : Int) : Option Bool :=
 if (decide (b < (t0.tables.length : Int))) then
 (idx t0.tables b).bind fun a =>
 grd (!((a.kind == 0) && ((a.columns.length : Int) == 2)) || (idx a.columns 0).isSome) <|
 grd (!((a.kind == 0) && ((a.columns.length : Int) == 2)) || (idx a.columns 1).isSome) <|
 grd (!((((a.kind == 0) && ((a.columns.length : Int) == 2)) && (((idx a.columns 0).getD default) == ((idx a.columns 1).getD default))) && (a.first == t1.first)) || (idx a.columns 0).isSome) <|
 grd (!((((a.kind == 0) && ((a.columns.length : Int) == 2)) && (((idx a.columns 0).getD default) == ((idx a.columns 1).getD default))) && (a.first == t1.first)) || (idx t0.sorts ((idx a.columns 0).getD default)).isSome) <|
 if (((((a.kind == 0) && ((a.columns.length : Int) == 2)) && (((idx a.columns 0).getD default) == ((idx a.columns 1).getD default))) && (a.first == t1.first)) && (((idx t0.sorts ((idx a.columns 0).getD default)).getD default) == t1.size)) then
 some true
 else
 c (add64 b 1)
 else
 some false
def zbi (n : Nat) (t0 : Model) (t1 : Constraint) : Option Bool :=
 if ((decide (0 < (t1.row.terms.length : Int))) || (t1.row.bound != 0)) then
 some false
 else
 loopF (zbi.l1 n t0 t1) n 0
def zL.l2 (n : Nat) (t0 : Model) (b : List Range) (d : Int → Option Bool) (c : Int) : Option Bool :=
 if (decide (c < (t0.constraints.length : Int))) then
 (idx t0.constraints c).bind fun a =>
 if ((decide (a.family < 0)) || (decide ((t0.families.length : Int) ≤ a.family))) then
 some false
 else
 grd (!(((a.kind == 0) && (a.first == 0)) && (a.size == 0)) || (zbX n a.row (b.length : Int)).isSome) <|
 grd (!(!((((a.kind == 0) && (a.first == 0)) && (a.size == 0)) && ((zbX n a.row (b.length : Int)).getD default))) || (!((decide (mul64 2 (b.length : Int) ≤ c)) && (a.kind == 1)) || (zbi n t0 a).isSome)) <|
 if ((!((((a.kind == 0) && (a.first == 0)) && (a.size == 0)) && ((zbX n a.row (b.length : Int)).getD default))) && (!(((decide (mul64 2 (b.length : Int) ≤ c)) && (a.kind == 1)) && ((zbi n t0 a).getD default)))) then
 some false
 else
 d (add64 c 1)
 else
 some true
def zL.l1 (n : Nat) (t0 : Model) (b : List Range) (e : Int → Option Bool) (a : Int) : Option Bool :=
 if (decide (a < (b.length : Int))) then
 (idx b a).bind fun f =>
 (idx b a).bind fun d =>
 (idx t0.constraints (mul64 2 a)).bind fun g =>
 (zb7 n g.row (⟨[(⟨a, (-1)⟩ : Term)], neg64 f.lo⟩ : Row)).bind fun c =>
 grd ((!c) || (idx t0.constraints (add64 (mul64 2 a) 1)).isSome) <|
 grd ((!c) || (zb7 n (((idx t0.constraints (add64 (mul64 2 a) 1)).getD default).row) (⟨[(⟨a, 1⟩ : Term)], d.hi⟩ : Row)).isSome) <|
 if ((!c) || (!((zb7 n (((idx t0.constraints (add64 (mul64 2 a) 1)).getD default).row) (⟨[(⟨a, 1⟩ : Term)], d.hi⟩ : Row)).getD default))) then
 some false
 else
 e (add64 a 1)
 else
 loopF (zL.l2 n t0 b) n 0
def zL (n : Nat) (t0 : Model) : Option Bool :=
 (zb2 n t0).bind fun a =>
 if ((decide ((t0.constraints.length : Int) < mul64 2 (a.length : Int))) || (decide (512 < (t0.constraints.length : Int)))) then
 some false
 else
 loopF (zL.l1 n t0 a) n 0
def zbB.l1 (n : Nat) (t0 : List Int) (t1 : List Int) (b : Int → Option Bool) (a : Int) : Option Bool :=
 if ((decide (a < (t0.length : Int))) && (decide (a < (t1.length : Int)))) then
 (idx t0 a).bind fun c =>
 (idx t1 a).bind fun d =>
 if (c != d) then
 (idx t0 a).bind fun e =>
 (idx t1 a).bind fun f =>
 some (decide (e < f))
 else
 b (add64 a 1)
 else
 some (decide ((t0.length : Int) < (t1.length : Int)))
def zbB (n : Nat) (t0 : List Int) (t1 : List Int) : Option Bool :=
 loopF (zbB.l1 n t0 t1) n 0
def zc8.l1 (n : Nat) (t0 : List Int) (t1 : List Int) (c : ((List Int) × Int × Int) → Option (List Int)) (s : (List Int) × Int × Int) : Option (List Int) :=
 let a := s.2.2
 if (decide (0 ≤ a)) then
 (idx t1 a).bind fun d =>
 (idx t0 d).bind fun e =>
 (rem64 s.2.1 e).bind fun f =>
 (idx s.1 a).bind fun j =>
 (sto s.1 a f).bind fun b =>
 (idx t1 a).bind fun g =>
 (idx t0 g).bind fun h =>
 (quo64 s.2.1 h).bind fun i =>
 c (b, i, sub64 a 1)
 else
 some s.1
def zc8 (n : Nat) (t0 : List Int) (t1 : List Int) (t2 : Int) : Option (List Int) :=
 (mkl 8 (t1.length : Int) (0 : Int)).bind fun a =>
 loopF (zc8.l1 n t0 t1) n (a, t2, sub64 (t1.length : Int) 1)
def zb6.l1 (n : Nat) (t0 : List Int) (t1 : List Table) (t2 : Bool) (t3 : Int) (d : Int → Option (Int × (List Int) × Bool)) (a : Int) : Option (Int × (List Int) × Bool) :=
 if (decide (a < (t1.length : Int))) then
 (idx t1 a).bind fun b =>
 (idx t1 a).bind fun e =>
 (zbE n e.kind).bind fun c =>
 grd (!(((c == t2) && (decide (0 ≤ t3))) && (decide (0 ≤ sub64 t3 b.first))) || (idx t1 a).isSome) <|
 grd (!(((c == t2) && (decide (0 ≤ t3))) && (decide (0 ≤ sub64 t3 b.first))) || (zY n t0 (((idx t1 a).getD default).columns)).isSome) <|
 if ((((c == t2) && (decide (0 ≤ t3))) && (decide (0 ≤ sub64 t3 b.first))) && (decide (sub64 t3 b.first < ((zY n t0 (((idx t1 a).getD default).columns)).getD default)))) then
 (idx t1 a).bind fun f =>
 (zc8 n t0 f.columns (sub64 t3 b.first)).bind fun g =>
 some (a, g, true)
 else
 d (add64 a 1)
 else
 some (0, [], false)
def zb6 (n : Nat) (t0 : List Int) (t1 : List Table) (t2 : Bool) (t3 : Int) : Option (Int × (List Int) × Bool) :=
 (zav n t0 t1).bind fun a =>
 if (!a) then
 some (0, [], false)
 else
 loopF (zb6.l1 n t0 t1 t2 t3) n 0
def zhz (n : Nat) (t0 : Int) : Option Bool :=
 some ((t0 == 2) || (t0 == 3))
def zT.l3 (n : Nat) (t0 : Model) (t1 : Effect) (e : Int → Option Bool) (b : Int) : Option Bool :=
 if (decide (b < (t1.updates.length : Int))) then
 (idx t1.updates b).bind fun a =>
 (zb6 n t0.sorts t0.tables false a.cell).bind fun d =>
 grd ((!d.2.2) || (!(decide (0 < b)) || (idx t1.updates (sub64 b 1)).isSome)) <|
 if ((!d.2.2) || ((decide (0 < b)) && (decide (a.cell ≤ ((idx t1.updates (sub64 b 1)).getD default).cell)))) then
 some false
 else
 (idx t0.tables d.1).bind fun c =>
 (zhz n c.kind).bind fun f =>
 if (f && (((a.kind != 0) && (a.kind != 1)) || (a.value != 0))) then
 some false
 else
 (zhz n c.kind).bind fun g =>
 if ((!g) && (((a.kind != 2) || (decide (a.value < c.range.lo))) || (decide (c.range.hi < a.value)))) then
 some false
 else
 e (add64 b 1)
 else
 some ((decide ((t1.hold.length : Int) ≤ 8)) && (decide ((t1.updates.length : Int) ≤ 32)))
def zT.l2 (n : Nat) (t0 : Model) (t1 : Effect) (c : List Range) (b : Int → Option Bool) (a : Int) : Option Bool :=
 if (decide (a < (t1.hold.length : Int))) then
 (idx t1.hold a).bind fun d =>
 (zbX n d (c.length : Int)).bind fun e =>
 if (!e) then
 some false
 else
 b (add64 a 1)
 else
 loopF (zT.l3 n t0 t1) n 0
def zT.l1 (n : Nat) (t0 : Model) (t1 : Effect) (c : List Range) (d : Int → Option Bool) (b : Int) : Option Bool :=
 if (decide (b < (t1.delta.length : Int))) then
 (idx t1.delta b).bind fun a =>
 grd (((decide (a.cell < 0)) || (decide ((c.length : Int) ≤ a.cell))) || (!(decide (0 < b)) || (idx t1.delta (sub64 b 1)).isSome)) <|
 grd (((((decide (a.cell < 0)) || (decide ((c.length : Int) ≤ a.cell))) || ((decide (0 < b)) && (decide (a.cell ≤ ((idx t1.delta (sub64 b 1)).getD default).cell)))) || (a.add == 0)) || (z9 n a.add 1000000000).isSome) <|
 if (((((decide (a.cell < 0)) || (decide ((c.length : Int) ≤ a.cell))) || ((decide (0 < b)) && (decide (a.cell ≤ ((idx t1.delta (sub64 b 1)).getD default).cell)))) || (a.add == 0)) || (!((z9 n a.add 1000000000).getD default))) then
 some false
 else
 d (add64 b 1)
 else
 loopF (zT.l2 n t0 t1 c) n 0
def zT (n : Nat) (t0 : Model) (t1 : Effect) : Option Bool :=
 (zb2 n t0).bind fun a =>
 loopF (zT.l1 n t0 t1 a) n 0
def zq.l4 (n : Nat) (t0 : Model) (e : Int) (g : Int → Option Bool) (a : Action) (h : Int → Option Bool) (b : Int) : Option Bool :=
 if (decide (b < (a.arguments.length : Int))) then
 (idx t0.operations a.operation).bind fun i =>
 (idx i.sorts b).bind fun c =>
 grd (!(decide (c < 0)) || (idx a.arguments b).isSome) <|
 grd (!(decide (c < 0)) || (z9 n ((idx a.arguments b).getD default) 9999).isSome) <|
 grd (((decide (c < 0)) && (!((z9 n ((idx a.arguments b).getD default) 9999).getD default))) || (!(decide (0 ≤ c)) || (idx a.arguments b).isSome)) <|
 grd (((decide (c < 0)) && (!((z9 n ((idx a.arguments b).getD default) 9999).getD default))) || (!(decide (0 ≤ c)) || ((decide (((idx a.arguments b).getD default) < 0)) || (idx a.arguments b).isSome))) <|
 grd (((decide (c < 0)) && (!((z9 n ((idx a.arguments b).getD default) 9999).getD default))) || (!(decide (0 ≤ c)) || ((decide (((idx a.arguments b).getD default) < 0)) || (idx t0.sorts c).isSome))) <|
 if (((decide (c < 0)) && (!((z9 n ((idx a.arguments b).getD default) 9999).getD default))) || ((decide (0 ≤ c)) && ((decide (((idx a.arguments b).getD default) < 0)) || (decide (((idx t0.sorts c).getD default) ≤ ((idx a.arguments b).getD default)))))) then
 some false
 else
 h (add64 b 1)
 else
 jn (fun (k : Unit) =>
 (zT n t0 a.effect).bind fun j =>
 if (!j) then
 some false
 else
 g (add64 e 1)) fun f =>
 if (decide (0 < e)) then
 (idx t0.actions (sub64 e 1)).bind fun d =>
 grd ((decide (a.operation < d.operation)) || (!(d.operation == a.operation) || (zbB n d.arguments a.arguments).isSome)) <|
 if ((decide (a.operation < d.operation)) || ((d.operation == a.operation) && (!((zbB n d.arguments a.arguments).getD default)))) then
 some false
 else
 f ()
 else
 f ()
def zq.l3 (n : Nat) (t0 : Model) (c : Int → Option Bool) (b : Int) : Option Bool :=
 if (decide (b < (t0.actions.length : Int))) then
 (idx t0.actions b).bind fun a =>
 grd (((decide (a.operation < 0)) || (decide ((t0.operations.length : Int) ≤ a.operation))) || (idx t0.operations a.operation).isSome) <|
 if (((decide (a.operation < 0)) || (decide ((t0.operations.length : Int) ≤ a.operation))) || ((a.arguments.length : Int) != ((((idx t0.operations a.operation).getD default).sorts).length : Int))) then
 some false
 else
 loopF (zq.l4 n t0 b c a) n 0
 else
 some true
def zq.l2 (n : Nat) (t0 : Model) (g : Int) (d : ((List (List UInt8)) × Int) → Option Bool) (a : Operation) (f : List (List UInt8)) (e : Int → Option Bool) (b : Int) : Option Bool :=
 if (decide (b < (a.sorts.length : Int))) then
 (idx a.sorts b).bind fun c =>
 grd ((decide (c < (-1))) || (idx a.sorts b).isSome) <|
 if ((decide (c < (-1))) || (decide ((t0.sorts.length : Int) ≤ ((idx a.sorts b).getD default)))) then
 some false
 else
 e (add64 b 1)
 else
 if (decide (3 < (a.sorts.length : Int))) then
 some false
 else
 d (f, add64 g 1)
def zq.l1 (n : Nat) (t0 : Model) (b : ((List (List UInt8)) × Int) → Option Bool) (s : (List (List UInt8)) × Int) : Option Bool :=
 if (decide (s.2 < (t0.operations.length : Int))) then
 (idx t0.operations s.2).bind fun a =>
 (app 16 s.1 [a.name]).bind fun c =>
 loopF (zq.l2 n t0 s.2 b a c) n 0
 else
 grd ((decide (8 < (t0.operations.length : Int))) || (zaj n s.1).isSome) <|
 if (((decide (8 < (t0.operations.length : Int))) || (!((zaj n s.1).getD default))) || (decide (256 < (t0.actions.length : Int)))) then
 some false
 else
 loopF (zq.l3 n t0) n 0
def zq (n : Nat) (t0 : Model) : Option Bool :=
 loopF (zq.l1 n t0) n (([] : List (List UInt8)), 0)
def zap.l1 (n : Nat) (self : Model → Int → Int → Int → Option Bool) (t0 : Model) (t1 : Int) (t2 : Int) (t3 : Int) (c : Int → Option Bool) (a : Int) : Option Bool :=
 if ((decide (a < (t0.hides.length : Int))) && (decide (0 < t3))) then
 (idx t0.hides a).bind fun b =>
 grd (!(b.table == t1) || (idx t0.hides a).isSome) <|
 grd (!(b.table == t1) || (self t0 (((idx t0.hides a).getD default).to) t2 (sub64 t3 1)).isSome) <|
 if ((b.table == t1) && ((self t0 (((idx t0.hides a).getD default).to) t2 (sub64 t3 1)).getD default)) then
 some true
 else
 c (add64 a 1)
 else
 some false
def zap.body (n : Nat) (self : Model → Int → Int → Int → Option Bool) (t0 : Model) (t1 : Int) (t2 : Int) (t3 : Int) : Option Bool :=
 if (t1 == t2) then
 some true
 else
 loopF (zap.l1 n self t0 t1 t2 t3) n 0
def zap : Nat → Model → Int → Int → Int → Option Bool
 | 0, _, _, _, _ => none
 | n + 1, t0, t1, t2, t3 => zap.body n (zap n) t0 t1 t2 t3
def zal.l2 (n : Nat) (t0 : Model) (b : Int → Option Bool) (a : Int) : Option Bool :=
 if (decide (a < (t0.hides.length : Int))) then
 (idx t0.hides a).bind fun c =>
 (idx t0.hides a).bind fun d =>
 (zap n t0 c.to d.table (t0.tables.length : Int)).bind fun e =>
 if e then
 some false
 else
 b (add64 a 1)
 else
 some true
def zal.l1 (n : Nat) (t0 : Model) (e : Int → Option Bool) (d : Int) : Option Bool :=
 if (decide (d < (t0.hides.length : Int))) then
 (idx t0.hides d).bind fun a =>
 if (((((decide (a.table < 0)) || (decide ((t0.tables.length : Int) ≤ a.table))) || (decide (a.to < 0))) || (decide ((t0.tables.length : Int) ≤ a.to))) || (a.table == a.to)) then
 some false
 else
 (idx t0.tables a.table).bind fun b =>
 (idx t0.tables a.to).bind fun c =>
 grd ((((((b.kind != 0) || (c.kind != 0)) || (decide (a.column < 0))) || (decide ((b.columns.length : Int) ≤ a.column))) || ((c.columns.length : Int) != 1)) || (idx c.columns 0).isSome) <|
 grd ((((((b.kind != 0) || (c.kind != 0)) || (decide (a.column < 0))) || (decide ((b.columns.length : Int) ≤ a.column))) || ((c.columns.length : Int) != 1)) || (idx b.columns a.column).isSome) <|
 if ((((((b.kind != 0) || (c.kind != 0)) || (decide (a.column < 0))) || (decide ((b.columns.length : Int) ≤ a.column))) || ((c.columns.length : Int) != 1)) || (((idx c.columns 0).getD default) != ((idx b.columns a.column).getD default))) then
 some false
 else
 e (add64 d 1)
 else
 loopF (zal.l2 n t0) n 0
def zal (n : Nat) (t0 : Model) : Option Bool :=
 if (decide (12 < (t0.hides.length : Int))) then
 some false
 else
 loopF (zal.l1 n t0) n 0
def zfj (n : Nat) (t0 : Model) : Option Bool :=
 (zav n t0.sorts t0.tables).bind fun b =>
 grd (((!b) || (decide (24 < (t0.families.length : Int)))) || (zaj n t0.families).isSome) <|
 if (((!b) || (decide (24 < (t0.families.length : Int)))) || (!((zaj n t0.families).getD default))) then
 some false
 else
 (zL n t0).bind fun a =>
 grd (!a || (zq n t0).isSome) <|
 grd (!(a && ((zq n t0).getD default)) || (zal n t0).isSome) <|
 some ((a && ((zq n t0).getD default)) && ((zal n t0).getD default))
def zaD.l1 (n : Nat) (t0 : Effect) (t1 : Int) (b : (Int × Int) → Option Int) (s : Int × Int) : Option Int :=
 if (decide (s.2 < (t0.delta.length : Int))) then
 jn (fun (e : Int) =>
 b (e, add64 s.2 1)) fun a =>
 (idx t0.delta s.2).bind fun c =>
 if (c.cell == t1) then
 (idx t0.delta s.2).bind fun d =>
 a (add64 s.1 d.add)
 else
 a s.1
 else
 some s.1
def zaD (n : Nat) (t0 : Effect) (t1 : Int) : Option Int :=
 loopF (zaD.l1 n t0 t1) n (0, 0)
def za3.l1 (n : Nat) (t0 : Effect) (t1 : Row) (a : (Int × Int) → Option Int) (s : Int × Int) : Option Int :=
 if (decide (s.2 < (t1.terms.length : Int))) then
 (idx t1.terms s.2).bind fun b =>
 (idx t1.terms s.2).bind fun c =>
 (zaD n t0 c.cell).bind fun d =>
 a (add64 s.1 (mul64 b.factor d), add64 s.2 1)
 else
 some s.1
def za3 (n : Nat) (t0 : Effect) (t1 : Row) : Option Int :=
 loopF (za3.l1 n t0 t1) n (0, 0)
def zfk (n : Nat) (t0 : Model) (t1 : Question) : Option Bool :=
 (zfj n t0).bind fun b =>
 if ((((((!b) || (decide (t1.e < 0))) || (decide (t1.f < 0))) || (decide ((t0.actions.length : Int) ≤ t1.e))) || (decide ((t0.actions.length : Int) ≤ t1.f))) || (decide (t1.target.index < 0))) then
 some false
 else
 if t1.target.hold then
 (idx t0.actions t1.e).bind fun a =>
 some (decide (t1.target.index < (a.effect.hold.length : Int)))
 else
 some ((decide (t1.e ≤ t1.f)) && (decide (t1.target.index < (t0.constraints.length : Int))))
def zbd.l1 (n : Nat) (t0 : Effect) (t1 : Constraint) (b : Int → Option Bool) (a : Int) : Option Bool :=
 if (decide (a < mul64 t1.size t1.size)) then
 (zaD n t0 (add64 t1.first a)).bind fun c =>
 if (decide (0 < c)) then
 some true
 else
 b (add64 a 1)
 else
 some false
def zbd (n : Nat) (t0 : Effect) (t1 : Constraint) : Option Bool :=
 loopF (zbd.l1 n t0 t1) n 0
def zf7 (n : Nat) (t0 : Int) : Option Bool :=
 some ((t0 == 0) || (t0 == 1))
def zb8.l1 (n : Nat) (t0 : Model) (t1 : Table) (a : (Int × Int) → Option Int) (s : Int × Int) : Option Int :=
 if (decide (s.2 < (t1.columns.length : Int))) then
 (idx t1.columns s.2).bind fun b =>
 (idx t0.sorts b).bind fun c =>
 a (mul64 s.1 c, add64 s.2 1)
 else
 some s.1
def zb8 (n : Nat) (t0 : Model) (t1 : Table) : Option Int :=
 loopF (zb8.l1 n t0 t1) n (1, 0)
def zbH.l2 (n : Nat) (t0 : Model) (a : Int) (b : ((List Range)) → Option (List Range)) (c : ((List Range) × Int) → Option (List Range)) (s : (List Range) × Int) : Option (List Range) :=
 (idx t0.tables a).bind fun d =>
 (zb8 n t0 d).bind fun e =>
 if (decide (s.2 < e)) then
 (idx t0.tables a).bind fun f =>
 (app 16 s.1 [f.range]).bind fun g =>
 c (g, add64 s.2 1)
 else
 b s.1
def zbH.l1 (n : Nat) (t0 : Model) (c : ((List Range) × Int) → Option (List Range)) (s : (List Range) × Int) : Option (List Range) :=
 if (decide (s.2 < (t0.tables.length : Int))) then
 jn (fun (b : (List Range)) =>
 c (b, add64 s.2 1)) fun a =>
 (idx t0.tables s.2).bind fun d =>
 (zf7 n d.kind).bind fun e =>
 if e then
 loopF (zbH.l2 n t0 s.2 a) n (s.1, 0)
 else
 a s.1
 else
 some s.1
def zbH (n : Nat) (t0 : Model) : Option (List Range) :=
 loopF (zbH.l1 n t0) n (([] : List Range), 0)
def zeb.l1 (n : Nat) (t0 : List Int) (t1 : Int) (b : Int → Option Bool) (a : Int) : Option Bool :=
 if (decide (a < (t0.length : Int))) then
 (idx t0 a).bind fun c =>
 if (c == t1) then
 some true
 else
 b (add64 a 1)
 else
 some false
def zeb (n : Nat) (t0 : List Int) (t1 : Int) : Option Bool :=
 loopF (zeb.l1 n t0 t1) n 0
def zbZ.l1 (n : Nat) (t0 : Row) (a : ((List Term) × Int) → Option Row) (s : (List Term) × Int) : Option Row :=
 if (decide (s.2 < (t0.terms.length : Int))) then
 (idx t0.terms s.2).bind fun b =>
 (app 16 s.1 [b]).bind fun c =>
 a (c, add64 s.2 1)
 else
 some (⟨s.1, t0.bound⟩ : Row)
def zbZ (n : Nat) (t0 : Row) : Option Row :=
 loopF (zbZ.l1 n t0) n (([] : List Term), 0)
def za7.l1 (n : Nat) (t0 : Constraint) (t1 : Effect) (a : ((List Int) × Int) → Option Graph) (s : (List Int) × Int) : Option Graph :=
 if (decide (s.2 < mul64 t0.size t0.size)) then
 (zaD n t1 (add64 t0.first s.2)).bind fun b =>
 (app 8 s.1 [sub64 1 b]).bind fun c =>
 a (c, add64 s.2 1)
 else
 some (⟨t0.first, t0.size, s.1⟩ : Graph)
def za7 (n : Nat) (t0 : Constraint) (t1 : Effect) : Option Graph :=
 loopF (za7.l1 n t0 t1) n (([] : List Int), 0)
def zaM.l1 (n : Nat) (t0 : Row) (t1 : Int) (a : ((List Term) × Int) → Option Row) (s : (List Term) × Int) : Option Row :=
 if (decide (s.2 < (t0.terms.length : Int))) then
 (idx t0.terms s.2).bind fun b =>
 (idx t0.terms s.2).bind fun c =>
 (app 16 s.1 [(⟨b.cell, neg64 c.factor⟩ : Term)]).bind fun d =>
 a (d, add64 s.2 1)
 else
 some (⟨s.1, t1⟩ : Row)
def zaM (n : Nat) (t0 : Row) (t1 : Int) : Option Row :=
 loopF (zaM.l1 n t0 t1) n (([] : List Term), 0)
def zfm (n : Nat) (t0 : Int) (t1 : List Bool) : Option Bool :=
 some (((decide (1 ≤ t0)) && (decide (t0 ≤ 6))) && ((t1.length : Int) == (mul64 t0 t0)))
def zbF.l1 (n : Nat) (t0 : List Int) (t1 : Int) (b : Int → Option Bool) (a : Int) : Option Bool :=
 if (decide (a < (t0.length : Int))) then
 (idx t0 a).bind fun c =>
 if (c == t1) then
 some true
 else
 b (add64 a 1)
 else
 some false
def zbF (n : Nat) (t0 : List Int) (t1 : Int) : Option Bool :=
 loopF (zbF.l1 n t0 t1) n 0
def zcy.l1 (n : Nat) (t0 : List Int) (t1 : Int) (a : ((List Int) × Int) → Option (List Int)) (s : (List Int) × Int) : Option (List Int) :=
 if (decide (s.2 < (t0.length : Int))) then
 (idx t0 s.2).bind fun b =>
 (app 8 s.1 [b]).bind fun c =>
 a (c, add64 s.2 1)
 else
 (app 8 s.1 [t1]).bind fun d =>
 some d
def zcy (n : Nat) (t0 : List Int) (t1 : Int) : Option (List Int) :=
 loopF (zcy.l1 n t0 t1) n (([] : List Int), 0)
def zy.l4 (n : Nat) (t0 : Int) (t1 : List Bool) (b : List (List Int)) (a : Int) (g : ((List (List Int)) × (List (List Int)) × Int) → Option (List (List Int))) (l : Int) (e : List (List Int)) (h : ((List (List Int)) × Int) → Option (List (List Int))) (s : (List (List Int)) × Int) : Option (List (List Int)) :=
 if (decide (s.2 < t0)) then
 jn (fun (f : (List (List Int))) =>
 h (f, add64 s.2 1)) fun d =>
 (idx t1 (add64 (mul64 l t0) s.2)).bind fun c =>
 grd (!c || (idx b a).isSome) <|
 grd (!c || (zbF n ((idx b a).getD default) s.2).isSome) <|
 if (c && (!((zbF n ((idx b a).getD default) s.2).getD default))) then
 (idx b a).bind fun i =>
 (zcy n i s.2).bind fun j =>
 (app 24 s.1 [j]).bind fun k =>
 d k
 else
 d s.1
 else
 g (e, s.1, add64 a 1)
def zy.l3 (n : Nat) (t0 : Int) (t1 : List Bool) (b : List (List Int)) (p : Int) (g : ((List (List Int)) × (List (List Int)) × Int) → Option (List (List Int))) (h : ((List (List Int)) × (List (List Int)) × Int) → Option (List (List Int))) (s : (List (List Int)) × (List (List Int)) × Int) : Option (List (List Int)) :=
 let a := s.2.2
 if (decide (a < (b.length : Int))) then
 (idx b a).bind fun i =>
 (idx i 0).bind fun d =>
 (idx b a).bind fun j =>
 (idx b a).bind fun k =>
 (idx j (sub64 (k.length : Int) 1)).bind fun e =>
 jn (fun (f : (List (List Int))) =>
 loopF (zy.l4 n t0 t1 b a h e f) n (s.2.1, add64 d 1)) fun c =>
 (idx t1 (add64 (mul64 e t0) d)).bind fun l =>
 if l then
 (idx b a).bind fun m =>
 (app 24 s.1 [m]).bind fun o =>
 c o
 else
 c s.1
 else
 g (s.1, s.2.1, add64 p 1)
def zy.l2 (n : Nat) (t0 : Int) (t1 : List Bool) (a : ((List (List Int)) × (List (List Int)) × Int) → Option (List (List Int))) (s : (List (List Int)) × (List (List Int)) × Int) : Option (List (List Int)) :=
 if (decide (s.2.2 < t0)) then
 loopF (zy.l3 n t0 t1 s.2.1 s.2.2 a) n (s.1, ([] : List (List Int)), 0)
 else
 some s.1
def zy.l1 (n : Nat) (t0 : Int) (t1 : List Bool) (a : ((List (List Int)) × Int) → Option (List (List Int))) (s : (List (List Int)) × Int) : Option (List (List Int)) :=
 if (decide (s.2 < t0)) then
 (app 24 s.1 [[s.2]]).bind fun b =>
 a (b, add64 s.2 1)
 else
 loopF (zy.l2 n t0 t1) n (([] : List (List Int)), s.1, 0)
def zy (n : Nat) (t0 : Int) (t1 : List Bool) : Option (List (List Int)) :=
 (zfm n t0 t1).bind fun a =>
 if (!a) then
 some ([] : List (List Int))
 else
 loopF (zy.l1 n t0 t1) n (([] : List (List Int)), 0)
def zX.l3 (n : Nat) (t1 : Constraint) (t2 : Effect) (t3 : Effect) (e : List (List Int)) (g : List (List Row)) (c : Int) (h : ((List (List Row))) → Option (List (List Row))) (i : ((List Row) × Bool × Bool × Int) → Option (List (List Row))) (s : (List Row) × Bool × Bool × Int) : Option (List (List Row)) :=
 let f := s.2.2.1
 let d := s.2.2.2
 (idx e c).bind fun o =>
 if (decide (d < (o.length : Int))) then
 (idx e c).bind fun p =>
 (idx e c).bind fun q =>
 (rem64 (add64 d 1) (q.length : Int)).bind fun r =>
 (idx p r).bind fun a =>
 (idx e c).bind fun t =>
 (idx t d).bind fun b =>
 grd (s.2.1 || (zaD n t2 (add64 (add64 t1.first (mul64 b t1.size)) a)).isSome) <|
 grd (f || (zaD n t3 (add64 (add64 t1.first (mul64 b t1.size)) a)).isSome) <|
 (zaD n t2 (add64 (add64 t1.first (mul64 b t1.size)) a)).bind fun j =>
 (zaD n t3 (add64 (add64 t1.first (mul64 b t1.size)) a)).bind fun k =>
 (app 32 s.1 [(⟨[(⟨add64 (add64 t1.first (mul64 b t1.size)) a, (-1)⟩ : Term)], add64 (add64 (-1) j) k⟩ : Row)]).bind fun l =>
 i (l, s.2.1 || (decide (0 < ((zaD n t2 (add64 (add64 t1.first (mul64 b t1.size)) a)).getD default))), f || (decide (0 < ((zaD n t3 (add64 (add64 t1.first (mul64 b t1.size)) a)).getD default))), add64 d 1)
 else
 if (s.2.1 && f) then
 (app 24 g [s.1]).bind fun m =>
 h m
 else
 h g
def zX.l2 (n : Nat) (t1 : Constraint) (t2 : Effect) (t3 : Effect) (a : List (List Int)) (d : ((List (List Row)) × Int) → Option (List (List Row))) (s : (List (List Row)) × Int) : Option (List (List Row)) :=
 if (decide (s.2 < (a.length : Int))) then
 jn (fun (b : (List (List Row))) =>
 d (b, add64 s.2 1)) fun c =>
 loopF (zX.l3 n t1 t2 t3 a s.1 s.2 c) n (([] : List Row), false, false, 0)
 else
 some s.1
def zX.l1 (n : Nat) (t0 : List Range) (t1 : Constraint) (t2 : Effect) (t3 : Effect) (a : ((List Bool) × Int) → Option (List (List Row))) (s : (List Bool) × Int) : Option (List (List Row)) :=
 if (decide (s.2 < mul64 t1.size t1.size)) then
 (idx t0 (add64 t1.first s.2)).bind fun b =>
 (zaD n t2 (add64 t1.first s.2)).bind fun c =>
 (zaD n t3 (add64 t1.first s.2)).bind fun d =>
 (app 1 s.1 [decide (1 ≤ add64 (add64 b.hi c) d)]).bind fun e =>
 a (e, add64 s.2 1)
 else
 (zy n t1.size s.1).bind fun f =>
 loopF (zX.l2 n t1 t2 t3 f) n (([] : List (List Row)), 0)
def zX (n : Nat) (t0 : List Range) (t1 : Constraint) (t2 : Effect) (t3 : Effect) : Option (List (List Row)) :=
 loopF (zX.l1 n t0 t1 t2 t3) n (([] : List Bool), 0)
def za2 (n : Nat) (t0 : Int) (t1 : Int) (t2 : Int) : Option Bool :=
 some ((decide (t1 ≤ t0)) && (decide (t0 ≤ t2)))
def zc9.l1 (n : Nat) (t0 : Row) (t1 : Int) (b : (Int × Int) → Option Bool) (s : Int × Int) : Option Bool :=
 if (decide (s.2 < (t0.terms.length : Int))) then
 (idx t0.terms s.2).bind fun a =>
 grd ((((decide (a.cell ≤ s.1)) || (decide (t1 ≤ a.cell))) || (a.factor == 0)) || (za2 n a.factor (-1000) 1000).isSome) <|
 if ((((decide (a.cell ≤ s.1)) || (decide (t1 ≤ a.cell))) || (a.factor == 0)) || (!((za2 n a.factor (-1000) 1000).getD default))) then
 some false
 else
 b (a.cell, add64 s.2 1)
 else
 (za2 n t0.bound (-1000000000) 1000000000).bind fun c =>
 some c
def zc9 (n : Nat) (t0 : Row) (t1 : Int) : Option Bool :=
 loopF (zc9.l1 n t0 t1) n ((-1), 0)
def zae.l2 (n : Nat) (t0 : List Range) (t1 : List Row) (b : Int → Option Bool) (a : Int) : Option Bool :=
 if (decide (a < (t1.length : Int))) then
 (idx t1 a).bind fun c =>
 (zc9 n c (t0.length : Int)).bind fun d =>
 if (!d) then
 some false
 else
 b (add64 a 1)
 else
 some true
def zae.l1 (n : Nat) (t0 : List Range) (t1 : List Row) (c : Int → Option Bool) (a : Int) : Option Bool :=
 if (decide (a < (t0.length : Int))) then
 (idx t0 a).bind fun d =>
 (za2 n d.lo (-1000000) 1000000).bind fun b =>
 grd ((!b) || (idx t0 a).isSome) <|
 grd ((!b) || (za2 n (((idx t0 a).getD default).hi) (-1000000) 1000000).isSome) <|
 if ((!b) || (!((za2 n (((idx t0 a).getD default).hi) (-1000000) 1000000).getD default))) then
 some false
 else
 c (add64 a 1)
 else
 loopF (zae.l2 n t0 t1) n 0
def zae (n : Nat) (t0 : List Range) (t1 : List Row) : Option Bool :=
 if (decide (128 < (t0.length : Int))) then
 some false
 else
 loopF (zae.l1 n t0 t1) n 0
def zbt.l1 (n : Nat) (t0 : List Range) (b : Int → Option Bool) (a : Int) : Option Bool :=
 if (decide (a < (t0.length : Int))) then
 (idx t0 a).bind fun c =>
 (idx t0 a).bind fun d =>
 if (decide (d.hi < c.lo)) then
 some true
 else
 b (add64 a 1)
 else
 some false
def zbt (n : Nat) (t0 : List Range) : Option Bool :=
 loopF (zbt.l1 n t0) n 0
def zW.l3 (n : Nat) (f : Int) (d : Int → Option Bool) (b : Graph) (e : Int → Option Bool) (a : Int) : Option Bool :=
 if (decide (a < (b.least.length : Int))) then
 (idx b.least a).bind fun c =>
 grd ((decide (c < (-4000000))) || (idx b.least a).isSome) <|
 if ((decide (c < (-4000000))) || (decide (4000000 < ((idx b.least a).getD default)))) then
 some false
 else
 e (add64 a 1)
 else
 d (add64 f 1)
def zW.l2 (n : Nat) (t0 : System) (c : Int → Option Bool) (b : Int) : Option Bool :=
 if (decide (b < (t0.graphs.length : Int))) then
 (idx t0.graphs b).bind fun a =>
 if (((((decide (a.size < 1)) || (decide (6 < a.size))) || (decide (a.first < 0))) || (decide (sub64 (t0.box.length : Int) (mul64 a.size a.size) < a.first))) || ((a.least.length : Int) != (mul64 a.size a.size))) then
 some false
 else
 loopF (zW.l3 n b c a) n 0
 else
 some true
def zW.l1 (n : Nat) (t0 : System) (c : Int → Option Bool) (a : Int) : Option Bool :=
 if (decide (a < (t0.cases.length : Int))) then
 (idx t0.cases a).bind fun b =>
 grd ((decide (64 < (b.length : Int))) || (idx t0.cases a).isSome) <|
 grd ((decide (64 < (b.length : Int))) || (zae n t0.box ((idx t0.cases a).getD default)).isSome) <|
 if ((decide (64 < (b.length : Int))) || (!((zae n t0.box ((idx t0.cases a).getD default)).getD default))) then
 some false
 else
 c (add64 a 1)
 else
 loopF (zW.l2 n t0) n 0
def zW (n : Nat) (t0 : System) : Option Bool :=
 grd ((((decide (1024 < (t0.rows.length : Int))) || (decide (64 < (t0.graphs.length : Int)))) || (decide (1024 < (t0.cases.length : Int)))) || (zae n t0.box t0.rows).isSome) <|
 grd (((((decide (1024 < (t0.rows.length : Int))) || (decide (64 < (t0.graphs.length : Int)))) || (decide (1024 < (t0.cases.length : Int)))) || (!((zae n t0.box t0.rows).getD default))) || (zbt n t0.box).isSome) <|
 if (((((decide (1024 < (t0.rows.length : Int))) || (decide (64 < (t0.graphs.length : Int)))) || (decide (1024 < (t0.cases.length : Int)))) || (!((zae n t0.box t0.rows).getD default))) || ((zbt n t0.box).getD default)) then
 some false
 else
 loopF (zW.l1 n t0) n 0
def zk.l5 (n : Nat) (t0 : Model) (t1 : Question) (c : Action) (d : Action) (m : List Range) (h : List Row) (t : ((List Graph) × Int) → Option (System × Int)) (s : (List Graph) × Int) : Option (System × Int) :=
 if (decide (s.2 < (t0.constraints.length : Int))) then
 jn (fun (r : (List Graph)) =>
 t (r, add64 s.2 1)) fun j =>
 (idx t0.constraints s.2).bind fun a =>
 if (a.kind != 1) then
 j s.1
 else
 (za7 n a (⟨[], [], []⟩ : Effect)).bind fun u =>
 (app 40 s.1 [u]).bind fun q =>
 jn (fun (o : (List Graph)) =>
 (zbd n d.effect a).bind fun z =>
 if (z && (t1.e != t1.f)) then
 (za7 n a d.effect).bind fun A =>
 (app 40 o [A]).bind fun B =>
 j B
 else
 j o) fun p =>
 (zbd n c.effect a).bind fun w =>
 if w then
 (za7 n a c.effect).bind fun x =>
 (app 40 q [x]).bind fun y =>
 p y
 else
 p q
 else
 jn (fun (g : (List Row) × (List (List Row))) =>
 (zW n (⟨m, g.1, s.1, g.2⟩ : System)).bind fun K =>
 if (!K) then
 some ((⟨[], [], [], []⟩ : System), 8)
 else
 some ((⟨m, g.1, s.1, g.2⟩ : System), 0)) fun i =>
 if t1.target.hold then
 (idx c.effect.hold t1.target.index).bind fun k =>
 (za3 n d.effect k).bind fun C =>
 (zaM n k (sub64 (add64 (neg64 k.bound) C) 1)).bind fun D =>
 (app 32 h [D]).bind fun E =>
 i (E, [])
 else
 (idx t0.constraints t1.target.index).bind fun b =>
 if (b.kind == 0) then
 (za3 n c.effect b.row).bind fun F =>
 (za3 n d.effect b.row).bind fun G =>
 (zaM n b.row (sub64 (add64 (add64 (neg64 b.row.bound) F) G) 1)).bind fun H =>
 (app 32 h [H]).bind fun I =>
 i (I, [])
 else
 (zX n m b c.effect d.effect).bind fun l =>
 if ((l.length : Int) == 0) then
 (app 32 h [(⟨[], (-1)⟩ : Row)]).bind fun J =>
 i (J, l)
 else
 i (h, l)
def zk.l4 (n : Nat) (t0 : Model) (t1 : Question) (h : Action) (a : Action) (i : List Range) (b : ((List Row) × Int) → Option (System × Int)) (s : (List Row) × Int) : Option (System × Int) :=
 if ((decide (s.2 < (a.effect.hold.length : Int))) && (t1.e != t1.f)) then
 (idx a.effect.hold s.2).bind fun c =>
 (zbZ n c).bind fun d =>
 (app 32 s.1 [d]).bind fun g =>
 b (g, add64 s.2 1)
 else
 loopF (zk.l5 n t0 t1 h a i s.1) n (([] : List Graph), 0)
def zk.l3 (n : Nat) (t0 : Model) (t1 : Question) (a : Action) (f : Action) (g : List Range) (b : ((List Row) × Int) → Option (System × Int)) (s : (List Row) × Int) : Option (System × Int) :=
 if (decide (s.2 < (a.effect.hold.length : Int))) then
 (idx a.effect.hold s.2).bind fun c =>
 (zbZ n c).bind fun d =>
 (app 32 s.1 [d]).bind fun e =>
 b (e, add64 s.2 1)
 else
 loopF (zk.l4 n t0 t1 a f g) n (s.1, 0)
def zk.l2 (n : Nat) (t0 : Model) (t1 : Question) (t2 : List Int) (g : Action) (h : Action) (o : List Range) (j : ((List Row) × Int) → Option (System × Int)) (s : (List Row) × Int) : Option (System × Int) :=
 if (decide (s.2 < (t0.constraints.length : Int))) then
 jn (fun (i : (List Row)) =>
 j (i, add64 s.2 1)) fun d =>
 (idx t0.constraints s.2).bind fun a =>
 if (a.kind != 0) then
 d s.1
 else
 (za3 n g.effect a.row).bind fun c =>
 (za3 n h.effect a.row).bind fun b =>
 jn (fun (m : Int) =>
 (zbZ n a.row).bind fun f =>
 (app 32 s.1 [(⟨f.terms, sub64 f.bound m⟩ : Row)]).bind fun l =>
 d l) fun e =>
 (zeb n t2 s.2).bind fun k =>
 if (k && (t1.target.hold || (t1.target.index != s.2))) then
 e (gmax (gmax (gmax 0 c) b) (add64 c b))
 else
 e (gmax (gmax 0 c) b)
 else
 loopF (zk.l3 n t0 t1 g h o) n (s.1, 0)
def zk.l1 (n : Nat) (t0 : Model) (t1 : Question) (t2 : List Int) (c : Int → Option (System × Int)) (a : Int) : Option (System × Int) :=
 if (decide (a < (t2.length : Int))) then
 (idx t2 a).bind fun b =>
 grd ((decide (b < 0)) || (idx t2 a).isSome) <|
 grd (((decide (b < 0)) || (decide ((t0.constraints.length : Int) ≤ ((idx t2 a).getD default)))) || (idx t2 a).isSome) <|
 grd (((decide (b < 0)) || (decide ((t0.constraints.length : Int) ≤ ((idx t2 a).getD default)))) || (idx t0.constraints ((idx t2 a).getD default)).isSome) <|
 if (((decide (b < 0)) || (decide ((t0.constraints.length : Int) ≤ ((idx t2 a).getD default)))) || ((((idx t0.constraints ((idx t2 a).getD default)).getD default).kind) != 0)) then
 some ((⟨[], [], [], []⟩ : System), 2)
 else
 c (add64 a 1)
 else
 (idx t0.actions t1.e).bind fun d =>
 (idx t0.actions t1.f).bind fun g =>
 (zbH n t0).bind fun h =>
 loopF (zk.l2 n t0 t1 t2 d g h) n (([] : List Row), 0)
def zk (n : Nat) (t0 : Model) (t1 : Question) (t2 : List Int) : Option (System × Int) :=
 (zfk n t0 t1).bind fun a =>
 if (!a) then
 some ((⟨[], [], [], []⟩ : System), 1)
 else
 loopF (zk.l1 n t0 t1 t2) n 0
def zcx.l1 (n : Nat) (t0 : List Range) (t1 : List Range) (b : Int → Option Bool) (a : Int) : Option Bool :=
 if (decide (a < (t0.length : Int))) then
 (idx t0 a).bind fun c =>
 (idx t1 a).bind fun d =>
 if (!decide ((c : Range) = d)) then
 some false
 else
 b (add64 a 1)
 else
 some true
def zcx (n : Nat) (t0 : List Range) (t1 : List Range) : Option Bool :=
 if ((t0.length : Int) != (t1.length : Int)) then
 some false
 else
 loopF (zcx.l1 n t0 t1) n 0
def zbu.l1 (n : Nat) (t0 : Row) (t1 : Row) (b : Int → Option Bool) (a : Int) : Option Bool :=
 if (decide (a < (t0.terms.length : Int))) then
 (idx t0.terms a).bind fun c =>
 (idx t1.terms a).bind fun d =>
 if (!decide ((c : Term) = d)) then
 some false
 else
 b (add64 a 1)
 else
 some true
def zbu (n : Nat) (t0 : Row) (t1 : Row) : Option Bool :=
 if ((t0.terms.length : Int) != (t1.terms.length : Int)) then
 some false
 else
 loopF (zbu.l1 n t0 t1) n 0
def zbC.l1 (n : Nat) (t0 : List Row) (t1 : List Row) (d : Int → Option Bool) (a : Int) : Option Bool :=
 if (decide (a < (t0.length : Int))) then
 (idx t0 a).bind fun b =>
 (idx t1 a).bind fun c =>
 grd ((b.bound != c.bound) || (idx t0 a).isSome) <|
 grd ((b.bound != c.bound) || (idx t1 a).isSome) <|
 grd ((b.bound != c.bound) || (zbu n ((idx t0 a).getD default) ((idx t1 a).getD default)).isSome) <|
 if ((b.bound != c.bound) || (!((zbu n ((idx t0 a).getD default) ((idx t1 a).getD default)).getD default))) then
 some false
 else
 d (add64 a 1)
 else
 some true
def zbC (n : Nat) (t0 : List Row) (t1 : List Row) : Option Bool :=
 if ((t0.length : Int) != (t1.length : Int)) then
 some false
 else
 loopF (zbC.l1 n t0 t1) n 0
def zbY.l1 (n : Nat) (t0 : List Int) (t1 : List Int) (b : Int → Option Bool) (a : Int) : Option Bool :=
 if (decide (a < (t0.length : Int))) then
 (idx t0 a).bind fun c =>
 (idx t1 a).bind fun d =>
 if (c != d) then
 some false
 else
 b (add64 a 1)
 else
 some true
def zbY (n : Nat) (t0 : List Int) (t1 : List Int) : Option Bool :=
 if ((t0.length : Int) != (t1.length : Int)) then
 some false
 else
 loopF (zbY.l1 n t0 t1) n 0
def zaR.l2 (n : Nat) (t0 : System) (t1 : System) (b : Int → Option Bool) (a : Int) : Option Bool :=
 if (decide (a < (t0.cases.length : Int))) then
 (idx t0.cases a).bind fun c =>
 (idx t1.cases a).bind fun d =>
 (zbC n c d).bind fun e =>
 if (!e) then
 some false
 else
 b (add64 a 1)
 else
 some true
def zaR.l1 (n : Nat) (t0 : System) (t1 : System) (d : Int → Option Bool) (a : Int) : Option Bool :=
 if (decide (a < (t0.graphs.length : Int))) then
 (idx t0.graphs a).bind fun b =>
 (idx t1.graphs a).bind fun c =>
 grd ((b.first != c.first) || (idx t0.graphs a).isSome) <|
 grd ((b.first != c.first) || (idx t1.graphs a).isSome) <|
 grd (((b.first != c.first) || ((((idx t0.graphs a).getD default).size) != (((idx t1.graphs a).getD default).size))) || (idx t0.graphs a).isSome) <|
 grd (((b.first != c.first) || ((((idx t0.graphs a).getD default).size) != (((idx t1.graphs a).getD default).size))) || (idx t1.graphs a).isSome) <|
 grd (((b.first != c.first) || ((((idx t0.graphs a).getD default).size) != (((idx t1.graphs a).getD default).size))) || (zbY n (((idx t0.graphs a).getD default).least) (((idx t1.graphs a).getD default).least)).isSome) <|
 if (((b.first != c.first) || ((((idx t0.graphs a).getD default).size) != (((idx t1.graphs a).getD default).size))) || (!((zbY n (((idx t0.graphs a).getD default).least) (((idx t1.graphs a).getD default).least)).getD default))) then
 some false
 else
 d (add64 a 1)
 else
 loopF (zaR.l2 n t0 t1) n 0
def zaR (n : Nat) (t0 : System) (t1 : System) : Option Bool :=
 (zcx n t0.box t1.box).bind fun a =>
 grd ((!a) || (zbC n t0.rows t1.rows).isSome) <|
 if ((((!a) || (!((zbC n t0.rows t1.rows).getD default))) || ((t0.graphs.length : Int) != (t1.graphs.length : Int))) || ((t0.cases.length : Int) != (t1.cases.length : Int))) then
 some false
 else
 loopF (zaR.l1 n t0 t1) n 0
def zcf (n : Nat) (t0 : Model) (t1 : Question) (t2 : List Int) : Option Bool :=
 (zg2 n ).bind fun c =>
 if (!c) then
 some false
 else
 (zbs n t0).bind fun d =>
 if ((!d) || (decide (50 < (t2.length : Int)))) then
 some true
 else
 (ze n t0 t1 t2).bind fun a =>
 (zk n t0 t1 t2).bind fun b =>
 grd (!(a.2 == b.2) || (zaR n a.1 b.1).isSome) <|
 some ((a.2 == b.2) && ((zaR n a.1 b.1).getD default))
end
theorem ziG (n : Nat) (r : Model) (h : zhl n = some r) : Pure pg 36 [] (Model.enc r) := by
 refine Pure.ot Tryz.func36 I Tryz.ntmps36 I fun A w => .sr<|.allocZ I I I I (.agg Zc30 (ds' := [eA [], eB [], eC [], eD [], eE [], eF [], eG []]) (.o (.o (.o (.o (.o (.o .o1))))))) I<|.nil<|.sr<|.p I (.castD (Range.enc (⟨0, 3⟩ : Range)) I (.build I Pl87 (.agg Zc87 (ds' := [_, _]) (.e .e1)) I I))<|.p I (.castD (Table.enc (⟨[99], 1, [], (⟨0, 3⟩ : Range), 0⟩ : Table)) I (.build I Pl127 (.agg Zc127 (ds' := [_, _, eA [], _, _, _]) (.e (.e (.o (.e (.e .e1)))))) I I))<|.p I (.buildSl [_] I I E23 I (fun _ => I) I (enc := Table.enc))<|.p I (.buildSl [_] I I E24 I (fun _ => I) I (enc := D.str))<|.p I (.castD (Term.enc (⟨0, (-1)⟩ : Term)) I (.build I Pl41 (.agg Zc41 (ds' := [_, _]) (.e .e1)) I I))<|.p I (.buildSl [_] I I E31 I (fun _ => I) I (enc := Term.enc))<|.p I (.castD (Row.enc (⟨[(⟨0, (-1)⟩ : Term)], 0⟩ : Row)) I (.build I Pl33 (.agg Zc33 (ds' := [_, _]) (.e .e1)) I I))<|.p I (.castD (Constraint.enc (⟨0, 0, (⟨[(⟨0, (-1)⟩ : Term)], 0⟩ : Row), 0, 0⟩ : Constraint)) I (.build I Pl78 (.agg Zc78 (ds' := [_, _, _, _, _, _]) (.e (.e (.e (.e (.e .e1)))))) I I))<|.p I (.castD (Term.enc (⟨0, 1⟩ : Term)) I (.build I Pl41 (.agg Zc41 (ds' := [_, _]) (.e .e1)) I I))<|.p I (.buildSl [_] I I E31 I (fun _ => I) I (enc := Term.enc))<|.p I (.castD (Row.enc (⟨[(⟨0, 1⟩ : Term)], 3⟩ : Row)) I (.build I Pl33 (.agg Zc33 (ds' := [_, _]) (.e .e1)) I I))<|.p I (.castD (Constraint.enc (⟨0, 0, (⟨[(⟨0, 1⟩ : Term)], 3⟩ : Row), 0, 0⟩ : Constraint)) I (.build I Pl78 (.agg Zc78 (ds' := [_, _, _, _, _, _]) (.e (.e (.e (.e (.e .e1)))))) I I))<|.p I (.buildSl [_, _] I I E25 I (fun _ => I) I (enc := Constraint.enc))<|.p I (.castD (Operation.enc (⟨[116, 119, 111], false, []⟩ : Operation)) I (.build I Pl129 (.agg Zc129 (ds' := [_, _, eA []]) (.e (.e .o1))) I I))<|.p I (.buildSl [_] I I E26 I (fun _ => I) I (enc := Operation.enc))<|.p I (.castD (Change.enc (⟨0, 2⟩ : Change)) I (.build I Pl131 (.agg Zc131 (ds' := [_, _]) (.e .e1)) I I))<|.p I (.buildSl [_] I I E79 I (fun _ => I) I (enc := Change.enc))<|.p I (.castD (Effect.enc (⟨[(⟨0, 2⟩ : Change)], [], []⟩ : Effect)) I (.build I Pl82 (.agg Zc82 (ds' := [_, eH [], eI []]) (.e (.o .o1))) I I))<|.p I (.castD (Action.enc (⟨0, [], (⟨[(⟨0, 2⟩ : Change)], [], []⟩ : Effect)⟩ : Action)) I (.build I Pl84 (.agg Zc84 (ds' := [_, eA [], _, _, _]) (.e (.o (.e (.e .e1))))) I I))<|.p I (.buildSl [_] I I E27 I (fun _ => I) I (enc := Action.enc))<|.p I (.castD (Model.enc (⟨[], [(⟨[99], 1, [], (⟨0, 3⟩ : Range), 0⟩ : Table)], [[99]], [(⟨0, 0, (⟨[(⟨0, (-1)⟩ : Term)], 0⟩ : Row), 0, 0⟩ : Constraint), (⟨0, 0, (⟨[(⟨0, 1⟩ : Term)], 3⟩ : Row), 0, 0⟩ : Constraint)], [(⟨[116, 119, 111], false, []⟩ : Operation)], [(⟨0, [], (⟨[(⟨0, 2⟩ : Change)], [], []⟩ : Effect)⟩ : Action)], []⟩ : Model)) I (.build I Pl30 (.agg Zc30 (ds' := [eA [], _, _, _, _, _, eG []]) (.o (.e (.e (.e (.e (.e .o1))))))) I I))<|.store I I I I I I (.ofD I) C30 I (yd I)<|.nil<|.keep [.box 30 [.d (eA []), .d (eB [(⟨[99], 1, [], (⟨0, 3⟩ : Range), 0⟩ : Table)]), .d (eC [[99]]), .d (.sl 6 (List.map Constraint.enc [(⟨0, 0, (⟨[(⟨0, (-1)⟩ : Term)], 0⟩ : Row), 0, 0⟩ : Constraint), (⟨0, 0, (⟨[(⟨0, 1⟩ : Term)], 3⟩ : Row), 0, 0⟩ : Constraint)])), .d (eE [(⟨[116, 119, 111], false, []⟩ : Operation)]), .d (eF [(⟨0, [], (⟨[(⟨0, 2⟩ : Change)], [], []⟩ : Effect)⟩ : Action)]), .d (eG [])]] [0] (.c I .nil) I<|.ret ?_
 cases h
 exact zh9 I I Y30 (.v (.v (.v (.v (.v (.v .v1))))))
theorem zdL (n : Nat) (t0 : List Int) (t1 : Int → Option Bool) (F1 : D) (hF1 : ∀ (q0 : Int) (y : Bool), t1 q0 = some y → Dyn pg F1 [.int q0] (.bool y)) (r : Int) (h : zN n t0 t1 = some r) : Pure pg 199 [eA t0, F1] (.int r) := by
 refine Pure.ot Tryz.func199 I Tryz.ntmps199 I fun A w => .sr<|.z I<|.nil<|.seq<|.sr<|.m I<|.p I (.len I U22 I)<|.m I<|.nil<|.block<|.loopS [0, 1, 7] (fun (v : Int) => [(8, .d (.int v))]) (fun (v : Int) => []) (.c2 I<|.c I .nil) h ⟨_, Fz4 I<|Fz2 I<|FzE⟩ (fun _ x7 h => ?_)
 refine .sr<|.p I (.ls I)<|.nil<|.keep [] [0, 1, 7, 8, 9] (.c4 I<|.c I .nil) I<|.seq<|.condS I h (fun h => ?_) fun h => ?_
 ·refine .skip<|.seq<|.block<|.sr<|.m I<|.z I<|.nil<|.sr<|.m I<|.m I<|.m I<|bK h fun x9 q9 h => .p I (.ix I U22 S3 q9)<|.p I (.ld Y3 I)<|bK h fun x10 q10 h => .p I (.dyn I I I (hF1 _ _ q10))<|.nil<|.condS I h (fun h => ?_) fun h => ?_
  ·refine .sr<|.m I<|.z I<|.nil<|.ret (rO h I)
  ·refine .skip<|.region<|.p I (.ad I)<|.m I<|.nil ⟨_, h, _, Fz4 I<|Fz2 I<|FzE⟩
 ·refine .exit<|.sr<|.z I<|.nil<|.ret (rO h I)
theorem zaG (n : Nat) (t0 : List Int) (t1 : Int → Option Bool) (F1 : D) (hF1 : ∀ (q0 : Int) (y : Bool), t1 q0 = some y → Dyn pg F1 [.int q0] (.bool y)) (r : Bool) (h : zr n t0 t1 = some r) : Pure pg 154 [eA t0, F1] (.bool r) := by
 refine Pure.ot Tryz.func154 I Tryz.ntmps154 I fun A w => .sr<|.z I<|.nil<|.sr<|.m I<|.m I<|bK h fun x1 q1 h => .p I (.call I (kC I) I (zdL _ _ _ _ hF1 _ q1))<|.p I (.ge I)<|.z I<|.nil<|.ret (rO h I)
theorem zfG (n : Nat) (t0 : Int) (t1 : Int) (t2 : Int) (r : Bool) (h : zds n t0 t1 t2 = some r) : Pure pg 144 [.int t0, .int t1, .int t2] (.bool r) := by
 refine Pure.ot Tryz.func144 I Tryz.ntmps144 I fun A w => .sr<|.z I<|.nil<|.seq<|.plain 8 I<|.m I<|.m I<|.p I (.ge I)<|.m I<|.jA 3 (decide (t0 ≤ t2)) I (fun b1 => ?_) ?_
 ·refine .qm I<|.qm I<|.q I (.le I)<|.nil I
 refine .nil<|.z I<|.nil<|.ret (rO h I)
theorem ziE (n : Nat) (t0 : Int) (r : Bool) (h : ze7 n t0 = some r) : Pure pg 192 [.int t0] (.bool r) := by
 refine Pure.ot Tryz.func192 I Tryz.ntmps192 I fun A w => .sr<|.z I<|.nil<|.sr<|.m I<|bK h fun x1 q1 h => .p I (.call I (kC I) I (zfG _ _ _ _ _ q1))<|.p I (.nt I)<|.z I<|.nil<|.ret (rO h I)
theorem zjV (n : Nat) (t0 : List Int) (r : Bool) (h : ze6 n t0 = some r) : Pure pg 142 [eA t0] (.bool r) := by
 refine Pure.ot Tryz.func142 I Tryz.ntmps142 I fun A w => .sr<|.z I<|.nil<|.sr<|.m I<|bK h fun x1 q1 h => .p I (.call I (kC I) I (zaG _ _ _ _ (fun q0 y hq => ⟨_, _, I, K192, ziE _ q0 _ hq⟩) _ q1))<|.p I (.nt I)<|.z I<|.nil<|.ret (rO h I)
theorem zef (n : Nat) (t0 : List Bool) (t1 : Bool) (r : Int) (h : zV n t0 t1 = some r) : Pure pg 217 [eJ t0, .bool t1] (.int r) := by
 refine Pure.ot Tryz.func217 I Tryz.ntmps217 I fun A w => .sr<|.z I<|.nil<|.seq<|.sr<|.m I<|.p I (.len I U144 I)<|.m I<|.nil<|.block<|.loopS [0, 1, 7] (fun (v : Int) => [(8, .d (.int v))]) (fun (v : Int) => []) (.c2 I<|.c I .nil) h ⟨_, Fz4 I<|Fz2 I<|FzE⟩ (fun _ x5 h => ?_)
 refine .sr<|.p I (.ls I)<|.nil<|.keep [] [0, 1, 7, 8, 9] (.c4 I<|.c I .nil) I<|.seq<|.condS I h (fun h => ?_) fun h => ?_
 ·refine .skip<|.seq<|.block<|.sr<|.m I<|.z I<|.nil<|.sr<|.m I<|.m I<|.m I<|bK h fun x7 q7 h => .p I (.ix I U144 S4 q7)<|.p I (.ld Y4 I)<|.p I (.beq I U4 I I)<|.nil<|.condS I h (fun h => ?_) fun h => ?_
  ·refine .sr<|.m I<|.z I<|.nil<|.ret (rO h I)
  ·refine .skip<|.region<|.p I (.ad I)<|.m I<|.nil ⟨_, h, _, Fz4 I<|Fz2 I<|FzE⟩
 ·refine .exit<|.sr<|.z I<|.nil<|.ret (rO h I)
theorem zdE (n : Nat) (t0 : List Bool) (t1 : Bool) (r : Bool) (h : zbz n t0 t1 = some r) : Pure pg 191 [eJ t0, .bool t1] (.bool r) := by
 refine Pure.ot Tryz.func191 I Tryz.ntmps191 I fun A w => .sr<|.z I<|.nil<|.sr<|.m I<|.m I<|bK h fun x1 q1 h => .p I (.call I (kC I) I (zef _ _ _ _ q1))<|.p I (.ge I)<|.z I<|.nil<|.ret (rO h I)
theorem zil (n : Nat) (t0 : List Bool) (r : Bool) (h : zfF n t0 = some r) : Pure pg 141 [eJ t0] (.bool r) := by
 refine Pure.ot Tryz.func141 I Tryz.ntmps141 I fun A w => .sr<|.z I<|.nil<|.sr<|.m I<|bK h fun x1 q1 h => .p I (.call I (kC I) I (zdE _ _ _ _ q1))<|.p I (.nt I)<|.z I<|.nil<|.ret (rO h I)
theorem zgb (n : Nat) (t0 : List UInt8) (t1 : Int → Option Bool) (F1 : D) (hF1 : ∀ (q0 : Int) (y : Bool), t1 q0 = some y → Dyn pg F1 [.val (.int .i32 q0)] (.bool y)) (r : List (List UInt8)) (h : zes n t0 t1 = some r) : Pure pg 265 [.str t0, F1] (eC r) := by
 refine Pure.ot Tryz.func265 I Tryz.ntmps265 I fun A w => .sr<|.p I (.nilS 1 (α := List UInt8) D.str I)<|.nil<|.seq<|.region ?_
 cases h
theorem zhK (n : Nat) (t0 : Int) (r : Bool) (h : zge n t0 = some r) : Pure pg 266 [.val (.int .i32 t0)] (.bool r) := by
 refine Pure.ot Tryz.func266 I Tryz.ntmps266 I fun A w => .sr<|.z I<|.nil<|.seq<|.sr<|.m I<|.p I (.conv I U21 U235 I)<|.p I (.le I)<|.nil<|.condS I h (fun h => ?_) fun h => ?_
 ·refine .seq<|.sr<|.m I<|.nil<|.block<|.join [] (fun (v : Bool) => [(7, .d (.bool v))]) (fun (v : Bool) => []) .nil h (fun k_2 h => ?_) (fun x1 h => ?_)
  ·refine .sr<|.p I (.eq I)<|.z I<|.nil<|.condS I h (fun h => ?_) fun h => ?_
   ·refine .skip ⟨_, h, _, Fz4 I trivial⟩
   ·refine .sr<|.p I (.eq I)<|.z I<|.nil<|.condS I h (fun h => ?_) fun h => ?_
    ·refine .skip ⟨_, h, _, Fz4 I trivial⟩
    ·refine .sr<|.p I (.eq I)<|.z I<|.nil<|.condS I h (fun h => ?_) fun h => ?_
     ·refine .skip ⟨_, h, _, Fz4 I trivial⟩
     ·refine .sr<|.p I (.eq I)<|.z I<|.nil<|.condS I h (fun h => ?_) fun h => ?_
      ·refine .skip ⟨_, h, _, Fz4 I trivial⟩
      ·refine .sr<|.p I (.eq I)<|.z I<|.nil<|.condS I h (fun h => ?_) fun h => ?_
       ·refine .skip ⟨_, h, _, Fz4 I trivial⟩
       ·refine .sr<|.p I (.eq I)<|.z I<|.nil<|.keep [] [6, 7] (.c2 I .nil) I<|.condS I h (fun h => ?_) fun h => ?_
        ·refine .skip ⟨_, h, _, Fz4 I trivial⟩
        ·refine .sr<|.p I (.eq I)<|.z I<|.nil<|.condS I h (fun h => ?_) fun h => ?_
         ·refine .skip ⟨_, h, _, Fz4 I trivial⟩
         ·refine .region<|.p I (.eq I)<|.z I<|.nil ⟨_, h, _, Fz4 I trivial⟩
  ·refine .condS I h (fun h => ?_) fun h => ?_
   ·refine .sr<|.z I<|.nil<|.keep [] [2] (.c I .nil) I<|.ret (rO h I)
   ·refine .skip<|.keep [] [] .nil I<|.sr<|.z I<|.nil<|.ret (rO h I)
 ·refine .skip<|.seq<|.region ?_
  cases h
theorem zib (n : Nat) (t0 : List UInt8) (r : List (List UInt8)) (h : zaT n t0 = some r) : Pure pg 255 [.str t0] (eC r) := by
 refine Pure.ot Tryz.func255 I Tryz.ntmps255 I fun A w => .sr<|.p I (.nilS 1 (α := List UInt8) D.str I)<|.nil<|.sr<|.z I<|.nil<|.sr<|.z I<|.nil<|.sr<|.z I<|.nil<|.seq<|.sr<|.z I<|.nil<|.block<|.loopS [0] (fun (v : Int × Int × Int × Int) => [(3, .d (.int v.1)), (4, .d (.int v.2.1)), (5, .d (.val (.int .u8 v.2.2.1))), (6, .d (.int v.2.2.2))]) (fun (v : Int × Int × Int × Int) => []) (.c I .nil) h ⟨_, Fz8 I trivial⟩ (fun _ v h => ?_)
 obtain ⟨x13, x14, x15, x16⟩ := v
 refine .seq<|.sr<|.m I<|.m I<|.p I (.len_str I U9 I)<|.p I (.ls I)<|.nil<|.keep [] [0, 3, 4, 5, 6, 16] (.c4 I<|.c2 I .nil) I<|.condS I h (fun h => ?_) fun h => ?_
 ·refine .skip<|.seq<|.block<|.sr<|.m I<|.m I<|bK h fun x18 q18 h => .p I (.sidx I I I U9 q18)<|.z I<|.nil<|.sr<|.m I<|.m I<|.p I (.bor I I I)<|.z I<|.nil<|.sr<|.m I<|bK h fun x19 q19 h => .p I (.idxG (l := tab0) I I I gm0 U274 S5 tl0 q19)<|.p I (.ld Y5 I)<|.p I (.conv I U5 U3 I)<|.z I<|.nil<|.sr<|.m I<|.m I<|.m I<|.p I (.bnot I I)<|.p I (.band I I I)<|.p I (.ad I)<|.z I<|.nil<|.keep [] [0, 3, 5, 6, 8] (.c4 I<|.c I .nil) I<|.region<|.m I ?_
  refine .z I<|.nil<|.region<|.m I<|.p I (.ad I)<|.z I<|.nil ⟨_, h, _, Fz8 I trivial⟩
 ·refine .exit<|.seq<|.sr<|.m I<|.p I (.ge I)<|.nil<|.condS I h (fun h => ?_) fun h => ?_
  ·refine .sr<|.m I<|bK h fun x20 q20 h => .p I (.call I (kC I) I (zgb _ _ _ _ (fun q0 y hq => ⟨_, _, I, K266, zhK _ q0 _ hq⟩) _ q20))<|.z I<|.nil<|.ret ?_
   cases h
   exact zbv I (.d _)
  ·refine .skip<|.sr<|.m I<|bK h fun x21 q21 h => .makeVec (enc := D.str) (z := ([] : List UInt8)) I I I I E24 I I I (.val Zv9) q21<|.z I<|.nil<|.sr<|.z I<|.nil<|.sr<|.z I<|.nil<|.sr<|.z I<|.nil<|.seq<|.block<|.loopS [0, 9, 10] (fun (v : Int) => [(12, .d (.int v))]) (fun (v : Int) => []) (.c2 I<|.c I .nil) h ⟨_, Fz4 I<|Fz2 I<|FzE⟩ (fun _ x30 h => ?_)
   refine .seq<|.seq<|.plain 12 I<|.m I<|.m I<|.p I (.len_str I U9 I)<|.p I (.ls I)<|.m I<|gK h fun c33 h => gK h fun c34 h => .jA 6 (((idx tab0 ((sidx t0 x30).getD default)).getD default) != 0) I (fun b32 => ?_) ?_
   ·refine .qm I<|.qm I<|.q I (.sidx I I I U9 (someD (impT c33 b32)))<|.q I (.idxG (l := tab0) I I I gm0 U274 S5 tl0 (someD (impT c34 b32)))<|.q I (.ld Y5 I)<|.q I (.ne I)<|.nil I
   refine .nil<|.nil<|.keep [.vec 9 1 (List.map D.str x21)] [0, 9, 10, 12, 53] (.c4 I<|.c I .nil) I<|.condS I h (fun h => ?_) fun h => ?_
   ·refine .skip<|.block<|.region<|.m I<|.p I (.ad I)<|.z I<|.nil ⟨_, h, _, Fz4 I<|Fz2 I<|FzE⟩
   ·refine .exit<|.sr<|.m I<|.z I<|.nil<|.seq<|.block<|.loopS [0] (fun (v : (List (List UInt8)) × Int × Int × Int) => [(9, .vec 0 (List.length v.1)), (10, .d (.int v.2.1)), (11, .d (.int v.2.2.1)), (12, .d (.int v.2.2.2))]) (fun (v : (List (List UInt8)) × Int × Int × Int) => [(0, .vec 9 1 (List.map D.str v.1))]) (.c I .nil) h ⟨_, Fz8 I trivial⟩ (fun _ v h => ?_)
    obtain ⟨b0_79, x80, x81, x82⟩ := v
    refine .seq<|.sr<|.m I<|.m I<|.p I (.len_str I U9 I)<|.p I (.ls I)<|.nil<|.keep [.vec 9 1 (List.map D.str b0_79)] [0, 9, 10, 11, 12, 60] (.c4 I<|.c2 I .nil) I<|.condS I h (fun h => ?_) fun h => ?_
    ·refine .skip<|.block<|.seq<|.sr<|.m I<|.m I<|bK h fun x84 q84 h => .p I (.sidx I I I U9 q84)<|bK h fun x85 q85 h => .p I (.idxG (l := tab0) I I I gm0 U274 S5 tl0 q85)<|.p I (.ld Y5 I)<|.p I (.eq I)<|.nil<|.condS I h (fun h => ?_) fun h => ?_
     ·refine .sr<|.m I<|.p I (.ad I)<|.z I<|.nil<|.exit ⟨_, h, _, Fz8 I trivial⟩
     ·refine .skip<|.sr<|.m I<|.m I<|.m I<|.m I<|.m I<|bK h fun x86 q86 h => .p I (.cutStrLH I I I I U9 q86)<|bK h fun x87 q87 h => .p I (.idxV I I I I I U24 S9 q87)<|bK h fun b0_88 hb0_88 h => .storeEl (enc := D.str) I I I I I I I I I C9 hb0_88<|.relen 9 I (zdk hb0_88)<|.relen 69 I (zdk hb0_88)<|.nil<|.sr<|.m I<|.p I (.ad I)<|.z I<|.nil<|.keep [.vec 9 1 (List.map D.str b0_88)] [0, 9, 10, 12] (.c4 I .nil) I<|.sr<|.m I<|.p I (.ad I)<|.z I<|.nil<|.seq<|.block<|.loopS [0, 9, 10] (fun (v : Int) => [(12, .d (.int v))]) (fun (v : Int) => []) (.c2 I<|.c I .nil) h ⟨_, Fz4 I<|Fz2 I<|FzE⟩ (fun _ x97 h => ?_)
      refine .seq<|.seq<|.plain 12 I<|.m I<|.m I<|.p I (.len_str I U9 I)<|.p I (.ls I)<|.m I<|gK h fun c100 h => gK h fun c101 h => .jA 6 (((idx tab0 ((sidx t0 x97).getD default)).getD default) != 0) I (fun b99 => ?_) ?_
      ·refine .qm I<|.qm I<|.q I (.sidx I I I U9 (someD (impT c100 b99)))<|.q I (.idxG (l := tab0) I I I gm0 U274 S5 tl0 (someD (impT c101 b99)))<|.q I (.ld Y5 I)<|.q I (.ne I)<|.nil I
      refine .nil<|.nil<|.keep [.vec 9 1 (List.map D.str b0_88)] [0, 9, 10, 12, 91] (.c4 I<|.c I .nil) I<|.condS I h (fun h => ?_) fun h => ?_
      ·refine .skip<|.block<|.region<|.m I<|.p I (.ad I)<|.z I<|.nil ⟨_, h, _, Fz4 I<|Fz2 I<|FzE⟩
      ·refine .exit<|.region<|.m I<|.z I<|.nil ⟨_, h, _, Fz8 I trivial⟩
    ·refine .exit<|.join [] (fun (v : (List (List UInt8))) => [(9, .vec 0 (List.length v))]) (fun (v : (List (List UInt8))) => [(0, .vec 9 1 (List.map D.str v))]) .nil h (fun k_103 h => ?_) (fun b0_102 h => ?_)
     ·refine .sr<|.m I<|.m I<|.p I (.len_str I U9 I)<|.p I (.ls I)<|.nil<|.condS I h (fun h => ?_) fun h => ?_
      ·refine .region<|.m I<|.m I<|.m I<|.m I<|bK h fun x104 q104 h => .p I (.cutStrL I I I U9 q104)<|bK h fun x105 q105 h => .p I (.idxV I I I I I U24 S9 q105)<|bK h fun b0_106 hb0_106 h => .storeEl (enc := D.str) I I I I I I I I I C9 hb0_106<|.relen 9 I (zdk hb0_106)<|.relen 99 I (zdk hb0_106)<|.nil ⟨_, h, _, Fz4 I trivial⟩
      ·refine .skip ⟨_, h, _, Fz4 I trivial⟩
     ·refine .sr<|.m I<|.z I<|.nil<|.keep [.vec 9 1 (List.map D.str b0_102)] [2] (.c I .nil) I<|.ret ?_
      cases h
      exact zbv I (.vec I (by simp))
theorem zh3 (n : Nat) (r : GMap (List UInt8) Bool) (h : zbn n = some r) : Pure pg 238 [] (GMap.dat (fun l : List UInt8 => Value.string ⟨l.toArray⟩) D.bool r) := by
 refine Pure.ot Tryz.func238 I Tryz.ntmps238 I fun A w => .sr<|.z I<|.nil<|.sr<|.makeMap (fun l : List UInt8 => Value.string ⟨l.toArray⟩) D.bool I I I I<|.z I<|.nil<|.seq<|.sr<|bK h fun x1 q1 h => .p I (.call I (kC I) I (zib _ _ _ q1))<|.p I (.len I U24 I)<|.m I<|.nil<|.block<|.loopS [1, 5, 6] (fun (v : (GMap (List UInt8) Bool) × Int) => [(7, .d (.int v.2))]) (fun (v : (GMap (List UInt8) Bool) × Int) => [(0, GMap.blk (fun l : List UInt8 => Value.string ⟨l.toArray⟩) D.bool v.1)]) (.c2 I<|.c I .nil) h ⟨_, Fz4 I<|Fz2 I<|FzE⟩ (fun _ v h => ?_)
 obtain ⟨m0_8, x9⟩ := v
 refine .sr<|.p I (.ls I)<|.nil<|.keep [GMap.blk (fun l : List UInt8 => Value.string ⟨l.toArray⟩) D.bool m0_8] [1, 5, 6, 7, 8] (.c4 I<|.c I .nil) I<|.seq<|.condS I h (fun h => ?_) fun h => ?_
 ·refine .skip<|.seq<|.block<|.sr<|bK h fun x11 q11 h => .p I (.ix I U24 S9 q11)<|.p I (.ld Y9 I)<|.z I<|.nil<|.region<|.m I<|.m I<|.mapPut (k := x11) (v := true) I I I U167 KT9 I I I I<|.nil<|.region<|.p I (.ad I)<|.m I<|.nil ⟨_, h, _, Fz4 I<|Fz2 I<|FzE⟩
 ·refine .exit<|.sr<|.m I<|.z I<|.nil<|.ret ?_
  cases h
  exact zbv I (.mp I)
theorem zgF (n : Nat) (t0 : Int) (r : Bool) (h : zbL n t0 = some r) : Pure pg 246 [.val (.int .u8 t0)] (.bool r) := by
 refine Pure.ot Tryz.func246 I Tryz.ntmps246 I fun A w => .sr<|.z I<|.nil<|.seq<|.plain 14 I<|.m I<|.p I (.eq I)<|.m I<|.jO 2 (t0 == 9) I (fun b1 => ?_) ?_
 ·refine .qm I<|.q I (.eq I)<|.nil I
 refine .m I<|.jO 2 (t0 == 10) I (fun b2 => ?_) ?_
 ·refine .qm I<|.q I (.eq I)<|.nil I
 refine .m I<|.jO 2 (t0 == 13) I (fun b3 => ?_) ?_
 ·refine .qm I<|.q I (.eq I)<|.nil I
 refine .nil<|.z I<|.nil<|.keep [] [2] (.c I .nil) I<|.ret (rO h I)
theorem zfP (n : Nat) (t0 : List UInt8) (t1 : Int → Option Bool) (F1 : D) (hF1 : ∀ (q0 : Int) (y : Bool), t1 q0 = some y → Dyn pg F1 [.val (.int .u8 q0)] (.bool y)) (r : Int) (h : zcl n t0 t1 = some r) : Pure pg 242 [.str t0, F1] (.int r) := by
 refine Pure.ot Tryz.func242 I Tryz.ntmps242 I fun A w => .sr<|.z I<|.nil<|.sr<|.z I<|.nil<|.seq<|.block<|.loopS [0, 1] (fun (v : Int) => [(5, .d (.int v))]) (fun (v : Int) => []) (.c2 I .nil) h ⟨_, Fz4 I<|Fz2 I trivial⟩ (fun _ x9 h => ?_)
 refine .seq<|.seq<|.plain 11 I<|.m I<|.m I<|.p I (.len_str I U9 I)<|.p I (.ls I)<|.m I<|gK h fun c12 h => gK h fun c13 h => .jA 5 (((t1 ((sidx t0 x9).getD default)).getD default)) I (fun b11 => ?_) ?_
 ·refine .qm I<|.qm I<|.qm I<|.q I (.sidx I I I U9 (someD (impT c12 b11)))<|.q I (.dyn I I I (hF1 _ _ (someD (impT c13 b11))))<|.nil I
 refine .nil<|.nil<|.keep [] [0, 1, 5, 16] (.c4 I .nil) I<|.condS I h (fun h => ?_) fun h => ?_
 ·refine .skip<|.block<|.region<|.m I<|.p I (.ad I)<|.z I<|.nil ⟨_, h, _, Fz4 I<|Fz2 I trivial⟩
 ·refine .exit<|.sr<|.m I<|.z I<|.nil<|.ret (rO h I)
theorem zjn (n : Nat) (t0 : Int) (r : Bool) (h : zfQ n t0 = some r) : Pure pg 256 [.val (.int .u8 t0)] (.bool r) := by
 refine Pure.ot Tryz.func256 I Tryz.ntmps256 I fun A w => .sr<|.z I<|.nil<|.sr<|.m I<|.p I (.ne I)<|.z I<|.nil<|.ret (rO h I)
theorem zk3 (n : Nat) (t0 : List UInt8) (r : Int) (h : zcv n t0 = some r) : Pure pg 240 [.str t0] (.int r) := by
 refine Pure.ot Tryz.func240 I Tryz.ntmps240 I fun A w => .sr<|.z I<|.nil<|.sr<|.z I<|.nil<|.seq<|.block<|.loopS [0] (fun (v : Int) => [(3, .d (.int v))]) (fun (v : Int) => []) (.c I .nil) h ⟨_, Fz4 I<|FzE⟩ (fun _ x13 h => ?_)
 refine .seq<|.sr<|.m I<|.m I<|.p I (.len_str I U9 I)<|.p I (.ls I)<|.nil<|.keep [] [0, 3, 7] (.c2 I<|.c I .nil) I<|.condS I h (fun h => ?_) fun h => ?_
 ·refine .skip<|.block<|.block<|.sr<|.m I<|.m I<|bK h fun x15 q15 h => .p I (.sidx I I I U9 q15)<|bK h fun x16 q16 h => .p I (.call I (kC I) I (zgF _ _ _ q16))<|.z I<|.nil<|.condS I h (fun h => ?_) fun h => ?_
  ·refine .region<|.m I<|.p I (.ad I)<|.z I<|.nil ⟨_, h, _, Fz4 I<|FzE⟩
  ·refine .sr<|.m I<|.m I<|bK h fun x17 q17 h => .p I (.sidx I I I U9 q17)<|.p I (.eq I)<|.z I<|.nil<|.condS I h (fun h => ?_) fun h => ?_
   ·refine .region<|.m I<|.m I<|.m I<|bK h fun x18 q18 h => .p I (.cutStrL I I I U9 q18)<|bK h fun x19 q19 h => .p I (.call I (kC I) I (zfP _ _ _ _ (fun q0 y hq => ⟨_, _, I, K256, zjn _ q0 _ hq⟩) _ q19))<|.p I (.ad I)<|.z I<|.nil ⟨_, h, _, Fz4 I<|FzE⟩
   ·refine .sr<|.m I<|.z I<|.nil<|.ret (rO h I)
 ·refine .exit<|.sr<|.m I<|.z I<|.nil<|.ret (rO h I)
theorem zdW (n : Nat) (t0 : Int) (r : Bool) (h : zck n t0 = some r) : Pure pg 241 [.val (.int .u8 t0)] (.bool r) := by
 refine Pure.ot Tryz.func241 I Tryz.ntmps241 I fun A w => .sr<|.z I<|.nil<|.seq<|.plain 6 I<|.m I<|.p I (.ge I)<|.m I<|.jA 2 (decide (t0 ≤ 122)) I (fun b1 => ?_) ?_
 ·refine .qm I<|.q I (.le I)<|.nil I
 refine .nil<|.z I<|.nil<|.ret (rO h I)
theorem zdo (n : Nat) (t0 : Int) (r : Bool) (h : za5 n t0 = some r) : Pure pg 244 [.val (.int .u8 t0)] (.bool r) := by
 refine Pure.ot Tryz.func244 I Tryz.ntmps244 I fun A w => .sr<|.z I<|.nil<|.seq<|.plain 6 I<|.m I<|.p I (.ge I)<|.m I<|.jA 2 (decide (t0 ≤ 57)) I (fun b1 => ?_) ?_
 ·refine .qm I<|.q I (.le I)<|.nil I
 refine .nil<|.z I<|.nil<|.ret (rO h I)
theorem zk2 (n : Nat) (t0 : Int) (r : Bool) (h : zh4 n t0 = some r) : Pure pg 243 [.val (.int .u8 t0)] (.bool r) := by
 refine Pure.ot Tryz.func243 I Tryz.ntmps243 I fun A w => .sr<|.z I<|.nil<|.seq<|.plain 10 I<|.m I<|bK h fun x1 q1 h => .p I (.call I (kC I) I (zdW _ _ _ q1))<|.m I<|gK h fun c3 h => .jO 2 (((za5 n t0).getD default)) I (fun b2 => ?_) ?_
 ·refine .qm I<|.q I (.call I (kC I) I (zdo _ _ _ (someD (impF c3 b2))))<|.nil I
 refine .m I<|.jO 2 (t0 == 95) I (fun b4 => ?_) ?_
 ·refine .qm I<|.q I (.eq I)<|.nil I
 refine .nil<|.z I<|.nil<|.ret (rO h I)
theorem zc4 (n : Nat) (t0 : List UInt8) (t1 : List UInt8) (r : Bool) (h : zba n t0 t1 = some r) : Pure pg 267 [.str t0, .str t1] (.bool r) := by
 refine Pure.ot Tryz.func267 I Tryz.ntmps267 I fun A w => .sr<|.z I<|.nil<|.seq<|.plain 13 I<|.m I<|.p I (.len_str I U9 I)<|.m I<|.p I (.len_str I U9 I)<|.p I (.ge I)<|.m I<|gK h fun c2 h => .jA 6 (decide (((cut t0 0 (t1.length : Int)).getD default) = t1)) I (fun b1 => ?_) ?_
 ·refine .qm I<|.qm I<|.q I (.len_str I U9 I)<|.q I (.cutStrH I I I U9 (someD (impT c2 b1)))<|.qm I<|.q I (.str_eql I I I)<|.nil I
 refine .nil<|.z I<|.nil<|.ret (rO h I)
theorem zgx (n : Nat) (t0 : List UInt8) (t1 : List UInt8) (r : Bool) (h : zcB n t0 t1 = some r) : Pure pg 257 [.str t0, .str t1] (.bool r) := by
 refine Pure.ot Tryz.func257 I Tryz.ntmps257 I fun A w => .sr<|.z I<|.nil<|.sr<|.m I<|.m I<|bK h fun x1 q1 h => .p I (.call I (kC I) I (zc4 _ _ _ _ q1))<|.z I<|.nil<|.ret (rO h I)
theorem zc5 (n : Nat) (t0 : List UInt8) (t1 : Int) (r : Int) (h : zbb n t0 t1 = some r) : Pure pg 268 [.str t0, .val (.int .u8 t1)] (.int r) := by
 refine Pure.ot Tryz.func268 I Tryz.ntmps268 I fun A w => .sr<|.z I<|.nil<|.sr<|.m I<|.m I<|.p I (.idxByte I IB271 I I)<|.z I<|.nil<|.ret (rO h I)
theorem zgy (n : Nat) (t0 : List UInt8) (t1 : Int) (r : Int) (h : zb0 n t0 t1 = some r) : Pure pg 258 [.str t0, .val (.int .u8 t1)] (.int r) := by
 refine Pure.ot Tryz.func258 I Tryz.ntmps258 I fun A w => .sr<|.z I<|.nil<|.sr<|.m I<|.m I<|bK h fun x1 q1 h => .p I (.call I (kC I) I (zc5 _ _ _ _ q1))<|.z I<|.nil<|.ret (rO h I)
theorem zdX (n : Nat) (t0 : List UInt8) (r : Int) (h : za0 n t0 = some r) : Pure pg 245 [.str t0] (.int r) := by
 refine Pure.ot Tryz.func245 I Tryz.ntmps245 I fun A w => .sr<|.z I<|.nil<|.seq<|.sr<|.p I (.buildSl [_, _, _, _, _] I I E24 I (fun _ => I) I (enc := D.str))<|.p I (.len I U24 I)<|.m I<|.nil<|.block<|.loopS [0, 5, 6] (fun (v : Int) => [(7, .d (.int v))]) (fun (v : Int) => []) (.c2 I<|.c I .nil) h ⟨_, Fz4 I<|Fz2 I<|FzE⟩ (fun _ x7 h => ?_)
 refine .sr<|.p I (.ls I)<|.nil<|.keep [] [0, 5, 6, 7, 8] (.c4 I<|.c I .nil) I<|.seq<|.condS I h (fun h => ?_) fun h => ?_
 ·refine .skip<|.seq<|.block<|.sr<|bK h fun x9 q9 h => .p I (.ix I U24 S9 q9)<|.p I (.ld Y9 I)<|.z I<|.nil<|.sr<|.m I<|.m I<|bK h fun x10 q10 h => .p I (.call I (kC I) I (zgx _ _ _ _ q10))<|.nil<|.condS I h (fun h => ?_) fun h => ?_
  ·refine .sr<|.z I<|.nil<|.ret (rO h I)
  ·refine .skip<|.region<|.p I (.ad I)<|.m I<|.nil ⟨_, h, _, Fz4 I<|Fz2 I<|FzE⟩
 ·refine .exit<|.seq<|.seq<|.plain 8 I<|.m I<|.p I (.str_neq I I I)<|.m I<|gK h fun c12 h => gK h fun c13 h => .jA 4 (decide (0 ≤ ((zb0 n [60, 62, 61, 43, 45, 42, 40, 41, 123, 125, 44, 58, 59] ((sidx t0 0).getD default)).getD default))) I (fun b11 => ?_) ?_
  ·refine .qm I<|.q I (.sidx I I I U9 (someD (impT c12 b11)))<|.q I (.call I (kC I) I (zgy _ _ _ _ (someD (impT c13 b11))))<|.q I (.ge I)<|.nil I
  refine .nil<|.nil<|.condS I h (fun h => ?_) fun h => ?_
  ·refine .sr<|.z I<|.nil<|.ret (rO h I)
  ·refine .skip<|.sr<|.z I<|.nil<|.ret (rO h I)
theorem zjk (n : Nat) (t0 : List UInt8) (r : Bool) (h : zcW n t0 = some r) : Pure pg 247 [.str t0] (.bool r) := by
 refine Pure.ot Tryz.func247 I Tryz.ntmps247 I fun A w => .sr<|.z I<|.nil<|.seq<|.plain 13 I<|.m I<|bK h fun x1 q1 h => .p I (.sidx I I I U9 q1)<|bK h fun x2 q2 h => .p I (.call I (kC I) I (zdW _ _ _ q2))<|.m I<|gK h fun c4 h => gK h fun c5 h => .jO 3 (((za5 n ((sidx t0 0).getD default)).getD default)) I (fun b3 => ?_) ?_
 ·refine .qm I<|.q I (.sidx I I I U9 (someD (impF c4 b3)))<|.q I (.call I (kC I) I (zdo _ _ _ (someD (impF c5 b3))))<|.nil I
 refine .m I<|gK h fun c7 h => .jO 3 (decide (0 < ((za0 n t0).getD default))) I (fun b6 => ?_) ?_
 ·refine .qm I<|.q I (.call I (kC I) I (zdX _ _ _ (someD (impF c7 b6))))<|.q I (.gt I)<|.nil I
 refine .nil<|.z I<|.nil<|.ret (rO h I)
theorem zhp (n : Nat) (t1 : List UInt8) (t2 : GMap (List UInt8) Bool) (F0 : D) (C : Ctx) (hC : C.n = 93) (hG : C.gn = 0) (Q0 : Exit → St → Prop) (r : Token) (h : zas n t1 t2 = some r)
  (hY : ∀ (Q : Exit → St → Prop) (T : List (Nat × V)) (H : List Blk) (j : Nat), look 0 T = some (.d F0) → look 5 T = some (.loc j 0) → H[j]? = some (.box 234 (V.cellsV (.d (Token.enc r)))) → Tri pg C tokX Q ⟨T, H⟩) :
  Tri pg C (zku pg 239) Q0 ⟨params 0 [F0, .ref (.str t1), .ref (GMap.dat (fun l : List UInt8 => Value.string ⟨l.toArray⟩) D.bool t2)], []⟩ := by
 obtain ⟨A0, own0, w0, n0, esc, gh, gn⟩ := C
 simp only at hC hG
 subst hC
 subst hG
 rw [zeI Tryz.func239 I]
 refine .sr<|.z I<|.nil<|.block<|.loopS [0, 1, 2, 4] (fun (v : Unit) => []) (fun (v : Unit) => []) (.c4 I .nil) h ⟨_, Fz4 I<|Fz2 I<|FzE⟩ (fun _ v h => ?_)
 refine .block<|.sr<|.m I<|.m I<|.p I (.ld Y9 I)<|.m I<|bK h fun x45 q45 h => .p I (.cutStrL I I I U9 q45)<|bK h fun x46 q46 h => .p I (.call I (kC I) I (zk3 _ _ _ q46))<|.p I (.ad I)<|.p I (.castD (Token.enc (⟨0, 0, add64 0 x46, 0⟩ : Token)) I (.build I Pl234 (.agg Zc234 (ds' := [_, _, _, _]) (.e (.e (.e .e1)))) I I))<|.allocZ I I I I (.agg Zc234 (ds' := [.int 0, .int 0, .int 0, .int 0]) (.e (.e (.e .e1)))) I<|.store I I I I I I (.ofD I) C234 I (yd I)<|.nil<|.keep [.box 234 [.d (.int 0), .d (.int 0), .d (.int (add64 0 x46)), .d (.int 0)]] [0, 1, 2, 5] (.c4 I .nil) I<|.sr<|.p I (.ld Y9 I)<|.p I (.fieldAddrLoc I I I zm5)<|.p I (.loadLoc1 I I I Y3 I)<|bK h fun x47 q47 h => .p I (.cutStrL I I I U9 q47)<|.z I<|.nil<|.sr<|.z I<|.nil<|.join [0, 1, 2, 5] (fun (v : Int × Int) => [(7, .d (.int v.2))]) (fun (v : Int × Int) => [(0, .box 234 [.d (.int v.1), .d (.int 0), .d (.int (add64 0 x46)), .d (.int 0)])]) (.c4 I .nil) h (fun k_50 h => ?_) (fun v h => ?_)
 ·refine .block<|.sr<|.m I<|.p I (.str_eql I I I)<|.z I<|.nil<|.condS I h (fun h => ?_) fun h => ?_
  ·refine .skip ⟨_, h, _, Fz8 I trivial⟩
  ·refine .sr<|.m I<|bK h fun x51 q51 h => .p I (.sidx I I I U9 q51)<|bK h fun x52 q52 h => .p I (.call I (kC I) I (zdW _ _ _ q52))<|.z I<|.nil<|.condS I h (fun h => ?_) fun h => ?_
   ·refine .sr<|.m I<|bK h fun x53 q53 h => .p I (.call I (kC I) I (zfP _ _ _ _ (fun q0 y hq => ⟨_, _, I, K243, zk2 _ q0 _ hq⟩) _ q53))<|.z I<|.p I (.fieldAddrLoc I I I zkl)<|.store I I I I I I (.ofD I) C3 I (yd I)<|.nil<|.keep [.box 234 [.d (.int 1), .d (.int 0), .d (.int (add64 0 x46)), .d (.int 0)]] [0, 1, 2, 5, 6, 7] (.c4 I<|.c2 I .nil) I<|.seq<|.draw 5 Hm (by kernel_rfl) (by kernel_rfl)<|.p I (.ld Y167 I)<|.m I<|.m I<|bK h fun x54 q54 h => .p I (.cutStrH I I I U9 q54)<|.p I (.mapGetD (ke := (fun l : List UInt8 => Value.string ⟨l.toArray⟩)) (ve := D.bool) I U167 KT9 I I (z := (false : Bool)) (.val Zv4))<|.nil<|.nil<|.condS I h (fun h => ?_) fun h => ?_
    ·refine .region<|.p I (.fieldAddrLoc I I I zkl)<|.store I I I I I I (.ofD I) C3 I (yd I)<|.nil ⟨_, h, _, Fz8 I trivial⟩
    ·refine .skip ⟨_, h, _, Fz8 I trivial⟩
   ·refine .sr<|.m I<|bK h fun x55 q55 h => .p I (.sidx I I I U9 q55)<|bK h fun x56 q56 h => .p I (.call I (kC I) I (zdo _ _ _ q56))<|.z I<|.nil<|.keep [.box 234 [.d (.int 0), .d (.int 0), .d (.int (add64 0 x46)), .d (.int 0)]] [0, 1, 2, 5, 6, 63] (.c4 I<|.c2 I .nil) I<|.condS I h (fun h => ?_) fun h => ?_
    ·refine .region<|.m I<|bK h fun x57 q57 h => .p I (.call I (kC I) I (zfP _ _ _ _ (fun q0 y hq => ⟨_, _, I, K244, zdo _ q0 _ hq⟩) _ q57))<|.z I<|.p I (.fieldAddrLoc I I I zkl)<|.store I I I I I I (.ofD I) C3 I (yd I)<|.nil ⟨_, h, _, Fz8 I trivial⟩
    ·refine .sr<|.m I<|bK h fun x58 q58 h => .p I (.call I (kC I) I (zdX _ _ _ q58))<|.p I (.gt I)<|.z I<|.nil<|.condS I h (fun h => ?_) fun h => ?_
     ·refine .region<|.m I<|bK h fun x59 q59 h => .p I (.call I (kC I) I (zdX _ _ _ q59))<|.z I<|.p I (.fieldAddrLoc I I I zkl)<|.store I I I I I I (.ofD I) C3 I (yd I)<|.nil ⟨_, h, _, Fz8 I trivial⟩
     ·refine .sr<|.p I (.fieldAddrLoc I I I zkl)<|.store I I I I I I (.ofD I) C3 I (yd I)<|.nil<|.sr<|.z I<|.nil<|.block<|.loopS [0, 1, 2, 5, 6] (fun (v : Int) => [(7, .d (.int v))]) (fun (v : Int) => []) (.c4 I<|.c I .nil) h ⟨_, Fz8 I<|FzE⟩ (fun _ x78 h => ?_)
      refine .seq<|.seq<|.plain 24 I<|.m I<|.m I<|.p I (.len_str I U9 I)<|.p I (.ls I)<|.m I<|gK h fun c81 h => gK h fun c82 h => .jA 5 (!((zbL n ((sidx x47 x78).getD default)).getD default)) I (fun b80 => ?_) ?_
      ·refine .qm I<|.qm I<|.q I (.sidx I I I U9 (someD (impT c81 b80)))<|.q I (.call I (kC I) I (zgF _ _ _ (someD (impT c82 b80))))<|.q I (.nt I)<|.nil I
      refine .m I<|gK h fun c84 h => .jA 4 (((sidx x47 x78).getD default) != 35) I (fun b83 => ?_) ?_
      ·refine .qm I<|.qm I<|.q I (.sidx I I I U9 (someD (impT c84 b83)))<|.q I (.ne I)<|.nil I
      refine .m I<|gK h fun c86 h => gK h fun c87 h => .jA 5 (!((zcW n ((cut x47 x78 (x47.length : Int)).getD default)).getD default)) I (fun b85 => ?_) ?_
      ·refine .qm I<|.qm I<|.q I (.cutStrL I I I U9 (someD (impT c86 b85)))<|.q I (.call I (kC I) I (zjk _ _ _ (someD (impT c87 b85))))<|.q I (.nt I)<|.nil I
      refine .nil<|.nil<|.keep [.box 234 [.d (.int 5), .d (.int 0), .d (.int (add64 0 x46)), .d (.int 0)]] [0, 1, 2, 5, 6, 7, 44] (.c4 I<|.c2 I<|.c I .nil) I<|.condS I h (fun h => ?_) fun h => ?_
      ·refine .skip<|.seq<|.block<|.skip<|.region<|.m I<|.p I (.ad I)<|.z I<|.nil ⟨_, h, _, Fz8 I<|FzE⟩
      ·refine .exit ⟨_, h, _, Fz8 I trivial⟩
 ·obtain ⟨c0_0_48, x49⟩ := v
  refine .sr<|.p I (.fieldAddrLoc I I I zm5)<|.p I (.loadLoc1 I I I Y3 I)<|.m I<|.p I (.ad I)<|.p I (.fieldAddrLoc I I I zm6)<|.store I I I I I I (.ofD I) C3 I (yd I)<|.nil<|.keep [.box 234 [.d (.int c0_0_48), .d (.int 0), .d (.int (add64 0 x46)), .d (.int (add64 (add64 0 x46) x49))]] [0, 1, 2, 5] (.c4 I .nil) I<|.sr<|.p I (.fieldAddrLoc I I I zm6)<|.p I (.loadLoc1 I I I Y3 I)<|.z I<|.nil ?_
  cases h
  refine hY _ _ _ 0 ?_ ?_ ?_
  all_goals rfl
section
open Go Go.RowKit Go.Proofs
attribute [local go_sem] Oper.semAt_some
def kAsg : Code := (Code.region 4 #[{ dst := some 3, op := Op.alloc 234, type := 0, pos := "lexer.go:137", after := #[], guard := none }, { dst := none, op := Op.store 234 (Operand.tmp 3) (Operand.tmp 13), type := 0, pos := "lexer.go:137", after := #[{ on := 0, ground := Ground.data }, { on := 0, ground := Ground.phase }], guard := none }] false)
def kBody : Code := (Code.block 1 (((Code.region 5 #[{ dst := some 14, op := Op.fieldAddr 234 (Operand.tmp 3) 2, type := 0, pos := "lexer.go:138", after := #[], guard := none }, { dst := some 15, op := Op.load 3 (Operand.tmp 14), type := 3, pos := "lexer.go:138", after := #[{ on := 0, ground := Ground.data }], guard := none }, { dst := some 16, op := Op.binOp BinOp.neq 3 (Operand.tmp 15) (Operand.const (Value.int IntKind.i64 0)) 3, type := 4, pos := "lexer.go:138", after := #[{ on := 1, ground := Ground.data }], guard := none }, { dst := some 17, op := Op.move (Operand.tmp 16), type := 4, pos := "lexer.go:138", after := #[{ on := 2, ground := Ground.data }], guard := none }, { dst := some 18, op := Op.fieldAddr 234 (Operand.tmp 3) 3, type := 0, pos := "lexer.go:138", after := #[{ on := 3, ground := Ground.guard }], guard := some (3, false) }, { dst := some 19, op := Op.load 3 (Operand.tmp 18), type := 3, pos := "lexer.go:138", after := #[{ on := 4, ground := Ground.data }, { on := 3, ground := Ground.guard }], guard := some (3, false) }, { dst := some 20, op := Op.load 9 (Operand.tmp 1), type := 9, pos := "lexer.go:138", after := #[{ on := 3, ground := Ground.guard }], guard := some (3, false) }, { dst := some 21, op := Op.call { callee := Callee.builtin Builtin.len, args := #[Operand.tmp 20], argTypes := #[9] }, type := 3, pos := "lexer.go:138", after := #[{ on := 6, ground := Ground.data }, { on := 3, ground := Ground.guard }], guard := some (3, false) }, { dst := some 22, op := Op.binOp BinOp.neq 3 (Operand.tmp 19) (Operand.tmp 21) 3, type := 4, pos := "lexer.go:138", after := #[{ on := 5, ground := Ground.data }, { on := 7, ground := Ground.data }, { on := 3, ground := Ground.guard }], guard := some (3, false) }, { dst := some 23, op := Op.pick (Operand.tmp 17) (Operand.const (Value.bool true)) (Operand.tmp 22), type := 4, pos := "lexer.go:138", after := #[{ on := 3, ground := Ground.data }, { on := 8, ground := Ground.data }], guard := none }] false).seq (Code.cond (Operand.tmp 23) (Code.exit 0) Code.skip)).seq ((Code.region 6 #[{ dst := some 24, op := Op.fieldAddr 234 (Operand.tmp 3) 0, type := 0, pos := "lexer.go:141", after := #[], guard := none }, { dst := some 25, op := Op.load 3 (Operand.tmp 24), type := 3, pos := "lexer.go:141", after := #[{ on := 0, ground := Ground.data }], guard := none }, { dst := none, op := Op.store 3 (Operand.tmp 2) (Operand.tmp 25), type := 0, pos := "lexer.go:141", after := #[{ on := 1, ground := Ground.data }, { on := 0, ground := Ground.phase }, { on := 1, ground := Ground.phase }], guard := none }] false).seq Code.ret)))
def kRec (fn : FuncId) (tm : Array Value) (Dd : Nat) (st : LoopState) (pend : Option Code) : Loop :=
  { state := st, pending := pend, fn, tmps := tm, params := #[13], assign := kAsg, body := kBody, defers := Dd }
theorem zpg (fn : FuncId) (l Dd B : Nat) (p1 : Addr) (s : ByteArray) (k f a e : Int) (x0 x3 x4 x5 x6 x7 x8 x9 x10 x11 x12 x13 x14 x15 x16 x17 x18 x19 x20 x21 x22 x23 x24 x25 : Value) (W : World) (hBl : B ≠ l) (hp : p1.block ≠ l)
    (hl : W.heap[l]? = some (.loop (kRec fn #[x0, .pointer (some p1), .pointer (some ⟨B, 0, none⟩), x3, x4, x5, x6, x7, x8, x9, x10, x11, x12, x13, x14, x15, x16, x17, x18, x19, x20, x21, x22, x23, x24, x25] Dd .ready none))) (h1 : W.cell? p1 = some (.string s)) (hB : W.heap[B]? = some (.cells #[.int .i64 0] 3 (0, 0))) :
    RoundIn Fence.wide 0 Tryz.prog l fn #[x0, .pointer (some p1), .pointer (some ⟨B, 0, none⟩), x3, x4, x5, x6, x7, x8, x9, x10, x11, x12, (.agg #[.int .i64 k, .int .i64 f, .int .i64 a, .int .i64 e]), x14, x15, x16, x17, x18, x19, x20, x21, x22, x23, x24, x25] kAsg kBody W (fun en W' => en = .returned (.bool false) ∧ Fr (fun b => b = l ∨ b = B) W W' ∧
      ((((a != 0) || (e != (s.size : Int))) = true ∧ W'.heap[l]? = some (.loop (kRec fn #[x0, .pointer (some p1), .pointer (some ⟨B, 0, none⟩), x3, x4, x5, x6, x7, x8, x9, x10, x11, x12, x13, x14, x15, x16, x17, x18, x19, x20, x21, x22, x23, x24, x25] Dd .done (some (.exit 0)))) ∧ W'.heap[B]? = some (.cells #[.int .i64 0] 3 (0, 0))) ∨
       (((a != 0) || (e != (s.size : Int))) = false ∧ W'.heap[l]? = some (.loop (kRec fn #[x0, .pointer (some p1), .pointer (some ⟨B, 0, none⟩), x3, x4, x5, x6, x7, x8, x9, x10, x11, x12, x13, x14, x15, x16, x17, x18, x19, x20, x21, x22, x23, x24, x25] Dd .done (some .ret))) ∧ W'.heap[B]? = some (.cells #[.int .i64 k] 3 (0, 0))))) := by
  refine roundIn_of_wpIn trivial ?_
  unfold kAsg
  gi_wp2_with (rw [Oper.semAt_eq _ _ _ (fun c h => by cases h)]; go_simp; try go_bits)
  have hlt : l < W.heap.size := (ym.1 hl).1
  have hBlt : B < W.heap.size := (ym.1 hB).1
  have hplt : p1.block < W.heap.size := by
    refine Nat.lt_of_not_le fun h => ?_
    have e0 : W.heap[p1.block]? = none := Array.getElem?_eq_none_iff.2 h
    simp [World.cell?, e0] at h1
  obtain ⟨W1, hW1⟩ : ∃ W1, W.alloc (.cells #[.int .i64 k, .int .i64 f, .int .i64 a, .int .i64 e] 234) = W1 := ⟨_, rfl⟩
  have hold : ∀ q, q < W.heap.size → W1.heap[q]? = W.heap[q]? := fun q hq => by rw [← hW1]; exact Below.heap_alloc _ _ q hq
  have hnew : W1.heap[W.heap.size]? = some (.cells #[.int .i64 k, .int .i64 f, .int .i64 a, .int .i64 e] 234) := by rw [← hW1]; exact World.alloc_heap_new W _
  have hsz1 : W1.heap.size = W.heap.size + 1 := by rw [← hW1]; simp
  have hfr1 : Fr zd W W1 := by rw [← hW1]; exact ⟨rfl, rfl, rfl, by simp, fun b hb _ => Below.heap_alloc W _ b hb, yn _⟩
  simp only [hW1]
  clear hW1
  have hL1 := (hold l hlt).trans hl
  have hbr := run_beginRound (P := Tryz.prog) hL1 rfl
  obtain ⟨W2, hW2⟩ : ∃ W2, W1.putObj l (.loop { kRec fn #[x0, .pointer (some p1), .pointer (some ⟨B, 0, none⟩), x3, x4, x5, x6, x7, x8, x9, x10, x11, x12, x13, x14, x15, x16, x17, x18, x19, x20, x21, x22, x23, x24, x25] Dd .ready none with state := .busy }) = W2 := ⟨_, rfl⟩
  have hfr2 : Fr (fun b => b = l) W1 W2 := by rw [← hW2]; exact ⟨rfl, rfl, rfl, by simp, fun b _ hne => World.putObj_heap_other hne, yn _⟩
  rw [hW2] at hbr
  have hput : ∀ q, q ≠ l → W2.heap[q]? = W1.heap[q]? := fun q hq => by rw [← hW2]; exact World.putObj_heap_other hq
  have hL2 := (World.putObj_heap_same (w := W1) (o := .loop { kRec fn #[x0, .pointer (some p1), .pointer (some ⟨B, 0, none⟩), x3, x4, x5, x6, x7, x8, x9, x10, x11, x12, x13, x14, x15, x16, x17, x18, x19, x20, x21, x22, x23, x24, x25] Dd .ready none with state := .busy }) (by omega : l < W1.heap.size))
  rw [hW2] at hL2
  refine ⟨W2, hbr, ?_⟩
  clear hW2 hbr
  have hT2 := (hput W.heap.size (by omega)).trans hnew
  have hB2 := ((hput B hBl).trans (hold B hBlt)).trans hB
  have hp2 : W2.cell? p1 = some (.string s) := ((World.cell?_of_block (hput p1.block hp)).trans (World.cell?_of_block (hold p1.block hplt))).trans h1
  have c0 : W2.cell? ⟨W.heap.size, 0, none⟩ = some (.int .i64 k) := by rw [zZ hT2]; rfl
  have c2 : W2.cell? ⟨W.heap.size, 2, none⟩ = some (.int .i64 a) := by rw [zZ hT2]; rfl
  have c3 : W2.cell? ⟨W.heap.size, 3, none⟩ = some (.int .i64 e) := by rw [zZ hT2]; rfl
  have cB : W2.cell? ⟨B, 0, none⟩ = some (.int .i64 0) := by rw [zZ hB2]; rfl
  have fB : W2.frozen? ⟨B, 0, none⟩ = false := by simp [World.frozen?, hB2]
  unfold kBody
  gi_wp2_with (rw [Oper.semAt_eq _ _ _ (fun c h => by cases h)]; go_simp; try go_bits)
  all_goals first
    | (refine ⟨_, _, run_endRound (some (.exit 0)) hL2, rfl, ?_, ?_, (World.putObj_heap_other hBl).trans hB2⟩
       · refine ((hfr1.mono fun _ _ x => x.elim).trans (hfr2.mono fun _ _ x => .inl x)).trans ⟨rfl, rfl, rfl, by simp, fun b _ hne => World.putObj_heap_other (fun h => hne (.inl h)), yn _⟩
       · exact World.putObj_heap_same (ym.1 hL2).1)
    | (have hL3 : (W2.setCell ⟨B, 0, none⟩ (.int .i64 k)).heap[l]? = some (.loop { kRec fn #[x0, .pointer (some p1), .pointer (some ⟨B, 0, none⟩), x3, x4, x5, x6, x7, x8, x9, x10, x11, x12, x13, x14, x15, x16, x17, x18, x19, x20, x21, x22, x23, x24, x25] Dd .ready none with state := .busy }) := (Below.heap_setCell W2 ⟨B, 0, none⟩ _ l (Ne.symm hBl)).trans hL2
       refine ⟨_, _, run_endRound (some .ret) hL3, rfl, ?_, ?_, (World.putObj_heap_other hBl).trans ?_⟩
       · have f3 : Fr (fun b => b = l ∨ b = B) W2 (W2.setCell ⟨B, 0, none⟩ (.int .i64 k)) := ⟨rfl, rfl, rfl, by simp, fun b _ hne => Below.heap_setCell W2 ⟨B, 0, none⟩ _ b (fun h => hne (.inr h)), yn _⟩
         exact (((hfr1.mono fun _ _ x => x.elim).trans (hfr2.mono fun _ _ x => .inl x)).trans f3).trans ⟨rfl, rfl, rfl, by simp, fun b _ hne => World.putObj_heap_other (fun h => hne (.inl h)), yn _⟩
       · exact World.putObj_heap_same (ym.1 hL3).1
       · simp [World.setCell, Array.getElem?_modify, hB2])
def znr : Code := .seq (Code.region 7 #[{ dst := none, op := Op.store 3 (Operand.tmp 2) (Operand.const (Value.int IntKind.i64 0)), type := 0, pos := "lexer.go:143", after := #[], guard := none }] false) .ret
theorem kTail (B : Nat) (x0 x1 x3 x4 x5 x6 x7 x8 x9 x10 x11 x12 x13 x14 x15 x16 x17 x18 x19 x20 x21 x22 x23 x24 x25 : Value) (df : List Deferred) (W : World) (Qf : Exit → Act → World → Prop) (hB : W.heap[B]? = some (.cells #[.int .i64 0] 3 (0, 0)))
  (h : Qf .ret { tmps := #[x0, x1, .pointer (some ⟨B, 0, none⟩), x3, x4, x5, x6, x7, x8, x9, x10, x11, x12, x13, x14, x15, x16, x17, x18, x19, x20, x21, x22, x23, x24, x25], defers := df } (W.setCell ⟨B, 0, none⟩ (.int .i64 0))) : znr.wp Tryz.prog Qf { tmps := #[x0, x1, .pointer (some ⟨B, 0, none⟩), x3, x4, x5, x6, x7, x8, x9, x10, x11, x12, x13, x14, x15, x16, x17, x18, x19, x20, x21, x22, x23, x24, x25], defers := df } W := by
 have cB : W.cell? ⟨B, 0, none⟩ = some (.int .i64 0) := by rw [zZ hB]; rfl
 have fB : W.frozen? ⟨B, 0, none⟩ = false := by simp [World.frozen?, hB]
 refine (wpIn_wide (n := 0)).1 ?_
 unfold znr
 gi_wp2
 exact h
theorem zph (B : Nat) (tm : Array Value) (hs : tm.size = 26) (ht2 : tm[2]? = some (.pointer (some ⟨B, 0, none⟩))) (df : List Deferred) (W : World) (Qf : Exit → Act → World → Prop) (hB : W.heap[B]? = some (.cells #[.int .i64 0] 3 (0, 0)))
  (h : Qf .ret { tmps := tm, defers := df } (W.setCell ⟨B, 0, none⟩ (.int .i64 0))) : znr.wp Tryz.prog Qf { tmps := tm, defers := df } W := by
 rcases tm with ⟨_ | ⟨x0, _ | ⟨x1, _ | ⟨x2, _ | ⟨x3, _ | ⟨x4, _ | ⟨x5, _ | ⟨x6, _ | ⟨x7, _ | ⟨x8, _ | ⟨x9, _ | ⟨x10, _ | ⟨x11, _ | ⟨x12, _ | ⟨x13, _ | ⟨x14, _ | ⟨x15, _ | ⟨x16, _ | ⟨x17, _ | ⟨x18, _ | ⟨x19, _ | ⟨x20, _ | ⟨x21, _ | ⟨x22, _ | ⟨x23, _ | ⟨x24, _ | ⟨x25, _ | ⟨x26, xs⟩⟩⟩⟩⟩⟩⟩⟩⟩⟩⟩⟩⟩⟩⟩⟩⟩⟩⟩⟩⟩⟩⟩⟩⟩⟩⟩⟩
 all_goals first | (exfalso; simp at hs; done) | skip
 all_goals first | (exfalso; simp at hs; omega) | skip
 simp at ht2
 subst ht2
 exact kTail B x0 x1 x3 x4 x5 x6 x7 x8 x9 x10 x11 x12 x13 x14 x15 x16 x17 x18 x19 x20 x21 x22 x23 x24 x25 df W Qf hB h
theorem Fr.past {w W0 W : World} {S : Nat → Prop} (h : Fr zd w W0) (k : Fr S W0 W) (hS : ∀ b, S b → w.heap.size ≤ b) : Fr zd w W :=
 ⟨k.os.trans h.os, k.tape.trans h.tape, k.output.trans h.output, ud h.size k.size, fun b hb _ => (k.block b (yJ hb h.size) fun hs => by have := hS b hs; omega).trans (h.block b hb fun x => x.elim), ud h.drawn k.drawn⟩
theorem zoa {A : Nat → Prop} {w W : World} {tm : Array Value} {B Dd : Nat} {k : Int} (hs : tm.size = 26) (ht2 : tm[2]? = some (.pointer (some ⟨B, 0, none⟩))) (hB : W.heap[B]? = some (.cells #[.int .i64 k] 3 (0, 0))) (hD : W.heap[Dd]? = some (.deferred (some []))) (hBD : B ≠ Dd)
  (hf : Fr zd w W) (hDw : w.heap.size ≤ Dd) : LeavesInM Fence.wide 0 Tryz.prog Tryz.f193 tm (zf2 A w (.int k)) [{ target := .collected Dd, args := #[] }] .returning W := by
 refine ⟨by simp, .inl ⟨_, _, rfl, run_takeDeferred hD, ?_⟩⟩
 have hB2 : (W.putObj Dd (.deferred none)).heap[B]? = some (.cells #[.int .i64 k] 3 (0, 0)) := (World.putObj_heap_other hBD).trans hB
 have hl := zer (P := Tryz.prog) (A := fun _ => False) (w := W.putObj Dd (.deferred none)) (t := 3) (k := none) Y3 (b := B) (off := 0) (d := .int k) (u := .int .i64 k) (by simp only [D.rep]) rfl (fun q hq => by
  have hq0 : q = 0 := by simp [Value.cells] at hq; omega
  subst hq0
  rw [zZ hB2]; simp [Value.cells])
 simp only [Instr.loadAt, Instr.sureAddr, Sem.run_bind, Sem.run_pure, Result.andThen_ok] at hl
 refine ⟨.int .i64 k, ?_, _, rfl, ?_, by simp only [D.rep]⟩
 ·have hp : tm.getD 2 undef = .pointer (some ⟨B, 0, none⟩) := by
   have h2 : (2 : Nat) < tm.size := by omega
   rw [ue h2] at ht2
   simpa [Array.getD, h2] using ht2
  have hr : (zeq tm (.cell 2 3)).run Tryz.prog (W.putObj Dd (.deferred none)) = .ok (.int .i64 k) (W.putObj Dd (.deferred none)) := by
   simp only [zeq, Sem.run_bind, hp, asAddr, Sem.run_pure, Result.andThen_ok, hl]
  rw [zdO]
  have hm : ((Tryz.f193).results.mapM (zeq tm)).run Tryz.prog (W.putObj Dd (.deferred none)) = .ok #[.int .i64 k] (W.putObj Dd (.deferred none)) := by
   show (#[ResultVar.cell 2 3].mapM (zeq tm)).run Tryz.prog _ = _
   rw [List.mapM_toArray]
   simp [Sem.run_map, hr]
  simp only [Sem.run_bind, hm, Result.andThen_ok, Sem.run_pure]
  rfl
 ·exact hf.past (S := fun b => b = Dd) ⟨rfl, rfl, rfl, by simp, fun b _ hne => World.putObj_heap_other hne, yn _⟩ (fun b hb => by rw [hb]; exact hDw)
theorem zoo (fn : FuncId) (l Dd B : Nat) (p1 : Addr) (s : ByteArray) (k f a e : Int) (tm : Array Value) (hs : tm.size = 26) (ht1 : tm[1]? = some (.pointer (some p1))) (ht2 : tm[2]? = some (.pointer (some ⟨B, 0, none⟩))) (W : World) (hBl : B ≠ l) (hp : p1.block ≠ l)
    (hl : W.heap[l]? = some (.loop (kRec fn tm Dd .ready none))) (h1 : W.cell? p1 = some (.string s)) (hB : W.heap[B]? = some (.cells #[.int .i64 0] 3 (0, 0))) :
    RoundIn Fence.wide 0 Tryz.prog l fn (tm.setIfInBounds 13 (.agg #[.int .i64 k, .int .i64 f, .int .i64 a, .int .i64 e])) kAsg kBody W (fun en W' => en = .returned (.bool false) ∧ Fr (fun b => b = l ∨ b = B) W W' ∧
      ((((a != 0) || (e != (s.size : Int))) = true ∧ W'.heap[l]? = some (.loop (kRec fn tm Dd .done (some (.exit 0)))) ∧ W'.heap[B]? = some (.cells #[.int .i64 0] 3 (0, 0))) ∨
       (((a != 0) || (e != (s.size : Int))) = false ∧ W'.heap[l]? = some (.loop (kRec fn tm Dd .done (some .ret))) ∧ W'.heap[B]? = some (.cells #[.int .i64 k] 3 (0, 0))))) := by
  rcases tm with ⟨_ | ⟨x0, _ | ⟨x1, _ | ⟨x2, _ | ⟨x3, _ | ⟨x4, _ | ⟨x5, _ | ⟨x6, _ | ⟨x7, _ | ⟨x8, _ | ⟨x9, _ | ⟨x10, _ | ⟨x11, _ | ⟨x12, _ | ⟨x13, _ | ⟨x14, _ | ⟨x15, _ | ⟨x16, _ | ⟨x17, _ | ⟨x18, _ | ⟨x19, _ | ⟨x20, _ | ⟨x21, _ | ⟨x22, _ | ⟨x23, _ | ⟨x24, _ | ⟨x25, _ | ⟨x26, xs⟩⟩⟩⟩⟩⟩⟩⟩⟩⟩⟩⟩⟩⟩⟩⟩⟩⟩⟩⟩⟩⟩⟩⟩⟩⟩⟩⟩
  all_goals first | (exfalso; simp at hs; done) | skip
  all_goals first | (exfalso; simp at hs; omega) | skip
  simp at ht1 ht2
  subst ht1; subst ht2
  exact zpg fn l Dd B p1 s k f a e x0 x3 x4 x5 x6 x7 x8 x9 x10 x11 x12 x13 x14 x15 x16 x17 x18 x19 x20 x21 x22 x23 x24 x25 W hBl hp hl h1 hB
theorem hK238 : callable Tryz.prog 238 = true := by kernel_rfl
theorem hK218 : callable Tryz.prog 218 = true := by kernel_rfl
theorem hK239 : callable Tryz.prog 239 = true := by kernel_rfl
theorem hZ167 : zaN Tryz.prog 167 none = true := by kernel_rfl
abbrev KE : List UInt8 → Value := fun l : List UInt8 => Value.string ⟨l.toArray⟩
theorem zjo (n : Nat) (t0 : List UInt8) (kw : GMap (List UInt8) Bool) (h : zbn n = some kw) : Pure Tryz.prog 218 [.str t0] (.fn (.func 239) [] [.ref (.str t0), .ref (GMap.dat KE D.bool kw)]) := by
 refine Pure.of_tri Tryz.func218 rfl (by rw [Tryz.ntmps218]; simp) fun A w => ?_
 rw [Tryz.ntmps218]
 refine .seq ?_
 refine .region ?_
 refine .op rfl rfl (.box rfl rfl) ?_
 refine .op rfl rfl (.assign rfl rfl) ?_
 refine .nil ?_
 refine .seq ?_
 refine .region ?_
 refine .op rfl rfl (.call rfl hK238 rfl (zh3 _ _ h)) ?_
 refine .allocStore rfl rfl rfl rfl rfl rfl rfl rfl (by simp) rfl rfl hZ167 ?_
 refine .nil ?_
 refine .seq ?_
 refine .region ?_
 refine .op rfl rfl (.makeFunc rfl rfl) ?_
 refine .op rfl rfl (.assign rfl rfl) ?_
 refine .nil ?_
 refine .ret ?_
 exact zbv rfl (.d _)
theorem zk1 (n : Nat) (t0 : List UInt8) (r : Int) (h : zdM n t0 = some r) : Pure Tryz.prog 193 [.str t0] (.int r) := by
  unfold zdM at h
  refine Pure.of_triM Tryz.func193 rfl (by rw [Tryz.ntmps193]; simp) fun A w => ?_
  rw [Tryz.ntmps193]
  refine .seq ?_
  refine .region ?_
  refine .op rfl rfl (.box rfl rfl) ?_
  refine .allocZ rfl rfl rfl rfl (.val Zv3) rfl ?_
  refine .nil ?_
  refine .seq ?_
  refine .seq ?_
  refine .plain 7 rfl ?_
  refine .op rfl rfl rfl rfl (.load rfl rfl Y9 rfl) ?_
  refine .op rfl rfl rfl rfl (.str_eql rfl rfl rfl) ?_
  refine .op rfl rfl rfl rfl (.move rfl rfl) ?_
  refine .jOr 3 (b2 := decide (4096 < (t0.length : Int))) rfl rfl rfl rfl (.inl rfl) (fun _ _ _ h1 => (by cases h1)) rfl rfl (fun hb_1 => ?_) ?_
  · refine .gop rfl rfl rfl rfl rfl rfl (.load rfl rfl Y9 rfl) ?_
    refine .gop rfl rfl rfl rfl rfl rfl (.len_str rfl U9 rfl) ?_
    refine .gop rfl rfl rfl rfl rfl rfl (.gtr rfl rfl rfl) ?_
    exact .nil rfl
  refine .nil ?_
  refine .nil ?_
  refine .condS rfl h (fun h => ?_) (fun h => ?_)
  · refine .seq ?_
    refine .region ?_
    refine .store rfl rfl rfl rfl rfl rfl (.ofD rfl) C3 rfl (yd rfl) ?_
    refine .nil ?_
    refine .ret ?_
    cases h
    exact znW rfl rfl Y3 (.d _)
  refine .skip ?_
  obtain ⟨kw, hkw, h⟩ := bindS h
  obtain ⟨tok, htok, h⟩ := bindS h
  refine Tri.le (t := ⟨[(1, .d (.ref (.str t0))), (2, .loc 0 0)], [.box 3 [.d (.int 0)]]⟩) ⟨rfl, rfl, rfl, trivial⟩ ?_
  refine ⟨fun bs a w' hR => ?_⟩
  have hR0 : R ⟨A, zd, w, 26, fun _ _ => False, [], 0, []⟩ bs ⟨[(1, .d (.ref (.str t0))), (2, .loc 0 0)], [.box 3 [.d (.int 0)]]⟩ a w' := hR.noEsc
  refine wp_seq (wp_seq (Code.wp_mono ?_ (Tri.run (C := ⟨A, zd, w, 26, fun _ _ => False, [], 0, []⟩) (Q := fun e s => e = .normal ∧ look 12 s.T = some (.d (.fn (.func 239) [] [.ref (.str t0), .ref (GMap.dat KE D.bool kw)])) ∧ look 1 s.T = some (.d (.ref (.str t0))) ∧ look 2 s.T = some (.loc 0 0) ∧ s.H[0]? = some (.box 3 [.d (.int 0)])) ?_ bs a w' hR0)))
  case refine_2 =>
    refine .region ?_
    refine .op rfl rfl (.load rfl rfl Y9 rfl) ?_
    refine .op rfl rfl (.call rfl hK218 rfl (zjo _ _ _ hkw)) ?_
    refine .nil ?_
    exact ⟨rfl, rfl, rfl, rfl, rfl⟩
  rintro e a3 w3 (⟨bs3, s3, ⟨rfl, g12, g1, g2, gH⟩, hR3⟩ | ⟨_, hE⟩)
  case inr => exact hE.elim
  simp only [Exit.then]
  have e12 := hR3.ev (x := .tmp 12) (by simpa [ev] using g12)
  have e1 := hR3.ev (x := .tmp 1) (by simpa [ev] using g1)
  have e2 := hR3.ev (x := .tmp 2) (by simpa [ev] using g2)
  have hbox := hR3.blk 0 _ gH
  simp only [V.rep, gH] at e2
  obtain ⟨B, hB0, e2⟩ := e2
  simp only [Blk.rep] at hbox
  obtain ⟨B', vs, hB1, hBh, hvs⟩ := hbox
  obtain rfl : B = B' := by rw [hB0] at hB1; simpa using hB1
  have hvs : vs = #[.int .i64 0] := by
    simp only [V.reps, V.rep, D.rep] at hvs
    obtain ⟨v, vs', hv, rfl, rfl⟩ := hvs
    exact Array.toList_inj.1 hv
  subst hvs
  simp only [V.rep] at e12 e1
  simp only [D.rep] at e1
  obtain ⟨pb, po, pu, e1, hpA, hplt, hpu, hpc⟩ := e1
  subst hpu
  have hstr : w3.cell? ⟨pb, po, none⟩ = some (.string ⟨t0.toArray⟩) := by have := hpc 0 (by simp [Value.cells]); simpa [Value.cells] using this
  have e12' := e12
  simp only [D.rep] at e12
  obtain ⟨vs, us, e12, hv0, hus⟩ := e12
  simp only [D.reps] at hv0
  have hv0 : vs = #[] := by simpa using hv0
  subst hv0
  have hsz : a3.tmps.size = 26 := hR3.size
  have hdf : a3.defers = [] := hR3.defers
  have hown := hR3.own
  have hBlt : B < w3.heap.size := (ym.1 hBh).1
  refine (wpIn_wide (n := 0)).1 (wpIn_block (wpIn_rangeFunc ?_))
  intro fn _
  obtain ⟨w4, hw4⟩ : ∃ w4, (w3.alloc (.deferred (some []))).alloc (.loop (kRec fn a3.tmps w3.heap.size .ready none)) = w4 := ⟨_, rfl⟩
  have hold : ∀ q, q < w3.heap.size → w4.heap[q]? = w3.heap[q]? := fun q hq => by rw [← hw4]; exact (Below.heap_alloc _ _ q (by simp; omega)).trans (Below.heap_alloc _ _ q hq)
  have hL4 : w4.heap[w3.heap.size + 1]? = some (.loop (kRec fn a3.tmps w3.heap.size .ready none)) := by rw [← hw4]; have := World.alloc_heap_new (w3.alloc (.deferred (some []))) (.loop (kRec fn a3.tmps w3.heap.size .ready none)); rwa [World.size_alloc] at this
  have hD4 : w4.heap[w3.heap.size]? = some (.deferred (some [])) := by rw [← hw4]; exact (Below.heap_alloc _ _ _ (by simp)).trans (World.alloc_heap_new w3 _)
  have hs4 : w4.heap.size = w3.heap.size + 2 := by rw [← hw4]; simp
  have hfr4 : Fr zd w3 w4 := by
    rw [← hw4]
    exact (⟨rfl, rfl, rfl, by simp, fun b hb _ => Below.heap_alloc _ _ b hb, yn _⟩ : Fr zd w3 (w3.alloc (.deferred (some [])))).trans ⟨rfl, rfl, rfl, by simp, fun b hb _ => Below.heap_alloc _ _ b hb, yn _⟩
  refine ⟨w3.heap.size + 1, [{ target := .collected w3.heap.size, args := #[] }], w4, { target := .fn (.func 239) us, args := #[.func (.yield (w3.heap.size + 1)) #[] #[]] }, w4, 239, #[.func (.yield (w3.heap.size + 1)) #[] #[]] ++ us, w4, ?_, ?_, fun _ _ => trivial, ?_, fun h => by simp [Fence.wide] at h, ?_⟩
  · rw [← hw4]; exact run_enterLoop_outer _ _ _ _ _
  · have ek : ∀ v, a3.eval (.const v) = v := fun _ => rfl
    simp [resolve, e12, Deferred.ofValue, ek]
  · simp only [invoke]; exact zbI hK239 _ w4
  obtain ⟨A', hA'⟩ : ∃ A' : Nat → Prop, A' = fun b => Own A bs3 b ∨ b = w3.heap.size ∨ b = w3.heap.size + 1 := ⟨_, rfl⟩
  have hAlt : ∀ b, A' b → b < w4.heap.size := fun b hb => by
    subst hA'
    rcases hb with (hb | hb) | rfl | rfl
    · have := hown.foreign b hb; omega
    · have := hown.lt b hb; omega
    · omega
    · omega
  have hAin : ∀ b, b < w3.heap.size → A' b → Own A bs3 b := fun b hb hb' => by
    subst hA'
    rcases hb' with hb' | rfl | rfl
    · exact hb'
    · omega
    · omega
  have hG4 : zeg A' w4 := hown.glob.fr hfr4 (fun _ x => x.elim) hAin
  have hargs : D.reps A' w4 [.fn (.yield (w3.heap.size + 1)) [] [], .ref (.str t0), .ref (GMap.dat KE D.bool kw)] ((#[Value.func (.yield (w3.heap.size + 1)) #[] #[]] : Array Value) ++ us).toList := by
    have := D.reps_fr hfr4 (fun _ x => x.elim) hAin _ _ hus
    simp only [Array.toList_append, yZ, yS, D.reps, D.rep] at this ⊢
    exact ⟨_, _, rfl, ⟨#[], #[], rfl, rfl, rfl⟩, this⟩
  have hstr4 : w4.cell? ⟨pb, po, none⟩ = some (.string ⟨t0.toArray⟩) := by rw [World.cell?_of_block (hold pb hplt)]; exact hstr
  have hB4 : w4.heap[B]? = some (.cells #[.int .i64 0] 3 (0, 0)) := (hold B hBlt).trans hBh
  have ht1 : a3.tmps[1]? = some (.pointer (some ⟨pb, po, none⟩)) := by
    have : a3.tmps.getD 1 undef = .pointer (some ⟨pb, po, none⟩) := e1
    simpa [Array.getD, hsz] using this
  have ht2 : a3.tmps[2]? = some (.pointer (some ⟨B, 0, none⟩)) := by
    have : a3.tmps.getD 2 undef = .pointer (some ⟨B, 0, none⟩) := e2
    simpa [Array.getD, hsz] using this
  obtain ⟨Post, hPost⟩ : ∃ Post : World → Prop, Post = (fun W' => ∃ W0, Fr zd w4 W0 ∧ Fr (fun b => b = w3.heap.size + 1 ∨ b = B) W0 W' ∧
      ((((tok.at_ != 0) || (tok.end_ != (t0.length : Int))) = true ∧ W'.heap[w3.heap.size + 1]? = some (.loop (kRec fn a3.tmps w3.heap.size .done (some (.exit 0)))) ∧ W'.heap[B]? = some (.cells #[.int .i64 0] 3 (0, 0))) ∨
       (((tok.at_ != 0) || (tok.end_ != (t0.length : Int))) = false ∧ W'.heap[w3.heap.size + 1]? = some (.loop (kRec fn a3.tmps w3.heap.size .done (some .ret))) ∧ W'.heap[B]? = some (.cells #[.int .i64 tok.kind] 3 (0, 0))))) := ⟨_, rfl⟩
  refine callsIn_wide.2 ((zkP (A := A') (w := w4) (Post := Post) Tryz.func239 rfl rfl (by rw [Tryz.ntmps239]; exact yd rfl) hAlt hG4 hargs ?_).mono ?_)
  · have htri := zhp n t0 kw (.fn (.yield (w3.heap.size + 1)) [] []) ⟨A', zd, w4, 93, fun a W' => a.defers = [] ∧ Post W', [], 0, []⟩ rfl rfl (fun _ _ => False) tok htok (fun Q T H j q0 q5 qj => zn1 (Post := Post) (w3.heap.size + 1) tok ?_ Q T H j q0 q5 qj)
    · rw [zeI Tryz.func239 rfl] at htri
      exact htri
    · intro W v hf hv
      simp only [Token.enc, D.rep, D.reps] at hv
      obtain ⟨vs, rfl, v1, l1, hvs, rfl, v2, l2, rfl, rfl, v3, l3, rfl, rfl, v4, l4, rfl, rfl, rfl⟩ := hv
      have hvs : vs = #[.int .i64 tok.kind, .int .i64 tok.from_, .int .i64 tok.at_, .int .i64 tok.end_] := Array.toList_inj.1 (by simpa using hvs)
      subst hvs
      have hLW : W.heap[w3.heap.size + 1]? = some (.loop (kRec fn a3.tmps w3.heap.size .ready none)) := (hf.block _ (by omega) (fun x => x.elim)).trans hL4
      refine ⟨fn, a3.tmps.setIfInBounds 13 (.agg #[.int .i64 tok.kind, .int .i64 tok.from_, .int .i64 tok.at_, .int .i64 tok.end_]), kAsg, kBody, ?_, (zoo fn (w3.heap.size + 1) w3.heap.size B ⟨pb, po, none⟩ ⟨t0.toArray⟩ tok.kind tok.from_ tok.at_ tok.end_ a3.tmps hsz ht1 ht2 W (by omega) (by simp only; omega) hLW ?_ ?_).mono ?_⟩
      · have := run_yield (P := Tryz.prog) (args := #[.agg #[.int .i64 tok.kind, .int .i64 tok.from_, .int .i64 tok.at_, .int .i64 tok.end_]]) hLW rfl
        simpa [kRec] using this
      · rw [World.cell?_of_block (hf.block pb (by omega) (fun x => x.elim))]; exact hstr4
      · exact (hf.block B (by omega) (fun x => x.elim)).trans hB4
      · rintro e W' ⟨rfl, hf2, hcase⟩
        exact ⟨rfl, by rw [hPost]; exact ⟨W, hf, hf2, hcase⟩⟩
  · rintro e W ⟨⟨u, rfl⟩, hP⟩
    rw [hPost] at hP
    obtain ⟨W0, f1, f2, hcase⟩ := hP
    have hs0 : w4.heap.size ≤ W0.heap.size := f1.size
    have hD0 : W0.heap[w3.heap.size]? = some (.deferred (some [])) := (f1.block w3.heap.size (by omega) (fun x => x.elim)).trans hD4
    have hDW : W.heap[w3.heap.size]? = some (.deferred (some [])) := (f2.block w3.heap.size (by omega) (by rintro (h | h) <;> omega)).trans hD0
    have hww : w.heap.size ≤ w3.heap.size := hR3.fr.size
    have hBw : w.heap.size ≤ B := (hR3.new B (yu hB0)).resolve_left (fun h => h)
    have hfr3 : Fr zd w w3 := hR3.fr
    have hfW : Fr zd w W := ((hfr3.trans hfr4).trans f1).past f2 (by rintro b (rfl | rfl) <;> omega)
    rcases hcase with ⟨hc, hL, hBW⟩ | ⟨hc, hL, hBW⟩
    · rw [if_pos hc] at h
      cases h
      refine ⟨some (.exit 0), _, run_endLoop hL (by simp [kRec]), ?_⟩
      have hB5 : (W.putObj (w3.heap.size + 1) (.loop { kRec fn a3.tmps w3.heap.size .done (some (.exit 0)) with state := .exhausted })).heap[B]? = some (.cells #[.int .i64 0] 3 (0, 0)) := (World.putObj_heap_other (by omega)).trans hBW
      have hD5 : (W.putObj (w3.heap.size + 1) (.loop { kRec fn a3.tmps w3.heap.size .done (some (.exit 0)) with state := .exhausted })).heap[w3.heap.size]? = some (.deferred (some [])) := (World.putObj_heap_other (by omega)).trans hDW
      have hf5 : Fr zd w (W.putObj (w3.heap.size + 1) (.loop { kRec fn a3.tmps w3.heap.size .done (some (.exit 0)) with state := .exhausted })) := hfW.past (S := fun b => b = w3.heap.size + 1) ⟨rfl, rfl, rfl, by simp, fun b _ hne => World.putObj_heap_other hne, yn _⟩ (by rintro b rfl; omega)
      generalize W.putObj (w3.heap.size + 1) (.loop { kRec fn a3.tmps w3.heap.size .done (some (.exit 0)) with state := .exhausted }) = W5 at hB5 hD5 hf5 ⊢
      refine wpIn_exit ?_
      simp only [Exit.inBlock, if_true, Exit.then]
      have hB6 : (W5.setCell ⟨B, 0, none⟩ (.int .i64 0)).heap[B]? = some (.cells #[.int .i64 0] 3 (0, 0)) := by simp [World.setCell, Array.getElem?_modify, hB5]
      have hD6 : (W5.setCell ⟨B, 0, none⟩ (.int .i64 0)).heap[w3.heap.size]? = some (.deferred (some [])) := (Below.heap_setCell W5 ⟨B, 0, none⟩ _ _ (by simp only; omega)).trans hD5
      have hf6 : Fr zd w (W5.setCell ⟨B, 0, none⟩ (.int .i64 0)) := by
        have k6 : Fr (fun b => b = B) W5 (W5.setCell ⟨B, 0, none⟩ (.int .i64 0)) := ⟨rfl, rfl, rfl, by simp, fun b _ hne => Below.heap_setCell W5 ⟨B, 0, none⟩ _ b hne, yn _⟩
        exact hf5.past k6 (by rintro b rfl; exact hBw)
      exact zph B a3.tmps hsz ht2 _ W5 _ hB5 (.inr ⟨rfl, by rw [hdf]; exact zoa hsz ht2 hB6 hD6 (by omega) hf6 hww⟩)
    · rw [if_neg (by rw [hc]; simp)] at h
      cases h
      refine ⟨some .ret, _, run_endLoop hL (by simp [kRec]), ?_⟩
      have hB5 : (W.putObj (w3.heap.size + 1) (.loop { kRec fn a3.tmps w3.heap.size .done (some .ret) with state := .exhausted })).heap[B]? = some (.cells #[.int .i64 tok.kind] 3 (0, 0)) := (World.putObj_heap_other (by omega)).trans hBW
      have hD5 : (W.putObj (w3.heap.size + 1) (.loop { kRec fn a3.tmps w3.heap.size .done (some .ret) with state := .exhausted })).heap[w3.heap.size]? = some (.deferred (some [])) := (World.putObj_heap_other (by omega)).trans hDW
      have hf5 : Fr zd w (W.putObj (w3.heap.size + 1) (.loop { kRec fn a3.tmps w3.heap.size .done (some .ret) with state := .exhausted })) := hfW.past (S := fun b => b = w3.heap.size + 1) ⟨rfl, rfl, rfl, by simp, fun b _ hne => World.putObj_heap_other hne, yn _⟩ (by rintro b rfl; omega)
      generalize W.putObj (w3.heap.size + 1) (.loop { kRec fn a3.tmps w3.heap.size .done (some .ret) with state := .exhausted }) = W5 at hB5 hD5 hf5 ⊢
      refine wpIn_ret ?_
      simp only [Exit.inBlock, Exit.then]
      exact .inr ⟨rfl, by rw [hdf]; exact zoa hsz ht2 hB5 hD5 (by omega) hf5 hww⟩
end
end Go.Proofs.YtcagdmegicijlaaGreatDoor
