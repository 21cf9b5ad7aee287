/- The law holds for every input. No condition. -/
import Derived.Test.YtcagdmegicijlaaGreatDoorSy05
import Derived.Test.YtcagdmegicijlaaGreatDoorCards
import Derived.Test.YtcagdmegicijlaaGreatDoorTie
import Derived.JoinedCond
import Derived.Deep.DeepWitnessRowRef
import Derived.Lay
import Derived.ProofKit
set_option linter.unusedVariables false
set_option linter.unusedSectionVars false
set_option linter.unusedSimpArgs false
set_option maxHeartbeats 4000000
namespace Go.Proofs.YtcagdmegicijlaaGreatDoor
open Go Go.RowKit
abbrev uo := @_root_.List.getD_eq_getElem?_getD
abbrev uu := @_root_.Nat.mul_le_mul
abbrev uv := @_root_.Nat.pow_le_pow_right
abbrev uB := @_root_.List.mem_flatMap
abbrev uO := @_root_.Nat.pow_succ
def zaE (hs : List Hide) : Nat → Int → Int → Bool
 | 0, a, b => a == b
 | k + 1, a, b => a == b || hs.any fun h => h.table == a && zaE hs k h.to b
def hideP (m : Model) (h : Hide) : Bool :=
 (((decide (0 ≤ h.table) && decide (h.table < (m.tables.length : Int))) && (decide (0 ≤ h.to) && decide (h.to < (m.tables.length : Int)))) && (h.table != h.to)) &&
 (((((idx m.tables h.table).getD default).kind == 0) && (((idx m.tables h.to).getD default).kind == 0)) && ((decide (0 ≤ h.column) && decide (h.column < (((idx m.tables h.table).getD default).columns.length : Int))) && (((((idx m.tables h.to).getD default).columns.length : Int) == 1) && ((idx ((idx m.tables h.to).getD default).columns 0).getD default == (idx ((idx m.tables h.table).getD default).columns h.column).getD default))))
def zkw (m : Model) : Bool := decide (m.hides.length ≤ 12) && (m.hides.all (hideP m) && m.hides.all fun h => !zaE m.hides m.tables.length h.to h.table)
theorem zm0 {m : Model} {n : Nat} {self : Model → Int → Int → Int → Option Bool} {a b : Int} {k : Nat} (hl : m.hides.length < n) (hl2 : m.hides.length < 1000000) (hk : k + 1 < 1000000) (hself : ∀ x, self m x b (k : Int) = some (zaE m.hides k x b)) :
  loopF (zap.l1 n self m a b ((k + 1 : Nat) : Int)) n 0 = some (m.hides.any fun h => h.table == a && zaE m.hides k h.to b) := by
 have := zI (body := zap.l1 n self m a b ((k + 1 : Nat) : Int)) (len := m.hides.length) (st := fun i => (i : Int)) (g := fun i => some ((m.hides.drop i).any fun h => h.table == a && zaE m.hides k h.to b)) (fun rec i hi hr => ?_) (fun rec => ?_) n 0 (yo _) (by omega)
 ·simpa using this
 ·have h0 : decide (0 < ((k + 1 : Nat) : Int)) = true := by simp
  have hsub : sub64 ((k + 1 : Nat) : Int) 1 = (k : Int) := by rw [zgc (by omega) (by omega)]; simp
  simp only [zap.l1, zi hi, h0, uL, if_true, za hi, ya, yj, yr, grd, yg, hsub, hself, zb (i := i) (by omega), hr];rw [zo hi, uQ];cases (m.hides[i].table == a && zaE m.hides k m.hides[i].to b) <;> simp
 ·simp [zap.l1]
theorem zlU {m : Model} (hl : m.hides.length < 1000000) : ∀ (k n : Nat) (a b : Int), k < 1000000 → 1000000 + k < n → zap n m a b (k : Int) = some (zaE m.hides k a b)
 | 0, 0, _, _, _, h => by omega
 | 0, n + 1, a, b, _, h => by
  simp only [zap, zap.body, zaE];by_cases e : a = b
  ·simp [e]
  ·rw [if_neg (by simpa using e)];have hh : (a == b) = false := by simpa using e
   rw [zfS (by omega), hh];simp [zap.l1]
 | k + 1, 0, _, _, _, h => by omega
 | k + 1, n + 1, a, b, hk, h => by
  simp only [zap, zap.body, zaE];by_cases e : a = b
  ·simp [e]
  ·rw [if_neg (by simpa using e), zm0 (by omega) hl hk fun x => zlU hl k n x b (by omega) (by omega)];have hh : (a == b) = false := by simpa using e
   rw [hh, uj]
theorem zmA {m : Model} {h : Hide} (h0 : 0 ≤ h.table ∧ h.table < (m.tables.length : Int)) (h1 : 0 ≤ h.to ∧ h.to < (m.tables.length : Int)) : ∃ t u, idx m.tables h.table = some t ∧ idx m.tables h.to = some u := by
 obtain ⟨t, ht⟩ := zbf h0.1 h0.2;obtain ⟨u, hu⟩ := zbf h1.1 h1.2;exact ⟨t, u, ht, hu⟩
theorem zjC {n : Nat} {m : Model} (hn : 4294967296 ≤ n) (hS : SmallM m) : zal n m = some (zkw m) := by
 have hhl := hS.hides;have htl := hS.tables;unfold zal zkw;rw [if_neg (by simp; omega), decide_eq_true hhl, yA];have T : loopF (zal.l2 n m) n 0 = some (m.hides.all fun h => !zaE m.hides m.tables.length h.to h.table) := by
  have := zam (body := zal.l2 n m) (l := m.hides) (n := n) (st := fun i => (i : Int)) (fun h => !zaE m.hides m.tables.length h.to h.table) (some false) (some true) (fun rec i hi => ?_) (fun rec => ?_) (by omega)
  ·simp only [Int.natCast_zero] at this;rw [this];cases (m.hides.all fun h => !zaE m.hides m.tables.length h.to h.table) <;> rfl
  ·simp only [zal.l2, zi hi, if_true, za hi, ya, zlU (m := m) (by omega) m.tables.length n m.hides[i].to m.hides[i].table (by omega) (by omega), zb (i := i) (by omega)];cases zaE m.hides m.tables.length m.hides[i].to m.hides[i].table <;> simp
  ·simp [zal.l2]
 have := zam (body := zal.l1 n m) (l := m.hides) (n := n) (st := fun i => (i : Int)) (hideP m) (some false) (some (m.hides.all fun h => !zaE m.hides m.tables.length h.to h.table)) (fun rec i hi => ?_) (fun rec => ?_) (by omega)
 ·simp only [Int.natCast_zero] at this;rw [this];cases m.hides.all (hideP m) <;> simp
 ·simp only [zal.l1, zi hi, if_true, za hi, ya, zb (i := i) (by omega)];generalize m.hides[i] = h;by_cases hb : (((0 ≤ h.table ∧ h.table < (m.tables.length : Int)) ∧ (0 ≤ h.to ∧ h.to < (m.tables.length : Int))) ∧ h.table ≠ h.to)
  ·rw [if_neg (by simp; omega)];obtain ⟨t, u, ht, hu⟩ := zmA hb.1.1 hb.1.2;have hhp : hideP m h = (((t.kind == 0) && (u.kind == 0)) && ((decide (0 ≤ h.column) && decide (h.column < (t.columns.length : Int))) && (((u.columns.length : Int) == 1) && ((idx u.columns 0).getD default == (idx t.columns h.column).getD default)))) := by
    unfold hideP;rw [ht, hu];simp [hb]
   simp only [ht, hu, ya];rw [hhp];by_cases hk : (((t.kind == 0) && (u.kind == 0)) && ((decide (0 ≤ h.column) && decide (h.column < (t.columns.length : Int))) && ((u.columns.length : Int) == 1))) = true
   ·have hk' := hk;simp only [yc, yf, beq_iff_eq] at hk';obtain ⟨⟨k1, k2⟩, ⟨k3, k4⟩, k5⟩ := hk';obtain ⟨x, hx⟩ := zbf (l := u.columns) (i := 0) (by omega) (by omega);obtain ⟨y, hy⟩ := zbf k3 k4;have n1 : ¬ h.column < 0 := by omega
    have n2 : ¬ (t.columns.length : Int) ≤ h.column := by omega
    simp only [k1, k2, k3, k4, k5, n1, n2, hx, hy, yg, decide_true, decide_false, beq_self_eq_true, uD, yj, yr, uP, yA, grd, if_true];by_cases hxy : x = y
    ·simp [hxy]
    ·simp [hxy]
   ·have hf : (((((t.kind != 0) || (u.kind != 0)) || (decide (h.column < 0))) || (decide ((t.columns.length : Int) ≤ h.column))) || ((u.columns.length : Int) != 1)) = true := by
     simp only [yc, yf, beq_iff_eq] at hk;simp only [yv, bne_iff_ne, yf];omega
    simp only [hf, uG, grd, if_true];rw [← Bool.and_assoc (decide (0 ≤ h.column) && decide (h.column < (t.columns.length : Int))), ← Bool.and_assoc];simp only [yz] at hk;rw [hk]; rfl
  ·rw [if_pos (by simp; omega)];have hhp : hideP m h = false := by
    unfold hideP;cases hx : (((decide (0 ≤ h.table) && decide (h.table < (m.tables.length : Int))) && (decide (0 ≤ h.to) && decide (h.to < (m.tables.length : Int)))) && (h.table != h.to)) with
    | false => rfl
    | true =>
     simp only [yc, yf, bne_iff_ne] at hx;exact absurd hx hb
   rw [hhp]; rfl
 ·simp only [zal.l1, zaw, ye, if_false, T]
theorem zjz : ∀ (T : Nat) (l : List Int), l.Nodup → (∀ x ∈ l, 0 ≤ x ∧ x < (T : Int)) → l.length ≤ T
 | 0, l, _, h => by
  cases l with
  | nil => simp
  | cons x l => have := h x (by simp); omega
 | T + 1, l, hn, h => by
  by_cases hm : (T : Int) ∈ l
  ·have h1 := zjz T (l.erase (T : Int)) (hn.erase _) (fun x hx => by
    have := (hn.mem_erase_iff).1 hx;have := h x this.2;omega)
   rw [List.length_erase_of_mem hm] at h1;omega
  ·have := zjz T l hn (fun x hx => by
    have := h x hx;have : x ≠ (T : Int) := fun e => hm (e ▸ hx)
    omega)
   omega
theorem zjh {hs : List Hide} : ∀ {k : Nat} {a b : Int}, zaE hs k a b = true → zaE hs (k + 1) a b = true
 | 0, a, b, h => by
  simp only [zaE] at h;simp only [zaE, h, uG]
 | k + 1, a, b, h => by
  rw [zaE] at h ⊢;simp only [yv, ut, yc] at h ⊢;rcases h with h | ⟨x, hx, h1, h2⟩
  ·exact .inl h
  ·exact .inr ⟨x, hx, h1, zjh h2⟩
theorem zns {hs : List Hide} {k j : Nat} {a b : Int} (h : zaE hs k a b = true) (hkj : k ≤ j) : zaE hs j a b = true := by
 obtain ⟨d, rfl⟩ := Nat.exists_eq_add_of_le hkj;clear hkj
 induction d with
 | zero => exact h
 | succ d ih => exact zjh ih
theorem zfe {hs : List Hide} {k : Nat} {a : Int} : zaE hs k a a = true := by cases k <;> simp [zaE]
theorem zji {hs : List Hide} {h : Hide} (hh : h ∈ hs) : ∀ {k : Nat} {a : Int}, zaE hs k a h.table = true → zaE hs (k + 1) a h.to = true
 | 0, a, e => by
  simp only [zaE, beq_iff_eq] at e;simp only [zaE, yv, ut, yc, beq_iff_eq];exact .inr ⟨h, hh, e.symm, rfl⟩
 | k + 1, a, e => by
  rw [zaE] at e ⊢;simp only [yv, ut, yc, beq_iff_eq] at e ⊢;rcases e with e | ⟨x, hx, h1, h2⟩
  ·exact .inr ⟨h, hh, e.symm, zfe⟩
  ·exact .inr ⟨x, hx, h1, zji hh h2⟩
def walkP (f : Int → Hide) (s : Int) : Nat → Int
 | 0 => s
 | k + 1 => (f (walkP f s k)).to
theorem zoA {hs : List Hide} {T : Nat} {S : List Int} (hS : S ≠ []) (hb : ∀ t ∈ S, 0 ≤ t ∧ t < (T : Int)) (hac : ∀ h ∈ hs, zaE hs T h.to h.table = false) : ∃ t ∈ S, ∀ h ∈ hs, ¬ (h.table = t ∧ h.to ∈ S) := by
 apply Classical.byContradiction;intro hno;have hedge : ∀ t, t ∈ S → ∃ h, h ∈ hs ∧ h.table = t ∧ h.to ∈ S := fun t ht => by
  apply Classical.byContradiction;intro hn;exact hno ⟨t, ht, fun h hh he => hn ⟨h, hh, he.1, he.2⟩⟩
 obtain ⟨s, hs0⟩ : ∃ s, s ∈ S := by
  cases S with
  | nil => exact absurd rfl hS
  | cons x l => exact ⟨x, by simp⟩
 obtain ⟨f, hf⟩ : ∃ f : Int → Hide, ∀ t, t ∈ S → f t ∈ hs ∧ (f t).table = t ∧ (f t).to ∈ S := by
  refine ⟨fun t => if ht : t ∈ S then Classical.choose (hedge t ht) else default, fun t ht => ?_⟩;simp only [ht, dite_true];exact Classical.choose_spec (hedge t ht)
 have hw : ∀ k, walkP f s k ∈ S := fun k => by
  induction k with
  | zero => exact hs0
  | succ k ih => exact (hf _ ih).2.2
 have hlead : ∀ d i, zaE hs d (walkP f s i) (walkP f s (i + d)) = true := fun d => by
  induction d with
  | zero => intro i; exact zfe
  | succ d ih =>
   intro i;simp only [zaE, yv, ut, yc, beq_iff_eq];refine .inr ⟨f (walkP f s i), (hf _ (hw i)).1, (hf _ (hw i)).2.1, ?_⟩;have := ih (i + 1);rw [show i + 1 + d = i + (d + 1) by omega] at this;exact this
 have hne : ∀ i j, i < j → j ≤ T → walkP f s i ≠ walkP f s j := fun i j hij hj e => by
  have h1 := hlead (j - i - 1) (i + 1);rw [show i + 1 + (j - i - 1) = j by omega, ← e] at h1;have h2 := hac _ (hf _ (hw i)).1;rw [(hf _ (hw i)).2.1] at h2;have h3 : zaE hs T (f (walkP f s i)).to (walkP f s i) = true := zns h1 (by omega);rw [h3] at h2;cases h2
 have hlen := zjz T ((List.range (T + 1)).map (walkP f s)) (by
  rw [List.Nodup, List.pairwise_map];exact List.Pairwise.imp_of_mem (fun {a b} _ hb hab => hne a b hab (by have := uc.1 hb; omega)) List.pairwise_lt_range) (fun x hx => by
  simp only [yY] at hx;obtain ⟨k, -, rfl⟩ := hx;exact hb _ (hw k))
 simp at hlen;omega
def zbV (m : GMap Int Bool) : List Int := m.es.map fun e => e.2.1
structure WfM (m : GMap Int Bool) : Prop where
 tru : ∀ e ∈ m.es, e.2.2 = true
 nd : (m.es.map (·.1)).Nodup
 lt : ∀ e ∈ m.es, e.1 < m.clock
theorem WfM.get {m : GMap Int Bool} (h : WfM m) (k : Int) : (m.get? k).getD false = decide (k ∈ zbV m) := by
 unfold GMap.get?;rw [zjc k m.es h.tru]; rfl
theorem WfM.empty : WfM (GMap.empty : GMap Int Bool) := ⟨fun e he => (by simp [GMap.empty] at he), by simp [GMap.empty], fun e he => (by simp [GMap.empty] at he)⟩
theorem zmx (k : Int) : ∀ (es : List (Nat × Int × Bool)) (p : Nat × Bool), findK k es = some p → ∃ h : p.1 < es.length, es[p.1].2.1 = k
 | [], _, h => by simp [findK] at h
 | e :: es, p, h => by
  simp only [findK] at h;split at h
  ·rename_i hk;cases h;exact ⟨by simp, hk.symm⟩
  ·simp only [Option.map_eq_some_iff] at h;obtain ⟨q, h1, rfl⟩ := h;obtain ⟨h2, h3⟩ := zmx k es q h1;exact ⟨by simp only [yP]; omega, by simpa using h3⟩
theorem zht (f : Nat × Int × Bool → Nat × Int × Bool) (hf : ∀ e, (f e).1 = e.1) : ∀ (es : List (Nat × Int × Bool)) (i : Nat), (es.modify i f).map (·.1) = es.map (·.1)
 | [], _ => by simp
 | e :: es, 0 => by simp [hf]
 | e :: es, i + 1 => by simp [zht f hf es i]
theorem WfM.put {m : GMap Int Bool} (h : WfM m) (k : Int) : WfM (m.put k true) ∧ (m.put k true).es.length ≤ m.es.length + 1 ∧ ∀ t, t ∈ zbV (m.put k true) ↔ t ∈ zbV m ∨ t = k := by
 unfold GMap.put zbV;cases hk : findK k m.es with
 | none =>
  simp only [];refine ⟨⟨fun e he => ?_, ?_, fun e he => ?_⟩, by simp, fun t => by simp⟩
  ·simp only [yC, yN] at he;rcases he with he | rfl
   ·exact h.tru e he
   ·rfl
  ·simp only [uk, yQ, List.map_nil];rw [List.nodup_append];refine ⟨h.nd, by simp, fun a ha b hb => ?_⟩;simp only [yN] at hb;subst hb;simp only [yY] at ha;obtain ⟨e, he, rfl⟩ := ha;have := h.lt e he;omega
  ·simp only [yC, yN] at he;rcases he with he | rfl
   ·have := h.lt e he;simp only []; omega
   ·simp
 | some p =>
  obtain ⟨i, b⟩ := p;simp only [];have hb := zht (fun e : Nat × Int × Bool => (e.1, e.2.1, true)) (fun e => rfl) m.es i;refine ⟨⟨zh6 (p := fun e => e.2.2 = true) _ (fun e => rfl) m.es i h.tru, by rw [hb]; exact h.nd, fun e he => ?_⟩, by simp, fun t => ?_⟩
  ·have : e.1 ∈ m.es.map (·.1) := by rw [← hb]; exact List.mem_map_of_mem he
   simp only [yY] at this;obtain ⟨x, hx, e1⟩ := this;have := h.lt x hx;simp only []; omega
  ·rw [zg5 (fun e : Nat × Int × Bool => (e.1, e.2.1, true)) (fun e => rfl) m.es i];constructor
   ·exact .inl
   ·rintro (h1 | rfl)
    ·exact h1
    ·exact zjd _ m.es _ hk
theorem WfM.del {m : GMap Int Bool} (h : WfM m) {e : Nat × Int × Bool} (he : e ∈ m.es) : WfM (m.del e.2.1) ∧ (m.del e.2.1).clock = m.clock ∧ (m.del e.2.1).es.length + 1 = m.es.length ∧ (m.del e.2.1).es.Sublist m.es ∧ ∀ t, t ∈ zbV m → t ≠ e.2.1 → t ∈ zbV (m.del e.2.1) := by
 unfold GMap.del zbV;cases hk : findK e.2.1 m.es with
 | none => exact absurd (List.mem_map_of_mem (f := fun e : Nat × Int × Bool => e.2.1) he) (zmy _ m.es hk)
 | some p =>
  obtain ⟨i, b⟩ := p;obtain ⟨hi, hik⟩ := zmx _ m.es _ hk;simp only [] at hi hik ⊢;have hsub := List.eraseIdx_sublist m.es i;refine ⟨⟨fun x hx => h.tru x (hsub.subset hx), (hsub.map _).nodup h.nd, fun x hx => h.lt x (hsub.subset hx)⟩, trivial, ?_, hsub, fun t ht hne => ?_⟩
  ·rw [List.length_eraseIdx_of_lt hi]; omega
  ·simp only [yY] at ht ⊢;obtain ⟨x, hx, rfl⟩ := ht;obtain ⟨j, hj, rfl⟩ := List.mem_iff_getElem.1 hx;refine ⟨_, ?_, rfl⟩;rw [List.mem_eraseIdx_iff_getElem];refine ⟨j, hj, fun e1 => hne ?_, rfl⟩;subst e1; exact hik
theorem zly {m m' : GMap Int Bool} {seen : List Nat} {e : Nat × Int × Bool} (he : e ∈ m.left seen) (hs : m'.es.Sublist m.es) : (m'.left (seen ++ [e.1])).length < (m.left seen).length := by
 unfold GMap.left at he ⊢;have h1 : (m'.es.filter fun x => !(seen ++ [e.1]).contains x.1).length ≤ (m.es.filter fun x => !(seen ++ [e.1]).contains x.1).length := (hs.filter _).length_le;have h2 : (m.es.filter fun x => !(seen ++ [e.1]).contains x.1) = (m.es.filter fun x => !seen.contains x.1).filter fun x => !(x.1 == e.1) := by
  rw [List.filter_filter];congr 1;funext x;rw [Bool.eq_iff_iff];simp;constructor
  ·rintro ⟨a, b⟩; exact ⟨b, a⟩
  ·rintro ⟨a, b⟩; exact ⟨b, a⟩
 have h3 : ((m.es.filter fun x => !seen.contains x.1).filter fun x => !(x.1 == e.1)).length < (m.es.filter fun x => !seen.contains x.1).length :=
  List.length_filter_lt_length_iff_exists.2 ⟨e, he, by simp⟩
 rw [h2] at h1;omega
theorem ziq {n : Nat} {j : Judge} {m0 : GMap Int Bool} {i : Int} {rec : (GMap Int Bool × Int) → Option Bool} {r : Bool} (hn : 1000000 ≤ n) (hh : j.model.hides.length < 1000000) (J : GMap Int Bool → List Nat → Prop)
  (hwf : ∀ m seen, J m seen → WfM m ∧ m.clock = m0.clock) (hover : ∀ m seen, J m seen → m.left seen = [] → rec (m, add64 i 1) = some r)
  (hstep : ∀ m seen e, J m seen → e ∈ m.left seen → J (if (j.model.hides.any fun h => h.table == e.2.1 && decide (h.to ∈ zbV m)) = true then m else m.del e.2.1) (seen ++ [e.1]))
  (h0 : J m0 []) (hl : m0.es.length < 1000000) : loopF (zc.l4 n j m0 i rec) n (m0, [], m0.clock) = some r := by
 refine zdY (body := zc.l4 n j m0 i rec) (fun s => (s.1.left s.2.1).length) (fun s => J s.1 s.2.1 ∧ s.2.2 = m0.clock) (fun _ o => o = some r) (fun rec' s hI hr => ?_) n _ ⟨h0, rfl⟩ ?_
 ·obtain ⟨m, seen, last⟩ := s;obtain ⟨hJ, hlast⟩ := hI;simp only [] at hJ hlast hr;subst hlast;obtain ⟨hw, hc⟩ := hwf m seen hJ;simp only [zc.l4, stepM];have hold : m.old m0.clock m0.clock = true := by
   simp only [GMap.old, yc, yp, yf];exact ⟨fun e he => by have := hw.lt e he; omega, yn _⟩
  rw [hold];unfold grd;rw [if_pos rfl];cases hleft : m.left seen with
  | nil =>
   simp only [List.isEmpty_nil, if_true];exact hover m seen hJ hleft
  | cons x l =>
   rw [← hleft, if_neg (by rw [hleft]; simp)];refine zkQ (by rw [hleft]; simp) (fun e he => ?_);have hem : e ∈ m.es := (List.mem_filter.1 he).1;rw [if_pos (by simpa using hw.nd), zdr (p := fun h => h.table == e.2.1 && decide (h.to ∈ zbV m)) (fun h _ => by
    unfold zcF;rw [hw.get]) hh hn, ya]
   have hst := hstep m seen e hJ he;cases hb : (j.model.hides.any fun h => h.table == e.2.1 && decide (h.to ∈ zbV m)) with
   | true =>
    rw [hb] at hst;rw [if_neg (by simp)];exact hr (m, seen ++ [e.1], m.clock) ⟨hst, hc⟩ (zly he (List.Sublist.refl _))
   | false =>
    rw [hb] at hst;rw [if_pos (by simp)];exact hr (m.del e.2.1, seen ++ [e.1], m.clock) ⟨hst, hc⟩ (zly he (hw.del hem).2.2.2.1)
 ·have : (m0.left []).length ≤ m0.es.length := List.length_filter_le _ _;simp only [];omega
theorem zhu {α β : Type} {f : α → β} : ∀ {l : List α}, (l.map f).Nodup → ∀ x ∈ l, ∀ y ∈ l, f x = f y → x = y
 | [], _, x, hx, _, _, _ => by simp at hx
 | a :: l, h, x, hx, y, hy, e => by
  simp only [yQ, List.nodup_cons, yY, not_exists, not_and] at h;simp only [yM] at hx hy;rcases hx with rfl | hx <;> rcases hy with rfl | hy
  ·rfl
  ·exact absurd e.symm (h.1 y hy)
  ·exact absurd e (h.1 x hx)
  ·exact zhu h.2 x hx y hy e
theorem zkW {n : Nat} {j : Judge} {m : GMap Int Bool} (hn : 1000000 ≤ n) (hh : j.model.hides.length ≤ 1000) (hok : ∀ h ∈ j.model.hides, (0 ≤ h.table ∧ h.table < (j.model.tables.length : Int)))
  (hw : WfM m) (hlen : m.es.length ≤ j.model.hides.length) (hk : ∀ t, t ∈ zbV m ↔ ∃ h ∈ j.model.hides, h.table = t) :
  loopF (zc.l3 n j) n (m, 0) = some (j.model.hides.all fun h => !zaE j.model.hides j.model.tables.length h.to h.table) := by
 cases hac : (j.model.hides.all fun h => !zaE j.model.hides j.model.tables.length h.to h.table) with
 | true =>
  have hac' : ∀ h ∈ j.model.hides, zaE j.model.hides j.model.tables.length h.to h.table = false := fun h hm => by
   have := yp.1 hac h hm;simpa using this
  have hrange : ∀ m' : GMap Int Bool, (∀ t ∈ zbV m', ∃ h ∈ j.model.hides, h.table = t) → m'.es ≠ [] → ∃ e ∈ m'.es, ∀ h ∈ j.model.hides, ¬ (h.table = e.2.1 ∧ h.to ∈ zbV m') := fun m' hm' hne => by
   obtain ⟨t, ht, hs⟩ := zoA (hs := j.model.hides) (T := j.model.tables.length) (S := zbV m') (by simpa [zbV] using hne) (fun t ht => by
    obtain ⟨h, hh, rfl⟩ := hm' t ht;exact hok h hh) hac'
   simp only [zbV, yY] at ht;obtain ⟨e, he, rfl⟩ := ht;exact ⟨e, he, hs⟩
  refine zby (body := zc.l3 n j) (len := j.model.hides.length) (st := fun m i => (m, (i : Int))) (g := fun _ _ => some true) (fun i m => WfM m ∧ m.es.length + i ≤ j.model.hides.length ∧ ∀ t ∈ zbV m, ∃ h ∈ j.model.hides, h.table = t) (fun rec i m hi hI hr => ?_) (fun rec m hI => ?_) n 0 m (yo _) (by omega) ⟨hw, by omega, fun t ht => (hk t).1 ht⟩
  ·obtain ⟨h1, h2, h3⟩ := hI;simp only [zc.l3, zi hi, if_true];refine ziq (r := true) (by omega) (by omega) (fun m' seen => (WfM m' ∧ m'.clock = m.clock ∧ ∀ t ∈ zbV m', ∃ h ∈ j.model.hides, h.table = t) ∧ (m'.es.length + i + 1 ≤ j.model.hides.length ∨ (m'.es.length + i ≤ j.model.hides.length ∧ ∃ e ∈ m'.left seen, ∀ h ∈ j.model.hides, ¬ (h.table = e.2.1 ∧ h.to ∈ zbV m')))) (fun m' seen hJ => ⟨hJ.1.1, hJ.1.2.1⟩) (fun m' seen hJ hl => ?_) (fun m' seen e hJ he => ?_) ⟨⟨h1, rfl, h3⟩, ?_⟩ (by omega)
   ·rw [zb (by omega)];refine hr m' ⟨hJ.1.1, ?_, hJ.1.2.2⟩;rcases hJ.2 with h | ⟨-, e, he, -⟩
    ·omega
    ·rw [hl] at he; cases he
   ·obtain ⟨⟨w1, w2, w3⟩, hd⟩ := hJ;have hem : e ∈ m'.es := (List.mem_filter.1 he).1;obtain ⟨d1, d2, d3, d4, -⟩ := w1.del hem;cases hb : (j.model.hides.any fun h => h.table == e.2.1 && decide (h.to ∈ zbV m')) with
    | true =>
     rw [if_pos rfl];refine ⟨⟨w1, w2, w3⟩, ?_⟩;rcases hd with hd | ⟨hd, x, hx, hs⟩
     ·exact .inl hd
     ·refine .inr ⟨hd, x, ?_, hs⟩;simp only [GMap.left, List.mem_filter] at hx ⊢;refine ⟨hx.1, ?_⟩;have hne : x.1 ≠ e.1 := fun e1 => by
       have : x = e := zhu w1.nd x hx.1 e hem e1;subst this;simp only [ut, yc, beq_iff_eq, yf] at hb;obtain ⟨h, hh, q⟩ := hb;exact hs h hh q
      simp only [yG, List.contains_eq_mem, yH, yC, yN, not_or] at hx ⊢;exact ⟨hx.2, hne⟩
    | false =>
     rw [if_neg (by simp)];refine ⟨⟨d1, by omega, fun t ht => ?_⟩, .inl ?_⟩
     ·refine w3 t ?_;simp only [zbV, yY] at ht ⊢;obtain ⟨x, hx, rfl⟩ := ht;exact ⟨x, d4.subset hx, rfl⟩
     ·rcases hd with hd | ⟨hd, -⟩ <;> omega
   ·by_cases hne : m.es = []
    ·left; rw [hne]; simp; omega
    ·right;refine ⟨h2, ?_⟩;obtain ⟨e, he, hs⟩ := hrange m h3 hne;exact ⟨e, by simp [GMap.left, he], hs⟩
  ·have : m.es.length = 0 := by omega
   simp [zc.l3, this]
 | false =>
  obtain ⟨h0, hm0, hl0⟩ : ∃ h ∈ j.model.hides, zaE j.model.hides j.model.tables.length h.to h.table = true := by
   simp only [List.all_eq_false] at hac;obtain ⟨h, hm, hx⟩ := hac;exact ⟨h, hm, by simpa using hx⟩
  have hclosed : ∀ t, ((∃ k, zaE j.model.hides k h0.to t = true) ∧ ∃ k, zaE j.model.hides k t h0.table = true) → ∃ h ∈ j.model.hides, h.table = t ∧ ((∃ k, zaE j.model.hides k h0.to h.to = true) ∧ ∃ k, zaE j.model.hides k h.to h0.table = true) := by
   rintro t ⟨⟨a, ha⟩, b, hb⟩;have hcase : t = h0.table ∨ ∃ h ∈ j.model.hides, h.table = t ∧ ∃ k, zaE j.model.hides k h.to h0.table = true := by
    cases b with
    | zero => left; simpa [zaE] using hb
    | succ b =>
     simp only [zaE, yv, beq_iff_eq, ut, yc] at hb;rcases hb with hb | ⟨h, hm, e, hx⟩
     ·exact .inl hb
     ·exact .inr ⟨h, hm, e, b, hx⟩
   rcases hcase with rfl | ⟨h, hm, rfl, k, hx⟩
   ·exact ⟨h0, hm0, rfl, ⟨0, zfe⟩, _, hl0⟩
   ·exact ⟨h, hm, rfl, ⟨_, zji hm ha⟩, k, hx⟩
  generalize hC : (fun t => (∃ k, zaE j.model.hides k h0.to t = true) ∧ ∃ k, zaE j.model.hides k t h0.table = true) = C at *;have hC' : ∀ t, C t → ∃ h ∈ j.model.hides, h.table = t ∧ C h.to := by
   intro t ht;rw [← hC] at ht ⊢;exact hclosed t ht
  have hCs : C h0.to := by rw [← hC]; exact ⟨⟨0, zfe⟩, _, hl0⟩
  refine zby (body := zc.l3 n j) (len := j.model.hides.length) (st := fun m i => (m, (i : Int))) (g := fun _ _ => some false) (fun i m => WfM m ∧ m.es.length ≤ 1000 ∧ ∀ t, C t → t ∈ zbV m) (fun rec i m hi hI hr => ?_) (fun rec m hI => ?_) n 0 m (yo _) (by omega) ⟨hw, by omega, fun t ht => (hk t).2 (by
   obtain ⟨h, hh, e, -⟩ := hC' t ht;exact ⟨h, hh, e⟩)⟩
  ·obtain ⟨h1, h2, h3⟩ := hI;simp only [zc.l3, zi hi, if_true];refine ziq (r := false) (by omega) (by omega) (fun m' seen => WfM m' ∧ m'.clock = m.clock ∧ m'.es.length ≤ 1000 ∧ ∀ t, C t → t ∈ zbV m') (fun m' seen hJ => ⟨hJ.1, hJ.2.1⟩) (fun m' seen hJ hl => ?_) (fun m' seen e hJ he => ?_) ⟨h1, rfl, h2, h3⟩ (by omega)
   ·rw [zb (by omega)];exact hr m' ⟨hJ.1, hJ.2.2⟩
   ·obtain ⟨w1, w2, w3, w4⟩ := hJ;have hem : e ∈ m'.es := (List.mem_filter.1 he).1;obtain ⟨d1, d2, d3, -, d5⟩ := w1.del hem;cases hb : (j.model.hides.any fun h => h.table == e.2.1 && decide (h.to ∈ zbV m')) with
    | true =>
     rw [if_pos rfl];exact ⟨w1, w2, w3, w4⟩
    | false =>
     rw [if_neg (by simp)];refine ⟨d1, by omega, by omega, fun t ht => d5 t (w4 t ht) fun e1 => ?_⟩;obtain ⟨h, hh, hht, hto⟩ := hC' t ht;have := List.any_eq_false.1 hb h hh;apply this;simp only [yc, beq_iff_eq, yf];exact ⟨by omega, w4 _ hto⟩
  ·obtain ⟨-, -, h3⟩ := hI;have := h3 _ hCs;have hne : m.es.length ≠ 0 := fun e => by
    simp only [zbV, List.length_eq_zero_iff.1 e, List.map_nil, List.not_mem_nil] at this
   simp only [zc.l3, zaw, ye, if_false, yh, y6];omega
theorem zjv {n : Nat} {m : Model} {l : List Range} (hn : 1000000 ≤ n) (hS : SmallM m) : zc n ⟨m, l⟩ = some (zkw m) := by
 have hhl := hS.hides;have htl := hS.tables;unfold zc zkw;rw [if_neg (by simp; omega), decide_eq_true hhl, yA];have := zam (body := zc.l1 n ⟨m, l⟩) (l := m.hides) (n := n) (st := fun i => (i : Int)) (hideP m) (some false) (loopF (zc.l2 n ⟨m, l⟩) n (GMap.empty, 0)) (fun rec i hi => ?_) (fun rec => ?_) (by omega)
 ·simp only [Int.natCast_zero] at this;rw [this];cases hall : m.hides.all (hideP m) with
  | false => simp
  | true =>
   rw [if_pos rfl, yA];have hok : ∀ h ∈ m.hides, (0 ≤ h.table ∧ h.table < (m.tables.length : Int)) := fun h hm => by
    have := yp.1 hall h hm;simp only [hideP, yc, yf] at this;exact this.1.1.1
   refine zby (body := zc.l2 n ⟨m, l⟩) (len := m.hides.length) (st := fun g i => (g, (i : Int))) (g := fun _ _ => some (m.hides.all fun h => !zaE m.hides m.tables.length h.to h.table)) (fun i g => WfM g ∧ g.es.length ≤ i ∧ ∀ t, t ∈ zbV g ↔ ∃ h ∈ m.hides.take i, h.table = t) (fun rec i g hi hI hr => ?_) (fun rec g hI => ?_) n 0 GMap.empty (yo _) (by omega) ⟨WfM.empty, by simp [GMap.empty], fun t => by simp [zbV, GMap.empty]⟩
   ·obtain ⟨h1, h2, h3⟩ := hI;obtain ⟨p1, p2, p3⟩ := h1.put m.hides[i].table;simp only [zc.l2, zi hi, if_true, za hi, ya, zb (i := i) (by omega)];refine hr _ ⟨p1, by omega, fun t => ?_⟩;rw [p3, h3, yF hi];simp only [yC, yN];constructor
    ·rintro (⟨h, hm, e⟩ | e)
     ·exact ⟨h, .inl hm, e⟩
     ·exact ⟨_, .inr rfl, e.symm⟩
    ·rintro ⟨h, hm | rfl, e⟩
     ·exact .inl ⟨h, hm, e⟩
     ·exact .inr e.symm
   ·obtain ⟨h1, h2, h3⟩ := hI;simp only [zc.l2, zaw, ye, if_false];exact zkW (j := ⟨m, l⟩) hn (by simp only []; omega) hok h1 h2 (fun t => by rw [h3, List.take_length])
 ·simp only [zc.l1, zad, zi hi, if_true, za hi, ya, yj, yr, yg, zb (i := i) (by omega)];generalize m.hides[i] = h;by_cases hb : (((0 ≤ h.table ∧ h.table < (m.tables.length : Int)) ∧ (0 ≤ h.to ∧ h.to < (m.tables.length : Int))) ∧ h.table ≠ h.to)
  ·simp only [grd, if_true];rw [if_neg (by simp [hb])];obtain ⟨t, u, ht, hu⟩ := zmA hb.1.1 hb.1.2;have hhp : hideP m h = (((t.kind == 0) && (u.kind == 0)) && ((decide (0 ≤ h.column) && decide (h.column < (t.columns.length : Int))) && (((u.columns.length : Int) == 1) && ((idx u.columns 0).getD default == (idx t.columns h.column).getD default)))) := by
    unfold hideP;rw [ht, hu];simp [hb]
   simp only [ht, hu, ya];rw [hhp];by_cases hk : (((t.kind == 0) && (u.kind == 0)) && ((decide (0 ≤ h.column) && decide (h.column < (t.columns.length : Int))) && ((u.columns.length : Int) == 1))) = true
   ·have hk' := hk;simp only [yc, yf, beq_iff_eq] at hk';obtain ⟨⟨k1, k2⟩, ⟨k3, k4⟩, k5⟩ := hk';obtain ⟨x, hx⟩ := zbf (l := u.columns) (i := 0) (by omega) (by omega);obtain ⟨y, hy⟩ := zbf k3 k4;simp only [k1, k2, k3, k4, k5, hx, hy, yg, decide_true, beq_self_eq_true, uD, yj, yr, uP, yA, uL, yT, if_true];by_cases hxy : x = y
    ·simp [hxy]
    ·simp [hxy]
   ·have hf : (((((t.kind != 0) || (u.kind != 0)) || (!(decide (0 ≤ h.column) && decide (h.column < (t.columns.length : Int))))) || ((u.columns.length : Int) != 1))) = true := by
     simp only [yc, yf, beq_iff_eq] at hk;simp only [yv, bne_iff_ne, yG, ug, yH];omega
    simp only [hf, uG, if_true];rw [← Bool.and_assoc (decide (0 ≤ h.column) && decide (h.column < (t.columns.length : Int))), ← Bool.and_assoc];simp only [yz] at hk;rw [hk]; rfl
  ·have hhp : hideP m h = false := by
    unfold hideP;cases hx : (((decide (0 ≤ h.table) && decide (h.table < (m.tables.length : Int))) && (decide (0 ≤ h.to) && decide (h.to < (m.tables.length : Int)))) && (h.table != h.to)) with
    | false => rfl
    | true =>
     simp only [yc, yf, bne_iff_ne] at hx;exact absurd hx hb
   rw [hhp];simp only [grd, if_true];rw [if_pos (by
    simp only [yv, yG, ug, yH, beq_iff_eq];omega)]
   rfl
 ·simp [zc.l1]
def ze3 (m : Model) : Bool := (zbh m.sorts m.tables && (decide (m.families.length ≤ 24) && distP [] m.families)) && (consP m (zQ m.sorts true m.tables) && (opsP m && (actsP m (zQ m.sorts true m.tables).length && zkw m)))
theorem zgG {n : Nat} {m : Model} (hF : Fuel n) (hS : SmallM m) : zcR n m = some (ze3 m) := by
 have hn := hF.big;have hs := hS.sorts;have ht := hS.tables;have hf := hS.families;have hcs : ∀ t ∈ m.tables, t.columns.length ≤ 1000 := fun t h => by have := hS.tab t h; omega
 unfold zcR ze3;rw [zev hF (by omega) (by omega) hcs, zeS hF (by omega)];simp only [ya, yj, yr, grd, if_true, yg];have e1 : decide (24 < (m.families.length : Int)) = !decide (m.families.length ≤ 24) := by rw [← decide_not]; exact decide_eq_decide.2 (by omega)
 rw [e1];cases hL : zbh m.sorts m.tables with
 | false => simp
 | true =>
  by_cases hd : (decide (m.families.length ≤ 24) && distP [] m.families) = true
  ·rw [hd];simp only [yc] at hd;rw [hd.1, hd.2, if_neg (by simp), zfD hF (by omega) (by omega) hcs, hL];simp only [if_true, ya];obtain ⟨l1, l2, l3, l4⟩ := zbr hL;have hlen := zcS (sizes := m.sorts) (s := true) (l := m.tables) fun x hx => (l4 x hx).2.2.2.2
   rw [zgt hS (fun t ht => (l4 t ht).2.2.2.1) (by omega) (by omega), zg4 hF hS, zjv (by omega) hS];simp only [ya, yj, yg, yr, if_true];cases consP m (zQ m.sorts true m.tables) with
   | false => simp
   | true =>
    cases hO : opsP m with
    | false => simp
    | true =>
     rw [ziI hF hS hO];simp
  ·have h2 : (!true || !decide (m.families.length ≤ 24) || !distP [] m.families) = true := by
    simp only [yc, not_and, yz] at hd;cases h1 : decide (m.families.length ≤ 24) with
    | false => rfl
    | true => rw [hd h1]; rfl
   rw [if_pos h2];simp only [yz] at hd;rw [hd]; rfl
theorem zj5 {n : Nat} {m : Model} (hn : 4294967296 ≤ n) (hS : SmallM m) : zfj n m = some (ze3 m) := by
 have hs := hS.sorts;have ht := hS.tables;have hf := hS.families;have hcs : ∀ t ∈ m.tables, t.columns.length ≤ 1000 ∧ t.name.length ≤ 4096 := fun t h => by have := hS.tab t h; omega
 unfold zfj ze3;rw [zeC (by omega) (by omega) (by omega) hcs, zeW (by omega) (by omega) (fun w hw => by have := hS.fam w hw; omega)];simp only [ya, yj, yr, grd, if_true, yg];have e1 : decide (24 < (m.families.length : Int)) = !decide (m.families.length ≤ 24) := by rw [← decide_not]; exact decide_eq_decide.2 (by omega)
 rw [e1];cases hL : zbh m.sorts m.tables with
 | false => simp
 | true =>
  by_cases hd : (decide (m.families.length ≤ 24) && distP [] m.families) = true
  ·rw [hd];simp only [yc] at hd;rw [hd.1, hd.2, if_neg (by simp), zgv hS hL (by omega), ziM (by omega) hS hL, zjC hn hS];simp only [ya, yj, yg, yr, if_true, yA];simp only [Bool.and_assoc]
  ·have h2 : (!true || !decide (m.families.length ≤ 24) || !distP [] m.families) = true := by
    simp only [yc, not_and, yz] at hd;cases h1 : decide (m.families.length ≤ 24) with
    | false => rfl
    | true => rw [hd h1]; rfl
   rw [if_pos h2];simp only [yz] at hd;rw [hd]; rfl
def lensP (m : Model) : Bool := (((((((decide (8 < (m.sorts.length : Int))) || (decide (6 < (m.tables.length : Int)))) || (decide (20 < (m.families.length : Int)))) || (decide (60 < (m.constraints.length : Int)))) || (decide (8 < (m.operations.length : Int)))) || (decide (30 < (m.actions.length : Int)))) || (decide (12 < (m.hides.length : Int))))
def tabF (t : Table) : Bool := decide (t.name.length ≤ 40) && decide (t.columns.length ≤ 12)
def opF (o : Operation) : Bool := decide (o.name.length ≤ 40) && decide (o.sorts.length ≤ 6)
def actF (a : Action) : Bool := ((decide (a.arguments.length ≤ 6) && decide (a.effect.delta.length ≤ 20)) && (decide (a.effect.hold.length ≤ 10) && decide (a.effect.updates.length ≤ 40))) && a.effect.hold.all fun r => decide (r.terms.length ≤ 20)
def zgj (m : Model) : Bool := !lensP m && (m.tables.all tabF && (m.families.all (fun s => decide (s.length ≤ 40)) && (m.constraints.all (fun c => decide (c.row.terms.length ≤ 20)) && (m.operations.all opF && m.actions.all actF))))
theorem zlC {a b : Nat} : decide ((a : Int) < (b : Int)) = !decide (b ≤ a) := by rw [← decide_not]; exact decide_eq_decide.2 (by omega)
theorem ziK {n : Nat} {m : Model} (hn : 1000000 ≤ n) : zm n m = some (zgj m) := by
 unfold zm zgj;have hl : (((((((decide (8 < (m.sorts.length : Int))) || (decide (6 < (m.tables.length : Int)))) || (decide (20 < (m.families.length : Int)))) || (decide (60 < (m.constraints.length : Int)))) || (decide (8 < (m.operations.length : Int)))) || (decide (30 < (m.actions.length : Int)))) || (decide (12 < (m.hides.length : Int)))) = lensP m := rfl;rw [hl];cases hlen : lensP m with
 | true => simp [grd]
 | false =>
  simp only [lensP, ul, yH] at hlen;obtain ⟨⟨⟨⟨⟨⟨b1, b2⟩, b3⟩, b4⟩, b5⟩, b6⟩, b7⟩ := hlen;have hfew : zco n m.sorts m.tables = some (m.tables.all tabF) := by
   have := zam (body := zco.l1 n m.sorts m.tables) (l := m.tables) (n := n) (st := fun i => (i : Int)) tabF (some false) (some true) (fun rec i hi => ?_) (fun rec => ?_) (by omega)
   ·simp only [Int.natCast_zero] at this;unfold zco;rw [this];cases m.tables.all tabF <;> rfl
   ·simp only [zco.l1, zi hi, if_true, za hi, ya, yj, yr, grd, yg, zb (i := i) (by omega)];unfold tabF;by_cases h1 : m.tables[i].name.length ≤ 40
    ·by_cases h2 : m.tables[i].columns.length ≤ 12
     ·rw [if_neg (by simp; omega), if_pos (by simp [h1, h2])]
     ·rw [if_pos (by simp; omega), if_neg (by simp [h2])]
    ·rw [if_pos (by simp; omega), if_neg (by simp [h1])]
   ·simp [zco.l1]; omega
  rw [hfew];simp only [yj, yr, grd, if_true, yg, uj, uA, yA];cases m.tables.all tabF with
  | false => simp
  | true =>
   rw [if_neg (by simp), yA];have h4 : loopF (zm.l4 n m) n 0 = some (m.actions.all actF) := by
    have := zam (body := zm.l4 n m) (l := m.actions) (n := n) (st := fun i => (i : Int)) actF (some false) (some true) (fun rec i hi => ?_) (fun rec => ?_) (by omega)
    ·simp only [Int.natCast_zero] at this;rw [this];cases m.actions.all actF <;> rfl
    ·simp only [zm.l4, zi hi, if_true, za hi, ya];unfold actF;by_cases hx : ((decide (m.actions[i].arguments.length ≤ 6) && decide (m.actions[i].effect.delta.length ≤ 20)) && (decide (m.actions[i].effect.hold.length ≤ 10) && decide (m.actions[i].effect.updates.length ≤ 40))) = true
     ·rw [hx, yA];simp only [yc, yf] at hx;rw [if_neg (by simp; omega)];have := zam (body := zm.l5 n i rec m.actions[i]) (l := m.actions[i].effect.hold) (n := n) (st := fun k => (k : Int)) (fun r => decide (r.terms.length ≤ 20)) (some false) (rec ((i + 1 : Nat) : Int)) (fun rec' k hk => ?_) (fun rec' => ?_) (by omega)
      ·simpa using this
      ·simp only [zm.l5, zi hk, if_true, za hk, ya, zb (i := k) (by omega)];by_cases h : m.actions[i].effect.hold[k].terms.length ≤ 20
       ·rw [if_neg (by simp; omega), if_pos (by simp [h])]
       ·rw [if_pos (by simp; omega), if_neg (by simp [h])]
      ·simp only [zm.l5, zaw, ye, if_false, zb (i := i) (by omega)]
     ·rw [if_pos (by
       simp only [yc, yf] at hx;simp only [yv, yf]; omega)]
      simp only [yz] at hx;rw [hx, yW, if_neg (by simp)]
    ·simp [zm.l4]
   have h3 : loopF (zm.l3 n m) n 0 = some (m.operations.all opF && m.actions.all actF) := by
    have := zam (body := zm.l3 n m) (l := m.operations) (n := n) (st := fun i => (i : Int)) opF (some false) (some (m.actions.all actF)) (fun rec i hi => ?_) (fun rec => ?_) (by omega)
    ·simp only [Int.natCast_zero] at this;rw [this];cases m.operations.all opF <;> rfl
    ·simp only [zm.l3, zi hi, if_true, za hi, ya, yj, yr, grd, yg, zb (i := i) (by omega)];unfold opF;by_cases h1 : m.operations[i].name.length ≤ 40
     ·by_cases h2 : m.operations[i].sorts.length ≤ 6
      ·rw [if_neg (by simp; omega), if_pos (by simp [h1, h2])]
      ·rw [if_pos (by simp; omega), if_neg (by simp [h2])]
     ·rw [if_pos (by simp; omega), if_neg (by simp [h1])]
    ·simp only [zm.l3, zaw, ye, if_false, h4]
   have h2 : loopF (zm.l2 n m) n 0 = some (m.constraints.all (fun c => decide (c.row.terms.length ≤ 20)) && (m.operations.all opF && m.actions.all actF)) := by
    have := zam (body := zm.l2 n m) (l := m.constraints) (n := n) (st := fun i => (i : Int)) (fun c => decide (c.row.terms.length ≤ 20)) (some false) (some (m.operations.all opF && m.actions.all actF)) (fun rec i hi => ?_) (fun rec => ?_) (by omega)
    ·simp only [Int.natCast_zero] at this;rw [this];cases m.constraints.all (fun c => decide (c.row.terms.length ≤ 20)) <;> rfl
    ·simp only [zm.l2, zi hi, if_true, za hi, ya, zb (i := i) (by omega)];by_cases h : m.constraints[i].row.terms.length ≤ 20
     ·rw [if_neg (by simp; omega), if_pos (by simp [h])]
     ·rw [if_pos (by simp; omega), if_neg (by simp [h])]
    ·simp only [zm.l2, zaw, ye, if_false, h3]
   have := zam (body := zm.l1 n m) (l := m.families) (n := n) (st := fun i => (i : Int)) (fun s => decide (s.length ≤ 40)) (some false) (some (m.constraints.all (fun c => decide (c.row.terms.length ≤ 20)) && (m.operations.all opF && m.actions.all actF))) (fun rec i hi => ?_) (fun rec => ?_) (by omega)
   ·simp only [Int.natCast_zero] at this;rw [this];cases m.families.all (fun s => decide (s.length ≤ 40)) <;> rfl
   ·simp only [zm.l1, zi hi, if_true, za hi, ya, zb (i := i) (by omega)];by_cases h : m.families[i].length ≤ 40
    ·rw [if_neg (by simp; omega), if_pos (by simp [h])]
    ·rw [if_pos (by simp; omega), if_neg (by simp [h])]
   ·simp only [zm.l1, zaw, ye, if_false, h2]
theorem zgB {m : Model} (h : zgj m = true) : SmallM m := by
 simp only [zgj, lensP, tabF, opF, actF, yc, yG, ul, yH, yp, yf] at h;obtain ⟨⟨⟨⟨⟨⟨⟨b1, b2⟩, b3⟩, b4⟩, b5⟩, b6⟩, b7⟩, c1, c2, c3, c4, c5⟩ := h;exact ⟨by omega, by omega, c1, by omega, c2, by omega, c3, by omega, c4, by omega, fun a ha => by
  obtain ⟨⟨⟨p1, p2⟩, p3, p4⟩, p5⟩ := c5 a ha;exact ⟨p1, p2, p3, p4, p5⟩, by omega⟩
def prodP : Int → List Range → Bool
 | _, [] => true
 | p, r :: l => !decide (4096 < mul64 p (add64 (sub64 r.hi r.lo) 1)) && prodP (mul64 p (add64 (sub64 r.hi r.lo) 1)) l
def zcg (m : Model) : List Range := if zbh m.sorts m.tables = true then zQ m.sorts true m.tables else []
def fewP (m : Model) : Bool := ((zgj m && decide (m.actions.length ≤ 12)) && decide (m.constraints.length ≤ 40)) && (m.actions.all (fun a => decide (a.effect.hold.length ≤ 4)) && (decide ((zcg m).length ≤ 12) && prodP 1 (zcg m)))
theorem zjE {n : Nat} {m : Model} (hn : 1000000 ≤ n) (hS : SmallM m) : zb2 n m = some (zcg m) := by
 have hs := hS.sorts;have ht := hS.tables;unfold zb2;rw [zd6 hn (by omega) (by omega) (fun t h => by have := hS.tab t h; omega)];rfl
theorem zmm {m : Model} (hS : SmallM m) : (zcg m).length ≤ 2592 := by
 have ht := hS.tables;unfold zcg;split
 ·rename_i hL;obtain ⟨l1, l2, l3, l4⟩ := zbr hL;have := zcS (sizes := m.sorts) (s := true) (l := m.tables) fun x hx => (l4 x hx).2.2.2.2
  omega
 ·simp
theorem zlJ {n : Nat} {m : Model} (hn : 1000000 ≤ n) : zbs n m = some (fewP m) := by
 unfold zbs fewP;rw [ziK hn, ya];have e1 : decide (12 < (m.actions.length : Int)) = !decide (m.actions.length ≤ 12) := zlC (a := 12);have e2 : decide (40 < (m.constraints.length : Int)) = !decide (m.constraints.length ≤ 40) := zlC (a := 40);rw [e1, e2, ← Bool.not_and, ← Bool.not_and];cases hb : (zgj m && decide (m.actions.length ≤ 12) && decide (m.constraints.length ≤ 40)) with
 | false => simp
 | true =>
  simp only [yc, yf] at hb;have hS := zgB hb.1.1;have hsl := zmm hS;have T : (if (decide (12 < ((zcg m).length : Int))) = true then some false else loopF (zbs.l2 n (zcg m)) n (1, 0)) = some (decide ((zcg m).length ≤ 12) && prodP 1 (zcg m)) := by
   by_cases h : (zcg m).length ≤ 12
   ·rw [if_neg (by simp; omega), decide_eq_true h, yA];refine zby (body := zbs.l2 n (zcg m)) (len := (zcg m).length) (st := fun (p : Int) i => (p, (i : Int))) (g := fun i p => some (prodP p ((zcg m).drop i))) (fun _ _ => True) (fun rec i p hi _ hr => ?_) (fun rec p _ => ?_) n 0 1 (yo _) (by omega) trivial
    ·simp only [zbs.l2, zi hi, if_true, za hi, ya, zb (i := i) (by omega), hr _ trivial];rw [zo hi, prodP];cases decide (4096 < mul64 p (add64 (sub64 (zcg m)[i].hi (zcg m)[i].lo) 1)) <;> simp
    ·simp [zbs.l2, prodP]
   ·rw [if_pos (by simp; omega), decide_eq_false h, yW]
  have := zam (body := zbs.l1 n m) (l := m.actions) (n := n) (st := fun i => (i : Int)) (fun a => decide (a.effect.hold.length ≤ 4)) (some false) (some (decide ((zcg m).length ≤ 12) && prodP 1 (zcg m))) (fun rec i hi => ?_) (fun rec => ?_) (by omega)
  ·simp only [Int.natCast_zero] at this;rw [if_neg (by simp), this];cases m.actions.all (fun a => decide (a.effect.hold.length ≤ 4)) <;> simp
  ·simp only [zbs.l1, zi hi, if_true, za hi, ya, zb (i := i) (by omega)];by_cases h : m.actions[i].effect.hold.length ≤ 4
   ·rw [if_neg (by simp; omega), if_pos (by simp [h])]
   ·rw [if_pos (by simp; omega), if_neg (by simp [h])]
  ·simp only [zbs.l1, zaw, ye, if_false, zjE hn hS, ya, T]
theorem zmX {m : Model} (h : fewP m = true) : SmallM m := by
 simp only [fewP, yc] at h;exact zgB h.1.1.1
structure ValidM (m : Model) : Prop where
 lay : zbh m.sorts m.tables = true
 fams : m.families.length ≤ 24 ∧ distP [] m.families = true
 cons : consP m (zQ m.sorts true m.tables) = true
 ops : opsP m = true
 acts : actsP m (zQ m.sorts true m.tables).length = true
 hid : zkw m = true
theorem ze4 {m : Model} : ze3 m = true ↔ ValidM m := by
 simp only [ze3, yc, yf];exact ⟨fun ⟨⟨a, b, c⟩, d, e, f, g⟩ => ⟨a, ⟨b, c⟩, d, e, f, g⟩, fun ⟨a, ⟨b, c⟩, d, e, f, g⟩ => ⟨⟨a, b, c⟩, d, e, f, g⟩⟩
def stepT (s : Nat) (L : List (List Int)) : List (List Int) := L.flatMap fun l => (List.range s).map fun e : Nat => l ++ [(e : Int)]
def zed (sizes : List Int) : List Int → List (List Int) → List (List Int)
 | [], L => L
 | c :: cols, L => zed sizes cols (stepT (zcp sizes c).toNat L)
def zdl (sizes cols : List Int) : List (List Int) := zed sizes cols [[]]
theorem zgT (sizes : List Int) : ∀ (a b : List Int) (L : List (List Int)), zed sizes (a ++ b) L = zed sizes b (zed sizes a L)
 | [], _, _ => rfl
 | _ :: a, b, L => by simp only [yZ, zed]; exact zgT sizes a b _
theorem ziC (s : Nat) (A B : List (List Int)) : stepT s (A ++ B) = stepT s A ++ stepT s B := by simp [stepT]
theorem zl2 {s : Nat} {L : List (List Int)} : (stepT s L).length = L.length * s := by
 induction L with
 | nil => simp [stepT]
 | cons l L ih =>
  have : stepT s (l :: L) = stepT s [l] ++ stepT s L := ziC s [l] L;rw [this, yI, ih];simp [stepT, ui, Nat.add_comm]
theorem znJ {s : Nat} {L : List (List Int)} {k : Nat} (h : ∀ l ∈ L, l.length = k) : ∀ l ∈ stepT s L, l.length = k + 1 := fun l hl => by
 simp only [stepT, uB, yY] at hl;obtain ⟨x, hx, e, -, rfl⟩ := hl;simp [h x hx]
theorem zm4 {s : Nat} {L : List (List Int)} {i : Nat} (hi : i < L.length) : stepT s (L.take (i + 1)) = stepT s (L.take i) ++ (List.range s).map fun e : Nat => L[i] ++ [(e : Int)] := by
 rw [yF hi, ziC];congr 1;simp [stepT]
def zdv (i : Nat) (L : List (List Int)) : List Place := L.map fun l => ⟨(i : Int), l⟩
def zcn (sizes : List Int) (s : Bool) : List Table → Nat → List Place
 | [], _ => []
 | t :: l, i => (if decide (t.kind ≤ 1) = s then zdv i (zdl sizes t.columns) else []) ++ zcn sizes s l (i + 1)
theorem zgH (sizes : List Int) (s : Bool) : ∀ (a b : List Table) (i : Nat), zcn sizes s (a ++ b) i = zcn sizes s a i ++ zcn sizes s b (i + a.length)
 | [], b, i => by simp [zcn]
 | t :: a, b, i => by
  simp only [yZ, zcn, zgH sizes s a b, yP, yE];rw [show i + 1 + a.length = i + (a.length + 1) by omega]
theorem zit {sizes : List Int} {s : Bool} {l : List Table} {i : Nat} (hi : i < l.length) : zcn sizes s (l.take (i + 1)) 0 = zcn sizes s (l.take i) 0 ++ (if decide (l[i].kind ≤ 1) = s then zdv i (zdl sizes l[i].columns) else []) := by
 rw [yF hi, zgH];congr 1;simp only [zcn, y0, yL, uy];rw [show min i l.length = i by omega]
theorem zou {n : Nat} {x40 : Int} {rec : ((List (List Int)) × Int) → Option ((Option Layout) × Bool)} {l : List Int} {s : Nat} {b : List (List Int)} {k : Nat} (hk : add64 x40 1 = (k : Int)) (hs : s ≤ 6) (hl : l.length ≤ 100) (hb : b.length ≤ 100000) (hn : 1000000 ≤ n) :
  loopF (zh.l4 n x40 rec l (s : Int)) n (b, 0) = rec (b ++ (List.range s).map fun e : Nat => l ++ [(e : Int)], (k : Int)) := by
 have := zI (body := zh.l4 n x40 rec l (s : Int)) (len := s) (st := fun i => (b ++ (List.range i).map fun e : Nat => l ++ [(e : Int)], (i : Int))) (g := fun _ => rec (b ++ (List.range s).map fun e : Nat => l ++ [(e : Int)], (k : Int))) (fun rec' i hi hr => ?_) (fun rec' => ?_) n 0 (yo _) (by omega)
 ·simpa using this
 ·rw [uJ, uk, ← yE] at hr;simp only [zh.l4, zhq hi, if_true, zb (i := i) (by omega)];rw [zp (by simp; omega), ya, zp (by simp; omega), ya, zp (by simp; omega), ya];exact hr
 ·simp only [zh.l4, zft (yn s), ye, if_false, hk]
theorem zot {n : Nat} {m : Model} {L : List (List Int)} {x34 x36 : Int} {rec : ((List (List Int)) × Int) → Option ((Option Layout) × Bool)} {s k : Nat} (hk : add64 x34 1 = (k : Int)) (hx : idx m.sorts x36 = some (s : Int)) (hs : s ≤ 6) (hl : ∀ l ∈ L, l.length ≤ 100) (hL : L.length ≤ 1000) (hn : 1000000 ≤ n) :
  loopF (zh.l3 n m L x34 rec x36) n ([], 0) = rec (stepT s L, (k : Int)) := by
 have := zI (body := zh.l3 n m L x34 rec x36) (len := L.length) (st := fun i => (stepT s (L.take i), (i : Int))) (g := fun _ => rec (stepT s L, (k : Int))) (fun rec' i hi hr => ?_) (fun rec' => ?_) n 0 (yo _) (by omega)
 ·simpa [stepT] using this
 ·rw [zm4 hi] at hr;simp only [zh.l3, zi hi, if_true, za hi, ya, hx];have hlen : (stepT s (L.take i)).length ≤ 100000 := by
   rw [zl2, yL];have : min i L.length * s ≤ 1000 * 6 := uu (by omega) hs;omega
  rw [zou (k := i + 1) (zb (by omega)) hs (hl _ (yk hi)) hlen hn];exact hr
 ·simp only [zh.l3, zaw, ye, if_false, hk, List.take_length]
theorem zov {n : Nat} {i : Nat} {rec : ((List Place) × (List Place) × Int) → Option ((Option Layout) × Bool)} {t : Table} {L : List (List Int)} {b1 b2 : List Place} (hi : i < 1000000) (hL : L.length ≤ 1000) (h1 : b1.length ≤ 100000) (h2 : b2.length ≤ 100000) (hn : 1000000 ≤ n) :
  loopF (zh.l5 n (i : Int) rec t L) n (b1, b2, 0) = rec (b1 ++ (if decide (t.kind ≤ 1) = true then zdv i L else []), b2 ++ (if decide (t.kind ≤ 1) = false then zdv i L else []), ((i + 1 : Nat) : Int)) := by
 cases hk : decide (t.kind ≤ 1) with
 | true =>
  simp only [if_true, Bool.true_eq_false, if_false, y0];have := zI (body := zh.l5 n (i : Int) rec t L) (len := L.length) (st := fun k => (b1 ++ zdv i (L.take k), b2, (k : Int))) (g := fun _ => rec (b1 ++ zdv i L, b2, ((i + 1 : Nat) : Int))) (fun rec' k hk' hr => ?_) (fun rec' => ?_) n 0 (yo _) (by omega)
  ·simpa [zdv] using this
  ·simp only [zdv] at hr ⊢;rw [← zdJ hk', ← yE] at hr;simp only [zh.l5, jn, zi hk', if_true, za hk', ya, hk, zb (i := k) (by omega)];rw [zp (by simp; omega), ya];exact hr
  ·simp only [zh.l5, zaw, ye, if_false, List.take_length, zb (i := i) (by omega)]
 | false =>
  simp only [ye, if_true, if_false, y0];have := zI (body := zh.l5 n (i : Int) rec t L) (len := L.length) (st := fun k => (b1, b2 ++ zdv i (L.take k), (k : Int))) (g := fun _ => rec (b1, b2 ++ zdv i L, ((i + 1 : Nat) : Int))) (fun rec' k hk' hr => ?_) (fun rec' => ?_) n 0 (yo _) (by omega)
  ·simpa [zdv] using this
  ·simp only [zdv] at hr ⊢;rw [← zdJ hk', ← yE] at hr;simp only [zh.l5, jn, zi hk', if_true, za hk', ya, hk, ye, if_false, zb (i := k) (by omega)];rw [zp (by simp; omega), ya];exact hr
  ·simp only [zh.l5, zaw, ye, if_false, List.take_length, zb (i := i) (by omega)]
theorem zhJ {sizes : List Int} (hs : sizes.all zcc = true) : ∀ (cols : List Int) (L : List (List Int)) (A k : Nat), cols.all (colOK sizes) = true → L.length ≤ A → (∀ l ∈ L, l.length = k) → (zed sizes cols L).length ≤ A * 6 ^ cols.length ∧ ∀ l ∈ zed sizes cols L, l.length = k + cols.length
 | [], L, A, k, _, h1, h2 => by simpa [zed] using ⟨h1, h2⟩
 | c :: cols, L, A, k, hc, h1, h2 => by
  simp only [uw, yc] at hc;have hz := zhE hs hc.1;have hlen : (stepT (zcp sizes c).toNat L).length ≤ A * 6 := by
   rw [zl2]; exact uu h1 (by omega)
  obtain ⟨p1, p2⟩ := zhJ hs cols (stepT (zcp sizes c).toNat L) (A * 6) (k + 1) hc.2 hlen (znJ h2);simp only [zed, yP];refine ⟨?_, fun l hl => ?_⟩
  ·rw [uO, Nat.mul_comm (6 ^ cols.length) 6, ← Nat.mul_assoc]; exact p1
  ·rw [p2 l hl]; omega
theorem zfp {sizes cols : List Int} (hs : sizes.all zcc = true) (hc : cols.all (colOK sizes) = true) (h3 : cols.length ≤ 3) : (zdl sizes cols).length ≤ 216 ∧ ∀ l ∈ zdl sizes cols, l.length = cols.length := by
 obtain ⟨p1, p2⟩ := zhJ hs cols [[]] 1 0 hc (by simp) (by simp);refine ⟨ud p1 ?_, fun l hl => by simpa using p2 l hl⟩;have : 6 ^ cols.length ≤ 6 ^ 3 := uv (by decide) h3;omega
theorem zos {n : Nat} {m : Model} {b1 b2 : List Place} {i : Nat} {rec : ((List Place) × (List Place) × Int) → Option ((Option Layout) × Bool)} {t : Table} (hs : m.sorts.all zcc = true) (hc : t.columns.all (colOK m.sorts) = true) (h3 : t.columns.length ≤ 3) (hi : i < 1000000) (h1 : b1.length ≤ 100000) (h2 : b2.length ≤ 100000) (hn : 1000000 ≤ n) :
  loopF (zh.l2 n m b1 b2 (i : Int) rec t) n ([[]], 0) = rec (b1 ++ (if decide (t.kind ≤ 1) = true then zdv i (zdl m.sorts t.columns) else []), b2 ++ (if decide (t.kind ≤ 1) = false then zdv i (zdl m.sorts t.columns) else []), ((i + 1 : Nat) : Int)) := by
 have hpre : ∀ k, (t.columns.take k).all (colOK m.sorts) = true := fun k => yp.2 fun c hm => yp.1 hc c (List.mem_of_mem_take hm)
 have := zI (body := zh.l2 n m b1 b2 (i : Int) rec t) (len := t.columns.length) (st := fun k => (zdl m.sorts (t.columns.take k), (k : Int))) (g := fun _ => rec (b1 ++ (if decide (t.kind ≤ 1) = true then zdv i (zdl m.sorts t.columns) else []), b2 ++ (if decide (t.kind ≤ 1) = false then zdv i (zdl m.sorts t.columns) else []), ((i + 1 : Nat) : Int))) (fun rec' k hk hr => ?_) (fun rec' => ?_) n 0 (yo _) (by omega)
 ·simpa [zdl, zed] using this
 ·have hcol := yp.1 hc _ (yk hk);have hz := zhE hs hcol;obtain ⟨p1, p2⟩ := zfp hs (hpre k) (by simp; omega);have hsz : idx m.sorts t.columns[k] = some (((zcp m.sorts t.columns[k]).toNat : Nat) : Int) := by
   rw [zfb hcol];unfold zcp at hz ⊢;congr 1; omega
  simp only [zh.l2, zi hk, if_true, za hk, ya];rw [zot (k := k + 1) (zb (by omega)) hsz (by omega) (fun l hl => by rw [p2 l hl]; simp; omega) (by omega) hn, ← hr];congr 2;unfold zdl;rw [yF hk, zgT];rfl
 ·obtain ⟨p1, -⟩ := zfp hs hc h3;simp only [zh.l2, zaw, ye, if_false, List.take_length];exact zov hi (by omega) h1 h2 hn
theorem zg6 {sizes : List Int} {s : Bool} : ∀ {l : List Table} {i : Nat}, (∀ t ∈ l, (zdl sizes t.columns).length ≤ 216) → (zcn sizes s l i).length ≤ l.length * 216
 | [], _, _ => by simp [zcn]
 | t :: l, i, h => by
  have ih := zg6 (s := s) (l := l) (i := i + 1) fun x hx => h x (by simp [hx])
  have ht := h t (by simp);simp only [zcn, yI, yP];split
  ·simp only [zdv, y9]; omega
  ·simp only [ur]; omega
def zkZ (m : Model) : Layout := ⟨m, zcn m.sorts true m.tables 0, zcn m.sorts false m.tables 0⟩
theorem ziQ {n : Nat} {m : Model} (hF : Fuel n) (hS : SmallM m) : zh n m = some (if ze3 m = true then (some (zkZ m), true) else (none, false)) := by
 have hn := hF.big;have htl := hS.tables;unfold zh;rw [zgG hF hS, ya];cases hv : ze3 m with
 | false => simp
 | true =>
  have hV := ze4.1 hv;obtain ⟨l1, l2, l3, l4⟩ := zbr hV.lay;have hb : ∀ t ∈ m.tables, (zdl m.sorts t.columns).length ≤ 216 := fun t ht => (zfp l3 (l4 t ht).2.2.2.1 (l4 t ht).2.2.1).1
  rw [if_neg (by simp), if_pos rfl];have := zI (body := zh.l1 n m) (len := m.tables.length) (st := fun i => (zcn m.sorts true (m.tables.take i) 0, zcn m.sorts false (m.tables.take i) 0, (i : Int))) (g := fun _ => some (some (zkZ m), true)) (fun rec i hi hr => ?_) (fun rec => ?_) n 0 (yo _) (by omega)
  ·simpa [zcn] using this
  ·have hmem := yk hi;obtain ⟨-, -, c1, c2, -⟩ := l4 _ hmem;have hA := zg6 (s := true) (l := m.tables.take i) (i := 0) fun t ht => hb t (List.mem_of_mem_take ht)
   have hB := zg6 (s := false) (l := m.tables.take i) (i := 0) fun t ht => hb t (List.mem_of_mem_take ht)
   simp only [yL] at hA hB;rw [zit hi, zit hi] at hr;simp only [zh.l1, zi hi, if_true, za hi, ya];rw [zos l3 c2 c1 (by omega) (by omega) (by omega) (by omega)];exact hr
  ·simp [zh.l1, zkZ]
def zgI (m : Model) (q : Question) : Bool :=
 (((decide (0 ≤ q.e) && decide (q.e < (m.actions.length : Int))) && (decide (0 ≤ q.f) && decide (q.f < (m.actions.length : Int)))) && decide (0 ≤ q.target.index)) &&
 (if q.target.hold = true then decide (q.target.index < (((idx m.actions q.e).getD default).effect.hold.length : Int)) else decide (q.e ≤ q.f) && decide (q.target.index < (m.constraints.length : Int)))
theorem quest_body {m : Model} {q : Question} : (if (((((decide (q.e < 0)) || (decide (q.f < 0))) || (decide ((m.actions.length : Int) ≤ q.e))) || (decide ((m.actions.length : Int) ≤ q.f))) || (decide (q.target.index < 0))) = true then some false
 else if q.target.hold = true then (idx m.actions q.e).bind fun x => some (decide (q.target.index < (x.effect.hold.length : Int))) else some ((decide (q.e ≤ q.f)) && (decide (q.target.index < (m.constraints.length : Int))))) = some (zgI m q) := by
 unfold zgI;by_cases h : ((0 ≤ q.e ∧ q.e < (m.actions.length : Int)) ∧ (0 ≤ q.f ∧ q.f < (m.actions.length : Int))) ∧ 0 ≤ q.target.index
 ·rw [if_neg (by simp; omega)];obtain ⟨a, ha⟩ := zbf h.1.1.1 h.1.1.2;rw [ha];simp only [h, decide_true, uL, yA, ya, yg];split <;> rfl
 ·rw [if_pos (by simp; omega)];have : (((decide (0 ≤ q.e) && decide (q.e < (m.actions.length : Int))) && (decide (0 ≤ q.f) && decide (q.f < (m.actions.length : Int)))) && decide (0 ≤ q.target.index)) = false := by
   rw [← yz];simp only [yc, yf];exact h
  rw [this, yW]
theorem ze0 {n : Nat} {m : Model} {q : Question} (hF : Fuel n) (hS : SmallM m) : zcK n m q = some (ze3 m && zgI m q) := by
 unfold zcK;rw [ziQ hF hS, ya];cases ze3 m with
 | false => simp [grd]
 | true =>
  have : zbe n (zkZ m) q = some (zgI m q) := quest_body;simp [grd, this]
theorem zgO {n : Nat} {m : Model} {q : Question} (hn : 4294967296 ≤ n) (hS : SmallM m) : zfk n m q = some (ze3 m && zgI m q) := by
 unfold zfk;rw [zj5 hn hS, ya];cases ze3 m with
 | false => simp
 | true =>
  simp only [yT, uj, yA];exact quest_body
theorem zmR : zg2 18446744073709551616 = some true := by decide +kernel
theorem zkY : (zbn 18446744073709551616).map (fun m => m.es.map (fun e => e.2)) = some (kwL.map fun k => (k, true)) := by decide +kernel
theorem zpf : Fuel 18446744073709551616 := by
 refine ⟨by decide, ?_⟩;have h := zkY;cases hk : zbn 18446744073709551616 with
 | none => rw [hk] at h; cases h
 | some m =>
  rw [hk] at h;simp only [yO, yh] at h;refine ⟨m, rfl, fun e he => ?_, fun k => ?_⟩
  ·have : e.2 ∈ m.es.map (fun e => e.2) := List.mem_map_of_mem he;rw [h] at this;simp only [yY] at this;obtain ⟨x, -, hx⟩ := this;rw [← hx]
  ·have : m.es.map (fun e => e.2.1) = kwL := by
    have e1 : m.es.map (fun e => e.2.1) = (m.es.map (fun e => e.2)).map (·.1) := by rw [uN]; rfl
    rw [e1, h, uN];exact List.map_id kwL
   rw [this]
theorem zja {K : Nat} : ∀ (l : List Change) (last : Int), zgD K last l = true → (∀ d ∈ l, last < d.cell ∧ d.cell < (K : Int) ∧ d.add ≠ 0 ∧ -1000000000 ≤ d.add ∧ d.add ≤ 1000000000) ∧ (l.map (·.cell)).Nodup
 | [], _, _ => by simp
 | d :: l, last, h => by
  simp only [zgD, zaz, yc, yf, bne_iff_ne] at h;obtain ⟨⟨⟨⟨h1, h2⟩, h3⟩, h4, h5⟩, h6⟩ := h;obtain ⟨p1, p2⟩ := zja l d.cell h6;refine ⟨fun x hx => ?_, ?_⟩
  ·simp only [yM] at hx;rcases hx with rfl | hx
   ·exact ⟨h1, h2, h3, h4, h5⟩
   ·obtain ⟨q1, q2⟩ := p1 x hx;exact ⟨by omega, q2⟩
  ·simp only [yQ, List.nodup_cons, yY, not_exists, not_and];exact ⟨fun x hx e => by have := (p1 x hx).1; omega, p2⟩
theorem znM {m : Model} (hV : ValidM m) {a : Action} (ha : a ∈ m.actions) : effP m (zQ m.sorts true m.tables).length a.effect = true ∧ (0 ≤ a.operation ∧ a.operation < (m.operations.length : Int)) := by
 have h := hV.acts;simp only [actsP, yc] at h;obtain ⟨i, hi, rfl⟩ := List.mem_iff_getElem.1 ha;have := zlp.1 h.2 i hi;simp only [za hi, yg, actP, yc, yf] at this;exact ⟨this.2, this.1.1.1.1⟩
theorem zl4 {m : Model} (hV : ValidM m) {c : Constraint} (hc : c ∈ m.constraints) : zd4 (zQ m.sorts true m.tables).length c = true ∨ acyP m c = true := by
 have h := hV.cons;simp only [consP, yc] at h;obtain ⟨i, hi, rfl⟩ := List.mem_iff_getElem.1 hc;have := zlp.1 h.2 i hi;simp only [za hi, yg, conP, yc, yv] at this;exact this.1.2
theorem zmo {m : Model} (hV : ValidM m) {c : Constraint} (h : acyP m c = true) : c.kind = 1 ∧ 1 ≤ c.size ∧ c.size ≤ 6 := by
 obtain ⟨l1, l2, l3, l4⟩ := zbr hV.lay;simp only [acyP, zgE, yc, ut, beq_iff_eq] at h;obtain ⟨h1, -, t, ht, hg⟩ := h;simp only [zhk, yc, beq_iff_eq] at hg;obtain ⟨⟨g1, g2⟩, ⟨g3, g4⟩, g5⟩ := hg;obtain ⟨⟨x, hx⟩, -, z, hz⟩ := zgn (l4 t ht).2.2.2.1 g2;refine ⟨h1, ?_⟩;rw [hz] at g5;simp only [yg] at g5;have := yp.1 l3 z (zfc hz);simp only [zcc, yc, yf] at this;omega
theorem zkV {n : Nat} {m : Model} (hn : 4294967296 ≤ n) (hS : SmallM m) (hV : ValidM m) : Good n m := by
 refine ⟨fun a ha => ?_, fun c hc => ?_⟩
 ·obtain ⟨a1, a2, a3, a4, a5⟩ := hS.act a ha;have he := (znM hV ha).1;simp only [effP, yc] at he;obtain ⟨p1, p2⟩ := zja _ _ he.1;exact ⟨by omega, by omega, fun k => ziX k _ p2 fun d hd => by have := p1 d hd; omega, fun r hr => by have := a5 r hr; omega⟩
 ·have hl := hS.con c hc;rcases zl4 hV hc with h | h
  ·simp only [zd4, yc, beq_iff_eq] at h;refine ⟨.inl h.1.1.1, by omega, by omega, 0, ?_, by decide, by omega⟩;rw [h.1.2]; rfl
  ·obtain ⟨k1, s1, s2⟩ := zmo hV h;refine ⟨.inr k1, by omega, by omega, c.size.toNat * c.size.toNat, ?_, ?_, ?_⟩
   ·have : c.size * c.size ≤ 6 * 6 := Int.mul_le_mul s2 s2 (by omega) (by omega);have h0 : 0 ≤ c.size * c.size := Int.mul_nonneg (by omega) (by omega);unfold mul64;rw [zcY (by omega) (by omega), y8, Int.toNat_of_nonneg (by omega)]
   ·have : c.size.toNat * c.size.toNat ≤ 6 * 6 := uu (by omega) (by omega);omega
   ·have : c.size.toNat * c.size.toNat ≤ 6 * 6 := uu (by omega) (by omega);omega
theorem zmg {m : Model} {q : Question} (h : zgI m q = true) : (0 ≤ q.e ∧ q.e < (m.actions.length : Int)) ∧ (0 ≤ q.f ∧ q.f < (m.actions.length : Int)) ∧ 0 ≤ q.target.index ∧ (q.target.hold = true → ∀ a, idx m.actions q.e = some a → q.target.index < (a.effect.hold.length : Int)) ∧ (q.target.hold = false → q.e ≤ q.f ∧ q.target.index < (m.constraints.length : Int)) := by
 simp only [zgI, yc, yf] at h;obtain ⟨⟨⟨h1, h2⟩, h3⟩, h4⟩ := h;refine ⟨h1, h2, h3, fun hh a ha => ?_, fun hh => ?_⟩
 ·rw [if_pos hh, ha] at h4;simpa using h4
 ·rw [if_neg (by simp [hh])] at h4;simpa using h4
def goodB (box : List Range) : Bool := box.all fun r => decide (r.lo ≤ r.hi) && (decide (-9999 ≤ r.lo) && decide (r.hi ≤ 9999))
def zod (k : Nat) (t : Term) : Prop := 0 ≤ t.cell ∧ t.cell < (k : Int) ∧ -1000 ≤ t.factor ∧ t.factor ≤ 1000
structure GraphIn (c : Constraint) (s : List Int) (size : Nat) : Prop where
 sz : c.size = (size : Int)
 pos : 1 ≤ size
 six : size ≤ 6
 first : 0 ≤ c.first
 fits : c.first + (size * size : Nat) ≤ (s.length : Int)
 len : s.length ≤ 1000
inductive ConIn (c : Constraint) (k : Nat) : Prop
 | row : c.kind = 0 → (∀ t ∈ c.row.terms, zod k t) → c.row.terms.length ≤ 1000 → (-4000000000 ≤ c.row.bound ∧ c.row.bound ≤ 4000000000) → ConIn c k
 | graph (size : Nat) : c.kind = 1 → c.size = (size : Int) → 1 ≤ size → size ≤ 6 → 0 ≤ c.first → c.first + (size * size : Nat) ≤ (k : Int) → ConIn c k
theorem zkA {β : Type} (g : Nat → List β) (k : Nat) : (List.range (k + 1)).flatMap g = (List.range k).flatMap g ++ g k := by
 rw [uJ, List.flatMap_append]; simp
def boxM (m : Model) : List Range := zQ m.sorts true m.tables
theorem zg8 {sizes : List Int} {s : Bool} : ∀ {l : List Table} {r : Range}, r ∈ zQ sizes s l → ∃ t ∈ l, r = t.range
 | [], r, h => by simp [zQ] at h
 | t :: l, r, h => by
  rw [zQ] at h;split at h
  ·rcases yC.1 h with h | h
   ·exact ⟨t, by simp, (List.mem_replicate.1 h).2⟩
   ·obtain ⟨u, hu, e⟩ := zg8 h;exact ⟨u, by simp [hu], e⟩
  ·obtain ⟨u, hu, e⟩ := zg8 h;exact ⟨u, by simp [hu], e⟩
theorem znO {m : Model} (hL : zbh m.sorts m.tables = true) : goodB (boxM m) = true := by
 unfold goodB;rw [yp];intro r hr;obtain ⟨t, ht, rfl⟩ := zg8 hr;have hL' := hL;simp only [zbh, yc] at hL';have := zhm hL'.2 t ht;simp only [tabP, yc] at this;have hrg := this.2;unfold zf3 at hrg;split at hrg
 ·simp only [yc, yf] at hrg ⊢;omega
 ·simp only [yf] at hrg;rw [hrg]; decide
theorem zmd {sizes : List Int} (hs : sizes.all zcc = true) : ∀ {l : List Table} {seen : List (List UInt8)} {a b : Int}, layP sizes seen a b l = true → 0 ≤ a → a + 216 * (l.length : Int) ≤ 1000000 → ∀ t ∈ l, zbM t.kind = true → a ≤ t.first ∧ t.first + zaf sizes t.columns 1 ≤ a + ((zQ sizes true l).length : Int)
 | [], _, _, _, _, _, _, t, ht, _ => by simp at ht
 | x :: l, seen, a, b, h, ha, hb, t, ht, hst => by
  have htab := zhm h x (by simp);simp only [tabP, yc, yf] at htab;have hw := zgf hs htab.1.2.2 htab.1.2.1;simp only [layP, yc] at h;have h2 := h.2;simp only [yP] at hb;have hcast : ((l.length + 1 : Nat) : Int) = (l.length : Int) + 1 := by omega
  rw [hcast] at hb;by_cases hx : zbM x.kind = true
  ·rw [if_pos hx] at h2;simp only [yc, beq_iff_eq] at h2;have hadd : add64 a (zaf sizes x.columns 1) = a + zaf sizes x.columns 1 := by unfold add64; exact zcY (by omega) (by omega)
   rw [hadd] at h2;have hlen : ((zQ sizes true (x :: l)).length : Int) = zaf sizes x.columns 1 + ((zQ sizes true l).length : Int) := by
    rw [zQ, hx, if_pos (by rfl), yI, uh]; omega
   rw [hlen];rcases yM.1 ht with rfl | ht
   ·omega
   ·have := zmd hs h2.2 (by omega) (by omega) t ht hst;omega
  ·rw [if_neg hx] at h2;simp only [yc, beq_iff_eq] at h2;have hx' : zbM x.kind = false := by simpa using hx
   have hlen : (zQ sizes true (x :: l)) = zQ sizes true l := by
    rw [zQ, hx', if_neg (by decide)]
   rw [hlen];rcases yM.1 ht with rfl | ht
   ·rw [hst] at hx'; cases hx'
   ·exact zmd hs h2.2 ha (by omega) t ht hst
theorem zkH {K : Nat} : ∀ {l : List Term} {last : Int}, rowP K last l = true → -1 ≤ last → ∀ t ∈ l, zod K t
 | [], _, _, _, t, ht => by simp at ht
 | x :: l, last, h, hl, t, ht => by
  simp only [rowP, zaz, yc, yf] at h;rcases yM.1 ht with rfl | ht
  ·exact ⟨by omega, h.1.1.1.2, by omega, by omega⟩
  ·exact zkH h.2 (by omega) t ht
theorem zo2 {m : Model} (hS : SmallM m) (hV : ValidM m) {c : Constraint} (hc : c ∈ m.constraints) : ConIn c (boxM m).length := by
 have hl := hS.con c hc;rcases zl4 hV hc with h | h
 ·simp only [zd4, yc, beq_iff_eq] at h;have h2 := h.2;simp only [rowOK, zaz, yc, yf] at h2;exact .row h.1.1.1 (zkH h2.1 (by decide)) (by omega) (by omega)
 ·obtain ⟨l1, l2, l3, l4⟩ := zbr hV.lay;obtain ⟨hk, s1, s2⟩ := zmo hV h;have hL := hV.lay;simp only [zbh, yc] at hL;simp only [acyP, zgE, yc, ut, beq_iff_eq] at h;obtain ⟨-, -, t, ht, hg⟩ := h;simp only [zhk, yc, beq_iff_eq] at hg;obtain ⟨⟨g1, g2⟩, ⟨g3, g4⟩, g5⟩ := hg;have hfit := zmd l3 hL.2 (Int.le_refl _) (by omega) t ht (by simp [zbM, g1]);have hcols := (l4 t ht).2.2.2.1;obtain ⟨⟨x, hx⟩, ⟨y, hy⟩, -⟩ := zgn hcols g2;obtain ⟨p, q, hpq⟩ : ∃ p q, t.columns = [p, q] := by
   match hcs : t.columns with
   | [] => rw [hcs] at g2; simp at g2
   | [_] => rw [hcs] at g2; simp at g2
   | [p, q] => exact ⟨p, q, rfl⟩
   | _ :: _ :: _ :: _ => rw [hcs] at g2; simp at g2; omega
  have hp0 : idx t.columns 0 = some p := by rw [hpq]; rfl
  have hq0 : idx t.columns 1 = some q := by rw [hpq]; rfl
  rw [hp0, hq0] at g3;rw [hp0] at g5;simp only [yg] at g3 g5;subst g3;have hcp := yp.1 hcols p (by rw [hpq]; simp);rw [zfb hcp] at g5;simp only [yg] at g5;have hw : zaf m.sorts t.columns 1 = c.size * c.size := by
   rw [hpq];simp only [zaf, g5];have : c.size * c.size ≤ 6 * 6 := Int.mul_le_mul s2 s2 (by omega) (by omega);have h0 : 0 ≤ c.size * c.size := Int.mul_nonneg (by omega) (by omega);unfold mul64;rw [Int.one_mul, zcY (x := c.size) (by omega) (by omega), zcY (by omega) (by omega)]
  rw [hw] at hfit;have hsz : c.size = ((c.size.toNat : Nat) : Int) := by omega
  refine .graph c.size.toNat hk hsz (by omega) (by omega) (by omega) ?_;have e : ((c.size.toNat * c.size.toNat : Nat) : Int) = c.size * c.size := by rw [y8, ← hsz]
  rw [e];unfold boxM;omega
theorem zj8 {n : Nat} {m : Model} {t : Table} (hc : t.columns.all (colOK m.sorts) = true) (hl : t.columns.length ≤ 1000) (hn : 1000000 ≤ n) : zb8 n m t = some (zaf m.sorts t.columns 1) := by
 have := zI (body := zb8.l1 n m t) (len := t.columns.length) (st := fun i => (zaf m.sorts (t.columns.take i) 1, (i : Int))) (g := fun _ => some (zaf m.sorts t.columns 1)) (fun rec i hi hr => ?_) (fun rec => ?_) n 0 (yo _) (by omega)
 ·simpa [zb8, zaf] using this
 ·rw [yF hi, zdd] at hr;simp only [zaf] at hr;simp only [zb8.l1, zi hi, if_true, za hi, ya, zfb (yp.1 hc _ (yk hi)), zb (i := i) (by omega), hr]
 ·simp [zb8.l1]
theorem zlO {n : Nat} {m : Model} (hS : SmallM m) (hL : zbh m.sorts m.tables = true) (hn : 1000000 ≤ n) : zbH n m = some (boxM m) := by
 obtain ⟨l1, l2, l3, l4⟩ := zbr hL;unfold zbH;have := zI (body := zbH.l1 n m) (len := m.tables.length) (st := fun i => (zQ m.sorts true (m.tables.take i), (i : Int))) (g := fun _ => some (boxM m)) (fun rec i hi hr => ?_) (fun rec => ?_) n 0 (yo _) (by omega)
 ·simpa [zQ] using this
 ·obtain ⟨-, -, c1, c2, c3, c4⟩ := l4 _ (yk hi);have hlen := zcS (sizes := m.sorts) (s := true) (l := m.tables.take i) fun x hx => (l4 x (List.mem_of_mem_take hx)).2.2.2.2
  simp only [yL] at hlen;rw [zf4 hi] at hr;obtain ⟨W, hW⟩ := y7 (show 0 ≤ zaf m.sorts m.tables[i].columns 1 by omega);have hcell := zj8 (n := n) (m := m) (t := m.tables[i]) c2 (by omega) hn;rw [hW] at hcell hr;simp only [zbH.l1, jn, zi hi, if_true, za hi, ya, zf7, zb (i := i) (by omega)];by_cases hst : (m.tables[i].kind == 0 || m.tables[i].kind == 1) = true
  ·have hst' : (zbM m.tables[i].kind == true) = true := by simpa [zbM] using hst
   rw [if_pos hst'] at hr;rw [if_pos hst];have inner := zI (body := zbH.l2 n m (i : Int) (fun v => rec (v, ((i + 1 : Nat) : Int)))) (len := W) (st := fun k => (zQ m.sorts true (m.tables.take i) ++ List.replicate k m.tables[i].range, (k : Int))) (g := fun _ => some (boxM m)) (fun rec' k hk hr' => ?_) (fun rec' => ?_) n 0 (yo _) (by omega)
   ·simpa using inner
   ·simp only [zbH.l2, za hi, ya, hcell, zhq hk, if_true, zb (i := k) (by omega)];rw [zp (by simp only [yI, uh, uF]; omega), ya, yE, ← List.replicate_succ', hr']
   ·simp only [zbH.l2, za hi, ya, hcell, zft (yn W), ye, if_false];simpa using hr
  ·have hst' : ¬ (zbM m.tables[i].kind == true) = true := by simpa [zbM] using hst
   rw [if_neg hst'] at hr;rw [if_neg hst];exact hr
 ·simp [zbH.l1, boxM]
structure StateOK (m : Model) (s : List Int) : Prop where
 len : s.length = (boxM m).length
 small : ∀ x ∈ s, -9999 ≤ x ∧ x ≤ 9999

theorem zcm {γ S R : Type} {body : (S → Option R) → S → Option R} {k n : Nat} {st : List γ → Nat → S} (g : Nat → List γ) (fin : List γ → Option R) (B : Nat) (b0 : List γ) (hB : ∀ i, i < k → (g i).length ≤ B)
  (step : ∀ rec (b : List γ) i, i < k → b.length ≤ b0.length + i * B → body rec (st b i) = rec (st (b ++ g i) (i + 1))) (done : ∀ rec (b : List γ), b.length ≤ b0.length + k * B → body rec (st b k) = fin b) (hn : k < n) :
  loopF body n (st b0 0) = fin (b0 ++ (List.range k).flatMap g) := by
 have := zby (σ := List γ) (body := body) (len := k) (st := st) (g := fun i b => fin (b ++ (List.range' i (k - i)).flatMap g)) (fun i b => b.length ≤ b0.length + i * B) (fun rec i b hi hI hr => ?_) (fun rec b hI => ?_) n 0 b0 (yo _) (by omega) (by simp)
 ·simpa [List.range_eq_range'] using this
 ·rw [step rec b i hi hI, hr _ (by rw [yI]; have := hB i hi; rw [ui]; omega)];have : List.range' i (k - i) = i :: List.range' (i + 1) (k - (i + 1)) := by rw [show k - i = (k - (i + 1)) + 1 by omega, List.range'_succ]
  rw [this, um, yE]
 ·rw [done rec b hI]; simp
theorem zdZ {α γ S R : Type} {body : (S → Option R) → S → Option R} {l : List α} {n : Nat} {st : List γ → Nat → S} (h : α → γ) (fin : List γ → Option R) (b0 : List γ)
  (step : ∀ rec (b : List γ) i (hi : i < l.length), b.length = b0.length + i → body rec (st b i) = rec (st (b ++ [h l[i]]) (i + 1))) (done : ∀ rec (b : List γ), b.length = b0.length + l.length → body rec (st b l.length) = fin b) (hn : l.length < n) :
  loopF body n (st b0 0) = fin (b0 ++ l.map h) := by
 have := zI (body := body) (len := l.length) (st := fun i => st (b0 ++ (l.take i).map h) i) (g := fun _ => fin (b0 ++ l.map h)) (fun rec i hi hr => ?_) (fun rec => ?_) n 0 (yo _) (by omega)
 ·simpa using this
 ·have e : b0 ++ (l.take (i + 1)).map h = b0 ++ (l.take i).map h ++ [h l[i]] := by rw [yF hi, uk, yE]; rfl
  rw [step rec _ i hi (by simp; omega), ← e]; exact hr
 ·rw [done rec _ (by simp)]; simp
theorem zeR {σ S R : Type} {body : (S → Option R) → S → Option R} {k n : Nat} {st : σ → Nat → S} (I : Nat → σ → Prop) (Q : R → Prop) (hb : ∀ rec i s, i < k → I i s → (∀ s', I (i + 1) s' → ∃ r, rec (st s' (i + 1)) = some r ∧ Q r) → ∃ r, body rec (st s i) = some r ∧ Q r)
  (he : ∀ rec s, I k s → ∃ r, body rec (st s k) = some r ∧ Q r) (hn : k < n) (s0 : σ) (h0 : I 0 s0) : ∃ r, loopF body n (st s0 0) = some r ∧ Q r := by
 have key : ∀ m i s, i ≤ k → k - i < m → I i s → ∃ r, loopF body m (st s i) = some r ∧ Q r := by
  intro m
  induction m with
  | zero => intro i s _ h; omega
  | succ m ih =>
   intro i s hi hm hI;simp only [loopF];by_cases e : i = k
   ·subst e; exact he _ _ hI
   ·exact hb _ i s (by omega) hI fun s' hI' => ih (i + 1) s' (by omega) (by omega) hI'
 exact key n 0 s0 (yo _) (by omega) h0
theorem zkM {n : Nat} {l : List Int} {x : Int} (hl : l.length < 1000000) (hn : 1000000 ≤ n) : ∃ k, zab n l x = some k ∧ (decide (0 ≤ k) = decide (x ∈ l)) := by
 unfold zab;have := zI (body := zab.l1 n l x) (len := l.length) (st := fun i => (i : Int)) (g := fun i => some (ixP (fun y => decide (x = y)) (l.drop i) i)) (fun rec i hi hr => ?_) (fun rec => ?_) n 0 (yo _) (by omega)
 ·refine ⟨_, this, ?_⟩;rw [List.drop_zero, zfN];rw [Bool.eq_iff_iff]; simp [ut]
 ·simp only [zab.l1, zi hi, if_true, za hi, ya];rw [zb (i := i) (by omega), hr, zo hi];by_cases e : x = l[i]
  ·simp [e, ixP]
  ·simp [e, ixP]
 ·simp only [zab.l1, zaw, ye, if_false];simp [ixP]
theorem zdA {n : Nat} {l : List Int} {x : Int} (hl : l.length < 1000000) (hn : 1000000 ≤ n) : zay n l x = some (decide (x ∈ l)) := by
 obtain ⟨k, h1, h2⟩ := zkM (x := x) hl hn;unfold zay;rw [h1, ya, h2]
structure GraphOK (g : DGraph) (K : Nat) : Prop where
 size : g.size = (K : Int)
 le : K ≤ 6
 len : g.edges.length = K * K
def hasP (g : DGraph) (a b : Nat) : Bool := g.edges.getD (a * g.size.toNat + b) false
theorem zoy {K a b : Nat} (ha : a < K) (hb : b < K) : a * K + b < K * K := by
 have : (a + 1) * K ≤ K * K := yK _ ha;rw [ui] at this; omega
theorem zlw {n : Nat} {g : DGraph} {K a b : Nat} (hg : GraphOK g K) (ha : a < K) (hb : b < K) : zaP n g (a : Int) (b : Int) = some (hasP g a b) := by
 have h1 := hg.le;have h2 := zoy ha hb;have h4 : K * K ≤ 36 := uu hg.le hg.le;have h3 : add64 (mul64 (a : Int) g.size) (b : Int) = ((a * K + b : Nat) : Int) := by
  rw [hg.size];have e1 : mul64 (a : Int) (K : Int) = ((a * K : Nat) : Int) := by
   unfold mul64;rw [zcY (by rw [← y8]; omega) (by rw [← y8]; omega)];simp
  rw [e1, zdQ (by omega)]
 unfold zaP;rw [h3, za (by rw [hg.len]; exact h2), ya];simp only [hasP, hg.size, yD, uo];rw [yB (by rw [hg.len]; exact h2)];rfl
def VertL (K : Nat) (l : List Int) : Prop := 1 ≤ l.length ∧ l.length ≤ K ∧ ∀ x ∈ l, 0 ≤ x ∧ x < (K : Int)
theorem VertL.get {K : Nat} {l : List Int} (h : VertL K l) {i : Nat} (hi : i < l.length) : ∃ a : Nat, l[i] = (a : Int) ∧ a < K := by
 obtain ⟨h1, h2⟩ := h.2.2 _ (yk hi);exact ⟨l[i].toNat, by omega, by omega⟩
theorem ziT : ∀ {K : Nat} {l : List Int}, l.Nodup → (∀ x ∈ l, 0 ≤ x ∧ x < (K : Int)) → l.length ≤ K
 | 0, l, _, h => by
  cases l with
  | nil => simp
  | cons x l => have := h x (by simp); omega
 | K + 1, l, hn, h => by
  by_cases hm : (K : Int) ∈ l
  ·have h1 := ziT (K := K) (hn.erase (K : Int)) fun x hx => by
    have := (hn.mem_erase_iff).1 hx;have := h x this.2;omega
   rw [List.length_erase_of_mem hm] at h1; omega
  ·have := ziT (K := K) hn fun x hx => by
    have h2 := h x hx;have : x ≠ (K : Int) := fun e => hm (e ▸ hx)
    omega
   omega
theorem znN {n : Nat} {g : DGraph} {K : Nat} (hg : GraphOK g K) (hn : 1000000 ≤ n) : ∀ (d k : Nat) (l : List Int) (out : List (List Int)), l.Nodup → VertL K l → K - l.length = d → d < k → out.length ≤ 1000000 - 7 ^ (d + 1) → d ≤ 5 → (∀ c ∈ out, VertL K c) →
  ∃ r, zw n g k l out = some r ∧ r.length ≤ out.length + 7 ^ (d + 1) ∧ ∀ c ∈ r, VertL K c := by
 intro d
 induction d using Nat.strongRecOn with
 | ind d ih =>
  intro k l out hnd hv hd hk ho hd5 hc;obtain ⟨k, rfl⟩ : ∃ k', k = k' + 1 := ⟨k - 1, by omega⟩
  have hK := hg.le;have hl1 := hv.1;have hl2 := hv.2.1;have hp : 7 ≤ 7 ^ (d + 1) := by have := Nat.one_le_two_pow (n := 0); exact Nat.le_self_pow (by omega) 7
  have hp2 : 7 ^ (d + 1) ≤ 117649 := by
   have : 7 ^ (d + 1) ≤ 7 ^ 6 := uv (by omega) (by omega);simpa using this
  obtain ⟨last, hlast, hlK⟩ := hv.get (i := l.length - 1) (by omega);obtain ⟨first, hfirst, hfK⟩ := hv.get (i := 0) (by omega);have e1 : idx l (sub64 (l.length : Int) 1) = some (last : Int) := by
   rw [zgc (by omega) (by omega), za (by omega), hlast]
  have e2 : idx l 0 = some (first : Int) := by
   have := za (l := l) (i := 0) (by omega)
   rw [← hfirst]; exact this
  simp only [zw, e1, e2, ya, zlw hg hlK hfK];have loop : ∀ out1 : List (List Int), out1.length ≤ out.length + 1 → (∀ c ∈ out1, VertL K c) → ∃ r, loopF (zw.l1 n g (zw n g k) l (last : Int)) n (add64 (first : Int) 1, out1) = some r ∧ r.length ≤ out.length + 7 ^ (d + 1) ∧ ∀ c ∈ r, VertL K c := by
   intro out1 ho1 hc1;rw [zb (by omega)];have := zeR (body := zw.l1 n g (zw n g k) l (last : Int)) (k := K - (first + 1)) (n := n) (st := fun (o : List (List Int)) i => (((first + 1 + i : Nat) : Int), o)) (fun i o => o.length ≤ out.length + 1 + i * 7 ^ d ∧ ∀ c ∈ o, VertL K c) (fun r => r.length ≤ out.length + 7 ^ (d + 1) ∧ ∀ c ∈ r, VertL K c)
    (fun rec i o hi hI hr => ?_) (fun rec o hI => ?_) (by omega) out1 ⟨by simpa using ho1, hc1⟩
   ·simpa using this
   ·have hb : first + 1 + i < K := by omega
    have hlt : decide (((first + 1 + i : Nat) : Int) < g.size) = true := by rw [hg.size]; simp; omega
    have hnx : add64 ((first + 1 + i : Nat) : Int) 1 = ((first + 1 + (i + 1) : Nat) : Int) := by rw [zb (by omega)]; rfl
    simp only [zw.l1, hlt, if_true, zlw hg hlK hb, ya, hnx];have keep : ∃ r, rec (((first + 1 + (i + 1) : Nat) : Int), o) = some r ∧ r.length ≤ out.length + 7 ^ (d + 1) ∧ ∀ c ∈ r, VertL K c := hr o ⟨by have := hI.1; rw [ui]; omega, hI.2⟩;by_cases hh : hasP g last (first + 1 + i) = true
    ·rw [if_pos hh, zdA (by omega) hn, ya];by_cases hm : ((first + 1 + i : Nat) : Int) ∈ l
     ·rw [if_pos (by simpa using hm)]; exact keep
     ·rw [if_neg (by simpa using hm), zp (by simp; omega), ya, yS, zp (by simp; omega), ya];have hnd2 : (l ++ [((first + 1 + i : Nat) : Int)]).Nodup := by
       rw [List.nodup_append];exact ⟨hnd, by simp, fun a ha b hb e => by simp at hb; subst hb; subst e; exact hm ha⟩
      have hall : ∀ x ∈ l ++ [((first + 1 + i : Nat) : Int)], 0 ≤ x ∧ x < (K : Int) := fun x hx => by
       rcases yC.1 hx with hx | hx
       ·exact hv.2.2 x hx
       ·simp at hx; subst hx; omega
      have hlen := ziT hnd2 hall;simp only [yI, yP, ur] at hlen;have hd1 : 1 ≤ d := by omega
      have hpow : 7 ^ d ≤ 7 ^ (d + 1) := uv (by omega) (by omega);have h6 : i * 7 ^ d ≤ 5 * 7 ^ d := yK _ (by omega);have h7 : 7 ^ (d + 1) = 7 * 7 ^ d := by rw [uO]; omega
      have hone : 1 ≤ 7 ^ d := Nat.one_le_pow _ _ (by omega);obtain ⟨r, hr1, hr2, hr3⟩ := ih (d - 1) (by omega) k (l ++ [((first + 1 + i : Nat) : Int)]) o hnd2 ⟨by simp, by simpa using hlen, hall⟩ (by simp; omega) (by omega) (by rw [show d - 1 + 1 = d by omega]; have := hI.1; omega) (by omega) hI.2;rw [show d - 1 + 1 = d by omega] at hr2;rw [hr1, ya];exact hr r ⟨by have := hI.1; rw [ui]; omega, hr3⟩
    ·rw [if_neg hh]; exact keep
   ·have hge : decide (((first + 1 + (K - (first + 1)) : Nat) : Int) < g.size) = false := by rw [hg.size]; simp; omega
    simp only [zw.l1, hge, ye, if_false];have hone : 1 ≤ 7 ^ d := Nat.one_le_pow _ _ (by omega);have h7 : 7 ^ (d + 1) = 7 * 7 ^ d := by rw [uO]; omega
    have h5 : (K - (first + 1)) * 7 ^ d ≤ 5 * 7 ^ d := yK _ (by omega);exact ⟨o, rfl, by have := hI.1; omega, hI.2⟩
  by_cases hh : hasP g last first = true
  ·rw [if_pos hh, zp (by simp; omega), ya, yS, zp (by simp; omega), ya];exact loop _ (by simp) fun c hc' => by
    rcases yC.1 hc' with h | h
    ·exact hc c h
    ·simp at h; subst h; exact hv
  ·rw [if_neg hh];exact loop _ (by omega) hc
theorem zmV {n : Nat} {g : DGraph} {K : Nat} (hg : GraphOK g K) (hn : 1000000 ≤ n) : ∃ r, loopF (digraph_cycles.l1 n g) n (0, []) = some r ∧ r.length ≤ 900000 ∧ ∀ c ∈ r, VertL K c := by
 have hK := hg.le;have := zeR (body := digraph_cycles.l1 n g) (k := K) (n := n) (st := fun (o : List (List Int)) i => ((i : Int), o)) (fun i o => o.length ≤ i * 117649 ∧ ∀ c ∈ o, VertL K c) (fun r => r.length ≤ 900000 ∧ ∀ c ∈ r, VertL K c)
  (fun rec i o hi hI hr => ?_) (fun rec o hI => ?_) (by omega) [] ⟨by simp, by simp⟩
 ·simpa using this
 ·have hlt : decide ((i : Int) < g.size) = true := by rw [hg.size]; simp; omega
  have hd : 7 ^ (K - 1 + 1) ≤ 117649 := by
   have : 7 ^ (K - 1 + 1) ≤ 7 ^ 6 := uv (by omega) (by omega);simpa using this
  have h5 : i * 117649 ≤ 5 * 117649 := yK _ (by omega);obtain ⟨r, hr1, hr2, hr3⟩ := znN hg hn (K - 1) n [(i : Int)] o (by simp) ⟨by simp, by simp; omega, by simp; omega⟩ (by simp) (by omega) (by have := hI.1; omega) (by omega) hI.2;simp only [digraph_cycles.l1, hlt, if_true, hr1, ya];rw [zb (by omega)];exact hr r ⟨by have := hI.1; rw [ui]; omega, hr3⟩
 ·have hge : decide ((K : Int) < g.size) = false := by rw [hg.size]; simp
  simp only [digraph_cycles.l1, hge, ye, if_false];exact ⟨o, rfl, by have := hI.1; omega, hI.2⟩
def lexP : List Int → List Int → Int
 | [], [] => 0
 | [], _ :: _ => -1
 | _ :: _, [] => 1
 | a :: l, b :: m => if a < b then -1 else if b < a then 1 else lexP l m
theorem znu : ∀ (a b : List Int), lexP b a = -lexP a b
 | [], [] => rfl
 | [], _ :: _ => rfl
 | _ :: _, [] => rfl
 | a :: l, b :: m => by
  have := znu l m;simp only [lexP];split <;> split <;> omega
theorem zmE : ∀ {a b : List Int}, lexP a b = 0 → a = b
 | [], [], _ => rfl
 | [], _ :: _, h => by simp [lexP] at h
 | _ :: _, [], h => by simp [lexP] at h
 | a :: l, b :: m, h => by
  simp only [lexP] at h;split at h
  ·omega
  ·split at h
   ·omega
   ·rw [zmE h, show a = b by omega]
theorem zlz : ∀ {a b c : List Int}, lexP a b < 0 → lexP b c < 0 → lexP a c < 0
 | [], [], c, h, _ => by simp [lexP] at h
 | [], _ :: _, [], _, h => by simp [lexP] at h
 | [], _ :: _, _ :: _, _, _ => by simp [lexP]
 | _ :: _, [], _, h, _ => by simp [lexP] at h
 | _ :: _, _ :: _, [], _, h => by simp [lexP] at h
 | a :: l, b :: m, c :: k, h1, h2 => by
  simp only [lexP] at *;have ih := @zlz l m k;by_cases e1 : a < b
  ·by_cases e2 : b < c
   ·rw [if_pos (by omega)]; omega
   ·by_cases e3 : c < b
    ·rw [if_neg e2, if_pos e3] at h2; omega
    ·rw [if_pos (by omega)]; omega
  ·by_cases e1' : b < a
   ·rw [if_neg e1, if_pos e1'] at h1; omega
   ·rw [if_neg e1, if_neg e1'] at h1;by_cases e2 : b < c
    ·rw [if_pos (by omega)]; omega
    ·by_cases e3 : c < b
     ·rw [if_neg e2, if_pos e3] at h2; omega
     ·rw [if_neg e2, if_neg e3] at h2;rw [if_neg (by omega), if_neg (by omega)];exact ih h1 h2
def cmpI (a b : Int) : Int := if a < b then -1 else if b < a then 1 else 0
def cmpC (a b : List Int) : Int := if cmpI a.length b.length ≠ 0 then cmpI a.length b.length else lexP a b
theorem ze8 (a b : List Int) : cmpC b a = -cmpC a b := by
 have := znu a b;unfold cmpC cmpI;split <;> split <;> (try split) <;> (try split) <;> simp_all <;> omega
theorem zi7 {a b : List Int} (h : cmpC a b = 0) : a = b := by
 unfold cmpC at h;split at h
 ·rename_i hne; exact absurd h hne
 ·exact zmE h
theorem zhS {a b c : List Int} (h1 : cmpC a b < 0) (h2 : cmpC b c < 0) : cmpC a c < 0 := by
 have k : ∀ (x y : List Int), cmpC x y < 0 ↔ (x.length < y.length ∨ (x.length = y.length ∧ lexP x y < 0)) := by
  intro x y;unfold cmpC cmpI;by_cases e : (x.length : Int) < y.length
  ·simp [e]; omega
  ·by_cases e2 : (y.length : Int) < x.length
   ·simp [e, e2]; omega
   ·simp [e, e2]; omega
 rw [k] at *;rcases h1 with h1 | ⟨h1, h1'⟩ <;> rcases h2 with h2 | ⟨h2, h2'⟩
 ·left; omega
 ·left; omega
 ·left; omega
 ·exact .inr ⟨by omega, zlz h1' h2'⟩
theorem zi6 {a b c : List Int} (h1 : ¬ cmpC a b < 0) (h2 : ¬ cmpC b c < 0) : ¬ cmpC a c < 0 := by
 intro h;have n1 := ze8 a b;have n2 := ze8 b c;by_cases e1 : cmpC a b = 0
 ·rw [zi7 e1] at h; exact h2 h
 ·by_cases e2 : cmpC b c = 0
  ·rw [← zi7 e2] at h; exact h1 h
  ·have := zhS (a := c) (b := b) (c := a) (by omega) (by omega);have n3 := ze8 a c;omega
theorem zgz {n : Nat} (a b : Int) : zbT n a b = some (cmpI a b) := by
 unfold zbT zc1 cmpI;simp;split <;> (try split) <;> rfl
theorem zlh {n : Nat} {a b : List Int} (ha : a.length < 1000000) (hn : 1000000 ≤ n) : zg n a b = some (lexP a b) := by
 unfold zg;have := zby (σ := Unit) (body := zg.l1 n a b) (len := a.length) (st := fun _ i => (i : Int)) (g := fun i _ => some (lexP (a.drop i) (b.drop i))) (fun i _ => i ≤ b.length) (fun rec i s hi hI hr => ?_) (fun rec s hI => ?_) n 0 () (yo _) (by omega) (yo _)
 ·simpa using this
 ·simp only [zg.l1, zi hi, if_true, za hi, ya];by_cases hb : b.length ≤ i
  ·have e : b.drop i = [] := List.drop_eq_nil_of_le hb;rw [if_pos (by simp; omega), e, zo hi]; rfl
  ·rw [if_neg (by simp; omega), za (show i < b.length by omega), ya, zgz, ya, zb (by omega), hr () (by omega), zo hi, zo (show i < b.length by omega)];simp only [lexP, cmpI];split
   ·simp
   ·split
    ·simp
    ·simp
 ·simp only [zg.l1, zaw, ye, if_false];rw [List.drop_length];by_cases hb : a.length < b.length
  ·rw [if_pos (by simp; omega), zo hb]; rfl
  ·rw [if_neg (by simp; omega), List.drop_eq_nil_of_le (by omega)]; rfl
theorem Or_eq {n : Nat} (x y : Int) (hn : 1000000 ≤ n) : zct n [x, y] = some (if x ≠ 0 then x else y) := by
 unfold zct;rw [zfS (by omega)];have e0 : idx [x, y] 0 = some x := rfl;have e1 : idx [x, y] 1 = some y := rfl;simp only [zct.l1, e0, ya, yP, ur];rw [if_pos (by simp)];by_cases hx : x = 0
 ·rw [if_neg (by simp [hx]), show add64 0 1 = 1 from rfl, zfS (by omega)];simp only [zct.l1, e1, ya, yP, ur];rw [if_pos (by simp)];by_cases hy : y = 0
  ·rw [if_neg (by simp [hy]), show add64 1 1 = 2 from rfl, zfS (by omega)];simp [zct.l1, hx, hy]
  ·rw [if_pos (by simp [hy])]; simp [hx]
 ·rw [if_pos (by simp [hx])]; simp [hx]
theorem zhT {n : Nat} {a b : List Int} (ha : a.length < 1000000) (hn : 1000000 ≤ n) : zbU n a b = some (cmpC a b) := by
 unfold zbU;rw [zgz, ya, zlh ha hn, ya, Or_eq _ _ hn];rfl
theorem zmL {α : Type} {f : α → α → Option Int} {c : α → α → Int} {l : List α} (h1 : ∀ x ∈ l, ∀ y ∈ l, f x y = some (c x y)) (irr : ∀ x, ¬ c x x < 0) (tr : ∀ x y z, c x y < 0 → c y z < 0 → c x z < 0) (nt : ∀ x y z, ¬ c x y < 0 → ¬ c y z < 0 → ¬ c x z < 0) (hl : l.length < 4611686018427387904) :
  sortO f l = some (sortF (fun x y => (f x y).getD 0) l) ∧ swoB (fun x y => (f x y).getD 0) l = true := by
 have hs : swoB (fun x y => (f x y).getD 0) l = true := by
  unfold swoB;rw [yp];intro x hx;rw [yc, yp];refine ⟨by simpa [h1 x hx x hx] using irr x, fun y hy => ?_⟩;rw [yp];intro z hz;simp only [h1 x hx y hy, h1 y hy z hz, h1 x hx z hz, yg, yc, yv, yG, ug, yf, yH];have a1 := tr x y z;have a2 := nt x y z;constructor
  ·by_cases p : c x y < 0
   ·by_cases q : c y z < 0
    ·exact .inr (a1 p q)
    ·exact .inl (.inr q)
   ·exact .inl (.inl p)
  ·by_cases p : c x y < 0
   ·exact .inl (.inl p)
   ·by_cases q : c y z < 0
    ·exact .inl (.inr q)
    ·exact .inr (a2 p q)
 refine ⟨?_, hs⟩;unfold sortO;rw [if_pos];simp only [yc, yp, yf];exact ⟨⟨fun x hx y hy => by rw [h1 x hx y hy]; rfl, hs⟩, hl⟩
theorem zkk {n : Nat} {size : Int} {edges : List Bool} {K : Nat} (hs : size = (K : Int)) (h1 : 1 ≤ K) (h6 : K ≤ 6) (hl : edges.length = K * K) (hn : 1000000 ≤ n) : ∃ r, zbl n size edges = some r ∧ r.length ≤ 900000 ∧ ∀ c ∈ r, VertL K c := by
 have hg : GraphOK ⟨size, edges⟩ K := ⟨hs, h6, hl⟩
 obtain ⟨out, ho, hol, hov⟩ := zmV hg hn;have h4 : K * K ≤ 36 := uu h6 h6;have e : mul64 size size = ((K * K : Nat) : Int) := by
  rw [hs]; unfold mul64;rw [zcY (by rw [← y8]; omega) (by rw [← y8]; omega)]; simp
 have hopen : zcV n size edges = some (⟨size, edges⟩, true) := by
  unfold zcV;rw [e, hl];simp [hs]; omega
 unfold zbl;rw [hopen, ya, if_neg (by simp), ho, ya];obtain ⟨s1, s2⟩ := zmL (f := zbU n) (c := cmpC) (l := out) (fun x hx y _ => zhT (by have := (hov x hx).2.1; omega) hn) (fun x => by have := ze8 x x; omega) (fun _ _ _ => zhS) (fun _ _ _ => zi6) (by omega);have hp := zia s2;exact ⟨_, s1, by rw [hp.length_eq]; exact hol, fun c hc => hov c (hp.mem_iff.1 hc)⟩
theorem ziS {x y : Int} (h1 : -9223372036854775808 ≤ x + y) (h2 : x + y ≤ 9223372036854775807) : add64 x y = x + y := zcY h1 h2
theorem zk6 {x y : Int} (h1 : -9223372036854775808 ≤ x * y) (h2 : x * y ≤ 9223372036854775807) : mul64 x y = x * y := zcY h1 h2
def zhN (r : List (List Row)) : Prop := r.length ≤ 900000 ∧ ∀ rows ∈ r, rows.length ≤ 6 ∧ ∀ row ∈ rows, row.terms.length ≤ 1
theorem zi3 {n : Nat} {c : Constraint} {e f : Action} (k : Int) (he : e.effect.delta.length ≤ 20) (hf : f.effect.delta.length ≤ 20) (hn : 1000000 ≤ n) : ∃ r, zaF n k e c f = some r := by
 unfold zaF;rw [z0 _ (by omega) (by omega), ya, z0 _ (by omega) (by omega), ya];exact ⟨_, rfl⟩
theorem zmS {n : Nat} {c : Constraint} {e f : Action} {K : Nat} {cyc : List Int} {b1 : List (List Row)} {k : List (List Row) → Option (List (List Row))} {Q : List (List Row) → Prop} (hv : VertL K cyc) (h6 : K ≤ 6) (he : e.effect.delta.length ≤ 20) (hf : f.effect.delta.length ≤ 20) (hn : 1000000 ≤ n) (hb : b1.length ≤ 900000)
  (hk : ∀ b : List (List Row), b.length ≤ b1.length + 1 → (∀ rows ∈ b, rows ∈ b1 ∨ (rows.length ≤ 6 ∧ ∀ row ∈ rows, row.terms.length ≤ 1)) → ∃ r, k b = some r ∧ Q r) : ∃ r, loopF (zf.l3 n c e f b1 k cyc) n (([] : List Row), false, false, 0) = some r ∧ Q r := by
 have hl := hv.2.1;have hl1 := hv.1;have := zeR (body := zf.l3 n c e f b1 k cyc) (k := cyc.length) (n := n) (st := fun (s : List Row × Bool × Bool) i => (s.1, s.2.1, s.2.2, (i : Int))) (fun i s => s.1.length ≤ i ∧ ∀ row ∈ s.1, row.terms.length ≤ 1) Q
  (fun rec i s hi hI hr => ?_) (fun rec s hI => ?_) (by omega) ([], false, false) ⟨by simp, by simp⟩
 ·simpa using this
 ·obtain ⟨b2, x, y⟩ := s;simp only at hI;have hmod : ∃ r : Nat, rem64 (add64 (i : Int) 1) (cyc.length : Int) = some (r : Int) ∧ r < cyc.length := by
   rw [zb (by omega)];refine ⟨(i + 1) % cyc.length, ?_, Nat.mod_lt _ (by omega)⟩;unfold rem64;rw [if_neg (by omega)];congr 1
  obtain ⟨r, hr1, hr2⟩ := hmod;simp only [zf.l3, zi hi, if_true, za hi, ya, hr1, za hr2];rw [z0 _ (by omega) (by omega), z0 _ (by omega) (by omega)];simp only [yj, yr, grd, if_true];obtain ⟨z, hz⟩ := zi3 (n := n) (c := c) (e := e) (f := f) (add64 (mul64 cyc[i] c.size) cyc[r]) he hf hn;rw [hz, ya, zp (by have := hI.1; simp; omega), ya, zb (by omega)];exact hr (_, _, _) ⟨by have := hI.1; simp; omega, fun row hrow => by
   rcases yC.1 hrow with h | h
   ·exact hI.2 row h
   ·simp at h; subst h; simp⟩
 ·obtain ⟨b2, x, y⟩ := s;simp only at hI;simp only [zf.l3, zaw, ye, if_false];split
  ·rw [zp (by simp; omega), ya];exact hk _ (by simp) fun rows hrows => by
    rcases yC.1 hrows with h | h
    ·exact .inl h
    ·simp at h; subst h; exact .inr ⟨by have := hI.1; omega, hI.2⟩
  ·exact hk _ (by omega) fun rows h => .inl h
theorem zoC {α : Type} {l : List α} {i : Nat} {x : α} (h : i < l.length) : ∃ r, sto l (i : Int) x = some r ∧ r.length = l.length := by
 unfold sto;simp [h]
theorem zng {n : Nat} {box : List Range} {c : Constraint} {e f : Action} {K : Nat} (hs : c.size = (K : Int)) (h1 : 1 ≤ K) (h6 : K ≤ 6) (h0 : 0 ≤ c.first) (hbx : c.first + ((K * K : Nat) : Int) ≤ (box.length : Int)) (hbl : box.length ≤ 1000) (he : e.effect.delta.length ≤ 20) (hf : f.effect.delta.length ≤ 20) (hn : 1000000 ≤ n) :
  ∃ r, zf n box c e f = some r ∧ zhN r := by
 have h4 : K * K ≤ 36 := uu h6 h6;have em : mul64 c.size c.size = ((K * K : Nat) : Int) := by
  rw [hs, zk6 (by rw [← y8]; omega) (by rw [← y8]; omega)]; simp
 have hmk : mkl 1 (mul64 c.size c.size) false = some (List.replicate (K * K) false) := by
  rw [em]; unfold mkl; rw [if_pos (by omega), yD]
 unfold zf;rw [hmk, ya];have := zeR (body := zf.l1 n box c e f (List.replicate (K * K) false)) (k := K * K) (n := n) (st := fun (s : List Bool) i => (s, (i : Int))) (fun i s => s.length = K * K) zhN
  (fun rec i s hi hI hr => ?_) (fun rec s hI => ?_) (by omega) (List.replicate (K * K) false) (by simp)
 ·simpa using this
 ·have hlt : decide ((i : Int) < ((List.replicate (K * K) false).length : Int)) = true := by simp; omega
  obtain ⟨z, hz⟩ := zi3 (n := n) (c := c) (e := e) (f := f) (i : Int) he hf hn;obtain ⟨w, hw⟩ := zbf (l := box) (i := add64 c.first (i : Int)) (by rw [ziS (by omega) (by omega)]; omega) (by rw [ziS (by omega) (by omega)]; omega);obtain ⟨s', hs1, hs2⟩ := zoC (l := s) (i := i) (x := decide (1 ≤ add64 w.hi z)) (by omega);simp only [zf.l1, hlt, if_true, hw, ya, hz, za (show i < s.length by omega), hs1];rw [zb (by omega)];exact hr s' (by omega)
 ·have hge : decide (((K * K : Nat) : Int) < ((List.replicate (K * K) false).length : Int)) = false := by simp
  simp only [zf.l1, hge, ye, if_false];obtain ⟨cyc, hc1, hc2, hc3⟩ := zkk (n := n) (size := c.size) (edges := s) hs h1 h6 hI hn;rw [hc1, ya];have := zeR (body := zf.l2 n c e f cyc) (k := cyc.length) (n := n) (st := fun (s : List (List Row)) i => (s, (i : Int))) (fun i s => s.length ≤ i ∧ ∀ rows ∈ s, rows.length ≤ 6 ∧ ∀ row ∈ rows, row.terms.length ≤ 1) zhN
   (fun rec i s hi hI hr => ?_) (fun rec s hI => ?_) (by omega) [] ⟨by simp, by simp⟩
  ·simpa using this
  ·simp only [zf.l2, zi hi, if_true, jn, za hi, ya];refine zmS (K := K) (hc3 _ (yk hi)) h6 he hf hn (by have := hI.1; omega) fun b hb hbr => ?_
   rw [zb (by omega)];exact hr b ⟨by have := hI.1; omega, fun rows hrows => (hbr rows hrows).elim (hI.2 rows) id⟩
  ·simp only [zf.l2, zaw, ye, if_false];exact ⟨s, rfl, by have := hI.1; omega, hI.2⟩
theorem zom {n K : Nat} {r : Row} (hl : r.terms.length < 1000000) (hn : 1000000 ≤ n) : zbj n (K : Int) r = some (rowOK K r) := by
 have := zby (body := zbj.l1 n (K : Int) r) (len := r.terms.length) (st := fun (s : Int) i => (s, (i : Int))) (g := fun i s => some (rowP K s (r.terms.drop i) && zaz r.bound 1000000000)) (fun _ _ => True) (fun rec i s hi _ hr => ?_) (fun rec s _ => ?_) n 0 (-1) (yo _) (by omega) trivial
 ·simpa [zbj, rowOK] using this
 ·simp only [zbj.l1, zi hi, if_true, za hi, ya, zb (i := i) (by omega), hr r.terms[i].cell trivial];rw [zo hi, rowP];by_cases h : (decide (s < r.terms[i].cell) && decide (r.terms[i].cell < (K : Int)) && (r.terms[i].factor != 0) && zaz r.terms[i].factor 1000) = true
  ·rw [h, yA];simp only [zaz, yc, yf, bne_iff_ne] at h;rw [if_neg (by simp; omega)]
  ·rw [if_pos (by
    simp only [zaz, yc, yf, bne_iff_ne, ne_eq] at h;simp only [yv, yf, beq_iff_eq];omega)]
   simp only [yz] at h;rw [h]; rfl
 ·simp [zbj.l1, zaz, rowP]
theorem zlL {n K : Nat} {r : Row} (hl : r.terms.length < 1000000) (hn : 1000000 ≤ n) : zc9 n r (K : Int) = some (rowOK K r) := by
 have := zby (body := zc9.l1 n r (K : Int)) (len := r.terms.length) (st := fun (s : Int) i => (s, (i : Int))) (g := fun i s => some (rowP K s (r.terms.drop i) && zaz r.bound 1000000000)) (fun _ _ => True) (fun rec i s hi _ hr => ?_) (fun rec s _ => ?_) n 0 (-1) (yo _) (by omega) trivial
 ·simpa [zc9, rowOK] using this
 ·simp only [zc9.l1, zi hi, if_true, za hi, ya, za2, yj, yr, grd, yg, zb (i := i) (by omega), hr r.terms[i].cell trivial];rw [zo hi, rowP];by_cases h : (decide (s < r.terms[i].cell) && decide (r.terms[i].cell < (K : Int)) && (r.terms[i].factor != 0) && zaz r.terms[i].factor 1000) = true
  ·rw [h, yA];simp only [zaz, yc, yf, bne_iff_ne] at h;rw [if_neg (by simp; omega)]
  ·rw [if_pos (by
    simp only [zaz, yc, yf, bne_iff_ne, ne_eq] at h;simp only [yv, yf, beq_iff_eq, yG, ug, yH];omega)]
   simp only [yz] at h;rw [h]; rfl
 ·simp [zc9.l1, za2, zaz, rowP]
def zkJ (R : List Row) : Prop := R.length < 1000000 ∧ ∀ r ∈ R, r.terms.length < 1000000
theorem zgP {n : Nat} {box : List Range} {R : List Row} (hg : goodB box = true) (hl : box.length ≤ 100) (hR : zkJ R) (hn : 1000000 ≤ n) : zae n box R = some (R.all (rowOK box.length)) := by
 unfold zae;rw [if_neg (by simp; omega)];have := zI (body := zae.l1 n box R) (len := box.length) (st := fun i => (i : Int)) (g := fun _ => some (R.all (rowOK box.length))) (fun rec i hi hr => ?_) (fun rec => ?_) n 0 (yo _) (by omega)
 ·simpa using this
 ·have := yp.1 hg _ (yk hi);simp only [yc, yf] at this;have h1 : (decide (-1000000 ≤ box[i].lo) && decide (box[i].lo ≤ 1000000)) = true := by simp; omega
  have h2 : (decide (-1000000 ≤ box[i].hi) && decide (box[i].hi ≤ 1000000)) = true := by simp; omega
  simp only [zae.l1, zi hi, if_true, za hi, ya, za2, h1, h2, yj, yr, grd, yg, yT, Bool.or_self, ye, if_false, zb (i := i) (by omega), hr]
 ·simp only [zae.l1, zaw, ye, if_false];have hR1 := hR.1;have := zam (body := zae.l2 n box R) (l := R) (n := n) (st := fun i => (i : Int)) (rowOK box.length) (some false) (some true) (fun rec i hi => ?_) (fun rec => ?_) (by omega)
  ·rw [show ((0 : Nat) : Int) = 0 from rfl] at this;rw [this]; split <;> simp_all
  ·simp only [zae.l2, zi hi, if_true, za hi, ya, zlL (hR.2 _ (yk hi)) hn, zb (i := i) (by omega)];cases rowOK box.length R[i] <;> simp
  ·simp [zae.l2]
theorem zkb {n : Nat} {box : List Range} (hg : goodB box = true) (hl : box.length ≤ 100) (hn : 1000000 ≤ n) : zbt n box = some false := by
 unfold zbt;have := zI (body := zbt.l1 n box) (len := box.length) (st := fun i => (i : Int)) (g := fun _ => some false) (fun rec i hi hr => ?_) (fun rec => ?_) n 0 (yo _) (by omega)
 ·simpa using this
 ·have := yp.1 hg _ (yk hi);simp only [yc, yf] at this;simp only [zbt.l1, zi hi, if_true, za hi, ya];rw [if_neg (by simp; omega), zb (by omega), hr]
 ·simp [zbt.l1]
theorem zgU {n : Nat} {l : List Range} {f : Range → Option Bool} {p : Range → Bool} (hf : ∀ x ∈ l, f x = some (p x)) (hl : l.length < 1000000) (hn : 1000000 ≤ n) : zak n l f = some (l.any p) := by
 unfold zak zA;have := zI (body := zA.l1 n l f) (len := l.length) (st := fun i => (i : Int)) (g := fun i => some (ixP p (l.drop i) i)) (fun rec i hi hr => ?_) (fun rec => ?_) n 0 (yo _) (by omega)
 ·rw [show ((0 : Nat) : Int) = 0 from rfl] at this;rw [this, ya, List.drop_zero, zfN]
 ·simp only [zA.l1, zi hi, if_true, za hi, ya, hf _ (yk hi), zb (i := i) (by omega), hr];rw [zo hi]; simp only [ixP];cases p l[i] <;> simp
 ·simp [zA.l1, ixP]
theorem zfA {n : Nat} {l : List (List Row)} {f : List Row → Option Bool} {p : List Row → Bool} (hf : ∀ x ∈ l, f x = some (p x)) (hl : l.length < 1000000) (hn : 1000000 ≤ n) : zaL n l f = some (l.any p) := by
 unfold zaL zP;have := zI (body := zP.l1 n l f) (len := l.length) (st := fun i => (i : Int)) (g := fun i => some (ixP p (l.drop i) i)) (fun rec i hi hr => ?_) (fun rec => ?_) n 0 (yo _) (by omega)
 ·rw [show ((0 : Nat) : Int) = 0 from rfl] at this;rw [this, ya, List.drop_zero, zfN]
 ·simp only [zP.l1, zi hi, if_true, za hi, ya, hf _ (yk hi), zb (i := i) (by omega), hr];rw [zo hi]; simp only [ixP];cases p l[i] <;> simp
 ·simp [zP.l1, ixP]
theorem zeO {n : Nat} {box : List Range} {R : List Row} (hg : goodB box = true) (hl : box.length ≤ 100) (hR : zkJ R) (hn : 1000000 ≤ n) : zbm n box R = some (R.all (rowOK box.length)) := by
 have hb : zbD n box = some true := by
  unfold zbD;have := zI (body := zbD.l1 n box) (len := box.length) (st := fun i => (i : Int)) (g := fun _ => some true) (fun rec i hi hr => ?_) (fun rec => ?_) n 0 (yo _) (by omega)
  ·simpa using this
  ·have := yp.1 hg _ (yk hi);simp only [yc, yf] at this;simp only [zbD.l1, zi hi, if_true, za hi, ya];rw [if_neg (by simp; omega), zb (by omega), hr]
  ·simp [zbD.l1]; omega
 have hc : zl n R (fun q0 => zbA n q0 box) = some (R.any fun r => !rowOK box.length r) := zch (fun x hx => by
  unfold zbA;rw [zom (hR.2 x hx) hn]; rfl) hR.1 hn
 unfold zbm;rw [hb, hc];simp [grd, List.all_eq_not_any_not]
theorem zhZ {n : Nat} {box : List Range} (hg : goodB box = true) (hl : box.length ≤ 100) (hn : 1000000 ≤ n) : zbK n box = some false := by
 unfold zbK;rw [zgU (f := fun q0 => zey n q0) (p := fun r => decide (r.hi < r.lo)) (fun x _ => rfl) (by omega) hn, ya];congr 1;rw [List.any_eq_false];intro r hr;have := yp.1 hg _ hr;simp only [yc, yf] at this;simp; omega
def zg3 (x : Int) : Bool := decide (x < -4000000) || decide (4000000 < x)
def zjf (K : Nat) (g : Graph) : Bool := (((decide (g.size < 1) || decide (6 < g.size)) || decide (g.first < 0)) || decide (sub64 (K : Int) (mul64 g.size g.size) < g.first)) || ((g.least.length : Int) != mul64 g.size g.size)
def zdH (K : Nat) (g : Graph) : Bool := !zjf K g && !g.least.any zg3
def caseV (K : Nat) (rows : List Row) : Bool := decide (rows.length ≤ 64) && rows.all (rowOK K)
def sysP (K : Nat) (R : List Row) (G : List Graph) (cs : List (List Row)) : Bool := (decide (R.length ≤ 1024) && R.all (rowOK K) && decide (G.length ≤ 64) && decide (cs.length ≤ 1024)) && (G.all (zdH K) && cs.all (caseV K))
structure SysOK (R : List Row) (G : List Graph) (cs : List (List Row)) : Prop where
 rows : zkJ R
 graphs : G.length < 1000000 ∧ ∀ g ∈ G, g.least.length < 1000000
 cases : cs.length < 1000000 ∧ ∀ rows ∈ cs, zkJ rows
theorem zjQ {n K : Nat} {g : Graph} (hl : g.least.length < 1000000) (hn : 1000000 ≤ n) : zet n (K : Int) g = some (zdH K g) := by
 unfold zet zdH;by_cases h : zjf K g = true
 ·have h' := h;unfold zjf at h';rw [if_pos h', h]; rfl
 ·have h' := h;unfold zjf at h';rw [if_neg h', zbO (f := fun q0 => zeG n q0) (p := zg3) (fun x _ => rfl) (by omega) (by omega), ya];simp only [yz] at h;rw [h]; rfl
theorem zjO {n : Nat} {box : List Range} {R : List Row} {G : List Graph} {cs : List (List Row)} (hg : goodB box = true) (hl : box.length ≤ 100) (hS : SysOK R G cs) (hn : 1000000 ≤ n) : zaS n ⟨box, R, G, cs⟩ = some (sysP box.length R G cs) := by
 unfold zaS;have hrows : ∀ (rows : List Row) (k : Int), zkJ rows → zcT n ⟨box, R, G, cs⟩ rows k = some (decide ((rows.length : Int) ≤ k) && rows.all (rowOK box.length)) := fun rows k hr => by
  unfold zcT;simp only [zeO hg hl hr hn, yj, yr, grd, if_true, yg]
 have hbox : zbm n box [] = some true := by rw [zeO hg hl ⟨by simp, by simp⟩ hn]; rfl
 simp only [hbox, ya, zhZ hg hl hn, hrows R 1024 hS.rows, yj, yr, grd, if_true, yg, yT, uj];have hloop : loopF (zaS.l1 n ⟨box, R, G, cs⟩) n 0 = some (G.all (zdH box.length) && cs.all (caseV box.length)) := by
  have := zam (body := zaS.l1 n ⟨box, R, G, cs⟩) (l := G) (n := n) (st := fun i => (i : Int)) (zdH box.length) (some false) (some (cs.all (caseV box.length))) (fun rec i hi => ?_) (fun rec => ?_) (by have := hS.graphs.1; omega)
  ·rw [show ((0 : Nat) : Int) = 0 from rfl] at this;rw [this]; cases G.all (zdH box.length) <;> rfl
  ·simp only [zaS.l1, zi hi, if_true, za hi, ya, zjQ (hS.graphs.2 _ (yk hi)) hn, zb (show i < 4611686018427387904 by have := hS.graphs.1; omega)];cases zdH box.length G[i] <;> simp
  ·simp only [zaS.l1, zaw, ye, if_false];rw [zfA (p := fun rows => !caseV box.length rows) (fun x hx => by
    unfold zeF;rw [hrows x 64 (hS.cases.2 x hx), ya];congr 2;unfold caseV;congr 1;exact decide_eq_decide.2 (by omega)) hS.cases.1 hn, ya]
   simp [List.all_eq_not_any_not]
 have e1 : decide ((R.length : Int) ≤ 1024) = decide (R.length ≤ 1024) := decide_eq_decide.2 (by omega);have e2 : decide (64 < (G.length : Int)) = !decide (G.length ≤ 64) := by rw [← decide_not]; exact decide_eq_decide.2 (by omega)
 have e3 : decide (1024 < (cs.length : Int)) = !decide (cs.length ≤ 1024) := by rw [← decide_not]; exact decide_eq_decide.2 (by omega)
 rw [hloop, e1, e2, e3];unfold sysP;generalize decide (R.length ≤ 1024) = a;generalize R.all (rowOK box.length) = b;generalize decide (G.length ≤ 64) = c;generalize decide (cs.length ≤ 1024) = d;cases a <;> cases b <;> cases c <;> cases d <;> rfl
theorem zke {n : Nat} {box : List Range} {R : List Row} {G : List Graph} {cs : List (List Row)} (hg : goodB box = true) (hl : box.length ≤ 100) (hS : SysOK R G cs) (hn : 1000000 ≤ n) : zW n ⟨box, R, G, cs⟩ = some (sysP box.length R G cs) := by
 unfold zW;simp only [zgP hg hl hS.rows hn, zkb hg hl hn, yj, yr, grd, if_true, yg, uP];have hgr : ∀ i (rec : Int → Option Bool) (hi : i < G.length), zW.l2 n ⟨box, R, G, cs⟩ rec (i : Int) = if zdH box.length G[i] = true then rec ((i + 1 : Nat) : Int) else some false := fun i rec hi => by
  have hgl := hS.graphs.2 _ (yk hi);have h3 := zam (body := zW.l3 n (i : Int) rec G[i]) (l := G[i].least) (n := n) (st := fun j => (j : Int)) (fun x => !zg3 x) (some false) (rec (add64 (i : Int) 1)) (fun rec' j hj => ?_) (fun rec' => ?_) (by omega)
  ·rw [show ((0 : Nat) : Int) = 0 from rfl] at h3;simp only [zW.l2, zi hi, if_true, za hi, ya, h3, zb (show i < 4611686018427387904 by have := hS.graphs.1; omega)];by_cases h : zjf box.length G[i] = true
   ·have h' := h;unfold zjf at h';rw [if_pos h', if_neg (by unfold zdH; rw [h]; simp)]
   ·have h' := h;unfold zjf at h';rw [if_neg h'];have e : zdH box.length G[i] = G[i].least.all fun x => !zg3 x := by
     unfold zdH;simp only [yz] at h;rw [h, uA, yA, List.all_eq_not_any_not];simp
    rw [e]
  ·simp only [zW.l3, zi hj, if_true, za hj, ya, yj, yr, grd, yg, zb (i := j) (by omega)];by_cases h : zg3 G[i].least[j] = true
   ·have h' := h;unfold zg3 at h';rw [if_pos h', h]; rfl
   ·have h' := h;unfold zg3 at h';simp only [yz] at h;rw [if_neg h', h]; rfl
  ·simp [zW.l3]
 have hloop : loopF (zW.l1 n ⟨box, R, G, cs⟩) n 0 = some (G.all (zdH box.length) && cs.all (caseV box.length)) := by
  have := zam (body := zW.l1 n ⟨box, R, G, cs⟩) (l := cs) (n := n) (st := fun i => (i : Int)) (caseV box.length) (some false) (some (G.all (zdH box.length))) (fun rec i hi => ?_) (fun rec => ?_) (by have := hS.cases.1; omega)
  ·rw [show ((0 : Nat) : Int) = 0 from rfl] at this;rw [this]; cases cs.all (caseV box.length) <;> cases G.all (zdH box.length) <;> rfl
  ·simp only [zW.l1, zi hi, if_true, za hi, ya, zgP hg hl (hS.cases.2 _ (yk hi)) hn, yj, yr, grd, yg, zb (show i < 4611686018427387904 by have := hS.cases.1; omega)];unfold caseV;by_cases h : cs[i].length ≤ 64
   ·rw [decide_eq_true h, decide_eq_false (by omega), yA, uj];cases cs[i].all (rowOK box.length) <;> rfl
   ·rw [decide_eq_false h, decide_eq_true (show (64 : Int) < (cs[i].length : Int) by omega)];rfl
  ·simp only [zW.l1, zaw, ye, if_false];have := zam (body := zW.l2 n ⟨box, R, G, cs⟩) (l := G) (n := n) (st := fun i => (i : Int)) (zdH box.length) (some false) (some true) (fun rec i hi => hgr i rec hi) (fun rec => ?_) (by have := hS.graphs.1; omega)
   ·rw [show ((0 : Nat) : Int) = 0 from rfl] at this;rw [this]; cases G.all (zdH box.length) <;> rfl
   ·simp [zW.l2]
 have e1 : decide (1024 < (R.length : Int)) = !decide (R.length ≤ 1024) := by rw [← decide_not]; exact decide_eq_decide.2 (by omega)
 have e2 : decide (64 < (G.length : Int)) = !decide (G.length ≤ 64) := by rw [← decide_not]; exact decide_eq_decide.2 (by omega)
 have e3 : decide (1024 < (cs.length : Int)) = !decide (cs.length ≤ 1024) := by rw [← decide_not]; exact decide_eq_decide.2 (by omega)
 rw [hloop, e1, e2, e3];unfold sysP;generalize decide (R.length ≤ 1024) = a;generalize R.all (rowOK box.length) = b;generalize decide (G.length ≤ 64) = c;generalize decide (cs.length ≤ 1024) = d;cases a <;> cases b <;> cases c <;> cases d <;> rfl
theorem zgl {n : Nat} {r : Row} {f g : Int → Option Int} {fP : Int → Int} {B : Int} (hf : ∀ x, f x = some (fP x)) (hg : g r.bound = some B) (hl : r.terms.length ≤ 1000) (hn : 1000000 ≤ n) : zK n r f g = some ⟨r.terms.map fun t => ⟨t.cell, fP t.factor⟩, B⟩ := by
 unfold zK;rw [hg, ya];have := zdZ (body := zK.l1 n r f B) (l := r.terms) (n := n) (st := fun b i => (b, (i : Int))) (fun t => (⟨t.cell, fP t.factor⟩ : Term)) (fun b => some (⟨b, B⟩ : Row)) [] (fun rec b i hi hb => ?_) (fun rec b hb => ?_) (by omega)
 ·simpa using this
 ·simp only [zK.l1, zi hi, if_true, za hi, ya, hf];rw [zp (by simp at hb; simp; omega), ya, zb (by omega)]
 ·simp [zK.l1]
theorem zoz {n : Nat} {r : Row} (hl : r.terms.length ≤ 1000) (hn : 1000000 ≤ n) : zK n r (fun q0 => za8 n q0) (fun q0 => za8 n q0) = some r := by
 rw [zgl (f := fun q0 => za8 n q0) (g := fun q0 => za8 n q0) (fP := id) (B := r.bound) (fun _ => rfl) rfl hl hn];simp
theorem zno {n K : Nat} {c : Constraint} {f : Int → Option Int} (hK : mul64 c.size c.size = (K : Int)) (hK2 : K ≤ 36) (hf : ∀ x, ∃ y, f x = some y) (hn : 1000000 ≤ n) : ∃ g, zO n c f = some g ∧ g.least.length ≤ 36 := by
 unfold zO;have := zeR (body := zO.l1 n c f) (k := K) (n := n) (st := fun (b : List Int) i => (b, (i : Int))) (fun i b => b.length ≤ i) (fun g : Graph => g.least.length ≤ 36) (fun rec i b hi hI hr => ?_) (fun rec b hI => ?_) (by omega) [] (by simp)
 ·simpa using this
 ·obtain ⟨y, hy⟩ := hf (add64 c.first (i : Int));simp only [zO.l1, hK, zhq hi, if_true, hy, ya];rw [zp (by simp; omega), ya, zb (by omega)];exact hr _ (by simp; omega)
 ·simp only [zO.l1, hK, zft (yn K), ye, if_false];exact ⟨_, rfl, by simp; omega⟩
structure ConOK (K : Nat) (c : Constraint) : Prop where
 kind : c.kind = 0 ∨ c.kind = 1
 len : c.row.terms.length ≤ 1000
 sz : c.kind = 1 → ∃ s : Nat, c.size = (s : Int) ∧ 1 ≤ s ∧ s ≤ 6 ∧ 0 ≤ c.first ∧ c.first + ((s * s : Nat) : Int) ≤ (K : Int)
theorem ConOK.mul {K : Nat} {c : Constraint} (h : ConOK K c) (hk : c.kind = 1) : ∃ k : Nat, mul64 c.size c.size = (k : Int) ∧ k ≤ 36 := by
 obtain ⟨s, h1, h2, h3, -⟩ := h.sz hk;have h4 : s * s ≤ 36 := uu h3 h3;refine ⟨s * s, ?_, h4⟩;rw [h1, zk6 (by rw [← y8]; omega) (by rw [← y8]; omega)]; simp
structure ActOK (a : Action) : Prop where
 delta : a.effect.delta.length ≤ 20
 hold : a.effect.hold.length ≤ 10
 terms : ∀ r ∈ a.effect.hold, r.terms.length ≤ 1000
theorem zgo {n K : Nat} {a : Action} {c : Constraint} (ha : ActOK a) (hc : ConOK K c) (hk : c.kind = 1) (hn : 1000000 ≤ n) : ∃ l, zz n a c = some l := by
 obtain ⟨k, h1, h2⟩ := hc.mul hk;have := ha.delta;exact ⟨_, zdT h1 (by omega) (by omega) (by omega) (by omega)⟩
theorem zgk {n : Nat} {a : Action} {r : Row} (ha : ActOK a) (hr : r.terms.length ≤ 1000) (hn : 1000000 ≤ n) : ∃ x, zj n a r = some x := by
 have := ha.delta;exact ⟨_, zdS (by omega) (by omega) (by omega) (by omega)⟩
noncomputable def gr (n : Nat) (c : Constraint) (f : Int → Option Int) : Graph := (zO n c f).getD default
noncomputable def gS (n : Nat) (ef : Bool) (a b : Action) (c : Constraint) : List Graph :=
 if (c.kind != 1) = true then [] else
  [gr n c fun q0 => zaW n q0] ++ ((if (decide (0 < (((zz n a c).getD []).length : Int))) = true then [gr n c fun q0 => zR n q0 a] else []) ++
   (if (ef && decide (0 < (((zz n b c).getD default).length : Int))) = true then [gr n c fun q0 => zah n q0 b] else []))
noncomputable def finS (n : Nat) (box : List Range) (a b : Action) (R : List Row) (c : Constraint) (G : List Graph) : Option (System × Int) :=
  jn (fun (v : (List Row) × (List (List Row))) =>
   let b6_150 := v.1
   let c3_3_151 := v.2
   (zaS n (⟨box, b6_150, G, c3_3_151⟩ : System)).bind fun x267_155 =>
   if (!x267_155) = true then
    some ((⟨[], [], [], []⟩ : System), 8)
   else
    some ((⟨box, b6_150, G, c3_3_151⟩ : System), 0)) fun k_152 =>
  if (c.kind == 1) = true then
   (zf n box c a b).bind fun x254_153 =>
   if ((x254_153.length : Int) == 0) = true then
    (app 32 R [(⟨[], (-1)⟩ : Row)]).bind fun x264_154 =>
    k_152 (x264_154, x254_153)
   else
    k_152 (R, x254_153)
  else
   k_152 (R, [])
theorem zdt {n K : Nat} {c : Constraint} {f : Int → Option Int} (hc : ConOK K c) (hk : c.kind = 1) (hf : ∀ x, ∃ y, f x = some y) (hn : 1000000 ≤ n) : zO n c f = some (gr n c f) ∧ (gr n c f).least.length ≤ 36 := by
 obtain ⟨k, h1, h2⟩ := hc.mul hk;obtain ⟨g, h3, h4⟩ := zno h1 h2 hf hn;unfold gr;rw [h3];exact ⟨rfl, h4⟩
theorem znn {n K : Nat} {ef : Bool} {a b : Action} {c : Constraint} (ha : ActOK a) (hb : ActOK b) (hc : ConOK K c) (hn : 1000000 ≤ n) : (gS n ef a b c).length ≤ 3 ∧ ∀ g ∈ gS n ef a b c, g.least.length ≤ 36 := by
 unfold gS;split
 ·simp
 ·rename_i hk;have hk : c.kind = 1 := by simpa using hk
  have f3 : ∀ x, ∃ y, zR n x a = some y := fun x => by
   unfold zR;have := ha.delta;rw [z0 _ (by omega) (by omega)]; exact ⟨_, rfl⟩
  have f4 : ∀ x, ∃ y, zah n x b = some y := fun x => by
   unfold zah;have := hb.delta;rw [z0 _ (by omega) (by omega)]; exact ⟨_, rfl⟩
  have g2 := (zdt (f := fun q0 => zaW n q0) hc hk (fun x => ⟨_, rfl⟩) hn).2;have g3 := (zdt (f := fun q0 => zR n q0 a) hc hk f3 hn).2;have g4 := (zdt (f := fun q0 => zah n q0 b) hc hk f4 hn).2;constructor
  ·split <;> split <;> simp
  ·intro g hg;simp only [yC, yN] at hg;rcases hg with hg | hg | hg
   ·subst hg; exact g2
   ·split at hg
    ·simp at hg; subst hg; exact g3
    ·simp at hg
   ·split at hg
    ·simp at hg; subst hg; exact g4
    ·simp at hg
theorem zmz {n K : Nat} {m : Model} {q : Question} {a b : Action} {box : List Range} {R : List Row} {c : Constraint} (ha : ActOK a) (hb : ActOK b) (hc : ∀ c ∈ m.constraints, ConOK K c) (hl : m.constraints.length ≤ 1000) (hn : 1000000 ≤ n) :
  loopF (ze.l4 n m q a b box R c.kind c.family c.row.terms c.row.bound c.first c.size) n ([], 0) = finS n box a b R c ((List.range m.constraints.length).flatMap fun i => gS n (q.e != q.f) a b (m.constraints.getD i default)) := by
 have := zcm (body := ze.l4 n m q a b box R c.kind c.family c.row.terms c.row.bound c.first c.size) (k := m.constraints.length) (n := n) (st := fun b i => (b, (i : Int))) (fun i => gS n (q.e != q.f) a b (m.constraints.getD i default)) (finS n box a b R c) 3 []
  (fun i hi => ?_) (fun rec b7 i hi hI => ?_) (fun rec b7 hI => ?_) (by omega)
 ·simpa using this
 ·have e : m.constraints.getD i default = m.constraints[i] := by simp [List.getD, hi]
  rw [e];exact (znn ha hb (hc _ (yk hi)) hn).1
 ·have e : m.constraints.getD i default = m.constraints[i] := by simp [List.getD, hi]
  have hci := hc _ (yk hi);have hI' : b7.length ≤ 3000 := by simp at hI; omega
  simp only [ze.l4, zi hi, if_true, jn, za hi, ya, e, zb (i := i) (by omega)];unfold gS;by_cases hk : (m.constraints[i].kind != 1) = true
  ·rw [if_pos hk, if_pos hk, y0]
  ·rw [if_neg hk, if_neg hk];have hk : m.constraints[i].kind = 1 := by simpa using hk
   have f3 : ∀ x, ∃ y, zR n x a = some y := fun x => by
    unfold zR;have := ha.delta;rw [z0 _ (by omega) (by omega)]; exact ⟨_, rfl⟩
   have f4 : ∀ x, ∃ y, zah n x b = some y := fun x => by
    unfold zah;have := hb.delta;rw [z0 _ (by omega) (by omega)]; exact ⟨_, rfl⟩
   obtain ⟨ra, hra⟩ := zgo ha hci hk hn;obtain ⟨rb, hrb⟩ := zgo hb hci hk hn;rw [(zdt (f := fun q0 => zaW n q0) hci hk (fun x => ⟨_, rfl⟩) hn).1, (zdt (f := fun q0 => zR n q0 a) hci hk f3 hn).1, (zdt (f := fun q0 => zah n q0 b) hci hk f4 hn).1, hra, hrb];simp only [ya, yg, yj, yr, grd, if_true];rw [zp (by simp; omega), ya];by_cases h3 : (decide (0 < (ra.length : Int))) = true
   ·rw [if_pos h3, if_pos h3, zp (by simp; omega), ya];by_cases h4 : ((q.e != q.f) && decide (0 < (rb.length : Int))) = true
    ·rw [if_pos h4, if_pos h4, zp (by simp; omega), ya];simp only [yE]
    ·rw [if_neg h4, if_neg h4];simp only [yE, y0]
   ·rw [if_neg h3, if_neg h3];by_cases h4 : ((q.e != q.f) && decide (0 < (rb.length : Int))) = true
    ·rw [if_pos h4, if_pos h4, zp (by simp; omega), ya];simp only [yE, yS]
    ·rw [if_neg h4, if_neg h4];simp only [y0]
 ·simp only [ze.l4, zaw, ye, if_false];rfl
noncomputable def zgX (n : Nat) (m : Model) (q : Question) (a b : Action) (box : List Range) (R : List Row) : Option (System × Int) :=
  jn (fun (v : (List Row) × Int × Int × (List Term) × Int × Int × Int) =>
   let b6_84 := v.1
   let c9_0_85 := v.2.1
   let c9_1_86 := v.2.2.1
   let c9_2_87 := v.2.2.2.1
   let c9_3_88 := v.2.2.2.2.1
   let c9_4_89 := v.2.2.2.2.2.1
   let c9_5_90 := v.2.2.2.2.2.2
   loopF (ze.l4 n m q a b box b6_84 c9_0_85 c9_1_86 c9_2_87 c9_3_88 c9_4_89 c9_5_90) n (([] : List Graph), 0)) fun k_91 =>
  if q.target.hold = true then
   (idx a.effect.hold q.target.index).bind fun x164_92 =>
   (zj n b x164_92).bind fun x170_93 =>
   (zK n x164_92 (fun q0 => za4 n q0) (fun q0 => zaH n q0 x170_93)).bind fun x9_94 =>
   (app 32 R [x9_94]).bind fun x11_95 =>
   k_91 (x11_95, 0, 0, [], 0, 0, 0)
  else
   (idx m.constraints q.target.index).bind fun x177_96 =>
   if (x177_96.kind == 0) = true then
    (zj n a x177_96.row).bind fun x188_97 =>
    (zj n b x177_96.row).bind fun x192_98 =>
    (zK n x177_96.row (fun q0 => za4 n q0) (fun q0 => zaH n q0 (add64 x188_97 x192_98))).bind fun x9_99 =>
    (app 32 R [x9_99]).bind fun x11_100 =>
    k_91 (x11_100, x177_96.kind, x177_96.family, x177_96.row.terms, x177_96.row.bound, x177_96.first, x177_96.size)
   else
    k_91 (R, x177_96.kind, x177_96.family, x177_96.row.terms, x177_96.row.bound, x177_96.first, x177_96.size)
noncomputable def tailS (n : Nat) (m : Model) (q : Question) (a b : Action) (box : List Range) (R : List Row) : Option (System × Int) :=
  (app 32 [] a.effect.hold).bind fun x128_64 =>
  jn (fun (v : (List Row)) =>
   let b8_65 := v
   loopF (ze.l3 n m q a b box b8_65) n (R, 0)) fun k_66 =>
  if (q.e != q.f) = true then
   (app 32 x128_64 b.effect.hold).bind fun x138_67 =>
   k_66 x138_67
  else
   k_66 x128_64
def endS (n : Nat) (S : System) (v : Option Bool) : Option (System × Int) := v.bind fun v => if (!v) = true then some ((⟨[], [], [], []⟩ : System), 8) else some (S, 0)
noncomputable def chgN (n : Nat) (a : Action) (r : Row) : Int := (zj n a r).getD 0
noncomputable def kS (n : Nat) (q : Question) (rows : List Int) (a b : Action) (i : Nat) (c : Constraint) : Int :=
 if (decide ((i : Int) ∈ rows) && (q.target.hold || (q.target.index != (i : Int)))) = true then gmax (gmax (gmax 0 (chgN n a c.row)) (chgN n b c.row)) (add64 (chgN n a c.row) (chgN n b c.row)) else gmax (gmax 0 (chgN n a c.row)) (chgN n b c.row)
noncomputable def rowS (n : Nat) (q : Question) (rows : List Int) (a b : Action) (i : Nat) (c : Constraint) : List Row := if (c.kind != 0) = true then [] else [⟨c.row.terms, sub64 c.row.bound (kS n q rows a b i c)⟩]
noncomputable def rowsR (n : Nat) (m : Model) (q : Question) (rows : List Int) (a b : Action) : List Row := (List.range m.constraints.length).flatMap fun i => rowS n q rows a b i (m.constraints.getD i default)
theorem zhR {n : Nat} {a : Action} {r : Row} (ha : ActOK a) (hr : r.terms.length ≤ 1000) (hn : 1000000 ≤ n) : zj n a r = some (chgN n a r) := by
 obtain ⟨x, hx⟩ := zgk ha hr hn;unfold chgN;rw [hx]; rfl
theorem znG {n : Nat} {m : Model} {q : Question} {rows : List Int} {a b : Action} {box : List Range} (ha : ActOK a) (hb : ActOK b) (hc : ∀ c ∈ m.constraints, ConOK box.length c) (hl : m.constraints.length ≤ 1000) (hr : rows.length ≤ 1000) (hn : 1000000 ≤ n) :
  loopF (ze.l2 n m q rows a b box) n ([], 0) = tailS n m q a b box (rowsR n m q rows a b) := by
 have := zcm (body := ze.l2 n m q rows a b box) (k := m.constraints.length) (n := n) (st := fun b i => (b, (i : Int))) (fun i => rowS n q rows a b i (m.constraints.getD i default)) (tailS n m q a b box) 1 []
  (fun i hi => ?_) (fun rec b6 i hi hI => ?_) (fun rec b6 hI => ?_) (by omega)
 ·simpa [rowsR] using this
 ·unfold rowS; split <;> simp
 ·have e : m.constraints.getD i default = m.constraints[i] := by simp [List.getD, hi]
  have hci := hc _ (yk hi);have hI' : b6.length ≤ 3000 := by simp at hI; omega
  rw [e];simp only [ze.l2, zi hi, if_true, jn, za hi, ya, zhR ha hci.len hn, zhR hb hci.len hn, zdA (show rows.length < 1000000 by omega) hn];unfold rowS;by_cases hk : (m.constraints[i].kind != 0) = true
  ·rw [if_pos hk, if_pos hk, y0, zb (by omega)]
  ·rw [if_neg hk, if_neg hk];have hch := fun k : Int => zgl (n := n) (r := m.constraints[i].row) (f := fun q0 => za8 n q0) (g := fun q0 => zdC n q0 k) (fP := id) (B := sub64 m.constraints[i].row.bound k) (fun _ => rfl) rfl hci.len hn
   have hid : (m.constraints[i].row.terms.map fun t => (⟨t.cell, id t.factor⟩ : Term)) = m.constraints[i].row.terms := by simp
   simp only [hid] at hch;unfold kS;split <;> (rw [hch, ya, zp (by first | omega | (simp; omega)), ya, zb (by omega)])
 ·simp only [ze.l2, zaw, ye, if_false];rfl
def badR (m : Model) (x : Int) : Bool := (decide (x < 0) || decide ((m.constraints.length : Int) ≤ x)) || (((idx m.constraints x).getD default).kind != 0)
theorem zkN {n : Nat} {m : Model} {q : Question} {rows : List Int} {a b : Action} (hF : Fuel n) (hS : SmallM m) (hV : ValidM m) (hq : zgI m q = true) (ha : idx m.actions q.e = some a) (hb : idx m.actions q.f = some b) (hA : ActOK a) (hB : ActOK b) (hc : ∀ c ∈ m.constraints, ConOK (boxM m).length c) (hr : rows.length ≤ 1000) :
  ze n m q rows = if (rows.all fun x => !badR m x) = true then tailS n m q a b (boxM m) (rowsR n m q rows a b) else some (⟨[], [], [], []⟩, 2) := by
 have hn := hF.big;have hn : 1000000 ≤ n := by omega
 have hcl := hS.constraints;have hst : zek n m = some (boxM m) := by
  unfold zek zfZ;rw [zgG hF hS, ze4.2 hV, ya, if_neg (by simp), zfD hF (by have := hS.sorts; omega) (by have := hS.tables; omega) (fun t ht => by have := (hS.tab t ht).2; omega), if_pos hV.lay];rfl
 unfold ze;rw [ze0 hF hS, ze4.2 hV, hq, ya, if_neg (by simp)];have := zam (body := ze.l1 n m q rows) (l := rows) (n := n) (st := fun i => (i : Int)) (fun x => !badR m x) (some (⟨[], [], [], []⟩, 2)) (tailS n m q a b (boxM m) (rowsR n m q rows a b)) (fun rec i hi => ?_) (fun rec => ?_) (by omega)
 ·simpa using this
 ·simp only [ze.l1, zi hi, if_true, za hi, ya];by_cases h1 : (decide (rows[i] < 0) || decide ((m.constraints.length : Int) ≤ rows[i])) = true
  ·have hbad : badR m rows[i] = true := by unfold badR; rw [h1]; rfl
   rw [hbad];simp only [h1, uG, grd, if_true, yT, ye, if_false]
  ·have h2 := h1;simp only [yv, yf, not_or, Int.not_le, Int.not_lt] at h2;obtain ⟨c, hcx⟩ := zbf h2.1 h2.2;simp only [yz] at h1;unfold badR;simp only [h1, hcx, uj, yj, grd, if_true, yg, zb (i := i) (by omega)];cases c.kind != 0 <;> simp
 ·simp only [ze.l1, zaw, ye, if_false, ha, hb, hst, ya];exact znG hA hB hc (by omega) hr hn
inductive Weaker : List Row → List Row → Prop
 | nil : Weaker [] []
 | cons {r s : Row} {R S : List Row} : r.terms = s.terms → r.bound ≤ s.bound → Weaker R S → Weaker (r :: R) (s :: S)
theorem znb {n : Nat} {l : List Int} (hl : l.length < 1000000) (hn : 1000000 ≤ n) : zbY n l l = some true := by
 unfold zbY;rw [if_neg (by simp)];have := zI (body := zbY.l1 n l l) (len := l.length) (st := fun i => (i : Int)) (g := fun _ => some true) (fun rec i hi hr => ?_) (fun rec => ?_) n 0 (yo _) (by omega)
 ·simpa using this
 ·simp only [zbY.l1, zi hi, if_true, za hi, ya, uD, ye, if_false, zb (i := i) (by omega), hr]
 ·simp [zbY.l1]
theorem zl7 {n : Nat} {l : List Range} (hl : l.length < 1000000) (hn : 1000000 ≤ n) : zcx n l l = some true := by
 unfold zcx;rw [if_neg (by simp)];have := zI (body := zcx.l1 n l l) (len := l.length) (st := fun i => (i : Int)) (g := fun _ => some true) (fun rec i hi hr => ?_) (fun rec => ?_) n 0 (yo _) (by omega)
 ·simpa using this
 ·simp only [zcx.l1, zi hi, if_true, za hi, ya, decide_true, yT, ye, if_false, zb (i := i) (by omega), hr]
 ·simp [zcx.l1]
theorem zmQ {n : Nat} {r : Row} (hl : r.terms.length < 1000000) (hn : 1000000 ≤ n) : zbu n r r = some true := by
 unfold zbu;rw [if_neg (by simp)];have := zI (body := zbu.l1 n r r) (len := r.terms.length) (st := fun i => (i : Int)) (g := fun _ => some true) (fun rec i hi hr => ?_) (fun rec => ?_) n 0 (yo _) (by omega)
 ·simpa using this
 ·simp only [zbu.l1, zi hi, if_true, za hi, ya, decide_true, yT, ye, if_false, zb (i := i) (by omega), hr]
 ·simp [zbu.l1]
theorem zlY {n : Nat} {R : List Row} (hR : zkJ R) (hn : 1000000 ≤ n) : zbC n R R = some true := by
 have hl := hR.1;unfold zbC;rw [if_neg (by simp)];have := zI (body := zbC.l1 n R R) (len := R.length) (st := fun i => (i : Int)) (g := fun _ => some true) (fun rec i hi hr => ?_) (fun rec => ?_) n 0 (yo _) (by omega)
 ·simpa using this
 ·simp only [zbC.l1, zi hi, if_true, za hi, ya, yj, yg, zmQ (hR.2 _ (yk hi)) hn, yr, grd, uD, yT, Bool.or_self, ye, if_false, zb (i := i) (by omega), hr]
 ·simp [zbC.l1]
theorem zln {n : Nat} {box : List Range} {R : List Row} {G : List Graph} {cs : List (List Row)} (hb : box.length ≤ 1000) (hS : SysOK R G cs) (hn : 1000000 ≤ n) : zaR n ⟨box, R, G, cs⟩ ⟨box, R, G, cs⟩ = some true := by
 have hgl := hS.graphs.1;have hcl := hS.cases.1;unfold zaR;simp only [zl7 (n := n) (show box.length < 1000000 by omega) hn, zlY hS.rows hn, ya, yj, yg, yr, grd, if_true, yT, uD, Bool.or_self, ye, if_false];have := zI (body := zaR.l1 n ⟨box, R, G, cs⟩ ⟨box, R, G, cs⟩) (len := G.length) (st := fun i => (i : Int)) (g := fun _ => some true) (fun rec i hi hr => ?_) (fun rec => ?_) n 0 (yo _) (by omega)
 ·simpa using this
 ·simp only [zaR.l1, zi hi, if_true, za hi, ya, yj, yg, znb (hS.graphs.2 _ (yk hi)) hn, yr, grd, uD, yT, Bool.or_self, ye, if_false, zb (i := i) (by omega), hr]
 ·simp only [zaR.l1, zaw, ye, if_false];have := zI (body := zaR.l2 n ⟨box, R, G, cs⟩ ⟨box, R, G, cs⟩) (len := cs.length) (st := fun i => (i : Int)) (g := fun _ => some true) (fun rec i hi hr => ?_) (fun rec => ?_) n 0 (yo _) (by omega)
  ·simpa using this
  ·simp only [zaR.l2, zi hi, if_true, za hi, ya, zlY (hS.cases.2 _ (yk hi)) hn, yT, ye, if_false, zb (i := i) (by omega), hr]
  ·simp [zaR.l2]
theorem zml {n : Nat} {m : Model} {q : Question} {rows : List Int} {a b : Action} (hl : m.constraints.length ≤ 60) (hc : ∀ c ∈ m.constraints, c.row.terms.length ≤ 1000) : (rowsR n m q rows a b).length ≤ 60 ∧ ∀ r ∈ rowsR n m q rows a b, r.terms.length ≤ 1000 := by
 unfold rowsR;constructor
 ·have : ∀ k, ((List.range k).flatMap fun i => rowS n q rows a b i (m.constraints.getD i default)).length ≤ k := by
   intro k
   induction k with
   | zero => simp
   | succ k ih =>
    rw [zkA, yI];have : (rowS n q rows a b k (m.constraints.getD k default)).length ≤ 1 := by unfold rowS; split <;> simp
    omega
  have := this m.constraints.length;omega
 ·intro r hr;obtain ⟨i, hi, hri⟩ := uB.1 hr;have hi := uc.1 hi;have e : m.constraints.getD i default = m.constraints[i] := by simp [List.getD, hi]
  rw [e] at hri;unfold rowS at hri;split at hri
  ·simp at hri
  ·simp at hri; subst hri; exact hc _ (yk hi)
theorem znd {m : Model} (hS : SmallM m) {a : Action} (ha : a ∈ m.actions) : ActOK a := by
 obtain ⟨-, h1, h2, -, h4⟩ := hS.act a ha;exact ⟨h1, h2, fun r hr => by have := h4 r hr; omega⟩
theorem zo3 {m : Model} (hS : SmallM m) (hV : ValidM m) {c : Constraint} (hc : c ∈ m.constraints) : ConOK (boxM m).length c := by
 have hl := hS.con c hc;rcases zo2 hS hV hc with ⟨h1, -, -, -⟩ | ⟨s, h1, h2, h3, h4, h5, h6⟩
 ·exact ⟨.inl h1, by omega, fun h => by omega⟩
 ·exact ⟨.inr h1, by omega, fun _ => ⟨s, h2, h3, h4, h5, h6⟩⟩
theorem znZ {R X : List Row} {G : List Graph} {cs : List (List Row)} (hR : R.length ≤ 60 ∧ ∀ r ∈ R, r.terms.length ≤ 1000) (hX : X.length ≤ 30 ∧ ∀ r ∈ X, r.terms.length ≤ 1000) (hG : G.length ≤ 3000 ∧ ∀ g ∈ G, g.least.length ≤ 36) (hc : zhN cs) : SysOK (R ++ X) G cs := by
 refine ⟨⟨by rw [yI]; omega, fun r hr => ?_⟩, ⟨by omega, fun g hg => by have := hG.2 g hg; omega⟩, ⟨by have := hc.1; omega, fun rows hrows => ?_⟩⟩
 ·rcases yC.1 hr with hr | hr
  ·have := hR.2 r hr; omega
  ·have := hX.2 r hr; omega
 ·obtain ⟨h1, h2⟩ := hc.2 rows hrows;exact ⟨by omega, fun r hr => by have := h2 r hr; omega⟩
section
variable (E : Nat → Nat → Bool) (K : Nat)
def fstN (l : List Int) : Nat := (l.headD 0).toNat
def lstN (l : List Int) : Nat := (l.getLastD 0).toNat
def zeJ (l : List Int) : Bool := E (lstN l) (fstN l)
def ext1 (l : List Int) (i : Nat) : List (List Int) := if (E (lstN l) (fstN l + 1 + i) && !decide (((fstN l + 1 + i : Nat) : Int) ∈ l)) = true then [l ++ [((fstN l + 1 + i : Nat) : Int)]] else []
def ext (l : List Int) : List (List Int) := (List.range (K - (fstN l + 1))).flatMap (ext1 E l)
def dfs : Nat → List Int → List (List Int)
 | 0, _ => []
 | d + 1, l => (if zeJ E l = true then [l] else []) ++ (ext E K l).flatMap (dfs d)
def lev : Nat → List (List Int) → List (List Int)
 | 0, ls => ls
 | r + 1, ls => lev r (ls.flatMap (ext E K))
theorem zmD : ∀ (r : Nat) (ls : List (List Int)), lev E K (r + 1) ls = (lev E K r ls).flatMap (ext E K)
 | 0, _ => rfl
 | r + 1, ls => zmD r (ls.flatMap (ext E K))
theorem zfs {α β : Type} (f g : α → List β) : ∀ l : List α, (l.flatMap fun x => f x ++ g x).Perm (l.flatMap f ++ l.flatMap g)
 | [] => by simp
 | x :: l => by
  simp only [um, yE];refine .append_left _ ?_;exact ((zfs f g l).append_left _).trans (List.perm_append_comm_assoc _ _ _)
theorem zhX {α : Type} (p : α → Bool) : ∀ l : List α, (l.flatMap fun x => if p x = true then [x] else []) = l.filter p
 | [] => rfl
 | x :: l => by rw [um, zhX p l, List.filter_cons]; split <;> rfl
theorem zmt : ∀ (d : Nat) (ls : List (List Int)), (ls.flatMap (dfs E K d)).Perm ((List.range d).flatMap fun r => (lev E K r ls).filter (zeJ E))
 | 0, ls => by
  have : (ls.flatMap (dfs E K 0)) = [] := List.flatMap_eq_nil_iff.2 fun _ _ => rfl
  rw [this]; exact .refl _
 | d + 1, ls => by
  have e : ls.flatMap (dfs E K (d + 1)) = ls.flatMap fun l => (if zeJ E l = true then [l] else []) ++ (ext E K l).flatMap (dfs E K d) := rfl
  rw [e, List.range_succ_eq_map, um, List.flatMap_map];refine (zfs _ _ ls).trans ?_;rw [zhX];refine .append_left _ ?_;have := zmt d (ls.flatMap (ext E K));rw [List.flatMap_assoc] at this;exact this
theorem zir : ∀ (l x y : List Int), lexP (l ++ x) (l ++ y) = lexP x y
 | [], _, _ => rfl
 | a :: l, x, y => by simp only [yZ, lexP]; rw [if_neg (by omega), if_neg (by omega)]; exact zir l x y
theorem zkx : ∀ {l m : List Int} (x y : List Int), l.length = m.length → lexP l m < 0 → lexP (l ++ x) (m ++ y) < 0
 | [], [], _, _, _, h => by simp [lexP] at h
 | [], _ :: _, _, _, h, _ => by simp at h
 | _ :: _, [], _, _, h, _ => by simp at h
 | a :: l, b :: m, x, y, hl, h => by
  simp only [yZ, lexP] at h ⊢;split
  ·omega
  ·rename_i h1;rw [if_neg h1] at h;split
   ·rename_i h2; rw [if_pos h2] at h; omega
   ·rename_i h2;rw [if_neg h2] at h;exact zkx x y (by simpa using hl) h
theorem zk5 {l x : List Int} {i : Nat} (h : x ∈ ext1 E l i) : E (lstN l) (fstN l + 1 + i) = true ∧ ((fstN l + 1 + i : Nat) : Int) ∉ l ∧ x = l ++ [((fstN l + 1 + i : Nat) : Int)] := by
 unfold ext1 at h;split at h
 ·rename_i hc;simp only [yc, yG, yH] at hc;exact ⟨hc.1, hc.2, by simpa using h⟩
 ·simp at h
theorem zjs {l x : List Int} (h : x ∈ ext E K l) : ∃ i, i < K - (fstN l + 1) ∧ E (lstN l) (fstN l + 1 + i) = true ∧ ((fstN l + 1 + i : Nat) : Int) ∉ l ∧ x = l ++ [((fstN l + 1 + i : Nat) : Int)] := by
 obtain ⟨i, hi, hx⟩ := uB.1 h;exact ⟨i, uc.1 hi, zk5 E hx⟩
theorem zpe (l : List Int) : (ext E K l).Pairwise fun x y => lexP x y < 0 := by
 unfold ext;rw [List.pairwise_flatMap];refine ⟨fun i _ => ?_, List.pairwise_lt_range.imp fun {i j} hij x hx y hy => ?_⟩
 ·unfold ext1; split <;> simp
 ·obtain ⟨-, -, rfl⟩ := zk5 E hx;obtain ⟨-, -, rfl⟩ := zk5 E hy;rw [zir];simp only [lexP];rw [if_pos (by omega)]; omega
theorem zmC : ∀ (r c : Nat) (ls : List (List Int)), (∀ l ∈ ls, l.length = c) → (ls.Pairwise fun x y => lexP x y < 0) → (∀ l ∈ lev E K r ls, l.length = c + r) ∧ (lev E K r ls).Pairwise fun x y => lexP x y < 0
 | 0, c, ls, h1, h2 => ⟨h1, h2⟩
 | r + 1, c, ls, h1, h2 => by
  have := zmC r (c + 1) (ls.flatMap (ext E K)) (fun x hx => ?_) ?_
  ·exact ⟨fun l hl => by rw [this.1 l hl]; omega, this.2⟩
  ·obtain ⟨l, hl, hx⟩ := uB.1 hx;obtain ⟨i, -, -, -, rfl⟩ := zjs E K hx;simp [h1 l hl]
  ·rw [List.pairwise_flatMap];refine ⟨fun l _ => zpe E K l, ?_⟩;refine List.Pairwise.imp_of_mem (fun {a b} ha hb hab x hx y hy => ?_) h2;obtain ⟨i, -, -, -, rfl⟩ := zjs E K hx;obtain ⟨j, -, -, -, rfl⟩ := zjs E K hy;exact zkx _ _ (by rw [h1 a ha, h1 b hb]) hab
theorem zni (x y : List Int) : cmpC x y < 0 ↔ (x.length < y.length ∨ (x.length = y.length ∧ lexP x y < 0)) := by
 unfold cmpC cmpI;by_cases e : (x.length : Int) < y.length
 ·simp [e]; omega
 ·by_cases e2 : (y.length : Int) < x.length
  ·simp [e, e2]; omega
  ·simp [e, e2]; omega
theorem zo1 (d c : Nat) (ls : List (List Int)) (h1 : ∀ l ∈ ls, l.length = c) (h2 : ls.Pairwise fun x y => lexP x y < 0) : ((List.range d).flatMap fun r => (lev E K r ls).filter (zeJ E)).Pairwise fun x y => cmpC x y < 0 := by
 rw [List.pairwise_flatMap];refine ⟨fun r _ => ?_, List.pairwise_lt_range.imp fun {i j} hij x hx y hy => ?_⟩
 ·have := zmC E K r c ls h1 h2;refine List.Pairwise.imp_of_mem (fun {a b} ha hb hab => ?_) (this.2.filter (zeJ E));rw [zni];exact .inr ⟨by rw [this.1 a (List.mem_filter.1 ha).1, this.1 b (List.mem_filter.1 hb).1], hab⟩
 ·have hi := (zmC E K i c ls h1 h2).1 x (List.mem_filter.1 hx).1;have hj := (zmC E K j c ls h1 h2).1 y (List.mem_filter.1 hy).1;rw [zni];exact .inl (by omega)
end
theorem zlF {α : Type} {R : α → α → Prop} (hanti : ∀ a b, R a b → R b a → a = b) : ∀ {l m : List α}, l.Perm m → l.Pairwise R → m.Pairwise R → l = m
 | [], m, h, _, _ => by simpa using h.length_eq.symm
 | a :: l, [], h, _, _ => by simpa using h.length_eq
 | a :: l, b :: m, h, h1, h2 => by
  have e : a = b := by
   rw [uM] at h1 h2;have ha := h.mem_iff.1 (List.mem_cons_self (a := a) (l := l));have hb := h.mem_iff.2 (List.mem_cons_self (a := b) (l := m));rcases yM.1 ha with ha | ha
   ·exact ha
   ·rcases yM.1 hb with hb | hb
    ·exact hb.symm
    ·exact hanti _ _ (h1.1 b hb) (h2.1 a ha)
  subst e;rw [zlF hanti ((List.perm_cons a).1 h) (uM.1 h1).2 (uM.1 h2).2]
def ones (K : Nat) : List (List Int) := (List.range K).map fun (i : Nat) => [(i : Int)]
theorem znA (K : Nat) : (∀ l ∈ ones K, l.length = 1) ∧ (ones K).Pairwise fun x y => lexP x y < 0 := by
 unfold ones;refine ⟨fun l hl => ?_, ?_⟩
 ·obtain ⟨i, -, rfl⟩ := yY.1 hl; rfl
 ·rw [List.pairwise_map];refine List.pairwise_lt_range.imp fun {i j} hij => ?_
  simp only [lexP];rw [if_pos (by omega)]; omega
def cycP (E : Nat → Nat → Bool) (K : Nat) : List (List Int) := (List.range K).flatMap fun r => (lev E K r (ones K)).filter (zeJ E)
theorem zdj {α β : Type} {f : α → List β} {B : Nat} : ∀ {l : List α}, (∀ x ∈ l, (f x).length ≤ B) → (l.flatMap f).length ≤ l.length * B
 | [], _ => by simp
 | x :: l, h => by
  have h1 := h x (by simp);have h2 := zdj (l := l) fun y hy => h y (by simp [hy])
  simp only [um, yI, yP, ui];omega
theorem zmc {E : Nat → Nat → Bool} {K : Nat} (hK : K ≤ 6) (l : List Int) : (ext E K l).length ≤ 6 := by
 have := zdj (f := ext1 E l) (B := 1) (l := List.range (K - (fstN l + 1))) fun i _ => by unfold ext1; split <;> simp
 unfold ext;rw [List.length_range] at this;omega
theorem zkT {E : Nat → Nat → Bool} {K : Nat} (hK : K ≤ 6) : ∀ (d : Nat) (l : List Int), (dfs E K d l).length ≤ 7 ^ d
 | 0, _ => by simp [dfs]
 | d + 1, l => by
  have h1 := zmc (E := E) hK l;have h2 := zdj (f := dfs E K d) (B := 7 ^ d) (l := ext E K l) fun x _ => zkT hK d x
  have h3 : (ext E K l).length * 7 ^ d ≤ 6 * 7 ^ d := yK _ h1;have h4 : 1 ≤ 7 ^ d := Nat.one_le_pow _ _ (by omega);simp only [dfs, yI, uO];have h5 : (if zeJ E l = true then [l] else []).length ≤ 1 := by split <;> simp
  omega
structure PathL (K : Nat) (l : List Int) : Prop where
 nd : l.Nodup
 pos : 1 ≤ l.length
 mem : ∀ x ∈ l, 0 ≤ x ∧ x < (K : Int)
theorem PathL.len {K : Nat} {l : List Int} (h : PathL K l) : l.length ≤ K := ziT h.nd h.mem
theorem PathL.snoc {K : Nat} {l : List Int} (h : PathL K l) {b : Nat} (hb : b < K) (hm : (b : Int) ∉ l) : PathL K (l ++ [(b : Int)]) := by
 refine ⟨?_, by simp, fun x hx => ?_⟩
 ·rw [List.nodup_append];exact ⟨h.nd, by simp, fun a ha b' hb' e => by simp at hb'; subst hb'; subst e; exact hm ha⟩
 ·rcases yC.1 hx with hx | hx
  ·exact h.mem x hx
  ·simp at hx; subst hx; omega
theorem PathL.fst {K : Nat} {l : List Int} (h : PathL K l) : idx l 0 = some ((fstN l : Nat) : Int) ∧ fstN l < K := by
 cases l with
 | nil => have := h.pos; simp at this
 | cons x t =>
  have := h.mem x (by simp);have e : fstN (x :: t) = x.toNat := rfl;rw [e];refine ⟨?_, by omega⟩;have : idx (x :: t) 0 = some x := rfl;rw [this]; congr 1; omega
theorem PathL.lst {K : Nat} {l : List Int} (h : PathL K l) (h6 : K ≤ 6) : idx l (sub64 (l.length : Int) 1) = some ((lstN l : Nat) : Int) ∧ lstN l < K := by
 have hp := h.pos;have hK := h.len;have hi : l.length - 1 < l.length := by omega
 have hm := h.mem _ (yk hi);have e : l.getLastD 0 = l[l.length - 1] := by
  rw [List.getLastD_eq_getLast?, List.getLast?_eq_getElem?, yB hi]; rfl
 have e2 : lstN l = l[l.length - 1].toNat := by unfold lstN; rw [e]
 refine ⟨?_, by omega⟩;rw [zgc (by omega) (by omega), za hi, e2]; congr 1; omega
theorem zn2 {n : Nat} {g : DGraph} {K : Nat} (hg : GraphOK g K) (hn : 1000000 ≤ n) : ∀ (d k : Nat) (l : List Int) (out : List (List Int)), PathL K l → K - l.length = d → d < k → out.length ≤ 1000000 - 7 ^ (d + 1) → d ≤ 5 →
  zw n g k l out = some (out ++ dfs (hasP g) K (d + 1) l) := by
 intro d
 induction d using Nat.strongRecOn with
 | ind d ih =>
  intro k l out hp hd hk ho hd5;obtain ⟨k, rfl⟩ : ∃ k', k = k' + 1 := ⟨k - 1, by omega⟩
  have hK := hg.le;have hl1 := hp.pos;have hl2 := hp.len;have hp7 : 7 ≤ 7 ^ (d + 1) := Nat.le_self_pow (by omega) 7;obtain ⟨e2, hfK⟩ := hp.fst;obtain ⟨e1, hlK⟩ := hp.lst hK;have h7 : 7 ^ (d + 1) = 7 * 7 ^ d := by rw [uO]; omega
  have hone : 1 ≤ 7 ^ d := Nat.one_le_pow _ _ (by omega);have h77 : 7 ^ (d + 1) ≤ 117649 := by
   have : 7 ^ (d + 1) ≤ 7 ^ 6 := uv (by omega) (by omega);simpa using this
  simp only [zw, e1, e2, ya, zlw hg hlK hfK];have loop : ∀ out1 : List (List Int), out1.length ≤ out.length + 1 → loopF (zw.l1 n g (zw n g k) l ((lstN l : Nat) : Int)) n (add64 ((fstN l : Nat) : Int) 1, out1) = some (out1 ++ (ext (hasP g) K l).flatMap (dfs (hasP g) K d)) := by
   intro out1 ho1;rw [zb (by omega)];have := zcm (body := zw.l1 n g (zw n g k) l ((lstN l : Nat) : Int)) (k := K - (fstN l + 1)) (n := n) (st := fun (o : List (List Int)) i => (((fstN l + 1 + i : Nat) : Int), o)) (fun i => (ext1 (hasP g) l i).flatMap (dfs (hasP g) K d)) some (7 ^ d) out1
    (fun i hi => ?_) (fun rec o i hi hI => ?_) (fun rec o hI => ?_) (by omega)
   ·simp only [un] at this;rw [this];unfold ext;rw [List.flatMap_assoc]
   ·have h1 := zdj (f := dfs (hasP g) K d) (B := 7 ^ d) (l := ext1 (hasP g) l i) fun x _ => zkT hK d x
    have h2 : (ext1 (hasP g) l i).length ≤ 1 := by unfold ext1; split <;> simp
    have h3 : (ext1 (hasP g) l i).length * 7 ^ d ≤ 1 * 7 ^ d := yK _ h2;omega
   ·have hb : fstN l + 1 + i < K := by omega
    have hlt : decide (((fstN l + 1 + i : Nat) : Int) < g.size) = true := by rw [hg.size]; simp; omega
    have hnx : add64 ((fstN l + 1 + i : Nat) : Int) 1 = ((fstN l + 1 + (i + 1) : Nat) : Int) := by rw [zb (by omega)]; rfl
    simp only [zw.l1, hlt, if_true, zlw hg hlK hb, ya, hnx];unfold ext1;by_cases hh : hasP g (lstN l) (fstN l + 1 + i) = true
    ·rw [if_pos hh, zdA (by omega) hn, ya];by_cases hm : ((fstN l + 1 + i : Nat) : Int) ∈ l
     ·rw [if_pos (by simpa using hm), if_neg (by simp only [hm, decide_true, yT, Bool.and_false]; simp)];simp
     ·rw [if_neg (by simpa using hm), zp (by simp; omega), ya, yS, zp (by simp; omega), ya, if_pos (by simp only [hh, hm, decide_false, uA, uL])];have hp2 := hp.snoc hb hm;have hlen := hp2.len;simp only [yI, yP, ur] at hlen;have hd1 : 1 ≤ d := by omega
      have h6 : i * 7 ^ d ≤ 5 * 7 ^ d := yK _ (by omega);have := ih (d - 1) (by omega) k (l ++ [((fstN l + 1 + i : Nat) : Int)]) o hp2 (by simp; omega) (by omega) (by rw [show d - 1 + 1 = d by omega]; omega) (by omega);rw [show d - 1 + 1 = d by omega] at this;rw [this, ya];simp
    ·rw [if_neg hh, if_neg (by simp only [yz] at hh; simp [hh])];simp
   ·have hge : decide (((fstN l + 1 + (K - (fstN l + 1)) : Nat) : Int) < g.size) = false := by rw [hg.size]; simp; omega
    simp only [zw.l1, hge, ye, if_false]
  have hcl : zeJ (hasP g) l = hasP g (lstN l) (fstN l) := rfl;simp only [dfs, hcl];by_cases hh : hasP g (lstN l) (fstN l) = true
  ·rw [if_pos hh, if_pos hh, zp (by simp; omega), ya, yS, zp (by simp; omega), ya, loop _ (by simp), yE]
  ·rw [if_neg hh, if_neg hh, loop _ (by omega), yS]
theorem znl {n : Nat} {g : DGraph} {K : Nat} (hg : GraphOK g K) (hn : 1000000 ≤ n) : loopF (digraph_cycles.l1 n g) n (0, []) = some ((ones K).flatMap (dfs (hasP g) K K)) := by
 have hK := hg.le;have hd : 7 ^ K ≤ 117649 := by
  have : 7 ^ K ≤ 7 ^ 6 := uv (by omega) (by omega);simpa using this
 have := zcm (body := digraph_cycles.l1 n g) (k := K) (n := n) (st := fun (o : List (List Int)) i => ((i : Int), o)) (fun i => dfs (hasP g) K K [(i : Int)]) some 117649 []
  (fun i hi => ud (zkT hK K _) hd) (fun rec o i hi hI => ?_) (fun rec o hI => ?_) (by omega)
 ·rw [ones, List.flatMap_map];simpa using this
 ·have hlt : decide ((i : Int) < g.size) = true := by rw [hg.size]; simp; omega
  have h5 : i * 117649 ≤ 5 * 117649 := yK _ (by omega);have hv := zn2 hg hn (K - 1) n [(i : Int)] o ⟨by simp, by simp, by simp; omega⟩ (by simp) (by omega) (by rw [show K - 1 + 1 = K by omega]; simp at hI; omega) (by omega);rw [show K - 1 + 1 = K by omega] at hv;simp only [digraph_cycles.l1, hlt, if_true, hv, ya];rw [zb (by omega)]
 ·have hge : decide ((K : Int) < g.size) = false := by rw [hg.size]; simp
  simp only [digraph_cycles.l1, hge, ye, if_false]
theorem znw {E : Nat → Nat → Bool} {K : Nat} : ∀ (d : Nat) {l x : List Int}, PathL K l → x ∈ dfs E K d l → PathL K x
 | 0, _, _, _, h => by simp [dfs] at h
 | d + 1, l, x, hp, h => by
  simp only [dfs, yC, uB] at h;rcases h with h | ⟨y, hy, hx⟩
  ·split at h
   ·simp at h; subst h; exact hp
   ·simp at h
  ·obtain ⟨i, hi, -, hm, rfl⟩ := zjs E K hy;exact znw d (hp.snoc (by omega) hm) hx
theorem zmG {K i : Nat} (hi : i < K) : PathL K [(i : Int)] := ⟨by simp, by simp, by simp; omega⟩
theorem zhV {n : Nat} {edges : List Bool} {K : Nat} (h1 : 1 ≤ K) (h6 : K ≤ 6) (hl : edges.length = K * K) (hn : 1000000 ≤ n) : zbl n (K : Int) edges = some (cycP (hasP ⟨(K : Int), edges⟩) K) := by
 have hg : GraphOK ⟨(K : Int), edges⟩ K := ⟨rfl, h6, hl⟩
 have h4 : K * K ≤ 36 := uu h6 h6;have e : mul64 (K : Int) (K : Int) = ((K * K : Nat) : Int) := by
  unfold mul64;rw [zcY (by rw [← y8]; omega) (by rw [← y8]; omega)]; simp
 have hopen : zcV n (K : Int) edges = some (⟨(K : Int), edges⟩, true) := by
  unfold zcV;rw [e, hl];simp; omega
 have hd : 7 ^ K ≤ 117649 := by
  have : 7 ^ K ≤ 7 ^ 6 := uv (by omega) (by omega);simpa using this
 unfold zbl;rw [hopen, ya, if_neg (by simp), znl hg hn, ya];have hmem : ∀ x ∈ (ones K).flatMap (dfs (hasP ⟨(K : Int), edges⟩) K K), PathL K x := fun x hx => by
  obtain ⟨l, hl, hx⟩ := uB.1 hx;obtain ⟨i, hi, rfl⟩ := yY.1 hl;exact znw K (zmG (uc.1 hi)) hx
 have hlen : ((ones K).flatMap (dfs (hasP ⟨(K : Int), edges⟩) K K)).length ≤ 6 * 117649 := by
  have := zdj (f := dfs (hasP ⟨(K : Int), edges⟩) K K) (B := 117649) (l := ones K) fun x _ => ud (zkT h6 K x) hd
  have e : (ones K).length = K := by simp [ones]
  rw [e] at this;exact ud this (yK _ h6)
 obtain ⟨s1, s2⟩ := zmL (f := zbU n) (c := cmpC) (l := (ones K).flatMap (dfs (hasP ⟨(K : Int), edges⟩) K K)) (fun x hx y _ => zhT (by have := (hmem x hx).len; omega) hn) (fun x => by have := ze8 x x; omega) (fun _ _ _ => zhS) (fun _ _ _ => zi6) (by omega);rw [s1];refine congrArg some ?_;have hp := zia s2;have hs := zl0 s2;refine zlF (R := fun x y => ¬ cmpC y x < 0) (fun a b h1 h2 => ?_) (hp.trans (zmt _ K K (ones K))) ?_ ?_
 ·have := ze8 a b;exact zi7 (by omega)
 ·refine List.Pairwise.imp_of_mem (fun {a b} ha hb hab => ?_) hs;have ha' := hmem a (hp.mem_iff.1 ha);have hb' := hmem b (hp.mem_iff.1 hb);rw [zhT (by have := hb'.len; omega) hn] at hab;exact hab
 ·refine (zo1 _ K K 1 (ones K) (znA K).1 (znA K).2).imp fun {a b} h => ?_
  have := ze8 a b;omega
theorem zm1 {γ δ S R : Type} {body : (S → Option R) → S → Option R} {k n : Nat} {st : List γ → List δ → Nat → S} (g : Nat → List γ) (h : Nat → List δ) (fin : List γ → List δ → Option R) (B : Nat) (b0 : List γ) (c0 : List δ) (hB : ∀ i, i < k → (g i).length ≤ B) (hC : ∀ i, i < k → (h i).length ≤ B)
  (step : ∀ rec (b : List γ) (c : List δ) i, i < k → b.length ≤ b0.length + i * B → c.length ≤ c0.length + i * B → body rec (st b c i) = rec (st (b ++ g i) (c ++ h i) (i + 1))) (done : ∀ rec (b : List γ) (c : List δ), b.length ≤ b0.length + k * B → c.length ≤ c0.length + k * B → body rec (st b c k) = fin b c) (hn : k < n) :
  loopF body n (st b0 c0 0) = fin (b0 ++ (List.range k).flatMap g) (c0 ++ (List.range k).flatMap h) := by
 have := zby (σ := List γ × List δ) (body := body) (len := k) (st := fun s i => st s.1 s.2 i) (g := fun i s => fin (s.1 ++ (List.range' i (k - i)).flatMap g) (s.2 ++ (List.range' i (k - i)).flatMap h)) (fun i s => s.1.length ≤ b0.length + i * B ∧ s.2.length ≤ c0.length + i * B) (fun rec i s hi hI hr => ?_) (fun rec s hI => ?_) n 0 (b0, c0) (yo _) (by omega) (by simp)
 ·simpa [List.range_eq_range'] using this
 ·have h1 := hB i hi;have h2 := hC i hi;rw [step rec s.1 s.2 i hi hI.1 hI.2, hr (s.1 ++ g i, s.2 ++ h i) ⟨by simp only [yI]; rw [ui]; omega, by simp only [yI]; rw [ui]; omega⟩];have : List.range' i (k - i) = i :: List.range' (i + 1) (k - (i + 1)) := by rw [show k - i = (k - (i + 1)) + 1 by omega, List.range'_succ]
  rw [this, um, um, yE, yE]
 ·rw [done rec s.1 s.2 hI.1 hI.2]; simp
theorem ziy {n : Nat} {l : List Int} {v : Int} (hl : l.length < 1000000) (hn : 1000000 ≤ n) : zbF n l v = some (decide (v ∈ l)) := by
 unfold zbF;have := zam (body := zbF.l1 n l v) (l := l) (n := n) (st := fun i => (i : Int)) (fun x => !(x == v)) (some true) (some false) (fun rec i hi => ?_) (fun rec => ?_) (by omega)
 ·rw [show loopF (zbF.l1 n l v) n 0 = loopF (zbF.l1 n l v) n ((0 : Nat) : Int) from rfl, this];by_cases hm : v ∈ l
  ·rw [if_neg (by simp only [yp, yG, y6]; exact fun h => h v hm rfl)]; simp [hm]
  ·rw [if_pos (by simp only [yp, yG, y6]; exact fun x hx e => hm (e ▸ hx))]; simp [hm]
 ·simp only [zbF.l1, zi hi, if_true, za hi, ya];rw [zb (i := i) (by omega)];cases l[i] == v <;> simp
 ·simp only [zbF.l1, zaw, ye, if_false]
theorem zle {n : Nat} {l : List Int} {v : Int} (hl : l.length < 1000000) (hn : 1000000 ≤ n) : zcy n l v = some (l ++ [v]) := by
 unfold zcy;have := zdZ (body := zcy.l1 n l v) (l := l) (n := n) (st := fun b i => (b, (i : Int))) (fun x : Int => x) (fun b => some (b ++ [v])) [] (fun rec b i hi hb => ?_) (fun rec b hb => ?_) (by omega)
 ·simpa using this
 ·simp only [zcy.l1, zi hi, if_true, za hi, ya];rw [zp (by simp at hb; simp; omega), ya, zb (by omega)]
 ·simp only [zcy.l1, zaw, ye, if_false];rw [zp (by simp at hb; simp; omega)]; rfl
theorem zmu {edges : List Bool} {K a b : Nat} (hg : GraphOK ⟨(K : Int), edges⟩ K) (ha : a < K) (hb : b < K) : idx edges (add64 (mul64 (a : Int) (K : Int)) (b : Int)) = some (hasP ⟨(K : Int), edges⟩ a b) := by
 have := zlw (n := 0) hg ha hb;unfold zaP at this;simpa using this
theorem zk0 {E : Nat → Nat → Bool} {K : Nat} : ∀ (r : Nat) {ls : List (List Int)}, (∀ l ∈ ls, PathL K l) → ∀ l ∈ lev E K r ls, PathL K l
 | 0, _, h => h
 | r + 1, ls, h => zk0 r fun x hx => by
  obtain ⟨l, hl, hx⟩ := uB.1 hx;obtain ⟨i, hi, -, hm, rfl⟩ := zjs E K hx;exact (h l hl).snoc (by omega) hm
theorem znt {E : Nat → Nat → Bool} {K : Nat} (h6 : K ≤ 6) : ∀ (r : Nat) (ls : List (List Int)), (lev E K r ls).length ≤ ls.length * 7 ^ r
 | 0, ls => by simp [lev]
 | r + 1, ls => by
  have h1 := znt (E := E) h6 r (ls.flatMap (ext E K));have h2 := zdj (f := ext E K) (B := 6) (l := ls) fun x _ => zmc h6 x
  have h3 : (ls.flatMap (ext E K)).length * 7 ^ r ≤ ls.length * 7 * 7 ^ r := yK _ (by omega);rw [uO, Nat.mul_comm (7 ^ r) 7, ← Nat.mul_assoc];exact ud h1 h3
theorem zlD {K : Nat} : ∀ l ∈ ones K, PathL K l := fun l hl => by
 obtain ⟨i, hi, rfl⟩ := yY.1 hl;exact zmG (uc.1 hi)
theorem zlt {α : Type} (p : α → Bool) (l : List α) (d : α) : (List.range l.length).flatMap (fun i => if p (l.getD i d) = true then [l.getD i d] else []) = l.filter p := by
 rw [← zhX p l];have e : l = (List.range l.length).map fun i => l.getD i d := by
  refine List.ext_getElem (by simp) fun i h1 h2 => ?_
  simp [uo, yB h1]
 conv => rhs; rw [e]
 rw [List.flatMap_map]
theorem zhY {α β : Type} (f : α → List β) (l : List α) (d : α) : (List.range l.length).flatMap (fun i => f (l.getD i d)) = l.flatMap f := by
 have e : l = (List.range l.length).map fun i => l.getD i d := by
  refine List.ext_getElem (by simp) fun i h1 h2 => ?_
  simp [uo, yB h1]
 conv => rhs; rw [e]
 rw [List.flatMap_map]
theorem zmh {n : Nat} {edges : List Bool} {K : Nat} (h6 : K ≤ 6) (hl : edges.length = K * K) (hn : 1000000 ≤ n) {ls out : List (List Int)} {r : Int} {rec : List (List Int) × List (List Int) × Int → Option (List (List Int))} (hp : ∀ l ∈ ls, PathL K l) (hlen : ls.length ≤ 800000) (ho : out.length ≤ 100000000) :
  loopF (zy.l3 n (K : Int) edges ls r rec) n (out, ([] : List (List Int)), 0) = rec (out ++ ls.filter (zeJ (hasP ⟨(K : Int), edges⟩)), ls.flatMap (ext (hasP ⟨(K : Int), edges⟩) K), add64 r 1) := by
 have hg : GraphOK ⟨(K : Int), edges⟩ K := ⟨rfl, h6, hl⟩
 have := zm1 (body := zy.l3 n (K : Int) edges ls r rec) (k := ls.length) (n := n) (st := fun b c i => (b, c, (i : Int))) (fun i => if zeJ (hasP ⟨(K : Int), edges⟩) (ls.getD i []) = true then [ls.getD i []] else []) (fun i => ext (hasP ⟨(K : Int), edges⟩) K (ls.getD i []))
  (fun b c => rec (b, c, add64 r 1)) 6 out [] (fun i _ => by split <;> simp) (fun i _ => zmc h6 _) (fun rec2 b c i hi hb hc => ?_) (fun rec2 b c hb hc => ?_) (by omega)
 ·rw [zlt, zhY] at this;simpa using this
 ·have e : ls.getD i [] = ls[i] := by simp [uo, hi]
  have hpl := hp _ (yk hi);obtain ⟨e2, hfK⟩ := hpl.fst;obtain ⟨e1, hlK⟩ := hpl.lst h6;have hlK6 := hpl.len;rw [e];have inner : ∀ b1 : List (List Int), loopF (zy.l4 n (K : Int) edges ls (i : Int) rec2 ((lstN ls[i] : Nat) : Int) b1) n (c, add64 ((fstN ls[i] : Nat) : Int) 1) = rec2 (b1, c ++ ext (hasP ⟨(K : Int), edges⟩) K ls[i], ((i + 1 : Nat) : Int)) := by
   intro b1;rw [zb (by omega)];have := zcm (body := zy.l4 n (K : Int) edges ls (i : Int) rec2 ((lstN ls[i] : Nat) : Int) b1) (k := K - (fstN ls[i] + 1)) (n := n) (st := fun (o : List (List Int)) j => (o, ((fstN ls[i] + 1 + j : Nat) : Int))) (fun j => ext1 (hasP ⟨(K : Int), edges⟩) ls[i] j) (fun o => rec2 (b1, o, add64 (i : Int) 1)) 1 c
    (fun j _ => by unfold ext1; split <;> simp) (fun rec3 o j hj hI => ?_) (fun rec3 o hI => ?_) (by omega)
   ·simp only [un] at this;rw [this, zb (i := i) (by omega)];rfl
   ·have hb : fstN ls[i] + 1 + j < K := by omega
    have hlt : decide (((fstN ls[i] + 1 + j : Nat) : Int) < (K : Int)) = true := by simp; omega
    have hnx : add64 ((fstN ls[i] + 1 + j : Nat) : Int) 1 = ((fstN ls[i] + 1 + (j + 1) : Nat) : Int) := by rw [zb (by omega)]; rfl
    simp only [zy.l4, hlt, if_true, jn, zmu hg hlK hb, za hi, ya, yj, yg, ziy (show ls[i].length < 1000000 by omega) hn, zle (show ls[i].length < 1000000 by omega) hn, yr, grd, hnx];unfold ext1;split
    ·rw [zp (by simp at hI hc; simp; omega), ya]
    ·simp
   ·have hge : decide (((fstN ls[i] + 1 + (K - (fstN ls[i] + 1)) : Nat) : Int) < (K : Int)) = false := by simp; omega
    simp only [zy.l4, hge, ye, if_false]
  have hcl : zeJ (hasP ⟨(K : Int), edges⟩) ls[i] = hasP ⟨(K : Int), edges⟩ (lstN ls[i]) (fstN ls[i]) := rfl;simp only [zy.l3, zi hi, if_true, jn, za hi, ya, e1, e2, zmu hg hlK hfK, hcl];split
  ·rw [zp (by simp; omega), ya, inner]
  ·rw [inner, y0]
 ·simp only [zy.l3, zaw, ye, if_false]
theorem zjG {n : Nat} {edges : List Bool} {K : Nat} (h1 : 1 ≤ K) (h6 : K ≤ 6) (hl : edges.length = K * K) (hn : 1000000 ≤ n) : zy n (K : Int) edges = some (cycP (hasP ⟨(K : Int), edges⟩) K) := by
 have h4 : K * K ≤ 36 := uu h6 h6;have e : mul64 (K : Int) (K : Int) = ((K * K : Nat) : Int) := by
  unfold mul64;rw [zcY (by rw [← y8]; omega) (by rw [← y8]; omega)]; simp
 have hv : zfm n (K : Int) edges = some true := by
  unfold zfm;rw [e, hl];simp; omega
 unfold zy;rw [hv, ya, if_neg (by simp)];have hones : (ones K).length = K := by simp [ones]
 have rounds : loopF (zy.l2 n (K : Int) edges) n (([] : List (List Int)), ones K, 0) = some (cycP (hasP ⟨(K : Int), edges⟩) K) := by
  have := zby (σ := List (List Int) × List (List Int)) (body := zy.l2 n (K : Int) edges) (len := K) (st := fun s i => (s.1, s.2, (i : Int))) (g := fun _ _ => some (cycP (hasP ⟨(K : Int), edges⟩) K))
   (fun i s => s.1 = (List.range i).flatMap (fun r => (lev (hasP ⟨(K : Int), edges⟩) K r (ones K)).filter (zeJ (hasP ⟨(K : Int), edges⟩))) ∧ s.2 = lev (hasP ⟨(K : Int), edges⟩) K i (ones K) ∧ s.1.length ≤ i * 800000) (fun rec i s hi hI hr => ?_) (fun rec s hI => ?_) n 0 ([], ones K) (yo _) (by omega) ⟨rfl, rfl, by simp⟩
  ·exact this
  ·obtain ⟨s1, s2⟩ := s;obtain ⟨i1, i2, i3⟩ := hI;simp only at i1 i2 i3;have hlen : s2.length ≤ 800000 := by
    have := znt (E := hasP ⟨(K : Int), edges⟩) h6 i (ones K);rw [hones] at this;have h7 : 7 ^ i ≤ 7 ^ 5 := uv (by omega) (by omega);have h8 : K * 7 ^ i ≤ 6 * 7 ^ 5 := uu h6 h7;rw [i2];simp only [Nat.reducePow, Nat.reduceMul] at h8;omega
   have hpath : ∀ l ∈ s2, PathL K l := by rw [i2]; exact zk0 i zlD
   simp only [zy.l2, zhq hi, if_true];rw [zmh h6 hl hn hpath hlen (by omega), zb (by omega)];refine hr (_, _) ⟨?_, ?_, ?_⟩
   ·simp only;rw [uJ, List.flatMap_append, ← i1, i2]; simp
   ·rw [zmD, ← i2]; rfl
   ·simp only [yI];have := List.length_filter_le (zeJ (hasP ⟨(K : Int), edges⟩)) s2;rw [ui]; omega
  ·obtain ⟨s1, s2⟩ := s;obtain ⟨i1, -, -⟩ := hI;simp only at i1;simp only [zy.l2, zft (yn K), ye, if_false];rw [i1]; rfl
 have := zcm (body := zy.l1 n (K : Int) edges) (k := K) (n := n) (st := fun (b : List (List Int)) i => (b, (i : Int))) (fun i => [[(i : Int)]]) (fun b => loopF (zy.l2 n (K : Int) edges) n (([] : List (List Int)), b, 0)) 1 []
  (fun i _ => by simp) (fun rec b i hi hb => ?_) (fun rec b hb => ?_) (by omega)
 ·have eo : (List.range K).flatMap (fun i : Nat => [[(i : Int)]]) = ones K := by
   unfold ones;rw [List.map_eq_flatMap]
  rw [eo, yS, rounds] at this;exact this
 ·simp only [zy.l1, zhq hi, if_true];rw [zp (by simp at hb; simp; omega), ya, zb (by omega)]
 ·simp only [zy.l1, zft (yn K), ye, if_false]
theorem zgV (a b c : Int) : add64 (add64 a b) c = add64 a (add64 b c) := by
 simp only [add64, w64, IntKind.wrap_i64]; omega
theorem znv (x y : Int) : add64 (add64 (-1) x) y = sub64 (add64 x y) 1 := by
 simp only [add64, sub64, w64, IntKind.wrap_i64]; omega
structure SameA (a : Action) : Prop where
 add : ∀ c, addP c a.effect.delta 0 = zac a.effect.delta c
 len : a.effect.delta.length ≤ 20
theorem SameA.Add {n : Nat} {a : Action} (h : SameA a) (hn : 1000000 ≤ n) (c : Int) : zaD n a.effect c = some (zac a.effect.delta c) := by
 have := h.len;rw [zeo c (by omega) (by omega), h.add]
theorem SameA.added {n : Nat} {a : Action} (h : SameA a) (hn : 1000000 ≤ n) (c : Int) : zC n a c = some (zac a.effect.delta c) := by
 have := h.len;exact z0 c (by omega) (by omega)
theorem zlA {S R : Type} {body : (S → Option R) → S → Option R} {k n : Nat} {st : List Row → Bool → Bool → Nat → S} (Rr : Nat → Row) (p q : Nat → Bool) (fin : List Row → Bool → Bool → Option R)
  (step : ∀ rec rows x y i, i < k → rows.length ≤ i → body rec (st rows x y i) = rec (st (rows ++ [Rr i]) (x || p i) (y || q i) (i + 1))) (done : ∀ rec rows x y, rows.length ≤ k → body rec (st rows x y k) = fin rows x y) (hn : k < n) :
  loopF body n (st [] false false 0) = fin ((List.range k).map Rr) ((List.range k).any p) ((List.range k).any q) := by
 have := zby (σ := List Row × Bool × Bool) (body := body) (len := k) (st := fun s i => st s.1 s.2.1 s.2.2 i) (g := fun _ _ => fin ((List.range k).map Rr) ((List.range k).any p) ((List.range k).any q)) (fun i s => s = ((List.range i).map Rr, (List.range i).any p, (List.range i).any q)) (fun rec i s hi hI hr => ?_) (fun rec s hI => ?_) n 0 ([], false, false) (yo _) (by omega) rfl
 ·exact this
 ·subst hI;rw [step rec _ _ _ i hi (by simp)];refine hr (_, _, _) ?_;simp only [uJ, uk, List.any_append, yQ, List.map_nil, uQ, List.any_nil, uP];cases (List.range i).any p <;> cases (List.range i).any q <;> rfl
 ·subst hI;rw [done rec _ _ _ (by simp)]
def zcQ (c : Constraint) (cyc : List Int) (i : Nat) : Int := add64 c.first (add64 (mul64 (cyc.getD i 0) c.size) (cyc.getD ((i + 1) % cyc.length) 0))
def zmb (A B : Int → Int) (c : Constraint) (cyc : List Int) (i : Nat) : Row := ⟨[⟨zcQ c cyc i, -1⟩], sub64 (add64 (A (zcQ c cyc i)) (B (zcQ c cyc i))) 1⟩
def zdV (A B : Int → Int) (c : Constraint) (cyc : List Int) : List (List Row) :=
 if ((List.range cyc.length).any (fun i => decide (0 < A (zcQ c cyc i))) && (List.range cyc.length).any (fun i => decide (0 < B (zcQ c cyc i)))) = true then [(List.range cyc.length).map (zmb A B c cyc)] else []
def zmq (A B : Int → Int) (box : List Range) (c : Constraint) (K : Nat) : List (List Row) :=
 (cycP (hasP ⟨(K : Int), (List.range (K * K)).map fun i : Nat => decide (1 ≤ add64 ((idx box (add64 c.first (i : Int))).getD default).hi (add64 (A (add64 c.first (i : Int))) (B (add64 c.first (i : Int)))))⟩) K).flatMap (zdV A B c)
theorem zms {K : Nat} {cyc : List Int} (hp : PathL K cyc) (h6 : K ≤ 6) {i : Nat} (hi : i < cyc.length) : ∃ r : Nat, rem64 (add64 (i : Int) 1) (cyc.length : Int) = some (r : Int) ∧ r < cyc.length ∧ r = (i + 1) % cyc.length := by
 have := hp.len;rw [zb (by omega)];refine ⟨(i + 1) % cyc.length, ?_, Nat.mod_lt _ (by omega), rfl⟩;unfold rem64;rw [if_neg (by omega)];congr 1
theorem zkU {l : List Int} {i : Nat} (hi : i < l.length) : l.getD i 0 = l[i] := by simp [uo, hi]
section
variable {n : Nat} {c : Constraint} {a b : Action} {K : Nat} (ha : SameA a) (hb : SameA b) (h6 : K ≤ 6) (hn : 1000000 ≤ n)
include ha hb h6 hn
theorem znf {cyc : List Int} {b1 : List (List Row)} {k : List (List Row) → Option (List (List Row))} (hp : PathL K cyc) (hb1 : b1.length ≤ 1000000) :
  loopF (zf.l3 n c a b b1 k cyc) n (([] : List Row), false, false, 0) = k (b1 ++ zdV (zac a.effect.delta) (zac b.effect.delta) c cyc) := by
 have hlen := hp.len;have := zlA (body := zf.l3 n c a b b1 k cyc) (k := cyc.length) (n := n) (st := fun rows x y i => (rows, x, y, (i : Int))) (zmb (zac a.effect.delta) (zac b.effect.delta) c cyc) (fun i => decide (0 < zac a.effect.delta (zcQ c cyc i))) (fun i => decide (0 < zac b.effect.delta (zcQ c cyc i)))
  (fun rows x y => if (x && y) = true then k (b1 ++ [rows]) else k b1) (fun rec rows x y i hi hr => ?_) (fun rec rows x y hr => ?_) (by omega)
 ·unfold zdV;refine this.trans ?_;split
  ·rfl
  ·rw [y0]
 ·obtain ⟨r, hr1, hr2, hr3⟩ := zms hp h6 hi;have hcell : add64 c.first (add64 (mul64 cyc[i] c.size) cyc[r]) = zcQ c cyc i := by
   unfold zcQ; rw [zkU hi, ← hr3, zkU hr2]
  have h1 : zaF n (add64 (mul64 cyc[i] c.size) cyc[r]) a c b = some (add64 (zac a.effect.delta (zcQ c cyc i)) (zac b.effect.delta (zcQ c cyc i))) := by
   unfold zaF;rw [hcell, ha.added hn, ya, hb.added hn, ya]
  simp only [zf.l3, zi hi, if_true, za hi, ya, hr1, za hr2, hcell, ha.added hn, hb.added hn, h1, yj, yg, yr, grd];rw [zp (by simp; omega), ya, zb (by omega)];rfl
 ·simp only [zf.l3, zaw, ye, if_false];split
  ·rw [zp (by simp; omega), ya]
  ·rfl
theorem zm2 {cs : List (List Int)} {j : Nat} (hj : j < cs.length) {b1 : List (List Row)} {k : List (List Row) → Option (List (List Row))} (hp : PathL K cs[j]) (hb1 : b1.length ≤ 1000000) :
  loopF (zX.l3 n c a.effect b.effect cs b1 (j : Int) k) n (([] : List Row), false, false, 0) = k (b1 ++ zdV (zac a.effect.delta) (zac b.effect.delta) c cs[j]) := by
 have hlen := hp.len;have := zlA (body := zX.l3 n c a.effect b.effect cs b1 (j : Int) k) (k := cs[j].length) (n := n) (st := fun rows x y i => (rows, x, y, (i : Int))) (zmb (zac a.effect.delta) (zac b.effect.delta) c cs[j]) (fun i => decide (0 < zac a.effect.delta (zcQ c cs[j] i))) (fun i => decide (0 < zac b.effect.delta (zcQ c cs[j] i)))
  (fun rows x y => if (x && y) = true then k (b1 ++ [rows]) else k b1) (fun rec rows x y i hi hr => ?_) (fun rec rows x y hr => ?_) (by omega)
 ·unfold zdV;refine this.trans ?_;split
  ·rfl
  ·rw [y0]
 ·obtain ⟨r, hr1, hr2, hr3⟩ := zms hp h6 hi;have hcell : add64 (add64 c.first (mul64 cs[j][i] c.size)) cs[j][r] = zcQ c cs[j] i := by
   rw [zgV];unfold zcQ; rw [zkU hi, ← hr3, zkU hr2]
  simp only [zX.l3, za hj, zi hi, if_true, za hi, ya, hr1, za hr2, hcell, ha.Add hn, hb.Add hn, yj, yg, yr, grd, znv];rw [zp (by simp; omega), ya, zb (by omega)];rfl
 ·simp only [zX.l3, za hj, ya, zaw, ye, if_false];split
  ·rw [zp (by simp; omega), ya]
  ·rfl
theorem zmT {box : List Range} (hs : c.size = (K : Int)) (h1 : 1 ≤ K) (h0 : 0 ≤ c.first) (hbx : c.first + ((K * K : Nat) : Int) ≤ (box.length : Int)) (hbl : box.length ≤ 1000) :
  zf n box c a b = some (zmq (zac a.effect.delta) (zac b.effect.delta) box c K) ∧ zX n box c a.effect b.effect = some (zmq (zac a.effect.delta) (zac b.effect.delta) box c K) := by
 have h4 : K * K ≤ 36 := uu h6 h6;have em : mul64 c.size c.size = ((K * K : Nat) : Int) := by
  rw [hs, zk6 (by rw [← y8]; omega) (by rw [← y8]; omega)]; simp
 have hmk : mkl 1 (mul64 c.size c.size) false = some (List.replicate (K * K) false) := by
  rw [em]; unfold mkl; rw [if_pos (by omega), yD]
 obtain ⟨V, hV⟩ : ∃ V : Nat → Bool, V = fun i : Nat => decide (1 ≤ add64 ((idx box (add64 c.first (i : Int))).getD default).hi (add64 (zac a.effect.delta (add64 c.first (i : Int))) (zac b.effect.delta (add64 c.first (i : Int))))) := ⟨_, rfl⟩
 obtain ⟨edges, hE⟩ : ∃ edges, edges = (List.range (K * K)).map V := ⟨_, rfl⟩
 have hEl : edges.length = K * K := by rw [hE]; simp
 have hbox : ∀ i, i < K * K → ∃ w, idx box (add64 c.first (i : Int)) = some w := fun i hi => zbf (by rw [ziS (by omega) (by omega)]; omega) (by rw [ziS (by omega) (by omega)]; omega)
 have hcyc : zbl n (K : Int) edges = some (cycP (hasP ⟨(K : Int), edges⟩) K) := zhV h1 h6 hEl hn;have hrcyc : zy n (K : Int) edges = some (cycP (hasP ⟨(K : Int), edges⟩) K) := zjG h1 h6 hEl hn;obtain ⟨cyc, hcy⟩ : ∃ cyc, cyc = cycP (hasP ⟨(K : Int), edges⟩) K := ⟨_, rfl⟩
 have hcl : cyc.length ≤ 900000 := by
  obtain ⟨r, r1, r2, -⟩ := zkk (n := n) (size := (K : Int)) (edges := edges) rfl h1 h6 hEl hn;rw [hcyc] at r1;rw [hcy];cases r1;exact r2
 have hcp : ∀ l ∈ cyc, PathL K l := fun l hl => by
  rw [hcy] at hl;obtain ⟨r, -, hl⟩ := uB.1 hl;exact zk0 r zlD l (List.mem_filter.1 hl).1
 have hres : zmq (zac a.effect.delta) (zac b.effect.delta) box c K = cyc.flatMap (zdV (zac a.effect.delta) (zac b.effect.delta) c) := by
  unfold zmq;rw [hcy, hE, hV]
 rw [← hcy] at hcyc hrcyc;rw [hres];have hgl : ∀ x : List Int, (zdV (zac a.effect.delta) (zac b.effect.delta) c x).length ≤ 1 := fun x => by unfold zdV; split <;> simp
 constructor
 ·unfold zf;rw [hmk, ya];have := zI (body := zf.l1 n box c a b (List.replicate (K * K) false)) (len := K * K) (st := fun i => ((List.range i).map V ++ List.replicate (K * K - i) false, (i : Int))) (g := fun _ => some (cyc.flatMap (zdV (zac a.effect.delta) (zac b.effect.delta) c))) (fun rec i hi hr => ?_) (fun rec => ?_) n 0 (yo _) (by omega)
  ·simpa using this
  ·have hlt : decide ((i : Int) < ((List.replicate (K * K) false).length : Int)) = true := by simp; omega
   obtain ⟨w, hw⟩ := hbox i hi;have hz : zaF n (i : Int) a c b = some (add64 (zac a.effect.delta (add64 c.first (i : Int))) (zac b.effect.delta (add64 c.first (i : Int)))) := by
    unfold zaF;rw [ha.added hn, ya, hb.added hn, ya]
   have hvi : V i = decide (1 ≤ add64 w.hi (add64 (zac a.effect.delta (add64 c.first (i : Int))) (zac b.effect.delta (add64 c.first (i : Int))))) := by rw [hV]; simp only [hw, yg]
   have hin : i < ((List.range i).map V ++ List.replicate (K * K - i) false).length := by simp; omega
   have hst : sto ((List.range i).map V ++ List.replicate (K * K - i) false) (i : Int) (V i) = some ((List.range (i + 1)).map V ++ List.replicate (K * K - (i + 1)) false) := by
    unfold sto;rw [if_pos ⟨by omega, by omega⟩, yD];congr 1;rw [List.set_append_right _ _ (by simp), show K * K - i = (K * K - (i + 1)) + 1 by omega, List.replicate_succ];simp [uJ]
   simp only [zf.l1, hlt, if_true, hw, ya, hz, za hin];rw [← hvi, hst, ya, zb (by omega)];exact hr
  ·have hge : decide (((K * K : Nat) : Int) < ((List.replicate (K * K) false).length : Int)) = false := by simp
   have e0 : (List.range (K * K)).map V ++ List.replicate (K * K - K * K) false = edges := by rw [hE]; simp
   simp only [zf.l1, hge, ye, if_false, e0];rw [hs, hcyc, ya];have := zcm (body := zf.l2 n c a b cyc) (k := cyc.length) (n := n) (st := fun (s : List (List Row)) i => (s, (i : Int))) (fun i => zdV (zac a.effect.delta) (zac b.effect.delta) c (cyc.getD i [])) some 1 [] (fun i _ => hgl _) (fun rec s i hi hI => ?_) (fun rec s hI => ?_) (by omega)
   ·rw [zhY] at this;simpa using this
   ·have e : cyc.getD i [] = cyc[i] := by simp [uo, hi]
    rw [e];simp only [zf.l2, zi hi, if_true, jn, za hi, ya];rw [znf ha hb h6 hn (hcp _ (yk hi)) (by simp at hI; omega), zb (by omega)]
   ·simp only [zf.l2, zaw, ye, if_false]
 ·unfold zX;have := zcm (body := zX.l1 n box c a.effect b.effect) (k := K * K) (n := n) (st := fun (s : List Bool) i => (s, (i : Int))) (fun i => [V i]) (fun s => (zy n c.size s).bind fun x59_21 => loopF (zX.l2 n c a.effect b.effect x59_21) n (([] : List (List Row)), 0)) 1 [] (fun i _ => by simp) (fun rec s i hi hI => ?_) (fun rec s hI => ?_) (by omega)
  ·have e0 : (List.range (K * K)).flatMap (fun i => [V i]) = edges := by rw [hE, List.map_eq_flatMap]
   rw [e0, yS, hs, hrcyc, ya] at this;refine this.trans ?_;have := zcm (body := zX.l2 n c a.effect b.effect cyc) (k := cyc.length) (n := n) (st := fun (s : List (List Row)) i => (s, (i : Int))) (fun i => zdV (zac a.effect.delta) (zac b.effect.delta) c (cyc.getD i [])) some 1 [] (fun i _ => hgl _) (fun rec s i hi hI => ?_) (fun rec s hI => ?_) (by omega)
   ·rw [zhY] at this;simpa using this
   ·have e : cyc.getD i [] = cyc[i] := by simp [uo, hi]
    rw [e];simp only [zX.l2, zi hi, if_true, jn];rw [zm2 ha hb h6 hn hi (hcp _ (yk hi)) (by simp at hI; omega), zb (by omega)]
   ·simp only [zX.l2, zaw, ye, if_false]
  ·have hlt : decide ((i : Int) < mul64 c.size c.size) = true := by rw [em]; simp; omega
   obtain ⟨w, hw⟩ := hbox i hi;have hvi : V i = decide (1 ≤ add64 (add64 w.hi (zac a.effect.delta (add64 c.first (i : Int)))) (zac b.effect.delta (add64 c.first (i : Int)))) := by rw [hV, zgV]; simp only [hw, yg]
   simp only [zX.l1, hlt, if_true, hw, ya, ha.Add hn, hb.Add hn];rw [← hvi, zp (by simp at hI; simp; omega), ya, zb (by omega)]
  ·have hge : decide (((K * K : Nat) : Int) < mul64 c.size c.size) = false := by rw [em]; simp
   simp only [zX.l1, hge, ye, if_false]
end
theorem SameA.Sum_eq {n : Nat} {a : Action} {r : Row} {x : Int} (h : SameA a) (ha : ActOK a) (hr : r.terms.length ≤ 1000) (hx : zj n a r = some x) (hn : 1000000 ≤ n) : za3 n a.effect r = some x := by
 have := ha.delta;rw [← hx, zlQ (by omega) (by omega) (by omega) (by omega), zdS (by omega) (by omega) (by omega) (by omega), zhe h.add]
theorem SameA.Sum {n : Nat} {a : Action} {r : Row} (h : SameA a) (ha : ActOK a) (hr : r.terms.length ≤ 1000) (hn : 1000000 ≤ n) : za3 n a.effect r = some (chgN n a r) := h.Sum_eq ha hr (zhR ha hr hn) hn
theorem zlX {n : Nat} {c : Constraint} {e : Effect} {f : Int → Option Int} (h : ∀ x, zaD n e x = f x) : za7 n c e = zO n c f := by
 have : za7.l1 n c e = zO.l1 n c f := by
  funext rec s;simp only [za7.l1, zO.l1, h]
 unfold za7 zO;rw [this]
theorem rgraph0 {n K : Nat} {c : Constraint} (hc : ConOK K c) (hk : c.kind = 1) (hn : 1000000 ≤ n) : za7 n c ⟨[], [], []⟩ = some (gr n c fun q0 => zaW n q0) := by
 rw [zlX (f := fun q0 => zaW n q0) fun x => ?_]
 ·exact (zdt hc hk (fun x => ⟨_, rfl⟩) hn).1
 ·rw [zeo x (by simp) (by simp; omega)]; rfl
theorem rgraph3 {n K : Nat} {a : Action} {c : Constraint} (sa : SameA a) (hc : ConOK K c) (hk : c.kind = 1) (hn : 1000000 ≤ n) : za7 n c a.effect = some (gr n c fun q0 => zR n q0 a) := by
 rw [zlX (f := fun q0 => zR n q0 a) fun x => ?_]
 ·exact (zdt hc hk (fun x => ⟨zac a.effect.delta x, by unfold zR; rw [sa.added hn]; rfl⟩) hn).1
 ·unfold zR; rw [sa.Add hn, sa.added hn]; rfl
theorem rgraph4 {n K : Nat} {a : Action} {c : Constraint} (sa : SameA a) (hc : ConOK K c) (hk : c.kind = 1) (hn : 1000000 ≤ n) : za7 n c a.effect = some (gr n c fun q0 => zah n q0 a) := rgraph3 sa hc hk hn
theorem zkI {n K : Nat} {a : Action} {c : Constraint} (sa : SameA a) (hc : ConOK K c) (hk : c.kind = 1) (hn : 1000000 ≤ n) : zbd n a.effect c = some (decide (0 < (((zz n a c).getD []).length : Int))) := by
 obtain ⟨k, h1, h2⟩ := hc.mul hk;have := sa.len;rw [zjJ h1 (by omega) (by omega) (by omega) (by omega) sa.add, zdT h1 (by omega) (by omega) (by omega) (by omega)];simp
theorem zma {n : Nat} {r : Row} (hl : r.terms.length ≤ 1000) (hn : 1000000 ≤ n) : zbZ n r = some r := by
 unfold zbZ;have := zdZ (body := zbZ.l1 n r) (l := r.terms) (n := n) (st := fun b i => (b, (i : Int))) (fun t : Term => t) (fun b => some (⟨b, r.bound⟩ : Row)) [] (fun rec b i hi hb => ?_) (fun rec b hb => ?_) (by omega)
 ·simpa using this
 ·simp only [zbZ.l1, zi hi, if_true, za hi, ya];rw [zp (by simp at hb; simp; omega), ya, zb (by omega)]
 ·simp [zbZ.l1]
theorem znF {n : Nat} {r : Row} {B : Int} (hl : r.terms.length ≤ 1000) (hn : 1000000 ≤ n) : zaM n r B = some ⟨r.terms.map fun t => ⟨t.cell, neg64 t.factor⟩, B⟩ := by
 unfold zaM;have := zdZ (body := zaM.l1 n r B) (l := r.terms) (n := n) (st := fun b i => (b, (i : Int))) (fun t : Term => (⟨t.cell, neg64 t.factor⟩ : Term)) (fun b => some (⟨b, B⟩ : Row)) [] (fun rec b i hi hb => ?_) (fun rec b hb => ?_) (by omega)
 ·simpa using this
 ·simp only [zaM.l1, zi hi, if_true, za hi, ya];rw [zp (by simp at hb; simp; omega), ya, zb (by omega)]
 ·simp [zaM.l1]
theorem zlR {n : Nat} {l : List Int} {v : Int} (hl : l.length < 1000000) (hn : 1000000 ≤ n) : zeb n l v = some (decide (v ∈ l)) := by
 have : zeb.l1 n l v = zbF.l1 n l v := rfl;unfold zeb;rw [this];exact ziy hl hn
noncomputable def rfinS (n : Nat) (m : Model) (q : Question) (a b : Action) (box : List Range) (R : List Row) (G : List Graph) : Option (System × Int) :=
  jn (fun (v : (List Row) × (List (List Row))) =>
   let b4_154 := v.1
   let c1_3_155 := v.2
   (zW n (⟨box, b4_154, G, c1_3_155⟩ : System)).bind fun x311_168 =>
   if (!x311_168) = true then
    some ((⟨[], [], [], []⟩ : System), 8)
   else
    some ((⟨box, b4_154, G, c1_3_155⟩ : System), 0)) fun k_156 =>
  if q.target.hold = true then
   (idx a.effect.hold q.target.index).bind fun x243_157 =>
   (za3 n b.effect x243_157).bind fun x253_158 =>
   (zaM n x243_157 (sub64 (add64 (neg64 x243_157.bound) x253_158) 1)).bind fun x256_159 =>
   (app 32 R [x256_159]).bind fun x258_160 =>
   k_156 (x258_160, [])
  else
   (idx m.constraints q.target.index).bind fun x265_161 =>
   if (x265_161.kind == 0) = true then
    (za3 n a.effect x265_161.row).bind fun x281_162 =>
    (za3 n b.effect x265_161.row).bind fun x286_163 =>
    (zaM n x265_161.row (sub64 (add64 (add64 (neg64 x265_161.row.bound) x281_162) x286_163) 1)).bind fun x289_164 =>
    (app 32 R [x289_164]).bind fun x291_165 =>
    k_156 (x291_165, [])
   else
    (zX n box x265_161 a.effect b.effect).bind fun x298_166 =>
    if ((x298_166.length : Int) == 0) = true then
     (app 32 R [(⟨[], (-1)⟩ : Row)]).bind fun x308_167 =>
     k_156 (x308_167, x298_166)
    else
     k_156 (R, x298_166)
noncomputable def ziB (n : Nat) (m : Model) (q : Question) (a b : Action) (box : List Range) (R : List Row) : Option (System × Int) := loopF (zk.l3 n m q a b box) n (R, 0)
theorem zlW {n K : Nat} {m : Model} {q : Question} {a b : Action} {box : List Range} {R : List Row} (ha : ActOK a) (hb : ActOK b) (hc : ∀ c ∈ m.constraints, ConOK K c) (sa : SameA a) (sb : SameA b) (hl : m.constraints.length ≤ 1000) (hn : 1000000 ≤ n) :
  loopF (zk.l5 n m q a b box R) n ([], 0) = rfinS n m q a b box R ((List.range m.constraints.length).flatMap fun i => gS n (q.e != q.f) a b (m.constraints.getD i default)) := by
 have := zcm (body := zk.l5 n m q a b box R) (k := m.constraints.length) (n := n) (st := fun b i => (b, (i : Int))) (fun i => gS n (q.e != q.f) a b (m.constraints.getD i default)) (rfinS n m q a b box R) 3 []
  (fun i hi => ?_) (fun rec b7 i hi hI => ?_) (fun rec b7 hI => ?_) (by omega)
 ·simpa using this
 ·have e : m.constraints.getD i default = m.constraints[i] := by simp [List.getD, hi]
  rw [e];exact (znn ha hb (hc _ (yk hi)) hn).1
 ·have e : m.constraints.getD i default = m.constraints[i] := by simp [List.getD, hi]
  have hci := hc _ (yk hi);have hI' : b7.length ≤ 3000 := by simp at hI; omega
  simp only [zk.l5, zi hi, if_true, jn, za hi, ya, e, zb (i := i) (by omega)];unfold gS;by_cases hk : (m.constraints[i].kind != 1) = true
  ·rw [if_pos hk, if_pos hk, y0]
  ·rw [if_neg hk, if_neg hk];have hk : m.constraints[i].kind = 1 := by simpa using hk
   obtain ⟨ra, hra⟩ := zgo ha hci hk hn;obtain ⟨rb, hrb⟩ := zgo hb hci hk hn;rw [rgraph0 hci hk hn, zkI sa hci hk hn, zkI sb hci hk hn, rgraph3 sa hci hk hn, rgraph4 sb hci hk hn, hra, hrb];simp only [ya, yg];rw [zp (by simp; omega), ya, Bool.and_comm (decide (0 < (rb.length : Int))) (q.e != q.f)];by_cases h3 : (decide (0 < (ra.length : Int))) = true
   ·rw [if_pos h3, if_pos h3, zp (by simp; omega), ya];by_cases h4 : ((q.e != q.f) && decide (0 < (rb.length : Int))) = true
    ·rw [if_pos h4, if_pos h4, zp (by simp; omega), ya];simp only [yE]
    ·rw [if_neg h4, if_neg h4];simp only [yE, y0]
   ·rw [if_neg h3, if_neg h3];by_cases h4 : ((q.e != q.f) && decide (0 < (rb.length : Int))) = true
    ·rw [if_pos h4, if_pos h4, zp (by simp; omega), ya];simp only [yE, yS]
    ·rw [if_neg h4, if_neg h4];simp only [y0]
 ·simp only [zk.l5, zaw, ye, if_false];rfl
theorem znX {n K : Nat} {m : Model} {q : Question} {a b : Action} {box : List Range} {R : List Row} (ha : ActOK a) (hb : ActOK b) (hc : ∀ c ∈ m.constraints, ConOK K c) (sa : SameA a) (sb : SameA b) (hl : m.constraints.length ≤ 1000) (hR : R.length ≤ 1000) (hn : 1000000 ≤ n) :
  ziB n m q a b box R = rfinS n m q a b box (R ++ (a.effect.hold ++ (if (q.e != q.f) = true then b.effect.hold else []))) ((List.range m.constraints.length).flatMap fun i => gS n (q.e != q.f) a b (m.constraints.getD i default)) := by
 have h1 := ha.hold;have h2 := hb.hold;have second : ∀ R2 : List Row, R2.length ≤ 2000 → loopF (zk.l4 n m q a b box) n (R2, 0) = rfinS n m q a b box (R2 ++ (if (q.e != q.f) = true then b.effect.hold else [])) ((List.range m.constraints.length).flatMap fun i => gS n (q.e != q.f) a b (m.constraints.getD i default)) := fun R2 hR2 => by
  by_cases he : (q.e != q.f) = true
  ·rw [if_pos he, ← zlW ha hb hc sa sb hl hn];have := zdZ (body := zk.l4 n m q a b box) (l := b.effect.hold) (n := n) (st := fun b i => (b, (i : Int))) (fun r : Row => r) (fun R3 => loopF (zk.l5 n m q a b box R3) n (([] : List Graph), 0)) R2 (fun rec b6 i hi hb6 => ?_) (fun rec b6 hb6 => ?_) (by omega)
   ·simpa using this
   ·simp only [zk.l4, zi hi, he, uL, if_true, za hi, ya, zma (hb.terms _ (yk hi)) hn];rw [zp (by simp; omega), ya, zb (by omega)]
   ·simp only [zk.l4, zaw, yW, ye, if_false]
  ·rw [if_neg he, y0, ← zlW ha hb hc sa sb hl hn, zfS (by omega)];simp only [yz] at he;simp only [zk.l4, he, Bool.and_false, ye, if_false]
 unfold ziB;have := zdZ (body := zk.l3 n m q a b box) (l := a.effect.hold) (n := n) (st := fun b i => (b, (i : Int))) (fun r : Row => r) (fun R2 => loopF (zk.l4 n m q a b box) n (R2, 0)) R (fun rec b6 i hi hb6 => ?_) (fun rec b6 hb6 => ?_) (by omega)
 ·rw [List.map_id', second _ (by simp; omega)] at this;rw [← yE];exact this
 ·simp only [zk.l3, zi hi, if_true, za hi, ya, zma (ha.terms _ (yk hi)) hn];rw [zp (by simp; omega), ya, zb (by omega)]
 ·simp only [zk.l3, zaw, ye, if_false]
theorem zn0 {n : Nat} {m : Model} {q : Question} {a b : Action} {box : List Range} (ha : ActOK a) (hb : ActOK b) (hc : ∀ c ∈ m.constraints, ConOK box.length c) (hl : m.constraints.length ≤ 1000) (hbx : box.length ≤ 1000)
  (sa : SameA a) (sb : SameA b)
  (hh : q.target.hold = true → 0 ≤ q.target.index ∧ q.target.index < (a.effect.hold.length : Int)) (hh2 : q.target.hold = false → 0 ≤ q.target.index ∧ q.target.index < (m.constraints.length : Int)) (hn : 1000000 ≤ n) :
  ∃ (X : List Row) (G : List Graph) (cs : List (List Row)), (X.length ≤ 30 ∧ ∀ r ∈ X, r.terms.length ≤ 1000) ∧ (G.length ≤ 3000 ∧ ∀ g ∈ G, g.least.length ≤ 36) ∧ zhN cs ∧
   ∀ R : List Row, R.length ≤ 1000 → tailS n m q a b box R = endS n ⟨box, R ++ X, G, cs⟩ (zaS n ⟨box, R ++ X, G, cs⟩) ∧ ziB n m q a b box R = endS n ⟨box, R ++ X, G, cs⟩ (zW n ⟨box, R ++ X, G, cs⟩) := by
 obtain ⟨H, hH⟩ : ∃ H : List Row, H = a.effect.hold ++ (if (q.e != q.f) = true then b.effect.hold else []) := ⟨_, rfl⟩
 have hHl : H.length ≤ 20 ∧ ∀ r ∈ H, r.terms.length ≤ 1000 := by
  have h1 := ha.hold;have h2 := hb.hold;rw [hH];constructor
  ·rw [yI]; split <;> first | omega | (simp; omega)
  ·intro r hr;rcases yC.1 hr with hr | hr
   ·exact ha.terms r hr
   ·split at hr
    ·exact hb.terms r hr
    ·simp at hr
 have hstep : ∀ R : List Row, R.length ≤ 1000 → tailS n m q a b box R = zgX n m q a b box (R ++ H) := fun R hR => by
  have h1 := ha.hold;have h2 := hb.hold;have hloop : loopF (ze.l3 n m q a b box H) n (R, 0) = zgX n m q a b box (R ++ H) := by
   have := zdZ (body := ze.l3 n m q a b box H) (l := H) (n := n) (st := fun b i => (b, (i : Int))) (fun r : Row => r) (zgX n m q a b box) R (fun rec b6 i hi hb6 => ?_) (fun rec b6 hb6 => ?_) (by omega)
   ·simpa using this
   ·simp only [ze.l3, zi hi, if_true, za hi, ya, zoz (hHl.2 _ (yk hi)) hn];rw [zp (by first | omega | (simp; omega)), ya, zb (by omega)]
   ·simp only [ze.l3, zaw, ye, if_false];rfl
  unfold tailS;simp only [jn];rw [zp (by first | omega | (simp; omega)), ya, yS];by_cases he : (q.e != q.f) = true
  ·rw [if_pos he, zp (by first | omega | (simp; omega)), ya, ← hloop, hH, if_pos he]
  ·rw [if_neg he, ← hloop, hH, if_neg he, y0]
 obtain ⟨G, hG⟩ : ∃ G, G = (List.range m.constraints.length).flatMap fun i => gS n (q.e != q.f) a b (m.constraints.getD i default) := ⟨_, rfl⟩
 have hGl : G.length ≤ 3000 ∧ ∀ g ∈ G, g.least.length ≤ 36 := by
  have key : ∀ k, k ≤ m.constraints.length → ((List.range k).flatMap fun i => gS n (q.e != q.f) a b (m.constraints.getD i default)).length ≤ 3 * k ∧ ∀ g ∈ ((List.range k).flatMap fun i => gS n (q.e != q.f) a b (m.constraints.getD i default)), g.least.length ≤ 36 := by
   intro k
   induction k with
   | zero => intro _; simp
   | succ k ih =>
    intro hk;obtain ⟨i1, i2⟩ := ih (by omega);have e : m.constraints.getD k default = m.constraints[k]'(by omega) := by simp [List.getD, show k < m.constraints.length by omega]
    obtain ⟨g1, g2⟩ := znn (n := n) (ef := (q.e != q.f)) ha hb (hc _ (yk (show k < m.constraints.length by omega))) hn;rw [zkA, e];constructor
    ·rw [yI]; omega
    ·intro g hg;rcases yC.1 hg with hg | hg
     ·exact i2 g hg
     ·exact g2 g hg
  rw [hG];obtain ⟨k1, k2⟩ := key _ (yn _);exact ⟨by omega, k2⟩
 have h0 : ∀ (c : Constraint) (R : List Row), (c.kind == 1) = false → finS n box a b R c G = endS n ⟨box, R, G, []⟩ (zaS n ⟨box, R, G, []⟩) := fun c R hk => by
  unfold finS;simp only [jn, hk, ye, if_false];rfl
 have c0 : zhN [] := ⟨by simp, by simp⟩
 have rstep : ∀ R : List Row, R.length ≤ 1000 → ziB n m q a b box R = rfinS n m q a b box (R ++ H) G := fun R hR => by
  rw [znX ha hb hc sa sb hl hR hn, hG, hH]
 cases hhold : q.target.hold with
 | true =>
  obtain ⟨i1, i2⟩ := hh hhold;obtain ⟨r, hr⟩ := zbf i1 i2;have hrl := ha.terms r (zfc hr);obtain ⟨x, hx⟩ := zgk hb hrl hn;have hsx := sb.Sum_eq hb hrl hx hn;have hnr := zgl (n := n) (r := r) (f := fun q0 => za4 n q0) (g := fun q0 => zaH n q0 x) (fP := neg64) (B := sub64 (add64 (neg64 r.bound) x) 1) (fun _ => rfl) rfl hrl hn;refine ⟨H ++ [⟨r.terms.map fun t => ⟨t.cell, neg64 t.factor⟩, sub64 (add64 (neg64 r.bound) x) 1⟩], G, [], ⟨by first | omega | (simp; omega), fun s hs => ?_⟩, hGl, c0, fun R hR => ?_⟩
  ·rcases yC.1 hs with hs | hs
   ·exact hHl.2 s hs
   ·simp at hs; subst hs; simpa using hrl
  ·refine ⟨?_, ?_⟩
   rotate_left
   ·rw [rstep R hR];unfold rfinS;simp only [jn, hhold, if_true, hr, ya, hsx, znF hrl hn];rw [zp (by first | omega | (simp; omega)), ya, yE];rfl
   rw [hstep R hR];unfold zgX;simp only [jn, hhold, if_true, hr, ya, hx, hnr];rw [zp (by first | omega | (simp; omega)), ya];have := zmz (q := q) (a := a) (b := b) (box := box) (R := R ++ H ++ [⟨r.terms.map fun t => ⟨t.cell, neg64 t.factor⟩, sub64 (add64 (neg64 r.bound) x) 1⟩]) (c := ⟨0, 0, ⟨[], 0⟩, 0, 0⟩) ha hb hc hl hn;rw [← hG] at this;rw [yE] at this ⊢;exact this.trans (h0 _ _ rfl)
 | false =>
  obtain ⟨i1, i2⟩ := hh2 hhold;obtain ⟨c, hcx⟩ := zbf i1 i2;have hco := hc c (zfc hcx);have hgl := fun R : List Row => (zmz (q := q) (a := a) (b := b) (box := box) (R := R) (c := c) ha hb hc hl hn)
  rw [← hG] at hgl;rcases hco.kind with hk | hk
  ·obtain ⟨x, hx⟩ := zgk ha hco.len hn;obtain ⟨y, hy⟩ := zgk hb hco.len hn;have hsx := sa.Sum_eq ha hco.len hx hn;have hsy := sb.Sum_eq hb hco.len hy hn;have hnr := zgl (n := n) (r := c.row) (f := fun q0 => za4 n q0) (g := fun q0 => zaH n q0 (add64 x y)) (fP := neg64) (B := sub64 (add64 (neg64 c.row.bound) (add64 x y)) 1) (fun _ => rfl) rfl hco.len hn;refine ⟨H ++ [⟨c.row.terms.map fun t => ⟨t.cell, neg64 t.factor⟩, sub64 (add64 (neg64 c.row.bound) (add64 x y)) 1⟩], G, [], ⟨by first | omega | (simp; omega), fun s hs => ?_⟩, hGl, c0, fun R hR => ?_⟩
   ·rcases yC.1 hs with hs | hs
    ·exact hHl.2 s hs
    ·simp at hs; subst hs; simpa using hco.len
   ·have hk' : (c.kind == 0) = true := by simp [hk]
    refine ⟨?_, ?_⟩
    rotate_left
    ·rw [rstep R hR];unfold rfinS;simp only [jn, hhold, ye, if_false, hcx, ya, hk', if_true, hsx, hsy, znF hco.len hn, zgV];rw [zp (by first | omega | (simp; omega)), ya, yE];rfl
    rw [hstep R hR];unfold zgX;simp only [jn, hhold, ye, if_false, hcx, ya, hk', if_true, hx, hy, hnr];rw [zp (by first | omega | (simp; omega)), ya, yE];exact (hgl _).trans (h0 _ _ (by simp [hk]))
  ·obtain ⟨s, s1, s2, s3, s4, s5⟩ := hco.sz hk;obtain ⟨cs, hcs, hcsO⟩ := zng (n := n) (box := box) (e := a) (f := b) s1 s2 s3 s4 s5 hbx ha.delta hb.delta hn;have hrc : zX n box c a.effect b.effect = some cs := by
    have := zmT (n := n) (c := c) sa sb s3 hn (box := box) s1 s2 s4 s5 hbx;rw [this.2, ← this.1, hcs]
   have hk0 : (c.kind == 0) = false := by simp [hk]
   have hk1 : (c.kind == 1) = true := by simp [hk]
   by_cases he : ((cs.length : Int) == 0) = true
   ·refine ⟨H ++ [⟨[], -1⟩], G, cs, ⟨by first | omega | (simp; omega), fun s hs => ?_⟩, hGl, hcsO, fun R hR => ?_⟩
    ·rcases yC.1 hs with hs | hs
     ·exact hHl.2 s hs
     ·simp at hs; subst hs; simp
    ·refine ⟨?_, ?_⟩
     rotate_left
     ·rw [rstep R hR];unfold rfinS;simp only [jn, hhold, ye, if_false, hcx, ya, hk0, hrc, he, if_true];rw [zp (by first | omega | (simp; omega)), ya, yE];rfl
     rw [hstep R hR];unfold zgX;simp only [jn, hhold, ye, if_false, hcx, ya, hk0];refine (hgl _).trans ?_;unfold finS;simp only [jn, hk1, if_true, hcs, ya, he];rw [zp (by first | omega | (simp; omega)), ya, yE];rfl
   ·refine ⟨H, G, cs, ⟨by omega, hHl.2⟩, hGl, hcsO, fun R hR => ?_⟩;refine ⟨?_, ?_⟩
    rotate_left
    ·rw [rstep R hR];unfold rfinS;simp only [jn, hhold, ye, if_false, hcx, ya, hk0, hrc];rw [if_neg he];rfl
    rw [hstep R hR];unfold zgX;simp only [jn, hhold, ye, if_false, hcx, ya, hk0];refine (hgl _).trans ?_;unfold finS;simp only [jn, hk1, if_true, hcs, ya];rw [if_neg he];rfl
theorem zm3 {n : Nat} {m : Model} {q : Question} {rows : List Int} {a b : Action} {box : List Range} (ha : ActOK a) (hb : ActOK b) (hc : ∀ c ∈ m.constraints, ConOK box.length c) (sa : SameA a) (sb : SameA b) (hl : m.constraints.length ≤ 1000) (hr : rows.length ≤ 1000) (hn : 1000000 ≤ n) :
  loopF (zk.l2 n m q rows a b box) n ([], 0) = ziB n m q a b box (rowsR n m q rows a b) := by
 have := zcm (body := zk.l2 n m q rows a b box) (k := m.constraints.length) (n := n) (st := fun b i => (b, (i : Int))) (fun i => rowS n q rows a b i (m.constraints.getD i default)) (ziB n m q a b box) 1 []
  (fun i hi => ?_) (fun rec b6 i hi hI => ?_) (fun rec b6 hI => ?_) (by omega)
 ·simpa [rowsR] using this
 ·unfold rowS; split <;> simp
 ·have e : m.constraints.getD i default = m.constraints[i] := by simp [List.getD, hi]
  have hci := hc _ (yk hi);have hI' : b6.length ≤ 3000 := by simp at hI; omega
  rw [e];simp only [zk.l2, zi hi, if_true, jn, za hi, ya, sa.Sum ha hci.len hn, sb.Sum hb hci.len hn, zlR (show rows.length < 1000000 by omega) hn, zma hci.len hn];unfold rowS;by_cases hk : (m.constraints[i].kind != 0) = true
  ·rw [if_pos hk, if_pos hk, y0, zb (by omega)]
  ·rw [if_neg hk, if_neg hk];unfold kS;split <;> (rw [zp (by first | omega | (simp; omega)), ya, zb (by omega)])
 ·simp only [zk.l2, zaw, ye, if_false];rfl
theorem zj1 {n : Nat} {m : Model} {q : Question} {rows : List Int} {a b : Action} (hF : Fuel n) (hS : SmallM m) (hV : ValidM m) (hq : zgI m q = true) (ha : idx m.actions q.e = some a) (hb : idx m.actions q.f = some b) (hA : ActOK a) (hB : ActOK b) (hc : ∀ c ∈ m.constraints, ConOK (boxM m).length c) (sa : SameA a) (sb : SameA b) (hr : rows.length ≤ 1000) :
  zk n m q rows = if (rows.all fun x => !badR m x) = true then ziB n m q a b (boxM m) (rowsR n m q rows a b) else some (⟨[], [], [], []⟩, 2) := by
 have hn := hF.big;have hn1 : 1000000 ≤ n := by omega
 have hcl := hS.constraints;unfold zk;rw [zgO hn hS, ze4.2 hV, hq, ya, if_neg (by simp)];have := zam (body := zk.l1 n m q rows) (l := rows) (n := n) (st := fun i => (i : Int)) (fun x => !badR m x) (some (⟨[], [], [], []⟩, 2)) (ziB n m q a b (boxM m) (rowsR n m q rows a b)) (fun rec i hi => ?_) (fun rec => ?_) (by omega)
 ·simpa using this
 ·simp only [zk.l1, zi hi, if_true, za hi, ya, yj, yg, yr, grd];by_cases h1 : (decide (rows[i] < 0) || decide ((m.constraints.length : Int) ≤ rows[i])) = true
  ·have hbad : badR m rows[i] = true := by unfold badR; rw [h1]; rfl
   rw [hbad];simp only [h1, uG, if_true, yT, ye, if_false]
  ·have h2 := h1;simp only [yv, yf, not_or, Int.not_le, Int.not_lt] at h2;obtain ⟨c, hcx⟩ := zbf h2.1 h2.2;simp only [yz] at h1;unfold badR;simp only [h1, hcx, uj, yj, if_true, yg, zb (i := i) (by omega)];cases c.kind != 0 <;> simp
 ·simp only [zk.l1, zaw, ye, if_false, ha, hb, zlO hS hV.lay hn1, ya];exact zm3 hA hB hc sa sb (by omega) hr hn1
theorem zmK {n : Nat} {m : Model} (hn : 4294967296 ≤ n) (hS : SmallM m) (hV : ValidM m) {a : Action} (ha : a ∈ m.actions) : SameA a :=
 ⟨((zkV hn hS hV).acts a ha).2.2.1, by have := (znd hS ha).delta; omega⟩
theorem zl8 {m : Model} {q : Question} {rows : List Int} : zcf 18446744073709551616 m q rows = some true := by
 unfold zcf;have hF := zpf;have hn := hF.big;have hn1 : 1000000 ≤ 18446744073709551616 := by omega
 rw [zmR, zlJ (by omega)];simp only [ya, yT, ye, if_false];by_cases hfew : (!fewP m || decide (50 < (rows.length : Int))) = true
 ·rw [if_pos hfew]
 rw [if_neg hfew];simp only [yv, yG, yf, not_or, Bool.not_eq_false] at hfew;obtain ⟨hf, hrl⟩ := hfew;have hS := zmX hf;have hempty : zaR 18446744073709551616 ⟨[], [], [], []⟩ ⟨[], [], [], []⟩ = some true := zln (by simp) ⟨⟨by simp, by simp⟩, ⟨by simp, by simp⟩, ⟨by simp, by simp⟩⟩ hn1;by_cases hvq : (ze3 m && zgI m q) = true
 case neg =>
  simp only [yz] at hvq;have h1 : ze 18446744073709551616 m q rows = some (⟨[], [], [], []⟩, 1) := by
   unfold ze;rw [ze0 hF hS, hvq, ya, if_pos (by simp)]
  have h2 : zk 18446744073709551616 m q rows = some (⟨[], [], [], []⟩, 1) := by
   unfold zk;rw [zgO hn hS, hvq, ya, if_pos (by simp)]
  simp only [h1, h2, ya, hempty];simp [grd]
 simp only [yc] at hvq;have hV := ze4.1 hvq.1;obtain ⟨q1, q2, q3, q4, q5⟩ := zmg hvq.2;obtain ⟨a, ha⟩ := zbf q1.1 q1.2;obtain ⟨b, hb⟩ := zbf q2.1 q2.2;have hA := znd hS (zfc ha);have hB := znd hS (zfc hb);have sA := zmK hn hS hV (zfc ha);have sB := zmK hn hS hV (zfc hb);have hC : ∀ c ∈ m.constraints, ConOK (boxM m).length c := fun c hc => zo3 hS hV hc
 have hfp := hf;simp only [fewP, zcg, hV.lay, if_true, yc, yf] at hfp;have hK : (boxM m).length ≤ 12 := hfp.2.2.1;have hgood := znO hV.lay;have hcl := hS.constraints;obtain ⟨X, G, cs, hX, hG, hcs, htail⟩ := zn0 (n := 18446744073709551616) (m := m) (q := q) (box := boxM m) hA hB hC (by omega) (by omega) sA sB (fun h => ⟨q3, q4 h a ha⟩) (fun h => ⟨q3, (q5 h).2⟩) hn1;have hct : ∀ c ∈ m.constraints, c.row.terms.length ≤ 1000 := fun c hc => (hC c hc).len
 have hshort := zml (n := 18446744073709551616) (q := q) (rows := rows) (a := a) (b := b) hcl hct;have hso := znZ hshort hX hG hcs;rw [zkN (rows := rows) hF hS hV hvq.2 ha hb hA hB hC (by omega), zj1 (rows := rows) hF hS hV hvq.2 ha hb hA hB hC sA sB (by omega)];by_cases hbad : (rows.all fun x => !badR m x) = true
 case neg =>
  rw [if_neg hbad, if_neg hbad];simp only [ya, hempty];simp [grd]
 rw [if_pos hbad, if_pos hbad, (htail _ (by have := hshort.1; omega)).1, (htail _ (by have := hshort.1; omega)).2, zjO hgood (by omega) hso hn1, zke hgood (by omega) hso hn1];simp only [endS, ya];split
 ·simp only [ya, hempty];simp [grd]
 ·simp only [ya, zln (n := 18446744073709551616) (show (boxM m).length ≤ 1000 by omega) hso hn1];simp [grd]
theorem closed3 : joinedFacts Tryz.pinned.checked.prog 5 Tryz.f5 (OpenSpec.ofChange Rows.conditionSystemsSpec).bare Rows.conditionSystemsRow = true := by
 unfold joinedFacts
 simp only [yc]
 repeat' apply And.intro
 all_goals as_aux_lemma => kernel_rfl
section
open Go.ChangeShapes Go.WideShapes Go.ChangeAt Go.RowKit
theorem own : ownKnob Tryz.prog.godebug = none := by kernel_rfl
theorem zop : laidOutB Tryz.prog = true := by kernel_rfl
set_option maxRecDepth 100000 in
theorem contract3 (H : Type) (enc : TypeId × Value → H) (W : World) (base : Nat) (args : Array Value) (ds gs : List (DataW H)) (before : List MemPlace)
  (hval : ∀ (j : Nat) t v, Tryz.f5.params[j]? = some t → args[j]? = some v → Value.okWide Tryz.prog W .any base t v)
  (hW : DataW.Whole enc Tryz.prog Tryz.f5.params.toList Rows.conditionSystemsSpec.vars false W args.toList ds gs before) (hL : laidMetH Tryz.prog Rows.conditionSystemsRow.laid W) (hS : W.ShapedOpen Tryz.prog) :
  Calls Tryz.prog 5 args W fun e W' => ∃ v, e = .returned v ∧ Rows.conditionSystemsSpec.post enc Tryz.prog Tryz.f5 false true false false W args v W' := by
 have hW' := hW
 obtain ⟨p, q, hA0, hV, rfl, hfz, hnd⟩ := hW
 have hA : DataW.TrodAll enc Tryz.prog W 0 (fun _ => true) true Tryz.f5.params.toList args.toList ds p := hA0
 rw [Tryz.params5] at hA hval
 obtain ⟨v0, vs0, d0, ds0, p0, q0, hargs, rfl, rfl, h0, r0⟩ := trodAll_cons hA
 obtain ⟨v1, vs1, d1, ds1, p1, q1, rfl, rfl, rfl, h1, r1⟩ := trodAll_cons r0
 obtain ⟨v2, vs2, d2, ds2, p2, q2, rfl, rfl, rfl, h2, r2⟩ := trodAll_cons r1
 obtain ⟨rfl, rfl, rfl⟩ := trodAll_nil r2
 obtain rfl : args = #[v0, v1, v2] := by cases args; simp_all
 obtain ⟨rfl, rfl⟩ := trodVars_none hV
 obtain ⟨a0, k0⟩ := zo5.of_arg (hval 0 _ v0 rfl rfl) h0
 obtain ⟨a1, k1⟩ := zo7.of_arg (hval 1 _ v1 rfl rfl) h1
 obtain ⟨a2, k2⟩ := dInts.of_arg (hval 2 _ v2 rfl rfl) h2
 have hrun := (zez _ a0 a1 a2 true zl8).run Noneof W #[v0, v1, v2] (fun _ h => h.elim) (zon hL hS) (by
  simp only [D.reps]
  exact ⟨v0, _, rfl, k0, v1, _, rfl, k1, v2, _, rfl, k2, rfl⟩)
 refine hrun.mono fun e W' ⟨u, he, hf, hu⟩ => ?_
 simp only [D.rep] at hu
 subst hu
 subst he
 refine ⟨_, rfl, znC hW' rfl rfl rfl zop (fun t ht => ?_) hf (fun _ _ _ => trodAll_cons_mk (shut_bool Tryz.underlying4 _) trodAll_mk0)⟩
 rw [Tryz.params5] at ht
 have hall : ([30, 37, 22].all fun t => Tryz.prog.readableRec t && decide (t < Tryz.prog.types.size)) = true := by kernel_rfl
 have := yp.1 hall t (by simpa using ht)
 simpa using this
theorem reads3 (os : Os) {H : Type} (enc : TypeId × Value → H) : ∃ places, DataW.whole enc Tryz.prog ((World.laidAll Tryz.prog os Rows.conditionSystemsRow.laid).forCall (fun _ _ => 0) ⟨#[], #[.agg #[.slice none 0 0, .slice none 0 0, .slice none 0 0, .slice none 0 0, .slice none 0 0, .slice none 0 0, .slice none 0 0], .agg #[.int .i64 0, .int .i64 0, .bool false, .int .i64 0], .slice none 0 0], []⟩).memory Tryz.f5.params.toList Rows.conditionSystemsSpec.vars false
  (#[.agg #[.slice none 0 0, .slice none 0 0, .slice none 0 0, .slice none 0 0, .slice none 0 0, .slice none 0 0, .slice none 0 0], .agg #[.int .i64 0, .int .i64 0, .bool false, .int .i64 0], .slice none 0 0] : Array Value).toList 8 =
  some ([.agg [.nil, .nil, .nil, .nil, .nil, .nil, .nil], .agg [.lit (.int .i64 0), .lit (.int .i64 0), .agg [.lit (.bool false), .lit (.int .i64 0)]], .nil], [], places) :=
 ⟨[], by kernel_rfl⟩
set_option maxRecDepth 100000 in
theorem lifted3 (os : Os) (started : os.Started) (H : Type) (enc : TypeId × Value → H) (F : Stop.Interp) :
  ReturnsInHanded {} Tryz.checked os 5 .any ((OpenSpec.ofChange Rows.conditionSystemsSpec).preRow enc Tryz.prog Tryz.f5 Rows.conditionSystemsRow.domain false Rows.conditionSystemsRow.laid) (((OpenSpec.ofChange Rows.conditionSystemsSpec).at F).post enc Tryz.prog Tryz.f5 false true false false) := by
 obtain ⟨places, hx⟩ := reads3 os enc
 refine returnsInHanded_of_row (C := Tryz.checked) (s := OpenSpec.ofChange Rows.conditionSystemsSpec) own started (by kernel_rfl) Tryz.func5
  (witness_row_atRef (enc := enc) (C := Tryz.checked) false (World.laidAll Tryz.prog os Rows.conditionSystemsRow.laid) _ (World.laidAll_os _ _ _) (by kernel_rfl) (by kernel_rfl) (by kernel_rfl)
   (OpenSpec.preRow_of_cond 8 hx (by kernel_rfl) (fun k hk => by cases hk) (by kernel_rfl) (laidMet_laidAll _ (by kernel_rfl) (by kernel_rfl)))) ?_
 intro W base args ds gs before hval hW _ _ _ hL hS _
 exact contract3 H enc W base args ds gs before hval hW hL hS
theorem said3 : Rows.ConditionSystemsSaid :=
 OpenClaim.holds_of_cond 5 Tryz.f5 rfl rfl rfl rfl rfl rfl rfl ⟨rfl, rfl, rfl, rfl, rfl⟩ rfl rfl rfl rfl rfl (by kernel_rfl) Tryz.func5 closed3
  (of_decide_eq_true (by kernel_rfl)) (by unfold Func.isWrapper; first | (rw [if_pos (by decide +kernel)]; kernel_rfl) | (rw [if_neg (by decide +kernel)]; exact ⟨rfl, rfl⟩))
  (fun os started H enc _ F => by rw [OpenClaim.pre_eq_preRow]; exact lifted3 os started H enc F)
theorem plain3 (f : FuncId) (fn : Func) (hf : Tryz.pinned.checked.prog.funcNamed Rows.conditionSystemsRow.func = some f) (hfn : Tryz.pinned.checked.prog.funcs[f]? = some fn) :
  false = Tryz.pinned.checked.prog.looks [] ∧ ∀ (j : Nat) t, fn.params[j]? = some t → Tryz.pinned.checked.prog.wantsStandIn t = false := by
 obtain rfl : f = 5 := Option.some.inj ((show Tryz.prog.funcNamed Rows.conditionSystemsRow.func = some 5 by kernel_rfl).symm.trans hf) |>.symm
 obtain rfl : fn = Tryz.f5 := (Option.some.inj (Tryz.func5.symm.trans hfn)).symm
 refine ⟨by kernel_rfl, fun j t ht => ?_⟩
 rw [Tryz.params5] at ht
 have hall : ([30, 37, 22].all fun u => !Tryz.prog.wantsStandIn u) = true := by kernel_rfl
 have := yp.1 hall t (by simpa using Array.mem_of_getElem? ht)
 exact (show Tryz.prog.wantsStandIn t = false by simpa using this)
theorem conditionSystems_holds : Rows.ConditionSystemsCardSaid :=
 Claim7.holds_tied_plain_at .later [] _ _ _ _ said3 (fun _ h => by cases h) (by kernel_rfl) (fun _ h => by cases h) conditionSystems_row_tie rfl ⟨rfl, rfl⟩ (by kernel_rfl) rfl plain3 (by kernel_rfl)
end
end Go.Proofs.YtcagdmegicijlaaGreatDoor
