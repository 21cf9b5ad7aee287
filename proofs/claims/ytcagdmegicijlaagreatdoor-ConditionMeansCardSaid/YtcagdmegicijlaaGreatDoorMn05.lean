/- Part of the proof of one law of the seat. -/
import Derived.Test.YtcagdmegicijlaaGreatDoorMn04
set_option linter.unusedVariables false
set_option linter.unusedSectionVars false
set_option linter.unusedSimpArgs false
set_option maxHeartbeats 4000000
namespace Go.Proofs.YtcagdmegicijlaaGreatDoor
open Go Go.RowKit
abbrev yw := @_root_.List.getD_eq_getElem?_getD
abbrev yY := @_root_.Nat.mul_le_mul
abbrev ue := @_root_.List.mem_flatMap
abbrev uy := @_root_.Nat.pow_le_pow_right
abbrev uD := @_root_.Bool.not_false
abbrev uG := @_root_.Bool.true_or
abbrev uK := @_root_.Nat.pow_succ
abbrev uM := @_root_.Bool.and_self
abbrev uO := @_root_.Bool.or_self
abbrev uQ := @_root_.Nat.one_le_pow
abbrev uR := @_root_.bne_self_eq_false
abbrev uS := @_root_.Bool.or_false
theorem zc9 {S R : Type} {body : (S → Option R) → S → Option R} (μ : S → Nat) (I : S → Prop) (Q : S → Option R → Prop)
  (hb : ∀ rec s, I s → (∀ s', I s' → μ s' < μ s → Q s' (rec s')) → Q s (body rec s)) : ∀ n s, I s → μ s < n → Q s (loopF body n s)
 | 0, _, _, h => by omega
 | n + 1, s, hI, h => hb _ s hI fun s' hI' hlt => zc9 μ I Q hb n s' hI' (by omega)
theorem zbA {σ S R : Type} {body : (S → Option R) → S → Option R} {len : Nat} {st : σ → Nat → S} {g : Nat → σ → Option R} (I : Nat → σ → Prop)
  (hb : ∀ rec i s, i < len → I i s → (∀ s', I (i + 1) s' → rec (st s' (i + 1)) = g (i + 1) s') → body rec (st s i) = g i s) (he : ∀ rec s, I len s → body rec (st s len) = g len s) :
  ∀ n i s, i ≤ len → len - i < n → I i s → loopF body n (st s i) = g i s
 | 0, _, _, _, h, _ => by omega
 | n + 1, i, s, hi, h, hI => by
  simp only [loopF];by_cases e : i = len
  ·subst e; exact he _ _ hI
  ·exact hb _ i s (by omega) hI fun s' hI' => zbA I hb he n (i + 1) s' (by omega) (by omega) hI'
theorem zgp {S R : Type} {body : (S → Option R) → S → Option R} {n : Nat} (h : 0 < n) (s : S) : loopF body n s = body (loopF body (n - 1)) s := by
 obtain ⟨m, rfl⟩ : ∃ m, n = m + 1 := ⟨n - 1, by omega⟩
 rfl
theorem zcY {a b : Nat} (h : a + b < 9223372036854775808) : add64 (a : Int) (b : Int) = ((a + b : Nat) : Int) := by
 unfold add64; rw [zaL (by omega) (by omega)]; omega
theorem zc7 {l : List UInt8} {i} (h : i < l.length) : sidx l (i : Int) = some ((l[i].toNat : Nat) : Int) := by
 unfold sidx; rw [if_pos (by omega)]; simp [h]
theorem zgi {α : Type} {l : List α} {a b : Nat} (h1 : a ≤ b) (h2 : b ≤ l.length) : cut l (a : Int) (b : Int) = some ((l.drop a).take (b - a)) := by
 unfold cut; rw [if_pos (by omega)]; simp
theorem zkc {α : Type} {l : List α} {a : Nat} (h1 : a ≤ l.length) : cut l (a : Int) (l.length : Int) = some (l.drop a) := by
 rw [zgi h1 (yn _), List.take_of_length_le (by simp)]
theorem cut_all {α : Type} {l : List α} : cut l 0 (l.length : Int) = some l := by
 have := zkc (l := l) (a := 0) (by omega); simpa using this
theorem zcy {i k : Nat} (h : i < k) : decide ((i : Int) < (k : Int)) = true := by simp; omega
theorem zb9 {i k : Nat} (h : k ≤ i) : decide ((i : Int) < (k : Int)) = false := by simp; omega
def runP (p : Int → Bool) : List UInt8 → Nat
 | [] => 0
 | b :: l => if p (b.toNat : Nat) = true then runP p l + 1 else 0
theorem zkN (p) : ∀ l, runP p l ≤ l.length
 | [] => yn _
 | b :: l => by
  simp only [runP, yQ]; split
  ·exact Nat.succ_le_succ (zkN p l)
  ·omega
theorem zgl {n} {l : List UInt8} {f p} (hf : ∀ q, f q = some (p q)) (hl : l.length < 4611686018427387904) (hn : l.length < n) : zcC n l f = some ((runP p l : Nat) : Int) := by
 have := zF (body := zcC.l1 n l f) (len := l.length) (st := fun i => (i : Int)) (g := fun i => some ((i + runP p (l.drop i) : Nat) : Int)) (fun rec i hi hr => ?_) (fun rec => ?_) n 0 (yp _) (by omega)
 ·simpa [zcC] using this
 ·simp only [zcC.l1, zh hi, zc7 hi, yj, y8, uw, grd, if_true, yf, hf, yD, zb (i := i) (by omega), hr];rw [zj hi];simp only [runP];split <;> simp <;> omega
 ·simp [zcC.l1, runP, grd]
def zbN (q : Int) : Bool := decide (97 ≤ q) && decide (q ≤ 122)
def zji (q : Int) : Bool := decide (48 ≤ q) && decide (q ≤ 57)
def partP (q : Int) : Bool := (zbN q || zji q) || (q == 95)
theorem zkq {n q} : zcB n q = some (zbN q) := rfl
theorem lexer_digit_eq {n q} : zbi n q = some (zji q) := rfl
theorem zfW {n q} : zaE n q = some (zbN q) := rfl
theorem zeP {n q} : zaW n q = some (zji q) := rfl
def zdk (q : Int) : Bool := !(q == 9 || q == 10 || q == 13 || q == 32 || q == 35)
theorem zdT {q} (h : zbN q = true) : zdk q = true := by
 simp only [zbN, yb, yd] at h;simp only [zdk, yx, ua, uf]; omega
theorem lexer_skip_tt {n : Nat} {l : List UInt8} (hl : l.length < 1000000) (hn : 1000000 ≤ n) :
  ∃ k : Nat, zcP n l = some (k : Int) ∧ k ≤ l.length ∧ (∀ h : 0 < l.length, zdk (l[0].toNat : Nat) = true → k = 0) ∧ (∀ h : 0 < l.length, zdk (l[0].toNat : Nat) = false → 0 < k) := by
 have := zc9 (body := zcP.l1 n l) (fun s : Int => l.length - s.toNat) (fun s => ∃ i : Nat, s = i ∧ i ≤ l.length) (fun s o => ∃ k : Nat, o = some (k : Int) ∧ k ≤ l.length ∧ s.toNat ≤ k ∧ ∀ h : s.toNat < l.length, (zdk (l[s.toNat].toNat : Nat) = true → k = s.toNat) ∧ (zdk (l[s.toNat].toNat : Nat) = false → s.toNat < k))
  (fun rec s hI hr => by
   obtain ⟨i, rfl, hi⟩ := hI;by_cases hlt : i < l.length
   ·simp only [zcP.l1, zh hlt, if_true, zc7 hlt, ya, zb0, yq];by_cases hw : ((((((l[i].toNat : Nat) : Int) == 32) || (((l[i].toNat : Nat) : Int) == 9)) || (((l[i].toNat : Nat) : Int) == 10)) || (((l[i].toNat : Nat) : Int) == 13)) = true
    ·rw [if_pos hw, zb (i := i) (by omega)];obtain ⟨k, e, k1, k2, -⟩ := hr ((i + 1 : Nat) : Int) ⟨i + 1, rfl, by omega⟩ (by simp only [yq]; omega);simp only [yq] at k2;refine ⟨k, e, k1, by omega, fun h => ⟨fun hb => ?_, fun hb => by omega⟩⟩;exfalso;simp only [yz, beq_iff_eq] at hw;simp only [zdk, yx, ua, uf] at hb;omega
    ·rw [if_neg hw];by_cases hh : ((l[i].toNat : Nat) : Int) = 35
     ·rw [if_pos (by simp [hh]), zkc hi, ya, zgl (f := fun q => zgn n q) (p := fun q => q != 10) (fun q => rfl) (by rw [yZ]; omega) (by rw [yZ]; omega), ya];have hrun : 1 ≤ runP (fun q => q != 10) (l.drop i) := by
       rw [zj hlt, runP, hh]; simp
      have hle := zkN (fun q => q != 10) (l.drop i);simp only [yZ] at hle;rw [zcY (by omega)];obtain ⟨k, e, k1, k2, -⟩ := hr ((i + runP (fun q => q != 10) (l.drop i) : Nat) : Int) ⟨_, rfl, by omega⟩ (by simp only [yq]; omega);simp only [yq] at k2;refine ⟨k, e, k1, by omega, fun h => ⟨fun hb => ?_, fun hb => by omega⟩⟩;rw [hh] at hb; exact absurd hb (by decide)
     ·rw [if_neg (by simpa using hh)];refine ⟨i, rfl, hi, yn _, fun h => ⟨fun _ => rfl, fun hb => ?_⟩⟩;exfalso;simp only [yz, beq_iff_eq, not_or] at hw;simp only [zdk, Bool.not_eq_false', yz, beq_iff_eq] at hb;omega
   ·have : i = l.length := by omega
    subst this;refine ⟨l.length, by simp [zcP.l1], yn _, by simp, fun h => by simp at h⟩) n 0 ⟨0, rfl, by omega⟩ (by simp; omega)
 obtain ⟨k, e, k1, -, k2⟩ := this;exact ⟨k, by simpa [zcP] using e, k1, fun h hb => (k2 h).1 hb, fun h hb => (k2 h).2 hb⟩
theorem zgo {n : Nat} {l : List UInt8} (hn : 1000000 ≤ n) : ∃ k : Int, zbd n l = some k := by
 have := zc9 (body := zbd.l1 n l) (fun s : Int => 5 - s.toNat) (fun s => ∃ i : Nat, s = i ∧ i ≤ 5) (fun _ o => ∃ k : Int, o = some k) (fun rec s hI hr => by
  obtain ⟨i, rfl, hi⟩ := hI;simp only [zbd.l1];generalize hL : ([[61, 61], [33, 61], [60, 61], [62, 61], [46, 46]] : List (List UInt8)) = L;have hLl : L.length = 5 := by rw [← hL]; rfl
  by_cases hlt : i < L.length
  ·have hp : ∃ b, zcS n l L[i] = some b := by
    simp only [zcS, zbn];by_cases h : L[i].length ≤ l.length
    ·have : cut l 0 (L[i].length : Int) = some ((l.drop 0).take (L[i].length - 0)) := zgi (a := 0) (by omega) (by omega)
     simp [this, grd]
    ·simp [h, grd]
   obtain ⟨b, hp⟩ := hp;have hd : decide ((i : Int) < (([[61, 61], [33, 61], [60, 61], [62, 61], [46, 46]] : List (List Nat)).length : Int)) = true := by simp; omega
   simp only [hd, if_true, za hlt, ya, hp, zb (i := i) (by omega)];split
   ·exact ⟨_, rfl⟩
   ·exact hr _ ⟨i + 1, rfl, by omega⟩ (by simp only [yq]; omega)
  ·have hd : decide ((i : Int) < (([[61, 61], [33, 61], [60, 61], [62, 61], [46, 46]] : List (List Nat)).length : Int)) = false := by simp; omega
   rw [hd, if_neg (by simp)];cases l with
   | nil => simp [grd]
   | cons b l =>
    have h0 : sidx (b :: l) 0 = some ((b.toNat : Nat) : Int) := zc7 (l := b :: l) (i := 0) (by simp)
    simp only [h0, zcc, zbo, ya, yj, yr, grd, if_true, yf];split <;> exact ⟨_, rfl⟩) n 0 ⟨0, rfl, by omega⟩ (by simp; omega)
 simpa [zbd] using this
theorem zkp {n} {l : List UInt8} (hn : 1000000 ≤ n) (h : 0 < l.length) : ∃ b, zdg n l = some b := by
 obtain ⟨k, hk⟩ := zgo (n := n) (l := l) hn;have h0 : sidx l 0 = some ((l[0].toNat : Nat) : Int) := zc7 (i := 0) h;simp [zdg, h0, zcB, zbi, hk, grd]
theorem lexer_wrong_tt {n : Nat} {l : List UInt8} {k : (Int × Int) → Option Token} (hl : l.length < 1000000) (hn : 1000000 ≤ n) (h1 : 0 < l.length) : ∃ e, loopF (zax.l2 n l k) n 1 = k (5, e) := by
 refine zc9 (body := zax.l2 n l k) (fun s : Int => l.length - s.toNat) (fun s => ∃ i : Nat, s = i ∧ i ≤ l.length) (fun _ o => ∃ e, o = k (5, e)) (fun rec s hI hr => ?_) n 1 ⟨1, rfl, h1⟩ (by simp; omega);obtain ⟨i, rfl, hi⟩ := hI;by_cases hlt : i < l.length
 ·obtain ⟨b, hb⟩ := zkp (n := n) (l := l.drop i) hn (by simp; omega);simp only [zax.l2, zh hlt, zc7 hlt, zb0, zkc hi, hb, yj, yr, grd, if_true, yf, zb (i := i) (by omega)];split
  ·exact hr _ ⟨i + 1, rfl, by omega⟩ (by simp only [yq]; omega)
  ·exact ⟨_, rfl⟩
 ·have : i = l.length := by omega
  subst this;exact ⟨(l.length : Int), by simp [zax.l2, grd]⟩
def wordP (w : List UInt8) : Bool := (match w with | [] => false | b :: _ => zbN (b.toNat : Nat)) && decide (runP partP w = w.length)
theorem zi8 (w : List UInt8) (h : 0 < w.length) : wordP w = (zbN (w[0].toNat : Nat) && decide (runP partP w = w.length)) := by
 cases w with
 | nil => simp at h
 | cons b l => rfl
theorem lexer_first {n : Nat} {w : List UInt8} {kw : GMap (List UInt8) Bool} (hl : w.length < 1000000) (hn : 1000000 ≤ n) (h0 : 0 < w.length) :
  ∃ t, zax n w kw = some t ∧ (t.at_ = 0 ∧ t.end_ = (w.length : Int) ∧ t.kind = 1 ↔ wordP w = true ∧ (kw.get? w).getD false = false) := by
 obtain ⟨k, e, k1, k2, k3⟩ := lexer_skip_tt (n := n) (l := w) hl hn;unfold zax;rw [zgp (by omega)];have hz : add64 0 (k : Int) = (k : Int) := by have := zcY (a := 0) (b := k) (by omega); simpa using this
 simp only [zax.l1, cut_all, ya, e, hz, zkc k1, jn];by_cases hk : k = w.length
 ·subst hk;rw [if_pos (by simp)];refine ⟨_, rfl, ?_⟩;simp only [];constructor
  ·rintro ⟨-, -, h⟩; simp at h
  ·rintro ⟨h, -⟩;exfalso;rw [zi8 w h0, yb] at h;have := k2 h0 (zdT h.1); omega
 ·have hd : 0 < (w.drop k).length := by simp; omega
  rw [if_neg (by simp; omega)];have hs : sidx (w.drop k) 0 = some (((w.drop k)[0].toNat : Nat) : Int) := zc7 (i := 0) hd;simp only [hs, ya, zkq];rw [zi8 w h0];by_cases hlet : zbN (((w.drop k)[0].toNat : Nat) : Int) = true
  ·rw [if_pos hlet, zgl (p := partP) (fun q => by simp [ziX, zcB, zbi, grd, partP, zbN, zji]) (by simp; omega) (by simp; omega)];have hle := zkN partP (w.drop k);have hc := zgi (l := w.drop k) (a := 0) (b := runP partP (w.drop k)) (by omega) hle;simp only [ya, Int.natCast_zero] at hc ⊢;rw [hc];simp only [yZ] at hle;have ha : add64 (k : Int) (runP partP (w.drop k) : Nat) = ((k + runP partP (w.drop k) : Nat) : Int) := zcY (by omega)
   simp only [ya, ha, List.drop_zero, Nat.sub_zero];by_cases hk0 : k = 0
   ·subst hk0;simp only [List.drop_zero] at hlet ⊢;by_cases hrun : runP partP w = w.length
    ·rw [hrun, List.take_of_length_le (yn _)];by_cases hkw : (kw.get? w).getD false = true
     ·rw [if_pos hkw];refine ⟨_, rfl, ?_⟩;simp [hkw]
     ·rw [if_neg hkw];refine ⟨_, rfl, ?_⟩;simp only [yF] at hkw;simp [hkw, hlet]
    ·split
     all_goals
      refine ⟨_, rfl, ?_⟩;simp [hrun]
      try omega
   ·have hbl : zdk (w[0].toNat : Nat) = false := by
     cases hb : zdk (w[0].toNat : Nat) with
     | false => rfl
     | true => exact absurd (k2 h0 hb) hk0
    have hnl : zbN (w[0].toNat : Nat) = false := by
     cases hb : zbN (w[0].toNat : Nat) with
     | false => rfl
     | true => rw [zdT hb] at hbl; cases hbl
    split
    all_goals
     refine ⟨_, rfl, ?_⟩;simp [hnl, hk0]
  ·rw [if_neg hlet];have hno : k = 0 → zbN (w[0].toNat : Nat) = false := by
    intro hk0; subst hk0;simp only [List.drop_zero, yF] at hlet;exact hlet
   have hno' : zbN (w[0].toNat : Nat) = false := by
    by_cases hk0 : k = 0
    ·exact hno hk0
    ·cases hb : zbN (w[0].toNat : Nat) with
     | false => rfl
     | true => exact absurd (k2 h0 (zdT hb)) hk0
   simp only [lexer_digit_eq, ya, hno', y6, ye, false_and, iff_false];split
   ·rw [zgl (p := zji) (fun q => rfl) (by simp; omega) (by simp; omega)];exact ⟨_, rfl, by simp⟩
   ·obtain ⟨v, hv⟩ := zgo (n := n) (l := w.drop k) hn;simp only [hv, ya];split
    ·exact ⟨_, rfl, by simp⟩
    ·obtain ⟨e, he⟩ := lexer_wrong_tt (n := n) (l := w.drop k) (k := fun v => some (⟨v.1, 0, (k : Int), add64 (k : Int) v.2⟩ : Token)) (by simp; omega) hn hd;rw [he];exact ⟨_, rfl, by simp⟩
def kwL : List (List UInt8) := [[115, 111, 114, 116], [114, 101, 108, 97, 116, 105, 111, 110], [99, 111, 117, 110, 116, 101, 114], [115, 101, 116], [114, 101, 103, 105, 115, 116, 101, 114], [105, 110, 118, 97, 114, 105, 97, 110, 116], [111, 112, 101, 114, 97, 116, 105, 111, 110], [107, 101, 121], [114, 101, 102, 101, 114, 101, 110, 99, 101], [116, 111], [99, 111, 117, 110, 116], [97, 99, 121, 99, 108, 105, 99], [97, 108, 108], [115, 117, 109], [105, 110], [97, 100, 100, 119, 105, 110, 115], [114, 101, 109, 111, 118, 101, 119, 105, 110, 115], [108, 97, 115, 116], [109, 117, 108, 116, 105], [104, 105, 100, 101], [111, 114, 100, 101, 114, 101, 100], [114, 101, 113, 117, 105, 114, 101], [104, 111, 108, 100], [105, 110, 115, 101, 114, 116], [100, 101, 108, 101, 116, 101], [97, 100, 100], [102, 114, 111, 109], [112, 117, 116], [100, 114, 111, 112], [97, 115, 115, 105, 103, 110], [102, 111, 114], [119, 104, 101, 114, 101], [97, 110, 100], [111, 114], [110, 111, 116]]
structure Fuel (n : Nat) : Prop where
 big : 4294967296 ≤ n
 kw : ∃ m, zbE n = some m ∧ SetIs m kwL
def nameP (w : List UInt8) : Bool := decide (w.length ≤ 16) && (wordP w && !decide (w ∈ kwL))
theorem zh9 {n} {w : List UInt8} (hF : Fuel n) : zfk n w = some (nameP w) := by
 have hn := hF.big;unfold zfk nameP;by_cases h16 : w.length ≤ 16
 ·have hd : decide ((w.length : Int) ≤ 16) = true := by simp; omega
  simp only [hd, h16, decide_true, yD, y8, uw];unfold zef;obtain ⟨m, hm, hs⟩ := hF.kw;cases hw : w with
  | nil => simp [grd, wordP]
  | cons b l =>
   rw [← hw];have h0 : 0 < w.length := by rw [hw]; simp
   rw [if_neg (by simp; exact ⟨by rw [hw]; simp, by omega⟩), hm, ya];obtain ⟨t, ht, hiff⟩ := lexer_first (n := n) (w := w) (kw := m) (by omega) (by omega) h0;rw [hs.get] at hiff;simp only [ht, ya];by_cases hc : t.at_ = 0 ∧ t.end_ = (w.length : Int) ∧ t.kind = 1
   ·have := hiff.1 hc;rw [if_neg (by simp [hc.1, hc.2.1])];simp only [yC] at this;simp [grd, hc.2.2, this.1, this.2]
   ·have hr : (wordP w && !decide (w ∈ kwL)) = false := by
     cases hx : (wordP w && !decide (w ∈ kwL)) with
     | false => rfl
     | true =>
      simp only [yb, yx, yC] at hx;exact absurd (hiff.2 ⟨hx.1, by simp [hx.2]⟩) hc
    rw [hr];split
    ·simp [grd]
    ·rename_i hne;simp only [yz, bne_iff_ne, ne_eq, not_or, Decidable.not_not] at hne;have : t.kind ≠ 1 := fun e => hc ⟨hne.1, hne.2, e⟩
     simp [grd, this]
 ·have hd : decide ((w.length : Int) ≤ 16) = false := by simp; omega
  simp [hd, h16, grd]
theorem ref_comment {n} {t : List UInt8} {rec x} (hx : x ≤ t.length) (hl : t.length < 1000000) (hn : 1000000 ≤ n) :
  ∃ y : Nat, x ≤ y ∧ y ≤ t.length ∧ loopF (zbc.l2 n t rec) n x = rec (y : Int) ∧ ∀ h : x < t.length, (t[x].toNat : Nat) = 35 → x < y := by
 have := zc9 (body := zbc.l2 n t rec) (fun s : Int => t.length - s.toNat) (fun s => ∃ i : Nat, s = i ∧ i ≤ t.length) (fun s o => ∃ y : Nat, s.toNat ≤ y ∧ y ≤ t.length ∧ o = rec (y : Int) ∧ ∀ h : s.toNat < t.length, (t[s.toNat].toNat : Nat) = 35 → s.toNat < y) (fun r s hI hr => by
  obtain ⟨i, rfl, hi⟩ := hI;by_cases hlt : i < t.length
  ·simp only [zbc.l2, zh hlt, zc7 hlt, yj, yr, grd, if_true, yf, yD, zb (i := i) (by omega), yq];by_cases h10 : ((((t[i].toNat : Nat) : Int) != 10)) = true
   ·rw [if_pos h10];obtain ⟨y, y1, y2, y3, -⟩ := hr ((i + 1 : Nat) : Int) ⟨_, rfl, by omega⟩ (by simp only [yq]; omega);simp only [yq] at y1;exact ⟨y, by omega, y2, y3, fun _ _ => by omega⟩
   ·rw [if_neg h10];refine ⟨i, yn _, hi, rfl, fun _ h => ?_⟩;rw [h] at h10; exact absurd h10 (by decide)
  ·have : i = t.length := by omega
   subst this;exact ⟨t.length, by simp, yn _, by simp [zbc.l2, grd], fun h => by simp at h⟩) n x ⟨x, rfl, hx⟩ (by simp; omega)
 simpa using this
theorem zhP {n} {t : List UInt8} {a} (ha : a ≤ t.length) (hl : t.length < 1000000) (hn : 1000000 ≤ n) :
  ∃ k : Nat, zbc n t a = some (k : Int) ∧ a ≤ k ∧ k ≤ t.length ∧ (∀ h : k < t.length, zdk (t[k].toNat : Nat) = true) ∧ (∀ h : a < t.length, zdk (t[a].toNat : Nat) = true → k = a) := by
 have := zc9 (body := zbc.l1 n t) (fun s : Int => t.length - s.toNat) (fun s => ∃ i : Nat, s = i ∧ i ≤ t.length)
  (fun s o => ∃ k : Nat, o = some (k : Int) ∧ s.toNat ≤ k ∧ k ≤ t.length ∧ (∀ h : k < t.length, zdk (t[k].toNat : Nat) = true) ∧ (∀ h : s.toNat < t.length, zdk (t[s.toNat].toNat : Nat) = true → k = s.toNat)) (fun r s hI hr => by
  obtain ⟨i, rfl, hi⟩ := hI;by_cases hlt : i < t.length
  ·simp only [zbc.l1, zh hlt, zc7 hlt, zaQ, yj, yr, grd, if_true, yf, yD, ya, zb (i := i) (by omega), yq];by_cases hb : zdk (t[i].toNat : Nat) = true
   ·rw [if_neg (by
     simp only [zdk, yx, ua, uf] at hb;simp only [yz, beq_iff_eq]; omega)]
    exact ⟨i, rfl, yn _, hi, fun _ => hb, fun _ _ => rfl⟩
   ·rw [if_pos (by
     simp only [zdk, yx, ua, uf] at hb;simp only [yz, beq_iff_eq]; omega)]
    by_cases hh : (t[i].toNat : Nat) = 35
    ·rw [if_pos (by simp [hh])];obtain ⟨y, y1, y2, y3, y4⟩ := ref_comment (n := n) (rec := r) hi hl hn;have y5 := y4 hlt hh;rw [y3];obtain ⟨k, e, k1, k2, k3, -⟩ := hr (y : Int) ⟨y, rfl, y2⟩ (by simp only [yq]; omega);simp only [yq] at k1;exact ⟨k, e, by omega, k2, k3, fun _ h => absurd h hb⟩
    ·rw [if_neg (by simp; omega)];obtain ⟨k, e, k1, k2, k3, -⟩ := hr ((i + 1 : Nat) : Int) ⟨_, rfl, by omega⟩ (by simp only [yq]; omega);simp only [yq] at k1;exact ⟨k, e, by omega, k2, k3, fun _ h => absurd h hb⟩
  ·have : i = t.length := by omega
   subst this;exact ⟨t.length, by simp [zbc.l1, grd], by simp, yn _, fun h => absurd h (by omega), fun h => by simp at h⟩) n a ⟨a, rfl, ha⟩ (by simp; omega)
 simpa [zbc] using this
theorem ziq {n} {t : List UInt8} {a} (ha : a ≤ t.length) (hl : t.length < 1000000) (hn : 1000000 ≤ n) : ∃ v : Nat, zbe n t a = some (v : Int) ∧ a + v ≤ t.length := by
 unfold zbe;simp only [zfS, ya];generalize hL : ([[61, 61], [33, 61], [60, 61], [62, 61], [46, 46], [60], [62], [61], [43], [45], [42], [40], [41], [123], [125], [44], [58], [59]] : List (List UInt8)) = L;have hLl : L.length = 18 := by rw [← hL]; rfl
 have hL2 : ∀ x ∈ L, x.length ≤ 2 := by rw [← hL]; decide
 refine zc9 (body := zbe.l1 n t a L) (fun s : Int => 18 - s.toNat) (fun s => ∃ i : Nat, s = i ∧ i ≤ 18) (fun s o => ∃ v : Nat, o = some (v : Int) ∧ a + v ≤ t.length) (fun r s hI hr => ?_) n 0 ⟨0, rfl, by omega⟩ (by simp; omega);obtain ⟨i, rfl, hi⟩ := hI;by_cases hlt : i < L.length
 ·have h2 := hL2 _ (yg hlt);simp only [zbe.l1, zh hlt, if_true, za hlt, ya, yj, yf, yr, zb (i := i) (by omega), zcY (show a + L[i].length < 9223372036854775808 by omega)];by_cases hle : a + L[i].length ≤ t.length
  ·simp only [zgi (l := t) (a := a) (b := a + L[i].length) (by omega) hle, yj, yr, grd, if_true];split
   ·exact ⟨_, rfl, hle⟩
   ·exact hr _ ⟨i + 1, rfl, by omega⟩ (by simp only [yq]; omega)
  ·have hd : decide (((a + L[i].length : Nat) : Int) ≤ (t.length : Int)) = false := by simp; omega
   simp only [hd, uD, uG, grd, if_true, y6, ye, if_false];exact hr _ ⟨i + 1, rfl, by omega⟩ (by simp only [yq]; omega)
 ·have : i = L.length := by omega
  subst this;exact ⟨0, by simp [zbe.l1], by omega⟩
theorem zi2 {n} {L : List (List UInt8)} {w : List UInt8} (hl : L.length < 1000000) (hn : 1000000 ≤ n) : zcp n L w = some (decide (w ∈ L)) := by
 have := zF (body := zcp.l1 n L w) (len := L.length) (st := fun i => (i : Int)) (g := fun i => some (decide (w ∈ L.drop i))) (fun rec i hi hr => ?_) (fun rec => ?_) n 0 (yp _) (by omega)
 ·simpa [zcp] using this
 ·simp only [zcp.l1, zh hi, if_true, za hi, ya, zb (i := i) (by omega), hr];rw [zj hi];by_cases h : L[i] = w
  ·rw [if_pos (by simpa using h)];simp only [yP, h, true_or, decide_true]
  ·have h' : ¬ w = L[i] := fun e => h e.symm
   rw [if_neg (by simpa using h)];simp only [yP, h', false_or]
 ·simp [zcp.l1]
theorem zgI {n} : ze2 n = some kwL := rfl
theorem zjv {n} {t : List UInt8} {a} (ha : a < t.length) (hb : zdk (t[a].toNat : Nat) = true) (hl : t.length < 1000000) (hn : 1000000 ≤ n) :
  ∃ (k : Int) (e : Nat), zar n t a = some (k, (e : Int)) ∧ a < e ∧ e ≤ t.length ∧ (zbN (t[a].toNat : Nat) = true → e = a + runP partP (t.drop a)) ∧ (k = 1 ↔ zbN (t[a].toNat : Nat) = true ∧ (t.drop a).take (e - a) ∉ kwL) := by
 unfold zar;simp only [zc7 ha, ya, zfW, zeP];by_cases hlet : zbN ((t[a].toNat : Nat) : Int) = true
 ·rw [if_pos hlet];have hlp : zbN (t[a].toNat : Nat) = true := hlet;have hrun1 : 1 ≤ runP partP (t.drop a) := by
   rw [zj ha, runP, if_pos (by simp [partP, hlp])]; omega
  have hle := zkN partP (t.drop a);simp only [yZ] at hle;have := zbA (body := zar.l1 n t a) (len := t.length) (st := fun (_ : Unit) i => (i : Int)) (g := fun i _ => some (if decide ((t.drop a).take (i + runP partP (t.drop i) - a) ∈ kwL) = true then (2, ((i + runP partP (t.drop i) : Nat) : Int)) else (1, ((i + runP partP (t.drop i) : Nat) : Int)))) (fun i _ => a ≤ i) (fun rec i _ hi hai hr => ?_) (fun rec _ hai => ?_) n a () (by omega) (by omega) (yn _)
  ·rw [this];refine ⟨if decide ((t.drop a).take (a + runP partP (t.drop a) - a) ∈ kwL) = true then 2 else 1, a + runP partP (t.drop a), ?_, by omega, by omega, fun _ => rfl, ?_⟩
   ·split <;> rfl
   ·rw [hlp];by_cases hk : (t.drop a).take (a + runP partP (t.drop a) - a) ∈ kwL
    ·simp [hk]
    ·simp [hk]
  ·have hr := hr () (by omega);have hle' := zkN partP (t.drop i);simp only [yZ] at hle';simp only [zar.l1, zh hi, zc7 hi, zfW, zeP, yj, yr, grd, if_true, yf, yD, zb (i := i) (by omega), hr];rw [zj hi, runP];have hpe : (zbN ((t[i].toNat : Nat) : Int) || zji ((t[i].toNat : Nat) : Int) || ((t[i].toNat : Nat) : Int) == 95) = partP ((t[i].toNat : Nat) : Int) := rfl;rw [hpe];by_cases hp : partP (t[i].toNat : Nat) = true
   ·rw [if_pos hp, if_pos hp, show i + (runP partP (t.drop (i + 1)) + 1) = i + 1 + runP partP (t.drop (i + 1)) by omega]
   ·rw [if_neg hp, if_neg hp];simp only [uo, zgI, ya, zgi hai (Nat.le_of_lt hi)];rw [zi2 (by decide) hn, ya];cases decide ((t.drop a).take (i - a) ∈ kwL) <;> rfl
  ·simp only [zar.l1, zah, uD, uG, grd, if_true, y6, ye, if_false, zgI, ya, zgi hai (yn _)];rw [zi2 (by decide) hn, ya];simp only [List.drop_length, runP, uo];cases decide ((t.drop a).take (t.length - a) ∈ kwL) <;> rfl
 ·rw [if_neg hlet];have hlp : zbN (t[a].toNat : Nat) = false := by simpa using hlet
  simp only [hlp, ye, false_implies, false_and, iff_false, true_and];by_cases hdig : zji ((t[a].toNat : Nat) : Int) = true
  ·rw [if_pos hdig];have := zc9 (body := zar.l2 n t) (fun s : Int => t.length - s.toNat) (fun s => ∃ i : Nat, s = i ∧ i ≤ t.length) (fun s o => ∃ e : Nat, o = some (3, (e : Int)) ∧ s.toNat ≤ e ∧ e ≤ t.length ∧ ∀ h : s.toNat < t.length, zji (t[s.toNat].toNat : Nat) = true → s.toNat < e) (fun r s hI hr => by
    obtain ⟨i, rfl, hi⟩ := hI;by_cases hlt : i < t.length
    ·simp only [zar.l2, zh hlt, zc7 hlt, zeP, yj, yr, grd, if_true, yf, yD, zb (i := i) (by omega), yq];split
     ·obtain ⟨e, e1, e2, e3, -⟩ := hr ((i + 1 : Nat) : Int) ⟨_, rfl, by omega⟩ (by simp only [yq]; omega);simp only [yq] at e2;exact ⟨e, e1, by omega, e3, fun _ _ => by omega⟩
     ·rename_i hno;exact ⟨i, rfl, yn _, hi, fun _ h => absurd h hno⟩
    ·have : i = t.length := by omega
     subst this;exact ⟨t.length, by simp [zar.l2, grd], by simp, yn _, fun h => by simp at h⟩) n a ⟨a, rfl, Nat.le_of_lt ha⟩ (by simp; omega)
   obtain ⟨e, e1, -, e3, e4⟩ := this;exact ⟨3, e, e1, e4 ha hdig, e3, by decide⟩
  ·rw [if_neg hdig];obtain ⟨v, hv, hv2⟩ := ziq (n := n) (t := t) (a := a) (Nat.le_of_lt ha) hl hn;rw [hv, ya];by_cases hv0 : 0 < v
   ·rw [if_pos (by simpa using hv0), zcY (by omega)];exact ⟨4, a + v, rfl, by omega, hv2, by decide⟩
   ·have hv0 : v = 0 := by omega
    subst hv0;rw [if_neg (by simp)];have := zc9 (body := zar.l3 n t) (fun s : Int => t.length - s.toNat) (fun s => ∃ i : Nat, s = i ∧ i ≤ t.length) (fun s o => ∃ e : Nat, o = some (5, (e : Int)) ∧ s.toNat ≤ e ∧ e ≤ t.length ∧ (s = a → a < e)) (fun r s hI hr => by
     obtain ⟨i, rfl, hi⟩ := hI;by_cases hlt : i < t.length
     ·obtain ⟨u, hu, -⟩ := ziq (n := n) (t := t) (a := i) hi hl hn;simp only [zar.l3, zh hlt, zc7 hlt, zaQ, zfW, zeP, hu, yj, yr, grd, if_true, yf, yD, zb (i := i) (by omega), yq];split
      ·obtain ⟨e, e1, e2, e3, -⟩ := hr ((i + 1 : Nat) : Int) ⟨_, rfl, by omega⟩ (by simp only [yq]; omega);simp only [yq] at e2;exact ⟨e, e1, by omega, e3, fun h => by omega⟩
      ·rename_i hno;refine ⟨i, rfl, yn _, hi, fun h => ?_⟩;have hia : i = a := by omega
       subst hia;exfalso; apply hno;rw [hv] at hu;simp only [yi, Int.natCast_inj] at hu;subst hu;simp only [zdk, yx, ua, uf] at hb;simp only [yb, bne_iff_ne, ne_eq, yx, ua, uf];simp only [yF] at hlet hdig;exact ⟨⟨⟨⟨by omega, by omega⟩, hlet⟩, hdig⟩, by simp⟩
     ·have : i = t.length := by omega
      subst this;exact ⟨t.length, by simp [zar.l3, grd], by simp, yn _, fun h => by omega⟩) n a ⟨a, rfl, Nat.le_of_lt ha⟩ (by simp; omega)
    obtain ⟨e, e1, -, e3, e4⟩ := this;exact ⟨5, e, e1, e4 rfl, e3, by decide⟩
theorem zq {α : Type} {b : Nat} {xs ys : List α} (h : (xs.length + ys.length) * b ≤ 140737488355328) : Go.Proofs.YtcagdmegicijlaaGreatDoor.app b xs ys = some (xs ++ ys) := by
 unfold Go.Proofs.YtcagdmegicijlaaGreatDoor.app; rw [if_pos h]
theorem zkM {n : Nat} {t : List UInt8} (hl : t.length < 1000000) (hn : 1000000 ≤ n) : ∀ (m : Nat) (b : List Token) (a : Nat), a ≤ t.length → b.length ≤ a → t.length - a < m → ∃ r, r ≠ [] ∧ loopF (zcQ.l1 n t) m (b, (a : Int)) = some (b ++ r, 0)
 | 0, _, _, _, _, h => by omega
 | m + 1, b, a, ha, hb, h => by
  obtain ⟨k, e, k1, k2, k3, -⟩ := zhP (n := n) ha hl hn;simp only [loopF, zcQ.l1, e, ya];by_cases hlt : k < t.length
  ·obtain ⟨q, z, hz, z1, z2, -, -⟩ := zjv (n := n) hlt (k3 hlt) hl hn;simp only [zh hlt, if_true, hz, ya];rw [zq (by simp; omega), ya];obtain ⟨r, -, hr⟩ := zkM hl hn m (b ++ [(⟨q, (a : Int), (k : Int), (z : Int)⟩ : Token)]) z z2 (by simp; omega) (by omega);rw [hr];exact ⟨_ :: r, by simp, by rw [yJ]; rfl⟩
  ·rw [zb9 (by omega), if_neg (by simp), zq (by simp; omega), ya];exact ⟨_, by simp, rfl⟩
theorem ref_Kind_ok {n : Nat} {w : List UInt8} (hl : w.length ≤ 4096) (hn : 1000000 ≤ n) : ∃ k, zgV n w = some k ∧ (k = 1 ↔ wordP w = true ∧ w ∉ kwL) := by
 unfold zgV zcQ;rw [if_neg (by simp; omega), zgp (by omega)];obtain ⟨k, e, -, k2, k3, k4⟩ := zhP (n := n) (t := w) (a := 0) (by omega) (by omega) hn;simp only [Int.natCast_zero] at e;simp only [zcQ.l1, e, ya];by_cases hlt : k < w.length
 ·obtain ⟨q, z, hz, z1, z2, z3, z4⟩ := zjv (n := n) hlt (k3 hlt) (by omega) hn;simp only [zh hlt, if_true, hz, ya, yV];rw [zq (by simp), ya];obtain ⟨r, r0, hr⟩ := zkM (n := n) (t := w) (by omega) hn (n - 1) [(⟨q, 0, (k : Int), (z : Int)⟩ : Token)] z z2 (by simp; omega) (by omega);simp only [yV];rw [hr];have h0 : idx ([(⟨q, 0, (k : Int), (z : Int)⟩ : Token)] ++ r) 0 = some ⟨q, 0, (k : Int), (z : Int)⟩ := by simp [idx]
  simp only [ya, h0, yj, yr, grd, if_true, yf];rw [zi8 w (by omega)];have hw0 : k = 0 → z = w.length → (zbN (w[k].toNat : Nat) = true ∧ (w.drop k).take (z - k) ∉ kwL ↔ (zbN (w[0].toNat : Nat) && decide (runP partP w = w.length)) = true ∧ w ∉ kwL) := by
   intro e1 e2;subst e1;rw [e2];simp only [List.drop_zero, Nat.sub_zero, List.take_length, yb, yd];constructor
   ·rintro ⟨h1, h2⟩;have := z3 h1;simp only [List.drop_zero] at this;exact ⟨⟨h1, by omega⟩, h2⟩
   ·rintro ⟨⟨h1, -⟩, h2⟩;exact ⟨h1, h2⟩
  by_cases hc : ((((((0 : Int) != 0) || ((([(⟨q, 0, (k : Int), (z : Int)⟩ : Token)] ++ r).length : Int) != 2)) || ((k : Int) != 0)) || ((z : Int) != (w.length : Int)))) = true
  ·rw [if_pos hc];refine ⟨0, rfl, ?_⟩;constructor
   ·intro h; exact absurd h (by decide)
   ·rintro ⟨h1, h2⟩;exfalso;simp only [yb, yd] at h1;have hk0 : k = 0 := k4 (by omega) (zdT h1.1);subst hk0;have hzw := z3 h1.1;simp only [List.drop_zero] at hzw;have hzl : z = w.length := by omega
    subst hzl;rw [zgp (by omega)] at hr;obtain ⟨k', e', p1, p2, -, -⟩ := zhP (n := n) (t := w) (a := w.length) (yn _) (by omega) hn;have : k' = w.length := by omega
    subst this;simp only [zcQ.l1, e', ya, zah, ye, if_false] at hr;rw [zq (by simp), ya] at hr;simp only [yi, yH, and_true, List.append_cancel_left_eq] at hr;subst hr;simp at hc
  ·rw [if_neg hc];refine ⟨q, rfl, ?_⟩;simp only [yz, bne_iff_ne, ne_eq, not_or, Decidable.not_not] at hc;rw [z4];exact hw0 (by omega) (by omega)
 ·rw [zb9 (by omega), if_neg (by simp), zq (by simp), ya];simp only [yV, ya];refine ⟨0, by simp [grd, idx], ?_⟩;constructor
  ·intro h; exact absurd h (by decide)
  ·rintro ⟨h1, -⟩;exfalso;cases w with
   | nil => simp [wordP] at h1
   | cons x l =>
    simp only [wordP, yb] at h1;have := k4 (by simp) (zdT h1.1);simp at hlt; omega
theorem zik {n} {w : List UInt8} (hl : w.length ≤ 4096) (hn : 1000000 ≤ n) : zfp n w = some (nameP w) := by
 unfold zfp nameP;obtain ⟨k, hk, hiff⟩ := ref_Kind_ok (n := n) hl hn;rw [hk, ya];have h16 : decide ((w.length : Int) ≤ 16) = decide (w.length ≤ 16) := decide_eq_decide.2 (by omega);rw [h16, Bool.and_comm];congr 2;rw [Bool.eq_iff_iff];simp only [beq_iff_eq, hiff, yb, yx, yC]
theorem SetIs.getS {m : GMap (List UInt8) Bool} {l : List (List UInt8)} (h : SetIs m l) (k : List UInt8) : (m.get? k).getD false = decide (k ∈ l) := (h.get k).trans (decide_eq_decide.2 Iff.rfl)
def distP : List (List UInt8) → List (List UInt8) → Bool
 | _, [] => true
 | seen, s :: l => nameP s && !decide (s ∈ seen) && distP (seen ++ [s]) l
theorem zfl {n} {l : List (List UInt8)} (hF : Fuel n) (hl : l.length < 1000000) : zak n l = some (distP [] l) := by
 have hn := hF.big;have := zbA (body := zak.l1 n l) (len := l.length) (st := fun m i => (m, (i : Int))) (g := fun i _ => some (distP (l.take i) (l.drop i))) (fun i m => SetIs m (l.take i)) (fun rec i m hi hm hr => ?_) (fun rec m _ => ?_) n 0 (GMap.empty) (yp _) (by omega) (by simpa using SetIs.empty)
 ·simpa [zak] using this
 ·simp only [zak.l1, zh hi, if_true, za hi, ya, zh9 hF, hm.getS, zb (i := i) (by omega)];rw [hr _ (by rw [yy hi]; exact hm.put _), zj hi, distP, yy hi];cases nameP l[i] <;> cases hd : decide (l[i] ∈ l.take i) <;> simp
 ·simp [zak.l1, distP]
theorem zfq {n} {l : List (List UInt8)} (hn : 1000000 ≤ n) (hl : l.length < 1000000) (hw : ∀ w ∈ l, w.length ≤ 4096) : zal n l = some (distP [] l) := by
 have := zF (body := zal.l1 n l) (len := l.length) (st := fun i => (i : Int)) (g := fun i => some (distP (l.take i) (l.drop i))) (fun rec i hi hr => ?_) (fun rec => ?_) n 0 (yp _) (by omega)
 ·simpa [zal] using this
 ·have hc := zgi (l := l) (a := 0) (b := i) (by omega) (Nat.le_of_lt hi)
  simp only [Int.natCast_zero, List.drop_zero, Nat.sub_zero] at hc;simp only [zal.l1, zh hi, if_true, za hi, ya, zik (hw _ (yg hi)) hn, hc, yj, yf, yr, grd, zi2 (show (l.take i).length < 1000000 by simp; omega) hn, zb (i := i) (by omega), hr];rw [zj hi, distP, yy hi];cases nameP l[i] <;> cases hd : decide (l[i] ∈ l.take i) <;> simp
 ·simp [zal.l1, distP]
theorem IndexB_eq {n l v} (hl : l.length < 1000000) (hn : 1000000 ≤ n) : zX n l v = some (ixP (fun x => v == x) l 0) := by
 have := zF (body := zX.l1 n l v) (len := l.length) (st := fun i => (i : Int)) (g := fun i => some (ixP (fun x => v == x) (l.drop i) i)) (fun rec i hi hr => ?_) (fun rec => ?_) n 0 (yp _) (by omega)
 ·simpa [zX] using this
 ·simp only [zX.l1, zh hi, if_true, za hi, ya, zb (i := i) (by omega), hr];rw [zj hi];simp only [ixP];split <;> rfl
 ·simp [zX.l1, ixP]
theorem zje {n l} (hl : l.length < 1000000) (hn : 1000000 ≤ n) : zgc n l = some (l.all id) := by
 unfold zgc zbO;rw [IndexB_eq hl hn];simp only [ya, zgk, yi];rw [← zj3];congr 2;funext x; cases x <;> rfl
def b6 : Nat → Int → Int
 | 0, A => A
 | k + 1, A => b6 k (A * 6)
theorem b6_le : ∀ (k : Nat) (A : Int), 1 ≤ A → A ≤ b6 k A
 | 0, _, _ => Int.le_refl _
 | k + 1, A, h => Int.le_trans (by omega) (b6_le k (A * 6) (by omega))
theorem mul_small {a b A : Int} (h1 : 1 ≤ a) (h2 : a ≤ A) (h3 : 1 ≤ b) (h4 : b ≤ 6) : 1 ≤ a * b ∧ a * b ≤ A * 6 := by
 have e1 : 1 * 1 ≤ a * b := Int.mul_le_mul h1 h3 (by omega) (by omega);have e2 : a * b ≤ A * 6 := Int.mul_le_mul h2 h4 (by omega) (by omega);omega
theorem widthP_b6 (sizes : List Int) (hs : sizes.all zcq = true) : ∀ (cols : List Int) (s A : Int), cols.all (colOK sizes) = true → 1 ≤ s → s ≤ A → b6 cols.length A ≤ 1000000 → 1 ≤ zag sizes cols s ∧ zag sizes cols s ≤ b6 cols.length A
 | [], s, A, _, h1, h2, _ => by simpa [zag, b6] using ⟨h1, h2⟩
 | c :: l, s, A, hc, h1, h2, h3 => by
  simp only [ub, yb] at hc;have hcol := hc.1;simp only [colOK, yb, yd] at hcol;obtain ⟨k, rfl⟩ := yW hcol.1;have hk : k < sizes.length := by omega
  have hz := ym.1 hs _ (yg hk);simp only [zcq, yb, yd] at hz;have hg : sizes.getD (k : Int).toNat 0 = sizes[k] := by simp [List.getD, hk]
  have hm := mul_small h1 h2 hz.1 hz.2;simp only [yQ, b6] at h3 ⊢;have hb := b6_le l.length (A * 6) (by omega);simp only [zag, hg];unfold mul64;rw [zaL (by omega) (by omega)];exact widthP_b6 sizes hs l _ _ hc.2 hm.1 hm.2 h3
theorem zgM {sizes cols} (hs : sizes.all zcq = true) (hc : cols.all (colOK sizes) = true) (h3 : cols.length ≤ 3) : 1 ≤ zag sizes cols 1 ∧ zag sizes cols 1 ≤ 216 := by
 have h : b6 cols.length 1 ≤ 216 := by
  match cols, h3 with
  | [], _ => decide
  | [_], _ => simp [b6]
  | [_, _], _ => simp [b6]
  | [_, _, _], _ => simp [b6]
  | _ :: _ :: _ :: _ :: _, h => simp at h
 have := widthP_b6 sizes hs cols 1 1 hc (by decide) (by decide) (by omega);omega
def zbx (k : Int) : Bool := k == 0 || k == 1
def zgD (t : Table) : Bool := if (t.kind == 1 || t.kind == 4 || t.kind == 5) = true then (decide (t.range.lo ≤ t.range.hi) && decide (-9999 ≤ t.range.lo)) && decide (t.range.hi ≤ 9999) else decide (t.range = (⟨0, 1⟩ : Range))
def tabP (sizes : List Int) (t : Table) : Bool := nameP t.name && (decide (0 ≤ t.kind) && decide (t.kind ≤ 5)) && (decide (t.columns.length ≤ 3) && t.columns.all (colOK sizes)) && zgD t
def layP (sizes : List Int) : List (List UInt8) → Int → Int → List Table → Bool
 | _, a, b, [] => decide (a ≤ 128) && decide (b ≤ 64)
 | seen, a, b, t :: l => (tabP sizes t && !decide (t.name ∈ seen)) && (if zbx t.kind = true then t.first == a && layP sizes (seen ++ [t.name]) (add64 a (zag sizes t.columns 1)) b l else t.first == b && layP sizes (seen ++ [t.name]) a (add64 b (zag sizes t.columns 1)) l)
def zbh (sizes : List Int) (tables : List Table) : Bool := decide (sizes.length ≤ 4) && decide (tables.length ≤ 12) && sizes.all zcq && layP sizes [] 0 0 tables
theorem zj6 {n t} : zeI n t = some (zgD t) := by
 unfold zeI zgD jn;by_cases h1 : t.kind = 1
 ·simp [h1]
 ·by_cases h4 : t.kind = 4
  ·simp [h4]
  ·by_cases h5 : t.kind = 5
   ·simp [h5]
   ·simp [h1, h4, h5]
theorem zeV {n sizes tables} (hF : Fuel n) (hs : sizes.length ≤ 1000) (ht : tables.length ≤ 1000) (hc : ∀ t ∈ tables, t.columns.length ≤ 1000) : zbH n sizes tables = some (zbh sizes tables) := by
 have hn := hF.big;unfold zbH zbh;rw [cells_sized_eq (by omega) (by omega), ya, zje (by simp) (by omega), ya];simp only [ub, List.all_nil, id, ul];have e1 : decide ((sizes.length : Int) ≤ 4) = decide (sizes.length ≤ 4) := decide_eq_decide.2 (by omega);have e2 : decide ((tables.length : Int) ≤ 12) = decide (tables.length ≤ 12) := decide_eq_decide.2 (by omega);rw [e1, e2, ← Bool.and_assoc];by_cases h : (decide (sizes.length ≤ 4) && decide (tables.length ≤ 12) && sizes.all zcq) = true
 ·rw [h, if_neg (by simp), yD];have := zbA (body := zbH.l1 n sizes tables) (len := tables.length) (st := fun (s : GMap (List UInt8) Bool × Int × Int) i => (s.1, s.2.1, s.2.2, (i : Int))) (g := fun i s => some (layP sizes ((tables.take i).map (·.name)) s.2.1 s.2.2 (tables.drop i))) (fun i s => SetIs s.1 ((tables.take i).map (·.name))) (fun rec i s hi hm hr => ?_) (fun rec s _ => ?_) n 0 (GMap.empty, 0, 0) (yp _) (by omega) (by simpa using SetIs.empty)
  ·simpa using this
  ·obtain ⟨m, a, b⟩ := s;simp only [] at hm;have hmem := yg hi;have hcols := hc _ hmem;simp only [zbH.l1, jn, zh hi, if_true, za hi, ya, zh9 hF, hm.getS, zdS, ziG (show tables[i].columns.length < 4611686018427387904 by omega) (show tables[i].columns.length < n by omega), zj6, zbY, zb (i := i) (by omega)];rw [zje (by simp) (by omega), ya];simp only [ub, List.all_nil, id, ul];have hput := hm.put tables[i].name;have htk : ((tables.take (i + 1)).map (·.name)) = (tables.take i).map (·.name) ++ [tables[i].name] := by rw [yy hi, uh]; rfl
   rw [← htk] at hput;have hT : (nameP tables[i].name && (!decide (tables[i].name ∈ (tables.take i).map (·.name)) && (decide (0 ≤ tables[i].kind) && decide (tables[i].kind ≤ 5) && (decide (tables[i].columns.length ≤ 3) && tables[i].columns.all (colOK sizes) && zgD tables[i])))) = (tabP sizes tables[i] && !decide (tables[i].name ∈ (tables.take i).map (·.name))) := by
    unfold tabP;cases nameP tables[i].name <;> cases decide (tables[i].name ∈ (tables.take i).map (·.name)) <;> simp [Bool.and_assoc]
   rw [hT, zj hi, layP];by_cases hv : (tabP sizes tables[i] && !decide (tables[i].name ∈ (tables.take i).map (·.name))) = true
   ·rw [hv, if_neg (by simp), yD];have hcol : tables[i].columns.all (colOK sizes) = true := by
     simp only [tabP, yb] at hv; exact hv.1.1.2.2
    simp only [zeX hcol (show tables[i].columns.length < 4611686018427387904 by omega) (show tables[i].columns.length < n by omega), ya, ← htk];unfold zbx;by_cases hk : (tables[i].kind == 0 || tables[i].kind == 1) = true
    ·rw [if_pos hk, if_pos hk];by_cases hf : tables[i].first = a
     ·rw [if_neg (by simp [hf]), hr (m.put tables[i].name true, add64 a (zag sizes tables[i].columns 1), b) hput];simp [hf]
     ·rw [if_pos (by simp [hf])]; simp [hf]
    ·rw [if_neg hk, if_neg hk];by_cases hf : tables[i].first = b
     ·rw [if_neg (by simp [hf]), hr (m.put tables[i].name true, a, add64 b (zag sizes tables[i].columns 1)) hput];simp [hf]
     ·rw [if_pos (by simp [hf])]; simp [hf]
   ·simp only [yF] at hv;rw [hv, if_pos (by simp), y6]
  ·simp [zbH.l1, layP]
 ·simp only [yF] at h;rw [h, if_pos (by simp), y6]
theorem ze3 {n sizes tables} (hn : 1000000 ≤ n) (hs : sizes.length ≤ 1000) (ht : tables.length ≤ 1000) (hc : ∀ t ∈ tables, t.columns.length ≤ 1000 ∧ t.name.length ≤ 4096) : zaA n sizes tables = some (zbh sizes tables) := by
 unfold zaA zbh;have e1 : decide (4 < (sizes.length : Int)) = !decide (sizes.length ≤ 4) := by rw [← decide_not]; exact decide_eq_decide.2 (by omega)
 have e2 : decide (12 < (tables.length : Int)) = !decide (tables.length ≤ 12) := by rw [← decide_not]; exact decide_eq_decide.2 (by omega)
 rw [zhj (by omega) (by omega), e1, e2];simp only [yj, yr, grd, if_true, yf];by_cases h : (decide (sizes.length ≤ 4) && decide (tables.length ≤ 12) && sizes.all zcq) = true
 ·rw [h, yD];simp only [yb] at h;obtain ⟨⟨h1, h2⟩, h3⟩ := h;rw [h1, h2, h3, if_neg (by simp)];have := zbA (body := zaA.l1 n sizes tables) (len := tables.length) (st := fun (s : Int × Int) i => (s.1, s.2, (i : Int))) (g := fun i s => some (layP sizes ((tables.take i).map (·.name)) s.1 s.2 (tables.drop i))) (fun _ _ => True) (fun rec i s hi _ hr => ?_) (fun rec s _ => ?_) n 0 (0, 0) (yp _) (by omega) trivial
  ·simpa using this
  ·obtain ⟨a, b⟩ := s;have hmem := yg hi;obtain ⟨hcols, hname⟩ := hc _ hmem;simp only [zaA.l1, jn, zh hi, if_true, za hi, ya];generalize hK : (fun (v : Int × Int) => rec (v.1, v.2, add64 (i : Int) 1)) = K;have inner := zF (body := zaA.l2 n sizes tables a b i K tables[i]) (len := i) (st := fun k => (k : Int)) (g := fun k => if decide (tables[i].name ∈ ((tables.take i).drop k).map (·.name)) = true then some false else zaA.l2 n sizes tables a b i K tables[i] (fun _ => none) (i : Int)) (fun rec' k hk hr' => ?_) (fun rec' => ?_) n 0 (yp _) (by omega)
   ·rw [show ((0 : Nat) : Int) = 0 from rfl] at inner;rw [inner, zj hi, layP, List.drop_zero];have htk : ((tables.take (i + 1)).map (·.name)) = (tables.take i).map (·.name) ++ [tables[i].name] := by rw [yy hi, uh]; rfl
    cases hseen : decide (tables[i].name ∈ (tables.take i).map (·.name)) with
    | true => simp
    | false =>
     simp only [ye, if_false, uD, ul];have hnum := zex (n := n) (sizes := sizes) (cols := tables[i].columns) (by omega) (by omega) (by omega) (by omega);rw [h3, ul] at hnum;simp only [zaA.l2, zb9 (yn i), ye, if_false, hnum, ya, zik hname hn, zbU];unfold tabP;by_cases hcol : (decide (tables[i].columns.length ≤ 3) && tables[i].columns.all (colOK sizes)) = true
     ·simp only [hcol, if_true, ul];have hcol' := hcol;simp only [yb, yd] at hcol';have hw := zgM h3 hcol'.2 hcol'.1;have hw0 : (zag sizes tables[i].columns 1 == 0) = false := by simp; omega
      rw [hw0, uS];by_cases hnk : (nameP tables[i].name && (decide (0 ≤ tables[i].kind) && decide (tables[i].kind ≤ 5))) = true
      ·rw [hnk, yD];simp only [yb, yd] at hnk;rw [if_neg (by simp [hnk.1]; omega)];by_cases hrg : zgD tables[i] = true
       ·rw [hrg, yD];unfold zgD at hrg;rw [if_neg (by
         split at hrg
         ·simp only [yb, yd] at hrg;simp only [yz, yd]; omega
         ·simp only [yd] at hrg;rw [hrg]; decide), if_neg (by
         split at hrg
         ·rename_i hk;simp only [yz, beq_iff_eq] at hk;simp only [yb, yz, beq_iff_eq]; omega
         ·simp only [yd] at hrg;rw [hrg]; simp)]
        unfold zbx;by_cases hk : (tables[i].kind == 0 || tables[i].kind == 1) = true
        ·rw [if_pos hk, if_pos hk];by_cases hf : tables[i].first = a
         ·rw [if_neg (by simp [hf]), ← hK];simp only [zb (i := i) (by omega)];have := hr (add64 a (zag sizes tables[i].columns 1), b) trivial;simp only [] at this;rw [this, htk];simp [hf]
         ·rw [if_pos (by simp [hf])]; simp [hf]
        ·rw [if_neg hk, if_neg hk];by_cases hf : tables[i].first = b
         ·rw [if_neg (by simp [hf]), ← hK];simp only [zb (i := i) (by omega)];have := hr (a, add64 b (zag sizes tables[i].columns 1)) trivial;simp only [] at this;rw [this, htk];simp [hf]
         ·rw [if_pos (by simp [hf])]; simp [hf]
       ·simp only [yF] at hrg;rw [hrg, y6];unfold zgD at hrg;split at hrg
        ·rename_i hk;rw [if_pos (by
          simp only [ut, yC] at hrg;simp only [yz, yd]; omega)]
        ·rename_i hk;simp only [yz, beq_iff_eq, not_or] at hk;have hr01 : ¬ (tables[i].range.lo = 0 ∧ tables[i].range.hi = 1) := by
          rintro ⟨q1, q2⟩;simp only [yC] at hrg;apply hrg;cases hrr : tables[i].range;rw [hrr] at q1 q2;simp only [] at q1 q2;rw [q1, q2]
         split
         ·rfl
         ·rw [if_pos (by
           simp only [yb, yz, beq_iff_eq, bne_iff_ne, ne_eq]; omega)]
      ·simp only [yF] at hnk;rw [hnk, y6, y6];rw [if_pos (by
        simp only [ut, yC] at hnk;simp only [yz, yx, yd];rcases hnk with h | h | h
        ·exact .inl (.inl h)
        ·exact .inl (.inr (by omega))
        ·exact .inr (by omega))]
     ·simp only [yF] at hcol;simp only [hcol, Bool.and_false, y6, ye, if_false];rw [if_pos (by simp)]
   ·have hk' : k < tables.length := by omega
    simp only [zaA.l2, zcy hk, if_true, za hk', ya, zb (i := k) (by omega), hr'];have hk2 : k < (tables.take i).length := by simp; omega
    rw [zj hk2];simp only [List.getElem_take, yT, yP];by_cases hnm : tables[k].name = tables[i].name
    ·rw [if_pos (by simpa using hnm), if_pos (by simp [hnm])]
    ·rw [if_neg (by simpa using hnm)];have hnm' : ¬ tables[i].name = tables[k].name := fun e => hnm e.symm
     simp only [hnm', false_or]
   ·rw [if_neg (by simp)];simp only [zaA.l2, zb9 (yn i), ye, if_false]
  ·simp [zaA.l1, layP]
 ·simp only [yF] at h;rw [h, y6];rw [if_pos (by
   simp only [ut] at h;simp only [yz, yx];rcases h with (h | h) | h
   ·exact .inl (.inl h)
   ·exact .inr h
   ·exact .inl (.inr h))]
def zJ (sizes : List Int) (s : Bool) : List Table → List Range
 | [] => []
 | t :: l => if (zbx t.kind == s) = true then List.replicate (zag sizes t.columns 1).toNat t.range ++ zJ sizes s l else zJ sizes s l
theorem zh5 {sizes} : ∀ {l : List Table} {seen : List (List UInt8)} {a b : Int}, layP sizes seen a b l = true → ∀ t ∈ l, tabP sizes t = true
 | [], _, _, _, _, _, ht => by simp at ht
 | x :: l, seen, a, b, h, t, ht => by
  simp only [layP, yb] at h;simp only [yP] at ht;rcases ht with rfl | ht
  ·exact h.1.1
  ·have h2 := h.2;split at h2
   ·simp only [yb] at h2; exact zh5 h2.2 t ht
   ·simp only [yb] at h2; exact zh5 h2.2 t ht
theorem zbv {sizes tables} (h : zbh sizes tables = true) : sizes.length ≤ 4 ∧ tables.length ≤ 12 ∧ sizes.all zcq = true ∧ ∀ t ∈ tables, nameP t.name = true ∧ (0 ≤ t.kind ∧ t.kind ≤ 5) ∧ t.columns.length ≤ 3 ∧ t.columns.all (colOK sizes) = true ∧ 1 ≤ zag sizes t.columns 1 ∧ zag sizes t.columns 1 ≤ 216 := by
 simp only [zbh, yb, yd] at h;obtain ⟨⟨⟨h1, h2⟩, h3⟩, h4⟩ := h;refine ⟨h1, h2, h3, fun t ht => ?_⟩;have := zh5 h4 t ht;simp only [tabP, yb, yd] at this;obtain ⟨⟨⟨p1, p2⟩, p3⟩, -⟩ := this;exact ⟨p1, p2, p3.1, p3.2, zgM h3 p3.2 p3.1⟩
theorem zcF {sizes s} : ∀ {l : List Table}, (∀ t ∈ l, 1 ≤ zag sizes t.columns 1 ∧ zag sizes t.columns 1 ≤ 216) → (zJ sizes s l).length ≤ l.length * 216
 | [], _ => by simp [zJ]
 | t :: l, h => by
  have ih := zcF (s := s) (l := l) fun x hx => h x (by simp [hx])
  have ht := h t (by simp);simp only [zJ, yQ];split
  ·simp only [yI, um]; omega
  ·omega
theorem Mul_eq {n} : ∀ w : Fin 217, zea n 1 ((w.1 : Nat) : Int) = some (0, ((w.1 : Nat) : Int)) := by
 intro w;unfold zea zer;revert w;decide +kernel
theorem wk_small : ∀ w : Fin 217, wk .u64 ((w.1 : Nat) : Int) = ((w.1 : Nat) : Int) ∧ wk .i64 ((w.1 : Nat) : Int) = ((w.1 : Nat) : Int) := by decide +kernel
theorem Repeat_eq {n x w} (h1 : 1 ≤ w) (h2 : w ≤ 216) (hn : 1000000 ≤ n) : zG n [x] w = some (List.replicate w.toNat x) := by
 obtain ⟨W, rfl⟩ := yW (show 0 ≤ w by omega);have hW : W < 217 := by omega
 have hwk := wk_small ⟨W, hW⟩;simp only [] at hwk;have h1k : wk .u64 (([x] : List Range).length : Int) = 1 := (wk_small ⟨1, by decide⟩).1;unfold zG;rw [if_neg (by simp), h1k, hwk.1, Mul_eq ⟨W, hW⟩];simp only [ya];rw [if_neg (by simp; omega), hwk.2];have hm : mkl 16 (W : Int) (⟨0, 0⟩ : Range) = some (List.replicate W ⟨0, 0⟩) := by
  unfold mkl; rw [if_pos (by omega)]; simp
 rw [hm, ya];simp only [um, uF, Nat.sub_zero, yq];rw [show min W 1 = 1 by omega];refine zc9 (body := zG.l1 n) (fun s => W - s.2.toNat) (fun s => ∃ k : Nat, s.2 = (k : Int) ∧ 1 ≤ k ∧ k ≤ W ∧ s.1.length = W ∧ s.1.take k = List.replicate k x) (fun _ o => o = some (List.replicate W x)) (fun rec s hI hr => ?_) n _ ⟨1, rfl, by omega, by omega, ?_, ?_⟩ (by simp; omega)
 ·obtain ⟨b, kk⟩ := s;obtain ⟨k, rfl, k1, k2, hb, hk⟩ := hI;simp only [] at hb hk;simp only [zG.l1];by_cases hlt : k < W
  ·have hcE : cut b (k : Int) (W : Int) = some (b.drop k) := by rw [← hb]; exact zkc (by omega)
   have hc := zgi (l := b) (a := 0) (b := k) (by omega) (by omega)
   simp only [Int.natCast_zero] at hc;simp only [hb, zcy hlt, if_true, hcE, hc, ya, yq, List.drop_zero, Nat.sub_zero, hk, um];rw [zcY (by omega)];refine hr (_, ((k + min (W - k) k : Nat) : Int)) ⟨k + min (W - k) k, rfl, by omega, by omega, ?_, ?_⟩ (by simp only [yq]; omega)
   ·simp only [];rw [zcO (by omega) (by omega), hb]
   ·simp only [zcT, hk, List.take_replicate, um];rw [show min (W - k) k = min (W - k) k from rfl, ← yJ, List.replicate_append_replicate];rw [List.take_append_of_le_length (by simp)];simp
  ·have : k = W := by omega
   subst this;have hd : decide ((k : Int) < (b.length : Int)) = false := by rw [hb]; exact zb9 (yn _)
   simp only [hd, ye, if_false];rw [← hk, List.take_of_length_le (by omega)]
 ·rw [zcO (by omega) (by simp)]; simp
 ·simp [zcT, List.take_append];rw [List.take_of_length_le (l := [x]) (by simp; omega), show min W 1 = 1 by omega];simp
theorem zhh (sizes s) : ∀ (l m : List Table), zJ sizes s (l ++ m) = zJ sizes s l ++ zJ sizes s m
 | [], _ => rfl
 | t :: l, m => by
  simp only [ud, zJ, zhh sizes s l m];split <;> simp
theorem zeO {sizes : List Int} {s : Bool} {l : List Table} {i : Nat} (hi : i < l.length) : zJ sizes s (l.take (i + 1)) = if (zbx l[i].kind == s) = true then zJ sizes s (l.take i) ++ List.replicate (zag sizes l[i].columns 1).toNat l[i].range else zJ sizes s (l.take i) := by
 rw [yy hi, zhh];simp only [zJ];split <;> simp
theorem zga {n : Nat} {sizes : List Int} {tables : List Table} {s : Bool} (hF : Fuel n) (hs : sizes.length ≤ 1000) (ht : tables.length ≤ 1000) (hc : ∀ t ∈ tables, t.columns.length ≤ 1000) :
  zbB n sizes tables s = some (if zbh sizes tables = true then zJ sizes s tables else []) := by
 have hn := hF.big;unfold zbB;rw [zeV hF hs ht hc, ya];cases hL : zbh sizes tables with
 | false => simp
 | true =>
  obtain ⟨l1, l2, l3, l4⟩ := zbv hL;have := zF (body := zbB.l1 n sizes tables s) (len := tables.length) (st := fun i => (zJ sizes s (tables.take i), (i : Int))) (g := fun _ => some (zJ sizes s tables)) (fun rec i hi hr => ?_) (fun rec => ?_) n 0 (yp _) (by omega)
  ·simpa [zJ] using this
  ·obtain ⟨-, -, c1, c2, c3, c4⟩ := l4 _ (yg hi);have hlen := zcF (sizes := sizes) (s := s) (l := tables.take i) fun x hx => (l4 x (List.mem_of_mem_take hx)).2.2.2.2
   simp only [yR] at hlen;rw [zeO hi] at hr;simp only [zbB.l1, jn, zh hi, if_true, za hi, ya, zbY, zb (i := i) (by omega)];unfold zbx at hr;by_cases hk : ((tables[i].kind == 0 || tables[i].kind == 1) == s) = true
   ·rw [if_pos hk] at hr ⊢;rw [zeX c2 (by omega) (by omega), ya, Repeat_eq c3 c4 (by omega), ya, zq (by simp only [um]; omega), ya, hr]
   ·rw [if_neg hk] at hr ⊢;rw [hr]
  ·simp [zbB.l1]
theorem zew {n : Nat} {sizes : List Int} {tables : List Table} {s : Bool} (hn : 1000000 ≤ n) (hs : sizes.length ≤ 1000) (ht : tables.length ≤ 1000) (hc : ∀ t ∈ tables, t.columns.length ≤ 1000 ∧ t.name.length ≤ 4096) :
  zaF n sizes tables s = some (if zbh sizes tables = true then zJ sizes s tables else []) := by
 unfold zaF;rw [ze3 hn hs ht hc, ya];cases hL : zbh sizes tables with
 | false => simp
 | true =>
  obtain ⟨l1, l2, l3, l4⟩ := zbv hL;have := zF (body := zaF.l1 n sizes tables s) (len := tables.length) (st := fun i => (zJ sizes s (tables.take i), (i : Int))) (g := fun _ => some (zJ sizes s tables)) (fun rec i hi hr => ?_) (fun rec => ?_) n 0 (yp _) (by omega)
  ·simpa [zJ] using this
  ·obtain ⟨-, -, c1, c2, c3, c4⟩ := l4 _ (yg hi);have hlen := zcF (sizes := sizes) (s := s) (l := tables.take i) fun x hx => (l4 x (List.mem_of_mem_take hx)).2.2.2.2
   simp only [yR] at hlen;rw [zeO hi] at hr;simp only [zaF.l1, zh hi, if_true];obtain ⟨W, hW⟩ := yW (show 0 ≤ zag sizes tables[i].columns 1 by omega);have hnum := zex (n := n) (sizes := sizes) (cols := tables[i].columns) (by omega) (by omega) (by omega) (by omega);simp only [l3, c2, c1, decide_true, ul, if_true] at hnum;have inner := zF (body := zaF.l2 n sizes tables s i rec) (len := if (zbx tables[i].kind == s) = true then W else 0) (st := fun k => (zJ sizes s (tables.take i) ++ List.replicate k tables[i].range, (k : Int))) (g := fun _ => some (zJ sizes s tables)) (fun rec' k hk hr' => ?_) (fun rec' => ?_) n 0 (yp _) (by split <;> omega)
   ·simpa using inner
   ·split at hk
    ·rename_i hst;simp only [zbx] at hst;simp only [zaF.l2, za hi, ya, zbU, hst, yj, yr, grd, if_true, yf, hnum, yD, hW, zcy hk, zb (i := k) (by omega)];rw [zq (by simp only [yI, um, uF]; omega), ya, yJ, ← List.replicate_succ', hr']
    ·omega
   ·by_cases hst : ((tables[i].kind == 0 || tables[i].kind == 1) == s) = true
    ·have hst' : (zbx tables[i].kind == s) = true := hst;rw [if_pos hst'] at hr ⊢;simp only [zaF.l2, za hi, ya, zbU, hst, yj, yr, grd, if_true, yf, hnum, yD, hW, zb9 (yn W), ye, if_false, zb (i := i) (by omega)];rw [hW] at hr;simpa using hr
    ·have hst' : ¬ (zbx tables[i].kind == s) = true := hst;rw [if_neg hst'] at hr ⊢;simp only [yF] at hst;simp only [zaF.l2, za hi, ya, zbU, hst, uD, uG, grd, if_true, y6, ye, if_false, zb (i := i) (by omega)];simpa using hr
  ·simp [zaF.l1]
def zcv (p : Int → Bool) (i : Nat) : Nat → List Int
 | 0 => []
 | m + 1 => if p (i : Int) = true then (i : Int) :: zcv p (i + 1) m else zcv p (i + 1) m
theorem zhL (p) : ∀ (m i : Nat), (zcv p i m).length ≤ m
 | 0, _ => yn _
 | m + 1, i => by
  simp only [zcv]; split
  ·simp only [yQ]; exact Nat.succ_le_succ (zhL p m (i + 1))
  ·exact Nat.le_succ_of_le (zhL p m (i + 1))
theorem zjp (p) : ∀ (m i : Nat), zcv p i (m + 1) = if p ((i + m : Nat) : Int) = true then zcv p i m ++ [((i + m : Nat) : Int)] else zcv p i m
 | 0, i => by simp [zcv]
 | m + 1, i => by
  have ih := zjp p m (i + 1);have e : i + 1 + m = i + (m + 1) := by omega
  rw [e] at ih;rw [zcv, ih]
  conv => rhs; simp only [zcv]
  split <;> split <;> simp
def zgC (l : List Change) (c : Constraint) (k : Int) : Bool := decide (0 < zr l (add64 c.first k))
theorem zel {n : Nat} {a c} {K : Nat} (hK : mul64 c.size c.size = (K : Int)) (h1 : a.effect.delta.length < 4611686018427387904) (h2 : a.effect.delta.length < n) (h3 : K < 17592186044416) (h4 : K < n) :
  zn n a c = some (zcv (zgC a.effect.delta c) 0 K) := by
 have := zF (body := zn.l1 n a c) (len := K) (st := fun i => (zcv (zgC a.effect.delta c) 0 i, (i : Int))) (g := fun _ => some (zcv (zgC a.effect.delta c) 0 K)) (fun rec i hi hr => ?_) (fun rec => ?_) n 0 (yp _) (by omega)
 ·simpa [zn, zcv] using this
 ·rw [zjp] at hr;have hlen := zhL (zgC a.effect.delta c) i 0;have hd : decide ((i : Int) < mul64 c.size c.size) = true := by rw [hK]; simp; omega
  have happ : Go.Proofs.YtcagdmegicijlaaGreatDoor.app 8 (zcv (zgC a.effect.delta c) 0 i) [(i : Int)] = some (zcv (zgC a.effect.delta c) 0 i ++ [(i : Int)]) := by
   unfold Go.Proofs.YtcagdmegicijlaaGreatDoor.app; rw [if_pos (by simp only [uF]; omega)]
  simp only [zn.l1, hd, if_true, jn, zab _ h1 h2, ya, zb (i := i) (by omega), happ];simp only [uA] at hr;by_cases hp : zgC a.effect.delta c (i : Int) = true
  ·rw [if_pos hp] at hr;unfold zgC at hp;rw [if_pos hp, hr]
  ·rw [if_neg hp] at hr;unfold zgC at hp;rw [if_neg hp, hr]
 ·have hd : decide ((K : Int) < mul64 c.size c.size) = false := by rw [hK]; simp
  simp [zn.l1, hd]
structure Good (n : Nat) (m : Model) : Prop where
 acts : ∀ a ∈ m.actions, a.effect.delta.length < 4611686018427387904 ∧ a.effect.delta.length < n ∧ (∀ k, addP k a.effect.delta 0 = zr a.effect.delta k) ∧ ∀ r ∈ a.effect.hold, r.terms.length < 4611686018427387904 ∧ r.terms.length < n
 cons : ∀ c ∈ m.constraints, (c.kind = 0 ∨ c.kind = 1) ∧ c.row.terms.length < 4611686018427387904 ∧ c.row.terms.length < n ∧ ∃ K : Nat, mul64 c.size c.size = (K : Int) ∧ K < 17592186044416 ∧ K < n
theorem za4 {α : Type} {l : List α} {i : Int} {x : α} (h : idx l i = some x) : x ∈ l := by
 obtain ⟨n, rfl, hn, rfl⟩ := idxS h;exact yg hn
theorem za8 {α : Type} {l : List α} {i : Int} (h0 : 0 ≤ i) (h1 : i < (l.length : Int)) : ∃ x, idx l i = some x := by
 obtain ⟨n, rfl⟩ := yW h0;exact ⟨_, za (by omega)⟩
def allR (p : Nat → Bool) (i : Nat) : Nat → Bool
 | 0 => true
 | k + 1 => p i && allR p (i + 1) k
theorem zjQ {p} : ∀ {k i : Nat}, allR p i k = true ↔ ∀ j, i ≤ j → j < i + k → p j = true
 | 0, i => by simp [allR]; omega
 | k + 1, i => by
  simp only [allR, yb, zjQ (k := k) (i := i + 1)];constructor
  ·rintro ⟨h1, h2⟩ j hj hk;by_cases e : j = i
   ·rw [e]; exact h1
   ·exact h2 j (by omega) (by omega)
  ·intro h;exact ⟨h i (yn _) (by omega), fun j hj hk => h j (by omega) (by omega)⟩
theorem zja {p k} : allR p 0 k = true ↔ ∀ j, j < k → p j = true := by
 rw [zjQ]; simp
theorem zgq {S R : Type} {body : (S → Option R) → S → Option R} {len n : Nat} {st : Nat → S} (p : Nat → Bool) (F T : Option R)
  (hb : ∀ rec i, i < len → body rec (st i) = if p i = true then rec (st (i + 1)) else F) (he : ∀ rec, body rec (st len) = T) (hn : len < n) : loopF body n (st 0) = if allR p 0 len = true then T else F := by
 have := zF (body := body) (len := len) (st := st) (g := fun i => if allR p i (len - i) = true then T else F) (fun rec i hi hr => ?_) (fun rec => ?_) n 0 (yp _) (by omega)
 ·simpa using this
 ·rw [hb rec i hi, show len - i = (len - (i + 1)) + 1 by omega, allR, hr];cases p i <;> simp
 ·rw [he]; simp [allR]
theorem zd0 {n l f p} (hf : ∀ x ∈ l, f x = some (p x)) (hl : l.length < 1000000) (hn : 1000000 ≤ n) : zw n l f = some (ixP p l 0) := by
 have := zF (body := zw.l1 n l f) (len := l.length) (st := fun i => (i : Int)) (g := fun i => some (ixP p (l.drop i) i)) (fun rec i hi hr => ?_) (fun rec => ?_) n 0 (yp _) (by omega)
 ·simpa [zw] using this
 ·simp only [zw.l1, zh hi, if_true, za hi, ya, hf _ (yg hi), zb (i := i) (by omega), hr];rw [zj hi];simp only [ixP];split <;> rfl
 ·simp [zw.l1, ixP]
theorem zdB {n l f p} (hf : ∀ x ∈ l, f x = some (p x)) (hl : l.length < 1000000) (hn : 1000000 ≤ n) : zK n l f = some (l.any p) := by
 unfold zK;rw [zd0 hf hl hn, ya, zgk]
theorem zeU {n l f p} (hf : ∀ x ∈ l, f x = some (p x)) (hl : l.length < 1000000) (hn : 1000000 ≤ n) : zE n l f = some (ixP p l 0) := by
 have := zF (body := zE.l1 n l f) (len := l.length) (st := fun i => (i : Int)) (g := fun i => some (ixP p (l.drop i) i)) (fun rec i hi hr => ?_) (fun rec => ?_) n 0 (yp _) (by omega)
 ·simpa [zE] using this
 ·simp only [zE.l1, zh hi, if_true, za hi, ya, hf _ (yg hi), zb (i := i) (by omega), hr];rw [zj hi];simp only [ixP];split <;> rfl
 ·simp [zE.l1, ixP]
theorem zcx {n l f p} (hf : ∀ x ∈ l, f x = some (p x)) (hl : l.length < 1000000) (hn : 1000000 ≤ n) : zl n l f = some (l.any p) := by
 unfold zl;rw [zeU hf hl hn, ya, zgk]
theorem zej {n l f p} (hf : ∀ x ∈ l, f x = some (p x)) (hl : l.length < 1000000) (hn : 1000000 ≤ n) : zz n l f = some (ixP p l 0) := by
 have := zF (body := zz.l1 n l f) (len := l.length) (st := fun i => (i : Int)) (g := fun i => some (ixP p (l.drop i) i)) (fun rec i hi hr => ?_) (fun rec => ?_) n 0 (yp _) (by omega)
 ·simpa [zz] using this
 ·simp only [zz.l1, zh hi, if_true, za hi, ya, hf _ (yg hi), zb (i := i) (by omega), hr];rw [zj hi];simp only [ixP];split <;> rfl
 ·simp [zz.l1, ixP]
theorem zdR {n l f p} (hf : ∀ x ∈ l, f x = some (p x)) (hl : l.length < 1000000) (hn : 1000000 ≤ n) : zaw n l f = some (l.any p) := by
 unfold zaw;rw [zej hf hl hn, ya, zgk]
def zau (x most : Int) : Bool := decide (-most ≤ x) && decide (x ≤ most)
theorem around3 {n x} : zay n x 1000 = some (zau x 1000) := rfl
theorem around9 {n x} : zay n x 1000000000 = some (zau x 1000000000) := rfl
theorem around4 {n x} : zay n x 9999 = some (zau x 9999) := rfl
theorem between3 {n x} : zac n x 1000 = some (zau x 1000) := rfl
theorem between9 {n x} : zac n x 1000000000 = some (zau x 1000000000) := rfl
theorem between4 {n x} : zac n x 9999 = some (zau x 9999) := rfl
def rowP (K : Nat) : Int → List Term → Bool
 | _, [] => true
 | last, t :: l => (decide (last < t.cell) && decide (t.cell < (K : Int)) && (t.factor != 0) && zau t.factor 1000) && rowP K t.cell l
def rowOK (K : Nat) (r : Row) : Bool := rowP K (-1) r.terms && zau r.bound 1000000000
theorem ze6 {i : Nat} (h0 : 0 < i) (h : i < 4611686018427387904) : sub64 (i : Int) 1 = ((i - 1 : Nat) : Int) := by
 unfold sub64; rw [zaL (by omega) (by omega)]; omega
theorem zjn {n} {j : Judge} {r} (hl : r.terms.length < 1000000) (hn : 1000000 ≤ n) : zav n j r = some (rowOK j.strict.length r) := by
 have := zbA (body := zav.l1 n j r) (len := r.terms.length) (st := fun (s : Int) i => (s, (i : Int))) (g := fun i s => some (rowP j.strict.length s (r.terms.drop i) && zau r.bound 1000000000)) (fun _ _ => True) (fun rec i s hi _ hr => ?_) (fun rec s _ => ?_) n 0 (-1) (yp _) (by omega) trivial
 ·simpa [zav, rowOK] using this
 ·simp only [zav.l1, zh hi, if_true, za hi, ya, around3, yj, yr, grd, yf, zb (i := i) (by omega), hr r.terms[i].cell trivial];rw [zj hi, rowP];by_cases h : (decide (s < r.terms[i].cell) && decide (r.terms[i].cell < (j.strict.length : Int)) && (r.terms[i].factor != 0) && zau r.terms[i].factor 1000) = true
  ·rw [h, yD];simp only [yb, yd, bne_iff_ne] at h;rw [if_neg (by simp [h.2, h.1.2]; omega)]
  ·rw [if_pos (by
    simp only [yb, yd, bne_iff_ne, ne_eq] at h;simp only [yz, yd, beq_iff_eq, yx, ← yF];by_cases ha : zau r.terms[i].factor 1000 = true
    ·left; simp only [ha, and_true] at h; omega
    ·exact .inr ha)]
   simp only [yF] at h;rw [h]; rfl
 ·simp [zav.l1, around9, rowP]
theorem ref_row_eq {n K : Nat} {r} (hl : r.terms.length < 1000000) (hn : 1000000 ≤ n) : zcb n r (K : Int) = some (rowOK K r) := by
 have := zbA (body := zcb.l1 n r (K : Int)) (len := r.terms.length) (st := fun (_ : Int) i => (i : Int)) (g := fun i s => some (rowP K s (r.terms.drop i) && zau r.bound 1000000000)) (fun i s => -1 ≤ s ∧ ((i = 0 ∧ s = -1) ∨ (0 < i ∧ ∃ x, idx r.terms (sub64 (i : Int) 1) = some x ∧ x.cell = s))) (fun rec i s hi hI hr => ?_) (fun rec s _ => ?_) n 0 (-1) (yp _) (by omega) ⟨by omega, .inl ⟨rfl, rfl⟩⟩
 ·simpa [zcb, rowOK] using this
 ·obtain ⟨h1, h2⟩ := hI;have hprev : (decide (0 < (i : Int)) && decide (r.terms[i].cell ≤ ((idx r.terms (sub64 (i : Int) 1)).getD default).cell)) = (decide (0 < i) && decide (r.terms[i].cell ≤ s)) ∧ (!(decide (0 < (i : Int))) || (idx r.terms (sub64 (i : Int) 1)).isSome) = true := by
   rcases h2 with ⟨h2, h3⟩ | ⟨h2, x, h3, h4⟩
   ·subst h2; simp
   ·rw [h3]; simp [h4, h2]
  simp only [zcb.l1, zh hi, if_true, za hi, ya, between3, yj, yr, grd, yf, hprev.1, hprev.2, zb (i := i) (by omega)];rw [zj hi, rowP];by_cases h : (decide (s < r.terms[i].cell) && decide (r.terms[i].cell < (K : Int)) && (r.terms[i].factor != 0) && zau r.terms[i].factor 1000) = true
  ·rw [h, yD];simp only [yb, yd, bne_iff_ne] at h;rw [if_neg (by simp [h.2, h.1.2]; omega), hr r.terms[i].cell ⟨by omega, .inr ⟨by omega, r.terms[i], by
    rw [ze6 (by omega) (by omega), show i + 1 - 1 = i by omega, za hi], rfl⟩⟩]
  ·rw [if_pos (by
    simp only [yb, yd, bne_iff_ne, ne_eq] at h;simp only [yz, yb, yd, beq_iff_eq, yx, ← yF];by_cases ha : zau r.terms[i].factor 1000 = true
    ·left; simp only [ha, and_true] at h;rcases h2 with ⟨h2, h3⟩ | ⟨h2, -⟩ <;> omega
    ·exact .inr ha)]
   simp only [yF] at h;rw [h]; rfl
 ·simp [zcb.l1, between9, rowP]
def zh3 (sorts : List Int) (c : Constraint) (t : Table) : Bool := (t.kind == 0 && ((t.columns.length : Int) == 2)) && (((idx t.columns 0).getD default == (idx t.columns 1).getD default) && t.first == c.first && ((idx sorts ((idx t.columns 0).getD default)).getD default == c.size))
def zhd (m : Model) (c : Constraint) : Bool := (((c.row.terms.length : Int) == 0) && (c.row.bound == 0)) && m.tables.any (zh3 m.sorts c)
theorem zgS {sorts : List Int} {t : Table} (hc : t.columns.all (colOK sorts) = true) (h2 : (t.columns.length : Int) = 2) : (∃ x, idx t.columns 0 = some x) ∧ (∃ x, idx t.columns 1 = some x) ∧ ∃ x, idx sorts ((idx t.columns 0).getD default) = some x := by
 obtain ⟨x, hx⟩ := za8 (l := t.columns) (i := 0) (by omega) (by omega);obtain ⟨y, hy⟩ := za8 (l := t.columns) (i := 1) (by omega) (by omega);refine ⟨⟨x, hx⟩, ⟨y, hy⟩, ?_⟩;rw [hx];exact ⟨_, zfK (ym.1 hc x (za4 hx))⟩
theorem graph_1_eq {n} {j : Judge} {c t} (hc : t.columns.all (colOK j.model.sorts) = true) : zbj n t c j = some (zh3 j.model.sorts c t) := by
 unfold zbj zh3;by_cases h2 : (t.kind == 0 && ((t.columns.length : Int) == 2)) = true
 ·have h2' := h2;simp only [yb, beq_iff_eq] at h2';obtain ⟨⟨x, hx⟩, ⟨y, hy⟩, z, hz⟩ := zgS hc h2'.2;rw [hx] at hz;simp only [yf] at hz;simp [h2, hx, hy, hz, grd, Bool.and_assoc]
 ·simp only [yF] at h2;simp [h2, grd]
theorem model_graph_eq {n} {j : Judge} {c} (hc : ∀ t ∈ j.model.tables, t.columns.all (colOK j.model.sorts) = true) (hl : j.model.tables.length < 1000000) (hn : 1000000 ≤ n) : zbF n j c = some (zhd j.model c) := by
 unfold zbF zhd;rw [zdB (p := zh3 j.model.sorts c) (fun t ht => graph_1_eq (hc t ht)) hl hn];simp [grd]
theorem ref_graph_eq {n m c} (hc : ∀ t ∈ m.tables, t.columns.all (colOK m.sorts) = true) (hl : m.tables.length < 1000000) (hn : 1000000 ≤ n) : zbw n m c = some (zhd m c) := by
 unfold zbw zhd;by_cases h : (((c.row.terms.length : Int) == 0) && (c.row.bound == 0)) = true
 ·rw [h, yD];simp only [yb, beq_iff_eq] at h;rw [if_neg (by rw [h.1, h.2]; decide)];have := zF (body := zbw.l1 n m c) (len := m.tables.length) (st := fun i => (i : Int)) (g := fun i => some ((m.tables.drop i).any (zh3 m.sorts c))) (fun rec i hi hr => ?_) (fun rec => ?_) n 0 (yp _) (by omega)
  ·simpa using this
  ·simp only [zbw.l1, zh hi, if_true, za hi, ya, zb (i := i) (by omega), hr];rw [zj hi, uT];have hcol := hc _ (yg hi);by_cases h2 : (m.tables[i].kind == 0 && ((m.tables[i].columns.length : Int) == 2)) = true
   ·have h2' := h2;simp only [yb, beq_iff_eq] at h2';obtain ⟨⟨x, hx⟩, ⟨y, hy⟩, z, hz⟩ := zgS hcol h2'.2;rw [hx] at hz;simp only [yf] at hz;simp only [h2, hx, hy, hz, grd, yj, yr, if_true, yf, yD, zh3];cases (x == y && m.tables[i].first == c.first && z == c.size) <;> simp
   ·simp only [yF] at h2;simp [h2, grd, zh3]
  ·simp [zbw.l1]
 ·simp only [yF] at h;rw [h, y6, if_pos (by
   simp only [ut, uf] at h;simp only [yz, yd, bne_iff_ne]; omega)]
theorem EqualTerm_eq {n a b} (hl : a.length < 1000000) (hn : 1000000 ≤ n) : zI n a b = some (decide (a = b)) := by
 unfold zI;by_cases h : a.length = b.length
 ·rw [if_neg (by simp [h])];have := zF (body := zI.l1 n a b) (len := a.length) (st := fun i => (i : Int)) (g := fun i => some (decide (a.drop i = b.drop i))) (fun rec i hi hr => ?_) (fun rec => ?_) n 0 (yp _) (by omega)
  ·simpa using this
  ·have hib : i < b.length := by omega
   simp only [zI.l1, zh hi, if_true, za hi, za hib, ya, zb (i := i) (by omega), hr];rw [zj hi, zj hib];by_cases e : a[i] = b[i]
   ·simp only [e, decide_true, y8, ye, if_false, List.cons.injEq, true_and]
   ·simp only [e, decide_false, uD, if_true, List.cons.injEq, false_and]
  ·simp [zI.l1, h]
 ·rw [if_pos (by simp; omega)];have : ¬ a = b := fun e => h (by rw [e])
  simp [this]
theorem SameTerms_eq {n a b} (hl : a.length < 1000000) (hn : 1000000 ≤ n) : zaG n a b = some (decide (a = b)) := by
 unfold zaG;by_cases h : a.length = b.length
 ·rw [if_neg (by simp [h])];have := zF (body := zaG.l1 n a b) (len := a.length) (st := fun i => (i : Int)) (g := fun i => some (decide (a.drop i = b.drop i))) (fun rec i hi hr => ?_) (fun rec => ?_) n 0 (yp _) (by omega)
  ·simpa using this
  ·have hib : i < b.length := by omega
   simp only [zaG.l1, zh hi, if_true, za hi, za hib, ya, zb (i := i) (by omega), hr];rw [zj hi, zj hib];by_cases e : a[i] = b[i]
   ·simp only [e, decide_true, y8, ye, if_false, List.cons.injEq, true_and]
   ·simp only [e, decide_false, uD, if_true, List.cons.injEq, false_and]
  ·simp [zaG.l1, h]
 ·rw [if_pos (by simp; omega)];have : ¬ a = b := fun e => h (by rw [e])
  simp [this]
theorem single_eq {n r c f b} (hl : r.terms.length < 1000000) (hn : 1000000 ≤ n) : zdh n r c f b = some (decide (r = (⟨[⟨c, f⟩], b⟩ : Row))) := by
 unfold zdh;rw [EqualTerm_eq hl hn, ya];congr 1;rw [Bool.eq_iff_iff];cases r;simp
theorem SameRow_eq {n a b} (hl : a.terms.length < 1000000) (hn : 1000000 ≤ n) : zcj n a b = some (decide (a = b)) := by
 unfold zcj;rw [SameTerms_eq hl hn];simp only [yj, yr, grd, if_true, yf];congr 1;rw [Bool.eq_iff_iff];cases a; cases b;simp [and_comm]
structure SmallM (m : Model) : Prop where
 sorts : m.sorts.length ≤ 8
 tables : m.tables.length ≤ 6
 tab : ∀ t ∈ m.tables, t.name.length ≤ 40 ∧ t.columns.length ≤ 12
 families : m.families.length ≤ 20
 fam : ∀ s ∈ m.families, s.length ≤ 40
 constraints : m.constraints.length ≤ 60
 con : ∀ c ∈ m.constraints, c.row.terms.length ≤ 20
 operations : m.operations.length ≤ 8
 op : ∀ o ∈ m.operations, o.name.length ≤ 40 ∧ o.sorts.length ≤ 6
 actions : m.actions.length ≤ 30
 act : ∀ a ∈ m.actions, a.arguments.length ≤ 6 ∧ a.effect.delta.length ≤ 20 ∧ a.effect.hold.length ≤ 10 ∧ a.effect.updates.length ≤ 40 ∧ ∀ r ∈ a.effect.hold, r.terms.length ≤ 20
 hides : m.hides.length ≤ 12
def zc5 (l : List Range) (i : Nat) : Row := ⟨[⟨((i / 2 : Nat) : Int), if i % 2 = 0 then -1 else 1⟩], if i % 2 = 0 then neg64 ((idx l ((i / 2 : Nat) : Int)).getD default).lo else ((idx l ((i / 2 : Nat) : Int)).getD default).hi⟩
def famP (m : Model) (c : Constraint) : Bool := decide (0 ≤ c.family) && decide (c.family < (m.families.length : Int))
def zd8 (K : Nat) (c : Constraint) : Bool := (((c.kind == 0) && (c.first == 0)) && (c.size == 0)) && rowOK K c.row
def acyP (m : Model) (c : Constraint) : Bool := c.kind == 1 && zhd m c
def conP (m : Model) (l : List Range) (i : Nat) (c : Constraint) : Bool := famP m c && (zd8 l.length c || acyP m c) && (!decide (i / 2 < l.length) || (c.kind == 0 && decide (c.row = zc5 l i)))
def consP (m : Model) (l : List Range) : Bool := decide (m.constraints.length ≤ 512) && decide (2 * l.length ≤ m.constraints.length) && allR (fun i => conP m l i ((idx m.constraints (i : Int)).getD default)) 0 m.constraints.length
theorem quo2 {i : Nat} (h : i < 1000000) : quo64 (i : Int) 2 = some ((i / 2 : Nat) : Int) := by
 unfold quo64;rw [if_neg (by decide), Int.tdiv_eq_ediv_of_nonneg (by omega), zaL (by omega) (by omega)];congr 1
theorem rem2 {i : Nat} : rem64 (i : Int) 2 = some ((i % 2 : Nat) : Int) := by
 unfold rem64;rw [if_neg (by decide), Int.tmod_eq_emod_of_nonneg (by omega)];congr 1
theorem mul2 {i : Nat} (h : i < 1000000) : mul64 2 (i : Int) = ((2 * i : Nat) : Int) := by
 unfold mul64;rw [zaL (by omega) (by omega)]; omega
theorem zg2 {n : Nat} {m} {l : List Range} (hS : SmallM m) (hc : ∀ t ∈ m.tables, t.columns.all (colOK m.sorts) = true) (hK : l.length < 100000) (hn : 1000000 ≤ n) : zW n ⟨m, l⟩ = some (consP m l) := by
 have hcl := hS.constraints;have htl := hS.tables;unfold zW consP;simp only [mul2 (show l.length < 1000000 by omega)];by_cases h0 : (decide (m.constraints.length ≤ 512) && decide (2 * l.length ≤ m.constraints.length)) = true
 ·rw [h0, yD];simp only [yb, yd] at h0;rw [if_neg (by simp; omega)];have := zgq (body := zW.l1 n ⟨m, l⟩) (len := m.constraints.length) (n := n) (st := fun i => (i : Int)) (fun i => conP m l i ((idx m.constraints (i : Int)).getD default)) (some false) (some true) (fun rec i hi => ?_) (fun rec => ?_) (by omega)
  ·simp only [Int.natCast_zero] at this;rw [this];cases allR (fun i => conP m l i ((idx m.constraints (i : Int)).getD default)) 0 m.constraints.length <;> rfl
  ·have hterms := hS.con _ (yg hi);simp only [zW.l1, jn, zh hi, if_true, za hi, ya, zai, yf, zjn (j := ⟨m, l⟩) (r := m.constraints[i].row) (show m.constraints[i].row.terms.length < 1000000 by omega) hn, model_graph_eq (j := ⟨m, l⟩) (c := m.constraints[i]) hc (show m.tables.length < 1000000 by omega) hn, yj, yr, grd, quo2 (show i < 1000000 by omega), rem2, single_eq (r := m.constraints[i].row) (show m.constraints[i].row.terms.length < 1000000 by omega) hn, zb (i := i) (by omega)];have hfam : (decide (0 ≤ m.constraints[i].family) && decide (m.constraints[i].family < (m.families.length : Int))) = famP m m.constraints[i] := rfl;rw [hfam];cases hf : famP m m.constraints[i] with
   | false => simp [conP, hf]
   | true =>
    simp only [y8, ye, if_false];have hrest : ∀ (X : Bool), X = (zd8 l.length m.constraints[i] || acyP m m.constraints[i]) →
      (if X = true then (if decide (((i / 2 : Nat) : Int) < (l.length : Int)) = true then (idx l ((i / 2 : Nat) : Int)).bind fun x81 => (if (((i % 2 : Nat) : Int) == 0) = true then (if (m.constraints[i].kind != 0 || !decide (m.constraints[i].row = (⟨[⟨((i / 2 : Nat) : Int), -1⟩], neg64 x81.lo⟩ : Row))) = true then some false else rec ((i + 1 : Nat) : Int)) else (if (m.constraints[i].kind != 0 || !decide (m.constraints[i].row = (⟨[⟨((i / 2 : Nat) : Int), 1⟩], x81.hi⟩ : Row))) = true then some false else rec ((i + 1 : Nat) : Int))) else rec ((i + 1 : Nat) : Int)) else some false) = if conP m l i m.constraints[i] = true then rec ((i + 1 : Nat) : Int) else some false := by
     intro X hX;unfold conP;rw [hf, ← hX];cases X with
     | false => simp
     | true =>
      simp only [if_true, yD];by_cases hlt : i / 2 < l.length
      ·rw [if_pos (zcy hlt), za hlt, ya];simp only [hlt, decide_true, y8, uw, zc5, za hlt, yf];by_cases hm : i % 2 = 0
       ·rw [if_pos (by simp [hm])];simp only [hm, if_true];cases hkk : (m.constraints[i].kind == 0) <;> simp [bne, hkk]
       ·rw [if_neg (by simp; omega)];simp only [hm, if_false];cases hkk : (m.constraints[i].kind == 0) <;> simp [bne, hkk]
      ·rw [if_neg (by rw [zb9 (by omega)]; simp)];simp [hlt]
    by_cases hk : m.constraints[i].kind = 0
    ·rw [if_pos (by simp [hk])];have hX : (zd8 l.length m.constraints[i] || acyP m m.constraints[i]) = ((m.constraints[i].first == 0 && m.constraints[i].size == 0) && rowOK l.length m.constraints[i].row) := by
      simp [zd8, acyP, hk]
     rw [← hrest _ hX.symm];cases h1 : (m.constraints[i].first == 0) <;> cases h2 : (m.constraints[i].size == 0) <;> cases h3 : rowOK l.length m.constraints[i].row <;> simp [bne, h1, h2]
    ·rw [if_neg (by simp [hk])];have hX : (zd8 l.length m.constraints[i] || acyP m m.constraints[i]) = (m.constraints[i].kind == 1 && zhd m m.constraints[i]) := by
      simp [zd8, acyP, hk]
     rw [← hrest _ hX.symm];cases h1 : (m.constraints[i].kind == 1) <;> cases h3 : zhd m m.constraints[i] <;> simp [bne, h1]
  ·simp [zW.l1]
 ·rw [if_pos (by
   simp only [yb, yd] at h0;simp only [yz, yd]; omega)]
  simp only [yF] at h0;rw [h0, y6]
theorem consP_ref {m l} (h2 : 2 * l.length ≤ m.constraints.length) :
  allR (fun i => conP m l i ((idx m.constraints (i : Int)).getD default)) 0 m.constraints.length = (allR (fun i => decide (((idx m.constraints ((2 * i : Nat) : Int)).getD default).row = zc5 l (2 * i)) && decide (((idx m.constraints ((2 * i + 1 : Nat) : Int)).getD default).row = zc5 l (2 * i + 1))) 0 l.length
   && allR (fun i => famP m ((idx m.constraints (i : Int)).getD default) && (zd8 l.length ((idx m.constraints (i : Int)).getD default) || (decide (2 * l.length ≤ i) && acyP m ((idx m.constraints (i : Int)).getD default)))) 0 m.constraints.length) := by
 rw [Bool.eq_iff_iff, yb, zja, zja, zja];constructor
 ·intro h;refine ⟨fun j hj => ?_, fun i hi => ?_⟩
  ·have ha := h (2 * j) (by omega);have hb := h (2 * j + 1) (by omega);simp only [conP, yb, yz, yx, yC, yd] at ha hb ⊢;rcases ha.2 with e | e
   ·omega
   rcases hb.2 with f | f
   ·omega
   exact ⟨e.2, f.2⟩
  ·have ha := h i hi;simp only [conP, yb, yz, yx, yC, yd] at ha ⊢;refine ⟨ha.1.1, ?_⟩;rcases ha.1.2 with e | e
   ·exact .inl e
   ·refine .inr ⟨?_, e⟩;rcases ha.2 with f | f
    ·omega
    ·simp only [acyP, yb, beq_iff_eq] at e;have := f.1;simp only [beq_iff_eq] at this;omega
 ·rintro ⟨ha, hb⟩ i hi;have hb := hb i hi;simp only [conP, yb, yz, yx, yC, yd] at hb ⊢;refine ⟨⟨hb.1, hb.2.imp id (·.2)⟩, ?_⟩;by_cases hlt : i / 2 < l.length
  ·right;have ha := ha (i / 2) hlt;simp only [yb, yd] at ha;rcases hb.2 with e | e
   ·refine ⟨?_, ?_⟩
    ·simp only [zd8, yb] at e; exact e.1.1.1
    ·by_cases hm : i % 2 = 0
     ·have := ha.1
      rwa [show 2 * (i / 2) = i by omega] at this
     ·have := ha.2
      rwa [show 2 * (i / 2) + 1 = i by omega] at this
   ·omega
  ·exact .inl hlt
theorem zg4 {n : Nat} {m} (hS : SmallM m) (hL : zbh m.sorts m.tables = true) (hn : 1000000 ≤ n) : zN n m = some (consP m (zJ m.sorts true m.tables)) := by
 have hcl := hS.constraints;have htl := hS.tables;have hsl := hS.sorts;obtain ⟨l1, l2, l3, l4⟩ := zbv hL;have hlen := zcF (sizes := m.sorts) (s := true) (l := m.tables) fun x hx => (l4 x hx).2.2.2.2
 unfold zN zce consP;rw [zew hn (by omega) (by omega) (fun t ht => by have := hS.tab t ht; omega), hL, if_pos rfl];generalize zJ m.sorts true m.tables = l at hlen;simp only [ya, mul2 (show l.length < 1000000 by omega)];by_cases h0 : (decide (m.constraints.length ≤ 512) && decide (2 * l.length ≤ m.constraints.length)) = true
 ·rw [h0, yD];simp only [yb, yd] at h0;rw [if_neg (by simp; omega), consP_ref h0.2];have first := zgq (body := zN.l1 n m l) (len := l.length) (n := n) (st := fun i => (i : Int)) (fun i => decide (((idx m.constraints ((2 * i : Nat) : Int)).getD default).row = zc5 l (2 * i)) && decide (((idx m.constraints ((2 * i + 1 : Nat) : Int)).getD default).row = zc5 l (2 * i + 1))) (some false) (loopF (zN.l2 n m l) n 0) (fun rec i hi => ?_) (fun rec => ?_) (by omega)
  ·simp only [Int.natCast_zero] at first
   rw [first];have second := zgq (body := zN.l2 n m l) (len := m.constraints.length) (n := n) (st := fun i => (i : Int)) (fun i => famP m ((idx m.constraints (i : Int)).getD default) && (zd8 l.length ((idx m.constraints (i : Int)).getD default) || (decide (2 * l.length ≤ i) && acyP m ((idx m.constraints (i : Int)).getD default)))) (some false) (some true) (fun rec i hi => ?_) (fun rec => ?_) (by omega)
   ·simp only [Int.natCast_zero] at second;rw [second];cases allR (fun i => decide (((idx m.constraints ((2 * i : Nat) : Int)).getD default).row = zc5 l (2 * i)) && decide (((idx m.constraints ((2 * i + 1 : Nat) : Int)).getD default).row = zc5 l (2 * i + 1))) 0 l.length <;> cases allR (fun i => famP m ((idx m.constraints (i : Int)).getD default) && (zd8 l.length ((idx m.constraints (i : Int)).getD default) || (decide (2 * l.length ≤ i) && acyP m ((idx m.constraints (i : Int)).getD default)))) 0 m.constraints.length <;> rfl
   ·have hterms := hS.con _ (yg hi);have hd : decide (mul64 2 (l.length : Int) ≤ (i : Int)) = decide (2 * l.length ≤ i) := by rw [mul2 (by omega)]; exact decide_eq_decide.2 (by omega)
    simp only [zN.l2, zh hi, if_true, za hi, ya, yf, ref_row_eq (r := m.constraints[i].row) (show m.constraints[i].row.terms.length < 1000000 by omega) hn, ref_graph_eq (m := m) (c := m.constraints[i]) (fun t ht => (l4 t ht).2.2.2.1) (show m.tables.length < 1000000 by omega) hn, yj, yr, grd, zb (i := i) (by omega), hd];have hfam : (decide (m.constraints[i].family < 0) || decide ((m.families.length : Int) ≤ m.constraints[i].family)) = !famP m m.constraints[i] := by
     unfold famP;rw [Bool.not_and, ← decide_not, ← decide_not];congr 1
     ·exact decide_eq_decide.2 (by omega)
     ·exact decide_eq_decide.2 (by omega)
    rw [hfam];cases famP m m.constraints[i] with
    | false => simp
    | true =>
     have hp : ((((m.constraints[i].kind == 0) && (m.constraints[i].first == 0)) && (m.constraints[i].size == 0)) && rowOK l.length m.constraints[i].row) = zd8 l.length m.constraints[i] := rfl;rw [hp];unfold acyP;cases zd8 l.length m.constraints[i] <;> cases decide (2 * l.length ≤ i) <;> cases (m.constraints[i].kind == 1) <;> cases zhd m m.constraints[i] <;> simp
   ·simp [zN.l2]
  ·have h2i : 2 * i < m.constraints.length := by omega
   have h2j : 2 * i + 1 < m.constraints.length := by omega
   have t1 := hS.con _ (yg h2i);have t2 := hS.con _ (yg h2j);have e1 : zc5 l (2 * i) = ⟨[⟨(i : Int), -1⟩], neg64 l[i].lo⟩ := by
    unfold zc5;rw [show 2 * i / 2 = i by omega, if_pos (by omega), if_pos (by omega), za hi]; rfl
   have e2 : zc5 l (2 * i + 1) = ⟨[⟨(i : Int), 1⟩], l[i].hi⟩ := by
    unfold zc5;rw [show (2 * i + 1) / 2 = i by omega, if_neg (by omega), if_neg (by omega), za hi]; rfl
   have hadd : add64 ((2 * i : Nat) : Int) 1 = ((2 * i + 1 : Nat) : Int) := zb (by omega);simp only [zN.l1, zh hi, if_true, za hi, mul2 (show i < 1000000 by omega), za h2i, hadd, za h2j, ya, yf, SameRow_eq (show m.constraints[2 * i].row.terms.length < 1000000 by omega) hn, SameRow_eq (show m.constraints[2 * i + 1].row.terms.length < 1000000 by omega) hn, yj, yr, grd, zb (i := i) (by omega), e1, e2];cases decide (m.constraints[2 * i].row = ⟨[⟨(i : Int), -1⟩], neg64 l[i].lo⟩) <;> cases decide (m.constraints[2 * i + 1].row = ⟨[⟨(i : Int), 1⟩], l[i].hi⟩) <;> simp
  ·simp [zN.l1]
 ·rw [if_pos (by
   simp only [yb, yd] at h0;simp only [yz, yd]; omega)]
  simp only [yF] at h0;rw [h0, y6]
theorem zaf {α S R : Type} {body : (S → Option R) → S → Option R} {l : List α} {n : Nat} {st : Nat → S} (p : α → Bool) (F T : Option R)
  (hb : ∀ rec i (hi : i < l.length), body rec (st i) = if p l[i] = true then rec (st (i + 1)) else F) (he : ∀ rec, body rec (st l.length) = T) (hn : l.length < n) : loopF body n (st 0) = if l.all p = true then T else F := by
 have := zF (body := body) (len := l.length) (st := st) (g := fun i => if (l.drop i).all p = true then T else F) (fun rec i hi hr => ?_) (fun rec => ?_) n 0 (yp _) (by omega)
 ·simpa using this
 ·rw [hb rec i hi, zj hi, ub, hr];cases p l[i] <;> simp
 ·rw [he]; simp
def zcJ (sizes : List Int) (c : Int) : Int := sizes.getD c.toNat 0
def digR (sizes : List Int) : List Int → Int → List Int
 | [], _ => []
 | c :: l, k => k.tmod (zcJ sizes c) :: digR sizes l (w64 (k.tdiv (zcJ sizes c)))
def tupleP (sizes cols : List Int) (k : Int) : List Int := (digR sizes cols.reverse k).reverse
theorem zit {sizes : List Int} (hs : sizes.all zcq = true) {c : Int} (hc : colOK sizes c = true) : 1 ≤ zcJ sizes c ∧ zcJ sizes c ≤ 6 := by
 simp only [colOK, yb, yd] at hc;obtain ⟨k, rfl⟩ := yW hc.1;have hk : k < sizes.length := by omega
 have hz := ym.1 hs _ (yg hk);simp only [zcq, yb, yd] at hz;have hg : zcJ sizes (k : Int) = sizes[k] := by simp [zcJ, List.getD, hk]
 rw [hg]; exact hz
theorem sto_mid {r : Nat} {done : List Int} {x : Int} : sto (List.replicate (r + 1) 0 ++ done) (r : Int) x = some (List.replicate r 0 ++ x :: done) := by
 unfold sto;rw [if_pos (by simp; omega)];simp only [yq, yi];rw [List.replicate_succ', yJ, List.set_append_right _ _ (by simp)];simp
theorem idx_mid {r : Nat} {done : List Int} : ∃ x, idx (List.replicate (r + 1) 0 ++ done) (r : Int) = some x := ⟨_, za (by simp; omega)⟩
theorem take_rev {α : Type} {l : List α} {r : Nat} (h : r < l.length) : (l.take (r + 1)).reverse = l[r] :: (l.take r).reverse := by
 rw [yy h]; simp
theorem zjg {n : Nat} {sizes : List Int} {t : Table} {i : Int} (hs : sizes.all zcq = true) (hc : t.columns.all (colOK sizes) = true) (hl : t.columns.length < 1000000) : ∀ (m r : Nat) (done : List Int) (k : Int), r < m → r ≤ t.columns.length →
  loopF (za6.l2 n sizes i t) m (List.replicate r 0 ++ done, k, (r : Int) - 1) = some (i, (digR sizes (t.columns.take r).reverse k).reverse ++ done, true)
 | 0, _, _, _, h, _ => by omega
 | m + 1, 0, done, k, _, _ => by simp [loopF, za6.l2, digR]
 | m + 1, r + 1, done, k, h, hr => by
  have hrl : r < t.columns.length := by omega
  have hcol := ym.1 hc _ (yg hrl);have hsz := zit hs hcol;have e : (((r + 1 : Nat) : Int)) - 1 = (r : Int) := by omega
  obtain ⟨x, hx⟩ := idx_mid (r := r) (done := done);have hrem : rem64 k (zcJ sizes t.columns[r]) = some (k.tmod (zcJ sizes t.columns[r])) := by unfold rem64; rw [if_neg (by omega)]
  have hquo : quo64 k (zcJ sizes t.columns[r]) = some (w64 (k.tdiv (zcJ sizes t.columns[r]))) := by unfold quo64; rw [if_neg (by omega)]
  have hcs := zfK hcol;have hsub : sub64 (r : Int) 1 = (r : Int) - 1 := by unfold sub64; rw [zaL (by omega) (by omega)]
  have hd : decide (0 ≤ (r : Int)) = true := by simp
  unfold zcJ at hrem hquo;simp only [loopF, za6.l2, e, hd, if_true, za hrl, hcs, hrem, hquo, hx, sto_mid, ya, hsub];rw [zjg hs hc hl m r _ _ (by omega) (by omega), take_rev hrl];simp only [digR, zcJ, List.reverse_cons, yJ, List.singleton_append]
theorem ref_digits {n : Nat} {sizes cols : List Int} (hs : sizes.all zcq = true) (hc : cols.all (colOK sizes) = true) (hl : cols.length < 1000000) : ∀ (m r : Nat) (done : List Int) (k : Int), r < m → r ≤ cols.length →
  loopF (zdu.l1 n sizes cols) m (List.replicate r 0 ++ done, k, (r : Int) - 1) = some ((digR sizes (cols.take r).reverse k).reverse ++ done)
 | 0, _, _, _, h, _ => by omega
 | m + 1, 0, done, k, _, _ => by simp [loopF, zdu.l1, digR]
 | m + 1, r + 1, done, k, h, hr => by
  have hrl : r < cols.length := by omega
  have hcol := ym.1 hc _ (yg hrl);have hsz := zit hs hcol;have e : (((r + 1 : Nat) : Int)) - 1 = (r : Int) := by omega
  obtain ⟨x, hx⟩ := idx_mid (r := r) (done := done);have hrem : rem64 k (zcJ sizes cols[r]) = some (k.tmod (zcJ sizes cols[r])) := by unfold rem64; rw [if_neg (by omega)]
  have hquo : quo64 k (zcJ sizes cols[r]) = some (w64 (k.tdiv (zcJ sizes cols[r]))) := by unfold quo64; rw [if_neg (by omega)]
  have hcs := zfK hcol;have hsub : sub64 (r : Int) 1 = (r : Int) - 1 := by unfold sub64; rw [zaL (by omega) (by omega)]
  have hd : decide (0 ≤ (r : Int)) = true := by simp
  unfold zcJ at hrem hquo;simp only [loopF, zdu.l1, e, hd, if_true, za hrl, hcs, hrem, hquo, hx, sto_mid, ya, hsub];rw [ref_digits hs hc hl m r _ _ (by omega) (by omega), take_rev hrl];simp only [digR, zcJ, List.reverse_cons, yJ, List.singleton_append]
theorem mkl_0 {b k : Nat} (h : k * b ≤ 140737488355328) : mkl b (k : Int) (0 : Int) = some (List.replicate k 0) := by
 have e : ((k * b : Nat) : Int) = (k : Int) * (b : Int) := yK k b;unfold mkl; rw [if_pos ⟨by omega, by omega⟩]; simp
theorem zkR {k : Nat} (h : k < 1000000) : sub64 (k : Int) 1 = (k : Int) - 1 := by
 unfold sub64; rw [zaL (by omega) (by omega)]
theorem ref09_nth_eq {n : Nat} {sizes cols : List Int} {k : Int} (hs : sizes.all zcq = true) (hc : cols.all (colOK sizes) = true) (hl : cols.length ≤ 1000) (hn : 1000000 ≤ n) : zdu n sizes cols k = some (tupleP sizes cols k) := by
 unfold zdu;rw [mkl_0 (by omega), ya, zkR (by omega)];have := ref_digits (n := n) hs hc (by omega) n cols.length [] k (by omega) (yn _);simpa [tupleP] using this
def hitP (sizes : List Int) (s : Bool) (cell : Int) (t : Table) : Bool := (zbx t.kind == s) && (decide (0 ≤ sub64 cell t.first) && decide (sub64 cell t.first < zag sizes t.columns 1))
def resT (sizes : List Int) (s : Bool) (cell : Int) : List Table → Nat → Int × List Int × Bool
 | [], _ => (0, [], false)
 | t :: l, i => if hitP sizes s cell t = true then ((i : Int), tupleP sizes t.columns (sub64 cell t.first), true) else resT sizes s cell l (i + 1)
def cellP (sizes : List Int) (tables : List Table) (s : Bool) (cell : Int) : Int × List Int × Bool := if (zbh sizes tables && decide (0 ≤ cell)) = true then resT sizes s cell tables 0 else (0, [], false)
theorem cells_Tuple_eq {n : Nat} {sizes : List Int} {tables : List Table} {s : Bool} {cell : Int} (hF : Fuel n) (hs : sizes.length ≤ 1000) (ht : tables.length ≤ 1000) (hc : ∀ t ∈ tables, t.columns.length ≤ 1000) : za6 n sizes tables s cell = some (cellP sizes tables s cell) := by
 have hn := hF.big;unfold za6 cellP;rw [zeV hF hs ht hc, ya];cases hL : zbh sizes tables with
 | false => simp
 | true =>
  obtain ⟨l1, l2, l3, l4⟩ := zbv hL;by_cases h0 : 0 ≤ cell
  ·rw [if_neg (by simp; omega), if_pos (by simp [h0])];have := zF (body := za6.l1 n sizes tables s cell) (len := tables.length) (st := fun i => (i : Int)) (g := fun i => some (resT sizes s cell (tables.drop i) i)) (fun rec i hi hr => ?_) (fun rec => ?_) n 0 (yp _) (by omega)
   ·simpa using this
   ·obtain ⟨-, -, c1, c2, c3, c4⟩ := l4 _ (yg hi);simp only [za6.l1, zh hi, if_true, za hi, ya, zbY, zeX c2 (show tables[i].columns.length < 4611686018427387904 by omega) (show tables[i].columns.length < n by omega), yj, yr, grd, yf, zb (i := i) (by omega), hr, mkl_0 (b := 8) (k := tables[i].columns.length) (by omega), um, zkR (show tables[i].columns.length < 1000000 by omega)];have hdig := zjg (n := n) (i := (i : Int)) l3 c2 (by omega) n tables[i].columns.length [] (sub64 cell tables[i].first) (by omega) (yn _);simp only [ug, List.take_length] at hdig;rw [hdig, zj hi, resT];have hh : (((tables[i].kind == 0 || tables[i].kind == 1) != s || decide (sub64 cell tables[i].first < 0)) || decide (zag sizes tables[i].columns 1 ≤ sub64 cell tables[i].first)) = !hitP sizes s cell tables[i] := by
     unfold hitP zbx;rw [Bool.not_and, Bool.not_and, ← decide_not, ← decide_not, Bool.or_assoc];congr 1;congr 1
     ·exact decide_eq_decide.2 (by omega)
     ·exact decide_eq_decide.2 (by omega)
    rw [hh];cases hitP sizes s cell tables[i] <;> simp [tupleP]
   ·simp [za6.l1, resT]
  ·rw [if_pos (by simp; omega), if_neg (by simp; omega)]
theorem ref09_Tuple_eq {n : Nat} {sizes : List Int} {tables : List Table} {s : Bool} {cell : Int} (hn : 1000000 ≤ n) (hs : sizes.length ≤ 1000) (ht : tables.length ≤ 1000) (hc : ∀ t ∈ tables, t.columns.length ≤ 1000 ∧ t.name.length ≤ 4096) : zci n sizes tables s cell = some (cellP sizes tables s cell) := by
 unfold zci cellP;rw [ze3 hn hs ht hc, ya];cases hL : zbh sizes tables with
 | false => simp
 | true =>
  obtain ⟨l1, l2, l3, l4⟩ := zbv hL;rw [if_neg (by simp)];have := zF (body := zci.l1 n sizes tables s cell) (len := tables.length) (st := fun i => (i : Int)) (g := fun i => some (if decide (0 ≤ cell) = true then resT sizes s cell (tables.drop i) i else (0, [], false))) (fun rec i hi hr => ?_) (fun rec => ?_) n 0 (yp _) (by omega)
  ·simpa using this
  ·obtain ⟨-, -, c1, c2, c3, c4⟩ := l4 _ (yg hi);have hnum := zex (n := n) (sizes := sizes) (cols := tables[i].columns) (by omega) (by omega) (by omega) (by omega);simp only [l3, c2, c1, decide_true, ul, if_true] at hnum;simp only [zci.l1, zh hi, if_true, za hi, ya, zbU, hnum, yj, yr, grd, yf, zb (i := i) (by omega), hr, ref09_nth_eq l3 c2 (show tables[i].columns.length ≤ 1000 by omega) hn];rw [zj hi, resT];unfold hitP zbx;cases decide (0 ≤ cell) with
   | false => simp
   | true =>
    simp only [if_true, ul];by_cases h1 : ((tables[i].kind == 0 || tables[i].kind == 1) == s && decide (0 ≤ sub64 cell tables[i].first) && decide (sub64 cell tables[i].first < zag sizes tables[i].columns 1)) = true
    ·rw [if_pos h1, if_pos (by rw [← Bool.and_assoc]; exact h1)]
    ·rw [if_neg h1, if_neg (by rw [← Bool.and_assoc]; exact h1)]
  ·simp [zci.l1, resT]
theorem resT_lt {sizes : List Int} {s : Bool} {cell : Int} : ∀ (l : List Table) (i : Nat), (resT sizes s cell l i).2.2 = true → ∃ k : Nat, (resT sizes s cell l i).1 = (k : Int) ∧ i ≤ k ∧ k < i + l.length
 | [], _, h => by simp [resT] at h
 | t :: l, i, h => by
  rw [resT] at h ⊢;split at h
  ·rename_i hh;rw [if_pos hh];exact ⟨i, rfl, yn _, by simp⟩
  ·rename_i hh;rw [if_neg hh];obtain ⟨k, e, k1, k2⟩ := resT_lt l (i + 1) h;exact ⟨k, e, by omega, by simp only [yQ]; omega⟩
theorem cellP_idx {sizes : List Int} {tables : List Table} {s : Bool} {cell : Int} (h : (cellP sizes tables s cell).2.2 = true) : ∃ t, idx tables (cellP sizes tables s cell).1 = some t := by
 unfold cellP at h ⊢;split at h
 ·rename_i hh;rw [if_pos hh];obtain ⟨k, e, -, k2⟩ := resT_lt tables 0 h;rw [e];exact ⟨_, za (by omega)⟩
 ·simp at h
theorem cellP_neg {sizes : List Int} {tables : List Table} {s : Bool} {cell : Int} (h : cell < 0) : (cellP sizes tables s cell).2.2 = false := by
 unfold cellP;rw [if_neg (by simp; omega)]
def updT (t : Table) (u : Update) : Bool := if (t.kind == 2 || t.kind == 3) = true then ((u.kind == 0) || (u.kind == 1)) && (u.value == 0) else ((u.kind == 2) && decide (t.range.lo ≤ u.value)) && decide (u.value ≤ t.range.hi)
def updP (m : Model) (u : Update) : Bool := (cellP m.sorts m.tables false u.cell).2.2 && updT ((idx m.tables (cellP m.sorts m.tables false u.cell).1).getD default) u
def updsP (m : Model) : Int → List Update → Bool
 | _, [] => true
 | last, u :: l => (decide (last < u.cell) && updP m u) && updsP m u.cell l
theorem zkC {n : Nat} {m : Model} {l : List Range} {u : Update} (hF : Fuel n) (hS : SmallM m) : zbt n ⟨m, l⟩ u = some (updP m u) := by
 unfold zbt updP;have hs := hS.sorts;have ht := hS.tables;simp only [];rw [cells_Tuple_eq hF (by omega) (by omega) (fun t h => by have := hS.tab t h; omega), ya];cases hok : (cellP m.sorts m.tables false u.cell).2.2 with
 | false => simp
 | true =>
  obtain ⟨t, ht⟩ := cellP_idx hok;simp only [ht, y8, ye, if_false, ya, yf, yD, jn, updT];by_cases h2 : t.kind = 2
  ·simp [h2]
  ·by_cases h3 : t.kind = 3
   ·simp [h3]
   ·simp [h2, h3]
def opP (m : Model) (o : Operation) : Bool := decide (o.sorts.length ≤ 3) && o.sorts.all fun s => decide (-1 ≤ s) && decide (s < (m.sorts.length : Int))
def opsP (m : Model) : Bool := m.operations.all (opP m) && (decide (m.operations.length ≤ 8) && distP [] (m.operations.map (·.name)))
theorem zds {α β : Type} {f : α → β} {l : List α} {i : Nat} (hi : i < l.length) : (l.take i).map f ++ [f l[i]] = (l.take (i + 1)).map f := by
 rw [yy hi, uh]; rfl
theorem zhH {n : Nat} {m : Model} {l : List Range} (hF : Fuel n) (hS : SmallM m) : zC n ⟨m, l⟩ = some (opsP m) := by
 have hn := hF.big;have hol := hS.operations;unfold zC opsP;have := zaf (body := zC.l1 n ⟨m, l⟩) (l := m.operations) (n := n) (st := fun i => ((m.operations.take i).map (·.name), (i : Int))) (opP m) (some false) (some (decide (m.operations.length ≤ 8) && distP [] (m.operations.map (·.name)))) (fun rec i hi => ?_) (fun rec => ?_) (by omega)
 ·simp only [List.take_zero, List.map_nil, Int.natCast_zero] at this;rw [this];cases m.operations.all (opP m) <;> rfl
 ·have hop := hS.op _ (yg hi);simp only [zC.l1, zh hi, if_true, za hi, ya];rw [zq (by simp; omega), ya, zb3 (p := fun s => !(decide (-1 ≤ s) && decide (s < (m.sorts.length : Int)))) (fun x _ => by
   simp only [za2, yi, Bool.not_and, ← decide_not];congr 1
   ·exact decide_eq_decide.2 (by omega)
   ·exact decide_eq_decide.2 (by omega)) (by omega) (by omega)]
  simp only [yj, yr, grd, if_true, yf, zb (i := i) (by omega), zds hi];have h3 : decide (3 < (m.operations[i].sorts.length : Int)) = !decide (m.operations[i].sorts.length ≤ 3) := by rw [← decide_not]; exact decide_eq_decide.2 (by omega)
  rw [h3, ← Bool.not_not (m.operations[i].sorts.any _), zj3, ← Bool.not_and];unfold opP;cases (decide (m.operations[i].sorts.length ≤ 3) && m.operations[i].sorts.all fun s => decide (-1 ≤ s) && decide (s < (m.sorts.length : Int))) <;> rfl
 ·simp only [zC.l1, zah, ye, if_false, List.take_length];rw [zfl hF (by simp; omega)];simp only [yj, yr, grd, if_true, yf, uc, yi];congr 1;exact decide_eq_decide.2 (by omega)
def zhc (K : Nat) : Int → List Change → Bool
 | _, [] => true
 | last, d :: l => (decide (last < d.cell) && decide (d.cell < (K : Int)) && (d.add != 0) && zau d.add 1000000000) && zhc K d.cell l
def effP (m : Model) (K : Nat) (x : Effect) : Bool := zhc K (-1) x.delta && (updsP m (-1) x.updates && (decide (x.hold.length ≤ 8) && decide (x.updates.length ≤ 32) && x.hold.all (rowOK K)))
theorem zky {n m l x} (hF : Fuel n) (hS : SmallM m) (h1 : x.delta.length ≤ 1000) (h2 : x.updates.length ≤ 1000) (h3 : x.hold.length ≤ 1000) (h4 : ∀ r ∈ x.hold, r.terms.length ≤ 1000) : zH n ⟨m, l⟩ x = some (effP m l.length x) := by
 have hn := hF.big;have T : loopF (zH.l2 n ⟨m, l⟩ x) n (-1, 0) = some (updsP m (-1) x.updates && (decide (x.hold.length ≤ 8) && decide (x.updates.length ≤ 32) && x.hold.all (rowOK l.length))) := by
  have := zbA (body := zH.l2 n ⟨m, l⟩ x) (len := x.updates.length) (st := fun (s : Int) i => (s, (i : Int))) (g := fun i s => some (updsP m s (x.updates.drop i) && (decide (x.hold.length ≤ 8) && decide (x.updates.length ≤ 32) && x.hold.all (rowOK l.length)))) (fun _ _ => True) (fun rec i s hi _ hr => ?_) (fun rec s _ => ?_) n 0 (-1) (yp _) (by omega) trivial
  ·simpa using this
  ·simp only [zH.l2, zh hi, if_true, za hi, ya, zkC hF hS, yj, yr, grd, yf, zb (i := i) (by omega), hr x.updates[i].cell trivial];rw [zj hi, updsP];by_cases hlt : s < x.updates[i].cell
   ·have hd : decide (x.updates[i].cell ≤ s) = false := by simp; omega
    rw [hd];cases updP m x.updates[i] <;> simp [hlt]
   ·have hd : decide (x.updates[i].cell ≤ s) = true := by simp; omega
    rw [hd]; simp [hlt]
  ·have hc : zl n x.hold (fun q0 => zbb n q0 ⟨m, l⟩) = some (x.hold.any fun r => !rowOK l.length r) := zcx (fun r hr => by
    unfold zbb;rw [zjn (by have := h4 r hr; omega) (by omega)]; rfl) (by omega) (by omega)
   simp only [zH.l2, zah, ye, if_false, hc, yj, yr, grd, if_true, yf, zj3, List.drop_length, updsP, yD, yi];congr 2
   ·exact decide_eq_decide.2 (by omega)
   ·exact decide_eq_decide.2 (by omega)
 have := zbA (body := zH.l1 n ⟨m, l⟩ x) (len := x.delta.length) (st := fun (s : Int) i => (s, (i : Int))) (g := fun i s => some (zhc l.length s (x.delta.drop i) && (updsP m (-1) x.updates && (decide (x.hold.length ≤ 8) && decide (x.updates.length ≤ 32) && x.hold.all (rowOK l.length))))) (fun _ _ => True) (fun rec i s hi _ hr => ?_) (fun rec s _ => ?_) n 0 (-1) (yp _) (by omega) trivial
 ·simpa [zH, effP] using this
 ·simp only [zH.l1, zh hi, if_true, za hi, ya, around9, yj, yr, grd, yf, zb (i := i) (by omega), hr x.delta[i].cell trivial];rw [zj hi, zhc];by_cases h : (decide (s < x.delta[i].cell) && decide (x.delta[i].cell < (l.length : Int)) && (x.delta[i].add != 0) && zau x.delta[i].add 1000000000) = true
  ·rw [h, yD];simp only [yb, yd, bne_iff_ne] at h;rw [if_neg (by simp [h.2, h.1.2]; omega)]
  ·rw [if_pos (by
    simp only [yb, yd, bne_iff_ne, ne_eq] at h;simp only [yz, yd, beq_iff_eq, yx, ← yF];by_cases ha : zau x.delta[i].add 1000000000 = true
    ·left; simp only [ha, and_true] at h; omega
    ·exact .inr ha)]
   simp only [yF] at h;rw [h]; rfl
 ·simp only [zH.l1, zah, ye, if_false, T, List.drop_length, zhc, yD]
theorem ref_effect_eq {n m x} (hn : 1000000 ≤ n) (hS : SmallM m) (hL : zbh m.sorts m.tables = true) (h1 : x.delta.length ≤ 1000) (h2 : x.updates.length ≤ 1000) (h3 : x.hold.length ≤ 1000) (h4 : ∀ r ∈ x.hold, r.terms.length ≤ 1000) : zV n m x = some (effP m (zJ m.sorts true m.tables).length x) := by
 have htl := hS.tables;have hsl := hS.sorts;have hcs : ∀ t ∈ m.tables, t.columns.length ≤ 1000 ∧ t.name.length ≤ 4096 := fun t ht => by have := hS.tab t ht; omega
 unfold zV zce;rw [zew hn (by omega) (by omega) hcs, hL, if_pos rfl];generalize zJ m.sorts true m.tables = l;simp only [ya];have T3 : loopF (zV.l3 n m x) n 0 = some (updsP m (-1) x.updates && (decide (x.hold.length ≤ 8) && decide (x.updates.length ≤ 32))) := by
  have := zbA (body := zV.l3 n m x) (len := x.updates.length) (st := fun (_ : Int) i => (i : Int)) (g := fun i s => some (updsP m s (x.updates.drop i) && (decide (x.hold.length ≤ 8) && decide (x.updates.length ≤ 32)))) (fun i s => -1 ≤ s ∧ ((i = 0 ∧ s = -1) ∨ (0 < i ∧ ∃ y, idx x.updates (sub64 (i : Int) 1) = some y ∧ y.cell = s))) (fun rec i s hi hI hr => ?_) (fun rec s _ => ?_) n 0 (-1) (yp _) (by omega) ⟨by omega, .inl ⟨rfl, rfl⟩⟩
  ·simpa using this
  ·obtain ⟨h1, h2⟩ := hI;have hprev : (decide (0 < (i : Int)) && decide (x.updates[i].cell ≤ ((idx x.updates (sub64 (i : Int) 1)).getD default).cell)) = (decide (0 < i) && decide (x.updates[i].cell ≤ s)) ∧ (!(decide (0 < (i : Int))) || (idx x.updates (sub64 (i : Int) 1)).isSome) = true := by
    rcases h2 with ⟨h2, h3⟩ | ⟨h2, y, h3, h4⟩
    ·subst h2; simp
    ·rw [h3]; simp [h4, h2]
   have hnext : (-1 ≤ x.updates[i].cell) → rec ((i + 1 : Nat) : Int) = some (updsP m x.updates[i].cell (x.updates.drop (i + 1)) && (decide (x.hold.length ≤ 8) && decide (x.updates.length ≤ 32))) := fun h => hr x.updates[i].cell ⟨h, .inr ⟨by omega, x.updates[i], by
     rw [ze6 (by omega) (by omega), show i + 1 - 1 = i by omega, za hi], rfl⟩⟩
   simp only [zV.l3, zh hi, if_true, za hi, ya, ref09_Tuple_eq (cell := x.updates[i].cell) (s := false) hn (show m.sorts.length ≤ 1000 by omega) (show m.tables.length ≤ 1000 by omega) hcs, hprev.1, hprev.2, yr, grd, zip, zb (i := i) (by omega)];rw [zj hi, updsP];unfold updP;cases hok : (cellP m.sorts m.tables false x.updates[i].cell).2.2 with
   | false => simp
   | true =>
    obtain ⟨t, ht⟩ := cellP_idx hok;have hge : 0 ≤ x.updates[i].cell := by
     by_cases h : x.updates[i].cell < 0
     ·rw [cellP_neg h] at hok; cases hok
     ·omega
    have hasc : (decide (0 < i) && decide (x.updates[i].cell ≤ s)) = !decide (s < x.updates[i].cell) := by
     rw [← decide_not, ← Bool.decide_and];refine decide_eq_decide.2 ?_;rcases h2 with ⟨h2, h3⟩ | ⟨h2, -⟩ <;> omega
    rw [hasc, hnext (by omega)];simp only [ht, y8, uw, ya, yf, yD];cases decide (s < x.updates[i].cell) with
    | false => simp
    | true =>
     simp only [y8, ye, if_false, yD];unfold updT;by_cases hset : (t.kind == 2 || t.kind == 3) = true
     ·rw [hset];simp only [if_true, yD, y8, y6, ye, if_false];cases hk0 : (x.updates[i].kind == 0) <;> cases hk1 : (x.updates[i].kind == 1) <;> cases hv : (x.updates[i].value == 0) <;> simp [bne, hk0, hk1, hv]
     ·simp only [yF] at hset;rw [hset];simp only [y6, ye, if_false, uD, yD];have e1 : decide (x.updates[i].value < t.range.lo) = !decide (t.range.lo ≤ x.updates[i].value) := by rw [← decide_not]; exact decide_eq_decide.2 (by omega)
      have e2 : decide (t.range.hi < x.updates[i].value) = !decide (x.updates[i].value ≤ t.range.hi) := by rw [← decide_not]; exact decide_eq_decide.2 (by omega)
      rw [e1, e2];cases hk0 : (x.updates[i].kind == 2) <;> cases decide (t.range.lo ≤ x.updates[i].value) <;> cases decide (x.updates[i].value ≤ t.range.hi) <;> simp [bne, hk0]
  ·simp only [zV.l3, zah, ye, if_false, List.drop_length, updsP, yD, yi];congr 1
   ·exact decide_eq_decide.2 (by omega)
   ·exact decide_eq_decide.2 (by omega)
 have T2 : loopF (zV.l2 n m x l) n 0 = if x.hold.all (rowOK l.length) = true then some (updsP m (-1) x.updates && (decide (x.hold.length ≤ 8) && decide (x.updates.length ≤ 32))) else some false := by
  have := zaf (body := zV.l2 n m x l) (l := x.hold) (n := n) (st := fun i => (i : Int)) (rowOK l.length) (some false) (some (updsP m (-1) x.updates && (decide (x.hold.length ≤ 8) && decide (x.updates.length ≤ 32)))) (fun rec i hi => ?_) (fun rec => ?_) (by omega)
  ·simpa using this
  ·simp only [zV.l2, zh hi, if_true, za hi, ya, ref_row_eq (show x.hold[i].terms.length < 1000000 by have := h4 _ (yg hi); omega) hn, zb (i := i) (by omega)];cases rowOK l.length x.hold[i] <;> simp
  ·simp only [zV.l2, zah, ye, if_false, T3]
 have := zbA (body := zV.l1 n m x l) (len := x.delta.length) (st := fun (_ : Int) i => (i : Int)) (g := fun i s => some (zhc l.length s (x.delta.drop i) && (updsP m (-1) x.updates && (decide (x.hold.length ≤ 8) && decide (x.updates.length ≤ 32) && x.hold.all (rowOK l.length))))) (fun i s => -1 ≤ s ∧ ((i = 0 ∧ s = -1) ∨ (0 < i ∧ ∃ y, idx x.delta (sub64 (i : Int) 1) = some y ∧ y.cell = s))) (fun rec i s hi hI hr => ?_) (fun rec s _ => ?_) n 0 (-1) (yp _) (by omega) ⟨by omega, .inl ⟨rfl, rfl⟩⟩
 ·simpa [effP] using this
 ·obtain ⟨h1, h2⟩ := hI;have hprev : (decide (0 < (i : Int)) && decide (x.delta[i].cell ≤ ((idx x.delta (sub64 (i : Int) 1)).getD default).cell)) = (decide (0 < i) && decide (x.delta[i].cell ≤ s)) ∧ (!(decide (0 < (i : Int))) || (idx x.delta (sub64 (i : Int) 1)).isSome) = true := by
   rcases h2 with ⟨h2, h3⟩ | ⟨h2, y, h3, h4⟩
   ·subst h2; simp
   ·rw [h3]; simp [h4, h2]
  simp only [zV.l1, zh hi, if_true, za hi, ya, between9, yj, yr, grd, yf, hprev.1, hprev.2, zb (i := i) (by omega)];rw [zj hi, zhc];by_cases h : (decide (s < x.delta[i].cell) && decide (x.delta[i].cell < (l.length : Int)) && (x.delta[i].add != 0) && zau x.delta[i].add 1000000000) = true
  ·rw [h, yD];simp only [yb, yd, bne_iff_ne] at h;rw [if_neg (by simp [h.2, h.1.2]; omega), hr x.delta[i].cell ⟨by omega, .inr ⟨by omega, x.delta[i], by
    rw [ze6 (by omega) (by omega), show i + 1 - 1 = i by omega, za hi], rfl⟩⟩]
  ·rw [if_pos (by
    simp only [yb, yd, bne_iff_ne, ne_eq] at h;simp only [yz, yb, yd, beq_iff_eq, yx, ← yF];by_cases ha : zau x.delta[i].add 1000000000 = true
    ·left; simp only [ha, and_true] at h;rcases h2 with ⟨h2, h3⟩ | ⟨h2, -⟩ <;> omega
    ·exact .inr ha)]
   simp only [yF] at h;rw [h]; rfl
 ·simp only [zV.l1, zah, ye, if_false, T2, List.drop_length, zhc, yD];cases x.hold.all (rowOK l.length) <;> simp
def cmpP : List Int → List Int → Int
 | [], [] => 0
 | [], _ :: _ => -1
 | _ :: _, [] => 1
 | x :: l, y :: k => if x < y then -1 else if y < x then 1 else cmpP l k
def lessP : List Int → List Int → Bool
 | [], [] => false
 | [], _ :: _ => true
 | _ :: _, [] => false
 | x :: l, y :: k => if x = y then lessP l k else decide (x < y)
theorem cmp_less : ∀ a b : List Int, decide (0 ≤ cmpP a b) = !lessP a b
 | [], [] => rfl
 | [], _ :: _ => rfl
 | _ :: _, [] => rfl
 | x :: l, y :: k => by
  simp only [cmpP, lessP];by_cases h : x = y
  ·subst h; simp [cmp_less l k]
  ·by_cases h2 : x < y
   ·simp [h, h2]
   ·have : y < x := by omega
    simp [h, h2, this]
theorem Compare_eq {n a b} (hl : a.length < 1000000) (hn : 1000000 ≤ n) : zi n a b = some (cmpP a b) := by
 have := zF (body := zi.l1 n a b) (len := a.length) (st := fun i => (i : Int)) (g := fun i => some (cmpP (a.drop i) (b.drop i))) (fun rec i hi hr => ?_) (fun rec => ?_) n 0 (yp _) (by omega)
 ·simpa [zi] using this
 ·simp only [zi.l1, zh hi, if_true, za hi, ya, zb (i := i) (by omega), hr];rw [zj hi];by_cases hb : i < b.length
  ·rw [if_neg (by simp; omega), za hb, zj hb];simp only [ya, zb7, zdm, uR, ye, if_false, cmpP, yd];by_cases h1 : a[i] < b[i]
   ·simp [h1]
   ·by_cases h2 : b[i] < a[i]
    ·simp [h1, h2]
    ·simp [h1, h2]
  ·rw [if_pos (by simp; omega), show b.drop i = [] from List.drop_eq_nil_of_le (by omega)];rfl
 ·simp only [zi.l1, zah, ye, if_false, List.drop_length];by_cases hb : a.length < b.length
  ·rw [if_pos (by simpa using hb), zj hb]; rfl
  ·rw [if_neg (by simpa using hb), List.drop_eq_nil_of_le (by omega)]; rfl
theorem ref_less_eq {n a b} (hl : a.length < 1000000) (hn : 1000000 ≤ n) : zbQ n a b = some (lessP a b) := by
 have := zF (body := zbQ.l1 n a b) (len := min a.length b.length) (st := fun i => (i : Int)) (g := fun i => some (lessP (a.drop i) (b.drop i))) (fun rec i hi hr => ?_) (fun rec => ?_) n 0 (yp _) (by omega)
 ·simpa [zbQ] using this
 ·have ha : i < a.length := by omega
  have hb : i < b.length := by omega
  simp only [zbQ.l1, zh ha, zh hb, uM, if_true, za ha, za hb, ya, zb (i := i) (by omega), hr];rw [zj ha, zj hb];by_cases h : a[i] = b[i]
  ·simp [h, lessP]
  ·simp [h, lessP]
 ·simp only [zbQ.l1];rw [if_neg (by simp; omega)];by_cases ha : a.length ≤ b.length
  ·rw [Nat.min_eq_left ha, List.drop_length];by_cases hb : a.length < b.length
   ·rw [zj hb]; simp [lessP, hb]
   ·rw [List.drop_eq_nil_of_le (by omega)]; simp [lessP]; omega
  ·rw [Nat.min_eq_right (by omega), List.drop_length, zj (by omega)];simp [lessP]; omega
def argP (m : Model) (s x : Int) : Bool := (!decide (s < 0) || zau x 9999) && (!decide (0 ≤ s) || (decide (0 ≤ x) && decide (x < (idx m.sorts s).getD default)))
def argsP (m : Model) : List Int → List Int → Bool
 | s :: l, x :: k => argP m s x && argsP m l k
 | _, _ => true
def opAt (m : Model) (a : Action) : Operation := (idx m.operations a.operation).getD default
def ordP (b a : Action) : Bool := !decide (a.operation < b.operation) && (!(b.operation == a.operation) || lessP b.arguments a.arguments)
def actP (m : Model) (K : Nat) (i : Nat) (a : Action) : Bool :=
 (decide (0 ≤ a.operation) && decide (a.operation < (m.operations.length : Int))) && (a.arguments.length == (opAt m a).sorts.length) && argsP m (opAt m a).sorts a.arguments && (decide (i = 0) || ordP ((idx m.actions ((i - 1 : Nat) : Int)).getD default) a) && effP m K a.effect
def actsP (m : Model) (K : Nat) : Bool := decide (m.actions.length ≤ 256) && allR (fun i => actP m K i ((idx m.actions (i : Int)).getD default)) 0 m.actions.length
theorem argsP_drop {m} {s x : List Int} {k : Nat} (h1 : k < s.length) (h2 : k < x.length) : argsP m (s.drop k) (x.drop k) = (argP m s[k] x[k] && argsP m (s.drop (k + 1)) (x.drop (k + 1))) := by
 rw [zj h1, zj h2]; rfl
theorem opAt_idx {m a} (h : (decide (0 ≤ a.operation) && decide (a.operation < (m.operations.length : Int))) = true) : idx m.operations a.operation = some (opAt m a) ∧ opAt m a ∈ m.operations := by
 simp only [yb, yd] at h;obtain ⟨o, ho⟩ := za8 h.1 h.2;refine ⟨by rw [ho, opAt, ho]; rfl, ?_⟩;rw [opAt, ho]; exact za4 ho
theorem idx_sort {m : Model} {s : Int} (h0 : 0 ≤ s) (h : s < (m.sorts.length : Int)) : idx m.sorts s = some ((idx m.sorts s).getD default) := by
 obtain ⟨x, hx⟩ := za8 h0 h;rw [hx]; rfl
theorem opsP_sorts {m} (h : opsP m = true) : ∀ o ∈ m.operations, o.sorts.length ≤ 3 ∧ ∀ s ∈ o.sorts, -1 ≤ s ∧ s < (m.sorts.length : Int) := by
 simp only [opsP, yb, ym] at h;intro o ho;have := h.1 o ho;simp only [opP, yb, yd, ym] at this;exact this
theorem ord_model {b a} : ((decide (a.operation < b.operation)) || ((b.operation == a.operation) && (decide (0 ≤ cmpP b.arguments a.arguments)))) = !ordP b a := by
 rw [cmp_less];unfold ordP;cases decide (a.operation < b.operation) <;> cases (b.operation == a.operation) <;> cases lessP b.arguments a.arguments <;> rfl
theorem ord_ref {b a} : ((decide (a.operation < b.operation)) || ((b.operation == a.operation) && (!lessP b.arguments a.arguments))) = !ordP b a := by
 unfold ordP;cases decide (a.operation < b.operation) <;> cases (b.operation == a.operation) <;> cases lessP b.arguments a.arguments <;> rfl
theorem zjD {n : Nat} {m} {l : List Range} (hF : Fuel n) (hS : SmallM m) (hO : opsP m = true) : zx n ⟨m, l⟩ = some (actsP m l.length) := by
 have hn := hF.big;have hal := hS.actions;unfold zx actsP;by_cases h0 : m.actions.length ≤ 256
 ·rw [if_neg (by simp; omega), decide_eq_true h0, yD];have := zgq (body := zx.l1 n ⟨m, l⟩) (len := m.actions.length) (n := n) (st := fun i => (i : Int)) (fun i => actP m l.length i ((idx m.actions (i : Int)).getD default)) (some false) (some true) (fun rec i hi => ?_) (fun rec => ?_) (by omega)
  ·simp only [Int.natCast_zero] at this;rw [this];cases allR (fun i => actP m l.length i ((idx m.actions (i : Int)).getD default)) 0 m.actions.length <;> rfl
  ·have hmem := yg hi;obtain ⟨a1, a2, a3, a4, a5⟩ := hS.act _ hmem;simp only [zx.l1, zh hi, if_true, za hi, ya, zai, yf];unfold actP;cases hop : (decide (0 ≤ m.actions[i].operation) && decide (m.actions[i].operation < (m.operations.length : Int))) with
   | false => simp [grd]
   | true =>
    obtain ⟨ho, hom⟩ := opAt_idx hop;obtain ⟨o1, o2⟩ := opsP_sorts hO _ hom;simp only [ho, yj, yr, grd, if_true, yf, y8, uw, yD, ya];by_cases hlen : m.actions[i].arguments.length = (opAt m m.actions[i]).sorts.length
    ·rw [if_neg (by simp [hlen])];have hle : (m.actions[i].arguments.length == (opAt m m.actions[i]).sorts.length) = true := by simp [hlen]
     rw [hle, yD];have inner := zF (body := zx.l2 n ⟨m, l⟩ i rec m.actions[i] (opAt m m.actions[i])) (len := (opAt m m.actions[i]).sorts.length) (st := fun k => (k : Int)) (g := fun k => if argsP m ((opAt m m.actions[i]).sorts.drop k) (m.actions[i].arguments.drop k) = true then (if ((decide (i = 0) || ordP ((idx m.actions ((i - 1 : Nat) : Int)).getD default) m.actions[i]) && effP m l.length m.actions[i].effect) = true then rec ((i + 1 : Nat) : Int) else some false) else some false) (fun rec' k hk hr' => ?_) (fun rec' => ?_) n 0 (yp _) (by omega)
     ·simp only [Int.natCast_zero, List.drop_zero] at inner;rw [inner];cases argsP m (opAt m m.actions[i]).sorts m.actions[i].arguments <;> simp
     ·have hk2 : k < m.actions[i].arguments.length := by omega
      have hs2 := o2 _ (yg hk);simp only [zx.l2, zh hk, if_true, za hk, za hk2, ya, around4, yj, yr, grd, yf, zb (i := k) (by omega), hr', zai];rw [argsP_drop hk hk2];unfold argP;by_cases hneg : (opAt m m.actions[i]).sorts[k] < 0
      ·have hd1 : decide ((opAt m m.actions[i]).sorts[k] < 0) = true := by simp [hneg]
       have hd2 : decide (0 ≤ (opAt m m.actions[i]).sorts[k]) = false := by simp; omega
       rw [hd1, hd2];cases zau m.actions[i].arguments[k] 9999 <;> simp
      ·have hd1 : decide ((opAt m m.actions[i]).sorts[k] < 0) = false := by simp; omega
       have hd2 : decide (0 ≤ (opAt m m.actions[i]).sorts[k]) = true := by simp; omega
       obtain ⟨z, hz⟩ := za8 (l := m.sorts) (i := (opAt m m.actions[i]).sorts[k]) (by omega) hs2.2;rw [hz, hd1, hd2];by_cases h1 : 0 ≤ m.actions[i].arguments[k]
       ·by_cases h2 : m.actions[i].arguments[k] < z
        ·have h2' : ¬ z ≤ m.actions[i].arguments[k] := by omega
         simp [h1, h2, h2']
        ·have h2' : z ≤ m.actions[i].arguments[k] := by omega
         simp [h1, h2, h2']
       ·simp [h1]
     ·simp only [zx.l2, zah, ye, if_false, jn, List.drop_length];rw [zky hF hS (by omega) (by omega) (by omega) (fun r hr => by have := a5 r hr; omega)];simp only [ya, zb (i := i) (by omega)];have hargs : argsP m [] (m.actions[i].arguments.drop (opAt m m.actions[i]).sorts.length) = true := rfl;rw [hargs, if_pos rfl];by_cases h0i : i = 0
      ·subst h0i;rw [if_neg (by simp)];cases effP m l.length m.actions[0].effect <;> simp
      ·rw [if_pos (by simp; omega), ze6 (by omega) (by omega)];have hi1 : i - 1 < m.actions.length := by omega
       have b1 := (hS.act _ (yg hi1)).1;simp only [za hi1, ya, ord_model, yf, Compare_eq (a := m.actions[i - 1].arguments) (b := m.actions[i].arguments) (show m.actions[i - 1].arguments.length < 1000000 by omega) (show 1000000 ≤ n by omega), yj, yr, if_true, h0i, decide_false, uw];cases ordP m.actions[i - 1] m.actions[i] <;> cases effP m l.length m.actions[i].effect <;> simp [grd]
    ·rw [if_pos (by simp; omega)];have hle : (m.actions[i].arguments.length == (opAt m m.actions[i]).sorts.length) = false := by simp [hlen]
     rw [hle]; simp
  ·simp [zx.l1]
 ·rw [if_pos (by simp; omega), decide_eq_false h0, y6]
theorem zjI {n : Nat} {m : Model} (hn : 1000000 ≤ n) (hS : SmallM m) (hL : zbh m.sorts m.tables = true) : zt n m = some (opsP m && actsP m (zJ m.sorts true m.tables).length) := by
 have hal := hS.actions;have hol := hS.operations;have hef : ∀ a ∈ m.actions, zV n m a.effect = some (effP m (zJ m.sorts true m.tables).length a.effect) := fun a ha => by
  obtain ⟨a1, a2, a3, a4, a5⟩ := hS.act _ ha;exact ref_effect_eq hn hS hL (by omega) (by omega) (by omega) (fun r hr => by have := a5 r hr; omega)
 generalize (zJ m.sorts true m.tables).length = K at hef;have T : opsP m = true → loopF (zt.l3 n m) n 0 = some (allR (fun i => actP m K i ((idx m.actions (i : Int)).getD default)) 0 m.actions.length) := fun hO => by
  have := zgq (body := zt.l3 n m) (len := m.actions.length) (n := n) (st := fun i => (i : Int)) (fun i => actP m K i ((idx m.actions (i : Int)).getD default)) (some false) (some true) (fun rec i hi => ?_) (fun rec => ?_) (by omega)
  ·simp only [Int.natCast_zero] at this;rw [this];cases allR (fun i => actP m K i ((idx m.actions (i : Int)).getD default)) 0 m.actions.length <;> rfl
  ·have hmem := yg hi;obtain ⟨a1, a2, a3, a4, a5⟩ := hS.act _ hmem;simp only [zt.l3, zh hi, if_true, za hi, ya, yf];have hneg : (decide (m.actions[i].operation < 0) || decide ((m.operations.length : Int) ≤ m.actions[i].operation)) = !(decide (0 ≤ m.actions[i].operation) && decide (m.actions[i].operation < (m.operations.length : Int))) := by
    rw [Bool.not_and, ← decide_not, ← decide_not];congr 1
    ·exact decide_eq_decide.2 (by omega)
    ·exact decide_eq_decide.2 (by omega)
   rw [hneg];unfold actP;cases hop : (decide (0 ≤ m.actions[i].operation) && decide (m.actions[i].operation < (m.operations.length : Int))) with
   | false => simp [grd]
   | true =>
    obtain ⟨ho, hom⟩ := opAt_idx hop;obtain ⟨o1, o2⟩ := opsP_sorts hO _ hom;simp only [ho, yj, yr, grd, if_true, yf, y8, uw, yD];by_cases hlen : m.actions[i].arguments.length = (opAt m m.actions[i]).sorts.length
    ·rw [if_neg (by simp [hlen])];have hle : (m.actions[i].arguments.length == (opAt m m.actions[i]).sorts.length) = true := by simp [hlen]
     rw [hle, yD];have inner := zF (body := zt.l4 n m i rec m.actions[i]) (len := m.actions[i].arguments.length) (st := fun k => (k : Int)) (g := fun k => if argsP m ((opAt m m.actions[i]).sorts.drop k) (m.actions[i].arguments.drop k) = true then (if ((decide (i = 0) || ordP ((idx m.actions ((i - 1 : Nat) : Int)).getD default) m.actions[i]) && effP m K m.actions[i].effect) = true then rec ((i + 1 : Nat) : Int) else some false) else some false) (fun rec' k hk2 hr' => ?_) (fun rec' => ?_) n 0 (yp _) (by omega)
     ·simp only [Int.natCast_zero, List.drop_zero] at inner;rw [inner];cases argsP m (opAt m m.actions[i]).sorts m.actions[i].arguments <;> simp
     ·have hk : k < (opAt m m.actions[i]).sorts.length := by omega
      have hs2 := o2 _ (yg hk);simp only [zt.l4, zh hk2, if_true, ho, za hk, za hk2, ya, between4, yj, yr, grd, yf, zb (i := k) (by omega), hr'];rw [argsP_drop hk hk2];unfold argP;by_cases hneg : (opAt m m.actions[i]).sorts[k] < 0
      ·have hd1 : decide ((opAt m m.actions[i]).sorts[k] < 0) = true := by simp [hneg]
       have hd2 : decide (0 ≤ (opAt m m.actions[i]).sorts[k]) = false := by simp; omega
       rw [hd1, hd2];cases zau m.actions[i].arguments[k] 9999 <;> simp
      ·have hd1 : decide ((opAt m m.actions[i]).sorts[k] < 0) = false := by simp; omega
       have hd2 : decide (0 ≤ (opAt m m.actions[i]).sorts[k]) = true := by simp; omega
       rw [idx_sort (m := m) (s := (opAt m m.actions[i]).sorts[k]) (by omega) hs2.2, hd1, hd2];simp only [yf];generalize (idx m.sorts (opAt m m.actions[i]).sorts[k]).getD default = z;by_cases h1 : m.actions[i].arguments[k] < 0
       ·have h1' : ¬ 0 ≤ m.actions[i].arguments[k] := by omega
        simp [h1, h1']
       ·have h1' : 0 ≤ m.actions[i].arguments[k] := by omega
        by_cases h2 : z ≤ m.actions[i].arguments[k]
        ·have h2' : ¬ m.actions[i].arguments[k] < z := by omega
         simp [h1, h1', h2, h2']
        ·have h2' : m.actions[i].arguments[k] < z := by omega
         simp [h1, h1', h2, h2']
     ·simp only [zt.l4, zah, ye, if_false, jn, List.drop_length, hef _ hmem];simp only [ya, zb (i := i) (by omega)];have hargs : argsP m ((opAt m m.actions[i]).sorts.drop m.actions[i].arguments.length) [] = true := by cases (opAt m m.actions[i]).sorts.drop m.actions[i].arguments.length <;> rfl
      rw [hargs, if_pos rfl];by_cases h0i : i = 0
      ·subst h0i;rw [if_neg (by simp)];cases effP m K m.actions[0].effect <;> simp
      ·rw [if_pos (by simp; omega), ze6 (by omega) (by omega)];have hi1 : i - 1 < m.actions.length := by omega
       have b1 := (hS.act _ (yg hi1)).1;simp only [za hi1, ya, ord_ref, yf, ref_less_eq (a := m.actions[i - 1].arguments) (b := m.actions[i].arguments) (show m.actions[i - 1].arguments.length < 1000000 by omega) (show 1000000 ≤ n by omega), yj, yr, if_true, h0i, decide_false, uw];cases ordP m.actions[i - 1] m.actions[i] <;> cases effP m K m.actions[i].effect <;> simp [grd]
    ·rw [if_pos (by simp; omega)];have hle : (m.actions[i].arguments.length == (opAt m m.actions[i]).sorts.length) = false := by simp [hlen]
     rw [hle]; simp
  ·simp [zt.l3]
 unfold zt;have := zaf (body := zt.l1 n m) (l := m.operations) (n := n) (st := fun i => ((m.operations.take i).map (·.name), (i : Int))) (opP m) (some false) (if (decide (m.operations.length ≤ 8) && distP [] (m.operations.map (·.name)) && decide (m.actions.length ≤ 256)) = true then loopF (zt.l3 n m) n 0 else some false) (fun rec i hi => ?_) (fun rec => ?_) (by omega)
 ·simp only [List.take_zero, List.map_nil, Int.natCast_zero] at this;rw [this];unfold actsP;cases hO : opsP m with
  | true =>
   have hO' := hO;simp only [opsP, yb] at hO';rw [hO'.1, hO'.2.1, hO'.2.2, T hO];cases decide (m.actions.length ≤ 256) <;> rfl
  | false =>
   unfold opsP at hO;cases h1 : m.operations.all (opP m) with
   | false => simp
   | true =>
    rw [h1, yD] at hO;rw [hO]; simp
 ·have hop := hS.op _ (yg hi);simp only [zt.l1, zh hi, if_true, za hi, ya];rw [zq (by simp; omega), ya, zds hi];generalize hX : (m.operations.take (i + 1)).map (·.name) = X;have inner := zaf (body := zt.l2 n m i rec m.operations[i] X) (l := m.operations[i].sorts) (n := n) (st := fun k => (k : Int)) (fun s => decide (-1 ≤ s) && decide (s < (m.sorts.length : Int))) (some false) (if decide (m.operations[i].sorts.length ≤ 3) = true then rec (X, ((i + 1 : Nat) : Int)) else some false) (fun rec' k hk => ?_) (fun rec' => ?_) (by omega)
  ·simp only [Int.natCast_zero] at inner;rw [inner];unfold opP;cases decide (m.operations[i].sorts.length ≤ 3) <;> cases (m.operations[i].sorts.all fun s => decide (-1 ≤ s) && decide (s < (m.sorts.length : Int))) <;> simp
  ·simp only [zt.l2, zh hk, if_true, za hk, ya, yj, yr, grd, yf, zb (i := k) (by omega)];have e1 : decide (m.operations[i].sorts[k] < -1) = !decide (-1 ≤ m.operations[i].sorts[k]) := by rw [← decide_not]; exact decide_eq_decide.2 (by omega)
   have e2 : decide ((m.sorts.length : Int) ≤ m.operations[i].sorts[k]) = !decide (m.operations[i].sorts[k] < (m.sorts.length : Int)) := by rw [← decide_not]; exact decide_eq_decide.2 (by omega)
   rw [e1, e2];cases decide (-1 ≤ m.operations[i].sorts[k]) <;> cases decide (m.operations[i].sorts[k] < (m.sorts.length : Int)) <;> simp
  ·simp only [zt.l2, zah, ye, if_false, zb (i := i) (by omega)];by_cases h3 : m.operations[i].sorts.length ≤ 3
   ·rw [if_neg (by simp; omega), if_pos (by simp [h3])]
   ·rw [if_pos (by simp; omega), if_neg (by simp [h3])]
 ·simp only [zt.l1, zah, ye, if_false, List.take_length];rw [zfq hn (by simp; omega) (fun w hw => by
   simp only [yU] at hw;obtain ⟨o, ho, rfl⟩ := hw;have := (hS.op o ho).1; omega)]
  simp only [yj, yr, grd, if_true, yf];have e1 : decide (8 < (m.operations.length : Int)) = !decide (m.operations.length ≤ 8) := by rw [← decide_not]; exact decide_eq_decide.2 (by omega)
  have e2 : decide (256 < (m.actions.length : Int)) = !decide (m.actions.length ≤ 256) := by rw [← decide_not]; exact decide_eq_decide.2 (by omega)
  rw [e1, e2];cases decide (m.operations.length ≤ 8) <;> cases distP [] (m.operations.map (·.name)) <;> cases decide (m.actions.length ≤ 256) <;> simp
def zaM (hs : List Hide) : Nat → Int → Int → Bool
 | 0, a, b => a == b
 | k + 1, a, b => a == b || hs.any fun h => h.table == a && zaM hs k h.to b
def hideP (m : Model) (h : Hide) : Bool :=
 (((decide (0 ≤ h.table) && decide (h.table < (m.tables.length : Int))) && (decide (0 ≤ h.to) && decide (h.to < (m.tables.length : Int)))) && (h.table != h.to)) &&
 (((((idx m.tables h.table).getD default).kind == 0) && (((idx m.tables h.to).getD default).kind == 0)) && ((decide (0 ≤ h.column) && decide (h.column < (((idx m.tables h.table).getD default).columns.length : Int))) && (((((idx m.tables h.to).getD default).columns.length : Int) == 1) && ((idx ((idx m.tables h.to).getD default).columns 0).getD default == (idx ((idx m.tables h.table).getD default).columns h.column).getD default))))
def hidesP (m : Model) : Bool := decide (m.hides.length ≤ 12) && (m.hides.all (hideP m) && m.hides.all fun h => !zaM m.hides m.tables.length h.to h.table)
theorem leads_loop {m n self a b k} (hl : m.hides.length < n) (hl2 : m.hides.length < 1000000) (hk : k + 1 < 1000000) (hself : ∀ x, self m x b (k : Int) = some (zaM m.hides k x b)) :
  loopF (zas.l1 n self m a b ((k + 1 : Nat) : Int)) n 0 = some (m.hides.any fun h => h.table == a && zaM m.hides k h.to b) := by
 have := zF (body := zas.l1 n self m a b ((k + 1 : Nat) : Int)) (len := m.hides.length) (st := fun i => (i : Int)) (g := fun i => some ((m.hides.drop i).any fun h => h.table == a && zaM m.hides k h.to b)) (fun rec i hi hr => ?_) (fun rec => ?_) n 0 (yp _) (by omega)
 ·simpa using this
 ·have h0 : decide (0 < ((k + 1 : Nat) : Int)) = true := by simp
  have hsub : sub64 ((k + 1 : Nat) : Int) 1 = (k : Int) := by rw [ze6 (by omega) (by omega)]; simp
  simp only [zas.l1, zh hi, h0, uM, if_true, za hi, ya, yj, yr, grd, yf, hsub, hself, zb (i := i) (by omega), hr];rw [zj hi, uT];cases (m.hides[i].table == a && zaM m.hides k m.hides[i].to b) <;> simp
 ·simp [zas.l1]
theorem ref_leads {m} (hl : m.hides.length < 1000000) : ∀ (k n : Nat) (a b : Int), k < 1000000 → 1000000 + k < n → zas n m a b (k : Int) = some (zaM m.hides k a b)
 | 0, 0, _, _, _, h => by omega
 | 0, n + 1, a, b, _, h => by
  simp only [zas, zas.body, zaM];by_cases e : a = b
  ·simp [e]
  ·rw [if_neg (by simpa using e)];have hh : (a == b) = false := by simpa using e
   rw [zgp (by omega), hh];simp [zas.l1]
 | k + 1, 0, _, _, _, h => by omega
 | k + 1, n + 1, a, b, hk, h => by
  simp only [zas, zas.body, zaM];by_cases e : a = b
  ·simp [e]
  ·rw [if_neg (by simpa using e), leads_loop (by omega) hl hk fun x => ref_leads hl k n x b (by omega) (by omega)];have hh : (a == b) = false := by simpa using e
   rw [hh, uw]
theorem hide_idx {m : Model} {h : Hide} (h0 : 0 ≤ h.table ∧ h.table < (m.tables.length : Int)) (h1 : 0 ≤ h.to ∧ h.to < (m.tables.length : Int)) : ∃ t u, idx m.tables h.table = some t ∧ idx m.tables h.to = some u := by
 obtain ⟨t, ht⟩ := za8 h0.1 h0.2;obtain ⟨u, hu⟩ := za8 h1.1 h1.2;exact ⟨t, u, ht, hu⟩
theorem zkI {n : Nat} {m : Model} (hn : 4294967296 ≤ n) (hS : SmallM m) : zap n m = some (hidesP m) := by
 have hhl := hS.hides;have htl := hS.tables;unfold zap hidesP;rw [if_neg (by simp; omega), decide_eq_true hhl, yD];have T : loopF (zap.l2 n m) n 0 = some (m.hides.all fun h => !zaM m.hides m.tables.length h.to h.table) := by
  have := zaf (body := zap.l2 n m) (l := m.hides) (n := n) (st := fun i => (i : Int)) (fun h => !zaM m.hides m.tables.length h.to h.table) (some false) (some true) (fun rec i hi => ?_) (fun rec => ?_) (by omega)
  ·simp only [Int.natCast_zero] at this;rw [this];cases (m.hides.all fun h => !zaM m.hides m.tables.length h.to h.table) <;> rfl
  ·simp only [zap.l2, zh hi, if_true, za hi, ya, ref_leads (m := m) (by omega) m.tables.length n m.hides[i].to m.hides[i].table (by omega) (by omega), zb (i := i) (by omega)];cases zaM m.hides m.tables.length m.hides[i].to m.hides[i].table <;> simp
  ·simp [zap.l2]
 have := zaf (body := zap.l1 n m) (l := m.hides) (n := n) (st := fun i => (i : Int)) (hideP m) (some false) (some (m.hides.all fun h => !zaM m.hides m.tables.length h.to h.table)) (fun rec i hi => ?_) (fun rec => ?_) (by omega)
 ·simp only [Int.natCast_zero] at this;rw [this];cases m.hides.all (hideP m) <;> simp
 ·simp only [zap.l1, zh hi, if_true, za hi, ya, zb (i := i) (by omega)];generalize m.hides[i] = h;by_cases hb : (((0 ≤ h.table ∧ h.table < (m.tables.length : Int)) ∧ (0 ≤ h.to ∧ h.to < (m.tables.length : Int))) ∧ h.table ≠ h.to)
  ·rw [if_neg (by simp; omega)];obtain ⟨t, u, ht, hu⟩ := hide_idx hb.1.1 hb.1.2;have hhp : hideP m h = (((t.kind == 0) && (u.kind == 0)) && ((decide (0 ≤ h.column) && decide (h.column < (t.columns.length : Int))) && (((u.columns.length : Int) == 1) && ((idx u.columns 0).getD default == (idx t.columns h.column).getD default)))) := by
    unfold hideP;rw [ht, hu];simp [hb]
   simp only [ht, hu, ya];rw [hhp];by_cases hk : (((t.kind == 0) && (u.kind == 0)) && ((decide (0 ≤ h.column) && decide (h.column < (t.columns.length : Int))) && ((u.columns.length : Int) == 1))) = true
   ·have hk' := hk;simp only [yb, yd, beq_iff_eq] at hk';obtain ⟨⟨k1, k2⟩, ⟨k3, k4⟩, k5⟩ := hk';obtain ⟨x, hx⟩ := za8 (l := u.columns) (i := 0) (by omega) (by omega);obtain ⟨y, hy⟩ := za8 k3 k4;have n1 : ¬ h.column < 0 := by omega
    have n2 : ¬ (t.columns.length : Int) ≤ h.column := by omega
    simp only [k1, k2, k3, k4, k5, n1, n2, hx, hy, yf, decide_true, decide_false, beq_self_eq_true, uR, yj, yr, uS, yD, grd, if_true];by_cases hxy : x = y
    ·simp [hxy]
    ·simp [hxy]
   ·have hf : (((((t.kind != 0) || (u.kind != 0)) || (decide (h.column < 0))) || (decide ((t.columns.length : Int) ≤ h.column))) || ((u.columns.length : Int) != 1)) = true := by
     simp only [yb, yd, beq_iff_eq] at hk;simp only [yz, bne_iff_ne, yd];omega
    simp only [hf, uG, grd, if_true];rw [← Bool.and_assoc (decide (0 ≤ h.column) && decide (h.column < (t.columns.length : Int))), ← Bool.and_assoc];simp only [yF] at hk;rw [hk]; rfl
  ·rw [if_pos (by simp; omega)];have hhp : hideP m h = false := by
    unfold hideP;cases hx : (((decide (0 ≤ h.table) && decide (h.table < (m.tables.length : Int))) && (decide (0 ≤ h.to) && decide (h.to < (m.tables.length : Int)))) && (h.table != h.to)) with
    | false => rfl
    | true =>
     simp only [yb, yd, bne_iff_ne] at hx;exact absurd hx hb
   rw [hhp]; rfl
 ·simp only [zap.l1, zah, ye, if_false, T]
theorem zkE : ∀ (T : Nat) (l : List Int), l.Nodup → (∀ x ∈ l, 0 ≤ x ∧ x < (T : Int)) → l.length ≤ T
 | 0, l, _, h => by
  cases l with
  | nil => simp
  | cons x l => have := h x (by simp); omega
 | T + 1, l, hn, h => by
  by_cases hm : (T : Int) ∈ l
  ·have h1 := zkE T (l.erase (T : Int)) (hn.erase _) (fun x hx => by
    have := (hn.mem_erase_iff).1 hx;have := h x this.2;omega)
   rw [List.length_erase_of_mem hm] at h1;omega
  ·have := zkE T l hn (fun x hx => by
    have := h x hx;have : x ≠ (T : Int) := fun e => hm (e ▸ hx)
    omega)
   omega
theorem zkl {hs} : ∀ {k : Nat} {a b : Int}, zaM hs k a b = true → zaM hs (k + 1) a b = true
 | 0, a, b, h => by
  simp only [zaM] at h;simp only [zaM, h, uG]
 | k + 1, a, b, h => by
  rw [zaM] at h ⊢;simp only [yz, uu, yb] at h ⊢;rcases h with h | ⟨x, hx, h1, h2⟩
  ·exact .inl h
  ·exact .inr ⟨x, hx, h1, zkl h2⟩
theorem leadsP_le {hs k j a b} (h : zaM hs k a b = true) (hkj : k ≤ j) : zaM hs j a b = true := by
 obtain ⟨d, rfl⟩ := Nat.exists_eq_add_of_le hkj;clear hkj
 induction d with
 | zero => exact h
 | succ d ih => exact zkl ih
theorem zfN {hs k a} : zaM hs k a a = true := by cases k <;> simp [zaM]
theorem zkm {hs h} (hh : h ∈ hs) : ∀ {k : Nat} {a : Int}, zaM hs k a h.table = true → zaM hs (k + 1) a h.to = true
 | 0, a, e => by
  simp only [zaM, beq_iff_eq] at e;simp only [zaM, yz, uu, yb, beq_iff_eq];exact .inr ⟨h, hh, e.symm, rfl⟩
 | k + 1, a, e => by
  rw [zaM] at e ⊢;simp only [yz, uu, yb, beq_iff_eq] at e ⊢;rcases e with e | ⟨x, hx, h1, h2⟩
  ·exact .inr ⟨h, hh, e.symm, zfN⟩
  ·exact .inr ⟨x, hx, h1, zkm hh h2⟩
def walkP (f : Int → Hide) (s : Int) : Nat → Int
 | 0 => s
 | k + 1 => (f (walkP f s k)).to
theorem sink_ex {hs : List Hide} {T : Nat} {S : List Int} (hS : S ≠ []) (hb : ∀ t ∈ S, 0 ≤ t ∧ t < (T : Int)) (hac : ∀ h ∈ hs, zaM hs T h.to h.table = false) : ∃ t ∈ S, ∀ h ∈ hs, ¬ (h.table = t ∧ h.to ∈ S) := by
 apply Classical.byContradiction;intro hno;have hedge : ∀ t, t ∈ S → ∃ h, h ∈ hs ∧ h.table = t ∧ h.to ∈ S := fun t ht => by
  apply Classical.byContradiction;intro hn;exact hno ⟨t, ht, fun h hh he => hn ⟨h, hh, he.1, he.2⟩⟩
 obtain ⟨s, hs0⟩ : ∃ s, s ∈ S := by
  cases S with
  | nil => exact absurd rfl hS
  | cons x l => exact ⟨x, by simp⟩
 obtain ⟨f, hf⟩ : ∃ f : Int → Hide, ∀ t, t ∈ S → f t ∈ hs ∧ (f t).table = t ∧ (f t).to ∈ S := by
  refine ⟨fun t => if ht : t ∈ S then Classical.choose (hedge t ht) else default, fun t ht => ?_⟩;simp only [ht, dite_true];exact Classical.choose_spec (hedge t ht)
 have hw : ∀ k, walkP f s k ∈ S := fun k => by
  induction k with
  | zero => exact hs0
  | succ k ih => exact (hf _ ih).2.2
 have hlead : ∀ d i, zaM hs d (walkP f s i) (walkP f s (i + d)) = true := fun d => by
  induction d with
  | zero => intro i; exact zfN
  | succ d ih =>
   intro i;simp only [zaM, yz, uu, yb, beq_iff_eq];refine .inr ⟨f (walkP f s i), (hf _ (hw i)).1, (hf _ (hw i)).2.1, ?_⟩;have := ih (i + 1);rw [show i + 1 + d = i + (d + 1) by omega] at this;exact this
 have hne : ∀ i j, i < j → j ≤ T → walkP f s i ≠ walkP f s j := fun i j hij hj e => by
  have h1 := hlead (j - i - 1) (i + 1);rw [show i + 1 + (j - i - 1) = j by omega, ← e] at h1;have h2 := hac _ (hf _ (hw i)).1;rw [(hf _ (hw i)).2.1] at h2;have h3 : zaM hs T (f (walkP f s i)).to (walkP f s i) = true := leadsP_le h1 (by omega);rw [h3] at h2;cases h2
 have hlen := zkE T ((List.range (T + 1)).map (walkP f s)) (by
  rw [List.Nodup, List.pairwise_map];exact List.Pairwise.imp_of_mem (fun {a b} _ hb hab => hne a b hab (by have := yL.1 hb; omega)) List.pairwise_lt_range) (fun x hx => by
  simp only [yU] at hx;obtain ⟨k, -, rfl⟩ := hx;exact hb _ (hw k))
 simp at hlen;omega
def zca (m : GMap Int Bool) : List Int := m.es.map fun e => e.2.1
structure WfM (m : GMap Int Bool) : Prop where
 tru : ∀ e ∈ m.es, e.2.2 = true
 nd : (m.es.map (·.1)).Nodup
 lt : ∀ e ∈ m.es, e.1 < m.clock
theorem WfM.get {m} (h : WfM m) (k) : (m.get? k).getD false = decide (k ∈ zca m) := by
 unfold GMap.get?;rw [zkf k m.es h.tru]; rfl
theorem WfM.empty : WfM (GMap.empty : GMap Int Bool) := ⟨fun e he => (by simp [GMap.empty] at he), by simp [GMap.empty], fun e he => (by simp [GMap.empty] at he)⟩
theorem findK_at (k) : ∀ (es : List (Nat × Int × Bool)) (p : Nat × Bool), findK k es = some p → ∃ h : p.1 < es.length, es[p.1].2.1 = k
 | [], _, h => by simp [findK] at h
 | e :: es, p, h => by
  simp only [findK] at h;split at h
  ·rename_i hk;cases h;exact ⟨by simp, hk.symm⟩
  ·simp only [Option.map_eq_some_iff] at h;obtain ⟨q, h1, rfl⟩ := h;obtain ⟨h2, h3⟩ := findK_at k es q h1;exact ⟨by simp only [yQ]; omega, by simpa using h3⟩
theorem zif (f) (hf : ∀ e, (f e).1 = e.1) : ∀ (es : List (Nat × Int × Bool)) (i : Nat), (es.modify i f).map (·.1) = es.map (·.1)
 | [], _ => by simp
 | e :: es, 0 => by simp [hf]
 | e :: es, i + 1 => by simp [zif f hf es i]
theorem WfM.put {m} (h : WfM m) (k) : WfM (m.put k true) ∧ (m.put k true).es.length ≤ m.es.length + 1 ∧ ∀ t, t ∈ zca (m.put k true) ↔ t ∈ zca m ∨ t = k := by
 unfold GMap.put zca;cases hk : findK k m.es with
 | none =>
  simp only [];refine ⟨⟨fun e he => ?_, ?_, fun e he => ?_⟩, by simp, fun t => by simp⟩
  ·simp only [yG, yO] at he;rcases he with he | rfl
   ·exact h.tru e he
   ·rfl
  ·simp only [uh, yT, List.map_nil];rw [List.nodup_append];refine ⟨h.nd, by simp, fun a ha b hb => ?_⟩;simp only [yO] at hb;subst hb;simp only [yU] at ha;obtain ⟨e, he, rfl⟩ := ha;have := h.lt e he;omega
  ·simp only [yG, yO] at he;rcases he with he | rfl
   ·have := h.lt e he;simp only []; omega
   ·simp
 | some p =>
  obtain ⟨i, b⟩ := p;simp only [];have hb := zif (fun e : Nat × Int × Bool => (e.1, e.2.1, true)) (fun e => rfl) m.es i;refine ⟨⟨zi0 (p := fun e => e.2.2 = true) _ (fun e => rfl) m.es i h.tru, by rw [hb]; exact h.nd, fun e he => ?_⟩, by simp, fun t => ?_⟩
  ·have : e.1 ∈ m.es.map (·.1) := by rw [← hb]; exact List.mem_map_of_mem he
   simp only [yU] at this;obtain ⟨x, hx, e1⟩ := this;have := h.lt x hx;simp only []; omega
  ·rw [zhI (fun e : Nat × Int × Bool => (e.1, e.2.1, true)) (fun e => rfl) m.es i];constructor
   ·exact .inl
   ·rintro (h1 | rfl)
    ·exact h1
    ·exact zkg _ m.es _ hk
theorem WfM.del {m} (h : WfM m) {e} (he : e ∈ m.es) : WfM (m.del e.2.1) ∧ (m.del e.2.1).clock = m.clock ∧ (m.del e.2.1).es.length + 1 = m.es.length ∧ (m.del e.2.1).es.Sublist m.es ∧ ∀ t, t ∈ zca m → t ≠ e.2.1 → t ∈ zca (m.del e.2.1) := by
 unfold GMap.del zca;cases hk : findK e.2.1 m.es with
 | none => exact absurd (List.mem_map_of_mem (f := fun e : Nat × Int × Bool => e.2.1) he) (findK_no _ m.es hk)
 | some p =>
  obtain ⟨i, b⟩ := p;obtain ⟨hi, hik⟩ := findK_at _ m.es _ hk;simp only [] at hi hik ⊢;have hsub := List.eraseIdx_sublist m.es i;refine ⟨⟨fun x hx => h.tru x (hsub.subset hx), (hsub.map _).nodup h.nd, fun x hx => h.lt x (hsub.subset hx)⟩, trivial, ?_, hsub, fun t ht hne => ?_⟩
  ·rw [List.length_eraseIdx_of_lt hi]; omega
  ·simp only [yU] at ht ⊢;obtain ⟨x, hx, rfl⟩ := ht;obtain ⟨j, hj, rfl⟩ := List.mem_iff_getElem.1 hx;refine ⟨_, ?_, rfl⟩;rw [List.mem_eraseIdx_iff_getElem];refine ⟨j, hj, fun e1 => hne ?_, rfl⟩;subst e1; exact hik
theorem left_less {m m' : GMap Int Bool} {seen : List Nat} {e : Nat × Int × Bool} (he : e ∈ m.left seen) (hs : m'.es.Sublist m.es) : (m'.left (seen ++ [e.1])).length < (m.left seen).length := by
 unfold GMap.left at he ⊢;have h1 : (m'.es.filter fun x => !(seen ++ [e.1]).contains x.1).length ≤ (m.es.filter fun x => !(seen ++ [e.1]).contains x.1).length := (hs.filter _).length_le;have h2 : (m.es.filter fun x => !(seen ++ [e.1]).contains x.1) = (m.es.filter fun x => !seen.contains x.1).filter fun x => !(x.1 == e.1) := by
  rw [List.filter_filter];congr 1;funext x;rw [Bool.eq_iff_iff];simp;constructor
  ·rintro ⟨a, b⟩; exact ⟨b, a⟩
  ·rintro ⟨a, b⟩; exact ⟨b, a⟩
 have h3 : ((m.es.filter fun x => !seen.contains x.1).filter fun x => !(x.1 == e.1)).length < (m.es.filter fun x => !seen.contains x.1).length :=
  List.length_filter_lt_length_iff_exists.2 ⟨e, he, by simp⟩
 rw [h2] at h1;omega
theorem zjl {n : Nat} {j : Judge} {m0 : GMap Int Bool} {i : Int} {rec : (GMap Int Bool × Int) → Option Bool} {r : Bool} (hn : 1000000 ≤ n) (hh : j.model.hides.length < 1000000) (J : GMap Int Bool → List Nat → Prop)
  (hwf : ∀ m seen, J m seen → WfM m ∧ m.clock = m0.clock) (hover : ∀ m seen, J m seen → m.left seen = [] → rec (m, add64 i 1) = some r)
  (hstep : ∀ m seen e, J m seen → e ∈ m.left seen → J (if (j.model.hides.any fun h => h.table == e.2.1 && decide (h.to ∈ zca m)) = true then m else m.del e.2.1) (seen ++ [e.1]))
  (h0 : J m0 []) (hl : m0.es.length < 1000000) : loopF (zd.l4 n j m0 i rec) n (m0, [], m0.clock) = some r := by
 refine zc9 (body := zd.l4 n j m0 i rec) (fun s => (s.1.left s.2.1).length) (fun s => J s.1 s.2.1 ∧ s.2.2 = m0.clock) (fun _ o => o = some r) (fun rec' s hI hr => ?_) n _ ⟨h0, rfl⟩ ?_
 ·obtain ⟨m, seen, last⟩ := s;obtain ⟨hJ, hlast⟩ := hI;simp only [] at hJ hlast hr;subst hlast;obtain ⟨hw, hc⟩ := hwf m seen hJ;simp only [zd.l4, stepM];have hold : m.old m0.clock m0.clock = true := by
   simp only [GMap.old, yb, ym, yd];exact ⟨fun e he => by have := hw.lt e he; omega, yn _⟩
  rw [hold];unfold grd;rw [if_pos rfl];cases hleft : m.left seen with
  | nil =>
   simp only [List.isEmpty_nil, if_true];exact hover m seen hJ hleft
  | cons x l =>
   rw [← hleft, if_neg (by rw [hleft]; simp)];refine chooseAll_all (by rw [hleft]; simp) (fun e he => ?_);have hem : e ∈ m.es := (List.mem_filter.1 he).1;rw [if_pos (by simpa using hw.nd), zdR (p := fun h => h.table == e.2.1 && decide (h.to ∈ zca m)) (fun h _ => by
    unfold zcW;rw [hw.get]) hh hn, ya]
   have hst := hstep m seen e hJ he;cases hb : (j.model.hides.any fun h => h.table == e.2.1 && decide (h.to ∈ zca m)) with
   | true =>
    rw [hb] at hst;rw [if_neg (by simp)];exact hr (m, seen ++ [e.1], m.clock) ⟨hst, hc⟩ (left_less he (List.Sublist.refl _))
   | false =>
    rw [hb] at hst;rw [if_pos (by simp)];exact hr (m.del e.2.1, seen ++ [e.1], m.clock) ⟨hst, hc⟩ (left_less he (hw.del hem).2.2.2.1)
 ·have : (m0.left []).length ≤ m0.es.length := List.length_filter_le _ _;simp only [];omega
theorem zii {α β : Type} {f : α → β} : ∀ {l : List α}, (l.map f).Nodup → ∀ x ∈ l, ∀ y ∈ l, f x = f y → x = y
 | [], _, x, hx, _, _, _ => by simp at hx
 | a :: l, h, x, hx, y, hy, e => by
  simp only [yT, List.nodup_cons, yU, not_exists, not_and] at h;simp only [yP] at hx hy;rcases hx with rfl | hx <;> rcases hy with rfl | hy
  ·rfl
  ·exact absurd e.symm (h.1 y hy)
  ·exact absurd e (h.1 x hx)
  ·exact zii h.2 x hx y hy e
theorem hidden_rounds {n : Nat} {j : Judge} {m : GMap Int Bool} (hn : 1000000 ≤ n) (hh : j.model.hides.length ≤ 1000) (hok : ∀ h ∈ j.model.hides, (0 ≤ h.table ∧ h.table < (j.model.tables.length : Int)))
  (hw : WfM m) (hlen : m.es.length ≤ j.model.hides.length) (hk : ∀ t, t ∈ zca m ↔ ∃ h ∈ j.model.hides, h.table = t) :
  loopF (zd.l3 n j) n (m, 0) = some (j.model.hides.all fun h => !zaM j.model.hides j.model.tables.length h.to h.table) := by
 cases hac : (j.model.hides.all fun h => !zaM j.model.hides j.model.tables.length h.to h.table) with
 | true =>
  have hac' : ∀ h ∈ j.model.hides, zaM j.model.hides j.model.tables.length h.to h.table = false := fun h hm => by
   have := ym.1 hac h hm;simpa using this
  have hrange : ∀ m' : GMap Int Bool, (∀ t ∈ zca m', ∃ h ∈ j.model.hides, h.table = t) → m'.es ≠ [] → ∃ e ∈ m'.es, ∀ h ∈ j.model.hides, ¬ (h.table = e.2.1 ∧ h.to ∈ zca m') := fun m' hm' hne => by
   obtain ⟨t, ht, hs⟩ := sink_ex (hs := j.model.hides) (T := j.model.tables.length) (S := zca m') (by simpa [zca] using hne) (fun t ht => by
    obtain ⟨h, hh, rfl⟩ := hm' t ht;exact hok h hh) hac'
   simp only [zca, yU] at ht;obtain ⟨e, he, rfl⟩ := ht;exact ⟨e, he, hs⟩
  refine zbA (body := zd.l3 n j) (len := j.model.hides.length) (st := fun m i => (m, (i : Int))) (g := fun _ _ => some true) (fun i m => WfM m ∧ m.es.length + i ≤ j.model.hides.length ∧ ∀ t ∈ zca m, ∃ h ∈ j.model.hides, h.table = t) (fun rec i m hi hI hr => ?_) (fun rec m hI => ?_) n 0 m (yp _) (by omega) ⟨hw, by omega, fun t ht => (hk t).1 ht⟩
  ·obtain ⟨h1, h2, h3⟩ := hI;simp only [zd.l3, zh hi, if_true];refine zjl (r := true) (by omega) (by omega) (fun m' seen => (WfM m' ∧ m'.clock = m.clock ∧ ∀ t ∈ zca m', ∃ h ∈ j.model.hides, h.table = t) ∧ (m'.es.length + i + 1 ≤ j.model.hides.length ∨ (m'.es.length + i ≤ j.model.hides.length ∧ ∃ e ∈ m'.left seen, ∀ h ∈ j.model.hides, ¬ (h.table = e.2.1 ∧ h.to ∈ zca m')))) (fun m' seen hJ => ⟨hJ.1.1, hJ.1.2.1⟩) (fun m' seen hJ hl => ?_) (fun m' seen e hJ he => ?_) ⟨⟨h1, rfl, h3⟩, ?_⟩ (by omega)
   ·rw [zb (by omega)];refine hr m' ⟨hJ.1.1, ?_, hJ.1.2.2⟩;rcases hJ.2 with h | ⟨-, e, he, -⟩
    ·omega
    ·rw [hl] at he; cases he
   ·obtain ⟨⟨w1, w2, w3⟩, hd⟩ := hJ;have hem : e ∈ m'.es := (List.mem_filter.1 he).1;obtain ⟨d1, d2, d3, d4, -⟩ := w1.del hem;cases hb : (j.model.hides.any fun h => h.table == e.2.1 && decide (h.to ∈ zca m')) with
    | true =>
     rw [if_pos rfl];refine ⟨⟨w1, w2, w3⟩, ?_⟩;rcases hd with hd | ⟨hd, x, hx, hs⟩
     ·exact .inl hd
     ·refine .inr ⟨hd, x, ?_, hs⟩;simp only [GMap.left, List.mem_filter] at hx ⊢;refine ⟨hx.1, ?_⟩;have hne : x.1 ≠ e.1 := fun e1 => by
       have : x = e := zii w1.nd x hx.1 e hem e1;subst this;simp only [uu, yb, beq_iff_eq, yd] at hb;obtain ⟨h, hh, q⟩ := hb;exact hs h hh q
      simp only [yx, List.contains_eq_mem, yC, yG, yO, not_or] at hx ⊢;exact ⟨hx.2, hne⟩
    | false =>
     rw [if_neg (by simp)];refine ⟨⟨d1, by omega, fun t ht => ?_⟩, .inl ?_⟩
     ·refine w3 t ?_;simp only [zca, yU] at ht ⊢;obtain ⟨x, hx, rfl⟩ := ht;exact ⟨x, d4.subset hx, rfl⟩
     ·rcases hd with hd | ⟨hd, -⟩ <;> omega
   ·by_cases hne : m.es = []
    ·left; rw [hne]; simp; omega
    ·right;refine ⟨h2, ?_⟩;obtain ⟨e, he, hs⟩ := hrange m h3 hne;exact ⟨e, by simp [GMap.left, he], hs⟩
  ·have : m.es.length = 0 := by omega
   simp [zd.l3, this]
 | false =>
  obtain ⟨h0, hm0, hl0⟩ : ∃ h ∈ j.model.hides, zaM j.model.hides j.model.tables.length h.to h.table = true := by
   simp only [List.all_eq_false] at hac;obtain ⟨h, hm, hx⟩ := hac;exact ⟨h, hm, by simpa using hx⟩
  have hclosed : ∀ t, ((∃ k, zaM j.model.hides k h0.to t = true) ∧ ∃ k, zaM j.model.hides k t h0.table = true) → ∃ h ∈ j.model.hides, h.table = t ∧ ((∃ k, zaM j.model.hides k h0.to h.to = true) ∧ ∃ k, zaM j.model.hides k h.to h0.table = true) := by
   rintro t ⟨⟨a, ha⟩, b, hb⟩;have hcase : t = h0.table ∨ ∃ h ∈ j.model.hides, h.table = t ∧ ∃ k, zaM j.model.hides k h.to h0.table = true := by
    cases b with
    | zero => left; simpa [zaM] using hb
    | succ b =>
     simp only [zaM, yz, beq_iff_eq, uu, yb] at hb;rcases hb with hb | ⟨h, hm, e, hx⟩
     ·exact .inl hb
     ·exact .inr ⟨h, hm, e, b, hx⟩
   rcases hcase with rfl | ⟨h, hm, rfl, k, hx⟩
   ·exact ⟨h0, hm0, rfl, ⟨0, zfN⟩, _, hl0⟩
   ·exact ⟨h, hm, rfl, ⟨_, zkm hm ha⟩, k, hx⟩
  generalize hC : (fun t => (∃ k, zaM j.model.hides k h0.to t = true) ∧ ∃ k, zaM j.model.hides k t h0.table = true) = C at *;have hC' : ∀ t, C t → ∃ h ∈ j.model.hides, h.table = t ∧ C h.to := by
   intro t ht;rw [← hC] at ht ⊢;exact hclosed t ht
  have hCs : C h0.to := by rw [← hC]; exact ⟨⟨0, zfN⟩, _, hl0⟩
  refine zbA (body := zd.l3 n j) (len := j.model.hides.length) (st := fun m i => (m, (i : Int))) (g := fun _ _ => some false) (fun i m => WfM m ∧ m.es.length ≤ 1000 ∧ ∀ t, C t → t ∈ zca m) (fun rec i m hi hI hr => ?_) (fun rec m hI => ?_) n 0 m (yp _) (by omega) ⟨hw, by omega, fun t ht => (hk t).2 (by
   obtain ⟨h, hh, e, -⟩ := hC' t ht;exact ⟨h, hh, e⟩)⟩
  ·obtain ⟨h1, h2, h3⟩ := hI;simp only [zd.l3, zh hi, if_true];refine zjl (r := false) (by omega) (by omega) (fun m' seen => WfM m' ∧ m'.clock = m.clock ∧ m'.es.length ≤ 1000 ∧ ∀ t, C t → t ∈ zca m') (fun m' seen hJ => ⟨hJ.1, hJ.2.1⟩) (fun m' seen hJ hl => ?_) (fun m' seen e hJ he => ?_) ⟨h1, rfl, h2, h3⟩ (by omega)
   ·rw [zb (by omega)];exact hr m' ⟨hJ.1, hJ.2.2⟩
   ·obtain ⟨w1, w2, w3, w4⟩ := hJ;have hem : e ∈ m'.es := (List.mem_filter.1 he).1;obtain ⟨d1, d2, d3, -, d5⟩ := w1.del hem;cases hb : (j.model.hides.any fun h => h.table == e.2.1 && decide (h.to ∈ zca m')) with
    | true =>
     rw [if_pos rfl];exact ⟨w1, w2, w3, w4⟩
    | false =>
     rw [if_neg (by simp)];refine ⟨d1, by omega, by omega, fun t ht => d5 t (w4 t ht) fun e1 => ?_⟩;obtain ⟨h, hh, hht, hto⟩ := hC' t ht;have := List.any_eq_false.1 hb h hh;apply this;simp only [yb, beq_iff_eq, yd];exact ⟨by omega, w4 _ hto⟩
  ·obtain ⟨-, -, h3⟩ := hI;have := h3 _ hCs;have hne : m.es.length ≠ 0 := fun e => by
    simp only [zca, List.length_eq_zero_iff.1 e, List.map_nil, List.not_mem_nil] at this
   simp only [zd.l3, zah, ye, if_false, yi, uf];omega
theorem zkz {n m l} (hn : 1000000 ≤ n) (hS : SmallM m) : zd n ⟨m, l⟩ = some (hidesP m) := by
 have hhl := hS.hides;have htl := hS.tables;unfold zd hidesP;rw [if_neg (by simp; omega), decide_eq_true hhl, yD];have := zaf (body := zd.l1 n ⟨m, l⟩) (l := m.hides) (n := n) (st := fun i => (i : Int)) (hideP m) (some false) (loopF (zd.l2 n ⟨m, l⟩) n (GMap.empty, 0)) (fun rec i hi => ?_) (fun rec => ?_) (by omega)
 ·simp only [Int.natCast_zero] at this;rw [this];cases hall : m.hides.all (hideP m) with
  | false => simp
  | true =>
   rw [if_pos rfl, yD];have hok : ∀ h ∈ m.hides, (0 ≤ h.table ∧ h.table < (m.tables.length : Int)) := fun h hm => by
    have := ym.1 hall h hm;simp only [hideP, yb, yd] at this;exact this.1.1.1
   refine zbA (body := zd.l2 n ⟨m, l⟩) (len := m.hides.length) (st := fun g i => (g, (i : Int))) (g := fun _ _ => some (m.hides.all fun h => !zaM m.hides m.tables.length h.to h.table)) (fun i g => WfM g ∧ g.es.length ≤ i ∧ ∀ t, t ∈ zca g ↔ ∃ h ∈ m.hides.take i, h.table = t) (fun rec i g hi hI hr => ?_) (fun rec g hI => ?_) n 0 GMap.empty (yp _) (by omega) ⟨WfM.empty, by simp [GMap.empty], fun t => by simp [zca, GMap.empty]⟩
   ·obtain ⟨h1, h2, h3⟩ := hI;obtain ⟨p1, p2, p3⟩ := h1.put m.hides[i].table;simp only [zd.l2, zh hi, if_true, za hi, ya, zb (i := i) (by omega)];refine hr _ ⟨p1, by omega, fun t => ?_⟩;rw [p3, h3, yy hi];simp only [yG, yO];constructor
    ·rintro (⟨h, hm, e⟩ | e)
     ·exact ⟨h, .inl hm, e⟩
     ·exact ⟨_, .inr rfl, e.symm⟩
    ·rintro ⟨h, hm | rfl, e⟩
     ·exact .inl ⟨h, hm, e⟩
     ·exact .inr e.symm
   ·obtain ⟨h1, h2, h3⟩ := hI;simp only [zd.l2, zah, ye, if_false];exact hidden_rounds (j := ⟨m, l⟩) hn (by simp only []; omega) hok h1 h2 (fun t => by rw [h3, List.take_length])
 ·simp only [zd.l1, zai, zh hi, if_true, za hi, ya, yj, yr, yf, zb (i := i) (by omega)];generalize m.hides[i] = h;by_cases hb : (((0 ≤ h.table ∧ h.table < (m.tables.length : Int)) ∧ (0 ≤ h.to ∧ h.to < (m.tables.length : Int))) ∧ h.table ≠ h.to)
  ·simp only [grd, if_true];rw [if_neg (by simp [hb])];obtain ⟨t, u, ht, hu⟩ := hide_idx hb.1.1 hb.1.2;have hhp : hideP m h = (((t.kind == 0) && (u.kind == 0)) && ((decide (0 ≤ h.column) && decide (h.column < (t.columns.length : Int))) && (((u.columns.length : Int) == 1) && ((idx u.columns 0).getD default == (idx t.columns h.column).getD default)))) := by
    unfold hideP;rw [ht, hu];simp [hb]
   simp only [ht, hu, ya];rw [hhp];by_cases hk : (((t.kind == 0) && (u.kind == 0)) && ((decide (0 ≤ h.column) && decide (h.column < (t.columns.length : Int))) && ((u.columns.length : Int) == 1))) = true
   ·have hk' := hk;simp only [yb, yd, beq_iff_eq] at hk';obtain ⟨⟨k1, k2⟩, ⟨k3, k4⟩, k5⟩ := hk';obtain ⟨x, hx⟩ := za8 (l := u.columns) (i := 0) (by omega) (by omega);obtain ⟨y, hy⟩ := za8 k3 k4;simp only [k1, k2, k3, k4, k5, hx, hy, yf, decide_true, beq_self_eq_true, uR, yj, yr, uS, yD, uM, y8, if_true];by_cases hxy : x = y
    ·simp [hxy]
    ·simp [hxy]
   ·have hf : (((((t.kind != 0) || (u.kind != 0)) || (!(decide (0 ≤ h.column) && decide (h.column < (t.columns.length : Int))))) || ((u.columns.length : Int) != 1))) = true := by
     simp only [yb, yd, beq_iff_eq] at hk;simp only [yz, bne_iff_ne, yx, ut, yC];omega
    simp only [hf, uG, if_true];rw [← Bool.and_assoc (decide (0 ≤ h.column) && decide (h.column < (t.columns.length : Int))), ← Bool.and_assoc];simp only [yF] at hk;rw [hk]; rfl
  ·have hhp : hideP m h = false := by
    unfold hideP;cases hx : (((decide (0 ≤ h.table) && decide (h.table < (m.tables.length : Int))) && (decide (0 ≤ h.to) && decide (h.to < (m.tables.length : Int)))) && (h.table != h.to)) with
    | false => rfl
    | true =>
     simp only [yb, yd, bne_iff_ne] at hx;exact absurd hx hb
   rw [hhp];simp only [grd, if_true];rw [if_pos (by
    simp only [yz, yx, ut, yC, beq_iff_eq];omega)]
   rfl
 ·simp [zd.l1]
def zfB (m : Model) : Bool := (zbh m.sorts m.tables && (decide (m.families.length ≤ 24) && distP [] m.families)) && (consP m (zJ m.sorts true m.tables) && (opsP m && (actsP m (zJ m.sorts true m.tables).length && hidesP m)))
theorem zhf {n m} (hF : Fuel n) (hS : SmallM m) : zda n m = some (zfB m) := by
 have hn := hF.big;have hs := hS.sorts;have ht := hS.tables;have hf := hS.families;have hcs : ∀ t ∈ m.tables, t.columns.length ≤ 1000 := fun t h => by have := hS.tab t h; omega
 unfold zda zfB;rw [zeV hF (by omega) (by omega) hcs, zfl hF (by omega)];simp only [ya, yj, yr, grd, if_true, yf];have e1 : decide (24 < (m.families.length : Int)) = !decide (m.families.length ≤ 24) := by rw [← decide_not]; exact decide_eq_decide.2 (by omega)
 rw [e1];cases hL : zbh m.sorts m.tables with
 | false => simp
 | true =>
  by_cases hd : (decide (m.families.length ≤ 24) && distP [] m.families) = true
  ·rw [hd];simp only [yb] at hd;rw [hd.1, hd.2, if_neg (by simp), zga hF (by omega) (by omega) hcs, hL];simp only [if_true, ya];obtain ⟨l1, l2, l3, l4⟩ := zbv hL;have hlen := zcF (sizes := m.sorts) (s := true) (l := m.tables) fun x hx => (l4 x hx).2.2.2.2
   rw [zg2 hS (fun t ht => (l4 t ht).2.2.2.1) (by omega) (by omega), zhH hF hS, zkz (by omega) hS];simp only [ya, yj, yf, yr, if_true];cases consP m (zJ m.sorts true m.tables) with
   | false => simp
   | true =>
    cases hO : opsP m with
    | false => simp
    | true =>
     rw [zjD hF hS hO];simp
  ·have h2 : (!true || !decide (m.families.length ≤ 24) || !distP [] m.families) = true := by
    simp only [yb, not_and, yF] at hd;cases h1 : decide (m.families.length ≤ 24) with
    | false => rfl
    | true => rw [hd h1]; rfl
   rw [if_pos h2];simp only [yF] at hd;rw [hd]; rfl
theorem ref13_Valid_eq {n m} (hn : 4294967296 ≤ n) (hS : SmallM m) : zfT n m = some (zfB m) := by
 have hs := hS.sorts;have ht := hS.tables;have hf := hS.families;have hcs : ∀ t ∈ m.tables, t.columns.length ≤ 1000 ∧ t.name.length ≤ 4096 := fun t h => by have := hS.tab t h; omega
 unfold zfT zfB;rw [ze3 (by omega) (by omega) (by omega) hcs, zfq (by omega) (by omega) (fun w hw => by have := hS.fam w hw; omega)];simp only [ya, yj, yr, grd, if_true, yf];have e1 : decide (24 < (m.families.length : Int)) = !decide (m.families.length ≤ 24) := by rw [← decide_not]; exact decide_eq_decide.2 (by omega)
 rw [e1];cases hL : zbh m.sorts m.tables with
 | false => simp
 | true =>
  by_cases hd : (decide (m.families.length ≤ 24) && distP [] m.families) = true
  ·rw [hd];simp only [yb] at hd;rw [hd.1, hd.2, if_neg (by simp), zg4 hS hL (by omega), zjI (by omega) hS hL, zkI hn hS];simp only [ya, yj, yf, yr, if_true, yD];simp only [Bool.and_assoc]
  ·have h2 : (!true || !decide (m.families.length ≤ 24) || !distP [] m.families) = true := by
    simp only [yb, not_and, yF] at hd;cases h1 : decide (m.families.length ≤ 24) with
    | false => rfl
    | true => rw [hd h1]; rfl
   rw [if_pos h2];simp only [yF] at hd;rw [hd]; rfl
def lensP (m : Model) : Bool := (((((((decide (8 < (m.sorts.length : Int))) || (decide (6 < (m.tables.length : Int)))) || (decide (20 < (m.families.length : Int)))) || (decide (60 < (m.constraints.length : Int)))) || (decide (8 < (m.operations.length : Int)))) || (decide (30 < (m.actions.length : Int)))) || (decide (12 < (m.hides.length : Int))))
def tabF (t : Table) : Bool := decide (t.name.length ≤ 40) && decide (t.columns.length ≤ 12)
def opF (o : Operation) : Bool := decide (o.name.length ≤ 40) && decide (o.sorts.length ≤ 6)
def actF (a : Action) : Bool := ((decide (a.arguments.length ≤ 6) && decide (a.effect.delta.length ≤ 20)) && (decide (a.effect.hold.length ≤ 10) && decide (a.effect.updates.length ≤ 40))) && a.effect.hold.all fun r => decide (r.terms.length ≤ 20)
def zgP (m : Model) : Bool := !lensP m && (m.tables.all tabF && (m.families.all (fun s => decide (s.length ≤ 40)) && (m.constraints.all (fun c => decide (c.row.terms.length ≤ 20)) && (m.operations.all opF && m.actions.all actF))))
theorem not_lt_le {a b : Nat} : decide ((a : Int) < (b : Int)) = !decide (b ≤ a) := by rw [← decide_not]; exact decide_eq_decide.2 (by omega)
theorem zjG {n : Nat} {m : Model} (hn : 1000000 ≤ n) : zo n m = some (zgP m) := by
 unfold zo zgP;have hl : (((((((decide (8 < (m.sorts.length : Int))) || (decide (6 < (m.tables.length : Int)))) || (decide (20 < (m.families.length : Int)))) || (decide (60 < (m.constraints.length : Int)))) || (decide (8 < (m.operations.length : Int)))) || (decide (30 < (m.actions.length : Int)))) || (decide (12 < (m.hides.length : Int)))) = lensP m := rfl;rw [hl];cases hlen : lensP m with
 | true => simp [grd]
 | false =>
  simp only [lensP, ua, yC] at hlen;obtain ⟨⟨⟨⟨⟨⟨b1, b2⟩, b3⟩, b4⟩, b5⟩, b6⟩, b7⟩ := hlen;have hfew : zcG n m.sorts m.tables = some (m.tables.all tabF) := by
   have := zaf (body := zcG.l1 n m.sorts m.tables) (l := m.tables) (n := n) (st := fun i => (i : Int)) tabF (some false) (some true) (fun rec i hi => ?_) (fun rec => ?_) (by omega)
   ·simp only [Int.natCast_zero] at this;unfold zcG;rw [this];cases m.tables.all tabF <;> rfl
   ·simp only [zcG.l1, zh hi, if_true, za hi, ya, yj, yr, grd, yf, zb (i := i) (by omega)];unfold tabF;by_cases h1 : m.tables[i].name.length ≤ 40
    ·by_cases h2 : m.tables[i].columns.length ≤ 12
     ·rw [if_neg (by simp; omega), if_pos (by simp [h1, h2])]
     ·rw [if_pos (by simp; omega), if_neg (by simp [h2])]
    ·rw [if_pos (by simp; omega), if_neg (by simp [h1])]
   ·simp [zcG.l1]; omega
  rw [hfew];simp only [yj, yr, grd, if_true, yf, uw, uD, yD];cases m.tables.all tabF with
  | false => simp
  | true =>
   rw [if_neg (by simp), yD];have h4 : loopF (zo.l4 n m) n 0 = some (m.actions.all actF) := by
    have := zaf (body := zo.l4 n m) (l := m.actions) (n := n) (st := fun i => (i : Int)) actF (some false) (some true) (fun rec i hi => ?_) (fun rec => ?_) (by omega)
    ·simp only [Int.natCast_zero] at this;rw [this];cases m.actions.all actF <;> rfl
    ·simp only [zo.l4, zh hi, if_true, za hi, ya];unfold actF;by_cases hx : ((decide (m.actions[i].arguments.length ≤ 6) && decide (m.actions[i].effect.delta.length ≤ 20)) && (decide (m.actions[i].effect.hold.length ≤ 10) && decide (m.actions[i].effect.updates.length ≤ 40))) = true
     ·rw [hx, yD];simp only [yb, yd] at hx;rw [if_neg (by simp; omega)];have := zaf (body := zo.l5 n i rec m.actions[i]) (l := m.actions[i].effect.hold) (n := n) (st := fun k => (k : Int)) (fun r => decide (r.terms.length ≤ 20)) (some false) (rec ((i + 1 : Nat) : Int)) (fun rec' k hk => ?_) (fun rec' => ?_) (by omega)
      ·simpa using this
      ·simp only [zo.l5, zh hk, if_true, za hk, ya, zb (i := k) (by omega)];by_cases h : m.actions[i].effect.hold[k].terms.length ≤ 20
       ·rw [if_neg (by simp; omega), if_pos (by simp [h])]
       ·rw [if_pos (by simp; omega), if_neg (by simp [h])]
      ·simp only [zo.l5, zah, ye, if_false, zb (i := i) (by omega)]
     ·rw [if_pos (by
       simp only [yb, yd] at hx;simp only [yz, yd]; omega)]
      simp only [yF] at hx;rw [hx, y6, if_neg (by simp)]
    ·simp [zo.l4]
   have h3 : loopF (zo.l3 n m) n 0 = some (m.operations.all opF && m.actions.all actF) := by
    have := zaf (body := zo.l3 n m) (l := m.operations) (n := n) (st := fun i => (i : Int)) opF (some false) (some (m.actions.all actF)) (fun rec i hi => ?_) (fun rec => ?_) (by omega)
    ·simp only [Int.natCast_zero] at this;rw [this];cases m.operations.all opF <;> rfl
    ·simp only [zo.l3, zh hi, if_true, za hi, ya, yj, yr, grd, yf, zb (i := i) (by omega)];unfold opF;by_cases h1 : m.operations[i].name.length ≤ 40
     ·by_cases h2 : m.operations[i].sorts.length ≤ 6
      ·rw [if_neg (by simp; omega), if_pos (by simp [h1, h2])]
      ·rw [if_pos (by simp; omega), if_neg (by simp [h2])]
     ·rw [if_pos (by simp; omega), if_neg (by simp [h1])]
    ·simp only [zo.l3, zah, ye, if_false, h4]
   have h2 : loopF (zo.l2 n m) n 0 = some (m.constraints.all (fun c => decide (c.row.terms.length ≤ 20)) && (m.operations.all opF && m.actions.all actF)) := by
    have := zaf (body := zo.l2 n m) (l := m.constraints) (n := n) (st := fun i => (i : Int)) (fun c => decide (c.row.terms.length ≤ 20)) (some false) (some (m.operations.all opF && m.actions.all actF)) (fun rec i hi => ?_) (fun rec => ?_) (by omega)
    ·simp only [Int.natCast_zero] at this;rw [this];cases m.constraints.all (fun c => decide (c.row.terms.length ≤ 20)) <;> rfl
    ·simp only [zo.l2, zh hi, if_true, za hi, ya, zb (i := i) (by omega)];by_cases h : m.constraints[i].row.terms.length ≤ 20
     ·rw [if_neg (by simp; omega), if_pos (by simp [h])]
     ·rw [if_pos (by simp; omega), if_neg (by simp [h])]
    ·simp only [zo.l2, zah, ye, if_false, h3]
   have := zaf (body := zo.l1 n m) (l := m.families) (n := n) (st := fun i => (i : Int)) (fun s => decide (s.length ≤ 40)) (some false) (some (m.constraints.all (fun c => decide (c.row.terms.length ≤ 20)) && (m.operations.all opF && m.actions.all actF))) (fun rec i hi => ?_) (fun rec => ?_) (by omega)
   ·simp only [Int.natCast_zero] at this;rw [this];cases m.families.all (fun s => decide (s.length ≤ 40)) <;> rfl
   ·simp only [zo.l1, zh hi, if_true, za hi, ya, zb (i := i) (by omega)];by_cases h : m.families[i].length ≤ 40
    ·rw [if_neg (by simp; omega), if_pos (by simp [h])]
    ·rw [if_pos (by simp; omega), if_neg (by simp [h])]
   ·simp only [zo.l1, zah, ye, if_false, h2]
theorem zg9 {m : Model} (h : zgP m = true) : SmallM m := by
 simp only [zgP, lensP, tabF, opF, actF, yb, yx, ua, yC, ym, yd] at h;obtain ⟨⟨⟨⟨⟨⟨⟨b1, b2⟩, b3⟩, b4⟩, b5⟩, b6⟩, b7⟩, c1, c2, c3, c4, c5⟩ := h;exact ⟨by omega, by omega, c1, by omega, c2, by omega, c3, by omega, c4, by omega, fun a ha => by
  obtain ⟨⟨⟨p1, p2⟩, p3, p4⟩, p5⟩ := c5 a ha;exact ⟨p1, p2, p3, p4, p5⟩, by omega⟩
def prodP : Int → List Range → Bool
 | _, [] => true
 | p, r :: l => !decide (4096 < mul64 p (add64 (sub64 r.hi r.lo) 1)) && prodP (mul64 p (add64 (sub64 r.hi r.lo) 1)) l
def zcw (m : Model) : List Range := if zbh m.sorts m.tables = true then zJ m.sorts true m.tables else []
def fewP (m : Model) : Bool := ((zgP m && decide (m.actions.length ≤ 12)) && decide (m.constraints.length ≤ 40)) && (m.actions.all (fun a => decide (a.effect.hold.length ≤ 4)) && (decide ((zcw m).length ≤ 12) && prodP 1 (zcw m)))
theorem zkK {n : Nat} {m : Model} (hn : 1000000 ≤ n) (hS : SmallM m) : zce n m = some (zcw m) := by
 have hs := hS.sorts;have ht := hS.tables;unfold zce;rw [zew hn (by omega) (by omega) (fun t h => by have := hS.tab t h; omega)];rfl
theorem strictR_len {m : Model} (hS : SmallM m) : (zcw m).length ≤ 2592 := by
 have ht := hS.tables;unfold zcw;split
 ·rename_i hL;obtain ⟨l1, l2, l3, l4⟩ := zbv hL;have := zcF (sizes := m.sorts) (s := true) (l := m.tables) fun x hx => (l4 x hx).2.2.2.2
  omega
 ·simp
theorem ref13_Few_eq {n : Nat} {m : Model} (hn : 1000000 ≤ n) : zbJ n m = some (fewP m) := by
 unfold zbJ fewP;rw [zjG hn, ya];have e1 : decide (12 < (m.actions.length : Int)) = !decide (m.actions.length ≤ 12) := not_lt_le (a := 12);have e2 : decide (40 < (m.constraints.length : Int)) = !decide (m.constraints.length ≤ 40) := not_lt_le (a := 40);rw [e1, e2, ← Bool.not_and, ← Bool.not_and];cases hb : (zgP m && decide (m.actions.length ≤ 12) && decide (m.constraints.length ≤ 40)) with
 | false => simp
 | true =>
  simp only [yb, yd] at hb;have hS := zg9 hb.1.1;have hsl := strictR_len hS;have T : (if (decide (12 < ((zcw m).length : Int))) = true then some false else loopF (zbJ.l2 n (zcw m)) n (1, 0)) = some (decide ((zcw m).length ≤ 12) && prodP 1 (zcw m)) := by
   by_cases h : (zcw m).length ≤ 12
   ·rw [if_neg (by simp; omega), decide_eq_true h, yD];refine zbA (body := zbJ.l2 n (zcw m)) (len := (zcw m).length) (st := fun (p : Int) i => (p, (i : Int))) (g := fun i p => some (prodP p ((zcw m).drop i))) (fun _ _ => True) (fun rec i p hi _ hr => ?_) (fun rec p _ => ?_) n 0 1 (yp _) (by omega) trivial
    ·simp only [zbJ.l2, zh hi, if_true, za hi, ya, zb (i := i) (by omega), hr _ trivial];rw [zj hi, prodP];cases decide (4096 < mul64 p (add64 (sub64 (zcw m)[i].hi (zcw m)[i].lo) 1)) <;> simp
    ·simp [zbJ.l2, prodP]
   ·rw [if_pos (by simp; omega), decide_eq_false h, y6]
  have := zaf (body := zbJ.l1 n m) (l := m.actions) (n := n) (st := fun i => (i : Int)) (fun a => decide (a.effect.hold.length ≤ 4)) (some false) (some (decide ((zcw m).length ≤ 12) && prodP 1 (zcw m))) (fun rec i hi => ?_) (fun rec => ?_) (by omega)
  ·simp only [Int.natCast_zero] at this;rw [if_neg (by simp), this];cases m.actions.all (fun a => decide (a.effect.hold.length ≤ 4)) <;> simp
  ·simp only [zbJ.l1, zh hi, if_true, za hi, ya, zb (i := i) (by omega)];by_cases h : m.actions[i].effect.hold.length ≤ 4
   ·rw [if_neg (by simp; omega), if_pos (by simp [h])]
   ·rw [if_pos (by simp; omega), if_neg (by simp [h])]
  ·simp only [zbJ.l1, zah, ye, if_false, zkK hn hS, ya, T]
theorem fewP_small {m : Model} (h : fewP m = true) : SmallM m := by
 simp only [fewP, yb] at h;exact zg9 h.1.1.1
structure ValidM (m : Model) : Prop where
 lay : zbh m.sorts m.tables = true
 fams : m.families.length ≤ 24 ∧ distP [] m.families = true
 cons : consP m (zJ m.sorts true m.tables) = true
 ops : opsP m = true
 acts : actsP m (zJ m.sorts true m.tables).length = true
 hid : hidesP m = true
theorem zgZ {m} : zfB m = true ↔ ValidM m := by
 simp only [zfB, yb, yd];exact ⟨fun ⟨⟨a, b, c⟩, d, e, f, g⟩ => ⟨a, ⟨b, c⟩, d, e, f, g⟩, fun ⟨a, ⟨b, c⟩, d, e, f, g⟩ => ⟨⟨a, b, c⟩, d, e, f, g⟩⟩
def stepT (s : Nat) (L : List (List Int)) : List (List Int) := L.flatMap fun l => (List.range s).map fun e : Nat => l ++ [(e : Int)]
def zeE (sizes : List Int) : List Int → List (List Int) → List (List Int)
 | [], L => L
 | c :: cols, L => zeE sizes cols (stepT (zcJ sizes c).toNat L)
def zdL (sizes cols : List Int) : List (List Int) := zeE sizes cols [[]]
theorem zhw (sizes) : ∀ (a b : List Int) (L : List (List Int)), zeE sizes (a ++ b) L = zeE sizes b (zeE sizes a L)
 | [], _, _ => rfl
 | _ :: a, b, L => by simp only [ud, zeE]; exact zhw sizes a b _
theorem zjx (s A B) : stepT s (A ++ B) = stepT s A ++ stepT s B := by simp [stepT]
theorem stepT_len {s L} : (stepT s L).length = L.length * s := by
 induction L with
 | nil => simp [stepT]
 | cons l L ih =>
  have : stepT s (l :: L) = stepT s [l] ++ stepT s L := zjx s [l] L;rw [this, yI, ih];simp [stepT, y9, Nat.add_comm]
theorem stepT_mem {s L k} (h : ∀ l ∈ L, l.length = k) : ∀ l ∈ stepT s L, l.length = k + 1 := fun l hl => by
 simp only [stepT, ue, yU] at hl;obtain ⟨x, hx, e, -, rfl⟩ := hl;simp [h x hx]
theorem stepT_snoc {s : Nat} {L : List (List Int)} {i : Nat} (hi : i < L.length) : stepT s (L.take (i + 1)) = stepT s (L.take i) ++ (List.range s).map fun e : Nat => L[i] ++ [(e : Int)] := by
 rw [yy hi, zjx];congr 1;simp [stepT]
def zdU (i : Nat) (L : List (List Int)) : List Place := L.map fun l => ⟨(i : Int), l⟩
def zcE (sizes : List Int) (s : Bool) : List Table → Nat → List Place
 | [], _ => []
 | t :: l, i => (if decide (t.kind ≤ 1) = s then zdU i (zdL sizes t.columns) else []) ++ zcE sizes s l (i + 1)
theorem zhg (sizes s) : ∀ (a b : List Table) (i : Nat), zcE sizes s (a ++ b) i = zcE sizes s a i ++ zcE sizes s b (i + a.length)
 | [], b, i => by simp [zcE]
 | t :: a, b, i => by
  simp only [ud, zcE, zhg sizes s a b, yQ, yJ];rw [show i + 1 + a.length = i + (a.length + 1) by omega]
theorem zjo {sizes : List Int} {s : Bool} {l : List Table} {i : Nat} (hi : i < l.length) : zcE sizes s (l.take (i + 1)) 0 = zcE sizes s (l.take i) 0 ++ (if decide (l[i].kind ≤ 1) = s then zdU i (zdL sizes l[i].columns) else []) := by
 rw [yy hi, zhg];congr 1;simp only [zcE, ug, yR, uA];rw [show min i l.length = i by omega]
theorem open_l4 {n : Nat} {x40 : Int} {rec : ((List (List Int)) × Int) → Option ((Option Layout) × Bool)} {l : List Int} {s : Nat} {b : List (List Int)} {k : Nat} (hk : add64 x40 1 = (k : Int)) (hs : s ≤ 6) (hl : l.length ≤ 100) (hb : b.length ≤ 100000) (hn : 1000000 ≤ n) :
  loopF (zk.l4 n x40 rec l (s : Int)) n (b, 0) = rec (b ++ (List.range s).map fun e : Nat => l ++ [(e : Int)], (k : Int)) := by
 have := zF (body := zk.l4 n x40 rec l (s : Int)) (len := s) (st := fun i => (b ++ (List.range i).map fun e : Nat => l ++ [(e : Int)], (i : Int))) (g := fun _ => rec (b ++ (List.range s).map fun e : Nat => l ++ [(e : Int)], (k : Int))) (fun rec' i hi hr => ?_) (fun rec' => ?_) n 0 (yp _) (by omega)
 ·simpa using this
 ·rw [uz, uh, ← yJ] at hr;simp only [zk.l4, zcy hi, if_true, zb (i := i) (by omega)];rw [zq (by simp; omega), ya, zq (by simp; omega), ya, zq (by simp; omega), ya];exact hr
 ·simp only [zk.l4, zb9 (yn s), ye, if_false, hk]
theorem open_l3 {n : Nat} {m} {L : List (List Int)} {x34 x36 : Int} {rec : ((List (List Int)) × Int) → Option ((Option Layout) × Bool)} {s k : Nat} (hk : add64 x34 1 = (k : Int)) (hx : idx m.sorts x36 = some (s : Int)) (hs : s ≤ 6) (hl : ∀ l ∈ L, l.length ≤ 100) (hL : L.length ≤ 1000) (hn : 1000000 ≤ n) :
  loopF (zk.l3 n m L x34 rec x36) n ([], 0) = rec (stepT s L, (k : Int)) := by
 have := zF (body := zk.l3 n m L x34 rec x36) (len := L.length) (st := fun i => (stepT s (L.take i), (i : Int))) (g := fun _ => rec (stepT s L, (k : Int))) (fun rec' i hi hr => ?_) (fun rec' => ?_) n 0 (yp _) (by omega)
 ·simpa [stepT] using this
 ·rw [stepT_snoc hi] at hr;simp only [zk.l3, zh hi, if_true, za hi, ya, hx];have hlen : (stepT s (L.take i)).length ≤ 100000 := by
   rw [stepT_len, yR];have : min i L.length * s ≤ 1000 * 6 := yY (by omega) hs;omega
  rw [open_l4 (k := i + 1) (zb (by omega)) hs (hl _ (yg hi)) hlen hn];exact hr
 ·simp only [zk.l3, zah, ye, if_false, hk, List.take_length]
theorem open_l5 {n : Nat} {i : Nat} {rec : ((List Place) × (List Place) × Int) → Option ((Option Layout) × Bool)} {t : Table} {L : List (List Int)} {b1 b2 : List Place} (hi : i < 1000000) (hL : L.length ≤ 1000) (h1 : b1.length ≤ 100000) (h2 : b2.length ≤ 100000) (hn : 1000000 ≤ n) :
  loopF (zk.l5 n (i : Int) rec t L) n (b1, b2, 0) = rec (b1 ++ (if decide (t.kind ≤ 1) = true then zdU i L else []), b2 ++ (if decide (t.kind ≤ 1) = false then zdU i L else []), ((i + 1 : Nat) : Int)) := by
 cases hk : decide (t.kind ≤ 1) with
 | true =>
  simp only [if_true, Bool.true_eq_false, if_false, ug];have := zF (body := zk.l5 n (i : Int) rec t L) (len := L.length) (st := fun k => (b1 ++ zdU i (L.take k), b2, (k : Int))) (g := fun _ => rec (b1 ++ zdU i L, b2, ((i + 1 : Nat) : Int))) (fun rec' k hk' hr => ?_) (fun rec' => ?_) n 0 (yp _) (by omega)
  ·simpa [zdU] using this
  ·simp only [zdU] at hr ⊢;rw [← zds hk', ← yJ] at hr;simp only [zk.l5, jn, zh hk', if_true, za hk', ya, hk, zb (i := k) (by omega)];rw [zq (by simp; omega), ya];exact hr
  ·simp only [zk.l5, zah, ye, if_false, List.take_length, zb (i := i) (by omega)]
 | false =>
  simp only [ye, if_true, if_false, ug];have := zF (body := zk.l5 n (i : Int) rec t L) (len := L.length) (st := fun k => (b1, b2 ++ zdU i (L.take k), (k : Int))) (g := fun _ => rec (b1, b2 ++ zdU i L, ((i + 1 : Nat) : Int))) (fun rec' k hk' hr => ?_) (fun rec' => ?_) n 0 (yp _) (by omega)
  ·simpa [zdU] using this
  ·simp only [zdU] at hr ⊢;rw [← zds hk', ← yJ] at hr;simp only [zk.l5, jn, zh hk', if_true, za hk', ya, hk, ye, if_false, zb (i := k) (by omega)];rw [zq (by simp; omega), ya];exact hr
  ·simp only [zk.l5, zah, ye, if_false, List.take_length, zb (i := i) (by omega)]
theorem ziz {sizes} (hs : sizes.all zcq = true) : ∀ (cols : List Int) (L : List (List Int)) (A k : Nat), cols.all (colOK sizes) = true → L.length ≤ A → (∀ l ∈ L, l.length = k) → (zeE sizes cols L).length ≤ A * 6 ^ cols.length ∧ ∀ l ∈ zeE sizes cols L, l.length = k + cols.length
 | [], L, A, k, _, h1, h2 => by simpa [zeE] using ⟨h1, h2⟩
 | c :: cols, L, A, k, hc, h1, h2 => by
  simp only [ub, yb] at hc;have hz := zit hs hc.1;have hlen : (stepT (zcJ sizes c).toNat L).length ≤ A * 6 := by
   rw [stepT_len]; exact yY h1 (by omega)
  obtain ⟨p1, p2⟩ := ziz hs cols (stepT (zcJ sizes c).toNat L) (A * 6) (k + 1) hc.2 hlen (stepT_mem h2);simp only [zeE, yQ];refine ⟨?_, fun l hl => ?_⟩
  ·rw [uK, Nat.mul_comm (6 ^ cols.length) 6, ← Nat.mul_assoc]; exact p1
  ·rw [p2 l hl]; omega
theorem zfZ {sizes cols} (hs : sizes.all zcq = true) (hc : cols.all (colOK sizes) = true) (h3 : cols.length ≤ 3) : (zdL sizes cols).length ≤ 216 ∧ ∀ l ∈ zdL sizes cols, l.length = cols.length := by
 obtain ⟨p1, p2⟩ := ziz hs cols [[]] 1 0 hc (by simp) (by simp);refine ⟨uk p1 ?_, fun l hl => by simpa using p2 l hl⟩;have : 6 ^ cols.length ≤ 6 ^ 3 := uy (by decide) h3;omega
theorem open_l2 {n : Nat} {m} {b1 b2 : List Place} {i : Nat} {rec : ((List Place) × (List Place) × Int) → Option ((Option Layout) × Bool)} {t : Table} (hs : m.sorts.all zcq = true) (hc : t.columns.all (colOK m.sorts) = true) (h3 : t.columns.length ≤ 3) (hi : i < 1000000) (h1 : b1.length ≤ 100000) (h2 : b2.length ≤ 100000) (hn : 1000000 ≤ n) :
  loopF (zk.l2 n m b1 b2 (i : Int) rec t) n ([[]], 0) = rec (b1 ++ (if decide (t.kind ≤ 1) = true then zdU i (zdL m.sorts t.columns) else []), b2 ++ (if decide (t.kind ≤ 1) = false then zdU i (zdL m.sorts t.columns) else []), ((i + 1 : Nat) : Int)) := by
 have hpre : ∀ k, (t.columns.take k).all (colOK m.sorts) = true := fun k => ym.2 fun c hm => ym.1 hc c (List.mem_of_mem_take hm)
 have := zF (body := zk.l2 n m b1 b2 (i : Int) rec t) (len := t.columns.length) (st := fun k => (zdL m.sorts (t.columns.take k), (k : Int))) (g := fun _ => rec (b1 ++ (if decide (t.kind ≤ 1) = true then zdU i (zdL m.sorts t.columns) else []), b2 ++ (if decide (t.kind ≤ 1) = false then zdU i (zdL m.sorts t.columns) else []), ((i + 1 : Nat) : Int))) (fun rec' k hk hr => ?_) (fun rec' => ?_) n 0 (yp _) (by omega)
 ·simpa [zdL, zeE] using this
 ·have hcol := ym.1 hc _ (yg hk);have hz := zit hs hcol;obtain ⟨p1, p2⟩ := zfZ hs (hpre k) (by simp; omega);have hsz : idx m.sorts t.columns[k] = some (((zcJ m.sorts t.columns[k]).toNat : Nat) : Int) := by
   rw [zfK hcol];unfold zcJ at hz ⊢;congr 1; omega
  simp only [zk.l2, zh hk, if_true, za hk, ya];rw [open_l3 (k := k + 1) (zb (by omega)) hsz (by omega) (fun l hl => by rw [p2 l hl]; simp; omega) (by omega) hn, ← hr];congr 2;unfold zdL;rw [yy hk, zhw];rfl
 ·obtain ⟨p1, -⟩ := zfZ hs hc h3;simp only [zk.l2, zah, ye, if_false, List.take_length];exact open_l5 hi (by omega) h1 h2 hn
theorem zhJ {sizes s} : ∀ {l : List Table} {i : Nat}, (∀ t ∈ l, (zdL sizes t.columns).length ≤ 216) → (zcE sizes s l i).length ≤ l.length * 216
 | [], _, _ => by simp [zcE]
 | t :: l, i, h => by
  have ih := zhJ (s := s) (l := l) (i := i + 1) fun x hx => h x (by simp [hx])
  have ht := h t (by simp);simp only [zcE, yI, yQ];split
  ·simp only [zdU, uc]; omega
  ·simp only [ux]; omega
def layoutM (m : Model) : Layout := ⟨m, zcE m.sorts true m.tables 0, zcE m.sorts false m.tables 0⟩
theorem zjO {n : Nat} {m} (hF : Fuel n) (hS : SmallM m) : zk n m = some (if zfB m = true then (some (layoutM m), true) else (none, false)) := by
 have hn := hF.big;have htl := hS.tables;unfold zk;rw [zhf hF hS, ya];cases hv : zfB m with
 | false => simp
 | true =>
  have hV := zgZ.1 hv;obtain ⟨l1, l2, l3, l4⟩ := zbv hV.lay;have hb : ∀ t ∈ m.tables, (zdL m.sorts t.columns).length ≤ 216 := fun t ht => (zfZ l3 (l4 t ht).2.2.2.1 (l4 t ht).2.2.1).1
  rw [if_neg (by simp), if_pos rfl];have := zF (body := zk.l1 n m) (len := m.tables.length) (st := fun i => (zcE m.sorts true (m.tables.take i) 0, zcE m.sorts false (m.tables.take i) 0, (i : Int))) (g := fun _ => some (some (layoutM m), true)) (fun rec i hi hr => ?_) (fun rec => ?_) n 0 (yp _) (by omega)
  ·simpa [zcE] using this
  ·have hmem := yg hi;obtain ⟨-, -, c1, c2, -⟩ := l4 _ hmem;have hA := zhJ (s := true) (l := m.tables.take i) (i := 0) fun t ht => hb t (List.mem_of_mem_take ht)
   have hB := zhJ (s := false) (l := m.tables.take i) (i := 0) fun t ht => hb t (List.mem_of_mem_take ht)
   simp only [yR] at hA hB;rw [zjo hi, zjo hi] at hr;simp only [zk.l1, zh hi, if_true, za hi, ya];rw [open_l2 l3 c2 c1 (by omega) (by omega) (by omega) (by omega)];exact hr
  ·simp [zk.l1, layoutM]
def zgB (m : Model) (q : Question) : Bool :=
 (((decide (0 ≤ q.e) && decide (q.e < (m.actions.length : Int))) && (decide (0 ≤ q.f) && decide (q.f < (m.actions.length : Int)))) && decide (0 ≤ q.target.index)) &&
 (if q.target.hold = true then decide (q.target.index < (((idx m.actions q.e).getD default).effect.hold.length : Int)) else decide (q.e ≤ q.f) && decide (q.target.index < (m.constraints.length : Int)))
theorem quest_body {m q} : (if (((((decide (q.e < 0)) || (decide (q.f < 0))) || (decide ((m.actions.length : Int) ≤ q.e))) || (decide ((m.actions.length : Int) ≤ q.f))) || (decide (q.target.index < 0))) = true then some false
 else if q.target.hold = true then (idx m.actions q.e).bind fun x => some (decide (q.target.index < (x.effect.hold.length : Int))) else some ((decide (q.e ≤ q.f)) && (decide (q.target.index < (m.constraints.length : Int))))) = some (zgB m q) := by
 unfold zgB;by_cases h : ((0 ≤ q.e ∧ q.e < (m.actions.length : Int)) ∧ (0 ≤ q.f ∧ q.f < (m.actions.length : Int))) ∧ 0 ≤ q.target.index
 ·rw [if_neg (by simp; omega)];obtain ⟨a, ha⟩ := za8 h.1.1.1 h.1.1.2;rw [ha];simp only [h, decide_true, uM, yD, ya, yf];split <;> rfl
 ·rw [if_pos (by simp; omega)];have : (((decide (0 ≤ q.e) && decide (q.e < (m.actions.length : Int))) && (decide (0 ≤ q.f) && decide (q.f < (m.actions.length : Int)))) && decide (0 ≤ q.target.index)) = false := by
   rw [← yF];simp only [yb, yd];exact h
  rw [this, y6]
theorem zfy {n m q} (hF : Fuel n) (hS : SmallM m) : zc4 n m q = some (zfB m && zgB m q) := by
 unfold zc4;rw [zjO hF hS, ya];cases zfB m with
 | false => simp [grd]
 | true =>
  have : zbr n (layoutM m) q = some (zgB m q) := quest_body;simp [grd, this]
theorem ref16_Valid_eq {n m q} (hn : 4294967296 ≤ n) (hS : SmallM m) : zfU n m q = some (zfB m && zgB m q) := by
 unfold zfU;rw [ref13_Valid_eq hn hS, ya];cases zfB m with
 | false => simp
 | true =>
  simp only [y8, uw, yD];exact quest_body
theorem awake_spec : zhF 18446744073709551616 = some true := by decide +kernel
theorem keywords_spec : (zbE 18446744073709551616).map (fun m => m.es.map (fun e => e.2)) = some (kwL.map fun k => (k, true)) := by decide +kernel
theorem fuel_N : Fuel 18446744073709551616 := by
 refine ⟨by decide, ?_⟩;have h := keywords_spec;cases hk : zbE 18446744073709551616 with
 | none => rw [hk] at h; cases h
 | some m =>
  rw [hk] at h;simp only [yS, yi] at h;refine ⟨m, rfl, fun e he => ?_, fun k => ?_⟩
  ·have : e.2 ∈ m.es.map (fun e => e.2) := List.mem_map_of_mem he;rw [h] at this;simp only [yU] at this;obtain ⟨x, -, hx⟩ := this;rw [← hx]
  ·have : m.es.map (fun e => e.2.1) = kwL := by
    have e1 : m.es.map (fun e => e.2.1) = (m.es.map (fun e => e.2)).map (·.1) := by rw [uP]; rfl
    rw [e1, h, uP];exact List.map_id kwL
   rw [this]
theorem zhD {K} : ∀ (l : List Change) (last : Int), zhc K last l = true → (∀ d ∈ l, last < d.cell ∧ d.cell < (K : Int) ∧ d.add ≠ 0 ∧ -1000000000 ≤ d.add ∧ d.add ≤ 1000000000) ∧ (l.map (·.cell)).Nodup
 | [], _, _ => by simp
 | d :: l, last, h => by
  simp only [zhc, zau, yb, yd, bne_iff_ne] at h;obtain ⟨⟨⟨⟨h1, h2⟩, h3⟩, h4, h5⟩, h6⟩ := h;obtain ⟨p1, p2⟩ := zhD l d.cell h6;refine ⟨fun x hx => ?_, ?_⟩
  ·simp only [yP] at hx;rcases hx with rfl | hx
   ·exact ⟨h1, h2, h3, h4, h5⟩
   ·obtain ⟨q1, q2⟩ := p1 x hx;exact ⟨by omega, q2⟩
  ·simp only [yT, List.nodup_cons, yU, not_exists, not_and];exact ⟨fun x hx e => by have := (p1 x hx).1; omega, p2⟩
theorem valid_act {m} (hV : ValidM m) {a} (ha : a ∈ m.actions) : effP m (zJ m.sorts true m.tables).length a.effect = true ∧ (0 ≤ a.operation ∧ a.operation < (m.operations.length : Int)) := by
 have h := hV.acts;simp only [actsP, yb] at h;obtain ⟨i, hi, rfl⟩ := List.mem_iff_getElem.1 ha;have := zja.1 h.2 i hi;simp only [za hi, yf, actP, yb, yd] at this;exact ⟨this.2, this.1.1.1.1⟩
theorem valid_con {m} (hV : ValidM m) {c} (hc : c ∈ m.constraints) : zd8 (zJ m.sorts true m.tables).length c = true ∨ acyP m c = true := by
 have h := hV.cons;simp only [consP, yb] at h;obtain ⟨i, hi, rfl⟩ := List.mem_iff_getElem.1 hc;have := zja.1 h.2 i hi;simp only [za hi, yf, conP, yb, yz] at this;exact this.1.2
theorem acy_size {m} (hV : ValidM m) {c} (h : acyP m c = true) : c.kind = 1 ∧ 1 ≤ c.size ∧ c.size ≤ 6 := by
 obtain ⟨l1, l2, l3, l4⟩ := zbv hV.lay;simp only [acyP, zhd, yb, uu, beq_iff_eq] at h;obtain ⟨h1, -, t, ht, hg⟩ := h;simp only [zh3, yb, beq_iff_eq] at hg;obtain ⟨⟨g1, g2⟩, ⟨g3, g4⟩, g5⟩ := hg;obtain ⟨⟨x, hx⟩, -, z, hz⟩ := zgS (l4 t ht).2.2.2.1 g2;refine ⟨h1, ?_⟩;rw [hz] at g5;simp only [yf] at g5;have := ym.1 l3 z (za4 hz);simp only [zcq, yb, yd] at this;omega
theorem zfJ {n m} (hn : 4294967296 ≤ n) (hS : SmallM m) (hV : ValidM m) : Good n m := by
 refine ⟨fun a ha => ?_, fun c hc => ?_⟩
 ·obtain ⟨a1, a2, a3, a4, a5⟩ := hS.act a ha;have he := (valid_act hV ha).1;simp only [effP, yb] at he;obtain ⟨p1, p2⟩ := zhD _ _ he.1;exact ⟨by omega, by omega, fun k => zjZ k _ p2 fun d hd => by have := p1 d hd; omega, fun r hr => by have := a5 r hr; omega⟩
 ·have hl := hS.con c hc;rcases valid_con hV hc with h | h
  ·simp only [zd8, yb, beq_iff_eq] at h;refine ⟨.inl h.1.1.1, by omega, by omega, 0, ?_, by decide, by omega⟩;rw [h.1.2]; rfl
  ·obtain ⟨k1, s1, s2⟩ := acy_size hV h;refine ⟨.inr k1, by omega, by omega, c.size.toNat * c.size.toNat, ?_, ?_, ?_⟩
   ·have : c.size * c.size ≤ 6 * 6 := Int.mul_le_mul s2 s2 (by omega) (by omega);have h0 : 0 ≤ c.size * c.size := Int.mul_nonneg (by omega) (by omega);unfold mul64;rw [zaL (by omega) (by omega), yK, Int.toNat_of_nonneg (by omega)]
   ·have : c.size.toNat * c.size.toNat ≤ 6 * 6 := yY (by omega) (by omega);omega
   ·have : c.size.toNat * c.size.toNat ≤ 6 * 6 := yY (by omega) (by omega);omega
theorem zhK {m q} (h : zgB m q = true) : (0 ≤ q.e ∧ q.e < (m.actions.length : Int)) ∧ (0 ≤ q.f ∧ q.f < (m.actions.length : Int)) ∧ 0 ≤ q.target.index ∧ (q.target.hold = true → ∀ a, idx m.actions q.e = some a → q.target.index < (a.effect.hold.length : Int)) ∧ (q.target.hold = false → q.e ≤ q.f ∧ q.target.index < (m.constraints.length : Int)) := by
 simp only [zgB, yb, yd] at h;obtain ⟨⟨⟨h1, h2⟩, h3⟩, h4⟩ := h;refine ⟨h1, h2, h3, fun hh a ha => ?_, fun hh => ?_⟩
 ·rw [if_pos hh, ha] at h4;simpa using h4
 ·rw [if_neg (by simp [hh])] at h4;simpa using h4
def nextL : List Range → List Int → Option (List Int)
 | r :: rs, x :: xs => match nextL rs xs with
  | some ys => some (x :: ys)
  | none => if x < r.hi then some ((x + 1) :: rs.map (·.lo)) else none
 | _, _ => none
def inBox : List Range → List Int → Bool
 | r :: rs, x :: xs => (decide (r.lo ≤ x) && decide (x ≤ r.hi)) && inBox rs xs
 | [], [] => true
 | _, _ => false
def zde : List Range → Nat
 | [] => 1
 | r :: rs => (r.hi - r.lo + 1).toNat * zde rs
def valB : List Range → List Int → Nat
 | r :: rs, x :: xs => (x - r.lo).toNat * zde rs + valB rs xs
 | _, _ => 0
def zh6 (box : List Range) : List Int := box.map (·.lo)
def goodB (box : List Range) : Bool := box.all fun r => decide (r.lo ≤ r.hi) && (decide (-9999 ≤ r.lo) && decide (r.hi ≤ 9999))
theorem zeo : ∀ {box : List Range} {s : List Int}, inBox box s = true → s.length = box.length
 | [], [], _ => rfl
 | [], _ :: _, h => by simp [inBox] at h
 | _ :: _, [], h => by simp [inBox] at h
 | _ :: rs, _ :: xs, h => by
  simp only [inBox, yb] at h;simp [zeo h.2]
theorem zfh : ∀ {box : List Range} {s : List Int} (h : inBox box s = true) (i : Nat) (hi : i < box.length) (hs : i < s.length), box[i].lo ≤ s[i] ∧ s[i] ≤ box[i].hi
 | [], _, _, i, hi, _ => by simp at hi
 | _ :: _, [], h, _, _, _ => by simp [inBox] at h
 | r :: rs, x :: xs, h, 0, _, _ => by
  simp only [inBox, yb, yd] at h;exact h.1
 | r :: rs, x :: xs, h, i + 1, hi, hs => by
  simp only [inBox, yb] at h;simpa using zfh h.2 i (by simpa using hi) (by simpa using hs)
theorem least_in : ∀ {box : List Range}, goodB box = true → inBox box (zh6 box) = true
 | [], _ => rfl
 | r :: rs, h => by
  simp only [goodB, ub, yb, yd] at h;simp only [zh6, yT, inBox, yb, yd];exact ⟨⟨Int.le_refl _, h.1.1⟩, least_in (by simpa only [goodB] using h.2)⟩
theorem val_lt : ∀ {box : List Range} {s : List Int}, inBox box s = true → goodB box = true → valB box s < zde box
 | [], [], _, _ => by simp [valB, zde]
 | [], _ :: _, h, _ => by simp [inBox] at h
 | _ :: _, [], h, _ => by simp [inBox] at h
 | r :: rs, x :: xs, h, hg => by
  simp only [inBox, yb, yd] at h;simp only [goodB, ub, yb, yd] at hg;have ih := val_lt h.2 (by simpa only [goodB] using hg.2);simp only [valB, zde];have h1 : (x - r.lo).toNat + 1 ≤ (r.hi - r.lo + 1).toNat := by omega
  have h2 := yM (zde rs) h1;rw [y9] at h2;omega
theorem val_least : ∀ (box : List Range), valB box (zh6 box) = 0
 | [] => rfl
 | r :: rs => by simp [zh6, valB]; exact val_least rs
theorem zig : ∀ {box : List Range} {s : List Int}, inBox box s = true → goodB box = true → nextL box s = none → valB box s + 1 = zde box
 | [], [], _, _, _ => rfl
 | [], _ :: _, h, _, _ => by simp [inBox] at h
 | _ :: _, [], h, _, _ => by simp [inBox] at h
 | r :: rs, x :: xs, h, hg, hn => by
  simp only [inBox, yb, yd] at h;simp only [goodB, ub, yb, yd] at hg;rw [nextL] at hn;split at hn
  ·cases hn
  ·rename_i hr;split at hn
   ·cases hn
   ·have ih := zig h.2 (by simpa only [goodB] using hg.2) hr;simp only [valB, zde];have h1 : (r.hi - r.lo + 1).toNat = (x - r.lo).toNat + 1 := by omega
    rw [h1, y9];omega
theorem next_some : ∀ {box : List Range} {s t : List Int}, inBox box s = true → goodB box = true → nextL box s = some t → inBox box t = true ∧ valB box t = valB box s + 1
 | [], [], _, _, _, hn => by simp [nextL] at hn
 | [], _ :: _, _, h, _, _ => by simp [inBox] at h
 | _ :: _, [], _, h, _, _ => by simp [inBox] at h
 | r :: rs, x :: xs, t, h, hg, hn => by
  simp only [inBox, yb, yd] at h;have hg' := hg;simp only [goodB, ub, yb, yd] at hg;have hgr : goodB rs = true := by simpa only [goodB] using hg.2
  rw [nextL] at hn;split at hn
  ·rename_i ys hr;cases hn;obtain ⟨p1, p2⟩ := next_some h.2 hgr hr;simp only [inBox, valB, yb, yd];exact ⟨⟨h.1, p1⟩, by omega⟩
  ·rename_i hr;split at hn
   ·rename_i hx;cases hn;have ih := zig h.2 hgr hr;have hl := least_in hgr;have hv := val_least rs;unfold zh6 at hl hv;simp only [inBox, valB, yb, yd, hv];refine ⟨⟨⟨by omega, by omega⟩, hl⟩, ?_⟩;have h1 : (x + 1 - r.lo).toNat = (x - r.lo).toNat + 1 := by omega
    rw [h1, y9];omega
   ·cases hn
theorem zjL {n box} (hg : goodB box = true) (hl : box.length ≤ 100) (hn : 1000000 ≤ n) : zO n box [] = some true := by
 unfold zO;rw [if_neg (by simp; omega)];have := zF (body := zO.l1 n box []) (len := box.length) (st := fun i => (i : Int)) (g := fun _ => some true) (fun rec i hi hr => ?_) (fun rec => ?_) n 0 (yp _) (by omega)
 ·simpa using this
 ·have := ym.1 hg _ (yg hi);simp only [yb, yd] at this;have h1 : (decide (-1000000 ≤ box[i].lo) && decide (box[i].lo ≤ 1000000)) = true := by simp; omega
  have h2 : (decide (-1000000 ≤ box[i].hi) && decide (box[i].hi ≤ 1000000)) = true := by simp; omega
  simp only [zO.l1, zh hi, if_true, za hi, ya, zaJ, h1, h2, yj, yr, grd, yf, y8, uO, ye, if_false, zb (i := i) (by omega), hr]
 ·simp only [zO.l1, zah, ye, if_false];rw [zgp (by omega)];simp [zO.l2]
theorem zfs {n box s} (hi : inBox box s = true) (hl : box.length ≤ 100) (hn : 1000000 ≤ n) : zam n box s = some true := by
 have hlen := zeo hi;unfold zam;rw [if_neg (by simp [hlen])];have := zF (body := zam.l1 n box s) (len := box.length) (st := fun i => (i : Int)) (g := fun _ => some true) (fun rec i hlt hr => ?_) (fun rec => ?_) n 0 (yp _) (by omega)
 ·simpa using this
 ·have hs : i < s.length := by omega
  have := zfh hi i hlt hs;have h1 : (decide (box[i].lo ≤ s[i]) && decide (s[i] ≤ box[i].hi)) = true := by simp; omega
  simp only [zam.l1, zh hlt, if_true, za hlt, za hs, ya, zaJ, h1, y8, ye, if_false, zb (i := i) (by omega), hr]
 ·simp [zam.l1]
theorem nextL_drop : ∀ (i : Nat) {box : List Range} {s ys : List Int}, s.length = box.length → i ≤ box.length → nextL (box.drop i) (s.drop i) = some ys → nextL box s = some (s.take i ++ ys)
 | 0, _, _, _, _, _, h => by simpa using h
 | i + 1, box, s, ys, hl, hi, h => by
  have hb : i < box.length := by omega
  have hs : i < s.length := by omega
  have : nextL (box.drop i) (s.drop i) = some (s[i] :: ys) := by
   rw [zj hb, zj hs, nextL, h]
  rw [nextL_drop i hl (by omega) this, yy hs, yJ];rfl
theorem ref17_Next_eq {n box s} (hg : goodB box = true) (hi : inBox box s = true) (hl : box.length ≤ 100) (hn : 1000000 ≤ n) :
  zbG n box s = some (match nextL box s with | some ys => (ys, true) | none => ([], false)) := by
 have hlen := zeo hi;unfold zbG;rw [zjL hg hl hn, zfs hi hl hn];simp only [ya, yj, yr, grd, if_true, yf, y8, uO, ye, if_false];have main : ∀ (m k : Nat), k < m → k ≤ box.length → nextL (box.drop k) (s.drop k) = none → loopF (zbG.l1 n box s) m ((k : Int) - 1) = some (match nextL box s with | some ys => (ys, true) | none => ([], false)) := fun m => by
  induction m with
  | zero => intro k h; omega
  | succ m ih =>
   intro k hk hkl hnone;simp only [loopF, zbG.l1];cases k with
   | zero =>
    simp only [List.drop_zero] at hnone;rw [hnone]; simp
   | succ k =>
    have hkb : k < box.length := by omega
    have hks : k < s.length := by omega
    have e : ((k + 1 : Nat) : Int) - 1 = (k : Int) := by omega
    have hd : decide (0 ≤ (k : Int)) = true := by simp
    simp only [e, hd, if_true, za hkb, za hks, ya];by_cases hx : s[k] < box[k].hi
    ·rw [if_pos (by simpa using hx)];have hsome : nextL (box.drop k) (s.drop k) = some ((s[k] + 1) :: (box.drop (k + 1)).map (·.lo)) := by
      rw [zj hkb, zj hks, nextL, hnone];simp [hx]
     rw [nextL_drop k hlen (by omega) hsome];generalize hR : s.take k ++ (s[k] + 1) :: (box.drop (k + 1)).map (·.lo) = R;have hRl : R.length = box.length := by rw [← hR]; simp; omega
     have := zF (body := zbG.l2 n box s (k : Int)) (len := box.length) (st := fun j => (R.take j, (j : Int))) (g := fun _ => some (R, true)) (fun rec j hj hr => ?_) (fun rec => ?_) n 0 (yp _) (by omega)
     ·simpa using this
     ·have hjR : j < R.length := by omega
      have hjs : j < s.length := by omega
      rw [yy hjR] at hr;simp only [zbG.l2, jn, zh hj, if_true, zb (i := j) (by omega)];by_cases h1 : j < k
      ·have hel : R[j] = s[j] := by
        simp only [← hR];rw [List.getElem_append_left (by simp; omega)]; simp
       rw [if_pos (by simpa using h1), za hjs, ya, zq (by simp; omega), ya];rw [hel] at hr;exact hr
      ·rw [if_neg (by simpa using h1)];by_cases h2 : j = k
       ·subst h2;have hel : R[j] = s[j] + 1 := by
         simp only [← hR];rw [List.getElem_append_right (by simp; omega)];simp [show min j s.length = j by omega]
        have hb := zfh hi j hkb hjs;have hbd := ym.1 hg _ (yg hkb);simp only [yb, yd] at hbd;have hadd : add64 s[j] 1 = s[j] + 1 := by unfold add64; rw [zaL (by omega) (by omega)]
        rw [if_pos (by simp), za hjs, ya, hadd, zq (by simp; omega), ya];rw [hel] at hr;exact hr
       ·have hel : R[j] = box[j].lo := by
         simp only [← hR];rw [List.getElem_append_right (by simp; omega)];have e2 : j - (s.take k).length = (j - k - 1) + 1 := by simp; omega
         simp only [e2, List.getElem_cons_succ, List.getElem_map, List.getElem_drop];congr 2; omega
        rw [if_neg (by simp; omega), za hj, ya, zq (by simp; omega), ya];rw [hel] at hr;exact hr
     ·simp only [zbG.l2, zah, ye, if_false];rw [List.take_of_length_le (by omega)]
    ·rw [if_neg (by simpa using hx)];have hsub : sub64 (k : Int) 1 = (k : Int) - 1 := by unfold sub64; rw [zaL (by omega) (by omega)]
     rw [hsub];refine ih k (by omega) (by omega) ?_;rw [zj hkb, zj hks, nextL, hnone];simp [hx]
 rw [zkR (by omega)];refine main n box.length (by omega) (yn _) ?_;rw [List.drop_length, List.drop_eq_nil_of_le (by omega)];rfl
theorem ref17_Least_eq {n box} (hl : box.length ≤ 100) (hn : 1000000 ≤ n) : zcm n box = some (zh6 box) := by
 unfold zcm;have := zF (body := zcm.l1 n box) (len := box.length) (st := fun i => ((box.take i).map (·.lo), (i : Int))) (g := fun _ => some (zh6 box)) (fun rec i hi hr => ?_) (fun rec => ?_) n 0 (yp _) (by omega)
 ·simpa using this
 ·rw [← zds hi] at hr;simp only [zcm.l1, zh hi, if_true, za hi, ya, zb (i := i) (by omega)];rw [zq (by simp; omega), ya];exact hr
 ·simp [zcm.l1, zh6]
theorem states_all {n box f} (hg : goodB box = true) (hl : box.length ≤ 100) (hn : 1000000 ≤ n) (hc : zde box < n) (hf : ∀ s, inBox box s = true → f s = some true) :
  loopF (zbp.l1 n f box) n (zh6 box, true) = some true := by
 refine zc9 (body := zbp.l1 n f box) (fun s => if s.2 = true then zde box - valB box s.1 else 0) (fun s => s.2 = true → inBox box s.1 = true) (fun _ o => o = some true) (fun rec s hI hr => ?_) n _ (fun _ => least_in hg) ?_
 ·obtain ⟨s, b⟩ := s;simp only [zbp.l1];cases b with
  | false => simp
  | true =>
   have hin : inBox box s = true := hI rfl;have hv := val_lt hin hg;simp only [if_true, hf s hin, ya, y8, ye, if_false, ref17_Next_eq hg hin hl hn];cases hnx : nextL box s with
   | none => exact hr ([], false) (fun h => by cases h) (by
    show 0 < zde box - valB box s;omega)
   | some t =>
    obtain ⟨p1, p2⟩ := next_some hin hg hnx;exact hr (t, true) (fun _ => p1) (by
     have : valB box s < zde box := hv;show zde box - valB box t < zde box - valB box s;omega)
 ·simp only [if_true];omega
def sumP (s : List Int) : List Term → Int
 | [] => 0
 | t :: l => t.factor * s.getD t.cell.toNat 0 + sumP s l
def zhv (k : Nat) (t : Term) : Prop := 0 ≤ t.cell ∧ t.cell < (k : Int) ∧ -1000 ≤ t.factor ∧ t.factor ≤ 1000
def ziu (s : List Int) : Prop := ∀ x ∈ s, -4000000000 ≤ x ∧ x ≤ 4000000000
theorem mul_bd {f x B : Int} (h1 : -1000 ≤ f) (h2 : f ≤ 1000) (h3 : -B ≤ x) (h4 : x ≤ B) : -(1000 * B) ≤ f * x ∧ f * x ≤ 1000 * B := by
 have hB : 0 ≤ B := by omega
 have a1 : f.natAbs ≤ 1000 := by omega
 have a2 : x.natAbs ≤ B.toNat := by omega
 have a3 : (f * x).natAbs ≤ 1000 * B.toNat := by rw [Int.natAbs_mul]; exact yY a1 a2
 omega
theorem zh1 {s : List Int} {c : Int} (h0 : 0 ≤ c) (h1 : c < (s.length : Int)) : idx s c = some (s.getD c.toNat 0) := by
 obtain ⟨k, rfl⟩ := yW h0;have : k < s.length := by omega
 rw [za this]; simp [List.getD, this]
theorem getD_mem {s : List Int} {c : Int} (h0 : 0 ≤ c) (h1 : c < (s.length : Int)) : s.getD c.toNat 0 ∈ s := za4 (zh1 h0 h1)
theorem band_low {x : Int} (h1 : -9223372036854775808 ≤ x) (h2 : x ≤ 9223372036854775807) : band .i64 x 4294967295 = x % 4294967296 := by
 unfold band zfC;rw [BitVec.toNat_and, BitVec.toNat_ofInt, BitVec.toNat_ofInt];have e1 : ((4294967295 : Int) % ((2 ^ IntKind.i64.bits : Nat) : Int)).toNat = 2 ^ 32 - 1 := by decide
 rw [e1, Nat.and_two_pow_sub_one_eq_mod];have e2 : ((2 ^ IntKind.i64.bits : Nat) : Int) = 18446744073709551616 := by decide
 rw [e2];have e3 : (((x % 18446744073709551616).toNat % 2 ^ 32 : Nat) : Int) = x % 4294967296 := by omega
 rw [e3];exact zaL (by omega) (by omega)
theorem parts32 {x : Int} (h1 : -4000000000 ≤ x) (h2 : x ≤ 4000000000) : (-1 ≤ x.tdiv 4294967296 ∧ x.tdiv 4294967296 ≤ 1) ∧ (-4294967296 ≤ x.tmod 4294967296 ∧ x.tmod 4294967296 ≤ 4294967296) ∧ x = x.tdiv 4294967296 * 4294967296 + x.tmod 4294967296 := by
 rcases Int.le_total 0 x with h | h
 ·rw [Int.tdiv_eq_ediv_of_nonneg h, Int.tmod_eq_emod_of_nonneg h]; omega
 ·obtain ⟨y, rfl⟩ : ∃ y, x = -y := ⟨-x, by omega⟩
  rw [Int.neg_tdiv, Int.neg_tmod, Int.tdiv_eq_ediv_of_nonneg (by omega), Int.tmod_eq_emod_of_nonneg (by omega)]; omega
theorem ref12_small_eq {n : Nat} {r : Row} {s : List Int} (ht : ∀ t ∈ r.terms, zhv s.length t) (hl : r.terms.length ≤ 1000) (hs : ziu s) (hb : -4000000000 ≤ r.bound ∧ r.bound ≤ 4000000000) (hn : 1000000 ≤ n) : zck n r s = some (decide (sumP s r.terms ≤ r.bound)) := by
 have := zbA (body := zck.l1 n r s) (len := r.terms.length) (st := fun (p : Int × Int) i => (p.1, p.2, (i : Int))) (g := fun _ _ => some (decide (sumP s r.terms ≤ r.bound))) (fun i p => p.1 * 4294967296 + p.2 + sumP s (r.terms.drop i) = sumP s r.terms ∧ (-(1000 * i : Int) ≤ p.1 ∧ p.1 ≤ 1000 * i) ∧ (-(4294967296000 * i : Int) ≤ p.2 ∧ p.2 ≤ 4294967296000 * i)) (fun rec i p hi hI hr => ?_) (fun rec p hI => ?_) n 0 (0, 0) (yp _) (by omega) ⟨by simp, by simp, by simp⟩
 ·simpa [zck] using this
 ·obtain ⟨a, b⟩ := p;obtain ⟨h1, h2, h3⟩ := hI;simp only [] at h1 h2 h3;obtain ⟨t1, t2, t3, t4⟩ := ht _ (yg hi);have hx := hs _ (getD_mem t1 t2);rw [zj hi, sumP] at h1;generalize hxv : s.getD r.terms[i].cell.toNat 0 = x at *;have hidx : idx s r.terms[i].cell = some x := by rw [zh1 t1 t2, hxv]
  have hq : quo64 x 4294967296 = some (x.tdiv 4294967296) := by
   unfold quo64;rw [if_neg (by decide)];have := (parts32 hx.1 hx.2).1;rw [zaL (by omega) (by omega)]
  have hr4 : rem64 x 4294967296 = some (x.tmod 4294967296) := by unfold rem64; rw [if_neg (by decide)]
  obtain ⟨hqb, hrb, hqr⟩ := parts32 hx.1 hx.2;generalize x.tdiv 4294967296 = q at *;generalize x.tmod 4294967296 = m at *;have m1 := mul_bd t3 t4 hqb.1 hqb.2;have m2 := mul_bd t3 t4 hrb.1 hrb.2;have hmul : r.terms[i].factor * x = r.terms[i].factor * q * 4294967296 + r.terms[i].factor * m := by
   rw [hqr, Int.mul_add, Int.mul_assoc]
  rw [hmul] at h1;have e1 : mul64 r.terms[i].factor q = r.terms[i].factor * q := by unfold mul64; exact zaL (by omega) (by omega)
  have e2 : mul64 r.terms[i].factor m = r.terms[i].factor * m := by unfold mul64; exact zaL (by omega) (by omega)
  have hlen : (i : Int) ≤ 1000 := by omega
  have e3 : add64 a (r.terms[i].factor * q) = a + r.terms[i].factor * q := by unfold add64; exact zaL (by omega) (by omega)
  have e4 : add64 b (r.terms[i].factor * m) = b + r.terms[i].factor * m := by unfold add64; exact zaL (by omega) (by omega)
  simp only [zck.l1, zh hi, if_true, za hi, ya, hidx, hq, hr4, e1, e2, e3, e4, zb (i := i) (by omega)];exact hr (a + r.terms[i].factor * q, b + r.terms[i].factor * m) ⟨by simp only []; omega, by simp only []; omega, by simp only []; omega⟩
 ·obtain ⟨a, b⟩ := p;obtain ⟨h1, h2, h3⟩ := hI;simp only [List.drop_length, sumP, Int.add_zero] at h1 h2 h3;have hlen : (r.terms.length : Int) ≤ 1000 := by omega
  have s1 : shrO .i64 b 32 = some (b / 4294967296) := by
   unfold shrO;rw [if_neg (by decide), Int.fdiv_eq_ediv_of_nonneg _ (by decide)];rfl
  have s2 : shrO .i64 r.bound 32 = some (r.bound / 4294967296) := by
   unfold shrO;rw [if_neg (by decide), Int.fdiv_eq_ediv_of_nonneg _ (by decide)];rfl
  have e3 : add64 a (b / 4294967296) = a + b / 4294967296 := by unfold add64; exact zaL (by omega) (by omega)
  simp only [zck.l1, zah, ye, if_false, s1, s2, ya, e3, band_low (x := b) (by omega) (by omega), band_low (x := r.bound) (by omega) (by omega), yi];rw [Bool.eq_iff_iff];simp only [yz, yb, yd, beq_iff_eq];omega
def anyR (p : Nat → Bool) (i : Nat) : Nat → Bool
 | 0 => false
 | k + 1 => p i || anyR p (i + 1) k
theorem anyR_mono {p q} : ∀ {k i : Nat}, (∀ j, i ≤ j → j < i + k → p j = true → q j = true) → anyR p i k = true → anyR q i k = true
 | 0, _, _, h => by simp [anyR] at h
 | k + 1, i, hpq, h => by
  simp only [anyR, yz] at h ⊢;rcases h with h | h
  ·exact .inl (hpq i (yn _) (by omega) h)
  ·exact .inr (anyR_mono (fun j h1 h2 => hpq j (by omega) (by omega)) h)
def neP (E : Nat → Nat → Bool) (size : Nat) : Nat → List Int → Nat → Nat → Bool
 | 0, _, first, last => E last first
 | d + 1, path, first, last => anyR (fun x => !(decide ((x : Int) ∈ path) || !E last x) && neP E size d (path ++ [(x : Int)]) first x) (first + 1) (size - (first + 1))
theorem neP_mono {E F size} (h : ∀ a b, a < size → b < size → E a b = true → F a b = true) : ∀ (d : Nat) (path : List Int) (first last : Nat), first < size → last < size → neP E size d path first last = true → neP F size d path first last = true
 | 0, _, first, last, h1, h2, he => h _ _ h2 h1 he
 | d + 1, path, first, last, h1, h2, he => by
  rw [neP] at he ⊢;refine anyR_mono (fun j hj hk hp => ?_) he;simp only [yb, yx, ua, Bool.not_eq_false'] at hp ⊢;exact ⟨⟨hp.1.1, h _ _ h2 (by omega) hp.1.2⟩, neP_mono h d _ first j h1 (by omega) hp.2⟩
def edgeP (s : List Int) (c : Constraint) (a b : Nat) : Bool := decide (1 ≤ s.getD (c.first + (a : Int) * c.size + (b : Int)).toNat 0)
structure GraphIn (c : Constraint) (s : List Int) (size : Nat) : Prop where
 sz : c.size = (size : Int)
 pos : 1 ≤ size
 six : size ≤ 6
 first : 0 ≤ c.first
 fits : c.first + (size * size : Nat) ≤ (s.length : Int)
 len : s.length ≤ 1000
theorem edge_eq {n c s size a b} (h : GraphIn c s size) (ha : a < size) (hb : b < size) : zdK n c s a b = some (edgeP s c a b) := by
 have h6 := h.six;have hm : a * size + b < size * size := by
  have := yM size (show a + 1 ≤ size by omega);rw [y9] at this; omega
 have hf := h.fits;have hl := h.len;have h0 := h.first
 have hc : (a : Int) * c.size = ((a * size : Nat) : Int) := by rw [h.sz, yK]
 unfold zdK edgeP;have e1 : mul64 (a : Int) c.size = ((a * size : Nat) : Int) := by unfold mul64; rw [hc]; exact zaL (by omega) (by omega)
 have e2 : add64 c.first ((a * size : Nat) : Int) = c.first + ((a * size : Nat) : Int) := by unfold add64; exact zaL (by omega) (by omega)
 have e3 : add64 (c.first + ((a * size : Nat) : Int)) (b : Int) = c.first + ((a * size : Nat) : Int) + (b : Int) := by unfold add64; exact zaL (by omega) (by omega)
 rw [e1, e2, e3, hc, zh1 (by omega) (by omega)];rfl
theorem ref12_has_eq {n l x} (hl : l.length < 1000000) (hn : 1000000 ≤ n) : zdv n l x = some (decide (x ∈ l)) := by
 have := zF (body := zdv.l1 n l x) (len := l.length) (st := fun i => (i : Int)) (g := fun i => some (decide (x ∈ l.drop i))) (fun rec i hi hr => ?_) (fun rec => ?_) n 0 (yp _) (by omega)
 ·simpa [zdv] using this
 ·simp only [zdv.l1, zh hi, if_true, za hi, ya, zb (i := i) (by omega), hr];rw [zj hi];by_cases h : l[i] = x
  ·rw [if_pos (by simpa using h)];simp only [yP, h, true_or, decide_true]
  ·have h' : ¬ x = l[i] := fun e => h e.symm
   rw [if_neg (by simpa using h)];simp only [yP, h', false_or]
 ·simp [zdv.l1]
theorem paths_eq {c s size} (hG : GraphIn c s size) : ∀ (d m : Nat) (path : List Int) (first last : Nat), d ≤ 6 → 1000000 + d < m → 1 ≤ path.length → path.length + d ≤ 10 → idx path 0 = some (first : Int) → idx path ((path.length - 1 : Nat) : Int) = some (last : Int) → first < size → last < size →
  ∃ L, zaH m c s path ((path.length + d : Nat) : Int) = some L ∧ (L ≠ [] ↔ neP (edgeP s c) size d path first last = true) ∧ L.length ≤ 6 ^ d ∧ ∀ p ∈ L, p ≠ []
 | d, 0, _, _, _, _, h, _, _, _, _, _, _ => by omega
 | 0, m + 1, path, first, last, _, hm, hp, hp2, h0, hl, hf, hla => by
  simp only [zaH, zaH.body];rw [ze6 (by omega) (by omega), hl, h0];simp only [ya, uo, beq_self_eq_true, if_true, edge_eq hG hla hf, neP];cases edgeP s c last first with
  | true => exact ⟨[path], rfl, by simp, by simp, fun p hp' => by simp only [yO] at hp'; subst hp'; intro e; rw [e] at hp; simp at hp⟩
  | false => exact ⟨[], rfl, by simp, by simp, fun p hp' => by simp at hp'⟩
 | d + 1, m + 1, path, first, last, hd6, hm, hp, hp2, h0, hl, hf, hla => by
  have h6 := hG.six;simp only [zaH, zaH.body];rw [ze6 (by omega) (by omega), hl, h0];simp only [ya];rw [if_neg (by simp; omega), zb (by omega), neP];have hpow : 1 ≤ 6 ^ d := uQ _ _ (by decide);have hpow2 : 6 ^ d ≤ 46656 := uk (uy (by decide) (show d ≤ 6 by omega)) (by decide);have main := zc9 (body := zaH.l1 m (zaH m) c s path ((path.length + (d + 1) : Nat) : Int) (last : Int)) (fun st => size - st.2.toNat) (fun st => ∃ i : Nat, st.2 = (i : Int) ∧ i ≤ size ∧ st.1.length ≤ i * 6 ^ d)
   (fun st o => ∃ L, o = some (st.1 ++ L) ∧ (L ≠ [] ↔ anyR (fun x => !(decide ((x : Int) ∈ path) || !edgeP s c last x) && neP (edgeP s c) size d (path ++ [(x : Int)]) first x) st.2.toNat (size - st.2.toNat) = true) ∧ L.length ≤ (size - st.2.toNat) * 6 ^ d ∧ ∀ p ∈ L, p ≠ []) (fun rec st hI hr => by
    obtain ⟨b, x⟩ := st;obtain ⟨i, rfl, hi, hb⟩ := hI;simp only [] at hb hr;simp only [zaH.l1, jn, yq];by_cases hlt : i < size
    ·have hsz : decide ((i : Int) < c.size) = true := by rw [hG.sz]; exact zcy hlt
     have hb2 : b.length ≤ 300000 := by
      have : i * 6 ^ d ≤ 6 * 46656 := yY (by omega) hpow2;omega
     simp only [hsz, if_true, ref12_has_eq (show path.length < 1000000 by omega) (show 1000000 ≤ m by omega), edge_eq hG hla hlt, ya, yj, yr, grd, yf, zb (i := i) (by omega)];rw [show size - i = (size - (i + 1)) + 1 by omega, anyR];have hnx : ∀ b' : List (List Int), b'.length ≤ (i + 1) * 6 ^ d → ∃ L, rec (b', ((i + 1 : Nat) : Int)) = some (b' ++ L) ∧ (L ≠ [] ↔ anyR (fun x => !(decide ((x : Int) ∈ path) || !edgeP s c last x) && neP (edgeP s c) size d (path ++ [(x : Int)]) first x) (i + 1) (size - (i + 1)) = true) ∧ L.length ≤ (size - (i + 1)) * 6 ^ d ∧ ∀ p ∈ L, p ≠ [] := fun b' hb' => by
      have := hr (b', ((i + 1 : Nat) : Int)) ⟨i + 1, rfl, by omega, hb'⟩ (by simp only [yq]; omega);simpa only [yq] using this
     by_cases hsk : (decide ((i : Int) ∈ path) || !edgeP s c last i) = true
     ·rw [if_pos hsk, hsk];obtain ⟨L, l1, l2, l3, l4⟩ := hnx b (by rw [y9]; omega);refine ⟨L, l1, by simpa using l2, by rw [y9]; omega, l4⟩
     ·rw [if_neg hsk];simp only [yF] at hsk;rw [hsk, zq (by simp; omega), ya, zq (by simp; omega), ya];simp only [yV];obtain ⟨L', p1, p2, p3, p4⟩ := paths_eq hG d m (path ++ [(i : Int)]) first i (by omega) (by omega) (by simp) (by simp; omega) (by
       obtain ⟨y, hy⟩ : ∃ y, y = path := ⟨_, rfl⟩
       cases path with
       | nil => simp at hp
       | cons z zs => simpa [idx] using h0) (by
       have : (path ++ [(i : Int)]).length - 1 = path.length := by simp
       rw [this, za (by simp)]; simp) hf hlt
      have e : ((path ++ [(i : Int)]).length + d : Nat) = path.length + (d + 1) := by simp; omega
      rw [e] at p1;rw [p1, ya, zq (by omega), ya];obtain ⟨L, l1, l2, l3, l4⟩ := hnx (b ++ L') (by rw [yI, y9]; omega);refine ⟨L' ++ L, by rw [l1, yJ], ?_, by rw [yI, y9]; omega, fun p hp' => ?_⟩
      ·simp only [uD, yD, yz, ← p2, ← l2, ne_eq, List.append_eq_nil_iff];constructor
       ·intro h;by_cases hx : L' = []
        ·exact .inr fun hy => h ⟨hx, hy⟩
        ·exact .inl hx
       ·rintro (h | h) ⟨h1, h2⟩
        ·exact h h1
        ·exact h h2
      ·rcases yG.1 hp' with h | h
       ·exact p4 p h
       ·exact l4 p h
    ·have hie : i = size := by omega
     have hsz : decide ((i : Int) < c.size) = false := by rw [hG.sz]; exact zb9 (by omega)
     simp only [hsz, ye, if_false];exact ⟨[], by simp, by simp [hie, anyR], by simp, fun p hp' => by simp at hp'⟩) m ([], ((first + 1 : Nat) : Int)) ⟨first + 1, rfl, by omega, by simp⟩ (by simp; omega)
  obtain ⟨L, l1, l2, l3, l4⟩ := main;simp only [yq, yV] at l1 l2 l3;refine ⟨L, l1, l2, ?_, l4⟩;rw [uK, Nat.mul_comm];exact uk l3 (yM _ (by omega))
def acycE (E : Nat → Nat → Bool) (size : Nat) : Bool := allR (fun len => allR (fun a => !neP E size (len - 1) [(a : Int)] a a) 0 size) 1 size
theorem ziF {E F size} (h : ∀ a b, a < size → b < size → E a b = true → F a b = true) (hF : acycE F size = true) : acycE E size = true := by
 unfold acycE at hF ⊢;rw [zjQ] at hF ⊢;intro len h1 h2;have := hF len h1 h2;rw [zja] at this ⊢;intro a ha;have hn := this a ha;cases hx : neP E size (len - 1) [(a : Int)] a a with
 | false => rfl
 | true => rw [neP_mono h _ _ _ _ ha ha hx] at hn; exact hn
theorem Cycle_eq {n c s size} (hk : c.kind = 1) (hG : GraphIn c s size) (hn : 4294967296 ≤ n) : ∃ l, zba n c s = some l ∧ ((l.length : Int) == 0) = acycE (edgeP s c) size := by
 have h6 := hG.six;have hpos := hG.pos;have hfits := hG.fits;have hlen := hG.len;have h0 := hG.first
 have hsq : ((size * size : Nat) : Int) = (size : Int) * (size : Int) := yK _ _;have hin : zaz n c (s.length : Int) = some true := by
  unfold zaz;have e1 : mul64 c.size c.size = ((size * size : Nat) : Int) := by
   unfold mul64;have : size * size ≤ 6 * 6 := yY h6 h6;rw [hG.sz, ← hsq]; exact zaL (by omega) (by omega)
  have e2 : sub64 (s.length : Int) ((size * size : Nat) : Int) = (s.length : Int) - ((size * size : Nat) : Int) := by
   have : size * size ≤ 6 * 6 := yY h6 h6;unfold sub64; exact zaL (by omega) (by omega)
  rw [if_pos (by simp [hk]), e1, e2, hG.sz];simp only [yi, yb, yd];omega
 unfold zba;rw [hin];simp only [hk, uR, yj, yr, grd, if_true, yf, y8, uO, ye, if_false];have inner : ∀ (len : Nat), 1 ≤ len → len ≤ 6 → ∀ rec : Int → Option (List Int), (∃ l, loopF (zba.l2 n c s (len : Int) rec) n 0 = some l ∧ l ≠ [] ∧ allR (fun a => !neP (edgeP s c) size (len - 1) [(a : Int)] a a) 0 size = false) ∨ (loopF (zba.l2 n c s (len : Int) rec) n 0 = rec ((len + 1 : Nat) : Int) ∧ allR (fun a => !neP (edgeP s c) size (len - 1) [(a : Int)] a a) 0 size = true) := fun len hl1 hl6 rec => by
  have := zc9 (body := zba.l2 n c s (len : Int) rec) (fun st => size - st.toNat) (fun st => ∃ i : Nat, st = (i : Int) ∧ i ≤ size) (fun st o => (∃ l, o = some l ∧ l ≠ [] ∧ allR (fun a => !neP (edgeP s c) size (len - 1) [(a : Int)] a a) st.toNat (size - st.toNat) = false) ∨ (o = rec ((len + 1 : Nat) : Int) ∧ allR (fun a => !neP (edgeP s c) size (len - 1) [(a : Int)] a a) st.toNat (size - st.toNat) = true)) (fun rec' st hI hr => by
   obtain ⟨i, rfl, hi⟩ := hI;simp only [zba.l2, yq];by_cases hlt : i < size
   ·have hsz : decide ((i : Int) < c.size) = true := by rw [hG.sz]; exact zcy hlt
    obtain ⟨L, p1, p2, p3, p4⟩ := paths_eq hG (len - 1) n [(i : Int)] i i (by omega) (by omega) (by simp) (by simp; omega) (by simp [idx]) (by simp [idx]) hlt hlt;have e : ([(i : Int)].length + (len - 1) : Nat) = len := by simp; omega
    rw [e] at p1;simp only [hsz, if_true, p1, ya, zb (i := i) (by omega)];rw [show size - i = (size - (i + 1)) + 1 by omega, allR];by_cases hL : L = []
    ·subst hL;rw [if_neg (by simp)];have hne : neP (edgeP s c) size (len - 1) [(i : Int)] i i = false := by
      cases hx : neP (edgeP s c) size (len - 1) [(i : Int)] i i with
      | false => rfl
      | true => exact absurd rfl (p2.2 hx)
     rw [hne];have := hr ((i + 1 : Nat) : Int) ⟨i + 1, rfl, by omega⟩ (by simp only [yq]; omega);simpa using this
    ·have hpl : 0 < L.length := List.length_pos_iff.2 hL;rw [if_pos (by simpa using hpl)];have hne := p2.1 hL;rw [hne];have hx : idx L 0 = some L[0] := za (l := L) (i := 0) hpl;rw [hx];exact .inl ⟨L[0], rfl, p4 _ (yg hpl), by simp⟩
   ·have hie : i = size := by omega
    have hsz : decide ((i : Int) < c.size) = false := by rw [hG.sz]; exact zb9 (by omega)
    simp only [hsz, ye, if_false, zb (i := len) (by omega)];exact .inr ⟨trivial, by simp [hie, allR]⟩) n 0 ⟨0, rfl, by omega⟩ (by simp; omega)
  simpa using this
 have := zc9 (body := zba.l1 n c s) (fun st => size + 1 - st.toNat) (fun st => ∃ i : Nat, st = (i : Int) ∧ 1 ≤ i ∧ i ≤ size + 1) (fun st o => ∃ l, o = some l ∧ ((l.length : Int) == 0) = allR (fun len => allR (fun a => !neP (edgeP s c) size (len - 1) [(a : Int)] a a) 0 size) st.toNat (size + 1 - st.toNat)) (fun rec st hI hr => by
  obtain ⟨i, rfl, hi1, hi⟩ := hI;simp only [zba.l1, yq];by_cases hlt : i ≤ size
  ·have hsz : decide ((i : Int) ≤ c.size) = true := by rw [hG.sz]; simpa using hlt
   rw [hsz, if_pos rfl, show size + 1 - i = (size + 1 - (i + 1)) + 1 by omega, allR];rcases inner i hi1 (by omega) rec with ⟨l, q1, q2, q3⟩ | ⟨q1, q2⟩
   ·rw [q1, q3];exact ⟨l, rfl, by simpa using q2⟩
   ·rw [q1, q2];have := hr ((i + 1 : Nat) : Int) ⟨i + 1, rfl, by omega, by omega⟩ (by simp only [yq]; omega);simpa using this
  ·have hie : i = size + 1 := by omega
   have hsz : decide ((i : Int) ≤ c.size) = false := by rw [hG.sz]; simp; omega
   rw [hsz, if_neg (by simp)];exact ⟨[], rfl, by simp [hie, allR]⟩) n 1 ⟨1, rfl, by omega, by omega⟩ (by simp; omega)
 simpa [acycE] using this
inductive ConIn (c : Constraint) (k : Nat) : Prop
 | row : c.kind = 0 → (∀ t ∈ c.row.terms, zhv k t) → c.row.terms.length ≤ 1000 → (-4000000000 ≤ c.row.bound ∧ c.row.bound ≤ 4000000000) → ConIn c k
 | graph (size : Nat) : c.kind = 1 → c.size = (size : Int) → 1 ≤ size → size ≤ 6 → 0 ≤ c.first → c.first + (size * size : Nat) ≤ (k : Int) → ConIn c k
def zQ (c : Constraint) (s : List Int) : Bool := if c.kind = 1 then acycE (edgeP s c) c.size.toNat else decide (sumP s c.row.terms ≤ c.row.bound)
theorem zhS {n c s} (hC : ConIn c s.length) (hs : ziu s) (hl : s.length ≤ 1000) (hn : 4294967296 ≤ n) : zaX n c s = some (zQ c s) := by
 unfold zaX zhN zQ;cases hC with
 | row hk ht htl hb =>
  have hin : zaz n c (s.length : Int) = some true := by
   unfold zaz;rw [if_neg (by simp [hk])];have := zF (body := zaz.l1 n c (s.length : Int)) (len := c.row.terms.length) (st := fun i => (i : Int)) (g := fun _ => some true) (fun rec i hi hr => ?_) (fun rec => ?_) n 0 (yp _) (by omega)
   ·simpa using this
   ·obtain ⟨t1, t2, -⟩ := ht _ (yg hi);have h1 : decide (c.row.terms[i].cell < 0) = false := by simp; omega
    have h2 : decide ((s.length : Int) ≤ c.row.terms[i].cell) = false := by simp; omega
    simp only [zaz.l1, zh hi, if_true, za hi, ya, yj, yr, grd, yf, h1, h2, uO, ye, if_false, zb (i := i) (by omega), hr]
   ·simp [zaz.l1, hk]
  have hk1 : ¬ c.kind = 1 := by omega
  rw [hin, ya, if_neg (by simp), if_neg (by simp [hk]), ref12_small_eq ht htl hs hb (by omega), if_neg hk1];rfl
 | graph size hk hsz h1 h6 h0 hf =>
  have hG : GraphIn c s size := ⟨hsz, h1, h6, h0, hf, hl⟩
  obtain ⟨l, hc1, hc2⟩ := Cycle_eq hk hG hn;have hin : zaz n c (s.length : Int) = some true := by
   have hsq : ((size * size : Nat) : Int) = (size : Int) * (size : Int) := yK _ _;have : size * size ≤ 6 * 6 := yY h6 h6;unfold zaz;have e1 : mul64 c.size c.size = ((size * size : Nat) : Int) := by unfold mul64; rw [hsz, ← hsq]; exact zaL (by omega) (by omega)
   have e2 : sub64 (s.length : Int) ((size * size : Nat) : Int) = (s.length : Int) - ((size * size : Nat) : Int) := by unfold sub64; exact zaL (by omega) (by omega)
   rw [if_pos (by simp [hk]), e1, e2, hsz];simp only [yi, yb, yd];omega
  rw [hin, ya, if_neg (by simp), if_pos (by simp [hk]), hc1, if_pos hk, hsz];simp only [ya, hc2, yq]
theorem range_snoc {β : Type} (g : Nat → List β) (k : Nat) : (List.range (k + 1)).flatMap g = (List.range k).flatMap g ++ g k := by
 rw [uz, List.flatMap_append]; simp
def boxM (m : Model) : List Range := zJ m.sorts true m.tables
theorem zhM {sizes s} : ∀ {l : List Table} {r : Range}, r ∈ zJ sizes s l → ∃ t ∈ l, r = t.range
 | [], r, h => by simp [zJ] at h
 | t :: l, r, h => by
  rw [zJ] at h;split at h
  ·rcases yG.1 h with h | h
   ·exact ⟨t, by simp, (List.mem_replicate.1 h).2⟩
   ·obtain ⟨u, hu, e⟩ := zhM h;exact ⟨u, by simp [hu], e⟩
  ·obtain ⟨u, hu, e⟩ := zhM h;exact ⟨u, by simp [hu], e⟩
theorem zjS {m} (hL : zbh m.sorts m.tables = true) : goodB (boxM m) = true := by
 unfold goodB;rw [ym];intro r hr;obtain ⟨t, ht, rfl⟩ := zhM hr;have hL' := hL;simp only [zbh, yb] at hL';have := zh5 hL'.2 t ht;simp only [tabP, yb] at this;have hrg := this.2;unfold zgD at hrg;split at hrg
 ·simp only [yb, yd] at hrg ⊢;omega
 ·simp only [yd] at hrg;rw [hrg]; decide
theorem lay_fit {sizes} (hs : sizes.all zcq = true) : ∀ {l : List Table} {seen : List (List UInt8)} {a b : Int}, layP sizes seen a b l = true → 0 ≤ a → a + 216 * (l.length : Int) ≤ 1000000 → ∀ t ∈ l, zbx t.kind = true → a ≤ t.first ∧ t.first + zag sizes t.columns 1 ≤ a + ((zJ sizes true l).length : Int)
 | [], _, _, _, _, _, _, t, ht, _ => by simp at ht
 | x :: l, seen, a, b, h, ha, hb, t, ht, hst => by
  have htab := zh5 h x (by simp);simp only [tabP, yb, yd] at htab;have hw := zgM hs htab.1.2.2 htab.1.2.1;simp only [layP, yb] at h;have h2 := h.2;simp only [yQ] at hb;have hcast : ((l.length + 1 : Nat) : Int) = (l.length : Int) + 1 := by omega
  rw [hcast] at hb;by_cases hx : zbx x.kind = true
  ·rw [if_pos hx] at h2;simp only [yb, beq_iff_eq] at h2;have hadd : add64 a (zag sizes x.columns 1) = a + zag sizes x.columns 1 := by unfold add64; exact zaL (by omega) (by omega)
   rw [hadd] at h2;have hlen : ((zJ sizes true (x :: l)).length : Int) = zag sizes x.columns 1 + ((zJ sizes true l).length : Int) := by
    rw [zJ, hx, if_pos (by rfl), yI, um]; omega
   rw [hlen];rcases yP.1 ht with rfl | ht
   ·omega
   ·have := lay_fit hs h2.2 (by omega) (by omega) t ht hst;omega
  ·rw [if_neg hx] at h2;simp only [yb, beq_iff_eq] at h2;have hx' : zbx x.kind = false := by simpa using hx
   have hlen : (zJ sizes true (x :: l)) = zJ sizes true l := by
    rw [zJ, hx', if_neg (by decide)]
   rw [hlen];rcases yP.1 ht with rfl | ht
   ·rw [hst] at hx'; cases hx'
   ·exact lay_fit hs h2.2 ha (by omega) t ht hst
theorem zei {K} : ∀ {l : List Term} {last : Int}, rowP K last l = true → -1 ≤ last → ∀ t ∈ l, zhv K t
 | [], _, _, _, t, ht => by simp at ht
 | x :: l, last, h, hl, t, ht => by
  simp only [rowP, zau, yb, yd] at h;rcases yP.1 ht with rfl | ht
  ·exact ⟨by omega, h.1.1.1.2, by omega, by omega⟩
  ·exact zei h.2 (by omega) t ht
theorem row_in {K r} (h : rowOK K r = true) (hl : r.terms.length ≤ 1000) : ConIn ⟨0, 0, r, 0, 0⟩ K := by
 simp only [rowOK, zau, yb, yd] at h;exact .row rfl (zei h.1 (by decide)) hl (by simp only []; omega)
theorem con_in {m} (hS : SmallM m) (hV : ValidM m) {c} (hc : c ∈ m.constraints) : ConIn c (boxM m).length := by
 have hl := hS.con c hc;rcases valid_con hV hc with h | h
 ·simp only [zd8, yb, beq_iff_eq] at h;have h2 := h.2;simp only [rowOK, zau, yb, yd] at h2;exact .row h.1.1.1 (zei h2.1 (by decide)) (by omega) (by omega)
 ·obtain ⟨l1, l2, l3, l4⟩ := zbv hV.lay;obtain ⟨hk, s1, s2⟩ := acy_size hV h;have hL := hV.lay;simp only [zbh, yb] at hL;simp only [acyP, zhd, yb, uu, beq_iff_eq] at h;obtain ⟨-, -, t, ht, hg⟩ := h;simp only [zh3, yb, beq_iff_eq] at hg;obtain ⟨⟨g1, g2⟩, ⟨g3, g4⟩, g5⟩ := hg;have hfit := lay_fit l3 hL.2 (Int.le_refl _) (by omega) t ht (by simp [zbx, g1]);have hcols := (l4 t ht).2.2.2.1;obtain ⟨⟨x, hx⟩, ⟨y, hy⟩, -⟩ := zgS hcols g2;obtain ⟨p, q, hpq⟩ : ∃ p q, t.columns = [p, q] := by
   match hcs : t.columns with
   | [] => rw [hcs] at g2; simp at g2
   | [_] => rw [hcs] at g2; simp at g2
   | [p, q] => exact ⟨p, q, rfl⟩
   | _ :: _ :: _ :: _ => rw [hcs] at g2; simp at g2; omega
  have hp0 : idx t.columns 0 = some p := by rw [hpq]; rfl
  have hq0 : idx t.columns 1 = some q := by rw [hpq]; rfl
  rw [hp0, hq0] at g3;rw [hp0] at g5;simp only [yf] at g3 g5;subst g3;have hcp := ym.1 hcols p (by rw [hpq]; simp);rw [zfK hcp] at g5;simp only [yf] at g5;have hw : zag m.sorts t.columns 1 = c.size * c.size := by
   rw [hpq];simp only [zag, g5];have : c.size * c.size ≤ 6 * 6 := Int.mul_le_mul s2 s2 (by omega) (by omega);have h0 : 0 ≤ c.size * c.size := Int.mul_nonneg (by omega) (by omega);unfold mul64;rw [Int.one_mul, zaL (x := c.size) (by omega) (by omega), zaL (by omega) (by omega)]
  rw [hw] at hfit;have hsz : c.size = ((c.size.toNat : Nat) : Int) := by omega
  refine .graph c.size.toNat hk hsz (by omega) (by omega) (by omega) ?_;have e : ((c.size.toNat * c.size.toNat : Nat) : Int) = c.size * c.size := by rw [yK, ← hsz]
  rw [e];unfold boxM;omega
def plusP (s : List Int) (d : List Change) : List Int := (List.range s.length).map fun i => s.getD i 0 + zr d (i : Int)
theorem zec (s d) : (plusP s d).length = s.length := by simp [plusP]
theorem zgU {s d c} (h0 : 0 ≤ c) (h1 : c < (s.length : Int)) : (plusP s d).getD c.toNat 0 = s.getD c.toNat 0 + zr d c := by
 obtain ⟨k, rfl⟩ := yW h0;have hk : k < s.length := by omega
 simp [plusP, List.getD, hk]
def zeC (d : List Change) : Prop := ∀ x ∈ d, -1000000000 ≤ x.add ∧ x.add ≤ 1000000000
theorem zbX {d} (h : zeC d) (c) : -1000000000 ≤ zr d c ∧ zr d c ≤ 1000000000 := by
 induction d with
 | nil => simp [zr]
 | cons x l ih =>
  simp only [zr];split
  ·exact h x (by simp)
  ·exact ih fun y hy => h y (by simp [hy])
theorem zfo {s d B} (hs : ∀ x ∈ s, -B ≤ x ∧ x ≤ B) (hd : zeC d) : ∀ x ∈ plusP s d, -(B + 1000000000) ≤ x ∧ x ≤ B + 1000000000 := by
 intro x hx;simp only [plusP, yU, yL] at hx;obtain ⟨i, hi, rfl⟩ := hx;have h1 := hs s[i] (yg hi);have h2 := zbX hd (i : Int);have : s.getD i 0 = s[i] := by simp [List.getD, hi]
 omega
theorem Plus_eq {n e s} (h1 : e.delta.length < 4611686018427387904) (h2 : e.delta.length < n) (ha : ∀ k, addP k e.delta 0 = zr e.delta k) (hd : zeC e.delta) (hs : ziu s) (hl : s.length ≤ 1000) (hn : 1000000 ≤ n) : zbR n s e = some (plusP s e.delta) := by
 unfold zbR;have := zF (body := zbR.l1 n s e) (len := s.length) (st := fun i => ((plusP s e.delta).take i, (i : Int))) (g := fun _ => some (plusP s e.delta)) (fun rec i hi hr => ?_) (fun rec => ?_) n 0 (yp _) (by omega)
 ·simpa using this
 ·have hip : i < (plusP s e.delta).length := by rw [zec]; exact hi
  rw [yy hip] at hr;have hel : (plusP s e.delta)[i] = s[i] + zr e.delta (i : Int) := by simp [plusP, List.getD, hi]
  have hb := hs _ (yg hi);have hd' := zbX hd (i : Int);have hadd : add64 s[i] (zr e.delta (i : Int)) = s[i] + zr e.delta (i : Int) := by unfold add64; exact zaL (by omega) (by omega)
  simp only [zbR.l1, zh hi, if_true, za hi, ya, zjt _ h1 h2, ha, hadd, zb (i := i) (by omega)];rw [zq (by simp; omega), ya, ← hel];exact hr
 ·simp only [zbR.l1, zah, ye, if_false];rw [List.take_of_length_le (by rw [zec]; exact yn _)]
def chgP (d : List Change) : List Term → Int
 | [] => 0
 | t :: l => t.factor * zr d t.cell + chgP d l
theorem zfY {s d} : ∀ {l : List Term}, (∀ t ∈ l, zhv s.length t) → sumP (plusP s d) l = sumP s l + chgP d l
 | [], _ => rfl
 | t :: l, h => by
  obtain ⟨t1, t2, -⟩ := h t (by simp);have ih := zfY (s := s) (d := d) (l := l) fun x hx => h x (by simp [hx])
  simp only [sumP, chgP, zgU t1 t2, ih, Int.mul_add];omega
set_option maxRecDepth 20000 in
theorem zjh {d} (hd : zeC d) : ∀ {l : List Term} {s : Int}, (∀ t ∈ l, -1000 ≤ t.factor ∧ t.factor ≤ 1000) → (l.length : Int) ≤ 1000 → -(1000000000000 * (1000 - (l.length : Int))) ≤ s ∧ s ≤ 1000000000000 * (1000 - (l.length : Int)) → zdF (zr d) l s = s + chgP d l
 | [], s, _, _, _ => by simp [zdF, chgP]
 | t :: l, s, ht, hl, hs => by
  have hf := ht t (by simp);have ha := zbX hd t.cell;have hm := mul_bd hf.1 hf.2 ha.1 ha.2;simp only [yQ] at hl hs;have hc : ((l.length + 1 : Nat) : Int) = (l.length : Int) + 1 := by omega
  rw [hc] at hl hs;have e1 : mul64 t.factor (zr d t.cell) = t.factor * zr d t.cell := by unfold mul64; exact zaL (by omega) (by omega)
  have e2 : add64 s (t.factor * zr d t.cell) = s + t.factor * zr d t.cell := by unfold add64; exact zaL (by omega) (by omega)
  rw [zdF, e1, e2, zjh hd (fun x hx => ht x (by simp [hx])) (by omega) (by omega), chgP];omega
theorem zj8 {d} (hd : zeC d) {l} (ht : ∀ t ∈ l, -1000 ≤ t.factor ∧ t.factor ≤ 1000) (hl : l.length ≤ 1000) : zdF (zr d) l 0 = chgP d l := by
 rw [zjh hd ht (by omega) (by omega)]; omega
theorem zhn {n m t} (hc : t.columns.all (colOK m.sorts) = true) (hl : t.columns.length ≤ 1000) (hn : 1000000 ≤ n) : zb1 n m t = some (zag m.sorts t.columns 1) := by
 have := zF (body := zb1.l1 n m t) (len := t.columns.length) (st := fun i => (zag m.sorts (t.columns.take i) 1, (i : Int))) (g := fun _ => some (zag m.sorts t.columns 1)) (fun rec i hi hr => ?_) (fun rec => ?_) n 0 (yp _) (by omega)
 ·simpa [zb1, zag] using this
 ·rw [yy hi, zdA] at hr;simp only [zag] at hr;simp only [zb1.l1, zh hi, if_true, za hi, ya, zfK (ym.1 hc _ (yg hi)), zb (i := i) (by omega), hr]
 ·simp [zb1.l1]
theorem ref22_Box_eq {n m} (hS : SmallM m) (hL : zbh m.sorts m.tables = true) (hn : 1000000 ≤ n) : zbV n m = some (boxM m) := by
 obtain ⟨l1, l2, l3, l4⟩ := zbv hL;unfold zbV;have := zF (body := zbV.l1 n m) (len := m.tables.length) (st := fun i => (zJ m.sorts true (m.tables.take i), (i : Int))) (g := fun _ => some (boxM m)) (fun rec i hi hr => ?_) (fun rec => ?_) n 0 (yp _) (by omega)
 ·simpa [zJ] using this
 ·obtain ⟨-, -, c1, c2, c3, c4⟩ := l4 _ (yg hi);have hlen := zcF (sizes := m.sorts) (s := true) (l := m.tables.take i) fun x hx => (l4 x (List.mem_of_mem_take hx)).2.2.2.2
  simp only [yR] at hlen;rw [zeO hi] at hr;obtain ⟨W, hW⟩ := yW (show 0 ≤ zag m.sorts m.tables[i].columns 1 by omega);have hcell := zhn (n := n) (m := m) (t := m.tables[i]) c2 (by omega) hn;rw [hW] at hcell hr;simp only [zbV.l1, jn, zh hi, if_true, za hi, ya, zdV, zb (i := i) (by omega)];by_cases hst : (m.tables[i].kind == 0 || m.tables[i].kind == 1) = true
  ·have hst' : (zbx m.tables[i].kind == true) = true := by simpa [zbx] using hst
   rw [if_pos hst'] at hr;rw [if_pos hst];have inner := zF (body := zbV.l2 n m (i : Int) (fun v => rec (v, ((i + 1 : Nat) : Int)))) (len := W) (st := fun k => (zJ m.sorts true (m.tables.take i) ++ List.replicate k m.tables[i].range, (k : Int))) (g := fun _ => some (boxM m)) (fun rec' k hk hr' => ?_) (fun rec' => ?_) n 0 (yp _) (by omega)
   ·simpa using inner
   ·simp only [zbV.l2, za hi, ya, hcell, zcy hk, if_true, zb (i := k) (by omega)];rw [zq (by simp only [yI, um, uF]; omega), ya, yJ, ← List.replicate_succ', hr']
   ·simp only [zbV.l2, za hi, ya, hcell, zb9 (yn W), ye, if_false];simpa using hr
  ·have hst' : ¬ (zbx m.tables[i].kind == true) = true := by simpa [zbx] using hst
   rw [if_neg hst'] at hr;rw [if_neg hst];exact hr
 ·simp [zbV.l1, boxM]
theorem ref16_Total_eq {n m} (hL : zbh m.sorts m.tables = true) (hn : 1000000 ≤ n) : zcl n m = some ((boxM m).length : Int) := by
 obtain ⟨l1, l2, l3, l4⟩ := zbv hL;unfold zcl;have := zF (body := zcl.l1 n m) (len := m.tables.length) (st := fun i => (((zJ m.sorts true (m.tables.take i)).length : Int), (i : Int))) (g := fun _ => some ((boxM m).length : Int)) (fun rec i hi hr => ?_) (fun rec => ?_) n 0 (yp _) (by omega)
 ·simpa [zJ] using this
 ·obtain ⟨-, -, c1, c2, c3, c4⟩ := l4 _ (yg hi);have hlen := zcF (sizes := m.sorts) (s := true) (l := m.tables.take i) fun x hx => (l4 x (List.mem_of_mem_take hx)).2.2.2.2
  simp only [yR] at hlen;rw [zeO hi] at hr;have hcell := zhn (n := n) (m := m) (t := m.tables[i]) c2 (by omega) hn;simp only [zcl.l1, jn, zh hi, if_true, za hi, ya, zdV, hcell, zb (i := i) (by omega)];by_cases hst : (m.tables[i].kind == 0 || m.tables[i].kind == 1) = true
  ·have hst' : (zbx m.tables[i].kind == true) = true := by simpa [zbx] using hst
   rw [if_pos hst'] at hr;rw [if_pos hst];have e : add64 ((zJ m.sorts true (m.tables.take i)).length : Int) (zag m.sorts m.tables[i].columns 1) = ((zJ m.sorts true (m.tables.take i) ++ List.replicate (zag m.sorts m.tables[i].columns 1).toNat m.tables[i].range).length : Int) := by
    unfold add64;rw [zaL (by omega) (by omega), yI, um]; omega
   rw [e]; exact hr
  ·have hst' : ¬ (zbx m.tables[i].kind == true) = true := by simpa [zbx] using hst
   rw [if_neg hst'] at hr;rw [if_neg hst];exact hr
 ·simp [zcl.l1, boxM]
def possP (m : Model) (e : Effect) (s : List Int) : Bool := m.constraints.all (fun c => zQ c s && zQ c (plusP s e.delta)) && e.hold.all fun r => zQ ⟨0, 0, r, 0, 0⟩ s
structure StateOK (m : Model) (s : List Int) : Prop where
 len : s.length = (boxM m).length
 small : ∀ x ∈ s, -9999 ≤ x ∧ x ≤ 9999
theorem state_ok {m} (hL : zbh m.sorts m.tables = true) {s} (h : inBox (boxM m) s = true) : StateOK m s := by
 have hlen := zeo h;refine ⟨hlen, fun x hx => ?_⟩;obtain ⟨i, hi, rfl⟩ := List.mem_iff_getElem.1 hx;have hb : i < (boxM m).length := by omega
 have h1 := zfh h i hb hi;have h2 := ym.1 (zjS hL) _ (yg hb);simp only [yb, yd] at h2;omega
theorem zjW {m} (hV : ValidM m) {a} (ha : a ∈ m.actions) : zeC a.effect.delta ∧ ∀ r ∈ a.effect.hold, rowOK (boxM m).length r = true := by
 have h := (valid_act hV ha).1;simp only [effP, yb, ym] at h;obtain ⟨p1, -⟩ := zhD _ _ h.1;exact ⟨fun x hx => by have := p1 x hx; omega, h.2.2.2⟩
theorem zjV {n m a s} (hS : SmallM m) (hV : ValidM m) (ha : a ∈ m.actions) (hs : StateOK m s) (hK : (boxM m).length ≤ 1000) (hn : 4294967296 ≤ n) : zR n m a.effect s = some (possP m a.effect s) := by
 have hG := zfJ hn hS hV;obtain ⟨g1, g2, g3, -⟩ := hG.acts a ha;obtain ⟨hd, hh⟩ := zjW hV ha;obtain ⟨a1, a2, a3, a4, a5⟩ := hS.act a ha;have hcl := hS.constraints;have hsl := hs.len;have hss : ziu s := fun x hx => by have := hs.small x hx; omega
 have hps : ziu (plusP s a.effect.delta) := fun x hx => by have := zfo hs.small hd x hx; omega
 have hpl := zec s a.effect.delta;unfold zR possP;rw [Plus_eq g1 g2 g3 hd hss (by omega) (by omega), ya];have T : loopF (zR.l2 n a.effect s) n 0 = if (a.effect.hold.all fun r => zQ ⟨0, 0, r, 0, 0⟩ s) = true then some true else some false := by
  have := zaf (body := zR.l2 n a.effect s) (l := a.effect.hold) (n := n) (st := fun i => (i : Int)) (fun r => zQ ⟨0, 0, r, 0, 0⟩ s) (some false) (some true) (fun rec i hi => ?_) (fun rec => ?_) (by omega)
  ·simpa using this
  ·have hr := hh _ (yg hi);have htl := a5 _ (yg hi);have hci := row_in hr (by omega);rw [← hsl] at hci;have hrow : zeB n a.effect.hold[i] s = some (zQ ⟨0, 0, a.effect.hold[i], 0, 0⟩ s) := by
    unfold zeB;rw [zhS hci hss (by omega) hn]; rfl
   simp only [zR.l2, zh hi, if_true, za hi, ya, hrow, zb (i := i) (by omega)];cases zQ ⟨0, 0, a.effect.hold[i], 0, 0⟩ s <;> simp
  ·simp [zR.l2]
 have := zaf (body := zR.l1 n m a.effect s (plusP s a.effect.delta)) (l := m.constraints) (n := n) (st := fun i => (i : Int)) (fun c => zQ c s && zQ c (plusP s a.effect.delta)) (some false) (loopF (zR.l2 n a.effect s) n 0) (fun rec i hi => ?_) (fun rec => ?_) (by omega)
 ·simp only [Int.natCast_zero] at this;rw [this, T];cases (m.constraints.all fun c => zQ c s && zQ c (plusP s a.effect.delta)) <;> cases (a.effect.hold.all fun r => zQ ⟨0, 0, r, 0, 0⟩ s) <;> rfl
 ·have hci := con_in hS hV (yg hi);have h1 : zaX n m.constraints[i] s = some (zQ m.constraints[i] s) := zhS (by rw [hsl]; exact hci) hss (by omega) hn;have h2 : zaX n m.constraints[i] (plusP s a.effect.delta) = some (zQ m.constraints[i] (plusP s a.effect.delta)) := zhS (by rw [hpl, hsl]; exact hci) hps (by omega) hn;simp only [zR.l1, zh hi, if_true, za hi, ya, h1, h2, yj, yr, grd, yf, zb (i := i) (by omega)];cases zQ m.constraints[i] s <;> cases zQ m.constraints[i] (plusP s a.effect.delta) <;> simp
 ·simp [zR.l1]
theorem graph_keeps {c s d size} (hk : c.kind = 1) (hG : GraphIn c s size) (hch : ∀ k : Nat, k < size * size → zr d (c.first + (k : Int)) ≤ 0) (h : zQ c s = true) : zQ c (plusP s d) = true := by
 unfold zQ at h ⊢;rw [if_pos hk] at h ⊢;have hsz : c.size.toNat = size := by have := hG.sz; omega
 rw [hsz] at h ⊢;refine ziF (fun a b ha hb he => ?_) h;have hm : a * size + b < size * size := by
  have := yM size (show a + 1 ≤ size by omega);rw [y9] at this; omega
 have hf := hG.fits;have h0 := hG.first
 have hc : (a : Int) * c.size = ((a * size : Nat) : Int) := by rw [hG.sz, yK]
 unfold edgeP at he ⊢;rw [hc] at he ⊢;rw [zgU (by omega) (by omega)] at he;have := hch (a * size + b) hm;have e : c.first + ((a * size + b : Nat) : Int) = c.first + ((a * size : Nat) : Int) + (b : Int) := by omega
 rw [e] at this;simp only [yd] at he ⊢;omega
theorem raised_nil {p} : ∀ {k i : Nat}, ¬ 0 < (zcv p i k).length → ∀ j, i ≤ j → j < i + k → p (j : Int) = false
 | 0, i, _, j, h1, h2 => by omega
 | k + 1, i, h, j, h1, h2 => by
  rw [zcv] at h;by_cases hp : p (i : Int) = true
  ·rw [if_pos hp] at h; simp at h
  ·rw [if_neg hp] at h;by_cases e : j = i
   ·subst e; simpa using hp
   ·exact raised_nil h j (by omega) (by omega)
theorem countB_few : ∀ {l : List Range} {p : Int}, goodB l = true → 1 ≤ p → p ≤ 4096 → prodP p l = true → p * (zde l : Nat) ≤ 4096
 | [], p, _, _, h, _ => by simp [zde]; exact h
 | r :: l, p, hg, h1, h2, hp => by
  simp only [goodB, ub, yb, yd] at hg;obtain ⟨⟨g1, g2, g3⟩, g4⟩ := hg;simp only [prodP, yb, yx, yC] at hp;have e1 : sub64 r.hi r.lo = r.hi - r.lo := by unfold sub64; exact zaL (by omega) (by omega)
  have e2 : add64 (r.hi - r.lo) 1 = r.hi - r.lo + 1 := by unfold add64; exact zaL (by omega) (by omega)
  rw [e1, e2] at hp;have hw1 : 1 ≤ r.hi - r.lo + 1 := by omega
  have hw2 : r.hi - r.lo + 1 ≤ 19999 := by omega
  have hlo : 1 * 1 ≤ p * (r.hi - r.lo + 1) := Int.mul_le_mul h1 hw1 (by omega) (by omega);have hhi : p * (r.hi - r.lo + 1) ≤ 4096 * 19999 := Int.mul_le_mul h2 hw2 (by omega) (by omega);have e3 : mul64 p (r.hi - r.lo + 1) = p * (r.hi - r.lo + 1) := by unfold mul64; exact zaL (by omega) (by omega)
  rw [e3] at hp;have ih := countB_few (l := l) (p := p * (r.hi - r.lo + 1)) (by simpa only [goodB] using g4) (by omega) (by omega) hp.2;simp only [zde];rw [yK, Int.toNat_of_nonneg (by omega), ← Int.mul_assoc];exact ih
theorem zcD {γ S R : Type} {body : (S → Option R) → S → Option R} {k n : Nat} {st : List γ → Nat → S} (g : Nat → List γ) (fin : List γ → Option R) (B : Nat) (b0 : List γ) (hB : ∀ i, i < k → (g i).length ≤ B)
  (step : ∀ rec (b : List γ) i, i < k → b.length ≤ b0.length + i * B → body rec (st b i) = rec (st (b ++ g i) (i + 1))) (done : ∀ rec (b : List γ), b.length ≤ b0.length + k * B → body rec (st b k) = fin b) (hn : k < n) :
  loopF body n (st b0 0) = fin (b0 ++ (List.range k).flatMap g) := by
 have := zbA (σ := List γ) (body := body) (len := k) (st := st) (g := fun i b => fin (b ++ (List.range' i (k - i)).flatMap g)) (fun i b => b.length ≤ b0.length + i * B) (fun rec i b hi hI hr => ?_) (fun rec b hI => ?_) n 0 b0 (yp _) (by omega) (by simp)
 ·simpa [List.range_eq_range'] using this
 ·rw [step rec b i hi hI, hr _ (by rw [yI]; have := hB i hi; rw [y9]; omega)];have : List.range' i (k - i) = i :: List.range' (i + 1) (k - (i + 1)) := by rw [show k - i = (k - (i + 1)) + 1 by omega, List.range'_succ]
  rw [this, uv, yJ]
 ·rw [done rec b hI]; simp
theorem zkt {α γ S R : Type} {body : (S → Option R) → S → Option R} {l : List α} {n : Nat} {st : List γ → Nat → S} (h : α → γ) (fin : List γ → Option R) (b0 : List γ)
  (step : ∀ rec (b : List γ) i (hi : i < l.length), b.length = b0.length + i → body rec (st b i) = rec (st (b ++ [h l[i]]) (i + 1))) (done : ∀ rec (b : List γ), b.length = b0.length + l.length → body rec (st b l.length) = fin b) (hn : l.length < n) :
  loopF body n (st b0 0) = fin (b0 ++ l.map h) := by
 have := zF (body := body) (len := l.length) (st := fun i => st (b0 ++ (l.take i).map h) i) (g := fun _ => fin (b0 ++ l.map h)) (fun rec i hi hr => ?_) (fun rec => ?_) n 0 (yp _) (by omega)
 ·simpa using this
 ·have e : b0 ++ (l.take (i + 1)).map h = b0 ++ (l.take i).map h ++ [h l[i]] := by rw [yy hi, uh, yJ]; rfl
  rw [step rec _ i hi (by simp; omega), ← e]; exact hr
 ·rw [done rec _ (by simp)]; simp
theorem za1 {σ S R : Type} {body : (S → Option R) → S → Option R} {k n : Nat} {st : σ → Nat → S} (I : Nat → σ → Prop) (Q : R → Prop) (hb : ∀ rec i s, i < k → I i s → (∀ s', I (i + 1) s' → ∃ r, rec (st s' (i + 1)) = some r ∧ Q r) → ∃ r, body rec (st s i) = some r ∧ Q r)
  (he : ∀ rec s, I k s → ∃ r, body rec (st s k) = some r ∧ Q r) (hn : k < n) (s0 : σ) (h0 : I 0 s0) : ∃ r, loopF body n (st s0 0) = some r ∧ Q r := by
 have key : ∀ m i s, i ≤ k → k - i < m → I i s → ∃ r, loopF body m (st s i) = some r ∧ Q r := by
  intro m
  induction m with
  | zero => intro i s _ h; omega
  | succ m ih =>
   intro i s hi hm hI;simp only [loopF];by_cases e : i = k
   ·subst e; exact he _ _ hI
   ·exact hb _ i s (by omega) hI fun s' hI' => ih (i + 1) s' (by omega) (by omega) hI'
 exact key n 0 s0 (yp _) (by omega) h0
theorem Index_Lint_eq {n l x} (hl : l.length < 1000000) (hn : 1000000 ≤ n) : ∃ k, zae n l x = some k ∧ (decide (0 ≤ k) = decide (x ∈ l)) := by
 unfold zae;have := zF (body := zae.l1 n l x) (len := l.length) (st := fun i => (i : Int)) (g := fun i => some (ixP (fun y => decide (x = y)) (l.drop i) i)) (fun rec i hi hr => ?_) (fun rec => ?_) n 0 (yp _) (by omega)
 ·refine ⟨_, this, ?_⟩;rw [List.drop_zero, zgk];rw [Bool.eq_iff_iff]; simp [uu]
 ·simp only [zae.l1, zh hi, if_true, za hi, ya];rw [zb (i := i) (by omega), hr, zj hi];by_cases e : x = l[i]
  ·simp [e, ixP]
  ·simp [e, ixP]
 ·simp only [zae.l1, zah, ye, if_false];simp [ixP]
theorem zdZ {n l x} (hl : l.length < 1000000) (hn : 1000000 ≤ n) : zaC n l x = some (decide (x ∈ l)) := by
 obtain ⟨k, h1, h2⟩ := Index_Lint_eq (x := x) hl hn;unfold zaC;rw [h1, ya, h2]
structure GraphOK (g : DGraph) (K : Nat) : Prop where
 size : g.size = (K : Int)
 le : K ≤ 6
 len : g.edges.length = K * K
def hasP (g : DGraph) (a b : Nat) : Bool := g.edges.getD (a * g.size.toNat + b) false
theorem ze1 {K a b : Nat} (ha : a < K) (hb : b < K) : a * K + b < K * K := by
 have : (a + 1) * K ≤ K * K := yM _ ha;rw [y9] at this; omega
theorem has_eq {n : Nat} {g : DGraph} {K a b : Nat} (hg : GraphOK g K) (ha : a < K) (hb : b < K) : za0 n g (a : Int) (b : Int) = some (hasP g a b) := by
 have h1 := hg.le;have h2 := ze1 ha hb;have h4 : K * K ≤ 36 := yY hg.le hg.le;have h3 : add64 (mul64 (a : Int) g.size) (b : Int) = ((a * K + b : Nat) : Int) := by
  rw [hg.size];have e1 : mul64 (a : Int) (K : Int) = ((a * K : Nat) : Int) := by
   unfold mul64;rw [zaL (by rw [← yK]; omega) (by rw [← yK]; omega)];simp
  rw [e1, zcY (by omega)]
 unfold za0;rw [h3, za (by rw [hg.len]; exact h2), ya];simp only [hasP, hg.size, yq, yw];rw [yt (by rw [hg.len]; exact h2)];rfl
def VertL (K : Nat) (l : List Int) : Prop := 1 ≤ l.length ∧ l.length ≤ K ∧ ∀ x ∈ l, 0 ≤ x ∧ x < (K : Int)
theorem VertL.get {K l} (h : VertL K l) {i} (hi : i < l.length) : ∃ a : Nat, l[i] = (a : Int) ∧ a < K := by
 obtain ⟨h1, h2⟩ := h.2.2 _ (yg hi);exact ⟨l[i].toNat, by omega, by omega⟩
theorem zih : ∀ {K : Nat} {l : List Int}, l.Nodup → (∀ x ∈ l, 0 ≤ x ∧ x < (K : Int)) → l.length ≤ K
 | 0, l, _, h => by
  cases l with
  | nil => simp
  | cons x l => have := h x (by simp); omega
 | K + 1, l, hn, h => by
  by_cases hm : (K : Int) ∈ l
  ·have h1 := zih (K := K) (hn.erase (K : Int)) fun x hx => by
    have := (hn.mem_erase_iff).1 hx;have := h x this.2;omega
   rw [List.length_erase_of_mem hm] at h1; omega
  ·have := zih (K := K) hn fun x hx => by
    have h2 := h x hx;have : x ≠ (K : Int) := fun e => hm (e ▸ hx)
    omega
   omega
theorem visit_tot {n : Nat} {g : DGraph} {K : Nat} (hg : GraphOK g K) (hn : 1000000 ≤ n) : ∀ (d k : Nat) (l : List Int) (out : List (List Int)), l.Nodup → VertL K l → K - l.length = d → d < k → out.length ≤ 1000000 - 7 ^ (d + 1) → d ≤ 5 → (∀ c ∈ out, VertL K c) →
  ∃ r, zy n g k l out = some r ∧ r.length ≤ out.length + 7 ^ (d + 1) ∧ ∀ c ∈ r, VertL K c := by
 intro d
 induction d using Nat.strongRecOn with
 | ind d ih =>
  intro k l out hnd hv hd hk ho hd5 hc;obtain ⟨k, rfl⟩ : ∃ k', k = k' + 1 := ⟨k - 1, by omega⟩
  have hK := hg.le;have hl1 := hv.1;have hl2 := hv.2.1;have hp : 7 ≤ 7 ^ (d + 1) := by have := Nat.one_le_two_pow (n := 0); exact Nat.le_self_pow (by omega) 7
  have hp2 : 7 ^ (d + 1) ≤ 117649 := by
   have : 7 ^ (d + 1) ≤ 7 ^ 6 := uy (by omega) (by omega);simpa using this
  obtain ⟨last, hlast, hlK⟩ := hv.get (i := l.length - 1) (by omega);obtain ⟨first, hfirst, hfK⟩ := hv.get (i := 0) (by omega);have e1 : idx l (sub64 (l.length : Int) 1) = some (last : Int) := by
   rw [ze6 (by omega) (by omega), za (by omega), hlast]
  have e2 : idx l 0 = some (first : Int) := by
   have := za (l := l) (i := 0) (by omega)
   rw [← hfirst]; exact this
  simp only [zy, e1, e2, ya, has_eq hg hlK hfK];have loop : ∀ out1 : List (List Int), out1.length ≤ out.length + 1 → (∀ c ∈ out1, VertL K c) → ∃ r, loopF (zy.l1 n g (zy n g k) l (last : Int)) n (add64 (first : Int) 1, out1) = some r ∧ r.length ≤ out.length + 7 ^ (d + 1) ∧ ∀ c ∈ r, VertL K c := by
   intro out1 ho1 hc1;rw [zb (by omega)];have := za1 (body := zy.l1 n g (zy n g k) l (last : Int)) (k := K - (first + 1)) (n := n) (st := fun (o : List (List Int)) i => (((first + 1 + i : Nat) : Int), o)) (fun i o => o.length ≤ out.length + 1 + i * 7 ^ d ∧ ∀ c ∈ o, VertL K c) (fun r => r.length ≤ out.length + 7 ^ (d + 1) ∧ ∀ c ∈ r, VertL K c)
    (fun rec i o hi hI hr => ?_) (fun rec o hI => ?_) (by omega) out1 ⟨by simpa using ho1, hc1⟩
   ·simpa using this
   ·have hb : first + 1 + i < K := by omega
    have hlt : decide (((first + 1 + i : Nat) : Int) < g.size) = true := by rw [hg.size]; simp; omega
    have hnx : add64 ((first + 1 + i : Nat) : Int) 1 = ((first + 1 + (i + 1) : Nat) : Int) := by rw [zb (by omega)]; rfl
    simp only [zy.l1, hlt, if_true, has_eq hg hlK hb, ya, hnx];have keep : ∃ r, rec (((first + 1 + (i + 1) : Nat) : Int), o) = some r ∧ r.length ≤ out.length + 7 ^ (d + 1) ∧ ∀ c ∈ r, VertL K c := hr o ⟨by have := hI.1; rw [y9]; omega, hI.2⟩;by_cases hh : hasP g last (first + 1 + i) = true
    ·rw [if_pos hh, zdZ (by omega) hn, ya];by_cases hm : ((first + 1 + i : Nat) : Int) ∈ l
     ·rw [if_pos (by simpa using hm)]; exact keep
     ·rw [if_neg (by simpa using hm), zq (by simp; omega), ya, yV, zq (by simp; omega), ya];have hnd2 : (l ++ [((first + 1 + i : Nat) : Int)]).Nodup := by
       rw [List.nodup_append];exact ⟨hnd, by simp, fun a ha b hb e => by simp at hb; subst hb; subst e; exact hm ha⟩
      have hall : ∀ x ∈ l ++ [((first + 1 + i : Nat) : Int)], 0 ≤ x ∧ x < (K : Int) := fun x hx => by
       rcases yG.1 hx with hx | hx
       ·exact hv.2.2 x hx
       ·simp at hx; subst hx; omega
      have hlen := zih hnd2 hall;simp only [yI, yQ, ux] at hlen;have hd1 : 1 ≤ d := by omega
      have hpow : 7 ^ d ≤ 7 ^ (d + 1) := uy (by omega) (by omega);have h6 : i * 7 ^ d ≤ 5 * 7 ^ d := yM _ (by omega);have h7 : 7 ^ (d + 1) = 7 * 7 ^ d := by rw [uK]; omega
      have hone : 1 ≤ 7 ^ d := uQ _ _ (by omega);obtain ⟨r, hr1, hr2, hr3⟩ := ih (d - 1) (by omega) k (l ++ [((first + 1 + i : Nat) : Int)]) o hnd2 ⟨by simp, by simpa using hlen, hall⟩ (by simp; omega) (by omega) (by rw [show d - 1 + 1 = d by omega]; have := hI.1; omega) (by omega) hI.2;rw [show d - 1 + 1 = d by omega] at hr2;rw [hr1, ya];exact hr r ⟨by have := hI.1; rw [y9]; omega, hr3⟩
    ·rw [if_neg hh]; exact keep
   ·have hge : decide (((first + 1 + (K - (first + 1)) : Nat) : Int) < g.size) = false := by rw [hg.size]; simp; omega
    simp only [zy.l1, hge, ye, if_false];have hone : 1 ≤ 7 ^ d := uQ _ _ (by omega);have h7 : 7 ^ (d + 1) = 7 * 7 ^ d := by rw [uK]; omega
    have h5 : (K - (first + 1)) * 7 ^ d ≤ 5 * 7 ^ d := yM _ (by omega);exact ⟨o, rfl, by have := hI.1; omega, hI.2⟩
  by_cases hh : hasP g last first = true
  ·rw [if_pos hh, zq (by simp; omega), ya, yV, zq (by simp; omega), ya];exact loop _ (by simp) fun c hc' => by
    rcases yG.1 hc' with h | h
    ·exact hc c h
    ·simp at h; subst h; exact hv
  ·rw [if_neg hh];exact loop _ (by omega) hc
theorem cycles_tot {n : Nat} {g : DGraph} {K : Nat} (hg : GraphOK g K) (hn : 1000000 ≤ n) : ∃ r, loopF (digraph_cycles.l1 n g) n (0, []) = some r ∧ r.length ≤ 900000 ∧ ∀ c ∈ r, VertL K c := by
 have hK := hg.le;have := za1 (body := digraph_cycles.l1 n g) (k := K) (n := n) (st := fun (o : List (List Int)) i => ((i : Int), o)) (fun i o => o.length ≤ i * 117649 ∧ ∀ c ∈ o, VertL K c) (fun r => r.length ≤ 900000 ∧ ∀ c ∈ r, VertL K c)
  (fun rec i o hi hI hr => ?_) (fun rec o hI => ?_) (by omega) [] ⟨by simp, by simp⟩
 ·simpa using this
 ·have hlt : decide ((i : Int) < g.size) = true := by rw [hg.size]; simp; omega
  have hd : 7 ^ (K - 1 + 1) ≤ 117649 := by
   have : 7 ^ (K - 1 + 1) ≤ 7 ^ 6 := uy (by omega) (by omega);simpa using this
  have h5 : i * 117649 ≤ 5 * 117649 := yM _ (by omega);obtain ⟨r, hr1, hr2, hr3⟩ := visit_tot hg hn (K - 1) n [(i : Int)] o (by simp) ⟨by simp, by simp; omega, by simp; omega⟩ (by simp) (by omega) (by have := hI.1; omega) (by omega) hI.2;simp only [digraph_cycles.l1, hlt, if_true, hr1, ya];rw [zb (by omega)];exact hr r ⟨by have := hI.1; rw [y9]; omega, hr3⟩
 ·have hge : decide ((K : Int) < g.size) = false := by rw [hg.size]; simp
  simp only [digraph_cycles.l1, hge, ye, if_false];exact ⟨o, rfl, by have := hI.1; omega, hI.2⟩
def lexP : List Int → List Int → Int
 | [], [] => 0
 | [], _ :: _ => -1
 | _ :: _, [] => 1
 | a :: l, b :: m => if a < b then -1 else if b < a then 1 else lexP l m
theorem lex_neg : ∀ (a b : List Int), lexP b a = -lexP a b
 | [], [] => rfl
 | [], _ :: _ => rfl
 | _ :: _, [] => rfl
 | a :: l, b :: m => by
  have := lex_neg l m;simp only [lexP];split <;> split <;> omega
theorem lex_zero : ∀ {a b : List Int}, lexP a b = 0 → a = b
 | [], [], _ => rfl
 | [], _ :: _, h => by simp [lexP] at h
 | _ :: _, [], h => by simp [lexP] at h
 | a :: l, b :: m, h => by
  simp only [lexP] at h;split at h
  ·omega
  ·split at h
   ·omega
   ·rw [lex_zero h, show a = b by omega]
theorem lex_trans : ∀ {a b c : List Int}, lexP a b < 0 → lexP b c < 0 → lexP a c < 0
 | [], [], c, h, _ => by simp [lexP] at h
 | [], _ :: _, [], _, h => by simp [lexP] at h
 | [], _ :: _, _ :: _, _, _ => by simp [lexP]
 | _ :: _, [], _, h, _ => by simp [lexP] at h
 | _ :: _, _ :: _, [], _, h => by simp [lexP] at h
 | a :: l, b :: m, c :: k, h1, h2 => by
  simp only [lexP] at *;have ih := @lex_trans l m k;by_cases e1 : a < b
  ·by_cases e2 : b < c
   ·rw [if_pos (by omega)]; omega
   ·by_cases e3 : c < b
    ·rw [if_neg e2, if_pos e3] at h2; omega
    ·rw [if_pos (by omega)]; omega
  ·by_cases e1' : b < a
   ·rw [if_neg e1, if_pos e1'] at h1; omega
   ·rw [if_neg e1, if_neg e1'] at h1;by_cases e2 : b < c
    ·rw [if_pos (by omega)]; omega
    ·by_cases e3 : c < b
     ·rw [if_neg e2, if_pos e3] at h2; omega
     ·rw [if_neg e2, if_neg e3] at h2;rw [if_neg (by omega), if_neg (by omega)];exact ih h1 h2
def cmpI (a b : Int) : Int := if a < b then -1 else if b < a then 1 else 0
def cmpC (a b : List Int) : Int := if cmpI a.length b.length ≠ 0 then cmpI a.length b.length else lexP a b
theorem zfG (a b) : cmpC b a = -cmpC a b := by
 have := lex_neg a b;unfold cmpC cmpI;split <;> split <;> (try split) <;> (try split) <;> simp_all <;> omega
theorem zka {a b} (h : cmpC a b = 0) : a = b := by
 unfold cmpC at h;split at h
 ·rename_i hne; exact absurd h hne
 ·exact lex_zero h
theorem ziI {a b c} (h1 : cmpC a b < 0) (h2 : cmpC b c < 0) : cmpC a c < 0 := by
 have k : ∀ (x y : List Int), cmpC x y < 0 ↔ (x.length < y.length ∨ (x.length = y.length ∧ lexP x y < 0)) := by
  intro x y;unfold cmpC cmpI;by_cases e : (x.length : Int) < y.length
  ·simp [e]; omega
  ·by_cases e2 : (y.length : Int) < x.length
   ·simp [e, e2]; omega
   ·simp [e, e2]; omega
 rw [k] at *;rcases h1 with h1 | ⟨h1, h1'⟩ <;> rcases h2 with h2 | ⟨h2, h2'⟩
 ·left; omega
 ·left; omega
 ·left; omega
 ·exact .inr ⟨by omega, lex_trans h1' h2'⟩
theorem zj9 {a b c} (h1 : ¬ cmpC a b < 0) (h2 : ¬ cmpC b c < 0) : ¬ cmpC a c < 0 := by
 intro h;have n1 := zfG a b;have n2 := zfG b c;by_cases e1 : cmpC a b = 0
 ·rw [zka e1] at h; exact h2 h
 ·by_cases e2 : cmpC b c = 0
  ·rw [← zka e2] at h; exact h1 h
  ·have := ziI (a := c) (b := b) (c := a) (by omega) (by omega);have n3 := zfG a c;omega
theorem zg8 {n} (a b) : zb7 n a b = some (cmpI a b) := by
 unfold zb7 zdm cmpI;simp;split <;> (try split) <;> rfl
theorem Compare_L_eq {n a b} (ha : a.length < 1000000) (hn : 1000000 ≤ n) : zi n a b = some (lexP a b) := by
 unfold zi;have := zbA (σ := Unit) (body := zi.l1 n a b) (len := a.length) (st := fun _ i => (i : Int)) (g := fun i _ => some (lexP (a.drop i) (b.drop i))) (fun i _ => i ≤ b.length) (fun rec i s hi hI hr => ?_) (fun rec s hI => ?_) n 0 () (yp _) (by omega) (yp _)
 ·simpa using this
 ·simp only [zi.l1, zh hi, if_true, za hi, ya];by_cases hb : b.length ≤ i
  ·have e : b.drop i = [] := List.drop_eq_nil_of_le hb;rw [if_pos (by simp; omega), e, zj hi]; rfl
  ·rw [if_neg (by simp; omega), za (show i < b.length by omega), ya, zg8, ya, zb (by omega), hr () (by omega), zj hi, zj (show i < b.length by omega)];simp only [lexP, cmpI];split
   ·simp
   ·split
    ·simp
    ·simp
 ·simp only [zi.l1, zah, ye, if_false];rw [List.drop_length];by_cases hb : a.length < b.length
  ·rw [if_pos (by simp; omega), zj hb]; rfl
  ·rw [if_neg (by simp; omega), List.drop_eq_nil_of_le (by omega)]; rfl
theorem Or_eq {n} (x y) (hn : 1000000 ≤ n) : zcN n [x, y] = some (if x ≠ 0 then x else y) := by
 unfold zcN;rw [zgp (by omega)];have e0 : idx [x, y] 0 = some x := rfl;have e1 : idx [x, y] 1 = some y := rfl;simp only [zcN.l1, e0, ya, yQ, ux];rw [if_pos (by simp)];by_cases hx : x = 0
 ·rw [if_neg (by simp [hx]), show add64 0 1 = 1 from rfl, zgp (by omega)];simp only [zcN.l1, e1, ya, yQ, ux];rw [if_pos (by simp)];by_cases hy : y = 0
  ·rw [if_neg (by simp [hy]), show add64 1 1 = 2 from rfl, zgp (by omega)];simp [zcN.l1, hx, hy]
  ·rw [if_pos (by simp [hy])]; simp [hx]
 ·rw [if_pos (by simp [hx])]; simp [hx]
theorem ziJ {n a b} (ha : a.length < 1000000) (hn : 1000000 ≤ n) : zb8 n a b = some (cmpC a b) := by
 unfold zb8;rw [zg8, ya, Compare_L_eq ha hn, ya, Or_eq _ _ hn];rfl
theorem sortO_of {α : Type} {f : α → α → Option Int} {c : α → α → Int} {l : List α} (h1 : ∀ x ∈ l, ∀ y ∈ l, f x y = some (c x y)) (irr : ∀ x, ¬ c x x < 0) (tr : ∀ x y z, c x y < 0 → c y z < 0 → c x z < 0) (nt : ∀ x y z, ¬ c x y < 0 → ¬ c y z < 0 → ¬ c x z < 0) (hl : l.length < 4611686018427387904) :
  sortO f l = some (sortF (fun x y => (f x y).getD 0) l) ∧ swoB (fun x y => (f x y).getD 0) l = true := by
 have hs : swoB (fun x y => (f x y).getD 0) l = true := by
  unfold swoB;rw [ym];intro x hx;rw [yb, ym];refine ⟨by simpa [h1 x hx x hx] using irr x, fun y hy => ?_⟩;rw [ym];intro z hz;simp only [h1 x hx y hy, h1 y hy z hz, h1 x hx z hz, yf, yb, yz, yx, ut, yd, yC];have a1 := tr x y z;have a2 := nt x y z;constructor
  ·by_cases p : c x y < 0
   ·by_cases q : c y z < 0
    ·exact .inr (a1 p q)
    ·exact .inl (.inr q)
   ·exact .inl (.inl p)
  ·by_cases p : c x y < 0
   ·exact .inl (.inl p)
   ·by_cases q : c y z < 0
    ·exact .inl (.inr q)
    ·exact .inr (a2 p q)
 refine ⟨?_, hs⟩;unfold sortO;rw [if_pos];simp only [yb, ym, yd];exact ⟨⟨fun x hx y hy => by rw [h1 x hx y hy]; rfl, hs⟩, hl⟩
theorem Cycles_tot {n : Nat} {size : Int} {edges : List Bool} {K : Nat} (hs : size = (K : Int)) (h1 : 1 ≤ K) (h6 : K ≤ 6) (hl : edges.length = K * K) (hn : 1000000 ≤ n) : ∃ r, zbC n size edges = some r ∧ r.length ≤ 900000 ∧ ∀ c ∈ r, VertL K c := by
 have hg : GraphOK ⟨size, edges⟩ K := ⟨hs, h6, hl⟩
 obtain ⟨out, ho, hol, hov⟩ := cycles_tot hg hn;have h4 : K * K ≤ 36 := yY h6 h6;have e : mul64 size size = ((K * K : Nat) : Int) := by
  rw [hs]; unfold mul64;rw [zaL (by rw [← yK]; omega) (by rw [← yK]; omega)]; simp
 have hopen : zdf n size edges = some (⟨size, edges⟩, true) := by
  unfold zdf;rw [e, hl];simp [hs]; omega
 unfold zbC;rw [hopen, ya, if_neg (by simp), ho, ya];obtain ⟨s1, s2⟩ := sortO_of (f := zb8 n) (c := cmpC) (l := out) (fun x hx y _ => ziJ (by have := (hov x hx).2.1; omega) hn) (fun x => by have := zfG x x; omega) (fun _ _ _ => ziI) (fun _ _ _ => zj9) (by omega);have hp := zi3 s2;exact ⟨_, s1, by rw [hp.length_eq]; exact hol, fun c hc => hov c (hp.mem_iff.1 hc)⟩
end Go.Proofs.YtcagdmegicijlaaGreatDoor
