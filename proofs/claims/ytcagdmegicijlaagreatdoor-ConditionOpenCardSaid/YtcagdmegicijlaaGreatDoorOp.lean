/- The law holds for every input. No condition. -/
import Derived.Test.YtcagdmegicijlaaGreatDoorOp05
import Derived.Test.YtcagdmegicijlaaGreatDoorCards
import Derived.Test.YtcagdmegicijlaaGreatDoorTie
import Derived.JoinedCond
import Derived.Deep.DeepWitnessRowRef
import Derived.Lay
import Derived.ProofKit
set_option linter.unusedVariables false
set_option linter.unusedSectionVars false
set_option linter.unusedSimpArgs false
set_option maxHeartbeats 4000000
namespace Go.Proofs.YtcagdmegicijlaaGreatDoor
open Go Go.RowKit
def nextL : List Range → List Int → Option (List Int)
 | r :: rs, x :: xs => match nextL rs xs with
  | some ys => some (x :: ys)
  | none => if x < r.hi then some ((x + 1) :: rs.map (·.lo)) else none
 | _, _ => none
def inBox : List Range → List Int → Bool
 | r :: rs, x :: xs => (decide (r.lo ≤ x) && decide (x ≤ r.hi)) && inBox rs xs
 | [], [] => true
 | _, _ => false
def countB : List Range → Nat
 | [] => 1
 | r :: rs => (r.hi - r.lo + 1).toNat * countB rs
def valB : List Range → List Int → Nat
 | r :: rs, x :: xs => (x - r.lo).toNat * countB rs + valB rs xs
 | _, _ => 0
def leastB (box : List Range) : List Int := box.map (·.lo)
def goodB (box : List Range) : Bool := box.all fun r => decide (r.lo ≤ r.hi) && (decide (-9999 ≤ r.lo) && decide (r.hi ≤ 9999))
theorem inBox_len : ∀ {box : List Range} {s : List Int}, inBox box s = true → s.length = box.length
 | [], [], _ => rfl
 | [], _ :: _, h => by simp [inBox] at h
 | _ :: _, [], h => by simp [inBox] at h
 | _ :: rs, _ :: xs, h => by
  simp only [inBox, Bool.and_eq_true] at h
  simp [inBox_len h.2]
theorem inBox_get : ∀ {box : List Range} {s : List Int} (h : inBox box s = true) (i : Nat) (hi : i < box.length) (hs : i < s.length), box[i].lo ≤ s[i] ∧ s[i] ≤ box[i].hi
 | [], _, _, i, hi, _ => by simp at hi
 | _ :: _, [], h, _, _, _ => by simp [inBox] at h
 | r :: rs, x :: xs, h, 0, _, _ => by
  simp only [inBox, Bool.and_eq_true, decide_eq_true_eq] at h
  exact h.1
 | r :: rs, x :: xs, h, i + 1, hi, hs => by
  simp only [inBox, Bool.and_eq_true] at h
  simpa using inBox_get h.2 i (by simpa using hi) (by simpa using hs)
theorem least_in : ∀ {box : List Range}, goodB box = true → inBox box (leastB box) = true
 | [], _ => rfl
 | r :: rs, h => by
  simp only [goodB, List.all_cons, Bool.and_eq_true, decide_eq_true_eq] at h
  simp only [leastB, List.map_cons, inBox, Bool.and_eq_true, decide_eq_true_eq]
  exact ⟨⟨Int.le_refl _, h.1.1⟩, least_in (by simpa only [goodB] using h.2)⟩
theorem val_lt : ∀ {box : List Range} {s : List Int}, inBox box s = true → goodB box = true → valB box s < countB box
 | [], [], _, _ => by simp [valB, countB]
 | [], _ :: _, h, _ => by simp [inBox] at h
 | _ :: _, [], h, _ => by simp [inBox] at h
 | r :: rs, x :: xs, h, hg => by
  simp only [inBox, Bool.and_eq_true, decide_eq_true_eq] at h
  simp only [goodB, List.all_cons, Bool.and_eq_true, decide_eq_true_eq] at hg
  have ih := val_lt h.2 (by simpa only [goodB] using hg.2)
  simp only [valB, countB]
  have h1 : (x - r.lo).toNat + 1 ≤ (r.hi - r.lo + 1).toNat := by omega
  have h2 := Nat.mul_le_mul_right (countB rs) h1
  rw [Nat.succ_mul] at h2
  omega
theorem val_least : ∀ (box : List Range), valB box (leastB box) = 0
 | [] => rfl
 | r :: rs => by simp [leastB, valB]; exact val_least rs
theorem next_none_val : ∀ {box : List Range} {s : List Int}, inBox box s = true → goodB box = true → nextL box s = none → valB box s + 1 = countB box
 | [], [], _, _, _ => rfl
 | [], _ :: _, h, _, _ => by simp [inBox] at h
 | _ :: _, [], h, _, _ => by simp [inBox] at h
 | r :: rs, x :: xs, h, hg, hn => by
  simp only [inBox, Bool.and_eq_true, decide_eq_true_eq] at h
  simp only [goodB, List.all_cons, Bool.and_eq_true, decide_eq_true_eq] at hg
  rw [nextL] at hn
  split at hn
  ·cases hn
  ·rename_i hr
   split at hn
   ·cases hn
   ·have ih := next_none_val h.2 (by simpa only [goodB] using hg.2) hr
    simp only [valB, countB]
    have h1 : (r.hi - r.lo + 1).toNat = (x - r.lo).toNat + 1 := by omega
    rw [h1, Nat.succ_mul]
    omega
theorem next_some : ∀ {box : List Range} {s t : List Int}, inBox box s = true → goodB box = true → nextL box s = some t → inBox box t = true ∧ valB box t = valB box s + 1
 | [], [], _, _, _, hn => by simp [nextL] at hn
 | [], _ :: _, _, h, _, _ => by simp [inBox] at h
 | _ :: _, [], _, h, _, _ => by simp [inBox] at h
 | r :: rs, x :: xs, t, h, hg, hn => by
  simp only [inBox, Bool.and_eq_true, decide_eq_true_eq] at h
  have hg' := hg
  simp only [goodB, List.all_cons, Bool.and_eq_true, decide_eq_true_eq] at hg
  have hgr : goodB rs = true := by simpa only [goodB] using hg.2
  rw [nextL] at hn
  split at hn
  ·rename_i ys hr
   cases hn
   obtain ⟨p1, p2⟩ := next_some h.2 hgr hr
   simp only [inBox, valB, Bool.and_eq_true, decide_eq_true_eq]
   exact ⟨⟨h.1, p1⟩, by omega⟩
  ·rename_i hr
   split at hn
   ·rename_i hx
    cases hn
    have ih := next_none_val h.2 hgr hr
    have hl := least_in hgr
    have hv := val_least rs
    unfold leastB at hl hv
    simp only [inBox, valB, Bool.and_eq_true, decide_eq_true_eq, hv]
    refine ⟨⟨⟨by omega, by omega⟩, hl⟩, ?_⟩
    have h1 : (x + 1 - r.lo).toNat = (x - r.lo).toNat + 1 := by omega
    rw [h1, Nat.succ_mul]
    omega
   ·cases hn
theorem ref17_Valid_good {n : Nat} {box : List Range} (hg : goodB box = true) (hl : box.length ≤ 100) (hn : 1000000 ≤ n) : ref17_Valid n box [] = some true := by
 unfold ref17_Valid
 rw [if_neg (by simp; omega)]
 have := loopF_g (body := ref17_Valid.l1 n box []) (len := box.length) (st := fun i => (i : Int)) (g := fun _ => some true) (fun rec i hi hr => ?_) (fun rec => ?_) n 0 (Nat.zero_le _) (by omega)
 ·simpa using this
 ·have := List.all_eq_true.1 hg _ (List.getElem_mem hi)
  simp only [Bool.and_eq_true, decide_eq_true_eq] at this
  have h1 : (decide (-1000000 ≤ box[i].lo) && decide (box[i].lo ≤ 1000000)) = true := by simp; omega
  have h2 : (decide (-1000000 ≤ box[i].hi) && decide (box[i].hi ≤ 1000000)) = true := by simp; omega
  simp only [ref17_Valid.l1, lt_len hi, if_true, idx_nat hi, Option.bind_some, ref17_inside, h1, h2, Option.isSome_some, Bool.or_true, grd, Option.getD_some, Bool.not_true, Bool.or_self, Bool.false_eq_true, if_false, add64_1 (show i < 4611686018427387904 by omega), hr]
 ·simp only [ref17_Valid.l1, ge_len, Bool.false_eq_true, if_false]
  rw [loopF_1 (by omega)]
  simp [ref17_Valid.l2]
theorem ref17_Contains_in {n : Nat} {box : List Range} {s : List Int} (hi : inBox box s = true) (hl : box.length ≤ 100) (hn : 1000000 ≤ n) : ref17_Contains n box s = some true := by
 have hlen := inBox_len hi
 unfold ref17_Contains
 rw [if_neg (by simp [hlen])]
 have := loopF_g (body := ref17_Contains.l1 n box s) (len := box.length) (st := fun i => (i : Int)) (g := fun _ => some true) (fun rec i hlt hr => ?_) (fun rec => ?_) n 0 (Nat.zero_le _) (by omega)
 ·simpa using this
 ·have hs : i < s.length := by omega
  have := inBox_get hi i hlt hs
  have h1 : (decide (box[i].lo ≤ s[i]) && decide (s[i] ≤ box[i].hi)) = true := by simp; omega
  simp only [ref17_Contains.l1, lt_len hlt, if_true, idx_nat hlt, idx_nat hs, Option.bind_some, ref17_inside, h1, Bool.not_true, Bool.false_eq_true, if_false, add64_1 (show i < 4611686018427387904 by omega), hr]
 ·simp [ref17_Contains.l1]
theorem nextL_drop : ∀ (i : Nat) {box : List Range} {s ys : List Int}, s.length = box.length → i ≤ box.length → nextL (box.drop i) (s.drop i) = some ys → nextL box s = some (s.take i ++ ys)
 | 0, _, _, _, _, _, h => by simpa using h
 | i + 1, box, s, ys, hl, hi, h => by
  have hb : i < box.length := by omega
  have hs : i < s.length := by omega
  have : nextL (box.drop i) (s.drop i) = some (s[i] :: ys) := by
   rw [drop_cons hb, drop_cons hs, nextL, h]
  rw [nextL_drop i hl (by omega) this, List.take_succ_eq_append_getElem hs, List.append_assoc]
  rfl
theorem ref17_Next_eq {n : Nat} {box : List Range} {s : List Int} (hg : goodB box = true) (hi : inBox box s = true) (hl : box.length ≤ 100) (hn : 1000000 ≤ n) :
  ref17_Next n box s = some (match nextL box s with | some ys => (ys, true) | none => ([], false)) := by
 have hlen := inBox_len hi
 unfold ref17_Next
 rw [ref17_Valid_good hg hl hn, ref17_Contains_in hi hl hn]
 simp only [Option.bind_some, Option.isSome_some, Bool.or_true, grd, if_true, Option.getD_some, Bool.not_true, Bool.or_self, Bool.false_eq_true, if_false]
 have main : ∀ (m k : Nat), k < m → k ≤ box.length → nextL (box.drop k) (s.drop k) = none → loopF (ref17_Next.l1 n box s) m ((k : Int) - 1) = some (match nextL box s with | some ys => (ys, true) | none => ([], false)) := fun m => by
  induction m with
  | zero => intro k h; omega
  | succ m ih =>
   intro k hk hkl hnone
   simp only [loopF, ref17_Next.l1]
   cases k with
   | zero =>
    simp only [List.drop_zero] at hnone
    rw [hnone]; simp
   | succ k =>
    have hkb : k < box.length := by omega
    have hks : k < s.length := by omega
    have e : ((k + 1 : Nat) : Int) - 1 = (k : Int) := by omega
    have hd : decide (0 ≤ (k : Int)) = true := by simp
    simp only [e, hd, if_true, idx_nat hkb, idx_nat hks, Option.bind_some]
    by_cases hx : s[k] < box[k].hi
    ·rw [if_pos (by simpa using hx)]
     have hsome : nextL (box.drop k) (s.drop k) = some ((s[k] + 1) :: (box.drop (k + 1)).map (·.lo)) := by
      rw [drop_cons hkb, drop_cons hks, nextL, hnone]
      simp [hx]
     rw [nextL_drop k hlen (by omega) hsome]
     generalize hR : s.take k ++ (s[k] + 1) :: (box.drop (k + 1)).map (·.lo) = R
     have hRl : R.length = box.length := by rw [← hR]; simp; omega
     have := loopF_g (body := ref17_Next.l2 n box s (k : Int)) (len := box.length) (st := fun j => (R.take j, (j : Int))) (g := fun _ => some (R, true)) (fun rec j hj hr => ?_) (fun rec => ?_) n 0 (Nat.zero_le _) (by omega)
     ·simpa using this
     ·have hjR : j < R.length := by omega
      have hjs : j < s.length := by omega
      rw [List.take_succ_eq_append_getElem hjR] at hr
      simp only [ref17_Next.l2, jn, lt_len hj, if_true, add64_1 (show j < 4611686018427387904 by omega)]
      by_cases h1 : j < k
      ·have hel : R[j] = s[j] := by
        simp only [← hR]
        rw [List.getElem_append_left (by simp; omega)]; simp
       rw [if_pos (by simpa using h1), idx_nat hjs, Option.bind_some, app_some (by simp; omega), Option.bind_some]
       rw [hel] at hr
       exact hr
      ·rw [if_neg (by simpa using h1)]
       by_cases h2 : j = k
       ·subst h2
        have hel : R[j] = s[j] + 1 := by
         simp only [← hR]
         rw [List.getElem_append_right (by simp; omega)]
         simp [show min j s.length = j by omega]
        have hb := inBox_get hi j hkb hjs
        have hbd := List.all_eq_true.1 hg _ (List.getElem_mem hkb)
        simp only [Bool.and_eq_true, decide_eq_true_eq] at hbd
        have hadd : add64 s[j] 1 = s[j] + 1 := by unfold add64; rw [w64_id (by omega) (by omega)]
        rw [if_pos (by simp), idx_nat hjs, Option.bind_some, hadd, app_some (by simp; omega), Option.bind_some]
        rw [hel] at hr
        exact hr
       ·have hel : R[j] = box[j].lo := by
         simp only [← hR]
         rw [List.getElem_append_right (by simp; omega)]
         have e2 : j - (s.take k).length = (j - k - 1) + 1 := by simp; omega
         simp only [e2, List.getElem_cons_succ, List.getElem_map, List.getElem_drop]
         congr 2; omega
        rw [if_neg (by simp; omega), idx_nat hj, Option.bind_some, app_some (by simp; omega), Option.bind_some]
        rw [hel] at hr
        exact hr
     ·simp only [ref17_Next.l2, ge_len, Bool.false_eq_true, if_false]
      rw [List.take_of_length_le (by omega)]
    ·rw [if_neg (by simpa using hx)]
     have hsub : sub64 (k : Int) 1 = (k : Int) - 1 := by unfold sub64; rw [w64_id (by omega) (by omega)]
     rw [hsub]
     refine ih k (by omega) (by omega) ?_
     rw [drop_cons hkb, drop_cons hks, nextL, hnone]
     simp [hx]
 rw [sub64_len (by omega)]
 refine main n box.length (by omega) (Nat.le_refl _) ?_
 rw [List.drop_length, List.drop_eq_nil_of_le (by omega)]
 rfl
theorem ref17_Least_eq {n : Nat} {box : List Range} (hl : box.length ≤ 100) (hn : 1000000 ≤ n) : ref17_Least n box = some (leastB box) := by
 unfold ref17_Least
 have := loopF_g (body := ref17_Least.l1 n box) (len := box.length) (st := fun i => ((box.take i).map (·.lo), (i : Int))) (g := fun _ => some (leastB box)) (fun rec i hi hr => ?_) (fun rec => ?_) n 0 (Nat.zero_le _) (by omega)
 ·simpa using this
 ·rw [← map_take_snoc hi] at hr
  simp only [ref17_Least.l1, lt_len hi, if_true, idx_nat hi, Option.bind_some, add64_1 (show i < 4611686018427387904 by omega)]
  rw [app_some (by simp; omega), Option.bind_some]
  exact hr
 ·simp [ref17_Least.l1, leastB]
theorem states_all {n : Nat} {box : List Range} {f : List Int → Option Bool} (hg : goodB box = true) (hl : box.length ≤ 100) (hn : 1000000 ≤ n) (hc : countB box < n) (hf : ∀ s, inBox box s = true → f s = some true) :
  loopF (law22_states.l1 n f box) n (leastB box, true) = some true := by
 refine loopF_M (body := law22_states.l1 n f box) (fun s => if s.2 = true then countB box - valB box s.1 else 0) (fun s => s.2 = true → inBox box s.1 = true) (fun _ o => o = some true) (fun rec s hI hr => ?_) n _ (fun _ => least_in hg) ?_
 ·obtain ⟨s, b⟩ := s
  simp only [law22_states.l1]
  cases b with
  | false => simp
  | true =>
   have hin : inBox box s = true := hI rfl
   have hv := val_lt hin hg
   simp only [if_true, hf s hin, Option.bind_some, Bool.not_true, Bool.false_eq_true, if_false, ref17_Next_eq hg hin hl hn]
   cases hnx : nextL box s with
   | none => exact hr ([], false) (fun h => by cases h) (by
    show 0 < countB box - valB box s
    omega)
   | some t =>
    obtain ⟨p1, p2⟩ := next_some hin hg hnx
    exact hr (t, true) (fun _ => p1) (by
     have : valB box s < countB box := hv
     show countB box - valB box t < countB box - valB box s
     omega)
 ·simp only [if_true]
  omega
end Go.Proofs.YtcagdmegicijlaaGreatDoor
namespace Go.Proofs.YtcagdmegicijlaaGreatDoor
open Go Go.RowKit
def sumP (s : List Int) : List Term → Int
 | [] => 0
 | t :: l => t.factor * s.getD t.cell.toNat 0 + sumP s l
def termOK (k : Nat) (t : Term) : Prop := 0 ≤ t.cell ∧ t.cell < (k : Int) ∧ -1000 ≤ t.factor ∧ t.factor ≤ 1000
def smallS (s : List Int) : Prop := ∀ x ∈ s, -4000000000 ≤ x ∧ x ≤ 4000000000
theorem mul_bd {f x B : Int} (h1 : -1000 ≤ f) (h2 : f ≤ 1000) (h3 : -B ≤ x) (h4 : x ≤ B) : -(1000 * B) ≤ f * x ∧ f * x ≤ 1000 * B := by
 have hB : 0 ≤ B := by omega
 have a1 : f.natAbs ≤ 1000 := by omega
 have a2 : x.natAbs ≤ B.toNat := by omega
 have a3 : (f * x).natAbs ≤ 1000 * B.toNat := by rw [Int.natAbs_mul]; exact Nat.mul_le_mul a1 a2
 omega
theorem getD_idx {s : List Int} {c : Int} (h0 : 0 ≤ c) (h1 : c < (s.length : Int)) : idx s c = some (s.getD c.toNat 0) := by
 obtain ⟨k, rfl⟩ := Int.eq_ofNat_of_zero_le h0
 have : k < s.length := by omega
 rw [idx_nat this]; simp [List.getD, this]
theorem getD_mem {s : List Int} {c : Int} (h0 : 0 ≤ c) (h1 : c < (s.length : Int)) : s.getD c.toNat 0 ∈ s := idx_mem (getD_idx h0 h1)
theorem band_low {x : Int} (h1 : -9223372036854775808 ≤ x) (h2 : x ≤ 9223372036854775807) : band .i64 x 4294967295 = x % 4294967296 := by
 unfold band bitsBack
 rw [BitVec.toNat_and, BitVec.toNat_ofInt, BitVec.toNat_ofInt]
 have e1 : ((4294967295 : Int) % ((2 ^ IntKind.i64.bits : Nat) : Int)).toNat = 2 ^ 32 - 1 := by decide
 rw [e1, Nat.and_two_pow_sub_one_eq_mod]
 have e2 : ((2 ^ IntKind.i64.bits : Nat) : Int) = 18446744073709551616 := by decide
 rw [e2]
 have e3 : (((x % 18446744073709551616).toNat % 2 ^ 32 : Nat) : Int) = x % 4294967296 := by omega
 rw [e3]
 exact w64_id (by omega) (by omega)
theorem parts32 {x : Int} (h1 : -4000000000 ≤ x) (h2 : x ≤ 4000000000) : (-1 ≤ x.tdiv 4294967296 ∧ x.tdiv 4294967296 ≤ 1) ∧ (-4294967296 ≤ x.tmod 4294967296 ∧ x.tmod 4294967296 ≤ 4294967296) ∧ x = x.tdiv 4294967296 * 4294967296 + x.tmod 4294967296 := by
 rcases Int.le_total 0 x with h | h
 ·rw [Int.tdiv_eq_ediv_of_nonneg h, Int.tmod_eq_emod_of_nonneg h]; omega
 ·obtain ⟨y, rfl⟩ : ∃ y, x = -y := ⟨-x, by omega⟩
  rw [Int.neg_tdiv, Int.neg_tmod, Int.tdiv_eq_ediv_of_nonneg (by omega), Int.tmod_eq_emod_of_nonneg (by omega)]; omega
theorem ref12_small_eq {n : Nat} {r : Row} {s : List Int} (ht : ∀ t ∈ r.terms, termOK s.length t) (hl : r.terms.length ≤ 1000) (hs : smallS s) (hb : -4000000000 ≤ r.bound ∧ r.bound ≤ 4000000000) (hn : 1000000 ≤ n) : ref12_small n r s = some (decide (sumP s r.terms ≤ r.bound)) := by
 have := loopF_I (body := ref12_small.l1 n r s) (len := r.terms.length) (st := fun (p : Int × Int) i => (p.1, p.2, (i : Int))) (g := fun _ _ => some (decide (sumP s r.terms ≤ r.bound))) (fun i p => p.1 * 4294967296 + p.2 + sumP s (r.terms.drop i) = sumP s r.terms ∧ (-(1000 * i : Int) ≤ p.1 ∧ p.1 ≤ 1000 * i) ∧ (-(4294967296000 * i : Int) ≤ p.2 ∧ p.2 ≤ 4294967296000 * i)) (fun rec i p hi hI hr => ?_) (fun rec p hI => ?_) n 0 (0, 0) (Nat.zero_le _) (by omega) ⟨by simp, by simp, by simp⟩
 ·simpa [ref12_small] using this
 ·obtain ⟨a, b⟩ := p
  obtain ⟨h1, h2, h3⟩ := hI
  simp only [] at h1 h2 h3
  obtain ⟨t1, t2, t3, t4⟩ := ht _ (List.getElem_mem hi)
  have hx := hs _ (getD_mem t1 t2)
  rw [drop_cons hi, sumP] at h1
  generalize hxv : s.getD r.terms[i].cell.toNat 0 = x at *
  have hidx : idx s r.terms[i].cell = some x := by rw [getD_idx t1 t2, hxv]
  have hq : quo64 x 4294967296 = some (x.tdiv 4294967296) := by
   unfold quo64
   rw [if_neg (by decide)]
   have := (parts32 hx.1 hx.2).1
   rw [w64_id (by omega) (by omega)]
  have hr4 : rem64 x 4294967296 = some (x.tmod 4294967296) := by unfold rem64; rw [if_neg (by decide)]
  obtain ⟨hqb, hrb, hqr⟩ := parts32 hx.1 hx.2
  generalize x.tdiv 4294967296 = q at *
  generalize x.tmod 4294967296 = m at *
  have m1 := mul_bd t3 t4 hqb.1 hqb.2
  have m2 := mul_bd t3 t4 hrb.1 hrb.2
  have hmul : r.terms[i].factor * x = r.terms[i].factor * q * 4294967296 + r.terms[i].factor * m := by
   rw [hqr, Int.mul_add, Int.mul_assoc]
  rw [hmul] at h1
  have e1 : mul64 r.terms[i].factor q = r.terms[i].factor * q := by unfold mul64; exact w64_id (by omega) (by omega)
  have e2 : mul64 r.terms[i].factor m = r.terms[i].factor * m := by unfold mul64; exact w64_id (by omega) (by omega)
  have hlen : (i : Int) ≤ 1000 := by omega
  have e3 : add64 a (r.terms[i].factor * q) = a + r.terms[i].factor * q := by unfold add64; exact w64_id (by omega) (by omega)
  have e4 : add64 b (r.terms[i].factor * m) = b + r.terms[i].factor * m := by unfold add64; exact w64_id (by omega) (by omega)
  simp only [ref12_small.l1, lt_len hi, if_true, idx_nat hi, Option.bind_some, hidx, hq, hr4, e1, e2, e3, e4, add64_1 (show i < 4611686018427387904 by omega)]
  exact hr (a + r.terms[i].factor * q, b + r.terms[i].factor * m) ⟨by simp only []; omega, by simp only []; omega, by simp only []; omega⟩
 ·obtain ⟨a, b⟩ := p
  obtain ⟨h1, h2, h3⟩ := hI
  simp only [List.drop_length, sumP, Int.add_zero] at h1 h2 h3
  have hlen : (r.terms.length : Int) ≤ 1000 := by omega
  have s1 : shrO .i64 b 32 = some (b / 4294967296) := by
   unfold shrO
   rw [if_neg (by decide), Int.fdiv_eq_ediv_of_nonneg _ (by decide)]
   rfl
  have s2 : shrO .i64 r.bound 32 = some (r.bound / 4294967296) := by
   unfold shrO
   rw [if_neg (by decide), Int.fdiv_eq_ediv_of_nonneg _ (by decide)]
   rfl
  have e3 : add64 a (b / 4294967296) = a + b / 4294967296 := by unfold add64; exact w64_id (by omega) (by omega)
  simp only [ref12_small.l1, ge_len, Bool.false_eq_true, if_false, s1, s2, Option.bind_some, e3, band_low (x := b) (by omega) (by omega), band_low (x := r.bound) (by omega) (by omega), Option.some.injEq]
  rw [Bool.eq_iff_iff]
  simp only [Bool.or_eq_true, Bool.and_eq_true, decide_eq_true_eq, beq_iff_eq]
  omega
end Go.Proofs.YtcagdmegicijlaaGreatDoor
namespace Go.Proofs.YtcagdmegicijlaaGreatDoor
open Go Go.RowKit
def anyR (p : Nat → Bool) (i : Nat) : Nat → Bool
 | 0 => false
 | k + 1 => p i || anyR p (i + 1) k
theorem anyR_mono {p q : Nat → Bool} : ∀ {k i : Nat}, (∀ j, i ≤ j → j < i + k → p j = true → q j = true) → anyR p i k = true → anyR q i k = true
 | 0, _, _, h => by simp [anyR] at h
 | k + 1, i, hpq, h => by
  simp only [anyR, Bool.or_eq_true] at h ⊢
  rcases h with h | h
  ·exact .inl (hpq i (Nat.le_refl _) (by omega) h)
  ·exact .inr (anyR_mono (fun j h1 h2 => hpq j (by omega) (by omega)) h)
def neP (E : Nat → Nat → Bool) (size : Nat) : Nat → List Int → Nat → Nat → Bool
 | 0, _, first, last => E last first
 | d + 1, path, first, last => anyR (fun x => !(decide ((x : Int) ∈ path) || !E last x) && neP E size d (path ++ [(x : Int)]) first x) (first + 1) (size - (first + 1))
theorem neP_mono {E F : Nat → Nat → Bool} {size : Nat} (h : ∀ a b, a < size → b < size → E a b = true → F a b = true) : ∀ (d : Nat) (path : List Int) (first last : Nat), first < size → last < size → neP E size d path first last = true → neP F size d path first last = true
 | 0, _, first, last, h1, h2, he => h _ _ h2 h1 he
 | d + 1, path, first, last, h1, h2, he => by
  rw [neP] at he ⊢
  refine anyR_mono (fun j hj hk hp => ?_) he
  simp only [Bool.and_eq_true, Bool.not_eq_true', Bool.or_eq_false_iff, Bool.not_eq_false'] at hp ⊢
  exact ⟨⟨hp.1.1, h _ _ h2 (by omega) hp.1.2⟩, neP_mono h d _ first j h1 (by omega) hp.2⟩
def edgeP (s : List Int) (c : Constraint) (a b : Nat) : Bool := decide (1 ≤ s.getD (c.first + (a : Int) * c.size + (b : Int)).toNat 0)
structure GraphIn (c : Constraint) (s : List Int) (size : Nat) : Prop where
 sz : c.size = (size : Int)
 pos : 1 ≤ size
 six : size ≤ 6
 first : 0 ≤ c.first
 fits : c.first + (size * size : Nat) ≤ (s.length : Int)
 len : s.length ≤ 1000
theorem edge_eq {n : Nat} {c : Constraint} {s : List Int} {size a b : Nat} (h : GraphIn c s size) (ha : a < size) (hb : b < size) : ref12_edge n c s a b = some (edgeP s c a b) := by
 have h6 := h.six
 have hm : a * size + b < size * size := by
  have := Nat.mul_le_mul_right size (show a + 1 ≤ size by omega)
  rw [Nat.succ_mul] at this; omega
 have hf := h.fits
 have hl := h.len
 have h0 := h.first
 have hc : (a : Int) * c.size = ((a * size : Nat) : Int) := by rw [h.sz, Int.natCast_mul]
 unfold ref12_edge edgeP
 have e1 : mul64 (a : Int) c.size = ((a * size : Nat) : Int) := by unfold mul64; rw [hc]; exact w64_id (by omega) (by omega)
 have e2 : add64 c.first ((a * size : Nat) : Int) = c.first + ((a * size : Nat) : Int) := by unfold add64; exact w64_id (by omega) (by omega)
 have e3 : add64 (c.first + ((a * size : Nat) : Int)) (b : Int) = c.first + ((a * size : Nat) : Int) + (b : Int) := by unfold add64; exact w64_id (by omega) (by omega)
 rw [e1, e2, e3, hc, getD_idx (by omega) (by omega)]
 rfl
theorem ref12_has_eq {n : Nat} {l : List Int} {x : Int} (hl : l.length < 1000000) (hn : 1000000 ≤ n) : ref12_has n l x = some (decide (x ∈ l)) := by
 have := loopF_g (body := ref12_has.l1 n l x) (len := l.length) (st := fun i => (i : Int)) (g := fun i => some (decide (x ∈ l.drop i))) (fun rec i hi hr => ?_) (fun rec => ?_) n 0 (Nat.zero_le _) (by omega)
 ·simpa [ref12_has] using this
 ·simp only [ref12_has.l1, lt_len hi, if_true, idx_nat hi, Option.bind_some, add64_1 (show i < 4611686018427387904 by omega), hr]
  rw [drop_cons hi]
  by_cases h : l[i] = x
  ·rw [if_pos (by simpa using h)]
   simp only [List.mem_cons, h, true_or, decide_true]
  ·have h' : ¬ x = l[i] := fun e => h e.symm
   rw [if_neg (by simpa using h)]
   simp only [List.mem_cons, h', false_or]
 ·simp [ref12_has.l1]
theorem paths_eq {c : Constraint} {s : List Int} {size : Nat} (hG : GraphIn c s size) : ∀ (d m : Nat) (path : List Int) (first last : Nat), d ≤ 6 → 1000000 + d < m → 1 ≤ path.length → path.length + d ≤ 10 → idx path 0 = some (first : Int) → idx path ((path.length - 1 : Nat) : Int) = some (last : Int) → first < size → last < size →
  ∃ L, ref12_paths m c s path ((path.length + d : Nat) : Int) = some L ∧ (L ≠ [] ↔ neP (edgeP s c) size d path first last = true) ∧ L.length ≤ 6 ^ d ∧ ∀ p ∈ L, p ≠ []
 | d, 0, _, _, _, _, h, _, _, _, _, _, _ => by omega
 | 0, m + 1, path, first, last, _, hm, hp, hp2, h0, hl, hf, hla => by
  simp only [ref12_paths, ref12_paths.body]
  rw [sub64_1 (by omega) (by omega), hl, h0]
  simp only [Option.bind_some, Nat.add_zero, beq_self_eq_true, if_true, edge_eq hG hla hf, neP]
  cases edgeP s c last first with
  | true => exact ⟨[path], rfl, by simp, by simp, fun p hp' => by simp only [List.mem_singleton] at hp'; subst hp'; intro e; rw [e] at hp; simp at hp⟩
  | false => exact ⟨[], rfl, by simp, by simp, fun p hp' => by simp at hp'⟩
 | d + 1, m + 1, path, first, last, hd6, hm, hp, hp2, h0, hl, hf, hla => by
  have h6 := hG.six
  simp only [ref12_paths, ref12_paths.body]
  rw [sub64_1 (by omega) (by omega), hl, h0]
  simp only [Option.bind_some]
  rw [if_neg (by simp; omega), add64_1 (by omega), neP]
  have hpow : 1 ≤ 6 ^ d := Nat.one_le_pow _ _ (by decide)
  have hpow2 : 6 ^ d ≤ 46656 := Nat.le_trans (Nat.pow_le_pow_right (by decide) (show d ≤ 6 by omega)) (by decide)
  have main := loopF_M (body := ref12_paths.l1 m (ref12_paths m) c s path ((path.length + (d + 1) : Nat) : Int) (last : Int)) (fun st => size - st.2.toNat) (fun st => ∃ i : Nat, st.2 = (i : Int) ∧ i ≤ size ∧ st.1.length ≤ i * 6 ^ d)
   (fun st o => ∃ L, o = some (st.1 ++ L) ∧ (L ≠ [] ↔ anyR (fun x => !(decide ((x : Int) ∈ path) || !edgeP s c last x) && neP (edgeP s c) size d (path ++ [(x : Int)]) first x) st.2.toNat (size - st.2.toNat) = true) ∧ L.length ≤ (size - st.2.toNat) * 6 ^ d ∧ ∀ p ∈ L, p ≠ []) (fun rec st hI hr => by
    obtain ⟨b, x⟩ := st
    obtain ⟨i, rfl, hi, hb⟩ := hI
    simp only [] at hb hr
    simp only [ref12_paths.l1, jn, Int.toNat_natCast]
    by_cases hlt : i < size
    ·have hsz : decide ((i : Int) < c.size) = true := by rw [hG.sz]; exact lt_nat hlt
     have hb2 : b.length ≤ 300000 := by
      have : i * 6 ^ d ≤ 6 * 46656 := Nat.mul_le_mul (by omega) hpow2
      omega
     simp only [hsz, if_true, ref12_has_eq (show path.length < 1000000 by omega) (show 1000000 ≤ m by omega), edge_eq hG hla hlt, Option.bind_some, Option.isSome_some, Bool.or_true, grd, Option.getD_some, add64_1 (show i < 4611686018427387904 by omega)]
     rw [show size - i = (size - (i + 1)) + 1 by omega, anyR]
     have hnx : ∀ b' : List (List Int), b'.length ≤ (i + 1) * 6 ^ d → ∃ L, rec (b', ((i + 1 : Nat) : Int)) = some (b' ++ L) ∧ (L ≠ [] ↔ anyR (fun x => !(decide ((x : Int) ∈ path) || !edgeP s c last x) && neP (edgeP s c) size d (path ++ [(x : Int)]) first x) (i + 1) (size - (i + 1)) = true) ∧ L.length ≤ (size - (i + 1)) * 6 ^ d ∧ ∀ p ∈ L, p ≠ [] := fun b' hb' => by
      have := hr (b', ((i + 1 : Nat) : Int)) ⟨i + 1, rfl, by omega, hb'⟩ (by simp only [Int.toNat_natCast]; omega)
      simpa only [Int.toNat_natCast] using this
     by_cases hsk : (decide ((i : Int) ∈ path) || !edgeP s c last i) = true
     ·rw [if_pos hsk, hsk]
      obtain ⟨L, l1, l2, l3, l4⟩ := hnx b (by rw [Nat.succ_mul]; omega)
      refine ⟨L, l1, by simpa using l2, by rw [Nat.succ_mul]; omega, l4⟩
     ·rw [if_neg hsk]
      simp only [Bool.not_eq_true] at hsk
      rw [hsk, app_some (by simp; omega), Option.bind_some, app_some (by simp; omega), Option.bind_some]
      simp only [List.nil_append]
      obtain ⟨L', p1, p2, p3, p4⟩ := paths_eq hG d m (path ++ [(i : Int)]) first i (by omega) (by omega) (by simp) (by simp; omega) (by
       obtain ⟨y, hy⟩ : ∃ y, y = path := ⟨_, rfl⟩
       cases path with
       | nil => simp at hp
       | cons z zs => simpa [idx] using h0) (by
       have : (path ++ [(i : Int)]).length - 1 = path.length := by simp
       rw [this, idx_nat (by simp)]; simp) hf hlt
      have e : ((path ++ [(i : Int)]).length + d : Nat) = path.length + (d + 1) := by simp; omega
      rw [e] at p1
      rw [p1, Option.bind_some, app_some (by omega), Option.bind_some]
      obtain ⟨L, l1, l2, l3, l4⟩ := hnx (b ++ L') (by rw [List.length_append, Nat.succ_mul]; omega)
      refine ⟨L' ++ L, by rw [l1, List.append_assoc], ?_, by rw [List.length_append, Nat.succ_mul]; omega, fun p hp' => ?_⟩
      ·simp only [Bool.not_false, Bool.true_and, Bool.or_eq_true, ← p2, ← l2, ne_eq, List.append_eq_nil_iff]
       constructor
       ·intro h
        by_cases hx : L' = []
        ·exact .inr fun hy => h ⟨hx, hy⟩
        ·exact .inl hx
       ·rintro (h | h) ⟨h1, h2⟩
        ·exact h h1
        ·exact h h2
      ·rcases List.mem_append.1 hp' with h | h
       ·exact p4 p h
       ·exact l4 p h
    ·have hie : i = size := by omega
     have hsz : decide ((i : Int) < c.size) = false := by rw [hG.sz]; exact ge_nat (by omega)
     simp only [hsz, Bool.false_eq_true, if_false]
     exact ⟨[], by simp, by simp [hie, anyR], by simp, fun p hp' => by simp at hp'⟩) m ([], ((first + 1 : Nat) : Int)) ⟨first + 1, rfl, by omega, by simp⟩ (by simp; omega)
  obtain ⟨L, l1, l2, l3, l4⟩ := main
  simp only [Int.toNat_natCast, List.nil_append] at l1 l2 l3
  refine ⟨L, l1, l2, ?_, l4⟩
  rw [Nat.pow_succ, Nat.mul_comm]
  exact Nat.le_trans l3 (Nat.mul_le_mul_right _ (by omega))
end Go.Proofs.YtcagdmegicijlaaGreatDoor
namespace Go.Proofs.YtcagdmegicijlaaGreatDoor
open Go Go.RowKit
def acycE (E : Nat → Nat → Bool) (size : Nat) : Bool := allR (fun len => allR (fun a => !neP E size (len - 1) [(a : Int)] a a) 0 size) 1 size
theorem acycE_mono {E F : Nat → Nat → Bool} {size : Nat} (h : ∀ a b, a < size → b < size → E a b = true → F a b = true) (hF : acycE F size = true) : acycE E size = true := by
 unfold acycE at hF ⊢
 rw [allR_iff] at hF ⊢
 intro len h1 h2
 have := hF len h1 h2
 rw [allR_0] at this ⊢
 intro a ha
 have hn := this a ha
 cases hx : neP E size (len - 1) [(a : Int)] a a with
 | false => rfl
 | true => rw [neP_mono h _ _ _ _ ha ha hx] at hn; exact hn
theorem Cycle_eq {n : Nat} {c : Constraint} {s : List Int} {size : Nat} (hk : c.kind = 1) (hG : GraphIn c s size) (hn : 4294967296 ≤ n) : ∃ l, ref12_Cycle n c s = some l ∧ ((l.length : Int) == 0) = acycE (edgeP s c) size := by
 have h6 := hG.six
 have hpos := hG.pos
 have hfits := hG.fits
 have hlen := hG.len
 have h0 := hG.first
 have hsq : ((size * size : Nat) : Int) = (size : Int) * (size : Int) := Int.natCast_mul _ _
 have hin : ref12_inside n c (s.length : Int) = some true := by
  unfold ref12_inside
  have e1 : mul64 c.size c.size = ((size * size : Nat) : Int) := by
   unfold mul64
   have : size * size ≤ 6 * 6 := Nat.mul_le_mul h6 h6
   rw [hG.sz, ← hsq]; exact w64_id (by omega) (by omega)
  have e2 : sub64 (s.length : Int) ((size * size : Nat) : Int) = (s.length : Int) - ((size * size : Nat) : Int) := by
   have : size * size ≤ 6 * 6 := Nat.mul_le_mul h6 h6
   unfold sub64; exact w64_id (by omega) (by omega)
  rw [if_pos (by simp [hk]), e1, e2, hG.sz]
  simp only [Option.some.injEq, Bool.and_eq_true, decide_eq_true_eq]
  omega
 unfold ref12_Cycle
 rw [hin]
 simp only [hk, bne_self_eq_false, Option.isSome_some, Bool.or_true, grd, if_true, Option.getD_some, Bool.not_true, Bool.or_self, Bool.false_eq_true, if_false]
 -- one length
 have inner : ∀ (len : Nat), 1 ≤ len → len ≤ 6 → ∀ rec : Int → Option (List Int), (∃ l, loopF (ref12_Cycle.l2 n c s (len : Int) rec) n 0 = some l ∧ l ≠ [] ∧ allR (fun a => !neP (edgeP s c) size (len - 1) [(a : Int)] a a) 0 size = false) ∨ (loopF (ref12_Cycle.l2 n c s (len : Int) rec) n 0 = rec ((len + 1 : Nat) : Int) ∧ allR (fun a => !neP (edgeP s c) size (len - 1) [(a : Int)] a a) 0 size = true) := fun len hl1 hl6 rec => by
  have := loopF_M (body := ref12_Cycle.l2 n c s (len : Int) rec) (fun st => size - st.toNat) (fun st => ∃ i : Nat, st = (i : Int) ∧ i ≤ size) (fun st o => (∃ l, o = some l ∧ l ≠ [] ∧ allR (fun a => !neP (edgeP s c) size (len - 1) [(a : Int)] a a) st.toNat (size - st.toNat) = false) ∨ (o = rec ((len + 1 : Nat) : Int) ∧ allR (fun a => !neP (edgeP s c) size (len - 1) [(a : Int)] a a) st.toNat (size - st.toNat) = true)) (fun rec' st hI hr => by
   obtain ⟨i, rfl, hi⟩ := hI
   simp only [ref12_Cycle.l2, Int.toNat_natCast]
   by_cases hlt : i < size
   ·have hsz : decide ((i : Int) < c.size) = true := by rw [hG.sz]; exact lt_nat hlt
    obtain ⟨L, p1, p2, p3, p4⟩ := paths_eq hG (len - 1) n [(i : Int)] i i (by omega) (by omega) (by simp) (by simp; omega) (by simp [idx]) (by simp [idx]) hlt hlt
    have e : ([(i : Int)].length + (len - 1) : Nat) = len := by simp; omega
    rw [e] at p1
    simp only [hsz, if_true, p1, Option.bind_some, add64_1 (show i < 4611686018427387904 by omega)]
    rw [show size - i = (size - (i + 1)) + 1 by omega, allR]
    by_cases hL : L = []
    ·subst hL
     rw [if_neg (by simp)]
     have hne : neP (edgeP s c) size (len - 1) [(i : Int)] i i = false := by
      cases hx : neP (edgeP s c) size (len - 1) [(i : Int)] i i with
      | false => rfl
      | true => exact absurd rfl (p2.2 hx)
     rw [hne]
     have := hr ((i + 1 : Nat) : Int) ⟨i + 1, rfl, by omega⟩ (by simp only [Int.toNat_natCast]; omega)
     simpa using this
    ·have hpl : 0 < L.length := List.length_pos_iff.2 hL
     rw [if_pos (by simpa using hpl)]
     have hne := p2.1 hL
     rw [hne]
     have hx : idx L 0 = some L[0] := idx_nat (l := L) (i := 0) hpl
     rw [hx]
     exact .inl ⟨L[0], rfl, p4 _ (List.getElem_mem hpl), by simp⟩
   ·have hie : i = size := by omega
    have hsz : decide ((i : Int) < c.size) = false := by rw [hG.sz]; exact ge_nat (by omega)
    simp only [hsz, Bool.false_eq_true, if_false, add64_1 (show len < 4611686018427387904 by omega)]
    exact .inr ⟨trivial, by simp [hie, allR]⟩) n 0 ⟨0, rfl, by omega⟩ (by simp; omega)
  simpa using this
 have := loopF_M (body := ref12_Cycle.l1 n c s) (fun st => size + 1 - st.toNat) (fun st => ∃ i : Nat, st = (i : Int) ∧ 1 ≤ i ∧ i ≤ size + 1) (fun st o => ∃ l, o = some l ∧ ((l.length : Int) == 0) = allR (fun len => allR (fun a => !neP (edgeP s c) size (len - 1) [(a : Int)] a a) 0 size) st.toNat (size + 1 - st.toNat)) (fun rec st hI hr => by
  obtain ⟨i, rfl, hi1, hi⟩ := hI
  simp only [ref12_Cycle.l1, Int.toNat_natCast]
  by_cases hlt : i ≤ size
  ·have hsz : decide ((i : Int) ≤ c.size) = true := by rw [hG.sz]; simpa using hlt
   rw [hsz, if_pos rfl, show size + 1 - i = (size + 1 - (i + 1)) + 1 by omega, allR]
   rcases inner i hi1 (by omega) rec with ⟨l, q1, q2, q3⟩ | ⟨q1, q2⟩
   ·rw [q1, q3]
    exact ⟨l, rfl, by simpa using q2⟩
   ·rw [q1, q2]
    have := hr ((i + 1 : Nat) : Int) ⟨i + 1, rfl, by omega, by omega⟩ (by simp only [Int.toNat_natCast]; omega)
    simpa using this
  ·have hie : i = size + 1 := by omega
   have hsz : decide ((i : Int) ≤ c.size) = false := by rw [hG.sz]; simp; omega
   rw [hsz, if_neg (by simp)]
   exact ⟨[], rfl, by simp [hie, allR]⟩) n 1 ⟨1, rfl, by omega, by omega⟩ (by simp; omega)
 simpa [acycE] using this
inductive ConIn (c : Constraint) (k : Nat) : Prop
 | row : c.kind = 0 → (∀ t ∈ c.row.terms, termOK k t) → c.row.terms.length ≤ 1000 → (-4000000000 ≤ c.row.bound ∧ c.row.bound ≤ 4000000000) → ConIn c k
 | graph (size : Nat) : c.kind = 1 → c.size = (size : Int) → 1 ≤ size → size ≤ 6 → 0 ≤ c.first → c.first + (size * size : Nat) ≤ (k : Int) → ConIn c k
def holdsP (c : Constraint) (s : List Int) : Bool := if c.kind = 1 then acycE (edgeP s c) c.size.toNat else decide (sumP s c.row.terms ≤ c.row.bound)
theorem Holds_eq {n : Nat} {c : Constraint} {s : List Int} (hC : ConIn c s.length) (hs : smallS s) (hl : s.length ≤ 1000) (hn : 4294967296 ≤ n) : ref14_Holds n c s = some (holdsP c s) := by
 unfold ref14_Holds ref12_Holds holdsP
 cases hC with
 | row hk ht htl hb =>
  have hin : ref12_inside n c (s.length : Int) = some true := by
   unfold ref12_inside
   rw [if_neg (by simp [hk])]
   have := loopF_g (body := ref12_inside.l1 n c (s.length : Int)) (len := c.row.terms.length) (st := fun i => (i : Int)) (g := fun _ => some true) (fun rec i hi hr => ?_) (fun rec => ?_) n 0 (Nat.zero_le _) (by omega)
   ·simpa using this
   ·obtain ⟨t1, t2, -⟩ := ht _ (List.getElem_mem hi)
    have h1 : decide (c.row.terms[i].cell < 0) = false := by simp; omega
    have h2 : decide ((s.length : Int) ≤ c.row.terms[i].cell) = false := by simp; omega
    simp only [ref12_inside.l1, lt_len hi, if_true, idx_nat hi, Option.bind_some, Option.isSome_some, Bool.or_true, grd, Option.getD_some, h1, h2, Bool.or_self, Bool.false_eq_true, if_false, add64_1 (show i < 4611686018427387904 by omega), hr]
   ·simp [ref12_inside.l1, hk]
  have hk1 : ¬ c.kind = 1 := by omega
  rw [hin, Option.bind_some, if_neg (by simp), if_neg (by simp [hk]), ref12_small_eq ht htl hs hb (by omega), if_neg hk1]
  rfl
 | graph size hk hsz h1 h6 h0 hf =>
  have hG : GraphIn c s size := ⟨hsz, h1, h6, h0, hf, hl⟩
  obtain ⟨l, hc1, hc2⟩ := Cycle_eq hk hG hn
  have hin : ref12_inside n c (s.length : Int) = some true := by
   have hsq : ((size * size : Nat) : Int) = (size : Int) * (size : Int) := Int.natCast_mul _ _
   have : size * size ≤ 6 * 6 := Nat.mul_le_mul h6 h6
   unfold ref12_inside
   have e1 : mul64 c.size c.size = ((size * size : Nat) : Int) := by unfold mul64; rw [hsz, ← hsq]; exact w64_id (by omega) (by omega)
   have e2 : sub64 (s.length : Int) ((size * size : Nat) : Int) = (s.length : Int) - ((size * size : Nat) : Int) := by unfold sub64; exact w64_id (by omega) (by omega)
   rw [if_pos (by simp [hk]), e1, e2, hsz]
   simp only [Option.some.injEq, Bool.and_eq_true, decide_eq_true_eq]
   omega
  rw [hin, Option.bind_some, if_neg (by simp), if_pos (by simp [hk]), hc1, if_pos hk, hsz]
  simp only [Option.bind_some, hc2, Int.toNat_natCast]
end Go.Proofs.YtcagdmegicijlaaGreatDoor
namespace Go.Proofs.YtcagdmegicijlaaGreatDoor
open Go Go.RowKit
noncomputable def openP (n : Nat) (m : Model) (q : Question) : Bool := (condition_open n m q).getD false
theorem open_def {n : Nat} {m : Model} {q : Question} (hG : Good n m) (he : 0 ≤ q.e ∧ q.e < (m.actions.length : Int)) (hf : 0 ≤ q.f ∧ q.f < (m.actions.length : Int)) (hi : 0 ≤ q.target.index)
  (hh : q.target.hold = true → ∀ a, idx m.actions q.e = some a → q.target.index < (a.effect.hold.length : Int)) (hc : q.target.hold = false → q.target.index < (m.constraints.length : Int)) :
  condition_open n m q = some (openP n m q) ∧ ref22_open n m q = some (openP n m q) := by
 obtain ⟨b, h1, h2⟩ := open_eq hG he hf hi hh hc
 unfold openP
 rw [h1]
 exact ⟨rfl, h2⟩
def qC (e f i : Nat) : Question := ⟨(e : Int), (f : Int), ⟨false, (i : Int)⟩⟩
def qH (e f i : Nat) : Question := ⟨(e : Int), (f : Int), ⟨true, (i : Int)⟩⟩
def candC (e f k : Nat) : List Question := if e ≤ f then (List.range k).map (qC e f) else []
def candH (e f k : Nat) : List Question := (List.range k).map (qH e f)
def cand (m : Model) (e f : Nat) (a : Action) : List Question := candC e f m.constraints.length ++ candH e f a.effect.hold.length
def actN (m : Model) (e : Nat) : Action := (idx m.actions (e : Int)).getD default
noncomputable def rowQ (n : Nat) (m : Model) (e k : Nat) : List Question := (List.range k).flatMap fun f => (cand m e f (actN m e)).filter (openP n m)
noncomputable def questsQ (n : Nat) (m : Model) (k : Nat) : List Question := (List.range k).flatMap fun e => rowQ n m e m.actions.length
theorem actN_eq {m : Model} {e : Nat} (h : e < m.actions.length) : idx m.actions (e : Int) = some (actN m e) ∧ actN m e = m.actions[e] := by
 unfold actN
 rw [idx_nat h]
 exact ⟨rfl, rfl⟩
theorem range_snoc {β : Type} (g : Nat → List β) (k : Nat) : (List.range (k + 1)).flatMap g = (List.range k).flatMap g ++ g k := by
 rw [List.range_succ, List.flatMap_append]; simp
theorem map_snoc {β : Type} (g : Nat → β) (k : Nat) : (List.range (k + 1)).map g = (List.range k).map g ++ [g k] := by
 rw [List.range_succ, List.map_append]; rfl
theorem candC_len (e f k : Nat) : (candC e f k).length ≤ k := by
 unfold candC; split <;> simp
theorem cand_len {m : Model} (hS : SmallM m) {e f : Nat} (he : e < m.actions.length) : (cand m e f (actN m e)).length ≤ 70 := by
 have h1 := candC_len e f m.constraints.length
 have h2 := hS.constraints
 obtain ⟨-, -, a3, -⟩ := hS.act _ (List.getElem_mem he)
 rw [(actN_eq he).2]
 simp only [cand, candH, List.length_append, List.length_map, List.length_range]
 omega
theorem rowQ_len {n : Nat} {m : Model} (hS : SmallM m) {e : Nat} (he : e < m.actions.length) : ∀ k, (rowQ n m e k).length ≤ k * 70
 | 0 => by simp [rowQ]
 | k + 1 => by
  have ih := rowQ_len (n := n) hS he k
  have h1 := cand_len hS (f := k) he
  have h2 := List.length_filter_le (openP n m) (cand m e k (actN m e))
  unfold rowQ at ih ⊢
  rw [range_snoc, List.length_append]
  omega
theorem questsQ_len {n : Nat} {m : Model} (hS : SmallM m) : ∀ k, k ≤ m.actions.length → (questsQ n m k).length ≤ k * 2100
 | 0, _ => by simp [questsQ]
 | k + 1, h => by
  have ih := questsQ_len (n := n) hS k (by omega)
  have h1 := rowQ_len (n := n) hS (e := k) (by omega) m.actions.length
  have h2 := hS.actions
  unfold questsQ at ih ⊢
  rw [range_snoc, List.length_append]
  omega
theorem cand_open {n : Nat} {m : Model} (hG : Good n m) {e f : Nat} (he : e < m.actions.length) (hf : f < m.actions.length) : ∀ q ∈ cand m e f (actN m e), condition_open n m q = some (openP n m q) ∧ ref22_open n m q = some (openP n m q) := by
 intro q hq
 simp only [cand, candC, candH, List.mem_append] at hq
 rcases hq with hq | hq
 ·split at hq
  ·simp only [List.mem_map, List.mem_range] at hq
   obtain ⟨i, hi, rfl⟩ := hq
   exact open_def hG ⟨by simp [qC], by simp only [qC]; omega⟩ ⟨by simp [qC], by simp only [qC]; omega⟩ (by simp [qC]) (fun h => by simp [qC] at h) (fun _ => by simp only [qC]; omega)
  ·simp at hq
 ·simp only [List.mem_map, List.mem_range] at hq
  obtain ⟨i, hi, rfl⟩ := hq
  refine open_def hG ⟨by simp [qH], by simp only [qH]; omega⟩ ⟨by simp [qH], by simp only [qH]; omega⟩ (by simp [qH]) (fun _ a ha => ?_) (fun h => by simp [qH] at h)
  simp only [qH] at ha ⊢
  rw [(actN_eq he).1] at ha
  cases ha
  omega
theorem ixP_spec {α : Type} (p : α → Bool) : ∀ (l : List α) (i : Nat), (ixP p l i = -1 ∧ ∀ x ∈ l, p x = false) ∨ ∃ k, ∃ h : k < l.length, ixP p l i = ((i + k : Nat) : Int) ∧ p l[k] = true ∧ ∀ x ∈ l.take k, p x = false
 | [], i => .inl ⟨rfl, fun x hx => by simp at hx⟩
 | x :: l, i => by
  rw [ixP]
  by_cases h : p x = true
  ·rw [if_pos h]
   exact .inr ⟨0, by simp, rfl, h, fun y hy => by simp at hy⟩
  ·rw [if_neg h]
   rcases ixP_spec p l (i + 1) with ⟨h1, h2⟩ | ⟨k, hk, h1, h2, h3⟩
   ·refine .inl ⟨h1, fun y hy => ?_⟩
    simp only [List.mem_cons] at hy
    rcases hy with rfl | hy
    ·simpa using h
    ·exact h2 y hy
   ·refine .inr ⟨k + 1, by simpa using hk, by rw [h1]; omega, by simpa using h2, fun y hy => ?_⟩
    simp only [List.take_succ_cons, List.mem_cons] at hy
    rcases hy with rfl | hy
    ·simpa using h
    ·exact h3 y hy
theorem IndexFunc_Q_eq {n : Nat} {l : List Question} {f : Question → Option Bool} {p : Question → Bool} (hf : ∀ x ∈ l, f x = some (p x)) (hl : l.length < 1000000) (hn : 1000000 ≤ n) : slices_IndexFunc_LQuestion_api_Question n l f = some (ixP p l 0) := by
 have := loopF_g (body := slices_IndexFunc_LQuestion_api_Question.l1 n l f) (len := l.length) (st := fun i => (i : Int)) (g := fun i => some (ixP p (l.drop i) i)) (fun rec i hi hr => ?_) (fun rec => ?_) n 0 (Nat.zero_le _) (by omega)
 ·simpa [slices_IndexFunc_LQuestion_api_Question] using this
 ·simp only [slices_IndexFunc_LQuestion_api_Question.l1, lt_len hi, if_true, idx_nat hi, Option.bind_some, hf _ (List.getElem_mem hi), add64_1 (show i < 4611686018427387904 by omega), hr]
  rw [drop_cons hi]
  simp only [ixP]
  split <;> rfl
 ·simp [slices_IndexFunc_LQuestion_api_Question.l1, ixP]
theorem filter_take_succ {α : Type} {p : α → Bool} {l : List α} {i : Nat} (h : i < l.length) : (l.take (i + 1)).filter p = (l.take i).filter p ++ if p l[i] = true then [l[i]] else [] := by
 rw [List.take_succ_eq_append_getElem h, List.filter_append]
 congr 1
 by_cases hp : p l[i] = true <;> simp [hp]
theorem delete_loop {n : Nat} {m : Model} {out L : List Question} {k : List Question → Option (List Question)} {i0 : Nat} (hL : L.length ≤ 1000) (ho : out.length ≤ 1000000) (hq : ∀ q ∈ L, condition_open n m q = some (openP n m q)) (hn : 1000000 ≤ n)
  (hi : i0 < L.length) (h0 : openP n m L[i0] = false) (hpre : ∀ q ∈ L.take i0, openP n m q = true) :
  loopF (condition_Questions.l5 n m out k) n (L, (i0 : Int), ((i0 + 1 : Nat) : Int)) = k (out ++ L.filter (openP n m)) := by
 refine loopF_M (body := condition_Questions.l5 n m out k) (fun s => L.length - s.2.2.toNat) (fun s => ∃ a b : Nat, s.2.1 = (a : Int) ∧ s.2.2 = (b : Int) ∧ a < b ∧ b ≤ L.length ∧ s.1.length = L.length ∧ s.1.take a = (L.take b).filter (openP n m) ∧ s.1.drop b = L.drop b) (fun _ o => o = k (out ++ L.filter (openP n m))) (fun rec s hI hr => ?_) n _ ⟨i0, i0 + 1, rfl, rfl, by omega, by omega, rfl, ?_, rfl⟩ (by simp; omega)
 ·obtain ⟨B, x5, x6⟩ := s
  obtain ⟨a, b, rfl, rfl, hab, hbL, hB, hta, hdb⟩ := hI
  simp only [] at hB hta hdb hr
  simp only [condition_Questions.l5, jn]
  by_cases hlt : b < L.length
  ·have hbB : b < B.length := by omega
   have hel : B[b] = L[b] := by
    have h1 := drop_cons hbB
    have h2 := drop_cons hlt
    rw [hdb, h2] at h1
    exact (List.cons.inj h1).1.symm
   have haB : a < B.length := by omega
   have hsto : sto B (a : Int) L[b] = some (B.set a L[b]) := by unfold sto; rw [if_pos ⟨by omega, by simpa using haB⟩]; rfl
   rw [if_pos (lt_len hbB), idx_nat hbB, hel]
   simp only [Option.bind_some, condition_Questions_1, hq _ (List.getElem_mem hlt), add64_1 (show a < 4611686018427387904 by omega), add64_1 (show b < 4611686018427387904 by omega), idx_nat haB, hsto, Bool.not_not]
   have hdb' : B.drop (b + 1) = L.drop (b + 1) := by rw [← List.tail_drop, hdb, List.tail_drop]
   cases ho : openP n m L[b] with
   | true =>
    rw [if_pos rfl]
    refine hr (B.set a L[b], ((a + 1 : Nat) : Int), ((b + 1 : Nat) : Int)) ⟨a + 1, b + 1, rfl, rfl, by omega, by omega, by simp [hB], ?_, ?_⟩ (by simp only [Int.toNat_natCast]; omega)
    ·simp only []
     rw [filter_take_succ hlt, ho, if_pos rfl, ← hta, List.take_succ_eq_append_getElem (by simpa using haB), List.take_set_of_le (Nat.le_refl a)]
     simp
    ·simp only []
     rw [List.drop_set_of_lt (by omega), hdb']
   | false =>
    rw [if_neg (by simp)]
    refine hr (B, (a : Int), ((b + 1 : Nat) : Int)) ⟨a, b + 1, rfl, rfl, by omega, by omega, hB, ?_, hdb'⟩ (by simp only [Int.toNat_natCast]; omega)
    simp only []
    rw [filter_take_succ hlt, ho, if_neg (by simp), List.append_nil, hta]
  ·have hbe : b = L.length := by omega
   rw [if_neg (by rw [ge_nat (by omega)]; simp), cut_end (by omega)]
   have hcl : (copyTo B a B.length (List.replicate (B.length - a) (⟨0, 0, ⟨false, 0⟩⟩ : Question))).length = B.length := copyTo_length (by omega) (Nat.le_refl _)
   have hc := cut_nat (l := copyTo B a B.length (List.replicate (B.length - a) (⟨0, 0, ⟨false, 0⟩⟩ : Question))) (a := 0) (b := a) (by omega) (by omega)
   simp only [Int.natCast_zero] at hc
   simp only [Option.bind_some, Int.toNat_natCast, hc]
   have htk : ((copyTo B a B.length (List.replicate (B.length - a) (⟨0, 0, ⟨false, 0⟩⟩ : Question))).drop 0).take (a - 0) = L.filter (openP n m) := by
    rw [List.drop_zero, Nat.sub_zero]
    unfold copyTo
    rw [List.take_append_of_le_length (by simp; omega), List.take_take, Nat.min_self, hta, hbe, List.take_length]
   have hfl := List.length_filter_le (openP n m) L
   rw [htk, app_some (by omega), Option.bind_some]
 ·simp only []
  rw [filter_take_succ hi, h0, if_neg (by simp), List.append_nil, List.filter_eq_self.2 hpre]
theorem delete_eq {n : Nat} {m : Model} {out : List Question} {L : List Question} {k : List Question → Option (List Question)} (hL : L.length ≤ 1000) (ho : out.length ≤ 1000000) (hq : ∀ q ∈ L, condition_open n m q = some (openP n m q)) (hn : 1000000 ≤ n) :
  ((slices_IndexFunc_LQuestion_api_Question n L (fun q0 => condition_Questions_1 n q0 m)).bind fun x10_1340 =>
   if (x10_1340 == (-1)) = true then
    (Go.Proofs.YtcagdmegicijlaaGreatDoor.app 32 out L).bind fun x66_1342 => k x66_1342
   else loopF (condition_Questions.l5 n m out k) n (L, x10_1340, add64 x10_1340 1)) = k (out ++ L.filter (openP n m)) := by
 rw [IndexFunc_Q_eq (p := fun q => !openP n m q) (fun q h => by unfold condition_Questions_1; rw [hq q h]; rfl) (by omega) hn, Option.bind_some]
 rcases ixP_spec (fun q => !openP n m q) L 0 with ⟨h1, h2⟩ | ⟨i, hi, h1, h2, h3⟩
 ·rw [h1, if_pos (by decide), app_some (by omega), Option.bind_some, List.filter_eq_self.2 fun q hq' => by simpa using h2 q hq']
 ·rw [h1, Nat.zero_add, if_neg (by simp), add64_1 (by omega)]
  exact delete_loop hL ho hq hn hi (by simpa using h2) fun q hq' => by simpa using h3 q hq'
theorem Questions_pair {n : Nat} {m : Model} (hS : SmallM m) (hG : Good n m) {e f : Nat} (he : e < m.actions.length) (hf : f < m.actions.length) {out : List Question} (ho : out.length ≤ 1000000) {k : List Question → Option (List Question)} (hn : 1000000 ≤ n) :
  loopF (condition_Questions.l3 n m (e : Int) out (f : Int) k) n ([], 0) = k (out ++ (cand m e f (actN m e)).filter (openP n m)) := by
 have hcl := hS.constraints
 have hcand := cand_len hS (f := f) he
 obtain ⟨-, -, a3, -⟩ := hS.act _ (List.getElem_mem he)
 rw [← (actN_eq he).2] at a3
 have second : ∀ C : List Question, C.length ≤ 100 → loopF (condition_Questions.l4 n m (e : Int) out (f : Int) k (actN m e)) n (C, 0) = ((slices_IndexFunc_LQuestion_api_Question n (C ++ candH e f (actN m e).effect.hold.length) (fun q0 => condition_Questions_1 n q0 m)).bind fun x10_1340 =>
   if (x10_1340 == (-1)) = true then
    (Go.Proofs.YtcagdmegicijlaaGreatDoor.app 32 out (C ++ candH e f (actN m e).effect.hold.length)).bind fun x66_1342 => k x66_1342
   else loopF (condition_Questions.l5 n m out k) n (C ++ candH e f (actN m e).effect.hold.length, x10_1340, add64 x10_1340 1)) := fun C hC => by
  have := loopF_g (body := condition_Questions.l4 n m (e : Int) out (f : Int) k (actN m e)) (len := (actN m e).effect.hold.length) (st := fun i => (C ++ candH e f i, (i : Int))) (g := fun _ => ((slices_IndexFunc_LQuestion_api_Question n (C ++ candH e f (actN m e).effect.hold.length) (fun q0 => condition_Questions_1 n q0 m)).bind fun x10_1340 =>
   if (x10_1340 == (-1)) = true then
    (Go.Proofs.YtcagdmegicijlaaGreatDoor.app 32 out (C ++ candH e f (actN m e).effect.hold.length)).bind fun x66_1342 => k x66_1342
   else loopF (condition_Questions.l5 n m out k) n (C ++ candH e f (actN m e).effect.hold.length, x10_1340, add64 x10_1340 1))) (fun rec i hi hr => ?_) (fun rec => ?_) n 0 (Nat.zero_le _) (by omega)
  ·simpa [candH] using this
  ·simp only [condition_Questions.l4, lt_len hi, if_true, add64_1 (show i < 4611686018427387904 by omega)]
   rw [app_some (by simp [candH]; omega), Option.bind_some]
   unfold candH at hr ⊢
   rw [map_snoc, ← List.append_assoc] at hr
   exact hr
  ·simp only [condition_Questions.l4, ge_len, Bool.false_eq_true, if_false]
 have first : loopF (condition_Questions.l3 n m (e : Int) out (f : Int) k) n ([], 0) = loopF (condition_Questions.l4 n m (e : Int) out (f : Int) k (actN m e)) n (candC e f m.constraints.length, 0) := by
  have := loopF_g (body := condition_Questions.l3 n m (e : Int) out (f : Int) k) (len := m.constraints.length) (st := fun i => (candC e f i, (i : Int))) (g := fun _ => loopF (condition_Questions.l4 n m (e : Int) out (f : Int) k (actN m e)) n (candC e f m.constraints.length, 0)) (fun rec i hi hr => ?_) (fun rec => ?_) n 0 (Nat.zero_le _) (by omega)
  ·simpa [candC] using this
  ·have hl := candC_len e f i
   simp only [condition_Questions.l3, jn, lt_len hi, if_true, add64_1 (show i < 4611686018427387904 by omega)]
   by_cases hef : e ≤ f
   ·rw [if_pos (by simpa using hef), app_some (by simp; omega), Option.bind_some]
    unfold candC at hr ⊢
    rw [if_pos hef] at hr ⊢
    rw [map_snoc] at hr
    exact hr
   ·rw [if_neg (by simpa using hef)]
    unfold candC at hr ⊢
    rw [if_neg hef] at hr ⊢
    exact hr
  ·simp only [condition_Questions.l3, ge_len, Bool.false_eq_true, if_false, (actN_eq he).1, Option.bind_some]
 rw [first, second _ (by have := candC_len e f m.constraints.length; omega)]
 exact delete_eq (L := cand m e f (actN m e)) (by omega) ho (fun q hq => (cand_open hG he hf q hq).1) hn
theorem condition_Questions_eq {n : Nat} {m : Model} (hF : Fuel n) (hS : SmallM m) : condition_Questions n m = some (if validP m = true then questsQ n m m.actions.length else []) := by
 have hn := hF.big
 have hal := hS.actions
 unfold condition_Questions
 rw [model_Valid_eq hF hS, Option.bind_some]
 cases hv : validP m with
 | false => simp
 | true =>
  have hG := good_of_valid hn hS (validP_iff.1 hv)
  rw [if_neg (by simp), if_pos rfl]
  have := loopF_g (body := condition_Questions.l1 n m) (len := m.actions.length) (st := fun e => (questsQ n m e, (e : Int))) (g := fun _ => some (questsQ n m m.actions.length)) (fun rec e he hr => ?_) (fun rec => ?_) n 0 (Nat.zero_le _) (by omega)
  ·simpa [questsQ] using this
  ·simp only [condition_Questions.l1, lt_len he, if_true]
   have hql := questsQ_len (n := n) hS e (by omega)
   have inner := loopF_g (body := condition_Questions.l2 n m (e : Int) rec) (len := m.actions.length) (st := fun f => (questsQ n m e ++ rowQ n m e f, (f : Int))) (g := fun _ => some (questsQ n m m.actions.length)) (fun rec' f hf hr' => ?_) (fun rec' => ?_) n 0 (Nat.zero_le _) (by omega)
   ·simpa [rowQ] using inner
   ·have hrl := rowQ_len (n := n) hS he f
    simp only [condition_Questions.l2, jn, lt_len hf, if_true, add64_1 (show f < 4611686018427387904 by omega)]
    rw [Questions_pair hS hG he hf (by rw [List.length_append]; omega) (by omega)]
    unfold rowQ at hr' ⊢
    rw [range_snoc, ← List.append_assoc] at hr'
    exact hr'
   ·simp only [condition_Questions.l2, ge_len, Bool.false_eq_true, if_false, add64_1 (show e < 4611686018427387904 by omega)]
    unfold questsQ at hr ⊢
    rw [range_snoc] at hr
    exact hr
  ·simp [condition_Questions.l1]
end Go.Proofs.YtcagdmegicijlaaGreatDoor
namespace Go.Proofs.YtcagdmegicijlaaGreatDoor
open Go Go.RowKit
def boxM (m : Model) : List Range := rangesP m.sorts true m.tables
theorem rangesP_mem {sizes : List Int} {s : Bool} : ∀ {l : List Table} {r : Range}, r ∈ rangesP sizes s l → ∃ t ∈ l, r = t.range
 | [], r, h => by simp [rangesP] at h
 | t :: l, r, h => by
  rw [rangesP] at h
  split at h
  ·rcases List.mem_append.1 h with h | h
   ·exact ⟨t, by simp, (List.mem_replicate.1 h).2⟩
   ·obtain ⟨u, hu, e⟩ := rangesP_mem h
    exact ⟨u, by simp [hu], e⟩
  ·obtain ⟨u, hu, e⟩ := rangesP_mem h
   exact ⟨u, by simp [hu], e⟩
theorem box_good {m : Model} (hL : layoutP m.sorts m.tables = true) : goodB (boxM m) = true := by
 unfold goodB
 rw [List.all_eq_true]
 intro r hr
 obtain ⟨t, ht, rfl⟩ := rangesP_mem hr
 have hL' := hL
 simp only [layoutP, Bool.and_eq_true] at hL'
 have := layP_tab hL'.2 t ht
 simp only [tabP, Bool.and_eq_true] at this
 have hrg := this.2
 unfold rangedP at hrg
 split at hrg
 ·simp only [Bool.and_eq_true, decide_eq_true_eq] at hrg ⊢
  omega
 ·simp only [decide_eq_true_eq] at hrg
  rw [hrg]; decide
theorem lay_fit {sizes : List Int} (hs : sizes.all sizeOK = true) : ∀ {l : List Table} {seen : List (List UInt8)} {a b : Int}, layP sizes seen a b l = true → 0 ≤ a → a + 216 * (l.length : Int) ≤ 1000000 → ∀ t ∈ l, strictP t.kind = true → a ≤ t.first ∧ t.first + widthP sizes t.columns 1 ≤ a + ((rangesP sizes true l).length : Int)
 | [], _, _, _, _, _, _, t, ht, _ => by simp at ht
 | x :: l, seen, a, b, h, ha, hb, t, ht, hst => by
  have htab := layP_tab h x (by simp)
  simp only [tabP, Bool.and_eq_true, decide_eq_true_eq] at htab
  have hw := widthP_bound hs htab.1.2.2 htab.1.2.1
  simp only [layP, Bool.and_eq_true] at h
  have h2 := h.2
  simp only [List.length_cons] at hb
  have hcast : ((l.length + 1 : Nat) : Int) = (l.length : Int) + 1 := by omega
  rw [hcast] at hb
  by_cases hx : strictP x.kind = true
  ·rw [if_pos hx] at h2
   simp only [Bool.and_eq_true, beq_iff_eq] at h2
   have hadd : add64 a (widthP sizes x.columns 1) = a + widthP sizes x.columns 1 := by unfold add64; exact w64_id (by omega) (by omega)
   rw [hadd] at h2
   have hlen : ((rangesP sizes true (x :: l)).length : Int) = widthP sizes x.columns 1 + ((rangesP sizes true l).length : Int) := by
    rw [rangesP, hx, if_pos (by rfl), List.length_append, List.length_replicate]; omega
   rw [hlen]
   rcases List.mem_cons.1 ht with rfl | ht
   ·omega
   ·have := lay_fit hs h2.2 (by omega) (by omega) t ht hst
    omega
  ·rw [if_neg hx] at h2
   simp only [Bool.and_eq_true, beq_iff_eq] at h2
   have hx' : strictP x.kind = false := by simpa using hx
   have hlen : (rangesP sizes true (x :: l)) = rangesP sizes true l := by
    rw [rangesP, hx', if_neg (by decide)]
   rw [hlen]
   rcases List.mem_cons.1 ht with rfl | ht
   ·rw [hst] at hx'; cases hx'
   ·exact lay_fit hs h2.2 ha (by omega) t ht hst
theorem rowP_terms {K : Nat} : ∀ {l : List Term} {last : Int}, rowP K last l = true → -1 ≤ last → ∀ t ∈ l, termOK K t
 | [], _, _, _, t, ht => by simp at ht
 | x :: l, last, h, hl, t, ht => by
  simp only [rowP, aroundP, Bool.and_eq_true, decide_eq_true_eq] at h
  rcases List.mem_cons.1 ht with rfl | ht
  ·exact ⟨by omega, h.1.1.1.2, by omega, by omega⟩
  ·exact rowP_terms h.2 (by omega) t ht
theorem row_in {K : Nat} {r : Row} (h : rowOK K r = true) (hl : r.terms.length ≤ 1000) : ConIn ⟨0, 0, r, 0, 0⟩ K := by
 simp only [rowOK, aroundP, Bool.and_eq_true, decide_eq_true_eq] at h
 exact .row rfl (rowP_terms h.1 (by decide)) hl (by simp only []; omega)
theorem con_in {m : Model} (hS : SmallM m) (hV : ValidM m) {c : Constraint} (hc : c ∈ m.constraints) : ConIn c (boxM m).length := by
 have hl := hS.con c hc
 rcases valid_con hV hc with h | h
 ·simp only [plainP, Bool.and_eq_true, beq_iff_eq] at h
  have h2 := h.2
  simp only [rowOK, aroundP, Bool.and_eq_true, decide_eq_true_eq] at h2
  exact .row h.1.1.1 (rowP_terms h2.1 (by decide)) (by omega) (by omega)
 ·obtain ⟨l1, l2, l3, l4⟩ := layoutP_tab hV.lay
  obtain ⟨hk, s1, s2⟩ := acy_size hV h
  have hL := hV.lay
  simp only [layoutP, Bool.and_eq_true] at hL
  simp only [acyP, graphP, Bool.and_eq_true, List.any_eq_true, beq_iff_eq] at h
  obtain ⟨-, -, t, ht, hg⟩ := h
  simp only [graphT, Bool.and_eq_true, beq_iff_eq] at hg
  obtain ⟨⟨g1, g2⟩, ⟨g3, g4⟩, g5⟩ := hg
  have hfit := lay_fit l3 hL.2 (Int.le_refl _) (by omega) t ht (by simp [strictP, g1])
  have hcols := (l4 t ht).2.2.2.1
  obtain ⟨⟨x, hx⟩, ⟨y, hy⟩, -⟩ := graph_cols hcols g2
  obtain ⟨p, q, hpq⟩ : ∃ p q, t.columns = [p, q] := by
   match hcs : t.columns with
   | [] => rw [hcs] at g2; simp at g2
   | [_] => rw [hcs] at g2; simp at g2
   | [p, q] => exact ⟨p, q, rfl⟩
   | _ :: _ :: _ :: _ => rw [hcs] at g2; simp at g2; omega
  have hp0 : idx t.columns 0 = some p := by rw [hpq]; rfl
  have hq0 : idx t.columns 1 = some q := by rw [hpq]; rfl
  rw [hp0, hq0] at g3
  rw [hp0] at g5
  simp only [Option.getD_some] at g3 g5
  subst g3
  have hcp := List.all_eq_true.1 hcols p (by rw [hpq]; simp)
  rw [idx_col hcp] at g5
  simp only [Option.getD_some] at g5
  have hw : widthP m.sorts t.columns 1 = c.size * c.size := by
   rw [hpq]
   simp only [widthP, g5]
   have : c.size * c.size ≤ 6 * 6 := Int.mul_le_mul s2 s2 (by omega) (by omega)
   have h0 : 0 ≤ c.size * c.size := Int.mul_nonneg (by omega) (by omega)
   unfold mul64
   rw [Int.one_mul, w64_id (x := c.size) (by omega) (by omega), w64_id (by omega) (by omega)]
  rw [hw] at hfit
  have hsz : c.size = ((c.size.toNat : Nat) : Int) := by omega
  refine .graph c.size.toNat hk hsz (by omega) (by omega) (by omega) ?_
  have e : ((c.size.toNat * c.size.toNat : Nat) : Int) = c.size * c.size := by rw [Int.natCast_mul, ← hsz]
  rw [e]
  unfold boxM
  omega
def plusP (s : List Int) (d : List Change) : List Int := (List.range s.length).map fun i => s.getD i 0 + addedP d (i : Int)
theorem plus_len (s : List Int) (d : List Change) : (plusP s d).length = s.length := by simp [plusP]
theorem plus_get {s : List Int} {d : List Change} {c : Int} (h0 : 0 ≤ c) (h1 : c < (s.length : Int)) : (plusP s d).getD c.toNat 0 = s.getD c.toNat 0 + addedP d c := by
 obtain ⟨k, rfl⟩ := Int.eq_ofNat_of_zero_le h0
 have hk : k < s.length := by omega
 simp [plusP, List.getD, hk]
def smallD (d : List Change) : Prop := ∀ x ∈ d, -1000000000 ≤ x.add ∧ x.add ≤ 1000000000
theorem added_small {d : List Change} (h : smallD d) (c : Int) : -1000000000 ≤ addedP d c ∧ addedP d c ≤ 1000000000 := by
 induction d with
 | nil => simp [addedP]
 | cons x l ih =>
  simp only [addedP]
  split
  ·exact h x (by simp)
  ·exact ih fun y hy => h y (by simp [hy])
theorem plus_small {s : List Int} {d : List Change} {B : Int} (hs : ∀ x ∈ s, -B ≤ x ∧ x ≤ B) (hd : smallD d) : ∀ x ∈ plusP s d, -(B + 1000000000) ≤ x ∧ x ≤ B + 1000000000 := by
 intro x hx
 simp only [plusP, List.mem_map, List.mem_range] at hx
 obtain ⟨i, hi, rfl⟩ := hx
 have h1 := hs s[i] (List.getElem_mem hi)
 have h2 := added_small hd (i : Int)
 have : s.getD i 0 = s[i] := by simp [List.getD, hi]
 omega
theorem Plus_eq {n : Nat} {e : Effect} {s : List Int} (h1 : e.delta.length < 4611686018427387904) (h2 : e.delta.length < n) (ha : ∀ k, addP k e.delta 0 = addedP e.delta k) (hd : smallD e.delta) (hs : smallS s) (hl : s.length ≤ 1000) (hn : 1000000 ≤ n) : ref22_Plus n s e = some (plusP s e.delta) := by
 unfold ref22_Plus
 have := loopF_g (body := ref22_Plus.l1 n s e) (len := s.length) (st := fun i => ((plusP s e.delta).take i, (i : Int))) (g := fun _ => some (plusP s e.delta)) (fun rec i hi hr => ?_) (fun rec => ?_) n 0 (Nat.zero_le _) (by omega)
 ·simpa using this
 ·have hip : i < (plusP s e.delta).length := by rw [plus_len]; exact hi
  rw [List.take_succ_eq_append_getElem hip] at hr
  have hel : (plusP s e.delta)[i] = s[i] + addedP e.delta (i : Int) := by simp [plusP, List.getD, hi]
  have hb := hs _ (List.getElem_mem hi)
  have hd' := added_small hd (i : Int)
  have hadd : add64 s[i] (addedP e.delta (i : Int)) = s[i] + addedP e.delta (i : Int) := by unfold add64; exact w64_id (by omega) (by omega)
  simp only [ref22_Plus.l1, lt_len hi, if_true, idx_nat hi, Option.bind_some, ref22_Add_eq _ h1 h2, ha, hadd, add64_1 (show i < 4611686018427387904 by omega)]
  rw [app_some (by simp; omega), Option.bind_some, ← hel]
  exact hr
 ·simp only [ref22_Plus.l1, ge_len, Bool.false_eq_true, if_false]
  rw [List.take_of_length_le (by rw [plus_len]; exact Nat.le_refl _)]
def chgP (d : List Change) : List Term → Int
 | [] => 0
 | t :: l => t.factor * addedP d t.cell + chgP d l
theorem sum_plus {s : List Int} {d : List Change} : ∀ {l : List Term}, (∀ t ∈ l, termOK s.length t) → sumP (plusP s d) l = sumP s l + chgP d l
 | [], _ => rfl
 | t :: l, h => by
  obtain ⟨t1, t2, -⟩ := h t (by simp)
  have ih := sum_plus (s := s) (d := d) (l := l) fun x hx => h x (by simp [hx])
  simp only [sumP, chgP, plus_get t1 t2, ih, Int.mul_add]
  omega
set_option maxRecDepth 20000 in
theorem change_exact {d : List Change} (hd : smallD d) : ∀ {l : List Term} {s : Int}, (∀ t ∈ l, -1000 ≤ t.factor ∧ t.factor ≤ 1000) → (l.length : Int) ≤ 1000 → -(1000000000000 * (1000 - (l.length : Int))) ≤ s ∧ s ≤ 1000000000000 * (1000 - (l.length : Int)) → changeP (addedP d) l s = s + chgP d l
 | [], s, _, _, _ => by simp [changeP, chgP]
 | t :: l, s, ht, hl, hs => by
  have hf := ht t (by simp)
  have ha := added_small hd t.cell
  have hm := mul_bd hf.1 hf.2 ha.1 ha.2
  simp only [List.length_cons] at hl hs
  have hc : ((l.length + 1 : Nat) : Int) = (l.length : Int) + 1 := by omega
  rw [hc] at hl hs
  have e1 : mul64 t.factor (addedP d t.cell) = t.factor * addedP d t.cell := by unfold mul64; exact w64_id (by omega) (by omega)
  have e2 : add64 s (t.factor * addedP d t.cell) = s + t.factor * addedP d t.cell := by unfold add64; exact w64_id (by omega) (by omega)
  rw [changeP, e1, e2, change_exact hd (fun x hx => ht x (by simp [hx])) (by omega) (by omega), chgP]
  omega
theorem change_zero {d : List Change} (hd : smallD d) {l : List Term} (ht : ∀ t ∈ l, -1000 ≤ t.factor ∧ t.factor ≤ 1000) (hl : l.length ≤ 1000) : changeP (addedP d) l 0 = chgP d l := by
 rw [change_exact hd ht (by omega) (by omega)]; omega
end Go.Proofs.YtcagdmegicijlaaGreatDoor
namespace Go.Proofs.YtcagdmegicijlaaGreatDoor
open Go Go.RowKit
theorem ref16_Cells_eq {n : Nat} {m : Model} {t : Table} (hc : t.columns.all (colOK m.sorts) = true) (hl : t.columns.length ≤ 1000) (hn : 1000000 ≤ n) : ref16_Cells n m t = some (widthP m.sorts t.columns 1) := by
 have := loopF_g (body := ref16_Cells.l1 n m t) (len := t.columns.length) (st := fun i => (widthP m.sorts (t.columns.take i) 1, (i : Int))) (g := fun _ => some (widthP m.sorts t.columns 1)) (fun rec i hi hr => ?_) (fun rec => ?_) n 0 (Nat.zero_le _) (by omega)
 ·simpa [ref16_Cells, widthP] using this
 ·rw [List.take_succ_eq_append_getElem hi, widthP_append] at hr
  simp only [widthP] at hr
  simp only [ref16_Cells.l1, lt_len hi, if_true, idx_nat hi, Option.bind_some, idx_col (List.all_eq_true.1 hc _ (List.getElem_mem hi)), add64_1 (show i < 4611686018427387904 by omega), hr]
 ·simp [ref16_Cells.l1]
theorem ref22_Box_eq {n : Nat} {m : Model} (hS : SmallM m) (hL : layoutP m.sorts m.tables = true) (hn : 1000000 ≤ n) : ref22_Box n m = some (boxM m) := by
 obtain ⟨l1, l2, l3, l4⟩ := layoutP_tab hL
 unfold ref22_Box
 have := loopF_g (body := ref22_Box.l1 n m) (len := m.tables.length) (st := fun i => (rangesP m.sorts true (m.tables.take i), (i : Int))) (g := fun _ => some (boxM m)) (fun rec i hi hr => ?_) (fun rec => ?_) n 0 (Nat.zero_le _) (by omega)
 ·simpa [rangesP] using this
 ·obtain ⟨-, -, c1, c2, c3, c4⟩ := l4 _ (List.getElem_mem hi)
  have hlen := rangesP_len (sizes := m.sorts) (s := true) (l := m.tables.take i) fun x hx => (l4 x (List.mem_of_mem_take hx)).2.2.2.2
  simp only [List.length_take] at hlen
  rw [rangesP_snoc hi] at hr
  obtain ⟨W, hW⟩ := Int.eq_ofNat_of_zero_le (show 0 ≤ widthP m.sorts m.tables[i].columns 1 by omega)
  have hcell := ref16_Cells_eq (n := n) (m := m) (t := m.tables[i]) c2 (by omega) hn
  rw [hW] at hcell hr
  simp only [ref22_Box.l1, jn, lt_len hi, if_true, idx_nat hi, Option.bind_some, ref16_Strict, add64_1 (show i < 4611686018427387904 by omega)]
  by_cases hst : (m.tables[i].kind == 0 || m.tables[i].kind == 1) = true
  ·have hst' : (strictP m.tables[i].kind == true) = true := by simpa [strictP] using hst
   rw [if_pos hst'] at hr
   rw [if_pos hst]
   have inner := loopF_g (body := ref22_Box.l2 n m (i : Int) (fun v => rec (v, ((i + 1 : Nat) : Int)))) (len := W) (st := fun k => (rangesP m.sorts true (m.tables.take i) ++ List.replicate k m.tables[i].range, (k : Int))) (g := fun _ => some (boxM m)) (fun rec' k hk hr' => ?_) (fun rec' => ?_) n 0 (Nat.zero_le _) (by omega)
   ·simpa using inner
   ·simp only [ref22_Box.l2, idx_nat hi, Option.bind_some, hcell, lt_nat hk, if_true, add64_1 (show k < 4611686018427387904 by omega)]
    rw [app_some (by simp only [List.length_append, List.length_replicate, List.length_singleton]; omega), Option.bind_some, List.append_assoc, ← List.replicate_succ', hr']
   ·simp only [ref22_Box.l2, idx_nat hi, Option.bind_some, hcell, ge_nat (Nat.le_refl W), Bool.false_eq_true, if_false]
    simpa using hr
  ·have hst' : ¬ (strictP m.tables[i].kind == true) = true := by simpa [strictP] using hst
   rw [if_neg hst'] at hr
   rw [if_neg hst]
   exact hr
 ·simp [ref22_Box.l1, boxM]
theorem ref16_Total_eq {n : Nat} {m : Model} (hL : layoutP m.sorts m.tables = true) (hn : 1000000 ≤ n) : ref16_Total n m = some ((boxM m).length : Int) := by
 obtain ⟨l1, l2, l3, l4⟩ := layoutP_tab hL
 unfold ref16_Total
 have := loopF_g (body := ref16_Total.l1 n m) (len := m.tables.length) (st := fun i => (((rangesP m.sorts true (m.tables.take i)).length : Int), (i : Int))) (g := fun _ => some ((boxM m).length : Int)) (fun rec i hi hr => ?_) (fun rec => ?_) n 0 (Nat.zero_le _) (by omega)
 ·simpa [rangesP] using this
 ·obtain ⟨-, -, c1, c2, c3, c4⟩ := l4 _ (List.getElem_mem hi)
  have hlen := rangesP_len (sizes := m.sorts) (s := true) (l := m.tables.take i) fun x hx => (l4 x (List.mem_of_mem_take hx)).2.2.2.2
  simp only [List.length_take] at hlen
  rw [rangesP_snoc hi] at hr
  have hcell := ref16_Cells_eq (n := n) (m := m) (t := m.tables[i]) c2 (by omega) hn
  simp only [ref16_Total.l1, jn, lt_len hi, if_true, idx_nat hi, Option.bind_some, ref16_Strict, hcell, add64_1 (show i < 4611686018427387904 by omega)]
  by_cases hst : (m.tables[i].kind == 0 || m.tables[i].kind == 1) = true
  ·have hst' : (strictP m.tables[i].kind == true) = true := by simpa [strictP] using hst
   rw [if_pos hst'] at hr
   rw [if_pos hst]
   have e : add64 ((rangesP m.sorts true (m.tables.take i)).length : Int) (widthP m.sorts m.tables[i].columns 1) = ((rangesP m.sorts true (m.tables.take i) ++ List.replicate (widthP m.sorts m.tables[i].columns 1).toNat m.tables[i].range).length : Int) := by
    unfold add64
    rw [w64_id (by omega) (by omega), List.length_append, List.length_replicate]; omega
   rw [e]; exact hr
  ·have hst' : ¬ (strictP m.tables[i].kind == true) = true := by simpa [strictP] using hst
   rw [if_neg hst'] at hr
   rw [if_neg hst]
   exact hr
 ·simp [ref16_Total.l1, boxM]
def possP (m : Model) (e : Effect) (s : List Int) : Bool := m.constraints.all (fun c => holdsP c s && holdsP c (plusP s e.delta)) && e.hold.all fun r => holdsP ⟨0, 0, r, 0, 0⟩ s
structure StateOK (m : Model) (s : List Int) : Prop where
 len : s.length = (boxM m).length
 small : ∀ x ∈ s, -9999 ≤ x ∧ x ≤ 9999
theorem state_ok {m : Model} (hL : layoutP m.sorts m.tables = true) {s : List Int} (h : inBox (boxM m) s = true) : StateOK m s := by
 have hlen := inBox_len h
 refine ⟨hlen, fun x hx => ?_⟩
 obtain ⟨i, hi, rfl⟩ := List.mem_iff_getElem.1 hx
 have hb : i < (boxM m).length := by omega
 have h1 := inBox_get h i hb hi
 have h2 := List.all_eq_true.1 (box_good hL) _ (List.getElem_mem hb)
 simp only [Bool.and_eq_true, decide_eq_true_eq] at h2
 omega
theorem act_delta {m : Model} (hV : ValidM m) {a : Action} (ha : a ∈ m.actions) : smallD a.effect.delta ∧ ∀ r ∈ a.effect.hold, rowOK (boxM m).length r = true := by
 have h := (valid_act hV ha).1
 simp only [effP, Bool.and_eq_true, List.all_eq_true] at h
 obtain ⟨p1, -⟩ := deltaP_spec _ _ h.1
 exact ⟨fun x hx => by have := p1 x hx; omega, h.2.2.2⟩
theorem Possible_eq {n : Nat} {m : Model} {a : Action} {s : List Int} (hS : SmallM m) (hV : ValidM m) (ha : a ∈ m.actions) (hs : StateOK m s) (hK : (boxM m).length ≤ 1000) (hn : 4294967296 ≤ n) : ref22_Possible n m a.effect s = some (possP m a.effect s) := by
 have hG := good_of_valid hn hS hV
 obtain ⟨g1, g2, g3, -⟩ := hG.acts a ha
 obtain ⟨hd, hh⟩ := act_delta hV ha
 obtain ⟨a1, a2, a3, a4, a5⟩ := hS.act a ha
 have hcl := hS.constraints
 have hsl := hs.len
 have hss : smallS s := fun x hx => by have := hs.small x hx; omega
 have hps : smallS (plusP s a.effect.delta) := fun x hx => by have := plus_small hs.small hd x hx; omega
 have hpl := plus_len s a.effect.delta
 unfold ref22_Possible possP
 rw [Plus_eq g1 g2 g3 hd hss (by omega) (by omega), Option.bind_some]
 have T : loopF (ref22_Possible.l2 n a.effect s) n 0 = if (a.effect.hold.all fun r => holdsP ⟨0, 0, r, 0, 0⟩ s) = true then some true else some false := by
  have := loopF_lall (body := ref22_Possible.l2 n a.effect s) (l := a.effect.hold) (n := n) (st := fun i => (i : Int)) (fun r => holdsP ⟨0, 0, r, 0, 0⟩ s) (some false) (some true) (fun rec i hi => ?_) (fun rec => ?_) (by omega)
  ·simpa using this
  ·have hr := hh _ (List.getElem_mem hi)
   have htl := a5 _ (List.getElem_mem hi)
   have hci := row_in hr (by omega)
   rw [← hsl] at hci
   have hrow : ref22_Row n a.effect.hold[i] s = some (holdsP ⟨0, 0, a.effect.hold[i], 0, 0⟩ s) := by
    unfold ref22_Row
    rw [Holds_eq hci hss (by omega) hn]; rfl
   simp only [ref22_Possible.l2, lt_len hi, if_true, idx_nat hi, Option.bind_some, hrow, add64_1 (show i < 4611686018427387904 by omega)]
   cases holdsP ⟨0, 0, a.effect.hold[i], 0, 0⟩ s <;> simp
  ·simp [ref22_Possible.l2]
 have := loopF_lall (body := ref22_Possible.l1 n m a.effect s (plusP s a.effect.delta)) (l := m.constraints) (n := n) (st := fun i => (i : Int)) (fun c => holdsP c s && holdsP c (plusP s a.effect.delta)) (some false) (loopF (ref22_Possible.l2 n a.effect s) n 0) (fun rec i hi => ?_) (fun rec => ?_) (by omega)
 ·simp only [Int.natCast_zero] at this
  rw [this, T]
  cases (m.constraints.all fun c => holdsP c s && holdsP c (plusP s a.effect.delta)) <;> cases (a.effect.hold.all fun r => holdsP ⟨0, 0, r, 0, 0⟩ s) <;> rfl
 ·have hci := con_in hS hV (List.getElem_mem hi)
  have h1 : ref14_Holds n m.constraints[i] s = some (holdsP m.constraints[i] s) := Holds_eq (by rw [hsl]; exact hci) hss (by omega) hn
  have h2 : ref14_Holds n m.constraints[i] (plusP s a.effect.delta) = some (holdsP m.constraints[i] (plusP s a.effect.delta)) := Holds_eq (by rw [hpl, hsl]; exact hci) hps (by omega) hn
  simp only [ref22_Possible.l1, lt_len hi, if_true, idx_nat hi, Option.bind_some, h1, h2, Option.isSome_some, Bool.or_true, grd, Option.getD_some, add64_1 (show i < 4611686018427387904 by omega)]
  cases holdsP m.constraints[i] s <;> cases holdsP m.constraints[i] (plusP s a.effect.delta) <;> simp
 ·simp [ref22_Possible.l1]
theorem row_keeps {c : Constraint} {s : List Int} {d : List Change} (hk : c.kind = 0) (ht : ∀ t ∈ c.row.terms, termOK s.length t) (hch : chgP d c.row.terms ≤ 0) (h : holdsP c s = true) : holdsP c (plusP s d) = true := by
 unfold holdsP at h ⊢
 have hk1 : ¬ c.kind = 1 := by omega
 rw [if_neg hk1] at h ⊢
 rw [sum_plus ht]
 simp only [decide_eq_true_eq] at h ⊢
 omega
theorem graph_keeps {c : Constraint} {s : List Int} {d : List Change} {size : Nat} (hk : c.kind = 1) (hG : GraphIn c s size) (hch : ∀ k : Nat, k < size * size → addedP d (c.first + (k : Int)) ≤ 0) (h : holdsP c s = true) : holdsP c (plusP s d) = true := by
 unfold holdsP at h ⊢
 rw [if_pos hk] at h ⊢
 have hsz : c.size.toNat = size := by have := hG.sz; omega
 rw [hsz] at h ⊢
 refine acycE_mono (fun a b ha hb he => ?_) h
 have hm : a * size + b < size * size := by
  have := Nat.mul_le_mul_right size (show a + 1 ≤ size by omega)
  rw [Nat.succ_mul] at this; omega
 have hf := hG.fits
 have h0 := hG.first
 have hc : (a : Int) * c.size = ((a * size : Nat) : Int) := by rw [hG.sz, Int.natCast_mul]
 unfold edgeP at he ⊢
 rw [hc] at he ⊢
 rw [plus_get (by omega) (by omega)] at he
 have := hch (a * size + b) hm
 have e : c.first + ((a * size + b : Nat) : Int) = c.first + ((a * size : Nat) : Int) + (b : Int) := by omega
 rw [e] at this
 simp only [decide_eq_true_eq] at he ⊢
 omega
theorem raised_nil {p : Int → Bool} : ∀ {k i : Nat}, ¬ 0 < (raisedP p i k).length → ∀ j, i ≤ j → j < i + k → p (j : Int) = false
 | 0, i, _, j, h1, h2 => by omega
 | k + 1, i, h, j, h1, h2 => by
  rw [raisedP] at h
  by_cases hp : p (i : Int) = true
  ·rw [if_pos hp] at h; simp at h
  ·rw [if_neg hp] at h
   by_cases e : j = i
   ·subst e; simpa using hp
   ·exact raised_nil h j (by omega) (by omega)
end Go.Proofs.YtcagdmegicijlaaGreatDoor
namespace Go.Proofs.YtcagdmegicijlaaGreatDoor
open Go Go.RowKit
theorem Shows_false {n : Nat} {m : Model} {q : Question} {s : List Int} (hS : SmallM m) (hV : ValidM m) (hq : questP m q = true) (ho : openP n m q = false) (hs : StateOK m s) (hK : (boxM m).length ≤ 1000) (hn : 4294967296 ≤ n) : ref22_Shows n m q [] s = some false := by
 have hG := good_of_valid hn hS hV
 obtain ⟨q1, q2, q3, q4, q5⟩ := questP_spec hq
 obtain ⟨a, ha⟩ := idx_some q1.1 q1.2
 obtain ⟨b, hb⟩ := idx_some q2.1 q2.2
 have ham := idx_mem ha
 have hbm := idx_mem hb
 obtain ⟨a1, a2, a3, a4⟩ := hG.acts a ham
 obtain ⟨b1, b2, b3, b4⟩ := hG.acts b hbm
 obtain ⟨da, ra⟩ := act_delta hV ham
 obtain ⟨db, rb⟩ := act_delta hV hbm
 obtain ⟨-, -, -, -, ta⟩ := hS.act a ham
 have hsl := hs.len
 have hss : smallS s := fun x hx => by have := hs.small x hx; omega
 have hpa : smallS (plusP s a.effect.delta) := fun x hx => by have := plus_small hs.small da x hx; omega
 have hpb : smallS (plusP s b.effect.delta) := fun x hx => by have := plus_small hs.small db x hx; omega
 have hpab : smallS (plusP (plusP s a.effect.delta) b.effect.delta) := fun x hx => by
  have := plus_small (B := 1000009999) (fun y hy => by have := plus_small hs.small da y hy; omega) db x hx; omega
 have hla := plus_len s a.effect.delta
 have hlb := plus_len s b.effect.delta
 have hlab := plus_len (plusP s a.effect.delta) b.effect.delta
 have hcomm : plusP (plusP s a.effect.delta) b.effect.delta = plusP (plusP s b.effect.delta) a.effect.delta := by
  unfold plusP
  rw [List.length_map, List.length_range, List.length_map, List.length_range]
  refine List.map_congr_left fun i hi => ?_
  have hi' := List.mem_range.1 hi
  simp [List.getD, hi']
  omega
 have hopen := (open_def hG q1 q2 q3 q4 fun hh => (q5 hh).2).2
 rw [ho] at hopen
 unfold ref22_open at hopen
 rw [ha, hb] at hopen
 simp only [Option.bind_some] at hopen
 unfold ref22_Shows
 rw [ref16_Total_eq hV.lay (by omega), Option.bind_some, if_neg (by simp [hsl]), loopF_1 (by omega)]
 have hz : decide ((0 : Int) < (([] : List Int).length : Int)) = false := rfl
 simp only [ref22_Shows.l1, hz, Bool.false_eq_true, if_false, ha, hb, Option.bind_some, Possible_eq hS hV ham hs hK hn, Possible_eq hS hV hbm hs hK hn, Option.isSome_some, Bool.or_true, grd, if_true, Option.getD_some]
 by_cases hposs : (!possP m a.effect s || !possP m b.effect s) = true
 ·rw [if_pos hposs]
 ·rw [if_neg hposs]
  simp only [Bool.or_eq_true, Bool.not_eq_true', not_or, Bool.not_eq_false] at hposs
  obtain ⟨pa, pb⟩ := hposs
  simp only [possP, Bool.and_eq_true, List.all_eq_true] at pa pb
  rw [Plus_eq a1 a2 a3 da hss (by omega) (by omega), Option.bind_some, Plus_eq b1 b2 b3 db hpa (by omega) (by omega), Option.bind_some, loopF_1 (by omega)]
  simp only [ref22_Shows.l2, hz, Bool.false_eq_true, if_false]
  cases hh : q.target.hold with
  | true =>
   simp only [hh, if_true] at hopen ⊢
   obtain ⟨r, hr⟩ := idx_some q3 (q4 hh a ha)
   have hrm := idx_mem hr
   obtain ⟨r1, r2⟩ := a4 r hrm
   have hrl := ta r hrm
   have hro := ra r hrm
   have hci := row_in hro (by omega)
   have hci' := hci
   rw [← hsl] at hci
   rw [hr] at hopen ⊢
   simp only [Option.bind_some, ref22_Sum_eq b1 b2 r1 r2, changeP_congr b3, Option.some.injEq, decide_eq_false_iff_not] at hopen
   have hterms : ∀ t ∈ r.terms, termOK (boxM m).length t := by
    cases hci' with
    | row _ h _ _ => exact h
    | graph _ h => cases h
   have hchg : chgP b.effect.delta r.terms ≤ 0 := by
    rw [change_zero db (fun t ht => by have := hterms t ht; exact this.2.2) (by omega)] at hopen
    omega
   have hkeep := row_keeps (c := ⟨0, 0, r, 0, 0⟩) (s := s) rfl (by rw [hsl]; exact hterms) hchg (pa.2 r hrm)
   rw [Option.bind_some, Plus_eq b1 b2 b3 db hss (by omega) (by omega), Option.bind_some]
   have hrow : ref22_Row n r (plusP s b.effect.delta) = some true := by
    unfold ref22_Row
    rw [Holds_eq (by rw [hlb]; exact hci) hpb (by omega) hn, hkeep]; rfl
   rw [hrow]; rfl
  | false =>
   simp only [hh, Bool.false_eq_true, if_false] at hopen ⊢
   obtain ⟨c, hc⟩ := idx_some q3 (q5 hh).2
   have hcm := idx_mem hc
   obtain ⟨hkind, c1, c2, K, k1, k2, k3⟩ := hG.cons c hcm
   have hci := con_in hS hV hcm
   have hcl := hS.con c hcm
   rw [hc] at hopen ⊢
   simp only [Option.bind_some] at hopen ⊢
   have hca := pa.1 c hcm
   have hcb := pb.1 c hcm
   have hgoal : holdsP c (plusP (plusP s a.effect.delta) b.effect.delta) = true := by
    cases hci with
    | row hk0 ht htl hbd =>
     have hk1 : (c.kind == 1) = false := by simp [hk0]
     rw [hk1] at hopen
     simp only [Bool.false_eq_true, if_false, ref22_Sum_eq a1 a2 c1 c2, ref22_Sum_eq b1 b2 c1 c2, changeP_congr a3, changeP_congr b3, Option.bind_some, Option.isSome_some, Bool.or_true, grd, if_true, Option.getD_some, Option.some.injEq] at hopen
     rw [change_zero da (fun t h => (ht t h).2.2) (by omega), change_zero db (fun t h => (ht t h).2.2) (by omega)] at hopen
     simp only [Bool.and_eq_false_iff, decide_eq_false_iff_not] at hopen
     rcases hopen with h | h
     ·rw [hcomm]
      exact row_keeps hk0 (by rw [hlb, hsl]; exact ht) (by omega) hcb.2
     ·exact row_keeps hk0 (by rw [hla, hsl]; exact ht) (by omega) hca.2
    | graph size hk hsz h1 h6 h0 hf =>
     have hk1 : (c.kind == 1) = true := by simp [hk]
     rw [hk1] at hopen
     simp only [if_true, ref22_raises_eq k1 a1 a2 k2 k3 a3, ref22_raises_eq k1 b1 b2 k2 k3 b3, Option.bind_some, Option.isSome_some, Bool.or_true, grd, Option.getD_some, Option.some.injEq] at hopen
     simp only [Bool.and_eq_false_iff, decide_eq_false_iff_not] at hopen
     have hKs : K = size * size := by
      have hsq : ((size * size : Nat) : Int) = (size : Int) * (size : Int) := Int.natCast_mul _ _
      have : size * size ≤ 6 * 6 := Nat.mul_le_mul h6 h6
      have e : mul64 c.size c.size = ((size * size : Nat) : Int) := by unfold mul64; rw [hsz, ← hsq]; exact w64_id (by omega) (by omega)
      rw [k1] at e; omega
     have hno : ∀ d : List Change, ¬ 0 < (raisedP (raiseP d c) 0 K).length → ∀ k : Nat, k < size * size → addedP d (c.first + (k : Int)) ≤ 0 := fun d hd k hk' => by
      have := raised_nil hd k (by omega) (by omega)
      unfold raiseP at this
      have e : add64 c.first (k : Int) = c.first + (k : Int) := by unfold add64; exact w64_id (by omega) (by omega)
      rw [e] at this
      simpa using this
     rcases hopen with h | h
     ·rw [hcomm]
      exact graph_keeps hk ⟨hsz, h1, h6, h0, by rw [hlb, hsl]; exact hf, by omega⟩ (hno _ h) hcb.2
     ·exact graph_keeps hk ⟨hsz, h1, h6, h0, by rw [hla, hsl]; exact hf, by omega⟩ (hno _ h) hca.2
   rw [Holds_eq (by rw [hlab, hla, hsl]; exact con_in hS hV hcm) hpab (by omega) hn, hgoal]
   rfl
theorem countB_few : ∀ {l : List Range} {p : Int}, goodB l = true → 1 ≤ p → p ≤ 4096 → prodP p l = true → p * (countB l : Nat) ≤ 4096
 | [], p, _, _, h, _ => by simp [countB]; exact h
 | r :: l, p, hg, h1, h2, hp => by
  simp only [goodB, List.all_cons, Bool.and_eq_true, decide_eq_true_eq] at hg
  obtain ⟨⟨g1, g2, g3⟩, g4⟩ := hg
  simp only [prodP, Bool.and_eq_true, Bool.not_eq_true', decide_eq_false_iff_not] at hp
  have e1 : sub64 r.hi r.lo = r.hi - r.lo := by unfold sub64; exact w64_id (by omega) (by omega)
  have e2 : add64 (r.hi - r.lo) 1 = r.hi - r.lo + 1 := by unfold add64; exact w64_id (by omega) (by omega)
  rw [e1, e2] at hp
  have hw1 : 1 ≤ r.hi - r.lo + 1 := by omega
  have hw2 : r.hi - r.lo + 1 ≤ 19999 := by omega
  have hlo : 1 * 1 ≤ p * (r.hi - r.lo + 1) := Int.mul_le_mul h1 hw1 (by omega) (by omega)
  have hhi : p * (r.hi - r.lo + 1) ≤ 4096 * 19999 := Int.mul_le_mul h2 hw2 (by omega) (by omega)
  have e3 : mul64 p (r.hi - r.lo + 1) = p * (r.hi - r.lo + 1) := by unfold mul64; exact w64_id (by omega) (by omega)
  rw [e3] at hp
  have ih := countB_few (l := l) (p := p * (r.hi - r.lo + 1)) (by simpa only [goodB] using g4) (by omega) (by omega) hp.2
  simp only [countB]
  rw [Int.natCast_mul, Int.toNat_of_nonneg (by omega), ← Int.mul_assoc]
  exact ih
theorem IndexQ_eq {n : Nat} {l : List Question} {x : Question} (hl : l.length < 1000000) (hn : 1000000 ≤ n) : slices_Index_LQuestion_api_Question n l x = some (ixP (fun y => decide (x = y)) l 0) := by
 have := loopF_g (body := slices_Index_LQuestion_api_Question.l1 n l x) (len := l.length) (st := fun i => (i : Int)) (g := fun i => some (ixP (fun y => decide (x = y)) (l.drop i) i)) (fun rec i hi hr => ?_) (fun rec => ?_) n 0 (Nat.zero_le _) (by omega)
 ·simpa [slices_Index_LQuestion_api_Question] using this
 ·simp only [slices_Index_LQuestion_api_Question.l1, lt_len hi, if_true, idx_nat hi, Option.bind_some, add64_1 (show i < 4611686018427387904 by omega), hr]
  rw [drop_cons hi]
  simp only [ixP]
  split <;> rfl
 ·simp [slices_Index_LQuestion_api_Question.l1, ixP]
theorem quests_mem {n : Nat} {m : Model} {q : Question} (hq : questP m q = true) : (q ∈ questsQ n m m.actions.length) ↔ openP n m q = true := by
 obtain ⟨q1, q2, q3, q4, q5⟩ := questP_spec hq
 simp only [questsQ, rowQ, List.mem_flatMap, List.mem_range, List.mem_filter]
 constructor
 ·rintro ⟨e, -, f, -, -, h⟩; exact h
 ·intro h
  obtain ⟨e, he⟩ := Int.eq_ofNat_of_zero_le q1.1
  obtain ⟨f, hf⟩ := Int.eq_ofNat_of_zero_le q2.1
  obtain ⟨i, hi⟩ := Int.eq_ofNat_of_zero_le q3
  refine ⟨e, by omega, f, by omega, ?_, h⟩
  obtain ⟨qe, qf, ⟨qh, qi⟩⟩ := q
  simp only [] at he hf hi q1 q2 q3 q4 q5
  subst he hf hi
  simp only [cand, List.mem_append]
  cases qh with
  | true =>
   have := q4 rfl _ (actN_eq (by omega)).1
   exact .inr (by simp only [candH, List.mem_map, List.mem_range]; exact ⟨i, by omega, rfl⟩)
  | false =>
   have := q5 rfl
   exact .inl (by simp only [candC]; rw [if_pos (by omega)]; simp only [List.mem_map, List.mem_range]; exact ⟨i, by omega, rfl⟩)
theorem Open_law {m : Model} {q : Question} : law22_ConditionOpen 18446744073709551616 m q = some true := by
 unfold law22_ConditionOpen
 have hF := fuel_N
 have hn := hF.big
 rw [awake_spec, ref13_Few_eq (by omega)]
 simp only [Option.bind_some, Bool.not_true, Bool.false_eq_true, if_false]
 cases hf : fewP m with
 | false => simp [grd]
 | true =>
  have hS := fewP_small hf
  rw [ref16_Valid_eq hn hS]
  simp only [Option.isSome_some, Bool.or_true, grd, if_true, Option.getD_some, Bool.not_true, Bool.false_or]
  by_cases hvq : (validP m && questP m q) = true
  ·rw [hvq, if_neg (by simp)]
   simp only [Bool.and_eq_true] at hvq
   have hV := validP_iff.1 hvq.1
   obtain ⟨q1, q2, q3, q4, q5⟩ := questP_spec hvq.2
   have hG := good_of_valid hn hS hV
   have hop := (open_def hG q1 q2 q3 q4 fun hh => (q5 hh).2).1
   have hOpen : condition_Open 18446744073709551616 m q = some (openP 18446744073709551616 m q) := by
    unfold condition_Open
    rw [symmetry_Valid_eq hF hS, hvq.1, hvq.2, hop]
    simp [grd]
   have hql := questsQ_len (n := 18446744073709551616) hS m.actions.length (Nat.le_refl _)
   have hal := hS.actions
   have hcont : slices_Contains_LQuestion_api_Question 18446744073709551616 (questsQ 18446744073709551616 m m.actions.length) q = some (openP 18446744073709551616 m q) := by
    unfold slices_Contains_LQuestion_api_Question
    rw [IndexQ_eq (by omega) (by omega), Option.bind_some, ixP_any]
    congr 1
    rw [Bool.eq_iff_iff, ← quests_mem hvq.2]
    simp
   rw [hOpen, condition_Questions_eq hF hS, hvq.1]
   simp only [if_true, Option.bind_some, hcont, bne_self_eq_false, Bool.false_eq_true, if_false]
   cases ho : openP 18446744073709551616 m q with
   | true => simp
   | false =>
    have hfp := hf
    simp only [fewP, strictR, hV.lay, if_true, Bool.and_eq_true, decide_eq_true_eq] at hfp
    have hK : (boxM m).length ≤ 12 := hfp.2.2.1
    have hgood := box_good hV.lay
    have hcount := countB_few hgood (by decide) (by decide) hfp.2.2.2
    have hcnt : countB (boxM m) < 18446744073709551616 := by
     have e : countB (boxM m) = countB (rangesP m.sorts true m.tables) := rfl
     rw [e]
     clear hcont
     omega
    have hst : law22_states 18446744073709551616 m (fun q0 => law22_ConditionOpen_1 18446744073709551616 q0 m q) = some true := by
     unfold law22_states
     rw [ref22_Box_eq hS hV.lay (by omega), Option.bind_some, ref17_Least_eq (by omega) (by omega), Option.bind_some]
     refine states_all hgood (by omega) (by omega) hcnt fun s hs => ?_
     unfold law22_ConditionOpen_1
     rw [Shows_false hS hV hvq.2 ho (state_ok hV.lay hs) (by omega) hn]
     rfl
    rw [hst]
    simp
  ·rw [if_pos (by
    simp only [Bool.not_eq_true] at hvq
    simp [hvq])]
end Go.Proofs.YtcagdmegicijlaaGreatDoor
namespace Go.Proofs.YtcagdmegicijlaaGreatDoor
theorem closed5 : joinedFacts Tryz.pinned.checked.prog 7 Tryz.f7 (OpenSpec.ofChange Rows.conditionOpenSpec).bare Rows.conditionOpenRow = true := by
 unfold joinedFacts
 simp only [Bool.and_eq_true]
 repeat' apply And.intro
 all_goals as_aux_lemma => kernel_rfl
end Go.Proofs.YtcagdmegicijlaaGreatDoor
namespace Go.Proofs.YtcagdmegicijlaaGreatDoor
open Go.ChangeShapes Go.WideShapes Go.ChangeAt Go.RowKit
theorem own : ownKnob Tryz.prog.godebug = none := by kernel_rfl
theorem laidOut : laidOutB Tryz.prog = true := by kernel_rfl
set_option maxRecDepth 100000 in
theorem contract5 (H : Type) (enc : TypeId × Value → H) (W : World) (base : Nat) (args : Array Value) (ds gs : List (DataW H)) (before : List MemPlace)
  (hval : ∀ (j : Nat) t v, Tryz.f7.params[j]? = some t → args[j]? = some v → Value.okWide Tryz.prog W .any base t v)
  (hW : DataW.Whole enc Tryz.prog Tryz.f7.params.toList Rows.conditionOpenSpec.vars false W args.toList ds gs before) (hL : laidMetH Tryz.prog Rows.conditionOpenRow.laid W) (hS : W.ShapedOpen Tryz.prog) :
  Calls Tryz.prog 7 args W fun e W' => ∃ v, e = .returned v ∧ Rows.conditionOpenSpec.post enc Tryz.prog Tryz.f7 false true false false W args v W' := by
 have hW' := hW
 obtain ⟨p, q, hA0, hV, rfl, hfz, hnd⟩ := hW
 have hA : DataW.TrodAll enc Tryz.prog W 0 (fun _ => true) true Tryz.f7.params.toList args.toList ds p := hA0
 rw [Tryz.params7] at hA hval
 obtain ⟨v0, vs0, d0, ds0, p0, q0, hargs, rfl, rfl, h0, r0⟩ := trodAll_cons hA
 obtain ⟨v1, vs1, d1, ds1, p1, q1, rfl, rfl, rfl, h1, r1⟩ := trodAll_cons r0
 obtain ⟨rfl, rfl, rfl⟩ := trodAll_nil r1
 obtain rfl : args = #[v0, v1] := by cases args; simp_all
 obtain ⟨rfl, rfl⟩ := trodVars_none hV
 obtain ⟨a0, k0⟩ := dModel.of_arg (hval 0 _ v0 rfl rfl) h0
 obtain ⟨a1, k1⟩ := dQuest.of_arg (hval 1 _ v1 rfl rfl) h1
 have hrun := (law22_ConditionOpen_ok _ a0 a1 true Open_law).run Noneof W #[v0, v1] (fun _ h => h.elim) (glob_ok hL hS) (by
  simp only [D.reps]
  exact ⟨v0, _, rfl, k0, v1, _, rfl, k1, rfl⟩)
 refine hrun.mono fun e W' ⟨u, he, hf, hu⟩ => ?_
 simp only [D.rep] at hu
 subst hu
 subst he
 refine ⟨_, rfl, post_kept hW' rfl rfl rfl laidOut (fun t ht => ?_) hf (fun _ _ _ => trodAll_cons_mk (shut_bool Tryz.underlying4 _) trodAll_mk0)⟩
 rw [Tryz.params7] at ht
 have hall : ([30, 37].all fun t => Tryz.prog.readableRec t && decide (t < Tryz.prog.types.size)) = true := by kernel_rfl
 have := List.all_eq_true.1 hall t (by simpa using ht)
 simpa using this
theorem reads5 (os : Os) {H : Type} (enc : TypeId × Value → H) : ∃ places, DataW.whole enc Tryz.prog ((World.laidAll Tryz.prog os Rows.conditionOpenRow.laid).forCall (fun _ _ => 0) ⟨#[], #[.agg #[.slice none 0 0, .slice none 0 0, .slice none 0 0, .slice none 0 0, .slice none 0 0, .slice none 0 0, .slice none 0 0], .agg #[.int .i64 0, .int .i64 0, .bool false, .int .i64 0]], []⟩).memory Tryz.f7.params.toList Rows.conditionOpenSpec.vars false
  (#[.agg #[.slice none 0 0, .slice none 0 0, .slice none 0 0, .slice none 0 0, .slice none 0 0, .slice none 0 0, .slice none 0 0], .agg #[.int .i64 0, .int .i64 0, .bool false, .int .i64 0]] : Array Value).toList 8 =
  some ([.agg [.nil, .nil, .nil, .nil, .nil, .nil, .nil], .agg [.lit (.int .i64 0), .lit (.int .i64 0), .agg [.lit (.bool false), .lit (.int .i64 0)]]], [], places) :=
 ⟨[], by kernel_rfl⟩
set_option maxRecDepth 100000 in
theorem lifted5 (os : Os) (started : os.Started) (H : Type) (enc : TypeId × Value → H) (F : Stop.Interp) :
  ReturnsInHanded {} Tryz.checked os 7 .any ((OpenSpec.ofChange Rows.conditionOpenSpec).preRow enc Tryz.prog Tryz.f7 Rows.conditionOpenRow.domain false Rows.conditionOpenRow.laid) (((OpenSpec.ofChange Rows.conditionOpenSpec).at F).post enc Tryz.prog Tryz.f7 false true false false) := by
 obtain ⟨places, hx⟩ := reads5 os enc
 refine returnsInHanded_of_row (C := Tryz.checked) (s := OpenSpec.ofChange Rows.conditionOpenSpec) own started (by kernel_rfl) Tryz.func7
  (witness_row_atRef (enc := enc) (C := Tryz.checked) false (World.laidAll Tryz.prog os Rows.conditionOpenRow.laid) _ (World.laidAll_os _ _ _) (by kernel_rfl) (by kernel_rfl) (by kernel_rfl)
   (OpenSpec.preRow_of_cond 8 hx (by kernel_rfl) (fun k hk => by cases hk) (by kernel_rfl) (laidMet_laidAll _ (by kernel_rfl) (by kernel_rfl)))) ?_
 intro W base args ds gs before hval hW _ _ _ hL hS _
 exact contract5 H enc W base args ds gs before hval hW hL hS
theorem said5 : Rows.ConditionOpenSaid :=
 OpenClaim.holds_of_cond 7 Tryz.f7 rfl rfl rfl rfl rfl rfl rfl ⟨rfl, rfl, rfl, rfl, rfl⟩ rfl rfl rfl rfl rfl (by kernel_rfl) Tryz.func7 closed5
  (of_decide_eq_true (by kernel_rfl)) (by unfold Func.isWrapper; first | (rw [if_pos (by decide +kernel)]; kernel_rfl) | (rw [if_neg (by decide +kernel)]; exact ⟨rfl, rfl⟩))
  (fun os started H enc _ F => by rw [OpenClaim.pre_eq_preRow]; exact lifted5 os started H enc F)
theorem plain5 (f : FuncId) (fn : Func) (hf : Tryz.pinned.checked.prog.funcNamed Rows.conditionOpenRow.func = some f) (hfn : Tryz.pinned.checked.prog.funcs[f]? = some fn) :
  false = Tryz.pinned.checked.prog.looks [] ∧ ∀ (j : Nat) t, fn.params[j]? = some t → Tryz.pinned.checked.prog.wantsStandIn t = false := by
 obtain rfl : f = 7 := Option.some.inj ((show Tryz.prog.funcNamed Rows.conditionOpenRow.func = some 7 by kernel_rfl).symm.trans hf) |>.symm
 obtain rfl : fn = Tryz.f7 := (Option.some.inj (Tryz.func7.symm.trans hfn)).symm
 refine ⟨by kernel_rfl, fun j t ht => ?_⟩
 rw [Tryz.params7] at ht
 have hall : ([30, 37].all fun u => !Tryz.prog.wantsStandIn u) = true := by kernel_rfl
 have := List.all_eq_true.1 hall t (by simpa using Array.mem_of_getElem? ht)
 exact (show Tryz.prog.wantsStandIn t = false by simpa using this)
theorem conditionOpen_holds : Rows.ConditionOpenCardSaid :=
 Claim7.holds_tied_plain_at .later [] _ _ _ _ said5 (fun _ h => by cases h) (by kernel_rfl) (fun _ h => by cases h) conditionOpen_row_tie rfl ⟨rfl, rfl⟩ (by kernel_rfl) rfl plain5 (by kernel_rfl)
end Go.Proofs.YtcagdmegicijlaaGreatDoor
