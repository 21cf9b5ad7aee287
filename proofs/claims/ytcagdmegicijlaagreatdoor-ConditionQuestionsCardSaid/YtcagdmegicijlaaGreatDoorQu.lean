/- The law holds for every input. No condition. -/
import Derived.Test.YtcagdmegicijlaaGreatDoorQu05
import Derived.Test.YtcagdmegicijlaaGreatDoorCards
import Derived.Test.YtcagdmegicijlaaGreatDoorTie
import Derived.JoinedCond
import Derived.Deep.DeepWitnessRowRef
import Derived.Lay
import Derived.ProofKit
set_option linter.unusedVariables false
set_option linter.unusedSectionVars false
set_option linter.unusedSimpArgs false
namespace Go.Proofs.YtcagdmegicijlaaGreatDoor
open Go Go.RowKit
def lensP (m : Model) : Bool := (((((((decide (8 < (m.sorts.length : Int))) || (decide (6 < (m.tables.length : Int)))) || (decide (20 < (m.families.length : Int)))) || (decide (60 < (m.constraints.length : Int)))) || (decide (8 < (m.operations.length : Int)))) || (decide (30 < (m.actions.length : Int)))) || (decide (12 < (m.hides.length : Int))))
def tabF (t : Table) : Bool := decide (t.name.length ≤ 40) && decide (t.columns.length ≤ 12)
def opF (o : Operation) : Bool := decide (o.name.length ≤ 40) && decide (o.sorts.length ≤ 6)
def actF (a : Action) : Bool := ((decide (a.arguments.length ≤ 6) && decide (a.effect.delta.length ≤ 20)) && (decide (a.effect.hold.length ≤ 10) && decide (a.effect.updates.length ≤ 40))) && a.effect.hold.all fun r => decide (r.terms.length ≤ 20)
def boundedP (m : Model) : Bool := !lensP m && (m.tables.all tabF && (m.families.all (fun s => decide (s.length ≤ 40)) && (m.constraints.all (fun c => decide (c.row.terms.length ≤ 20)) && (m.operations.all opF && m.actions.all actF))))
theorem not_lt_le {a b : Nat} : decide ((a : Int) < (b : Int)) = !decide (b ≤ a) := by rw [← decide_not]; exact decide_eq_decide.2 (by omega)
theorem ref13_Bounded_eq {n : Nat} {m : Model} (hn : 1000000 ≤ n) : ref13_Bounded n m = some (boundedP m) := by
  unfold ref13_Bounded boundedP
  have hl : (((((((decide (8 < (m.sorts.length : Int))) || (decide (6 < (m.tables.length : Int)))) || (decide (20 < (m.families.length : Int)))) || (decide (60 < (m.constraints.length : Int)))) || (decide (8 < (m.operations.length : Int)))) || (decide (30 < (m.actions.length : Int)))) || (decide (12 < (m.hides.length : Int)))) = lensP m := rfl
  rw [hl]
  cases hlen : lensP m with
  | true => simp [grd]
  | false =>
    simp only [lensP, Bool.or_eq_false_iff, decide_eq_false_iff_not] at hlen
    obtain ⟨⟨⟨⟨⟨⟨b1, b2⟩, b3⟩, b4⟩, b5⟩, b6⟩, b7⟩ := hlen
    have hfew : ref09_Few n m.sorts m.tables = some (m.tables.all tabF) := by
      have := loopF_lall (body := ref09_Few.l1 n m.sorts m.tables) (l := m.tables) (n := n) (st := fun i => (i : Int)) tabF (some false) (some true) (fun rec i hi => ?_) (fun rec => ?_) (by omega)
      · simp only [Int.natCast_zero] at this
        unfold ref09_Few
        rw [this]
        cases m.tables.all tabF <;> rfl
      · simp only [ref09_Few.l1, lt_len hi, if_true, idx_nat hi, Option.bind_some, Option.isSome_some, Bool.or_true, grd, Option.getD_some, add64_1 (show i < 4611686018427387904 by omega)]
        unfold tabF
        by_cases h1 : m.tables[i].name.length ≤ 40
        · by_cases h2 : m.tables[i].columns.length ≤ 12
          · rw [if_neg (by simp; omega), if_pos (by simp [h1, h2])]
          · rw [if_pos (by simp; omega), if_neg (by simp [h2])]
        · rw [if_pos (by simp; omega), if_neg (by simp [h1])]
      · simp [ref09_Few.l1]; omega
    rw [hfew]
    simp only [Option.isSome_some, Bool.or_true, grd, if_true, Option.getD_some, Bool.false_or, Bool.not_false, Bool.true_and]
    cases m.tables.all tabF with
    | false => simp
    | true =>
      rw [if_neg (by simp), Bool.true_and]
      have h4 : loopF (ref13_Bounded.l4 n m) n 0 = some (m.actions.all actF) := by
        have := loopF_lall (body := ref13_Bounded.l4 n m) (l := m.actions) (n := n) (st := fun i => (i : Int)) actF (some false) (some true) (fun rec i hi => ?_) (fun rec => ?_) (by omega)
        · simp only [Int.natCast_zero] at this
          rw [this]
          cases m.actions.all actF <;> rfl
        · simp only [ref13_Bounded.l4, lt_len hi, if_true, idx_nat hi, Option.bind_some]
          unfold actF
          by_cases hx : ((decide (m.actions[i].arguments.length ≤ 6) && decide (m.actions[i].effect.delta.length ≤ 20)) && (decide (m.actions[i].effect.hold.length ≤ 10) && decide (m.actions[i].effect.updates.length ≤ 40))) = true
          · rw [hx, Bool.true_and]
            simp only [Bool.and_eq_true, decide_eq_true_eq] at hx
            rw [if_neg (by simp; omega)]
            have := loopF_lall (body := ref13_Bounded.l5 n i rec m.actions[i]) (l := m.actions[i].effect.hold) (n := n) (st := fun k => (k : Int)) (fun r => decide (r.terms.length ≤ 20)) (some false) (rec ((i + 1 : Nat) : Int)) (fun rec' k hk => ?_) (fun rec' => ?_) (by omega)
            · simpa using this
            · simp only [ref13_Bounded.l5, lt_len hk, if_true, idx_nat hk, Option.bind_some, add64_1 (show k < 4611686018427387904 by omega)]
              by_cases h : m.actions[i].effect.hold[k].terms.length ≤ 20
              · rw [if_neg (by simp; omega), if_pos (by simp [h])]
              · rw [if_pos (by simp; omega), if_neg (by simp [h])]
            · simp only [ref13_Bounded.l5, ge_len, Bool.false_eq_true, if_false, add64_1 (show i < 4611686018427387904 by omega)]
          · rw [if_pos (by
              simp only [Bool.and_eq_true, decide_eq_true_eq] at hx
              simp only [Bool.or_eq_true, decide_eq_true_eq]; omega)]
            simp only [Bool.not_eq_true] at hx
            rw [hx, Bool.false_and, if_neg (by simp)]
        · simp [ref13_Bounded.l4]
      have h3 : loopF (ref13_Bounded.l3 n m) n 0 = some (m.operations.all opF && m.actions.all actF) := by
        have := loopF_lall (body := ref13_Bounded.l3 n m) (l := m.operations) (n := n) (st := fun i => (i : Int)) opF (some false) (some (m.actions.all actF)) (fun rec i hi => ?_) (fun rec => ?_) (by omega)
        · simp only [Int.natCast_zero] at this
          rw [this]
          cases m.operations.all opF <;> rfl
        · simp only [ref13_Bounded.l3, lt_len hi, if_true, idx_nat hi, Option.bind_some, Option.isSome_some, Bool.or_true, grd, Option.getD_some, add64_1 (show i < 4611686018427387904 by omega)]
          unfold opF
          by_cases h1 : m.operations[i].name.length ≤ 40
          · by_cases h2 : m.operations[i].sorts.length ≤ 6
            · rw [if_neg (by simp; omega), if_pos (by simp [h1, h2])]
            · rw [if_pos (by simp; omega), if_neg (by simp [h2])]
          · rw [if_pos (by simp; omega), if_neg (by simp [h1])]
        · simp only [ref13_Bounded.l3, ge_len, Bool.false_eq_true, if_false, h4]
      have h2 : loopF (ref13_Bounded.l2 n m) n 0 = some (m.constraints.all (fun c => decide (c.row.terms.length ≤ 20)) && (m.operations.all opF && m.actions.all actF)) := by
        have := loopF_lall (body := ref13_Bounded.l2 n m) (l := m.constraints) (n := n) (st := fun i => (i : Int)) (fun c => decide (c.row.terms.length ≤ 20)) (some false) (some (m.operations.all opF && m.actions.all actF)) (fun rec i hi => ?_) (fun rec => ?_) (by omega)
        · simp only [Int.natCast_zero] at this
          rw [this]
          cases m.constraints.all (fun c => decide (c.row.terms.length ≤ 20)) <;> rfl
        · simp only [ref13_Bounded.l2, lt_len hi, if_true, idx_nat hi, Option.bind_some, add64_1 (show i < 4611686018427387904 by omega)]
          by_cases h : m.constraints[i].row.terms.length ≤ 20
          · rw [if_neg (by simp; omega), if_pos (by simp [h])]
          · rw [if_pos (by simp; omega), if_neg (by simp [h])]
        · simp only [ref13_Bounded.l2, ge_len, Bool.false_eq_true, if_false, h3]
      have := loopF_lall (body := ref13_Bounded.l1 n m) (l := m.families) (n := n) (st := fun i => (i : Int)) (fun s => decide (s.length ≤ 40)) (some false) (some (m.constraints.all (fun c => decide (c.row.terms.length ≤ 20)) && (m.operations.all opF && m.actions.all actF))) (fun rec i hi => ?_) (fun rec => ?_) (by omega)
      · simp only [Int.natCast_zero] at this
        rw [this]
        cases m.families.all (fun s => decide (s.length ≤ 40)) <;> rfl
      · simp only [ref13_Bounded.l1, lt_len hi, if_true, idx_nat hi, Option.bind_some, add64_1 (show i < 4611686018427387904 by omega)]
        by_cases h : m.families[i].length ≤ 40
        · rw [if_neg (by simp; omega), if_pos (by simp [h])]
        · rw [if_pos (by simp; omega), if_neg (by simp [h])]
      · simp only [ref13_Bounded.l1, ge_len, Bool.false_eq_true, if_false, h2]
theorem boundedP_small {m : Model} (h : boundedP m = true) : SmallM m := by
  simp only [boundedP, lensP, tabF, opF, actF, Bool.and_eq_true, Bool.not_eq_true', Bool.or_eq_false_iff, decide_eq_false_iff_not, List.all_eq_true, decide_eq_true_eq] at h
  obtain ⟨⟨⟨⟨⟨⟨⟨b1, b2⟩, b3⟩, b4⟩, b5⟩, b6⟩, b7⟩, c1, c2, c3, c4, c5⟩ := h
  exact ⟨by omega, by omega, c1, by omega, c2, by omega, c3, by omega, c4, by omega, fun a ha => by
    obtain ⟨⟨⟨p1, p2⟩, p3, p4⟩, p5⟩ := c5 a ha
    exact ⟨p1, p2, p3, p4, p5⟩, by omega⟩
def prodP : Int → List Range → Bool
  | _, [] => true
  | p, r :: l => !decide (4096 < mul64 p (add64 (sub64 r.hi r.lo) 1)) && prodP (mul64 p (add64 (sub64 r.hi r.lo) 1)) l
def strictR (m : Model) : List Range := if layoutP m.sorts m.tables = true then rangesP m.sorts true m.tables else []
def fewP (m : Model) : Bool := ((boundedP m && decide (m.actions.length ≤ 12)) && decide (m.constraints.length ≤ 40)) && (m.actions.all (fun a => decide (a.effect.hold.length ≤ 4)) && (decide ((strictR m).length ≤ 12) && prodP 1 (strictR m)))
theorem ref13_strict_eq {n : Nat} {m : Model} (hn : 1000000 ≤ n) (hS : SmallM m) : ref13_strict n m = some (strictR m) := by
  have hs := hS.sorts
  have ht := hS.tables
  unfold ref13_strict
  rw [ref09_Ranges_eq hn (by omega) (by omega) (fun t h => by have := hS.tab t h; omega)]
  rfl
theorem strictR_len {m : Model} (hS : SmallM m) : (strictR m).length ≤ 2592 := by
  have ht := hS.tables
  unfold strictR
  split
  · rename_i hL
    obtain ⟨l1, l2, l3, l4⟩ := layoutP_tab hL
    have := rangesP_len (sizes := m.sorts) (s := true) (l := m.tables) fun x hx => (l4 x hx).2.2.2.2
    omega
  · simp
theorem ref13_Few_eq {n : Nat} {m : Model} (hn : 1000000 ≤ n) : ref13_Few n m = some (fewP m) := by
  unfold ref13_Few fewP
  rw [ref13_Bounded_eq hn, Option.bind_some]
  have e1 : decide (12 < (m.actions.length : Int)) = !decide (m.actions.length ≤ 12) := not_lt_le (a := 12)
  have e2 : decide (40 < (m.constraints.length : Int)) = !decide (m.constraints.length ≤ 40) := not_lt_le (a := 40)
  rw [e1, e2, ← Bool.not_and, ← Bool.not_and]
  cases hb : (boundedP m && decide (m.actions.length ≤ 12) && decide (m.constraints.length ≤ 40)) with
  | false => simp
  | true =>
    simp only [Bool.and_eq_true, decide_eq_true_eq] at hb
    have hS := boundedP_small hb.1.1
    have hsl := strictR_len hS
    have T : (if (decide (12 < ((strictR m).length : Int))) = true then some false else loopF (ref13_Few.l2 n (strictR m)) n (1, 0)) = some (decide ((strictR m).length ≤ 12) && prodP 1 (strictR m)) := by
      by_cases h : (strictR m).length ≤ 12
      · rw [if_neg (by simp; omega), decide_eq_true h, Bool.true_and]
        refine loopF_I (body := ref13_Few.l2 n (strictR m)) (len := (strictR m).length) (st := fun (p : Int) i => (p, (i : Int))) (g := fun i p => some (prodP p ((strictR m).drop i))) (fun _ _ => True) (fun rec i p hi _ hr => ?_) (fun rec p _ => ?_) n 0 1 (Nat.zero_le _) (by omega) trivial
        · simp only [ref13_Few.l2, lt_len hi, if_true, idx_nat hi, Option.bind_some, add64_1 (show i < 4611686018427387904 by omega), hr _ trivial]
          rw [drop_cons hi, prodP]
          cases decide (4096 < mul64 p (add64 (sub64 (strictR m)[i].hi (strictR m)[i].lo) 1)) <;> simp
        · simp [ref13_Few.l2, prodP]
      · rw [if_pos (by simp; omega), decide_eq_false h, Bool.false_and]
    have := loopF_lall (body := ref13_Few.l1 n m) (l := m.actions) (n := n) (st := fun i => (i : Int)) (fun a => decide (a.effect.hold.length ≤ 4)) (some false) (some (decide ((strictR m).length ≤ 12) && prodP 1 (strictR m))) (fun rec i hi => ?_) (fun rec => ?_) (by omega)
    · simp only [Int.natCast_zero] at this
      rw [if_neg (by simp), this]
      cases m.actions.all (fun a => decide (a.effect.hold.length ≤ 4)) <;> simp
    · simp only [ref13_Few.l1, lt_len hi, if_true, idx_nat hi, Option.bind_some, add64_1 (show i < 4611686018427387904 by omega)]
      by_cases h : m.actions[i].effect.hold.length ≤ 4
      · rw [if_neg (by simp; omega), if_pos (by simp [h])]
      · rw [if_pos (by simp; omega), if_neg (by simp [h])]
    · simp only [ref13_Few.l1, ge_len, Bool.false_eq_true, if_false, ref13_strict_eq hn hS, Option.bind_some, T]
theorem fewP_small {m : Model} (h : fewP m = true) : SmallM m := by
  simp only [fewP, Bool.and_eq_true] at h
  exact boundedP_small h.1.1.1
end Go.Proofs.YtcagdmegicijlaaGreatDoor
namespace Go.Proofs.YtcagdmegicijlaaGreatDoor
open Go Go.RowKit
structure ValidM (m : Model) : Prop where
  lay : layoutP m.sorts m.tables = true
  fams : m.families.length ≤ 24 ∧ distP [] m.families = true
  cons : consP m (rangesP m.sorts true m.tables) = true
  ops : opsP m = true
  acts : actsP m (rangesP m.sorts true m.tables).length = true
  hid : hidesP m = true
theorem validP_iff {m : Model} : validP m = true ↔ ValidM m := by
  simp only [validP, Bool.and_eq_true, decide_eq_true_eq]
  exact ⟨fun ⟨⟨a, b, c⟩, d, e, f, g⟩ => ⟨a, ⟨b, c⟩, d, e, f, g⟩, fun ⟨a, ⟨b, c⟩, d, e, f, g⟩ => ⟨⟨a, b, c⟩, d, e, f, g⟩⟩
end Go.Proofs.YtcagdmegicijlaaGreatDoor
namespace Go.Proofs.YtcagdmegicijlaaGreatDoor
open Go Go.RowKit
theorem awake_spec : law22_awake 18446744073709551616 = some true := by decide +kernel
end Go.Proofs.YtcagdmegicijlaaGreatDoor
namespace Go.Proofs.YtcagdmegicijlaaGreatDoor
open Go Go.RowKit
theorem keywords_spec : (lexer_keywords 18446744073709551616).map (fun m => m.es.map (fun e => e.2)) = some (kwL.map fun k => (k, true)) := by decide +kernel
theorem fuel_N : Fuel 18446744073709551616 := by
  refine ⟨by decide, ?_⟩
  have h := keywords_spec
  cases hk : lexer_keywords 18446744073709551616 with
  | none => rw [hk] at h; cases h
  | some m =>
    rw [hk] at h
    simp only [Option.map_some, Option.some.injEq] at h
    refine ⟨m, rfl, fun e he => ?_, fun k => ?_⟩
    · have : e.2 ∈ m.es.map (fun e => e.2) := List.mem_map_of_mem he
      rw [h] at this
      simp only [List.mem_map] at this
      obtain ⟨x, -, hx⟩ := this
      rw [← hx]
    · have : m.es.map (fun e => e.2.1) = kwL := by
        have e1 : m.es.map (fun e => e.2.1) = (m.es.map (fun e => e.2)).map (·.1) := by rw [List.map_map]; rfl
        rw [e1, h, List.map_map]
        exact List.map_id kwL
      rw [this]
theorem deltaP_spec {K : Nat} : ∀ (l : List Change) (last : Int), deltaP K last l = true → (∀ d ∈ l, last < d.cell ∧ d.cell < (K : Int) ∧ d.add ≠ 0 ∧ -1000000000 ≤ d.add ∧ d.add ≤ 1000000000) ∧ (l.map (·.cell)).Nodup
  | [], _, _ => by simp
  | d :: l, last, h => by
    simp only [deltaP, aroundP, Bool.and_eq_true, decide_eq_true_eq, bne_iff_ne] at h
    obtain ⟨⟨⟨⟨h1, h2⟩, h3⟩, h4, h5⟩, h6⟩ := h
    obtain ⟨p1, p2⟩ := deltaP_spec l d.cell h6
    refine ⟨fun x hx => ?_, ?_⟩
    · simp only [List.mem_cons] at hx
      rcases hx with rfl | hx
      · exact ⟨h1, h2, h3, h4, h5⟩
      · obtain ⟨q1, q2⟩ := p1 x hx
        exact ⟨by omega, q2⟩
    · simp only [List.map_cons, List.nodup_cons, List.mem_map, not_exists, not_and]
      exact ⟨fun x hx e => by have := (p1 x hx).1; omega, p2⟩
theorem valid_act {m : Model} (hV : ValidM m) {a : Action} (ha : a ∈ m.actions) : effP m (rangesP m.sorts true m.tables).length a.effect = true ∧ (0 ≤ a.operation ∧ a.operation < (m.operations.length : Int)) := by
  have h := hV.acts
  simp only [actsP, Bool.and_eq_true] at h
  obtain ⟨i, hi, rfl⟩ := List.mem_iff_getElem.1 ha
  have := allR_0.1 h.2 i hi
  simp only [idx_nat hi, Option.getD_some, actP, Bool.and_eq_true, decide_eq_true_eq] at this
  exact ⟨this.2, this.1.1.1.1⟩
theorem valid_con {m : Model} (hV : ValidM m) {c : Constraint} (hc : c ∈ m.constraints) : plainP (rangesP m.sorts true m.tables).length c = true ∨ acyP m c = true := by
  have h := hV.cons
  simp only [consP, Bool.and_eq_true] at h
  obtain ⟨i, hi, rfl⟩ := List.mem_iff_getElem.1 hc
  have := allR_0.1 h.2 i hi
  simp only [idx_nat hi, Option.getD_some, conP, Bool.and_eq_true, Bool.or_eq_true] at this
  exact this.1.2
theorem acy_size {m : Model} (hV : ValidM m) {c : Constraint} (h : acyP m c = true) : c.kind = 1 ∧ 1 ≤ c.size ∧ c.size ≤ 6 := by
  obtain ⟨l1, l2, l3, l4⟩ := layoutP_tab hV.lay
  simp only [acyP, graphP, Bool.and_eq_true, List.any_eq_true, beq_iff_eq] at h
  obtain ⟨h1, -, t, ht, hg⟩ := h
  simp only [graphT, Bool.and_eq_true, beq_iff_eq] at hg
  obtain ⟨⟨g1, g2⟩, ⟨g3, g4⟩, g5⟩ := hg
  obtain ⟨⟨x, hx⟩, -, z, hz⟩ := graph_cols (l4 t ht).2.2.2.1 g2
  refine ⟨h1, ?_⟩
  rw [hz] at g5
  simp only [Option.getD_some] at g5
  have := List.all_eq_true.1 l3 z (idx_mem hz)
  simp only [sizeOK, Bool.and_eq_true, decide_eq_true_eq] at this
  omega
theorem good_of_valid {n : Nat} {m : Model} (hn : 4294967296 ≤ n) (hS : SmallM m) (hV : ValidM m) : Good n m := by
  refine ⟨fun a ha => ?_, fun c hc => ?_⟩
  · obtain ⟨a1, a2, a3, a4, a5⟩ := hS.act a ha
    have he := (valid_act hV ha).1
    simp only [effP, Bool.and_eq_true] at he
    obtain ⟨p1, p2⟩ := deltaP_spec _ _ he.1
    exact ⟨by omega, by omega, fun k => addP_addedP k _ p2 fun d hd => by have := p1 d hd; omega, fun r hr => by have := a5 r hr; omega⟩
  · have hl := hS.con c hc
    rcases valid_con hV hc with h | h
    · simp only [plainP, Bool.and_eq_true, beq_iff_eq] at h
      refine ⟨.inl h.1.1.1, by omega, by omega, 0, ?_, by decide, by omega⟩
      rw [h.1.2]; rfl
    · obtain ⟨k1, s1, s2⟩ := acy_size hV h
      refine ⟨.inr k1, by omega, by omega, c.size.toNat * c.size.toNat, ?_, ?_, ?_⟩
      · have : c.size * c.size ≤ 6 * 6 := Int.mul_le_mul s2 s2 (by omega) (by omega)
        have h0 : 0 ≤ c.size * c.size := Int.mul_nonneg (by omega) (by omega)
        unfold mul64
        rw [w64_id (by omega) (by omega), Int.natCast_mul, Int.toNat_of_nonneg (by omega)]
      · have : c.size.toNat * c.size.toNat ≤ 6 * 6 := Nat.mul_le_mul (by omega) (by omega)
        omega
      · have : c.size.toNat * c.size.toNat ≤ 6 * 6 := Nat.mul_le_mul (by omega) (by omega)
        omega
end Go.Proofs.YtcagdmegicijlaaGreatDoor
namespace Go.Proofs.YtcagdmegicijlaaGreatDoor
open Go Go.RowKit
noncomputable def openP (n : Nat) (m : Model) (q : Question) : Bool := (condition_open n m q).getD false
theorem open_def {n : Nat} {m : Model} {q : Question} (hG : Good n m) (he : 0 ≤ q.e ∧ q.e < (m.actions.length : Int)) (hf : 0 ≤ q.f ∧ q.f < (m.actions.length : Int)) (hi : 0 ≤ q.target.index)
    (hh : q.target.hold = true → ∀ a, idx m.actions q.e = some a → q.target.index < (a.effect.hold.length : Int)) (hc : q.target.hold = false → q.target.index < (m.constraints.length : Int)) :
    condition_open n m q = some (openP n m q) ∧ ref22_open n m q = some (openP n m q) := by
  obtain ⟨b, h1, h2⟩ := open_eq hG he hf hi hh hc
  unfold openP
  rw [h1]
  exact ⟨rfl, h2⟩
def qC (e f i : Nat) : Question := ⟨(e : Int), (f : Int), ⟨false, (i : Int)⟩⟩
def qH (e f i : Nat) : Question := ⟨(e : Int), (f : Int), ⟨true, (i : Int)⟩⟩
def candC (e f k : Nat) : List Question := if e ≤ f then (List.range k).map (qC e f) else []
def candH (e f k : Nat) : List Question := (List.range k).map (qH e f)
def cand (m : Model) (e f : Nat) (a : Action) : List Question := candC e f m.constraints.length ++ candH e f a.effect.hold.length
def actN (m : Model) (e : Nat) : Action := (idx m.actions (e : Int)).getD default
noncomputable def rowQ (n : Nat) (m : Model) (e k : Nat) : List Question := (List.range k).flatMap fun f => (cand m e f (actN m e)).filter (openP n m)
noncomputable def questsQ (n : Nat) (m : Model) (k : Nat) : List Question := (List.range k).flatMap fun e => rowQ n m e m.actions.length
theorem actN_eq {m : Model} {e : Nat} (h : e < m.actions.length) : idx m.actions (e : Int) = some (actN m e) ∧ actN m e = m.actions[e] := by
  unfold actN
  rw [idx_nat h]
  exact ⟨rfl, rfl⟩
theorem range_snoc {β : Type} (g : Nat → List β) (k : Nat) : (List.range (k + 1)).flatMap g = (List.range k).flatMap g ++ g k := by
  rw [List.range_succ, List.flatMap_append]; simp
theorem map_snoc {β : Type} (g : Nat → β) (k : Nat) : (List.range (k + 1)).map g = (List.range k).map g ++ [g k] := by
  rw [List.range_succ, List.map_append]; rfl
theorem candC_len (e f k : Nat) : (candC e f k).length ≤ k := by
  unfold candC; split <;> simp
theorem cand_len {m : Model} (hS : SmallM m) {e f : Nat} (he : e < m.actions.length) : (cand m e f (actN m e)).length ≤ 70 := by
  have h1 := candC_len e f m.constraints.length
  have h2 := hS.constraints
  obtain ⟨-, -, a3, -⟩ := hS.act _ (List.getElem_mem he)
  rw [(actN_eq he).2]
  simp only [cand, candH, List.length_append, List.length_map, List.length_range]
  omega
theorem rowQ_len {n : Nat} {m : Model} (hS : SmallM m) {e : Nat} (he : e < m.actions.length) : ∀ k, (rowQ n m e k).length ≤ k * 70
  | 0 => by simp [rowQ]
  | k + 1 => by
    have ih := rowQ_len (n := n) hS he k
    have h1 := cand_len hS (f := k) he
    have h2 := List.length_filter_le (openP n m) (cand m e k (actN m e))
    unfold rowQ at ih ⊢
    rw [range_snoc, List.length_append]
    omega
theorem questsQ_len {n : Nat} {m : Model} (hS : SmallM m) : ∀ k, k ≤ m.actions.length → (questsQ n m k).length ≤ k * 2100
  | 0, _ => by simp [questsQ]
  | k + 1, h => by
    have ih := questsQ_len (n := n) hS k (by omega)
    have h1 := rowQ_len (n := n) hS (e := k) (by omega) m.actions.length
    have h2 := hS.actions
    unfold questsQ at ih ⊢
    rw [range_snoc, List.length_append]
    omega
theorem cand_open {n : Nat} {m : Model} (hG : Good n m) {e f : Nat} (he : e < m.actions.length) (hf : f < m.actions.length) : ∀ q ∈ cand m e f (actN m e), condition_open n m q = some (openP n m q) ∧ ref22_open n m q = some (openP n m q) := by
  intro q hq
  simp only [cand, candC, candH, List.mem_append] at hq
  rcases hq with hq | hq
  · split at hq
    · simp only [List.mem_map, List.mem_range] at hq
      obtain ⟨i, hi, rfl⟩ := hq
      exact open_def hG ⟨by simp [qC], by simp only [qC]; omega⟩ ⟨by simp [qC], by simp only [qC]; omega⟩ (by simp [qC]) (fun h => by simp [qC] at h) (fun _ => by simp only [qC]; omega)
    · simp at hq
  · simp only [List.mem_map, List.mem_range] at hq
    obtain ⟨i, hi, rfl⟩ := hq
    refine open_def hG ⟨by simp [qH], by simp only [qH]; omega⟩ ⟨by simp [qH], by simp only [qH]; omega⟩ (by simp [qH]) (fun _ a ha => ?_) (fun h => by simp [qH] at h)
    simp only [qH] at ha ⊢
    rw [(actN_eq he).1] at ha
    cases ha
    omega
theorem ixP_spec {α : Type} (p : α → Bool) : ∀ (l : List α) (i : Nat), (ixP p l i = -1 ∧ ∀ x ∈ l, p x = false) ∨ ∃ k, ∃ h : k < l.length, ixP p l i = ((i + k : Nat) : Int) ∧ p l[k] = true ∧ ∀ x ∈ l.take k, p x = false
  | [], i => .inl ⟨rfl, fun x hx => by simp at hx⟩
  | x :: l, i => by
    rw [ixP]
    by_cases h : p x = true
    · rw [if_pos h]
      exact .inr ⟨0, by simp, rfl, h, fun y hy => by simp at hy⟩
    · rw [if_neg h]
      rcases ixP_spec p l (i + 1) with ⟨h1, h2⟩ | ⟨k, hk, h1, h2, h3⟩
      · refine .inl ⟨h1, fun y hy => ?_⟩
        simp only [List.mem_cons] at hy
        rcases hy with rfl | hy
        · simpa using h
        · exact h2 y hy
      · refine .inr ⟨k + 1, by simpa using hk, by rw [h1]; omega, by simpa using h2, fun y hy => ?_⟩
        simp only [List.take_succ_cons, List.mem_cons] at hy
        rcases hy with rfl | hy
        · simpa using h
        · exact h3 y hy
theorem IndexFunc_Q_eq {n : Nat} {l : List Question} {f : Question → Option Bool} {p : Question → Bool} (hf : ∀ x ∈ l, f x = some (p x)) (hl : l.length < 1000000) (hn : 1000000 ≤ n) : slices_IndexFunc_LQuestion_api_Question n l f = some (ixP p l 0) := by
  have := loopF_g (body := slices_IndexFunc_LQuestion_api_Question.l1 n l f) (len := l.length) (st := fun i => (i : Int)) (g := fun i => some (ixP p (l.drop i) i)) (fun rec i hi hr => ?_) (fun rec => ?_) n 0 (Nat.zero_le _) (by omega)
  · simpa [slices_IndexFunc_LQuestion_api_Question] using this
  · simp only [slices_IndexFunc_LQuestion_api_Question.l1, lt_len hi, if_true, idx_nat hi, Option.bind_some, hf _ (List.getElem_mem hi), add64_1 (show i < 4611686018427387904 by omega), hr]
    rw [drop_cons hi]
    simp only [ixP]
    split <;> rfl
  · simp [slices_IndexFunc_LQuestion_api_Question.l1, ixP]
theorem filter_take_succ {α : Type} {p : α → Bool} {l : List α} {i : Nat} (h : i < l.length) : (l.take (i + 1)).filter p = (l.take i).filter p ++ if p l[i] = true then [l[i]] else [] := by
  rw [List.take_succ_eq_append_getElem h, List.filter_append]
  congr 1
  by_cases hp : p l[i] = true <;> simp [hp]
theorem delete_loop {n : Nat} {m : Model} {out L : List Question} {k : List Question → Option (List Question)} {i0 : Nat} (hL : L.length ≤ 1000) (ho : out.length ≤ 1000000) (hq : ∀ q ∈ L, condition_open n m q = some (openP n m q)) (hn : 1000000 ≤ n)
    (hi : i0 < L.length) (h0 : openP n m L[i0] = false) (hpre : ∀ q ∈ L.take i0, openP n m q = true) :
    loopF (condition_Questions.l5 n m out k) n (L, (i0 : Int), ((i0 + 1 : Nat) : Int)) = k (out ++ L.filter (openP n m)) := by
  refine loopF_M (body := condition_Questions.l5 n m out k) (fun s => L.length - s.2.2.toNat) (fun s => ∃ a b : Nat, s.2.1 = (a : Int) ∧ s.2.2 = (b : Int) ∧ a < b ∧ b ≤ L.length ∧ s.1.length = L.length ∧ s.1.take a = (L.take b).filter (openP n m) ∧ s.1.drop b = L.drop b) (fun _ o => o = k (out ++ L.filter (openP n m))) (fun rec s hI hr => ?_) n _ ⟨i0, i0 + 1, rfl, rfl, by omega, by omega, rfl, ?_, rfl⟩ (by simp; omega)
  · obtain ⟨B, x5, x6⟩ := s
    obtain ⟨a, b, rfl, rfl, hab, hbL, hB, hta, hdb⟩ := hI
    simp only [] at hB hta hdb hr
    simp only [condition_Questions.l5, jn]
    by_cases hlt : b < L.length
    · have hbB : b < B.length := by omega
      have hel : B[b] = L[b] := by
        have h1 := drop_cons hbB
        have h2 := drop_cons hlt
        rw [hdb, h2] at h1
        exact (List.cons.inj h1).1.symm
      have haB : a < B.length := by omega
      have hsto : sto B (a : Int) L[b] = some (B.set a L[b]) := by unfold sto; rw [if_pos ⟨by omega, by simpa using haB⟩]; rfl
      rw [if_pos (lt_len hbB), idx_nat hbB, hel]
      simp only [Option.bind_some, condition_Questions_1, hq _ (List.getElem_mem hlt), add64_1 (show a < 4611686018427387904 by omega), add64_1 (show b < 4611686018427387904 by omega), idx_nat haB, hsto, Bool.not_not]
      have hdb' : B.drop (b + 1) = L.drop (b + 1) := by rw [← List.tail_drop, hdb, List.tail_drop]
      cases ho : openP n m L[b] with
      | true =>
        rw [if_pos rfl]
        refine hr (B.set a L[b], ((a + 1 : Nat) : Int), ((b + 1 : Nat) : Int)) ⟨a + 1, b + 1, rfl, rfl, by omega, by omega, by simp [hB], ?_, ?_⟩ (by simp only [Int.toNat_natCast]; omega)
        · simp only []
          rw [filter_take_succ hlt, ho, if_pos rfl, ← hta, List.take_succ_eq_append_getElem (by simpa using haB), List.take_set_of_le (Nat.le_refl a)]
          simp
        · simp only []
          rw [List.drop_set_of_lt (by omega), hdb']
      | false =>
        rw [if_neg (by simp)]
        refine hr (B, (a : Int), ((b + 1 : Nat) : Int)) ⟨a, b + 1, rfl, rfl, by omega, by omega, hB, ?_, hdb'⟩ (by simp only [Int.toNat_natCast]; omega)
        simp only []
        rw [filter_take_succ hlt, ho, if_neg (by simp), List.append_nil, hta]
    · have hbe : b = L.length := by omega
      rw [if_neg (by rw [ge_nat (by omega)]; simp), cut_end (by omega)]
      have hcl : (copyTo B a B.length (List.replicate (B.length - a) (⟨0, 0, ⟨false, 0⟩⟩ : Question))).length = B.length := copyTo_length (by omega) (Nat.le_refl _)
      have hc := cut_nat (l := copyTo B a B.length (List.replicate (B.length - a) (⟨0, 0, ⟨false, 0⟩⟩ : Question))) (a := 0) (b := a) (by omega) (by omega)
      simp only [Int.natCast_zero] at hc
      simp only [Option.bind_some, Int.toNat_natCast, hc]
      have htk : ((copyTo B a B.length (List.replicate (B.length - a) (⟨0, 0, ⟨false, 0⟩⟩ : Question))).drop 0).take (a - 0) = L.filter (openP n m) := by
        rw [List.drop_zero, Nat.sub_zero]
        unfold copyTo
        rw [List.take_append_of_le_length (by simp; omega), List.take_take, Nat.min_self, hta, hbe, List.take_length]
      have hfl := List.length_filter_le (openP n m) L
      rw [htk, app_some (by omega), Option.bind_some]
  · simp only []
    rw [filter_take_succ hi, h0, if_neg (by simp), List.append_nil, List.filter_eq_self.2 hpre]
theorem delete_eq {n : Nat} {m : Model} {out : List Question} {L : List Question} {k : List Question → Option (List Question)} (hL : L.length ≤ 1000) (ho : out.length ≤ 1000000) (hq : ∀ q ∈ L, condition_open n m q = some (openP n m q)) (hn : 1000000 ≤ n) :
    ((slices_IndexFunc_LQuestion_api_Question n L (fun q0 => condition_Questions_1 n q0 m)).bind fun x10_1340 =>
      if (x10_1340 == (-1)) = true then
        (Go.Proofs.YtcagdmegicijlaaGreatDoor.app 32 out L).bind fun x66_1342 => k x66_1342
      else loopF (condition_Questions.l5 n m out k) n (L, x10_1340, add64 x10_1340 1)) = k (out ++ L.filter (openP n m)) := by
  rw [IndexFunc_Q_eq (p := fun q => !openP n m q) (fun q h => by unfold condition_Questions_1; rw [hq q h]; rfl) (by omega) hn, Option.bind_some]
  rcases ixP_spec (fun q => !openP n m q) L 0 with ⟨h1, h2⟩ | ⟨i, hi, h1, h2, h3⟩
  · rw [h1, if_pos (by decide), app_some (by omega), Option.bind_some, List.filter_eq_self.2 fun q hq' => by simpa using h2 q hq']
  · rw [h1, Nat.zero_add, if_neg (by simp), add64_1 (by omega)]
    exact delete_loop hL ho hq hn hi (by simpa using h2) fun q hq' => by simpa using h3 q hq'
theorem Questions_pair {n : Nat} {m : Model} (hS : SmallM m) (hG : Good n m) {e f : Nat} (he : e < m.actions.length) (hf : f < m.actions.length) {out : List Question} (ho : out.length ≤ 1000000) {k : List Question → Option (List Question)} (hn : 1000000 ≤ n) :
    loopF (condition_Questions.l3 n m (e : Int) out (f : Int) k) n ([], 0) = k (out ++ (cand m e f (actN m e)).filter (openP n m)) := by
  have hcl := hS.constraints
  have hcand := cand_len hS (f := f) he
  obtain ⟨-, -, a3, -⟩ := hS.act _ (List.getElem_mem he)
  rw [← (actN_eq he).2] at a3
  have second : ∀ C : List Question, C.length ≤ 100 → loopF (condition_Questions.l4 n m (e : Int) out (f : Int) k (actN m e)) n (C, 0) = ((slices_IndexFunc_LQuestion_api_Question n (C ++ candH e f (actN m e).effect.hold.length) (fun q0 => condition_Questions_1 n q0 m)).bind fun x10_1340 =>
      if (x10_1340 == (-1)) = true then
        (Go.Proofs.YtcagdmegicijlaaGreatDoor.app 32 out (C ++ candH e f (actN m e).effect.hold.length)).bind fun x66_1342 => k x66_1342
      else loopF (condition_Questions.l5 n m out k) n (C ++ candH e f (actN m e).effect.hold.length, x10_1340, add64 x10_1340 1)) := fun C hC => by
    have := loopF_g (body := condition_Questions.l4 n m (e : Int) out (f : Int) k (actN m e)) (len := (actN m e).effect.hold.length) (st := fun i => (C ++ candH e f i, (i : Int))) (g := fun _ => ((slices_IndexFunc_LQuestion_api_Question n (C ++ candH e f (actN m e).effect.hold.length) (fun q0 => condition_Questions_1 n q0 m)).bind fun x10_1340 =>
      if (x10_1340 == (-1)) = true then
        (Go.Proofs.YtcagdmegicijlaaGreatDoor.app 32 out (C ++ candH e f (actN m e).effect.hold.length)).bind fun x66_1342 => k x66_1342
      else loopF (condition_Questions.l5 n m out k) n (C ++ candH e f (actN m e).effect.hold.length, x10_1340, add64 x10_1340 1))) (fun rec i hi hr => ?_) (fun rec => ?_) n 0 (Nat.zero_le _) (by omega)
    · simpa [candH] using this
    · simp only [condition_Questions.l4, lt_len hi, if_true, add64_1 (show i < 4611686018427387904 by omega)]
      rw [app_some (by simp [candH]; omega), Option.bind_some]
      unfold candH at hr ⊢
      rw [map_snoc, ← List.append_assoc] at hr
      exact hr
    · simp only [condition_Questions.l4, ge_len, Bool.false_eq_true, if_false]
  have first : loopF (condition_Questions.l3 n m (e : Int) out (f : Int) k) n ([], 0) = loopF (condition_Questions.l4 n m (e : Int) out (f : Int) k (actN m e)) n (candC e f m.constraints.length, 0) := by
    have := loopF_g (body := condition_Questions.l3 n m (e : Int) out (f : Int) k) (len := m.constraints.length) (st := fun i => (candC e f i, (i : Int))) (g := fun _ => loopF (condition_Questions.l4 n m (e : Int) out (f : Int) k (actN m e)) n (candC e f m.constraints.length, 0)) (fun rec i hi hr => ?_) (fun rec => ?_) n 0 (Nat.zero_le _) (by omega)
    · simpa [candC] using this
    · have hl := candC_len e f i
      simp only [condition_Questions.l3, jn, lt_len hi, if_true, add64_1 (show i < 4611686018427387904 by omega)]
      by_cases hef : e ≤ f
      · rw [if_pos (by simpa using hef), app_some (by simp; omega), Option.bind_some]
        unfold candC at hr ⊢
        rw [if_pos hef] at hr ⊢
        rw [map_snoc] at hr
        exact hr
      · rw [if_neg (by simpa using hef)]
        unfold candC at hr ⊢
        rw [if_neg hef] at hr ⊢
        exact hr
    · simp only [condition_Questions.l3, ge_len, Bool.false_eq_true, if_false, (actN_eq he).1, Option.bind_some]
  rw [first, second _ (by have := candC_len e f m.constraints.length; omega)]
  exact delete_eq (L := cand m e f (actN m e)) (by omega) ho (fun q hq => (cand_open hG he hf q hq).1) hn
theorem condition_Questions_eq {n : Nat} {m : Model} (hF : Fuel n) (hS : SmallM m) : condition_Questions n m = some (if validP m = true then questsQ n m m.actions.length else []) := by
  have hn := hF.big
  have hal := hS.actions
  unfold condition_Questions
  rw [model_Valid_eq hF hS, Option.bind_some]
  cases hv : validP m with
  | false => simp
  | true =>
    have hG := good_of_valid hn hS (validP_iff.1 hv)
    rw [if_neg (by simp), if_pos rfl]
    have := loopF_g (body := condition_Questions.l1 n m) (len := m.actions.length) (st := fun e => (questsQ n m e, (e : Int))) (g := fun _ => some (questsQ n m m.actions.length)) (fun rec e he hr => ?_) (fun rec => ?_) n 0 (Nat.zero_le _) (by omega)
    · simpa [questsQ] using this
    · simp only [condition_Questions.l1, lt_len he, if_true]
      have hql := questsQ_len (n := n) hS e (by omega)
      have inner := loopF_g (body := condition_Questions.l2 n m (e : Int) rec) (len := m.actions.length) (st := fun f => (questsQ n m e ++ rowQ n m e f, (f : Int))) (g := fun _ => some (questsQ n m m.actions.length)) (fun rec' f hf hr' => ?_) (fun rec' => ?_) n 0 (Nat.zero_le _) (by omega)
      · simpa [rowQ] using inner
      · have hrl := rowQ_len (n := n) hS he f
        simp only [condition_Questions.l2, jn, lt_len hf, if_true, add64_1 (show f < 4611686018427387904 by omega)]
        rw [Questions_pair hS hG he hf (by rw [List.length_append]; omega) (by omega)]
        unfold rowQ at hr' ⊢
        rw [range_snoc, ← List.append_assoc] at hr'
        exact hr'
      · simp only [condition_Questions.l2, ge_len, Bool.false_eq_true, if_false, add64_1 (show e < 4611686018427387904 by omega)]
        unfold questsQ at hr ⊢
        rw [range_snoc] at hr
        exact hr
    · simp [condition_Questions.l1]
theorem ref22_pair {n : Nat} {m : Model} (hS : SmallM m) (hG : Good n m) {e f : Nat} (he : e < m.actions.length) (hf : f < m.actions.length) {out : List Question} (ho : out.length ≤ 1000000) {rec : (List Question × Int) → Option (List Question)} (hn : 1000000 ≤ n) :
    loopF (ref22_Questions.l3 n m (e : Int) (f : Int) rec) n (out, 0) = rec (out ++ (cand m e f (actN m e)).filter (openP n m), ((f + 1 : Nat) : Int)) := by
  have hcl := hS.constraints
  have hal := hS.actions
  have hop := cand_open hG he hf
  obtain ⟨-, -, a3, -⟩ := hS.act _ (List.getElem_mem he)
  rw [← (actN_eq he).2] at a3
  have second : ∀ C : List Question, C.length ≤ 1001000 → loopF (ref22_Questions.l4 n m (e : Int) (f : Int) rec) n (C, 0) = rec (C ++ (candH e f (actN m e).effect.hold.length).filter (openP n m), ((f + 1 : Nat) : Int)) := fun C hC => by
    have := loopF_g (body := ref22_Questions.l4 n m (e : Int) (f : Int) rec) (len := (actN m e).effect.hold.length) (st := fun i => (C ++ (candH e f i).filter (openP n m), (i : Int))) (g := fun _ => rec (C ++ (candH e f (actN m e).effect.hold.length).filter (openP n m), ((f + 1 : Nat) : Int))) (fun rec' i hi hr => ?_) (fun rec' => ?_) n 0 (Nat.zero_le _) (by omega)
    · simpa [candH] using this
    · have hmem : qH e f i ∈ cand m e f (actN m e) := by
        simp only [cand, candH, List.mem_append, List.mem_map, List.mem_range]
        exact .inr ⟨i, hi, rfl⟩
      have hq := (hop _ hmem).2
      unfold qH at hq
      have hfl := List.length_filter_le (openP n m) (candH e f i)
      have hhl : (candH e f i).length = i := by simp [candH]
      simp only [ref22_Questions.l4, jn, (actN_eq he).1, Option.bind_some, lt_len hi, if_true, hq, add64_1 (show i < 4611686018427387904 by omega)]
      have hs : (candH e f (i + 1)).filter (openP n m) = (candH e f i).filter (openP n m) ++ if openP n m (qH e f i) = true then [qH e f i] else [] := by
        unfold candH
        rw [map_snoc, List.filter_append]
        congr 1
        by_cases hp : openP n m (qH e f i) = true <;> simp [hp]
      rw [hs, ← List.append_assoc] at hr
      by_cases hp : openP n m (qH e f i) = true
      · rw [if_pos hp] at hr
        unfold qH at hp hr
        rw [if_pos hp, app_some (by simp only [List.length_append, List.length_singleton]; omega), Option.bind_some]
        exact hr
      · rw [if_neg hp, List.append_nil] at hr
        unfold qH at hp
        rw [if_neg hp]
        exact hr
    · simp only [ref22_Questions.l4, (actN_eq he).1, Option.bind_some, ge_len, Bool.false_eq_true, if_false, add64_1 (show f < 4611686018427387904 by omega)]
  have := loopF_g (body := ref22_Questions.l3 n m (e : Int) (f : Int) rec) (len := m.constraints.length) (st := fun i => (out ++ (candC e f i).filter (openP n m), (i : Int))) (g := fun _ => rec (out ++ (cand m e f (actN m e)).filter (openP n m), ((f + 1 : Nat) : Int))) (fun rec' i hi hr => ?_) (fun rec' => ?_) n 0 (Nat.zero_le _) (by omega)
  · simpa [candC] using this
  · have hl := candC_len e f i
    have hfl := List.length_filter_le (openP n m) (candC e f i)
    simp only [ref22_Questions.l3, jn, lt_len hi, if_true, add64_1 (show i < 4611686018427387904 by omega)]
    by_cases hef : e ≤ f
    · have hmem : qC e f i ∈ cand m e f (actN m e) := by
        simp only [cand, candC, if_pos hef, List.mem_append, List.mem_map, List.mem_range]
        exact .inl ⟨i, hi, rfl⟩
      have hq := (hop _ hmem).2
      have hs : (candC e f (i + 1)).filter (openP n m) = (candC e f i).filter (openP n m) ++ if openP n m (qC e f i) = true then [qC e f i] else [] := by
        unfold candC
        rw [if_pos hef, if_pos hef, map_snoc, List.filter_append]
        congr 1
        by_cases hp : openP n m (qC e f i) = true <;> simp [hp]
      rw [hs, ← List.append_assoc] at hr
      have hd : decide ((e : Int) ≤ (f : Int)) = true := by simpa using hef
      unfold qC at hq
      simp only [hd, hq, Option.isSome_some, Bool.or_true, grd, if_true, Option.getD_some, Bool.true_and]
      by_cases hp : openP n m (qC e f i) = true
      · rw [if_pos hp] at hr
        unfold qC at hp hr
        rw [if_pos hp, app_some (by simp only [List.length_append, List.length_singleton]; omega), Option.bind_some]
        exact hr
      · rw [if_neg hp, List.append_nil] at hr
        unfold qC at hp
        rw [if_neg hp]
        exact hr
    · have hd : decide ((e : Int) ≤ (f : Int)) = false := by simpa using hef
      have hs : candC e f (i + 1) = candC e f i := by
        unfold candC
        rw [if_neg hef, if_neg hef]
      rw [hs] at hr
      simp only [hd, Bool.not_false, Bool.true_or, grd, if_true, Bool.false_and, Bool.false_eq_true, if_false]
      exact hr
  · have hl := candC_len e f m.constraints.length
    have hfl := List.length_filter_le (openP n m) (candC e f m.constraints.length)
    simp only [ref22_Questions.l3, ge_len, Bool.false_eq_true, if_false]
    rw [second _ (by rw [List.length_append]; omega), List.append_assoc, ← List.filter_append]
    rfl
theorem ref22_Questions_eq {n : Nat} {m : Model} (hn : 4294967296 ≤ n) (hS : SmallM m) : ref22_Questions n m = some (if validP m = true then questsQ n m m.actions.length else []) := by
  have hal := hS.actions
  unfold ref22_Questions
  rw [ref13_Valid_eq hn hS, Option.bind_some]
  cases hv : validP m with
  | false => simp
  | true =>
    have hG := good_of_valid hn hS (validP_iff.1 hv)
    rw [if_neg (by simp), if_pos rfl]
    have := loopF_g (body := ref22_Questions.l1 n m) (len := m.actions.length) (st := fun e => (questsQ n m e, (e : Int))) (g := fun _ => some (questsQ n m m.actions.length)) (fun rec e he hr => ?_) (fun rec => ?_) n 0 (Nat.zero_le _) (by omega)
    · simpa [questsQ] using this
    · simp only [ref22_Questions.l1, lt_len he, if_true]
      have hql := questsQ_len (n := n) hS e (by omega)
      have inner := loopF_g (body := ref22_Questions.l2 n m (e : Int) rec) (len := m.actions.length) (st := fun f => (questsQ n m e ++ rowQ n m e f, (f : Int))) (g := fun _ => some (questsQ n m m.actions.length)) (fun rec' f hf hr' => ?_) (fun rec' => ?_) n 0 (Nat.zero_le _) (by omega)
      · simpa [rowQ] using inner
      · have hrl := rowQ_len (n := n) hS he f
        simp only [ref22_Questions.l2, lt_len hf, if_true]
        rw [ref22_pair hS hG he hf (by rw [List.length_append]; omega) (by omega)]
        unfold rowQ at hr' ⊢
        rw [range_snoc, ← List.append_assoc] at hr'
        exact hr'
      · simp only [ref22_Questions.l2, ge_len, Bool.false_eq_true, if_false, add64_1 (show e < 4611686018427387904 by omega)]
        unfold questsQ at hr ⊢
        rw [range_snoc] at hr
        exact hr
    · simp [ref22_Questions.l1]
theorem EqualQ_same {n : Nat} {a : List Question} (hl : a.length < 1000000) (hn : 1000000 ≤ n) : slices_Equal_LQuestion_api_Question n a a = some true := by
  unfold slices_Equal_LQuestion_api_Question
  rw [if_neg (by simp)]
  have := loopF_g (body := slices_Equal_LQuestion_api_Question.l1 n a a) (len := a.length) (st := fun i => (i : Int)) (g := fun _ => some true) (fun rec i hi hr => ?_) (fun rec => ?_) n 0 (Nat.zero_le _) (by omega)
  · simpa using this
  · simp only [slices_Equal_LQuestion_api_Question.l1, lt_len hi, if_true, idx_nat hi, Option.bind_some, decide_true, Bool.not_true, Bool.false_eq_true, if_false, add64_1 (show i < 4611686018427387904 by omega), hr]
  · simp [slices_Equal_LQuestion_api_Question.l1]
theorem Questions_law {m : Model} : law22_ConditionQuestions 18446744073709551616 m = some true := by
  unfold law22_ConditionQuestions
  have hF := fuel_N
  have hn := hF.big
  rw [awake_spec, ref13_Few_eq (by omega)]
  simp only [Option.bind_some, Bool.not_true, Bool.false_eq_true, if_false]
  cases hf : fewP m with
  | false => simp [grd]
  | true =>
    have hS := fewP_small hf
    rw [condition_Questions_eq hF hS, ref22_Questions_eq hn hS]
    simp only [Option.getD_some]
    rw [EqualQ_same (by
      split
      · have := questsQ_len (n := 18446744073709551616) hS m.actions.length (Nat.le_refl _)
        have := hS.actions
        omega
      · simp) (by omega)]
    simp [grd]
end Go.Proofs.YtcagdmegicijlaaGreatDoor
namespace Go.Proofs.YtcagdmegicijlaaGreatDoor
set_option maxHeartbeats 4000000 in
theorem closed2 : joinedFacts Tryz.pinned.checked.prog 4 Tryz.f4 (OpenSpec.ofChange Rows.conditionQuestionsSpec).bare Rows.conditionQuestionsRow = true := by
  unfold joinedFacts
  simp only [Bool.and_eq_true]
  repeat' apply And.intro
  all_goals as_aux_lemma => kernel_rfl
end Go.Proofs.YtcagdmegicijlaaGreatDoor
namespace Go.Proofs.YtcagdmegicijlaaGreatDoor
open Go.ChangeShapes Go.WideShapes Go.ChangeAt Go.RowKit
theorem own : ownKnob Tryz.prog.godebug = none := by kernel_rfl
theorem laidOut : laidOutB Tryz.prog = true := by kernel_rfl
set_option maxRecDepth 100000 in
theorem contract2 (H : Type) (enc : TypeId × Value → H) (W : World) (base : Nat) (args : Array Value) (ds gs : List (DataW H)) (before : List MemPlace)
    (hval : ∀ (j : Nat) t v, Tryz.f4.params[j]? = some t → args[j]? = some v → Value.okWide Tryz.prog W .any base t v)
    (hW : DataW.Whole enc Tryz.prog Tryz.f4.params.toList Rows.conditionQuestionsSpec.vars false W args.toList ds gs before) (hL : laidMetH Tryz.prog Rows.conditionQuestionsRow.laid W) (hS : W.ShapedOpen Tryz.prog) :
    Calls Tryz.prog 4 args W fun e W' => ∃ v, e = .returned v ∧ Rows.conditionQuestionsSpec.post enc Tryz.prog Tryz.f4 false true false false W args v W' := by
  have hW' := hW
  obtain ⟨p, q, hA0, hV, rfl, hfz, hnd⟩ := hW
  have hA : DataW.TrodAll enc Tryz.prog W 0 (fun _ => true) true Tryz.f4.params.toList args.toList ds p := hA0
  rw [Tryz.params4] at hA hval
  obtain ⟨v0, vs0, d0, ds0, p0, q0, hargs, rfl, rfl, h0, r0⟩ := trodAll_cons hA
  obtain ⟨rfl, rfl, rfl⟩ := trodAll_nil r0
  obtain rfl : args = #[v0] := by cases args; simp_all
  obtain ⟨rfl, rfl⟩ := trodVars_none hV
  obtain ⟨a0, k0⟩ := dModel.of_arg (hval 0 _ v0 rfl rfl) h0
  have hrun := (law22_ConditionQuestions_ok _ a0 true Questions_law).run Noneof W #[v0] (fun _ h => h.elim) (glob_ok hL hS) (by
    simp only [D.reps]
    exact ⟨v0, _, rfl, k0, rfl⟩)
  refine hrun.mono fun e W' ⟨u, he, hf, hu⟩ => ?_
  simp only [D.rep] at hu
  subst hu
  subst he
  refine ⟨_, rfl, post_kept hW' rfl rfl rfl laidOut (fun t ht => ?_) hf (fun _ _ _ => trodAll_cons_mk (shut_bool Tryz.underlying4 _) trodAll_mk0)⟩
  rw [Tryz.params4] at ht
  have hall : ([30].all fun t => Tryz.prog.readableRec t && decide (t < Tryz.prog.types.size)) = true := by kernel_rfl
  have := List.all_eq_true.1 hall t (by simpa using ht)
  simpa using this
theorem reads2 (os : Os) {H : Type} (enc : TypeId × Value → H) : ∃ places, DataW.whole enc Tryz.prog ((World.laidAll Tryz.prog os Rows.conditionQuestionsRow.laid).forCall (fun _ _ => 0) ⟨#[], #[.agg #[.slice none 0 0, .slice none 0 0, .slice none 0 0, .slice none 0 0, .slice none 0 0, .slice none 0 0, .slice none 0 0]], []⟩).memory Tryz.f4.params.toList Rows.conditionQuestionsSpec.vars false
    (#[.agg #[.slice none 0 0, .slice none 0 0, .slice none 0 0, .slice none 0 0, .slice none 0 0, .slice none 0 0, .slice none 0 0]] : Array Value).toList 8 =
    some ([.agg [.nil, .nil, .nil, .nil, .nil, .nil, .nil]], [], places) :=
  ⟨[], by kernel_rfl⟩
set_option maxRecDepth 100000 in
theorem lifted2 (os : Os) (started : os.Started) (H : Type) (enc : TypeId × Value → H) (F : Stop.Interp) :
    ReturnsInHanded {} Tryz.checked os 4 .any ((OpenSpec.ofChange Rows.conditionQuestionsSpec).preRow enc Tryz.prog Tryz.f4 Rows.conditionQuestionsRow.domain false Rows.conditionQuestionsRow.laid) (((OpenSpec.ofChange Rows.conditionQuestionsSpec).at F).post enc Tryz.prog Tryz.f4 false true false false) := by
  obtain ⟨places, hx⟩ := reads2 os enc
  refine returnsInHanded_of_row (C := Tryz.checked) (s := OpenSpec.ofChange Rows.conditionQuestionsSpec) own started (by kernel_rfl) Tryz.func4
    (witness_row_atRef (enc := enc) (C := Tryz.checked) false (World.laidAll Tryz.prog os Rows.conditionQuestionsRow.laid) _ (World.laidAll_os _ _ _) (by kernel_rfl) (by kernel_rfl) (by kernel_rfl)
      (OpenSpec.preRow_of_cond 8 hx (by kernel_rfl) (fun k hk => by cases hk) (by kernel_rfl) (laidMet_laidAll _ (by kernel_rfl) (by kernel_rfl)))) ?_
  intro W base args ds gs before hval hW _ _ _ hL hS _
  exact contract2 H enc W base args ds gs before hval hW hL hS
theorem said2 : Rows.ConditionQuestionsSaid :=
  OpenClaim.holds_of_cond 4 Tryz.f4 rfl rfl rfl rfl rfl rfl rfl ⟨rfl, rfl, rfl, rfl, rfl⟩ rfl rfl rfl rfl rfl (by kernel_rfl) Tryz.func4 closed2
    (of_decide_eq_true (by kernel_rfl)) (by unfold Func.isWrapper; first | (rw [if_pos (by decide +kernel)]; kernel_rfl) | (rw [if_neg (by decide +kernel)]; exact ⟨rfl, rfl⟩))
    (fun os started H enc _ F => by rw [OpenClaim.pre_eq_preRow]; exact lifted2 os started H enc F)
theorem plain2 (f : FuncId) (fn : Func) (hf : Tryz.pinned.checked.prog.funcNamed Rows.conditionQuestionsRow.func = some f) (hfn : Tryz.pinned.checked.prog.funcs[f]? = some fn) :
    false = Tryz.pinned.checked.prog.looks [] ∧ ∀ (j : Nat) t, fn.params[j]? = some t → Tryz.pinned.checked.prog.wantsStandIn t = false := by
  obtain rfl : f = 4 := Option.some.inj ((show Tryz.prog.funcNamed Rows.conditionQuestionsRow.func = some 4 by kernel_rfl).symm.trans hf) |>.symm
  obtain rfl : fn = Tryz.f4 := (Option.some.inj (Tryz.func4.symm.trans hfn)).symm
  refine ⟨by kernel_rfl, fun j t ht => ?_⟩
  rw [Tryz.params4] at ht
  have hall : ([30].all fun u => !Tryz.prog.wantsStandIn u) = true := by kernel_rfl
  have := List.all_eq_true.1 hall t (by simpa using Array.mem_of_getElem? ht)
  exact (show Tryz.prog.wantsStandIn t = false by simpa using this)
theorem conditionQuestions_holds : Rows.ConditionQuestionsCardSaid :=
  Claim7.holds_tied_plain_at .later [] _ _ _ _ said2 (fun _ h => by cases h) (by kernel_rfl) (fun _ h => by cases h) conditionQuestions_row_tie rfl ⟨rfl, rfl⟩ (by kernel_rfl) rfl plain2 (by kernel_rfl)
end Go.Proofs.YtcagdmegicijlaaGreatDoor
