/- Part of the proof of one law of the seat. -/
import Derived.Test.YtcagdmegicijlaaGreatDoorRe02
import Derived.Sort.Defs
import Derived.Lib.BitFns
import Derived.Shelf.SlSortCmp.Whole1
import Derived.Shelf.SlSortCmp.NoneTotal
import Derived.Test.YtcagdmegicijlaaGreatDoorProg
import Derived.KernelRfl
import Derived.RangeFuncRecord
import Derived.RangeFuncCalls
import Derived.RangeFuncLeaves
import Derived.WalkKit
import Derived.TacticsIn
import Derived.TacticsInMore
import Derived.BigFrameIn
import Derived.OwnWalkIn
set_option linter.unusedVariables false
set_option linter.unusedSectionVars false
set_option linter.unusedSimpArgs false
set_option maxHeartbeats 4000000
namespace Go.Proofs.YtcagdmegicijlaaGreatDoor
open Go Go.RowKit
def Serves (C : Ctx) (l : Nat) (rec : Loop) (T1 : List (Nat × V)) : Prop := C.own0 l ∧ ∀ q ∈ T1, (q.2, rec.tmps.getD q.1 Go.undef) ∈ C.gh
theorem look_mem {T : List (Nat × V)} {t : Nat} {v : V} (h : look t T = some v) : (t, v) ∈ T := by
 induction T with
 | nil => simp [look] at h
 | cons p r ih =>
  obtain ⟨u, x⟩ := p
  simp only [zaX] at h
  split at h <;> rename_i e
  ·cases h; subst e; simp
  ·exact List.mem_cons_of_mem _ (ih h)
theorem OneI.yield {G1 G2 : Globs} {l : Nat} {rec : Loop} {P : Program} {C : Ctx} {ops : Array Oper} {o : Oper} {T : List (Nat × V)} {H H' : List Blk} {x y : Operand} {tys : Array TypeId} {d : D} {p N ia ib ic : Nat} {ra rb : List Oper} {T1 : List (Nat × V)}
  (hGs : @Globs.gs G2 = (l, .loop rec) :: @Globs.gs G1) (hGE : ∀ q ∈ @Globs.gs G1, q.1 ≠ l) (hrec : rec.state = .ready ∧ rec.pending = none ∧ rec.params = #[p] ∧ rec.tmps.size = N) (hasg : rec.assign = .region ia ra.toArray false) (hbd : rec.body = .block ib (.region ic rb.toArray false))
  (hda : (ra.all noDefer) = true) (hdb : (rb.all noDefer) = true) (hs : Serves C l rec T1) (hTN : (T1.all fun q => Nat.blt q.1 N) = true) (hpN : Nat.blt p N = true) (hp1 : (T1.all fun q => q.1 != p) = true)
  (ho : o.op = .call { callee := .value x, args := #[y], argTypes := tys }) (hx : ev T x = some (.d (.fn (.yield l) [] []))) (hy : ev T y = some (.d d)) (hd : dstOK o.dst C.n = true)
  (hw : @Wants G2 C ops o ⟨T, H⟩ true) (hu : (T.all fun q => q.2.under H.length) = true) (hgn : Nat.ble C.gn H.length = true)
  (h : ∀ (own0 : Nat → Prop) (w : World) (gh : List (V × Value)), @TriL G1 P ⟨C.A0, own0, w, N, fun _ _ => False, gh, H.length, []⟩ ra.toArray ra (fun e s1 => e = .normal ∧ ∀ (own0 : Nat → Prop) (w : World),
   @TriL G1 P ⟨C.A0, own0, w, N, fun _ _ => False, gh, H.length, []⟩ rb.toArray rb (fun e s2 => e = .normal ∧ s2.H = H') s1) ⟨(p, .d d) :: T1, H⟩) :
  @OneI G2 P C ops o ⟨T, H⟩ ((⟨T, H'⟩ : St).put o.dst (.d (.bool true))) := by
 obtain ⟨hst, hpe, hps, hsz⟩ := hrec
 refine @OneI.mk G2 _ _ _ _ _ _ fun bs a w hR Q i K hi hK => ?_
 have hwant := @Wants.run G2 _ _ _ _ _ hw bs a w hR
 have e1 := @R.ev G2 _ _ _ _ _ hR _ _ hx
 have e2 := @R.ev G2 _ _ _ _ _ hR _ _ hy
 obtain ⟨⟨o1, o2, o3, o4, og⟩, rlen, rblk, rtmp, rdef, rsz, rfr, rnew, rgh⟩ := hR
 simp only [V.rep, D.rep, D.reps] at e1
 obtain ⟨vs, us, e1, hv0, hu0⟩ := e1
 have hv0 : vs = #[] := by simpa using hv0
 have hu0 : us = #[] := by simpa using hu0
 subst hv0 hu0
 obtain ⟨hlO, hL⟩ := og (l, .loop rec) (by rw [hGs]; simp)
 simp only at hlO hL
 have hlt : l < w.heap.size := (Array.getElem?_eq_some_iff.1 hL).1
 unfold wpOpIn
 simp only [hi, hwant, if_true]
 refine ⟨fun _ _ => trivial, ?_⟩
 obtain ⟨tm1, htm1⟩ : ∃ tm1, tm1 = rec.tmps.setIfInBounds p (a.eval y) := ⟨_, rfl⟩
 have hrun : (execOp a.eval o).run P w = .ok (.round l rec.fn tm1 rec.assign rec.body) w := by
  have hyl := run_yield (P := P) (args := #[a.eval y]) hL (by rw [hps]; rfl)
  rw [hps] at hyl
  simp only [execOp, ho, resolve, e1, Deferred.ofValue, Sem.run_bind, Sem.run_pure, Result.andThen_ok, invoke]
  simpa [htm1] using hyl
 rw [show (o.semAt Fence.wide.round a.eval) = execOp a.eval o from rfl, hrun, Oper.uponIn_round]
 refine ⟨fun h => by simp [Fence.wide] at h, ?_⟩
 refine roundIn_of_wpIn trivial ?_
 obtain ⟨gh1, hgh1⟩ : ∃ gh1, gh1 = C.gh ++ vals a T T := ⟨_, rfl⟩
 have hgn := Nat.le_of_ble_eq_true hgn
 have hGG : ∀ q ∈ @Globs.gs G1, q ∈ @Globs.gs G2 := fun q hq => by rw [hGs]; exact List.mem_cons_of_mem _ hq
 -- the frame of the round, behind the assignment's beginning
 have hR1 : @R G1 ⟨C.A0, fun b => some b ∈ bs, w, N, fun _ _ => False, gh1, H.length, []⟩ bs ⟨(p, .d d) :: T1, H⟩ { tmps := tm1, defers := [] } w := by
  have hpn : p < rec.tmps.size := by rw [hsz]; simpa using hpN
  refine @R.mk G1 _ _ _ _ _ (@OwnOK.mk G1 _ _ _ o1 o2 o3 o4 fun q hq => og q (hGG q hq)) rlen rblk (fun t v hv => ?_) rfl (by rw [htm1]; simpa using hsz) (Fr.refl _ _) (fun b hb => .inl hb) fun q hq => ?_
  ·simp only [zaX] at hv
   split at hv <;> rename_i ht
   ·cases hv
    subst ht
    refine ⟨by rw [← hsz]; exact hpn, ?_⟩
    rw [htm1, getD_set _ _ _ _ _ hpn, if_pos rfl]
    exact e2
   ·have hm := look_mem hv
    have h1 := hs.2 _ hm
    have h2 := List.all_eq_true.1 hTN _ hm
    refine ⟨by simpa using h2, ?_⟩
    rw [htm1, getD_set _ _ _ _ _ hpn, if_neg ht]
    exact (rgh _ h1).2
  ·rw [hgh1] at hq
   rcases List.mem_append.1 hq with hq | hq
   ·exact ⟨V.under_mono hgn _ (rgh q hq).1, (rgh q hq).2⟩
   ·obtain ⟨t, h1, h2⟩ := vals_mem hq
    exact ⟨look_under hu h1, by rw [h2]; exact (rtmp t _ h1).2⟩
 rw [hasg]
 refine wpIn_region_lit ?_
 refine wpListIn_of (F := Fence.wide.inRound l) (.inr ⟨l, rfl⟩) (Q0 := @QR G1 _ _) ?_ ?_ ra _ _ hda (@TriL.run G1 _ _ _ _ _ _ (h _ _ _) _ _ _ hR1)
 ·rintro e a w (⟨_, _, ⟨h, _⟩, _⟩ | ⟨_, h⟩)
  ·exact h
  ·exact h.elim
 rintro a1 w1 (⟨bs1, s1, ⟨_, hb⟩, hR1'⟩ | ⟨h, _⟩)
 case inr => cases h
 simp only [Exit.then]
 have f1 : Fr (fun b => some b ∈ bs) w w1 := by
  obtain ⟨_, _, _, _, _, _, f, _, _⟩ := hR1'
  exact f
 have n1 : ∀ b, some b ∈ bs1 → some b ∈ bs ∨ w.heap.size ≤ b := by
  obtain ⟨_, _, _, _, _, _, _, f, _⟩ := hR1'
  exact f
 have hlbs : ¬ some l ∈ bs := fun h => hlO (.inr h)
 have hL1 : w1.heap[l]? = some (.loop rec) := (f1.block l hlt hlbs).trans hL
 have hbr := run_beginRound (P := P) hL1 hst
 refine ⟨_, hbr, ?_⟩
 obtain ⟨w2, hw2⟩ : ∃ w2, w2 = w1.putObj l (.loop { rec with state := .busy }) := ⟨_, rfl⟩
 rw [← hw2]
 have t2 : Turn w1 w2 := by rw [hw2]; exact Turn.put hL1 rfl
 have hs2 : w2.heap.size = w1.heap.size := t2.size
 have hlt1 : l < w1.heap.size := (Array.getElem?_eq_some_iff.1 hL1).1
 have hL2 : w2.heap[l]? = some (.loop { rec with state := .busy }) := by rw [hw2]; exact World.putObj_heap_same hlt1
 have hput2 : ∀ q, q ≠ l → w2.heap[q]? = w1.heap[q]? := fun q hq => by rw [hw2]; exact World.putObj_heap_other hq
 have hR2 : @R G1 ⟨C.A0, fun b => some b ∈ bs1, w2, N, fun _ _ => False, gh1, H.length, []⟩ bs1 s1 a1 w2 := by
  have hg1 : @GlobOK G1 (Own C.A0 bs1) w1 := by
   obtain ⟨⟨_, _, _, _, g⟩, _⟩ := hR1'
   exact g
  exact R.turn hR1' t2 rfl rfl rfl rfl rfl (Fr.refl _ _) (fun b hb => .inl hb) fun q hq => ⟨(hg1 q hq).1, by rw [hput2 _ (hGE q hq)]; exact (hg1 q hq).2⟩
 rw [hbd]
 refine wpIn_block (wpIn_region_lit ?_)
 refine wpListIn_of (F := Fence.wide.inRound l) (.inr ⟨l, rfl⟩) (Q0 := @QR G1 _ _) ?_ ?_ rb _ _ hdb (@TriL.run G1 _ _ _ _ _ _ (hb _ _) _ _ _ hR2)
 ·rintro e a w (⟨_, _, ⟨h, _⟩, _⟩ | ⟨_, h⟩)
  ·exact h
  ·exact h.elim
 rintro a2 w3 (⟨bs2, s2, ⟨_, hH⟩, hR3⟩ | ⟨h, _⟩)
 case inr => cases h
 simp only [Exit.inBlock, roundPost]
 have f3 : Fr (fun b => some b ∈ bs1) w2 w3 := by
  obtain ⟨_, _, _, _, _, _, f, _, _⟩ := hR3
  exact f
 have n3 : ∀ b, some b ∈ bs2 → some b ∈ bs1 ∨ w2.heap.size ≤ b := by
  obtain ⟨_, _, _, _, _, _, _, f, _⟩ := hR3
  exact f
 have hlbs1 : ¬ some l ∈ bs1 := fun h => (n1 l h).elim hlbs (fun h => by omega)
 have hlbs2 : ¬ some l ∈ bs2 := fun h => (n3 l h).elim hlbs1 (fun h => by omega)
 have hL3 : w3.heap[l]? = some (.loop { rec with state := .busy }) := (f3.block l (by omega) hlbs1).trans hL2
 have her := run_endRound (P := P) none hL3
 have hback : ({ { rec with state := LoopState.busy } with state := if (none : Option Code).isNone then LoopState.ready else LoopState.done, pending := none } : Loop) = rec := by
  cases rec; simp only at hst hpe; subst hst hpe; rfl
 rw [hback] at her
 refine ⟨_, _, her, hK _ _ ⟨bs2, ?_⟩⟩
 obtain ⟨w4, hw4⟩ : ∃ w4, w4 = w3.putObj l (.loop rec) := ⟨_, rfl⟩
 rw [← hw4]
 have t4 : Turn w3 w4 := by rw [hw4]; exact Turn.put hL3 rfl
 have hlt3 : l < w3.heap.size := (Array.getElem?_eq_some_iff.1 hL3).1
 have hL4 : w4.heap[l]? = some (.loop rec) := by rw [hw4]; exact World.putObj_heap_same hlt3
 have hput4 : ∀ q, q ≠ l → w4.heap[q]? = w3.heap[q]? := fun q hq => by rw [hw4]; exact World.putObj_heap_other hq
 obtain ⟨⟨p1, p2, p3, p4, pg⟩, plen, pblk, ptmp, pdef, psz, pfr, pnew, pgh⟩ := hR3
 have hRC : @R G2 C bs2 ⟨T, H'⟩ a w4 := by
  subst hH
  refine @R.mk G2 _ _ _ _ _ (@OwnOK.mk G2 _ _ _ p1 p2 (fun b hb => by rw [t4.size]; exact p3 b hb) (fun b hb => by rw [t4.size]; exact p4 b hb) fun q hq => ?_) plen (fun i k hk => Blk.rep_turn t4 i k (pblk i k hk)) (fun t v hv => ?_) rdef rsz ?_ (fun b hb => ?_) fun q hq => ?_
  ·rw [hGs] at hq
   rcases List.mem_cons.1 hq with rfl | hq
   ·exact ⟨fun h => h.elim (fun h => hlO (.inl h)) hlbs2, hL4⟩
   ·exact ⟨(pg q hq).1, by rw [hput4 _ (hGE q hq)]; exact (pg q hq).2⟩
  ·exact ⟨(rtmp t v hv).1, V.rep_turn t4 _ _ (pgh _ (by rw [hgh1]; exact List.mem_append_right _ (mem_vals hv hv))).2⟩
  ·have hfr1 : Fr (fun b => some b ∈ bs ∨ b = l ∨ some b ∈ bs1) w w4 := by
    have g1 : Fr (fun b => some b ∈ bs ∨ b = l ∨ some b ∈ bs1) w w1 := f1.mono fun _ _ h => .inl h
    have g2 : Fr (fun b => some b ∈ bs ∨ b = l ∨ some b ∈ bs1) w1 w2 := by rw [hw2]; exact ⟨rfl, rfl, rfl, by simp, fun b _ hn => World.putObj_heap_other (fun e => hn (.inr (.inl e))), Nat.le_refl _⟩
    have g3 : Fr (fun b => some b ∈ bs ∨ b = l ∨ some b ∈ bs1) w2 w3 := f3.mono fun _ _ h => .inr (.inr h)
    have g4 : Fr (fun b => some b ∈ bs ∨ b = l ∨ some b ∈ bs1) w3 w4 := by rw [hw4]; exact ⟨rfl, rfl, rfl, by simp, fun b _ hn => World.putObj_heap_other (fun e => hn (.inr (.inl e))), Nat.le_refl _⟩
    exact ((g1.trans g2).trans g3).trans g4
   refine ⟨hfr1.os.trans rfr.os, hfr1.tape.trans rfr.tape, hfr1.output.trans rfr.output, Nat.le_trans rfr.size hfr1.size, fun q hq hno => ?_, Nat.le_trans rfr.drawn hfr1.drawn⟩
   refine (hfr1.block q (Nat.lt_of_lt_of_le hq rfr.size) fun e => ?_).trans (rfr.block q hq hno)
   have hbs : ¬ some q ∈ bs := fun h => (rnew q h).elim hno (fun h => by omega)
   rcases e with e | e | e
   ·exact hbs e
   ·exact hno (by rw [e]; exact hs.1)
   ·exact (n1 q e).elim hbs (fun h => by have := rfr.size; omega)
  ·have hsz1 := f1.size
   have hsz0 := rfr.size
   rcases n3 b hb with h1 | h1
   ·rcases n1 b h1 with h1 | h1
    ·exact rnew b h1
    ·exact .inr (by omega)
   ·exact .inr (by omega)
  ·exact ⟨(rgh q hq).1, V.rep_turn t4 _ _ (pgh q (by rw [hgh1]; exact List.mem_append_left _ hq)).2⟩
 exact @R.put G2 _ _ _ _ _ _ hRC (Fr.refl _ _) o.dst hd (.d (.bool true)) (.bool true) (zk.2 rfl)
theorem Tri.rangeFunc {G0 : Globs} {P : Program} {fnC : Func} {A : Nat → Prop} {w0 : World} {n N p b0 : Nat} {y : D} {s0 : St} {T : List (Nat × V)} {H : List Blk} {g : Operand} {x asg body tail : Code} {fi : FuncId} {fs : List D} {fn : Func} {c : Code} {Q : Exit → St → Prop} {K : List Blk → Prop}
  (hx0 : @Tri G0 P ⟨A, ze, w0, n, fun _ _ => False, [], 0, []⟩ x (fun e s => e = .normal ∧ s = ⟨T, H⟩) s0) (hx : ev T g = some (.d (.fn (.func fi) fs []))) (hc : callable P fi = true) (hf : P.funcs[fi]? = some fn) (hb : fn.body = some c) (hN : fn.ntmps = N) (hres : fn.results = #[])
  (hn : Nat.ble (fs.length + 1) N = true) (hu : (T.all fun q => q.2.under H.length) = true)
  (h : ∀ (l Dd : Nat) (rec : Loop) (own0 : Nat → Prop) (w : World) (gh : List (V × Value)) (G' : Globs), l ≠ Dd → @Globs.gs G' = (l, .loop rec) :: (Dd, .deferred (some [])) :: @Globs.gs G0 → (∀ q ∈ @Globs.gs G0, q.1 ≠ l) → (rec.state = .ready ∧ rec.pending = none ∧ rec.params = #[p] ∧ rec.tmps.size = n) →
   rec.assign = asg → rec.body = body → own0 l → (∀ t v, look t T = some v → (v, rec.tmps.getD t Go.undef) ∈ gh) →
   @Tri G' P ⟨A, own0, w, N, fun _ _ => False, gh, H.length, []⟩ c (retV [] fun _ H2 => K H2) ⟨paramsV 0 (fs.map .d ++ [.d (.fn (.yield l) [] [])]), H⟩)
  (k : ∀ (Dd : Nat) (H2 : List Blk) (G' : Globs), @Globs.gs G' = (Dd, .deferred (some [])) :: @Globs.gs G0 → K H2 → @Tri G' P ⟨A, ze, w0, n, fun _ _ => False, [], 0, [{ target := .collected Dd, args := #[] }]⟩ tail (fun e s => e = .ret ∧ retQ P fnC.results y e s) ⟨T, H2⟩) :
  @Tri G0 P ⟨A, ze, w0, n, fun a' w' => LeavesInM Fence.wide 0 P fnC a'.tmps (pureEnd A w0 y) a'.defers .returning w', [], 0, []⟩ (.seq (.seq x (.block b0 (.rangeFunc g #[p] asg body))) tail) Q s0 := by
 subst hN
 have hn := Nat.le_of_ble_eq_true hn
 refine @Tri.mk G0 _ _ _ _ _ fun bs a w' hR => ?_
 have hR0 : @R G0 ⟨A, ze, w0, n, fun _ _ => False, [], 0, []⟩ bs s0 a w' := by
  obtain ⟨q1, q2, q3, q4, q5, q6, q7, q8, q9⟩ := hR
  exact @R.mk G0 _ _ _ _ _ q1 q2 q3 q4 q5 q6 q7 q8 q9
 refine wp_seq (wp_seq (Code.wp_mono ?_ (@Tri.run G0 _ _ _ _ _ hx0 bs a w' hR0)))
 rintro e a w3 (⟨bs, s, ⟨rfl, rfl⟩, hR⟩ | ⟨_, hE⟩)
 case inr => exact hE.elim
 simp only [Exit.then]
 clear hR0
 have e1 := @R.ev G0 _ _ _ _ _ hR _ _ hx
 have hRf := fun {w'} (f : Fr ze w3 w') => @R.put G0 _ _ _ _ _ _ hR f none rfl .junk Go.undef (by simp only [V.rep])
 obtain ⟨⟨o1, o2, o3, o4, og⟩, rlen, rblk, rtmp, rdef, rsz, rfr, rnew, rgh⟩ := hR
 simp only [V.rep, D.rep] at e1
 obtain ⟨vs, us, e1, hvs, hus⟩ := e1
 simp only [D.reps] at hus
 have hus : us = #[] := by simpa using hus
 subst hus
 refine (wpIn_wide (n := 0)).1 (wpIn_block (wpIn_rangeFunc ?_))
 intro fnid _
 obtain ⟨rec, hrec⟩ : ∃ rec : Loop, rec = { state := .ready, pending := none, fn := fnid, tmps := a.tmps, params := #[p], assign := asg, body := body, defers := w3.heap.size } := ⟨_, rfl⟩
 obtain ⟨l, hl⟩ : ∃ l, l = w3.heap.size + 1 := ⟨_, rfl⟩
 obtain ⟨Dd, hDd⟩ : ∃ Dd, Dd = w3.heap.size := ⟨_, rfl⟩
 obtain ⟨w4, hw4⟩ : ∃ w4, (w3.alloc (.deferred (some []))).alloc (.loop rec) = w4 := ⟨_, rfl⟩
 have hold : ∀ q, q < w3.heap.size → w4.heap[q]? = w3.heap[q]? := fun q hq => by rw [← hw4]; exact (Below.heap_alloc _ _ q (by simp; omega)).trans (Below.heap_alloc _ _ q hq)
 have hL4 : w4.heap[l]? = some (.loop rec) := by rw [← hw4, hl]; have := World.alloc_heap_new (w3.alloc (.deferred (some []))) (.loop rec); rwa [World.size_alloc] at this
 have hD4 : w4.heap[Dd]? = some (.deferred (some [])) := by rw [← hw4, hDd]; exact (Below.heap_alloc _ _ _ (by simp)).trans (World.alloc_heap_new w3 _)
 have hs4 : w4.heap.size = w3.heap.size + 2 := by rw [← hw4]; simp
 have hfr4 : Fr ze w3 w4 := by
  rw [← hw4]
  exact (⟨rfl, rfl, rfl, by simp, fun b hb _ => Below.heap_alloc _ _ b hb, Nat.le_refl _⟩ : Fr ze w3 (w3.alloc (.deferred (some [])))).trans ⟨rfl, rfl, rfl, by simp, fun b hb _ => Below.heap_alloc _ _ b hb, Nat.le_refl _⟩
 refine ⟨l, [{ target := .collected Dd, args := #[] }], w4, { target := .fn (.func fi) #[], args := vs ++ #[.func (.yield l) #[] #[]] }, w4, fi, vs ++ #[.func (.yield l) #[] #[]] ++ #[], w4, ?_, ?_, fun _ _ => trivial, ?_, fun h => by simp [Fence.wide] at h, ?_⟩
 ·rw [← hw4, hl, hDd, hrec]; exact run_enterLoop_outer _ _ _ _ _
 ·have ek : ∀ v, a.eval (.const v) = v := fun _ => rfl
  simp [resolve, e1, Deferred.ofValue, ek]
 ·simp only [invoke]; exact zbq hc _ w4
 -- the state at the iterator's beginning
 have hR4 := hRf hfr4
 obtain ⟨⟨q1, q2, q3, q4, qg⟩, qlen, qblk, qtmp, qdef, qsz, qfr, qnew, _⟩ := hR4
 have hlA : ¬ Own A bs l := fun h => by
  rcases h with h | h
  ·have := o4 l h; omega
  ·have := o3 l h; omega
 have hDA : ¬ Own A bs Dd := fun h => by
  rcases h with h | h
  ·have := o4 Dd h; omega
  ·have := o3 Dd h; omega
 have hgl : ∀ q ∈ @Globs.gs G0, q.1 < w3.heap.size := fun q hq => (Array.getElem?_eq_some_iff.1 (og q hq).2).1
 obtain ⟨G', hG'⟩ : ∃ G' : Globs, @Globs.gs G' = (l, .loop rec) :: (Dd, .deferred (some [])) :: @Globs.gs G0 := ⟨⟨_⟩, rfl⟩
 obtain ⟨GD, hGD⟩ : ∃ G' : Globs, @Globs.gs G' = (Dd, .deferred (some [])) :: @Globs.gs G0 := ⟨⟨_⟩, rfl⟩
 have hargs : (vs ++ #[Value.func (.yield l) #[] #[]] ++ #[] : Array Value) = vs ++ #[Value.func (.yield l) #[] #[]] := by simp
 rw [hargs]
 have hvl := D.reps_len hvs
 simp only [Array.length_toList] at hvl
 have hreps : V.reps (Own A bs) w4 bs H (fs.map .d ++ [.d (.fn (.yield l) [] [])]) (vs ++ #[Value.func (.yield l) #[] #[]] : Array Value).toList := by
  simp only [Array.toList_append]
  refine V.reps_append ?_ ?_
  ·have := D.reps_ext hfr4 hvs
   have key : ∀ (ds : List D) (vs : List Value), D.reps (Own A bs) w4 ds vs → V.reps (Own A bs) w4 bs H (ds.map .d) vs := by
    intro ds
    induction ds with
    | nil => intro vs h; simpa only [D.reps, List.map_nil, V.reps] using h
    | cons d ds ih =>
     intro vs h
     simp only [D.reps] at h
     obtain ⟨v, vs', rfl, h1, h2⟩ := h
     simp only [List.map_cons, V.reps, V.rep]
     exact ⟨v, vs', rfl, h1, ih _ h2⟩
   exact key _ _ this
  ·simp [V.reps, V.rep, D.rep, D.reps]
 have hRi : @R G' ⟨A, fun b => some b ∈ bs ∨ b = l, w4, fn.ntmps, fun _ _ => False, vals a T T, H.length, []⟩ bs ⟨paramsV 0 (fs.map .d ++ [.d (.fn (.yield l) [] [])]), H⟩ { tmps := (vs ++ #[Value.func (.yield l) #[] #[]]) ++ Array.replicate (fn.ntmps - (vs ++ #[Value.func (.yield l) #[] #[]]).size) undef, defers := [] } w4 := by
  have hsz : ((vs ++ #[Value.func (.yield l) #[] #[]]) ++ Array.replicate (fn.ntmps - (vs ++ #[Value.func (.yield l) #[] #[]]).size) undef).size = fn.ntmps := by simp; omega
  refine @R.mk G' _ _ _ _ _ (@OwnOK.mk G' _ _ _ q1 q2 q3 q4 fun q hq => ?_) qlen qblk (fun t v hv => ?_) rfl hsz (Fr.refl _ _) (fun b hb => .inl (.inl hb)) fun q hq => ?_
  ·rw [hG'] at hq
   rcases List.mem_cons.1 hq with rfl | hq
   ·exact ⟨hlA, hL4⟩
   rcases List.mem_cons.1 hq with rfl | hq
   ·exact ⟨hDA, hD4⟩
   ·exact qg q hq
  ·have := paramsV_look _ 0 _ ((vs ++ #[Value.func (.yield l) #[] #[]]) ++ Array.replicate (fn.ntmps - (vs ++ #[Value.func (.yield l) #[] #[]]).size) undef) hreps
    (fun j hj => by
     have hj' : j < (vs ++ #[Value.func (.yield l) #[] #[]]).size := by simpa using hj
     rw [Nat.zero_add, Array.getD_eq_getD_getElem?, Array.getElem?_append_left hj', List.getD, Array.getElem?_toList])
    (by rw [hsz]; simp; omega) t v hv
   rw [hsz] at this; exact this
  ·obtain ⟨t, h1, h2⟩ := vals_mem hq
   exact ⟨look_under hu h1, by rw [h2]; exact (qtmp t _ h1).2⟩
 have htri := h l Dd rec (fun b => some b ∈ bs ∨ b = l) w4 (vals a T T) G' (by omega) hG' (fun q hq => by have := hgl q hq; omega) (by rw [hrec]; exact ⟨rfl, rfl, rfl, rsz⟩) (by rw [hrec]) (by rw [hrec]) (.inr rfl) (fun t v hv => by rw [hrec]; exact mem_vals hv hv)
 refine callsIn_wide.2 (calls_of_wp hf hb (Code.wp_mono ?_ (@Tri.run G' _ _ _ _ _ htri bs _ w4 hRi)))
 rintro e a' w5 (⟨bs', s', ⟨he, ys, hys, hk⟩, hR5⟩ | ⟨_, hE⟩)
 case inr => exact hE.elim
 obtain ⟨⟨p1, p2, p3, p4, pg⟩, plen, pblk, ptmp, pdef, psz, pfr, pnew, pgh⟩ := hR5
 have hrun : (results fn a'.tmps).run P w5 = .ok (.tuple #[]) w5 := by
  rw [results_eq, hres]
  simp [Sem.run_bind, Sem.run_pure]
 have hfin : rangePost Fence.wide 0 P l (Exit.inBlock b0 (Exit.then (tail.wp P (@QR G0 ⟨A, ze, w0, n, fun a' w' => LeavesInM Fence.wide 0 P fnC a'.tmps (pureEnd A w0 y) a'.defers .returning w', [], 0, []⟩ Q)) (@QR G0 ⟨A, ze, w0, n, fun a' w' => LeavesInM Fence.wide 0 P fnC a'.tmps (pureEnd A w0 y) a'.defers .returning w', [], 0, []⟩ Q))) { a with defers := [{ target := .collected Dd, args := #[] }] ++ a.defers } (.returned (.tuple #[])) w5 := by
  have hL5 := (pg (l, .loop rec) (by rw [hG']; simp)).2
  have hD5 := (pg (Dd, .deferred (some [])) (by rw [hG']; simp)).2
  simp only at hL5 hD5
  simp only [rangePost]
  refine ⟨none, w5.putObj l (.loop { rec with state := .exhausted }), by have := run_endLoop (P := P) hL5 (by rw [hrec]; simp); rw [this, hrec], ?_⟩
  simp only [Exit.inBlock, Exit.then]
  obtain ⟨w6, hw6⟩ : ∃ w6, w6 = w5.putObj l (.loop { rec with state := .exhausted }) := ⟨_, rfl⟩
  rw [← hw6]
  have t6 : Turn w5 w6 := by rw [hw6]; exact Turn.put hL5 rfl
  have hput6 : ∀ q, q ≠ l → w6.heap[q]? = w5.heap[q]? := fun q hq => by rw [hw6]; exact World.putObj_heap_other hq
  have hlbs' : ∀ b, some b ∈ bs' → (some b ∈ bs ∨ b = l) ∨ w4.heap.size ≤ b := pnew
  have hR6 : @R GD ⟨A, ze, w0, n, fun _ _ => False, [], 0, [{ target := .collected Dd, args := #[] }]⟩ bs' ⟨T, s'.H⟩ { a with defers := [{ target := .collected Dd, args := #[] }] ++ a.defers } w6 := by
   refine @R.mk GD _ _ _ _ _ (@OwnOK.mk GD _ _ _ p1 p2 (fun b hb => by rw [t6.size]; exact p3 b hb) (fun b hb => by rw [t6.size]; exact p4 b hb) fun q hq => ?_) plen (fun i k hk => Blk.rep_turn t6 i k (pblk i k hk)) (fun t v hv => ?_) (by simp only; rw [rdef]; rfl) rsz ?_ (fun b hb => ?_) (fun q hq => (by cases hq))
   ·rw [hGD] at hq
    have hq' : q ∈ @Globs.gs G' := by rw [hG']; exact List.mem_cons_of_mem _ hq
    have hne : q.1 ≠ l := by
     rcases List.mem_cons.1 hq with rfl | hq
     ·simp only; omega
     ·have := hgl q hq; omega
    exact ⟨(pg q hq').1, by rw [hput6 _ hne]; exact (pg q hq').2⟩
   ·exact ⟨(rtmp t v hv).1, V.rep_turn t6 _ _ (pgh _ (mem_vals hv hv)).2⟩
   ·have f5 : Fr (fun b => some b ∈ bs ∨ b = l) w4 w5 := pfr
    have f6 : Fr (fun b => some b ∈ bs ∨ b = l) w5 w6 := by rw [hw6]; exact ⟨rfl, rfl, rfl, by simp, fun b _ hn => World.putObj_heap_other (fun e => hn (.inr e)), Nat.le_refl _⟩
    have f46 := (hfr4.mono (W' := fun b => some b ∈ bs ∨ b = l) fun _ _ x => x.elim).trans (f5.trans f6)
    have rfr' : Fr ze w0 w3 := rfr
    refine ⟨f46.os.trans rfr'.os, f46.tape.trans rfr'.tape, f46.output.trans rfr'.output, Nat.le_trans rfr'.size f46.size, fun q hq hno => ?_, Nat.le_trans rfr'.drawn f46.drawn⟩
    have := rfr'.size
    have hq : q < w0.heap.size := hq
    refine (f46.block q (by omega) fun e => ?_).trans (rfr'.block q hq hno)
    rcases e with e | e
    ·have h3 : ze q ∨ w0.heap.size ≤ q := rnew q e
     exact h3.elim (fun x => x) (fun h => by omega)
    ·omega
   ·have hz : w0.heap.size ≤ w3.heap.size := rfr.size
    rcases hlbs' b hb with (h1 | h1) | h1
    ·exact rnew b h1
    ·exact .inr (by simp only; omega)
    ·exact .inr (by simp only; omega)
  have hR6' : @R GD ⟨A, ze, w0, n, fun _ _ => False, [], 0, [{ target := .collected Dd, args := #[] }]⟩ bs' ⟨T, s'.H⟩ { a with defers := [{ target := .collected Dd, args := #[] }] ++ a.defers } w6 := hR6
  refine Code.wp_mono ?_ (@Tri.run GD _ _ _ _ _ (k Dd s'.H GD hGD hk) _ _ _ hR6')
  rintro e a7 w7 (⟨bs7, s7, ⟨rfl, he7, ds, hy7, hres7⟩, hR7⟩ | ⟨_, hE⟩)
  case inr => exact hE.elim
  refine .inr ⟨rfl, ?_⟩
  have hg7 : @GlobOK GD (Own A bs7) w7 := by
   obtain ⟨⟨_, _, _, _, g⟩, _⟩ := hR7
   exact g
  have hdf7 : a7.defers = [{ target := .collected Dd, args := #[] }] := by
   obtain ⟨_, _, _, _, d, _⟩ := hR7
   exact d
  have hfr7 : Fr ze w0 w7 := by
   obtain ⟨_, _, _, _, _, _, f, _, _⟩ := hR7
   exact f
  have hnew7 : ∀ b, some b ∈ bs7 → ze b ∨ w0.heap.size ≤ b := by
   obtain ⟨_, _, _, _, _, _, _, f, _⟩ := hR7
   exact f
  have hD7 := (hg7 (Dd, .deferred (some [])) (by rw [hGD]; simp)).2
  simp only at hD7
  obtain ⟨w8, hw8⟩ : ∃ w8, w8 = w7.putObj Dd (.deferred none) := ⟨_, rfl⟩
  have hput8 : ∀ q, q ≠ Dd → w8.heap[q]? = w7.heap[q]? := fun q hq => by rw [hw8]; exact World.putObj_heap_other hq
  have hfr8 : Fr ze w0 w8 := by
   have hz : w0.heap.size ≤ w3.heap.size := rfr.size
   refine ⟨by rw [hw8]; exact hfr7.os, by rw [hw8]; exact hfr7.tape, by rw [hw8]; exact hfr7.output, by rw [hw8]; simpa using hfr7.size, fun q hq hno => (hput8 q (by omega)).trans (hfr7.block q hq hno), by rw [hw8]; exact hfr7.drawn⟩
  have hR8 := R.turn (G' := G0) (C' := ⟨A, ze, w0, n, fun _ _ => False, [], 0, [{ target := .collected Dd, args := #[] }]⟩) hR7 (w' := w8) (by rw [hw8]; exact Turn.put hD7 rfl) rfl rfl rfl rfl rfl hfr8 hnew7 fun q hq => by
   have hne : q.1 ≠ Dd := by have := hgl q hq; omega
   have := hg7 q (by rw [hGD]; exact List.mem_cons_of_mem _ hq)
   exact ⟨this.1, by rw [hput8 _ hne]; exact this.2⟩
  obtain ⟨u, hu1, hu2⟩ := @res_of G0 _ _ _ _ _ _ _ _ _ hy7 hres7 hR8
  show LeavesInM Fence.wide 0 P fnC a7.tmps (pureEnd A w0 y) a7.defers .returning w7
  rw [hdf7]
  exact ⟨by simp, .inl ⟨Dd, w8, rfl, by rw [hw8]; exact run_takeDeferred hD7, u, hu1, u, rfl, hfr8, hu2⟩⟩
 rcases he with rfl | rfl
 ·exact ⟨pdef, _, hrun, hfin⟩
 ·exact ⟨pdef, _, hrun, hfin⟩
end Go.Proofs.YtcagdmegicijlaaGreatDoor
namespace Go.Proofs.YtcagdmegicijlaaGreatDoor
open Go
def sortIx (n : Nat) (cf : Fin (n + 1) → Fin (n + 1) → Int) : Array (Fin (n + 1)) := Go.Sort.pdq (fun x y => decide (cf x y < 0)) (Array.ofFn (n := n + 1) id) 0 (n + 1) (Go.Lib.bitLen (n + 1)) true true
def sortF {α : Type} (cf : α → α → Int) : List α → List α
 | [] => []
 | x :: xs => (sortIx xs.length fun i j => cf ((x :: xs)[i.val]'(by simp)) ((x :: xs)[j.val]'(by simp))).toList.map fun i => (x :: xs)[i.val]'(by simp)
def swoB {α : Type} (cf : α → α → Int) (l : List α) : Bool :=
 l.all fun x => !decide (cf x x < 0) && l.all fun y => l.all fun z => (!(decide (cf x y < 0) && decide (cf y z < 0)) || decide (cf x z < 0)) && (decide (cf x y < 0) || decide (cf y z < 0) || !decide (cf x z < 0))
def sortO {α : Type} (f : α → α → Option Int) (l : List α) : Option (List α) :=
 if (l.all fun x => l.all fun y => (f x y).isSome) && swoB (fun x y => (f x y).getD 0) l && decide (l.length < 4611686018427387904) then some (sortF (fun x y => (f x y).getD 0) l) else none
end Go.Proofs.YtcagdmegicijlaaGreatDoor
namespace Go.Proofs.YtcagdmegicijlaaGreatDoor
open Go Go.RowKit Go.Sort Go.Shelf
theorem swo_of {α β : Type} {cf : α → α → Int} {l : List α} (h : swoB cf l = true) (g : β → α) (hg : ∀ b, g b ∈ l) : SWO (ltOf fun x y : β => cf (g x) (g y)) := by
 unfold swoB at h
 rw [List.all_eq_true] at h
 have k : ∀ x y z : β, ¬ cf (g x) (g x) < 0 ∧ (cf (g x) (g y) < 0 → cf (g y) (g z) < 0 → cf (g x) (g z) < 0) ∧ (¬ cf (g x) (g y) < 0 → ¬ cf (g y) (g z) < 0 → ¬ cf (g x) (g z) < 0) := by
  intro x y z
  have h1 := h _ (hg x)
  rw [Bool.and_eq_true, List.all_eq_true] at h1
  have h2 := h1.2 _ (hg y)
  rw [List.all_eq_true] at h2
  have h3 := h2 _ (hg z)
  have h0 := h1.1
  simp only [Bool.not_eq_true', decide_eq_false_iff_not] at h0
  simp only [Bool.and_eq_true, Bool.or_eq_true, Bool.not_eq_true', Bool.and_eq_false_iff, decide_eq_true_eq, decide_eq_false_iff_not] at h3
  exact ⟨h0, by omega, by omega⟩
 refine ⟨fun x => ?_, fun x y z h1 h2 => ?_, fun x y z h1 h2 => ?_⟩
 ·have := (k x x x).1
  simpa only [ltOf, decide_eq_false_iff_not] using this
 ·simp only [ltOf, decide_eq_true_eq] at *
  exact (k x y z).2.1 h1 h2
 ·simp only [ltOf, decide_eq_false_iff_not] at *
  exact (k x y z).2.2 h1 h2
theorem sortIx_spec {n : Nat} {cf : Fin (n + 1) → Fin (n + 1) → Int} (hO : SWO (ltOf cf)) : (sortIx n cf).size = n + 1 ∧ (sortIx n cf).toList.Perm (List.ofFn (n := n + 1) id) ∧ (sortIx n cf).toList.Pairwise fun x y => ltOf cf y x = false := by
 obtain ⟨⟨h1, _, h2⟩, h3⟩ := pdq_sorts (ltOf cf) hO (Array.ofFn (n := n + 1) id) 0 (n + 1) (Lib.bitLen (n + 1)) true true (Nat.zero_le _) (by simp) (Or.inl rfl)
 have hs : (sortIx n cf).size = n + 1 := by
  change (pdq (ltOf cf) (Array.ofFn (n := n + 1) id) 0 (n + 1) (Lib.bitLen (n + 1)) true true).size = n + 1
  rw [h1]; simp
 refine ⟨hs, ?_, ?_⟩
 ·have e : ∀ (arr : Array (Fin (n + 1))) (m : Nat), arr.size = m → arr.extract 0 m = arr := by
   rintro arr m rfl
   exact Array.extract_size
  have e1 := e (sortIx n cf) (n + 1) hs
  have e2 := e (Array.ofFn (n := n + 1) id) (n + 1) (by simp)
  change ((sortIx n cf).extract 0 (n + 1)).toList.Perm _ at h2
  rw [e1, e2] at h2
  simpa using h2
 ·rw [List.pairwise_iff_getElem]
  intro i j hi hj hij
  have hi' : i < (sortIx n cf).size := by simpa using hi
  have hj' : j < (sortIx n cf).size := by simpa using hj
  have := h3 i j (Nat.zero_le _) hij (by omega)
  change ltOf cf (sortIx n cf)[j]! (sortIx n cf)[i]! = false at this
  rw [getElem!_pos (sortIx n cf) j hj', getElem!_pos (sortIx n cf) i hi'] at this
  simpa using this
theorem map_ofFn_get {α : Type} : ∀ (l : List α) (n : Nat) (h : n = l.length), (List.ofFn (n := n) id).map (fun i => l[i.val]'(by rw [← h]; exact i.isLt)) = l := by
 intro l n h
 subst h
 apply List.ext_getElem
 ·simp
 ·intro i h1 h2
  simp
theorem sortF_perm {α : Type} {cf : α → α → Int} {l : List α} (h : swoB cf l = true) : (sortF cf l).Perm l := by
 cases l with
 | nil => simp [sortF]
 | cons x xs =>
  have hO : SWO (ltOf fun i j : Fin (xs.length + 1) => cf ((x :: xs)[i.val]'(by simp)) ((x :: xs)[j.val]'(by simp))) := swo_of h (fun i : Fin (xs.length + 1) => (x :: xs)[i.val]'(by simp)) (fun i => List.getElem_mem _)
  have h2 := (sortIx_spec hO).2.1.map fun i => (x :: xs)[i.val]'(by simp)
  rw [map_ofFn_get (x :: xs) (xs.length + 1) (by simp)] at h2
  exact h2
theorem sortO_some {α : Type} {f : α → α → Option Int} {l r : List α} (h : sortO f l = some r) : (∀ x ∈ l, ∀ y ∈ l, (f x y).isSome = true) ∧ swoB (fun x y => (f x y).getD 0) l = true ∧ l.length < 4611686018427387904 ∧ r = sortF (fun x y => (f x y).getD 0) l := by
 unfold sortO at h
 split at h
 ·rename_i hc
  simp only [Bool.and_eq_true, decide_eq_true_eq, List.all_eq_true] at hc
  cases h
  exact ⟨fun x hx y hy => hc.1.1 x hx y hy, hc.1.2, hc.2, rfl⟩
 ·cases h
theorem sortO_length {α : Type} {f : α → α → Option Int} {l r : List α} (h : sortO f l = some r) : r.length = l.length := by
 obtain ⟨_, h1, _, rfl⟩ := sortO_some h
 exact (sortF_perm h1).length_eq
variable [Globs]
theorem Fr.grow_eq {w w' : World} (h : Fr ze w w') : ∃ q os, w' = grow (w.drewN q) os := by
 refine ⟨w'.drawn - w.drawn, w'.heap.extract w.heap.size w'.heap.size, ?_⟩
 obtain ⟨heap, tape, drawn, os, output⟩ := w
 obtain ⟨heap', tape', drawn', os', output'⟩ := w'
 obtain ⟨h1, h2, h3, h4, h5, h6⟩ := h
 simp only at h1 h2 h3 h4 h5 h6
 subst h1 h2 h3
 have e : heap' = heap ++ heap'.extract heap.size heap'.size := by
  apply Array.ext_getElem?
  intro i
  by_cases hi : i < heap.size
  ·rw [Array.getElem?_append_left hi]; exact h5 i hi (fun x => x)
  ·rw [Array.getElem?_append_right (by omega), Array.getElem?_extract]
   simp only [show heap.size + (i - heap.size) = i by omega]
   by_cases hj : i < heap'.size
   ·rw [if_pos (by omega)]
   ·rw [if_neg (by omega)]; exact Array.getElem?_eq_none (by omega)
 simp only [grow, World.drewN, World.mk.injEq]
 exact ⟨e, trivial, by omega, trivial, trivial⟩
theorem fr_sorted {α : Type} [Inhabited α] {enc : α → Value} {w : World} {g n : Nat} {os : Array Obj} (d : Array α) : Fr (fun b => some g = some b) w (sortWorld enc w g 0 n d os) := by
 refine ⟨rfl, rfl, rfl, by simp [sortWorld], fun k hk hne => ?_, Nat.le_add_right _ _⟩
 unfold sortWorld
 rw [heap_grow_old _ _ (by simpa using hk)]
 have : g ≠ k := fun e => hne (by rw [e])
 simp [putRow, mapBlock, Sort.ahead, Array.getElem?_modify, this]
theorem cmp_of_pure {P : Program} {A : Nat → Prop} {w : World} {k g blk : Nat} (hA : ∀ b, A b → b < w.heap.size) (hG : GlobOK A w) (hb : A blk) {vals : Fin (k + 1) → Value} {encs : Fin (k + 1) → D} (hr : ∀ i, (encs i).rep A w (vals i)) {cf : Fin (k + 1) → Fin (k + 1) → Int}
  (hp : ∀ i j, Pure P g [encs i, encs j] (.int (cf i j))) : CmpLays1 P g #[] vals cf blk 0 (k + 1) w := by
 intro m os dk _ x y
 have f0 : Fr (fun b => some blk = some b) w (sortWorld vals w blk 0 m dk os) := fr_sorted dk
 have hW : ∀ b, some blk = some b → A b := fun b e => by cases e; exact hb
 have h := (hp x y).run A (sortWorld vals w blk 0 m dk os) #[vals x, vals y] (fun b hb => Nat.lt_of_lt_of_le (hA b hb) f0.size) (hG.fr f0 hW (fun _ _ h => h)) (by
  simp only [D.reps]
  exact ⟨_, _, rfl, D.rep_fr f0 hW (fun _ _ h => h) _ _ (hr x), _, _, rfl, D.rep_fr f0 hW (fun _ _ h => h) _ _ (hr y), rfl⟩)
 simp only [Array.append_empty]
 refine h.mono ?_
 rintro e w' ⟨u, rfl, hf, hu⟩
 simp only [D.rep] at hu
 obtain ⟨q, os', he⟩ := hf.grow_eq
 exact ⟨by rw [hu], q, os', he⟩
theorem D.flat_one {A : Nat → Prop} {w : World} : ∀ {xs : List D} {cs : List Value}, (∀ x ∈ xs, x.shape = none) → (D.flat A w 1 xs cs ↔ D.reps A w xs cs)
 | [], cs, _ => by simp only [D.flat, D.reps]
 | x :: xs, cs, h => by
  simp only [D.flat, D.reps]
  constructor
  ·rintro ⟨u, cs', rfl, hk, h1, h2⟩
   have hc := D.cells_of_one h1 (h x (by simp))
   refine ⟨u, cs', by rw [hc]; rfl, h1, (D.flat_one fun y hy => h y (by simp [hy])).1 h2⟩
  ·rintro ⟨u, cs', rfl, h1, h2⟩
   have hc := D.cells_of_one h1 (h x (by simp))
   exact ⟨u, cs', by rw [hc]; rfl, by rw [hc]; rfl, h1, (D.flat_one fun y hy => h y (by simp [hy])).2 h2⟩
theorem D.reps_of_get {A : Nat → Prop} {w : World} : ∀ {ds : List D} {vs : List Value}, vs.length = ds.length → (∀ (i : Nat) (d : D) (v : Value), ds[i]? = some d → vs[i]? = some v → d.rep A w v) → D.reps A w ds vs
 | [], [], _, _ => by simp only [D.reps]
 | d :: ds, v :: vs, hl, h => by
  simp only [D.reps]
  exact ⟨v, vs, rfl, h 0 d v rfl rfl, D.reps_of_get (by simpa using hl) fun i d' v' h1 h2 => h (i + 1) d' v' (by simpa using h1) (by simpa using h2)⟩
 | [], _ :: _, hl, _ => by simp at hl
 | _ :: _, [], hl, _ => by simp at hl
theorem mapBlock_setRow {w : World} {g : Nat} {f : Array Value → Array Value} {cur : Array Value} {e : TypeId} {fr : Nat × Nat} (hb : w.heap[g]? = some (.cells cur e fr)) : mapBlock w g f = w.setRow g (f cur) := by
 unfold mapBlock World.setRow
 congr 1
 apply Array.ext_getElem?
 intro i
 simp only [Array.getElem?_modify]
 split
 ·rename_i h; subst h; simp [hb, onCells]
 ·rfl
theorem TriL.sort1 {P : Program} {C : Ctx} {ops : Array Oper} {o : Oper} {rest : List Oper} {Q : Exit → St → Prop} {T : List (Nat × V)} {H : List Blk} {ρ : Ren} (L : SlLaysF.n6 P ρ) {α : Type} {F : FuncId} {tys : Array TypeId} {x y : Operand} {el : TypeId} {i n g : Nat} {enc : α → D} {l r : List α} {cmp : α → α → Option Int}
  (hF : ρ.f 6 = F) (hg : o.guard = none) (ho : o.op = .call { callee := .value (.func F), args := #[x, y], argTypes := tys }) (hd : dstOK o.dst C.n = true) (hc : callable P F = true) (hcg : callable P g = true)
  (hx : ev T x = some (.vec i n)) (hy : ev T y = some (.d (.fn (.func g) [] []))) (hi : H[i]? = some (.vec el 1 (l.map enc))) (hn : n = l.length) (h1 : ∀ x, (enc x).shape = none) (h2 : ∀ x, (enc x).ones = true) (hs : sortO cmp l = some r)
  (hp : ∀ a b v, cmp a b = some v → Pure P g [enc a, enc b] (.int v))
  (kk : TriL P C ops rest Q ((⟨T, H.set i (.vec el 1 (r.map enc))⟩ : St).put o.dst .junk)) : TriL P C ops (o :: rest) Q ⟨T, H⟩ := by
 subst hF
 obtain ⟨hsome, hswo, hlen, rfl⟩ := sortO_some hs
 refine ⟨fun bs a w hR => wpList_plain hg fun K hK => ?_⟩
 have hxr := hR.ev hx
 have hyr := hR.ev hy
 simp only [V.rep, hi] at hxr
 simp only [V.rep, D.rep, D.reps] at hyr
 obtain ⟨vs, us, hyv, hv0, hu0⟩ := hyr
 have hv0 : vs = #[] := by simpa using hv0
 have hu0 : us = #[] := by simpa using hu0
 subst hv0 hu0
 obtain ⟨cells, hown, hbs, hflat⟩ := hxr.2 (by simpa using hn)
 have hrun : (execOp a.eval o).run P w = .ok (.enter (ρ.f 6) #[a.eval x, a.eval y]) w := by
  have hk : ∀ k, a.eval (.func k) = .func (.func k) #[] #[] := fun _ => rfl
  simp only [execOp, ho, resolve, hk, Deferred.ofValue, Sem.run_bind, Sem.run_pure, Result.andThen_ok, invoke]
  simpa using zbq hc #[a.eval x, a.eval y] w
 have hR' : ∀ {w' : World} {H' : List Blk} {u : Value}, R C bs ⟨T, H'⟩ a w' → R C bs ((⟨T, H'⟩ : St).put o.dst .junk) (a.put o.dst u) w' := fun h => h.put (Fr.refl _ _) o.dst hd (v := .junk) (by simp only [V.rep])
 refine Oper.wp_of_runs (K := fun u w' => R C bs ⟨T, H.set i (.vec el 1 ((sortF (fun x y => (cmp x y).getD 0) l).map enc))⟩ a w') ?_ fun u w' h => hK _ _ (kk.run bs _ _ (hR' h))
 rw [hrun]
 simp only [OpRuns]
 have hshape : ∀ (l : List α), ∀ d ∈ l.map enc, d.shape = none := fun l d hd => by
  obtain ⟨z, _, rfl⟩ := List.mem_map.1 hd
  exact h1 z
 cases l with
 | nil =>
  have hset : H.set i (.vec el 1 ((sortF (fun x y => (cmp x y).getD 0) ([] : List α)).map enc)) = H := by
   refine List.ext_getElem? fun j => ?_
   by_cases hij : i = j
   ·subst hij; rw [List.getElem?_set_self (List.getElem?_eq_some_iff.1 hi).1, hi]; rfl
   ·rw [List.getElem?_set_ne hij]
  rw [hset]
  have hn0 : n = 0 := by simpa using hn
  subst hn0
  have hxv : ∃ p cap, a.eval x = .slice p 0 cap := by
   rcases hown.2 with ⟨h, _⟩ | ⟨g', cap, cur, h, _⟩
   ·exact ⟨_, _, h⟩
   ·exact ⟨_, _, h⟩
  obtain ⟨p, cap, hxv⟩ := hxv
  rw [hxv]
  refine (AnyF.slices_SortFunc_none { L with } p cap (a.eval y) w).mono ?_
  rintro e w' ⟨rfl, rfl⟩
  exact ⟨_, rfl, hR⟩
 | cons z zs =>
  obtain ⟨k, hk⟩ : ∃ k, k = zs.length := ⟨_, rfl⟩
  have hnk : n = k + 1 := by rw [hn, hk]; rfl
  obtain ⟨gb, cap, cur, hxv, _, hheap, hncap, hcapm, hcurs, htake⟩ := hown.2.resolve_left (fun h => by omega)
  have hob : bs[i]? = some (some gb) := by rw [hbs, hxv]; rfl
  have hcl : cells.length = k + 1 := by rw [hown.1, hnk]; simp
  obtain ⟨vals, hvals⟩ : ∃ vals : Fin (k + 1) → Value, ∀ j : Fin (k + 1), cells[j.val]? = some (vals j) :=
   ⟨fun j => cells[j.val]'(by have := j.isLt; omega), fun j => List.getElem?_eq_getElem _⟩
  have hll : (z :: zs).length = k + 1 := by rw [hk]; rfl
  obtain ⟨el', hel⟩ : ∃ el' : Fin (k + 1) → α, ∀ j : Fin (k + 1), (z :: zs)[j.val]? = some (el' j) :=
   ⟨fun j => (z :: zs)[j.val]'(by have := j.isLt; omega), fun j => List.getElem?_eq_getElem _⟩
  have hreps := (D.flat_one (hshape (z :: zs))).1 hflat
  have hval : ∀ j, (enc (el' j)).rep (Own C.A0 bs) w (vals j) := by
   intro j
   obtain ⟨v, hv, hr⟩ := D.reps_get hreps j.val (enc (el' j)) (by rw [List.getElem?_map, hel j]; rfl)
   rw [hvals j] at hv
   cases hv
   exact hr
  have hmem : ∀ j, el' j ∈ z :: zs := fun j => List.mem_of_getElem? (hel j)
  have hO : SWO (ltOf fun p q : Fin (k + 1) => (cmp (el' p) (el' q)).getD 0) := swo_of hswo el' hmem
  have hAlt : ∀ b, Own C.A0 bs b → b < w.heap.size := fun b hb => hb.elim (hR.own.foreign b) (hR.own.lt b)
  have hgb : Own C.A0 bs gb := .inr (List.mem_of_getElem? hob)
  have hcmp : CmpLays1 P g #[] vals (fun p q : Fin (k + 1) => (cmp (el' p) (el' q)).getD 0) gb 0 (k + 1) w := cmp_of_pure hAlt hR.own.glob hgb hval fun p q => by
   obtain ⟨v, hv⟩ := Option.isSome_iff_exists.1 (hsome _ (hmem p) _ (hmem q))
   have := hp _ _ _ hv
   rw [hv]
   exact this
  have hone : OneCell vals := fun j => D.flat_ones (fun d hd => by obtain ⟨q, _, rfl⟩ := List.mem_map.1 hd; exact h2 q) hflat _ (List.mem_of_getElem? (hvals j))
  have eg : ∀ args w, (callFunc g args).run P w = .ok (.enter g args) w := fun args w => zbq hcg args w
  have hH : Holds vals w gb 0 (Array.ofFn (n := k + 1) id) := by
   intro j hj
   have hj' : j < k + 1 := by simpa using hj
   refine ⟨?_, by simp [World.frozen?, hheap]⟩
   rw [getElem!_pos _ j hj, Nat.zero_add, zU hheap]
   have h2 : (cur.toList.take (n * 1))[j]? = cells[j]? := by rw [htake]
   rw [List.getElem?_take_of_lt (by omega)] at h2
   rw [← Array.getElem?_toList, h2]
   have := hvals ⟨j, hj'⟩
   simpa using this
  have hcon := Any.slices_SortFunc_eq L vals hone (fun p q : Fin (k + 1) => (cmp (el' p) (el' q)).getD 0) hO g #[] gb 0 cap (Array.ofFn (n := k + 1) id) w eg (by simpa using hcmp) hH (Array.getElem?_eq_some_iff.1 hheap).1 (by have := hlen; rw [hll] at this; simpa using this)
  rw [hxv, hyv]
  have hsz : (Array.ofFn (n := k + 1) (id : Fin (k + 1) → Fin (k + 1))).size = k + 1 := by simp
  rw [hsz] at hcon
  rw [hnk]
  refine hcon.mono ?_
  rintro e w' ⟨rfl, m, os, rfl⟩
  refine ⟨_, rfl, ?_⟩
  change R C bs ⟨T, _⟩ a (sortWorld vals w gb 0 m (sortIx k fun p q : Fin (k + 1) => (cmp (el' p) (el' q)).getD 0) os)
  have hsp := sortIx_spec hO
  obtain ⟨ix, hix⟩ : ∃ ix, ix = sortIx k fun p q : Fin (k + 1) => (cmp (el' p) (el' q)).getD 0 := ⟨_, rfl⟩
  rw [← hix] at hsp ⊢
  have hres : sortF (fun x y => (cmp x y).getD 0) (z :: zs) = ix.toList.map el' := by
   have hel' : ∀ (j : Fin (zs.length + 1)), el' (j.cast (by rw [hk])) = (z :: zs)[j.val]'(by simp) := fun j => by
    have := hel (j.cast (by rw [hk]))
    rw [List.getElem?_eq_getElem (by simp)] at this
    simpa using this.symm
   subst hk
   have hel2 : el' = fun j => (z :: zs)[j.val]'(by simp) := funext fun j => hel' j
   rw [hix, hel2]; rfl
  rw [hres]
  have hnew : (putCells vals 0 ix cur).toList.take ((k + 1) * 1) = ix.toList.map vals := by
   apply List.ext_getElem?
   intro j
   have hcs : k + 1 ≤ cur.size := by rw [hcurs]; omega
   by_cases hj : j < k + 1
   ·rw [List.getElem?_take_of_lt (by omega), Array.getElem?_toList]
    have hj2 : j < ix.size := by rw [hsp.1]; exact hj
    simp [putCells, hj2, show j < cur.size by omega, getElem!_pos ix j hj2]
   ·rw [List.getElem?_take_eq_none (by omega), List.getElem?_eq_none (by simp [hsp.1]; omega)]
  have hw1 : sortWorld vals w gb 0 m ix os = grow (Sort.ahead (w.setRow gb (putCells vals 0 ix cur)) m) os := by
   unfold sortWorld
   rw [putRow_ahead]
   unfold putRow
   rw [mapBlock_setRow hheap]
  rw [hw1]
  have hR1 : R C bs ⟨T, H.set i (.vec el 1 ((ix.toList.map el').map enc))⟩ a (w.setRow gb (putCells vals 0 ix cur)) := by
   refine R.vecTurn (cur := cur) hR hi hob hheap (by simp [putCells]) (by simp [hsp.1, hk]) ?_ (by simp)
   have e1 : ((z :: zs).map enc).length * 1 = (k + 1) * 1 := by simp [hk]
   rw [e1, hnew]
   refine (D.flat_one (hshape _)).2 (D.reps_of_get (by simp) fun j d v hd hv => ?_)
   simp only [List.getElem?_map, Option.map_eq_some_iff] at hd hv
   obtain ⟨q, ⟨p, hp1, rfl⟩, rfl⟩ := hd
   obtain ⟨p', hp2, rfl⟩ := hv
   rw [hp1] at hp2
   cases hp2
   exact hval p
  have hfr : Fr ze (w.setRow gb (putCells vals 0 ix cur)) (grow (Sort.ahead (w.setRow gb (putCells vals 0 ix cur)) m) os) :=
   ⟨rfl, rfl, rfl, by simp [Sort.ahead], fun b hb _ => by rw [heap_grow_old _ _ (by simpa [Sort.ahead] using hb)]; rfl, Nat.le_add_right _ _⟩
  exact hR1.put hfr none rfl (v := .junk) (u := Go.undef) (by simp only [V.rep])
end Go.Proofs.YtcagdmegicijlaaGreatDoor
namespace Go.Proofs.YtcagdmegicijlaaGreatDoor
open Go Go.RowKit
variable [Globs]
theorem TriI.to {P : Program} {C : Ctx} {ops : Array Oper} {fuel : Nat} {listed : Array Bool} {Q : Exit → St → Prop} {s : St} (listed' : Array Bool) (e : listed = listed') (h : TriI P C ops fuel listed' Q s) : TriI P C ops fuel listed Q s := by subst e; exact h
theorem TriI.via {P : Program} {C : Ctx} {ops : Array Oper} {fuel : Nat} {listed : Array Bool} {Q : Exit → St → Prop} {s : St} (f : Nat) (l' : Array Bool) (s' : St) (h : TriI P C ops f l' Q s') (k : TriI P C ops f l' Q s' → TriI P C ops fuel listed Q s) : TriI P C ops fuel listed Q s := k h
theorem TriI.keepT {P : Program} {C : Ctx} {ops : Array Oper} {fuel : Nat} {listed : Array Bool} {Q : Exit → St → Prop} {T K : List (Nat × V)} {H : List Blk} (ks : List Nat) (hK : Looks T ks K) (h : TriI P C ops fuel listed Q ⟨K, H⟩) : TriI P C ops fuel listed Q ⟨T, H⟩ :=
 ⟨fun bs a w hR => h.run bs a w (hR.weaken hK.sub.look)⟩
theorem TriI.ge {P : Program} {C : Ctx} {ops : Array Oper} {fuel : Nat} {listed : Array Bool} {Q : Exit → St → Prop} {s t : St} (hl : s.ge t) (hgn : Nat.ble C.gn t.H.length = true) (h : TriI P C ops fuel listed Q t) : TriI P C ops fuel listed Q s :=
 ⟨fun _ a w hR => let ⟨bs', hR'⟩ := hR.ge hl hgn; h.run bs' a w hR'⟩
theorem TriL.ge {P : Program} {C : Ctx} {ops : Array Oper} {rest : List Oper} {Q : Exit → St → Prop} {s t : St} (hl : s.ge t) (hgn : Nat.ble C.gn t.H.length = true) (h : TriL P C ops rest Q t) : TriL P C ops rest Q s :=
 ⟨fun _ a w hR => let ⟨bs', hR'⟩ := hR.ge hl hgn; h.run bs' a w hR'⟩
theorem TriI.cut {P : Program} {C : Ctx} {ops : Array Oper} {fuel : Nat} {listed : Array Bool} {Q : Exit → St → Prop} {T : List (Nat × V)} {H' : List Blk} (H : List Blk) (hl : ∃ X, H' = H ++ X) (h1 : (H.all (Blk.under H.length)) = true) (h2 : (T.all fun p => p.2.under H.length) = true) (hT : Sub T T) (hgn : Nat.ble C.gn H.length = true)
  (h : TriI P C ops fuel listed Q ⟨T, H⟩) : TriI P C ops fuel listed Q ⟨T, H'⟩ :=
 .ge (t := ⟨T, H⟩) (let ⟨X, hX⟩ := hl; ⟨X, hX, h1, h2, hT⟩) hgn h
theorem OneI.ofG {P : Program} {C : Ctx} {ops : Array Oper} {o : Oper} {s s' : St} (hd : noDefer o = true) (hw : Wants C ops o s true) (h : TriL P C ops [{ o with guard := none }] (After s') s) : OneI P C ops o s s' := by
 refine ⟨fun bs a w hR Q i K hi hK => ?_⟩
 have h1 := h.run bs a w hR
 have hw := hw.run bs a w hR
 unfold wpOpIn
 simp only [hi, hw, if_true]
 unfold wpList at h1
 have h0 : Region.wanted { o with guard := none } (yielded ops a.tmps) = true := rfl
 rw [if_pos h0] at h1
 rcases h1 with h1 | ⟨_, a1, w1, h1⟩
 ·have h2 : o.wp P a w (QR C (After s') .normal) (QR C (After s')) := h1
  exact Oper.wpIn_wide (.inl rfl) (noDefer_spec hd) (Oper.wp_after hK h2)
 ·rcases h1 with ⟨bs', s1, ⟨h, _⟩, hR⟩ | ⟨h, _⟩ <;> cases h
theorem OneI.no {P : Program} {C : Ctx} {ops : Array Oper} {o : Oper} {s : St} (hd : dstOK o.dst C.n = true) (hw : Wants C ops o s false) : OneI P C ops o s (s.put o.dst .junk) := by
 refine ⟨fun bs a w hR Q i K hi hK => ?_⟩
 have hw := hw.run bs a w hR
 unfold wpOpIn
 simp only [hi, hw]
 exact ⟨fun _ _ => trivial, hK _ _ ⟨bs, hR.put (Fr.refl _ _) o.dst hd (v := .junk) (by simp only [V.rep])⟩⟩
theorem clone_pure {P : Program} {f : FuncId} {fn : Func} {α : Type} {t el : TypeId} {k bytes : Nat} {enc : α → D} {xs zs : List α} (hf : P.funcs[f]? = some fn) (hbody : fn.body = some (cloneCode t)) (hN : fn.ntmps = 8) (hrs : fn.results = #[.tmp 2])
  (ht : zba P t el k bytes = true) (hb : Nat.blt 0 bytes = true) (hones : ∀ z, (enc z).ones = true) (hk : ∀ x, (enc x).kOK k = true) (hv : Go.Proofs.YtcagdmegicijlaaGreatDoor.app bytes [] xs = some zs) : Pure P f [.sl k (xs.map enc)] (.sl k (zs.map enc)) := by
 have hz : zs = xs := by have := (appS hv).1; simpa using this
 have htu := (zbN ht).1
 refine Pure.ot hf hbody hN rfl fun A w => ?_
 rw [hrs]
 refine .seq (.region (.op rfl rfl (.assign rfl rfl) (.nil ?_)))
 refine .seq (.seq (.region (.op rfl rfl (.move rfl rfl) (.eqNil rfl rfl rfl htu rfl fun b hxs => .nil ?_))))
 refine .cond (t := b) rfl (fun hbt => ?_) (fun _ => .skip ?_)
 ·have hxs := hxs hbt
  have hxs : xs = [] := by simpa using hxs
  subst hxs
  subst hz
  refine .seq (.region (.op rfl rfl (.assign rfl rfl) (.nil ?_)))
  refine .nilVec 2 k el rfl (.ret ?_)
  exact zbw rfl (.vec rfl rfl)
 ·refine .seq (.region (.buildVec (α := α) (enc := enc) [] rfl rfl rfl rfl rfl ht rfl hk (by simp [Nat.ble_eq]) ?_))
  refine .op rfl rfl (.move rfl rfl) ?_
  refine .app rfl rfl rfl rfl rfl rfl rfl rfl ht hb hones hv ?_
  refine .op rfl rfl (.assign rfl rfl) (.nil ?_)
  refine .ret ?_
  exact zbw rfl (.vec rfl (by simp))
theorem OpV.makeFunc1 {P : Program} {o : Oper} {e : Operand → Option V} {H : List Blk} {g : FuncId} {x : Operand} {d : D} (ho : o.op = .makeFunc (.func g) #[x] #[]) (hx : e x = some (.d d)) : OpV P o e H (.d (.fn (.func g) [d] [])) :=
 .of_same fun A0 bs w f _ hf => by
  have h1 := hf x (by simp [ho, Op.operands]) _ hx
  refine ⟨.func (.func g) #[f x] #[], by simp [execOp, ho, Instr.makeFunc], ?_⟩
  simp only [V.rep, D.rep, D.reps] at h1 ⊢
  exact ⟨#[f x], #[], rfl, ⟨f x, [], rfl, h1, rfl⟩, rfl⟩
end Go.Proofs.YtcagdmegicijlaaGreatDoor
namespace Go.Proofs.YtcagdmegicijlaaGreatDoor
open Go Go.RowKit
variable [Globs]
def isDep (ops : Array Oper) (i d : Nat) : Bool := ((ops.toList[i]?).map fun o => o.after.toList.any fun e => Region.binds .any e && Nat.beq e.on d).getD false
def lowDeps (ops : Array Oper) : Bool := (List.range ops.size).all fun i => ((ops.toList[i]?).map fun o => o.after.toList.all fun e => !Region.binds .any e || Nat.blt e.on i).getD true
def upd (f : Nat → Bool) (i j : Nat) : Bool := Nat.beq j i || f j
def fof (l : Array Bool) (j : Nat) : Bool := l.getD j false
theorem countP_upd {n i : Nat} {f : Nat → Bool} (hi : i < n) (hf : f i = false) : (List.range n).countP (fun j => !upd f i j) < (List.range n).countP (fun j => !f j) := by
 obtain ⟨l1, l2, h⟩ := List.append_of_mem (List.mem_range.2 hi)
 have hm : ∀ l : List Nat, l.countP (fun j => !upd f i j) ≤ l.countP (fun j => !f j) := fun l =>
  List.countP_mono_left fun x _ h => by
   simp only [upd, Bool.not_eq_true', Bool.or_eq_false_iff] at h ⊢
   exact h.2
 have h1 := hm l1
 have h2 := hm l2
 rw [h]
 simp only [List.countP_append, List.countP_cons]
 have e1 : (!upd f i i) = false := by simp [upd]
 have e2 : (!f i) = true := by simp [hf]
 rw [e1, e2]
 simp only [Bool.false_eq_true, if_false, if_true]
 omega
theorem ready_spec {ops : Array Oper} {l : Array Bool} (hl : l.size = ops.size) {i : Nat} (h : i ∈ Region.ready .any ops l) : i < ops.size ∧ fof l i = false ∧ ∀ d, isDep ops i d = true → fof l d = true := by
 simp only [Region.ready, List.mem_filter, List.mem_range, Bool.and_eq_true, Bool.not_eq_true'] at h
 obtain ⟨h1, h2, h3⟩ := h
 have hil : i < l.size := by omega
 refine ⟨h1, ?_, fun d hd => ?_⟩
 ·simpa [fof, Array.getD_eq_getD_getElem?, hil] using h2
 ·simp only [Array.getElem?_eq_getElem h1, Option.map_some, Option.getD_some, isDep, Array.getElem?_toList] at h3 hd
  obtain ⟨e, he, hd⟩ := List.any_eq_true.1 hd
  rw [← Array.all_toList] at h3
  have := List.all_eq_true.1 h3 e he
  simp only [Bool.and_eq_true] at hd
  rw [hd.1] at this
  simpa [fof, Nat.eq_of_beq_eq_true hd.2] using this
theorem ready_nil {ops : Array Oper} (hlow : lowDeps ops = true) {l : Array Bool} (hl : l.size = ops.size) (h : Region.ready .any ops l = []) : ∀ i, i < ops.size → fof l i = true := by
 intro i
 induction i using Nat.strongRecOn with
 | ind i ih =>
  intro hi
  have hil : i < l.size := by omega
  have hn : i ∉ Region.ready .any ops l := by rw [h]; simp
  simp only [Region.ready, List.mem_filter, List.mem_range, hi, true_and, Bool.and_eq_true, not_and] at hn
  by_cases hf : fof l i = true
  ·exact hf
  ·exfalso
   refine hn (by simpa [fof, Array.getD_eq_getD_getElem?, hil] using hf) ?_
   simp only [Array.getElem?_eq_getElem hi, Option.map_some, Option.getD_some]
   rw [← Array.all_toList]
   refine List.all_eq_true.2 fun e he => ?_
   have h1 := List.all_eq_true.1 hlow i (List.mem_range.2 hi)
   simp only [Array.getElem?_eq_getElem hi, Option.map_some, Option.getD_some, Array.getElem?_toList] at h1
   have h2 := List.all_eq_true.1 h1 e he
   cases hb : Region.binds .any e with
   | false => rfl
   | true =>
    rw [hb] at h2
    simp only [Bool.not_true, Bool.false_or] at h2 ⊢
    have hlt : e.on < i := by simpa using h2
    have := ih _ hlt (by omega)
    simpa [fof] using this
theorem ready_zero {ops : Array Oper} {l : Array Bool} (hl : l.size = ops.size) (h : ∀ i, i < ops.size → fof l i = true) : Region.ready .any ops l = [] := by
 refine List.eq_nil_iff_forall_not_mem.2 fun i hi => ?_
 obtain ⟨h1, h2, _⟩ := ready_spec hl hi
 rw [h i h1] at h2; cases h2
theorem TriI.lattice {P : Program} {C : Ctx} {ops : Array Oper} {Q : Exit → St → Prop} (S : (Nat → Bool) → St → Prop) (hlow : lowDeps ops = true)
  (hstep : ∀ (f : Nat → Bool) (s : St), S f s → ∀ (i : Nat), i < ops.size → f i = false → (∀ d, isDep ops i d = true → f d = true) → (∀ j d, isDep ops j d = true → f d = false → f j = false) → ∃ s' o, ops.toList[i]? = some o ∧ S (upd f i) s' ∧ OneI P C ops o s s')
  (hend : ∀ f s, (∀ i, i < ops.size → f i = true) → S f s → Q .normal s) :
  ∀ (fuel : Nat) (l : Array Bool) (s : St), l.size = ops.size → (List.range ops.size).countP (fun j => !fof l j) ≤ fuel → (∀ j d, isDep ops j d = true → fof l d = false → fof l j = false) → (∃ f, (∀ j, f j = fof l j) ∧ S f s) → TriI P C ops fuel l Q s
 | fuel, l, s, hl, hc, hd, ⟨f, hf, hS⟩ => by
  obtain rfl : f = fof l := funext hf
  have hnil : Region.ready .any ops l = [] → Q .normal s := fun h => hend _ _ (ready_nil hlow hl h) hS
  cases fuel with
  | zero =>
   have hall : ∀ i, i < ops.size → fof l i = true := fun i hi => by
    have := List.countP_eq_zero.1 (Nat.le_zero.1 hc) i (List.mem_range.2 hi)
    simpa using this
   exact .done (ready_zero hl hall) (hend _ _ hall hS)
  | succ fuel =>
   refine ⟨fun bs a w hR => ⟨fun h0 => .inl ⟨bs, s, hnil h0, hR⟩, fun i hi => ?_⟩⟩
   obtain ⟨h1, h2, h3⟩ := ready_spec hl hi
   obtain ⟨s', o, ho, hS', hone⟩ := hstep _ s hS i h1 h2 h3 hd
   have hupd : ∀ j, upd (fof l) i j = fof (l.setIfInBounds i true) j := fun j => by
    simp only [upd, fof, Array.getD_eq_getD_getElem?, Array.getElem?_setIfInBounds]
    by_cases e : i = j
    ·subst e; simp [show i < l.size by omega]
    ·have : Nat.beq j i = false := by
      cases hb : Nat.beq j i with
      | false => rfl
      | true => exact absurd (Nat.eq_of_beq_eq_true hb).symm e
     simp [this, e]
   have ih := TriI.lattice S hlow hstep hend fuel (l.setIfInBounds i true) s' (by simpa using hl) (by
    have := countP_upd h1 h2
    have e : (fun j => !fof (l.setIfInBounds i true) j) = fun j => !upd (fof l) i j := funext fun j => by rw [hupd]
    rw [e]; omega) (fun j d hjd hdf => by
     rw [← hupd] at hdf ⊢
     simp only [upd, Bool.or_eq_false_iff] at hdf ⊢
     have hj := hd j d hjd hdf.2
     refine ⟨?_, hj⟩
     cases hb : Nat.beq j i with
     | false => rfl
     | true => rw [Nat.eq_of_beq_eq_true hb] at hjd; rw [h3 d hjd] at hdf; cases hdf.2) ⟨_, hupd, hS'⟩
   exact hone.run bs a w hR _ _ _ (by simpa using ho) fun a w ⟨bs', hR'⟩ => ih.run bs' a w hR'
theorem looks_map {T K : List (Nat × V)} (e : (K.map fun p => look p.1 T) = K.map fun p => some p.2) : ∀ k v, look k K = some v → look k T = some v := fun k v hk => by
 obtain ⟨i, hi, hv⟩ := List.getElem_of_mem (look_mem hk)
 have h1 := congrArg (fun l => l[i]?) e
 simpa only [List.getElem?_map, List.getElem?_eq_getElem hi, hv, Option.map_some, Option.some.injEq] using h1
theorem OneI.ge {P : Program} {C : Ctx} {ops : Array Oper} {o : Oper} {s : St} {T K : List (Nat × V)} {H H' : List Blk} (h : OneI P C ops o s ⟨T, H⟩) (e : (H, K.map fun p => look p.1 T) = (H', K.map fun p => some p.2)) : OneI P C ops o s ⟨K, H'⟩ := by
 simp only [Prod.mk.injEq] at e
 obtain ⟨rfl, e⟩ := e
 exact ⟨fun bs a w hR Q i L hi hK => h.run bs a w hR Q i L hi fun a w ⟨bs', hR'⟩ => hK a w ⟨bs', hR'.weaken (looks_map e)⟩⟩
theorem R.junk {C : Ctx} {bs : List (Option Nat)} {T : List (Nat × V)} {H : List Blk} {a : Act} {w : World} (h : R C bs ⟨T, H⟩ a w) : ∀ (ks : List Nat), (ks.all fun k => Nat.blt k C.n) = true → R C bs ⟨ks.map (fun k => (k, .junk)) ++ T, H⟩ a w
 | [], _ => h
 | k :: ks, hk => by
  simp only [List.all_cons, Bool.and_eq_true] at hk
  have := R.junk h ks hk.2
  refine { this with tmp := fun t v hv => ?_ }
  simp only [List.map_cons, List.cons_append, look] at hv
  split at hv
  ·rename_i e; subst e; cases hv
   exact ⟨by simpa using hk.1, by simp only [V.rep]⟩
  ·exact this.tmp t v hv
theorem V.under_cond (n : Nat) (b : Bool) (v w : V) : V.under n (bif b then v else w) = bif b then v.under n else w.under n := by cases b <;> rfl
theorem Tri.cut {P : Program} {C : Ctx} {c : Code} {Q : Exit → St → Prop} {T : List (Nat × V)} {H' : List Blk} (H : List Blk) (hl : ∃ X, H' = H ++ X) (h1 : (H.all (Blk.under H.length)) = true) (h2 : (T.all fun p => p.2.under H.length) = true) (hT : Sub T T) (hgn : Nat.ble C.gn H.length = true)
  (h : Tri P C c Q ⟨T, H⟩) : Tri P C c Q ⟨T, H'⟩ := .ge (t := ⟨T, H⟩) (let ⟨X, hX⟩ := hl; ⟨X, hX, h1, h2, hT⟩) h hgn
theorem Tri.drawL {P : Program} {C : Ctx} {Q : Exit → St → Prop} {T K : List (Nat × V)} {H H' : List Blk} {id : Nat} {l : Array Oper} (js : List Nat) (S : (Nat → Bool) → St → Prop) (hm : P.follows .mixedOrders = true) (hlow : lowDeps l = true)
  (hj : (js.all fun k => Nat.blt k C.n) = true) (h0 : S (fun _ => false) ⟨K, H'⟩) (e : (H, K.map fun p => look p.1 (js.map (fun k => (k, V.junk)) ++ T)) = (H', K.map fun p => some p.2))
  (hstep : ∀ (f : Nat → Bool) (s : St), S f s → ∀ (i : Nat), i < l.size → f i = false → (∀ d, isDep l i d = true → f d = true) → (∀ j d, isDep l j d = true → f d = false → f j = false) → ∃ s' o, l.toList[i]? = some o ∧ S (upd f i) s' ∧ OneI P C l o s s')
  (hend : ∀ f s, (∀ i, i < l.size → f i = true) → S f s → Q .normal s) : Tri P C (.region id l true) Q ⟨T, H⟩ := by
 simp only [Prod.mk.injEq] at e
 obtain ⟨rfl, e⟩ := e
 have hS0 : ∃ f, (∀ j, f j = fof (Array.replicate l.size false) j) ∧ S f ⟨K, H⟩ := ⟨_, fun j => by simp [fof, Array.getD_eq_getD_getElem?, Array.getElem?_replicate]; split <;> rfl, h0⟩
 have ht := TriI.lattice (Q := zci Q) S hlow hstep (fun f s h1 h2 => hend f s h1 h2) l.size (Array.replicate l.size false) ⟨K, H⟩ (by simp) (Nat.le_trans List.countP_le_length (by simp)) (fun j _ _ _ => by simp [fof, Array.getD_eq_getD_getElem?, Array.getElem?_replicate]; split <;> rfl) hS0
 exact .drawI l.size hm rfl ⟨fun bs a w hR => ht.run bs a w ((hR.junk js hj).weaken (looks_map e))⟩
end Go.Proofs.YtcagdmegicijlaaGreatDoor
namespace Go.Proofs.YtcagdmegicijlaaGreatDoor
open Go Go.RowKit Go.Proofs
theorem Y234 : zA Tryz.prog 234 = some (some 4) := by kernel_rfl
def tokL : List Oper := [{ dst := some 84, op := Op.move (Operand.tmp 0), type := 257, pos := "lexer.go:103", after := #[], guard := none }, { dst := some 85, op := Op.load 234 (Operand.tmp 5), type := 234, pos := "lexer.go:103", after := #[], guard := none }, { dst := some 86, op := Op.call { callee := Callee.value (Operand.tmp 84), args := #[Operand.tmp 85], argTypes := #[234] }, type := 4, pos := "lexer.go:103", after := #[{ on := 0, ground := Ground.data }, { on := 1, ground := Ground.data }], guard := none }, { dst := some 87, op := Op.unOp UnOp.not 4 (Operand.tmp 86), type := 4, pos := "lexer.go:103", after := #[{ on := 2, ground := Ground.data }], guard := none }, { dst := some 88, op := Op.move (Operand.tmp 87), type := 4, pos := "lexer.go:103", after := #[{ on := 3, ground := Ground.data }, { on := 2, ground := Ground.chain }], guard := none }, { dst := some 89, op := Op.fieldAddr 234 (Operand.tmp 5) 0, type := 0, pos := "lexer.go:103", after := #[{ on := 4, ground := Ground.guard }], guard := some (4, false) }, { dst := some 90, op := Op.load 3 (Operand.tmp 89), type := 3, pos := "lexer.go:103", after := #[{ on := 5, ground := Ground.data }, { on := 4, ground := Ground.guard }], guard := some (4, false) }, { dst := some 91, op := Op.binOp BinOp.eql 3 (Operand.tmp 90) (Operand.const (Value.int IntKind.i64 0)) 3, type := 4, pos := "lexer.go:103", after := #[{ on := 6, ground := Ground.data }, { on := 4, ground := Ground.guard }], guard := some (4, false) }, { dst := some 92, op := Op.pick (Operand.tmp 88) (Operand.const (Value.bool true)) (Operand.tmp 91), type := 4, pos := "lexer.go:103", after := #[{ on := 4, ground := Ground.data }, { on := 7, ground := Ground.data }], guard := none }]
def tokX : Code := .seq (.region 19 tokL.toArray false) (.cond (.tmp 92) .ret .skip)
theorem R.reCtx {C C' : Ctx} (h1 : C'.A0 = C.A0) (h2 : C'.own0 = C.own0) (h3 : C'.w0 = C.w0) (h4 : C'.n = C.n) (h5 : C'.gh = C.gh) (h6 : C'.gn = C.gn) (h7 : C'.df = C.df) {bs : List (Option Nat)} {s : St} {a : Act} {w : World} (h : R C bs s a w) : R C' bs s a w := by
 obtain ⟨A0, own0, w0, n, esc, gh, gn, df⟩ := C
 obtain ⟨A1, own1, w1, n1, esc1, gh1, gn1, df1⟩ := C'
 simp only at h1 h2 h3 h4 h5 h6 h7
 subst h1; subst h2; subst h3; subst h4; subst h5; subst h6; subst h7
 exact ⟨h.own, h.len, h.blk, h.tmp, h.defers, h.size, h.fr, h.new, h.gh⟩
theorem R.noEsc {A0 own0 : Nat → Prop} {w0 : World} {n : Nat} {esc esc' : Act → World → Prop} {bs : List (Option Nat)} {s : St} {a : Act} {w : World} (h : R ⟨A0, own0, w0, n, esc, [], 0, []⟩ bs s a w) : R ⟨A0, own0, w0, n, esc', [], 0, []⟩ bs s a w :=
 ⟨h.own, h.len, h.blk, h.tmp, h.defers, h.size, h.fr, h.new, h.gh⟩
theorem tokX_tri {A : Nat → Prop} {w0 : World} {Post : World → Prop} (l : Nat) (tok : Token)
  (hround : ∀ (W : World) (v : Value), Fr ze w0 W → D.rep A W tok.enc v → ∃ fn tm asg bd, (Instr.yield l #[v]).run Tryz.prog W = .ok (.round l fn tm asg bd) W ∧ RoundIn Fence.wide 0 Tryz.prog l fn tm asg bd W (fun e W' => e = .returned (.bool false) ∧ Post W'))
  (Q : Exit → St → Prop) (T : List (Nat × V)) (H : List Blk) (j : Nat) (h0 : look 0 T = some (.d (.fn (.yield l) [] []))) (h5 : look 5 T = some (.loc j 0)) (hj : H[j]? = some (.box 234 (V.cellsV (.d tok.enc)))) :
  Tri Tryz.prog ⟨A, ze, w0, 93, fun a W' => a.defers = [] ∧ Post W', [], 0, []⟩ tokX Q ⟨T, H⟩ := by
 refine ⟨fun bs a w hR => (wpIn_wide (n := 1)).1 ?_⟩
 unfold tokX
 refine wpIn_seq (wpIn_region_lit ?_)
 have hR' : R ⟨A, ze, w0, 93, fun _ _ => False, [], 0, []⟩ bs ⟨T, H⟩ a w := R.reCtx (C := ⟨A, ze, w0, 93, fun a W' => a.defers = [] ∧ Post W', [], 0, []⟩) (C' := ⟨A, ze, w0, 93, fun _ _ => False, [], 0, []⟩) rfl rfl rfl rfl rfl rfl rfl hR
 have hpre : TriL Tryz.prog ⟨A, ze, w0, 93, fun _ _ => False, [], 0, []⟩ tokL.toArray (tokL.take 2) (fun e s => e = .normal ∧ look 84 s.T = some (.d (.fn (.yield l) [] [])) ∧ look 85 s.T = some (.d tok.enc)) ⟨T, H⟩ := by
  refine .op rfl rfl (.move rfl h0) ?_
  refine .op rfl rfl (.loadLoc rfl h5 hj Y234 (Nat.le_of_ble_eq_true rfl) (v := .d tok.enc) rfl) ?_
  exact .nil ⟨rfl, rfl, rfl⟩
 refine wpListIn_pre (pre := tokL.take 2) (post := tokL.drop 2) (Q0 := QR _ _) ?_ ?_ a w (hpre.run bs a w hR')
 ·rintro e a w (⟨_, _, ⟨h, _⟩, _⟩ | ⟨_, h⟩)
  ·exact h
  ·exact h.elim
 rintro a1 w1 (⟨bs1, s1, ⟨_, g1, g2⟩, hR1⟩ | ⟨h, _⟩)
 case inr => cases h
 have e84 := hR1.ev (x := .tmp 84) (by simpa [ev] using g1)
 have e85 := hR1.ev (x := .tmp 85) (by simpa [ev] using g2)
 simp only [V.rep, D.rep] at e84
 obtain ⟨vs, us, e84, e1, e2⟩ := e84
 simp only [D.reps] at e1 e2
 have e1 : vs = #[] := by simpa using e1
 have e2 : us = #[] := by simpa using e2
 subst e1; subst e2
 simp only [V.rep] at e85
 obtain ⟨fn, tm, asg, bd, hy, hr⟩ := hround w1 _ hR1.fr (D.scal_rep rfl e85)
 have hsz : a1.tmps.size = 93 := hR1.size
 have hdf := hR1.defers
 simp only [tokL, List.drop]
 refine wpListIn_plain rfl fun K hK => ⟨fun _ _ => trivial, ?_⟩
 have hx : ∀ (o : Oper), o.op = .call { callee := .value (.tmp 84), args := #[.tmp 85], argTypes := #[234] } → (execOp a1.eval o).run Tryz.prog w1 = .ok (.round l fn tm asg bd) w1 := fun o ho => by
  simp [execOp, ho, resolve, e84, Deferred.ofValue, invoke, hy]
 have hsm : ∀ ρ o, Oper.semAt Fence.wide.round ρ o = execOp ρ o := fun _ _ => rfl
 rw [hsm, hx _ rfl, Oper.uponIn_round]
 refine ⟨fun h => by simp [Fence.wide] at h, hr.mono ?_⟩
 rintro e W' ⟨rfl, hp⟩
 refine hK _ _ ?_
 obtain ⟨a2, ha2⟩ : ∃ a2, a1.put (some 86) (.bool false) = a2 := ⟨_, rfl⟩
 have z2 : a2.tmps.size = 93 ∧ a2.defers = [] ∧ a2.tmps[86]? = some (.bool false) := by subst ha2; exact ⟨by simp [Act.put, hsz], hdf, by simp [Act.put, hsz]⟩
 simp only [ha2]
 clear ha2 hK K
 refine wpListIn_plain rfl fun K hK => ⟨fun _ _ => trivial, ?_⟩
 rw [hsm]
 have x87 : ∀ (o : Oper), o.op = .unOp .not 4 (.tmp 86) → (execOp a2.eval o).run Tryz.prog W' = .ok (.value (.bool true)) W' := fun o ho => by simp [execOp, ho, Op.unary, Act.eval, z2.2.2]
 rw [x87 _ rfl]
 refine hK _ _ ?_
 obtain ⟨a3, ha3⟩ : ∃ a3, a2.put (some 87) (.bool true) = a3 := ⟨_, rfl⟩
 have z3 : a3.tmps.size = 93 ∧ a3.defers = [] ∧ a3.tmps[87]? = some (.bool true) := by subst ha3; exact ⟨by simp [Act.put, z2.1], z2.2.1, by simp [Act.put, z2.1]⟩
 simp only [ha3]
 clear ha3 hK K
 refine wpListIn_plain rfl fun K hK => ⟨fun _ _ => trivial, ?_⟩
 rw [hsm]
 have x88 : ∀ (o : Oper), o.op = .move (.tmp 87) → (execOp a3.eval o).run Tryz.prog W' = .ok (.value (.bool true)) W' := fun o ho => by simp [execOp, ho, Act.eval, z3.2.2]
 rw [x88 _ rfl]
 refine hK _ _ ?_
 obtain ⟨a4, ha4⟩ : ∃ a4, a3.put (some 88) (.bool true) = a4 := ⟨_, rfl⟩
 have z4 : a4.tmps.size = 93 ∧ a4.defers = [] ∧ a4.tmps[88]? = some (.bool true) := by subst ha4; exact ⟨by simp [Act.put, z3.1], z3.2.1, by simp [Act.put, z3.1]⟩
 simp only [ha4]
 clear ha4 hK K
 have hw : ∀ (a : Act) (o : Oper), o.guard = some (4, false) → a.tmps[88]? = some (.bool true) → Region.wanted o (yielded tokL.toArray a.tmps) = false := fun a o ho ha => by
  simp [Region.wanted, ho, yielded, tokL, ha]
 simp only [tokL] at hw
 refine wpListIn_skip (hw a4 _ rfl z4.2.2) rfl ?_
 obtain ⟨a5, ha5⟩ : ∃ a5, a4.put (some 89) undef = a5 := ⟨_, rfl⟩
 have z5 : a5.tmps.size = 93 ∧ a5.defers = [] ∧ a5.tmps[88]? = some (.bool true) := by subst ha5; exact ⟨by simp [Act.put, z4.1], z4.2.1, by simp [Act.put, z4.2.2]⟩
 simp only [ha5]
 refine wpListIn_skip (hw a5 _ rfl z5.2.2) rfl ?_
 obtain ⟨a6, ha6⟩ : ∃ a6, a5.put (some 90) undef = a6 := ⟨_, rfl⟩
 have z6 : a6.tmps.size = 93 ∧ a6.defers = [] ∧ a6.tmps[88]? = some (.bool true) := by subst ha6; exact ⟨by simp [Act.put, z5.1], z5.2.1, by simp [Act.put, z5.2.2]⟩
 simp only [ha6]
 refine wpListIn_skip (hw a6 _ rfl z6.2.2) rfl ?_
 obtain ⟨a7, ha7⟩ : ∃ a7, a6.put (some 91) undef = a7 := ⟨_, rfl⟩
 have z7 : a7.tmps.size = 93 ∧ a7.defers = [] ∧ a7.tmps[88]? = some (.bool true) := by subst ha7; exact ⟨by simp [Act.put, z6.1], z6.2.1, by simp [Act.put, z6.2.2]⟩
 simp only [ha7]
 clear ha5 ha6 ha7
 refine wpListIn_plain rfl fun K hK => ⟨fun _ _ => trivial, ?_⟩
 rw [hsm]
 have x92 : ∀ (o : Oper), o.op = .pick (.tmp 88) (.const (.bool true)) (.tmp 91) → (execOp a7.eval o).run Tryz.prog W' = .ok (.value (.bool true)) W' := fun o ho => by simp [execOp, ho, asBool, Act.eval, z7.2.2]
 rw [x92 _ rfl]
 refine hK _ _ ?_
 obtain ⟨a8, ha8⟩ : ∃ a8, a7.put (some 92) (.bool true) = a8 := ⟨_, rfl⟩
 have z8 : a8.defers = [] ∧ a8.tmps[92]? = some (.bool true) := by subst ha8; exact ⟨z7.2.1, by simp [Act.put, z7.1]⟩
 simp only [ha8]
 refine wpListIn_nil ?_
 simp only [Exit.then]
 refine wpIn_cond (t := true) (by simp [Act.eval, z8.2]) ?_
 exact wpIn_ret (.inr ⟨rfl, z8.1, hp⟩)
end Go.Proofs.YtcagdmegicijlaaGreatDoor
namespace Go.Proofs.YtcagdmegicijlaaGreatDoor
open Go Go.RowKit
noncomputable def law22_example (n : Nat) : Option Model :=
 some (⟨[], [(⟨[99], 1, [], (⟨0, 3⟩ : Range), 0⟩ : Table)], [[99]], [(⟨0, 0, (⟨[(⟨0, (-1)⟩ : Term)], 0⟩ : Row), 0, 0⟩ : Constraint), (⟨0, 0, (⟨[(⟨0, 1⟩ : Term)], 3⟩ : Row), 0, 0⟩ : Constraint)], [(⟨[116, 119, 111], false, []⟩ : Operation)], [(⟨0, [], (⟨[(⟨0, 2⟩ : Change)], [], []⟩ : Effect)⟩ : Action)], []⟩ : Model)
noncomputable def zI.l1 (n : Nat) (t0 : List Int) (t1 : Int → Option Bool) (rec_8 : Int → Option Int) (s : Int) : Option Int :=
 let x8_7 := s
 if (decide (x8_7 < (t0.length : Int))) = true then
  (idx t0 x8_7).bind fun x14_9 =>
  (t1 x14_9).bind fun x16_10 =>
  if x16_10 = true then
   some x8_7
  else
   rec_8 (add64 x8_7 1)
 else
  some (-1)
noncomputable def zI (n : Nat) (t0 : List Int) (t1 : Int → Option Bool) : Option Int :=
 loopF (zI.l1 n t0 t1) n 0
noncomputable def zm (n : Nat) (t0 : List Int) (t1 : Int → Option Bool) : Option Bool :=
 (zI n t0 t1).bind fun x7_1 =>
 some (decide (0 ≤ x7_1))
noncomputable def zc6 (n : Nat) (t0 : Int) (t1 : Int) (t2 : Int) : Option Bool :=
 some ((decide (t1 ≤ t0)) && (decide (t0 ≤ t2)))
noncomputable def cells_sized_1 (n : Nat) (t0 : Int) : Option Bool :=
 (zc6 n t0 1 6).bind fun x4_1 =>
 some (!x4_1)
noncomputable def cells_sized (n : Nat) (t0 : List Int) : Option Bool :=
 (zm n t0 (fun q0 => cells_sized_1 n q0)).bind fun x4_1 =>
 some (!x4_1)
noncomputable def zP.l1 (n : Nat) (t0 : List Bool) (t1 : Bool) (rec_6 : Int → Option Int) (s : Int) : Option Int :=
 let x8_5 := s
 if (decide (x8_5 < (t0.length : Int))) = true then
  (idx t0 x8_5).bind fun x14_7 =>
  if (t1 == x14_7) = true then
   some x8_5
  else
   rec_6 (add64 x8_5 1)
 else
  some (-1)
noncomputable def zP (n : Nat) (t0 : List Bool) (t1 : Bool) : Option Int :=
 loopF (zP.l1 n t0 t1) n 0
noncomputable def zbh (n : Nat) (t0 : List Bool) (t1 : Bool) : Option Bool :=
 (zP n t0 t1).bind fun x7_1 =>
 some (decide (0 ≤ x7_1))
noncomputable def cells_all (n : Nat) (t0 : List Bool) : Option Bool :=
 (zbh n t0 false).bind fun x4_1 =>
 some (!x4_1)
noncomputable def strings_FieldsFunc (n : Nat) (t0 : List UInt8) (t1 : Int → Option Bool) : Option (List (List UInt8)) :=
 none
noncomputable def unicode_IsSpace (n : Nat) (t0 : Int) : Option Bool :=
 if (decide (wk .u32 t0 ≤ 255)) = true then
  jn (fun (v : Bool) =>
   let x7_1 := v
   if x7_1 = true then
    some true
   else
    some false) fun k_2 =>
  if (t0 == 9) = true then
   k_2 (t0 == 9)
  else
   if (t0 == 10) = true then
    k_2 (t0 == 10)
   else
    if (t0 == 11) = true then
     k_2 (t0 == 11)
    else
     if (t0 == 12) = true then
      k_2 (t0 == 12)
     else
      if (t0 == 13) = true then
       k_2 (t0 == 13)
      else
       if (t0 == 32) = true then
        k_2 (t0 == 32)
       else
        if (t0 == 133) = true then
         k_2 (t0 == 133)
        else
         k_2 (t0 == 160)
 else
  none
noncomputable def zaD.l4 (n : Nat) (t0 : List UInt8) (x10_80 : Int) (rec_83 : ((List (List UInt8)) × Int × Int × Int) → Option (List (List UInt8))) (b0_88 : List (List UInt8)) (rec_98 : Int → Option (List (List UInt8))) (s : Int) : Option (List (List UInt8)) :=
 let x12_97 := s
 grd (!(decide (x12_97 < (t0.length : Int))) || (sidx t0 x12_97).isSome) <|
 grd (!(decide (x12_97 < (t0.length : Int))) || (idx tab0 ((sidx t0 x12_97).getD default)).isSome) <|
 if ((decide (x12_97 < (t0.length : Int))) && (((idx tab0 ((sidx t0 x12_97).getD default)).getD default) != 0)) = true then
  rec_98 (add64 x12_97 1)
 else
  rec_83 (b0_88, add64 x10_80 1, x12_97, x12_97)
noncomputable def zaD.l3 (n : Nat) (t0 : List UInt8) (rec_83 : ((List (List UInt8)) × Int × Int × Int) → Option (List (List UInt8))) (s : (List (List UInt8)) × Int × Int × Int) : Option (List (List UInt8)) :=
 let b0_79 := s.1
 let x10_80 := s.2.1
 let x11_81 := s.2.2.1
 let x12_82 := s.2.2.2
 if (decide (x12_82 < (t0.length : Int))) = true then
  (sidx t0 x12_82).bind fun x63_84 =>
  (idx tab0 x63_84).bind fun x64_85 =>
  if (x64_85 == 0) = true then
   rec_83 (b0_79, x10_80, x11_81, add64 x12_82 1)
  else
   (cut t0 x11_81 x12_82).bind fun x74_86 =>
   (idx b0_79 x10_80).bind fun x75_87 =>
   (sto b0_79 x10_80 x74_86).bind fun b0_88 =>
   loopF (zaD.l4 n t0 x10_80 rec_83 b0_88) n (add64 x12_82 1)
 else
  jn (fun (v : (List (List UInt8))) =>
   let b0_102 := v
   some b0_102) fun k_103 =>
  if (decide (x11_81 < (t0.length : Int))) = true then
   (cut t0 x11_81 (t0.length : Int)).bind fun x103_104 =>
   (idx b0_79 x10_80).bind fun x104_105 =>
   (sto b0_79 x10_80 x103_104).bind fun b0_106 =>
   k_103 b0_106
  else
   k_103 b0_79
noncomputable def zaD.l2 (n : Nat) (t0 : List UInt8) (x41_21 : List (List UInt8)) (rec_31 : Int → Option (List (List UInt8))) (s : Int) : Option (List (List UInt8)) :=
 let x12_30 := s
 grd (!(decide (x12_30 < (t0.length : Int))) || (sidx t0 x12_30).isSome) <|
 grd (!(decide (x12_30 < (t0.length : Int))) || (idx tab0 ((sidx t0 x12_30).getD default)).isSome) <|
 if ((decide (x12_30 < (t0.length : Int))) && (((idx tab0 ((sidx t0 x12_30).getD default)).getD default) != 0)) = true then
  rec_31 (add64 x12_30 1)
 else
  loopF (zaD.l3 n t0) n (x41_21, 0, x12_30, x12_30)
noncomputable def zaD.l1 (n : Nat) (t0 : List UInt8) (rec_17 : (Int × Int × Int × Int) → Option (List (List UInt8))) (s : Int × Int × Int × Int) : Option (List (List UInt8)) :=
 let x3_13 := s.1
 let x4_14 := s.2.1
 let x5_15 := s.2.2.1
 let x6_16 := s.2.2.2
 if (decide (x6_16 < (t0.length : Int))) = true then
  (sidx t0 x6_16).bind fun x21_18 =>
  (idx tab0 x21_18).bind fun x26_19 =>
  rec_17 (add64 x3_13 (band .i64 x4_14 (bnot .i64 (wk .i64 x26_19))), wk .i64 x26_19, bor .u8 x5_15 x21_18, add64 x6_16 1)
 else
  if (decide (128 ≤ x5_15)) = true then
   (strings_FieldsFunc n t0 (fun q0 => unicode_IsSpace n q0)).bind fun x39_20 =>
   some x39_20
  else
   (mkl 16 x3_13 ([] : List UInt8)).bind fun x41_21 =>
   loopF (zaD.l2 n t0 x41_21) n 0
noncomputable def zaD (n : Nat) (t0 : List UInt8) : Option (List (List UInt8)) :=
 loopF (zaD.l1 n t0) n (0, 1, 0, 0)
noncomputable def za6.l1 (n : Nat) (x5_1 : List (List UInt8)) (rec_10 : ((GMap (List UInt8) Bool) × Int) → Option (GMap (List UInt8) Bool)) (s : (GMap (List UInt8) Bool) × Int) : Option (GMap (List UInt8) Bool) :=
 let m0_8 := s.1
 let x7_9 := s.2
 if (decide (x7_9 < (x5_1.length : Int))) = true then
  (idx x5_1 x7_9).bind fun x9_11 =>
  rec_10 ((m0_8.put x9_11 true), add64 x7_9 1)
 else
  some m0_8
noncomputable def za6 (n : Nat) : Option (GMap (List UInt8) Bool) :=
 (zaD n [115, 111, 114, 116, 32, 114, 101, 108, 97, 116, 105, 111, 110, 32, 99, 111, 117, 110, 116, 101, 114, 32, 115, 101, 116, 32, 114, 101, 103, 105, 115, 116, 101, 114, 32, 105, 110, 118, 97, 114, 105, 97, 110, 116, 32, 111, 112, 101, 114, 97, 116, 105, 111, 110, 32, 107, 101, 121, 32, 114, 101, 102, 101, 114, 101, 110, 99, 101, 32, 116, 111, 32, 99, 111, 117, 110, 116, 32, 97, 99, 121, 99, 108, 105, 99, 32, 97, 108, 108, 32, 115, 117, 109, 32, 105, 110, 32, 97, 100, 100, 119, 105, 110, 115, 32, 114, 101, 109, 111, 118, 101, 119, 105, 110, 115, 32, 108, 97, 115, 116, 32, 109, 117, 108, 116, 105, 32, 104, 105, 100, 101, 32, 111, 114, 100, 101, 114, 101, 100, 32, 114, 101, 113, 117, 105, 114, 101, 32, 104, 111, 108, 100, 32, 105, 110, 115, 101, 114, 116, 32, 100, 101, 108, 101, 116, 101, 32, 97, 100, 100, 32, 102, 114, 111, 109, 32, 112, 117, 116, 32, 100, 114, 111, 112, 32, 97, 115, 115, 105, 103, 110, 32, 102, 111, 114, 32, 119, 104, 101, 114, 101, 32, 97, 110, 100, 32, 111, 114, 32, 110, 111, 116]).bind fun x5_1 =>
 loopF (za6.l1 n x5_1) n ((GMap.empty : GMap (List UInt8) Bool), 0)
noncomputable def zbv (n : Nat) (t0 : Int) : Option Bool :=
 some ((((t0 == 32) || (t0 == 9)) || (t0 == 10)) || (t0 == 13))
noncomputable def zbY.l1 (n : Nat) (t0 : List UInt8) (t1 : Int → Option Bool) (rec_10 : Int → Option Int) (s : Int) : Option Int :=
 let x5_9 := s
 grd (!(decide (x5_9 < (t0.length : Int))) || (sidx t0 x5_9).isSome) <|
 grd (!(decide (x5_9 < (t0.length : Int))) || (t1 ((sidx t0 x5_9).getD default)).isSome) <|
 if ((decide (x5_9 < (t0.length : Int))) && ((t1 ((sidx t0 x5_9).getD default)).getD default)) = true then
  rec_10 (add64 x5_9 1)
 else
  some x5_9
noncomputable def zbY (n : Nat) (t0 : List UInt8) (t1 : Int → Option Bool) : Option Int :=
 loopF (zbY.l1 n t0 t1) n 0
noncomputable def lexer_skip_1 (n : Nat) (t0 : Int) : Option Bool :=
 some (t0 != 10)
noncomputable def zcg.l1 (n : Nat) (t0 : List UInt8) (rec_14 : Int → Option Int) (s : Int) : Option Int :=
 let x3_13 := s
 if (decide (x3_13 < (t0.length : Int))) = true then
  (sidx t0 x3_13).bind fun x12_15 =>
  (zbv n x12_15).bind fun x13_16 =>
  if x13_16 = true then
   rec_14 (add64 x3_13 1)
  else
   (sidx t0 x3_13).bind fun x19_17 =>
   if (x19_17 == 35) = true then
    (cut t0 x3_13 (t0.length : Int)).bind fun x24_18 =>
    (zbY n x24_18 (fun q0 => lexer_skip_1 n q0)).bind fun x25_19 =>
    rec_14 (add64 x3_13 x25_19)
   else
    some x3_13
 else
  some x3_13
noncomputable def zcg (n : Nat) (t0 : List UInt8) : Option Int :=
 loopF (zcg.l1 n t0) n 0
noncomputable def zcb (n : Nat) (t0 : Int) : Option Bool :=
 some ((decide (97 ≤ t0)) && (decide (t0 ≤ 122)))
noncomputable def zaS (n : Nat) (t0 : Int) : Option Bool :=
 some ((decide (48 ≤ t0)) && (decide (t0 ≤ 57)))
noncomputable def lexer_part (n : Nat) (t0 : Int) : Option Bool :=
 (zcb n t0).bind fun x4_1 =>
 grd (x4_1 || (zaS n t0).isSome) <|
 some ((x4_1 || ((zaS n t0).getD default)) || (t0 == 95))
noncomputable def zaZ (n : Nat) (t0 : List UInt8) (t1 : List UInt8) : Option Bool :=
 grd (!(decide ((t1.length : Int) ≤ (t0.length : Int))) || (cut t0 0 (t1.length : Int)).isSome) <|
 some ((decide ((t1.length : Int) ≤ (t0.length : Int))) && (decide (((cut t0 0 (t1.length : Int)).getD default) = t1)))
noncomputable def zcj (n : Nat) (t0 : List UInt8) (t1 : List UInt8) : Option Bool :=
 (zaZ n t0 t1).bind fun x7_1 =>
 some x7_1
noncomputable def zaY (n : Nat) (t0 : List UInt8) (t1 : Int) : Option Int :=
 some (Lib.indexByte t0 t1.toNat.toUInt8)
noncomputable def zbE (n : Nat) (t0 : List UInt8) (t1 : Int) : Option Int :=
 (zaY n t0 t1).bind fun x7_1 =>
 some x7_1
noncomputable def zaL.l1 (n : Nat) (t0 : List UInt8) (rec_8 : Int → Option Int) (s : Int) : Option Int :=
 let x7_7 := s
 if (decide (x7_7 < ([[61, 61], [33, 61], [60, 61], [62, 61], [46, 46]].length : Int))) = true then
  (idx [[61, 61], [33, 61], [60, 61], [62, 61], [46, 46]] x7_7).bind fun x9_9 =>
  (zcj n t0 x9_9).bind fun x13_10 =>
  if x13_10 = true then
   some 2
  else
   rec_8 (add64 x7_7 1)
 else
  grd (!(!decide (t0 = [])) || (sidx t0 0).isSome) <|
  grd (!(!decide (t0 = [])) || (zbE n [60, 62, 61, 43, 45, 42, 40, 41, 123, 125, 44, 58, 59] ((sidx t0 0).getD default)).isSome) <|
  if ((!decide (t0 = [])) && (decide (0 ≤ ((zbE n [60, 62, 61, 43, 45, 42, 40, 41, 123, 125, 44, 58, 59] ((sidx t0 0).getD default)).getD default)))) = true then
   some 1
  else
   some 0
noncomputable def zaL (n : Nat) (t0 : List UInt8) : Option Int :=
 loopF (zaL.l1 n t0) n 0
noncomputable def zcB (n : Nat) (t0 : List UInt8) : Option Bool :=
 (sidx t0 0).bind fun x4_1 =>
 (zcb n x4_1).bind fun x5_2 =>
 grd (x5_2 || (sidx t0 0).isSome) <|
 grd (x5_2 || (zaS n ((sidx t0 0).getD default)).isSome) <|
 grd ((x5_2 || ((zaS n ((sidx t0 0).getD default)).getD default)) || (zaL n t0).isSome) <|
 some ((x5_2 || ((zaS n ((sidx t0 0).getD default)).getD default)) || (decide (0 < ((zaL n t0).getD default))))
noncomputable def zag.l2 (n : Nat) (x19_47 : List UInt8) (k_50 : (Int × Int) → Option Token) (rec_79 : Int → Option Token) (s : Int) : Option Token :=
 let x7_78 := s
 grd (!(decide (x7_78 < (x19_47.length : Int))) || (sidx x19_47 x7_78).isSome) <|
 grd (!(decide (x7_78 < (x19_47.length : Int))) || (zbv n ((sidx x19_47 x7_78).getD default)).isSome) <|
 grd (!((decide (x7_78 < (x19_47.length : Int))) && (!((zbv n ((sidx x19_47 x7_78).getD default)).getD default))) || (sidx x19_47 x7_78).isSome) <|
 grd (!(((decide (x7_78 < (x19_47.length : Int))) && (!((zbv n ((sidx x19_47 x7_78).getD default)).getD default))) && (((sidx x19_47 x7_78).getD default) != 35)) || (cut x19_47 x7_78 (x19_47.length : Int)).isSome) <|
 grd (!(((decide (x7_78 < (x19_47.length : Int))) && (!((zbv n ((sidx x19_47 x7_78).getD default)).getD default))) && (((sidx x19_47 x7_78).getD default) != 35)) || (zcB n ((cut x19_47 x7_78 (x19_47.length : Int)).getD default)).isSome) <|
 if ((((decide (x7_78 < (x19_47.length : Int))) && (!((zbv n ((sidx x19_47 x7_78).getD default)).getD default))) && (((sidx x19_47 x7_78).getD default) != 35)) && (!((zcB n ((cut x19_47 x7_78 (x19_47.length : Int)).getD default)).getD default))) = true then
  rec_79 (add64 x7_78 1)
 else
  k_50 (5, x7_78)
noncomputable def zag.l1 (n : Nat) (t1 : List UInt8) (t2 : GMap (List UInt8) Bool) (rec_44 : Unit → Option Token) (s : Unit) : Option Token :=
 (cut t1 0 (t1.length : Int)).bind fun x12_45 =>
 (zcg n x12_45).bind fun x13_46 =>
 (cut t1 (add64 0 x13_46) (t1.length : Int)).bind fun x19_47 =>
 jn (fun (v : Int × Int) =>
  let c0_0_48 := v.1
  let x7_49 := v.2
  some (⟨c0_0_48, 0, add64 0 x13_46, add64 (add64 0 x13_46) x7_49⟩ : Token)) fun k_50 =>
 if (decide (x19_47 = [])) = true then
  k_50 (0, 0)
 else
  (sidx x19_47 0).bind fun x52_51 =>
  (zcb n x52_51).bind fun x53_52 =>
  if x53_52 = true then
   (zbY n x19_47 (fun q0 => lexer_part n q0)).bind fun x55_53 =>
   (cut x19_47 0 x55_53).bind fun x60_54 =>
   if ((t2.get? x60_54).getD false) = true then
    k_50 (2, x55_53)
   else
    k_50 (1, x55_53)
  else
   (sidx x19_47 0).bind fun x65_55 =>
   (zaS n x65_55).bind fun x66_56 =>
   if x66_56 = true then
    (zbY n x19_47 (fun q0 => zaS n q0)).bind fun x68_57 =>
    k_50 (3, x68_57)
   else
    (zaL n x19_47).bind fun x72_58 =>
    if (decide (0 < x72_58)) = true then
     (zaL n x19_47).bind fun x75_59 =>
     k_50 (4, x75_59)
    else
     loopF (zag.l2 n x19_47 k_50) n 1
noncomputable def zag (n : Nat) (t1 : List UInt8) (t2 : GMap (List UInt8) Bool) : Option Token :=
 loopF (zag.l1 n t1 t2) n ()
noncomputable def lexer_Kind (n : Nat) (t0 : List UInt8) : Option Int :=
 if ((decide (t0 = [])) || (decide (4096 < (t0.length : Int)))) = true then some 0
 else
  (za6 n).bind fun kw =>
  (zag n t0 kw).bind fun tok =>
  if (tok.at_ != 0 || tok.end_ != (t0.length : Int)) = true then some 0 else some tok.kind
noncomputable def lexer_Name (n : Nat) (t0 : List UInt8) : Option Bool :=
 grd (!(decide ((t0.length : Int) ≤ 16)) || (lexer_Kind n t0).isSome) <|
 some ((decide ((t0.length : Int) ≤ 16)) && (((lexer_Kind n t0).getD default) == 1))
noncomputable def zbS (n : Nat) (t0 : Int) (t1 : List Int) : Option Bool :=
 some ((decide (t0 < 0)) || (decide ((t1.length : Int) ≤ t0)))
noncomputable def zc3 (n : Nat) (t0 : List Int) (t1 : List Int) : Option Bool :=
 grd (!(decide ((t1.length : Int) ≤ 3)) || (zm n t1 (fun q0 => zbS n q0 t0)).isSome) <|
 some ((decide ((t1.length : Int) ≤ 3)) && (!((zm n t1 (fun q0 => zbS n q0 t0)).getD default)))
noncomputable def cells_ranged (n : Nat) (t0 : Table) : Option Bool :=
 jn (fun (v : Bool) =>
  let x5_1 := v
  if x5_1 = true then
   some (((decide (t0.range.lo ≤ t0.range.hi)) && (decide ((-9999) ≤ t0.range.lo))) && (decide (t0.range.hi ≤ 9999)))
  else
   some (decide ((t0.range : Range) = (⟨0, 1⟩ : Range)))) fun k_2 =>
 if (t0.kind == 1) = true then
  k_2 (t0.kind == 1)
 else
  if (t0.kind == 4) = true then
   k_2 (t0.kind == 4)
  else
   k_2 (t0.kind == 5)
noncomputable def zbt (n : Nat) (t0 : Table) : Option Bool :=
 some ((t0.kind == 0) || (t0.kind == 1))
noncomputable def zaG.l1 (n : Nat) (t0 : List Int) (t1 : List Int) (rec_11 : (Int × Int) → Option Int) (s : Int × Int) : Option Int :=
 let x5_9 := s.1
 let x10_10 := s.2
 if (decide (x10_10 < (t1.length : Int))) = true then
  (idx t1 x10_10).bind fun x12_12 =>
  (idx t0 x12_12).bind fun x17_13 =>
  rec_11 (mul64 x5_9 x17_13, add64 x10_10 1)
 else
  some x5_9
noncomputable def zaG (n : Nat) (t0 : List Int) (t1 : List Int) : Option Int :=
 loopF (zaG.l1 n t0 t1) n (1, 0)
noncomputable def zbd.l1 (n : Nat) (t0 : List Int) (t1 : List Table) (rec_41 : ((GMap (List UInt8) Bool) × Int × Int × Int) → Option Bool) (s : (GMap (List UInt8) Bool) × Int × Int × Int) : Option Bool :=
 let m0_37 := s.1
 let c1_0_38 := s.2.1
 let c2_0_39 := s.2.2.1
 let x25_40 := s.2.2.2
 if (decide (x25_40 < (t1.length : Int))) = true then
  jn (fun (v : (GMap (List UInt8) Bool) × Int × Int) =>
   let m0_42 := v.1
   let c1_0_43 := v.2.1
   let c2_0_44 := v.2.2
   rec_41 (m0_42, c1_0_43, c2_0_44, add64 x25_40 1)) fun k_45 =>
  (idx t1 x25_40).bind fun x27_46 =>
  (lexer_Name n x27_46.name).bind fun x31_47 =>
  (zc6 n x27_46.kind 0 5).bind fun x39_48 =>
  (zc3 n t0 x27_46.columns).bind fun x43_49 =>
  (cells_ranged n x27_46).bind fun x45_50 =>
  (cells_all n [x31_47, !((m0_37.get? x27_46.name).getD false), x39_48, x43_49, x45_50]).bind fun x47_51 =>
  if (!x47_51) = true then
   some false
  else
   (zbt n x27_46).bind fun x53_52 =>
   if x53_52 = true then
    if (x27_46.first != c1_0_38) = true then
     some false
    else
     (zaG n t0 x27_46.columns).bind fun x66_53 =>
     k_45 ((m0_37.put x27_46.name true), add64 c1_0_38 x66_53, c2_0_39)
   else
    if (x27_46.first != c2_0_39) = true then
     some false
    else
     (zaG n t0 x27_46.columns).bind fun x66_54 =>
     k_45 ((m0_37.put x27_46.name true), c1_0_38, add64 c2_0_39 x66_54)
 else
  some ((decide (c1_0_38 ≤ 128)) && (decide (c2_0_39 ≤ 64)))
noncomputable def zbd (n : Nat) (t0 : List Int) (t1 : List Table) : Option Bool :=
 (cells_sized n t0).bind fun x18_1 =>
 (cells_all n [decide ((t0.length : Int) ≤ 4), decide ((t1.length : Int) ≤ 12), x18_1]).bind fun x20_2 =>
 if (!x20_2) = true then
  some false
 else
  loopF (zbd.l1 n t0 t1) n ((GMap.empty : GMap (List UInt8) Bool), 0, 0, 0)
noncomputable def zX.l1 (n : Nat) (t0 : List (List UInt8)) (rec_13 : ((GMap (List UInt8) Bool) × Int) → Option Bool) (s : (GMap (List UInt8) Bool) × Int) : Option Bool :=
 let m0_11 := s.1
 let x9_12 := s.2
 if (decide (x9_12 < (t0.length : Int))) = true then
  (idx t0 x9_12).bind fun x11_14 =>
  (lexer_Name n x11_14).bind fun x14_15 =>
  if ((!x14_15) || ((m0_11.get? x11_14).getD false)) = true then
   some false
  else
   rec_13 ((m0_11.put x11_14 true), add64 x9_12 1)
 else
  some true
noncomputable def zX (n : Nat) (t0 : List (List UInt8)) : Option Bool :=
 loopF (zX.l1 n t0) n ((GMap.empty : GMap (List UInt8) Bool), 0)
noncomputable def math_bits_Mul64 (n : Nat) (t0 : Int) (t1 : Int) : Option (Int × Int) :=
 (shrO .u64 t0 32).bind fun x17_1 =>
 (shrO .u64 t1 32).bind fun x21_2 =>
 (shrO .u64 (wk .u64 ((band .u64 t0 4294967295) * (band .u64 t1 4294967295))) 32).bind fun x29_3 =>
 (shrO .u64 (wk .u64 ((wk .u64 (x17_1 * (band .u64 t1 4294967295))) + x29_3)) 32).bind fun x34_4 =>
 (shrO .u64 (wk .u64 ((band .u64 (wk .u64 ((wk .u64 (x17_1 * (band .u64 t1 4294967295))) + x29_3)) 4294967295) + (wk .u64 ((band .u64 t0 4294967295) * x21_2)))) 32).bind fun x46_5 =>
 some (wk .u64 ((wk .u64 ((wk .u64 (x17_1 * x21_2)) + x34_4)) + x46_5), wk .u64 (t0 * t1))
noncomputable def math_bits_Mul (n : Nat) (t0 : Int) (t1 : Int) : Option (Int × Int) :=
 (math_bits_Mul64 n t0 t1).bind fun x25_1 =>
 some (x25_1.1, x25_1.2)
noncomputable def zB.l1 (n : Nat) (rec_14 : ((List Range) × Int) → Option (List Range)) (s : (List Range) × Int) : Option (List Range) :=
 let b0_12 := s.1
 let x8_13 := s.2
 if (decide (x8_13 < (b0_12.length : Int))) = true then
  (cut b0_12 x8_13 (b0_12.length : Int)).bind fun x41_15 =>
  (cut b0_12 0 x8_13).bind fun x44_16 =>
  rec_14 ((zcl b0_12 x8_13.toNat b0_12.length ((b0_12.drop 0).take (x8_13.toNat - 0))), add64 x8_13 (min (b0_12.length - x8_13.toNat) ((b0_12.drop 0).take (x8_13.toNat - 0)).length : Nat))
 else
  some b0_12
noncomputable def zB (n : Nat) (t0 : List Range) (t1 : Int) : Option (List Range) :=
 if (decide (t1 < 0)) = true then
  none
 else
  (math_bits_Mul n (wk .u64 (t0.length : Int)) (wk .u64 t1)).bind fun x18_1 =>
  if ((decide (0 < x18_1.1)) || (decide (9223372036854775807 < x18_1.2))) = true then
   none
  else
   (mkl 16 (wk .i64 x18_1.2) (⟨0, 0⟩ : Range)).bind fun x30_3 =>
   loopF (zB.l1 n) n ((zcl x30_3 0 x30_3.length t0), (min (x30_3.length - 0) t0.length : Nat))
noncomputable def za4.l1 (n : Nat) (t0 : List Int) (t1 : List Table) (t2 : Bool) (rec_22 : ((List Range) × Int) → Option (List Range)) (s : (List Range) × Int) : Option (List Range) :=
 let b0_20 := s.1
 let x16_21 := s.2
 if (decide (x16_21 < (t1.length : Int))) = true then
  jn (fun (v : (List Range)) =>
   let b0_23 := v
   rec_22 (b0_23, add64 x16_21 1)) fun k_24 =>
  (idx t1 x16_21).bind fun x18_25 =>
  (zbt n x18_25).bind fun x21_26 =>
  if (x21_26 == t2) = true then
   (zaG n t0 x18_25.columns).bind fun x31_27 =>
   (zB n [x18_25.range] x31_27).bind fun x32_28 =>
   (app 16 b0_20 x32_28).bind fun x33_29 =>
   k_24 x33_29
  else
   k_24 b0_20
 else
  some b0_20
noncomputable def za4 (n : Nat) (t0 : List Int) (t1 : List Table) (t2 : Bool) : Option (List Range) :=
 (zbd n t0 t1).bind fun x12_1 =>
 if (!x12_1) = true then
  some []
 else
  loopF (za4.l1 n t0 t1 t2) n (([] : List Range), 0)
noncomputable def zW (n : Nat) (t0 : Int) (t1 : Int) : Option Bool :=
 some ((decide (0 ≤ t0)) && (decide (t0 < t1)))
noncomputable def zah (n : Nat) (t0 : Int) (t1 : Int) : Option Bool :=
 some ((decide (neg64 t1 ≤ t0)) && (decide (t0 ≤ t1)))
noncomputable def zae.l1 (n : Nat) (t0 : Judge) (t1 : Row) (rec_17 : (Int × Int) → Option Bool) (s : Int × Int) : Option Bool :=
 let x5_15 := s.1
 let x11_16 := s.2
 if (decide (x11_16 < (t1.terms.length : Int))) = true then
  (idx t1.terms x11_16).bind fun x13_18 =>
  grd ((((decide (x13_18.cell ≤ x5_15)) || (decide ((t0.strict.length : Int) ≤ x13_18.cell))) || (x13_18.factor == 0)) || (zah n x13_18.factor 1000).isSome) <|
  if ((((decide (x13_18.cell ≤ x5_15)) || (decide ((t0.strict.length : Int) ≤ x13_18.cell))) || (x13_18.factor == 0)) || (!((zah n x13_18.factor 1000).getD default))) = true then
   some false
  else
   rec_17 (x13_18.cell, add64 x11_16 1)
 else
  (zah n t1.bound 1000000000).bind fun x43_23 =>
  some x43_23
noncomputable def zae (n : Nat) (t0 : Judge) (t1 : Row) : Option Bool :=
 loopF (zae.l1 n t0 t1) n ((-1), 0)
noncomputable def zaO (n : Nat) (t0 : Table) (t1 : Constraint) (t2 : Judge) : Option Bool :=
 grd (!((t0.kind == 0) && ((t0.columns.length : Int) == 2)) || (idx t0.columns 0).isSome) <|
 grd (!((t0.kind == 0) && ((t0.columns.length : Int) == 2)) || (idx t0.columns 1).isSome) <|
 grd (!((((t0.kind == 0) && ((t0.columns.length : Int) == 2)) && (((idx t0.columns 0).getD default) == ((idx t0.columns 1).getD default))) && (t0.first == t1.first)) || (idx t0.columns 0).isSome) <|
 grd (!((((t0.kind == 0) && ((t0.columns.length : Int) == 2)) && (((idx t0.columns 0).getD default) == ((idx t0.columns 1).getD default))) && (t0.first == t1.first)) || (idx t2.model.sorts ((idx t0.columns 0).getD default)).isSome) <|
 some (((((t0.kind == 0) && ((t0.columns.length : Int) == 2)) && (((idx t0.columns 0).getD default) == ((idx t0.columns 1).getD default))) && (t0.first == t1.first)) && (((idx t2.model.sorts ((idx t0.columns 0).getD default)).getD default) == t1.size))
noncomputable def zn.l1 (n : Nat) (t0 : List Table) (t1 : Table → Option Bool) (rec_8 : Int → Option Int) (s : Int) : Option Int :=
 let x8_7 := s
 if (decide (x8_7 < (t0.length : Int))) = true then
  (idx t0 x8_7).bind fun x14_9 =>
  (t1 x14_9).bind fun x16_10 =>
  if x16_10 = true then
   some x8_7
  else
   rec_8 (add64 x8_7 1)
 else
  some (-1)
noncomputable def zn (n : Nat) (t0 : List Table) (t1 : Table → Option Bool) : Option Int :=
 loopF (zn.l1 n t0 t1) n 0
noncomputable def zE (n : Nat) (t0 : List Table) (t1 : Table → Option Bool) : Option Bool :=
 (zn n t0 t1).bind fun x7_1 =>
 some (decide (0 ≤ x7_1))
noncomputable def za7 (n : Nat) (t0 : Judge) (t1 : Constraint) : Option Bool :=
 grd (!(((t1.row.terms.length : Int) == 0) && (t1.row.bound == 0)) || (zE n t0.model.tables (fun q0 => zaO n q0 t1 t0)).isSome) <|
 some ((((t1.row.terms.length : Int) == 0) && (t1.row.bound == 0)) && ((zE n t0.model.tables (fun q0 => zaO n q0 t1 t0)).getD default))
noncomputable def zD.l1 (n : Nat) (t0 : List Term) (t1 : List Term) (rec_8 : Int → Option Bool) (s : Int) : Option Bool :=
 let x13_7 := s
 if (decide (x13_7 < (t0.length : Int))) = true then
  (idx t0 x13_7).bind fun x18_9 =>
  (idx t1 x13_7).bind fun x22_10 =>
  if (!decide ((x18_9 : Term) = x22_10)) = true then
   some false
  else
   rec_8 (add64 x13_7 1)
 else
  some true
noncomputable def zD (n : Nat) (t0 : List Term) (t1 : List Term) : Option Bool :=
 if ((t0.length : Int) != (t1.length : Int)) = true then
  some false
 else
  loopF (zD.l1 n t0 t1) n 0
noncomputable def zcA (n : Nat) (t0 : Row) (t1 : Int) (t2 : Int) (t3 : Int) : Option Bool :=
 (zD n t0.terms [(⟨t1, t2⟩ : Term)]).bind fun x15_1 =>
 some (x15_1 && (t0.bound == t3))
noncomputable def zO.l1 (n : Nat) (t0 : Judge) (rec_43 : Int → Option Bool) (s : Int) : Option Bool :=
 let x28_42 := s
 if (decide (x28_42 < (t0.model.constraints.length : Int))) = true then
  jn (fun (v : Unit) =>
   rec_43 (add64 x28_42 1)) fun k_44 =>
  (idx t0.model.constraints x28_42).bind fun x31_45 =>
  jn (fun (v : Unit) =>
   (quo64 x28_42 2).bind fun x72_53 =>
   if (decide (x72_53 < (t0.strict.length : Int))) = true then
    (quo64 x28_42 2).bind fun x80_54 =>
    (idx t0.strict x80_54).bind fun x81_55 =>
    jn (fun (v : Int × Int) =>
     let x6_56 := v.1
     let x7_57 := v.2
     grd ((x31_45.kind != 0) || (quo64 x28_42 2).isSome) <|
     grd ((x31_45.kind != 0) || (zcA n x31_45.row ((quo64 x28_42 2).getD default) x6_56 x7_57).isSome) <|
     if ((x31_45.kind != 0) || (!((zcA n x31_45.row ((quo64 x28_42 2).getD default) x6_56 x7_57).getD default))) = true then
      some false
     else
      k_44 ()) fun k_58 =>
    (rem64 x28_42 2).bind fun x86_59 =>
    if (x86_59 == 0) = true then
     k_58 ((-1), neg64 x81_55.lo)
    else
     k_58 (1, x81_55.hi)
   else
    k_44 ()) fun k_46 =>
  (zW n x31_45.family (t0.model.families.length : Int)).bind fun x40_47 =>
  if (!x40_47) = true then
   some false
  else
   if (x31_45.kind == 0) = true then
    grd (((x31_45.first != 0) || (x31_45.size != 0)) || (zae n t0 x31_45.row).isSome) <|
    if (((x31_45.first != 0) || (x31_45.size != 0)) || (!((zae n t0 x31_45.row).getD default))) = true then
     some false
    else
     k_46 ()
   else
    grd ((x31_45.kind != 1) || (za7 n t0 x31_45).isSome) <|
    if ((x31_45.kind != 1) || (!((za7 n t0 x31_45).getD default))) = true then
     some false
    else
     k_46 ()
 else
  some true
noncomputable def zO (n : Nat) (t0 : Judge) : Option Bool :=
 if ((decide (512 < (t0.model.constraints.length : Int))) || (decide ((t0.model.constraints.length : Int) < mul64 2 (t0.strict.length : Int)))) = true then
  some false
 else
  loopF (zO.l1 n t0) n 0
noncomputable def zaB (n : Nat) (t0 : Int) (t1 : Judge) : Option Bool :=
 some ((decide (t0 < (-1))) || (decide ((t1.model.sorts.length : Int) ≤ t0)))
noncomputable def zu.l1 (n : Nat) (t0 : Judge) (rec_15 : ((List (List UInt8)) × Int) → Option Bool) (s : (List (List UInt8)) × Int) : Option Bool :=
 let b0_13 := s.1
 let x10_14 := s.2
 if (decide (x10_14 < (t0.model.operations.length : Int))) = true then
  (idx t0.model.operations x10_14).bind fun x12_16 =>
  (app 16 b0_13 [x12_16.name]).bind fun x18_17 =>
  grd ((decide (3 < (x12_16.sorts.length : Int))) || (zm n x12_16.sorts (fun q0 => zaB n q0 t0)).isSome) <|
  if ((decide (3 < (x12_16.sorts.length : Int))) || ((zm n x12_16.sorts (fun q0 => zaB n q0 t0)).getD default)) = true then
   some false
  else
   rec_15 (x18_17, add64 x10_14 1)
 else
  grd (!(decide ((b0_13.length : Int) ≤ 8)) || (zX n b0_13).isSome) <|
  some ((decide ((b0_13.length : Int) ≤ 8)) && ((zX n b0_13).getD default))
noncomputable def zu (n : Nat) (t0 : Judge) : Option Bool :=
 loopF (zu.l1 n t0) n (([] : List (List UInt8)), 0)
noncomputable def zcP (n : Nat) (t0 : Int) : Option Bool :=
 some (t0 != t0)
noncomputable def zbH (n : Nat) (t0 : Int) (t1 : Int) : Option Int :=
 (zcP n t0).bind fun x8_1 =>
 (zcP n t1).bind fun x10_2 =>
 if x8_1 = true then
  if x10_2 = true then
   some 0
  else
   some (-1)
 else
  if x10_2 = true then
   some 1
  else
   if (decide (t0 < t1)) = true then
    some (-1)
   else
    if (decide (t1 < t0)) = true then
     some 1
    else
     some 0
noncomputable def zf.l1 (n : Nat) (t0 : List Int) (t1 : List Int) (rec_10 : Int → Option Int) (s : Int) : Option Int :=
 let x11_9 := s
 if (decide (x11_9 < (t0.length : Int))) = true then
  (idx t0 x11_9).bind fun x14_11 =>
  if (decide ((t1.length : Int) ≤ x11_9)) = true then
   some 1
  else
   (idx t1 x11_9).bind fun x22_12 =>
   (zbH n x14_11 x22_12).bind fun x26_13 =>
   if (x26_13 != 0) = true then
    some x26_13
   else
    rec_10 (add64 x11_9 1)
 else
  if (decide ((t0.length : Int) < (t1.length : Int))) = true then
   some (-1)
  else
   some 0
noncomputable def zf (n : Nat) (t0 : List Int) (t1 : List Int) : Option Int :=
 loopF (zf.l1 n t0 t1) n 0
noncomputable def zaE.l2 (n : Nat) (t0 : List Int) (x27_73 : Int) (x30_75 : Table) (rec_102 : ((List Int) × Int × Int) → Option (Int × (List Int) × Bool)) (s : (List Int) × Int × Int) : Option (Int × (List Int) × Bool) :=
 let b1_99 := s.1
 let x13_100 := s.2.1
 let x15_101 := s.2.2
 if (decide (0 ≤ x15_101)) = true then
  (idx x30_75.columns x15_101).bind fun x67_103 =>
  (idx t0 x67_103).bind fun x69_104 =>
  (rem64 x13_100 x69_104).bind fun x75_105 =>
  (quo64 x13_100 x69_104).bind fun x78_106 =>
  (idx b1_99 x15_101).bind fun x79_107 =>
  (sto b1_99 x15_101 x75_105).bind fun b1_108 =>
  rec_102 (b1_108, x78_106, sub64 x15_101 1)
 else
  some (x27_73, b1_99, true)
noncomputable def zaE.l1 (n : Nat) (t0 : List Int) (t1 : List Table) (t2 : Bool) (t3 : Int) (rec_74 : Int → Option (Int × (List Int) × Bool)) (s : Int) : Option (Int × (List Int) × Bool) :=
 let x27_73 := s
 if (decide (x27_73 < (t1.length : Int))) = true then
  (idx t1 x27_73).bind fun x30_75 =>
  (zbt n x30_75).bind fun x37_76 =>
  grd (((x37_76 != t2) || (decide (sub64 t3 x30_75.first < 0))) || (zaG n t0 x30_75.columns).isSome) <|
  if (((x37_76 != t2) || (decide (sub64 t3 x30_75.first < 0))) || (decide (((zaG n t0 x30_75.columns).getD default) ≤ sub64 t3 x30_75.first))) = true then
   rec_74 (add64 x27_73 1)
  else
   (mkl 8 (x30_75.columns.length : Int) (0 : Int)).bind fun x55_80 =>
   loopF (zaE.l2 n t0 x27_73 x30_75) n (x55_80, sub64 t3 x30_75.first, sub64 (x55_80.length : Int) 1)
 else
  some (0, [], false)
noncomputable def zaE (n : Nat) (t0 : List Int) (t1 : List Table) (t2 : Bool) (t3 : Int) : Option (Int × (List Int) × Bool) :=
 (zbd n t0 t1).bind fun x19_1 =>
 if ((!x19_1) || (decide (t3 < 0))) = true then
  some (0, [], false)
 else
  loopF (zaE.l1 n t0 t1 t2 t3) n 0
noncomputable def za1 (n : Nat) (t0 : Judge) (t1 : Update) : Option Bool :=
 (zaE n t0.model.sorts t0.model.tables false t1.cell).bind fun x18_1 =>
 if (!x18_1.2.2) = true then
  some false
 else
  (idx t0.model.tables x18_1.1).bind fun x28_2 =>
  jn (fun (v : Bool) =>
   let x51_3 := v
   if x51_3 = true then
    some (((t1.kind == 0) || (t1.kind == 1)) && (t1.value == 0))
   else
    some (((t1.kind == 2) && (decide (x28_2.range.lo ≤ t1.value))) && (decide (t1.value ≤ x28_2.range.hi)))) fun k_4 =>
  if (x28_2.kind == 2) = true then
   k_4 (x28_2.kind == 2)
  else
   k_4 (x28_2.kind == 3)
noncomputable def zaI (n : Nat) (t0 : Row) (t1 : Judge) : Option Bool :=
 (zae n t1 t0).bind fun x6_1 =>
 some (!x6_1)
noncomputable def zy.l1 (n : Nat) (t0 : List Row) (t1 : Row → Option Bool) (rec_8 : Int → Option Int) (s : Int) : Option Int :=
 let x8_7 := s
 if (decide (x8_7 < (t0.length : Int))) = true then
  (idx t0 x8_7).bind fun x14_9 =>
  (t1 x14_9).bind fun x16_10 =>
  if x16_10 = true then
   some x8_7
  else
   rec_8 (add64 x8_7 1)
 else
  some (-1)
noncomputable def zy (n : Nat) (t0 : List Row) (t1 : Row → Option Bool) : Option Int :=
 loopF (zy.l1 n t0 t1) n 0
noncomputable def zh (n : Nat) (t0 : List Row) (t1 : Row → Option Bool) : Option Bool :=
 (zy n t0 t1).bind fun x7_1 =>
 some (decide (0 ≤ x7_1))
noncomputable def zC.l2 (n : Nat) (t0 : Judge) (t1 : Effect) (rec_35 : (Int × Int) → Option Bool) (s : Int × Int) : Option Bool :=
 let x5_33 := s.1
 let x46_34 := s.2
 if (decide (x46_34 < (t1.updates.length : Int))) = true then
  (idx t1.updates x46_34).bind fun x48_36 =>
  grd ((decide (x48_36.cell ≤ x5_33)) || (za1 n t0 x48_36).isSome) <|
  if ((decide (x48_36.cell ≤ x5_33)) || (!((za1 n t0 x48_36).getD default))) = true then
   some false
  else
   rec_35 (x48_36.cell, add64 x46_34 1)
 else
  grd (!((decide ((t1.hold.length : Int) ≤ 8)) && (decide ((t1.updates.length : Int) ≤ 32))) || (zh n t1.hold (fun q0 => zaI n q0 t0)).isSome) <|
  some (((decide ((t1.hold.length : Int) ≤ 8)) && (decide ((t1.updates.length : Int) ≤ 32))) && (!((zh n t1.hold (fun q0 => zaI n q0 t0)).getD default)))
noncomputable def zC.l1 (n : Nat) (t0 : Judge) (t1 : Effect) (rec_17 : (Int × Int) → Option Bool) (s : Int × Int) : Option Bool :=
 let x5_15 := s.1
 let x13_16 := s.2
 if (decide (x13_16 < (t1.delta.length : Int))) = true then
  (idx t1.delta x13_16).bind fun x15_18 =>
  grd ((((decide (x15_18.cell ≤ x5_15)) || (decide ((t0.strict.length : Int) ≤ x15_18.cell))) || (x15_18.add == 0)) || (zah n x15_18.add 1000000000).isSome) <|
  if ((((decide (x15_18.cell ≤ x5_15)) || (decide ((t0.strict.length : Int) ≤ x15_18.cell))) || (x15_18.add == 0)) || (!((zah n x15_18.add 1000000000).getD default))) = true then
   some false
  else
   rec_17 (x15_18.cell, add64 x13_16 1)
 else
  loopF (zC.l2 n t0 t1) n ((-1), 0)
noncomputable def zC (n : Nat) (t0 : Judge) (t1 : Effect) : Option Bool :=
 loopF (zC.l1 n t0 t1) n ((-1), 0)
noncomputable def zp.l2 (n : Nat) (t0 : Judge) (x18_81 : Int) (rec_82 : Int → Option Bool) (x21_83 : Action) (x51_87 : Operation) (rec_107 : Int → Option Bool) (s : Int) : Option Bool :=
 let x55_106 := s
 if (decide (x55_106 < (x51_87.sorts.length : Int))) = true then
  (idx x51_87.sorts x55_106).bind fun x58_108 =>
  (idx x21_83.arguments x55_106).bind fun x63_109 =>
  grd (!(decide (x58_108 < 0)) || (zah n x63_109 9999).isSome) <|
  grd (((decide (x58_108 < 0)) && (!((zah n x63_109 9999).getD default))) || (!(decide (0 ≤ x58_108)) || (idx t0.model.sorts x58_108).isSome)) <|
  grd (((decide (x58_108 < 0)) && (!((zah n x63_109 9999).getD default))) || (!(decide (0 ≤ x58_108)) || (zW n x63_109 ((idx t0.model.sorts x58_108).getD default)).isSome)) <|
  if (((decide (x58_108 < 0)) && (!((zah n x63_109 9999).getD default))) || ((decide (0 ≤ x58_108)) && (!((zW n x63_109 ((idx t0.model.sorts x58_108).getD default)).getD default)))) = true then
   some false
  else
   rec_107 (add64 x55_106 1)
 else
  jn (fun (v : Unit) =>
   (zC n t0 x21_83.effect).bind fun x120_121 =>
   if (!x120_121) = true then
    some false
   else
    rec_82 (add64 x18_81 1)) fun k_116 =>
  if (decide (0 < x18_81)) = true then
   (idx t0.model.actions (sub64 x18_81 1)).bind fun x95_117 =>
   grd ((decide (x21_83.operation < x95_117.operation)) || (!(x95_117.operation == x21_83.operation) || (zf n x95_117.arguments x21_83.arguments).isSome)) <|
   if ((decide (x21_83.operation < x95_117.operation)) || ((x95_117.operation == x21_83.operation) && (decide (0 ≤ ((zf n x95_117.arguments x21_83.arguments).getD default))))) = true then
    some false
   else
    k_116 ()
  else
   k_116 ()
noncomputable def zp.l1 (n : Nat) (t0 : Judge) (rec_82 : Int → Option Bool) (s : Int) : Option Bool :=
 let x18_81 := s
 if (decide (x18_81 < (t0.model.actions.length : Int))) = true then
  (idx t0.model.actions x18_81).bind fun x21_83 =>
  (zW n x21_83.operation (t0.model.operations.length : Int)).bind fun x29_84 =>
  grd ((!x29_84) || (idx t0.model.operations x21_83.operation).isSome) <|
  if ((!x29_84) || ((x21_83.arguments.length : Int) != ((((idx t0.model.operations x21_83.operation).getD default).sorts).length : Int))) = true then
   some false
  else
   (idx t0.model.operations x21_83.operation).bind fun x51_87 =>
   loopF (zp.l2 n t0 x18_81 rec_82 x21_83 x51_87) n 0
 else
  some true
noncomputable def zp (n : Nat) (t0 : Judge) : Option Bool :=
 if (decide (256 < (t0.model.actions.length : Int))) = true then
  some false
 else
  loopF (zp.l1 n t0) n 0
noncomputable def zcm (n : Nat) (t0 : Hide) (t1 : Int) (t2 : GMap Int Bool) : Option Bool :=
 some ((t0.table == t1) && ((t2.get? t0.to).getD false))
noncomputable def zq.l1 (n : Nat) (t0 : List Hide) (t1 : Hide → Option Bool) (rec_8 : Int → Option Int) (s : Int) : Option Int :=
 let x8_7 := s
 if (decide (x8_7 < (t0.length : Int))) = true then
  (idx t0 x8_7).bind fun x14_9 =>
  (t1 x14_9).bind fun x16_10 =>
  if x16_10 = true then
   some x8_7
  else
   rec_8 (add64 x8_7 1)
 else
  some (-1)
noncomputable def zq (n : Nat) (t0 : List Hide) (t1 : Hide → Option Bool) : Option Int :=
 loopF (zq.l1 n t0 t1) n 0
noncomputable def zaf (n : Nat) (t0 : List Hide) (t1 : Hide → Option Bool) : Option Bool :=
 (zq n t0 t1).bind fun x7_1 =>
 some (decide (0 ≤ x7_1))
noncomputable def zb.l4 (n : Nat) (t0 : Judge) (m0_139 : GMap Int Bool) (x117_140 : Int) (rec_141 : ((GMap Int Bool) × Int) → Option Bool) (rec_174 : ((GMap Int Bool) × (List Nat) × Nat) → Option Bool) (s : (GMap Int Bool) × (List Nat) × Nat) : Option Bool :=
 let m0_171 := s.1
 let m2_172 := s.2.1
 let m2_173 := s.2.2
 stepM m0_171 m2_172 m0_139.clock m2_173 (
  rec_141 (m0_171, add64 x117_140 1)) fun en_175 =>
 grd (decide (m0_171.es.map (·.1)).Nodup) <|
 (zaf n t0.model.hides (fun q0 => zcm n q0 en_175.2.1 m0_171)).bind fun x129_180 =>
 if (!x129_180) = true then
  rec_174 ((m0_171.del en_175.2.1), m2_172 ++ [en_175.1], m0_171.clock)
 else
  rec_174 (m0_171, m2_172 ++ [en_175.1], m0_171.clock)
noncomputable def zb.l3 (n : Nat) (t0 : Judge) (rec_141 : ((GMap Int Bool) × Int) → Option Bool) (s : (GMap Int Bool) × Int) : Option Bool :=
 let m0_139 := s.1
 let x117_140 := s.2
 if (decide (x117_140 < (t0.model.hides.length : Int))) = true then
  loopF (zb.l4 n t0 m0_139 x117_140 rec_141) n (m0_139, ([] : List Nat), m0_139.clock)
 else
  some ((m0_139.es.length : Int) == 0)
noncomputable def zb.l2 (n : Nat) (t0 : Judge) (rec_55 : ((GMap Int Bool) × Int) → Option Bool) (s : (GMap Int Bool) × Int) : Option Bool :=
 let m0_53 := s.1
 let x105_54 := s.2
 if (decide (x105_54 < (t0.model.hides.length : Int))) = true then
  (idx t0.model.hides x105_54).bind fun x107_56 =>
  rec_55 ((m0_53.put x107_56.table true), add64 x105_54 1)
 else
  loopF (zb.l3 n t0) n (m0_53, 0)
noncomputable def zb.l1 (n : Nat) (t0 : Judge) (rec_32 : Int → Option Bool) (s : Int) : Option Bool :=
 let x20_31 := s
 if (decide (x20_31 < (t0.model.hides.length : Int))) = true then
  (idx t0.model.hides x20_31).bind fun x22_33 =>
  (zW n x22_33.table (t0.model.tables.length : Int)).bind fun x30_34 =>
  grd ((!x30_34) || (zW n x22_33.to (t0.model.tables.length : Int)).isSome) <|
  if (((!x30_34) || (!((zW n x22_33.to (t0.model.tables.length : Int)).getD default))) || (x22_33.table == x22_33.to)) = true then
   some false
  else
   (idx t0.model.tables x22_33.table).bind fun x54_38 =>
   (idx t0.model.tables x22_33.to).bind fun x61_39 =>
   grd (((x54_38.kind != 0) || (x61_39.kind != 0)) || (zW n x22_33.column (x54_38.columns.length : Int)).isSome) <|
   grd (((((x54_38.kind != 0) || (x61_39.kind != 0)) || (!((zW n x22_33.column (x54_38.columns.length : Int)).getD default))) || ((x61_39.columns.length : Int) != 1)) || (idx x61_39.columns 0).isSome) <|
   grd (((((x54_38.kind != 0) || (x61_39.kind != 0)) || (!((zW n x22_33.column (x54_38.columns.length : Int)).getD default))) || ((x61_39.columns.length : Int) != 1)) || (idx x54_38.columns x22_33.column).isSome) <|
   if (((((x54_38.kind != 0) || (x61_39.kind != 0)) || (!((zW n x22_33.column (x54_38.columns.length : Int)).getD default))) || ((x61_39.columns.length : Int) != 1)) || (((idx x61_39.columns 0).getD default) != ((idx x54_38.columns x22_33.column).getD default))) = true then
    some false
   else
    rec_32 (add64 x20_31 1)
 else
  loopF (zb.l2 n t0) n ((GMap.empty : GMap Int Bool), 0)
noncomputable def zb (n : Nat) (t0 : Judge) : Option Bool :=
 if (decide (12 < (t0.model.hides.length : Int))) = true then
  some false
 else
  loopF (zb.l1 n t0) n 0
noncomputable def zcy (n : Nat) (t0 : Model) : Option Bool :=
 (zbd n t0.sorts t0.tables).bind fun x8_1 =>
 grd (((!x8_1) || (decide (24 < (t0.families.length : Int)))) || (zX n t0.families).isSome) <|
 if (((!x8_1) || (decide (24 < (t0.families.length : Int)))) || (!((zX n t0.families).getD default))) = true then
  some false
 else
  (za4 n t0.sorts t0.tables true).bind fun x27_5 =>
  (zO n (⟨t0, x27_5⟩ : Judge)).bind fun x30_6 =>
  grd (!x30_6 || (zu n (⟨t0, x27_5⟩ : Judge)).isSome) <|
  grd (!(x30_6 && ((zu n (⟨t0, x27_5⟩ : Judge)).getD default)) || (zp n (⟨t0, x27_5⟩ : Judge)).isSome) <|
  grd (!((x30_6 && ((zu n (⟨t0, x27_5⟩ : Judge)).getD default)) && ((zp n (⟨t0, x27_5⟩ : Judge)).getD default)) || (zb n (⟨t0, x27_5⟩ : Judge)).isSome) <|
  some (((x30_6 && ((zu n (⟨t0, x27_5⟩ : Judge)).getD default)) && ((zp n (⟨t0, x27_5⟩ : Judge)).getD default)) && ((zb n (⟨t0, x27_5⟩ : Judge)).getD default))
noncomputable def zg.l5 (n : Nat) (x25_454 : Int) (rec_455 : ((List Place) × (List Place) × Int) → Option ((Option Layout) × Bool)) (x28_456 : Table) (x7_585 : List (List Int)) (rec_671 : ((List Place) × (List Place) × Int) → Option ((Option Layout) × Bool)) (s : (List Place) × (List Place) × Int) : Option ((Option Layout) × Bool) :=
 let b1_668 := s.1
 let b2_669 := s.2.1
 let x66_670 := s.2.2
 if (decide (x66_670 < (x7_585.length : Int))) = true then
  jn (fun (v : (List Place) × (List Place)) =>
   let b1_672 := v.1
   let b2_673 := v.2
   rec_671 (b1_672, b2_673, add64 x66_670 1)) fun k_674 =>
  (idx x7_585 x66_670).bind fun x68_675 =>
  if (decide (x28_456.kind ≤ 1)) = true then
   (app 32 b1_668 [(⟨x25_454, x68_675⟩ : Place)]).bind fun x82_676 =>
   k_674 (x82_676, b2_669)
  else
   (app 32 b2_669 [(⟨x25_454, x68_675⟩ : Place)]).bind fun x94_677 =>
   k_674 (b1_668, x94_677)
 else
  rec_455 (b1_668, b2_669, add64 x25_454 1)
noncomputable def zg.l4 (n : Nat) (x40_630 : Int) (rec_631 : ((List (List Int)) × Int) → Option ((Option Layout) × Bool)) (x42_632 : List Int) (x47_633 : Int) (rec_646 : ((List (List Int)) × Int) → Option ((Option Layout) × Bool)) (s : (List (List Int)) × Int) : Option ((Option Layout) × Bool) :=
 let b4_644 := s.1
 let x49_645 := s.2
 if (decide (x49_645 < x47_633)) = true then
  (app 8 [] x42_632).bind fun x54_647 =>
  (app 8 x54_647 [x49_645]).bind fun x57_648 =>
  (app 24 b4_644 [x57_648]).bind fun x59_649 =>
  rec_646 (x59_649, add64 x49_645 1)
 else
  rec_631 (b4_644, add64 x40_630 1)
noncomputable def zg.l3 (n : Nat) (t0 : Model) (x7_585 : List (List Int)) (x34_586 : Int) (rec_587 : ((List (List Int)) × Int) → Option ((Option Layout) × Bool)) (x36_588 : Int) (rec_631 : ((List (List Int)) × Int) → Option ((Option Layout) × Bool)) (s : (List (List Int)) × Int) : Option ((Option Layout) × Bool) :=
 let b4_629 := s.1
 let x40_630 := s.2
 if (decide (x40_630 < (x7_585.length : Int))) = true then
  (idx x7_585 x40_630).bind fun x42_632 =>
  (idx t0.sorts x36_588).bind fun x47_633 =>
  loopF (zg.l4 n x40_630 rec_631 x42_632 x47_633) n (b4_629, 0)
 else
  rec_587 (b4_629, add64 x34_586 1)
noncomputable def zg.l2 (n : Nat) (t0 : Model) (b1_452 : List Place) (b2_453 : List Place) (x25_454 : Int) (rec_455 : ((List Place) × (List Place) × Int) → Option ((Option Layout) × Bool)) (x28_456 : Table) (rec_587 : ((List (List Int)) × Int) → Option ((Option Layout) × Bool)) (s : (List (List Int)) × Int) : Option ((Option Layout) × Bool) :=
 let x7_585 := s.1
 let x34_586 := s.2
 if (decide (x34_586 < (x28_456.columns.length : Int))) = true then
  (idx x28_456.columns x34_586).bind fun x36_588 =>
  loopF (zg.l3 n t0 x7_585 x34_586 rec_587 x36_588) n (([] : List (List Int)), 0)
 else
  loopF (zg.l5 n x25_454 rec_455 x28_456 x7_585) n (b1_452, b2_453, 0)
noncomputable def zg.l1 (n : Nat) (t0 : Model) (rec_455 : ((List Place) × (List Place) × Int) → Option ((Option Layout) × Bool)) (s : (List Place) × (List Place) × Int) : Option ((Option Layout) × Bool) :=
 let b1_452 := s.1
 let b2_453 := s.2.1
 let x25_454 := s.2.2
 if (decide (x25_454 < (t0.tables.length : Int))) = true then
  (idx t0.tables x25_454).bind fun x28_456 =>
  loopF (zg.l2 n t0 b1_452 b2_453 x25_454 rec_455 x28_456) n ([[]], 0)
 else
  some (some ((⟨t0, b1_452, b2_453⟩ : Layout)), true)
noncomputable def zg (n : Nat) (t0 : Model) : Option ((Option Layout) × Bool) :=
 (zcy n t0).bind fun x17_1 =>
 if (!x17_1) = true then
  some (none, false)
 else
  loopF (zg.l1 n t0) n (([] : List Place), ([] : List Place), 0)
noncomputable def za0 (n : Nat) (t0 : Layout) (t1 : Question) : Option Bool :=
 if (((((decide (t1.e < 0)) || (decide (t1.f < 0))) || (decide ((t0.m.actions.length : Int) ≤ t1.e))) || (decide ((t0.m.actions.length : Int) ≤ t1.f))) || (decide (t1.target.index < 0))) = true then
  some false
 else
  if t1.target.hold = true then
   (idx t0.m.actions t1.e).bind fun x51_5 =>
   some (decide (t1.target.index < (x51_5.effect.hold.length : Int)))
  else
   some ((decide (t1.e ≤ t1.f)) && (decide (t1.target.index < (t0.m.constraints.length : Int))))
noncomputable def zcq (n : Nat) (t0 : Model) (t1 : Question) : Option Bool :=
 (zg n t0).bind fun x9_1 =>
 grd (!x9_1.2 || (x9_1.1).isSome) <|
 grd (!x9_1.2 || (za0 n ((x9_1.1).getD default) t1).isSome) <|
 some (x9_1.2 && ((za0 n ((x9_1.1).getD default) t1).getD default))
noncomputable def model_ranges (n : Nat) (t0 : Model) (t1 : Bool) : Option (List Range) :=
 (zcy n t0).bind fun x6_1 =>
 if (!x6_1) = true then
  some []
 else
  (za4 n t0.sorts t0.tables t1).bind fun x13_2 =>
  some x13_2
noncomputable def model_Strict (n : Nat) (t0 : Model) : Option (List Range) :=
 (model_ranges n t0 true).bind fun x4_1 =>
 some x4_1
noncomputable def zz.l1 (n : Nat) (t0 : Action) (t1 : Int) (rec_6 : Int → Option Int) (s : Int) : Option Int :=
 let x11_5 := s
 if (decide (x11_5 < (t0.effect.delta.length : Int))) = true then
  (idx t0.effect.delta x11_5).bind fun x13_7 =>
  if (x13_7.cell == t1) = true then
   some x13_7.add
  else
   rec_6 (add64 x11_5 1)
 else
  some 0
noncomputable def zz (n : Nat) (t0 : Action) (t1 : Int) : Option Int :=
 loopF (zz.l1 n t0 t1) n 0
noncomputable def zi.l1 (n : Nat) (t0 : Action) (t1 : Row) (rec_11 : (Int × Int) → Option Int) (s : Int × Int) : Option Int :=
 let x5_9 := s.1
 let x11_10 := s.2
 if (decide (x11_10 < (t1.terms.length : Int))) = true then
  (idx t1.terms x11_10).bind fun x13_12 =>
  (zz n t0 x13_12.cell).bind fun x21_13 =>
  rec_11 (add64 x5_9 (mul64 x13_12.factor x21_13), add64 x11_10 1)
 else
  some x5_9
noncomputable def zi (n : Nat) (t0 : Action) (t1 : Row) : Option Int :=
 loopF (zi.l1 n t0 t1) n (0, 0)
noncomputable def zT.l1 (n : Nat) (t0 : List Int) (t1 : Int) (rec_6 : Int → Option Int) (s : Int) : Option Int :=
 let x8_5 := s
 if (decide (x8_5 < (t0.length : Int))) = true then
  (idx t0 x8_5).bind fun x14_7 =>
  if (t1 == x14_7) = true then
   some x8_5
  else
   rec_6 (add64 x8_5 1)
 else
  some (-1)
noncomputable def zT (n : Nat) (t0 : List Int) (t1 : Int) : Option Int :=
 loopF (zT.l1 n t0 t1) n 0
noncomputable def zam (n : Nat) (t0 : List Int) (t1 : Int) : Option Bool :=
 (zT n t0 t1).bind fun x7_1 =>
 some (decide (0 ≤ x7_1))
noncomputable def condition_less_1 (n : Nat) (t0 : Int) (t1 : Int) : Option Int :=
 some (sub64 t0 t1)
noncomputable def zF.l1 (n : Nat) (t0 : Row) (t1 : Int → Option Int) (x13_1 : Int) (rec_14 : ((List Term) × Int) → Option Row) (s : (List Term) × Int) : Option Row :=
 let b3_12 := s.1
 let x18_13 := s.2
 if (decide (x18_13 < (t0.terms.length : Int))) = true then
  (idx t0.terms x18_13).bind fun x20_15 =>
  (t1 x20_15.factor).bind fun x29_16 =>
  (app 16 b3_12 [(⟨x20_15.cell, x29_16⟩ : Term)]).bind fun x32_17 =>
  rec_14 (x32_17, add64 x18_13 1)
 else
  some (⟨b3_12, x13_1⟩ : Row)
noncomputable def zF (n : Nat) (t0 : Row) (t1 : Int → Option Int) (t2 : Int → Option Int) : Option Row :=
 (t2 t0.bound).bind fun x13_1 =>
 loopF (zF.l1 n t0 t1 x13_1) n (([] : List Term), 0)
noncomputable def zaV (n : Nat) (t0 : Int) : Option Int :=
 some t0
noncomputable def zas (n : Nat) (t0 : Int) (t1 : Int) : Option Int :=
 some (sub64 (add64 (neg64 t0) t1) 1)
noncomputable def zaQ (n : Nat) (t0 : Int) : Option Int :=
 some (neg64 t0)
noncomputable def zV.l1 (n : Nat) (t0 : Constraint) (t1 : Int → Option Int) (rec_11 : ((List Int) × Int) → Option Graph) (s : (List Int) × Int) : Option Graph :=
 let b3_9 := s.1
 let x17_10 := s.2
 if (decide (x17_10 < mul64 t0.size t0.size)) = true then
  (t1 (add64 t0.first x17_10)).bind fun x27_12 =>
  (app 8 b3_9 [sub64 1 x27_12]).bind fun x30_13 =>
  rec_11 (x30_13, add64 x17_10 1)
 else
  some (⟨t0.first, t0.size, b3_9⟩ : Graph)
noncomputable def zV (n : Nat) (t0 : Constraint) (t1 : Int → Option Int) : Option Graph :=
 loopF (zV.l1 n t0 t1) n (([] : List Int), 0)
noncomputable def zbn (n : Nat) (t0 : Int) : Option Int :=
 some 0
noncomputable def zx.l1 (n : Nat) (t0 : Action) (t1 : Constraint) (rec_15 : ((List Int) × Int) → Option (List Int)) (s : (List Int) × Int) : Option (List Int) :=
 let b0_13 := s.1
 let x12_14 := s.2
 if (decide (x12_14 < mul64 t1.size t1.size)) = true then
  jn (fun (v : (List Int)) =>
   let b0_16 := v
   rec_15 (b0_16, add64 x12_14 1)) fun k_17 =>
  (zz n t0 (add64 t1.first x12_14)).bind fun x20_18 =>
  if (decide (0 < x20_18)) = true then
   (app 8 b0_13 [x12_14]).bind fun x25_19 =>
   k_17 x25_19
  else
   k_17 b0_13
 else
  some b0_13
noncomputable def zx (n : Nat) (t0 : Action) (t1 : Constraint) : Option (List Int) :=
 loopF (zx.l1 n t0 t1) n (([] : List Int), 0)
noncomputable def zak (n : Nat) (t0 : Int) (t1 : Action) : Option Int :=
 (zz n t1 t0).bind fun x6_1 =>
 some x6_1
noncomputable def zaj (n : Nat) (t0 : Int) (t1 : Action) : Option Int :=
 (zz n t1 t0).bind fun x6_1 =>
 some x6_1
noncomputable def zbG (n : Nat) (t0 : Int) (t1 : Action) (t2 : Constraint) (t3 : Action) : Option Int :=
 (zz n t1 (add64 t2.first t0)).bind fun x11_1 =>
 (zz n t3 (add64 t2.first t0)).bind fun x17_2 =>
 some (add64 x11_1 x17_2)
noncomputable def digraph_open (n : Nat) (t0 : Int) (t1 : List Bool) : Option (DGraph × Bool) :=
 some ((⟨t0, t1⟩ : DGraph), ((decide (1 ≤ t0)) && (decide (t0 ≤ 6))) && ((t1.length : Int) == (mul64 t0 t0)))
noncomputable def zaP (n : Nat) (t0 : DGraph) (t1 : Int) (t2 : Int) : Option Bool :=
 (idx t0.edges (add64 (mul64 t1 t0.size) t2)).bind fun x15_1 =>
 some x15_1
noncomputable def zcd.l1 (n : Nat) (t0 : List Int) (rec_6 : Int → Option Int) (s : Int) : Option Int :=
 let x8_5 := s
 if (decide (x8_5 < (t0.length : Int))) = true then
  (idx t0 x8_5).bind fun x10_7 =>
  if (x10_7 != 0) = true then
   some x10_7
  else
   rec_6 (add64 x8_5 1)
 else
  some 0
noncomputable def zcd (n : Nat) (t0 : List Int) : Option Int :=
 loopF (zcd.l1 n t0) n 0
noncomputable def zb3 (n : Nat) (t0 : List Int) (t1 : List Int) : Option Int :=
 (zbH n (t0.length : Int) (t1.length : Int)).bind fun x9_1 =>
 (zf n t0 t1).bind fun x12_2 =>
 (zcd n [x9_1, x12_2]).bind fun x14_3 =>
 some x14_3
noncomputable def zN.l1 (n : Nat) (g : DGraph) (v : List Int → List (List Int) → Option (List (List Int))) (l : List Int) (last : Int) (rec : Int × List (List Int) → Option (List (List Int))) (s : Int × List (List Int)) : Option (List (List Int)) :=
 if (decide (s.1 < g.size)) = true then
  (zaP n g last s.1).bind fun e =>
  if e = true then
   (zam n l s.1).bind fun f =>
   if f = true then rec (add64 s.1 1, s.2)
   else
    (app 8 [] l).bind fun c =>
    (app 8 c [s.1]).bind fun l2 =>
    (v l2 s.2).bind fun out =>
    rec (add64 s.1 1, out)
  else rec (add64 s.1 1, s.2)
 else some s.2
noncomputable def zN (n : Nat) (g : DGraph) : Nat → List Int → List (List Int) → Option (List (List Int))
 | 0, _, _ => none
 | k + 1, l, out =>
  (idx l (sub64 (l.length : Int) 1)).bind fun last =>
  (idx l 0).bind fun first =>
  (zaP n g last first).bind fun e =>
  if e = true then
   (app 8 [] l).bind fun c =>
   (app 24 out [c]).bind fun out =>
   loopF (zN.l1 n g (zN n g k) l last) n (add64 first 1, out)
  else loopF (zN.l1 n g (zN n g k) l last) n (add64 first 1, out)
noncomputable def digraph_cycles.l1 (n : Nat) (g : DGraph) (rec : Int × List (List Int) → Option (List (List Int))) (s : Int × List (List Int)) : Option (List (List Int)) :=
 if (decide (s.1 < g.size)) = true then
  (zN n g n [s.1] s.2).bind fun out =>
  rec (add64 s.1 1, out)
 else some s.2
noncomputable def zcs (n : Nat) (t0 : Int) (t1 : List Bool) : Option (List (List Int)) :=
 (digraph_open n t0 t1).bind fun o =>
 if (!o.2) = true then some []
 else
  (loopF (digraph_cycles.l1 n o.1) n (0, [])).bind fun out =>
  sortO (zb3 n) out
noncomputable def zw.l3 (n : Nat) (t1 : Constraint) (t2 : Action) (t3 : Action) (b1_117 : List (List Row)) (k_121 : ((List (List Row))) → Option (List (List Row))) (x57_122 : List Int) (rec_153 : ((List Row) × Bool × Bool × Int) → Option (List (List Row))) (s : (List Row) × Bool × Bool × Int) : Option (List (List Row)) :=
 let b2_149 := s.1
 let x16_150 := s.2.1
 let x17_151 := s.2.2.1
 let x61_152 := s.2.2.2
 if (decide (x61_152 < (x57_122.length : Int))) = true then
  (idx x57_122 x61_152).bind fun x64_154 =>
  (rem64 (add64 x61_152 1) (x57_122.length : Int)).bind fun x75_155 =>
  (idx x57_122 x75_155).bind fun x76_156 =>
  grd (x16_150 || (zz n t2 (add64 t1.first (add64 (mul64 x64_154 t1.size) x76_156))).isSome) <|
  grd (x17_151 || (zz n t3 (add64 t1.first (add64 (mul64 x64_154 t1.size) x76_156))).isSome) <|
  (zbG n (add64 (mul64 x64_154 t1.size) x76_156) t2 t1 t3).bind fun x108_161 =>
  (app 32 b2_149 [(⟨[(⟨add64 t1.first (add64 (mul64 x64_154 t1.size) x76_156), (-1)⟩ : Term)], sub64 x108_161 1⟩ : Row)]).bind fun x112_162 =>
  rec_153 (x112_162, x16_150 || (decide (0 < ((zz n t2 (add64 t1.first (add64 (mul64 x64_154 t1.size) x76_156))).getD default))), x17_151 || (decide (0 < ((zz n t3 (add64 t1.first (add64 (mul64 x64_154 t1.size) x76_156))).getD default))), add64 x61_152 1)
 else
  if (x16_150 && x17_151) = true then
   (app 24 b1_117 [b2_149]).bind fun x121_164 =>
   k_121 x121_164
  else
   k_121 b1_117
noncomputable def zw.l2 (n : Nat) (t1 : Constraint) (t2 : Action) (t3 : Action) (x53_22 : List (List Int)) (rec_119 : ((List (List Row)) × Int) → Option (List (List Row))) (s : (List (List Row)) × Int) : Option (List (List Row)) :=
 let b1_117 := s.1
 let x55_118 := s.2
 if (decide (x55_118 < (x53_22.length : Int))) = true then
  jn (fun (v : (List (List Row))) =>
   let b1_120 := v
   rec_119 (b1_120, add64 x55_118 1)) fun k_121 =>
  (idx x53_22 x55_118).bind fun x57_122 =>
  loopF (zw.l3 n t1 t2 t3 b1_117 k_121 x57_122) n (([] : List Row), false, false, 0)
 else
  some b1_117
noncomputable def zw.l1 (n : Nat) (t0 : List Range) (t1 : Constraint) (t2 : Action) (t3 : Action) (x27_1 : List Bool) (rec_16 : ((List Bool) × Int) → Option (List (List Row))) (s : (List Bool) × Int) : Option (List (List Row)) :=
 let b0_14 := s.1
 let x30_15 := s.2
 if (decide (x30_15 < (x27_1.length : Int))) = true then
  (idx t0 (add64 t1.first x30_15)).bind fun x40_17 =>
  (zbG n x30_15 t2 t1 t3).bind fun x45_18 =>
  (idx b0_14 x30_15).bind fun x48_19 =>
  (sto b0_14 x30_15 (decide (1 ≤ add64 x40_17.hi x45_18))).bind fun b0_20 =>
  rec_16 (b0_20, add64 x30_15 1)
 else
  (zcs n t1.size b0_14).bind fun x53_22 =>
  loopF (zw.l2 n t1 t2 t3 x53_22) n (([] : List (List Row)), 0)
noncomputable def zw (n : Nat) (t0 : List Range) (t1 : Constraint) (t2 : Action) (t3 : Action) : Option (List (List Row)) :=
 (mkl 1 (mul64 t1.size t1.size) (false : Bool)).bind fun x27_1 =>
 loopF (zw.l1 n t0 t1 t2 t3 x27_1) n (x27_1, 0)
noncomputable def zbm.l1 (n : Nat) (t0 : List Range) (rec_12 : Int → Option Bool) (s : Int) : Option Bool :=
 let x7_11 := s
 if (decide (x7_11 < (t0.length : Int))) = true then
  (idx t0 x7_11).bind fun x9_13 =>
  if ((((decide (x9_13.lo < (-1000000))) || (decide (1000000 < x9_13.lo))) || (decide (x9_13.hi < (-1000000)))) || (decide (1000000 < x9_13.hi))) = true then
   some false
  else
   rec_12 (add64 x7_11 1)
 else
  some (decide ((t0.length : Int) ≤ 128))
noncomputable def zbm (n : Nat) (t0 : List Range) : Option Bool :=
 loopF (zbm.l1 n t0) n 0
noncomputable def za3.l1 (n : Nat) (t0 : Int) (t1 : Row) (rec_17 : (Int × Int) → Option Bool) (s : Int × Int) : Option Bool :=
 let x5_15 := s.1
 let x11_16 := s.2
 if (decide (x11_16 < (t1.terms.length : Int))) = true then
  (idx t1.terms x11_16).bind fun x13_18 =>
  if (((((decide (x13_18.cell ≤ x5_15)) || (decide (t0 ≤ x13_18.cell))) || (x13_18.factor == 0)) || (decide (x13_18.factor < (-1000)))) || (decide (1000 < x13_18.factor))) = true then
   some false
  else
   rec_17 (x13_18.cell, add64 x11_16 1)
 else
  some ((decide ((-1000000000) ≤ t1.bound)) && (decide (t1.bound ≤ 1000000000)))
noncomputable def za3 (n : Nat) (t0 : Int) (t1 : Row) : Option Bool :=
 loopF (za3.l1 n t0 t1) n ((-1), 0)
noncomputable def zbj (n : Nat) (t0 : Row) (t1 : List Range) : Option Bool :=
 (za3 n (t1.length : Int) t0).bind fun x7_1 =>
 some (!x7_1)
noncomputable def za5 (n : Nat) (t0 : List Range) (t1 : List Row) : Option Bool :=
 (zbm n t0).bind fun x6_1 =>
 grd (!x6_1 || (zh n t1 (fun q0 => zbj n q0 t0)).isSome) <|
 some (x6_1 && (!((zh n t1 (fun q0 => zbj n q0 t0)).getD default)))
noncomputable def zt.l1 (n : Nat) (t0 : List Range) (t1 : Range → Option Bool) (rec_8 : Int → Option Int) (s : Int) : Option Int :=
 let x8_7 := s
 if (decide (x8_7 < (t0.length : Int))) = true then
  (idx t0 x8_7).bind fun x14_9 =>
  (t1 x14_9).bind fun x16_10 =>
  if x16_10 = true then
   some x8_7
  else
   rec_8 (add64 x8_7 1)
 else
  some (-1)
noncomputable def zt (n : Nat) (t0 : List Range) (t1 : Range → Option Bool) : Option Int :=
 loopF (zt.l1 n t0 t1) n 0
noncomputable def z9 (n : Nat) (t0 : List Range) (t1 : Range → Option Bool) : Option Bool :=
 (zt n t0 t1).bind fun x7_1 =>
 some (decide (0 ≤ x7_1))
noncomputable def interval_empty (n : Nat) (t0 : Range) : Option Bool :=
 some (decide (t0.hi < t0.lo))
noncomputable def zbs (n : Nat) (t0 : List Range) : Option Bool :=
 (z9 n t0 (fun q0 => interval_empty n q0)).bind fun x4_1 =>
 some x4_1
noncomputable def zcx (n : Nat) (t0 : System) (t1 : List Row) (t2 : Int) : Option Bool :=
 grd (!(decide ((t1.length : Int) ≤ t2)) || (za5 n t0.box t1).isSome) <|
 some ((decide ((t1.length : Int) ≤ t2)) && ((za5 n t0.box t1).getD default))
noncomputable def system_graph_1 (n : Nat) (t0 : Int) : Option Bool :=
 some ((decide (t0 < (-4000000))) || (decide (4000000 < t0)))
noncomputable def system_graph (n : Nat) (t0 : Int) (t1 : Graph) : Option Bool :=
 if (((((decide (t1.size < 1)) || (decide (6 < t1.size))) || (decide (t1.first < 0))) || (decide (sub64 t0 (mul64 t1.size t1.size) < t1.first))) || ((t1.least.length : Int) != (mul64 t1.size t1.size))) = true then
  some false
 else
  (zm n t1.least (fun q0 => system_graph_1 n q0)).bind fun x43_5 =>
  some (!x43_5)
noncomputable def system_Valid_1 (n : Nat) (t0 : List Row) (t1 : System) : Option Bool :=
 (zcx n t1 t0 64).bind fun x6_1 =>
 some (!x6_1)
noncomputable def zK.l1 (n : Nat) (t0 : List (List Row)) (t1 : (List Row) → Option Bool) (rec_8 : Int → Option Int) (s : Int) : Option Int :=
 let x8_7 := s
 if (decide (x8_7 < (t0.length : Int))) = true then
  (idx t0 x8_7).bind fun x14_9 =>
  (t1 x14_9).bind fun x16_10 =>
  if x16_10 = true then
   some x8_7
  else
   rec_8 (add64 x8_7 1)
 else
  some (-1)
noncomputable def zK (n : Nat) (t0 : List (List Row)) (t1 : (List Row) → Option Bool) : Option Int :=
 loopF (zK.l1 n t0 t1) n 0
noncomputable def zav (n : Nat) (t0 : List (List Row)) (t1 : (List Row) → Option Bool) : Option Bool :=
 (zK n t0 t1).bind fun x7_1 =>
 some (decide (0 ≤ x7_1))
noncomputable def zaC.l1 (n : Nat) (t0 : System) (rec_15 : Int → Option Bool) (s : Int) : Option Bool :=
 let x36_14 := s
 if (decide (x36_14 < (t0.graphs.length : Int))) = true then
  (idx t0.graphs x36_14).bind fun x38_16 =>
  (system_graph n (t0.box.length : Int) x38_16).bind fun x44_17 =>
  if (!x44_17) = true then
   some false
  else
   rec_15 (add64 x36_14 1)
 else
  (zav n t0.cases (fun q0 => system_Valid_1 n q0 t0)).bind fun x50_18 =>
  some (!x50_18)
noncomputable def zaC (n : Nat) (t0 : System) : Option Bool :=
 (za5 n t0.box ([] : List Row)).bind fun x7_1 =>
 grd ((!x7_1) || (zbs n t0.box).isSome) <|
 grd (((!x7_1) || ((zbs n t0.box).getD default)) || (zcx n t0 t0.rows 1024).isSome) <|
 if (((((!x7_1) || ((zbs n t0.box).getD default)) || (!((zcx n t0 t0.rows 1024).getD default))) || (decide (64 < (t0.graphs.length : Int)))) || (decide (1024 < (t0.cases.length : Int)))) = true then
  some false
 else
  loopF (zaC.l1 n t0) n 0
noncomputable def zc.l4 (n : Nat) (t0 : Model) (t1 : Question) (x61_18 : Action) (x67_19 : Action) (x70_20 : List Range) (b6_84 : List Row) (c9_0_85 : Int) (c9_1_86 : Int) (c9_2_87 : List Term) (c9_3_88 : Int) (c9_4_89 : Int) (c9_5_90 : Int) (rec_135 : ((List Graph) × Int) → Option (System × Int)) (s : (List Graph) × Int) : Option (System × Int) :=
 let b7_133 := s.1
 let x198_134 := s.2
 if (decide (x198_134 < (t0.constraints.length : Int))) = true then
  jn (fun (v : (List Graph)) =>
   let b7_136 := v
   rec_135 (b7_136, add64 x198_134 1)) fun k_137 =>
  (idx t0.constraints x198_134).bind fun x200_138 =>
  if (x200_138.kind != 1) = true then
   k_137 b7_133
  else
   (zV n x200_138 (fun q0 => zbn n q0)).bind fun x208_139 =>
   (app 40 b7_133 [x208_139]).bind fun x210_140 =>
   jn (fun (v : (List Graph)) =>
    let b7_141 := v
    grd (!(t1.e != t1.f) || (zx n x67_19 x200_138).isSome) <|
    if ((t1.e != t1.f) && (decide (0 < (((zx n x67_19 x200_138).getD default).length : Int)))) = true then
     (zV n x200_138 (fun q0 => zaj n q0 x67_19)).bind fun x241_148 =>
     (app 40 b7_141 [x241_148]).bind fun x243_149 =>
     k_137 x243_149
    else
     k_137 b7_141) fun k_142 =>
   (zx n x61_18 x200_138).bind fun x214_143 =>
   if (decide (0 < (x214_143.length : Int))) = true then
    (zV n x200_138 (fun q0 => zak n q0 x61_18)).bind fun x221_144 =>
    (app 40 x210_140 [x221_144]).bind fun x223_145 =>
    k_142 x223_145
   else
    k_142 x210_140
 else
  jn (fun (v : (List Row) × (List (List Row))) =>
   let b6_150 := v.1
   let c3_3_151 := v.2
   (zaC n (⟨x70_20, b6_150, b7_133, c3_3_151⟩ : System)).bind fun x267_155 =>
   if (!x267_155) = true then
    some ((⟨[], [], [], []⟩ : System), 8)
   else
    some ((⟨x70_20, b6_150, b7_133, c3_3_151⟩ : System), 0)) fun k_152 =>
  if (c9_0_85 == 1) = true then
   (zw n x70_20 (⟨c9_0_85, c9_1_86, (⟨c9_2_87, c9_3_88⟩ : Row), c9_4_89, c9_5_90⟩ : Constraint) x61_18 x67_19).bind fun x254_153 =>
   if ((x254_153.length : Int) == 0) = true then
    (app 32 b6_84 [(⟨[], (-1)⟩ : Row)]).bind fun x264_154 =>
    k_152 (x264_154, x254_153)
   else
    k_152 (b6_84, x254_153)
  else
   k_152 (b6_84, [])
noncomputable def zc.l3 (n : Nat) (t0 : Model) (t1 : Question) (x61_18 : Action) (x67_19 : Action) (x70_20 : List Range) (b8_65 : List Row) (rec_80 : ((List Row) × Int) → Option (System × Int)) (s : (List Row) × Int) : Option (System × Int) :=
 let b6_78 := s.1
 let x141_79 := s.2
 if (decide (x141_79 < (b8_65.length : Int))) = true then
  (idx b8_65 x141_79).bind fun x143_81 =>
  (zF n x143_81 (fun q0 => zaV n q0) (fun q0 => zaV n q0)).bind fun x148_82 =>
  (app 32 b6_78 [x148_82]).bind fun x150_83 =>
  rec_80 (x150_83, add64 x141_79 1)
 else
  jn (fun (v : (List Row) × Int × Int × (List Term) × Int × Int × Int) =>
   let b6_84 := v.1
   let c9_0_85 := v.2.1
   let c9_1_86 := v.2.2.1
   let c9_2_87 := v.2.2.2.1
   let c9_3_88 := v.2.2.2.2.1
   let c9_4_89 := v.2.2.2.2.2.1
   let c9_5_90 := v.2.2.2.2.2.2
   loopF (zc.l4 n t0 t1 x61_18 x67_19 x70_20 b6_84 c9_0_85 c9_1_86 c9_2_87 c9_3_88 c9_4_89 c9_5_90) n (([] : List Graph), 0)) fun k_91 =>
  if t1.target.hold = true then
   (idx x61_18.effect.hold t1.target.index).bind fun x164_92 =>
   (zi n x67_19 x164_92).bind fun x170_93 =>
   (zF n x164_92 (fun q0 => zaQ n q0) (fun q0 => zas n q0 x170_93)).bind fun x9_94 =>
   (app 32 b6_78 [x9_94]).bind fun x11_95 =>
   k_91 (x11_95, 0, 0, [], 0, 0, 0)
  else
   (idx t0.constraints t1.target.index).bind fun x177_96 =>
   if (x177_96.kind == 0) = true then
    (zi n x61_18 x177_96.row).bind fun x188_97 =>
    (zi n x67_19 x177_96.row).bind fun x192_98 =>
    (zF n x177_96.row (fun q0 => zaQ n q0) (fun q0 => zas n q0 (add64 x188_97 x192_98))).bind fun x9_99 =>
    (app 32 b6_78 [x9_99]).bind fun x11_100 =>
    k_91 (x11_100, x177_96.kind, x177_96.family, x177_96.row.terms, x177_96.row.bound, x177_96.first, x177_96.size)
   else
    k_91 (b6_78, x177_96.kind, x177_96.family, x177_96.row.terms, x177_96.row.bound, x177_96.first, x177_96.size)
noncomputable def zc.l2 (n : Nat) (t0 : Model) (t1 : Question) (t2 : List Int) (x61_18 : Action) (x67_19 : Action) (x70_20 : List Range) (rec_51 : ((List Row) × Int) → Option (System × Int)) (s : (List Row) × Int) : Option (System × Int) :=
 let b6_49 := s.1
 let x75_50 := s.2
 if (decide (x75_50 < (t0.constraints.length : Int))) = true then
  jn (fun (v : (List Row)) =>
   let b6_52 := v
   rec_51 (b6_52, add64 x75_50 1)) fun k_53 =>
  (idx t0.constraints x75_50).bind fun x78_54 =>
  if (x78_54.kind != 0) = true then
   k_53 b6_49
  else
   (zi n x61_18 x78_54.row).bind fun x86_55 =>
   (zi n x67_19 x78_54.row).bind fun x90_56 =>
   jn (fun (v : Int) =>
    let x17_57 := v
    (zF n x78_54.row (fun q0 => zaV n q0) (fun q0 => condition_less_1 n q0 x17_57)).bind fun x120_62 =>
    (app 32 b6_49 [x120_62]).bind fun x122_63 =>
    k_53 x122_63) fun k_58 =>
   (zam n t2 x75_50).bind fun x96_59 =>
   if (x96_59 && (t1.target.hold || (t1.target.index != x75_50))) = true then
    k_58 (gmax (gmax (gmax 0 x86_55) x90_56) (add64 x86_55 x90_56))
   else
    k_58 (gmax (gmax 0 x86_55) x90_56)
 else
  (app 32 [] x61_18.effect.hold).bind fun x128_64 =>
  jn (fun (v : (List Row)) =>
   let b8_65 := v
   loopF (zc.l3 n t0 t1 x61_18 x67_19 x70_20 b8_65) n (b6_49, 0)) fun k_66 =>
  if (t1.e != t1.f) = true then
   (app 32 x128_64 x67_19.effect.hold).bind fun x138_67 =>
   k_66 x138_67
  else
   k_66 x128_64
noncomputable def zc.l1 (n : Nat) (t0 : Model) (t1 : Question) (t2 : List Int) (rec_13 : Int → Option (System × Int)) (s : Int) : Option (System × Int) :=
 let x33_12 := s
 if (decide (x33_12 < (t2.length : Int))) = true then
  (idx t2 x33_12).bind fun x35_14 =>
  grd (((decide (x35_14 < 0)) || (decide ((t0.constraints.length : Int) ≤ x35_14))) || (idx t0.constraints x35_14).isSome) <|
  if (((decide (x35_14 < 0)) || (decide ((t0.constraints.length : Int) ≤ x35_14))) || ((((idx t0.constraints x35_14).getD default).kind) != 0)) = true then
   some ((⟨[], [], [], []⟩ : System), 2)
  else
   rec_13 (add64 x33_12 1)
 else
  (idx t0.actions t1.e).bind fun x61_18 =>
  (idx t0.actions t1.f).bind fun x67_19 =>
  (model_Strict n t0).bind fun x70_20 =>
  loopF (zc.l2 n t0 t1 t2 x61_18 x67_19 x70_20) n (([] : List Row), 0)
noncomputable def zc (n : Nat) (t0 : Model) (t1 : Question) (t2 : List Int) : Option (System × Int) :=
 (zcq n t0 t1).bind fun x28_1 =>
 if (!x28_1) = true then
  some ((⟨[], [], [], []⟩ : System), 1)
 else
  loopF (zc.l1 n t0 t1 t2) n 0
noncomputable def zcu (n : Nat) (t0 : Model) (t1 : Question) : Option Bool :=
 (idx t0.actions t1.e).bind fun x12_1 =>
 (idx t0.actions t1.f).bind fun x18_2 =>
 if t1.target.hold = true then
  (idx x12_1.effect.hold t1.target.index).bind fun x30_3 =>
  (zi n x18_2 x30_3).bind fun x32_4 =>
  some (decide (0 < x32_4))
 else
  (idx t0.constraints t1.target.index).bind fun x39_5 =>
  if (x39_5.kind == 0) = true then
   (zi n x12_1 x39_5.row).bind fun x47_6 =>
   grd (!(decide (0 < x47_6)) || (zi n x18_2 x39_5.row).isSome) <|
   some ((decide (0 < x47_6)) && (decide (0 < ((zi n x18_2 x39_5.row).getD default))))
  else
   (zx n x12_1 x39_5).bind fun x58_9 =>
   grd (!(decide (0 < (x58_9.length : Int))) || (zx n x18_2 x39_5).isSome) <|
   some ((decide (0 < (x58_9.length : Int))) && (decide (0 < (((zx n x18_2 x39_5).getD default).length : Int))))
noncomputable def zb9 (n : Nat) (t0 : Question) (t1 : Model) : Option Bool :=
 (zcu n t1 t0).bind fun x6_1 =>
 some (!x6_1)
noncomputable def zS.l1 (n : Nat) (t0 : List Question) (t1 : Question → Option Bool) (rec_8 : Int → Option Int) (s : Int) : Option Int :=
 let x8_7 := s
 if (decide (x8_7 < (t0.length : Int))) = true then
  (idx t0 x8_7).bind fun x14_9 =>
  (t1 x14_9).bind fun x16_10 =>
  if x16_10 = true then
   some x8_7
  else
   rec_8 (add64 x8_7 1)
 else
  some (-1)
noncomputable def zS (n : Nat) (t0 : List Question) (t1 : Question → Option Bool) : Option Int :=
 loopF (zS.l1 n t0 t1) n 0
noncomputable def zM.l5 (n : Nat) (t0 : Model) (b0_1307 : List Question) (k_1311 : ((List Question)) → Option (List Question)) (rec_1447 : ((List Question) × Int × Int) → Option (List Question)) (s : (List Question) × Int × Int) : Option (List Question) :=
 let b1_1444 := s.1
 let x5_1445 := s.2.1
 let x6_1446 := s.2.2
 if (decide (x6_1446 < (b1_1444.length : Int))) = true then
  jn (fun (v : (List Question) × Int) =>
   let b1_1455 := v.1
   let x5_1456 := v.2
   rec_1447 (b1_1455, x5_1456, add64 x6_1446 1)) fun k_1457 =>
  (idx b1_1444 x6_1446).bind fun x24_1459 =>
  (zb9 n x24_1459 t0).bind fun x28_1461 =>
  if (!x28_1461) = true then
   (idx b1_1444 x5_1445).bind fun x33_1463 =>
   (sto b1_1444 x5_1445 x24_1459).bind fun b1_1464 =>
   k_1457 (b1_1464, add64 x5_1445 1)
  else
   k_1457 (b1_1444, x5_1445)
 else
  (cut b1_1444 x5_1445 (b1_1444.length : Int)).bind fun x38_1466 =>
  (cut (zcl b1_1444 x5_1445.toNat b1_1444.length (List.replicate (b1_1444.length - x5_1445.toNat) (⟨0, 0, ⟨false, 0⟩⟩ : Question))) 0 x5_1445).bind fun x41_1468 =>
  (app 32 b0_1307 (((zcl b1_1444 x5_1445.toNat b1_1444.length (List.replicate (b1_1444.length - x5_1445.toNat) (⟨0, 0, ⟨false, 0⟩⟩ : Question))).drop 0).take (x5_1445.toNat - 0))).bind fun x66_1469 =>
  k_1311 x66_1469
noncomputable def zM.l4 (n : Nat) (t0 : Model) (x15_981 : Int) (b0_1307 : List Question) (x21_1308 : Int) (k_1311 : ((List Question)) → Option (List Question)) (x45_1328 : Action) (rec_1337 : ((List Question) × Int) → Option (List Question)) (s : (List Question) × Int) : Option (List Question) :=
 let b1_1335 := s.1
 let x50_1336 := s.2
 if (decide (x50_1336 < (x45_1328.effect.hold.length : Int))) = true then
  (app 32 b1_1335 [(⟨x15_981, x21_1308, (⟨true, x50_1336⟩ : Target)⟩ : Question)]).bind fun x60_1338 =>
  rec_1337 (x60_1338, add64 x50_1336 1)
 else
  (zS n b1_1335 (fun q0 => zb9 n q0 t0)).bind fun x10_1340 =>
  if (x10_1340 == (-1)) = true then
   (app 32 b0_1307 b1_1335).bind fun x66_1342 =>
   k_1311 x66_1342
  else
   loopF (zM.l5 n t0 b0_1307 k_1311) n (b1_1335, x10_1340, add64 x10_1340 1)
noncomputable def zM.l3 (n : Nat) (t0 : Model) (x15_981 : Int) (b0_1307 : List Question) (x21_1308 : Int) (k_1311 : ((List Question)) → Option (List Question)) (rec_1324 : ((List Question) × Int) → Option (List Question)) (s : (List Question) × Int) : Option (List Question) :=
 let b1_1322 := s.1
 let x27_1323 := s.2
 if (decide (x27_1323 < (t0.constraints.length : Int))) = true then
  jn (fun (v : (List Question)) =>
   let b1_1325 := v
   rec_1324 (b1_1325, add64 x27_1323 1)) fun k_1326 =>
  if (decide (x15_981 ≤ x21_1308)) = true then
   (app 32 b1_1322 [(⟨x15_981, x21_1308, (⟨false, x27_1323⟩ : Target)⟩ : Question)]).bind fun x40_1327 =>
   k_1326 x40_1327
  else
   k_1326 b1_1322
 else
  (idx t0.actions x15_981).bind fun x45_1328 =>
  loopF (zM.l4 n t0 x15_981 b0_1307 x21_1308 k_1311 x45_1328) n (b1_1322, 0)
noncomputable def zM.l2 (n : Nat) (t0 : Model) (x15_981 : Int) (rec_982 : ((List Question) × Int) → Option (List Question)) (rec_1309 : ((List Question) × Int) → Option (List Question)) (s : (List Question) × Int) : Option (List Question) :=
 let b0_1307 := s.1
 let x21_1308 := s.2
 if (decide (x21_1308 < (t0.actions.length : Int))) = true then
  jn (fun (v : (List Question)) =>
   let b0_1310 := v
   rec_1309 (b0_1310, add64 x21_1308 1)) fun k_1311 =>
  loopF (zM.l3 n t0 x15_981 b0_1307 x21_1308 k_1311) n (([] : List Question), 0)
 else
  rec_982 (b0_1307, add64 x15_981 1)
noncomputable def zM.l1 (n : Nat) (t0 : Model) (rec_982 : ((List Question) × Int) → Option (List Question)) (s : (List Question) × Int) : Option (List Question) :=
 let b0_980 := s.1
 let x15_981 := s.2
 if (decide (x15_981 < (t0.actions.length : Int))) = true then
  loopF (zM.l2 n t0 x15_981 rec_982) n (b0_980, 0)
 else
  some b0_980
noncomputable def zM (n : Nat) (t0 : Model) : Option (List Question) :=
 (zcy n t0).bind fun x10_1 =>
 if (!x10_1) = true then
  some []
 else
  loopF (zM.l1 n t0) n (([] : List Question), 0)
noncomputable def zaa (n : Nat) (t0 : Model) (t1 : Question) : Option Bool :=
 (zcq n t0 t1).bind fun x7_1 =>
 grd (!x7_1 || (zcu n t0 t1).isSome) <|
 some (x7_1 && ((zcu n t0 t1).getD default))
noncomputable def zbR (n : Nat) (t0 : Model) (t1 : Int) (t2 : Row) : Option Int :=
 (zcy n t0).bind fun x8_1 =>
 if (((!x8_1) || (decide (t1 < 0))) || (decide ((t0.actions.length : Int) ≤ t1))) = true then
  some 0
 else
  (idx t0.actions t1).bind fun x24_4 =>
  (zi n x24_4 t2).bind fun x27_5 =>
  some x27_5
noncomputable def zH.l1 (n : Nat) (t0 : List Question) (t1 : List Question) (rec_8 : Int → Option Bool) (s : Int) : Option Bool :=
 let x13_7 := s
 if (decide (x13_7 < (t0.length : Int))) = true then
  (idx t0 x13_7).bind fun x18_9 =>
  (idx t1 x13_7).bind fun x22_10 =>
  if (!decide ((x18_9 : Question) = x22_10)) = true then
   some false
  else
   rec_8 (add64 x13_7 1)
 else
  some true
noncomputable def zH (n : Nat) (t0 : List Question) (t1 : List Question) : Option Bool :=
 if ((t0.length : Int) != (t1.length : Int)) = true then
  some false
 else
  loopF (zH.l1 n t0 t1) n 0
noncomputable def law22_awake (n : Nat) : Option Bool :=
 (law22_example n ).bind fun x6_1 =>
 (zc n x6_1 (⟨0, 0, (⟨false, 1⟩ : Target)⟩ : Question) ([] : List Int)).bind fun x12_2 =>
 (zM n x6_1).bind fun x16_3 =>
 grd (!((x12_2.2 == 0) && ((x12_2.1.rows.length : Int) == 3)) || (idx x12_2.1.rows 1).isSome) <|
 grd (!(((x12_2.2 == 0) && ((x12_2.1.rows.length : Int) == 3)) && ((((idx x12_2.1.rows 1).getD default).bound) == 1)) || (idx x12_2.1.rows 2).isSome) <|
 grd (!((((x12_2.2 == 0) && ((x12_2.1.rows.length : Int) == 3)) && ((((idx x12_2.1.rows 1).getD default).bound) == 1)) && ((((idx x12_2.1.rows 2).getD default).bound) == 0)) || (idx x12_2.1.rows 2).isSome) <|
 grd (!(((((x12_2.2 == 0) && ((x12_2.1.rows.length : Int) == 3)) && ((((idx x12_2.1.rows 1).getD default).bound) == 1)) && ((((idx x12_2.1.rows 2).getD default).bound) == 0)) && (((((idx x12_2.1.rows 2).getD default).terms).length : Int) == 1)) || (idx x12_2.1.rows 2).isSome) <|
 grd (!(((((x12_2.2 == 0) && ((x12_2.1.rows.length : Int) == 3)) && ((((idx x12_2.1.rows 1).getD default).bound) == 1)) && ((((idx x12_2.1.rows 2).getD default).bound) == 0)) && (((((idx x12_2.1.rows 2).getD default).terms).length : Int) == 1)) || (idx (((idx x12_2.1.rows 2).getD default).terms) 0).isSome) <|
 grd (!((((((x12_2.2 == 0) && ((x12_2.1.rows.length : Int) == 3)) && ((((idx x12_2.1.rows 1).getD default).bound) == 1)) && ((((idx x12_2.1.rows 2).getD default).bound) == 0)) && (((((idx x12_2.1.rows 2).getD default).terms).length : Int) == 1)) && ((((idx (((idx x12_2.1.rows 2).getD default).terms) 0).getD default).factor) == (-1))) || (zaa n x6_1 (⟨0, 0, (⟨false, 1⟩ : Target)⟩ : Question)).isSome) <|
 grd (!(((((((x12_2.2 == 0) && ((x12_2.1.rows.length : Int) == 3)) && ((((idx x12_2.1.rows 1).getD default).bound) == 1)) && ((((idx x12_2.1.rows 2).getD default).bound) == 0)) && (((((idx x12_2.1.rows 2).getD default).terms).length : Int) == 1)) && ((((idx (((idx x12_2.1.rows 2).getD default).terms) 0).getD default).factor) == (-1))) && ((zaa n x6_1 (⟨0, 0, (⟨false, 1⟩ : Target)⟩ : Question)).getD default)) || (zaa n x6_1 (⟨0, 0, (⟨false, 0⟩ : Target)⟩ : Question)).isSome) <|
 grd (!((((((((x12_2.2 == 0) && ((x12_2.1.rows.length : Int) == 3)) && ((((idx x12_2.1.rows 1).getD default).bound) == 1)) && ((((idx x12_2.1.rows 2).getD default).bound) == 0)) && (((((idx x12_2.1.rows 2).getD default).terms).length : Int) == 1)) && ((((idx (((idx x12_2.1.rows 2).getD default).terms) 0).getD default).factor) == (-1))) && ((zaa n x6_1 (⟨0, 0, (⟨false, 1⟩ : Target)⟩ : Question)).getD default)) && (!((zaa n x6_1 (⟨0, 0, (⟨false, 0⟩ : Target)⟩ : Question)).getD default))) || (idx x6_1.constraints 0).isSome) <|
 grd (!((((((((x12_2.2 == 0) && ((x12_2.1.rows.length : Int) == 3)) && ((((idx x12_2.1.rows 1).getD default).bound) == 1)) && ((((idx x12_2.1.rows 2).getD default).bound) == 0)) && (((((idx x12_2.1.rows 2).getD default).terms).length : Int) == 1)) && ((((idx (((idx x12_2.1.rows 2).getD default).terms) 0).getD default).factor) == (-1))) && ((zaa n x6_1 (⟨0, 0, (⟨false, 1⟩ : Target)⟩ : Question)).getD default)) && (!((zaa n x6_1 (⟨0, 0, (⟨false, 0⟩ : Target)⟩ : Question)).getD default))) || (zbR n x6_1 0 (((idx x6_1.constraints 0).getD default).row)).isSome) <|
 grd (!(((((((((x12_2.2 == 0) && ((x12_2.1.rows.length : Int) == 3)) && ((((idx x12_2.1.rows 1).getD default).bound) == 1)) && ((((idx x12_2.1.rows 2).getD default).bound) == 0)) && (((((idx x12_2.1.rows 2).getD default).terms).length : Int) == 1)) && ((((idx (((idx x12_2.1.rows 2).getD default).terms) 0).getD default).factor) == (-1))) && ((zaa n x6_1 (⟨0, 0, (⟨false, 1⟩ : Target)⟩ : Question)).getD default)) && (!((zaa n x6_1 (⟨0, 0, (⟨false, 0⟩ : Target)⟩ : Question)).getD default))) && (((zbR n x6_1 0 (((idx x6_1.constraints 0).getD default).row)).getD default) == (-2))) || (zH n x16_3 [(⟨0, 0, (⟨false, 1⟩ : Target)⟩ : Question)]).isSome) <|
 some ((((((((((x12_2.2 == 0) && ((x12_2.1.rows.length : Int) == 3)) && ((((idx x12_2.1.rows 1).getD default).bound) == 1)) && ((((idx x12_2.1.rows 2).getD default).bound) == 0)) && (((((idx x12_2.1.rows 2).getD default).terms).length : Int) == 1)) && ((((idx (((idx x12_2.1.rows 2).getD default).terms) 0).getD default).factor) == (-1))) && ((zaa n x6_1 (⟨0, 0, (⟨false, 1⟩ : Target)⟩ : Question)).getD default)) && (!((zaa n x6_1 (⟨0, 0, (⟨false, 0⟩ : Target)⟩ : Question)).getD default))) && (((zbR n x6_1 0 (((idx x6_1.constraints 0).getD default).row)).getD default) == (-2))) && ((zH n x16_3 [(⟨0, 0, (⟨false, 1⟩ : Target)⟩ : Question)]).getD default))
noncomputable def zb8.l1 (n : Nat) (t0 : List Int) (t1 : List Table) (rec_10 : Int → Option Bool) (s : Int) : Option Bool :=
 let x5_9 := s
 if (decide (x5_9 < (t1.length : Int))) = true then
  (idx t1 x5_9).bind fun x14_11 =>
  grd ((decide (40 < (x14_11.name.length : Int))) || (idx t1 x5_9).isSome) <|
  if ((decide (40 < (x14_11.name.length : Int))) || (decide (12 < ((((idx t1 x5_9).getD default).columns).length : Int)))) = true then
   some false
  else
   rec_10 (add64 x5_9 1)
 else
  some ((decide ((t0.length : Int) ≤ 12)) && (decide ((t1.length : Int) ≤ 20)))
noncomputable def zb8 (n : Nat) (t0 : List Int) (t1 : List Table) : Option Bool :=
 loopF (zb8.l1 n t0 t1) n 0
noncomputable def zj.l5 (n : Nat) (x6_62 : Int) (rec_63 : Int → Option Bool) (x122_64 : Action) (rec_74 : Int → Option Bool) (s : Int) : Option Bool :=
 let x8_73 := s
 if (decide (x8_73 < (x122_64.effect.hold.length : Int))) = true then
  (idx x122_64.effect.hold x8_73).bind fun x161_75 =>
  if (decide (20 < (x161_75.terms.length : Int))) = true then
   some false
  else
   rec_74 (add64 x8_73 1)
 else
  rec_63 (add64 x6_62 1)
noncomputable def zj.l4 (n : Nat) (t0 : Model) (rec_63 : Int → Option Bool) (s : Int) : Option Bool :=
 let x6_62 := s
 if (decide (x6_62 < (t0.actions.length : Int))) = true then
  (idx t0.actions x6_62).bind fun x122_64 =>
  (idx t0.actions x6_62).bind fun x128_65 =>
  if ((((decide (6 < (x128_65.arguments.length : Int))) || (decide (20 < (x122_64.effect.delta.length : Int)))) || (decide (10 < (x122_64.effect.hold.length : Int)))) || (decide (40 < (x122_64.effect.updates.length : Int)))) = true then
   some false
  else
   loopF (zj.l5 n x6_62 rec_63 x122_64) n 0
 else
  some true
noncomputable def zj.l3 (n : Nat) (t0 : Model) (rec_32 : Int → Option Bool) (s : Int) : Option Bool :=
 let x5_31 := s
 if (decide (x5_31 < (t0.operations.length : Int))) = true then
  (idx t0.operations x5_31).bind fun x97_33 =>
  grd ((decide (40 < (x97_33.name.length : Int))) || (idx t0.operations x5_31).isSome) <|
  if ((decide (40 < (x97_33.name.length : Int))) || (decide (6 < ((((idx t0.operations x5_31).getD default).sorts).length : Int)))) = true then
   some false
  else
   rec_32 (add64 x5_31 1)
 else
  loopF (zj.l4 n t0) n 0
noncomputable def zj.l2 (n : Nat) (t0 : Model) (rec_21 : Int → Option Bool) (s : Int) : Option Bool :=
 let x4_20 := s
 if (decide (x4_20 < (t0.constraints.length : Int))) = true then
  (idx t0.constraints x4_20).bind fun x81_22 =>
  if (decide (20 < (x81_22.row.terms.length : Int))) = true then
   some false
  else
   rec_21 (add64 x4_20 1)
 else
  loopF (zj.l3 n t0) n 0
noncomputable def zj.l1 (n : Nat) (t0 : Model) (rec_14 : Int → Option Bool) (s : Int) : Option Bool :=
 let x3_13 := s
 if (decide (x3_13 < (t0.families.length : Int))) = true then
  (idx t0.families x3_13).bind fun x67_15 =>
  if (decide (40 < (x67_15.length : Int))) = true then
   some false
  else
   rec_14 (add64 x3_13 1)
 else
  loopF (zj.l2 n t0) n 0
noncomputable def zj (n : Nat) (t0 : Model) : Option Bool :=
 grd ((((((((decide (8 < (t0.sorts.length : Int))) || (decide (6 < (t0.tables.length : Int)))) || (decide (20 < (t0.families.length : Int)))) || (decide (60 < (t0.constraints.length : Int)))) || (decide (8 < (t0.operations.length : Int)))) || (decide (30 < (t0.actions.length : Int)))) || (decide (12 < (t0.hides.length : Int)))) || (zb8 n t0.sorts t0.tables).isSome) <|
 if ((((((((decide (8 < (t0.sorts.length : Int))) || (decide (6 < (t0.tables.length : Int)))) || (decide (20 < (t0.families.length : Int)))) || (decide (60 < (t0.constraints.length : Int)))) || (decide (8 < (t0.operations.length : Int)))) || (decide (30 < (t0.actions.length : Int)))) || (decide (12 < (t0.hides.length : Int)))) || (!((zb8 n t0.sorts t0.tables).getD default))) = true then
  some false
 else
  loopF (zj.l1 n t0) n 0
noncomputable def zaF.l1 (n : Nat) (t0 : List Int) (rec_10 : Int → Option Bool) (s : Int) : Option Bool :=
 let x3_9 := s
 if (decide (x3_9 < (t0.length : Int))) = true then
  (idx t0 x3_9).bind fun x12_11 =>
  grd ((decide (x12_11 < 1)) || (idx t0 x3_9).isSome) <|
  if ((decide (x12_11 < 1)) || (decide (6 < ((idx t0 x3_9).getD default)))) = true then
   some false
  else
   rec_10 (add64 x3_9 1)
 else
  some true
noncomputable def zaF (n : Nat) (t0 : List Int) : Option Bool :=
 loopF (zaF.l1 n t0) n 0
noncomputable def zab.l1 (n : Nat) (t0 : List Int) (t1 : List Int) (rec_19 : (Int × Int) → Option Int) (s : Int × Int) : Option Int :=
 let x5_17 := s.1
 let x6_18 := s.2
 if (decide (x6_18 < (t1.length : Int))) = true then
  (idx t1 x6_18).bind fun x23_20 =>
  grd ((decide (x23_20 < 0)) || (idx t1 x6_18).isSome) <|
  if ((decide (x23_20 < 0)) || (decide ((t0.length : Int) ≤ ((idx t1 x6_18).getD default)))) = true then
   some 0
  else
   (idx t1 x6_18).bind fun x39_23 =>
   (idx t0 x39_23).bind fun x41_24 =>
   rec_19 (mul64 x5_17 x41_24, add64 x6_18 1)
 else
  some x5_17
noncomputable def zab (n : Nat) (t0 : List Int) (t1 : List Int) : Option Int :=
 grd ((decide (3 < (t1.length : Int))) || (zaF n t0).isSome) <|
 if ((decide (3 < (t1.length : Int))) || (!((zaF n t0).getD default))) = true then
  some 0
 else
  loopF (zab.l1 n t0 t1) n (1, 0)
noncomputable def zat (n : Nat) (t0 : Int) : Option Bool :=
 some ((((t0 == 9) || (t0 == 10)) || (t0 == 13)) || (t0 == 32))
noncomputable def zaJ.l2 (n : Nat) (t0 : List UInt8) (rec_36 : Int → Option Int) (rec_50 : Int → Option Int) (s : Int) : Option Int :=
 let x1_49 := s
 grd (!(decide (x1_49 < (t0.length : Int))) || (sidx t0 x1_49).isSome) <|
 if ((decide (x1_49 < (t0.length : Int))) && (((sidx t0 x1_49).getD default) != 10)) = true then
  rec_50 (add64 x1_49 1)
 else
  rec_36 x1_49
noncomputable def zaJ.l1 (n : Nat) (t0 : List UInt8) (rec_36 : Int → Option Int) (s : Int) : Option Int :=
 let x1_35 := s
 grd (!(decide (x1_35 < (t0.length : Int))) || (sidx t0 x1_35).isSome) <|
 grd (!(decide (x1_35 < (t0.length : Int))) || (zat n ((sidx t0 x1_35).getD default)).isSome) <|
 grd (!(decide (x1_35 < (t0.length : Int))) || (((zat n ((sidx t0 x1_35).getD default)).getD default) || (sidx t0 x1_35).isSome)) <|
 if ((decide (x1_35 < (t0.length : Int))) && (((zat n ((sidx t0 x1_35).getD default)).getD default) || (((sidx t0 x1_35).getD default) == 35))) = true then
  (sidx t0 x1_35).bind fun x23_42 =>
  if (x23_42 == 35) = true then
   loopF (zaJ.l2 n t0 rec_36) n x1_35
  else
   rec_36 (add64 x1_35 1)
 else
  some x1_35
noncomputable def zaJ (n : Nat) (t0 : List UInt8) (t1 : Int) : Option Int :=
 loopF (zaJ.l1 n t0) n t1
noncomputable def zap (n : Nat) (t0 : Int) : Option Bool :=
 some ((decide (97 ≤ t0)) && (decide (t0 ≤ 122)))
noncomputable def zaz (n : Nat) (t0 : Int) : Option Bool :=
 some ((decide (48 ≤ t0)) && (decide (t0 ≤ 57)))
noncomputable def ref02_Keywords (n : Nat) : Option (List (List UInt8)) :=
 some [[115, 111, 114, 116], [114, 101, 108, 97, 116, 105, 111, 110], [99, 111, 117, 110, 116, 101, 114], [115, 101, 116], [114, 101, 103, 105, 115, 116, 101, 114], [105, 110, 118, 97, 114, 105, 97, 110, 116], [111, 112, 101, 114, 97, 116, 105, 111, 110], [107, 101, 121], [114, 101, 102, 101, 114, 101, 110, 99, 101], [116, 111], [99, 111, 117, 110, 116], [97, 99, 121, 99, 108, 105, 99], [97, 108, 108], [115, 117, 109], [105, 110], [97, 100, 100, 119, 105, 110, 115], [114, 101, 109, 111, 118, 101, 119, 105, 110, 115], [108, 97, 115, 116], [109, 117, 108, 116, 105], [104, 105, 100, 101], [111, 114, 100, 101, 114, 101, 100], [114, 101, 113, 117, 105, 114, 101], [104, 111, 108, 100], [105, 110, 115, 101, 114, 116], [100, 101, 108, 101, 116, 101], [97, 100, 100], [102, 114, 111, 109], [112, 117, 116], [100, 114, 111, 112], [97, 115, 115, 105, 103, 110], [102, 111, 114], [119, 104, 101, 114, 101], [97, 110, 100], [111, 114], [110, 111, 116]]
noncomputable def zcK.l1 (n : Nat) (t0 : List (List UInt8)) (t1 : List UInt8) (rec_6 : Int → Option Bool) (s : Int) : Option Bool :=
 let x5_5 := s
 if (decide (x5_5 < (t0.length : Int))) = true then
  (idx t0 x5_5).bind fun x14_7 =>
  if (decide (x14_7 = t1)) = true then
   some true
  else
   rec_6 (add64 x5_5 1)
 else
  some false
noncomputable def zcK (n : Nat) (t0 : List (List UInt8)) (t1 : List UInt8) : Option Bool :=
 loopF (zcK.l1 n t0 t1) n 0
noncomputable def ref02_Symbols (n : Nat) : Option (List (List UInt8)) :=
 some [[61, 61], [33, 61], [60, 61], [62, 61], [46, 46], [60], [62], [61], [43], [45], [42], [40], [41], [123], [125], [44], [58], [59]]
noncomputable def zaK.l1 (n : Nat) (t0 : List UInt8) (t1 : Int) (x8_1 : List (List UInt8)) (rec_13 : Int → Option Int) (s : Int) : Option Int :=
 let x6_12 := s
 if (decide (x6_12 < (x8_1.length : Int))) = true then
  (idx x8_1 x6_12).bind fun x17_14 =>
  grd (!(decide (add64 t1 (x17_14.length : Int) ≤ (t0.length : Int))) || (cut t0 t1 (add64 t1 (x17_14.length : Int))).isSome) <|
  grd (!(decide (add64 t1 (x17_14.length : Int) ≤ (t0.length : Int))) || (idx x8_1 x6_12).isSome) <|
  if ((decide (add64 t1 (x17_14.length : Int) ≤ (t0.length : Int))) && (decide (((cut t0 t1 (add64 t1 (x17_14.length : Int))).getD default) = ((idx x8_1 x6_12).getD default)))) = true then
   some (x17_14.length : Int)
  else
   rec_13 (add64 x6_12 1)
 else
  some 0
noncomputable def zaK (n : Nat) (t0 : List UInt8) (t1 : Int) : Option Int :=
 (ref02_Symbols n ).bind fun x8_1 =>
 loopF (zaK.l1 n t0 t1 x8_1) n 0
noncomputable def zac.l3 (n : Nat) (t0 : List UInt8) (rec_79 : Int → Option (Int × Int)) (s : Int) : Option (Int × Int) :=
 let x6_78 := s
 grd (!(decide (x6_78 < (t0.length : Int))) || (sidx t0 x6_78).isSome) <|
 grd (!(decide (x6_78 < (t0.length : Int))) || (zat n ((sidx t0 x6_78).getD default)).isSome) <|
 grd (!((decide (x6_78 < (t0.length : Int))) && (!((zat n ((sidx t0 x6_78).getD default)).getD default))) || (sidx t0 x6_78).isSome) <|
 grd (!(((decide (x6_78 < (t0.length : Int))) && (!((zat n ((sidx t0 x6_78).getD default)).getD default))) && (((sidx t0 x6_78).getD default) != 35)) || (sidx t0 x6_78).isSome) <|
 grd (!(((decide (x6_78 < (t0.length : Int))) && (!((zat n ((sidx t0 x6_78).getD default)).getD default))) && (((sidx t0 x6_78).getD default) != 35)) || (zap n ((sidx t0 x6_78).getD default)).isSome) <|
 grd (!((((decide (x6_78 < (t0.length : Int))) && (!((zat n ((sidx t0 x6_78).getD default)).getD default))) && (((sidx t0 x6_78).getD default) != 35)) && (!((zap n ((sidx t0 x6_78).getD default)).getD default))) || (sidx t0 x6_78).isSome) <|
 grd (!((((decide (x6_78 < (t0.length : Int))) && (!((zat n ((sidx t0 x6_78).getD default)).getD default))) && (((sidx t0 x6_78).getD default) != 35)) && (!((zap n ((sidx t0 x6_78).getD default)).getD default))) || (zaz n ((sidx t0 x6_78).getD default)).isSome) <|
 grd (!(((((decide (x6_78 < (t0.length : Int))) && (!((zat n ((sidx t0 x6_78).getD default)).getD default))) && (((sidx t0 x6_78).getD default) != 35)) && (!((zap n ((sidx t0 x6_78).getD default)).getD default))) && (!((zaz n ((sidx t0 x6_78).getD default)).getD default))) || (zaK n t0 x6_78).isSome) <|
 if ((((((decide (x6_78 < (t0.length : Int))) && (!((zat n ((sidx t0 x6_78).getD default)).getD default))) && (((sidx t0 x6_78).getD default) != 35)) && (!((zap n ((sidx t0 x6_78).getD default)).getD default))) && (!((zaz n ((sidx t0 x6_78).getD default)).getD default))) && (((zaK n t0 x6_78).getD default) == 0)) = true then
  rec_79 (add64 x6_78 1)
 else
  some (5, x6_78)
noncomputable def zac.l2 (n : Nat) (t0 : List UInt8) (rec_45 : Int → Option (Int × Int)) (s : Int) : Option (Int × Int) :=
 let x6_44 := s
 grd (!(decide (x6_44 < (t0.length : Int))) || (sidx t0 x6_44).isSome) <|
 grd (!(decide (x6_44 < (t0.length : Int))) || (zaz n ((sidx t0 x6_44).getD default)).isSome) <|
 if ((decide (x6_44 < (t0.length : Int))) && ((zaz n ((sidx t0 x6_44).getD default)).getD default)) = true then
  rec_45 (add64 x6_44 1)
 else
  some (3, x6_44)
noncomputable def zac.l1 (n : Nat) (t0 : List UInt8) (t1 : Int) (rec_22 : Int → Option (Int × Int)) (s : Int) : Option (Int × Int) :=
 let x6_21 := s
 grd (!(decide (x6_21 < (t0.length : Int))) || (sidx t0 x6_21).isSome) <|
 grd (!(decide (x6_21 < (t0.length : Int))) || (zap n ((sidx t0 x6_21).getD default)).isSome) <|
 grd (!(decide (x6_21 < (t0.length : Int))) || (((zap n ((sidx t0 x6_21).getD default)).getD default) || (sidx t0 x6_21).isSome)) <|
 grd (!(decide (x6_21 < (t0.length : Int))) || (((zap n ((sidx t0 x6_21).getD default)).getD default) || (zaz n ((sidx t0 x6_21).getD default)).isSome)) <|
 grd (!(decide (x6_21 < (t0.length : Int))) || ((((zap n ((sidx t0 x6_21).getD default)).getD default) || ((zaz n ((sidx t0 x6_21).getD default)).getD default)) || (sidx t0 x6_21).isSome)) <|
 if ((decide (x6_21 < (t0.length : Int))) && ((((zap n ((sidx t0 x6_21).getD default)).getD default) || ((zaz n ((sidx t0 x6_21).getD default)).getD default)) || (((sidx t0 x6_21).getD default) == 95))) = true then
  rec_22 (add64 x6_21 1)
 else
  (ref02_Keywords n ).bind fun x37_31 =>
  (cut t0 t1 x6_21).bind fun x41_32 =>
  (zcK n x37_31 x41_32).bind fun x42_33 =>
  if x42_33 = true then
   some (2, x6_21)
  else
   some (1, x6_21)
noncomputable def zac (n : Nat) (t0 : List UInt8) (t1 : Int) : Option (Int × Int) :=
 (sidx t0 t1).bind fun x11_1 =>
 (zap n x11_1).bind fun x12_2 =>
 if x12_2 = true then
  loopF (zac.l1 n t0 t1) n t1
 else
  (sidx t0 t1).bind fun x47_34 =>
  (zaz n x47_34).bind fun x48_35 =>
  if x48_35 = true then
   loopF (zac.l2 n t0) n t1
  else
   (zaK n t0 t1).bind fun x64_49 =>
   if (decide (0 < x64_49)) = true then
    some (4, add64 t1 x64_49)
   else
    loopF (zac.l3 n t0) n t1
noncomputable def zcc.l1 (n : Nat) (t0 : List UInt8) (rec_15 : ((List Token) × Int) → Option ((List Token) × Int)) (s : (List Token) × Int) : Option ((List Token) × Int) :=
 let b0_13 := s.1
 let x5_14 := s.2
 (zaJ n t0 x5_14).bind fun x15_16 =>
 if (decide (x15_16 < (t0.length : Int))) = true then
  (zaJ n t0 x5_14).bind fun x21_17 =>
  (zac n t0 x21_17).bind fun x25_18 =>
  (app 32 b0_13 [(⟨x25_18.1, x5_14, x21_17, x25_18.2⟩ : Token)]).bind fun x35_19 =>
  rec_15 (x35_19, x25_18.2)
 else
  (app 32 b0_13 [(⟨0, x5_14, (t0.length : Int), (t0.length : Int)⟩ : Token)]).bind fun x45_20 =>
  some (x45_20, 0)
noncomputable def zcc (n : Nat) (t0 : List UInt8) : Option ((List Token) × Int) :=
 if (decide (4096 < (t0.length : Int))) = true then
  some ([], 8)
 else
  loopF (zcc.l1 n t0) n (([] : List Token), 0)
noncomputable def ref02_Kind (n : Nat) (t0 : List UInt8) : Option Int :=
 (zcc n t0).bind fun x7_1 =>
 grd (((x7_1.2 != 0) || ((x7_1.1.length : Int) != 2)) || (idx x7_1.1 0).isSome) <|
 grd ((((x7_1.2 != 0) || ((x7_1.1.length : Int) != 2)) || ((((idx x7_1.1 0).getD default).at_) != 0)) || (idx x7_1.1 0).isSome) <|
 if ((((x7_1.2 != 0) || ((x7_1.1.length : Int) != 2)) || ((((idx x7_1.1 0).getD default).at_) != 0)) || ((((idx x7_1.1 0).getD default).end_) != (t0.length : Int))) = true then
  some 0
 else
  (idx x7_1.1 0).bind fun x34_7 =>
  some x34_7.kind
noncomputable def ref02_Name (n : Nat) (t0 : List UInt8) : Option Bool :=
 (ref02_Kind n t0).bind fun x4_1 =>
 some ((x4_1 == 1) && (decide ((t0.length : Int) ≤ 16)))
noncomputable def zb5 (n : Nat) (t0 : Int) : Option Bool :=
 some ((t0 == 0) || (t0 == 1))
noncomputable def zau.l2 (n : Nat) (t0 : List Int) (t1 : List Table) (x5_56 : Int) (x6_57 : Int) (x7_58 : Int) (k_62 : (Int × Int) → Option Bool) (x32_63 : Table) (rec_69 : Int → Option Bool) (s : Int) : Option Bool :=
 let x9_68 := s
 if (decide (x9_68 < x7_58)) = true then
  (idx t1 x9_68).bind fun x41_70 =>
  if (decide (x41_70.name = x32_63.name)) = true then
   some false
  else
   rec_69 (add64 x9_68 1)
 else
  (zab n t0 x32_63.columns).bind fun x50_71 =>
  (ref02_Name n x32_63.name).bind fun x53_72 =>
  if ((((!x53_72) || (decide (x32_63.kind < 0))) || (decide (5 < x32_63.kind))) || (x50_71 == 0)) = true then
   some false
  else
   if (((decide (x32_63.range.hi < x32_63.range.lo)) || (decide (x32_63.range.lo < (-9999)))) || (decide (9999 < x32_63.range.hi))) = true then
    some false
   else
    if ((((x32_63.kind == 0) || (x32_63.kind == 2)) || (x32_63.kind == 3)) && ((x32_63.range.lo != 0) || (x32_63.range.hi != 1))) = true then
     some false
    else
     (zb5 n x32_63.kind).bind fun x115_82 =>
     if x115_82 = true then
      if (x32_63.first != x5_56) = true then
       some false
      else
       k_62 (add64 x5_56 x50_71, x6_57)
     else
      if (x32_63.first != x6_57) = true then
       some false
      else
       k_62 (x5_56, add64 x6_57 x50_71)
noncomputable def zau.l1 (n : Nat) (t0 : List Int) (t1 : List Table) (rec_59 : (Int × Int × Int) → Option Bool) (s : Int × Int × Int) : Option Bool :=
 let x5_56 := s.1
 let x6_57 := s.2.1
 let x7_58 := s.2.2
 if (decide (x7_58 < (t1.length : Int))) = true then
  jn (fun (v : Int × Int) =>
   let x5_60 := v.1
   let x6_61 := v.2
   rec_59 (x5_60, x6_61, add64 x7_58 1)) fun k_62 =>
  (idx t1 x7_58).bind fun x32_63 =>
  loopF (zau.l2 n t0 t1 x5_56 x6_57 x7_58 k_62 x32_63) n 0
 else
  some ((decide (x5_56 ≤ 128)) && (decide (x6_57 ≤ 64)))
noncomputable def zau (n : Nat) (t0 : List Int) (t1 : List Table) : Option Bool :=
 grd ((decide (4 < (t0.length : Int))) || (zaF n t0).isSome) <|
 if (((decide (4 < (t0.length : Int))) || (!((zaF n t0).getD default))) || (decide (12 < (t1.length : Int)))) = true then
  some false
 else
  loopF (zau.l1 n t0 t1) n (0, 0, 0)
noncomputable def zao.l2 (n : Nat) (t0 : List Int) (t1 : List Table) (t2 : Bool) (x8_63 : Int) (rec_64 : ((List Range) × Int) → Option (List Range)) (rec_85 : ((List Range) × Int) → Option (List Range)) (s : (List Range) × Int) : Option (List Range) :=
 let b0_83 := s.1
 let x9_84 := s.2
 (idx t1 x8_63).bind fun x24_86 =>
 (zb5 n x24_86.kind).bind fun x27_87 =>
 grd (!(x27_87 == t2) || (idx t1 x8_63).isSome) <|
 grd (!(x27_87 == t2) || (zab n t0 (((idx t1 x8_63).getD default).columns)).isSome) <|
 if ((x27_87 == t2) && (decide (x9_84 < ((zab n t0 (((idx t1 x8_63).getD default).columns)).getD default)))) = true then
  (idx t1 x8_63).bind fun x46_91 =>
  (app 16 b0_83 [x46_91.range]).bind fun x50_92 =>
  rec_85 (x50_92, add64 x9_84 1)
 else
  rec_64 (b0_83, add64 x8_63 1)
noncomputable def zao.l1 (n : Nat) (t0 : List Int) (t1 : List Table) (t2 : Bool) (rec_64 : ((List Range) × Int) → Option (List Range)) (s : (List Range) × Int) : Option (List Range) :=
 let b0_62 := s.1
 let x8_63 := s.2
 if (decide (x8_63 < (t1.length : Int))) = true then
  loopF (zao.l2 n t0 t1 t2 x8_63 rec_64) n (b0_62, 0)
 else
  some b0_62
noncomputable def zao (n : Nat) (t0 : List Int) (t1 : List Table) (t2 : Bool) : Option (List Range) :=
 (zau n t0 t1).bind fun x13_1 =>
 if (!x13_1) = true then
  some ([] : List Range)
 else
  loopF (zao.l1 n t0 t1 t2) n (([] : List Range), 0)
noncomputable def ref13_strict (n : Nat) (t0 : Model) : Option (List Range) :=
 (zao n t0.sorts t0.tables true).bind fun x7_1 =>
 some x7_1
noncomputable def zbb.l2 (n : Nat) (x39_11 : List Range) (rec_22 : (Int × Int) → Option Bool) (s : Int × Int) : Option Bool :=
 let x5_20 := s.1
 let x6_21 := s.2
 if (decide (x6_21 < (x39_11.length : Int))) = true then
  (idx x39_11 x6_21).bind fun x52_23 =>
  (idx x39_11 x6_21).bind fun x57_24 =>
  if (decide (4096 < mul64 x5_20 (add64 (sub64 x52_23.hi x57_24.lo) 1))) = true then
   some false
  else
   rec_22 (mul64 x5_20 (add64 (sub64 x52_23.hi x57_24.lo) 1), add64 x6_21 1)
 else
  some true
noncomputable def zbb.l1 (n : Nat) (t0 : Model) (rec_9 : Int → Option Bool) (s : Int) : Option Bool :=
 let x3_8 := s
 if (decide (x3_8 < (t0.actions.length : Int))) = true then
  (idx t0.actions x3_8).bind fun x32_10 =>
  if (decide (4 < (x32_10.effect.hold.length : Int))) = true then
   some false
  else
   rec_9 (add64 x3_8 1)
 else
  (ref13_strict n t0).bind fun x39_11 =>
  if (decide (12 < (x39_11.length : Int))) = true then
   some false
  else
   loopF (zbb.l2 n x39_11) n (1, 0)
noncomputable def zbb (n : Nat) (t0 : Model) : Option Bool :=
 (zj n t0).bind fun x8_1 =>
 if (((!x8_1) || (decide (12 < (t0.actions.length : Int)))) || (decide (40 < (t0.constraints.length : Int)))) = true then
  some false
 else
  loopF (zbb.l1 n t0) n 0
noncomputable def ref16_Strict (n : Nat) (t0 : Int) : Option Bool :=
 some ((t0 == 0) || (t0 == 1))
noncomputable def zbO.l1 (n : Nat) (t0 : Model) (t1 : Table) (rec_11 : (Int × Int) → Option Int) (s : Int × Int) : Option Int :=
 let x5_9 := s.1
 let x6_10 := s.2
 if (decide (x6_10 < (t1.columns.length : Int))) = true then
  (idx t1.columns x6_10).bind fun x20_12 =>
  (idx t0.sorts x20_12).bind fun x22_13 =>
  rec_11 (mul64 x5_9 x22_13, add64 x6_10 1)
 else
  some x5_9
noncomputable def zbO (n : Nat) (t0 : Model) (t1 : Table) : Option Int :=
 loopF (zbO.l1 n t0 t1) n (1, 0)
noncomputable def zbo.l2 (n : Nat) (t0 : Model) (x4_52 : Int) (k_55 : ((List Range)) → Option (List Range)) (rec_72 : ((List Range) × Int) → Option (List Range)) (s : (List Range) × Int) : Option (List Range) :=
 let b0_70 := s.1
 let x5_71 := s.2
 (idx t0.tables x4_52).bind fun x26_73 =>
 (zbO n t0 x26_73).bind fun x28_74 =>
 if (decide (x5_71 < x28_74)) = true then
  (idx t0.tables x4_52).bind fun x36_75 =>
  (app 16 b0_70 [x36_75.range]).bind fun x40_76 =>
  rec_72 (x40_76, add64 x5_71 1)
 else
  k_55 b0_70
noncomputable def zbo.l1 (n : Nat) (t0 : Model) (rec_53 : ((List Range) × Int) → Option (List Range)) (s : (List Range) × Int) : Option (List Range) :=
 let b0_51 := s.1
 let x4_52 := s.2
 if (decide (x4_52 < (t0.tables.length : Int))) = true then
  jn (fun (v : (List Range)) =>
   let b0_54 := v
   rec_53 (b0_54, add64 x4_52 1)) fun k_55 =>
  (idx t0.tables x4_52).bind fun x17_56 =>
  (ref16_Strict n x17_56.kind).bind fun x20_57 =>
  if x20_57 = true then
   loopF (zbo.l2 n t0 x4_52 k_55) n (b0_51, 0)
  else
   k_55 b0_51
 else
  some b0_51
noncomputable def zbo (n : Nat) (t0 : Model) : Option (List Range) :=
 loopF (zbo.l1 n t0) n (([] : List Range), 0)
noncomputable def zan (n : Nat) (t0 : Int) (t1 : Int) (t2 : Int) : Option Bool :=
 some ((decide (t1 ≤ t0)) && (decide (t0 ≤ t2)))
noncomputable def zcQ.l1 (n : Nat) (t0 : Row) (t1 : Int) (rec_17 : (Int × Int) → Option Bool) (s : Int × Int) : Option Bool :=
 let x5_15 := s.1
 let x6_16 := s.2
 if (decide (x6_16 < (t0.terms.length : Int))) = true then
  (idx t0.terms x6_16).bind fun x18_18 =>
  grd ((((decide (x18_18.cell ≤ x5_15)) || (decide (t1 ≤ x18_18.cell))) || (x18_18.factor == 0)) || (zan n x18_18.factor (-1000) 1000).isSome) <|
  if ((((decide (x18_18.cell ≤ x5_15)) || (decide (t1 ≤ x18_18.cell))) || (x18_18.factor == 0)) || (!((zan n x18_18.factor (-1000) 1000).getD default))) = true then
   some false
  else
   rec_17 (x18_18.cell, add64 x6_16 1)
 else
  (zan n t0.bound (-1000000000) 1000000000).bind fun x45_23 =>
  some x45_23
noncomputable def zcQ (n : Nat) (t0 : Row) (t1 : Int) : Option Bool :=
 loopF (zcQ.l1 n t0 t1) n ((-1), 0)
noncomputable def zG.l2 (n : Nat) (t0 : List Range) (t1 : List Row) (rec_27 : Int → Option Bool) (s : Int) : Option Bool :=
 let x6_26 := s
 if (decide (x6_26 < (t1.length : Int))) = true then
  (idx t1 x6_26).bind fun x40_28 =>
  (zcQ n x40_28 (t0.length : Int)).bind fun x44_29 =>
  if (!x44_29) = true then
   some false
  else
   rec_27 (add64 x6_26 1)
 else
  some true
noncomputable def zG.l1 (n : Nat) (t0 : List Range) (t1 : List Row) (rec_14 : Int → Option Bool) (s : Int) : Option Bool :=
 let x5_13 := s
 if (decide (x5_13 < (t0.length : Int))) = true then
  (idx t0 x5_13).bind fun x18_15 =>
  (zan n x18_15.lo (-1000000) 1000000).bind fun x21_16 =>
  grd ((!x21_16) || (idx t0 x5_13).isSome) <|
  grd ((!x21_16) || (zan n (((idx t0 x5_13).getD default).hi) (-1000000) 1000000).isSome) <|
  if ((!x21_16) || (!((zan n (((idx t0 x5_13).getD default).hi) (-1000000) 1000000).getD default))) = true then
   some false
  else
   rec_14 (add64 x5_13 1)
 else
  loopF (zG.l2 n t0 t1) n 0
noncomputable def zG (n : Nat) (t0 : List Range) (t1 : List Row) : Option Bool :=
 if (decide (128 < (t0.length : Int))) = true then
  some false
 else
  loopF (zG.l1 n t0 t1) n 0
noncomputable def zbc.l1 (n : Nat) (t0 : List Range) (rec_8 : Int → Option Bool) (s : Int) : Option Bool :=
 let x3_7 := s
 if (decide (x3_7 < (t0.length : Int))) = true then
  (idx t0 x3_7).bind fun x12_9 =>
  (idx t0 x3_7).bind fun x17_10 =>
  if (decide (x17_10.hi < x12_9.lo)) = true then
   some true
  else
   rec_8 (add64 x3_7 1)
 else
  some false
noncomputable def zbc (n : Nat) (t0 : List Range) : Option Bool :=
 loopF (zbc.l1 n t0) n 0
noncomputable def zR.l3 (n : Nat) (x4_61 : Int) (rec_62 : Int → Option Bool) (x71_63 : Graph) (rec_77 : Int → Option Bool) (s : Int) : Option Bool :=
 let x6_76 := s
 if (decide (x6_76 < (x71_63.least.length : Int))) = true then
  (idx x71_63.least x6_76).bind fun x121_78 =>
  grd ((decide (x121_78 < (-4000000))) || (idx x71_63.least x6_76).isSome) <|
  if ((decide (x121_78 < (-4000000))) || (decide (4000000 < ((idx x71_63.least x6_76).getD default)))) = true then
   some false
  else
   rec_77 (add64 x6_76 1)
 else
  rec_62 (add64 x4_61 1)
noncomputable def zR.l2 (n : Nat) (t0 : System) (rec_62 : Int → Option Bool) (s : Int) : Option Bool :=
 let x4_61 := s
 if (decide (x4_61 < (t0.graphs.length : Int))) = true then
  (idx t0.graphs x4_61).bind fun x71_63 =>
  if (((((decide (x71_63.size < 1)) || (decide (6 < x71_63.size))) || (decide (x71_63.first < 0))) || (decide (sub64 (t0.box.length : Int) (mul64 x71_63.size x71_63.size) < x71_63.first))) || ((x71_63.least.length : Int) != (mul64 x71_63.size x71_63.size))) = true then
   some false
  else
   loopF (zR.l3 n x4_61 rec_62 x71_63) n 0
 else
  some true
noncomputable def zR.l1 (n : Nat) (t0 : System) (rec_18 : Int → Option Bool) (s : Int) : Option Bool :=
 let x3_17 := s
 if (decide (x3_17 < (t0.cases.length : Int))) = true then
  (idx t0.cases x3_17).bind fun x46_19 =>
  grd ((decide (64 < (x46_19.length : Int))) || (idx t0.cases x3_17).isSome) <|
  grd ((decide (64 < (x46_19.length : Int))) || (zG n t0.box ((idx t0.cases x3_17).getD default)).isSome) <|
  if ((decide (64 < (x46_19.length : Int))) || (!((zG n t0.box ((idx t0.cases x3_17).getD default)).getD default))) = true then
   some false
  else
   rec_18 (add64 x3_17 1)
 else
  loopF (zR.l2 n t0) n 0
noncomputable def zR (n : Nat) (t0 : System) : Option Bool :=
 grd ((((decide (1024 < (t0.rows.length : Int))) || (decide (64 < (t0.graphs.length : Int)))) || (decide (1024 < (t0.cases.length : Int)))) || (zG n t0.box t0.rows).isSome) <|
 grd (((((decide (1024 < (t0.rows.length : Int))) || (decide (64 < (t0.graphs.length : Int)))) || (decide (1024 < (t0.cases.length : Int)))) || (!((zG n t0.box t0.rows).getD default))) || (zbc n t0.box).isSome) <|
 if (((((decide (1024 < (t0.rows.length : Int))) || (decide (64 < (t0.graphs.length : Int)))) || (decide (1024 < (t0.cases.length : Int)))) || (!((zG n t0.box t0.rows).getD default))) || ((zbc n t0.box).getD default)) = true then
  some false
 else
  loopF (zR.l1 n t0) n 0
noncomputable def zce.l1 (n : Nat) (t0 : List Range) (t1 : List Range) (rec_8 : Int → Option Bool) (s : Int) : Option Bool :=
 let x5_7 := s
 if (decide (x5_7 < (t0.length : Int))) = true then
  (idx t0 x5_7).bind fun x19_9 =>
  (idx t1 x5_7).bind fun x23_10 =>
  if (!decide ((x19_9 : Range) = x23_10)) = true then
   some false
  else
   rec_8 (add64 x5_7 1)
 else
  some true
noncomputable def zce (n : Nat) (t0 : List Range) (t1 : List Range) : Option Bool :=
 if ((t0.length : Int) != (t1.length : Int)) = true then
  some false
 else
  loopF (zce.l1 n t0 t1) n 0
noncomputable def zbf.l1 (n : Nat) (t0 : Row) (t1 : Row) (rec_8 : Int → Option Bool) (s : Int) : Option Bool :=
 let x5_7 := s
 if (decide (x5_7 < (t0.terms.length : Int))) = true then
  (idx t0.terms x5_7).bind fun x23_9 =>
  (idx t1.terms x5_7).bind fun x28_10 =>
  if (!decide ((x23_9 : Term) = x28_10)) = true then
   some false
  else
   rec_8 (add64 x5_7 1)
 else
  some true
noncomputable def zbf (n : Nat) (t0 : Row) (t1 : Row) : Option Bool :=
 if ((t0.terms.length : Int) != (t1.terms.length : Int)) = true then
  some false
 else
  loopF (zbf.l1 n t0 t1) n 0
noncomputable def zbk.l1 (n : Nat) (t0 : List Row) (t1 : List Row) (rec_16 : Int → Option Bool) (s : Int) : Option Bool :=
 let x5_15 := s
 if (decide (x5_15 < (t0.length : Int))) = true then
  (idx t0 x5_15).bind fun x19_17 =>
  (idx t1 x5_15).bind fun x24_18 =>
  grd ((x19_17.bound != x24_18.bound) || (idx t0 x5_15).isSome) <|
  grd ((x19_17.bound != x24_18.bound) || (idx t1 x5_15).isSome) <|
  grd ((x19_17.bound != x24_18.bound) || (zbf n ((idx t0 x5_15).getD default) ((idx t1 x5_15).getD default)).isSome) <|
  if ((x19_17.bound != x24_18.bound) || (!((zbf n ((idx t0 x5_15).getD default) ((idx t1 x5_15).getD default)).getD default))) = true then
   some false
  else
   rec_16 (add64 x5_15 1)
 else
  some true
noncomputable def zbk (n : Nat) (t0 : List Row) (t1 : List Row) : Option Bool :=
 if ((t0.length : Int) != (t1.length : Int)) = true then
  some false
 else
  loopF (zbk.l1 n t0 t1) n 0
noncomputable def zbD.l1 (n : Nat) (t0 : List Int) (t1 : List Int) (rec_8 : Int → Option Bool) (s : Int) : Option Bool :=
 let x5_7 := s
 if (decide (x5_7 < (t0.length : Int))) = true then
  (idx t0 x5_7).bind fun x19_9 =>
  (idx t1 x5_7).bind fun x23_10 =>
  if (x19_9 != x23_10) = true then
   some false
  else
   rec_8 (add64 x5_7 1)
 else
  some true
noncomputable def zbD (n : Nat) (t0 : List Int) (t1 : List Int) : Option Bool :=
 if ((t0.length : Int) != (t1.length : Int)) = true then
  some false
 else
  loopF (zbD.l1 n t0 t1) n 0
noncomputable def zar.l2 (n : Nat) (t0 : System) (t1 : System) (rec_46 : Int → Option Bool) (s : Int) : Option Bool :=
 let x6_45 := s
 if (decide (x6_45 < (t0.cases.length : Int))) = true then
  (idx t0.cases x6_45).bind fun x100_47 =>
  (idx t1.cases x6_45).bind fun x105_48 =>
  (zbk n x100_47 x105_48).bind fun x107_49 =>
  if (!x107_49) = true then
   some false
  else
   rec_46 (add64 x6_45 1)
 else
  some true
noncomputable def zar.l1 (n : Nat) (t0 : System) (t1 : System) (rec_27 : Int → Option Bool) (s : Int) : Option Bool :=
 let x5_26 := s
 if (decide (x5_26 < (t0.graphs.length : Int))) = true then
  (idx t0.graphs x5_26).bind fun x49_28 =>
  (idx t1.graphs x5_26).bind fun x55_29 =>
  grd ((x49_28.first != x55_29.first) || (idx t0.graphs x5_26).isSome) <|
  grd ((x49_28.first != x55_29.first) || (idx t1.graphs x5_26).isSome) <|
  grd (((x49_28.first != x55_29.first) || ((((idx t0.graphs x5_26).getD default).size) != (((idx t1.graphs x5_26).getD default).size))) || (idx t0.graphs x5_26).isSome) <|
  grd (((x49_28.first != x55_29.first) || ((((idx t0.graphs x5_26).getD default).size) != (((idx t1.graphs x5_26).getD default).size))) || (idx t1.graphs x5_26).isSome) <|
  grd (((x49_28.first != x55_29.first) || ((((idx t0.graphs x5_26).getD default).size) != (((idx t1.graphs x5_26).getD default).size))) || (zbD n (((idx t0.graphs x5_26).getD default).least) (((idx t1.graphs x5_26).getD default).least)).isSome) <|
  if (((x49_28.first != x55_29.first) || ((((idx t0.graphs x5_26).getD default).size) != (((idx t1.graphs x5_26).getD default).size))) || (!((zbD n (((idx t0.graphs x5_26).getD default).least) (((idx t1.graphs x5_26).getD default).least)).getD default))) = true then
   some false
  else
   rec_27 (add64 x5_26 1)
 else
  loopF (zar.l2 n t0 t1) n 0
noncomputable def zar (n : Nat) (t0 : System) (t1 : System) : Option Bool :=
 (zce n t0.box t1.box).bind fun x11_1 =>
 grd ((!x11_1) || (zbk n t0.rows t1.rows).isSome) <|
 if ((((!x11_1) || (!((zbk n t0.rows t1.rows).getD default))) || ((t0.graphs.length : Int) != (t1.graphs.length : Int))) || ((t0.cases.length : Int) != (t1.cases.length : Int))) = true then
  some false
 else
  loopF (zar.l1 n t0 t1) n 0
noncomputable def zY.l1 (n : Nat) (t0 : List Range) (t1 : List Int) (rec_12 : Int → Option Bool) (s : Int) : Option Bool :=
 let x5_11 := s
 if (decide (x5_11 < (t0.length : Int))) = true then
  (idx t1 x5_11).bind fun x19_13 =>
  (idx t0 x5_11).bind fun x23_14 =>
  (idx t0 x5_11).bind fun x28_15 =>
  (zan n x19_13 x23_14.lo x28_15.hi).bind fun x31_16 =>
  if (!x31_16) = true then
   some false
  else
   rec_12 (add64 x5_11 1)
 else
  some true
noncomputable def zY (n : Nat) (t0 : List Range) (t1 : List Int) : Option Bool :=
 if ((t0.length : Int) != (t1.length : Int)) = true then
  some false
 else
  loopF (zY.l1 n t0 t1) n 0
noncomputable def zbe.l1 (n : Nat) (t1 : List Int) (rec_12 : Int → Option Bool) (s : Int) : Option Bool :=
 let x5_11 := s
 if (decide (x5_11 < (t1.length : Int))) = true then
  (idx t1 x5_11).bind fun x25_13 =>
  grd ((decide (x25_13 < (-4000000))) || (idx t1 x5_11).isSome) <|
  if ((decide (x25_13 < (-4000000))) || (decide (4000000 < ((idx t1 x5_11).getD default)))) = true then
   some false
  else
   rec_12 (add64 x5_11 1)
 else
  some true
noncomputable def zbe (n : Nat) (t0 : System) (t1 : List Int) : Option Bool :=
 (zR n t0).bind fun x7_1 =>
 if ((!x7_1) || ((t1.length : Int) != (t0.box.length : Int))) = true then
  some false
 else
  loopF (zbe.l1 n t1) n 0
noncomputable def zaH.l1 (n : Nat) (t0 : Row) (t1 : List Int) (rec_13 : (Int × Int) → Option Int) (s : Int × Int) : Option Int :=
 let x5_11 := s.1
 let x6_12 := s.2
 if (decide (x6_12 < (t0.terms.length : Int))) = true then
  (idx t0.terms x6_12).bind fun x18_14 =>
  (idx t0.terms x6_12).bind fun x25_15 =>
  (idx t1 x25_15.cell).bind fun x28_16 =>
  rec_13 (add64 x5_11 (mul64 x18_14.factor x28_16), add64 x6_12 1)
 else
  some x5_11
noncomputable def zaH (n : Nat) (t0 : Row) (t1 : List Int) : Option Int :=
 loopF (zaH.l1 n t0 t1) n (0, 0)
noncomputable def zbu.l1 (n : Nat) (t0 : Graph) (t1 : List Int) (rec_13 : ((List Bool) × Int) → Option (List Bool)) (s : (List Bool) × Int) : Option (List Bool) :=
 let b0_11 := s.1
 let x6_12 := s.2
 if (decide (x6_12 < mul64 t0.size t0.size)) = true then
  (idx t1 (add64 t0.first x6_12)).bind fun x23_14 =>
  (idx t0.least x6_12).bind fun x28_15 =>
  (app 1 b0_11 [decide (x28_15 ≤ x23_14)]).bind fun x32_16 =>
  rec_13 (x32_16, add64 x6_12 1)
 else
  some b0_11
noncomputable def zbu (n : Nat) (t0 : Graph) (t1 : List Int) : Option (List Bool) :=
 loopF (zbu.l1 n t0 t1) n (([] : List Bool), 0)
noncomputable def zl.l5 (n : Nat) (t0 : Int) (b0_185 : List Bool) (rec_278 : Int → Option Bool) (s : Int) : Option Bool :=
 let x11_277 := s
 if (decide (x11_277 < t0)) = true then
  (idx b0_185 x11_277).bind fun x61_279 =>
  if x61_279 = true then
   some false
  else
   rec_278 (add64 x11_277 1)
 else
  some true
noncomputable def zl.l4 (n : Nat) (t0 : Int) (t1 : List Bool) (b0_244 : List Bool) (x8_245 : Int) (k_248 : ((List Bool)) → Option Bool) (rec_265 : (Bool × Int) → Option Bool) (s : Bool × Int) : Option Bool :=
 let x9_263 := s.1
 let x10_264 := s.2
 if (decide (x10_264 < t0)) = true then
  jn (fun (v : Bool) =>
   let x9_266 := v
   rec_265 (x9_266, add64 x10_264 1)) fun k_267 =>
  (idx b0_244 x10_264).bind fun x38_268 =>
  grd (!x38_268 || (idx t1 (add64 (mul64 x10_264 t0) x8_245)).isSome) <|
  if (x38_268 && ((idx t1 (add64 (mul64 x10_264 t0) x8_245)).getD default)) = true then
   k_267 false
  else
   k_267 x9_263
 else
  if x9_263 = true then
   (idx b0_244 x8_245).bind fun x53_271 =>
   (sto b0_244 x8_245 false).bind fun b0_272 =>
   k_248 b0_272
  else
   k_248 b0_244
noncomputable def zl.l3 (n : Nat) (t0 : Int) (t1 : List Bool) (x7_186 : Int) (rec_187 : ((List Bool) × Int) → Option Bool) (rec_246 : ((List Bool) × Int) → Option Bool) (s : (List Bool) × Int) : Option Bool :=
 let b0_244 := s.1
 let x8_245 := s.2
 if (decide (x8_245 < t0)) = true then
  jn (fun (v : (List Bool)) =>
   let b0_247 := v
   rec_246 (b0_247, add64 x8_245 1)) fun k_248 =>
  loopF (zl.l4 n t0 t1 b0_244 x8_245 k_248) n (true, 0)
 else
  rec_187 (b0_244, add64 x7_186 1)
noncomputable def zl.l2 (n : Nat) (t0 : Int) (t1 : List Bool) (rec_187 : ((List Bool) × Int) → Option Bool) (s : (List Bool) × Int) : Option Bool :=
 let b0_185 := s.1
 let x7_186 := s.2
 if (decide (x7_186 < t0)) = true then
  loopF (zl.l3 n t0 t1 x7_186 rec_187) n (b0_185, 0)
 else
  loopF (zl.l5 n t0 b0_185) n 0
noncomputable def zl.l1 (n : Nat) (t0 : Int) (t1 : List Bool) (rec_9 : ((List Bool) × Int) → Option Bool) (s : (List Bool) × Int) : Option Bool :=
 let b0_7 := s.1
 let x6_8 := s.2
 if (decide (x6_8 < t0)) = true then
  (app 1 b0_7 [true]).bind fun x20_10 =>
  rec_9 (x20_10, add64 x6_8 1)
 else
  loopF (zl.l2 n t0 t1) n (b0_7, 0)
noncomputable def zl (n : Nat) (t0 : Int) (t1 : List Bool) : Option Bool :=
 loopF (zl.l1 n t0 t1) n (([] : List Bool), 0)
noncomputable def zaA.l2 (n : Nat) (t0 : System) (t1 : List Int) (b0_18 : List Int) (rec_47 : ((List Int) × Int) → Option ((List Int) × (List Int))) (s : (List Int) × Int) : Option ((List Int) × (List Int)) :=
 let b1_45 := s.1
 let x9_46 := s.2
 if (decide (x9_46 < (t0.graphs.length : Int))) = true then
  jn (fun (v : (List Int)) =>
   let b1_48 := v
   rec_47 (b1_48, add64 x9_46 1)) fun k_49 =>
  (idx t0.graphs x9_46).bind fun x51_50 =>
  (idx t0.graphs x9_46).bind fun x57_51 =>
  (zbu n x57_51 t1).bind fun x60_52 =>
  (zl n x51_50.size x60_52).bind fun x61_53 =>
  if (!x61_53) = true then
   (app 8 b1_45 [x9_46]).bind fun x66_54 =>
   k_49 x66_54
  else
   k_49 b1_45
 else
  some (b0_18, b1_45)
noncomputable def zaA.l1 (n : Nat) (t0 : System) (t1 : List Int) (rec_20 : ((List Int) × Int) → Option ((List Int) × (List Int))) (s : (List Int) × Int) : Option ((List Int) × (List Int)) :=
 let b0_18 := s.1
 let x8_19 := s.2
 if (decide (x8_19 < (t0.rows.length : Int))) = true then
  jn (fun (v : (List Int)) =>
   let b0_21 := v
   rec_20 (b0_21, add64 x8_19 1)) fun k_22 =>
  (idx t0.rows x8_19).bind fun x26_23 =>
  (zaH n x26_23 t1).bind fun x29_24 =>
  (idx t0.rows x8_19).bind fun x33_25 =>
  if (decide (x33_25.bound < x29_24)) = true then
   (app 8 b0_18 [x8_19]).bind fun x40_26 =>
   k_22 x40_26
  else
   k_22 b0_18
 else
  loopF (zaA.l2 n t0 t1 b0_18) n (([] : List Int), 0)
noncomputable def zaA (n : Nat) (t0 : System) (t1 : List Int) : Option ((List Int) × (List Int)) :=
 (zbe n t0 t1).bind fun x12_1 =>
 if (!x12_1) = true then
  some ([], [])
 else
  loopF (zaA.l1 n t0 t1) n (([] : List Int), 0)
noncomputable def zaR.l2 (n : Nat) (t0 : System) (t1 : List Int) (x6_66 : Int) (rec_67 : Int → Option (Int × Bool)) (rec_90 : (Bool × Int) → Option (Int × Bool)) (s : Bool × Int) : Option (Int × Bool) :=
 let x7_88 := s.1
 let x8_89 := s.2
 (idx t0.cases x6_66).bind fun x24_91 =>
 if (decide (x8_89 < (x24_91.length : Int))) = true then
  jn (fun (v : Bool) =>
   let x7_92 := v
   rec_90 (x7_92, add64 x8_89 1)) fun k_93 =>
  (idx t0.cases x6_66).bind fun x33_94 =>
  (idx x33_94 x8_89).bind fun x36_95 =>
  (zaH n x36_95 t1).bind fun x39_96 =>
  (idx t0.cases x6_66).bind fun x43_97 =>
  (idx x43_97 x8_89).bind fun x46_98 =>
  if (decide (x46_98.bound < x39_96)) = true then
   k_93 false
  else
   k_93 x7_88
 else
  if x7_88 = true then
   some (x6_66, true)
  else
   rec_67 (add64 x6_66 1)
noncomputable def zaR.l1 (n : Nat) (t0 : System) (t1 : List Int) (rec_67 : Int → Option (Int × Bool)) (s : Int) : Option (Int × Bool) :=
 let x6_66 := s
 if (decide (x6_66 < (t0.cases.length : Int))) = true then
  loopF (zaR.l2 n t0 t1 x6_66 rec_67) n (true, 0)
 else
  some (0, false)
noncomputable def zaR (n : Nat) (t0 : System) (t1 : List Int) : Option (Int × Bool) :=
 (zbe n t0 t1).bind fun x11_1 =>
 if (!x11_1) = true then
  some (0, false)
 else
  loopF (zaR.l1 n t0 t1) n 0
noncomputable def zb2 (n : Nat) (t0 : System) (t1 : List Int) : Option Bool :=
 (zR n t0).bind fun x10_1 =>
 grd ((!x10_1) || (zY n t0.box t1).isSome) <|
 if ((!x10_1) || (!((zY n t0.box t1).getD default))) = true then
  some false
 else
  (zaA n t0 t1).bind fun x22_4 =>
  (zaR n t0 t1).bind fun x28_5 =>
  some ((((x22_4.1.length : Int) == 0) && ((x22_4.2.length : Int) == 0)) && (((t0.cases.length : Int) == 0) || x28_5.2))
noncomputable def zbL.l1 (n : Nat) (t0 : List Range) (rec_11 : ((List Int) × Int) → Option (List Int)) (s : (List Int) × Int) : Option (List Int) :=
 let b0_9 := s.1
 let x4_10 := s.2
 if (decide (x4_10 < (t0.length : Int))) = true then
  (idx t0 x4_10).bind fun x15_12 =>
  (app 8 b0_9 [x15_12.lo]).bind fun x19_13 =>
  rec_11 (x19_13, add64 x4_10 1)
 else
  some b0_9
noncomputable def zbL (n : Nat) (t0 : List Range) : Option (List Int) :=
 loopF (zbL.l1 n t0) n (([] : List Int), 0)
noncomputable def za8.l2 (n : Nat) (t0 : List Range) (t1 : List Int) (x6_72 : Int) (rec_98 : ((List Int) × Int) → Option ((List Int) × Bool)) (s : (List Int) × Int) : Option ((List Int) × Bool) :=
 let b0_96 := s.1
 let x8_97 := s.2
 if (decide (x8_97 < (t0.length : Int))) = true then
  jn (fun (v : (List Int)) =>
   let b0_99 := v
   rec_98 (b0_99, add64 x8_97 1)) fun k_100 =>
  if (decide (x8_97 < x6_72)) = true then
   (idx t1 x8_97).bind fun x57_101 =>
   (app 8 b0_96 [x57_101]).bind fun x60_102 =>
   k_100 x60_102
  else
   if (x8_97 == x6_72) = true then
    (idx t1 x8_97).bind fun x68_103 =>
    (app 8 b0_96 [add64 x68_103 1]).bind fun x72_104 =>
    k_100 x72_104
   else
    (idx t0 x8_97).bind fun x45_105 =>
    (app 8 b0_96 [x45_105.lo]).bind fun x49_106 =>
    k_100 x49_106
 else
  some (b0_96, true)
noncomputable def za8.l1 (n : Nat) (t0 : List Range) (t1 : List Int) (rec_73 : Int → Option ((List Int) × Bool)) (s : Int) : Option ((List Int) × Bool) :=
 let x6_72 := s
 if (decide (0 ≤ x6_72)) = true then
  (idx t1 x6_72).bind fun x27_74 =>
  (idx t0 x6_72).bind fun x31_75 =>
  if (decide (x27_74 < x31_75.hi)) = true then
   loopF (za8.l2 n t0 t1 x6_72) n (([] : List Int), 0)
  else
   rec_73 (sub64 x6_72 1)
 else
  some ([], false)
noncomputable def za8 (n : Nat) (t0 : List Range) (t1 : List Int) : Option ((List Int) × Bool) :=
 (zG n t0 ([] : List Row)).bind fun x10_1 =>
 grd ((!x10_1) || (zY n t0 t1).isSome) <|
 if ((!x10_1) || (!((zY n t0 t1).getD default))) = true then
  some ([], false)
 else
  loopF (za8.l1 n t0 t1) n (sub64 (t0.length : Int) 1)
noncomputable def zbp.l1 (n : Nat) (t1 : (List Int) → Option Bool) (x9_1 : List Range) (rec_13 : ((List Int) × Bool) → Option Bool) (s : (List Int) × Bool) : Option Bool :=
 let x6_11 := s.1
 let x7_12 := s.2
 if x7_12 = true then
  (t1 x6_11).bind fun x15_14 =>
  if (!x15_14) = true then
   some false
  else
   (za8 n x9_1 x6_11).bind fun x20_15 =>
   rec_13 (x20_15.1, x20_15.2)
 else
  some true
noncomputable def zbp (n : Nat) (t0 : Model) (t1 : (List Int) → Option Bool) : Option Bool :=
 (zbo n t0).bind fun x9_1 =>
 (zbL n x9_1).bind fun x11_2 =>
 loopF (zbp.l1 n t1 x9_1) n (x11_2, true)
noncomputable def zaU (n : Nat) (t0 : List Int) (t1 : System) (t2 : System) : Option Bool :=
 (zb2 n t1 t0).bind fun x7_1 =>
 grd ((!x7_1) || (zb2 n t2 t0).isSome) <|
 some ((!x7_1) || ((zb2 n t2 t0).getD default))
noncomputable def zbK (n : Nat) (t0 : Model) (t1 : Question) (t2 : List Int) : Option Bool :=
 (law22_awake n ).bind fun x13_1 =>
 if (!x13_1) = true then
  some false
 else
  (zbb n t0).bind fun x16_2 =>
  if ((!x16_2) || (decide (20 < (t2.length : Int)))) = true then
   some true
  else
   (zc n t0 t1 t2).bind fun x27_4 =>
   if ((x27_4.2 != 0) || ((t2.length : Int) == 0)) = true then
    some true
   else
    (cut t2 1 (t2.length : Int)).bind fun x41_6 =>
    (zc n t0 t1 x41_6).bind fun x42_7 =>
    (app 8 [] t2).bind fun x49_8 =>
    (idx t2 0).bind fun x51_9 =>
    (app 8 x49_8 [x51_9]).bind fun x54_10 =>
    (zc n t0 t1 x54_10).bind fun x55_11 =>
    grd (((x42_7.2 != 0) || (x55_11.2 != 0)) || (zar n x27_4.1 x55_11.1).isSome) <|
    if (((x42_7.2 != 0) || (x55_11.2 != 0)) || (!((zar n x27_4.1 x55_11.1).getD default))) = true then
     some false
    else
     grd (!(!t1.target.hold) || (idx t2 0).isSome) <|
     grd (!((!t1.target.hold) && (((idx t2 0).getD default) == t1.target.index)) || (zar n x27_4.1 x42_7.1).isSome) <|
     if (((!t1.target.hold) && (((idx t2 0).getD default) == t1.target.index)) && (!((zar n x27_4.1 x42_7.1).getD default))) = true then
      some false
     else
      (zbp n t0 (fun q0 => zaU n q0 x27_4.1 x42_7.1)).bind fun x91_19 =>
      some x91_19
end Go.Proofs.YtcagdmegicijlaaGreatDoor
namespace Go.Proofs.YtcagdmegicijlaaGreatDoor
open Go Go.RowKit
theorem law22_example_ok (n : Nat) (r : Model) (h : law22_example n = some r) : Pure Tryz.prog 36 [] (Model.enc r) := by
 refine Pure.ot Tryz.func36 I Tryz.ntmps36 I fun A w => .sr<|.allocZ I I I I (.agg Zc30 (ds' := [.sl 1 (List.map D.int []), .sl 6 (List.map Table.enc []), .sl 1 (List.map D.str []), .sl 6 (List.map Constraint.enc []), .sl 3 (List.map Operation.enc []), .sl 5 (List.map Action.enc []), .sl 3 (List.map Hide.enc [])]) (.cons (.nil _) (.cons (.nil _) (.cons (.nil _) (.cons (.nil _) (.cons (.nil _) (.cons (.nil _) (.cons (.nil _) (.nil))))))))) I<|.nil<|.sr<|.p I (.castD (Range.enc (⟨0, 3⟩ : Range)) I (.build I Pl87 (.agg Zc87 (ds' := [_, _]) (.cons (.refl _) (.cons (.refl _) (.nil)))) I I))<|.p I (.castD (Table.enc (⟨[99], 1, [], (⟨0, 3⟩ : Range), 0⟩ : Table)) I (.build I Pl127 (.agg Zc127 (ds' := [_, _, .sl 1 (List.map D.int []), _, _, _]) (.cons (.refl _) (.cons (.refl _) (.cons (.nil _) (.cons (.refl _) (.cons (.refl _) (.cons (.refl _) (.nil)))))))) I I))<|.p I (.buildSl [_] I I E23 I (fun _ => I) I (enc := Table.enc))<|.p I (.buildSl [_] I I E24 I (fun _ => I) I (enc := D.str))<|.p I (.castD (Term.enc (⟨0, (-1)⟩ : Term)) I (.build I Pl41 (.agg Zc41 (ds' := [_, _]) (.cons (.refl _) (.cons (.refl _) (.nil)))) I I))<|.p I (.buildSl [_] I I E31 I (fun _ => I) I (enc := Term.enc))<|.p I (.castD (Row.enc (⟨[(⟨0, (-1)⟩ : Term)], 0⟩ : Row)) I (.build I Pl33 (.agg Zc33 (ds' := [_, _]) (.cons (.refl _) (.cons (.refl _) (.nil)))) I I))<|.p I (.castD (Constraint.enc (⟨0, 0, (⟨[(⟨0, (-1)⟩ : Term)], 0⟩ : Row), 0, 0⟩ : Constraint)) I (.build I Pl78 (.agg Zc78 (ds' := [_, _, _, _, _, _]) (.cons (.refl _) (.cons (.refl _) (.cons (.refl _) (.cons (.refl _) (.cons (.refl _) (.cons (.refl _) (.nil)))))))) I I))<|.p I (.castD (Term.enc (⟨0, 1⟩ : Term)) I (.build I Pl41 (.agg Zc41 (ds' := [_, _]) (.cons (.refl _) (.cons (.refl _) (.nil)))) I I))<|.p I (.buildSl [_] I I E31 I (fun _ => I) I (enc := Term.enc))<|.p I (.castD (Row.enc (⟨[(⟨0, 1⟩ : Term)], 3⟩ : Row)) I (.build I Pl33 (.agg Zc33 (ds' := [_, _]) (.cons (.refl _) (.cons (.refl _) (.nil)))) I I))<|.p I (.castD (Constraint.enc (⟨0, 0, (⟨[(⟨0, 1⟩ : Term)], 3⟩ : Row), 0, 0⟩ : Constraint)) I (.build I Pl78 (.agg Zc78 (ds' := [_, _, _, _, _, _]) (.cons (.refl _) (.cons (.refl _) (.cons (.refl _) (.cons (.refl _) (.cons (.refl _) (.cons (.refl _) (.nil)))))))) I I))<|.p I (.buildSl [_, _] I I E25 I (fun _ => I) I (enc := Constraint.enc))<|.p I (.castD (Operation.enc (⟨[116, 119, 111], false, []⟩ : Operation)) I (.build I Pl129 (.agg Zc129 (ds' := [_, _, .sl 1 (List.map D.int [])]) (.cons (.refl _) (.cons (.refl _) (.cons (.nil _) (.nil))))) I I))<|.p I (.buildSl [_] I I E26 I (fun _ => I) I (enc := Operation.enc))<|.p I (.castD (Change.enc (⟨0, 2⟩ : Change)) I (.build I Pl131 (.agg Zc131 (ds' := [_, _]) (.cons (.refl _) (.cons (.refl _) (.nil)))) I I))<|.p I (.buildSl [_] I I E79 I (fun _ => I) I (enc := Change.enc))<|.p I (.castD (Effect.enc (⟨[(⟨0, 2⟩ : Change)], [], []⟩ : Effect)) I (.build I Pl82 (.agg Zc82 (ds' := [_, .sl 2 (List.map Row.enc []), .sl 3 (List.map Update.enc [])]) (.cons (.refl _) (.cons (.nil _) (.cons (.nil _) (.nil))))) I I))<|.p I (.castD (Action.enc (⟨0, [], (⟨[(⟨0, 2⟩ : Change)], [], []⟩ : Effect)⟩ : Action)) I (.build I Pl84 (.agg Zc84 (ds' := [_, .sl 1 (List.map D.int []), _, _, _]) (.cons (.refl _) (.cons (.nil _) (.cons (.refl _) (.cons (.refl _) (.cons (.refl _) (.nil))))))) I I))<|.p I (.buildSl [_] I I E27 I (fun _ => I) I (enc := Action.enc))<|.p I (.castD (Model.enc (⟨[], [(⟨[99], 1, [], (⟨0, 3⟩ : Range), 0⟩ : Table)], [[99]], [(⟨0, 0, (⟨[(⟨0, (-1)⟩ : Term)], 0⟩ : Row), 0, 0⟩ : Constraint), (⟨0, 0, (⟨[(⟨0, 1⟩ : Term)], 3⟩ : Row), 0, 0⟩ : Constraint)], [(⟨[116, 119, 111], false, []⟩ : Operation)], [(⟨0, [], (⟨[(⟨0, 2⟩ : Change)], [], []⟩ : Effect)⟩ : Action)], []⟩ : Model)) I (.build I Pl30 (.agg Zc30 (ds' := [.sl 1 (List.map D.int []), _, _, _, _, _, .sl 3 (List.map Hide.enc [])]) (.cons (.nil _) (.cons (.refl _) (.cons (.refl _) (.cons (.refl _) (.cons (.refl _) (.cons (.refl _) (.cons (.nil _) (.nil))))))))) I I))<|.store I I I I I I (.ofD I) C30 I (Nat.le_of_ble_eq_true I)<|.nil<|.keep [.box 30 [.d (.sl 1 (List.map D.int [])), .d (.sl 6 (List.map Table.enc [(⟨[99], 1, [], (⟨0, 3⟩ : Range), 0⟩ : Table)])), .d (.sl 1 (List.map D.str [[99]])), .d (.sl 6 (List.map Constraint.enc [(⟨0, 0, (⟨[(⟨0, (-1)⟩ : Term)], 0⟩ : Row), 0, 0⟩ : Constraint), (⟨0, 0, (⟨[(⟨0, 1⟩ : Term)], 3⟩ : Row), 0, 0⟩ : Constraint)])), .d (.sl 3 (List.map Operation.enc [(⟨[116, 119, 111], false, []⟩ : Operation)])), .d (.sl 5 (List.map Action.enc [(⟨0, [], (⟨[(⟨0, 2⟩ : Change)], [], []⟩ : Effect)⟩ : Action)])), .d (.sl 3 (List.map Hide.enc []))]] [0] (.c I .nil) I<|.ret ?_
 cases h
 exact retCell I I Y30 (.cons (.d _) (.cons (.d _) (.cons (.d _) (.cons (.d _) (.cons (.d _) (.cons (.d _) (.cons (.d _) (.nil))))))))
theorem slices_IndexFunc_Lint_int_ok (n : Nat) (t0 : List Int) (t1 : Int → Option Bool) (F1 : D) (hF1 : ∀ (q0 : Int) (y : Bool), t1 q0 = some y → Dyn Tryz.prog F1 [.int q0] (.bool y)) (r : Int) (h : zI n t0 t1 = some r) : Pure Tryz.prog 199 [.sl 1 (List.map D.int t0), F1] (.int r) := by
 refine Pure.ot Tryz.func199 I Tryz.ntmps199 I fun A w => .sr<|.z I<|.nil<|.seq<|.sr<|.m I<|.p I (.len I U22 I)<|.m I<|.nil<|.block<|.loopS [0, 1, 7] (fun (v : Int) => [(8, .d (.int v))]) (fun (v : Int) => []) (.c2 I<|.c I .nil) h ⟨_, Fz4 I<|Fz2 I<|Fz1 I trivial⟩ (fun _ x7 h => ?_)
 refine .sr<|.p I (.ls I)<|.nil<|.keep [] [0, 1, 7, 8, 9] (.c4 I<|.c I .nil) I<|.seq<|.condS I h (fun h => ?_) fun h => ?_
 ·refine .skip<|.seq<|.block<|.sr<|.m I<|.z I<|.nil<|.sr<|.m I<|.m I<|.m I<|bK h fun x9 q9 h => .p I (.ix I U22 S3 q9)<|.p I (.ld Y3 I)<|bK h fun x10 q10 h => .p I (.dyn I I I (hF1 _ _ q10))<|.nil<|.condS I h (fun h => ?_) fun h => ?_
  ·refine .sr<|.m I<|.z I<|.nil<|.ret (rO h I)
  ·refine .skip<|.region<|.p I (.ad I)<|.m I<|.nil ⟨_, h, _, Fz4 I<|Fz2 I<|Fz1 I trivial⟩
 ·refine .exit<|.sr<|.z I<|.nil<|.ret (rO h I)
theorem zaq (n : Nat) (t0 : List Int) (t1 : Int → Option Bool) (F1 : D) (hF1 : ∀ (q0 : Int) (y : Bool), t1 q0 = some y → Dyn Tryz.prog F1 [.int q0] (.bool y)) (r : Bool) (h : zm n t0 t1 = some r) : Pure Tryz.prog 154 [.sl 1 (List.map D.int t0), F1] (.bool r) := by
 refine Pure.ot Tryz.func154 I Tryz.ntmps154 I fun A w => .sr<|.z I<|.nil<|.sr<|.m I<|.m I<|bK h fun x1 q1 h => .p I (.call I K199 I (slices_IndexFunc_Lint_int_ok _ _ _ _ hF1 _ q1))<|.p I (.ge I)<|.z I<|.nil<|.ret (rO h I)
theorem cells_within_ok (n : Nat) (t0 : Int) (t1 : Int) (t2 : Int) (r : Bool) (h : zc6 n t0 t1 t2 = some r) : Pure Tryz.prog 144 [.int t0, .int t1, .int t2] (.bool r) := by
 refine Pure.ot Tryz.func144 I Tryz.ntmps144 I fun A w => .sr<|.z I<|.nil<|.seq<|.plain 8 I<|.m I<|.m I<|.p I (.ge I)<|.m I<|.jA 3 (decide (t0 ≤ t2)) I (fun b1 => ?_) ?_
 ·refine .qm I<|.qm I<|.q I (.le I)<|.nil I
 refine .nil<|.z I<|.nil<|.ret (rO h I)
theorem cells_sized_1_ok (n : Nat) (t0 : Int) (r : Bool) (h : cells_sized_1 n t0 = some r) : Pure Tryz.prog 192 [.int t0] (.bool r) := by
 refine Pure.ot Tryz.func192 I Tryz.ntmps192 I fun A w => .sr<|.z I<|.nil<|.sr<|.m I<|bK h fun x1 q1 h => .p I (.call I K144 I (cells_within_ok _ _ _ _ _ q1))<|.p I (.nt I)<|.z I<|.nil<|.ret (rO h I)
theorem cells_sized_ok (n : Nat) (t0 : List Int) (r : Bool) (h : cells_sized n t0 = some r) : Pure Tryz.prog 142 [.sl 1 (List.map D.int t0)] (.bool r) := by
 refine Pure.ot Tryz.func142 I Tryz.ntmps142 I fun A w => .sr<|.z I<|.nil<|.sr<|.m I<|bK h fun x1 q1 h => .p I (.call I K154 I (zaq _ _ _ _ (fun q0 y hq => ⟨_, _, I, K192, cells_sized_1_ok _ q0 _ hq⟩) _ q1))<|.p I (.nt I)<|.z I<|.nil<|.ret (rO h I)
theorem slices_Index_Lbool_bool_ok (n : Nat) (t0 : List Bool) (t1 : Bool) (r : Int) (h : zP n t0 t1 = some r) : Pure Tryz.prog 217 [.sl 1 (List.map D.bool t0), .bool t1] (.int r) := by
 refine Pure.ot Tryz.func217 I Tryz.ntmps217 I fun A w => .sr<|.z I<|.nil<|.seq<|.sr<|.m I<|.p I (.len I U144 I)<|.m I<|.nil<|.block<|.loopS [0, 1, 7] (fun (v : Int) => [(8, .d (.int v))]) (fun (v : Int) => []) (.c2 I<|.c I .nil) h ⟨_, Fz4 I<|Fz2 I<|Fz1 I trivial⟩ (fun _ x5 h => ?_)
 refine .sr<|.p I (.ls I)<|.nil<|.keep [] [0, 1, 7, 8, 9] (.c4 I<|.c I .nil) I<|.seq<|.condS I h (fun h => ?_) fun h => ?_
 ·refine .skip<|.seq<|.block<|.sr<|.m I<|.z I<|.nil<|.sr<|.m I<|.m I<|.m I<|bK h fun x7 q7 h => .p I (.ix I U144 S4 q7)<|.p I (.ld Y4 I)<|.p I (.beq I U4 I I)<|.nil<|.condS I h (fun h => ?_) fun h => ?_
  ·refine .sr<|.m I<|.z I<|.nil<|.ret (rO h I)
  ·refine .skip<|.region<|.p I (.ad I)<|.m I<|.nil ⟨_, h, _, Fz4 I<|Fz2 I<|Fz1 I trivial⟩
 ·refine .exit<|.sr<|.z I<|.nil<|.ret (rO h I)
theorem slices_Contains_Lbool_bool_ok (n : Nat) (t0 : List Bool) (t1 : Bool) (r : Bool) (h : zbh n t0 t1 = some r) : Pure Tryz.prog 191 [.sl 1 (List.map D.bool t0), .bool t1] (.bool r) := by
 refine Pure.ot Tryz.func191 I Tryz.ntmps191 I fun A w => .sr<|.z I<|.nil<|.sr<|.m I<|.m I<|bK h fun x1 q1 h => .p I (.call I K217 I (slices_Index_Lbool_bool_ok _ _ _ _ q1))<|.p I (.ge I)<|.z I<|.nil<|.ret (rO h I)
theorem cells_all_ok (n : Nat) (t0 : List Bool) (r : Bool) (h : cells_all n t0 = some r) : Pure Tryz.prog 141 [.sl 1 (List.map D.bool t0)] (.bool r) := by
 refine Pure.ot Tryz.func141 I Tryz.ntmps141 I fun A w => .sr<|.z I<|.nil<|.sr<|.m I<|bK h fun x1 q1 h => .p I (.call I K191 I (slices_Contains_Lbool_bool_ok _ _ _ _ q1))<|.p I (.nt I)<|.z I<|.nil<|.ret (rO h I)
theorem strings_FieldsFunc_ok (n : Nat) (t0 : List UInt8) (t1 : Int → Option Bool) (F1 : D) (hF1 : ∀ (q0 : Int) (y : Bool), t1 q0 = some y → Dyn Tryz.prog F1 [.val (.int .i32 q0)] (.bool y)) (r : List (List UInt8)) (h : strings_FieldsFunc n t0 t1 = some r) : Pure Tryz.prog 265 [.str t0, F1] (.sl 1 (List.map D.str r)) := by
 refine Pure.ot Tryz.func265 I Tryz.ntmps265 I fun A w => .sr<|.p I (.nilS 1 (α := List UInt8) D.str I)<|.nil<|.seq<|.region ?_
 cases h
theorem unicode_IsSpace_ok (n : Nat) (t0 : Int) (r : Bool) (h : unicode_IsSpace n t0 = some r) : Pure Tryz.prog 266 [.val (.int .i32 t0)] (.bool r) := by
 refine Pure.ot Tryz.func266 I Tryz.ntmps266 I fun A w => .sr<|.z I<|.nil<|.seq<|.sr<|.m I<|.p I (.conv I U21 U235 I)<|.p I (.le I)<|.nil<|.condS I h (fun h => ?_) fun h => ?_
 ·refine .seq<|.sr<|.m I<|.nil<|.block<|.join [] (fun (v : Bool) => [(7, .d (.bool v))]) (fun (v : Bool) => []) (.nil) h (fun k_2 h => ?_) (fun x1 h => ?_)
  ·refine .sr<|.p I (.eq I)<|.z I<|.nil<|.condS I h (fun h => ?_) fun h => ?_
   ·refine .skip ⟨_, h, _, Fz4 I trivial⟩
   ·refine .sr<|.p I (.eq I)<|.z I<|.nil<|.condS I h (fun h => ?_) fun h => ?_
    ·refine .skip ⟨_, h, _, Fz4 I trivial⟩
    ·refine .sr<|.p I (.eq I)<|.z I<|.nil<|.condS I h (fun h => ?_) fun h => ?_
     ·refine .skip ⟨_, h, _, Fz4 I trivial⟩
     ·refine .sr<|.p I (.eq I)<|.z I<|.nil<|.condS I h (fun h => ?_) fun h => ?_
      ·refine .skip ⟨_, h, _, Fz4 I trivial⟩
      ·refine .sr<|.p I (.eq I)<|.z I<|.nil<|.condS I h (fun h => ?_) fun h => ?_
       ·refine .skip ⟨_, h, _, Fz4 I trivial⟩
       ·refine .sr<|.p I (.eq I)<|.z I<|.nil<|.keep [] [6, 7] (.c2 I .nil) I<|.condS I h (fun h => ?_) fun h => ?_
        ·refine .skip ⟨_, h, _, Fz4 I trivial⟩
        ·refine .sr<|.p I (.eq I)<|.z I<|.nil<|.condS I h (fun h => ?_) fun h => ?_
         ·refine .skip ⟨_, h, _, Fz4 I trivial⟩
         ·refine .region<|.p I (.eq I)<|.z I<|.nil ⟨_, h, _, Fz4 I trivial⟩
  ·refine .condS I h (fun h => ?_) fun h => ?_
   ·refine .sr<|.z I<|.nil<|.keep [] [2] (.c I .nil) I<|.ret (rO h I)
   ·refine .skip<|.keep [] [] (.nil) I<|.sr<|.z I<|.nil<|.ret (rO h I)
 ·refine .skip<|.seq<|.region ?_
  cases h
theorem strings_Fields_ok (n : Nat) (t0 : List UInt8) (r : List (List UInt8)) (h : zaD n t0 = some r) : Pure Tryz.prog 255 [.str t0] (.sl 1 (List.map D.str r)) := by
 refine Pure.ot Tryz.func255 I Tryz.ntmps255 I fun A w => .sr<|.p I (.nilS 1 (α := List UInt8) D.str I)<|.nil<|.sr<|.z I<|.nil<|.sr<|.z I<|.nil<|.sr<|.z I<|.nil<|.seq<|.sr<|.z I<|.nil<|.block<|.loopS [0] (fun (v : Int × Int × Int × Int) => [(3, .d (.int v.1)), (4, .d (.int v.2.1)), (5, .d (.val (.int .u8 v.2.2.1))), (6, .d (.int v.2.2.2))]) (fun (v : Int × Int × Int × Int) => []) (.c I .nil) h ⟨_, Fz8 I trivial⟩ (fun _ v h => ?_)
 obtain ⟨x13, x14, x15, x16⟩ := v
 refine .seq<|.sr<|.m I<|.m I<|.p I (.len_str I U9 I)<|.p I (.ls I)<|.nil<|.keep [] [0, 3, 4, 5, 6, 16] (.c4 I<|.c2 I .nil) I<|.condS I h (fun h => ?_) fun h => ?_
 ·refine .skip<|.seq<|.block<|.sr<|.m I<|.m I<|bK h fun x18 q18 h => .p I (.sidx I I I U9 q18)<|.z I<|.nil<|.sr<|.m I<|.m I<|.p I (.bor I I I)<|.z I<|.nil<|.sr<|.m I<|bK h fun x19 q19 h => .p I (.idxG (l := tab0) I I I gm0 U274 S5 tl0 q19)<|.p I (.ld Y5 I)<|.p I (.conv I U5 U3 I)<|.z I<|.nil<|.sr<|.m I<|.m I<|.m I<|.p I (.bnot I I)<|.p I (.band I I I)<|.p I (.ad I)<|.z I<|.nil<|.keep [] [0, 3, 5, 6, 8] (.c4 I<|.c I .nil) I<|.region<|.m I ?_
  refine .z I<|.nil<|.region<|.m I<|.p I (.ad I)<|.z I<|.nil ⟨_, h, _, Fz8 I trivial⟩
 ·refine .exit<|.seq<|.sr<|.m I<|.p I (.ge I)<|.nil<|.condS I h (fun h => ?_) fun h => ?_
  ·refine .sr<|.m I<|bK h fun x20 q20 h => .p I (.call I K265 I (strings_FieldsFunc_ok _ _ _ _ (fun q0 y hq => ⟨_, _, I, K266, unicode_IsSpace_ok _ q0 _ hq⟩) _ q20))<|.z I<|.nil<|.ret ?_
   cases h
   exact zbw I (.d _)
  ·refine .skip<|.sr<|.m I<|bK h fun x21 q21 h => .makeVec (enc := D.str) (z := ([] : List UInt8)) I I I I E24 I I I (.val Zv9) q21<|.z I<|.nil<|.sr<|.z I<|.nil<|.sr<|.z I<|.nil<|.sr<|.z I<|.nil<|.seq<|.block<|.loopS [0, 9, 10] (fun (v : Int) => [(12, .d (.int v))]) (fun (v : Int) => []) (.c2 I<|.c I .nil) h ⟨_, Fz4 I<|Fz2 I<|Fz1 I trivial⟩ (fun _ x30 h => ?_)
   refine .seq<|.seq<|.plain 12 I<|.m I<|.m I<|.p I (.len_str I U9 I)<|.p I (.ls I)<|.m I<|gK h fun c33 h => gK h fun c34 h => .jA 6 (((idx tab0 ((sidx t0 x30).getD default)).getD default) != 0) I (fun b32 => ?_) ?_
   ·refine .qm I<|.qm I<|.q I (.sidx I I I U9 (someD (impT c33 b32)))<|.q I (.idxG (l := tab0) I I I gm0 U274 S5 tl0 (someD (impT c34 b32)))<|.q I (.ld Y5 I)<|.q I (.ne I)<|.nil I
   refine .nil<|.nil<|.keep [.vec 9 1 (List.map D.str x21)] [0, 9, 10, 12, 53] (.c4 I<|.c I .nil) I<|.condS I h (fun h => ?_) fun h => ?_
   ·refine .skip<|.block<|.region<|.m I<|.p I (.ad I)<|.z I<|.nil ⟨_, h, _, Fz4 I<|Fz2 I<|Fz1 I trivial⟩
   ·refine .exit<|.sr<|.m I<|.z I<|.nil<|.seq<|.block<|.loopS [0] (fun (v : (List (List UInt8)) × Int × Int × Int) => [(9, .vec 0 (List.length v.1)), (10, .d (.int v.2.1)), (11, .d (.int v.2.2.1)), (12, .d (.int v.2.2.2))]) (fun (v : (List (List UInt8)) × Int × Int × Int) => [(0, .vec 9 1 (List.map D.str v.1))]) (.c I .nil) h ⟨_, Fz8 I trivial⟩ (fun _ v h => ?_)
    obtain ⟨b0_79, x80, x81, x82⟩ := v
    refine .seq<|.sr<|.m I<|.m I<|.p I (.len_str I U9 I)<|.p I (.ls I)<|.nil<|.keep [.vec 9 1 (List.map D.str b0_79)] [0, 9, 10, 11, 12, 60] (.c4 I<|.c2 I .nil) I<|.condS I h (fun h => ?_) fun h => ?_
    ·refine .skip<|.block<|.seq<|.sr<|.m I<|.m I<|bK h fun x84 q84 h => .p I (.sidx I I I U9 q84)<|bK h fun x85 q85 h => .p I (.idxG (l := tab0) I I I gm0 U274 S5 tl0 q85)<|.p I (.ld Y5 I)<|.p I (.eq I)<|.nil<|.condS I h (fun h => ?_) fun h => ?_
     ·refine .sr<|.m I<|.p I (.ad I)<|.z I<|.nil<|.exit ⟨_, h, _, Fz8 I trivial⟩
     ·refine .skip<|.sr<|.m I<|.m I<|.m I<|.m I<|.m I<|bK h fun x86 q86 h => .p I (.cutStrLH I I I I U9 q86)<|bK h fun x87 q87 h => .p I (.idxV I I I I I U24 S9 q87)<|bK h fun b0_88 hb0_88 h => .storeEl (enc := D.str) I I I I I I I I I C9 hb0_88<|.relen 9 I (zcW hb0_88)<|.relen 69 I (zcW hb0_88)<|.nil<|.sr<|.m I<|.p I (.ad I)<|.z I<|.nil<|.keep [.vec 9 1 (List.map D.str b0_88)] [0, 9, 10, 12] (.c4 I .nil) I<|.sr<|.m I<|.p I (.ad I)<|.z I<|.nil<|.seq<|.block<|.loopS [0, 9, 10] (fun (v : Int) => [(12, .d (.int v))]) (fun (v : Int) => []) (.c2 I<|.c I .nil) h ⟨_, Fz4 I<|Fz2 I<|Fz1 I trivial⟩ (fun _ x97 h => ?_)
      refine .seq<|.seq<|.plain 12 I<|.m I<|.m I<|.p I (.len_str I U9 I)<|.p I (.ls I)<|.m I<|gK h fun c100 h => gK h fun c101 h => .jA 6 (((idx tab0 ((sidx t0 x97).getD default)).getD default) != 0) I (fun b99 => ?_) ?_
      ·refine .qm I<|.qm I<|.q I (.sidx I I I U9 (someD (impT c100 b99)))<|.q I (.idxG (l := tab0) I I I gm0 U274 S5 tl0 (someD (impT c101 b99)))<|.q I (.ld Y5 I)<|.q I (.ne I)<|.nil I
      refine .nil<|.nil<|.keep [.vec 9 1 (List.map D.str b0_88)] [0, 9, 10, 12, 91] (.c4 I<|.c I .nil) I<|.condS I h (fun h => ?_) fun h => ?_
      ·refine .skip<|.block<|.region<|.m I<|.p I (.ad I)<|.z I<|.nil ⟨_, h, _, Fz4 I<|Fz2 I<|Fz1 I trivial⟩
      ·refine .exit<|.region<|.m I<|.z I<|.nil ⟨_, h, _, Fz8 I trivial⟩
    ·refine .exit<|.join [] (fun (v : (List (List UInt8))) => [(9, .vec 0 (List.length v))]) (fun (v : (List (List UInt8))) => [(0, .vec 9 1 (List.map D.str v))]) (.nil) h (fun k_103 h => ?_) (fun b0_102 h => ?_)
     ·refine .sr<|.m I<|.m I<|.p I (.len_str I U9 I)<|.p I (.ls I)<|.nil<|.condS I h (fun h => ?_) fun h => ?_
      ·refine .region<|.m I<|.m I<|.m I<|.m I<|bK h fun x104 q104 h => .p I (.cutStrL I I I U9 q104)<|bK h fun x105 q105 h => .p I (.idxV I I I I I U24 S9 q105)<|bK h fun b0_106 hb0_106 h => .storeEl (enc := D.str) I I I I I I I I I C9 hb0_106<|.relen 9 I (zcW hb0_106)<|.relen 99 I (zcW hb0_106)<|.nil ⟨_, h, _, Fz4 I trivial⟩
      ·refine .skip ⟨_, h, _, Fz4 I trivial⟩
     ·refine .sr<|.m I<|.z I<|.nil<|.keep [.vec 9 1 (List.map D.str b0_102)] [2] (.c I .nil) I<|.ret ?_
      cases h
      exact zbw I (.vec I (by simp))
theorem lexer_keywords_ok (n : Nat) (r : GMap (List UInt8) Bool) (h : za6 n = some r) : Pure Tryz.prog 238 [] (GMap.dat (fun l : List UInt8 => Value.string ⟨l.toArray⟩) D.bool r) := by
 refine Pure.ot Tryz.func238 I Tryz.ntmps238 I fun A w => .sr<|.z I<|.nil<|.sr<|.makeMap (fun l : List UInt8 => Value.string ⟨l.toArray⟩) D.bool I I I I<|.z I<|.nil<|.seq<|.sr<|bK h fun x1 q1 h => .p I (.call I K255 I (strings_Fields_ok _ _ _ q1))<|.p I (.len I U24 I)<|.m I<|.nil<|.block<|.loopS [1, 5, 6] (fun (v : (GMap (List UInt8) Bool) × Int) => [(7, .d (.int v.2))]) (fun (v : (GMap (List UInt8) Bool) × Int) => [(0, GMap.blk (fun l : List UInt8 => Value.string ⟨l.toArray⟩) D.bool v.1)]) (.c2 I<|.c I .nil) h ⟨_, Fz4 I<|Fz2 I<|Fz1 I trivial⟩ (fun _ v h => ?_)
 obtain ⟨m0_8, x9⟩ := v
 refine .sr<|.p I (.ls I)<|.nil<|.keep [GMap.blk (fun l : List UInt8 => Value.string ⟨l.toArray⟩) D.bool m0_8] [1, 5, 6, 7, 8] (.c4 I<|.c I .nil) I<|.seq<|.condS I h (fun h => ?_) fun h => ?_
 ·refine .skip<|.seq<|.block<|.sr<|bK h fun x11 q11 h => .p I (.ix I U24 S9 q11)<|.p I (.ld Y9 I)<|.z I<|.nil<|.region<|.m I<|.m I<|.mapPut (k := x11) (v := true) I I I U167 KT9 I I I I<|.nil<|.region<|.p I (.ad I)<|.m I<|.nil ⟨_, h, _, Fz4 I<|Fz2 I<|Fz1 I trivial⟩
 ·refine .exit<|.sr<|.m I<|.z I<|.nil<|.ret ?_
  cases h
  exact zbw I (.mp I)
theorem lexer_white_ok (n : Nat) (t0 : Int) (r : Bool) (h : zbv n t0 = some r) : Pure Tryz.prog 246 [.val (.int .u8 t0)] (.bool r) := by
 refine Pure.ot Tryz.func246 I Tryz.ntmps246 I fun A w => .sr<|.z I<|.nil<|.seq<|.plain 14 I<|.m I<|.p I (.eq I)<|.m I<|.jO 2 (t0 == 9) I (fun b1 => ?_) ?_
 ·refine .qm I<|.q I (.eq I)<|.nil I
 refine .m I<|.jO 2 (t0 == 10) I (fun b2 => ?_) ?_
 ·refine .qm I<|.q I (.eq I)<|.nil I
 refine .m I<|.jO 2 (t0 == 13) I (fun b3 => ?_) ?_
 ·refine .qm I<|.q I (.eq I)<|.nil I
 refine .nil<|.z I<|.nil<|.keep [] [2] (.c I .nil) I<|.ret (rO h I)
theorem lexer_run_ok (n : Nat) (t0 : List UInt8) (t1 : Int → Option Bool) (F1 : D) (hF1 : ∀ (q0 : Int) (y : Bool), t1 q0 = some y → Dyn Tryz.prog F1 [.val (.int .u8 q0)] (.bool y)) (r : Int) (h : zbY n t0 t1 = some r) : Pure Tryz.prog 242 [.str t0, F1] (.int r) := by
 refine Pure.ot Tryz.func242 I Tryz.ntmps242 I fun A w => .sr<|.z I<|.nil<|.sr<|.z I<|.nil<|.seq<|.block<|.loopS [0, 1] (fun (v : Int) => [(5, .d (.int v))]) (fun (v : Int) => []) (.c2 I .nil) h ⟨_, Fz4 I<|Fz2 I trivial⟩ (fun _ x9 h => ?_)
 refine .seq<|.seq<|.plain 11 I<|.m I<|.m I<|.p I (.len_str I U9 I)<|.p I (.ls I)<|.m I<|gK h fun c12 h => gK h fun c13 h => .jA 5 (((t1 ((sidx t0 x9).getD default)).getD default)) I (fun b11 => ?_) ?_
 ·refine .qm I<|.qm I<|.qm I<|.q I (.sidx I I I U9 (someD (impT c12 b11)))<|.q I (.dyn I I I (hF1 _ _ (someD (impT c13 b11))))<|.nil I
 refine .nil<|.nil<|.keep [] [0, 1, 5, 16] (.c4 I .nil) I<|.condS I h (fun h => ?_) fun h => ?_
 ·refine .skip<|.block<|.region<|.m I<|.p I (.ad I)<|.z I<|.nil ⟨_, h, _, Fz4 I<|Fz2 I trivial⟩
 ·refine .exit<|.sr<|.m I<|.z I<|.nil<|.ret (rO h I)
theorem lexer_skip_1_ok (n : Nat) (t0 : Int) (r : Bool) (h : lexer_skip_1 n t0 = some r) : Pure Tryz.prog 256 [.val (.int .u8 t0)] (.bool r) := by
 refine Pure.ot Tryz.func256 I Tryz.ntmps256 I fun A w => .sr<|.z I<|.nil<|.sr<|.m I<|.p I (.ne I)<|.z I<|.nil<|.ret (rO h I)
theorem lexer_skip_ok (n : Nat) (t0 : List UInt8) (r : Int) (h : zcg n t0 = some r) : Pure Tryz.prog 240 [.str t0] (.int r) := by
 refine Pure.ot Tryz.func240 I Tryz.ntmps240 I fun A w => .sr<|.z I<|.nil<|.sr<|.z I<|.nil<|.seq<|.block<|.loopS [0] (fun (v : Int) => [(3, .d (.int v))]) (fun (v : Int) => []) (.c I .nil) h ⟨_, Fz4 I<|Fz1 I trivial⟩ (fun _ x13 h => ?_)
 refine .seq<|.sr<|.m I<|.m I<|.p I (.len_str I U9 I)<|.p I (.ls I)<|.nil<|.keep [] [0, 3, 7] (.c2 I<|.c I .nil) I<|.condS I h (fun h => ?_) fun h => ?_
 ·refine .skip<|.block<|.block<|.sr<|.m I<|.m I<|bK h fun x15 q15 h => .p I (.sidx I I I U9 q15)<|bK h fun x16 q16 h => .p I (.call I K246 I (lexer_white_ok _ _ _ q16))<|.z I<|.nil<|.condS I h (fun h => ?_) fun h => ?_
  ·refine .region<|.m I<|.p I (.ad I)<|.z I<|.nil ⟨_, h, _, Fz4 I<|Fz1 I trivial⟩
  ·refine .sr<|.m I<|.m I<|bK h fun x17 q17 h => .p I (.sidx I I I U9 q17)<|.p I (.eq I)<|.z I<|.nil<|.condS I h (fun h => ?_) fun h => ?_
   ·refine .region<|.m I<|.m I<|.m I<|bK h fun x18 q18 h => .p I (.cutStrL I I I U9 q18)<|bK h fun x19 q19 h => .p I (.call I K242 I (lexer_run_ok _ _ _ _ (fun q0 y hq => ⟨_, _, I, K256, lexer_skip_1_ok _ q0 _ hq⟩) _ q19))<|.p I (.ad I)<|.z I<|.nil ⟨_, h, _, Fz4 I<|Fz1 I trivial⟩
   ·refine .sr<|.m I<|.z I<|.nil<|.ret (rO h I)
 ·refine .exit<|.sr<|.m I<|.z I<|.nil<|.ret (rO h I)
theorem lexer_letter_ok (n : Nat) (t0 : Int) (r : Bool) (h : zcb n t0 = some r) : Pure Tryz.prog 241 [.val (.int .u8 t0)] (.bool r) := by
 refine Pure.ot Tryz.func241 I Tryz.ntmps241 I fun A w => .sr<|.z I<|.nil<|.seq<|.plain 6 I<|.m I<|.p I (.ge I)<|.m I<|.jA 2 (decide (t0 ≤ 122)) I (fun b1 => ?_) ?_
 ·refine .qm I<|.q I (.le I)<|.nil I
 refine .nil<|.z I<|.nil<|.ret (rO h I)
theorem zc4 (n : Nat) (t0 : Int) (r : Bool) (h : zaS n t0 = some r) : Pure Tryz.prog 244 [.val (.int .u8 t0)] (.bool r) := by
 refine Pure.ot Tryz.func244 I Tryz.ntmps244 I fun A w => .sr<|.z I<|.nil<|.seq<|.plain 6 I<|.m I<|.p I (.ge I)<|.m I<|.jA 2 (decide (t0 ≤ 57)) I (fun b1 => ?_) ?_
 ·refine .qm I<|.q I (.le I)<|.nil I
 refine .nil<|.z I<|.nil<|.ret (rO h I)
theorem lexer_part_ok (n : Nat) (t0 : Int) (r : Bool) (h : lexer_part n t0 = some r) : Pure Tryz.prog 243 [.val (.int .u8 t0)] (.bool r) := by
 refine Pure.ot Tryz.func243 I Tryz.ntmps243 I fun A w => .sr<|.z I<|.nil<|.seq<|.plain 10 I<|.m I<|bK h fun x1 q1 h => .p I (.call I K241 I (lexer_letter_ok _ _ _ q1))<|.m I<|gK h fun c3 h => .jO 2 (((zaS n t0).getD default)) I (fun b2 => ?_) ?_
 ·refine .qm I<|.q I (.call I K244 I (zc4 _ _ _ (someD (impF c3 b2))))<|.nil I
 refine .m I<|.jO 2 (t0 == 95) I (fun b4 => ?_) ?_
 ·refine .qm I<|.q I (.eq I)<|.nil I
 refine .nil<|.z I<|.nil<|.ret (rO h I)
theorem zcN (n : Nat) (t0 : List UInt8) (t1 : List UInt8) (r : Bool) (h : zaZ n t0 t1 = some r) : Pure Tryz.prog 267 [.str t0, .str t1] (.bool r) := by
 refine Pure.ot Tryz.func267 I Tryz.ntmps267 I fun A w => .sr<|.z I<|.nil<|.seq<|.plain 13 I<|.m I<|.p I (.len_str I U9 I)<|.m I<|.p I (.len_str I U9 I)<|.p I (.ge I)<|.m I<|gK h fun c2 h => .jA 6 (decide (((cut t0 0 (t1.length : Int)).getD default) = t1)) I (fun b1 => ?_) ?_
 ·refine .qm I<|.qm I<|.q I (.len_str I U9 I)<|.q I (.cutStrH I I I U9 (someD (impT c2 b1)))<|.qm I<|.q I (.str_eql I I I)<|.nil I
 refine .nil<|.z I<|.nil<|.ret (rO h I)
theorem strings_HasPrefix_ok (n : Nat) (t0 : List UInt8) (t1 : List UInt8) (r : Bool) (h : zcj n t0 t1 = some r) : Pure Tryz.prog 257 [.str t0, .str t1] (.bool r) := by
 refine Pure.ot Tryz.func257 I Tryz.ntmps257 I fun A w => .sr<|.z I<|.nil<|.sr<|.m I<|.m I<|bK h fun x1 q1 h => .p I (.call I K267 I (zcN _ _ _ _ q1))<|.z I<|.nil<|.ret (rO h I)
theorem zcR (n : Nat) (t0 : List UInt8) (t1 : Int) (r : Int) (h : zaY n t0 t1 = some r) : Pure Tryz.prog 268 [.str t0, .val (.int .u8 t1)] (.int r) := by
 refine Pure.ot Tryz.func268 I Tryz.ntmps268 I fun A w => .sr<|.z I<|.nil<|.sr<|.m I<|.m I<|.p I (.idxByte I IB271 I I)<|.z I<|.nil<|.ret (rO h I)
theorem strings_IndexByte_ok (n : Nat) (t0 : List UInt8) (t1 : Int) (r : Int) (h : zbE n t0 t1 = some r) : Pure Tryz.prog 258 [.str t0, .val (.int .u8 t1)] (.int r) := by
 refine Pure.ot Tryz.func258 I Tryz.ntmps258 I fun A w => .sr<|.z I<|.nil<|.sr<|.m I<|.m I<|bK h fun x1 q1 h => .p I (.call I K268 I (zcR _ _ _ _ q1))<|.z I<|.nil<|.ret (rO h I)
theorem lexer_symbol_ok (n : Nat) (t0 : List UInt8) (r : Int) (h : zaL n t0 = some r) : Pure Tryz.prog 245 [.str t0] (.int r) := by
 refine Pure.ot Tryz.func245 I Tryz.ntmps245 I fun A w => .sr<|.z I<|.nil<|.seq<|.sr<|.p I (.buildSl [_, _, _, _, _] I I E24 I (fun _ => I) I (enc := D.str))<|.p I (.len I U24 I)<|.m I<|.nil<|.block<|.loopS [0, 5, 6] (fun (v : Int) => [(7, .d (.int v))]) (fun (v : Int) => []) (.c2 I<|.c I .nil) h ⟨_, Fz4 I<|Fz2 I<|Fz1 I trivial⟩ (fun _ x7 h => ?_)
 refine .sr<|.p I (.ls I)<|.nil<|.keep [] [0, 5, 6, 7, 8] (.c4 I<|.c I .nil) I<|.seq<|.condS I h (fun h => ?_) fun h => ?_
 ·refine .skip<|.seq<|.block<|.sr<|bK h fun x9 q9 h => .p I (.ix I U24 S9 q9)<|.p I (.ld Y9 I)<|.z I<|.nil<|.sr<|.m I<|.m I<|bK h fun x10 q10 h => .p I (.call I K257 I (strings_HasPrefix_ok _ _ _ _ q10))<|.nil<|.condS I h (fun h => ?_) fun h => ?_
  ·refine .sr<|.z I<|.nil<|.ret (rO h I)
  ·refine .skip<|.region<|.p I (.ad I)<|.m I<|.nil ⟨_, h, _, Fz4 I<|Fz2 I<|Fz1 I trivial⟩
 ·refine .exit<|.seq<|.seq<|.plain 8 I<|.m I<|.p I (.str_neq I I I)<|.m I<|gK h fun c12 h => gK h fun c13 h => .jA 4 (decide (0 ≤ ((zbE n [60, 62, 61, 43, 45, 42, 40, 41, 123, 125, 44, 58, 59] ((sidx t0 0).getD default)).getD default))) I (fun b11 => ?_) ?_
  ·refine .qm I<|.q I (.sidx I I I U9 (someD (impT c12 b11)))<|.q I (.call I K258 I (strings_IndexByte_ok _ _ _ _ (someD (impT c13 b11))))<|.q I (.ge I)<|.nil I
  refine .nil<|.nil<|.condS I h (fun h => ?_) fun h => ?_
  ·refine .sr<|.z I<|.nil<|.ret (rO h I)
  ·refine .skip<|.sr<|.z I<|.nil<|.ret (rO h I)
theorem lexer_begins_ok (n : Nat) (t0 : List UInt8) (r : Bool) (h : zcB n t0 = some r) : Pure Tryz.prog 247 [.str t0] (.bool r) := by
 refine Pure.ot Tryz.func247 I Tryz.ntmps247 I fun A w => .sr<|.z I<|.nil<|.seq<|.plain 13 I<|.m I<|bK h fun x1 q1 h => .p I (.sidx I I I U9 q1)<|bK h fun x2 q2 h => .p I (.call I K241 I (lexer_letter_ok _ _ _ q2))<|.m I<|gK h fun c4 h => gK h fun c5 h => .jO 3 (((zaS n ((sidx t0 0).getD default)).getD default)) I (fun b3 => ?_) ?_
 ·refine .qm I<|.q I (.sidx I I I U9 (someD (impF c4 b3)))<|.q I (.call I K244 I (zc4 _ _ _ (someD (impF c5 b3))))<|.nil I
 refine .m I<|gK h fun c7 h => .jO 3 (decide (0 < ((zaL n t0).getD default))) I (fun b6 => ?_) ?_
 ·refine .qm I<|.q I (.call I K245 I (lexer_symbol_ok _ _ _ (someD (impF c7 b6))))<|.q I (.gt I)<|.nil I
 refine .nil<|.z I<|.nil<|.ret (rO h I)
theorem lexer_tokens_1_tri (n : Nat) (t1 : List UInt8) (t2 : GMap (List UInt8) Bool) (F0 : D) (C : Ctx) (hC : C.n = 93) (hG : C.gn = 0) (Q0 : Exit → St → Prop) (r : Token) (h : zag n t1 t2 = some r)
  (hY : ∀ (Q : Exit → St → Prop) (T : List (Nat × V)) (H : List Blk) (j : Nat), look 0 T = some (.d F0) → look 5 T = some (.loc j 0) → H[j]? = some (.box 234 (V.cellsV (.d (Token.enc r)))) → Tri Tryz.prog C tokX Q ⟨T, H⟩) :
  Tri Tryz.prog C (bodyOf Tryz.prog 239) Q0 ⟨params 0 [F0, .ref (.str t1), .ref (GMap.dat (fun l : List UInt8 => Value.string ⟨l.toArray⟩) D.bool t2)], []⟩ := by
 obtain ⟨A0, own0, w0, n0, esc, gh, gn⟩ := C
 simp only at hC hG
 subst hC
 subst hG
 rw [bodyOf_eq Tryz.func239 I]
 refine .sr<|.z I<|.nil<|.block<|.loopS [0, 1, 2, 4] (fun (v : Unit) => []) (fun (v : Unit) => []) (.c4 I .nil) h ⟨_, Fz4 I<|Fz2 I<|Fz1 I trivial⟩ (fun _ v h => ?_)
 refine .block<|.sr<|.m I<|.m I<|.p I (.ld Y9 I)<|.m I<|bK h fun x45 q45 h => .p I (.cutStrL I I I U9 q45)<|bK h fun x46 q46 h => .p I (.call I K240 I (lexer_skip_ok _ _ _ q46))<|.p I (.ad I)<|.p I (.castD (Token.enc (⟨0, 0, add64 0 x46, 0⟩ : Token)) I (.build I Pl234 (.agg Zc234 (ds' := [_, _, _, _]) (.cons (.refl _) (.cons (.refl _) (.cons (.refl _) (.cons (.refl _) (.nil)))))) I I))<|.allocZ I I I I (.agg Zc234 (ds' := [.int 0, .int 0, .int 0, .int 0]) (.cons (.refl _) (.cons (.refl _) (.cons (.refl _) (.cons (.refl _) (.nil)))))) I<|.store I I I I I I (.ofD I) C234 I (Nat.le_of_ble_eq_true I)<|.nil<|.keep [.box 234 [.d (.int 0), .d (.int 0), .d (.int (add64 0 x46)), .d (.int 0)]] [0, 1, 2, 5] (.c4 I .nil) I<|.sr<|.p I (.ld Y9 I)<|.p I (.fieldAddrLoc I I I F234_2)<|.p I (.loadLoc1 I I I Y3 I)<|bK h fun x47 q47 h => .p I (.cutStrL I I I U9 q47)<|.z I<|.nil<|.sr<|.z I<|.nil<|.join [0, 1, 2, 5] (fun (v : Int × Int) => [(7, .d (.int v.2))]) (fun (v : Int × Int) => [(0, .box 234 [.d (.int v.1), .d (.int 0), .d (.int (add64 0 x46)), .d (.int 0)])]) (.c4 I .nil) h (fun k_50 h => ?_) (fun v h => ?_)
 ·refine .block<|.sr<|.m I<|.p I (.str_eql I I I)<|.z I<|.nil<|.condS I h (fun h => ?_) fun h => ?_
  ·refine .skip ⟨_, h, _, Fz8 I trivial⟩
  ·refine .sr<|.m I<|bK h fun x51 q51 h => .p I (.sidx I I I U9 q51)<|bK h fun x52 q52 h => .p I (.call I K241 I (lexer_letter_ok _ _ _ q52))<|.z I<|.nil<|.condS I h (fun h => ?_) fun h => ?_
   ·refine .sr<|.m I<|bK h fun x53 q53 h => .p I (.call I K242 I (lexer_run_ok _ _ _ _ (fun q0 y hq => ⟨_, _, I, K243, lexer_part_ok _ q0 _ hq⟩) _ q53))<|.z I<|.p I (.fieldAddrLoc I I I F234_0)<|.store I I I I I I (.ofD I) C3 I (Nat.le_of_ble_eq_true I)<|.nil<|.keep [.box 234 [.d (.int 1), .d (.int 0), .d (.int (add64 0 x46)), .d (.int 0)]] [0, 1, 2, 5, 6, 7] (.c4 I<|.c2 I .nil) I<|.seq<|.draw 5 Hm (by kernel_rfl) (by kernel_rfl)<|.p I (.ld Y167 I)<|.m I<|.m I<|bK h fun x54 q54 h => .p I (.cutStrH I I I U9 q54)<|.p I (.mapGetD (ke := (fun l : List UInt8 => Value.string ⟨l.toArray⟩)) (ve := D.bool) I U167 KT9 I I (z := (false : Bool)) (.val Zv4))<|.nil<|.nil<|.condS I h (fun h => ?_) fun h => ?_
    ·refine .region<|.p I (.fieldAddrLoc I I I F234_0)<|.store I I I I I I (.ofD I) C3 I (Nat.le_of_ble_eq_true I)<|.nil ⟨_, h, _, Fz8 I trivial⟩
    ·refine .skip ⟨_, h, _, Fz8 I trivial⟩
   ·refine .sr<|.m I<|bK h fun x55 q55 h => .p I (.sidx I I I U9 q55)<|bK h fun x56 q56 h => .p I (.call I K244 I (zc4 _ _ _ q56))<|.z I<|.nil<|.keep [.box 234 [.d (.int 0), .d (.int 0), .d (.int (add64 0 x46)), .d (.int 0)]] [0, 1, 2, 5, 6, 63] (.c4 I<|.c2 I .nil) I<|.condS I h (fun h => ?_) fun h => ?_
    ·refine .region<|.m I<|bK h fun x57 q57 h => .p I (.call I K242 I (lexer_run_ok _ _ _ _ (fun q0 y hq => ⟨_, _, I, K244, zc4 _ q0 _ hq⟩) _ q57))<|.z I<|.p I (.fieldAddrLoc I I I F234_0)<|.store I I I I I I (.ofD I) C3 I (Nat.le_of_ble_eq_true I)<|.nil ⟨_, h, _, Fz8 I trivial⟩
    ·refine .sr<|.m I<|bK h fun x58 q58 h => .p I (.call I K245 I (lexer_symbol_ok _ _ _ q58))<|.p I (.gt I)<|.z I<|.nil<|.condS I h (fun h => ?_) fun h => ?_
     ·refine .region<|.m I<|bK h fun x59 q59 h => .p I (.call I K245 I (lexer_symbol_ok _ _ _ q59))<|.z I<|.p I (.fieldAddrLoc I I I F234_0)<|.store I I I I I I (.ofD I) C3 I (Nat.le_of_ble_eq_true I)<|.nil ⟨_, h, _, Fz8 I trivial⟩
     ·refine .sr<|.p I (.fieldAddrLoc I I I F234_0)<|.store I I I I I I (.ofD I) C3 I (Nat.le_of_ble_eq_true I)<|.nil<|.sr<|.z I<|.nil<|.block<|.loopS [0, 1, 2, 5, 6] (fun (v : Int) => [(7, .d (.int v))]) (fun (v : Int) => []) (.c4 I<|.c I .nil) h ⟨_, Fz8 I<|Fz1 I trivial⟩ (fun _ x78 h => ?_)
      refine .seq<|.seq<|.plain 24 I<|.m I<|.m I<|.p I (.len_str I U9 I)<|.p I (.ls I)<|.m I<|gK h fun c81 h => gK h fun c82 h => .jA 5 (!((zbv n ((sidx x47 x78).getD default)).getD default)) I (fun b80 => ?_) ?_
      ·refine .qm I<|.qm I<|.q I (.sidx I I I U9 (someD (impT c81 b80)))<|.q I (.call I K246 I (lexer_white_ok _ _ _ (someD (impT c82 b80))))<|.q I (.nt I)<|.nil I
      refine .m I<|gK h fun c84 h => .jA 4 (((sidx x47 x78).getD default) != 35) I (fun b83 => ?_) ?_
      ·refine .qm I<|.qm I<|.q I (.sidx I I I U9 (someD (impT c84 b83)))<|.q I (.ne I)<|.nil I
      refine .m I<|gK h fun c86 h => gK h fun c87 h => .jA 5 (!((zcB n ((cut x47 x78 (x47.length : Int)).getD default)).getD default)) I (fun b85 => ?_) ?_
      ·refine .qm I<|.qm I<|.q I (.cutStrL I I I U9 (someD (impT c86 b85)))<|.q I (.call I K247 I (lexer_begins_ok _ _ _ (someD (impT c87 b85))))<|.q I (.nt I)<|.nil I
      refine .nil<|.nil<|.keep [.box 234 [.d (.int 5), .d (.int 0), .d (.int (add64 0 x46)), .d (.int 0)]] [0, 1, 2, 5, 6, 7, 44] (.c4 I<|.c2 I<|.c I .nil) I<|.condS I h (fun h => ?_) fun h => ?_
      ·refine .skip<|.seq<|.block<|.skip<|.region<|.m I<|.p I (.ad I)<|.z I<|.nil ⟨_, h, _, Fz8 I<|Fz1 I trivial⟩
      ·refine .exit ⟨_, h, _, Fz8 I trivial⟩
 ·obtain ⟨c0_0_48, x49⟩ := v
  refine .sr<|.p I (.fieldAddrLoc I I I F234_2)<|.p I (.loadLoc1 I I I Y3 I)<|.m I<|.p I (.ad I)<|.p I (.fieldAddrLoc I I I F234_3)<|.store I I I I I I (.ofD I) C3 I (Nat.le_of_ble_eq_true I)<|.nil<|.keep [.box 234 [.d (.int c0_0_48), .d (.int 0), .d (.int (add64 0 x46)), .d (.int (add64 (add64 0 x46) x49))]] [0, 1, 2, 5] (.c4 I .nil) I<|.sr<|.p I (.fieldAddrLoc I I I F234_3)<|.p I (.loadLoc1 I I I Y3 I)<|.z I<|.nil ?_
  cases h
  refine hY _ _ _ 0 ?_ ?_ ?_
  all_goals rfl
end Go.Proofs.YtcagdmegicijlaaGreatDoor
namespace Go.Proofs.YtcagdmegicijlaaGreatDoor
open Go Go.RowKit Go.Proofs
attribute [local go_sem] Oper.semAt_some
def kAsg : Code := (Code.region 4 #[{ dst := some 3, op := Op.alloc 234, type := 0, pos := "lexer.go:137", after := #[], guard := none }, { dst := none, op := Op.store 234 (Operand.tmp 3) (Operand.tmp 13), type := 0, pos := "lexer.go:137", after := #[{ on := 0, ground := Ground.data }, { on := 0, ground := Ground.phase }], guard := none }] false)
def kBody : Code := (Code.block 1 (((Code.region 5 #[{ dst := some 14, op := Op.fieldAddr 234 (Operand.tmp 3) 2, type := 0, pos := "lexer.go:138", after := #[], guard := none }, { dst := some 15, op := Op.load 3 (Operand.tmp 14), type := 3, pos := "lexer.go:138", after := #[{ on := 0, ground := Ground.data }], guard := none }, { dst := some 16, op := Op.binOp BinOp.neq 3 (Operand.tmp 15) (Operand.const (Value.int IntKind.i64 0)) 3, type := 4, pos := "lexer.go:138", after := #[{ on := 1, ground := Ground.data }], guard := none }, { dst := some 17, op := Op.move (Operand.tmp 16), type := 4, pos := "lexer.go:138", after := #[{ on := 2, ground := Ground.data }], guard := none }, { dst := some 18, op := Op.fieldAddr 234 (Operand.tmp 3) 3, type := 0, pos := "lexer.go:138", after := #[{ on := 3, ground := Ground.guard }], guard := some (3, false) }, { dst := some 19, op := Op.load 3 (Operand.tmp 18), type := 3, pos := "lexer.go:138", after := #[{ on := 4, ground := Ground.data }, { on := 3, ground := Ground.guard }], guard := some (3, false) }, { dst := some 20, op := Op.load 9 (Operand.tmp 1), type := 9, pos := "lexer.go:138", after := #[{ on := 3, ground := Ground.guard }], guard := some (3, false) }, { dst := some 21, op := Op.call { callee := Callee.builtin Builtin.len, args := #[Operand.tmp 20], argTypes := #[9] }, type := 3, pos := "lexer.go:138", after := #[{ on := 6, ground := Ground.data }, { on := 3, ground := Ground.guard }], guard := some (3, false) }, { dst := some 22, op := Op.binOp BinOp.neq 3 (Operand.tmp 19) (Operand.tmp 21) 3, type := 4, pos := "lexer.go:138", after := #[{ on := 5, ground := Ground.data }, { on := 7, ground := Ground.data }, { on := 3, ground := Ground.guard }], guard := some (3, false) }, { dst := some 23, op := Op.pick (Operand.tmp 17) (Operand.const (Value.bool true)) (Operand.tmp 22), type := 4, pos := "lexer.go:138", after := #[{ on := 3, ground := Ground.data }, { on := 8, ground := Ground.data }], guard := none }] false).seq (Code.cond (Operand.tmp 23) (Code.exit 0) Code.skip)).seq ((Code.region 6 #[{ dst := some 24, op := Op.fieldAddr 234 (Operand.tmp 3) 0, type := 0, pos := "lexer.go:141", after := #[], guard := none }, { dst := some 25, op := Op.load 3 (Operand.tmp 24), type := 3, pos := "lexer.go:141", after := #[{ on := 0, ground := Ground.data }], guard := none }, { dst := none, op := Op.store 3 (Operand.tmp 2) (Operand.tmp 25), type := 0, pos := "lexer.go:141", after := #[{ on := 1, ground := Ground.data }, { on := 0, ground := Ground.phase }, { on := 1, ground := Ground.phase }], guard := none }] false).seq Code.ret)))
def kRec (fn : FuncId) (tm : Array Value) (Dd : Nat) (st : LoopState) (pend : Option Code) : Loop :=
  { state := st, pending := pend, fn, tmps := tm, params := #[13], assign := kAsg, body := kBody, defers := Dd }
theorem kRound (fn : FuncId) (l Dd B : Nat) (p1 : Addr) (s : ByteArray) (k f a e : Int) (x0 x3 x4 x5 x6 x7 x8 x9 x10 x11 x12 x13 x14 x15 x16 x17 x18 x19 x20 x21 x22 x23 x24 x25 : Value) (W : World) (hBl : B ≠ l) (hp : p1.block ≠ l)
    (hl : W.heap[l]? = some (.loop (kRec fn #[x0, .pointer (some p1), .pointer (some ⟨B, 0, none⟩), x3, x4, x5, x6, x7, x8, x9, x10, x11, x12, x13, x14, x15, x16, x17, x18, x19, x20, x21, x22, x23, x24, x25] Dd .ready none))) (h1 : W.cell? p1 = some (.string s)) (hB : W.heap[B]? = some (.cells #[.int .i64 0] 3 (0, 0))) :
    RoundIn Fence.wide 0 Tryz.prog l fn #[x0, .pointer (some p1), .pointer (some ⟨B, 0, none⟩), x3, x4, x5, x6, x7, x8, x9, x10, x11, x12, (.agg #[.int .i64 k, .int .i64 f, .int .i64 a, .int .i64 e]), x14, x15, x16, x17, x18, x19, x20, x21, x22, x23, x24, x25] kAsg kBody W (fun en W' => en = .returned (.bool false) ∧ Fr (fun b => b = l ∨ b = B) W W' ∧
      ((((a != 0) || (e != (s.size : Int))) = true ∧ W'.heap[l]? = some (.loop (kRec fn #[x0, .pointer (some p1), .pointer (some ⟨B, 0, none⟩), x3, x4, x5, x6, x7, x8, x9, x10, x11, x12, x13, x14, x15, x16, x17, x18, x19, x20, x21, x22, x23, x24, x25] Dd .done (some (.exit 0)))) ∧ W'.heap[B]? = some (.cells #[.int .i64 0] 3 (0, 0))) ∨
       (((a != 0) || (e != (s.size : Int))) = false ∧ W'.heap[l]? = some (.loop (kRec fn #[x0, .pointer (some p1), .pointer (some ⟨B, 0, none⟩), x3, x4, x5, x6, x7, x8, x9, x10, x11, x12, x13, x14, x15, x16, x17, x18, x19, x20, x21, x22, x23, x24, x25] Dd .done (some .ret))) ∧ W'.heap[B]? = some (.cells #[.int .i64 k] 3 (0, 0))))) := by
  refine roundIn_of_wpIn trivial ?_
  unfold kAsg
  gi_wp2_with (rw [Oper.semAt_eq _ _ _ (fun c h => by cases h)]; go_simp; try go_bits)
  have hlt : l < W.heap.size := (Array.getElem?_eq_some_iff.1 hl).1
  have hBlt : B < W.heap.size := (Array.getElem?_eq_some_iff.1 hB).1
  have hplt : p1.block < W.heap.size := by
    refine Nat.lt_of_not_le fun h => ?_
    have e0 : W.heap[p1.block]? = none := Array.getElem?_eq_none_iff.2 h
    simp [World.cell?, e0] at h1
  obtain ⟨W1, hW1⟩ : ∃ W1, W.alloc (.cells #[.int .i64 k, .int .i64 f, .int .i64 a, .int .i64 e] 234) = W1 := ⟨_, rfl⟩
  have hold : ∀ q, q < W.heap.size → W1.heap[q]? = W.heap[q]? := fun q hq => by rw [← hW1]; exact Below.heap_alloc _ _ q hq
  have hnew : W1.heap[W.heap.size]? = some (.cells #[.int .i64 k, .int .i64 f, .int .i64 a, .int .i64 e] 234) := by rw [← hW1]; exact World.alloc_heap_new W _
  have hsz1 : W1.heap.size = W.heap.size + 1 := by rw [← hW1]; simp
  have hfr1 : Fr ze W W1 := by rw [← hW1]; exact ⟨rfl, rfl, rfl, by simp, fun b hb _ => Below.heap_alloc W _ b hb, Nat.le_refl _⟩
  simp only [hW1]
  clear hW1
  have hL1 := (hold l hlt).trans hl
  have hbr := run_beginRound (P := Tryz.prog) hL1 rfl
  obtain ⟨W2, hW2⟩ : ∃ W2, W1.putObj l (.loop { kRec fn #[x0, .pointer (some p1), .pointer (some ⟨B, 0, none⟩), x3, x4, x5, x6, x7, x8, x9, x10, x11, x12, x13, x14, x15, x16, x17, x18, x19, x20, x21, x22, x23, x24, x25] Dd .ready none with state := .busy }) = W2 := ⟨_, rfl⟩
  have hfr2 : Fr (fun b => b = l) W1 W2 := by rw [← hW2]; exact ⟨rfl, rfl, rfl, by simp, fun b _ hne => World.putObj_heap_other hne, Nat.le_refl _⟩
  rw [hW2] at hbr
  have hput : ∀ q, q ≠ l → W2.heap[q]? = W1.heap[q]? := fun q hq => by rw [← hW2]; exact World.putObj_heap_other hq
  have hL2 := (World.putObj_heap_same (w := W1) (o := .loop { kRec fn #[x0, .pointer (some p1), .pointer (some ⟨B, 0, none⟩), x3, x4, x5, x6, x7, x8, x9, x10, x11, x12, x13, x14, x15, x16, x17, x18, x19, x20, x21, x22, x23, x24, x25] Dd .ready none with state := .busy }) (by omega : l < W1.heap.size))
  rw [hW2] at hL2
  refine ⟨W2, hbr, ?_⟩
  clear hW2 hbr
  have hT2 := (hput W.heap.size (by omega)).trans hnew
  have hB2 := ((hput B hBl).trans (hold B hBlt)).trans hB
  have hp2 : W2.cell? p1 = some (.string s) := ((World.cell?_of_block (hput p1.block hp)).trans (World.cell?_of_block (hold p1.block hplt))).trans h1
  have c0 : W2.cell? ⟨W.heap.size, 0, none⟩ = some (.int .i64 k) := by rw [zU hT2]; rfl
  have c2 : W2.cell? ⟨W.heap.size, 2, none⟩ = some (.int .i64 a) := by rw [zU hT2]; rfl
  have c3 : W2.cell? ⟨W.heap.size, 3, none⟩ = some (.int .i64 e) := by rw [zU hT2]; rfl
  have cB : W2.cell? ⟨B, 0, none⟩ = some (.int .i64 0) := by rw [zU hB2]; rfl
  have fB : W2.frozen? ⟨B, 0, none⟩ = false := by simp [World.frozen?, hB2]
  unfold kBody
  gi_wp2_with (rw [Oper.semAt_eq _ _ _ (fun c h => by cases h)]; go_simp; try go_bits)
  all_goals first
    | (refine ⟨_, _, run_endRound (some (.exit 0)) hL2, rfl, ?_, ?_, (World.putObj_heap_other hBl).trans hB2⟩
       · refine ((hfr1.mono fun _ _ x => x.elim).trans (hfr2.mono fun _ _ x => .inl x)).trans ⟨rfl, rfl, rfl, by simp, fun b _ hne => World.putObj_heap_other (fun h => hne (.inl h)), Nat.le_refl _⟩
       · exact World.putObj_heap_same (Array.getElem?_eq_some_iff.1 hL2).1)
    | (have hL3 : (W2.setCell ⟨B, 0, none⟩ (.int .i64 k)).heap[l]? = some (.loop { kRec fn #[x0, .pointer (some p1), .pointer (some ⟨B, 0, none⟩), x3, x4, x5, x6, x7, x8, x9, x10, x11, x12, x13, x14, x15, x16, x17, x18, x19, x20, x21, x22, x23, x24, x25] Dd .ready none with state := .busy }) := (Below.heap_setCell W2 ⟨B, 0, none⟩ _ l (Ne.symm hBl)).trans hL2
       refine ⟨_, _, run_endRound (some .ret) hL3, rfl, ?_, ?_, (World.putObj_heap_other hBl).trans ?_⟩
       · have f3 : Fr (fun b => b = l ∨ b = B) W2 (W2.setCell ⟨B, 0, none⟩ (.int .i64 k)) := ⟨rfl, rfl, rfl, by simp, fun b _ hne => Below.heap_setCell W2 ⟨B, 0, none⟩ _ b (fun h => hne (.inr h)), Nat.le_refl _⟩
         exact (((hfr1.mono fun _ _ x => x.elim).trans (hfr2.mono fun _ _ x => .inl x)).trans f3).trans ⟨rfl, rfl, rfl, by simp, fun b _ hne => World.putObj_heap_other (fun h => hne (.inl h)), Nat.le_refl _⟩
       · exact World.putObj_heap_same (Array.getElem?_eq_some_iff.1 hL3).1
       · simp [World.setCell, Array.getElem?_modify, hB2])
def kTailC : Code := .seq (Code.region 7 #[{ dst := none, op := Op.store 3 (Operand.tmp 2) (Operand.const (Value.int IntKind.i64 0)), type := 0, pos := "lexer.go:143", after := #[], guard := none }] false) .ret
theorem kTail (B : Nat) (x0 x1 x3 x4 x5 x6 x7 x8 x9 x10 x11 x12 x13 x14 x15 x16 x17 x18 x19 x20 x21 x22 x23 x24 x25 : Value) (df : List Deferred) (W : World) (Qf : Exit → Act → World → Prop) (hB : W.heap[B]? = some (.cells #[.int .i64 0] 3 (0, 0)))
  (h : Qf .ret { tmps := #[x0, x1, .pointer (some ⟨B, 0, none⟩), x3, x4, x5, x6, x7, x8, x9, x10, x11, x12, x13, x14, x15, x16, x17, x18, x19, x20, x21, x22, x23, x24, x25], defers := df } (W.setCell ⟨B, 0, none⟩ (.int .i64 0))) : kTailC.wp Tryz.prog Qf { tmps := #[x0, x1, .pointer (some ⟨B, 0, none⟩), x3, x4, x5, x6, x7, x8, x9, x10, x11, x12, x13, x14, x15, x16, x17, x18, x19, x20, x21, x22, x23, x24, x25], defers := df } W := by
 have cB : W.cell? ⟨B, 0, none⟩ = some (.int .i64 0) := by rw [zU hB]; rfl
 have fB : W.frozen? ⟨B, 0, none⟩ = false := by simp [World.frozen?, hB]
 refine (wpIn_wide (n := 0)).1 ?_
 unfold kTailC
 gi_wp2
 exact h
theorem kTail' (B : Nat) (tm : Array Value) (hs : tm.size = 26) (ht2 : tm[2]? = some (.pointer (some ⟨B, 0, none⟩))) (df : List Deferred) (W : World) (Qf : Exit → Act → World → Prop) (hB : W.heap[B]? = some (.cells #[.int .i64 0] 3 (0, 0)))
  (h : Qf .ret { tmps := tm, defers := df } (W.setCell ⟨B, 0, none⟩ (.int .i64 0))) : kTailC.wp Tryz.prog Qf { tmps := tm, defers := df } W := by
 rcases tm with ⟨_ | ⟨x0, _ | ⟨x1, _ | ⟨x2, _ | ⟨x3, _ | ⟨x4, _ | ⟨x5, _ | ⟨x6, _ | ⟨x7, _ | ⟨x8, _ | ⟨x9, _ | ⟨x10, _ | ⟨x11, _ | ⟨x12, _ | ⟨x13, _ | ⟨x14, _ | ⟨x15, _ | ⟨x16, _ | ⟨x17, _ | ⟨x18, _ | ⟨x19, _ | ⟨x20, _ | ⟨x21, _ | ⟨x22, _ | ⟨x23, _ | ⟨x24, _ | ⟨x25, _ | ⟨x26, xs⟩⟩⟩⟩⟩⟩⟩⟩⟩⟩⟩⟩⟩⟩⟩⟩⟩⟩⟩⟩⟩⟩⟩⟩⟩⟩⟩⟩
 all_goals first | (exfalso; simp at hs; done) | skip
 all_goals first | (exfalso; simp at hs; omega) | skip
 simp at ht2
 subst ht2
 exact kTail B x0 x1 x3 x4 x5 x6 x7 x8 x9 x10 x11 x12 x13 x14 x15 x16 x17 x18 x19 x20 x21 x22 x23 x24 x25 df W Qf hB h
theorem Fr.past {w W0 W : World} {S : Nat → Prop} (h : Fr ze w W0) (k : Fr S W0 W) (hS : ∀ b, S b → w.heap.size ≤ b) : Fr ze w W :=
 ⟨k.os.trans h.os, k.tape.trans h.tape, k.output.trans h.output, Nat.le_trans h.size k.size, fun b hb _ => (k.block b (Nat.lt_of_lt_of_le hb h.size) fun hs => by have := hS b hs; omega).trans (h.block b hb fun x => x.elim), Nat.le_trans h.drawn k.drawn⟩
theorem kLeave {A : Nat → Prop} {w W : World} {tm : Array Value} {B Dd : Nat} {k : Int} (hs : tm.size = 26) (ht2 : tm[2]? = some (.pointer (some ⟨B, 0, none⟩))) (hB : W.heap[B]? = some (.cells #[.int .i64 k] 3 (0, 0))) (hD : W.heap[Dd]? = some (.deferred (some []))) (hBD : B ≠ Dd)
  (hf : Fr ze w W) (hDw : w.heap.size ≤ Dd) : LeavesInM Fence.wide 0 Tryz.prog Tryz.f193 tm (pureEnd A w (.int k)) [{ target := .collected Dd, args := #[] }] .returning W := by
 refine ⟨by simp, .inl ⟨_, _, rfl, run_takeDeferred hD, ?_⟩⟩
 have hB2 : (W.putObj Dd (.deferred none)).heap[B]? = some (.cells #[.int .i64 k] 3 (0, 0)) := (World.putObj_heap_other hBD).trans hB
 have hl := run_loadAt_D (P := Tryz.prog) (A := fun _ => False) (w := W.putObj Dd (.deferred none)) (t := 3) (k := none) Y3 (b := B) (off := 0) (d := .int k) (u := .int .i64 k) (by simp only [D.rep]) rfl (fun q hq => by
  have hq0 : q = 0 := by simp [Value.cells] at hq; omega
  subst hq0
  rw [zU hB2]; simp [Value.cells])
 simp only [Instr.loadAt, Instr.sureAddr, Sem.run_bind, Sem.run_pure, Result.andThen_ok] at hl
 refine ⟨.int .i64 k, ?_, _, rfl, ?_, by simp only [D.rep]⟩
 ·have hp : tm.getD 2 undef = .pointer (some ⟨B, 0, none⟩) := by
   have h2 : (2 : Nat) < tm.size := by omega
   rw [Array.getElem?_eq_getElem h2] at ht2
   simpa [Array.getD, h2] using ht2
  have hr : (resOne tm (.cell 2 3)).run Tryz.prog (W.putObj Dd (.deferred none)) = .ok (.int .i64 k) (W.putObj Dd (.deferred none)) := by
   simp only [resOne, Sem.run_bind, hp, asAddr, Sem.run_pure, Result.andThen_ok, hl]
  rw [results_eq]
  have hm : ((Tryz.f193).results.mapM (resOne tm)).run Tryz.prog (W.putObj Dd (.deferred none)) = .ok #[.int .i64 k] (W.putObj Dd (.deferred none)) := by
   show (#[ResultVar.cell 2 3].mapM (resOne tm)).run Tryz.prog _ = _
   rw [List.mapM_toArray]
   simp [Sem.run_map, hr]
  simp only [Sem.run_bind, hm, Result.andThen_ok, Sem.run_pure]
  rfl
 ·exact hf.past (S := fun b => b = Dd) ⟨rfl, rfl, rfl, by simp, fun b _ hne => World.putObj_heap_other hne, Nat.le_refl _⟩ (fun b hb => by rw [hb]; exact hDw)
theorem kRound' (fn : FuncId) (l Dd B : Nat) (p1 : Addr) (s : ByteArray) (k f a e : Int) (tm : Array Value) (hs : tm.size = 26) (ht1 : tm[1]? = some (.pointer (some p1))) (ht2 : tm[2]? = some (.pointer (some ⟨B, 0, none⟩))) (W : World) (hBl : B ≠ l) (hp : p1.block ≠ l)
    (hl : W.heap[l]? = some (.loop (kRec fn tm Dd .ready none))) (h1 : W.cell? p1 = some (.string s)) (hB : W.heap[B]? = some (.cells #[.int .i64 0] 3 (0, 0))) :
    RoundIn Fence.wide 0 Tryz.prog l fn (tm.setIfInBounds 13 (.agg #[.int .i64 k, .int .i64 f, .int .i64 a, .int .i64 e])) kAsg kBody W (fun en W' => en = .returned (.bool false) ∧ Fr (fun b => b = l ∨ b = B) W W' ∧
      ((((a != 0) || (e != (s.size : Int))) = true ∧ W'.heap[l]? = some (.loop (kRec fn tm Dd .done (some (.exit 0)))) ∧ W'.heap[B]? = some (.cells #[.int .i64 0] 3 (0, 0))) ∨
       (((a != 0) || (e != (s.size : Int))) = false ∧ W'.heap[l]? = some (.loop (kRec fn tm Dd .done (some .ret))) ∧ W'.heap[B]? = some (.cells #[.int .i64 k] 3 (0, 0))))) := by
  rcases tm with ⟨_ | ⟨x0, _ | ⟨x1, _ | ⟨x2, _ | ⟨x3, _ | ⟨x4, _ | ⟨x5, _ | ⟨x6, _ | ⟨x7, _ | ⟨x8, _ | ⟨x9, _ | ⟨x10, _ | ⟨x11, _ | ⟨x12, _ | ⟨x13, _ | ⟨x14, _ | ⟨x15, _ | ⟨x16, _ | ⟨x17, _ | ⟨x18, _ | ⟨x19, _ | ⟨x20, _ | ⟨x21, _ | ⟨x22, _ | ⟨x23, _ | ⟨x24, _ | ⟨x25, _ | ⟨x26, xs⟩⟩⟩⟩⟩⟩⟩⟩⟩⟩⟩⟩⟩⟩⟩⟩⟩⟩⟩⟩⟩⟩⟩⟩⟩⟩⟩⟩
  all_goals first | (exfalso; simp at hs; done) | skip
  all_goals first | (exfalso; simp at hs; omega) | skip
  simp at ht1 ht2
  subst ht1; subst ht2
  exact kRound fn l Dd B p1 s k f a e x0 x3 x4 x5 x6 x7 x8 x9 x10 x11 x12 x13 x14 x15 x16 x17 x18 x19 x20 x21 x22 x23 x24 x25 W hBl hp hl h1 hB
theorem hK238 : callable Tryz.prog 238 = true := by kernel_rfl
theorem hK218 : callable Tryz.prog 218 = true := by kernel_rfl
theorem hK239 : callable Tryz.prog 239 = true := by kernel_rfl
theorem hZ167 : zay Tryz.prog 167 none = true := by kernel_rfl
abbrev KE : List UInt8 → Value := fun l : List UInt8 => Value.string ⟨l.toArray⟩
theorem lexer_tokens_ok (n : Nat) (t0 : List UInt8) (kw : GMap (List UInt8) Bool) (h : za6 n = some kw) : Pure Tryz.prog 218 [.str t0] (.fn (.func 239) [] [.ref (.str t0), .ref (GMap.dat KE D.bool kw)]) := by
 refine Pure.of_tri Tryz.func218 rfl (by rw [Tryz.ntmps218]; simp) fun A w => ?_
 rw [Tryz.ntmps218]
 refine .seq ?_
 refine .region ?_
 refine .op rfl rfl (.box rfl rfl) ?_
 refine .op rfl rfl (.assign rfl rfl) ?_
 refine .nil ?_
 refine .seq ?_
 refine .region ?_
 refine .op rfl rfl (.call rfl hK238 rfl (lexer_keywords_ok _ _ h)) ?_
 refine .allocStore rfl rfl rfl rfl rfl rfl rfl rfl (by simp) rfl rfl hZ167 ?_
 refine .nil ?_
 refine .seq ?_
 refine .region ?_
 refine .op rfl rfl (.makeFunc rfl rfl) ?_
 refine .op rfl rfl (.assign rfl rfl) ?_
 refine .nil ?_
 refine .ret ?_
 exact zbw rfl (.d _)
theorem lexer_Kind_ok (n : Nat) (t0 : List UInt8) (r : Int) (h : lexer_Kind n t0 = some r) : Pure Tryz.prog 193 [.str t0] (.int r) := by
  unfold lexer_Kind at h
  refine Pure.of_triM Tryz.func193 rfl (by rw [Tryz.ntmps193]; simp) fun A w => ?_
  rw [Tryz.ntmps193]
  refine .seq ?_
  refine .region ?_
  refine .op rfl rfl (.box rfl rfl) ?_
  refine .allocZ rfl rfl rfl rfl (.val Zv3) rfl ?_
  refine .nil ?_
  refine .seq ?_
  refine .seq ?_
  refine .plain 7 rfl ?_
  refine .op rfl rfl rfl rfl (.load rfl rfl Y9 rfl) ?_
  refine .op rfl rfl rfl rfl (.str_eql rfl rfl rfl) ?_
  refine .op rfl rfl rfl rfl (.move rfl rfl) ?_
  refine .jOr 3 (b2 := decide (4096 < (t0.length : Int))) rfl rfl rfl rfl (.inl rfl) (fun _ _ _ h1 => (by cases h1)) rfl rfl (fun hb_1 => ?_) ?_
  · refine .gop rfl rfl rfl rfl rfl rfl (.load rfl rfl Y9 rfl) ?_
    refine .gop rfl rfl rfl rfl rfl rfl (.len_str rfl U9 rfl) ?_
    refine .gop rfl rfl rfl rfl rfl rfl (.gtr rfl rfl rfl) ?_
    exact .nil rfl
  refine .nil ?_
  refine .nil ?_
  refine .condS rfl h (fun h => ?_) (fun h => ?_)
  · refine .seq ?_
    refine .region ?_
    refine .store rfl rfl rfl rfl rfl rfl (.ofD rfl) C3 rfl (Nat.le_of_ble_eq_true rfl) ?_
    refine .nil ?_
    refine .ret ?_
    cases h
    exact retCell1 rfl rfl Y3 (.d _)
  refine .skip ?_
  obtain ⟨kw, hkw, h⟩ := bindS h
  obtain ⟨tok, htok, h⟩ := bindS h
  refine Tri.le (t := ⟨[(1, .d (.ref (.str t0))), (2, .loc 0 0)], [.box 3 [.d (.int 0)]]⟩) ⟨rfl, rfl, rfl, trivial⟩ ?_
  refine ⟨fun bs a w' hR => ?_⟩
  have hR0 : R ⟨A, ze, w, 26, fun _ _ => False, [], 0, []⟩ bs ⟨[(1, .d (.ref (.str t0))), (2, .loc 0 0)], [.box 3 [.d (.int 0)]]⟩ a w' := hR.noEsc
  refine wp_seq (wp_seq (Code.wp_mono ?_ (Tri.run (C := ⟨A, ze, w, 26, fun _ _ => False, [], 0, []⟩) (Q := fun e s => e = .normal ∧ look 12 s.T = some (.d (.fn (.func 239) [] [.ref (.str t0), .ref (GMap.dat KE D.bool kw)])) ∧ look 1 s.T = some (.d (.ref (.str t0))) ∧ look 2 s.T = some (.loc 0 0) ∧ s.H[0]? = some (.box 3 [.d (.int 0)])) ?_ bs a w' hR0)))
  case refine_2 =>
    refine .region ?_
    refine .op rfl rfl (.load rfl rfl Y9 rfl) ?_
    refine .op rfl rfl (.call rfl hK218 rfl (lexer_tokens_ok _ _ _ hkw)) ?_
    refine .nil ?_
    exact ⟨rfl, rfl, rfl, rfl, rfl⟩
  rintro e a3 w3 (⟨bs3, s3, ⟨rfl, g12, g1, g2, gH⟩, hR3⟩ | ⟨_, hE⟩)
  case inr => exact hE.elim
  simp only [Exit.then]
  -- what the temporaries hold
  have e12 := hR3.ev (x := .tmp 12) (by simpa [ev] using g12)
  have e1 := hR3.ev (x := .tmp 1) (by simpa [ev] using g1)
  have e2 := hR3.ev (x := .tmp 2) (by simpa [ev] using g2)
  have hbox := hR3.blk 0 _ gH
  simp only [V.rep, gH] at e2
  obtain ⟨B, hB0, e2⟩ := e2
  simp only [Blk.rep] at hbox
  obtain ⟨B', vs, hB1, hBh, hvs⟩ := hbox
  obtain rfl : B = B' := by rw [hB0] at hB1; simpa using hB1
  have hvs : vs = #[.int .i64 0] := by
    simp only [V.reps, V.rep, D.rep] at hvs
    obtain ⟨v, vs', hv, rfl, rfl⟩ := hvs
    exact Array.toList_inj.1 hv
  subst hvs
  simp only [V.rep] at e12 e1
  simp only [D.rep] at e1
  obtain ⟨pb, po, pu, e1, hpA, hplt, hpu, hpc⟩ := e1
  subst hpu
  have hstr : w3.cell? ⟨pb, po, none⟩ = some (.string ⟨t0.toArray⟩) := by have := hpc 0 (by simp [Value.cells]); simpa [Value.cells] using this
  have e12' := e12
  simp only [D.rep] at e12
  obtain ⟨vs, us, e12, hv0, hus⟩ := e12
  simp only [D.reps] at hv0
  have hv0 : vs = #[] := by simpa using hv0
  subst hv0
  have hsz : a3.tmps.size = 26 := hR3.size
  have hdf : a3.defers = [] := hR3.defers
  have hown := hR3.own
  have hBlt : B < w3.heap.size := (Array.getElem?_eq_some_iff.1 hBh).1
  refine (wpIn_wide (n := 0)).1 (wpIn_block (wpIn_rangeFunc ?_))
  intro fn _
  obtain ⟨w4, hw4⟩ : ∃ w4, (w3.alloc (.deferred (some []))).alloc (.loop (kRec fn a3.tmps w3.heap.size .ready none)) = w4 := ⟨_, rfl⟩
  have hold : ∀ q, q < w3.heap.size → w4.heap[q]? = w3.heap[q]? := fun q hq => by rw [← hw4]; exact (Below.heap_alloc _ _ q (by simp; omega)).trans (Below.heap_alloc _ _ q hq)
  have hL4 : w4.heap[w3.heap.size + 1]? = some (.loop (kRec fn a3.tmps w3.heap.size .ready none)) := by rw [← hw4]; have := World.alloc_heap_new (w3.alloc (.deferred (some []))) (.loop (kRec fn a3.tmps w3.heap.size .ready none)); rwa [World.size_alloc] at this
  have hD4 : w4.heap[w3.heap.size]? = some (.deferred (some [])) := by rw [← hw4]; exact (Below.heap_alloc _ _ _ (by simp)).trans (World.alloc_heap_new w3 _)
  have hs4 : w4.heap.size = w3.heap.size + 2 := by rw [← hw4]; simp
  have hfr4 : Fr ze w3 w4 := by
    rw [← hw4]
    exact (⟨rfl, rfl, rfl, by simp, fun b hb _ => Below.heap_alloc _ _ b hb, Nat.le_refl _⟩ : Fr ze w3 (w3.alloc (.deferred (some [])))).trans ⟨rfl, rfl, rfl, by simp, fun b hb _ => Below.heap_alloc _ _ b hb, Nat.le_refl _⟩
  refine ⟨w3.heap.size + 1, [{ target := .collected w3.heap.size, args := #[] }], w4, { target := .fn (.func 239) us, args := #[.func (.yield (w3.heap.size + 1)) #[] #[]] }, w4, 239, #[.func (.yield (w3.heap.size + 1)) #[] #[]] ++ us, w4, ?_, ?_, fun _ _ => trivial, ?_, fun h => by simp [Fence.wide] at h, ?_⟩
  · rw [← hw4]; exact run_enterLoop_outer _ _ _ _ _
  · have ek : ∀ v, a3.eval (.const v) = v := fun _ => rfl
    simp [resolve, e12, Deferred.ofValue, ek]
  · simp only [invoke]; exact zbq hK239 _ w4
  -- the blocks that are not the iterator's to touch
  obtain ⟨A', hA'⟩ : ∃ A' : Nat → Prop, A' = fun b => Own A bs3 b ∨ b = w3.heap.size ∨ b = w3.heap.size + 1 := ⟨_, rfl⟩
  have hAlt : ∀ b, A' b → b < w4.heap.size := fun b hb => by
    subst hA'
    rcases hb with (hb | hb) | rfl | rfl
    · have := hown.foreign b hb; omega
    · have := hown.lt b hb; omega
    · omega
    · omega
  have hAin : ∀ b, b < w3.heap.size → A' b → Own A bs3 b := fun b hb hb' => by
    subst hA'
    rcases hb' with hb' | rfl | rfl
    · exact hb'
    · omega
    · omega
  have hG4 : GlobOK A' w4 := hown.glob.fr hfr4 (fun _ x => x.elim) hAin
  have hargs : D.reps A' w4 [.fn (.yield (w3.heap.size + 1)) [] [], .ref (.str t0), .ref (GMap.dat KE D.bool kw)] ((#[Value.func (.yield (w3.heap.size + 1)) #[] #[]] : Array Value) ++ us).toList := by
    have := D.reps_fr hfr4 (fun _ x => x.elim) hAin _ _ hus
    simp only [Array.toList_append, List.cons_append, List.nil_append, D.reps, D.rep] at this ⊢
    exact ⟨_, _, rfl, ⟨#[], #[], rfl, rfl, rfl⟩, this⟩
  have hstr4 : w4.cell? ⟨pb, po, none⟩ = some (.string ⟨t0.toArray⟩) := by rw [World.cell?_of_block (hold pb hplt)]; exact hstr
  have hB4 : w4.heap[B]? = some (.cells #[.int .i64 0] 3 (0, 0)) := (hold B hBlt).trans hBh
  have ht1 : a3.tmps[1]? = some (.pointer (some ⟨pb, po, none⟩)) := by
    have : a3.tmps.getD 1 undef = .pointer (some ⟨pb, po, none⟩) := e1
    simpa [Array.getD, hsz] using this
  have ht2 : a3.tmps[2]? = some (.pointer (some ⟨B, 0, none⟩)) := by
    have : a3.tmps.getD 2 undef = .pointer (some ⟨B, 0, none⟩) := e2
    simpa [Array.getD, hsz] using this
  obtain ⟨Post, hPost⟩ : ∃ Post : World → Prop, Post = (fun W' => ∃ W0, Fr ze w4 W0 ∧ Fr (fun b => b = w3.heap.size + 1 ∨ b = B) W0 W' ∧
      ((((tok.at_ != 0) || (tok.end_ != (t0.length : Int))) = true ∧ W'.heap[w3.heap.size + 1]? = some (.loop (kRec fn a3.tmps w3.heap.size .done (some (.exit 0)))) ∧ W'.heap[B]? = some (.cells #[.int .i64 0] 3 (0, 0))) ∨
       (((tok.at_ != 0) || (tok.end_ != (t0.length : Int))) = false ∧ W'.heap[w3.heap.size + 1]? = some (.loop (kRec fn a3.tmps w3.heap.size .done (some .ret))) ∧ W'.heap[B]? = some (.cells #[.int .i64 tok.kind] 3 (0, 0))))) := ⟨_, rfl⟩
  refine callsIn_wide.2 ((calls_of_triE (A := A') (w := w4) (Post := Post) Tryz.func239 rfl rfl (by rw [Tryz.ntmps239]; exact Nat.le_of_ble_eq_true rfl) hAlt hG4 hargs ?_).mono ?_)
  · have htri := lexer_tokens_1_tri n t0 kw (.fn (.yield (w3.heap.size + 1)) [] []) ⟨A', ze, w4, 93, fun a W' => a.defers = [] ∧ Post W', [], 0, []⟩ rfl rfl (fun _ _ => False) tok htok (fun Q T H j q0 q5 qj => tokX_tri (Post := Post) (w3.heap.size + 1) tok ?_ Q T H j q0 q5 qj)
    · rw [bodyOf_eq Tryz.func239 rfl] at htri
      exact htri
    · intro W v hf hv
      simp only [Token.enc, D.rep, D.reps] at hv
      obtain ⟨vs, rfl, v1, l1, hvs, rfl, v2, l2, rfl, rfl, v3, l3, rfl, rfl, v4, l4, rfl, rfl, rfl⟩ := hv
      have hvs : vs = #[.int .i64 tok.kind, .int .i64 tok.from_, .int .i64 tok.at_, .int .i64 tok.end_] := Array.toList_inj.1 (by simpa using hvs)
      subst hvs
      have hLW : W.heap[w3.heap.size + 1]? = some (.loop (kRec fn a3.tmps w3.heap.size .ready none)) := (hf.block _ (by omega) (fun x => x.elim)).trans hL4
      refine ⟨fn, a3.tmps.setIfInBounds 13 (.agg #[.int .i64 tok.kind, .int .i64 tok.from_, .int .i64 tok.at_, .int .i64 tok.end_]), kAsg, kBody, ?_, (kRound' fn (w3.heap.size + 1) w3.heap.size B ⟨pb, po, none⟩ ⟨t0.toArray⟩ tok.kind tok.from_ tok.at_ tok.end_ a3.tmps hsz ht1 ht2 W (by omega) (by simp only; omega) hLW ?_ ?_).mono ?_⟩
      · have := run_yield (P := Tryz.prog) (args := #[.agg #[.int .i64 tok.kind, .int .i64 tok.from_, .int .i64 tok.at_, .int .i64 tok.end_]]) hLW rfl
        simpa [kRec] using this
      · rw [World.cell?_of_block (hf.block pb (by omega) (fun x => x.elim))]; exact hstr4
      · exact (hf.block B (by omega) (fun x => x.elim)).trans hB4
      · rintro e W' ⟨rfl, hf2, hcase⟩
        exact ⟨rfl, by rw [hPost]; exact ⟨W, hf, hf2, hcase⟩⟩
  · rintro e W ⟨⟨u, rfl⟩, hP⟩
    rw [hPost] at hP
    obtain ⟨W0, f1, f2, hcase⟩ := hP
    have hs0 : w4.heap.size ≤ W0.heap.size := f1.size
    have hD0 : W0.heap[w3.heap.size]? = some (.deferred (some [])) := (f1.block w3.heap.size (by omega) (fun x => x.elim)).trans hD4
    have hDW : W.heap[w3.heap.size]? = some (.deferred (some [])) := (f2.block w3.heap.size (by omega) (by rintro (h | h) <;> omega)).trans hD0
    have hww : w.heap.size ≤ w3.heap.size := hR3.fr.size
    have hBw : w.heap.size ≤ B := (hR3.new B (List.mem_of_getElem? hB0)).resolve_left (fun h => h)
    have hfr3 : Fr ze w w3 := hR3.fr
    have hfW : Fr ze w W := ((hfr3.trans hfr4).trans f1).past f2 (by rintro b (rfl | rfl) <;> omega)
    rcases hcase with ⟨hc, hL, hBW⟩ | ⟨hc, hL, hBW⟩
    · rw [if_pos hc] at h
      cases h
      refine ⟨some (.exit 0), _, run_endLoop hL (by simp [kRec]), ?_⟩
      have hB5 : (W.putObj (w3.heap.size + 1) (.loop { kRec fn a3.tmps w3.heap.size .done (some (.exit 0)) with state := .exhausted })).heap[B]? = some (.cells #[.int .i64 0] 3 (0, 0)) := (World.putObj_heap_other (by omega)).trans hBW
      have hD5 : (W.putObj (w3.heap.size + 1) (.loop { kRec fn a3.tmps w3.heap.size .done (some (.exit 0)) with state := .exhausted })).heap[w3.heap.size]? = some (.deferred (some [])) := (World.putObj_heap_other (by omega)).trans hDW
      have hf5 : Fr ze w (W.putObj (w3.heap.size + 1) (.loop { kRec fn a3.tmps w3.heap.size .done (some (.exit 0)) with state := .exhausted })) := hfW.past (S := fun b => b = w3.heap.size + 1) ⟨rfl, rfl, rfl, by simp, fun b _ hne => World.putObj_heap_other hne, Nat.le_refl _⟩ (by rintro b rfl; omega)
      generalize W.putObj (w3.heap.size + 1) (.loop { kRec fn a3.tmps w3.heap.size .done (some (.exit 0)) with state := .exhausted }) = W5 at hB5 hD5 hf5 ⊢
      refine wpIn_exit ?_
      simp only [Exit.inBlock, if_true, Exit.then]
      have hB6 : (W5.setCell ⟨B, 0, none⟩ (.int .i64 0)).heap[B]? = some (.cells #[.int .i64 0] 3 (0, 0)) := by simp [World.setCell, Array.getElem?_modify, hB5]
      have hD6 : (W5.setCell ⟨B, 0, none⟩ (.int .i64 0)).heap[w3.heap.size]? = some (.deferred (some [])) := (Below.heap_setCell W5 ⟨B, 0, none⟩ _ _ (by simp only; omega)).trans hD5
      have hf6 : Fr ze w (W5.setCell ⟨B, 0, none⟩ (.int .i64 0)) := by
        have k6 : Fr (fun b => b = B) W5 (W5.setCell ⟨B, 0, none⟩ (.int .i64 0)) := ⟨rfl, rfl, rfl, by simp, fun b _ hne => Below.heap_setCell W5 ⟨B, 0, none⟩ _ b hne, Nat.le_refl _⟩
        exact hf5.past k6 (by rintro b rfl; exact hBw)
      exact kTail' B a3.tmps hsz ht2 _ W5 _ hB5 (.inr ⟨rfl, by rw [hdf]; exact kLeave hsz ht2 hB6 hD6 (by omega) hf6 hww⟩)
    · rw [if_neg (by rw [hc]; simp)] at h
      cases h
      refine ⟨some .ret, _, run_endLoop hL (by simp [kRec]), ?_⟩
      have hB5 : (W.putObj (w3.heap.size + 1) (.loop { kRec fn a3.tmps w3.heap.size .done (some .ret) with state := .exhausted })).heap[B]? = some (.cells #[.int .i64 tok.kind] 3 (0, 0)) := (World.putObj_heap_other (by omega)).trans hBW
      have hD5 : (W.putObj (w3.heap.size + 1) (.loop { kRec fn a3.tmps w3.heap.size .done (some .ret) with state := .exhausted })).heap[w3.heap.size]? = some (.deferred (some [])) := (World.putObj_heap_other (by omega)).trans hDW
      have hf5 : Fr ze w (W.putObj (w3.heap.size + 1) (.loop { kRec fn a3.tmps w3.heap.size .done (some .ret) with state := .exhausted })) := hfW.past (S := fun b => b = w3.heap.size + 1) ⟨rfl, rfl, rfl, by simp, fun b _ hne => World.putObj_heap_other hne, Nat.le_refl _⟩ (by rintro b rfl; omega)
      generalize W.putObj (w3.heap.size + 1) (.loop { kRec fn a3.tmps w3.heap.size .done (some .ret) with state := .exhausted }) = W5 at hB5 hD5 hf5 ⊢
      refine wpIn_ret ?_
      simp only [Exit.inBlock, Exit.then]
      exact .inr ⟨rfl, by rw [hdf]; exact kLeave hsz ht2 hB5 hD5 (by omega) hf5 hww⟩
end Go.Proofs.YtcagdmegicijlaaGreatDoor
