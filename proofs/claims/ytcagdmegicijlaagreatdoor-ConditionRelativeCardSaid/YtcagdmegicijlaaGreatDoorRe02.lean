/- Part of the proof of one law of the seat. -/
import Derived.Test.YtcagdmegicijlaaGreatDoorRe01
import Derived.Laws.StructEq
import Derived.Laws.MakeOwn
import Derived.Maps.RangeRun
import Derived.MapKept
import Derived.RangeFuncRecord
import Derived.RangeFuncLeaves
import Derived.RangeFuncCalls
import Derived.TacticsIn
import Derived.Laws.CopyRow
import Derived.Lib.SliceRun
import Derived.Laws.Externs
import Derived.Lib.Bytealg
import Derived.Test.YtcagdmegicijlaaGreatDoorProg
import Derived.KernelRfl
import Derived.Deep.Slices
import Derived.WideKeyArgs
import Derived.OpenShut
import Derived.Test.YtcagdmegicijlaaGreatDoorRows
import Derived.Lib.LaidTab
import Derived.Lib.LaidU8
import Derived.Stop.LaidErr
import Derived.MakeChecks
import Derived.OrdersIn
import Derived.RangeFuncIn
set_option linter.unusedVariables false
set_option linter.unusedSectionVars false
set_option linter.unusedSimpArgs false
set_option maxHeartbeats 4000000
namespace Go.Proofs.YtcagdmegicijlaaGreatDoor
open Go Go.RowKit
variable [Globs]
theorem D.flat_set {A : Nat → Prop} {w : World} {k : Nat} : ∀ {xs : List D} {cs : List Value}, D.flat A w k xs cs → ∀ (j : Nat), j < xs.length → ∀ {x : D} {u : Value}, D.rep A w x u → u.cells.size = k → D.flat A w k (xs.set j x) (cs.take (j * k) ++ u.cells.toList ++ cs.drop (j * k + k))
 | [], _, _, j, hj, _, _, _, _ => absurd hj (by simp)
 | y :: xs, cs, h, 0, _, x, u, hx, hu => by
  simp only [D.flat] at h
  obtain ⟨v, cs', rfl, hk, _, h2⟩ := h
  simp only [List.set_cons_zero, D.flat]
  refine ⟨u, cs', ?_, hu, hx, h2⟩
  simp only [Nat.zero_mul, List.take_zero, List.nil_append, Nat.zero_add]
  rw [List.drop_left' (by simp [hk])]
 | y :: xs, cs, h, j + 1, hj, x, u, hx, hu => by
  simp only [D.flat] at h
  obtain ⟨v, cs', rfl, hk, h1, h2⟩ := h
  simp only [List.set_cons_succ, D.flat]
  refine ⟨v, _, ?_, hk, h1, D.flat_set h2 j (by simpa using hj) hx hu⟩
  have e : (j + 1) * k = v.cells.toList.length + j * k := by rw [Nat.succ_mul, Array.length_toList, hk]; omega
  rw [e, List.take_length_add_append, Nat.add_assoc, List.drop_length_add_append]
  simp only [List.append_assoc]
theorem stoS {α : Type} {l : List α} {i : Int} {x : α} {r : List α} (h : sto l i x = some r) : ∃ n : Nat, i = (n : Int) ∧ n < l.length ∧ r = l.set n x := by
 unfold sto at h; split at h
 ·rename_i h0
  obtain ⟨n, rfl⟩ := Int.eq_ofNat_of_zero_le h0.1
  cases h
  exact ⟨n, rfl, by simpa using h0.2, by simp⟩
 ·cases h
theorem TriL.storeEl {P : Program} {C : Ctx} {ops : Array Oper} {o : Oper} {rest : List Oper} {Q : Exit → St → Prop} {T : List (Nat × V)} {H : List Blk} {α : Type} {t el : TypeId} {x y : Operand} {i n k : Nat} {enc : α → D} {l r : List α} {z : α} {a : Int}
  (hg : o.guard = none) (ho : o.op = .store t x y) (hd : o.dst = none) (hx : ev T x = some (.el i n a.toNat 0)) (hi : H[i]? = some (.vec el k (l.map enc))) (hn : n = l.length) (hy : ev T y = some (.d (enc z))) (hk : (enc z).kOK k = true) (h1 : (enc z).ones = true)
  (hs : cellsOf P t = some k) (hv : sto l a z = some r)
  (kk : TriL P C ops rest Q ⟨T, H.set i (.vec el k (r.map enc))⟩) : TriL P C ops (o :: rest) Q ⟨T, H⟩ := by
 obtain ⟨j, rfl, hj, rfl⟩ := stoS hv
 refine TriL.step hg (fun bs a w hR => ?_) kk
 have hp := hR.ev hx
 have hz := hR.ev hy
 simp only [V.rep] at hz
 simp only [V.rep, hi] at hp
 obtain ⟨hdr, cells, g1, g2, g3, b, g4, g5⟩ := hp.2 (by simpa using hn)
 simp only [Int.toNat_natCast, Nat.add_zero] at g5
 rcases g1.2 with ⟨h, h0⟩ | ⟨g, cap, cur, hh, _, hheap, hnc, hcm, hcs, htake⟩
 ·omega
 obtain rfl : g = b := by rw [hh] at g4; simpa [Value.ownBlock] using g4
 have hsz := D.kOK_cells hz hk
 have hone : ∀ c ∈ (Act.eval a y).cells.toList, c.oneCell' = true := D.one_cells hz h1
 have hjk : j * k + k ≤ n * k := by rw [← Nat.succ_mul]; exact Nat.mul_le_mul_right _ (by omega)
 have hnk : n * k ≤ cap * k := Nat.mul_le_mul_right _ hnc
 have hst := run_storeCells_at P g (j * k) el (Act.eval a y).cells.toList 0 cur w hheap (by simp [hsz, hcs]; omega) hone
 simp only [Nat.add_zero, Array.length_toList] at hst
 unfold cellsOf at hs
 cases hinf : P.info? t with
 | none => simp [hinf] at hs
 | some inf =>
  simp only [hinf, Option.map_some, Option.some.injEq] at hs
  have hsz' : (Act.eval a y).cells.size = inf.size := by omega
  have hrun : (execOp a.eval o).run P w = .ok .skip (w.setRow g (cur.toList.take (j * k) ++ (Act.eval a y).cells.toList ++ cur.toList.drop (j * k + (Act.eval a y).cells.size)).toArray) := by
   simp only [execOp, ho, g5, Instr.storeAt, Instr.sureAddr, storeVar, sizeOf, typeInfo, program, Sem.run_bind, Sem.run, hinf, Sem.run_pure, Result.andThen_ok, hsz', ne_eq, not_true_eq_false, if_false]
   rw [hsz'] at hst
   simp [hst]
  have hfr : Fr (fun c => some g = some c) w (w.setRow g (cur.toList.take (j * k) ++ (Act.eval a y).cells.toList ++ cur.toList.drop (j * k + (Act.eval a y).cells.size)).toArray) :=
   ⟨rfl, rfl, rfl, by simp, fun c _ hno => setRow_other w g c _ (fun e => hno (by rw [e])), Nat.le_refl _⟩
  have hset : bs.set i (some g) = bs := by
   refine List.ext_getElem? fun q => ?_
   by_cases hij : i = q
   ·subst hij; rw [List.getElem?_set_self (List.getElem?_eq_some_iff.1 g2).1, g2, g4]
   ·rw [List.getElem?_set_ne hij]
  have hWA : ∀ c, some g = some c → Own C.A0 bs c := fun c hc => .inr (by rw [← hc]; rw [g4] at g2; exact List.mem_of_getElem? g2)
  have hupd := R.upd (y := .vec el k ((l.set j z).map enc)) (c := some g) (c' := some g) hR hi (by rw [g2, g4]) (by
   simp only [Compat]
   refine .inr ⟨by simp, trivial, trivial, fun v cells' q1 q2 q3 => ?_⟩
   rcases q1.2 with ⟨h, h0⟩ | ⟨g', cap', cur', hh', _, hheap', hnc', hcm', hcs', htake'⟩
   ·simp only [List.length_map] at h0; omega
   obtain rfl : g = g' := by rw [hh'] at q2; simpa [Value.ownBlock] using q2
   rw [hheap] at hheap'
   cases hheap'
   have hn' : (l.map enc).length = n := by simp [hn]
   rw [hn'] at htake' q1 hnc' ⊢
   have hcells : cells' = cells := by rw [← htake', ← htake]
   subst hcells
   have hfl : D.flat (Own C.A0 bs) w k ((l.map enc).set j (enc z)) (cells'.take (j * k) ++ (Act.eval a y).cells.toList ++ cells'.drop (j * k + k)) := D.flat_set q3 j (by simpa using hj) hz hsz
   refine ⟨_, ⟨?_, .inr ⟨g, cap', _, by rw [hh', hn'], Nat.zero_le _, setRow_heap w g cur _ el _ hheap, hnc', hcm', ?_, ?_⟩⟩, D.flat_fr hfr hWA (fun c _ hc => by rw [hset] at hc; exact hc) _ _ (by rw [List.map_set]; exact hfl)⟩
   ·have := q1.1
    simp only [List.length_append, List.length_take, List.length_drop, Array.length_toList, hsz]
    omega
   ·simp only [List.size_toArray, List.length_append, List.length_take, List.length_drop, Array.length_toList, hsz, hcs']
    omega
   ·rw [hsz, ← htake]
    have l1 : (cur.toList.take (j * k)).length = j * k := by simp; omega
    have l2 : ((cur.toList.take (j * k)) ++ (Act.eval a y).cells.toList).length = j * k + k := by simp only [List.length_append, l1, Array.length_toList, hsz]
    rw [List.take_append, l2, List.take_of_length_le (by rw [l2]; exact hjk), List.take_take, Nat.min_eq_left (by omega), List.drop_take]) hfr (.inl rfl) (by simp only [Blk.rep])
  refine ⟨_, _, bs, hrun, .inr ⟨rfl, ?_⟩⟩
  rw [hset] at hupd
  rw [hd]
  exact hupd
theorem appS {α : Type} {b : Nat} {xs ys zs : List α} (h : app b xs ys = some zs) : zs = xs ++ ys ∧ (xs.length + ys.length) * b ≤ 140737488355328 := by
 unfold app at h; split at h
 ·cases h; exact ⟨rfl, by assumption⟩
 ·cases h
theorem TriL.app {P : Program} {C : Ctx} {ops : Array Oper} {o : Oper} {rest : List Oper} {Q : Exit → St → Prop} {T : List (Nat × V)} {H : List Blk} {α : Type} {x y : Operand} {t el : TypeId} {i n k bytes d : Nat} {enc : α → D} {xs ys zs : List α}
  (hg : o.guard = none) (ho : o.op = .call { callee := .builtin .append, args := #[x, y], argTypes := #[t, t] }) (hd : o.dst = some d) (hdn : Nat.blt d C.n = true)
  (hx : ev T x = some (.vec i n)) (hi : H[i]? = some (.vec el k (xs.map enc))) (hn : n = xs.length) (hy : ev T y = some (.d (.sl k (ys.map enc)))) (ht : zba P t el k bytes = true) (hb : Nat.blt 0 bytes = true) (hones : ∀ z, (enc z).ones = true)
  (hv : Go.Proofs.YtcagdmegicijlaaGreatDoor.app bytes xs ys = some zs)
  (kk : TriL P C ops rest Q ⟨(d, .vec i zs.length) :: T, H.set i (.vec el k (zs.map enc))⟩) : TriL P C ops (o :: rest) Q ⟨T, H⟩ := by
 obtain ⟨rfl, hsz⟩ := appS hv
 simp only [Nat.blt_eq] at hb
 have hml : xs.length + ys.length ≤ maxLen := by
  have : xs.length + ys.length ≤ (xs.length + ys.length) * bytes := Nat.le_mul_of_pos_right _ hb
  simp only [maxLen]; omega
 by_cases hne : ys = []
 ·subst hne
  obtain ⟨htu, hk0, inf, z, hinf, hz, hisz, hib, hzc⟩ := zbN ht
  refine TriL.step hg (s' := ⟨(d, .vec i (xs ++ []).length) :: T, H⟩) (fun bs a w hR => ?_) (by
   have e : H.set i (.vec el k ((xs ++ []).map enc)) = H := by
    refine List.ext_getElem? fun q => ?_
    by_cases hij : i = q
    ·subst hij; rw [List.getElem?_set_self (List.getElem?_eq_some_iff.1 hi).1, hi, List.append_nil]
    ·rw [List.getElem?_set_ne hij]
   rw [e] at kk; exact kk)
  have h1 := hR.ev hx
  have h2 := hR.ev hy
  have h1' := h1
  simp only [V.rep, hi] at h1
  obtain ⟨_, h1⟩ := h1
  obtain ⟨cells, hown, hbs, hflat⟩ := h1 (by simpa using hn)
  simp only [V.rep, D.rep] at h2
  obtain ⟨ad, cap, hv2, _⟩ := h2
  have hsh : ∃ b cp, a.eval x = .slice b n cp ∧ n ≤ cp := by
   rcases hown.2 with ⟨h, h0⟩ | ⟨g, cp, cur, h, _, _, hnc, _⟩
   ·exact ⟨none, 0, by rw [h, h0], by omega⟩
   ·exact ⟨_, cp, h, hnc⟩
  obtain ⟨b, cp, hv1, hncp⟩ := hsh
  simp only [List.map_nil, List.length_nil] at hv2
  have hrun : (execOp a.eval o).run P w = .ok (.value (a.eval x)) w := by
   simp only [execOp, ho, resolve, invoke, builtin, Sem.run_bind, Sem.run_pure, Result.andThen_ok]
   simp only [List.map_toArray, List.map_cons, List.map_nil]
   rw [hv1, hv2]
   cases ad <;> cases b <;> simp [Builtin.append_, run_underlying htu, sizeOf, typeInfo, hinf, Builtin.lenOf, Builtin.firstCells, loadCells, loadCellsFrom, hncp, storeCells]
  refine ⟨_, w, bs, hrun, .inl ⟨_, rfl, ?_⟩⟩
  have := R.put hR (Fr.refl _ _) (some d) (by simpa [dstOK] using hdn) (v := .vec i n) h1'
  rw [hd]
  simpa [St.put, hn] using this
 ·refine TriL.append hg ho hd hdn hx hi (by simpa using hn) hy ht (by simpa using hne) (fun z hz => by obtain ⟨q, _, rfl⟩ := List.mem_map.1 hz; exact hones q) (by simpa using hsz) (by simpa using hml) ?_
  simpa using kk
end Go.Proofs.YtcagdmegicijlaaGreatDoor
namespace Go.Proofs.YtcagdmegicijlaaGreatDoor
open Go Go.RowKit
variable [Globs]
inductive FrzTs (T : List (Nat × V)) (H : List Blk) (ids : List Nat) : List (Nat × D) → Prop
 | nil : FrzTs T H ids []
 | cons {t : Nat} {v : V} {d : D} {r : List (Nat × D)} : look t T = some v → FrzI H ids v d → FrzTs T H ids r → FrzTs T H ids ((t, d) :: r)
def frzT : List (Nat × D) → List (Nat × V) → List (Nat × V)
 | [], T => T
 | (t, d) :: r, T => (t, .d d) :: frzT r T
theorem R.freezes {C : Ctx} {bs : List (Option Nat)} {T : List (Nat × V)} {H : List Blk} {a : Act} {w : World} (h : R C bs ⟨T, H⟩ a w) {ids : List Nat} : ∀ {ds : List (Nat × D)}, FrzTs T H ids ds →
  R C (killBs ids bs) ⟨frzT ds T, Go.Proofs.YtcagdmegicijlaaGreatDoor.killAll ids H⟩ a w
 | _, .nil => R.killAll ids h
 | _, .cons (t := t) (v := v) (d := d) ht hf r => by
  have ih := R.freezes h r
  obtain ⟨hn, hv⟩ := h.tmp t v ht
  refine ih.know hn ?_
  simp only [V.rep]
  have hsub : ∀ b, Own C.A0 (killBs ids bs) b → Own C.A0 bs b := fun b hb => hb.imp id fun hb => by
   obtain ⟨i, hi⟩ := List.getElem?_of_mem hb
   exact List.mem_of_getElem? (killBs_get ids bs i b hi).2
  refine FrzI.rep h.mem (fun b _ hb => hsub b hb) (fun i b hin hi hb => ?_) hf _ hv
  rcases hb with hb | hb
  ·exact h.own.not b (List.mem_of_getElem? hi) hb
  ·obtain ⟨j, hj⟩ := List.getElem?_of_mem hb
   obtain ⟨hj1, hj2⟩ := killBs_get ids bs j b hj
   have := h.own.apart i j b hi hj2
   subst this
   exact hj1 hin
theorem Tri.freezes {P : Program} {C : Ctx} {c : Code} {Q : Exit → St → Prop} {T : List (Nat × V)} {H : List Blk} (ids : List Nat) {ds : List (Nat × D)} (hf : FrzTs T H ids ds) (k : Tri P C c Q ⟨frzT ds T, killAll ids H⟩) : Tri P C c Q ⟨T, H⟩ := ⟨fun _ a w hR => k.run _ a w (hR.freezes hf)⟩
theorem TriL.freezes {P : Program} {C : Ctx} {ops : Array Oper} {rest : List Oper} {Q : Exit → St → Prop} {T : List (Nat × V)} {H : List Blk} (ids : List Nat) {ds : List (Nat × D)} (hf : FrzTs T H ids ds) (k : TriL P C ops rest Q ⟨frzT ds T, killAll ids H⟩) : TriL P C ops rest Q ⟨T, H⟩ := ⟨fun _ a w hR => k.run _ a w (hR.freezes hf)⟩
theorem OnesV.ofD {H : List Blk} {d : D} (h : d.ones = true) : OnesV H (V.cellsV (.d d)) := by
 have key : ∀ ds : List D, (ds.all D.one) = true → OnesV H (ds.map .d) := by
  intro ds
  induction ds with
  | nil => exact fun _ => .nil
  | cons x xs ih => intro h; simp only [List.all_cons, Bool.and_eq_true] at h; exact .cons (.d h.1) (ih h.2)
 cases d with
 | agg ds => exact key ds h
 | val v =>
  cases v <;> first | exact .cons (.d h) .nil | simp [D.ones, D.one] at h
 | _ => first | exact .cons (.d h) .nil | simp [D.ones, D.one] at h
theorem ZeroD.cells {P : Program} {t : TypeId} {d : D} (hz : ZeroD P t d) (h1 : d.ones = true) : ∃ z, zbl P t = some z ∧ ∀ A w bs H, V.reps A w bs H (V.cellsV (.d d)) z.cells.toList := by
 obtain ⟨z, h, hr⟩ := hz.out
 exact ⟨z, h, fun A w bs H => V.cells_rep (x := .d d) (by simp only [V.rep]; exact hr A w) (OnesV.ofD h1)⟩
theorem R.reblk {C : Ctx} {bs : List (Option Nat)} {T : List (Nat × V)} {H : List Blk} {a : Act} {w : World} {i : Nat} {t : TypeId} {cs cs' : List V} (h : R C bs ⟨T, H⟩ a w) (hi : H[i]? = some (.box t cs)) (hr : ∀ A bs H vs, V.reps A w bs H cs vs → V.reps A w bs H cs' vs) : R C bs ⟨T, H.set i (.box t cs')⟩ a w := by
 have hblk := h.blk i _ hi
 simp only [Blk.rep] at hblk
 obtain ⟨b, vs, hb, hh, hreps⟩ := hblk
 have hset : bs.set i (some b) = bs := by
  refine List.ext_getElem? fun j => ?_
  by_cases hij : i = j
  ·subst hij; rw [List.getElem?_set_self (List.getElem?_eq_some_iff.1 hb).1, hb]
  ·rw [List.getElem?_set_ne hij]
 have hfr : Fr (fun c => some b = some c) w w := Fr.refl _ w
 have hWA : ∀ c, some b = some c → Own C.A0 bs c := fun c hc => .inr (by rw [← hc]; exact List.mem_of_getElem? hb)
 have hupd := R.upd (y := .box t cs') (c' := some b) h hi hb (by simp [Compat]) hfr (.inl rfl) (by
  simp only [Blk.rep]
  refine ⟨b, vs, by rw [List.getElem?_set_self (List.getElem?_eq_some_iff.1 hb).1], hh, ?_⟩
  have := V.reps_upd (x := .box t cs) (y := .box t cs') (c := some b) (c' := some b) (A' := Own C.A0 (bs.set i (some b))) hi hb (by simp [Compat]) h.own.apart hfr hWA (fun c hc => hc) (fun c _ hc => by rw [hset] at hc; exact hc) cs vs.toList hreps
  exact hr _ _ _ _ this)
 rw [hset] at hupd
 exact hupd
theorem zeroCells_reps {P : Program} {t : TypeId} {d : D} (hz : ZeroD P t d) (h1 : d.ones = true) {A : Nat → Prop} {w : World} {bs : List (Option Nat)} {H : List Blk} {vs : List Value} (h : V.reps A w bs H (zeroCells P t) vs) : V.reps A w bs H (V.cellsV (.d d)) vs := by
 obtain ⟨z, hzz, hr⟩ := hz.cells h1
 unfold zeroCells at h
 rw [hzz] at h
 have key : ∀ (l vs : List Value), V.reps A w bs H (l.map fun v => .d (.val v)) vs → vs = l := by
  intro l
  induction l with
  | nil => intro vs h; simpa [V.reps] using h
  | cons x l ih =>
   intro vs h
   simp only [List.map_cons, V.reps] at h
   obtain ⟨v, vs', rfl, h1, h2⟩ := h
   rw [zk.1 h1, ih vs' h2]
 rw [key _ _ h]
 exact hr A w bs H
theorem TriL.rezero {P : Program} {C : Ctx} {ops : Array Oper} {rest : List Oper} {Q : Exit → St → Prop} {T : List (Nat × V)} {H : List Blk} (i : Nat) {t : TypeId} {d : D} (hi : H[i]? = some (.box t (zeroCells P t))) (hz : ZeroD P t d) (h1 : d.ones = true)
  (k : TriL P C ops rest Q ⟨T, H.set i (.box t (V.cellsV (.d d)))⟩) : TriL P C ops rest Q ⟨T, H⟩ := ⟨fun _ a w hR => k.run _ a w (hR.reblk hi fun _ _ _ _ h => zeroCells_reps hz h1 h)⟩
theorem TriL.allocZ {P : Program} {C : Ctx} {ops : Array Oper} {o : Oper} {rest : List Oper} {Q : Exit → St → Prop} {T : List (Nat × V)} {H : List Blk} {t : TypeId} {r : Nat} {d : D}
  (hg : o.guard = none) (ho : o.op = .alloc t) (hd : o.dst = some r) (hn : Nat.blt r C.n = true) (hz : ZeroD P t d) (h1 : d.ones = true)
  (k : TriL P C ops rest Q ⟨(r, .loc H.length 0) :: T, H ++ [.box t (V.cellsV (.d d))]⟩) : TriL P C ops (o :: rest) Q ⟨T, H⟩ := by
 obtain ⟨z, hzz, _⟩ := hz.out
 refine TriL.alloc hg ho hd hn hzz ?_
 refine TriL.rezero H.length (d := d) (t := t) (by
  rw [List.getElem?_append_right (Nat.le_refl _)]; simp [zeroCells, hzz]) hz h1 ?_
 have e : (H ++ [Blk.box t (z.cells.toList.map fun v => .d (.val v))]).set H.length (.box t (V.cellsV (.d d))) = H ++ [.box t (V.cellsV (.d d))] := by
  rw [List.set_append_right _ _ (Nat.le_refl _)]; simp
 rw [e]
 exact k
def D.scal : D → Bool
 | .val _ => true
 | .agg cs => D.scals cs
 | .tup cs => D.scals cs
 | _ => false
where D.scals : List D → Bool
 | [] => true
 | d :: ds => D.scal d && D.scals ds
mutual
theorem D.scal_rep {A A' : Nat → Prop} {w w' : World} : ∀ {d : D}, d.scal = true → ∀ {v : Value}, d.rep A w v → d.rep A' w' v
 | .val x, _, v, h => by simpa only [D.rep] using h
 | .agg cs, hs, v, h => by
  simp only [D.rep] at h ⊢
  obtain ⟨vs, e, hr⟩ := h
  exact ⟨vs, e, D.scals_reps (by simpa [D.scal] using hs) hr⟩
 | .tup cs, hs, v, h => by
  simp only [D.rep] at h ⊢
  obtain ⟨vs, e, hr⟩ := h
  exact ⟨vs, e, D.scals_reps (by simpa [D.scal] using hs) hr⟩
 | .sl _ _, hs, _, _ => by simp [D.scal] at hs
 | .ref _, hs, _, _ => by simp [D.scal] at hs
 | .fn _ _ _, hs, _, _ => by simp [D.scal] at hs
 | .mp _ _, hs, _, _ => by simp [D.scal] at hs
theorem D.scals_reps {A A' : Nat → Prop} {w w' : World} : ∀ {ds : List D}, D.scal.D.scals ds = true → ∀ {vs : List Value}, D.reps A w ds vs → D.reps A' w' ds vs
 | [], _, vs, h => by simpa only [D.reps] using h
 | d :: ds, hs, vs, h => by
  simp only [D.scal.D.scals, Bool.and_eq_true] at hs
  simp only [D.reps] at h ⊢
  obtain ⟨v, vs', e, h1, h2⟩ := h
  exact ⟨v, vs', e, D.scal_rep hs.1 h1, D.scals_reps hs.2 h2⟩
end
section
variable {P : Program} {o : Oper} {e : Operand → Option V} {H : List Blk}
inductive Lent (e : Operand → Option V) (H : List Blk) : List Operand → List D → Prop
 | nil : Lent e H [] []
 | cons {x : Operand} {v : V} {d : D} {xs : List Operand} {ds : List D} : e x = some v → Frz H v d → Lent e H xs ds → Lent e H (x :: xs) (d :: ds)
theorem Lent.reps {A0 : Nat → Prop} {bs : List (Option Nat)} {w : World} (m : Mem A0 bs H w) {f : Operand → Value} : ∀ {xs : List Operand} {ds : List D}, Lent e H xs ds → (∀ x ∈ xs, ∀ y, e x = some y → V.rep (Own A0 bs) w bs H y (f x)) → D.reps A0 w ds (xs.map f)
 | _, _, .nil, _ => by simp [D.reps]
 | _, _, .cons h1 h2 r, hf => by
  simp only [List.map_cons, D.reps]
  exact ⟨_, _, rfl, Frz.rep m h2 _ (hf _ (by simp) _ h1), r.reps m fun y hy => hf y (by simp [hy])⟩
theorem OpV.callB {f : FuncId} {args : Array Operand} {tys : Array TypeId} {xs : List D} {y : D} (ho : o.op = .call { callee := .value (.func f), args := args, argTypes := tys }) (hc : callable P f = true)
  (ha : Lent e H args.toList xs) (hy : y.scal = true) (hp : Pure P f xs y) : OpV P o e H (.d y) := by
 refine ⟨fun A0 bs w g m hf _ hk => ?_⟩
 have hrun : (execOp g o).run P w = .ok (.enter f (args.map g)) w := by
  simp only [execOp, ho, resolve, hk, Deferred.ofValue, Sem.run_bind, Sem.run_pure, Result.andThen_ok, invoke]
  simpa using zbq hc (args.map g) w
 rw [hrun]
 have hreps : D.reps A0 w xs (args.map g).toList := by
  have := ha.reps (w := w) (f := g) m (fun x hx => hf x (by simp [ho, Op.operands, Call.operands]; right; simpa using hx))
  simpa using this
 exact (hp.run A0 w (args.map g) (fun b hb => m.own.foreign b hb) (m.own.glob.fr (Fr.refl ze w) (fun _ x => x.elim) (fun _ _ h => .inl h)) hreps).mono fun e' w' ⟨u, he, hfr, hr⟩ => ⟨u, he, hfr, by simp only [V.rep]; exact D.scal_rep hy hr⟩
structure Dyn (P : Program) (F : D) (xs : List D) (y : D) : Prop where
 ex : ∃ g caps, F = .fn (.func g) [] caps ∧ callable P g = true ∧ Pure P g (xs ++ caps) y
theorem OpV.makeFunc {g : FuncId} {cs : Array Operand} {ds : List D} (ho : o.op = .makeFunc (.func g) #[] cs) (hc : evs e cs.toList = some ds) : OpV P o e H (.d (.fn (.func g) [] ds)) :=
 .of_same fun A0 bs w f _ hf => by
  refine ⟨.func (.func g) #[] (cs.map f), by simp [execOp, ho, Instr.makeFunc], ?_⟩
  simp only [V.rep, D.rep]
  refine ⟨#[], cs.map f, rfl, by simp [D.reps], ?_⟩
  have := evs_reps (A := Own A0 bs) (w := w) (bs := bs) (f := f) hc (fun x hx => hf x (by simp [ho, Op.operands]; simpa using hx))
  simpa using this
theorem OpV.dyn {x : Operand} {args : Array Operand} {tys : Array TypeId} {F : D} {xs : List D} {y : D} (ho : o.op = .call { callee := .value x, args := args, argTypes := tys }) (hx : e x = some (.d F))
  (ha : evs e args.toList = some xs) (hp : Dyn P F xs y) : OpV P o e H (.d y) := by
 obtain ⟨g, caps, rfl, hc, hp⟩ := hp.ex
 refine ⟨fun A0 bs w f m hf _ hk => ?_⟩
 have h1 := hf x (by simp [ho, Op.operands, Call.operands]) _ hx
 simp only [V.rep, D.rep] at h1
 obtain ⟨vs, us, hv, hr1, hr2⟩ := h1
 simp only [D.reps] at hr1
 have hvs : vs = #[] := by simpa using hr1
 subst hvs
 have hrun : (execOp f o).run P w = .ok (.enter g (args.map f ++ us)) w := by
  simp only [execOp, ho, resolve, hv, Deferred.ofValue, Sem.run_bind, Sem.run_pure, Result.andThen_ok, invoke]
  simpa using zbq hc (args.map f ++ us) w
 rw [hrun]
 have hreps : D.reps (Own A0 bs) w (xs ++ caps) (args.map f ++ us).toList := by
  have := evs_reps (A := Own A0 bs) (w := w) (bs := bs) (f := f) ha (fun x hx => hf x (by simp [ho, Op.operands, Call.operands]; right; simpa using hx))
  have := D.reps_append this hr2
  simpa using this
 refine (hp.run (Own A0 bs) w (args.map f ++ us) (fun b hb => ?_) m.own.glob hreps).mono fun e' w' ⟨u, he, hfr, hr⟩ => ⟨u, he, hfr, by simpa only [V.rep] using hr⟩
 rcases hb with hb | hb
 ·exact m.own.foreign b hb
 ·exact m.own.lt b hb
end
end Go.Proofs.YtcagdmegicijlaaGreatDoor
namespace Go.Proofs.YtcagdmegicijlaaGreatDoor
open Go Go.RowKit
variable [Globs]
def over : List Blk → List (Nat × Blk) → List Blk
 | H, [] => H
 | H, (i, b) :: r => over (H.set i b) r
theorem over_len : ∀ (L : List (Nat × Blk)) (H : List Blk), (over H L).length = H.length
 | [], _ => rfl
 | (i, b) :: r, H => by rw [over, over_len r]; simp
section
variable {P : Program} {C : Ctx} {Q : Exit → St → Prop} {s : St}
theorem Tri.condS {R : Type} {c : Operand} {x y : Code} {b : Bool} {m n : Option R} {r : R} (hc : ev s.T c = some (.d (.bool b))) (h : (if b = true then m else n) = some r)
  (ht : m = some r → Tri P C x Q s) (hf : n = some r → Tri P C y Q s) : Tri P C (.cond c x y) Q s :=
 .cond hc (fun hb => ht (iteT hb h)) (fun hb => hf (iteF hb h))
def joinQ {σ R : Type} (k : σ → Option R) (r : R) (J : σ → St) (Q : Exit → St → Prop) : Exit → St → Prop
 | .normal, s => ∃ v, k v = some r ∧ s.ge (J v)
 | e, s => Q e s
theorem Tri.join {σ R : Type} {x y : Code} {k : σ → Option R} {m : (σ → Option R) → Option R} {r : R} (ks : List Nat) {K : List (Nat × V)} (upd : σ → List (Nat × V)) (hf : σ → List (Nat × Blk)) (_hK : Looks s.T ks K) (h : jn k m = some r)
  (hm : ∀ k' : σ → Option R, m k' = some r → Tri P C x (joinQ k' r (fun v => ⟨upd v ++ K, over s.H (hf v)⟩) Q) s)
  (hk : ∀ v, k v = some r → Tri P C y Q ⟨upd v ++ K, over s.H (hf v)⟩) (hgn : Nat.ble C.gn s.H.length = true := by exact rfl) : Tri P C (.seq x y) Q s := by
 refine .seq (Tri.mono (hm k h) fun e s' hq => ?_)
 cases e <;> simp only [joinQ, thenQ] at hq ⊢
 case normal =>
  obtain ⟨v, hv, hg⟩ := hq
  exact Tri.ge hg (hk v hv) (by simp only [over_len]; exact hgn)
 all_goals exact hq
theorem Tri.loopS {σ R : Type} {c : Code} {body : (σ → Option R) → σ → Option R} {n : Nat} {init : σ} {r : R} (ks : List Nat) {K : List (Nat × V)} (upd : σ → List (Nat × V)) (hf : σ → List (Nat × Blk)) (_hK : Looks s.T ks K) (h : loopF body n init = some r)
  (h0 : s.ge ⟨upd init ++ K, over s.H (hf init)⟩)
  (hb : ∀ (rec : σ → Option R) (v : σ), body rec v = some r → Tri P C c (joinQ rec r (fun v => ⟨upd v ++ K, over s.H (hf v)⟩) Q) ⟨upd v ++ K, over s.H (hf v)⟩) (hgn : Nat.ble C.gn s.H.length = true := by exact rfl) : Tri P C (.loop c) Q s := by
 refine Tri.loopP n (fun i s' => ∃ u, loopF body (n - i) u = some r ∧ s'.ge ⟨upd u ++ K, over s.H (hf u)⟩) ⟨init, by simpa using h, h0⟩ fun i s' hi hs => ?_
 obtain ⟨u, hu, hg⟩ := hs
 refine Tri.ge hg ?_ (by simp only [over_len]; exact hgn)
 cases hni : n - i with
 | zero => rw [hni] at hu; simp [loopF] at hu
 | succ m =>
  rw [hni] at hu
  simp only [loopF] at hu
  refine Tri.mono (hb _ u hu) fun e s'' hq => ?_
  cases e <;> simp only [joinQ, thenQ] at hq ⊢
  case normal =>
   obtain ⟨v', hv', hg'⟩ := hq
   exact ⟨by omega, v', by rw [show n - (i + 1) = m by omega]; exact hv', hg'⟩
  all_goals exact hq
end
theorem zbw {P : Program} {t : Tmp} {y : D} {v : V} {s : St} (h : look t s.T = some v) (hf : Frz s.H v y) : retQ P #[.tmp t] y .ret s := ⟨.inl rfl, [y], rfl, y, [], v, rfl, h, hf, rfl⟩
theorem retCell {P : Program} {t : Tmp} {ty : TypeId} {ds : List D} {i : Nat} {T : TypeId} {cs : List V} {s : St} (h : look t s.T = some (.loc i 0)) (hi : s.H[i]? = some (.box T cs)) (hs : zA P ty = some (some ds.length)) (hf : Frzs s.H cs ds) : retQ P #[.cell t ty] (.agg ds) .ret s :=
 ⟨.inl rfl, [.agg ds], rfl, .agg ds, [], i, T, cs, rfl, h, hi, hs, .loc hi hf, rfl⟩
theorem zcF {P : Program} {t u : Tmp} {x y : D} {v w : V} {s : St} (h1 : look t s.T = some v) (h2 : look u s.T = some w) (f1 : Frz s.H v x) (f2 : Frz s.H w y) : retQ P #[.tmp t, .tmp u] (.tup [x, y]) .ret s :=
 ⟨.inl rfl, [x, y], rfl, x, [y], v, rfl, h1, f1, y, [], w, rfl, h2, f2, rfl⟩
theorem retThree {P : Program} {t u q : Tmp} {x y z : D} {v w a : V} {s : St} (h1 : look t s.T = some v) (h2 : look u s.T = some w) (h3 : look q s.T = some a) (f1 : Frz s.H v x) (f2 : Frz s.H w y) (f3 : Frz s.H a z) : retQ P #[.tmp t, .tmp u, .tmp q] (.tup [x, y, z]) .ret s :=
 ⟨.inl rfl, [x, y, z], rfl, x, [y, z], v, rfl, h1, f1, y, [z], w, rfl, h2, f2, z, [], a, rfl, h3, f3, rfl⟩
theorem retCellTmp {P : Program} {t u : Tmp} {ty : TypeId} {ds : List D} {i : Nat} {T : TypeId} {cs : List V} {y : D} {v : V} {s : St} (h : look t s.T = some (.loc i 0)) (hi : s.H[i]? = some (.box T cs)) (hs : zA P ty = some (some ds.length)) (hf : Frzs s.H cs ds)
  (h2 : look u s.T = some v) (f2 : Frz s.H v y) : retQ P #[.cell t ty, .tmp u] (.tup [.agg ds, y]) .ret s :=
 ⟨.inl rfl, [.agg ds, y], rfl, .agg ds, [y], i, T, cs, rfl, h, hi, hs, .loc hi hf, y, [], v, rfl, h2, f2, rfl⟩
theorem retCell1 {P : Program} {t : Tmp} {ty : TypeId} {d : D} {i : Nat} {T : TypeId} {c : V} {s : St} (h : look t s.T = some (.loc i 0)) (hi : s.H[i]? = some (.box T [c])) (hs : zA P ty = some none) (hf : Frz s.H c d) (h1 : d.shape = none := by rfl) : retQ P #[.cell t ty] d .ret s :=
 ⟨.inl rfl, [d], rfl, d, [], i, T, [c], rfl, h, hi, by rw [hs, h1], .loc1 hi hf h1, rfl⟩
end Go.Proofs.YtcagdmegicijlaaGreatDoor
namespace Go.Proofs.YtcagdmegicijlaaGreatDoor
open Go Go.RowKit
variable [Globs]
def wk (k : IntKind) (x : Int) : Int := k.wrap x
def gmax (x y : Int) : Int := if y > x then y else x
theorem impT {b c : Bool} (h : (!b || c) = true) (hb : b = true) : c = true := by subst hb; simpa using h
theorem impF {b c : Bool} (h : (b || c) = true) (hb : b = false) : c = true := by subst hb; simpa using h
section
variable {P : Program} {o : Oper} {e : Operand → Option V} {H : List Blk}
theorem OpV.castD {d0 : D} (d : D) (he : d0 = d) (h : OpV P o e H (.d d0)) : OpV P o e H (.d d) := he ▸ h
theorem OpV.nilS {α : Type} (k : Nat) (enc : α → D) (ho : o.op = .assign (.const (.slice none 0 0))) : OpV P o e H (.d (.sl k (List.map enc []))) :=
 ⟨fun A0 bs w f m _ hc _ => by
  have hrun : (execOp f o).run P w = .ok (.value (.slice none 0 0)) w := by simp [execOp, ho, hc]
  rw [hrun]
  refine ⟨Fr.refl _ w, ?_⟩
  simp only [V.rep, D.rep, List.map_nil]
  exact ⟨none, 0, rfl, Nat.le_refl _, .inl trivial⟩⟩
theorem OpV.max2 {x y : Operand} {tys : Array TypeId} {a b : Int} {k : IntKind} (ho : o.op = .call { callee := .builtin .max, args := #[x, y], argTypes := tys }) (hx : e x = some (.d (.val (.int k a)))) (hy : e y = some (.d (.val (.int k b)))) : OpV P o e H (.d (.val (.int k (gmax a b)))) :=
 .of_same fun _ _ w f _ hf => by
  have h1 := zk.1 (hf x (by simp [ho, Op.operands, Call.operands]) _ hx)
  have h2 := zk.1 (hf y (by simp [ho, Op.operands, Call.operands]) _ hy)
  exact ⟨.int k (gmax a b), by simp [execOp, ho, resolve, invoke, builtin, Builtin.max_, Builtin.max2, h1, h2, gmax], zk.2 rfl⟩
theorem OpV.max3 {x y z : Operand} {tys : Array TypeId} {a b c : Int} {k : IntKind} (ho : o.op = .call { callee := .builtin .max, args := #[x, y, z], argTypes := tys }) (hx : e x = some (.d (.val (.int k a)))) (hy : e y = some (.d (.val (.int k b)))) (hz : e z = some (.d (.val (.int k c)))) : OpV P o e H (.d (.val (.int k (gmax (gmax a b) c)))) :=
 .of_same fun _ _ w f _ hf => by
  have h1 := zk.1 (hf x (by simp [ho, Op.operands, Call.operands]) _ hx)
  have h2 := zk.1 (hf y (by simp [ho, Op.operands, Call.operands]) _ hy)
  have h3 := zk.1 (hf z (by simp [ho, Op.operands, Call.operands]) _ hz)
  exact ⟨.int k (gmax (gmax a b) c), by simp [execOp, ho, resolve, invoke, builtin, Builtin.max_, Builtin.max2, h1, h2, h3, gmax], zk.2 rfl⟩
end
theorem TriL.buildVecLe {P : Program} {C : Ctx} {ops : Array Oper} {o : Oper} {rest : List Oper} {Q : Exit → St → Prop} {T : List (Nat × V)} {H : List Blk} {α : Type} {t el : TypeId} {len k bytes d : Nat} {parts : Array (Nat × Operand)} {enc : α → D} {ys : List D} (xs : List α)
  (hg : o.guard = none) (ho : o.op = .buildSlice t len parts) (hd : o.dst = some d) (hdn : Nat.blt d C.n = true) (hp : parts.toList.map (·.1) = List.range' 0 len) (he : zba P t el k bytes = true) (hx : evs (ev T) (parts.toList.map (·.2)) = some ys) (hle : D.Les ys (xs.map enc))
  (hk : ∀ x, (enc x).kOK k = true) (hl : Nat.ble (len * k) 16777216 = true)
  (kk : TriL P C ops rest Q ⟨(d, .vec H.length xs.length) :: T, H ++ [.vec el k (xs.map enc)]⟩) : TriL P C ops (o :: rest) Q ⟨T, H⟩ := by
 obtain ⟨htu, hk0, inf, z, hinf, hz, hisz, hib, hzc⟩ := zbN he
 refine TriL.step hg (fun bs a w hR => ?_) kk
 have hreps : D.reps (Own C.A0 bs) w (xs.map enc) ((parts.toList.map (·.2)).map a.eval) := hle.reps (evs_reps (H := H) hx (fun x _ y hy => hR.ev hy))
 have hcells := D.flat_of_reps hreps (k := k) (by intro d hd; obtain ⟨x, _, rfl⟩ := List.mem_map.1 hd; exact hk x)
 have hlen := congrArg List.length hp
 simp only [List.length_map, List.length_range', Array.length_toList] at hlen
 have hkk : ∀ u ∈ (parts.toList.map (·.2)).map a.eval, u.cells.size = k := by
  intro u hu
  obtain ⟨i, hi, rfl⟩ := List.getElem_of_mem hu
  have hl2 := D.reps_len hreps
  have hi' : i < (xs.map enc).length := by rw [← hl2]; exact hi
  obtain ⟨v, hv, hr⟩ := D.reps_get hreps i (xs.map enc)[i] (List.getElem?_eq_getElem hi')
  rw [List.getElem?_eq_getElem hi] at hv
  cases hv
  rw [List.getElem_map] at hr
  exact D.kOK_cells hr (hk _)
 obtain ⟨cells, g1, g2⟩ := run_buildSlice (P := P) (w := w) (k := k) htu hinf hz hisz hzc hkk (by
  have := Nat.le_of_ble_eq_true hl
  simp only [List.length_map, Array.length_toList, hlen]; omega)
 have hzip := zip_fst (β := D) parts.toList 0 (by rw [hp]; simp [hlen])
 have harr : (parts.map fun (i, x) => (i, a.eval x)) = ((((parts.toList.map (·.2)).map a.eval).zipIdx 0).map fun p => (p.2, p.1)).toArray := by
  apply Array.ext'
  rw [Array.toList_map]
  conv => lhs; rw [hzip]
  simp only [List.zipIdx_map, List.map_map]
  rfl
 have hrun : (execOp a.eval o).run P w = .ok (.value (.slice (some ⟨w.heap.size, 0, none⟩) len len)) (w.alloc (.cells cells el)) := by
  simp only [List.length_map, Array.length_toList, hlen] at g2
  simp only [execOp, ho, Sem.run_bind, harr, g2, Result.andThen_ok, Sem.run_pure]
 have hxl : xs.length = len := by have := D.reps_len hreps; simp at this; omega
 have hcl : cells.size = len * k := by
  have := D.flat_len hcells
  rw [← g1] at this
  simp only [Array.length_toList, List.length_map] at this
  rw [this, hxl]
 refine ⟨_, _, bs ++ [some w.heap.size], hrun, .inl ⟨_, rfl, ?_⟩⟩
 have hcap : len ≤ maxLen := by
  have h1 := Nat.le_of_ble_eq_true hl
  have h2 : len ≤ len * k := Nat.le_mul_of_pos_right _ hk0
  simp only [maxLen]; omega
 have := hR.newVec (el := el) (k := k) (n := len) (cap := len) (r := d) (cells := cells) (xs := xs.map enc) (by simpa using hdn) (by simp [hxl]) hcl (Nat.le_refl _) hcap (by
  rw [List.take_of_length_le (by rw [Array.length_toList, hcl]; exact Nat.le_refl _), g1]; exact hcells)
 rw [hd, hxl]
 exact this
theorem TriL.buildVec {P : Program} {C : Ctx} {ops : Array Oper} {o : Oper} {rest : List Oper} {Q : Exit → St → Prop} {T : List (Nat × V)} {H : List Blk} {α : Type} {t el : TypeId} {len k bytes d : Nat} {parts : Array (Nat × Operand)} {enc : α → D} (xs : List α)
  (hg : o.guard = none) (ho : o.op = .buildSlice t len parts) (hd : o.dst = some d) (hdn : Nat.blt d C.n = true) (hp : parts.toList.map (·.1) = List.range' 0 len) (he : zba P t el k bytes = true) (hx : evs (ev T) (parts.toList.map (·.2)) = some (xs.map enc))
  (hk : ∀ x, (enc x).kOK k = true) (hl : Nat.ble (len * k) 16777216 = true)
  (kk : TriL P C ops rest Q ⟨(d, .vec H.length xs.length) :: T, H ++ [.vec el k (xs.map enc)]⟩) : TriL P C ops (o :: rest) Q ⟨T, H⟩ :=
 TriL.buildVecLe xs hg ho hd hdn hp he hx (.refls _) hk hl kk
theorem R.nilCell {C : Ctx} {bs : List (Option Nat)} {T : List (Nat × V)} {H : List Blk} {a : Act} {w : World} {j c k : Nat} {t el : TypeId} {cs : List V} (h : R C bs ⟨T, H⟩ a w) (hj : H[j]? = some (.box t cs)) (hc : cs[c]? = some .nilS) :
  R C (bs ++ [none]) ⟨T, (H ++ [Blk.vec el k []]).set j (.box t (cs.set c (.vec H.length 0)))⟩ a w := by
 have h1 : R C (bs ++ [none]) ⟨T, H ++ [.vec el k []]⟩ a w := h.snocNone fun _ _ _ => by simp only [Blk.rep]
 have hlen := h.len
 simp only at hlen
 have hjl := (List.getElem?_eq_some_iff.1 hj).1
 have hj' : (H ++ [Blk.vec el k []])[j]? = some (.box t cs) := by rw [List.getElem?_append_left hjl]; exact hj
 have hblk := h1.blk j _ hj'
 simp only [Blk.rep] at hblk
 obtain ⟨b, vs, hb, hh, hreps⟩ := hblk
 have hset : (bs ++ [none]).set j (some b) = bs ++ [none] := by
  refine List.ext_getElem? fun q => ?_
  by_cases hij : j = q
  ·subst hij; rw [List.getElem?_set_self (List.getElem?_eq_some_iff.1 hb).1, hb]
  ·rw [List.getElem?_set_ne hij]
 have hfr : Fr (fun q => some b = some q) w w := Fr.refl _ w
 have hWA : ∀ q, some b = some q → Own C.A0 (bs ++ [none]) q := fun q hq => .inr (by rw [← hq]; exact List.mem_of_getElem? hb)
 have hupd := R.upd (y := .box t (cs.set c (.vec H.length 0))) (c' := some b) h1 hj' hb (by simp [Compat]) hfr (.inl rfl) (by
  simp only [Blk.rep]
  refine ⟨b, vs, by rw [List.getElem?_set_self (List.getElem?_eq_some_iff.1 hb).1], hh, ?_⟩
  have := V.reps_upd (x := .box t cs) (y := .box t (cs.set c (.vec H.length 0))) (c := some b) (c' := some b) (A' := Own C.A0 ((bs ++ [none]).set j (some b))) hj' hb (by simp [Compat]) h1.own.apart hfr hWA (fun q hq => hq) (fun q _ hq => by rw [hset] at hq; exact hq) cs vs.toList hreps
  generalize hG : (H ++ [Blk.vec el k []]).set j (.box t (cs.set c (.vec H.length 0))) = G at this ⊢
  have hGv : G[H.length]? = some (.vec el k []) := by
   rw [← hG, List.getElem?_set_ne (by omega), List.getElem?_append_right (Nat.le_refl _)]; simp
  rw [hset] at this ⊢
  clear hG
  have key : ∀ (cs : List V) (us : List Value) (c : Nat), V.reps (Own C.A0 (bs ++ [none])) w (bs ++ [none]) G cs us → cs[c]? = some .nilS → V.reps (Own C.A0 (bs ++ [none])) w (bs ++ [none]) G (cs.set c (.vec H.length 0)) us := by
   intro cs
   induction cs with
   | nil => intro us c _ hc; simp at hc
   | cons x cs ih =>
    intro us c hr hc
    simp only [V.reps] at hr
    obtain ⟨v, vs', rfl, h2, h3⟩ := hr
    cases c with
    | zero =>
     simp only [List.getElem?_cons_zero, Option.some.injEq] at hc
     subst hc
     simp only [List.set_cons_zero, V.reps]
     refine ⟨v, vs', rfl, ?_, h3⟩
     have hv := zk.1 h2
     subst hv
     simp only [V.rep, hGv]
     exact ⟨Nat.le_refl _, fun _ => ⟨[], World.ownsRow_nil w 0 el k, by rw [← hlen]; simp [Value.ownBlock], by simp [D.flat]⟩⟩
    | succ c =>
     simp only [List.set_cons_succ, V.reps]
     exact ⟨v, vs', rfl, h2, ih vs' c h3 (by simpa using hc)⟩
  exact key cs _ c this hc)
 rw [hset] at hupd
 exact hupd
theorem TriL.nilCell {P : Program} {C : Ctx} {ops : Array Oper} {rest : List Oper} {Q : Exit → St → Prop} {T : List (Nat × V)} {H : List Blk} (j c k : Nat) (el : TypeId) {t : TypeId} {cs : List V} (hj : H[j]? = some (.box t cs)) (hc : cs[c]? = some .nilS)
  (kk : TriL P C ops rest Q ⟨T, (H ++ [Blk.vec el k []]).set j (.box t (cs.set c (.vec H.length 0)))⟩) : TriL P C ops rest Q ⟨T, H⟩ := ⟨fun _ a w hR => kk.run _ a w (hR.nilCell hj hc)⟩
section
variable {P : Program} {n : Nat} {ops : Array Oper} {H : List Blk} {l : List Oper} {p : Oper} {rest : List Oper} {al : List Ev} {T : List (Nat × V)} {K : List Ev → List (Nat × V) → Prop}
theorem TriQ.jAnd (m : Nat) {b b2 : Bool} {g r d : Nat} (hl : l.drop m = p :: rest) (hp : p.op = .pick (.tmp g) (.tmp r) (.const (.bool false)))
  (hb : look g T = some (.d (.bool b))) (hs : skipsB ops n g true (l.take m) [] = true) (hrun : Runs ops p T) (hgp : ∀ j w g', p.guard = some (j, w) → (ops[j]?).bind (·.dst) = some g' → g' ∉ dsts (l.take m)) (hd : p.dst = some d) (hn : Nat.blt d n = true)
  (h1 : b = true → TriQ P n ops H (l.take m) al ((g, .d (.bool true)) :: T) (fun _ T' => look r T' = some (.d (.bool b2))))
  (h2 : TriQ P n ops H rest al ((d, .d (.bool (b && b2))) :: junks (dsts (l.take m)) T) K) : TriQ P n ops H l al T K :=
 TriQ.junction m (want := true) hl hp ⟨rfl, rfl⟩ hb hs hrun hgp hd hn h1 h2
theorem TriQ.jOr (m : Nat) {b b2 : Bool} {g r d : Nat} (hl : l.drop m = p :: rest) (hp : p.op = .pick (.tmp g) (.const (.bool true)) (.tmp r))
  (hb : look g T = some (.d (.bool b))) (hs : skipsB ops n g false (l.take m) [] = true) (hrun : Runs ops p T) (hgp : ∀ j w g', p.guard = some (j, w) → (ops[j]?).bind (·.dst) = some g' → g' ∉ dsts (l.take m)) (hd : p.dst = some d) (hn : Nat.blt d n = true)
  (h1 : b = false → TriQ P n ops H (l.take m) al ((g, .d (.bool false)) :: T) (fun _ T' => look r T' = some (.d (.bool b2))))
  (h2 : TriQ P n ops H rest al ((d, .d (.bool (b || b2))) :: junks (dsts (l.take m)) T) K) : TriQ P n ops H l al T K :=
 TriQ.junction m (want := false) hl hp ⟨rfl, rfl⟩ hb hs hrun hgp hd hn h1 h2
end
end Go.Proofs.YtcagdmegicijlaaGreatDoor
namespace Go.Proofs.YtcagdmegicijlaaGreatDoor
open Go Go.RowKit
variable [Globs]
theorem cutS {α : Type} {l : List α} {lo hi : Int} {r : List α} (h : cut l lo hi = some r) : ∃ a b : Nat, lo = (a : Int) ∧ hi = (b : Int) ∧ a ≤ b ∧ b ≤ l.length ∧ r = (l.drop a).take (b - a) := by
 unfold cut at h; split at h
 ·rename_i h0
  obtain ⟨h1, h2, h3⟩ := h0
  obtain ⟨a, rfl⟩ := Int.eq_ofNat_of_zero_le h1
  obtain ⟨b, rfl⟩ := Int.eq_ofNat_of_zero_le (Int.le_trans h1 h2)
  cases h
  exact ⟨a, b, rfl, rfl, by omega, by omega, by simp⟩
 ·cases h
theorem bytes_extract (l : List UInt8) (a b : Nat) : (⟨l.toArray⟩ : ByteArray).extract a b = ⟨((l.drop a).take (b - a)).toArray⟩ := by
 apply ByteArray.ext
 rw [ByteArray.data_extract]
 apply Array.ext'
 simp [List.extract_eq_take_drop]
section
variable {P : Program} {o : Oper} {e : Operand → Option V} {H : List Blk}
theorem OpV.cutStrLH {t : TypeId} {x y z : Operand} {l r : List UInt8} {lo hi : Int} (ho : o.op = .slice t x (some y) (some z) none) (hx : e x = some (.d (.str l))) (hy : e y = some (.d (.int lo))) (hz : e z = some (.d (.int hi))) (ht : P.underlying t = some .string) (hr : cut l lo hi = some r) : OpV P o e H (.d (.str r)) := by
 obtain ⟨a, b, rfl, rfl, h1, h2, rfl⟩ := cutS hr
 refine .of_same fun A0 bs w f _ hf => ?_
 have e1 := zk.1 (hf x (by simp [ho, Op.operands]) _ hx)
 have e2 := zk.1 (hf y (by simp [ho, Op.operands]) _ hy)
 have e3 := zk.1 (hf z (by simp [ho, Op.operands]) _ hz)
 refine ⟨_, ?_, zk.2 rfl⟩
 have h2' : b ≤ (⟨l.toArray⟩ : ByteArray).size := h2
 simp [execOp, ho, e1, e2, e3, run_sliceAt_string w t _ _ _ _ ht, Instr.slice, run_underlying ht, Instr.sliceBounds, Instr.sliceBound, asIntOf, h2', h1, bytes_extract]
theorem OpV.cutStrL {t : TypeId} {x y : Operand} {l r : List UInt8} {lo : Int} (ho : o.op = .slice t x (some y) none none) (hx : e x = some (.d (.str l))) (hy : e y = some (.d (.int lo))) (ht : P.underlying t = some .string) (hr : cut l lo (l.length : Int) = some r) : OpV P o e H (.d (.str r)) := by
 obtain ⟨a, b, rfl, hb, h1, h2, rfl⟩ := cutS hr
 have hb' : l.length = b := by omega
 subst hb'
 refine .of_same fun A0 bs w f _ hf => ?_
 have e1 := zk.1 (hf x (by simp [ho, Op.operands]) _ hx)
 have e2 := zk.1 (hf y (by simp [ho, Op.operands]) _ hy)
 refine ⟨_, ?_, zk.2 rfl⟩
 have hs : (⟨l.toArray⟩ : ByteArray).size = l.length := rfl
 simp [execOp, ho, e1, e2, run_sliceAt_string w t _ _ _ _ ht, Instr.slice, run_underlying ht, Instr.sliceBounds, Instr.sliceBound, asIntOf, hs, h1, bytes_extract]
theorem OpV.cutStrH {t : TypeId} {x z : Operand} {l r : List UInt8} {hi : Int} (ho : o.op = .slice t x none (some z) none) (hx : e x = some (.d (.str l))) (hz : e z = some (.d (.int hi))) (ht : P.underlying t = some .string) (hr : cut l 0 hi = some r) : OpV P o e H (.d (.str r)) := by
 obtain ⟨a, b, ha, rfl, h1, h2, rfl⟩ := cutS hr
 have ha' : a = 0 := by omega
 subst ha'
 refine .of_same fun A0 bs w f _ hf => ?_
 have e1 := zk.1 (hf x (by simp [ho, Op.operands]) _ hx)
 have e3 := zk.1 (hf z (by simp [ho, Op.operands]) _ hz)
 refine ⟨_, ?_, zk.2 rfl⟩
 have h2' : b ≤ (⟨l.toArray⟩ : ByteArray).size := h2
 simp [execOp, ho, e1, e3, run_sliceAt_string w t _ _ _ _ ht, Instr.slice, run_underlying ht, Instr.sliceBounds, Instr.sliceBound, asIntOf, h2', bytes_extract]
theorem OpV.cutSlL {α : Type} {t el : TypeId} {x y : Operand} {k : Nat} {l r : List α} {enc : α → D} {lo : Int} (ho : o.op = .slice t x (some y) none none) (hx : e x = some (.d (.sl k (l.map enc)))) (hy : e y = some (.d (.int lo))) (ht : P.underlying t = some (.slice el)) (hs : (P.info? el).map (·.size) = some k) (hr : cut l lo (l.length : Int) = some r) : OpV P o e H (.d (.sl k (r.map enc))) := by
 obtain ⟨a, b, rfl, hb, h1, h2, rfl⟩ := cutS hr
 have hb' : l.length = b := by omega
 subst hb'
 refine .of_same fun A0 bs w f _ hf => ?_
 have e1 := hf x (by simp [ho, Op.operands]) _ hx
 have e2 := zk.1 (hf y (by simp [ho, Op.operands]) _ hy)
 simp only [V.rep, D.rep] at e1
 obtain ⟨ad, cap, hp, hcap, hrow⟩ := e1
 cases hinf : P.info? el with
 | none => simp [hinf] at hs
 | some inf =>
  have hsz : inf.size = k := by simpa [hinf] using hs
  have hel : P.elem t = el := by simp [Program.elem, ht]
  have hck : P.cellsOf el = k := by simp [Program.cellsOf, hinf, hsz]
  refine ⟨sliced ad a l.length cap k, ?_, ?_⟩
  ·have := run_slice_l (P := P) w t ad l.length cap (by rw [hel]; exact ht) .i64 a (by omega) (by omega)
   rw [hel, run_sizeOf w hinf, hck] at this
   simp only [Int.toNat_natCast, Result.andThen_ok] at this
   simp only [List.length_map] at hp
   simp only [execOp, ho, hp, e2, Option.map_some, Option.map_none, Sem.run_bind, run_sliceAt_slice w t _ _ _ _ (by rw [hel]; exact ht), this, Result.andThen_ok, Sem.run_pure]
  ·have hlen : (l.drop a).take (l.length - a) = l.drop a := List.take_of_length_le (by simp)
   rw [hlen]
   simp only [V.rep, D.rep, sliced]
   simp only [List.length_map] at hcap
   refine ⟨if cap = a then ad else ad.map (·.add (a * k)), cap - a, by simp, by simp; omega, ?_⟩
   by_cases hnil : l.drop a = []
   ·exact .inl (by simp [hnil])
   ·right
    rcases hrow with hrow | ⟨bl, off, rfl, hnb, hlt, hrow⟩
    ·simp at hrow; subst hrow; simp at hnil
    ·have hd := D.row_drop a _ _ hrow
     by_cases hm : cap = a
     ·exact absurd (List.drop_eq_nil_of_le (by omega)) hnil
     ·rw [if_neg hm]
      exact ⟨bl, off + a * k, by simp [Addr.add_lit], hnb, hlt, by simpa using hd⟩
end
end Go.Proofs.YtcagdmegicijlaaGreatDoor
namespace Go.Proofs.YtcagdmegicijlaaGreatDoor
open Go Go.RowKit
variable [Globs]
def eqV : Value → Value → Bool
 | .bool a, .bool b => a == b
 | .int _ a, .int _ b => a == b
 | .string a, .string b => a.toList == b.toList
 | _, _ => false
def eqVs : List Value → List Value → Bool
 | [], [] => true
 | x :: xs, y :: ys => eqV x y && eqVs xs ys
 | _, _ => false
def okLeaf : TypeDesc → Value → Bool
 | .bool, .bool _ => true
 | .int k, .int j _ => decide (j = k)
 | .string, .string _ => true
 | _, _ => false
def zax : List TypeDesc → List Value → Bool
 | [], [] => true
 | d :: ds, v :: vs => okLeaf d v && zax ds vs
 | _, _ => false
def flatFs (rec : TypeId → Option (List TypeDesc)) : List Field → Nat → Option (List TypeDesc)
 | [], _ => some []
 | f :: fs, off => if f.name = "_" ∨ f.offset ≠ off then none else match rec f.type with
  | none => none
  | some l => match flatFs rec fs (off + l.length) with
   | none => none
   | some r => some (l ++ r)
def flatT (P : Program) : Nat → TypeId → Option (List TypeDesc)
 | 0, _ => none
 | d + 1, t => match P.underlying t with
  | some (.struct fs) => if P.stoodInHeld t = true then none else match flatFs (flatT P d) fs.toList 0 with
   | none => none
   | some l => if (P.info? t).map (·.size) = some l.length then some l else none
  | some .bool => some [.bool]
  | some (.int k) => some [.int k]
  | some .string => some [.string]
  | _ => none
theorem zbJ : ∀ {ls : List TypeDesc} {vs : List Value}, zax ls vs = true → vs.length = ls.length
 | [], [], _ => rfl
 | _ :: _, _ :: _, h => by simp only [zax, Bool.and_eq_true] at h; simp [zbJ h.2]
 | [], _ :: _, h => by simp [zax] at h
 | _ :: _, [], h => by simp [zax] at h
theorem okLeaves_append : ∀ {l r : List TypeDesc} {vs : List Value}, zax (l ++ r) vs = true → zax l (vs.take l.length) = true ∧ zax r (vs.drop l.length) = true
 | [], r, vs, h => by simpa [zax] using h
 | d :: l, r, [], h => by simp [zax] at h
 | d :: l, r, v :: vs, h => by
  simp only [List.cons_append, zax, Bool.and_eq_true] at h
  have := okLeaves_append (l := l) h.2
  simp only [List.length_cons, List.take_succ_cons, List.drop_succ_cons, zax, Bool.and_eq_true]
  exact ⟨⟨h.1, this.1⟩, this.2⟩
theorem eqVs_split : ∀ (n : Nat) (xs ys : List Value), xs.length = ys.length → eqVs xs ys = (eqVs (xs.take n) (ys.take n) && eqVs (xs.drop n) (ys.drop n))
 | 0, xs, ys, _ => by simp [eqVs]
 | n + 1, [], [], _ => by simp [eqVs]
 | n + 1, x :: xs, y :: ys, h => by
  simp only [eqVs, List.take_succ_cons, List.drop_succ_cons, eqVs_split n xs ys (by simpa using h), Bool.and_assoc]
 | n + 1, [], _ :: _, h => by simp at h
 | n + 1, _ :: _, [], h => by simp at h
def packT (P : Program) (t : TypeId) (cs : Array Value) : Value := match P.underlying t with | some (.struct _) => .agg cs | _ => cs.getD 0 undef
def EqRuns (P : Program) (d : Nat) : Prop := ∀ (t : TypeId) (ls : List TypeDesc), flatT P d t = some ls → ∀ (m : Nat) (w : World) (xs ys : Array Value), d ≤ m → zax ls xs.toList = true → zax ls ys.toList = true →
 (Op.equalIn m t (packT P t xs) (packT P t ys)).run P w = .ok (eqVs xs.toList ys.toList) w
theorem run_part_flat {P : Program} {d : Nat} {t : TypeId} {l : List TypeDesc} (h : flatT P d t = some l) (w : World) (xs : Array Value) (off : Nat) (hl : zax l ((xs.toList.drop off).take l.length) = true) :
    (part t xs off).run P w = .ok (packT P t (xs.extract off (off + l.length))) w := by
  cases d with
  | zero => simp [flatT] at h
  | succ d =>
    have hlen := zbJ hl
    unfold flatT at h
    split at h
    · rename_i fs hu
      split at h
      · cases h
      · split at h
        · cases h
        · rename_i l' _
          split at h
          · rename_i hs
            cases h
            cases hi : P.info? t with
            | none => simp [hi] at hs
            | some i =>
              simp only [hi, Option.map_some, Option.some.injEq] at hs
              simp [part, isAgg, run_underlying hu, sizeOf, typeInfo, hi, hs, packT, hu]
          · cases h
    all_goals first
      | (cases h; done)
      | (rename_i hu
         cases h
         simp only [List.length_singleton] at hl hlen ⊢
         have h1 : off < xs.size := by simp at hlen; omega
         have hx : xs[off]? = some xs[off] := Array.getElem?_eq_getElem h1
         simp [part, isAgg, run_underlying hu, hx, packT, hu, Array.getD, Array.size_extract]
         try (intro h2; exfalso; omega))
theorem run_eqFields_flat {P : Program} {d m : Nat} (ih : EqRuns P d) (hm : d ≤ m) (xs ys : Array Value) : ∀ (fs : List Field) (off : Nat) (ls : List TypeDesc) (w : World), flatFs (flatT P d) fs off = some ls →
  zax ls (xs.toList.drop off) = true → zax ls (ys.toList.drop off) = true → (Op.eqFields m xs ys fs).run P w = .ok (eqVs (xs.toList.drop off) (ys.toList.drop off)) w
 | [], off, ls, w, h, hx, hy => by
  simp only [flatFs] at h
  cases h
  have h1 := zbJ hx
  have h2 := zbJ hy
  rw [List.length_eq_zero_iff.1 h1, List.length_eq_zero_iff.1 h2]
  simp [Op.eqFields, eqVs]
 | f :: fs, off, ls, w, h, hx, hy => by
  simp only [flatFs] at h
  split at h
  ·cases h
  ·rename_i hno
   have hn : f.name ≠ "_" := fun e => hno (.inl e)
   have ho : f.offset = off := Classical.byContradiction fun e => hno (.inr e)
   split at h
   ·cases h
   ·rename_i l hl
    split at h
    ·cases h
    ·rename_i r hr
     cases h
     obtain ⟨x1, x2⟩ := okLeaves_append hx
     obtain ⟨y1, y2⟩ := okLeaves_append hy
     have px := run_part_flat hl w xs off x1
     have py := run_part_flat hl w ys off y1
     have ex : (xs.extract off (off + l.length)).toList = (xs.toList.drop off).take l.length := by rw [Array.toList_extract]; simp [List.extract]
     have ey : (ys.extract off (off + l.length)).toList = (ys.toList.drop off).take l.length := by rw [Array.toList_extract]; simp [List.extract]
     have hq := ih f.type l hl m w (xs.extract off (off + l.length)) (ys.extract off (off + l.length)) hm (by rw [ex]; exact x1) (by rw [ey]; exact y1)
     rw [ex, ey] at hq
     have hrec := run_eqFields_flat ih hm xs ys fs (off + l.length) r w hr (by rw [← List.drop_drop]; exact x2) (by rw [← List.drop_drop]; exact y2)
     have hlx := zbJ hx
     have hly := zbJ hy
     rw [eqVs_split l.length _ _ (by rw [hlx, hly]), List.drop_drop, List.drop_drop]
     simp only [Op.eqFields, hn, ne_eq, not_false_eq_true, if_true, ho, Sem.run_bind, px, py, hq, Result.andThen_ok, Sem.run_ite]
     cases hb : eqVs (List.take l.length (List.drop off xs.toList)) (List.take l.length (List.drop off ys.toList))
     ·simp
     ·simp [hrec]
theorem eqRuns {P : Program} : ∀ d, EqRuns P d
  | 0 => fun t ls h => by simp [flatT] at h
  | d + 1 => fun t ls h m w xs ys hm hx hy => by
    obtain ⟨m, rfl⟩ : ∃ m', m = m' + 1 := ⟨m - 1, by omega⟩
    unfold flatT at h
    split at h
    · rename_i fs hu
      split at h
      · cases h
      · rename_i hst
        split at h
        · cases h
        · rename_i l' hl'
          split at h
          · cases h
            have hf : P.fieldsOf t = fs := by simp [Program.fieldsOf, hu]
            have hp : ∀ cs, packT P t cs = .agg cs := fun cs => by simp [packT, hu]
            rw [hp, hp, run_equalIn_struct w m t xs ys (by rw [hf]; exact hu) (by simpa using hst), hf]
            have := run_eqFields_flat (eqRuns d) (by omega : d ≤ m) xs ys fs.toList 0 ls w hl' (by simpa using hx) (by simpa using hy)
            simpa using this
          · cases h
    all_goals first
      | (cases h; done)
      | (rename_i hu
         cases h
         obtain ⟨xl, rfl⟩ : ∃ l : List Value, xs = l.toArray := ⟨xs.toList, by simp⟩
         obtain ⟨yl, rfl⟩ : ∃ l : List Value, ys = l.toArray := ⟨ys.toList, by simp⟩
         cases xl with
         | nil => simp [zax] at hx
         | cons x xl =>
           cases yl with
           | nil => simp [zax] at hy
           | cons y yl =>
             have h1 := zbJ hx
             have h2 := zbJ hy
             simp at h1 h2
             subst h1; subst h2
             simp only [zax, Bool.and_true] at hx hy
             cases x <;> simp only [okLeaf, decide_eq_true_eq, Bool.false_eq_true] at hx
             cases y <;> simp only [okLeaf, decide_eq_true_eq, Bool.false_eq_true] at hy
             try subst hx
             try subst hy
             simp [packT, hu, eqVs, eqV, run_equalIn_bool' w m t _ _ , run_equalIn_int w m t, run_equalIn_string w m t])
section
variable {P : Program} {o : Oper} {e : Operand → Option V} {H : List Blk}
theorem reps_valsI {A : Nat → Prop} {w : World} : ∀ {l vs : List Value}, D.reps A w (l.map .val) vs → vs = l
 | [], vs, h => by simpa [D.reps] using h
 | v :: l, vs, h => by
  simp only [List.map_cons, D.reps] at h
  obtain ⟨u, us, rfl, h1, h2⟩ := h
  simp only [D.rep] at h1
  rw [h1, reps_valsI h2]
def structD (vs : List Value) : D := .agg (vs.map .val)
theorem structD_rep {A : Nat → Prop} {w : World} {vs : List Value} {v : Value} (h : (structD vs).rep A w v) : v = .agg vs.toArray := by
 simp only [structD, D.rep] at h
 obtain ⟨us, rfl, h2⟩ := h
 rw [← reps_valsI h2]
structure EqStruct (P : Program) (t : TypeId) (ls : List TypeDesc) : Prop where
 flat : flatT P 20 t = some ls
 str : (match P.underlying t with | some (.struct _) => true | _ => false) = true
 grd : P.eqGuardType P.depth t = false
theorem EqStruct.run {t : TypeId} {ls : List TypeDesc} (h : EqStruct P t ls) {xs ys : List Value} (hx : zax ls xs = true) (hy : zax ls ys = true) (w : World) :
  (Op.equalIn 10000 t (.agg xs.toArray) (.agg ys.toArray)).run P w = .ok (eqVs xs ys) w := by
 have := eqRuns 20 t ls h.flat 10000 w xs.toArray ys.toArray (by decide) (by simpa using hx) (by simpa using hy)
 have hp : ∀ cs, packT P t cs = .agg cs := fun cs => by
  have := h.str
  unfold packT
  split at this
  ·rename_i hu; simp [hu]
  ·cases this
 simpa [hp] using this
theorem OpV.seql {t u : TypeId} {x y : Operand} {ls : List TypeDesc} {a b : D} {xs ys : List Value} {r : Bool} (ho : o.op = .binOp .eql t x y u) (ht : EqStruct P t ls) (hx : e x = some (.d a)) (hy : e y = some (.d b)) (ha : a = structD xs) (hb : b = structD ys)
  (lx : zax ls xs = true) (ly : zax ls ys = true) (hr : eqVs xs ys = r) : OpV P o e H (.d (.bool r)) :=
 .of_same fun _ _ w f _ hf => by
  subst ha; subst hb
  have h1 := hf x (by simp [ho, Op.operands]) _ hx
  have h2 := hf y (by simp [ho, Op.operands]) _ hy
  simp only [V.rep] at h1 h2
  have h1 := structD_rep h1
  have h2 := structD_rep h2
  exact ⟨.bool r, by simp only [execOp, ho, h1, h2, run_eqGuard_agg w _ t x y _ _ ht.grd, run_eql_struct, ht.run lx ly, hr, Sem.run_bind, Sem.run_pure, Result.andThen_ok], zk.2 rfl⟩
theorem OpV.sneq {t u : TypeId} {x y : Operand} {ls : List TypeDesc} {a b : D} {xs ys : List Value} {r : Bool} (ho : o.op = .binOp .neq t x y u) (ht : EqStruct P t ls) (hx : e x = some (.d a)) (hy : e y = some (.d b)) (ha : a = structD xs) (hb : b = structD ys)
  (lx : zax ls xs = true) (ly : zax ls ys = true) (hr : eqVs xs ys = r) : OpV P o e H (.d (.bool (!r))) :=
 .of_same fun _ _ w f _ hf => by
  subst ha; subst hb
  have h1 := hf x (by simp [ho, Op.operands]) _ hx
  have h2 := hf y (by simp [ho, Op.operands]) _ hy
  simp only [V.rep] at h1 h2
  have h1 := structD_rep h1
  have h2 := structD_rep h2
  exact ⟨.bool (!r), by simp only [execOp, ho, h1, h2, run_eqGuard_agg w _ t x y _ _ ht.grd, run_neq_struct, ht.run lx ly, hr, Sem.run_bind, Sem.run_pure, Result.andThen_ok], zk.2 rfl⟩
theorem OpV.callLe {f : FuncId} {args : Array Operand} {tys : Array TypeId} {xs xs' : List D} {y : D} (ho : o.op = .call { callee := .value (.func f), args := args, argTypes := tys }) (hc : callable P f = true)
  (hx : evs e args.toList = some xs) (hl : D.Les xs xs') (hp : Pure P f xs' y) : OpV P o e H (.d y) :=
 .call ho hc hx ⟨fun A w vs h1 hg h2 => hp.run A w vs h1 hg (hl.reps h2)⟩
end
end Go.Proofs.YtcagdmegicijlaaGreatDoor
namespace Go.Proofs.YtcagdmegicijlaaGreatDoor
open Go Go.RowKit
variable [Globs]
theorem madeCells_succ {z : Array Value} {k : Nat} (hz : z.size = k) (hk : 0 < k) (n : Nat) : (madeCells z ((n + 1) * k)).toList = z.toList ++ (madeCells z (n * k)).toList := by
 unfold madeCells
 rw [Array.toList_map, Array.toList_map, Array.toList_range, Array.toList_range, Nat.succ_mul, Nat.add_comm, List.range_add, List.map_append, List.map_map]
 congr 1
 ·apply List.ext_getElem
  ·simp [hz]
  ·intro i h1 h2
   simp only [List.length_map, List.length_range] at h1
   have : i < z.size := by omega
   simp only [List.getElem_map, List.getElem_range, hz, Nat.mod_eq_of_lt h1]
   simp [this]
 ·apply List.map_congr_left
  intro i _
  simp [hz]
theorem flat_made {A : Nat → Prop} {w : World} {k : Nat} {z : Value} {d : D} (hr : d.rep A w z) (hz : z.cells.size = k) (hk : 0 < k) : ∀ n, D.flat A w k (List.replicate n d) (madeCells z.cells (n * k)).toList
 | 0 => by simp [D.flat, madeCells]
 | n + 1 => by
  rw [madeCells_succ hz hk, List.replicate_succ]
  simp only [D.flat]
  exact ⟨z, _, rfl, hz, hr, flat_made hr hz hk n⟩
theorem mkS {α : Type} {b : Nat} {n : Int} {x : α} {r : List α} (h : mkl b n x = some r) : ∃ m : Nat, n = (m : Int) ∧ m * b ≤ 140737488355328 ∧ r = List.replicate m x := by
 unfold mkl at h; split at h
 ·rename_i h0
  obtain ⟨m, rfl⟩ := Int.eq_ofNat_of_zero_le h0.1
  cases h
  exact ⟨m, rfl, by have := h0.2; rw [← Int.natCast_mul] at this; omega, by simp⟩
 ·cases h
theorem inIds {i : Nat} {ids : List Nat} (h : ids.contains i = true) : i ∈ ids := by simpa using h
theorem TriL.makeVec {P : Program} {C : Ctx} {ops : Array Oper} {o : Oper} {rest : List Oper} {Q : Exit → St → Prop} {T : List (Nat × V)} {H : List Blk} {α : Type} {t el : TypeId} {k bytes d : Nat} {x y : Operand} {enc : α → D} {m : Int} {z : α} {r : List α}
  (hg : o.guard = none) (ho : o.op = .makeSlice t x y) (hd : o.dst = some d) (hdn : Nat.blt d C.n = true) (he : zba P t el k bytes = true) (hb : Nat.blt 0 bytes = true) (hx : ev T x = some (.d (.int m))) (hy : ev T y = some (.d (.int m))) (hz : ZeroD P el (enc z)) (hm : mkl bytes m z = some r)
  (kk : TriL P C ops rest Q ⟨(d, .vec H.length r.length) :: T, H ++ [.vec el k (r.map enc)]⟩) : TriL P C ops (o :: rest) Q ⟨T, H⟩ := by
 obtain ⟨htu, hk0, inf, zv, hinf, hzv, hisz, hib, hzc⟩ := zbN he
 obtain ⟨n, rfl, hn, rfl⟩ := mkS hm
 obtain ⟨z', hz1, hz2⟩ := hz.out
 have : z' = zv := by unfold zbl at hz1; rw [hinf] at hz1; simp only [hzv, Option.some.injEq] at hz1; exact hz1.symm
 subst this
 have hb0 : 0 < bytes := by simpa using hb
 have hn2 : n ≤ 140737488355328 := Nat.le_trans (Nat.le_mul_of_pos_right n hb0) hn
 refine TriL.step hg (fun bs a w hR => ?_) kk
 have e1 := zk.1 (hR.ev hx)
 have e2 := zk.1 (hR.ev hy)
 have hmk := run_make (P := P) w t el inf z' htu hinf hzv .i64 .i64 n n (by omega) (Int.le_refl _) (by rw [hib, ← Int.natCast_mul, Nat.mul_comm]; omega) (by omega)
 have hrun : (execOp a.eval o).run P w = .ok (.value (.slice (some ⟨w.heap.size, 0, none⟩) n n)) (w.alloc (.cells (madeCells z'.cells (n * k)) el)) := by
  simp only [execOp, ho, e1, e2, Sem.run_bind, hmk, Result.andThen_ok, Sem.run_pure, Int.toNat_natCast, hisz]
 refine ⟨_, _, bs ++ [some w.heap.size], hrun, .inl ⟨_, rfl, ?_⟩⟩
 have := hR.newVec (el := el) (k := k) (n := n) (cap := n) (r := d) (cells := madeCells z'.cells (n * k)) (xs := List.replicate n (enc z)) (by simpa using hdn) (by simp) (size_madeCells _ _) (Nat.le_refl _) (by simp only [maxLen]; omega) (by
  rw [List.take_of_length_le (by rw [Array.length_toList, size_madeCells]; exact Nat.le_refl _)]; exact flat_made (hz2 _ _) hzc hk0 n)
 rw [hd]
 simpa using this
theorem zcW {α : Type} {l : List α} {i : Int} {x : α} {r : List α} (h : sto l i x = some r) : l.length = r.length := by
 obtain ⟨n, _, _, rfl⟩ := stoS h; simp
theorem TriL.relen {P : Program} {C : Ctx} {ops : Array Oper} {rest : List Oper} {Q : Exit → St → Prop} {T : List (Nat × V)} {H : List Blk} (t : Nat) {i n m : Nat} (ht : look t T = some (.vec i n)) (e : n = m)
  (k : TriL P C ops rest Q ⟨(t, .vec i m) :: T, H⟩) : TriL P C ops rest Q ⟨T, H⟩ := by
 subst e; exact ⟨fun _ a w hR => k.run _ a w (hR.know (hR.tmp t _ ht).1 (hR.tmp t _ ht).2)⟩
end Go.Proofs.YtcagdmegicijlaaGreatDoor
namespace Go.Proofs.YtcagdmegicijlaaGreatDoor
open Go Go.RowKit
variable [Globs]
def freeOp (o : Oper) : Bool := match o.guard, o.dst, o.op with
 | none, some _, .move _ => true
 | none, some _, .binOp .quo _ (.tmp _) (.tmp _) _ => true
 | none, some _, .binOp .rem _ (.tmp _) (.tmp _) _ => true
 | _, _, _ => false
def IntsAt (o : Oper) (T : List (Nat × V)) : Prop := match o.op with
 | .binOp _ _ (.tmp x) (.tmp y) _ => ∃ a b : Int, look x T = some (.d (.int a)) ∧ look y T = some (.d (.int b))
 | _ => True
theorem freeOp_run {P : Program} {o : Oper} (h : freeOp o = true) {T : List (Nat × V)} (hi : IntsAt o T) {f : Operand → Value} (hf : ∀ x a, Operand.tmp x ∈ o.op.operands → look x T = some (.d (.int a)) → f (.tmp x) = .int .i64 a) {w : World} {K : Value → World → Prop} (hr : OpRuns P K ((execOp f o).run P w)) :
  ∃ u, K u w ∧ ∀ w', (execOp f o).run P w' = .ok (.value u) w' := by
 unfold freeOp at h
 split at h
 ·rename_i x _ _ ho
  have : ∀ w', (execOp f o).run P w' = .ok (.value (f x)) w' := fun w' => by simp [execOp, ho]
  rw [this] at hr
  exact ⟨_, hr, this⟩
 ·rename_i t x y u _ _ ho
  simp only [IntsAt, ho] at hi
  obtain ⟨a, b, h1, h2⟩ := hi
  have e1 := hf x a (by simp [ho, Op.operands]) h1
  have e2 := hf y b (by simp [ho, Op.operands]) h2
  by_cases hb : b = 0
  ·exfalso; revert hr; simp [execOp, ho, e1, e2, eqGuard_at_int, binOp, Op.intDiv, hb, OpRuns, runtimePanic, goPanic, Result.andThen]
  ·have : ∀ w', (execOp f o).run P w' = .ok (.value (.int .i64 (w64 (a.tdiv b)))) w' := fun w' => by
    simp [execOp, ho, e1, e2, eqGuard_at_int, binOp, Op.intDiv, hb, w64]
   rw [this] at hr; exact ⟨_, hr, this⟩
 ·rename_i t x y u _ _ ho
  simp only [IntsAt, ho] at hi
  obtain ⟨a, b, h1, h2⟩ := hi
  have e1 := hf x a (by simp [ho, Op.operands]) h1
  have e2 := hf y b (by simp [ho, Op.operands]) h2
  by_cases hb : b = 0
  ·exfalso; revert hr; simp [execOp, ho, e1, e2, eqGuard_at_int, binOp, Op.intDiv, hb, OpRuns, runtimePanic, goPanic, Result.andThen]
  ·have : ∀ w', (execOp f o).run P w' = .ok (.value (.int .i64 (a.tmod b))) w' := fun w' => by
    simp [execOp, ho, e1, e2, eqGuard_at_int, binOp, Op.intDiv, hb]
   rw [this] at hr; exact ⟨_, hr, this⟩
 ·cases h
def isSelect (o : Oper) : Bool := match o.op with | .select _ _ => true | _ => false
def firstsOK (l : List Oper) (n : Nat) : List Nat → List Nat → Bool
 | [], _ => true
 | i :: F, dn => (match l[i]? with
  | none => false
  | some oi => freeOp oi && decide (i < n) && !dn.contains i && oi.after.toList.all (fun e => !Region.binds .any e || dn.contains e.on) &&
   (List.range l.length).all (fun j => j == i || dn.contains j || (match l[j]? with
    | none => false
    | some oj => oj.after.toList.any (fun e => Region.binds .any e && e.on == i) || oi.apart l.toArray oj)) &&
   (match oi.op with
    | .binOp _ _ (.tmp x) (.tmp y) _ => (List.range l.length).all fun j => decide (j < i) || (match l[j]? with | none => true | some oj => oj.dst != some x && oj.dst != some y)
    | _ => true)) && firstsOK l n F (i :: dn)
def zci (Q : Exit → St → Prop) : Exit → St → Prop
 | .panic _, _ => False
 | e, s => Q e s
structure First (l : List Oper) (n : Nat) (i : Nat) (oi : Oper) (dn : List Nat) : Prop where
 at_ : l[i]? = some oi
 free : freeOp oi = true
 lt : i < n
 new : i ∉ dn
 after : ∀ e ∈ oi.after.toList, Region.binds .any e = true → e.on ∈ dn
 apart : ∀ j oj, l[j]? = some oj → j ≠ i → j ∉ dn → (∀ e ∈ oj.after.toList, Region.binds .any e = true → e.on ≠ i) → oi.apart l.toArray oj = true
 ops : ∀ op t x y u, oi.op = .binOp op t (.tmp x) (.tmp y) u → ∀ j oj, l[j]? = some oj → ¬ j < i → oj.dst ≠ some x ∧ oj.dst ≠ some y
theorem firstsOK_cons {l : List Oper} {n i : Nat} {F dn : List Nat} (h : firstsOK l n (i :: F) dn = true) : (∃ oi, First l n i oi dn) ∧ firstsOK l n F (i :: dn) = true := by
 simp only [firstsOK, Bool.and_eq_true] at h
 refine ⟨?_, h.2⟩
 have h := h.1
 cases ho : l[i]? with
 | none => simp [ho] at h
 | some oi =>
  simp only [ho, Bool.and_eq_true, decide_eq_true_eq, Bool.not_eq_true', List.all_eq_true] at h
  obtain ⟨⟨⟨⟨⟨h1, h2⟩, h3⟩, h4⟩, h5⟩, h6⟩ := h
  refine ⟨oi, ho, h1, h2, by simpa using h3, fun e he hb => ?_, fun j oj hj hji hjd hw => ?_, fun op t x y u hop j oj hj hlt => ?_⟩
  ·have := h4 e he
   simpa [hb] using this
  ·have := h5 j (List.mem_range.2 (List.getElem?_eq_some_iff.1 hj).1)
   simp only [hj, Bool.or_eq_true, beq_iff_eq, List.any_eq_true, Bool.and_eq_true] at this
   rcases this with (h | h) | ⟨e, he, h7, h8⟩ | h
   ·exact absurd h hji
   ·exact absurd (by simpa using h) hjd
   ·exact absurd h8 (hw e he h7)
   ·exact h
  ·simp only [hop, List.all_eq_true] at h6
   have := h6 j (List.mem_range.2 (List.getElem?_eq_some_iff.1 hj).1)
   simp only [hj, Bool.or_eq_true, decide_eq_true_eq, Bool.and_eq_true, bne_iff_ne, ne_eq] at this
   exact this.resolve_left hlt
theorem TL_put {l : List Oper} {T0 : List (Nat × V)} {ps : List (Oper × V)} {M L0 : List Nat} {n : Nat} (ok : RegOK l n M L0) (hfst : ∀ (i : Nat) (o : Oper) (v : V), ps[i]? = some (o, v) → l[i]? = some o) {listed : Array Bool} (hsz : listed.size = l.length) (hcl : Closed l M listed) {i : Nat} {o : Oper} {v : V}
  (hpi : ps[i]? = some (o, v)) (hil : listed.getD i false = false) (hbef : ∀ k, (M.getD i 0).testBit k = true → listed.getD k false = true) (t : Nat) :
  look t (TL T0 ps (fun k => (listed.setIfInBounds i true).getD k false) ps.length) = look t (putT (TL T0 ps (fun k => listed.getD k false) ps.length) o.dst v) := by
 have ho := hfst i o v hpi
 have hilt := (List.getElem?_eq_some_iff.1 ho).1
 have hips := (List.getElem?_eq_some_iff.1 hpi).1
 rw [zcE]
 by_cases hd : o.dst = some t
 ·rw [if_pos hd]
  have h1 : look t (TL T0 ps (fun k => (listed.setIfInBounds i true).getD k false) ps.length) = look t (TL T0 ps (fun k => decide (k < i + 1)) ps.length) := by
   refine TL_agree (fun k ok' vk hk hdk => ?_) ps.length
   have hlk := hfst k ok' vk hk
   rw [zal _ _ _ _ (by omega)]
   rcases Nat.lt_trichotomy k i with hki | hki | hki
   ·rw [if_neg (by omega)]; simp only [show k < i + 1 by omega, decide_true]
    rcases ok.pair k i ok' _ hki hlk ho with hb | hap
    ·exact hbef k hb
    ·exact absurd hd ((Oper.apart_spec hap).2.1 t hdk)
   ·rw [if_pos hki]; simp [hki]
   ·rw [if_neg (by omega)]; simp only [show ¬ k < i + 1 by omega, decide_false]
    cases hb : listed.getD k false with
    | false => rfl
    | true =>
     exfalso
     rcases ok.pair i k _ ok' hki ho hlk with hb2 | hap
     ·have := hcl k (by have := (List.getElem?_eq_some_iff.1 hlk).1; omega) hb i hb2
      rw [hil] at this; cases this
     ·exact (Oper.apart_spec hap).2.1 t hd hdk
  rw [h1]
  have h2 := TL_beyond (T := T0) (ps := ps) (p := fun k => decide (k < i + 1)) (m := i + 1) (fun k hk => by simp; omega) (ps.length - (i + 1))
  rw [show i + 1 + (ps.length - (i + 1)) = ps.length by omega] at h2
  rw [h2]
  simp only [TL, hpi, Nat.lt_succ_self, decide_true, if_true, zcE, hd]
 ·rw [if_neg hd]
  refine TL_agree (fun k ok' vk hk hdk => ?_) ps.length
  rw [zal _ _ _ _ (by omega)]
  split
  ·rename_i hki; subst hki
   rw [hpi] at hk
   simp only [Option.some.injEq, Prod.mk.injEq] at hk
   obtain ⟨rfl, _⟩ := hk
   exact absurd hdk hd
  ·rfl
theorem wpAny_firsts {P : Program} {C : Ctx} {bs : List (Option Nat)} {H : List Blk} {T0 : List (Nat × V)} {Q : Exit → St → Prop} {ps : List (Oper × V)} {M L0 : List Nat} {l : List Oper} {n : Nat} (hQ : ∀ c s, ¬ Q (.panic c) s) (hsel : l.all (fun o => !isSelect o) = true)
  (hfst : ∀ (i : Nat) (o : Oper) (v : V), ps[i]? = some (o, v) → l[i]? = some o) (hpn : ps.length = n) (ok : RegOK l n M L0) (hy : ∀ (i : Nat) (o : Oper) (v : V), ps[i]? = some (o, v) → YV P C.n l.toArray H o (TL T0 ps (fun k => decide (k < i)) ps.length) v) : ∀ (F dn : List Nat), firstsOK l n F dn = true →
  (∀ i ∈ F, ∀ o, l[i]? = some o → IntsAt o (TL T0 ps (fun _ => true) ps.length)) →
  ∀ (listed : Array Bool) (a : Act) (w : World) (fuel : Nat), listed.size = l.length → (∀ j, j < l.length → (listed.getD j false = true ↔ j ∈ dn)) → Closed l M listed → R C bs ⟨TL T0 ps (fun k => listed.getD k false) ps.length, H⟩ a w →
  (∀ (listed' : Array Bool) (a' : Act), listed'.size = l.length → (∀ j, j < l.length → (listed'.getD j false = true ↔ j ∈ F.reverse ++ dn)) → Closed l M listed' → R C bs ⟨TL T0 ps (fun k => listed'.getD k false) ps.length, H⟩ a' w → wpAny P .any l.toArray (QR C Q) fuel listed' a' w) →
  wpAny P .any l.toArray (QR C Q) (fuel + F.length) listed a w
 | [], dn, _, _, listed, a, w, fuel, hsz, hdn, hcl, hR, hk => hk listed a hsz (by simpa using hdn) hcl hR
 | i :: F, dn, hF, hI, listed, a, w, fuel, hsz, hdn, hcl, hR, hk => by
  obtain ⟨⟨oi, f⟩, hF'⟩ := firstsOK_cons hF
  have hilt := (List.getElem?_eq_some_iff.1 f.at_).1
  have hips : i < ps.length := by rw [hpn]; exact f.lt
  have hpi : ps[i]? = some (ps[i].1, ps[i].2) := List.getElem?_eq_getElem hips
  have hoi : oi = ps[i].1 := by have := hfst i _ _ hpi; rw [f.at_] at this; simpa using this
  have hil : listed.getD i false = false := by
   cases hb : listed.getD i false with
   | false => rfl
   | true => exact absurd ((hdn i hilt).1 hb) f.new
  have hedges : ∀ e ∈ oi.after.toList, Region.binds .any e = true → listed.getD e.on false = true := fun e he hb => by
   have := ok.back i oi f.at_ e he hb
   exact (hdn e.on (by omega)).2 (f.after e he hb)
  have hbef := ready_before ok hcl f.at_ hedges
  have hready : i ∈ Region.ready .any l.toArray listed := mem_ready.2 ⟨oi, f.at_, by rw [zca _ _ (by omega)]; exact hil, hedges⟩
  have hlook : ∀ t ∈ oi.looksAt l.toArray, look t (TL T0 ps (fun k => decide (k < i)) ps.length) = look t (TL T0 ps (fun k => listed.getD k false) ps.length) := by
   intro t ht
   refine TL_agree (fun k ok' vk hk hd => ?_) ps.length
   have hlk := hfst k ok' vk hk
   rcases Nat.lt_trichotomy k i with hki | hki | hki
   ·simp only [hki, decide_true]
    rcases ok.pair k i ok' _ hki hlk f.at_ with hb | hap
    ·exact (hbef k hb).symm
    ·exact absurd ht ((Oper.apart_spec hap).1 t hd)
   ·subst hki; simp only [Nat.lt_irrefl, decide_false]; exact hil.symm
   ·simp only [show ¬ k < i by omega, decide_false]
    cases hb : listed.getD k false with
    | false => rfl
    | true =>
     exfalso
     rcases ok.pair i k _ ok' hki f.at_ hlk with hb2 | hap
     ·have := hcl k (by have := (List.getElem?_eq_some_iff.1 hlk).1; omega) hb i hb2
      rw [hil] at this; cases this
     ·exact (Oper.apart_spec hap).2.2 t hd ht
  have hyi := (hy i _ _ hpi).congr (by rw [← hoi]; exact hlook)
  rw [← hoi] at hyi
  obtain ⟨hdst, hyi⟩ := hyi
  have hfree := f.free
  have hgd : oi.guard = none ∧ zai oi = false := by
   unfold freeOp at hfree
   split at hfree
   ·rename_i hg _ ho; exact ⟨hg, by simp [zai, ho]⟩
   ·rename_i hg _ ho; exact ⟨hg, by simp [zai, ho]⟩
   ·rename_i hg _ ho; exact ⟨hg, by simp [zai, ho]⟩
   ·cases hfree
  have hop : OpV P oi (ev (TL T0 ps (fun k => listed.getD k false) ps.length)) H ps[i].2 := by
   rcases hyi with ⟨_, _, hv⟩ | ⟨_, ⟨t, r, q, _⟩, _⟩ | ⟨_, j, want, g, hg, _⟩ | ⟨_, t, r, y, d, k, q, _⟩
   ·exact hv
   ·simp [zai, q] at hgd
   ·rw [hgd.1] at hg; cases hg
   ·simp [zai, q] at hgd
  -- its operands, if integers, are what they are in the end
  have hints : IntsAt oi (TL T0 ps (fun k => listed.getD k false) ps.length) := by
   have h0 := hI i (by simp) oi f.at_
   unfold IntsAt at h0 ⊢
   split
   ·rename_i op t x y u hq
    simp only [hq] at h0
    have hsame : ∀ z, (z = x ∨ z = y) → look z (TL T0 ps (fun _ => true) ps.length) = look z (TL T0 ps (fun k => listed.getD k false) ps.length) := by
     intro z hz
     have hz' : z ∈ oi.looksAt l.toArray := by
      simp only [Oper.looksAt, List.mem_append, List.mem_filterMap]; left
      rcases hz with rfl | rfl
      ·exact ⟨.tmp z, by simp [hq, Op.operands], rfl⟩
      ·exact ⟨.tmp z, by simp [hq, Op.operands], rfl⟩
     rw [← hlook z hz']
     refine TL_agree (fun k ok' vk hk hd => ?_) ps.length
     have hlk := hfst k ok' vk hk
     by_cases hki : k < i
     ·simp [hki]
     ·exfalso
      have := f.ops op t x y u hq k ok' hlk hki
      rcases hz with rfl | rfl
      ·exact this.1 hd
      ·exact this.2 hd
    rw [← hsame x (.inl rfl), ← hsame y (.inr rfl)]; exact h0
   ·trivial
  have hrun := hop.run C.A0 bs w a.eval hR.mem (fun x _ y hx => hR.ev hx) (fun _ => rfl) (fun _ => rfl)
  obtain ⟨u, ⟨_, hu⟩, hall⟩ := freeOp_run hfree hints (f := a.eval) (fun x b _ hx => by
   have := zk.1 (hR.ev (x := .tmp x) (by simpa [ev] using hx)); exact this) hrun
  have hyields : Yields P l.toArray oi u a := .inl ⟨by simp [Region.wanted, hgd.1], hall⟩
  have hselA : ∀ (j : Nat) (o : Oper) cs b, l.toArray[j]? = some o → o.op ≠ .select cs b := fun j o cs b hj hs => by
   have := (List.all_eq_true.1 hsel) o (by simp at hj; exact List.mem_of_getElem? hj)
   simp [isSelect, hs] at this
  rw [show fuel + (i :: F).length = fuel + F.length + 1 by simp; omega]
  refine wpAny_first (i := i) (oi := oi) (v := u) (by simpa using f.at_) hselA (fun c a w h => h.elim (fun ⟨bs', s', hq, _⟩ => absurd hq (hQ c s')) (fun h => (by cases h.1))) (fuel + F.length) listed a w (fun j oj hj hji hjl hw => ?_) hready hyields ?_
  ·simp only [List.getElem?_toArray] at hj
   have hjlt := (List.getElem?_eq_some_iff.1 hj).1
   rw [zca _ _ (by omega)] at hjl
   exact f.apart j oj hj hji (fun h => by rw [(hdn j hjlt).2 h] at hjl; cases hjl) (fun e he hb => hw e (by simpa using he) hb)
  ·have hget : ∀ k, (listed.setIfInBounds i true).getD k false = if k = i then true else listed.getD k false := fun k => zal _ _ _ _ (by omega)
   refine wpAny_firsts hQ hsel hfst hpn ok hy F (i :: dn) hF' (fun j hj => hI j (by simp [hj])) (listed.setIfInBounds i true) _ w fuel (by simpa using hsz) (fun j hj => ?_) ?_ ?_ (fun l' a' q1 q2 q3 q4 => hk l' a' q1 (fun j hj => by rw [q2 j hj]; simp [or_assoc, or_left_comm]) q3 q4)
   ·rw [hget]; split
    ·rename_i e; simp [e]
    ·rename_i e; rw [hdn j hj]; simp [e]
   ·intro j hj hjl i' hi'
    rw [hget] at hjl ⊢
    split
    ·rfl
    ·split at hjl <;> rename_i hji
     ·subst hji; exact hbef i' hi'
     ·exact hcl j hj hjl i' hi'
   ·have hput := hR.put (Fr.refl _ _) oi.dst hdst hu
    rw [St.put_eq] at hput
    refine hput.weaken fun t v hv => ?_
    rw [← hv, TL_put ok hfst hsz hcl hpi hil hbef t, ← hoi]
inductive Ints (l : List Oper) (T : List (Nat × V)) : List Nat → Prop
 | nil : Ints l T []
 | move {i : Nat} {F : List Nat} {o : Oper} {x : Operand} : l[i]? = some o → o.op = .move x → Ints l T F → Ints l T (i :: F)
 | ints {i : Nat} {F : List Nat} {o : Oper} {op : BinOp} {t u : TypeId} {x y : Tmp} {a b : Int} : l[i]? = some o → o.op = .binOp op t (.tmp x) (.tmp y) u → look x T = some (.d (.int a)) → look y T = some (.d (.int b)) → Ints l T F → Ints l T (i :: F)
theorem Ints.all {l : List Oper} {T T1 : List (Nat × V)} {n : Nat} (hw : Wk n T1 T) : ∀ {F : List Nat}, Ints l T F → ∀ i ∈ F, ∀ o, l[i]? = some o → IntsAt o T1
 | _, .nil, i, hi, _, _ => by simp at hi
 | _, .move h1 h2 h3, i, hi, o, ho => by
  rcases List.mem_cons.1 hi with rfl | hi
  ·rw [h1] at ho; cases ho; simp [IntsAt, h2]
  ·exact h3.all hw i hi o ho
 | _, .ints h1 h2 h3 h4 h5, i, hi, o, ho => by
  rcases List.mem_cons.1 hi with rfl | hi
  ·rw [h1] at ho; cases ho
   simp only [IntsAt, h2]
   exact ⟨_, _, (hw _ _ h3).resolve_right (fun h => by cases h.1), (hw _ _ h4).resolve_right (fun h => by cases h.1)⟩
  ·exact h5.all hw i hi o ho
theorem Tri.drawF {P : Program} {C : Ctx} {Q : Exit → St → Prop} {s : St} {id : Nat} {l : List Oper} (n : Nat) (F : List Nat) (hm : P.follows .mixedOrders = true) (hok : regOKF l n F = true) (hf : (firstsOK l n F [] && l.all (fun o => !isSelect o) && (l.take n).all (fun o => !zai o) && decide (n ≤ l.length) && allocOK (l.take n) && storesOK (l.take n) && ((List.range n).filter (fun i => !F.contains i)).length + F.length == n) = true)
  (h : TriQ P C.n l.toArray s.H (l.take n) [] s.T (fun _ T => Ints l T F ∧ TriL P C l.toArray (l.drop n) (zci Q) ⟨T, s.H⟩)) : Tri P C (.region id l.toArray true) Q s := by
 simp only [Bool.and_eq_true, decide_eq_true_eq, beq_iff_eq] at hf
 obtain ⟨⟨⟨⟨⟨⟨hf1, hf2⟩, hf3⟩, hn⟩, ha1⟩, ha2⟩, hcount⟩ := hf
 refine Tri.mono (Q := zci Q) ⟨fun bs a w hR => ?_⟩ (fun e s hq => by cases e <;> first | exact hq.elim | exact hq)
 obtain ⟨M, ok⟩ := regOK_spec hok
 obtain ⟨qs, hq1, hq2, T', ⟨hI, hK⟩, hq3⟩ := TriQ0.path (T0 := s.T) (l.take n) [] s.T [] (fun _ => rfl) h.run
 simp only [List.nil_append, List.length_nil, Nat.zero_add] at hq2 hq3 hK hI
 have hlen : qs.length = n := by have := congrArg List.length hq1; simp at this; omega
 have hl : l = qs.map (·.1) ++ l.drop n := by rw [hq1, List.take_append_drop]
 have hfst : ∀ (i : Nat) (o : Oper) (v : V), qs[i]? = some (o, v) → l[i]? = some o := fun i o v hi => by
  rw [hl, List.getElem?_append_left (by simpa using (List.getElem?_eq_some_iff.1 hi).1)]; simp [hi]
 have hnos : ∀ o ∈ qs.map (·.1), zai o = false := fun o ho => by rw [hq1] at ho; simpa using (List.all_eq_true.1 hf3) o ho
 have hevs : evsOf qs = [] := by
  unfold evsOf
  rw [List.flatMap_eq_nil_iff]
  intro p hp
  exact evOf_plain (hnos p.1 (List.mem_map.2 ⟨p, hp, rfl⟩))
 have hal : allocOK (qs.map (·.1)) = true ∧ storesOK (qs.map (·.1)) = true := by rw [hq1]; exact ⟨ha1, ha2⟩
 have hf0 : ∀ i, (Array.replicate l.toArray.size false).getD i false = false := fun i => by
  simp only [Array.getD_eq_getD_getElem?, Array.getElem?_replicate]; split <;> rfl
 refine wp_region_any hm ?_
 have hend : TriL P C l.toArray (l.drop n) (zci Q) ⟨ptrsOf (allocs (evsOf qs)) s.H.length (TL s.T qs (fun _ => true) qs.length), s.H ++ boxesOf P (evsOf qs)⟩ := by
  have e : boxesOf P (evsOf qs) = [] := by rw [hevs]; rfl
  rw [e, hevs, List.append_nil]
  exact TriL.wk hq3 hK
 have hFn : ∀ i ∈ F, i < n := by
  have : ∀ (F dn : List Nat), firstsOK l n F dn = true → ∀ i ∈ F, i < n := by
   intro F
   induction F with
   | nil => intro dn _; simp
   | cons i F ih =>
    intro dn h j hj
    obtain ⟨⟨oi, f⟩, h'⟩ := firstsOK_cons h
    rcases List.mem_cons.1 hj with rfl | hj
    ·exact f.lt
    ·exact ih _ h' j hj
  exact this F [] hf1
 have hR2 : R C bs ⟨TL s.T qs (fun k => (Array.replicate l.toArray.size false).getD k false) qs.length, s.H⟩ a { w with drawn := w.drawn + 1 } := by
  refine hR.drew.weaken fun t v hv => ?_
  rw [← hv]
  have : TL s.T qs (fun k => (Array.replicate l.toArray.size false).getD k false) qs.length = TL s.T qs (fun k => (Array.replicate l.toArray.size false).getD k false) 0 := by
   have := TL_beyond (T := s.T) (ps := qs) (p := fun k => (Array.replicate l.toArray.size false).getD k false) (m := 0) (fun i _ => hf0 i) qs.length
   simpa using this
  rw [this]; rfl
 have key := wpAny_firsts (P := P) (C := C) (bs := bs) (H := s.H) (T0 := s.T) (Q := zci Q) (ps := qs) (n := n) (fun c s h => h) hf2 hfst hlen ok hq2 F [] hf1 (hI.all hq3) (Array.replicate l.toArray.size false) a { w with drawn := w.drawn + 1 } (l.length - F.length) (by simp)
  (fun j _ => by rw [hf0 j]; simp) (fun j _ hj => by rw [hf0 j] at hj; cases hj) hR2 (fun listed' a' q1 q2 q3 q4 => ?_)
 ·have e : l.toArray.size = l.length - F.length + F.length := by simp; omega
  have key' : wpAny P .any l.toArray (QR C (zci Q)) l.toArray.size (Array.replicate l.toArray.size false) a { w with drawn := w.drawn + 1 } := by
   conv => arg 5; rw [e]
   exact key
  exact key'
 ·have hq2' : ∀ j, j < l.length → (listed'.getD j false = true ↔ j ∈ F) := fun j hj => by rw [q2 j hj]; simp
  have ok' : RegOK l qs.length M F := by rw [hlen]; exact ok
  refine wpAny_of_path (P := P) (C := C) (bs := bs) (H := s.H) (T0 := s.T) (Q := zci Q) (ps := qs) (l2 := l.drop n) (M := M) (L0 := F) (l := l) hl ok' (fun i o v hi => hq2 i o v hi) hal.1 hal.2 hend _ listed' a' _ q1
   (fun i hi => (hq2' i (by have := hFn i hi; omega)).2 hi) (fun i hi => ?_) q3 ?_ ?_
  ·by_cases hil : i < l.length
   ·cases hb : listed'.getD i false with
    | false => rfl
    | true => have := hFn i ((hq2' i hil).1 hb); omega
   ·simp [Array.getD_eq_getD_getElem?, show listed'[i]? = none by simp; omega]
  ·have hcnt : ((List.range qs.length).filter fun i => !listed'.getD i false).length = qs.length - F.length := by
    have e1 : ((List.range qs.length).filter fun i => !listed'.getD i false) = (List.range qs.length).filter (fun i => !F.contains i) := by
     refine List.filter_congr fun i hi => ?_
     have hi' := List.mem_range.1 hi
     have := hq2' i (by omega)
     cases hb : listed'.getD i false
     ·have hno : i ∉ F := fun h => by rw [this.2 h] at hb; cases hb
      simp [hno]
     ·have hyes := this.1 hb; simp [hyes]
    rw [e1]
    rw [hlen]; omega
   rw [hcnt, hlen, List.length_drop]
   omega
  ·refine ⟨fun _ => none, ?_, ⟨fun i b h => (by cases h), fun i o v t r h1 h2 _ _ => ?_, fun i j b h => (by cases h), fun i b h => (by cases h)⟩, fun i b h => (by cases h)⟩
   ·exact q4.own_more (A := (C.plus fun _ => none).A0) (Fr.refl ze _) (fun b _ hb => hb.elim (fun h => h) (fun ⟨i, h⟩ => (by cases h))) (fun b hb => hb.elim (q4.own.foreign b) (fun ⟨i, h⟩ => (by cases h)))
   ·have := hnos o (List.mem_map.2 ⟨(o, v), List.mem_of_getElem? h1, rfl⟩)
    simp [zai, h2] at this
end Go.Proofs.YtcagdmegicijlaaGreatDoor
namespace Go.Proofs.YtcagdmegicijlaaGreatDoor
open Go Go.RowKit
variable [Globs]
structure GMap (κ β : Type) where
 es : List (Nat × κ × β)
 clock : Nat
def GMap.empty {κ β : Type} : GMap κ β := ⟨[], 0⟩
def findK {κ β : Type} [DecidableEq κ] (k : κ) : List (Nat × κ × β) → Option (Nat × β)
 | [] => none
 | e :: es => if k = e.2.1 then some (0, e.2.2) else (findK k es).map fun p => (p.1 + 1, p.2)
def GMap.get? {κ β : Type} [DecidableEq κ] (m : GMap κ β) (k : κ) : Option β := (findK k m.es).map (·.2)
def GMap.put {κ β : Type} [DecidableEq κ] (m : GMap κ β) (k : κ) (v : β) : GMap κ β := match findK k m.es with
 | some (i, _) => ⟨m.es.modify i (fun e => (e.1, e.2.1, v)), m.clock⟩
 | none => ⟨m.es ++ [(m.clock, k, v)], m.clock + 1⟩
def GMap.del {κ β : Type} [DecidableEq κ] (m : GMap κ β) (k : κ) : GMap κ β := match findK k m.es with
 | some (i, _) => ⟨m.es.eraseIdx i, m.clock⟩
 | none => m
def GMap.blk {κ β : Type} (ke : κ → Value) (ve : β → D) (m : GMap κ β) : Blk := .mp (m.es.map (·.1)) (m.es.map fun e => ke e.2.1) (m.es.map fun e => ve e.2.2) m.clock
def GMap.dat {κ β : Type} (ke : κ → Value) (ve : β → D) (m : GMap κ β) : D := .mp (m.es.map fun e => ke e.2.1) (m.es.map fun e => ve e.2.2)
structure KeyT (P : Program) (kt : TypeId) {κ : Type} [DecidableEq κ] (ke : κ → Value) : Prop where
 check : ∀ (b : Bool) (k : κ) (w : World), (Instr.checkKey b 10000 kt (ke k)).run P w = .ok () w
 find : ∀ {β : Type} (k : κ) (l : List (Nat × κ × β)) (es : List MapEntry) (w : World), es.map (·.key) = l.map (fun e => ke e.2.1) → (Instr.findKey kt (ke k) es).run P w = .ok ((findK k l).bind fun p => (es[p.1]?).map fun e => (p.1, e.val)) w
 bits : ∀ k : κ, Instr.sameBits 10000 (ke k) (ke k) = true
theorem findNow_shift {d : TypeDesc} {k : Value} : ∀ (es : List MapEntry) (i : Nat), Instr.findNow d k es i = (Instr.findNow d k es 0).map (fun o => o.map fun p => (p.1 + i, p.2))
 | [], i => by simp [Instr.findNow]
 | e :: es, i => by
  simp only [Instr.findNow]
  split
  ·simp
  ·rw [findNow_shift es (i + 1), findNow_shift es (0 + 1)]
   cases Instr.findNow d k es 0 with
   | none => rfl
   | some o => cases o <;> simp; omega
  ·rfl
theorem findNow_keys {κ β : Type} [DecidableEq κ] {d : TypeDesc} {ke : κ → Value} (hs : ∀ a b, Instr.sameNow d (ke a) (ke b) = some (decide (a = b))) (k : κ) : ∀ (l : List (Nat × κ × β)) (es : List MapEntry), es.map (·.key) = l.map (fun e => ke e.2.1) →
  Instr.findNow d (ke k) es 0 = some ((findK k l).bind fun p => (es[p.1]?).map fun e => (p.1, e.val))
 | [], es, h => by
  have : es = [] := by simpa using h
  subst this; simp [Instr.findNow, findK]
 | x :: l, [], h => by simp at h
 | x :: l, e :: es, h => by
  simp only [List.map_cons, List.cons.injEq] at h
  simp only [Instr.findNow, h.1, hs, findK]
  by_cases hk : k = x.2.1
  ·simp [hk]
  ·simp only [hk, decide_false, if_false]
   rw [findNow_shift, findNow_keys hs k l es h.2]
   cases findK k l with
   | none => simp
   | some p => simp; rfl
theorem KeyT.str {P : Program} {kt : TypeId} (h : P.underlying kt = some .string) : KeyT P kt (fun l : List UInt8 => Value.string ⟨l.toArray⟩) where
 check b k w := MapKept.run_checkKey h (k := .string ⟨k.toArray⟩) trivial b 9999
 find k l es w he := MapKept.run_findKey h (findNow_keys (d := .string) (ke := fun l : List UInt8 => Value.string ⟨l.toArray⟩) (fun a b => by simp only [Instr.sameNow]; rw [beq_toListBytes, str_beq]) k l es he)
 bits k := by simp only [Instr.sameBits]; rw [beq_toListBytes, str_beq]; simp
theorem KeyT.int {P : Program} {kt : TypeId} (h : P.underlying kt = some (.int .i64)) : KeyT P kt (fun n : Int => Value.int .i64 n) where
 check b k w := MapKept.run_checkKey h (k := .int .i64 k) rfl b 9999
 find k l es w he := MapKept.run_findKey h (findNow_keys (d := .int .i64) (ke := fun n : Int => Value.int .i64 n) (fun a b => by simp only [Instr.sameNow, if_true]; rfl) k l es he)
 bits k := by simp [Instr.sameBits]
theorem R.adoptK {C : Ctx} {A : Nat → Prop} {bs : List (Option Nat)} {s : St} {a : Act} {w : World} {b : Nat} {o : Obj} (k0 : Blk) (h : R { C with A0 := fun c => A c ∨ c = b } bs s a w) (hb : w.heap[b]? = some o) (hA : ¬ A b)
  (hlo : C.w0.heap.size ≤ b) (hk0 : k0.rep (Own A (bs ++ [some b])) w (bs ++ [some b]) (s.H ++ [k0]) s.H.length) : R { C with A0 := A } (bs ++ [some b]) ⟨s.T, s.H ++ [k0]⟩ a w := by
 have hbl := (Array.getElem?_eq_some_iff.1 hb).1
 have hnb : some b ∉ bs := fun hc => h.own.not b hc (.inr rfl)
 have hsub : ∀ c, c < w.heap.size → Own A (bs ++ [some b]) c → Own (fun c => A c ∨ c = b) bs c := fun c _ hc => by
  rcases hc with hc | hc
  ·exact .inl (.inl hc)
  ·rcases List.mem_append.1 hc with hc | hc
   ·exact .inr hc
   ·simp only [List.mem_singleton, Option.some.injEq] at hc; exact .inl (.inr hc)
 have hlen := h.len
 refine ⟨⟨fun i j c hi hj => ?_, fun c hc => ?_, fun c hc => ?_, fun c hc => h.own.foreign c (.inl hc), h.own.glob.fr (Fr.refl ze w) (fun _ x => x.elim) hsub⟩, by simp [hlen], fun i k hk => ?_, fun u v hv => ⟨(h.tmp u v hv).1, V.rep_snoc hlen hsub v _ (h.tmp u v hv).2⟩, h.defers, h.size, h.fr, fun c hc => ?_, fun p hp => ⟨(h.gh p hp).1, V.rep_snoc hlen hsub p.1 _ (h.gh p hp).2⟩⟩
 ·rcases Nat.lt_or_ge i bs.length with hib | hib
  ·rw [List.getElem?_append_left hib] at hi
   rcases Nat.lt_or_ge j bs.length with hjb | hjb
   ·rw [List.getElem?_append_left hjb] at hj; exact h.own.apart i j c hi hj
   ·rw [List.getElem?_append_right hjb] at hj
    have : j - bs.length = 0 := by have := (List.getElem?_eq_some_iff.1 hj).1; simp at this; omega
    rw [this] at hj; simp at hj; subst hj
    exact absurd (List.mem_of_getElem? hi) hnb
  ·rw [List.getElem?_append_right hib] at hi
   have e1 : i - bs.length = 0 := by have := (List.getElem?_eq_some_iff.1 hi).1; simp at this; omega
   rw [e1] at hi; simp at hi; subst hi
   rcases Nat.lt_or_ge j bs.length with hjb | hjb
   ·rw [List.getElem?_append_left hjb] at hj; exact absurd (List.mem_of_getElem? hj) hnb
   ·rw [List.getElem?_append_right hjb] at hj
    have := (List.getElem?_eq_some_iff.1 hj).1; simp at this; omega
 ·rcases List.mem_append.1 hc with hc | hc
  ·exact fun hA' => h.own.not c hc (.inl hA')
  ·simp only [List.mem_singleton, Option.some.injEq] at hc; subst hc; exact hA
 ·rcases List.mem_append.1 hc with hc | hc
  ·exact h.own.lt c hc
  ·simp only [List.mem_singleton, Option.some.injEq] at hc; subst hc; exact hbl
 ·rcases Nat.lt_or_ge i s.H.length with hi | hi
  ·simp only at hk
   rw [List.getElem?_append_left hi] at hk
   exact Blk.rep_snoc hlen hsub i k (h.blk i k hk)
  ·simp only at hk
   rw [List.getElem?_append_right hi] at hk
   have e1 : i - s.H.length = 0 := by have := (List.getElem?_eq_some_iff.1 hk).1; simp at this; omega
   have e2 : i = s.H.length := by omega
   rw [e1] at hk; simp at hk; subst hk; subst e2
   exact hk0
 ·rcases List.mem_append.1 hc with hc | hc
  ·exact h.new c hc
  ·simp only [List.mem_singleton, Option.some.injEq] at hc; subst hc; exact .inr hlo
theorem R.newObj {C : Ctx} {bs : List (Option Nat)} {T : List (Nat × V)} {H : List Blk} {a : Act} {w : World} (h : R C bs ⟨T, H⟩ a w) (o : Obj) (k : Blk) (hk : k.rep (Own C.A0 (bs ++ [some w.heap.size])) (w.alloc o) (bs ++ [some w.heap.size]) (H ++ [k]) H.length) :
  R C (bs ++ [some w.heap.size]) ⟨T, H ++ [k]⟩ a (w.alloc o) := by
 have hfr : Fr ze w (w.alloc o) := ⟨rfl, rfl, rfl, by simp, fun b hb _ => Below.heap_alloc w _ b hb, Nat.le_refl _⟩
 have hA0 : ¬ C.A0 w.heap.size := fun h' => absurd (h.own.foreign _ h') (by omega)
 have h1 : R { C with A0 := fun c => C.A0 c ∨ c = w.heap.size } bs ⟨T, H⟩ a (w.alloc o) :=
  h.own_more (A := fun c => C.A0 c ∨ c = w.heap.size) hfr (fun b hb hb' => hb'.elim id (fun e => by omega)) (fun b hb => by
   rcases hb with hb | rfl
   ·exact Nat.lt_of_lt_of_le (h.own.foreign b hb) hfr.size
   ·simp)
 exact R.adoptK (C := C) k h1 (heap_alloc_new w _) hA0 h.fr.size hk
section
variable {P : Program} {C : Ctx} {ops : Array Oper} {o : Oper} {rest : List Oper} {Q : Exit → St → Prop} {T : List (Nat × V)} {H : List Blk} {κ β : Type} [DecidableEq κ] {ke : κ → Value} {ve : β → D}
theorem TriL.makeMap {t : TypeId} {d : Nat} (ke : κ → Value) (ve : β → D) (hg : o.guard = none) (ho : o.op = .makeMap t none) (hd : o.dst = some d) (hdn : Nat.blt d C.n = true)
  (kk : TriL P C ops rest Q ⟨(d, .mp H.length) :: T, H ++ [GMap.blk ke ve GMap.empty]⟩) : TriL P C ops (o :: rest) Q ⟨T, H⟩ := by
 refine TriL.step hg (fun bs a w hR => ?_) kk
 have hrun : (execOp a.eval o).run P w = .ok (.value (.map (some w.heap.size))) (w.alloc (.map #[] 0)) := by
  simp only [execOp, ho, Option.map_none, Sem.run_bind, run_makeMap, Result.andThen_ok, Sem.run_pure]
 refine ⟨_, _, bs ++ [some w.heap.size], hrun, .inl ⟨_, rfl, ?_⟩⟩
 have hlen := hR.len
 simp only at hlen
 have h2 := hR.newObj (.map #[] 0) (GMap.blk ke ve GMap.empty) (by
  simp only [GMap.blk, GMap.empty, Blk.rep]
  exact ⟨w.heap.size, #[], by rw [← hlen]; simp, heap_alloc_new w _, by simp, by simp, by simp [D.reps]⟩)
 have := h2.put (Fr.refl _ _) (some d) (by simpa [dstOK] using hdn) (v := .mp H.length) (u := .map (some w.heap.size)) (by
  simp only [V.rep]
  rw [List.getElem?_append_right (Nat.le_refl _)]
  simp only [Nat.sub_self, List.getElem?_cons_zero, GMap.blk]
  exact ⟨w.heap.size, by rw [← hlen]; simp, rfl⟩)
 rw [hd]
 exact this
theorem findK_some : ∀ {l : List (Nat × κ × β)} {k : κ} {i : Nat} {v : β}, findK k l = some (i, v) → ∃ b, l[i]? = some (b, k, v)
 | [], _, _, _, h => by simp [findK] at h
 | e :: l, k, i, v, h => by
  simp only [findK] at h
  split at h
  ·rename_i hk
   simp only [Option.some.injEq, Prod.mk.injEq] at h
   obtain ⟨rfl, rfl⟩ := h
   exact ⟨e.1, by simp [hk]⟩
  ·cases hf : findK k l with
   | none => simp [hf] at h
   | some p =>
    obtain ⟨j, u⟩ := p
    simp only [hf, Option.map_some, Option.some.injEq, Prod.mk.injEq] at h
    obtain ⟨rfl, rfl⟩ := h
    obtain ⟨b, hb⟩ := findK_some hf
    exact ⟨b, by simpa using hb⟩
theorem reps_set {A : Nat → Prop} {w : World} {d : D} {v : Value} (hv : d.rep A w v) : ∀ {ds : List D} {vs : List Value} (i : Nat), D.reps A w ds vs → D.reps A w (ds.set i d) (vs.set i v)
 | [], vs, i, h => by simp only [D.reps] at h; subst h; simp [D.reps]
 | x :: ds, vs, 0, h => by
  simp only [D.reps] at h
  obtain ⟨u, us, rfl, h1, h2⟩ := h
  simp only [List.set_cons_zero, D.reps]
  exact ⟨v, us, rfl, hv, h2⟩
 | x :: ds, vs, i + 1, h => by
  simp only [D.reps] at h
  obtain ⟨u, us, rfl, h1, h2⟩ := h
  simp only [List.set_cons_succ, D.reps]
  exact ⟨u, _, rfl, h1, reps_set hv i h2⟩
theorem reps_erase {A : Nat → Prop} {w : World} : ∀ {ds : List D} {vs : List Value} (i : Nat), D.reps A w ds vs → D.reps A w (ds.eraseIdx i) (vs.eraseIdx i)
 | [], vs, i, h => by simp only [D.reps] at h; subst h; simp [D.reps]
 | x :: ds, vs, 0, h => by
  simp only [D.reps] at h
  obtain ⟨u, us, rfl, h1, h2⟩ := h
  simpa using h2
 | x :: ds, vs, i + 1, h => by
  simp only [D.reps] at h
  obtain ⟨u, us, rfl, h1, h2⟩ := h
  simp only [List.eraseIdx_cons_succ, D.reps]
  exact ⟨u, _, rfl, h1, reps_erase i h2⟩
theorem R.mapTurn {bs : List (Option Nat)} {a : Act} {w : World} {i b : Nat} {m m' : GMap κ β} (h : R C bs ⟨T, H⟩ a w) (hi : H[i]? = some (GMap.blk ke ve m)) (hb : bs[i]? = some (some b)) {es es' : Array MapEntry} {cl : Nat} (hh : w.heap[b]? = some (.map es cl))
  (h1 : es'.toList.map (·.born) = m'.es.map (·.1)) (h2 : es'.toList.map (·.key) = m'.es.map fun e => ke e.2.1) (h3 : D.reps (Own C.A0 bs) w (m'.es.map fun e => ve e.2.2) (es'.toList.map (·.val))) :
  R C bs ⟨T, H.set i (GMap.blk ke ve m')⟩ a { w with heap := w.heap.setIfInBounds b (.map es' m'.clock) } := by
 have hfr : Fr (fun c => some b = some c) w { w with heap := w.heap.setIfInBounds b (.map es' m'.clock) } :=
  ⟨rfl, rfl, rfl, by simp, fun c _ hno => by simp [Array.getElem?_setIfInBounds_ne (fun e : b = c => hno (by rw [e]))], Nat.le_refl _⟩
 have hset : bs.set i (some b) = bs := by
  refine List.ext_getElem? fun q => ?_
  by_cases hij : i = q
  ·subst hij; rw [List.getElem?_set_self (List.getElem?_eq_some_iff.1 hb).1, hb]
  ·rw [List.getElem?_set_ne hij]
 have hWA : ∀ c, some b = some c → Own C.A0 bs c := fun c hc => .inr (by rw [← hc]; exact List.mem_of_getElem? hb)
 have hlt : b < w.heap.size := (Array.getElem?_eq_some_iff.1 hh).1
 have hupd := R.upd (y := GMap.blk ke ve m') (c' := some b) h hi hb (by simp [GMap.blk, Compat]) hfr (.inl rfl) (by
  simp only [GMap.blk, Blk.rep]
  refine ⟨b, es', by rw [List.getElem?_set_self (List.getElem?_eq_some_iff.1 hb).1], by simp [hlt], h1, h2, ?_⟩
  rw [hset]
  exact D.reps_fr hfr hWA (fun c _ hc => hc) _ _ h3)
 rw [hset] at hupd
 exact hupd
theorem R.mapAt {bs : List (Option Nat)} {a : Act} {w : World} {i : Nat} {m : GMap κ β} {v : Value} (h : R C bs ⟨T, H⟩ a w) (hi : H[i]? = some (GMap.blk ke ve m)) (hv : V.rep (Own C.A0 bs) w bs H (.mp i) v) :
  ∃ b es, bs[i]? = some (some b) ∧ v = .map (some b) ∧ w.heap[b]? = some (.map es m.clock) ∧ es.toList.map (·.born) = m.es.map (·.1) ∧ es.toList.map (·.key) = m.es.map (fun e => ke e.2.1) ∧ D.reps (Own C.A0 bs) w (m.es.map fun e => ve e.2.2) (es.toList.map (·.val)) := by
 have hblk := h.blk i _ hi
 simp only [GMap.blk, Blk.rep] at hblk
 obtain ⟨b, es, h1, h2, h3, h4, h5⟩ := hblk
 simp only [V.rep, hi, GMap.blk] at hv
 obtain ⟨b', hb', rfl⟩ := hv
 obtain rfl : b = b' := by rw [h1] at hb'; simpa using hb'
 exact ⟨b, es, h1, rfl, h2, h3, h4, h5⟩
theorem TriL.mapPut {t kt et : TypeId} {x y z : Operand} {i : Nat} {m : GMap κ β} {k : κ} {v : β} (hg : o.guard = none) (ho : o.op = .mapUpdate t x y z) (hd : o.dst = none) (ht : P.underlying t = some (.map kt et)) (hK : KeyT P kt ke)
  (hx : ev T x = some (.mp i)) (hi : H[i]? = some (GMap.blk ke ve m)) (hy : ev T y = some (.d (.val (ke k)))) (hz : ev T z = some (.d (ve v)))
  (kk : TriL P C ops rest Q ⟨T, H.set i (GMap.blk ke ve (m.put k v))⟩) : TriL P C ops (o :: rest) Q ⟨T, H⟩ := by
 refine TriL.step hg (fun bs a w hR => ?_) kk
 obtain ⟨b, es, h1, h2, h3, h4, h5, h6⟩ := hR.mapAt hi (hR.ev hx)
 have e2 := zk.1 (hR.ev hy)
 have e3 := hR.ev hz
 simp only [V.rep] at e3
 have hlen : es.toList.length = m.es.length := by have := congrArg List.length h4; simpa using this
 have hfind := hK.find k m.es es.toList w h5
 cases hf : findK k m.es with
 | none =>
  simp only [hf, Option.bind_none] at hfind
  have hrun : (execOp a.eval o).run P w = .ok .skip { w with heap := w.heap.setIfInBounds b (.map (es.push { key := ke k, val := a.eval z, born := m.clock }) (m.clock + 1)) } := by
   simp only [execOp, ho, h2, e2, Instr.mapUpdate, Sem.run_bind, run_underlying ht, MapKept.run_getObj_map h3, hK.check, hfind, MapKept.run_setObj_map _ h3, Result.andThen_ok, Sem.run_pure]
  have hput : m.put k v = ⟨m.es ++ [(m.clock, k, v)], m.clock + 1⟩ := by simp [GMap.put, hf]
  refine ⟨_, _, bs, hrun, .inr ⟨rfl, ?_⟩⟩
  rw [hd, hput]
  exact R.mapTurn (m' := ⟨m.es ++ [(m.clock, k, v)], m.clock + 1⟩) hR hi h1 h3 (by simp [h4]) (by simp [h5]) (by
   simp only [List.map_append, List.map_cons, List.map_nil, Array.toList_push]
   exact D.reps_append h6 (by simp only [D.reps]; exact ⟨_, [], rfl, e3, rfl⟩))
 | some p =>
  obtain ⟨j, u⟩ := p
  obtain ⟨bj, hj⟩ := findK_some hf
  have hjl : j < es.toList.length := by rw [hlen]; exact (List.getElem?_eq_some_iff.1 hj).1
  have hje : es[j]? = some es[j] := Array.getElem?_eq_getElem (by simpa using hjl)
  have hjk : es[j].key = ke k := by
   have h := congrArg (fun l => l[j]?) h5
   simp only [List.getElem?_map, hj, Array.getElem?_toList, hje, Option.map_some, Option.some.injEq] at h
   exact h
  simp only [hf, Option.bind_some, Array.getElem?_toList, hje, Option.map_some] at hfind
  have hrun : (execOp a.eval o).run P w = .ok .skip { w with heap := w.heap.setIfInBounds b (.map (es.modify j fun e => { e with key := ke k, val := a.eval z }) m.clock) } := by
   simp only [execOp, ho, h2, e2, Instr.mapUpdate, Sem.run_bind, run_underlying ht, MapKept.run_getObj_map h3, hK.check, hfind, Result.andThen_ok, Sem.run_pure, hje, Option.map_some, Option.getD_some, hjk, Instr.keyThatStays, hK.bits, if_true, MapKept.run_setObj_map _ h3]
  have hput : m.put k v = ⟨m.es.modify j (fun e => (e.1, e.2.1, v)), m.clock⟩ := by simp [GMap.put, hf]
  refine ⟨_, _, bs, hrun, .inr ⟨rfl, ?_⟩⟩
  rw [hd, hput]
  have hmod : ∀ {α γ : Type} (l : List α) (f : α → α) (g : α → γ) (n : Nat), (∀ x, l[n]? = some x → g (f x) = g x) → (l.modify n f).map g = l.map g := by
   intro α γ l f g n hfg
   refine List.ext_getElem? fun q => ?_
   simp only [List.getElem?_map, List.getElem?_modify]
   by_cases hq : n = q
   ·subst hq; cases hl : l[n]? with
    | none => simp
    | some x => simp [hfg x hl]
   ·simp [hq]
  have hmods : ∀ {α γ : Type} (l : List α) (f : α → α) (g : α → γ) (n : Nat) (c : γ), (∀ x, l[n]? = some x → g (f x) = c) → (l.modify n f).map g = (l.map g).set n c := by
   intro α γ l f g n c hfg
   refine List.ext_getElem? fun q => ?_
   simp only [List.getElem?_map, List.getElem?_modify, List.getElem?_set, List.length_map]
   by_cases hq : n = q
   ·subst hq; cases hl : l[n]? with
    | none => have := List.getElem?_eq_none_iff.1 hl; simp; omega
    | some x => have := (List.getElem?_eq_some_iff.1 hl).1; simp [hfg x hl, this]
   ·simp [hq]
  exact R.mapTurn (m' := ⟨m.es.modify j (fun e => (e.1, e.2.1, v)), m.clock⟩) hR hi h1 h3
   (by rw [Array.toList_modify]; exact (hmod es.toList (fun e => { e with key := ke k, val := a.eval z }) (·.born) j (fun _ _ => rfl)).trans (h4.trans (hmod m.es (fun e => (e.1, e.2.1, v)) (·.1) j (fun _ _ => rfl)).symm))
   (by rw [Array.toList_modify]; exact (hmod es.toList (fun e => { e with key := ke k, val := a.eval z }) (·.key) j (fun x hx => by rw [Array.getElem?_toList, hje] at hx; cases hx; exact hjk.symm)).trans (h5.trans (hmod m.es (fun e => (e.1, e.2.1, v)) (fun e => ke e.2.1) j (fun _ _ => rfl)).symm))
   (by
    rw [Array.toList_modify, hmods es.toList (fun e => { e with key := ke k, val := a.eval z }) (·.val) j (a.eval z) (fun _ _ => rfl), hmods m.es (fun e => (e.1, e.2.1, v)) (fun e => ve e.2.2) j (ve v) (fun _ _ => rfl)]
    exact reps_set e3 j h6)
theorem TriL.mapDel {t kt et kt' : TypeId} {x y : Operand} {i : Nat} {m : GMap κ β} {k : κ} (hg : o.guard = none) (ho : o.op = .call { callee := .builtin .delete, args := #[x, y], argTypes := #[t, kt'] }) (hd : o.dst = none) (ht : P.underlying t = some (.map kt et)) (hK : KeyT P kt ke)
  (hx : ev T x = some (.mp i)) (hi : H[i]? = some (GMap.blk ke ve m)) (hy : ev T y = some (.d (.val (ke k))))
  (kk : TriL P C ops rest Q ⟨T, H.set i (GMap.blk ke ve (m.del k))⟩) : TriL P C ops (o :: rest) Q ⟨T, H⟩ := by
 refine TriL.step hg (fun bs a w hR => ?_) kk
 obtain ⟨b, es, h1, h2, h3, h4, h5, h6⟩ := hR.mapAt hi (hR.ev hx)
 have e2 := zk.1 (hR.ev hy)
 have hlen : es.toList.length = m.es.length := by have := congrArg List.length h4; simpa using this
 have hfind := hK.find k m.es es.toList w h5
 cases hf : findK k m.es with
 | none =>
  simp only [hf, Option.bind_none] at hfind
  have hrun : (execOp a.eval o).run P w = .ok (.value (.tuple #[])) { w with heap := w.heap.setIfInBounds b (.map es m.clock) } := by
   simp [execOp, ho, resolve, invoke, builtin, Builtin.delete_, h2, e2, run_underlying ht, MapKept.run_getObj_map h3, hK.check, hfind, MapKept.run_setObj_map _ h3]
  have hput : m.del k = m := by simp [GMap.del, hf]
  refine ⟨_, _, bs, hrun, .inl ⟨_, rfl, ?_⟩⟩
  rw [hd, hput]
  exact R.mapTurn (m' := m) hR hi h1 h3 h4 h5 h6
 | some p =>
  obtain ⟨j, u⟩ := p
  obtain ⟨bj, hj⟩ := findK_some hf
  have hjl : j < es.toList.length := by rw [hlen]; exact (List.getElem?_eq_some_iff.1 hj).1
  have hje : es[j]? = some es[j] := Array.getElem?_eq_getElem (by simpa using hjl)
  simp only [hf, Option.bind_some, Array.getElem?_toList, hje, Option.map_some] at hfind
  have hrun : (execOp a.eval o).run P w = .ok (.value (.tuple #[])) { w with heap := w.heap.setIfInBounds b (.map (es.eraseIdxIfInBounds j) m.clock) } := by
   simp [execOp, ho, resolve, invoke, builtin, Builtin.delete_, h2, e2, run_underlying ht, MapKept.run_getObj_map h3, hK.check, hfind, MapKept.run_setObj_map _ h3]
  have hput : m.del k = ⟨m.es.eraseIdx j, m.clock⟩ := by simp [GMap.del, hf]
  have hto : (es.eraseIdxIfInBounds j).toList = es.toList.eraseIdx j := by
   unfold Array.eraseIdxIfInBounds
   rw [dif_pos (by simpa using hjl), Array.toList_eraseIdx]
  have hmap : ∀ {α γ : Type} (l : List α) (g : α → γ), (l.eraseIdx j).map g = (l.map g).eraseIdx j := fun l g => by
   rw [List.eraseIdx_eq_take_drop_succ, List.eraseIdx_eq_take_drop_succ, List.map_append, List.map_take, List.map_drop]
  refine ⟨_, _, bs, hrun, .inl ⟨_, rfl, ?_⟩⟩
  rw [hd, hput]
  exact R.mapTurn (m' := ⟨m.es.eraseIdx j, m.clock⟩) hR hi h1 h3 (by rw [hto, hmap, hmap, h4]) (by rw [hto, hmap, hmap, h5]) (by rw [hto, hmap, hmap]; exact reps_erase j h6)
variable {e : Operand → Option V}
theorem OpV.mapGet {t kt et : TypeId} {x y : Operand} {i : Nat} {m : GMap κ β} {k : κ} {z : β} (ho : o.op = .lookup t x y false) (ht : P.underlying t = some (.map kt et)) (hK : KeyT P kt ke)
  (hx : e x = some (.mp i)) (hi : H[i]? = some (GMap.blk ke ve m)) (hy : e y = some (.d (.val (ke k)))) (hz : ZeroD P et (ve z)) : OpV P o e H (.d (ve ((m.get? k).getD z))) :=
 .of_same fun A0 bs w f mm hf => by
  have h0 := hf x (by simp [ho, Op.operands]) _ hx
  have e2 := zk.1 (hf y (by simp [ho, Op.operands]) _ hy)
  have hblk := mm.blk i _ hi
  simp only [GMap.blk, Blk.rep] at hblk
  obtain ⟨b, es, h1, h3, h4, h5, h6⟩ := hblk
  simp only [V.rep, hi, GMap.blk] at h0
  obtain ⟨b', hb', h2⟩ := h0
  obtain rfl : b = b' := by rw [h1] at hb'; simpa using hb'
  have hlen : es.toList.length = m.es.length := by have := congrArg List.length h4; simpa using this
  have hfind := hK.find k m.es es.toList w h5
  obtain ⟨zv, hz1, hz2⟩ := hz.out
  have hzr : (zeroValue et).run P w = .ok zv w := by
   unfold zbl at hz1
   cases hi : P.info? et with
   | none => simp [hi] at hz1
   | some inf => simp only [hi] at hz1; simp [zeroValue, typeInfo, hi, hz1]
  cases hf : findK k m.es with
  | none =>
   simp only [hf, Option.bind_none] at hfind
   refine ⟨zv, by simp [execOp, ho, h2, e2, Instr.lookup, run_underlying ht, MapKept.run_getObj_map h3, hK.check, hfind, hzr], ?_⟩
   simp only [V.rep, GMap.get?, hf, Option.map_none, Option.getD_none]
   exact hz2 _ _
  | some p =>
   obtain ⟨j, u⟩ := p
   obtain ⟨bj, hj⟩ := findK_some hf
   have hjl : j < es.toList.length := by rw [hlen]; exact (List.getElem?_eq_some_iff.1 hj).1
   have hje : es[j]? = some es[j] := Array.getElem?_eq_getElem (by simpa using hjl)
   simp only [hf, Option.bind_some, Array.getElem?_toList, hje, Option.map_some] at hfind
   refine ⟨es[j].val, by simp [execOp, ho, h2, e2, Instr.lookup, run_underlying ht, MapKept.run_getObj_map h3, hK.check, hfind], ?_⟩
   simp only [V.rep, GMap.get?, hf, Option.map_some, Option.getD_some]
   obtain ⟨v, g1, g2⟩ := D.reps_get h6 j (ve u) (by simp [List.getElem?_map, hj])
   simp only [List.getElem?_map, Array.getElem?_toList, hje, Option.map_some, Option.some.injEq] at g1
   rw [g1]; exact g2
theorem OpV.mapGetD {t kt et : TypeId} {x y : Operand} {m : GMap κ β} {k : κ} {z : β} (ho : o.op = .lookup t x y false) (ht : P.underlying t = some (.map kt et)) (hK : KeyT P kt ke)
  (hx : e x = some (.d (GMap.dat ke ve m))) (hy : e y = some (.d (.val (ke k)))) (hz : ZeroD P et (ve z)) : OpV P o e H (.d (ve ((m.get? k).getD z))) :=
 .of_same fun A0 bs w f mm hf => by
  have h0 := hf x (by simp [ho, Op.operands]) _ hx
  have e2 := zk.1 (hf y (by simp [ho, Op.operands]) _ hy)
  simp only [V.rep, GMap.dat, D.rep] at h0
  obtain ⟨b, es, cl, h2, _, _, h3, h5, h6⟩ := h0
  have hlen : es.toList.length = m.es.length := by have := congrArg List.length h5; simpa using this
  have hfind := hK.find k m.es es.toList w h5
  obtain ⟨zv, hz1, hz2⟩ := hz.out
  have hzr : (zeroValue et).run P w = .ok zv w := by
   unfold zbl at hz1
   cases hi : P.info? et with
   | none => simp [hi] at hz1
   | some inf => simp only [hi] at hz1; simp [zeroValue, typeInfo, hi, hz1]
  cases hf : findK k m.es with
  | none =>
   simp only [hf, Option.bind_none] at hfind
   refine ⟨zv, by simp [execOp, ho, h2, e2, Instr.lookup, run_underlying ht, MapKept.run_getObj_map h3, hK.check, hfind, hzr], ?_⟩
   simp only [V.rep, GMap.get?, hf, Option.map_none, Option.getD_none]
   exact hz2 _ _
  | some p =>
   obtain ⟨j, u⟩ := p
   obtain ⟨bj, hj⟩ := findK_some hf
   have hjl : j < es.toList.length := by rw [hlen]; exact (List.getElem?_eq_some_iff.1 hj).1
   have hje : es[j]? = some es[j] := Array.getElem?_eq_getElem (by simpa using hjl)
   simp only [hf, Option.bind_some, Array.getElem?_toList, hje, Option.map_some] at hfind
   refine ⟨es[j].val, by simp [execOp, ho, h2, e2, Instr.lookup, run_underlying ht, MapKept.run_getObj_map h3, hK.check, hfind], ?_⟩
   simp only [V.rep, GMap.get?, hf, Option.map_some, Option.getD_some]
   obtain ⟨v, g1, g2⟩ := D.reps_get h6 j (ve u) (by simp [List.getElem?_map, hj])
   simp only [List.getElem?_map, Array.getElem?_toList, hje, Option.map_some, Option.some.injEq] at g1
   rw [g1]; exact g2
theorem OpV.mapLen {t kt et : TypeId} {x : Operand} {i : Nat} {m : GMap κ β} (ho : o.op = .call { callee := .builtin .len, args := #[x], argTypes := #[t] }) (ht : P.underlying t = some (.map kt et)) (hx : e x = some (.mp i)) (hi : H[i]? = some (GMap.blk ke ve m)) : OpV P o e H (.d (.int (m.es.length : Int))) :=
 .of_same fun A0 bs w f mm hf => by
  have h0 := hf x (by simp [ho, Op.operands, Call.operands]) _ hx
  have hblk := mm.blk i _ hi
  simp only [GMap.blk, Blk.rep] at hblk
  obtain ⟨b, es, h1, h3, h4, h5, h6⟩ := hblk
  simp only [V.rep, hi, GMap.blk] at h0
  obtain ⟨b', hb', h2⟩ := h0
  obtain rfl : b = b' := by rw [h1] at hb'; simpa using hb'
  have hlen : es.size = m.es.length := by have := congrArg List.length h4; simpa using this
  refine ⟨.int .i64 m.es.length, by simp [execOp, ho, resolve, invoke, builtin, Builtin.len_, h2, run_underlying ht, MapKept.run_getObj_map h3, goInt, hlen], zk.2 rfl⟩
theorem TriL.mapRange {t kt et : TypeId} {x : Operand} {i d : Nat} {m : GMap κ β} (hg : o.guard = none) (ho : o.op = .range t x) (hd : o.dst = some d) (hdn : Nat.blt d C.n = true) (ht : P.underlying t = some (.map kt et)) (hx : ev T x = some (.mp i)) (hi : H[i]? = some (GMap.blk ke ve m))
  (kk : TriL P C ops rest Q ⟨(d, .itp H.length) :: T, H ++ [.it i m.clock [] m.clock]⟩) : TriL P C ops (o :: rest) Q ⟨T, H⟩ := by
 refine TriL.step hg (fun bs a w hR => ?_) kk
 obtain ⟨b, es, h1, h2, h3, _⟩ := hR.mapAt hi (hR.ev hx)
 have hrun : (execOp a.eval o).run P w = .ok (.value (.pointer (some ⟨w.heap.size, 0, none⟩))) (w.alloc (.mapIter (some b) m.clock #[] m.clock)) := by
  simp only [execOp, ho, h2, Sem.run_bind, run_range_map w t kt et b es m.clock ht h3, Result.andThen_ok, Sem.run_pure]
 refine ⟨_, _, bs ++ [some w.heap.size], hrun, .inl ⟨_, rfl, ?_⟩⟩
 have hlen := hR.len
 simp only at hlen
 have hiH := (List.getElem?_eq_some_iff.1 hi).1
 have h2 := hR.newObj (.mapIter (some b) m.clock #[] m.clock) (.it i m.clock [] m.clock) (by
  simp only [Blk.rep]
  rw [List.getElem?_append_left hiH, hi]
  simp only [GMap.blk]
  exact ⟨w.heap.size, b, by rw [← hlen]; simp, by rw [List.getElem?_append_left (by omega)]; exact h1, heap_alloc_new w _⟩)
 have := h2.put (Fr.refl _ _) (some d) (by simpa [dstOK] using hdn) (v := .itp H.length) (u := .pointer (some ⟨w.heap.size, 0, none⟩)) (by
  simp only [V.rep]
  rw [List.getElem?_append_right (Nat.le_refl _)]
  simp only [Nat.sub_self, List.getElem?_cons_zero]
  exact ⟨w.heap.size, by rw [← hlen]; simp, rfl⟩)
 rw [hd]
 exact this
def GMap.left {κ β : Type} (m : GMap κ β) (seen : List Nat) : List (Nat × κ × β) := m.es.filter fun e => !seen.contains e.1
def GMap.old {κ β : Type} (m : GMap κ β) (since last : Nat) : Bool := m.es.all (fun e => decide (e.1 < since)) && decide (since ≤ last)
theorem leftOf_list (es : Array MapEntry) (seen : List Nat) : (leftOf es seen.toArray).toList = es.toList.filter fun e => !seen.contains e.born := by
 simp [leftOf]
theorem TriL.mapNext {x : Operand} {i j d since last : Nat} {seen : List Nat} {m : GMap κ β} (hg : o.guard = none) (ho : o.op = .next x false) (hd : o.dst = some d) (hdn : Nat.blt d C.n = true) (hx : ev T x = some (.itp i)) (hi : H[i]? = some (.it j since seen last)) (hj : H[j]? = some (GMap.blk ke ve m)) (hc : m.old since last = true)
  (hend : m.left seen = [] → TriL P C ops rest Q ⟨(d, .d (.tup [.bool false])) :: T, H⟩)
  (hstep : ∀ e ∈ m.left seen, TriL P C ops rest Q ⟨(d, .d (.tup [.bool true, .val (ke e.2.1), ve e.2.2])) :: T, H.set i (.it j since (seen ++ [e.1]) m.clock)⟩) : TriL P C ops (o :: rest) Q ⟨T, H⟩ := by
 refine ⟨fun bs a w hR => wpList_plain hg fun K hK => ?_⟩
 have h0 := hR.ev hx
 have hbi := hR.blk i _ hi
 have hbj := hR.blk j _ hj
 simp only [GMap.blk, Blk.rep] at hbj
 obtain ⟨bm, es, g1, g2, g3, g4, g5⟩ := hbj
 simp only [Blk.rep, hj, GMap.blk] at hbi
 obtain ⟨b, bm', k1, k2, k3⟩ := hbi
 obtain rfl : bm = bm' := by rw [g1] at k2; simpa using k2
 simp only [V.rep, hi] at h0
 obtain ⟨b', hb', h2⟩ := h0
 obtain rfl : b = b' := by rw [k1] at hb'; simpa using hb'
 simp only [GMap.old, Bool.and_eq_true, List.all_eq_true, decide_eq_true_eq] at hc
 have hlen : es.toList.length = m.es.length := by have := congrArg List.length g3; simpa using this
 have hget : ∀ (q : Nat) (y : MapEntry), es.toList[q]? = some y → ∃ e, m.es[q]? = some e ∧ e.1 = y.born ∧ ke e.2.1 = y.key := by
  intro q y hy
  have hq : q < m.es.length := by rw [← hlen]; exact (List.getElem?_eq_some_iff.1 hy).1
  refine ⟨m.es[q], List.getElem?_eq_getElem hq, ?_, ?_⟩
  ·have h := congrArg (fun l => l[q]?) g3
   simp only [List.getElem?_map, hy, List.getElem?_eq_getElem hq, Option.map_some, Option.some.injEq] at h
   exact h.symm
  ·have h := congrArg (fun l => l[q]?) g4
   simp only [List.getElem?_map, hy, List.getElem?_eq_getElem hq, Option.map_some, Option.some.injEq] at h
   exact h.symm
 have hnext := run_next_at (P := P) w o.type b bm since last seen.toArray es m.clock k3 g2 (fun y hy => by
  obtain ⟨q, hq⟩ := List.getElem?_of_mem hy
  obtain ⟨e, he, h1, _⟩ := hget q y hq
  rw [← h1]; exact hc.1 e (List.mem_of_getElem? he)) hc.2
 unfold Oper.wp
 have hex : (execOp a.eval o).run P w = ((Instr.next (.pointer (some ⟨b, 0, none⟩)) false o.type).run P w).andThen fun v w' => .ok (.value v) w' := by
  simp only [execOp, ho, h2, Sem.run_bind, Sem.run_pure]
 rw [hex]
 rcases hnext with ⟨hz, hrun⟩ | ⟨y, hy, w1, hw1, hrun⟩
 ·rw [hrun]
  simp only [Result.andThen_ok, Oper.upon]
  refine hK _ _ ((hend ?_).run bs _ _ ?_)
  ·have hl0 : (leftOf es seen.toArray).toList = [] := List.eq_nil_of_length_eq_zero (by simpa using hz)
   rw [leftOf_list] at hl0
   rw [GMap.left, List.filter_eq_nil_iff]
   intro e he
   obtain ⟨q, hq⟩ := List.getElem?_of_mem he
   have hq2 : q < es.toList.length := by rw [hlen]; exact (List.getElem?_eq_some_iff.1 hq).1
   obtain ⟨e', he', h1, _⟩ := hget q es.toList[q] (List.getElem?_eq_getElem hq2)
   rw [hq] at he'; cases he'
   have := (List.filter_eq_nil_iff.1 hl0) es.toList[q] (List.getElem_mem hq2)
   rw [← h1] at this; exact this
  ·have := hR.put (Fr.refl _ _) (some d) (by simpa [dstOK] using hdn) (v := .d (.tup [.bool false])) (u := .tuple #[.bool false]) (by simp only [V.rep, D.rep]; exact ⟨#[.bool false], rfl, by simp [D.reps, D.rep]⟩)
   rw [hd]; exact this
 ·rw [hrun]
  simp only [Result.andThen_ok, Oper.upon]
  rw [leftOf_list] at hy
  obtain ⟨hy1, hy2⟩ := List.mem_filter.1 hy
  obtain ⟨q, hq⟩ := List.getElem?_of_mem hy1
  obtain ⟨e, he, h1, h3⟩ := hget q y hq
  have hmem : e ∈ m.left seen := List.mem_filter.2 ⟨List.mem_of_getElem? he, by rw [h1]; exact hy2⟩
  refine hK _ _ ((hstep e hmem).run bs _ _ ?_)
  have hR1 : R C bs ⟨T, H⟩ a w1 := by
   rcases hw1 with rfl | rfl
   ·exact hR
   ·exact hR.drew
  have hheap : w1.heap = w.heap := by rcases hw1 with rfl | rfl <;> rfl
  have hlt : b < w1.heap.size := by rw [hheap]; exact (Array.getElem?_eq_some_iff.1 k3).1
  have hfr : Fr (fun c => some b = some c) w1 (ChangeMaps.setBlock w1 b (.mapIter (some bm) since (seen.toArray.push y.born) m.clock)) :=
   ⟨rfl, rfl, rfl, by simp [ChangeMaps.setBlock], fun c _ hno => by simp [ChangeMaps.setBlock, Array.getElem?_setIfInBounds_ne (fun e : b = c => hno (by rw [e]))], Nat.le_refl _⟩
  have hset : bs.set i (some b) = bs := by
   refine List.ext_getElem? fun q => ?_
   by_cases hij : i = q
   ·subst hij; rw [List.getElem?_set_self (List.getElem?_eq_some_iff.1 k1).1, k1]
   ·rw [List.getElem?_set_ne hij]
  have hij : i ≠ j := fun h => by subst h; rw [hi] at hj; simp [GMap.blk] at hj
  have hupd := R.upd (y := .it j since (seen ++ [e.1]) m.clock) (c' := some b) hR1 hi k1 (by simp [Compat]) hfr (.inl rfl) (by
   simp only [Blk.rep]
   rw [List.getElem?_set_ne hij, hj]
   simp only [GMap.blk]
   exact ⟨b, bm, by rw [hset]; exact k1, by rw [hset]; exact g1, by simp [ChangeMaps.setBlock, hlt, h1]⟩)
  rw [hset] at hupd
  have hval : D.rep (Own C.A0 bs) (ChangeMaps.setBlock w1 b (.mapIter (some bm) since (seen.toArray.push y.born) m.clock)) (ve e.2.2) y.val := by
   obtain ⟨v, f1, f2⟩ := D.reps_get g5 q (ve e.2.2) (by simp [List.getElem?_map, he])
   simp only [List.getElem?_map, hq, Option.map_some, Option.some.injEq] at f1
   rw [f1]
   have hfr0 : Fr ze w w1 := by
    rcases hw1 with rfl | rfl
    ·exact Fr.refl _ _
    ·exact (Fr.refl ze w).drew
   exact D.rep_fr (W := fun c => some b = some c) hfr (fun c hc => .inr (by rw [← hc]; exact List.mem_of_getElem? k1)) (fun _ _ h => h) _ _ (D.rep_ext hfr0 f2)
  have := hupd.put (Fr.refl _ _) (some d) (by simpa [dstOK] using hdn) (v := .d (.tup [.bool true, .val (ke e.2.1), ve e.2.2])) (u := .tuple #[.bool true, y.key, y.val]) (by
   simp only [V.rep, D.rep]
   exact ⟨_, rfl, by simp only [D.reps, D.rep]; exact ⟨_, _, rfl, rfl, _, _, rfl, h3.symm, _, [], rfl, hval, rfl⟩⟩)
  rw [hd]; exact this
theorem OpV.entry {x : Operand} {i j since : Nat} {seen : List Nat} {m : GMap κ β} {en : Nat × κ × β} (ho : o.op = .entry x) (hx : e x = some (.itp i)) (hi : H[i]? = some (.it j since (seen ++ [en.1]) m.clock)) (hj : H[j]? = some (GMap.blk ke ve m)) (he : en ∈ m.es) (hn : (m.es.map (·.1)).Nodup) :
  OpV P o e H (.d (.tup [.val (ke en.2.1), ve en.2.2])) :=
 .of_same fun A0 bs w f mm hf => by
  have h0 := hf x (by simp [ho, Op.operands]) _ hx
  have hbi := mm.blk i _ hi
  have hbj := mm.blk j _ hj
  simp only [GMap.blk, Blk.rep] at hbj
  obtain ⟨bm, es, g1, g2, g3, g4, g5⟩ := hbj
  simp only [Blk.rep, hj, GMap.blk] at hbi
  obtain ⟨b, bm', k1, k2, k3⟩ := hbi
  obtain rfl : bm = bm' := by rw [g1] at k2; simpa using k2
  simp only [V.rep, hi] at h0
  obtain ⟨b', hb', h2⟩ := h0
  obtain rfl : b = b' := by rw [k1] at hb'; simpa using hb'
  obtain ⟨q, hq⟩ := List.getElem?_of_mem he
  have hlen : es.toList.length = m.es.length := by have := congrArg List.length g3; simpa using this
  have hql : q < es.toList.length := by rw [hlen]; exact (List.getElem?_eq_some_iff.1 hq).1
  have hqe := List.getElem?_eq_getElem hql
  have h1 : es.toList[q].born = en.1 := by
   have h := congrArg (fun l => l[q]?) g3
   simpa only [List.getElem?_map, hq, hqe, Option.map_some, Option.some.injEq] using h
  have h3 : es.toList[q].key = ke en.2.1 := by
   have h := congrArg (fun l => l[q]?) g4
   simpa only [List.getElem?_map, hq, hqe, Option.map_some, Option.some.injEq] using h
  have hent := run_entry_at (P := P) w b bm since seen.toArray es m.clock es.toList[q] (by rw [k3, h1]; simp) g2 (List.getElem_mem hql) (by rw [g3]; exact hn)
  obtain ⟨v, f1, f2⟩ := D.reps_get g5 q (ve en.2.2) (by simp [List.getElem?_map, hq])
  simp only [List.getElem?_map, hqe, Option.map_some, Option.some.injEq] at f1
  refine ⟨.tuple #[es.toList[q].key, es.toList[q].val], by simp only [execOp, ho, h2, Sem.run_bind, hent, Result.andThen_ok, Sem.run_pure], ?_⟩
  simp only [V.rep, D.rep]
  exact ⟨_, rfl, by simp only [D.reps, D.rep]; exact ⟨_, _, rfl, h3, _, [], rfl, by rw [f1]; exact f2, rfl⟩⟩
noncomputable def chooseAll {α R : Type} (l : List α) (k : α → Option R) : Option R := open Classical in
 match l with
 | [] => none
 | a :: l => if ∀ b ∈ a :: l, k b = k a then k a else none
theorem chooseAll_mem {α R : Type} {l : List α} {k : α → Option R} {r : R} (h : chooseAll l k = some r) : ∀ a ∈ l, k a = some r := by
 unfold chooseAll at h
 split at h
 ·cases h
 ·rename_i a l
  split at h
  ·rename_i hall; intro b hb; rw [hall b hb, h]
  ·cases h
theorem chooseAll_all {α R : Type} {l : List α} {k : α → Option R} {r : R} (hne : l ≠ []) (h : ∀ a ∈ l, k a = some r) : chooseAll l k = some r := by
 unfold chooseAll
 split
 ·exact absurd rfl hne
 ·rename_i a l
  rw [if_pos (fun b hb => by rw [h b hb, h a (by simp)])]; exact h a (by simp)
noncomputable def stepM {κ β R : Type} (m : GMap κ β) (seen : List Nat) (since last : Nat) (over : Option R) (k : Nat × κ × β → Option R) : Option R :=
 grd (m.old since last) (if (m.left seen).isEmpty = true then over else chooseAll (m.left seen) k)
theorem stepM_S {κ β R : Type} {m : GMap κ β} {seen : List Nat} {since last : Nat} {over : Option R} {k : Nat × κ × β → Option R} {r : R} (h : stepM m seen since last over k = some r) :
  m.old since last = true ∧ (m.left seen = [] → over = some r) ∧ ∀ e ∈ m.left seen, k e = some r := by
 obtain ⟨h1, h2⟩ := grdS h
 refine ⟨h1, fun h3 => by rw [h3] at h2; simpa using h2, fun e he => ?_⟩
 rw [if_neg (by intro h3; rw [List.isEmpty_iff.1 h3] at he; cases he)] at h2
 exact chooseAll_mem h2 e he
def evsV (e : Operand → Option V) : List Operand → Option (List V)
 | [] => some []
 | x :: xs => match e x, evsV e xs with
  | some v, some vs => some (v :: vs)
  | _, _ => none
theorem evsV_reps {A : Nat → Prop} {w : World} {bs : List (Option Nat)} {f : Operand → Value} {e : Operand → Option V} : ∀ {xs : List Operand} {vs : List V}, evsV e xs = some vs → (∀ x ∈ xs, ∀ y, e x = some y → V.rep A w bs H y (f x)) → V.reps A w bs H vs (xs.map f)
 | [], vs, h, _ => by simp only [evsV, Option.some.injEq] at h; subst h; simp [V.reps]
 | x :: xs, vs, h, hf => by
  simp only [evsV] at h
  split at h
  ·rename_i v vs' h1 h2
   cases h
   simp only [List.map_cons, V.reps]
   exact ⟨_, _, rfl, hf x (by simp) _ h1, evsV_reps h2 fun y hy => hf y (by simp [hy])⟩
  ·cases h
theorem OpV.makeFuncV {g : FuncId} {cs : Array Operand} {vs : List V} (ho : o.op = .makeFunc (.func g) #[] cs) (hc : evsV e cs.toList = some vs) : OpV P o e H (.fn (.func g) [] vs) :=
 .of_same fun A0 bs w f _ hf => by
  refine ⟨.func (.func g) #[] (cs.map f), by simp [execOp, ho, Instr.makeFunc], ?_⟩
  simp only [V.rep]
  refine ⟨#[], cs.map f, rfl, by simp [V.reps], ?_⟩
  have := evsV_reps (A := Own A0 bs) (w := w) (bs := bs) (H := H) (f := f) hc (fun x hx => hf x (by simp [ho, Op.operands]; simpa using hx))
  simpa using this
omit [DecidableEq κ] in
theorem Tri.condT {s : St} {c : Operand} {x y : Code} (hc : ev s.T c = some (.d (.bool true))) (h : Tri P C x Q s) : Tri P C (.cond c x y) Q s := Tri.cond hc (fun _ => h) (fun h => (by cases h))
omit [DecidableEq κ] in
theorem Tri.condF {s : St} {c : Operand} {x y : Code} (hc : ev s.T c = some (.d (.bool false))) (h : Tri P C y Q s) : Tri P C (.cond c x y) Q s := Tri.cond hc (fun h => (by cases h)) (fun _ => h)
end
end Go.Proofs.YtcagdmegicijlaaGreatDoor
namespace Go.Proofs.YtcagdmegicijlaaGreatDoor
open Go Go.RowKit
variable [Globs]
def bodyOf (P : Program) (f : FuncId) : Code := match P.funcs[f]? with | some fn => fn.body.getD .skip | none => .skip
theorem bodyOf_eq {P : Program} {f : FuncId} {fn : Func} {c : Code} (hf : P.funcs[f]? = some fn) (hb : fn.body = some c) : bodyOf P f = c := by simp [bodyOf, hf, hb]
theorem wpListIn_pre {P : Program} {n : Nat} {ops : Array Oper} {Q0 Q' : Exit → Act → World → Prop} (hno : ∀ e a w, Q0 e a w → e = .normal) {post : List Oper} (hk : ∀ a w, Q0 .normal a w → wpListIn Fence.wide n P ops Q' post a w) :
  ∀ (pre : List Oper) (a : Act) (w : World), wpList P ops Q0 pre a w → wpListIn Fence.wide n P ops Q' (pre ++ post) a w
 | [], a, w, h => hk a w h
 | o :: pre, a, w, h => by
  simp only [wpList] at h
  simp only [List.cons_append, wpListIn]
  split <;> rename_i hw
  ·rw [if_pos hw] at h
   rcases h with h | ⟨_, a', w', h⟩
   ·refine ⟨fun f _ => trivial, ?_⟩
    unfold Oper.wp at h
    have hs : (o.semAt Fence.wide.round a.eval) = execOp a.eval o := rfl
    rw [hs]
    generalize (execOp a.eval o).run P w = r at h
    have ih := fun a w h => wpListIn_pre hno hk pre a w h
    cases r with
    | ok nx w' =>
     cases nx with
     | value v => exact ih _ _ h
     | skip => exact ih _ _ h
     | defer d => exact ih _ _ h
     | enter f args =>
      refine ⟨fun hd => by simp [Fence.wide] at hd, callsIn_wide.2 (Calls.mono h fun e w'' he => ?_)⟩
      cases e with
      | returned v => exact ih _ _ he
      | panicked chain => exact absurd (hno _ _ _ he) (by simp)
      | outgrown => obtain ⟨a', w', he⟩ := he; exact absurd (hno _ _ _ he) (by simp)
     | row row args =>
      refine ⟨fun hd => by simp [Fence.wide] at hd, RowsIn.mono (R := fun v w'' => wpList P ops Q0 pre (a.put o.dst v) w'') (fun c cs _ => ?_) fun v w'' he => ih _ _ he⟩
      obtain ⟨v, w1, r, s⟩ := h c cs
      exact ⟨v, w1, r, stepsIn_wide.2 s⟩
     | _ => exact h.elim
    | halt x w' =>
     cases x with
     | panic v => exact absurd (hno _ _ _ h) (by simp)
     | _ => exact h.elim
   ·exact absurd (hno _ _ _ h) (by simp)
  ·rw [if_neg hw] at h
   exact ⟨fun f _ => trivial, wpListIn_pre hno hk pre _ _ h⟩
theorem calls_of_triE {P : Program} {f : FuncId} {fn : Func} {c : Code} {xs : List D} {A : Nat → Prop} {w : World} {vs : Array Value} {Post : World → Prop} (hf : P.funcs[f]? = some fn) (hb : fn.body = some c) (hres : fn.results = #[]) (hn : xs.length ≤ fn.ntmps)
  (hA : ∀ b, A b → b < w.heap.size) (hG : GlobOK A w) (hr : D.reps A w xs vs.toList)
  (h : Tri P ⟨A, ze, w, fn.ntmps, fun a w' => a.defers = [] ∧ Post w', [], 0, []⟩ c (fun _ _ => False) ⟨params 0 xs, []⟩) : Calls P f vs w (fun e w' => (∃ u, e = .returned u) ∧ Post w') := by
 have hlen := D.reps_len hr
 refine calls_of_wp hf hb (Code.wp_mono ?_ (h.run [] _ w ?_))
 ·rintro e a' w' (⟨_, _, hq, _⟩ | ⟨rfl, hd, hp⟩)
  ·exact hq.elim
  ·refine ⟨hd, .tuple #[], ?_, ⟨_, rfl⟩, hp⟩
   rw [results_eq, hres]
   simp
 ·have hsz : (vs ++ Array.replicate (fn.ntmps - vs.size) undef).size = fn.ntmps := by
   simp only [Array.length_toList] at hlen
   simp; omega
  refine ⟨⟨by simp, by simp, by simp, hA, hG.fr (Fr.refl ze w) (fun _ x => x.elim) (fun b _ hb => hb.elim id (fun h => by simp at h))⟩, rfl, by simp, fun t v hv => ?_, rfl, hsz, Fr.refl _ _, by simp, fun p hp => (by cases hp)⟩
  have := params_look (A := Own A []) (w := w) (bs := []) (H := []) xs 0 vs.toList (vs ++ Array.replicate (fn.ntmps - vs.size) undef)
   (D.reps_fr (Fr.refl ze w) (fun _ x => x.elim) (fun b _ hb => hb.elim id (fun h => by simp at h)) xs _ hr)
   (fun j hj => by
    have hj' : j < vs.size := by simpa using hj
    simp [Array.getD_eq_getD_getElem?, Array.getElem?_append, hj', List.getD])
   (by rw [hsz]; simp only [Array.length_toList] at hlen; simp; omega) t v hv
  rw [hsz] at this
  exact this
theorem res_of {P : Program} {C : Ctx} {fn : Func} {y : D} {bs' : List (Option Nat)} {s' : St} {a' : Act} {w' : World} {ds : List D} (hy : oneOrTup ds = y) (hres : ResOf P s' fn.results.toList ds) (hR : R C bs' s' a' w') :
  ∃ u, (results fn a'.tmps).run P w' = .ok u w' ∧ D.rep C.A0 w' y u := by
 obtain ⟨us, hrun, hreps⟩ := res_runs hR fn.results.toList ds hres
 have hl := D.reps_len hreps
 have hm : (fn.results.mapM (resOne a'.tmps)).run P w' = .ok us.toArray w' := by
  rw [← Array.toArray_toList (xs := fn.results), List.mapM_toArray]
  simp only [Sem.run_map, hrun, Result.andThen_ok]
 rw [results_eq]
 simp only [Sem.run_bind, hm, Result.andThen_ok, Sem.run_pure]
 refine ⟨_, rfl, ?_⟩
 match ds, us, hreps, hl with
 | [d], [u], hreps, _ =>
  simp only [D.reps] at hreps
  obtain ⟨_, _, e, h1, _⟩ := hreps
  simp only [List.cons.injEq] at e
  obtain ⟨rfl, _⟩ := e
  simp only [oneOrTup] at hy; subst hy
  simpa using h1
 | [], [], hreps, _ => simp only [oneOrTup] at hy; subst hy; simpa [D.rep] using hreps
 | d1 :: d2 :: ds, u1 :: u2 :: us, hreps, _ =>
  simp only [oneOrTup] at hy; subst hy
  have hne : ¬ (u1 :: u2 :: us).toArray.size = 1 := by simp
  rw [dif_neg hne]
  simp only [D.rep]
  exact ⟨_, rfl, hreps⟩
def pureEnd (A : Nat → Prop) (w : World) (y : D) (e : Ending) (w' : World) : Prop := ∃ u, e = .returned u ∧ Fr ze w w' ∧ D.rep A w' y u
theorem Pure.of_triM {P : Program} {f : FuncId} {fn : Func} {c : Code} {xs : List D} {y : D} (hf : P.funcs[f]? = some fn) (hb : fn.body = some c) (hn : xs.length ≤ fn.ntmps)
  (h : ∀ A w, Tri P ⟨A, ze, w, fn.ntmps, fun a' w' => LeavesInM Fence.wide 0 P fn a'.tmps (pureEnd A w y) a'.defers .returning w', [], 0, []⟩ c (retQ P fn.results y) ⟨params 0 xs, []⟩) : Pure P f xs y := by
 refine ⟨fun A w vs hA hG hr => ?_⟩
 have hlen := D.reps_len hr
 have main : CallsIn Fence.wide 0 P f vs w (pureEnd A w y) := by
  refine callsIn_of_wp_marks hf hb trivial (wpIn_wide.2 (Code.wp_mono ?_ ((h A w).run [] _ w ?_))) rfl
  ·rintro e a' w' (⟨bs', s', ⟨he, ds, hy, hres⟩, hR⟩ | ⟨rfl, hE⟩)
   ·obtain ⟨u, hu1, hu2⟩ := res_of (P := P) (fn := fn) hy hres hR
    have hfr : Fr ze w w' := hR.fr
    have hd : a'.defers = [] := hR.defers
    have hL : LeavesInM Fence.wide 0 P fn a'.tmps (pureEnd A w y) a'.defers .returning w' := by
     rw [hd]; exact ⟨u, hu1, u, rfl, hfr, hu2⟩
    rcases he with rfl | rfl <;> exact hL
   ·exact hE
  ·have hsz : (vs ++ Array.replicate (fn.ntmps - vs.size) undef).size = fn.ntmps := by
    simp only [Array.length_toList] at hlen
    simp; omega
   refine ⟨⟨by simp, by simp, by simp, hA, hG.fr (Fr.refl ze w) (fun _ x => x.elim) (fun b _ hb => hb.elim id (fun h => by simp at h))⟩, rfl, by simp, fun t v hv => ?_, rfl, hsz, Fr.refl _ _, by simp, fun p hp => (by cases hp)⟩
   have := params_look (A := Own A []) (w := w) (bs := []) (H := []) xs 0 vs.toList (vs ++ Array.replicate (fn.ntmps - vs.size) undef)
    (D.reps_fr (Fr.refl ze w) (fun _ x => x.elim) (fun b _ hb => hb.elim id (fun h => by simp at h)) xs _ hr)
    (fun j hj => by
     have hj' : j < vs.size := by simpa using hj
     simp [Array.getD_eq_getD_getElem?, Array.getElem?_append, hj', List.getD])
    (by rw [hsz]; simp only [Array.length_toList] at hlen; simp; omega) t v hv
   rw [hsz] at this
   exact this
 exact callsIn_wide.1 main
end Go.Proofs.YtcagdmegicijlaaGreatDoor
namespace Go.Proofs.YtcagdmegicijlaaGreatDoor
open Go Go.RowKit
variable [Globs]
def bitsBack (k : IntKind) (r : BitVec k.bits) : Int := k.wrap r.toNat
def band (k : IntKind) (x y : Int) : Int := bitsBack k (BitVec.ofInt k.bits x &&& BitVec.ofInt k.bits y)
def bor (k : IntKind) (x y : Int) : Int := bitsBack k (BitVec.ofInt k.bits x ||| BitVec.ofInt k.bits y)
def bxor (k : IntKind) (x y : Int) : Int := bitsBack k (BitVec.ofInt k.bits x ^^^ BitVec.ofInt k.bits y)
def bnot (k : IntKind) (x : Int) : Int := bxor k (if k.signed then -1 else k.max) x
section
variable {P : Program} {o : Oper} {e : Operand → Option V} {H : List Blk}
theorem OpV.band {t u : TypeId} {x y : Operand} {k : IntKind} {a b : Int} (ho : o.op = .binOp .and t x y u) (hx : e x = some (.d (.val (.int k a)))) (hy : e y = some (.d (.val (.int k b)))) : OpV P o e H (.d (.val (.int k (band k a b)))) :=
 .bin_int ho hx hy fun w => by simp [binOp, Op.intBits, Go.Proofs.YtcagdmegicijlaaGreatDoor.band, bitsBack]
theorem OpV.bor {t u : TypeId} {x y : Operand} {k : IntKind} {a b : Int} (ho : o.op = .binOp .or t x y u) (hx : e x = some (.d (.val (.int k a)))) (hy : e y = some (.d (.val (.int k b)))) : OpV P o e H (.d (.val (.int k (bor k a b)))) :=
 .bin_int ho hx hy fun w => by simp [binOp, Op.intBits, Go.Proofs.YtcagdmegicijlaaGreatDoor.bor, bitsBack]
theorem OpV.bnot {t : TypeId} {x : Operand} {k : IntKind} {a : Int} (ho : o.op = .unOp .xor t x) (hx : e x = some (.d (.val (.int k a)))) : OpV P o e H (.d (.val (.int k (bnot k a)))) :=
 .of_same fun _ _ w f _ hf => by
  have h1 := zk.1 (hf x (by simp [ho, Op.operands]) _ hx)
  exact ⟨.int k (Go.Proofs.YtcagdmegicijlaaGreatDoor.bnot k a), by simp [execOp, ho, h1, Op.unary, Op.intBits, Go.Proofs.YtcagdmegicijlaaGreatDoor.bnot, Go.Proofs.YtcagdmegicijlaaGreatDoor.bxor, bitsBack], zk.2 rfl⟩
theorem OpV.idxG {t el ty : TypeId} {g N : Nat} {x i : Operand} {k j : IntKind} {l : List Int} {a v : Int} (ho : o.op = .indexAddr t x i) (hx : e x = some (.d (.val (.pointer (some ⟨g, 0, none⟩))))) (hi : e i = some (.d (.val (.int j a)))) (hg : (g, Obj.cells (l.map (Value.int k)).toArray ty (0, 0)) ∈ Globs.gs)
  (ht : P.underlying t = some (.array N el)) (hs : (P.info? el).map (·.size) = some 1) (hN : N = l.length) (hv : Go.Proofs.YtcagdmegicijlaaGreatDoor.idx l a = some v) : OpV P o e H (.d (.ref (.val (.int k v)))) :=
 .of_same fun A0 bs w f m hw => by
  have h1 := zk.1 (hw x (by simp [ho, Op.operands]) _ hx)
  have h2 := zk.1 (hw i (by simp [ho, Op.operands]) _ hi)
  obtain ⟨n, rfl, hn, hvn⟩ := idxS hv
  obtain ⟨hA, hh⟩ := m.own.glob _ hg
  simp only at hA hh
  cases hinf : P.info? el with
  | none => simp [hinf] at hs
  | some inf =>
   have hsz : inf.size = 1 := by simpa [hinf] using hs
   refine ⟨.pointer (some ⟨g, n, none⟩), ?_, ?_⟩
   ·have hlen : (0 : Int) ≤ n ∧ (n : Int) < N := by subst hN; omega
    simp only [execOp, ho, h1, h2, Instr.indexAt, asIntOf, Sem.run_bind, Sem.run_pure, Result.andThen_ok, run_underlying ht, Instr.sureAddr]
    rw [if_pos hlen]
    simp [sizeOf, typeInfo, hinf, hsz, Addr.add_lit]
   ·simp only [V.rep, D.rep]
    refine ⟨g, n, .int k v, rfl, hA, (Array.getElem?_eq_some_iff.1 hh).1, rfl, fun q hq => ?_⟩
    have hq0 : q = 0 := by simp [Value.cells] at hq; omega
    subst hq0
    rw [zU hh]
    simp [Value.cells, hn, hvn]
end
end Go.Proofs.YtcagdmegicijlaaGreatDoor
namespace Go.Proofs.YtcagdmegicijlaaGreatDoor
open Go Go.RowKit
variable [Globs]
theorem R.vecTurn {C : Ctx} {bs : List (Option Nat)} {T : List (Nat × V)} {H : List Blk} {a : Act} {w : World} {i g k : Nat} {el : TypeId} {xs ys : List D} {cur new : Array Value} (hR : R C bs ⟨T, H⟩ a w) (hi : H[i]? = some (.vec el k xs)) (hb : bs[i]? = some (some g))
  (hheap : w.heap[g]? = some (.cells cur el (0, 0))) (hnew : new.size = cur.size) (hl : ys.length = xs.length) (hfl : D.flat (Own C.A0 bs) w k ys (new.toList.take (xs.length * k))) (h0 : 0 < xs.length) :
  R C bs ⟨T, H.set i (.vec el k ys)⟩ a (w.setRow g new) := by
 have hfr : Fr (fun c => some g = some c) w (w.setRow g new) := ⟨rfl, rfl, rfl, by simp, fun c _ hno => setRow_other w g c _ (fun e => hno (by rw [e])), Nat.le_refl _⟩
 have hset : bs.set i (some g) = bs := by
  refine List.ext_getElem? fun q => ?_
  by_cases hij : i = q
  ·subst hij; rw [List.getElem?_set_self (List.getElem?_eq_some_iff.1 hb).1, hb]
  ·rw [List.getElem?_set_ne hij]
 have hWA : ∀ c, some g = some c → Own C.A0 bs c := fun c hc => .inr (by rw [← hc]; exact List.mem_of_getElem? hb)
 have hupd := R.upd (y := .vec el k ys) (c := some g) (c' := some g) hR hi hb (by
  simp only [Compat]
  refine .inr ⟨hl, trivial, trivial, fun v cells' q1 q2 q3 => ?_⟩
  rcases q1.2 with ⟨h, h0'⟩ | ⟨g', cap', cur', hh', _, hheap', hnc', hcm', hcs', htake'⟩
  ·omega
  obtain rfl : g = g' := by rw [hh'] at q2; simpa [Value.ownBlock] using q2
  rw [hheap] at hheap'
  cases hheap'
  refine ⟨new.toList.take (xs.length * k), ⟨?_, .inr ⟨g, cap', new, by rw [hh'], Nat.zero_le _, setRow_heap w g cur _ el _ hheap, hnc', hcm', by rw [hnew, hcs'], rfl⟩⟩, D.flat_fr hfr hWA (fun c _ hc => by rw [hset] at hc; exact hc) _ _ hfl⟩
  have hn : xs.length * k ≤ cap' * k := Nat.mul_le_mul_right _ hnc'
  have e : new.toList.length = cap' * k := by rw [Array.length_toList, hnew, hcs']
  rw [List.length_take, e]; exact Nat.min_eq_left hn) hfr (.inl rfl) (by simp only [Blk.rep])
 rw [hset] at hupd
 exact hupd
theorem V.asSub {A : Nat → Prop} {w : World} {bs : List (Option Nat)} {H : List Blk} {i n : Nat} {v : Value} (h : V.rep A w bs H (.vec i n) v) : V.rep A w bs H (.sub i n 0 n) v := by
 simp only [V.rep] at h ⊢
 split at h
 ·rename_i t k xs he
  refine ⟨h.1, fun hn => ?_⟩
  obtain ⟨cells, h1, h2, h3⟩ := h.2 hn
  refine ⟨v, cells, h1, h2, h3, Nat.zero_le _, Nat.le_refl _, ?_⟩
  rcases h1.2 with ⟨rfl, h0⟩ | ⟨g, cap, cur, rfl, _, _, hnc, _, _, _⟩
  ·exact ⟨none, 0, by simp [h0], by omega, fun h => by omega⟩
  ·exact ⟨_, cap, rfl, by omega, fun _ => ⟨g, by simp [Value.ownBlock], by simp⟩⟩
 ·trivial
 ·exact h.elim
theorem TriL.asSub {P : Program} {C : Ctx} {ops : Array Oper} {rest : List Oper} {Q : Exit → St → Prop} {T : List (Nat × V)} {H : List Blk} (t : Nat) {i n : Nat} (ht : look t T = some (.vec i n))
  (k : TriL P C ops rest Q ⟨(t, .sub i n 0 n) :: T, H⟩) : TriL P C ops rest Q ⟨T, H⟩ := ⟨fun _ a w hR => k.run _ a w (hR.know (hR.tmp t _ ht).1 (V.asSub (hR.tmp t _ ht).2))⟩
def zcl {α : Type} (xs : List α) (lo hi : Nat) (ys : List α) : List α := xs.take lo ++ (ys.take (hi - lo) ++ xs.drop (lo + min (hi - lo) ys.length))
theorem zch {α : Type} {xs : List α} {lo hi : Nat} {ys : List α} (h1 : lo ≤ hi) (h2 : hi ≤ xs.length) : (zcl xs lo hi ys).length = xs.length := by
 simp [zcl]; omega
theorem D.flat_split {A : Nat → Prop} {w : World} {k : Nat} : ∀ {xs : List D} {cells : List Value} (n : Nat), D.flat A w k xs cells → D.flat A w k (xs.take n) (cells.take (n * k)) ∧ D.flat A w k (xs.drop n) (cells.drop (n * k))
 | xs, cells, 0, h => by simp [D.flat]; exact h
 | [], cells, n + 1, h => by simp only [D.flat] at h; subst h; simp [D.flat]
 | x :: xs, cells, n + 1, h => by
  simp only [D.flat] at h
  obtain ⟨u, cs, rfl, hk, hu, hr⟩ := h
  obtain ⟨h1, h2⟩ := D.flat_split n hr
  have e : (n + 1) * k = k + n * k := by rw [Nat.succ_mul, Nat.add_comm]
  have hk' : u.cells.toList.length = k := by simpa using hk
  have t1 : (u.cells.toList ++ cs).take (k + n * k) = u.cells.toList ++ cs.take (n * k) := by
   rw [List.take_append, hk', List.take_of_length_le (by rw [hk']; omega), Nat.add_sub_cancel_left]
  have t2 : (u.cells.toList ++ cs).drop (k + n * k) = cs.drop (n * k) := by
   rw [List.drop_append, hk', List.drop_eq_nil_of_le (by rw [hk']; omega), Nat.add_sub_cancel_left, List.nil_append]
  rw [List.take_succ_cons, List.drop_succ_cons, e, t1, t2]
  simp only [D.flat]
  exact ⟨⟨u, _, rfl, hk, hu, h1⟩, h2⟩
theorem run_copyK {P : Program} (w : World) (dT sT ty elem : TypeId) (k n : Nat) (dp sp : Option Addr) (dLen dCap sLen sCap : Nat) (hu : P.underlying dT = some (.slice elem)) (hsz : (P.info? elem).map (·.size) = some k) (hn : n = Nat.min sLen dLen)
  (g o : Nat) (cur : Array Value) (t : TypeId) (hg : w.heap[g]? = some (.cells cur t (0, 0))) (cs : List Value) (hl : cs.length = n * k) (hd : 0 < n → dp = some ⟨g, o, none⟩) (hs : 0 < n → ∃ ad, sp = some ad ∧ ∀ j v, cs[j]? = some v → w.cell? (ad.add j) = some v)
  (hfit : o + cs.length ≤ cur.size) (h1 : ∀ v ∈ cs, v.oneCell' = true) :
  (Builtin.copy_ #[dT, sT] ty #[.slice dp dLen dCap, .slice sp sLen sCap]).run P w = .ok (goInt n) (if 0 < n then w.setRow g (cur.toList.take o ++ cs ++ cur.toList.drop (o + cs.length)).toArray else w) := by
 cases hi : P.info? elem with
 | none => simp [hi] at hsz
 | some inf =>
  have hq : inf.size = k := by simpa [hi] using hsz
  by_cases h0 : 0 < n
  ·obtain ⟨ad, rfl, hsrc⟩ := hs h0
   rw [hd h0]
   have hfc := run_firstCells_some (P := P) w k n ad sLen sCap cs hl hsrc
   have hst := run_storeCells_at P g o t cs 0 cur w hg (by simpa using hfit) h1
   simp only [Nat.add_zero] at hst
   subst hn
   simp [Builtin.copy_, run_underlying hu, Builtin.lenOf, sizeOf, typeInfo, hi, hq, hfc, hst, h0]
  ·have hn0 : n = 0 := by omega
   subst hn0
   have hcs : cs = [] := List.eq_nil_of_length_eq_zero (by simpa using hl)
   subst hcs
   have : Nat.min sLen dLen = 0 := hn.symm
   cases dp <;> cases sp <;> simp [Builtin.copy_, run_underlying hu, Builtin.lenOf, Builtin.firstCells, loadCells, loadCellsFrom, sizeOf, typeInfo, hi, hq, this, storeCells]
section
variable {P : Program} {o : Oper} {e : Operand → Option V} {H : List Blk}
theorem OpV.subL {α : Type} {t el el' : TypeId} {x y : Operand} {i n k : Nat} {l r : List α} {enc : α → D} {lo : Int} (ho : o.op = .slice t x (some y) none none) (hx : e x = some (.vec i n)) (hi : H[i]? = some (.vec el' k (l.map enc))) (hn : n = l.length) (hy : e y = some (.d (.int lo)))
  (ht : P.underlying t = some (.slice el)) (hs : (P.info? el).map (·.size) = some k) (hr : cut l lo (l.length : Int) = some r) : OpV P o e H (.sub i n lo.toNat n) := by
 obtain ⟨a, b, rfl, hb, h1, h2, rfl⟩ := cutS hr
 have hb' : l.length = b := by omega
 subst hb'
 refine .of_same fun A0 bs w f _ hf => ?_
 have e1 := hf x (by simp [ho, Op.operands]) _ hx
 have e2 := zk.1 (hf y (by simp [ho, Op.operands]) _ hy)
 simp only [V.rep, hi] at e1
 obtain ⟨cells, g1, g2, g3⟩ := e1.2 (by simpa using hn)
 cases hinf : P.info? el with
 | none => simp [hinf] at hs
 | some inf =>
  have hsz : inf.size = k := by simpa [hinf] using hs
  have hel : P.elem t = el := by simp [Program.elem, ht]
  have hck : P.cellsOf el = k := by simp [Program.cellsOf, hinf, hsz]
  have main : ∀ (ad : Option Addr) (cap : Nat), f x = .slice ad n cap → n ≤ cap → (∀ g, ad = some g → ∃ b, (f x).ownBlock = some b ∧ g = ⟨b, 0, none⟩) → (0 < n → ad.isSome = true) → ∃ u, (execOp f o).run P w = .ok (.value u) w ∧ V.rep (Own A0 bs) w bs H (.sub i n ((a : Int)).toNat n) u := by
   intro ad cap hp hnc hg hne
   refine ⟨sliced ad a n cap k, ?_, ?_⟩
   ·have := run_slice_l (P := P) w t ad n cap (by rw [hel]; exact ht) .i64 a (by omega) (by omega)
    rw [hel, run_sizeOf w hinf, hck] at this
    simp only [Int.toNat_natCast, Result.andThen_ok] at this
    simp only [execOp, ho, hp, e2, Option.map_some, Option.map_none, Sem.run_bind, run_sliceAt_slice w t _ _ _ _ (by rw [hel]; exact ht), this, Result.andThen_ok, Sem.run_pure]
   ·simp only [V.rep, hi, Int.toNat_natCast]
    refine ⟨e1.1, fun _ => ⟨f x, cells, g1, g2, g3, by omega, Nat.le_refl _, if cap = a then ad else ad.map (·.add (a * k)), cap - a, rfl, by omega, fun hlt => ?_⟩⟩
    have hso := hne (by omega)
    cases ad with
    | none => simp at hso
    | some g =>
     obtain ⟨b, hb1, rfl⟩ := hg g rfl
     exact ⟨b, hb1, by rw [if_neg (by omega)]; simp [Addr.add_lit]⟩
  rcases g1.2 with ⟨h, h0⟩ | ⟨g, cap, cur, hh, _, _, hnc, _, _, _⟩
  ·exact main none 0 (by rw [h, h0]) (by omega) (fun g h => (by cases h)) (fun h => by omega)
  ·exact main (some ⟨g, 0, none⟩) cap hh hnc (fun g' h => ⟨g, by rw [hh]; simp [Value.ownBlock], by simpa using h.symm⟩) (fun _ => rfl)
theorem OpV.subH {α : Type} {t el el' : TypeId} {x y : Operand} {i n k : Nat} {l r : List α} {enc : α → D} {hi' : Int} (ho : o.op = .slice t x none (some y) none) (hx : e x = some (.vec i n)) (hi : H[i]? = some (.vec el' k (l.map enc))) (hn : n = l.length) (hy : e y = some (.d (.int hi')))
  (ht : P.underlying t = some (.slice el)) (hs : (P.info? el).map (·.size) = some k) (hr : cut l 0 hi' = some r) : OpV P o e H (.sub i n 0 hi'.toNat) := by
 obtain ⟨z, b, hz, rfl, h1, h2, rfl⟩ := cutS hr
 refine .of_same fun A0 bs w f _ hf => ?_
 have e1 := hf x (by simp [ho, Op.operands]) _ hx
 have e2 := zk.1 (hf y (by simp [ho, Op.operands]) _ hy)
 simp only [V.rep, hi] at e1
 obtain ⟨cells, g1, g2, g3⟩ := e1.2 (by simpa using hn)
 cases hinf : P.info? el with
 | none => simp [hinf] at hs
 | some inf =>
  have hsz : inf.size = k := by simpa [hinf] using hs
  have hel : P.elem t = el := by simp [Program.elem, ht]
  have hck : P.cellsOf el = k := by simp [Program.cellsOf, hinf, hsz]
  have main : ∀ (ad : Option Addr) (cap : Nat), f x = .slice ad n cap → n ≤ cap → (∀ g, ad = some g → ∃ b, (f x).ownBlock = some b ∧ g = ⟨b, 0, none⟩) → (0 < n → ad.isSome = true) → ∃ u, (execOp f o).run P w = .ok (.value u) w ∧ V.rep (Own A0 bs) w bs H (.sub i n 0 ((b : Int)).toNat) u := by
   intro ad cap hp hnc hg hne
   refine ⟨sliced ad 0 b cap k, ?_, ?_⟩
   ·have := run_slice_h (P := P) w t ad n cap (by rw [hel]; exact ht) .i64 b (by omega) (by omega)
    rw [hel, run_sizeOf w hinf, hck] at this
    simp only [Int.toNat_natCast, Result.andThen_ok] at this
    simp only [execOp, ho, hp, e2, Option.map_some, Option.map_none, Sem.run_bind, run_sliceAt_slice w t _ _ _ _ (by rw [hel]; exact ht), this, Result.andThen_ok, Sem.run_pure]
   ·simp only [V.rep, hi, Int.toNat_natCast]
    refine ⟨e1.1, fun _ => ⟨f x, cells, g1, g2, g3, Nat.zero_le _, by omega, if cap = 0 then ad else ad.map (·.add (0 * k)), cap, rfl, by omega, fun hlt => ?_⟩⟩
    have hso := hne (by omega)
    cases ad with
    | none => simp at hso
    | some g =>
     obtain ⟨b, hb1, rfl⟩ := hg g rfl
     exact ⟨b, hb1, by rw [if_neg (by omega)]; simp [Addr.add_lit]⟩
  rcases g1.2 with ⟨h, h0⟩ | ⟨g, cap, cur, hh, _, _, hnc, _, _, _⟩
  ·exact main none 0 (by rw [h, h0]) (by omega) (fun g h => (by cases h)) (fun h => by omega)
  ·exact main (some ⟨g, 0, none⟩) cap hh hnc (fun g' h => ⟨g, by rw [hh]; simp [Value.ownBlock], by simpa using h.symm⟩) (fun _ => rfl)
end
theorem flat_append3 {A : Nat → Prop} {w : World} {k : Nat} {xs ys zs : List D} {a b c : List Value} (h1 : D.flat A w k xs a) (h2 : D.flat A w k ys b) (h3 : D.flat A w k zs c) : D.flat A w k (xs ++ (ys ++ zs)) (a ++ (b ++ c)) := D.flat_append h1 (D.flat_append h2 h3)
theorem take3 {α : Type} {A B C : List α} {n a c : Nat} (hA : A.length = a) (hB : B.length = c) (h : a + c ≤ n) : (A ++ (B ++ C)).take n = A ++ (B ++ C.take (n - a - c)) := by
 rw [List.take_append, List.take_append, hA, hB, List.take_of_length_le (l := A) (by omega), List.take_of_length_le (l := B) (by omega)]
inductive SrcOf (e : Operand → Option V) (H : List Blk) (k : Nat) {α : Type} (enc : α → D) (y : Operand) : List α → Prop
 | d {ys : List α} : e y = some (.d (.sl k (ys.map enc))) → SrcOf e H k enc y ys
 | sub {i n lo hi : Nat} {el : TypeId} {l : List α} : e y = some (.sub i n lo hi) → H[i]? = some (.vec el k (l.map enc)) → n = l.length → SrcOf e H k enc y ((l.drop lo).take (hi - lo))
theorem SrcOf.reads {C : Ctx} {bs : List (Option Nat)} {T : List (Nat × V)} {H : List Blk} {a : Act} {w : World} (hR : R C bs ⟨T, H⟩ a w) {k : Nat} {α : Type} {enc : α → D} {y : Operand} {ys : List α} (h : SrcOf (ev T) H k enc y ys) :
  ∃ sp cap cells, a.eval y = .slice sp ys.length cap ∧ D.flat (Own C.A0 bs) w k (ys.map enc) cells ∧ (0 < ys.length → ∃ ad, sp = some ad ∧ ∀ j v, cells[j]? = some v → w.cell? (ad.add j) = some v) := by
 cases h with
 | d hy =>
  have h1 := hR.ev hy
  simp only [V.rep, D.rep, List.length_map] at h1
  obtain ⟨ad, cap, hp, hcap, hrow⟩ := h1
  rcases hrow with hnil | ⟨b, off, rfl, _, _, hrow⟩
  ·have : ys = [] := by simpa using hnil
   subst this
   exact ⟨ad, cap, [], hp, by simp [D.flat], fun h => by simp at h⟩
  ·obtain ⟨cells, h1, h2⟩ := D.row_flat _ _ hrow
   exact ⟨_, cap, cells, hp, h1, fun _ => ⟨_, rfl, fun j v hv => by rw [Addr.add_lit]; exact h2 j v hv⟩⟩
 | sub hy hi hn =>
  rename_i i n lo hh el l
  have h1 := hR.ev hy
  simp only [V.rep, hi] at h1
  obtain ⟨hdr, cells, g1, g2, g3, glo, ghi, ad, cap, hp, hcap, hne⟩ := h1.2 (by simpa using hn)
  have hlen : ((l.drop lo).take (hh - lo)).length = hh - lo := by rw [List.length_take, List.length_drop]; omega
  have hsp := (D.flat_split (hh - lo) (D.flat_split lo g3).2).1
  refine ⟨ad, cap, (cells.drop (lo * k)).take ((hh - lo) * k), by rw [hlen]; exact hp, by simpa [List.map_take, List.map_drop] using hsp, fun h0 => ?_⟩
  rw [hlen] at h0
  obtain ⟨b, hb, rfl⟩ := hne (by omega)
  refine ⟨_, rfl, fun j v hv => ?_⟩
  rcases g1.2 with ⟨rfl, _⟩ | ⟨g, cp, cur, rfl, _, _, _, _, _, _⟩
  ·simp [Value.ownBlock] at hb
  ·obtain rfl : g = b := by simpa [Value.ownBlock] using hb
   rw [List.getElem?_take] at hv
   split at hv
   ·rw [List.getElem?_drop] at hv
    have := g1.cells (g := g) rfl _ _ hv
    rw [Addr.add_mid] at this
    rw [Addr.add_lit]; simpa using this
   ·cases hv
theorem TriL.copySub {P : Program} {C : Ctx} {ops : Array Oper} {o : Oper} {rest : List Oper} {Q : Exit → St → Prop} {T : List (Nat × V)} {H : List Blk} {α : Type} {t t' el : TypeId} {x y : Operand} {i n lo hi k bytes d : Nat} {enc : α → D} {l ys : List α}
  (hg : o.guard = none) (ho : o.op = .call { callee := .builtin .copy, args := #[x, y], argTypes := #[t, t'] }) (hd : o.dst = some d) (hdn : Nat.blt d C.n = true) (he : zba P t el k bytes = true) (hx : ev T x = some (.sub i n lo hi)) (hi' : H[i]? = some (.vec el k (l.map enc))) (hn : n = l.length)
  (hy : SrcOf (ev T) H k enc y ys) (h1 : ∀ x, (enc x).ones = true)
  (kk : TriL P C ops rest Q ⟨(d, .d (.int (min (hi - lo) ys.length : Nat))) :: T, H.set i (.vec el k ((zcl l lo hi ys).map enc))⟩) : TriL P C ops (o :: rest) Q ⟨T, H⟩ := by
 obtain ⟨htu, hk0, inf, z, hinf, hz, hisz, hib, hzc⟩ := zbN he
 refine TriL.step hg (fun bs a w hR => ?_) kk
 have hxr := hR.ev hx
 simp only [V.rep, hi'] at hxr
 obtain ⟨hdr, cells, g1, g2, g3, glo, ghi, ad, cap, hp, hcap, hne⟩ := hxr.2 (by simpa using hn)
 obtain ⟨sp, scap, scells, hs, hsf, hsr⟩ := hy.reads hR
 have hsl := D.flat_len hsf
 simp only [List.length_map] at hsl
 obtain ⟨c, hc⟩ : ∃ c, c = min (hi - lo) ys.length := ⟨_, rfl⟩
 have hc1 : c ≤ hi - lo := by omega
 have hc2 : c ≤ ys.length := by omega
 have htk : scells.take (c * k) = scells.take (c * k) := rfl
 have hckl : (scells.take (c * k)).length = c * k := by rw [List.length_take, hsl]; exact Nat.min_eq_left (Nat.mul_le_mul_right _ hc2)
 have hfl1 := (D.flat_split c hsf).1
 have hone : ∀ v ∈ scells.take (c * k), v.oneCell' = true := D.flat_ones (fun q hq => by
  rw [← List.map_take] at hq
  obtain ⟨q', _, rfl⟩ := List.mem_map.1 hq; exact h1 q') hfl1
 have hset : bs.set i hdr.ownBlock = bs := by
  refine List.ext_getElem? fun q => ?_
  by_cases hij : i = q
  ·subst hij; rw [List.getElem?_set_self (List.getElem?_eq_some_iff.1 g2).1, g2]
  ·rw [List.getElem?_set_ne hij]
 by_cases h0 : 0 < c
 ·obtain ⟨b, hb, rfl⟩ := hne (by omega)
  rcases g1.2 with ⟨rfl, _⟩ | ⟨g, cp, cur, rfl, _, hheap, hnc, hcm, hcs, htake⟩
  ·simp [Value.ownBlock] at hb
  obtain rfl : g = b := by simpa [Value.ownBlock] using hb
  have hnk : n * k ≤ cp * k := Nat.mul_le_mul_right _ hnc
  have hlock : lo * k + c * k ≤ n * k := by rw [← Nat.add_mul]; exact Nat.mul_le_mul_right _ (by omega)
  have hrun := run_copyK (P := P) w t t' o.type el k c (some ⟨g, lo * k, none⟩) sp (hi - lo) cap ys.length scap htu (by simp [hinf, hisz]) (by rw [hc]; exact Nat.min_comm _ _) g (lo * k) cur el hheap (scells.take (c * k)) hckl (fun _ => rfl) (fun _ => by
   obtain ⟨ad, h2, h3⟩ := hsr (by omega)
   exact ⟨ad, h2, fun j v hv => h3 j v (by rw [List.getElem?_take] at hv; split at hv; exact hv; cases hv)⟩) (by rw [hckl, hcs]; omega) hone
  rw [if_pos h0, hckl] at hrun
  obtain ⟨new, hnew⟩ : ∃ new : Array Value, new = (cur.toList.take (lo * k) ++ scells.take (c * k) ++ cur.toList.drop (lo * k + c * k)).toArray := ⟨_, rfl⟩
  rw [← hnew] at hrun
  have hex : (execOp a.eval o).run P w = .ok (.value (goInt c)) (w.setRow g new) := by
   simp only [execOp, ho, resolve, invoke, builtin]
   simp [hp, hs, hrun]
  have hnsz : new.size = cur.size := by
   rw [hnew]
   simp only [List.size_toArray, List.length_append, List.length_take, List.length_drop, Array.length_toList, hckl, hcs]
   omega
  have hcopy : (zcl l lo hi ys).map enc = (l.map enc).take lo ++ ((ys.map enc).take c ++ (l.map enc).drop (lo + c)) := by
   have e1 : ys.take (hi - lo) = ys.take c := by
    by_cases hle : hi - lo ≤ ys.length
    ·rw [show c = hi - lo by omega]
    ·rw [List.take_of_length_le (by omega), show c = ys.length by omega, List.take_length]
   simp only [zcl, List.map_append, e1, List.map_take, List.map_drop, ← hc]
  have hflat : D.flat (Own C.A0 bs) w k ((zcl l lo hi ys).map enc) (new.toList.take ((l.map enc).length * k)) := by
   rw [hcopy]
   have t1 := (D.flat_split lo g3).1
   have t3 := (D.flat_split (lo + c) g3).2
   have := flat_append3 t1 hfl1 t3
   have e2 : new.toList.take ((l.map enc).length * k) = cells.take (lo * k) ++ (scells.take (c * k) ++ cells.drop ((lo + c) * k)) := by
    rw [hnew, List.length_map, ← hn, ← htake]
    simp only [List.toList_toArray, List.append_assoc]
    have l1 : (cur.toList.take (lo * k)).length = lo * k := by rw [List.length_take, Array.length_toList, hcs]; omega
    rw [take3 l1 hckl hlock, List.take_take, Nat.min_eq_left (by omega), List.drop_take, Nat.add_mul, Nat.sub_sub]
   rw [e2]; exact this
  have hT := hR.vecTurn hi' (by rw [g2]; rfl) hheap hnsz (by simp [zch glo (by omega : hi ≤ l.length)]) hflat (by simp; omega)
  have hput := hT.put (Fr.refl _ _) (some d) (by simpa [dstOK] using hdn) (v := .d (.int (min (hi - lo) ys.length : Nat))) (u := goInt c) (by simp only [V.rep, D.rep, goInt, hc])
  refine ⟨_, _, bs, hex, .inl ⟨_, rfl, ?_⟩⟩
  rw [hd]; exact hput
 ·have hc0 : c = 0 := by omega
  have hcopy : zcl l lo hi ys = l := by
   have e1 : ys.take (hi - lo) = [] := by
    rcases Nat.eq_zero_or_pos (hi - lo) with h | h
    ·rw [h, List.take_zero]
    ·have : ys = [] := List.eq_nil_of_length_eq_zero (by omega)
     rw [this, List.take_nil]
   simp only [zcl, e1, List.nil_append, ← hc, hc0, Nat.add_zero, List.take_append_drop]
  have hrun : (Builtin.copy_ #[t, t'] o.type #[.slice ad (hi - lo) cap, .slice sp ys.length scap]).run P w = .ok (goInt 0) w := by
   have hm : Nat.min ys.length (hi - lo) = 0 := by rw [Nat.min_comm] at hc; exact hc.symm.trans hc0
   cases ad <;> cases sp <;> simp [Builtin.copy_, run_underlying htu, Builtin.lenOf, Builtin.firstCells, loadCells, loadCellsFrom, sizeOf, typeInfo, hinf, hm, storeCells]
  have hex : (execOp a.eval o).run P w = .ok (.value (goInt 0)) w := by
   simp only [execOp, ho, resolve, invoke, builtin]
   simp [hp, hs, hrun]
  have hput := hR.put (Fr.refl _ _) (some d) (by simpa [dstOK] using hdn) (v := .d (.int (min (hi - lo) ys.length : Nat))) (u := goInt 0) (by simp only [V.rep, D.rep, goInt, ← hc, hc0]; rfl)
  refine ⟨_, _, bs, hex, .inl ⟨_, rfl, ?_⟩⟩
  rw [hd, hcopy]
  have : H.set i (.vec el k (l.map enc)) = H := by
   obtain ⟨q1, q2⟩ := List.getElem?_eq_some_iff.1 hi'
   rw [← q2, List.set_getElem_self]
  rw [this]; exact hput
theorem copyTo_lenW {α : Type} (xs : List α) (ys : List α) : (zcl xs 0 xs.length ys).length = xs.length := zch (Nat.zero_le _) (Nat.le_refl _)
theorem copyTo_lenL {α : Type} {xs r : List α} {lo : Int} (h : cut xs lo (xs.length : Int) = some r) (ys : List α) : (zcl xs lo.toNat xs.length ys).length = xs.length := by
 obtain ⟨a, b, rfl, hb, h1, h2, rfl⟩ := cutS h
 exact zch (by simp; omega) (Nat.le_refl _)
def shrO (k : IntKind) (a b : Int) : Option Int := if b < 0 then none else some (a.fdiv (2 ^ min b.toNat k.bits))
section
variable {P : Program} {o : Oper} {e : Operand → Option V} {H : List Blk}
theorem OpV.shr {t u : TypeId} {x y : Operand} {k j : IntKind} {a b c : Int} (ho : o.op = .binOp .shr t x y u) (hx : e x = some (.d (.val (.int k a)))) (hy : e y = some (.d (.val (.int j b)))) (hc : shrO k a b = some c) : OpV P o e H (.d (.val (.int k c))) :=
 .of_same fun _ _ w f _ hf => by
  have h1 := zk.1 (hf x (by simp [ho, Op.operands]) _ hx)
  have h2 := zk.1 (hf y (by simp [ho, Op.operands]) _ hy)
  unfold shrO at hc; split at hc
  ·cases hc
  ·rename_i hb; cases hc
   refine ⟨_, ?_, zk.2 rfl⟩
   simp [execOp, ho, h1, h2, eqGuard_at_int, binOp, Op.shift, hb]
end
theorem Tri.keep {P : Program} {C : Ctx} {c : Code} {Q : Exit → St → Prop} {s : St} (H : List Blk) (ks : List Nat) {K : List (Nat × V)} (hK : Looks s.T ks K) (hH : s.H = H) (k : Tri P C c Q ⟨K, H⟩) : Tri P C c Q s :=
 Tri.le ⟨hH, hK.sub⟩ k
end Go.Proofs.YtcagdmegicijlaaGreatDoor
namespace Go.Proofs.YtcagdmegicijlaaGreatDoor
open Go Go.RowKit
variable [Globs]
mutual
theorem V.under_mono {m n : Nat} (h : m ≤ n) : ∀ (x : V), x.under m = true → x.under n = true
 | .d _, _ => rfl
 | .junk, _ => rfl
 | .loc i _, hx | .vec i _, hx | .arr i _ _, hx | .el i _ _ _, hx | .sub i _ _ _, hx | .mp i, hx | .itp i, hx => by
  simp only [V.under, Nat.blt_eq] at hx ⊢; omega
 | .agg cs, hx | .tup cs, hx => by simp only [V.under] at hx ⊢; exact V.unders_mono h cs hx
 | .fn _ a b, hx => by
  simp only [V.under, Bool.and_eq_true] at hx ⊢
  exact ⟨V.unders_mono h a hx.1, V.unders_mono h b hx.2⟩
theorem V.unders_mono {m n : Nat} (h : m ≤ n) : ∀ (xs : List V), V.unders m xs = true → V.unders n xs = true
 | [], _ => rfl
 | x :: xs, hx => by
  simp only [V.unders, Bool.and_eq_true] at hx ⊢
  exact ⟨V.under_mono h x hx.1, V.unders_mono h xs hx.2⟩
end
def paramsV : Nat → List V → List (Nat × V)
 | _, [] => []
 | i, x :: xs => (i, x) :: paramsV (i + 1) xs
theorem paramsV_look {A : Nat → Prop} {w : World} {bs : List (Option Nat)} {H : List Blk} : ∀ (xs : List V) (i : Nat) (vs : List Value) (tmps : Array Value), V.reps A w bs H xs vs → (∀ j, j < vs.length → tmps.getD (i + j) undef = vs.getD j undef) → i + vs.length ≤ tmps.size →
  ∀ t v, look t (paramsV i xs) = some v → t < tmps.size ∧ V.rep A w bs H v (tmps.getD t undef)
 | [], _, _, _, _, _, _, t, v, h => by simp [paramsV, look] at h
 | x :: xs, i, vs, tmps, hr, hj, hn, t, v, h => by
  simp only [V.reps] at hr
  obtain ⟨u, vs', rfl, h1, h2⟩ := hr
  simp only [paramsV, zaX] at h
  simp only [List.length_cons] at hn
  split at h <;> rename_i e
  ·cases h; subst e
   have := hj 0 (by simp)
   simp only [Nat.add_zero, List.getD_cons_zero] at this
   exact ⟨by omega, by rw [this]; exact h1⟩
  ·exact paramsV_look xs (i + 1) vs' tmps h2 (fun j hj' => by
    have := hj (j + 1) (by simpa using hj')
    rw [show i + 1 + j = i + (j + 1) by omega, this]; simp) (by omega) t v h
def ResV : St → List ResultVar → List V → Prop
 | _, [], vs => vs = []
 | s, .tmp t :: rs, vs => ∃ v vs', vs = v :: vs' ∧ look t s.T = some v ∧ ResV s rs vs'
 | _, .cell _ _ :: _, _ => False
def oneOrTupV : List V → V
 | [v] => v
 | vs => .tup vs
def retV (rs : List ResultVar) (K : V → List Blk → Prop) (e : Exit) (s : St) : Prop :=
 (e = .ret ∨ e = .normal) ∧ ∃ vs, ResV s rs vs ∧ K (oneOrTupV vs) s.H
theorem resV_runs {P : Program} {C : Ctx} {bs : List (Option Nat)} {s : St} {a : Act} {w : World} (hR : R C bs s a w) : ∀ (rs : List ResultVar) (xs : List V), ResV s rs xs →
  ∃ vs : List Value, (rs.mapM (resOne a.tmps)).run P w = .ok vs w ∧ V.reps (Own C.A0 bs) w bs s.H xs vs
 | [], xs, h => by simp only [ResV] at h; subst h; exact ⟨[], by simp, by simp [V.reps]⟩
 | .tmp t :: rs, xs, h => by
  simp only [ResV] at h
  obtain ⟨v, xs', rfl, h1, h3⟩ := h
  obtain ⟨vs, hr, hv⟩ := resV_runs (P := P) hR rs xs' h3
  refine ⟨a.tmps.getD t undef :: vs, ?_, ?_⟩
  ·simp only [List.mapM_cons, Sem.run_bind, resOne, Sem.run_pure, Result.andThen_ok, hr]
  ·simp only [V.reps]
   exact ⟨_, _, rfl, (hR.tmp t v h1).2, hv⟩
 | .cell _ _ :: _, _, h => by simp only [ResV] at h
theorem V.reps_length {A : Nat → Prop} {w : World} {bs : List (Option Nat)} {H : List Blk} : ∀ {xs : List V} {vs : List Value}, V.reps A w bs H xs vs → vs.length = xs.length
 | [], vs, h => by simp only [V.reps] at h; simp [h]
 | x :: xs, vs, h => by
  simp only [V.reps] at h
  obtain ⟨v, vs', rfl, _, h2⟩ := h
  simp [V.reps_length h2]
theorem resV_fin {P : Program} {C : Ctx} {bs : List (Option Nat)} {s : St} {a : Act} {w : World} {fn : Func} {xs : List V} (hR : R C bs s a w) (h : ResV s fn.results.toList xs) :
  ∃ u, (results fn a.tmps).run P w = .ok u w ∧ V.rep (Own C.A0 bs) w bs s.H (oneOrTupV xs) u := by
 obtain ⟨us, hrun, hreps⟩ := resV_runs (P := P) hR fn.results.toList xs h
 have hl := V.reps_length hreps
 have hm : (fn.results.mapM (resOne a.tmps)).run P w = .ok us.toArray w := by
  rw [← Array.toArray_toList (xs := fn.results), List.mapM_toArray]
  simp only [Sem.run_map, hrun, Result.andThen_ok]
 rw [results_eq]
 simp only [Sem.run_bind, hm, Result.andThen_ok, Sem.run_pure]
 refine ⟨_, rfl, ?_⟩
 match xs, us, hreps, hl with
 | [x], [u], hreps, _ =>
  simp only [V.reps] at hreps
  obtain ⟨_, _, e, h1, _⟩ := hreps
  simp only [List.cons.injEq] at e
  obtain ⟨rfl, _⟩ := e
  simpa [oneOrTupV] using h1
 | [], [], hreps, _ => simpa [V.rep, oneOrTupV] using hreps
 | d1 :: d2 :: ds, u1 :: u2 :: us, hreps, _ =>
  have hne : ¬ (u1 :: u2 :: us).toArray.size = 1 := by simp
  rw [dif_neg hne]
  simp only [V.rep, oneOrTupV]
  exact ⟨_, rfl, hreps⟩
structure CallV (P : Program) (o : Oper) (e : Operand → Option V) (f : FuncId) (xs : List V) : Prop where
 run : ∀ (A : Nat → Prop) (w : World) (bs : List (Option Nat)) (H : List Blk) (g : Operand → Value), (∀ x ∈ o.op.operands, ∀ y, e x = some y → V.rep A w bs H y (g x)) → (∀ k, g (.func k) = .func (.func k) #[] #[]) →
  ∃ vs : Array Value, (execOp g o).run P w = .ok (.enter f vs) w ∧ V.reps A w bs H xs vs.toList
theorem CallV.stat {P : Program} {o : Oper} {e : Operand → Option V} {f : FuncId} {args : Array Operand} {tys : Array TypeId} {xs : List V} (ho : o.op = .call { callee := .value (.func f), args := args, argTypes := tys }) (hc : callable P f = true)
  (ha : evsV e args.toList = some xs) : CallV P o e f xs := by
 refine ⟨fun A w bs H g hf hk => ⟨args.map g, ?_, ?_⟩⟩
 ·simp only [execOp, ho, resolve, hk, Deferred.ofValue, Sem.run_bind, Sem.run_pure, Result.andThen_ok, invoke]
  simpa using zbq hc (args.map g) w
 ·have := evsV_reps (A := A) (w := w) (bs := bs) (H := H) (f := g) ha (fun x hx => hf x (by simp [ho, Op.operands, Call.operands]; right; simpa using hx))
  simpa using this
theorem CallV.clos {P : Program} {o : Oper} {e : Operand → Option V} {x : Operand} {f : FuncId} {args : Array Operand} {tys : Array TypeId} {xs caps : List V} (ho : o.op = .call { callee := .value x, args := args, argTypes := tys }) (hx : e x = some (.fn (.func f) [] caps)) (hc : callable P f = true)
  (ha : evsV e args.toList = some xs) : CallV P o e f (xs ++ caps) := by
 refine ⟨fun A w bs H g hf hk => ?_⟩
 have h1 := hf x (by simp [ho, Op.operands, Call.operands]) _ hx
 simp only [V.rep] at h1
 obtain ⟨vs, us, hv, hr1, hr2⟩ := h1
 simp only [V.reps] at hr1
 have hvs : vs = #[] := by simpa using hr1
 subst hvs
 refine ⟨args.map g ++ us, ?_, ?_⟩
 ·simp only [execOp, ho, resolve, hv, Deferred.ofValue, Sem.run_bind, Sem.run_pure, Result.andThen_ok, invoke]
  simpa using zbq hc (args.map g ++ us) w
 ·have := evsV_reps (A := A) (w := w) (bs := bs) (H := H) (f := g) ha (fun x hx => hf x (by simp [ho, Op.operands, Call.operands]; right; simpa using hx))
  have := V.reps_append this hr2
  simpa using this
def vals (a : Act) : List (Nat × V) → List (Nat × V) → List (V × Value)
 | _, [] => []
 | T, (t, _) :: r => match look t T with | some v => (v, a.tmps.getD t undef) :: vals a T r | none => vals a T r
theorem vals_mem {a : Act} {T : List (Nat × V)} : ∀ {L : List (Nat × V)} {p : V × Value}, p ∈ vals a T L → ∃ t, look t T = some p.1 ∧ p.2 = a.tmps.getD t undef
 | [], p, h => by simp [vals] at h
 | (t, x) :: r, p, h => by
  simp only [vals] at h
  split at h <;> rename_i e
  ·rcases List.mem_cons.1 h with rfl | h
   ·exact ⟨t, e, rfl⟩
   ·exact vals_mem h
  ·exact vals_mem h
theorem mem_vals {a : Act} {T : List (Nat × V)} {t : Nat} {v : V} (ht : look t T = some v) : ∀ {L : List (Nat × V)} {x : V}, look t L = some x → (v, a.tmps.getD t undef) ∈ vals a T L
 | [], x, h => by simp [look] at h
 | (u, y) :: r, x, h => by
  simp only [zaX] at h
  simp only [vals]
  split at h <;> rename_i e
  ·subst e; simp [ht]
  ·have := mem_vals (a := a) ht h
   split
   ·exact List.mem_cons_of_mem _ this
   ·exact this
theorem look_under {T : List (Nat × V)} {n t : Nat} {v : V} (h : (T.all fun p => p.2.under n) = true) : look t T = some v → v.under n = true := by
 induction T with
 | nil => intro h; simp [look] at h
 | cons p L ih =>
  intro h5
  obtain ⟨c, x⟩ := p
  simp only [List.all_cons, Bool.and_eq_true] at h
  simp only [zaX] at h5
  split at h5
  ·cases h5; exact h.1
  ·exact ih h.2 h5
theorem TriL.inlineG {P : Program} {C : Ctx} {ops : Array Oper} {o : Oper} {rest : List Oper} {Q : Exit → St → Prop} {T : List (Nat × V)} {H : List Blk} {f : FuncId} {fn : Func} {c : Code} {xs : List V} {N : Nat} {rs : List ResultVar}
  (hg : o.guard = none) (hd : dstOK o.dst C.n = true) (hc : CallV P o (ev T) f xs) (hf : P.funcs[f]? = some fn) (hb : fn.body = some c) (hN : fn.ntmps = N) (hrs : fn.results = rs.toArray) (hn : Nat.ble xs.length N = true)
  (hu : (T.all fun p => p.2.under H.length) = true) (hgn : Nat.ble C.gn H.length = true)
  (h : ∀ (own0 : Nat → Prop) (w : World) (gh : List (V × Value)), (∀ b, C.own0 b → own0 b) → (∀ p ∈ C.gh, p ∈ gh) → Tri P ⟨C.A0, own0, w, N, fun _ _ => False, gh, H.length, []⟩ c (retV rs fun v H' => TriL P C ops rest Q ⟨putT T o.dst v, H'⟩) ⟨paramsV 0 xs, H⟩) : TriL P C ops (o :: rest) Q ⟨T, H⟩ := by
 subst hN
 have hgn := Nat.le_of_ble_eq_true hgn
 have hn := Nat.le_of_ble_eq_true hn
 refine ⟨fun bs a w hR => wpList_plain hg fun K hK => ?_⟩
 obtain ⟨vs, hrun, hvs⟩ := hc.run (Own C.A0 bs) w bs H a.eval (fun x _ y hx => hR.ev hx) (fun _ => rfl)
 unfold Oper.wp
 rw [hrun]
 simp only [Oper.upon]
 have hlen := V.reps_length hvs
 simp only [Array.length_toList] at hlen
 refine calls_of_wp hf hb ?_
 have h0 := h (fun b => C.own0 b ∨ some b ∈ bs) w (C.gh ++ vals a T T) (fun b hb => .inl hb) fun p hp => List.mem_append_left _ hp
 have hR0 : R ⟨C.A0, fun b => C.own0 b ∨ some b ∈ bs, w, fn.ntmps, fun _ _ => False, C.gh ++ vals a T T, H.length, []⟩ bs ⟨paramsV 0 xs, H⟩ { tmps := vs ++ Array.replicate (fn.ntmps - vs.size) undef, defers := [] } w := by
  have hsz : (vs ++ Array.replicate (fn.ntmps - vs.size) undef).size = fn.ntmps := by simp; omega
  refine ⟨hR.own, hR.len, hR.blk, fun t v hv => ?_, rfl, hsz, Fr.refl _ _, fun b hb => .inl (.inr hb), fun p hp => ?_⟩
  ·have := paramsV_look xs 0 vs.toList (vs ++ Array.replicate (fn.ntmps - vs.size) undef) hvs
    (fun j hj => by
     have hj' : j < vs.size := by simpa using hj
     simp [Array.getD_eq_getD_getElem?, Array.getElem?_append, hj', List.getD])
    (by rw [hsz]; simp; omega) t v hv
   rw [hsz] at this; exact this
  ·rcases List.mem_append.1 hp with hp | hp
   ·exact ⟨V.under_mono hgn _ (hR.gh p hp).1, (hR.gh p hp).2⟩
   ·obtain ⟨t, h1, h2⟩ := vals_mem hp
    exact ⟨look_under hu h1, by rw [h2]; exact (hR.tmp t _ h1).2⟩
 refine Code.wp_mono ?_ (h0.run bs _ w hR0)
 rintro e a' w' (⟨bs', s', ⟨he, ys, hres, hk⟩, hR'⟩ | ⟨_, hE⟩)
 case inr => exact hE.elim
 obtain ⟨u, hu1, hu2⟩ := resV_fin (P := P) (fn := fn) hR' (by rw [hrs]; exact hres)
 have hsz := hR'.fr.size
 have hRC : R C bs' ⟨T, s'.H⟩ a w' := by
  refine ⟨hR'.own, hR'.len, hR'.blk, fun t v hv => ⟨(hR.tmp t v hv).1, (hR'.gh _ (List.mem_append_right _ (mem_vals hv hv))).2⟩, hR.defers, hR.size, ?_, fun b hb => ?_, fun p hp => ⟨(hR.gh p hp).1, (hR'.gh p (List.mem_append_left _ hp)).2⟩⟩
  ·have f1 := hR'.fr
   refine ⟨f1.os.trans hR.fr.os, f1.tape.trans hR.fr.tape, f1.output.trans hR.fr.output, Nat.le_trans hR.fr.size f1.size, fun q hq hno => ?_, Nat.le_trans hR.fr.drawn f1.drawn⟩
   refine (f1.block q (Nat.lt_of_lt_of_le hq hR.fr.size) fun e => ?_).trans (hR.fr.block q hq hno)
   rcases e with e | e
   ·exact hno e
   ·rcases hR.new q e with e | e
    ·exact hno e
    ·omega
  ·rcases hR'.new b hb with (h1 | h1) | h1
   ·exact .inl h1
   ·exact hR.new b h1
   ·exact .inr (Nat.le_trans hR.fr.size h1)
 have hfin : K (a.put o.dst u) w' := by
  have := hRC.put (Fr.refl _ _) o.dst hd hu2
  rw [St.put_eq] at this
  exact hK _ _ (hk.run bs' _ _ this)
 rcases he with rfl | rfl
 ·exact ⟨hR'.defers, u, hu1, hfin⟩
 ·exact ⟨hR'.defers, u, hu1, hfin⟩
theorem TriL.inline {P : Program} {C : Ctx} {ops : Array Oper} {o : Oper} {rest : List Oper} {Q : Exit → St → Prop} {T : List (Nat × V)} {H : List Blk} {f : FuncId} {fn : Func} {c : Code} {xs : List V} {N : Nat} {rs : List ResultVar}
  (hg : o.guard = none) (hd : dstOK o.dst C.n = true) (hc : CallV P o (ev T) f xs) (hf : P.funcs[f]? = some fn) (hb : fn.body = some c) (hN : fn.ntmps = N) (hrs : fn.results = rs.toArray) (hn : Nat.ble xs.length N = true)
  (hu : (T.all fun p => p.2.under H.length) = true) (hgn : Nat.ble C.gn H.length = true)
  (h : ∀ (own0 : Nat → Prop) (w : World) (gh : List (V × Value)), Tri P ⟨C.A0, own0, w, N, fun _ _ => False, gh, H.length, []⟩ c (retV rs fun v H' => TriL P C ops rest Q ⟨putT T o.dst v, H'⟩) ⟨paramsV 0 xs, H⟩) : TriL P C ops (o :: rest) Q ⟨T, H⟩ :=
 TriL.inlineG hg hd hc hf hb hN hrs hn hu hgn fun own0 w gh _ _ => h own0 w gh
theorem TriL.eqNil {P : Program} {C : Ctx} {ops : Array Oper} {o : Oper} {rest : List Oper} {Q : Exit → St → Prop} {s : St} {t u el : TypeId} {x : Operand} {k : Nat} {xs : List D}
  (hg : o.guard = none) (hd : dstOK o.dst C.n = true) (ho : o.op = .binOp .eql t x (.const (.slice none 0 0)) u) (htu : P.underlying t = some (.slice el)) (hx : ev s.T x = some (.d (.sl k xs)))
  (kk : ∀ b : Bool, (b = true → xs = []) → TriL P C ops rest Q (s.put o.dst (.d (.bool b)))) : TriL P C ops (o :: rest) Q s := by
 refine ⟨fun bs a w hR => wpList_plain hg fun K hK => ?_⟩
 have h1 := hR.ev hx
 simp only [V.rep, D.rep] at h1
 obtain ⟨p, cap, hv, hcap, hr⟩ := h1
 have hrun : ∃ b : Bool, (b = true → xs = []) ∧ (execOp a.eval o).run P w = .ok (.value (.bool b)) w := by
  refine ⟨p.isNone, fun hp => ?_, ?_⟩
  ·rcases hr with hr | ⟨b, off, e, _⟩
   ·exact hr
   ·rw [e] at hp; simp at hp
  ·simp only [execOp, ho, hv]
   simp only [Act.eval]
   have hguard : (eqGuard BinOp.eql t x (Operand.const (Value.slice none 0 0)) (Value.slice p xs.length cap) (Value.slice none 0 0)).run P w = .ok () w := by simp [eqGuard]
   simp [hguard, Lib.run_eql_slice_nil w t el p xs.length cap 0 0 htu]
 obtain ⟨b, hb, hrun⟩ := hrun
 unfold Oper.wp
 rw [hrun]
 exact hK _ _ ((kk b hb).run bs _ _ (hR.put (Fr.refl _ _) o.dst hd (zk.2 rfl)))
def cloneCode (t : TypeId) : Code :=
  (Code.region 0 #[{ dst := some 2, op := Op.assign (Operand.const (Value.slice none 0 0)), type := t, pos := "slices.go:355", after := #[], guard := none }] false).seq
    (((Code.region 1 #[{ dst := some 3, op := Op.move (Operand.tmp 0), type := t, pos := "slices.go:357", after := #[], guard := none },
        { dst := some 4, op := Op.binOp BinOp.eql t (Operand.tmp 3) (Operand.const (Value.slice none 0 0)) t, type := 4, pos := "slices.go:357", after := #[{ on := 0, ground := Ground.data }], guard := none }] false).seq
      (Code.cond (Operand.tmp 4)
        ((Code.region 2 #[{ dst := some 2, op := Op.assign (Operand.const (Value.slice none 0 0)), type := t, pos := "slices.go:358", after := #[], guard := none }] false).seq Code.ret)
        Code.skip)).seq
    ((Code.region 3 #[{ dst := some 5, op := Op.buildSlice t 0 #[], type := t, pos := "slices.go:362", after := #[], guard := none },
        { dst := some 6, op := Op.move (Operand.tmp 0), type := t, pos := "slices.go:362", after := #[], guard := none },
        { dst := some 7, op := Op.call { callee := Callee.builtin Builtin.append, args := #[Operand.tmp 5, Operand.tmp 6], argTypes := #[t, t] }, type := t, pos := "slices.go:362", after := #[{ on := 0, ground := Ground.data }, { on := 1, ground := Ground.data }], guard := none },
        { dst := some 2, op := Op.assign (Operand.tmp 7), type := t, pos := "slices.go:362",
          after := #[{ on := 2, ground := Ground.data }, { on := 2, ground := Ground.chain }, { on := 0, ground := Ground.phase }, { on := 1, ground := Ground.phase }, { on := 2, ground := Ground.phase }], guard := none }] false).seq
      Code.ret))
theorem TriL.clone {P : Program} {C : Ctx} {ops : Array Oper} {o : Oper} {rest : List Oper} {Q : Exit → St → Prop} {T : List (Nat × V)} {H : List Blk} {f : FuncId} {fn : Func} {x : Operand} {tys : Array TypeId} {α : Type} {t el : TypeId} {k bytes d : Nat} {enc : α → D} {xs zs : List α}
  (hg : o.guard = none) (ho : o.op = .call { callee := .value (.func f), args := #[x], argTypes := tys }) (hd : o.dst = some d) (hdn : Nat.blt d C.n = true) (hcl : callable P f = true) (hf : P.funcs[f]? = some fn) (hbody : fn.body = some (cloneCode t)) (hN : fn.ntmps = 8) (hrs : fn.results = #[.tmp 2])
  (hx : ev T x = some (.d (.sl k (xs.map enc)))) (ht : zba P t el k bytes = true) (hb : Nat.blt 0 bytes = true) (hones : ∀ z, (enc z).ones = true) (hk : ∀ x, (enc x).kOK k = true) (hv : Go.Proofs.YtcagdmegicijlaaGreatDoor.app bytes [] xs = some zs)
  (hu : (T.all fun p => p.2.under H.length) = true) (hgn : Nat.ble C.gn H.length = true)
  (kk : TriL P C ops rest Q ⟨(d, .vec H.length zs.length) :: T, H ++ [.vec el k (zs.map enc)]⟩) : TriL P C ops (o :: rest) Q ⟨T, H⟩ := by
 have hz : zs = xs := by have := (appS hv).1; simpa using this
 have htu := (zbN ht).1
 have hlast : (H ++ [Blk.vec el k (List.map enc [])])[H.length]? = some (.vec el k (List.map enc [])) := by simp
 have hset : (H ++ [Blk.vec el k (List.map enc [])]).set H.length (.vec el k (zs.map enc)) = H ++ [.vec el k (zs.map enc)] := by simp
 refine TriL.inline (rs := [.tmp 2]) (xs := [.d (.sl k (xs.map enc))]) hg (by rw [hd]; simpa [dstOK] using hdn) (CallV.stat ho hcl (by simp [evsV, hx])) hf hbody hN hrs rfl hu hgn fun own0 w gh => ?_
 refine .seq (.region (.op rfl rfl (.assign rfl rfl) (.nil ?_)))
 refine .seq (.seq (.region (.op rfl rfl (.move rfl rfl) (.eqNil rfl rfl rfl htu rfl fun b hxs => .nil ?_))))
 refine .cond (t := b) rfl (fun hbt => ?_) (fun _ => .skip ?_)
 ·have hxs := hxs hbt
  have hxs : xs = [] := by simpa using hxs
  subst hxs
  subst hz
  refine .seq (.region (.op rfl rfl (.assign rfl rfl) (.nil ?_)))
  refine .nilVec 2 k el rfl (.ret ⟨.inl rfl, [.vec H.length 0], ⟨_, [], rfl, rfl, rfl⟩, ?_⟩)
  rw [hd]; exact kk
 ·refine .seq (.region (.buildVec (α := α) (enc := enc) [] rfl rfl rfl rfl rfl ht rfl hk (by simp [Nat.ble_eq]) ?_))
  refine .op rfl rfl (.move rfl rfl) ?_
  refine .app rfl rfl rfl rfl rfl hlast rfl rfl ht hb hones hv ?_
  refine .op rfl rfl (.assign rfl rfl) (.nil ?_)
  refine .ret ⟨.inl rfl, [.vec H.length zs.length], ⟨_, [], rfl, rfl, rfl⟩, ?_⟩
  rw [hd]
  simp only [oneOrTupV]
  rw [show ∀ (s : St), s.H = s.H from fun _ => rfl]
  simp only [St.put, hset]
  exact kk
def optD {α : Type} (enc : α → D) : Option α → D
 | none => .val (.pointer none)
 | some x => .ref (enc x)
theorem optD_of {α : Type} {enc : α → D} {o : Option α} {x : α} (h : o = some x) : optD enc o = .ref (enc x) := by rw [h]; rfl
theorem D.Le.ofEq {d d' : D} (h : d = d') : D.Le d d' := h ▸ .refl _
end Go.Proofs.YtcagdmegicijlaaGreatDoor
namespace Go.Proofs.YtcagdmegicijlaaGreatDoor
open Go Go.RowKit
variable [Globs]
theorem TriL.clearSub {P : Program} {C : Ctx} {ops : Array Oper} {o : Oper} {rest : List Oper} {Q : Exit → St → Prop} {T : List (Nat × V)} {H : List Blk} {α : Type} {t el : TypeId} {x : Operand} {i n lo hi k bytes : Nat} {enc : α → D} {l : List α} (z : α)
  (hg : o.guard = none) (ho : o.op = .call { callee := .builtin .clear, args := #[x], argTypes := #[t] }) (hd : o.dst = none) (he : zba P t el k bytes = true) (hx : ev T x = some (.sub i n lo hi)) (hi' : H[i]? = some (.vec el k (l.map enc))) (hn : n = l.length)
  (h1 : ∀ x, (enc x).ones = true) (hzd : ZeroD P el (enc z))
  (kk : TriL P C ops rest Q ⟨T, H.set i (.vec el k ((zcl l lo hi (List.replicate (hi - lo) z)).map enc))⟩) : TriL P C ops (o :: rest) Q ⟨T, H⟩ := by
 obtain ⟨htu, hk0, inf, zv, hinf, hz, hisz, hib, hzc⟩ := zbN he
 obtain ⟨z', hz1, hz2⟩ := hzd.out
 have : z' = zv := by unfold zbl at hz1; rw [hinf] at hz1; simp only [hz, Option.some.injEq] at hz1; exact hz1.symm
 subst this
 refine TriL.step hg (fun bs a w hR => ?_) kk
 have hxr := hR.ev hx
 simp only [V.rep, hi'] at hxr
 obtain ⟨hdr, cells, g1, g2, g3, glo, ghi, ad, cap, hp, hcap, hne⟩ := hxr.2 (by simpa using hn)
 obtain ⟨c, hc⟩ : ∃ c, c = hi - lo := ⟨_, rfl⟩
 obtain ⟨scells, hsc⟩ : ∃ s : List Value, s = (madeCells z'.cells (c * k)).toList := ⟨_, rfl⟩
 have hsf : D.flat (Own C.A0 bs) w k ((List.replicate c z).map enc) scells := by
  rw [hsc, List.map_replicate]; exact flat_made (hz2 _ _) hzc hk0 c
 have hckl : scells.length = c * k := by rw [hsc, Array.length_toList, size_madeCells]
 have hone : ∀ v ∈ scells, v.oneCell' = true := D.flat_ones (fun q hq => by
  obtain ⟨q', _, rfl⟩ := List.mem_map.1 hq; exact h1 q') hsf
 have hzcell : (Builtin.zeroCells z'.cells c).toList = scells := by
  rw [hsc]; simp only [Builtin.zeroCells, madeCells, hzc]
 have hzv : (zeroValue el).run P w = .ok z' w := by simp [zeroValue, typeInfo, hinf, hz]
 by_cases h0 : 0 < c
 ·obtain ⟨b, hb, rfl⟩ := hne (by omega)
  rcases g1.2 with ⟨rfl, _⟩ | ⟨g, cp, cur, rfl, _, hheap, hnc, hcm, hcs, htake⟩
  ·simp [Value.ownBlock] at hb
  obtain rfl : g = b := by simpa [Value.ownBlock] using hb
  have hnk : n * k ≤ cp * k := Nat.mul_le_mul_right _ hnc
  have hlock : lo * k + c * k ≤ n * k := by rw [← Nat.add_mul]; exact Nat.mul_le_mul_right _ (by omega)
  have hst := run_storeCells_at P g (lo * k) el scells 0 cur w hheap (by rw [hckl, hcs]; omega) hone
  simp only [Nat.add_zero, hckl] at hst
  obtain ⟨new, hnew⟩ : ∃ new : Array Value, new = (cur.toList.take (lo * k) ++ scells ++ cur.toList.drop (lo * k + c * k)).toArray := ⟨_, rfl⟩
  rw [← hnew] at hst
  have hex : (execOp a.eval o).run P w = .ok (.value (.tuple #[])) (w.setRow g new) := by
   simp only [execOp, ho, resolve, invoke, builtin]
   rw [← hc] at hp
   obtain ⟨m, rfl⟩ : ∃ m, c = m + 1 := ⟨c - 1, by omega⟩
   simp [hp, Builtin.clear_, run_underlying htu, hzv, hzcell, hst]
  have hnsz : new.size = cur.size := by
   rw [hnew]
   simp only [List.size_toArray, List.length_append, List.length_take, List.length_drop, Array.length_toList, hckl, hcs]
   omega
  have hcopy : (zcl l lo hi (List.replicate (hi - lo) z)).map enc = (l.map enc).take lo ++ ((List.replicate c z).map enc ++ (l.map enc).drop (lo + c)) := by
   have e1 : (List.replicate c z).take c = List.replicate c z := List.take_of_length_le (by simp)
   simp only [zcl, ← hc, e1, List.length_replicate, Nat.min_self, List.map_append, List.map_take, List.map_drop]
  have hflat : D.flat (Own C.A0 bs) w k ((zcl l lo hi (List.replicate (hi - lo) z)).map enc) (new.toList.take ((l.map enc).length * k)) := by
   rw [hcopy]
   have t1 := (D.flat_split lo g3).1
   have t3 := (D.flat_split (lo + c) g3).2
   have := flat_append3 t1 hsf t3
   have e2 : new.toList.take ((l.map enc).length * k) = cells.take (lo * k) ++ (scells ++ cells.drop ((lo + c) * k)) := by
    rw [hnew, List.length_map, ← hn, ← htake]
    simp only [List.toList_toArray, List.append_assoc]
    have l1 : (cur.toList.take (lo * k)).length = lo * k := by rw [List.length_take, Array.length_toList, hcs]; omega
    rw [take3 l1 hckl hlock, List.take_take, Nat.min_eq_left (by omega), List.drop_take, Nat.add_mul, Nat.sub_sub]
   rw [e2]; exact this
  have hT := hR.vecTurn hi' (by rw [g2]; rfl) hheap hnsz (by simp [zch glo (by omega : hi ≤ l.length)]) hflat (by simp; omega)
  refine ⟨_, _, bs, hex, .inl ⟨_, rfl, ?_⟩⟩
  rw [hd]; exact hT
 ·have hc0 : c = 0 := by omega
  have hcopy : zcl l lo hi (List.replicate (hi - lo) z) = l := by
   simp only [zcl, ← hc, hc0, List.replicate_zero, List.take_nil, List.nil_append, List.length_nil, Nat.min_self, Nat.add_zero, List.take_append_drop]
  have hex : (execOp a.eval o).run P w = .ok (.value (.tuple #[])) w := by
   simp only [execOp, ho, resolve, invoke, builtin]
   rw [← hc, hc0] at hp
   cases ad <;> simp [hp, Builtin.clear_, run_underlying htu]
  refine ⟨_, _, bs, hex, .inl ⟨_, rfl, ?_⟩⟩
  rw [hd, hcopy]
  have : H.set i (.vec el k (l.map enc)) = H := by
   obtain ⟨q1, q2⟩ := List.getElem?_eq_some_iff.1 hi'
   rw [← q2, List.set_getElem_self]
  rw [this]; exact hR
theorem FrzI.subM {H : List Blk} {ids : List Nat} {i n lo hi : Nat} {t : TypeId} {k : Nat} {α : Type} {l : List α} {enc : α → D} (h1 : i ∈ ids) (h2 : H[i]? = some (.vec t k (l.map enc))) (h3 : n = l.length) : FrzI H ids (.sub i n lo hi) (.sl k (((l.drop lo).take (hi - lo)).map enc)) := by
 have := FrzI.sub (lo := lo) (hi := hi) h1 h2 (by simpa using h3)
 rw [List.map_take, List.map_drop]; exact this
end Go.Proofs.YtcagdmegicijlaaGreatDoor
namespace Go.Proofs.YtcagdmegicijlaaGreatDoor
open Go Go.RowKit
variable [Globs]
structure IsIdxByte (P : Program) (f : FuncId) : Prop where
 out : ∃ fn, P.funcs[f]? = some fn ∧ (fn.name == "runtime.NumGoroutine") = false ∧ fn.body.isNone = true ∧ Extern.findNext fn = none ∧ Extern.find fn = some Extern.BytealgIndexByte.indexByte
theorem OpV.idxByte {P : Program} {o : Oper} {e : Operand → Option V} {H : List Blk} {f : FuncId} {x y : Operand} {tys : Array TypeId} {l : List UInt8} {c : Int} (ho : o.op = .call { callee := .value (.func f), args := #[x, y], argTypes := tys }) (hf : IsIdxByte P f)
  (hx : e x = some (.d (.str l))) (hy : e y = some (.d (.val (.int .u8 c)))) : OpV P o e H (.d (.int (Lib.indexByte l c.toNat.toUInt8))) := by
 obtain ⟨fn, h1, h2, h3, h4, h5⟩ := hf.out
 refine ⟨fun A0 bs w g m hg _ hk => ?_⟩
 have e1 := zk.1 (hg x (by simp [ho, Op.operands, Call.operands]) _ hx)
 have e2 := zk.1 (hg y (by simp [ho, Op.operands, Call.operands]) _ hy)
 have hrun : (execOp g o).run P w = .ok (.value (.int .i64 (Lib.indexByte l c.toNat.toUInt8))) w := by
  have h := run_callFunc_extern h1 h2 h3 h4 h5 #[.string ⟨l.toArray⟩, .int .u8 c] w
  rw [Lib.run_indexByteString] at h
  simp only [execOp, ho, resolve, hk, Deferred.ofValue, Sem.run_bind, Sem.run_pure, Result.andThen_ok, invoke]
  simpa [e1, e2] using h
 rw [hrun]
 exact ⟨Fr.refl _ _, zk.2 rfl⟩
end Go.Proofs.YtcagdmegicijlaaGreatDoor
namespace Go.Proofs.YtcagdmegicijlaaGreatDoor
open Go Go.RowKit
def tab0 : List Int := [0, 0, 0, 0, 0, 0, 0, 0, 0, 1, 1, 1, 1, 1, 0, 0, 0, 0, 0, 0, 0, 0, 0, 0, 0, 0, 0, 0, 0, 0, 0, 0, 1, 0, 0, 0, 0, 0, 0, 0, 0, 0, 0, 0, 0, 0, 0, 0, 0, 0, 0, 0, 0, 0, 0, 0, 0, 0, 0, 0, 0, 0, 0, 0, 0, 0, 0, 0, 0, 0, 0, 0, 0, 0, 0, 0, 0, 0, 0, 0, 0, 0, 0, 0, 0, 0, 0, 0, 0, 0, 0, 0, 0, 0, 0, 0, 0, 0, 0, 0, 0, 0, 0, 0, 0, 0, 0, 0, 0, 0, 0, 0, 0, 0, 0, 0, 0, 0, 0, 0, 0, 0, 0, 0, 0, 0, 0, 0, 0, 0, 0, 0, 0, 0, 0, 0, 0, 0, 0, 0, 0, 0, 0, 0, 0, 0, 0, 0, 0, 0, 0, 0, 0, 0, 0, 0, 0, 0, 0, 0, 0, 0, 0, 0, 0, 0, 0, 0, 0, 0, 0, 0, 0, 0, 0, 0, 0, 0, 0, 0, 0, 0, 0, 0, 0, 0, 0, 0, 0, 0, 0, 0, 0, 0, 0, 0, 0, 0, 0, 0, 0, 0, 0, 0, 0, 0, 0, 0, 0, 0, 0, 0, 0, 0, 0, 0, 0, 0, 0, 0, 0, 0, 0, 0, 0, 0, 0, 0, 0, 0, 0, 0, 0, 0, 0, 0, 0, 0, 0, 0, 0, 0, 0, 0, 0, 0, 0, 0, 0, 0, 0, 0, 0, 0, 0, 0]
instance globs : Globs := ⟨[(0, .cells (tab0.map (Value.int .u8)).toArray 274 (0, 0))]⟩
theorem gm0 : (0, Obj.cells (tab0.map (Value.int .u8)).toArray 274 (0, 0)) ∈ Globs.gs := List.mem_cons_self
theorem tl0 : 256 = tab0.length := by decide +kernel
end Go.Proofs.YtcagdmegicijlaaGreatDoor
namespace Go.Proofs.YtcagdmegicijlaaGreatDoor
open Go Go.RowKit
theorem I.{u} {α : Sort u} {a : α} : a = a := rfl
theorem Looks.c {T : List (Nat × V)} {k : Nat} {v : V} {ks : List Nat} {K : List (Nat × V)} (h : look k T = some v) (r : Looks T ks K) : Looks T (k :: ks) ((k, v) :: K) := .cons h r
theorem bK {α R : Type} {o : Option α} {k : α → Option R} {r : R} {G : Prop} (h : o.bind k = some r) (f : ∀ v, o = some v → k v = some r → G) : G := by
 obtain ⟨v, h1, h2⟩ := bindS h
 exact f v h1 h2
theorem gK {R : Type} {c : Bool} {m : Option R} {r : R} {G : Prop} (h : grd c m = some r) (f : c = true → m = some r → G) : G := f (grdS h).1 (grdS h).2
theorem Pure.ot [Globs] {P : Program} {f : FuncId} {fn : Func} {c : Code} {xs : List D} {y : D} {m : Nat} (hf : P.funcs[f]? = some fn) (hb : fn.body = some c) (hm : fn.ntmps = m) (hn : Nat.ble xs.length m = true)
  (h : ∀ A w, Tri P ⟨A, ze, w, m, fun _ _ => False, [], 0, []⟩ c (retQ P fn.results y) ⟨params 0 xs, []⟩) : Pure P f xs y := by
 subst hm
 exact Pure.of_tri hf hb (Nat.le_of_ble_eq_true hn) h
theorem Looks.c2 {T : List (Nat × V)} {k0 k1 : Nat} {v0 v1 : V} {ks : List Nat} {K : List (Nat × V)} (h : (look k0 T, look k1 T) = (some v0, some v1)) (r : Looks T ks K) : Looks T (k0 :: k1 :: ks) ((k0, v0) :: (k1, v1) :: K) := by simp only [Prod.mk.injEq] at h; exact .cons h.1 (.cons h.2 r)
theorem Looks.c4 {T : List (Nat × V)} {k0 k1 k2 k3 : Nat} {v0 v1 v2 v3 : V} {ks : List Nat} {K : List (Nat × V)} (h : (look k0 T, look k1 T, look k2 T, look k3 T) = (some v0, some v1, some v2, some v3)) (r : Looks T ks K) : Looks T (k0 :: k1 :: k2 :: k3 :: ks) ((k0, v0) :: (k1, v1) :: (k2, v2) :: (k3, v3) :: K) := by simp only [Prod.mk.injEq] at h; exact .cons h.1 (.cons h.2.1 (.cons h.2.2.1 (.cons h.2.2.2 r)))
theorem Looks.c8 {T : List (Nat × V)} {k0 k1 k2 k3 k4 k5 k6 k7 : Nat} {v0 v1 v2 v3 v4 v5 v6 v7 : V} {ks : List Nat} {K : List (Nat × V)} (h : (look k0 T, look k1 T, look k2 T, look k3 T, look k4 T, look k5 T, look k6 T, look k7 T) = (some v0, some v1, some v2, some v3, some v4, some v5, some v6, some v7)) (r : Looks T ks K) : Looks T (k0 :: k1 :: k2 :: k3 :: k4 :: k5 :: k6 :: k7 :: ks) ((k0, v0) :: (k1, v1) :: (k2, v2) :: (k3, v3) :: (k4, v4) :: (k5, v5) :: (k6, v6) :: (k7, v7) :: K) := by simp only [Prod.mk.injEq] at h; exact .cons h.1 (.cons h.2.1 (.cons h.2.2.1 (.cons h.2.2.2.1 (.cons h.2.2.2.2.1 (.cons h.2.2.2.2.2.1 (.cons h.2.2.2.2.2.2.1 (.cons h.2.2.2.2.2.2.2 r)))))))
theorem Fz1.{u} {α : Sort u} {a b : α} {R : Prop} (h : a = b) (r : R) : a = b ∧ R := ⟨h, r⟩
theorem Fz2 {α0 α1 : Type} {a0 b0 : α0} {a1 b1 : α1} {R : Prop} (h : (a0, a1) = (b0, b1)) (r : R) : a0 = b0 ∧ a1 = b1 ∧ R := by simp only [Prod.mk.injEq] at h; exact ⟨h.1, h.2, r⟩
theorem Fz4 {α0 α1 α2 α3 : Type} {a0 b0 : α0} {a1 b1 : α1} {a2 b2 : α2} {a3 b3 : α3} {R : Prop} (h : (a0, a1, a2, a3) = (b0, b1, b2, b3)) (r : R) : a0 = b0 ∧ a1 = b1 ∧ a2 = b2 ∧ a3 = b3 ∧ R := by simp only [Prod.mk.injEq] at h; exact ⟨h.1, h.2.1, h.2.2.1, h.2.2.2, r⟩
theorem Fz8 {α0 α1 α2 α3 α4 α5 α6 α7 : Type} {a0 b0 : α0} {a1 b1 : α1} {a2 b2 : α2} {a3 b3 : α3} {a4 b4 : α4} {a5 b5 : α5} {a6 b6 : α6} {a7 b7 : α7} {R : Prop} (h : (a0, a1, a2, a3, a4, a5, a6, a7) = (b0, b1, b2, b3, b4, b5, b6, b7)) (r : R) : a0 = b0 ∧ a1 = b1 ∧ a2 = b2 ∧ a3 = b3 ∧ a4 = b4 ∧ a5 = b5 ∧ a6 = b6 ∧ a7 = b7 ∧ R := by simp only [Prod.mk.injEq] at h; exact ⟨h.1, h.2.1, h.2.2.1, h.2.2.2.1, h.2.2.2.2.1, h.2.2.2.2.2.1, h.2.2.2.2.2.2.1, h.2.2.2.2.2.2.2, r⟩
variable [Globs]
theorem TriL.p {P : Program} {C : Ctx} {ops : Array Oper} {o : Oper} {rest : List Oper} {Q : Exit → St → Prop} {s : St} {v : V} (h : (o.guard, dstOK o.dst C.n) = (none, true)) (hv : OpV P o (ev s.T) s.H v) (k : TriL P C ops rest Q (s.put o.dst v)) : TriL P C ops (o :: rest) Q s := by
 simp only [Prod.mk.injEq] at h
 exact .op h.1 h.2 hv k
theorem Tri.sr {P : Program} {C : Ctx} {Q : Exit → St → Prop} {s : St} {id : Nat} {l : List Oper} {y : Code} (h : TriL P C l.toArray l (thenQ (Tri P C y Q) Q) s) : Tri P C (.seq (.region id l.toArray false) y) Q s := .seq (.region h)
section
variable {P : Program} {n : Nat} {ops : Array Oper} {H : List Blk} {o : Oper} {rest : List Oper} {al : List Ev} {T : List (Nat × V)} {K : List Ev → List (Nat × V) → Prop}
theorem TriQ.p {d : Nat} {v : V} (h : (o.guard, o.dst, Nat.blt d n, zai o) = (none, some d, true, false)) (hv : OpV P o (ev T) H v) (k : TriQ P n ops H rest al ((d, v) :: T) K) : TriQ P n ops H (o :: rest) al T K := by
 simp only [Prod.mk.injEq] at h
 exact .op h.1 h.2.1 h.2.2.1 h.2.2.2 hv k
theorem TriQ.q {d : Nat} {v : V} {j g : Nat} {want : Bool} (h : (o.guard, (ops[j]?).bind (·.dst), look g T, o.dst, Nat.blt d n, zai o) = (some (j, want), some g, some (.d (.bool want)), some d, true, false)) (hv : OpV P o (ev T) H v)
  (k : TriQ P n ops H rest al ((d, v) :: T) K) : TriQ P n ops H (o :: rest) al T K := by
 simp only [Prod.mk.injEq] at h
 exact .gop h.1 h.2.1 h.2.2.1 h.2.2.2.1 h.2.2.2.2.1 h.2.2.2.2.2 hv k
end
variable {P : Program} {o : Oper} {e : Operand → Option V} {H : List Blk}
theorem OpV.mv {x : Operand} {v : V} (h : (o.op, e x) = (.move x, some v)) : OpV P o e H v := by
 simp only [Prod.mk.injEq] at h
 exact .move h.1 h.2
theorem OpV.asg {x : Operand} {v : V} (h : (o.op, e x) = (.assign x, some v)) : OpV P o e H v := by
 simp only [Prod.mk.injEq] at h
 exact .assign h.1 h.2
theorem OpV.nt {t : TypeId} {x : Operand} {b : Bool} (h : (o.op, e x) = (.unOp .not t x, some (.d (.bool b)))) : OpV P o e H (.d (.bool !b)) := by
 simp only [Prod.mk.injEq] at h
 exact .not h.1 h.2
theorem OpV.bx {t : TypeId} {x : Operand} {d : D} (h : (o.op, e x) = (.box t x, some (.d d))) : OpV P o e H (.d (.ref d)) := by
 simp only [Prod.mk.injEq] at h
 exact .box h.1 h.2
theorem OpV.ad {t u : TypeId} {x y : Operand} {a b : Int} (h : (o.op, e x, e y) = (.binOp .add t x y u, some (.d (.int a)), some (.d (.int b)))) : OpV P o e H (.d (.int (add64 a b))) := by
 simp only [Prod.mk.injEq] at h
 exact .add6 h.1 h.2.1 h.2.2
theorem OpV.sb {t u : TypeId} {x y : Operand} {a b : Int} (h : (o.op, e x, e y) = (.binOp .sub t x y u, some (.d (.int a)), some (.d (.int b)))) : OpV P o e H (.d (.int (sub64 a b))) := by
 simp only [Prod.mk.injEq] at h
 exact .sub6 h.1 h.2.1 h.2.2
theorem OpV.ml {t u : TypeId} {x y : Operand} {a b : Int} (h : (o.op, e x, e y) = (.binOp .mul t x y u, some (.d (.int a)), some (.d (.int b)))) : OpV P o e H (.d (.int (mul64 a b))) := by
 simp only [Prod.mk.injEq] at h
 exact .mul6 h.1 h.2.1 h.2.2
theorem OpV.ls {t u : TypeId} {x y : Operand} {k : IntKind} {a b : Int} (h : (o.op, e x, e y) = (.binOp .lss t x y u, some (.d (.val (.int k a))), some (.d (.val (.int k b))))) : OpV P o e H (.d (.bool (decide (a < b)))) := by
 simp only [Prod.mk.injEq] at h
 exact .lss h.1 h.2.1 h.2.2
theorem OpV.le {t u : TypeId} {x y : Operand} {k : IntKind} {a b : Int} (h : (o.op, e x, e y) = (.binOp .leq t x y u, some (.d (.val (.int k a))), some (.d (.val (.int k b))))) : OpV P o e H (.d (.bool (decide (a ≤ b)))) := by
 simp only [Prod.mk.injEq] at h
 exact .leq h.1 h.2.1 h.2.2
theorem OpV.gt {t u : TypeId} {x y : Operand} {k : IntKind} {a b : Int} (h : (o.op, e x, e y) = (.binOp .gtr t x y u, some (.d (.val (.int k a))), some (.d (.val (.int k b))))) : OpV P o e H (.d (.bool (decide (b < a)))) := by
 simp only [Prod.mk.injEq] at h
 exact .gtr h.1 h.2.1 h.2.2
theorem OpV.ge {t u : TypeId} {x y : Operand} {k : IntKind} {a b : Int} (h : (o.op, e x, e y) = (.binOp .geq t x y u, some (.d (.val (.int k a))), some (.d (.val (.int k b))))) : OpV P o e H (.d (.bool (decide (b ≤ a)))) := by
 simp only [Prod.mk.injEq] at h
 exact .geq h.1 h.2.1 h.2.2
theorem OpV.eq {t u : TypeId} {x y : Operand} {k : IntKind} {a b : Int} (h : (o.op, e x, e y) = (.binOp .eql t x y u, some (.d (.val (.int k a))), some (.d (.val (.int k b))))) : OpV P o e H (.d (.bool (a == b))) := by
 simp only [Prod.mk.injEq] at h
 exact .eql h.1 h.2.1 h.2.2
theorem OpV.ne {t u : TypeId} {x y : Operand} {k : IntKind} {a b : Int} (h : (o.op, e x, e y) = (.binOp .neq t x y u, some (.d (.val (.int k a))), some (.d (.val (.int k b))))) : OpV P o e H (.d (.bool (a != b))) := by
 simp only [Prod.mk.injEq] at h
 exact .neq h.1 h.2.1 h.2.2
theorem OpV.fa {t : TypeId} {x : Operand} {i : Nat} {a b : D} (h : (o.op, e x) = (.fieldAddr t x i, some (.d (.ref a)))) (hf : Fld P t i a b) : OpV P o e H (.d (.ref b)) := by
 simp only [Prod.mk.injEq] at h
 exact .fieldAddr h.1 h.2 hf
theorem OpV.ld {t : TypeId} {x : Operand} {d : D} {k : Option Nat} (ht : zA P t = some k) (h : (o.op, e x, d.shape) = (.load t x, some (.d (.ref d)), k)) : OpV P o e H (.d d) := by
 simp only [Prod.mk.injEq] at h
 exact .load h.1 h.2.1 ht h.2.2
theorem OpV.ix {α : Type} {t el : TypeId} {x i : Operand} {k : Nat} {l : List α} {enc : α → D} {a : Int} {v : α} (h : (o.op, e x, e i) = (.indexAddr t x i, some (.d (.sl k (l.map enc))), some (.d (.int a))))
  (ht : P.underlying t = some (.slice el)) (hs : (P.info? el).map (·.size) = some k) (hv : Go.Proofs.YtcagdmegicijlaaGreatDoor.idx l a = some v) : OpV P o e H (.d (.ref (enc v))) := by
 simp only [Prod.mk.injEq] at h
 exact .idx h.1 h.2.1 h.2.2 ht hs hv
section
variable {P : Program} {C : Ctx} {ops : Array Oper} {o o' : Oper} {rest : List Oper} {Q : Exit → St → Prop} {s : St} {v : V} {x y : Operand} {t u : TypeId} {i : Nat} {a b : D} {k : Option Nat}
theorem TriL.m (h : (o.guard, dstOK o.dst C.n, o.op, ev s.T x) = (none, true, .move x, some v)) (r : TriL P C ops rest Q (s.put o.dst v)) : TriL P C ops (o :: rest) Q s := by
 simp only [Prod.mk.injEq] at h
 exact .op h.1 h.2.1 (.move h.2.2.1 h.2.2.2) r
theorem TriL.z (h : (o.guard, dstOK o.dst C.n, o.op, ev s.T x) = (none, true, .assign x, some v)) (r : TriL P C ops rest Q (s.put o.dst v)) : TriL P C ops (o :: rest) Q s := by
 simp only [Prod.mk.injEq] at h
 exact .op h.1 h.2.1 (.assign h.2.2.1 h.2.2.2) r
theorem TriL.f (h : (o.guard, dstOK o.dst C.n, o.op, ev s.T x) = (none, true, .fieldAddr t x i, some (.d (.ref a)))) (hf : Fld P t i a b) (ht : zA P u = some k)
  (h' : (o'.guard, dstOK o'.dst C.n, o'.op, ev (s.put o.dst (.d (.ref b))).T y, b.shape) = (none, true, .load u y, some (.d (.ref b)), k)) (r : TriL P C ops rest Q ((s.put o.dst (.d (.ref b))).put o'.dst (.d b))) : TriL P C ops (o :: o' :: rest) Q s := by
 simp only [Prod.mk.injEq] at h h'
 exact .op h.1 h.2.1 (.fieldAddr h.2.2.1 h.2.2.2 hf) (.op h'.1 h'.2.1 (.load h'.2.2.1 h'.2.2.2.1 ht h'.2.2.2.2) r)
end
section
variable {P : Program} {n : Nat} {ops : Array Oper} {H : List Blk} {l : List Oper} {p o o' : Oper} {rest : List Oper} {al : List Ev} {T : List (Nat × V)} {K : List Ev → List (Nat × V) → Prop} {x y : Operand} {v : V} {d d' j j' g g' r i : Nat} {w w' bo b2 : Bool} {t u : TypeId} {a b : D} {k : Option Nat}
theorem TriQ.m (h : (o.guard, o.dst, Nat.blt d n, o.op, ev T x) = (none, some d, true, .move x, some v)) (r : TriQ P n ops H rest al ((d, v) :: T) K) : TriQ P n ops H (o :: rest) al T K := by
 simp only [Prod.mk.injEq] at h
 exact .op h.1 h.2.1 h.2.2.1 (by simp [zai, h.2.2.2.1]) (.move h.2.2.2.1 h.2.2.2.2) r
theorem TriQ.z (h : (o.guard, o.dst, Nat.blt d n, o.op, ev T x) = (none, some d, true, .assign x, some v)) (r : TriQ P n ops H rest al ((d, v) :: T) K) : TriQ P n ops H (o :: rest) al T K := by
 simp only [Prod.mk.injEq] at h
 exact .op h.1 h.2.1 h.2.2.1 (by simp [zai, h.2.2.2.1]) (.assign h.2.2.2.1 h.2.2.2.2) r
theorem TriQ.f (h : (o.guard, o.dst, Nat.blt d n, o.op, ev T x) = (none, some d, true, .fieldAddr t x i, some (.d (.ref a)))) (hf : Fld P t i a b) (ht : zA P u = some k)
  (h' : (o'.guard, o'.dst, Nat.blt d' n, o'.op, ev ((d, .d (.ref b)) :: T) y, b.shape) = (none, some d', true, .load u y, some (.d (.ref b)), k)) (r : TriQ P n ops H rest al ((d', .d b) :: (d, .d (.ref b)) :: T) K) : TriQ P n ops H (o :: o' :: rest) al T K := by
 simp only [Prod.mk.injEq] at h h'
 exact .op h.1 h.2.1 h.2.2.1 (by simp [zai, h.2.2.2.1]) (.fieldAddr h.2.2.2.1 h.2.2.2.2 hf) (.op h'.1 h'.2.1 h'.2.2.1 (by simp [zai, h'.2.2.2.1]) (.load h'.2.2.2.1 h'.2.2.2.2.1 ht h'.2.2.2.2.2) r)
theorem TriQ.qm (h : (o.guard, (ops[j]?).bind (·.dst), look g T, o.dst, Nat.blt d n, o.op, ev T x) = (some (j, w), some g, some (.d (.bool w)), some d, true, .move x, some v)) (r : TriQ P n ops H rest al ((d, v) :: T) K) : TriQ P n ops H (o :: rest) al T K := by
 simp only [Prod.mk.injEq] at h
 exact .gop h.1 h.2.1 h.2.2.1 h.2.2.2.1 h.2.2.2.2.1 (by simp [zai, h.2.2.2.2.2.1]) (.move h.2.2.2.2.2.1 h.2.2.2.2.2.2) r
theorem TriQ.qf (h : (o.guard, (ops[j]?).bind (·.dst), look g T, o.dst, Nat.blt d n, o.op, ev T x) = (some (j, w), some g, some (.d (.bool w)), some d, true, .fieldAddr t x i, some (.d (.ref a)))) (hf : Fld P t i a b) (ht : zA P u = some k)
  (h' : (o'.guard, (ops[j']?).bind (·.dst), look g' ((d, .d (.ref b)) :: T), o'.dst, Nat.blt d' n, o'.op, ev ((d, .d (.ref b)) :: T) y, b.shape) = (some (j', w'), some g', some (.d (.bool w')), some d', true, .load u y, some (.d (.ref b)), k)) (r : TriQ P n ops H rest al ((d', .d b) :: (d, .d (.ref b)) :: T) K) : TriQ P n ops H (o :: o' :: rest) al T K := by
 simp only [Prod.mk.injEq] at h h'
 exact .gop h.1 h.2.1 h.2.2.1 h.2.2.2.1 h.2.2.2.2.1 (by simp [zai, h.2.2.2.2.2.1]) (.fieldAddr h.2.2.2.2.2.1 h.2.2.2.2.2.2 hf) (.gop h'.1 h'.2.1 h'.2.2.1 h'.2.2.2.1 h'.2.2.2.2.1 (by simp [zai, h'.2.2.2.2.2.1]) (.load h'.2.2.2.2.2.1 h'.2.2.2.2.2.2.1 ht h'.2.2.2.2.2.2.2) r)
theorem TriQ.jA (m : Nat) (b2 : Bool) (h : (l.drop m, p.op, look g T, skipsB ops n g true (l.take m) [], p.guard, p.dst, Nat.blt d n) = (p :: rest, .pick (.tmp g) (.tmp r) (.const (.bool false)), some (.d (.bool bo)), true, none, some d, true))
  (h1 : bo = true → TriQ P n ops H (l.take m) al ((g, .d (.bool true)) :: T) (fun _ T' => look r T' = some (.d (.bool b2))))
  (h2 : TriQ P n ops H rest al ((d, .d (.bool (bo && b2))) :: junks (dsts (l.take m)) T) K) : TriQ P n ops H l al T K := by
 simp only [Prod.mk.injEq] at h
 exact .jAnd m h.1 h.2.1 h.2.2.1 h.2.2.2.1 (.inl h.2.2.2.2.1) (fun _ _ _ q => by rw [h.2.2.2.2.1] at q; cases q) h.2.2.2.2.2.1 h.2.2.2.2.2.2 h1 h2
theorem TriQ.jO (m : Nat) (b2 : Bool) (h : (l.drop m, p.op, look g T, skipsB ops n g false (l.take m) [], p.guard, p.dst, Nat.blt d n) = (p :: rest, .pick (.tmp g) (.const (.bool true)) (.tmp r), some (.d (.bool bo)), true, none, some d, true))
  (h1 : bo = false → TriQ P n ops H (l.take m) al ((g, .d (.bool false)) :: T) (fun _ T' => look r T' = some (.d (.bool b2))))
  (h2 : TriQ P n ops H rest al ((d, .d (.bool (bo || b2))) :: junks (dsts (l.take m)) T) K) : TriQ P n ops H l al T K := by
 simp only [Prod.mk.injEq] at h
 exact .jOr m h.1 h.2.1 h.2.2.1 h.2.2.2.1 (.inl h.2.2.2.2.1) (fun _ _ _ q => by rw [h.2.2.2.2.1] at q; cases q) h.2.2.2.2.2.1 h.2.2.2.2.2.2 h1 h2
end
theorem rO {R : Type} {P : Program} {t : Tmp} {e r : R} {enc : R → D} {s : St} (h : some e = some r) (hl : look t s.T = some (.d (enc e))) : retQ P #[.tmp t] (enc r) .ret s := by
 cases h
 exact zbw hl (.d _)
end Go.Proofs.YtcagdmegicijlaaGreatDoor
namespace Go.Proofs.YtcagdmegicijlaaGreatDoor
open Go Go.RowKit
theorem IB271 : IsIdxByte Tryz.prog 271 := ⟨_, Tryz.func271, by kernel_rfl, by kernel_rfl, by kernel_rfl, by kernel_rfl⟩
theorem U3 : Tryz.prog.underlying 3 = some (.int .i64) := by kernel_rfl
theorem U4 : Tryz.prog.underlying 4 = some (.bool) := by kernel_rfl
theorem U5 : Tryz.prog.underlying 5 = some (.int .u8) := by kernel_rfl
theorem U9 : Tryz.prog.underlying 9 = some (.string) := by kernel_rfl
theorem U21 : Tryz.prog.underlying 21 = some (.int .i32) := by kernel_rfl
theorem U22 : Tryz.prog.underlying 22 = some (.slice 3) := by kernel_rfl
theorem U23 : Tryz.prog.underlying 23 = some (.slice 127) := by kernel_rfl
theorem U24 : Tryz.prog.underlying 24 = some (.slice 9) := by kernel_rfl
theorem U25 : Tryz.prog.underlying 25 = some (.slice 78) := by kernel_rfl
theorem U26 : Tryz.prog.underlying 26 = some (.slice 129) := by kernel_rfl
theorem U27 : Tryz.prog.underlying 27 = some (.slice 84) := by kernel_rfl
theorem U28 : Tryz.prog.underlying 28 = some (.slice 179) := by kernel_rfl
theorem U31 : Tryz.prog.underlying 31 = some (.slice 41) := by kernel_rfl
theorem U46 : Tryz.prog.underlying 46 = some (.slice 37) := by kernel_rfl
theorem U48 : Tryz.prog.underlying 48 = some (.slice 87) := by kernel_rfl
theorem U49 : Tryz.prog.underlying 49 = some (.slice 33) := by kernel_rfl
theorem U50 : Tryz.prog.underlying 50 = some (.slice 99) := by kernel_rfl
theorem U51 : Tryz.prog.underlying 51 = some (.slice 49) := by kernel_rfl
theorem U79 : Tryz.prog.underlying 79 = some (.slice 131) := by kernel_rfl
theorem U80 : Tryz.prog.underlying 80 = some (.slice 218) := by kernel_rfl
theorem U144 : Tryz.prog.underlying 144 = some (.slice 4) := by kernel_rfl
theorem U145 : Tryz.prog.underlying 145 = some (.slice 22) := by kernel_rfl
theorem U167 : Tryz.prog.underlying 167 = some (.map 9 4) := by kernel_rfl
theorem U180 : Tryz.prog.underlying 180 = some (.map 3 4) := by kernel_rfl
theorem U210 : Tryz.prog.underlying 210 = some (.int .u64) := by kernel_rfl
theorem U235 : Tryz.prog.underlying 235 = some (.int .u32) := by kernel_rfl
theorem U242 : Tryz.prog.underlying 242 = some (.slice 234) := by kernel_rfl
theorem U274 : Tryz.prog.underlying 274 = some (.array 256 5) := by kernel_rfl
theorem S3 : (Tryz.prog.info? 3).map (·.size) = some 1 := by kernel_rfl
theorem S4 : (Tryz.prog.info? 4).map (·.size) = some 1 := by kernel_rfl
theorem S5 : (Tryz.prog.info? 5).map (·.size) = some 1 := by kernel_rfl
theorem S9 : (Tryz.prog.info? 9).map (·.size) = some 1 := by kernel_rfl
theorem S22 : (Tryz.prog.info? 22).map (·.size) = some 1 := by kernel_rfl
theorem S33 : (Tryz.prog.info? 33).map (·.size) = some 2 := by kernel_rfl
theorem S37 : (Tryz.prog.info? 37).map (·.size) = some 4 := by kernel_rfl
theorem S41 : (Tryz.prog.info? 41).map (·.size) = some 2 := by kernel_rfl
theorem S49 : (Tryz.prog.info? 49).map (·.size) = some 1 := by kernel_rfl
theorem S78 : (Tryz.prog.info? 78).map (·.size) = some 6 := by kernel_rfl
theorem S84 : (Tryz.prog.info? 84).map (·.size) = some 5 := by kernel_rfl
theorem S87 : (Tryz.prog.info? 87).map (·.size) = some 2 := by kernel_rfl
theorem S99 : (Tryz.prog.info? 99).map (·.size) = some 3 := by kernel_rfl
theorem S127 : (Tryz.prog.info? 127).map (·.size) = some 6 := by kernel_rfl
theorem S129 : (Tryz.prog.info? 129).map (·.size) = some 3 := by kernel_rfl
theorem S131 : (Tryz.prog.info? 131).map (·.size) = some 2 := by kernel_rfl
theorem S179 : (Tryz.prog.info? 179).map (·.size) = some 3 := by kernel_rfl
theorem S218 : (Tryz.prog.info? 218).map (·.size) = some 3 := by kernel_rfl
theorem S234 : (Tryz.prog.info? 234).map (·.size) = some 4 := by kernel_rfl
theorem Y3 : zA Tryz.prog 3 = some (none) := by kernel_rfl
theorem Y4 : zA Tryz.prog 4 = some (none) := by kernel_rfl
theorem Y5 : zA Tryz.prog 5 = some (none) := by kernel_rfl
theorem Y9 : zA Tryz.prog 9 = some (none) := by kernel_rfl
theorem Y22 : zA Tryz.prog 22 = some (none) := by kernel_rfl
theorem Y23 : zA Tryz.prog 23 = some (none) := by kernel_rfl
theorem Y24 : zA Tryz.prog 24 = some (none) := by kernel_rfl
theorem Y25 : zA Tryz.prog 25 = some (none) := by kernel_rfl
theorem Y26 : zA Tryz.prog 26 = some (none) := by kernel_rfl
theorem Y27 : zA Tryz.prog 27 = some (none) := by kernel_rfl
theorem Y28 : zA Tryz.prog 28 = some (none) := by kernel_rfl
theorem Y30 : zA Tryz.prog 30 = some (some 7) := by kernel_rfl
theorem Y31 : zA Tryz.prog 31 = some (none) := by kernel_rfl
theorem Y33 : zA Tryz.prog 33 = some (some 2) := by kernel_rfl
theorem Y37 : zA Tryz.prog 37 = some (some 4) := by kernel_rfl
theorem Y41 : zA Tryz.prog 41 = some (some 2) := by kernel_rfl
theorem Y48 : zA Tryz.prog 48 = some (none) := by kernel_rfl
theorem Y49 : zA Tryz.prog 49 = some (none) := by kernel_rfl
theorem Y50 : zA Tryz.prog 50 = some (none) := by kernel_rfl
theorem Y51 : zA Tryz.prog 51 = some (none) := by kernel_rfl
theorem Y53 : zA Tryz.prog 53 = some (some 4) := by kernel_rfl
theorem Y78 : zA Tryz.prog 78 = some (some 6) := by kernel_rfl
theorem Y79 : zA Tryz.prog 79 = some (none) := by kernel_rfl
theorem Y80 : zA Tryz.prog 80 = some (none) := by kernel_rfl
theorem Y82 : zA Tryz.prog 82 = some (some 3) := by kernel_rfl
theorem Y84 : zA Tryz.prog 84 = some (some 5) := by kernel_rfl
theorem Y87 : zA Tryz.prog 87 = some (some 2) := by kernel_rfl
theorem Y99 : zA Tryz.prog 99 = some (some 3) := by kernel_rfl
theorem Y127 : zA Tryz.prog 127 = some (some 6) := by kernel_rfl
theorem Y129 : zA Tryz.prog 129 = some (some 3) := by kernel_rfl
theorem Y131 : zA Tryz.prog 131 = some (some 2) := by kernel_rfl
theorem Y136 : zA Tryz.prog 136 = some (some 8) := by kernel_rfl
theorem Y144 : zA Tryz.prog 144 = some (none) := by kernel_rfl
theorem Y167 : zA Tryz.prog 167 = some (none) := by kernel_rfl
theorem Y179 : zA Tryz.prog 179 = some (some 3) := by kernel_rfl
theorem Y180 : zA Tryz.prog 180 = some (none) := by kernel_rfl
theorem Y188 : zA Tryz.prog 188 = some (none) := by kernel_rfl
theorem Y194 : zA Tryz.prog 194 = some (some 2) := by kernel_rfl
theorem Y218 : zA Tryz.prog 218 = some (some 3) := by kernel_rfl
theorem Z3 : zay Tryz.prog 3 (none) = true := by kernel_rfl
theorem Z30 : zay Tryz.prog 30 (some 7) = true := by kernel_rfl
theorem Z33 : zay Tryz.prog 33 (some 2) = true := by kernel_rfl
theorem Z37 : zay Tryz.prog 37 (some 4) = true := by kernel_rfl
theorem Z41 : zay Tryz.prog 41 (some 2) = true := by kernel_rfl
theorem Z53 : zay Tryz.prog 53 (some 4) = true := by kernel_rfl
theorem Z78 : zay Tryz.prog 78 (some 6) = true := by kernel_rfl
theorem Z82 : zay Tryz.prog 82 (some 3) = true := by kernel_rfl
theorem Z84 : zay Tryz.prog 84 (some 5) = true := by kernel_rfl
theorem Z87 : zay Tryz.prog 87 (some 2) = true := by kernel_rfl
theorem Z99 : zay Tryz.prog 99 (some 3) = true := by kernel_rfl
theorem Z127 : zay Tryz.prog 127 (some 6) = true := by kernel_rfl
theorem Z129 : zay Tryz.prog 129 (some 3) = true := by kernel_rfl
theorem Z131 : zay Tryz.prog 131 (some 2) = true := by kernel_rfl
theorem Z136 : zay Tryz.prog 136 (some 8) = true := by kernel_rfl
theorem Z179 : zay Tryz.prog 179 (some 3) = true := by kernel_rfl
theorem Z218 : zay Tryz.prog 218 (some 3) = true := by kernel_rfl
theorem ZZ53 : (zbl Tryz.prog 53).isSome = true := by kernel_rfl
theorem ZZ84 : (zbl Tryz.prog 84).isSome = true := by kernel_rfl
theorem ZZ127 : (zbl Tryz.prog 127).isSome = true := by kernel_rfl
theorem ZZ136 : (zbl Tryz.prog 136).isSome = true := by kernel_rfl
theorem C3 : cellsOf Tryz.prog 3 = some 1 := by kernel_rfl
theorem C4 : cellsOf Tryz.prog 4 = some 1 := by kernel_rfl
theorem C9 : cellsOf Tryz.prog 9 = some 1 := by kernel_rfl
theorem C22 : cellsOf Tryz.prog 22 = some 1 := by kernel_rfl
theorem C30 : cellsOf Tryz.prog 30 = some 7 := by kernel_rfl
theorem C31 : cellsOf Tryz.prog 31 = some 1 := by kernel_rfl
theorem C33 : cellsOf Tryz.prog 33 = some 2 := by kernel_rfl
theorem C37 : cellsOf Tryz.prog 37 = some 4 := by kernel_rfl
theorem C49 : cellsOf Tryz.prog 49 = some 1 := by kernel_rfl
theorem C50 : cellsOf Tryz.prog 50 = some 1 := by kernel_rfl
theorem C51 : cellsOf Tryz.prog 51 = some 1 := by kernel_rfl
theorem C53 : cellsOf Tryz.prog 53 = some 4 := by kernel_rfl
theorem C78 : cellsOf Tryz.prog 78 = some 6 := by kernel_rfl
theorem C84 : cellsOf Tryz.prog 84 = some 5 := by kernel_rfl
theorem C99 : cellsOf Tryz.prog 99 = some 3 := by kernel_rfl
theorem C127 : cellsOf Tryz.prog 127 = some 6 := by kernel_rfl
theorem C180 : cellsOf Tryz.prog 180 = some 1 := by kernel_rfl
theorem C188 : cellsOf Tryz.prog 188 = some 1 := by kernel_rfl
theorem C194 : cellsOf Tryz.prog 194 = some 2 := by kernel_rfl
theorem C234 : cellsOf Tryz.prog 234 = some 4 := by kernel_rfl
theorem E22 : zba Tryz.prog 22 3 1 8 = true := by kernel_rfl
theorem E23 : zba Tryz.prog 23 127 6 72 = true := by kernel_rfl
theorem E24 : zba Tryz.prog 24 9 1 16 = true := by kernel_rfl
theorem E25 : zba Tryz.prog 25 78 6 64 = true := by kernel_rfl
theorem E26 : zba Tryz.prog 26 129 3 48 = true := by kernel_rfl
theorem E27 : zba Tryz.prog 27 84 5 104 = true := by kernel_rfl
theorem E31 : zba Tryz.prog 31 41 2 16 = true := by kernel_rfl
theorem E46 : zba Tryz.prog 46 37 4 32 = true := by kernel_rfl
theorem E48 : zba Tryz.prog 48 87 2 16 = true := by kernel_rfl
theorem E49 : zba Tryz.prog 49 33 2 32 = true := by kernel_rfl
theorem E50 : zba Tryz.prog 50 99 3 40 = true := by kernel_rfl
theorem E51 : zba Tryz.prog 51 49 1 24 = true := by kernel_rfl
theorem E79 : zba Tryz.prog 79 131 2 16 = true := by kernel_rfl
theorem E144 : zba Tryz.prog 144 4 1 1 = true := by kernel_rfl
theorem E145 : zba Tryz.prog 145 22 1 24 = true := by kernel_rfl
theorem E188 : zba Tryz.prog 188 192 2 32 = true := by kernel_rfl
theorem E242 : zba Tryz.prog 242 234 4 32 = true := by kernel_rfl
theorem F30_0 : fldAt Tryz.prog 30 0 = some (0, none) := by kernel_rfl
theorem F30_1 : fldAt Tryz.prog 30 1 = some (1, none) := by kernel_rfl
theorem F30_2 : fldAt Tryz.prog 30 2 = some (2, none) := by kernel_rfl
theorem F30_3 : fldAt Tryz.prog 30 3 = some (3, none) := by kernel_rfl
theorem F30_4 : fldAt Tryz.prog 30 4 = some (4, none) := by kernel_rfl
theorem F30_5 : fldAt Tryz.prog 30 5 = some (5, none) := by kernel_rfl
theorem F30_6 : fldAt Tryz.prog 30 6 = some (6, none) := by kernel_rfl
theorem F33_0 : fldAt Tryz.prog 33 0 = some (0, none) := by kernel_rfl
theorem F33_1 : fldAt Tryz.prog 33 1 = some (1, none) := by kernel_rfl
theorem F35_0 : fldAt Tryz.prog 35 0 = some (0, none) := by kernel_rfl
theorem F35_1 : fldAt Tryz.prog 35 1 = some (1, none) := by kernel_rfl
theorem F37_0 : fldAt Tryz.prog 37 0 = some (0, none) := by kernel_rfl
theorem F37_1 : fldAt Tryz.prog 37 1 = some (1, none) := by kernel_rfl
theorem F37_2 : fldAt Tryz.prog 37 2 = some (2, some 2) := by kernel_rfl
theorem F41_0 : fldAt Tryz.prog 41 0 = some (0, none) := by kernel_rfl
theorem F41_1 : fldAt Tryz.prog 41 1 = some (1, none) := by kernel_rfl
theorem F53_0 : fldAt Tryz.prog 53 0 = some (0, none) := by kernel_rfl
theorem F53_1 : fldAt Tryz.prog 53 1 = some (1, none) := by kernel_rfl
theorem F53_2 : fldAt Tryz.prog 53 2 = some (2, none) := by kernel_rfl
theorem F53_3 : fldAt Tryz.prog 53 3 = some (3, none) := by kernel_rfl
theorem F78_0 : fldAt Tryz.prog 78 0 = some (0, none) := by kernel_rfl
theorem F78_1 : fldAt Tryz.prog 78 1 = some (1, none) := by kernel_rfl
theorem F78_2 : fldAt Tryz.prog 78 2 = some (2, some 2) := by kernel_rfl
theorem F78_3 : fldAt Tryz.prog 78 3 = some (4, none) := by kernel_rfl
theorem F78_4 : fldAt Tryz.prog 78 4 = some (5, none) := by kernel_rfl
theorem F82_0 : fldAt Tryz.prog 82 0 = some (0, none) := by kernel_rfl
theorem F82_1 : fldAt Tryz.prog 82 1 = some (1, none) := by kernel_rfl
theorem F82_2 : fldAt Tryz.prog 82 2 = some (2, none) := by kernel_rfl
theorem F84_0 : fldAt Tryz.prog 84 0 = some (0, none) := by kernel_rfl
theorem F84_1 : fldAt Tryz.prog 84 1 = some (1, none) := by kernel_rfl
theorem F84_2 : fldAt Tryz.prog 84 2 = some (2, some 3) := by kernel_rfl
theorem F87_0 : fldAt Tryz.prog 87 0 = some (0, none) := by kernel_rfl
theorem F87_1 : fldAt Tryz.prog 87 1 = some (1, none) := by kernel_rfl
theorem F99_0 : fldAt Tryz.prog 99 0 = some (0, none) := by kernel_rfl
theorem F99_1 : fldAt Tryz.prog 99 1 = some (1, none) := by kernel_rfl
theorem F99_2 : fldAt Tryz.prog 99 2 = some (2, none) := by kernel_rfl
theorem F127_0 : fldAt Tryz.prog 127 0 = some (0, none) := by kernel_rfl
theorem F127_1 : fldAt Tryz.prog 127 1 = some (1, none) := by kernel_rfl
theorem F127_2 : fldAt Tryz.prog 127 2 = some (2, none) := by kernel_rfl
theorem F127_3 : fldAt Tryz.prog 127 3 = some (3, some 2) := by kernel_rfl
theorem F127_4 : fldAt Tryz.prog 127 4 = some (5, none) := by kernel_rfl
theorem F129_0 : fldAt Tryz.prog 129 0 = some (0, none) := by kernel_rfl
theorem F129_2 : fldAt Tryz.prog 129 2 = some (2, none) := by kernel_rfl
theorem F131_0 : fldAt Tryz.prog 131 0 = some (0, none) := by kernel_rfl
theorem F131_1 : fldAt Tryz.prog 131 1 = some (1, none) := by kernel_rfl
theorem F136_0 : fldAt Tryz.prog 136 0 = some (0, some 7) := by kernel_rfl
theorem F136_1 : fldAt Tryz.prog 136 1 = some (7, none) := by kernel_rfl
theorem F179_0 : fldAt Tryz.prog 179 0 = some (0, none) := by kernel_rfl
theorem F179_1 : fldAt Tryz.prog 179 1 = some (1, none) := by kernel_rfl
theorem F179_2 : fldAt Tryz.prog 179 2 = some (2, none) := by kernel_rfl
theorem F190_0 : fldAt Tryz.prog 190 0 = some (0, some 7) := by kernel_rfl
theorem F190_1 : fldAt Tryz.prog 190 1 = some (7, none) := by kernel_rfl
theorem F190_2 : fldAt Tryz.prog 190 2 = some (8, none) := by kernel_rfl
theorem F194_0 : fldAt Tryz.prog 194 0 = some (0, none) := by kernel_rfl
theorem F194_1 : fldAt Tryz.prog 194 1 = some (1, none) := by kernel_rfl
theorem F218_0 : fldAt Tryz.prog 218 0 = some (0, none) := by kernel_rfl
theorem F218_1 : fldAt Tryz.prog 218 1 = some (1, none) := by kernel_rfl
theorem F218_2 : fldAt Tryz.prog 218 2 = some (2, none) := by kernel_rfl
theorem F234_0 : fldAt Tryz.prog 234 0 = some (0, none) := by kernel_rfl
theorem F234_2 : fldAt Tryz.prog 234 2 = some (2, none) := by kernel_rfl
theorem F234_3 : fldAt Tryz.prog 234 3 = some (3, none) := by kernel_rfl
theorem G30_0 (x : Model) : Fld Tryz.prog 30 0 x.enc (.sl 1 (List.map D.int x.sorts)) := Fld.of F30_0 rfl rfl
theorem G30_1 (x : Model) : Fld Tryz.prog 30 1 x.enc (.sl 6 (List.map Table.enc x.tables)) := Fld.of F30_1 rfl rfl
theorem G30_2 (x : Model) : Fld Tryz.prog 30 2 x.enc (.sl 1 (List.map D.str x.families)) := Fld.of F30_2 rfl rfl
theorem G30_3 (x : Model) : Fld Tryz.prog 30 3 x.enc (.sl 6 (List.map Constraint.enc x.constraints)) := Fld.of F30_3 rfl rfl
theorem G30_4 (x : Model) : Fld Tryz.prog 30 4 x.enc (.sl 3 (List.map Operation.enc x.operations)) := Fld.of F30_4 rfl rfl
theorem G30_5 (x : Model) : Fld Tryz.prog 30 5 x.enc (.sl 5 (List.map Action.enc x.actions)) := Fld.of F30_5 rfl rfl
theorem G30_6 (x : Model) : Fld Tryz.prog 30 6 x.enc (.sl 3 (List.map Hide.enc x.hides)) := Fld.of F30_6 rfl rfl
theorem G33_0 (x : Row) : Fld Tryz.prog 33 0 x.enc (.sl 2 (List.map Term.enc x.terms)) := Fld.of F33_0 rfl rfl
theorem G33_1 (x : Row) : Fld Tryz.prog 33 1 x.enc (.int x.bound) := Fld.of F33_1 rfl rfl
theorem G35_0 (x : Target) : Fld Tryz.prog 35 0 x.enc (.bool x.hold) := Fld.of F35_0 rfl rfl
theorem G35_1 (x : Target) : Fld Tryz.prog 35 1 x.enc (.int x.index) := Fld.of F35_1 rfl rfl
theorem G37_0 (x : Question) : Fld Tryz.prog 37 0 x.enc (.int x.e) := Fld.of F37_0 rfl rfl
theorem G37_1 (x : Question) : Fld Tryz.prog 37 1 x.enc (.int x.f) := Fld.of F37_1 rfl rfl
theorem G37_2 (x : Question) : Fld Tryz.prog 37 2 x.enc (Target.enc x.target) := Fld.of F37_2 rfl rfl
theorem G41_0 (x : Term) : Fld Tryz.prog 41 0 x.enc (.int x.cell) := Fld.of F41_0 rfl rfl
theorem G41_1 (x : Term) : Fld Tryz.prog 41 1 x.enc (.int x.factor) := Fld.of F41_1 rfl rfl
theorem G53_0 (x : System) : Fld Tryz.prog 53 0 x.enc (.sl 2 (List.map Range.enc x.box)) := Fld.of F53_0 rfl rfl
theorem G53_1 (x : System) : Fld Tryz.prog 53 1 x.enc (.sl 2 (List.map Row.enc x.rows)) := Fld.of F53_1 rfl rfl
theorem G53_2 (x : System) : Fld Tryz.prog 53 2 x.enc (.sl 3 (List.map Graph.enc x.graphs)) := Fld.of F53_2 rfl rfl
theorem G53_3 (x : System) : Fld Tryz.prog 53 3 x.enc (.sl 1 (List.map (fun l => D.sl 2 (List.map Row.enc l)) x.cases)) := Fld.of F53_3 rfl rfl
theorem G78_0 (x : Constraint) : Fld Tryz.prog 78 0 x.enc (.int x.kind) := Fld.of F78_0 rfl rfl
theorem G78_2 (x : Constraint) : Fld Tryz.prog 78 2 x.enc (Row.enc x.row) := Fld.of F78_2 rfl rfl
theorem G78_3 (x : Constraint) : Fld Tryz.prog 78 3 x.enc (.int x.first) := Fld.of F78_3 rfl rfl
theorem G78_4 (x : Constraint) : Fld Tryz.prog 78 4 x.enc (.int x.size) := Fld.of F78_4 rfl rfl
theorem G82_0 (x : Effect) : Fld Tryz.prog 82 0 x.enc (.sl 2 (List.map Change.enc x.delta)) := Fld.of F82_0 rfl rfl
theorem G82_1 (x : Effect) : Fld Tryz.prog 82 1 x.enc (.sl 2 (List.map Row.enc x.hold)) := Fld.of F82_1 rfl rfl
theorem G82_2 (x : Effect) : Fld Tryz.prog 82 2 x.enc (.sl 3 (List.map Update.enc x.updates)) := Fld.of F82_2 rfl rfl
theorem G84_0 (x : Action) : Fld Tryz.prog 84 0 x.enc (.int x.operation) := Fld.of F84_0 rfl rfl
theorem G84_1 (x : Action) : Fld Tryz.prog 84 1 x.enc (.sl 1 (List.map D.int x.arguments)) := Fld.of F84_1 rfl rfl
theorem G84_2 (x : Action) : Fld Tryz.prog 84 2 x.enc (Effect.enc x.effect) := Fld.of F84_2 rfl rfl
theorem G87_0 (x : Range) : Fld Tryz.prog 87 0 x.enc (.int x.lo) := Fld.of F87_0 rfl rfl
theorem G87_1 (x : Range) : Fld Tryz.prog 87 1 x.enc (.int x.hi) := Fld.of F87_1 rfl rfl
theorem G99_0 (x : Graph) : Fld Tryz.prog 99 0 x.enc (.int x.first) := Fld.of F99_0 rfl rfl
theorem G99_1 (x : Graph) : Fld Tryz.prog 99 1 x.enc (.int x.size) := Fld.of F99_1 rfl rfl
theorem G99_2 (x : Graph) : Fld Tryz.prog 99 2 x.enc (.sl 1 (List.map D.int x.least)) := Fld.of F99_2 rfl rfl
theorem G127_0 (x : Table) : Fld Tryz.prog 127 0 x.enc (.str x.name) := Fld.of F127_0 rfl rfl
theorem G127_1 (x : Table) : Fld Tryz.prog 127 1 x.enc (.int x.kind) := Fld.of F127_1 rfl rfl
theorem G127_2 (x : Table) : Fld Tryz.prog 127 2 x.enc (.sl 1 (List.map D.int x.columns)) := Fld.of F127_2 rfl rfl
theorem G127_3 (x : Table) : Fld Tryz.prog 127 3 x.enc (Range.enc x.range) := Fld.of F127_3 rfl rfl
theorem G127_4 (x : Table) : Fld Tryz.prog 127 4 x.enc (.int x.first) := Fld.of F127_4 rfl rfl
theorem G129_0 (x : Operation) : Fld Tryz.prog 129 0 x.enc (.str x.name) := Fld.of F129_0 rfl rfl
theorem G129_2 (x : Operation) : Fld Tryz.prog 129 2 x.enc (.sl 1 (List.map D.int x.sorts)) := Fld.of F129_2 rfl rfl
theorem G131_0 (x : Change) : Fld Tryz.prog 131 0 x.enc (.int x.cell) := Fld.of F131_0 rfl rfl
theorem G131_1 (x : Change) : Fld Tryz.prog 131 1 x.enc (.int x.add) := Fld.of F131_1 rfl rfl
theorem zbB (x : Judge) : Fld Tryz.prog 136 0 x.enc (Model.enc x.model) := Fld.of F136_0 rfl rfl
theorem G136_1 (x : Judge) : Fld Tryz.prog 136 1 x.enc (.sl 2 (List.map Range.enc x.strict)) := Fld.of F136_1 rfl rfl
theorem G179_0 (x : Hide) : Fld Tryz.prog 179 0 x.enc (.int x.table) := Fld.of F179_0 rfl rfl
theorem G179_1 (x : Hide) : Fld Tryz.prog 179 1 x.enc (.int x.column) := Fld.of F179_1 rfl rfl
theorem G179_2 (x : Hide) : Fld Tryz.prog 179 2 x.enc (.int x.to) := Fld.of F179_2 rfl rfl
theorem G190_0 (x : Layout) : Fld Tryz.prog 190 0 x.enc (Model.enc x.m) := Fld.of F190_0 rfl rfl
theorem G194_0 (x : DGraph) : Fld Tryz.prog 194 0 x.enc (.int x.size) := Fld.of F194_0 rfl rfl
theorem G194_1 (x : DGraph) : Fld Tryz.prog 194 1 x.enc (.sl 1 (List.map D.bool x.edges)) := Fld.of F194_1 rfl rfl
theorem G218_0 (x : Update) : Fld Tryz.prog 218 0 x.enc (.int x.kind) := Fld.of F218_0 rfl rfl
theorem G218_1 (x : Update) : Fld Tryz.prog 218 1 x.enc (.int x.cell) := Fld.of F218_1 rfl rfl
theorem G218_2 (x : Update) : Fld Tryz.prog 218 2 x.enc (.int x.value) := Fld.of F218_2 rfl rfl
theorem G234_0 (x : Token) : Fld Tryz.prog 234 0 x.enc (.int x.kind) := Fld.of F234_0 rfl rfl
theorem G234_2 (x : Token) : Fld Tryz.prog 234 2 x.enc (.int x.at_) := Fld.of F234_2 rfl rfl
theorem G234_3 (x : Token) : Fld Tryz.prog 234 3 x.enc (.int x.end_) := Fld.of F234_3 rfl rfl
theorem Zc30 : zcells Tryz.prog 30 = some [.val (.slice none 0 0), .val (.slice none 0 0), .val (.slice none 0 0), .val (.slice none 0 0), .val (.slice none 0 0), .val (.slice none 0 0), .val (.slice none 0 0)] := by kernel_rfl
theorem Zc33 : zcells Tryz.prog 33 = some [.val (.slice none 0 0), .val (.int .i64 0)] := by kernel_rfl
theorem Zc35 : zcells Tryz.prog 35 = some [.bool false, .val (.int .i64 0)] := by kernel_rfl
theorem Zc37 : zcells Tryz.prog 37 = some [.val (.int .i64 0), .val (.int .i64 0), .bool false, .val (.int .i64 0)] := by kernel_rfl
theorem Zc41 : zcells Tryz.prog 41 = some [.val (.int .i64 0), .val (.int .i64 0)] := by kernel_rfl
theorem Zc53 : zcells Tryz.prog 53 = some [.val (.slice none 0 0), .val (.slice none 0 0), .val (.slice none 0 0), .val (.slice none 0 0)] := by kernel_rfl
theorem Zc78 : zcells Tryz.prog 78 = some [.val (.int .i64 0), .val (.int .i64 0), .val (.slice none 0 0), .val (.int .i64 0), .val (.int .i64 0), .val (.int .i64 0)] := by kernel_rfl
theorem Zc82 : zcells Tryz.prog 82 = some [.val (.slice none 0 0), .val (.slice none 0 0), .val (.slice none 0 0)] := by kernel_rfl
theorem Zc84 : zcells Tryz.prog 84 = some [.val (.int .i64 0), .val (.slice none 0 0), .val (.slice none 0 0), .val (.slice none 0 0), .val (.slice none 0 0)] := by kernel_rfl
theorem Zc87 : zcells Tryz.prog 87 = some [.val (.int .i64 0), .val (.int .i64 0)] := by kernel_rfl
theorem Zc99 : zcells Tryz.prog 99 = some [.val (.int .i64 0), .val (.int .i64 0), .val (.slice none 0 0)] := by kernel_rfl
theorem Zc127 : zcells Tryz.prog 127 = some [.val (.string .empty), .val (.int .i64 0), .val (.slice none 0 0), .val (.int .i64 0), .val (.int .i64 0), .val (.int .i64 0)] := by kernel_rfl
theorem Zc129 : zcells Tryz.prog 129 = some [.val (.string .empty), .bool false, .val (.slice none 0 0)] := by kernel_rfl
theorem Zc131 : zcells Tryz.prog 131 = some [.val (.int .i64 0), .val (.int .i64 0)] := by kernel_rfl
theorem Zc136 : zcells Tryz.prog 136 = some [.val (.slice none 0 0), .val (.slice none 0 0), .val (.slice none 0 0), .val (.slice none 0 0), .val (.slice none 0 0), .val (.slice none 0 0), .val (.slice none 0 0), .val (.slice none 0 0)] := by kernel_rfl
theorem Zc190 : zcells Tryz.prog 190 = some [.val (.slice none 0 0), .val (.slice none 0 0), .val (.slice none 0 0), .val (.slice none 0 0), .val (.slice none 0 0), .val (.slice none 0 0), .val (.slice none 0 0), .val (.slice none 0 0), .val (.slice none 0 0)] := by kernel_rfl
theorem Zc192 : zcells Tryz.prog 192 = some [.val (.int .i64 0), .val (.slice none 0 0)] := by kernel_rfl
theorem Zc194 : zcells Tryz.prog 194 = some [.val (.int .i64 0), .val (.slice none 0 0)] := by kernel_rfl
theorem Zc234 : zcells Tryz.prog 234 = some [.val (.int .i64 0), .val (.int .i64 0), .val (.int .i64 0), .val (.int .i64 0)] := by kernel_rfl
theorem Zv3 : zbl Tryz.prog 3 = some ((.int .i64 0)) := by kernel_rfl
theorem Zv4 : zbl Tryz.prog 4 = some (.bool false) := by kernel_rfl
theorem Zv9 : zbl Tryz.prog 9 = some ((.string .empty)) := by kernel_rfl
theorem Zv180 : zbl Tryz.prog 180 = some ((.map none)) := by kernel_rfl
theorem Pl30 : zaW Tryz.prog 30 = some [(0, 1), (1, 1), (2, 1), (3, 1), (4, 1), (5, 1), (6, 1)] := by kernel_rfl
theorem Pl33 : zaW Tryz.prog 33 = some [(0, 1), (1, 1)] := by kernel_rfl
theorem Pl35 : zaW Tryz.prog 35 = some [(0, 1), (1, 1)] := by kernel_rfl
theorem Pl37 : zaW Tryz.prog 37 = some [(0, 1), (1, 1), (2, 2)] := by kernel_rfl
theorem Pl41 : zaW Tryz.prog 41 = some [(0, 1), (1, 1)] := by kernel_rfl
theorem Pl53 : zaW Tryz.prog 53 = some [(0, 1), (1, 1), (2, 1), (3, 1)] := by kernel_rfl
theorem Pl78 : zaW Tryz.prog 78 = some [(0, 1), (1, 1), (2, 2), (4, 1), (5, 1)] := by kernel_rfl
theorem Pl82 : zaW Tryz.prog 82 = some [(0, 1), (1, 1), (2, 1)] := by kernel_rfl
theorem Pl84 : zaW Tryz.prog 84 = some [(0, 1), (1, 1), (2, 3)] := by kernel_rfl
theorem Pl87 : zaW Tryz.prog 87 = some [(0, 1), (1, 1)] := by kernel_rfl
theorem Pl99 : zaW Tryz.prog 99 = some [(0, 1), (1, 1), (2, 1)] := by kernel_rfl
theorem Pl127 : zaW Tryz.prog 127 = some [(0, 1), (1, 1), (2, 1), (3, 2), (5, 1)] := by kernel_rfl
theorem Pl129 : zaW Tryz.prog 129 = some [(0, 1), (1, 1), (2, 1)] := by kernel_rfl
theorem Pl131 : zaW Tryz.prog 131 = some [(0, 1), (1, 1)] := by kernel_rfl
theorem Pl136 : zaW Tryz.prog 136 = some [(0, 7), (7, 1)] := by kernel_rfl
theorem Pl190 : zaW Tryz.prog 190 = some [(0, 7), (7, 1), (8, 1)] := by kernel_rfl
theorem Pl192 : zaW Tryz.prog 192 = some [(0, 1), (1, 1)] := by kernel_rfl
theorem Pl194 : zaW Tryz.prog 194 = some [(0, 1), (1, 1)] := by kernel_rfl
theorem Pl234 : zaW Tryz.prog 234 = some [(0, 1), (1, 1), (2, 1), (3, 1)] := by kernel_rfl
theorem K10 : callable Tryz.prog 10 = true := by kernel_rfl
theorem K11 : callable Tryz.prog 11 = true := by kernel_rfl
theorem K12 : callable Tryz.prog 12 = true := by kernel_rfl
theorem K14 : callable Tryz.prog 14 = true := by kernel_rfl
theorem K16 : callable Tryz.prog 16 = true := by kernel_rfl
theorem K17 : callable Tryz.prog 17 = true := by kernel_rfl
theorem K19 : callable Tryz.prog 19 = true := by kernel_rfl
theorem K21 : callable Tryz.prog 21 = true := by kernel_rfl
theorem K23 : callable Tryz.prog 23 = true := by kernel_rfl
theorem K25 : callable Tryz.prog 25 = true := by kernel_rfl
theorem K29 : callable Tryz.prog 29 = true := by kernel_rfl
theorem K30 : callable Tryz.prog 30 = true := by kernel_rfl
theorem K36 : callable Tryz.prog 36 = true := by kernel_rfl
theorem K37 : callable Tryz.prog 37 = true := by kernel_rfl
theorem K38 : callable Tryz.prog 38 = true := by kernel_rfl
theorem K39 : callable Tryz.prog 39 = true := by kernel_rfl
theorem K40 : callable Tryz.prog 40 = true := by kernel_rfl
theorem K43 : callable Tryz.prog 43 = true := by kernel_rfl
theorem K44 : callable Tryz.prog 44 = true := by kernel_rfl
theorem K46 : callable Tryz.prog 46 = true := by kernel_rfl
theorem K47 : callable Tryz.prog 47 = true := by kernel_rfl
theorem K48 : callable Tryz.prog 48 = true := by kernel_rfl
theorem K49 : callable Tryz.prog 49 = true := by kernel_rfl
theorem K50 : callable Tryz.prog 50 = true := by kernel_rfl
theorem K51 : callable Tryz.prog 51 = true := by kernel_rfl
theorem K52 : callable Tryz.prog 52 = true := by kernel_rfl
theorem K53 : callable Tryz.prog 53 = true := by kernel_rfl
theorem K54 : callable Tryz.prog 54 = true := by kernel_rfl
theorem K55 : callable Tryz.prog 55 = true := by kernel_rfl
theorem K56 : callable Tryz.prog 56 = true := by kernel_rfl
theorem K57 : callable Tryz.prog 57 = true := by kernel_rfl
theorem K58 : callable Tryz.prog 58 = true := by kernel_rfl
theorem K59 : callable Tryz.prog 59 = true := by kernel_rfl
theorem K60 : callable Tryz.prog 60 = true := by kernel_rfl
theorem K61 : callable Tryz.prog 61 = true := by kernel_rfl
theorem K62 : callable Tryz.prog 62 = true := by kernel_rfl
theorem K63 : callable Tryz.prog 63 = true := by kernel_rfl
theorem K64 : callable Tryz.prog 64 = true := by kernel_rfl
theorem K65 : callable Tryz.prog 65 = true := by kernel_rfl
theorem K72 : callable Tryz.prog 72 = true := by kernel_rfl
theorem K73 : callable Tryz.prog 73 = true := by kernel_rfl
theorem K74 : callable Tryz.prog 74 = true := by kernel_rfl
theorem K75 : callable Tryz.prog 75 = true := by kernel_rfl
theorem K76 : callable Tryz.prog 76 = true := by kernel_rfl
theorem K77 : callable Tryz.prog 77 = true := by kernel_rfl
theorem K78 : callable Tryz.prog 78 = true := by kernel_rfl
theorem K79 : callable Tryz.prog 79 = true := by kernel_rfl
theorem K80 : callable Tryz.prog 80 = true := by kernel_rfl
theorem K92 : callable Tryz.prog 92 = true := by kernel_rfl
theorem K93 : callable Tryz.prog 93 = true := by kernel_rfl
theorem K94 : callable Tryz.prog 94 = true := by kernel_rfl
theorem K95 : callable Tryz.prog 95 = true := by kernel_rfl
theorem K96 : callable Tryz.prog 96 = true := by kernel_rfl
theorem K97 : callable Tryz.prog 97 = true := by kernel_rfl
theorem K98 : callable Tryz.prog 98 = true := by kernel_rfl
theorem K99 : callable Tryz.prog 99 = true := by kernel_rfl
theorem K100 : callable Tryz.prog 100 = true := by kernel_rfl
theorem K101 : callable Tryz.prog 101 = true := by kernel_rfl
theorem K107 : callable Tryz.prog 107 = true := by kernel_rfl
theorem K108 : callable Tryz.prog 108 = true := by kernel_rfl
theorem K109 : callable Tryz.prog 109 = true := by kernel_rfl
theorem K110 : callable Tryz.prog 110 = true := by kernel_rfl
theorem K111 : callable Tryz.prog 111 = true := by kernel_rfl
theorem K112 : callable Tryz.prog 112 = true := by kernel_rfl
theorem K113 : callable Tryz.prog 113 = true := by kernel_rfl
theorem K114 : callable Tryz.prog 114 = true := by kernel_rfl
theorem K115 : callable Tryz.prog 115 = true := by kernel_rfl
theorem K116 : callable Tryz.prog 116 = true := by kernel_rfl
theorem K117 : callable Tryz.prog 117 = true := by kernel_rfl
theorem K118 : callable Tryz.prog 118 = true := by kernel_rfl
theorem K119 : callable Tryz.prog 119 = true := by kernel_rfl
theorem K120 : callable Tryz.prog 120 = true := by kernel_rfl
theorem K121 : callable Tryz.prog 121 = true := by kernel_rfl
theorem K122 : callable Tryz.prog 122 = true := by kernel_rfl
theorem K124 : callable Tryz.prog 124 = true := by kernel_rfl
theorem K125 : callable Tryz.prog 125 = true := by kernel_rfl
theorem K126 : callable Tryz.prog 126 = true := by kernel_rfl
theorem K127 : callable Tryz.prog 127 = true := by kernel_rfl
theorem K128 : callable Tryz.prog 128 = true := by kernel_rfl
theorem K129 : callable Tryz.prog 129 = true := by kernel_rfl
theorem K130 : callable Tryz.prog 130 = true := by kernel_rfl
theorem K131 : callable Tryz.prog 131 = true := by kernel_rfl
theorem K139 : callable Tryz.prog 139 = true := by kernel_rfl
theorem K140 : callable Tryz.prog 140 = true := by kernel_rfl
theorem K141 : callable Tryz.prog 141 = true := by kernel_rfl
theorem K142 : callable Tryz.prog 142 = true := by kernel_rfl
theorem K143 : callable Tryz.prog 143 = true := by kernel_rfl
theorem K144 : callable Tryz.prog 144 = true := by kernel_rfl
theorem K145 : callable Tryz.prog 145 = true := by kernel_rfl
theorem K146 : callable Tryz.prog 146 = true := by kernel_rfl
theorem K147 : callable Tryz.prog 147 = true := by kernel_rfl
theorem K148 : callable Tryz.prog 148 = true := by kernel_rfl
theorem K149 : callable Tryz.prog 149 = true := by kernel_rfl
theorem K150 : callable Tryz.prog 150 = true := by kernel_rfl
theorem K151 : callable Tryz.prog 151 = true := by kernel_rfl
theorem K152 : callable Tryz.prog 152 = true := by kernel_rfl
theorem K153 : callable Tryz.prog 153 = true := by kernel_rfl
theorem K154 : callable Tryz.prog 154 = true := by kernel_rfl
theorem K155 : callable Tryz.prog 155 = true := by kernel_rfl
theorem K156 : callable Tryz.prog 156 = true := by kernel_rfl
theorem K157 : callable Tryz.prog 157 = true := by kernel_rfl
theorem K158 : callable Tryz.prog 158 = true := by kernel_rfl
theorem K159 : callable Tryz.prog 159 = true := by kernel_rfl
theorem K160 : callable Tryz.prog 160 = true := by kernel_rfl
theorem K161 : callable Tryz.prog 161 = true := by kernel_rfl
theorem K162 : callable Tryz.prog 162 = true := by kernel_rfl
theorem K163 : callable Tryz.prog 163 = true := by kernel_rfl
theorem K175 : callable Tryz.prog 175 = true := by kernel_rfl
theorem K176 : callable Tryz.prog 176 = true := by kernel_rfl
theorem K177 : callable Tryz.prog 177 = true := by kernel_rfl
theorem K178 : callable Tryz.prog 178 = true := by kernel_rfl
theorem K179 : callable Tryz.prog 179 = true := by kernel_rfl
theorem K180 : callable Tryz.prog 180 = true := by kernel_rfl
theorem K181 : callable Tryz.prog 181 = true := by kernel_rfl
theorem K182 : callable Tryz.prog 182 = true := by kernel_rfl
theorem K186 : callable Tryz.prog 186 = true := by kernel_rfl
theorem K191 : callable Tryz.prog 191 = true := by kernel_rfl
theorem K192 : callable Tryz.prog 192 = true := by kernel_rfl
theorem K193 : callable Tryz.prog 193 = true := by kernel_rfl
theorem K194 : callable Tryz.prog 194 = true := by kernel_rfl
theorem K195 : callable Tryz.prog 195 = true := by kernel_rfl
theorem K196 : callable Tryz.prog 196 = true := by kernel_rfl
theorem K197 : callable Tryz.prog 197 = true := by kernel_rfl
theorem K198 : callable Tryz.prog 198 = true := by kernel_rfl
theorem K199 : callable Tryz.prog 199 = true := by kernel_rfl
theorem K200 : callable Tryz.prog 200 = true := by kernel_rfl
theorem K201 : callable Tryz.prog 201 = true := by kernel_rfl
theorem K202 : callable Tryz.prog 202 = true := by kernel_rfl
theorem K203 : callable Tryz.prog 203 = true := by kernel_rfl
theorem K204 : callable Tryz.prog 204 = true := by kernel_rfl
theorem K212 : callable Tryz.prog 212 = true := by kernel_rfl
theorem K213 : callable Tryz.prog 213 = true := by kernel_rfl
theorem K214 : callable Tryz.prog 214 = true := by kernel_rfl
theorem K217 : callable Tryz.prog 217 = true := by kernel_rfl
theorem K220 : callable Tryz.prog 220 = true := by kernel_rfl
theorem K221 : callable Tryz.prog 221 = true := by kernel_rfl
theorem K222 : callable Tryz.prog 222 = true := by kernel_rfl
theorem K223 : callable Tryz.prog 223 = true := by kernel_rfl
theorem K224 : callable Tryz.prog 224 = true := by kernel_rfl
theorem K240 : callable Tryz.prog 240 = true := by kernel_rfl
theorem K241 : callable Tryz.prog 241 = true := by kernel_rfl
theorem K242 : callable Tryz.prog 242 = true := by kernel_rfl
theorem K243 : callable Tryz.prog 243 = true := by kernel_rfl
theorem K244 : callable Tryz.prog 244 = true := by kernel_rfl
theorem K245 : callable Tryz.prog 245 = true := by kernel_rfl
theorem K246 : callable Tryz.prog 246 = true := by kernel_rfl
theorem K247 : callable Tryz.prog 247 = true := by kernel_rfl
theorem K248 : callable Tryz.prog 248 = true := by kernel_rfl
theorem K249 : callable Tryz.prog 249 = true := by kernel_rfl
theorem K255 : callable Tryz.prog 255 = true := by kernel_rfl
theorem K256 : callable Tryz.prog 256 = true := by kernel_rfl
theorem K257 : callable Tryz.prog 257 = true := by kernel_rfl
theorem K258 : callable Tryz.prog 258 = true := by kernel_rfl
theorem K259 : callable Tryz.prog 259 = true := by kernel_rfl
theorem K260 : callable Tryz.prog 260 = true := by kernel_rfl
theorem K261 : callable Tryz.prog 261 = true := by kernel_rfl
theorem K262 : callable Tryz.prog 262 = true := by kernel_rfl
theorem K263 : callable Tryz.prog 263 = true := by kernel_rfl
theorem K265 : callable Tryz.prog 265 = true := by kernel_rfl
theorem K266 : callable Tryz.prog 266 = true := by kernel_rfl
theorem K267 : callable Tryz.prog 267 = true := by kernel_rfl
theorem K268 : callable Tryz.prog 268 = true := by kernel_rfl
theorem K269 : callable Tryz.prog 269 = true := by kernel_rfl
theorem Hm : Tryz.prog.follows .mixedOrders = true := by kernel_rfl
theorem SE37 : EqStruct Tryz.prog 37 [.int .i64, .int .i64, .bool, .int .i64] := ⟨by kernel_rfl, by kernel_rfl, by kernel_rfl⟩
theorem SE41 : EqStruct Tryz.prog 41 [.int .i64, .int .i64] := ⟨by kernel_rfl, by kernel_rfl, by kernel_rfl⟩
theorem SE87 : EqStruct Tryz.prog 87 [.int .i64, .int .i64] := ⟨by kernel_rfl, by kernel_rfl, by kernel_rfl⟩
def Question.vals (x : Question) : List Value := [.int .i64 x.e, .int .i64 x.f, .bool x.target.hold, .int .i64 x.target.index]
theorem SQ37 (x y : Question) : eqVs (Question.vals x) (Question.vals y) = decide (x = y) := by
 rw [Bool.eq_iff_iff, decide_eq_true_iff]
 rcases x with ⟨_, _, ⟨_, _⟩⟩; rcases y with ⟨_, _, ⟨_, _⟩⟩
 simp [Question.vals, eqVs, eqV, str_beq, and_assoc]
def Term.vals (x : Term) : List Value := [.int .i64 x.cell, .int .i64 x.factor]
theorem SQ41 (x y : Term) : eqVs (Term.vals x) (Term.vals y) = decide (x = y) := by
 rw [Bool.eq_iff_iff, decide_eq_true_iff]
 rcases x with ⟨_, _⟩; rcases y with ⟨_, _⟩
 simp [Term.vals, eqVs, eqV, str_beq, and_assoc]
def Range.vals (x : Range) : List Value := [.int .i64 x.lo, .int .i64 x.hi]
theorem SQ87 (x y : Range) : eqVs (Range.vals x) (Range.vals y) = decide (x = y) := by
 rw [Bool.eq_iff_iff, decide_eq_true_iff]
 rcases x with ⟨_, _⟩; rcases y with ⟨_, _⟩
 simp [Range.vals, eqVs, eqV, str_beq, and_assoc]
theorem KT3 : KeyT Tryz.prog 3 (fun n : Int => Value.int .i64 n) := KeyT.int U3
theorem KT9 : KeyT Tryz.prog 9 (fun l : List UInt8 => Value.string ⟨l.toArray⟩) := KeyT.str U9
end Go.Proofs.YtcagdmegicijlaaGreatDoor
namespace Go.Proofs.YtcagdmegicijlaaGreatDoor
open Go Go.RowKit
def Noneof : Nat → Prop := fun _ => False
structure Dec (P : Program) (t : TypeId) (α : Type) where
 k : Nat
 pos : 0 < k
 cells : P.cellsOf t = k
 flat : α → List D
 el : α → D
 opens : ∀ {H : Type} {enc : TypeId × Value → H} {w : World} {sp : Nat → Bool} {held : Bool} {fuel : Nat} {cs : List Value} {x : DataW H × List MemPlace}, DataW.trod enc P w 0 sp held fuel t cs = some x → ∃ a, D.reps Noneof w (flat a) cs
 elOK : ∀ {w : World} {a : α} {cs : List Value}, D.reps Noneof w (flat a) cs → ∃ u, D.rep Noneof w (el a) u ∧ u.cells.toList = cs
 arg : ∀ {w : World} {r : Reach} {base : Nat} {v : Value} {a : α}, Value.okWide P w r base t v → D.reps Noneof w (flat a) v.cells.toList → D.rep Noneof w (el a) v
theorem reps_one {A : Nat → Prop} {w : World} {d : D} {v : Value} (h : D.rep A w d v) : D.reps A w [d] [v] := by
 simp only [D.reps]; exact ⟨v, [], rfl, h, rfl⟩
theorem zbI {A : Nat → Prop} {w : World} {d : D} {cs : List Value} (h : D.reps A w [d] cs) : ∃ v, cs = [v] ∧ D.rep A w d v := by
 simp only [D.reps] at h
 obtain ⟨v, vs, rfl, h1, rfl⟩ := h
 exact ⟨v, rfl, h1⟩
theorem reps_two {A : Nat → Prop} {w : World} : ∀ {xs ys : List D} {vs us : List Value}, D.reps A w xs vs → D.reps A w ys us → D.reps A w (xs ++ ys) (vs ++ us)
 | [], ys, vs, us, h, k => by simp only [D.reps] at h; subst h; exact k
 | x :: xs, ys, vs, us, h, k => by
  simp only [D.reps] at h
  obtain ⟨v, vs', rfl, h1, h2⟩ := h
  simp only [List.cons_append, D.reps]
  exact ⟨v, vs' ++ us, rfl, h1, reps_two h2 k⟩
variable {P : Program}
def decInt {t : TypeId} (ht : P.underlying t = some (.int .i64)) (hc : P.cellsOf t = 1) : Dec P t Int where
 k := 1
 pos := by decide
 cells := hc
 flat n := [.int n]
 el n := .int n
 opens h := by
  obtain ⟨n, rfl, -, -⟩ := DataW.trod_int ht h
  exact ⟨n, reps_one (by simp only [D.rep])⟩
 elOK {w a cs} h := by
  obtain ⟨v, rfl, h1⟩ := zbI h
  simp only [D.rep] at h1
  subst h1
  exact ⟨.int .i64 a, by simp only [D.rep], rfl⟩
 arg hv h := by
  obtain ⟨n, rfl⟩ := WideShapes.okWide_int ht hv
  obtain ⟨v, hv', h1⟩ := zbI h
  obtain rfl := List.head_eq_of_cons_eq hv'
  exact h1
def decBool {t : TypeId} (ht : P.underlying t = some .bool) (hc : P.cellsOf t = 1) : Dec P t Bool where
 k := 1
 pos := by decide
 cells := hc
 flat n := [.bool n]
 el n := .bool n
 opens h := by
  obtain ⟨n, rfl, -⟩ := DataW.trod_bool ht h
  exact ⟨n, reps_one (by simp only [D.rep])⟩
 elOK {w a cs} h := by
  obtain ⟨v, rfl, h1⟩ := zbI h
  simp only [D.rep] at h1
  subst h1
  exact ⟨.bool a, by simp only [D.rep], rfl⟩
 arg hv h := by
  obtain ⟨n, rfl⟩ := WideShapes.okWide_bool ht hv
  obtain ⟨v, hv', h1⟩ := zbI h
  obtain rfl := List.head_eq_of_cons_eq hv'
  exact h1
def decStr {t : TypeId} (ht : P.underlying t = some .string) (hc : P.cellsOf t = 1) : Dec P t (List UInt8) where
 k := 1
 pos := by decide
 cells := hc
 flat s := [.str s]
 el s := .str s
 opens h := by
  obtain ⟨s, rfl, -, -⟩ := DataW.trod_string ht h
  exact ⟨s.data.toList, reps_one (by simp only [D.rep])⟩
 elOK {w a cs} h := by
  obtain ⟨v, rfl, h1⟩ := zbI h
  simp only [D.rep] at h1
  subst h1
  exact ⟨.string ⟨a.toArray⟩, by simp only [D.rep], rfl⟩
 arg hv h := by
  obtain ⟨n, rfl⟩ := WideShapes.okWide_string ht hv
  obtain ⟨v, hv', h1⟩ := zbI h
  obtain rfl := List.head_eq_of_cons_eq hv'
  exact h1
theorem row_of_reads {α : Type} {t e : TypeId} (d : Dec P e α) {H : Type} {enc : TypeId × Value → H} {w : World} {sp : Nat → Bool} {held : Bool} {n : Nat} {b off : Nat} : ∀ (m : Nat) (DD : Nat → DataW H) (Pl : Nat → List MemPlace) (o : Nat),
  (∀ i, i < m → ∃ cs', w.cells? 0 ((⟨b, off, none⟩ : Addr).add ((o + i) * P.cellsOf e)) (P.cellsOf e) = some cs' ∧ DataW.trod enc P w 0 sp held n e cs' = some (DD i, Pl i)) → ∃ l : List α, l.length = m ∧ D.row Noneof w b d.k (l.map d.el) (off + o * d.k)
 | 0, _, _, _, _ => ⟨[], rfl, by simp only [List.map_nil, D.row]⟩
 | m + 1, DD, Pl, o, h => by
  obtain ⟨cs', h1, h2⟩ := h 0 (by omega)
  obtain ⟨a, ha⟩ := d.opens h2
  obtain ⟨u, hu1, hu2⟩ := d.elOK ha
  obtain ⟨l, hl1, hl2⟩ := row_of_reads (t := t) d m (fun i => DD (i + 1)) (fun i => Pl (i + 1)) (o + 1) (fun i hi => by
   have := h (i + 1) (by omega)
   rwa [show o + (i + 1) = o + 1 + i by omega] at this)
  refine ⟨a :: l, by simp [hl1], ?_⟩
  simp only [List.map_cons, D.row]
  obtain ⟨-, c2, c3⟩ := World.cells?_some h1
  have hsz : u.cells.size = d.k := by rw [← Array.length_toList, hu2, c2, d.cells]
  refine ⟨⟨u, hu1, fun j hj => ?_, hsz⟩, ?_⟩
  ·have := c3 j (by rw [d.cells]; omega)
   rw [Nat.add_zero, d.cells, Deep.add_add] at this
   have hadd : (⟨b, off, none⟩ : Addr).add (o * d.k + j) = ⟨b, off + o * d.k + j, none⟩ := by
    unfold Addr.add
    by_cases h0 : o * d.k + j = 0
    ·rw [if_pos h0]; congr 1; omega
    ·rw [if_neg h0]
     show (⟨b, off + (o * d.k + j), none⟩ : Addr) = _
     congr 1; omega
   rw [hadd] at this
   rw [this, ← hu2, Array.getElem?_toList]
  ·rw [show off + (o + 1) * d.k = off + o * d.k + d.k by rw [Nat.succ_mul]; omega] at hl2
   exact hl2
def decSl {α : Type} {t e : TypeId} (d : Dec P e α) (ht : P.underlying t = some (.slice e)) (hc : P.cellsOf t = 1) : Dec P t (List α) where
 k := 1
 pos := by decide
 cells := hc
 flat l := [.sl d.k (l.map d.el)]
 el l := .sl d.k (l.map d.el)
 opens {H enc w sp held fuel cs x} h := by
  rcases Deep.open_slice ht h with ⟨rfl, -⟩ | ⟨a, len, cap, m, n, DD, Pl, rfl, -, hl, -, hm, -, hx⟩
  ·exact ⟨[], reps_one (by simp only [List.map_nil, D.rep, List.length_nil]; exact ⟨none, 0, rfl, Nat.le_refl _, .inl trivial⟩)⟩
  ·have hlm : len ≤ m := by rw [hm]; split <;> omega
   cases len with
   | zero => exact ⟨[], reps_one (by simp only [List.map_nil, D.rep, List.length_nil]; exact ⟨_, cap, rfl, Nat.zero_le _, .inl trivial⟩)⟩
   | succ len =>
    obtain ⟨cs', h1, h2⟩ := hx 0 (by omega)
    obtain ⟨-, c2, c3⟩ := World.cells?_some h1
    have hp := d.pos
    have h0 := c3 0 (by rw [d.cells]; omega)
    rw [Nat.zero_mul] at h0
    have ha : (a.add 0).add 0 = a := by simp [Addr.add]
    rw [ha] at h0
    have hsome : ∃ v, w.cell? a = some v := by
     rw [h0]
     exact ⟨_, List.getElem?_eq_getElem (show 0 < cs'.length by rw [c2, d.cells]; omega)⟩
    obtain ⟨v, hv⟩ := hsome
    obtain ⟨b, off, sp'⟩ := a
    have hsp : sp' = none := by
     unfold World.cell? at hv
     simp only [] at hv
     split at hv
     ·cases sp' with
      | none => rfl
      | some z => simp at hv
     ·cases hv
    subst hsp
    have hb : b < w.heap.size := by
     unfold World.cell? at hv
     simp only [] at hv
     split at hv
     ·rename_i hh
      exact (Array.getElem?_eq_some_iff.1 hh).1
     ·cases hv
    obtain ⟨l, l1, l2⟩ := row_of_reads (t := t) d (b := b) (off := off) (len + 1) DD Pl 0 (fun i hi => by
     obtain ⟨cs2, q1, q2⟩ := hx i (by omega)
     exact ⟨cs2, by rw [Nat.zero_add]; exact q1, q2⟩)
    refine ⟨l, reps_one ?_⟩
    simp only [D.rep]
    refine ⟨_, cap, by rw [List.length_map, l1], by rw [List.length_map, l1]; exact hl, .inr ⟨b, off, rfl, fun hf => hf, hb, ?_⟩⟩
    simpa using l2
 elOK h := by
  obtain ⟨v, rfl, h1⟩ := zbI h
  refine ⟨v, h1, ?_⟩
  simp only [D.rep] at h1
  obtain ⟨a, cap, rfl, -⟩ := h1
  rfl
 arg hv h := by
  obtain ⟨b, len, cap, rfl⟩ := WideShapes.okWide_slice ht hv
  obtain ⟨v, hv', h1⟩ := zbI h
  obtain rfl := List.head_eq_of_cons_eq hv'
  exact h1
structure DecF (P : Program) (off : Nat) (fs : List Field) (α : Type) where
 k : Nat
 flat : α → List D
 opens : ∀ {H : Type} {enc : TypeId × Value → H} {w : World} {sp : Nat → Bool} {held : Bool} {fuel : Nat} {cs : List Value}, cs.length = off + k →
  (∀ f ∈ fs, ∃ x : DataW H × List MemPlace, DataW.trod enc P w 0 sp held fuel f.type ((cs.drop f.offset).take (P.cellsOf f.type)) = some x) → ∃ a, D.reps Noneof w (flat a) (cs.drop off)
def fNil {off : Nat} : DecF P off [] Unit where
 k := 0
 flat _ := []
 opens hl _ := ⟨(), by rw [List.drop_of_length_le (by omega)]; simp only [D.reps]⟩
def fCons {α β : Type} {off off' : Nat} {f : Field} {fs : List Field} {t : TypeId} (d : Dec P t α) (ht : f.type = t) (ho : f.offset = off) (r : DecF P off' fs β) (hoff : off + d.k = off') : DecF P off (f :: fs) (α × β) where
 k := d.k + r.k
 flat a := d.flat a.1 ++ r.flat a.2
 opens {H enc w sp held fuel cs} hl h := by
  subst hoff
  obtain ⟨x, hx⟩ := h f (by simp)
  rw [ht, ho, d.cells] at hx
  obtain ⟨a, ha⟩ := d.opens hx
  obtain ⟨b, hb⟩ := r.opens (by omega) fun g hg => h g (by simp [hg])
  refine ⟨(a, b), ?_⟩
  have e : cs.drop off = (cs.drop off).take d.k ++ cs.drop (off + d.k) := by
   rw [← List.drop_drop, List.take_append_drop]
  rw [e]
  exact reps_two ha hb
def decS {α β : Type} {t : TypeId} {fs : Array Field} (ht : P.underlying t = some (.struct fs)) (F : DecF P 0 fs.toList α) (hc : P.cellsOf t = F.k) (hp : 0 < F.k) (mk : α → β) (flat : β → List D) (hflat : ∀ a, flat (mk a) = F.flat a) : Dec P t β where
 k := F.k
 pos := hp
 cells := hc
 flat := flat
 el b := .agg (flat b)
 opens {H enc w sp held fuel cs x} h := by
  obtain ⟨xs, n, -, -, hl, hsz, hf⟩ := DataW.trod_struct ht h
  obtain ⟨a, ha⟩ := F.opens (enc := enc) (w := w) (sp := sp) (held := held) (fuel := n) (cs := cs) (by omega) fun f hm => by
   obtain ⟨i, hi, rfl⟩ := List.mem_iff_getElem.1 hm
   have h1 := hf i _ (by rw [← Array.getElem?_toList]; exact List.getElem?_eq_getElem hi)
   rw [h1]
   have hix : i < xs.length := by rw [hsz, ← Array.length_toList]; exact hi
   exact ⟨_, List.getElem?_eq_getElem hix⟩
  refine ⟨mk a, ?_⟩
  rw [hflat]
  simpa using ha
 elOK {w a cs} h := by
  refine ⟨.agg cs.toArray, ?_, rfl⟩
  simp only [D.rep]
  exact ⟨cs.toArray, rfl, by simpa using h⟩
 arg {w r base v a} hv h := by
  obtain ⟨cs, rfl, -⟩ := WideShapes.okWide_struct ht hv
  simp only [D.rep]
  exact ⟨cs, rfl, h⟩
theorem Dec.of_arg {α : Type} {t : TypeId} (d : Dec P t α) {H : Type} {enc : TypeId × Value → H} {w : World} {sp : Nat → Bool} {held : Bool} {r : Reach} {base : Nat} {v : Value} {dd : DataW H} {ps : List MemPlace} (hv : Value.okWide P w r base t v) (h : DataW.Trod enc P w 0 sp held t v dd ps) : ∃ a, D.rep Noneof w (d.el a) v := by
 obtain ⟨fuel, hf⟩ := h
 obtain ⟨a, ha⟩ := d.opens hf
 exact ⟨a, d.arg hv ha⟩
theorem trodAll_stays {H : Type} {enc : TypeId × Value → H} (hl : laidOutB P = true) {W W' : World} (hb : Fr ze W W') {sp : Nat → Bool} : ∀ {ts : List TypeId} {vs : List Value} {ds : List (DataW H)} {ps : List MemPlace}, (∀ t ∈ ts, P.readableRec t = true ∧ t < P.types.size) → DataW.TrodAll enc P W 0 (fun _ => true) true ts vs ds ps → (∀ p ∈ ps, p.block < W.heap.size) → (∀ p ∈ ps, sp p.block = true) → DataW.TrodAll enc P W' 0 sp true ts vs ds ps
 | [], vs, ds, ps, _, h, _, _ => by
  obtain ⟨rfl, rfl, rfl⟩ := ChangeShapes.trodAll_nil h
  exact ChangeShapes.trodAll_mk0
 | t :: ts, vs, ds, ps, hr, h, hlt, hs => by
  obtain ⟨v, vs', d, ds', p, q, rfl, rfl, rfl, h1, h2⟩ := ChangeShapes.trodAll_cons h
  refine ⟨p, q, WideElems.Trod_stays hl (hr t (by simp)).1 (hr t (by simp)).2 h1 (fun x hx => ?_) (fun x hx => hs x (by simp [hx])), trodAll_stays hl hb (fun u hu => hr u (by simp [hu])) h2 (fun x hx => hlt x (by simp [hx])) (fun x hx => hs x (by simp [hx])), rfl⟩
  have hx' := hlt x (by simp [hx])
  cases x with
  | cell b o => exact World.cell?_of_block (w := W) (hb.block b hx' (fun h => h))
  | map b => exact hb.block b hx' (fun h => h)
theorem post_kept {H : Type} {enc : TypeId × Value → H} {f : Func} {s : ChangeSpec} {W W' : World} {args : Array Value} {v : Value} {ds gs : List (DataW H)} {before : List MemPlace}
  (hW : DataW.Whole enc P f.params.toList s.vars false W args.toList ds gs before) (hvars : s.vars = []) (hx : (s.fn H (ds ++ gs)).args = ds) (hy : (s.fn H (ds ++ gs)).vars = [])
  (hl : laidOutB P = true) (hr : ∀ t ∈ f.params.toList, P.readableRec t = true ∧ t < P.types.size) (hf : Fr ze W W')
  (hres : ∀ (b : Nat) (sp : Nat → Bool) (hd : Bool), DataW.TrodAll enc P W' b sp hd f.resultTypes.toList (v.resultList f.resultTypes.size) (s.fn H (ds ++ gs)).results []) :
  s.post enc P f false true false false W args v W' := by
 have hb : Below W.heap.size W W' := ⟨hf.os, hf.tape, hf.output, hf.size, fun k hk => hf.block k hk fun h => h⟩
 have hlt : ∀ p ∈ before, p.block < W.heap.size := fun p hp => hW.lt p hp
 obtain ⟨p, q, hA, hV, rfl, -, -⟩ := id hW
 rw [hvars] at hV
 obtain ⟨rfl, rfl⟩ := ChangeShapes.trodVars_none hV
 simp only [List.append_nil] at hlt
 have hst : ∀ sp : Nat → Bool, (∀ x ∈ p, sp x.block = true) → DataW.TrodAll enc P W' 0 sp true f.params.toList args.toList (s.fn H (ds ++ [])).args p := fun sp hs => by
  rw [hx]; exact trodAll_stays hl hf hr hA hlt hs
 have hvs : ∀ sp : Nat → Bool, DataW.TrodVars enc P W' sp s.vars (s.fn H (ds ++ [])).vars [] := fun sp => by
  rw [hvars, hy]; rfl
 exact ⟨ds, [], p ++ [], [], p, [], hW, hres _ _ _, hst _ (fun x hx => by simpa using hlt x hx), hvs _, hb.frame _, fun h => by cases h⟩
end Go.Proofs.YtcagdmegicijlaaGreatDoor
namespace Go.Proofs.YtcagdmegicijlaaGreatDoor
open Go Go.RowKit
noncomputable def dInt : Dec Tryz.prog 3 Int := decInt Tryz.underlying3 (by kernel_rfl)
noncomputable def dBool : Dec Tryz.prog 4 Bool := decBool Tryz.underlying4 (by kernel_rfl)
noncomputable def dStr : Dec Tryz.prog 9 (List UInt8) := decStr Tryz.underlying9 (by kernel_rfl)
noncomputable def dInts : Dec Tryz.prog 22 (List Int) := decSl dInt Tryz.underlying22 (by kernel_rfl)
noncomputable def dStrs : Dec Tryz.prog 24 (List (List UInt8)) := decSl dStr Tryz.underlying24 (by kernel_rfl)
noncomputable def dRange : Dec Tryz.prog 87 Range := decS (α := Int × Int × Unit) Tryz.underlying87 (fCons dInt rfl rfl (fCons dInt rfl rfl fNil rfl) rfl) (by kernel_rfl) (by decide) (fun x => ⟨x.1, x.2.1⟩) (fun x => [.int x.lo, .int x.hi]) (fun _ => rfl)
noncomputable def dTerm : Dec Tryz.prog 41 Term := decS (α := Int × Int × Unit) Tryz.underlying41 (fCons dInt rfl rfl (fCons dInt rfl rfl fNil rfl) rfl) (by kernel_rfl) (by decide) (fun x => ⟨x.1, x.2.1⟩) (fun x => [.int x.cell, .int x.factor]) (fun _ => rfl)
noncomputable def dTerms : Dec Tryz.prog 31 (List Term) := decSl dTerm Tryz.underlying31 (by kernel_rfl)
noncomputable def dRow : Dec Tryz.prog 33 Row := decS (α := List Term × Int × Unit) Tryz.underlying33 (fCons dTerms rfl rfl (fCons dInt rfl rfl fNil rfl) rfl) (by kernel_rfl) (by decide) (fun x => ⟨x.1, x.2.1⟩) (fun x => [.sl 2 (x.terms.map Term.enc), .int x.bound]) (fun _ => rfl)
noncomputable def dTable : Dec Tryz.prog 127 Table := decS (α := List UInt8 × Int × List Int × Range × Int × Unit) Tryz.underlying127 (fCons dStr rfl rfl (fCons dInt rfl rfl (fCons dInts rfl rfl (fCons dRange rfl rfl (fCons dInt rfl rfl fNil rfl) rfl) rfl) rfl) rfl) (by kernel_rfl) (by decide) (fun x => ⟨x.1, x.2.1, x.2.2.1, x.2.2.2.1, x.2.2.2.2.1⟩) (fun x => [.str x.name, .int x.kind, .sl 1 (x.columns.map D.int), .int x.range.lo, .int x.range.hi, .int x.first]) (fun _ => rfl)
noncomputable def dTables : Dec Tryz.prog 23 (List Table) := decSl dTable Tryz.underlying23 (by kernel_rfl)
noncomputable def dCon : Dec Tryz.prog 78 Constraint := decS (α := Int × Int × Row × Int × Int × Unit) Tryz.underlying78 (fCons dInt rfl rfl (fCons dInt rfl rfl (fCons dRow rfl rfl (fCons dInt rfl rfl (fCons dInt rfl rfl fNil rfl) rfl) rfl) rfl) rfl) (by kernel_rfl) (by decide) (fun x => ⟨x.1, x.2.1, x.2.2.1, x.2.2.2.1, x.2.2.2.2.1⟩) (fun x => [.int x.kind, .int x.family, .sl 2 (x.row.terms.map Term.enc), .int x.row.bound, .int x.first, .int x.size]) (fun _ => rfl)
noncomputable def dCons : Dec Tryz.prog 25 (List Constraint) := decSl dCon Tryz.underlying25 (by kernel_rfl)
noncomputable def dOper : Dec Tryz.prog 129 Operation := decS (α := List UInt8 × Bool × List Int × Unit) Tryz.underlying129 (fCons dStr rfl rfl (fCons dBool rfl rfl (fCons dInts rfl rfl fNil rfl) rfl) rfl) (by kernel_rfl) (by decide) (fun x => ⟨x.1, x.2.1, x.2.2.1⟩) (fun x => [.str x.name, .bool x.ordered, .sl 1 (x.sorts.map D.int)]) (fun _ => rfl)
noncomputable def dOpers : Dec Tryz.prog 26 (List Operation) := decSl dOper Tryz.underlying26 (by kernel_rfl)
noncomputable def dChange : Dec Tryz.prog 131 Change := decS (α := Int × Int × Unit) Tryz.underlying131 (fCons dInt rfl rfl (fCons dInt rfl rfl fNil rfl) rfl) (by kernel_rfl) (by decide) (fun x => ⟨x.1, x.2.1⟩) (fun x => [.int x.cell, .int x.add]) (fun _ => rfl)
noncomputable def dChanges : Dec Tryz.prog 79 (List Change) := decSl dChange Tryz.underlying79 (by kernel_rfl)
noncomputable def dRows : Dec Tryz.prog 49 (List Row) := decSl dRow Tryz.underlying49 (by kernel_rfl)
noncomputable def dUpdate : Dec Tryz.prog 218 Update := decS (α := Int × Int × Int × Unit) Tryz.underlying218 (fCons dInt rfl rfl (fCons dInt rfl rfl (fCons dInt rfl rfl fNil rfl) rfl) rfl) (by kernel_rfl) (by decide) (fun x => ⟨x.1, x.2.1, x.2.2.1⟩) (fun x => [.int x.kind, .int x.cell, .int x.value]) (fun _ => rfl)
noncomputable def dUpdates : Dec Tryz.prog 80 (List Update) := decSl dUpdate Tryz.underlying80 (by kernel_rfl)
noncomputable def dEffect : Dec Tryz.prog 82 Effect := decS (α := List Change × List Row × List Update × Unit) Tryz.underlying82 (fCons dChanges rfl rfl (fCons dRows rfl rfl (fCons dUpdates rfl rfl fNil rfl) rfl) rfl) (by kernel_rfl) (by decide) (fun x => ⟨x.1, x.2.1, x.2.2.1⟩) (fun x => [.sl 2 (x.delta.map Change.enc), .sl 2 (x.hold.map Row.enc), .sl 3 (x.updates.map Update.enc)]) (fun _ => rfl)
noncomputable def dAction : Dec Tryz.prog 84 Action := decS (α := Int × List Int × Effect × Unit) Tryz.underlying84 (fCons dInt rfl rfl (fCons dInts rfl rfl (fCons dEffect rfl rfl fNil rfl) rfl) rfl) (by kernel_rfl) (by decide) (fun x => ⟨x.1, x.2.1, x.2.2.1⟩) (fun x => [.int x.operation, .sl 1 (x.arguments.map D.int), .sl 2 (x.effect.delta.map Change.enc), .sl 2 (x.effect.hold.map Row.enc), .sl 3 (x.effect.updates.map Update.enc)]) (fun _ => rfl)
noncomputable def dActions : Dec Tryz.prog 27 (List Action) := decSl dAction Tryz.underlying27 (by kernel_rfl)
noncomputable def dHide : Dec Tryz.prog 179 Hide := decS (α := Int × Int × Int × Unit) Tryz.underlying179 (fCons dInt rfl rfl (fCons dInt rfl rfl (fCons dInt rfl rfl fNil rfl) rfl) rfl) (by kernel_rfl) (by decide) (fun x => ⟨x.1, x.2.1, x.2.2.1⟩) (fun x => [.int x.table, .int x.column, .int x.to]) (fun _ => rfl)
noncomputable def dHides : Dec Tryz.prog 28 (List Hide) := decSl dHide Tryz.underlying28 (by kernel_rfl)
noncomputable def dModel : Dec Tryz.prog 30 Model := decS (α := List Int × List Table × List (List UInt8) × List Constraint × List Operation × List Action × List Hide × Unit) Tryz.underlying30 (fCons dInts rfl rfl (fCons dTables rfl rfl (fCons dStrs rfl rfl (fCons dCons rfl rfl (fCons dOpers rfl rfl (fCons dActions rfl rfl (fCons dHides rfl rfl fNil rfl) rfl) rfl) rfl) rfl) rfl) rfl) (by kernel_rfl) (by decide) (fun x => ⟨x.1, x.2.1, x.2.2.1, x.2.2.2.1, x.2.2.2.2.1, x.2.2.2.2.2.1, x.2.2.2.2.2.2.1⟩) (fun x => [.sl 1 (x.sorts.map D.int), .sl 6 (x.tables.map Table.enc), .sl 1 (x.families.map D.str), .sl 6 (x.constraints.map Constraint.enc), .sl 3 (x.operations.map Operation.enc), .sl 5 (x.actions.map Action.enc), .sl 3 (x.hides.map Hide.enc)]) (fun _ => rfl)
noncomputable def dTarget : Dec Tryz.prog 35 Target := decS (α := Bool × Int × Unit) Tryz.underlying35 (fCons dBool rfl rfl (fCons dInt rfl rfl fNil rfl) rfl) (by kernel_rfl) (by decide) (fun x => ⟨x.1, x.2.1⟩) (fun x => [.bool x.hold, .int x.index]) (fun _ => rfl)
noncomputable def dQuest : Dec Tryz.prog 37 Question := decS (α := Int × Int × Target × Unit) Tryz.underlying37 (fCons dInt rfl rfl (fCons dInt rfl rfl (fCons dTarget rfl rfl fNil rfl) rfl) rfl) (by kernel_rfl) (by decide) (fun x => ⟨x.1, x.2.1, x.2.2.1⟩) (fun x => [.int x.e, .int x.f, .bool x.target.hold, .int x.target.index]) (fun _ => rfl)
theorem type0 : (((begin Tryz.prog (fun _ _ => 0) default).world.heap[0]?).bind Obj.row?).map (·.2) = some 274 := by kernel_rfl
theorem glob_ok {W : World} (hL : laidMetH Tryz.prog Rows.conditionChangesRow.laid W) (hS : W.ShapedOpen Tryz.prog) : GlobOK Noneof W := by
 intro p hp
 have e : p = (0, Obj.cells (tab0.map (Value.int .u8)).toArray 274 (0, 0)) := by simpa [Globs.gs] using hp
 subst e
 refine ⟨fun h => h, ?_⟩
 rw [MakeChecks.laidMetH_plain _ _ _ (by kernel_rfl)] at hL
 have e : (Rows.laid_strings_asciiSpace : DataW Unit) = Lib.tabData .u8 tab0 := by kernel_rfl
 have hT : laidMet Tryz.prog [("strings.asciiSpace", Lib.tabData .u8 tab0)] W := by rw [← e]; exact hL.tail
 have ht : Lib.TabIs Tryz.prog W "strings.asciiSpace" .u8 tab0 := Lib.tabIs_of_head (g := 0) (t := 274) (e := 5) (n := 256) (by kernel_rfl) (by kernel_rfl) Tryz.underlying274 Tryz.underlying5 (by kernel_rfl) (by kernel_rfl) hT
 obtain ⟨⟨zero, t⟩, hz, rfl⟩ := Option.map_eq_some_iff.1 type0
 obtain ⟨cs, hcs, -, -⟩ := hS.1 0 zero 274 (by rw [show Tryz.prog.globals.size = 4 by kernel_rfl]; decide) hz
 have hv := ht
 unfold Lib.TabIs World.var? at hv
 rw [show Tryz.prog.globalNamed "strings.asciiSpace" = some 0 by kernel_rfl] at hv
 simp only [Option.bind_some, hcs, Option.some.injEq] at hv
 rw [hcs, hv]
end Go.Proofs.YtcagdmegicijlaaGreatDoor
namespace Go.Proofs.YtcagdmegicijlaaGreatDoor
open Go Go.RowKit
variable [Globs]
def After (s' : St) (e : Exit) (s : St) : Prop := e = .normal ∧ s = s'
theorem Oper.wp_after {P : Program} {C : Ctx} {s' : St} {o : Oper} {a : Act} {w : World} {K : Act → World → Prop} {Q : Exit → Act → World → Prop}
  (hK : ∀ a w, (∃ bs, R C bs s' a w) → K a w) (h : o.wp P a w (QR C (After s') .normal) (QR C (After s'))) : o.wp P a w K Q := by
 have hn : ∀ a w, QR C (After s') .normal a w → K a w := fun a w h => by
  rcases h with ⟨bs', s1, ⟨_, rfl⟩, hR⟩ | ⟨h, _⟩
  ·exact hK a w ⟨bs', hR⟩
  ·cases h
 have hp : ∀ c a w, ¬ QR C (After s') (.panic c) a w := fun c a w h => by
  rcases h with ⟨bs', s1, ⟨h, _⟩, hR⟩ | ⟨h, _⟩ <;> cases h
 have ho : ¬ LetsOut (QR C (After s')) := fun ⟨a, w, h⟩ => by
  rcases h with ⟨bs', s1, ⟨h, _⟩, hR⟩ | ⟨h, _⟩ <;> cases h
 unfold Oper.wp at *
 generalize (execOp a.eval o).run P w = r at *
 cases r with
 | ok n w' =>
  cases n <;> simp only [Oper.upon] at h ⊢
  case value u => exact hn _ _ h
  case skip => exact hn _ _ h
  case defer d => exact hn _ _ h
  case enter f args =>
   refine Calls.mono h fun e w'' he => ?_
   cases e with
   | returned u => exact hn _ _ he
   | panicked c => exact absurd he (hp _ _ _)
   | outgrown => exact absurd he ho
  case row row args => exact Rows.mono h fun u w'' he => hn _ _ he
 | halt x w' =>
  cases x <;> simp only [Oper.upon] at h ⊢
  case panic u => exact absurd h (hp _ _ _)
structure TriA (P : Program) (C : Ctx) (ops : Array Oper) (fuel : Nat) (listed : Array Bool) (Q : Exit → St → Prop) (s : St) : Prop where
 run : ∀ bs a w, R C bs s a w → wpAny P .any ops (QR C Q) fuel listed a w
inductive Nexts (P : Program) (C : Ctx) (ops : Array Oper) (fuel : Nat) (listed : Array Bool) (Q : Exit → St → Prop) (s : St) : List Nat → Prop
 | nil : Nexts P C ops fuel listed Q s []
 | cons {i : Nat} {o : Oper} {s' : St} {is : List Nat} : ops.toList[i]? = some o → TriL P C ops [o] (After s') s → TriA P C ops fuel (listed.setIfInBounds i true) Q s' → Nexts P C ops fuel listed Q s is → Nexts P C ops fuel listed Q s (i :: is)
end Go.Proofs.YtcagdmegicijlaaGreatDoor
namespace Go.Proofs.YtcagdmegicijlaaGreatDoor
open Go Go.RowKit
def isData : Obj → Bool
 | .cells _ _ _ | .map _ _ | .mapIter _ _ _ _ => true
 | _ => false
structure Turn (w w' : World) : Prop where
 size : w'.heap.size = w.heap.size
 at_ : ∀ (b : Nat) (o : Obj), w.heap[b]? = some o → isData o = true → w'.heap[b]? = some o
theorem Turn.put {w : World} {l : Nat} {o o' : Obj} (h : w.heap[l]? = some o) (hn : isData o = false) : Turn w (w.putObj l o') :=
 ⟨by simp, fun b q hb hq => by
  by_cases e : b = l
  ·subst e; rw [h] at hb; cases hb; rw [hn] at hq; cases hq
  ·exact (World.putObj_heap_other e).trans hb⟩
theorem Turn.cell {w w' : World} (t : Turn w w') {p : Addr} {v : Value} (h : w.cell? p = some v) : w'.cell? p = some v := by
 unfold World.cell? at h ⊢
 cases hb : w.heap[p.block]? with
 | none => simp [hb] at h
 | some o =>
  cases o with
  | cells c e f => rw [t.at_ _ _ hb rfl]; simpa [hb] using h
  | _ => simp [hb] at h
theorem Turn.cells {w w' : World} (t : Turn w w') {b off : Nat} {u : Value} (h : CellsAt w b off u) : CellsAt w' b off u := fun j hj => by
 have := h j hj
 rw [Array.getElem?_eq_getElem hj] at this ⊢
 exact t.cell this
theorem Turn.row {w w' : World} (t : Turn w w') {b : Nat} {e : TypeId} {k : Nat} {v : Value} {n : Nat} {xs : List Value} (h : w.ownsRow b e k v n xs) : w'.ownsRow b e k v n xs :=
 ⟨h.1, h.2.imp id fun ⟨g, cap, cur, a1, a2, a3, rest⟩ => ⟨g, cap, cur, a1, a2, t.at_ _ _ a3 rfl, rest⟩⟩
mutual
theorem D.rep_turn {A : Nat → Prop} {w w' : World} (t : Turn w w') : ∀ (d : D) (v : Value), D.rep A w d v → D.rep A w' d v
 | .val x, v, hv => by simpa only [D.rep] using hv
 | .agg cs, v, hv => by
  simp only [D.rep] at hv ⊢
  obtain ⟨vs, e, hr⟩ := hv
  exact ⟨vs, e, D.reps_turn t cs _ hr⟩
 | .tup cs, v, hv => by
  simp only [D.rep] at hv ⊢
  obtain ⟨vs, e, hr⟩ := hv
  exact ⟨vs, e, D.reps_turn t cs _ hr⟩
 | .sl k xs, v, hv => by
  simp only [D.rep] at hv ⊢
  obtain ⟨a, cap, e, hcap, hr⟩ := hv
  refine ⟨a, cap, e, hcap, hr.imp id fun ⟨b, off, ea, hb, hs, hr⟩ => ⟨b, off, ea, hb, by rw [t.size]; exact hs, D.row_turn t b k xs off hr⟩⟩
 | .ref x, v, hv => by
  simp only [D.rep] at hv ⊢
  obtain ⟨b, off, u, e, hb, hs, hr, hc⟩ := hv
  exact ⟨b, off, u, e, hb, by rw [t.size]; exact hs, D.rep_turn t x u hr, t.cells hc⟩
 | .fn f fs cs, v, hv => by
  simp only [D.rep] at hv ⊢
  obtain ⟨vs, us, e, h1, h2⟩ := hv
  exact ⟨vs, us, e, D.reps_turn t fs _ h1, D.reps_turn t cs _ h2⟩
 | .mp ks ds, v, hv => by
  simp only [D.rep] at hv ⊢
  obtain ⟨b, es, clock, e, hb, hs, hh, h1, h2⟩ := hv
  exact ⟨b, es, clock, e, hb, by rw [t.size]; exact hs, t.at_ _ _ hh rfl, h1, D.reps_turn t ds _ h2⟩
theorem D.reps_turn {A : Nat → Prop} {w w' : World} (t : Turn w w') : ∀ (ds : List D) (vs : List Value), D.reps A w ds vs → D.reps A w' ds vs
 | [], vs, hv => by simpa only [D.reps] using hv
 | d :: ds, vs, hv => by
  simp only [D.reps] at hv ⊢
  obtain ⟨v, vs', e, h1, h2⟩ := hv
  exact ⟨v, vs', e, D.rep_turn t d v h1, D.reps_turn t ds vs' h2⟩
theorem D.row_turn {A : Nat → Prop} {w w' : World} (t : Turn w w') (b k : Nat) : ∀ (xs : List D) (off : Nat), D.row A w b k xs off → D.row A w' b k xs off
 | [], _, _ => by simp only [D.row]
 | x :: xs, off, hv => by
  simp only [D.row] at hv ⊢
  obtain ⟨⟨u, h1, h2, h3⟩, h4⟩ := hv
  exact ⟨⟨u, D.rep_turn t x u h1, t.cells h2, h3⟩, D.row_turn t b k xs (off + k) h4⟩
end
theorem D.flat_turn {A : Nat → Prop} {w w' : World} (t : Turn w w') {k : Nat} : ∀ (xs : List D) (cs : List Value), D.flat A w k xs cs → D.flat A w' k xs cs
 | [], cs, hv => by simpa only [D.flat] using hv
 | x :: xs, cs, hv => by
  simp only [D.flat] at hv ⊢
  obtain ⟨u, cs', e, hk, h1, h2⟩ := hv
  exact ⟨u, cs', e, hk, D.rep_turn t x u h1, D.flat_turn t xs cs' h2⟩
mutual
theorem V.rep_turn {A : Nat → Prop} {w w' : World} {bs : List (Option Nat)} {H : List Blk} (t : Turn w w') : ∀ (x : V) (v : Value), V.rep A w bs H x v → V.rep A w' bs H x v
 | .d x, v, hv => by simp only [V.rep] at hv ⊢; exact D.rep_turn t x v hv
 | .loc i off, v, hv => by simpa only [V.rep] using hv
 | .vec i n, v, hv => by
  simp only [V.rep] at hv ⊢
  split at hv
  ·refine ⟨hv.1, fun hn => ?_⟩
   obtain ⟨cells, h1, h2, h3⟩ := hv.2 hn
   exact ⟨cells, t.row h1, h2, D.flat_turn t _ cells h3⟩
  ·trivial
  ·exact hv.elim
 | .arr i off n, v, hv => by simpa only [V.rep] using hv
 | .el i n j off, v, hv => by
  simp only [V.rep] at hv ⊢
  split at hv
  ·refine ⟨hv.1, fun hn => ?_⟩
   obtain ⟨hdr, cells, h1, h2, h3, h4⟩ := hv.2 hn
   exact ⟨hdr, cells, t.row h1, h2, D.flat_turn t _ cells h3, h4⟩
  ·trivial
  ·exact hv.elim
 | .sub i n lo hi, v, hv => by
  simp only [V.rep] at hv ⊢
  split at hv
  ·refine ⟨hv.1, fun hn => ?_⟩
   obtain ⟨hdr, cells, h1, h2, h3, h4⟩ := hv.2 hn
   exact ⟨hdr, cells, t.row h1, h2, D.flat_turn t _ cells h3, h4⟩
  ·trivial
  ·exact hv.elim
 | .agg cs, v, hv => by
  simp only [V.rep] at hv ⊢
  obtain ⟨vs, e, hr⟩ := hv
  exact ⟨vs, e, V.reps_turn t cs _ hr⟩
 | .tup cs, v, hv => by
  simp only [V.rep] at hv ⊢
  obtain ⟨vs, e, hr⟩ := hv
  exact ⟨vs, e, V.reps_turn t cs _ hr⟩
 | .fn f fs cs, v, hv => by
  simp only [V.rep] at hv ⊢
  obtain ⟨vs, us, e, h1, h2⟩ := hv
  exact ⟨vs, us, e, V.reps_turn t fs _ h1, V.reps_turn t cs _ h2⟩
 | .mp i, v, hv => by simpa only [V.rep] using hv
 | .itp i, v, hv => by simpa only [V.rep] using hv
 | .junk, _, _ => by simp only [V.rep]
theorem V.reps_turn {A : Nat → Prop} {w w' : World} {bs : List (Option Nat)} {H : List Blk} (t : Turn w w') : ∀ (xs : List V) (vs : List Value), V.reps A w bs H xs vs → V.reps A w' bs H xs vs
 | [], vs, hv => by simpa only [V.reps] using hv
 | x :: xs, vs, hv => by
  simp only [V.reps] at hv ⊢
  obtain ⟨v, vs', e, h1, h2⟩ := hv
  exact ⟨v, vs', e, V.rep_turn t x v h1, V.reps_turn t xs vs' h2⟩
end
theorem Blk.rep_turn {A : Nat → Prop} {w w' : World} {bs : List (Option Nat)} {H : List Blk} (t : Turn w w') (i : Nat) (k : Blk) (hk : k.rep A w bs H i) : k.rep A w' bs H i := by
 cases k with
 | box ty cs =>
  simp only [Blk.rep] at hk ⊢
  obtain ⟨b, vs, h1, h2, h3⟩ := hk
  exact ⟨b, vs, h1, t.at_ _ _ h2 rfl, V.reps_turn t cs _ h3⟩
 | arr ty k xs =>
  simp only [Blk.rep] at hk ⊢
  obtain ⟨b, vs, h1, h2, h3⟩ := hk
  exact ⟨b, vs, h1, t.at_ _ _ h2 rfl, D.flat_turn t xs _ h3⟩
 | mp bo ks ds clock =>
  simp only [Blk.rep] at hk ⊢
  obtain ⟨b, es, h1, h2, h3, h4, h5⟩ := hk
  exact ⟨b, es, h1, t.at_ _ _ h2 rfl, h3, h4, D.reps_turn t ds _ h5⟩
 | it j since seen last =>
  simp only [Blk.rep] at hk ⊢
  split at hk
  ·obtain ⟨b, m, h1, h2, h3⟩ := hk
   exact ⟨b, m, h1, h2, t.at_ _ _ h3 rfl⟩
  ·trivial
  ·exact hk.elim
 | vec ty k xs => trivial
 | dead => trivial
theorem R.turn {G G' : Globs} {C C' : Ctx} {bs : List (Option Nat)} {s : St} {a : Act} {w w' : World} (h : @R G C bs s a w) (t : Turn w w') (hA : C'.A0 = C.A0) (hn : C'.n = C.n) (hgh : C'.gh = C.gh) (hgn : C'.gn = C.gn) (hdf : C'.df = C.df)
  (hfr : Fr C'.own0 C'.w0 w') (hnew : ∀ b, some b ∈ bs → C'.own0 b ∨ C'.w0.heap.size ≤ b) (hg : @GlobOK G' (Own C'.A0 bs) w') : @R G' C' bs s a w' := by
 obtain ⟨A0, own0, w0, n, esc, gh, gn, df⟩ := C
 obtain ⟨A1, own1, w1, n1, esc1, gh1, gn1, df1⟩ := C'
 simp only at hA hn hgh hgn hdf hfr hnew hg
 subst hA; subst hn; subst hgh; subst hgn; subst hdf
 obtain ⟨⟨o1, o2, o3, o4, _⟩, hlen, hblk, htmp, hd, hsz, _, _, hghs⟩ := h
 exact ⟨⟨o1, o2, fun b hb => by rw [t.size]; exact o3 b hb, fun b hb => by rw [t.size]; exact o4 b hb, hg⟩, hlen, fun i k hk => Blk.rep_turn t i k (hblk i k hk), fun u v hv => ⟨(htmp u v hv).1, V.rep_turn t v _ (htmp u v hv).2⟩, hd, hsz, hfr, hnew, fun p hp => ⟨(hghs p hp).1, V.rep_turn t _ _ (hghs p hp).2⟩⟩
theorem Pure.widen {G G' : Globs} (hs : ∀ p ∈ G.gs, p ∈ G'.gs) {P : Program} {f : FuncId} {xs : List D} {y : D} (h : @Pure G P f xs y) : @Pure G' P f xs y :=
 by
 obtain ⟨h⟩ := h
 exact ⟨fun A w vs hA hG hr => h A w vs hA (fun p hp => hG p (hs p hp)) hr⟩
variable [Globs]
theorem Oper.wpIn_wide {P : Program} {F : Fence} (hF : F = Fence.wide ∨ ∃ l, F = Fence.wide.inRound l) {o : Oper} (ho : ∀ c, o.op ≠ .defer c) {a : Act} {w : World} {K : Act → World → Prop} {Q : Exit → Act → World → Prop} (h : o.wp P a w K Q) : o.wpIn F 0 P a w K Q := by
 have hfn : ∀ f, F.fn f := by rcases hF with rfl | ⟨l, rfl⟩ <;> exact fun _ => trivial
 have hdep : F.depth = none := by rcases hF with rfl | ⟨l, rfl⟩ <;> rfl
 have hcalls : ∀ {f args w R}, Calls P f args w R → CallsIn F 0 P f args w R := by
  rcases hF with rfl | ⟨l, rfl⟩
  ·exact fun h => callsIn_wide.2 h
  ·exact fun h => (callsIn_wide (n := 0)).2 h
 have hrows : ∀ {row args w R}, Rows P row args w R → RowsIn F 0 P row args w R := by
  rcases hF with rfl | ⟨l, rfl⟩
  ·exact fun h c cs _ => by
    obtain ⟨v, w1, r, s⟩ := h c cs
    exact ⟨v, w1, r, stepsIn_wide.2 s⟩
  ·exact fun h c cs _ => by
    obtain ⟨v, w1, r, s⟩ := h c cs
    exact ⟨v, w1, r, stepsIn_wide.2 s⟩
 refine ⟨fun f _ => hfn f, ?_⟩
 rw [Oper.semAt_eq _ _ _ ho]
 unfold Oper.wp at h
 generalize (execOp a.eval o).run P w = r at *
 cases r with
 | ok nx w' =>
  cases nx with
  | value v => exact h
  | skip => exact h
  | defer d => exact h
  | enter f args => exact ⟨fun hd => (by rw [hdep] at hd; cases hd), hcalls h⟩
  | row row args => exact ⟨fun hd => (by rw [hdep] at hd; cases hd), hrows h⟩
  | _ => exact h.elim
 | halt x w' =>
  cases x with
  | panic v => exact h
  | _ => exact h.elim
def noDefer (o : Oper) : Bool := match o.op with | .defer _ => false | _ => true
theorem noDefer_spec {o : Oper} (h : noDefer o = true) : ∀ c, o.op ≠ .defer c := fun c e => by simp [noDefer, e] at h
theorem wpListIn_of {P : Program} {F : Fence} (hF : F = Fence.wide ∨ ∃ l, F = Fence.wide.inRound l) {ops : Array Oper} {Q0 Q' : Exit → Act → World → Prop} (hno : ∀ e a w, Q0 e a w → e = .normal) (hk : ∀ a w, Q0 .normal a w → Q' .normal a w) :
  ∀ (l : List Oper) (a : Act) (w : World), (l.all noDefer) = true → wpList P ops Q0 l a w → wpListIn F 0 P ops Q' l a w
 | [], a, w, _, h => hk a w h
 | o :: l, a, w, hd, h => by
  simp only [List.all_cons, Bool.and_eq_true] at hd
  simp only [wpList] at h
  simp only [wpListIn]
  have hfn : ∀ f, F.fn f := by rcases hF with rfl | ⟨l, rfl⟩ <;> exact fun _ => trivial
  split <;> rename_i hw
  ·rw [if_pos hw] at h
   rcases h with h | ⟨_, a', w', h⟩
   ·have hp : ∀ c a w, ¬ Q0 (.panic c) a w := fun c a w h => by have := hno _ _ _ h; cases this
    have ho : ¬ LetsOut Q0 := fun ⟨a, w, h⟩ => by have := hno _ _ _ h; cases this
    refine Oper.wpIn_wide hF (noDefer_spec hd.1) ?_
    have ih : ∀ a w, wpList P ops Q0 l a w → wpListIn F 0 P ops Q' l a w := fun a w h => wpListIn_of hF hno hk l a w hd.2 h
    unfold Oper.wp at *
    generalize (execOp a.eval o).run P w = r at *
    cases r with
    | ok nx w' =>
     cases nx <;> simp only [Oper.upon] at h ⊢
     case value u => exact ih _ _ h
     case skip => exact ih _ _ h
     case defer d => exact ih _ _ h
     case enter f args =>
      refine Calls.mono h fun e w'' he => ?_
      cases e with
      | returned u => exact ih _ _ he
      | panicked c => exact absurd he (hp _ _ _)
      | outgrown => exact absurd he ho
     case row row args => exact Rows.mono h fun u w'' he => ih _ _ he
    | halt x w' =>
     cases x <;> simp only [Oper.upon] at h ⊢
     case panic u => exact absurd h (hp _ _ _)
   ·exact absurd (hno _ _ _ h) (by simp)
  ·rw [if_neg hw] at h
   exact ⟨fun f _ => hfn f, wpListIn_of hF hno hk l _ _ hd.2 h⟩
structure OneI (P : Program) (C : Ctx) (ops : Array Oper) (o : Oper) (s s' : St) : Prop where
 run : ∀ bs a w, R C bs s a w → ∀ (Q : Exit → Act → World → Prop) (i : Nat) (K : Act → World → Prop), ops[i]? = some o → (∀ a w, (∃ bs, R C bs s' a w) → K a w) → wpOpIn Fence.wide 0 P ops Q i K a w
theorem OneI.of {P : Program} {C : Ctx} {ops : Array Oper} {o : Oper} {s s' : St} (hd : noDefer o = true) (h : TriL P C ops [o] (After s') s) : OneI P C ops o s s' := by
 refine ⟨fun bs a w hR Q i K hi hK => ?_⟩
 have h1 := h.run bs a w hR
 unfold wpOpIn
 simp only [hi]
 unfold wpList at h1
 split
 ·rename_i hw
  rw [if_pos hw] at h1
  rcases h1 with h1 | ⟨_, a1, w1, h1⟩
  ·exact Oper.wpIn_wide (.inl rfl) (noDefer_spec hd) (Oper.wp_after hK h1)
  ·rcases h1 with ⟨bs', s1, ⟨h, _⟩, hR⟩ | ⟨h, _⟩ <;> cases h
 ·rename_i hw
  rw [if_neg hw] at h1
  refine ⟨fun _ _ => trivial, ?_⟩
  rcases h1 with ⟨bs', s1, ⟨_, rfl⟩, hR⟩ | ⟨h, _⟩
  ·exact hK _ _ ⟨bs', hR⟩
  ·cases h
structure TriI (P : Program) (C : Ctx) (ops : Array Oper) (fuel : Nat) (listed : Array Bool) (Q : Exit → St → Prop) (s : St) : Prop where
 run : ∀ bs a w, R C bs s a w → wpAnyIn Fence.wide 0 P .any ops (QR C Q) fuel listed a w
theorem TriI.done {P : Program} {C : Ctx} {ops : Array Oper} {listed : Array Bool} {Q : Exit → St → Prop} {s : St} (hr : Region.ready .any ops listed = []) (h : Q .normal s) : TriI P C ops 0 listed Q s :=
 ⟨fun bs _ _ hR => ⟨hr, .inl ⟨bs, s, h, hR⟩⟩⟩
inductive NextI (P : Program) (C : Ctx) (ops : Array Oper) (fuel : Nat) (listed : Array Bool) (Q : Exit → St → Prop) (s : St) : List Nat → Prop
 | nil : NextI P C ops fuel listed Q s []
 | cons {i : Nat} {o : Oper} {s' : St} {is : List Nat} : ops.toList[i]? = some o → OneI P C ops o s s' → TriI P C ops fuel (listed.setIfInBounds i true) Q s' → NextI P C ops fuel listed Q s is → NextI P C ops fuel listed Q s (i :: is)
theorem TriI.step {P : Program} {C : Ctx} {ops : Array Oper} {fuel : Nat} {listed : Array Bool} {Q : Exit → St → Prop} {s : St} (i : Nat) (is : List Nat) (hr : Region.ready .any ops listed = i :: is) (h : NextI P C ops fuel listed Q s (i :: is)) : TriI P C ops (fuel + 1) listed Q s := by
 refine ⟨fun bs a w hR => ⟨fun h0 => (by rw [hr] at h0; cases h0), ?_⟩⟩
 rw [hr]
 clear hr
 generalize i :: is = rs at h
 induction h with
 | nil => intro j hj; cases hj
 | cons h1 h2 h3 _ ih =>
  intro j hj
  rcases List.mem_cons.1 hj with rfl | hj
  ·exact h2.run bs a w hR _ _ _ (by simpa using h1) fun a w ⟨bs', hR'⟩ => h3.run bs' a w hR'
  ·exact ih j hj
structure Wants (C : Ctx) (ops : Array Oper) (o : Oper) (s : St) (b : Bool) : Prop where
 run : ∀ bs a w, R C bs s a w → Region.wanted o (yielded ops a.tmps) = b
theorem Wants.none {C : Ctx} {ops : Array Oper} {o : Oper} {s : St} (h : o.guard = none) : Wants C ops o s true := ⟨fun _ _ _ _ => by simp [Region.wanted, h]⟩
theorem Wants.some {C : Ctx} {ops : Array Oper} {o : Oper} {s : St} {j g : Nat} {want b r : Bool} (h : (o.guard, (ops.toList[j]?).bind (·.dst), look g s.T, b == want) = (some (j, want), some g, some (.d (.bool b)), r)) : Wants C ops o s r := by
 simp only [Prod.mk.injEq] at h
 obtain ⟨h1, h2, h3, rfl⟩ := h
 refine ⟨fun bs a w hR => ?_⟩
 have h4 := hR.tmp g _ h3
 have hlt : g < a.tmps.size := by rw [hR.size]; exact h4.1
 have h5 := zk.1 h4.2
 have h6 : a.tmps[g]? = Option.some (Value.bool b) := by rw [← h5]; simp [Array.getD_eq_getD_getElem?, hlt]
 have h7 : (ops[j]?).bind (·.dst) = Option.some g := by simpa using h2
 simp only [Region.wanted, h1, yielded, h7, Option.bind_some, h6]
 cases b <;> cases want <;> rfl
theorem TriI.first {P : Program} {C : Ctx} {ops : Array Oper} {fuel : Nat} {listed : Array Bool} {Q : Exit → St → Prop} {s : St} {o : Oper} {x : Operand} {v : V} (i : Nat) (hi0 : ops.toList[i]? = some o) (hs : (Region.noSelect ops, Region.free .any ops listed i, (Region.ready .any ops listed).contains i) = (true, true, true))
  (ho : (o.op, ev s.T x, dstOK o.dst C.n) = (.move x, some v, true)) (hw : Wants C ops o s true) (h2 : TriI P C ops fuel (listed.setIfInBounds i true) (zci Q) (s.put o.dst v)) : TriI P C ops (fuel + 1) listed (zci Q) s := by
 simp only [Prod.mk.injEq] at hs ho
 have hi : ops[i]? = some o := by simpa using hi0
 refine ⟨fun bs a w hR => ?_⟩
 have hrun : ∀ w', (execOp a.eval o).run P w' = .ok (.value (a.eval x)) w' := fun w' => by simp [execOp, ho.1]
 refine wpAnyIn_take (v := a.eval x) rfl hi hs.1 hs.2.1 hs.2.2 (fun c a w h => ?_) ⟨.inl ⟨hw.run bs a w hR, hrun⟩, fun w' => by simp [Oper.about, ho.1]⟩ ?_
 ·rcases h with ⟨_, _, h, _⟩ | ⟨h, _⟩
  ·exact h.elim
  ·cases h
 ·exact h2.run bs _ _ (hR.put (Fr.refl _ _) o.dst ho.2.2 (hR.ev ho.2.1))
theorem TriI.skip {P : Program} {C : Ctx} {ops : Array Oper} {fuel : Nat} {listed : Array Bool} {Q : Exit → St → Prop} {s : St} {o : Oper} (i : Nat) (hi0 : ops.toList[i]? = some o) (hs : (Region.noSelect ops, Region.free .any ops listed i, (Region.ready .any ops listed).contains i) = (true, true, true))
  (ho : dstOK o.dst C.n = true) (hab : (match o.op with | .call _ => false | _ => true) = true) (hw : Wants C ops o s false) (h2 : TriI P C ops fuel (listed.setIfInBounds i true) (zci Q) (s.put o.dst .junk)) : TriI P C ops (fuel + 1) listed (zci Q) s := by
 simp only [Prod.mk.injEq] at hs
 have hi : ops[i]? = some o := by simpa using hi0
 refine ⟨fun bs a w hR => ?_⟩
 refine wpAnyIn_take (v := Go.undef) rfl hi hs.1 hs.2.1 hs.2.2 (fun c a w h => ?_) ⟨.inr ⟨hw.run bs a w hR, rfl⟩, fun w' => ?_⟩ ?_
 ·rcases h with ⟨_, _, h, _⟩ | ⟨h, _⟩
  ·exact h.elim
  ·cases h
 ·unfold Oper.about
  cases hop : o.op <;> first | rfl | (rw [hop] at hab; cases hab)
 ·exact h2.run bs _ _ (hR.put (Fr.refl _ _) o.dst ho (v := .junk) (by simp only [V.rep]))
theorem Tri.drawI {P : Program} {C : Ctx} {Q : Exit → St → Prop} {s : St} {id : Nat} {l : Array Oper} (n : Nat) (hm : P.follows .mixedOrders = true) (hn : l.size = n) (h : TriI P C l n (Array.replicate n false) (zci Q) s) : Tri P C (.region id l true) Q s := by
 subst hn
 refine Tri.mono (Q := zci Q) ⟨fun bs a w hR => ?_⟩ (fun e s hq => by cases e <;> first | exact hq.elim | exact hq)
 exact (wpIn_wide (n := 0)).1 (wpIn_region_any hm (h.run bs a _ hR.drew))
end Go.Proofs.YtcagdmegicijlaaGreatDoor
