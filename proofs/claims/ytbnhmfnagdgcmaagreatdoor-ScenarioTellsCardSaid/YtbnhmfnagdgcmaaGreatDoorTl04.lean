/- Part of the proof of one law of the seat. -/
import Derived.Test.YtbnhmfnagdgcmaaGreatDoorTl03
import Derived.RangeFuncRecord
import Derived.RangeFuncCalls
import Derived.RangeFuncLeaves
import Derived.WalkKit
import Derived.TacticsIn
import Derived.TacticsInMore
import Derived.BigFrameIn
import Derived.OwnWalkIn
import Derived.Shelf.Strings.Search2
import Derived.Shelf.Strings.Split
import Derived.Shelf.Strings.OnBuilder
import Derived.Shelf.Strconv.Itoa3
import Derived.Shelf.Strconv.AtoiAll
import Derived.Shelf.SlGeneric
import Derived.Ground.SlsfProg
set_option linter.unusedVariables false
set_option linter.unusedSectionVars false
set_option linter.unusedSimpArgs false
set_option maxHeartbeats 4000000
namespace Go.Proofs.YtbnhmfnagdgcmaaGreatDoor
open Go Go.RowKit
section
open Go Go.RowKit Go.Proofs
variable [Env]
attribute [local go_sem] Oper.semAt_some
def kAsg : Code := (Code.region 4 #[{ dst := some 3, op := Op.alloc 227, type := 0, pos := "lexer.go:137", after := #[], guard := none }, { dst := none, op := Op.store 227 (Operand.tmp 3) (Operand.tmp 13), type := 0, pos := "lexer.go:137", after := #[{ on := 0, ground := Ground.data }, { on := 0, ground := Ground.phase }], guard := none }] false)
def kBody : Code := (Code.block 1 (((Code.region 5 #[{ dst := some 14, op := Op.fieldAddr 227 (Operand.tmp 3) 2, type := 0, pos := "lexer.go:138", after := #[], guard := none }, { dst := some 15, op := Op.load 3 (Operand.tmp 14), type := 3, pos := "lexer.go:138", after := #[{ on := 0, ground := Ground.data }], guard := none }, { dst := some 16, op := Op.binOp BinOp.neq 3 (Operand.tmp 15) (Operand.const (Value.int IntKind.i64 0)) 3, type := 4, pos := "lexer.go:138", after := #[{ on := 1, ground := Ground.data }], guard := none }, { dst := some 17, op := Op.move (Operand.tmp 16), type := 4, pos := "lexer.go:138", after := #[{ on := 2, ground := Ground.data }], guard := none }, { dst := some 18, op := Op.fieldAddr 227 (Operand.tmp 3) 3, type := 0, pos := "lexer.go:138", after := #[{ on := 3, ground := Ground.guard }], guard := some (3, false) }, { dst := some 19, op := Op.load 3 (Operand.tmp 18), type := 3, pos := "lexer.go:138", after := #[{ on := 4, ground := Ground.data }, { on := 3, ground := Ground.guard }], guard := some (3, false) }, { dst := some 20, op := Op.load 9 (Operand.tmp 1), type := 9, pos := "lexer.go:138", after := #[{ on := 3, ground := Ground.guard }], guard := some (3, false) }, { dst := some 21, op := Op.call { callee := Callee.builtin Builtin.len, args := #[Operand.tmp 20], argTypes := #[9] }, type := 3, pos := "lexer.go:138", after := #[{ on := 6, ground := Ground.data }, { on := 3, ground := Ground.guard }], guard := some (3, false) }, { dst := some 22, op := Op.binOp BinOp.neq 3 (Operand.tmp 19) (Operand.tmp 21) 3, type := 4, pos := "lexer.go:138", after := #[{ on := 5, ground := Ground.data }, { on := 7, ground := Ground.data }, { on := 3, ground := Ground.guard }], guard := some (3, false) }, { dst := some 23, op := Op.pick (Operand.tmp 17) (Operand.const (Value.bool true)) (Operand.tmp 22), type := 4, pos := "lexer.go:138", after := #[{ on := 3, ground := Ground.data }, { on := 8, ground := Ground.data }], guard := none }] false).seq (Code.cond (Operand.tmp 23) (Code.exit 0) Code.skip)).seq ((Code.region 6 #[{ dst := some 24, op := Op.fieldAddr 227 (Operand.tmp 3) 0, type := 0, pos := "lexer.go:141", after := #[], guard := none }, { dst := some 25, op := Op.load 3 (Operand.tmp 24), type := 3, pos := "lexer.go:141", after := #[{ on := 0, ground := Ground.data }], guard := none }, { dst := none, op := Op.store 3 (Operand.tmp 2) (Operand.tmp 25), type := 0, pos := "lexer.go:141", after := #[{ on := 1, ground := Ground.data }, { on := 0, ground := Ground.phase }, { on := 1, ground := Ground.phase }], guard := none }] false).seq Code.ret)))
def kRec (fn:FuncId) (tm:Array Value) (Dd:Nat) (st:LoopState) (pend:Option Code):Loop:=
  { state:=st,pending:=pend,fn,tmps:=tm,params:=#[13],assign:=kAsg,body:=kBody,defers:=Dd }
theorem kRound (fn:FuncId) (l Dd B:Nat) (p1:Addr) (s:ByteArray) (k f a e:Int) (x0 x3 x4 x5 x6 x7 x8 x9 x10 x11 x12 x13 x14 x15 x16 x17 x18 x19 x20 x21 x22 x23 x24 x25:Value) (W:World) (hBl:B≠l) (hp:p1.block≠l)
    (hl:W.heap[l]? = some (.loop (kRec fn #[x0,.pointer (some p1),.pointer (some ⟨B,0,none⟩),x3,x4,x5,x6,x7,x8,x9,x10,x11,x12,x13,x14,x15,x16,x17,x18,x19,x20,x21,x22,x23,x24,x25] Dd .ready none))) (h1:W.cell? p1=some (.string s)) (hB:W.heap[B]? = some (.cells #[.int .i64 0] 3 (0,0))) :
    RoundIn Fence.wide 0 Tryz.prog l fn #[x0,.pointer (some p1),.pointer (some ⟨B,0,none⟩),x3,x4,x5,x6,x7,x8,x9,x10,x11,x12,(.agg #[.int .i64 k,.int .i64 f,.int .i64 a,.int .i64 e]),x14,x15,x16,x17,x18,x19,x20,x21,x22,x23,x24,x25] kAsg kBody W (λen W'=>en = .returned (.bool false)∧Fr (λb=>b=l∨b=B) W W' ∧
      ((((a != 0)||(e != (s.size:Int)))=true∧W'.heap[l]? = some (.loop (kRec fn #[x0,.pointer (some p1),.pointer (some ⟨B,0,none⟩),x3,x4,x5,x6,x7,x8,x9,x10,x11,x12,x13,x14,x15,x16,x17,x18,x19,x20,x21,x22,x23,x24,x25] Dd .done (some (.exit 0))))∧W'.heap[B]? = some (.cells #[.int .i64 0] 3 (0,0))) ∨
       (((a != 0)||(e != (s.size:Int)))=false∧W'.heap[l]? = some (.loop (kRec fn #[x0,.pointer (some p1),.pointer (some ⟨B,0,none⟩),x3,x4,x5,x6,x7,x8,x9,x10,x11,x12,x13,x14,x15,x16,x17,x18,x19,x20,x21,x22,x23,x24,x25] Dd .done (some .ret)))∧W'.heap[B]? = some (.cells #[.int .i64 k] 3 (0,0))))):=by
  refine roundIn_of_wpIn trivial ?_
  unfold kAsg
  gi_wp2_with (rw [Oper.semAt_eq _ _ _ (λc h=>by cases h)];go_simp;try go_bits)
  have hlt:l<W.heap.size:=(ym.1 hl).1
  have hBlt:B<W.heap.size:=(ym.1 hB).1
  have hplt:p1.block<W.heap.size:=by
    refine Nat.lt_of_not_le λh=>?_
    have e0:W.heap[p1.block]? = none:=Array.getElem?_eq_none_iff.2 h
    simp [World.cell?,e0] at h1
  obtain ⟨W1,hW1⟩:∃ W1,W.alloc (.cells #[.int .i64 k,.int .i64 f,.int .i64 a,.int .i64 e] 227)=W1:=⟨_,rfl⟩
  have hold:∀ q,q<W.heap.size→W1.heap[q]? = W.heap[q]?:=λq hq=>by rw [← hW1];exact Below.heap_alloc _ _ q hq
  have hnew:W1.heap[W.heap.size]? = some (.cells #[.int .i64 k,.int .i64 f,.int .i64 a,.int .i64 e] 227):=by rw [← hW1];exact World.alloc_heap_new W _
  have hsz1:W1.heap.size=W.heap.size+1:=by rw [← hW1];simp
  have hfr1:Fr zd W W1:=by rw [← hW1];exact ⟨rfl,rfl,rfl,by simp,λb hb _=>Below.heap_alloc W _ b hb,λ_=>yn _⟩
  simp only [hW1]
  clear hW1
  have hL1:=(hold l hlt).trans hl
  have hbr:=run_beginRound (P:=Tryz.prog) hL1 rfl
  obtain ⟨W2,hW2⟩:∃ W2,W1.putObj l (.loop { kRec fn #[x0,.pointer (some p1),.pointer (some ⟨B,0,none⟩),x3,x4,x5,x6,x7,x8,x9,x10,x11,x12,x13,x14,x15,x16,x17,x18,x19,x20,x21,x22,x23,x24,x25] Dd .ready none with state:=.busy })=W2:=⟨_,rfl⟩
  have hfr2:Fr (λb=>b=l) W1 W2:=by rw [← hW2];exact ⟨rfl,rfl,rfl,by simp,λb _ hne=>World.putObj_heap_other hne,λ_=>yn _⟩
  rw [hW2] at hbr
  have hput:∀ q,q≠l→W2.heap[q]? = W1.heap[q]?:=λq hq=>by rw [← hW2];exact World.putObj_heap_other hq
  have hL2:=(World.putObj_heap_same (w:=W1) (o:=.loop { kRec fn #[x0,.pointer (some p1),.pointer (some ⟨B,0,none⟩),x3,x4,x5,x6,x7,x8,x9,x10,x11,x12,x13,x14,x15,x16,x17,x18,x19,x20,x21,x22,x23,x24,x25] Dd .ready none with state:=.busy }) (by omega:l<W1.heap.size))
  rw [hW2] at hL2
  refine ⟨W2,hbr,?_⟩
  clear hW2 hbr
  have hT2:=(hput W.heap.size (by omega)).trans hnew
  have hB2:=((hput B hBl).trans (hold B hBlt)).trans hB
  have hp2:W2.cell? p1=some (.string s):=((World.cell?_of_block (hput p1.block hp)).trans (World.cell?_of_block (hold p1.block hplt))).trans h1
  have c0:W2.cell? ⟨W.heap.size,0,none⟩=some (.int .i64 k):=by rw [zab hT2];rfl
  have c2:W2.cell? ⟨W.heap.size,2,none⟩=some (.int .i64 a):=by rw [zab hT2];rfl
  have c3:W2.cell? ⟨W.heap.size,3,none⟩=some (.int .i64 e):=by rw [zab hT2];rfl
  have cB:W2.cell? ⟨B,0,none⟩=some (.int .i64 0):=by rw [zab hB2];rfl
  have fB:W2.frozen? ⟨B,0,none⟩=false:=by simp [World.frozen?,hB2]
  unfold kBody
  gi_wp2_with (rw [Oper.semAt_eq _ _ _ (λc h=>by cases h)];go_simp;try go_bits)
  all_goals first
    | (refine ⟨_,_,run_endRound (some (.exit 0)) hL2,rfl,?_,?_,(World.putObj_heap_other hBl).trans hB2⟩
       · refine ((hfr1.mono λ_ _ x=>x.elim).trans (hfr2.mono λ_ _ x=>.inl x)).trans ⟨rfl,rfl,rfl,by simp,λb _ hne=>World.putObj_heap_other (λh=>hne (.inl h)),λ_=>yn _⟩
       · exact World.putObj_heap_same (ym.1 hL2).1)
    | (have hL3:(W2.setCell ⟨B,0,none⟩ (.int .i64 k)).heap[l]? = some (.loop { kRec fn #[x0,.pointer (some p1),.pointer (some ⟨B,0,none⟩),x3,x4,x5,x6,x7,x8,x9,x10,x11,x12,x13,x14,x15,x16,x17,x18,x19,x20,x21,x22,x23,x24,x25] Dd .ready none with state:=.busy }):=(Below.heap_setCell W2 ⟨B,0,none⟩ _ l (Ne.symm hBl)).trans hL2
       refine ⟨_,_,run_endRound (some .ret) hL3,rfl,?_,?_,(World.putObj_heap_other hBl).trans ?_⟩
       · have f3:Fr (λb=>b=l∨b=B) W2 (W2.setCell ⟨B,0,none⟩ (.int .i64 k)):=⟨rfl,rfl,rfl,by simp,λb _ hne=>Below.heap_setCell W2 ⟨B,0,none⟩ _ b (λh=>hne (.inr h)),λ_=>yn _⟩
         exact (((hfr1.mono λ_ _ x=>x.elim).trans (hfr2.mono λ_ _ x=>.inl x)).trans f3).trans ⟨rfl,rfl,rfl,by simp,λb _ hne=>World.putObj_heap_other (λh=>hne (.inl h)),λ_=>yn _⟩
       · exact World.putObj_heap_same (ym.1 hL3).1
       · simp [World.setCell,Array.getElem?_modify,hB2])
def kTailC : Code := .seq (Code.region 7 #[{ dst := none, op := Op.store 3 (Operand.tmp 2) (Operand.const (Value.int IntKind.i64 0)), type := 0, pos := "lexer.go:143", after := #[], guard := none }] false) .ret
theorem kTail (B:Nat) (x0 x1 x3 x4 x5 x6 x7 x8 x9 x10 x11 x12 x13 x14 x15 x16 x17 x18 x19 x20 x21 x22 x23 x24 x25:Value) (df:List Deferred) (W:World) (Qf:Exit→Act→World→Prop) (hB:W.heap[B]? = some (.cells #[.int .i64 0] 3 (0,0)))
  (h:Qf .ret { tmps:=#[x0,x1,.pointer (some ⟨B,0,none⟩),x3,x4,x5,x6,x7,x8,x9,x10,x11,x12,x13,x14,x15,x16,x17,x18,x19,x20,x21,x22,x23,x24,x25],defers:=df } (W.setCell ⟨B,0,none⟩ (.int .i64 0))):kTailC.wp Tryz.prog Qf { tmps:=#[x0,x1,.pointer (some ⟨B,0,none⟩),x3,x4,x5,x6,x7,x8,x9,x10,x11,x12,x13,x14,x15,x16,x17,x18,x19,x20,x21,x22,x23,x24,x25],defers:=df } W:=by
 have cB:W.cell? ⟨B,0,none⟩=some (.int .i64 0):=by rw [zab hB];rfl
 have fB:W.frozen? ⟨B,0,none⟩=false:=by simp [World.frozen?,hB]
 refine (wpIn_wide (n:=0)).1 ?_
 unfold kTailC
 gi_wp2
 exact h
theorem kTail' (B:Nat) (tm:Array Value) (hs:tm.size=26) (ht2:tm[2]? = some (.pointer (some ⟨B,0,none⟩))) (df:List Deferred) (W:World) (Qf:Exit→Act→World→Prop) (hB:W.heap[B]? = some (.cells #[.int .i64 0] 3 (0,0)))
  (h:Qf .ret { tmps:=tm,defers:=df } (W.setCell ⟨B,0,none⟩ (.int .i64 0))):kTailC.wp Tryz.prog Qf { tmps:=tm,defers:=df } W:=by
 rcases tm with ⟨_ | ⟨x0,_ | ⟨x1,_ | ⟨x2,_ | ⟨x3,_ | ⟨x4,_ | ⟨x5,_ | ⟨x6,_ | ⟨x7,_ | ⟨x8,_ | ⟨x9,_ | ⟨x10,_ | ⟨x11,_ | ⟨x12,_ | ⟨x13,_ | ⟨x14,_ | ⟨x15,_ | ⟨x16,_ | ⟨x17,_ | ⟨x18,_ | ⟨x19,_ | ⟨x20,_ | ⟨x21,_ | ⟨x22,_ | ⟨x23,_ | ⟨x24,_ | ⟨x25,_ | ⟨x26,xs⟩⟩⟩⟩⟩⟩⟩⟩⟩⟩⟩⟩⟩⟩⟩⟩⟩⟩⟩⟩⟩⟩⟩⟩⟩⟩⟩⟩
 all_goals first | (exfalso;simp at hs;done) | skip
 all_goals first | (exfalso;simp at hs;omega) | skip
 simp at ht2
 subst ht2
 exact kTail B x0 x1 x3 x4 x5 x6 x7 x8 x9 x10 x11 x12 x13 x14 x15 x16 x17 x18 x19 x20 x21 x22 x23 x24 x25 df W Qf hB h
theorem Fr.past {w W0 W:World} {S:Nat→Prop} (h:Fr zd w W0) (k:Fr S W0 W) (hS:∀ b,S b→w.heap.size≤b):Fr zd w W:=
 ⟨k.os.trans h.os,k.tape.trans h.tape,k.output.trans h.output,ue h.size k.size,λb hb _=>(k.block b (yL hb h.size) λhs=>by have:=hS b hs;omega).trans (h.block b hb λx=>x.elim),λd=>ue (h.drawn d) (k.drawn d)⟩
theorem kLeave {A:Nat→Prop} {w W:World} {tm:Array Value} {B Dd:Nat} {k:Int} (hs:tm.size=26) (ht2:tm[2]? = some (.pointer (some ⟨B,0,none⟩))) (hB:W.heap[B]? = some (.cells #[.int .i64 k] 3 (0,0))) (hD:W.heap[Dd]? = some (.deferred (some []))) (hBD:B≠Dd)
  (hf:Fr zd w W) (hDw:w.heap.size≤Dd):LeavesInM Fence.wide 0 Tryz.prog Tryz.f202 tm (zgt A w (.int k)) [{ target:=.collected Dd,args:=#[] }] .returning W:=by
 refine ⟨by simp,.inl ⟨_,_,rfl,run_takeDeferred hD,?_⟩⟩
 have hB2:(W.putObj Dd (.deferred none)).heap[B]? = some (.cells #[.int .i64 k] 3 (0,0)):=(World.putObj_heap_other hBD).trans hB
 have hl:=zeS (P:=Tryz.prog) (A:=λ_=>False) (w:=W.putObj Dd (.deferred none)) (t:=3) (k:=none) Y3 (b:=B) (off:=0) (d:=.int k) (u:=.int .i64 k) (by simp only [D.rep]) rfl (λq hq=>by
  have hq0:q=0:=by simp [Value.cells] at hq;omega
  subst hq0
  rw [zab hB2];simp [Value.cells])
 simp only [Instr.loadAt,Instr.sureAddr,Sem.run_bind,Sem.run_pure,Result.andThen_ok] at hl
 refine ⟨.int .i64 k,?_,_,rfl,?_,by simp only [D.rep]⟩
 ·have hp:tm.getD 2 undef = .pointer (some ⟨B,0,none⟩):=by
   have h2:(2:Nat)<tm.size:=by omega
   rw [uh h2] at ht2
   simpa [Array.getD,h2] using ht2
  have hr:(zeA tm (.cell 2 3)).run Tryz.prog (W.putObj Dd (.deferred none)) = .ok (.int .i64 k) (W.putObj Dd (.deferred none)):=by
   simp only [zeA,Sem.run_bind,hp,asAddr,Sem.run_pure,Result.andThen_ok,hl]
  rw [zdz]
  have hm:((Tryz.f202).results.mapM (zeA tm)).run Tryz.prog (W.putObj Dd (.deferred none)) = .ok #[.int .i64 k] (W.putObj Dd (.deferred none)):=by
   show (#[ResultVar.cell 2 3].mapM (zeA tm)).run Tryz.prog _=_
   rw [List.mapM_toArray]
   simp [Sem.run_map,hr]
  simp only [Sem.run_bind,hm,Result.andThen_ok,Sem.run_pure]
  rfl
 ·exact hf.past (S:=λb=>b=Dd) ⟨rfl,rfl,rfl,by simp,λb _ hne=>World.putObj_heap_other hne,λ_=>yn _⟩ (λb hb=>by rw [hb];exact hDw)
theorem kRound' (fn:FuncId) (l Dd B:Nat) (p1:Addr) (s:ByteArray) (k f a e:Int) (tm:Array Value) (hs:tm.size=26) (ht1:tm[1]? = some (.pointer (some p1))) (ht2:tm[2]? = some (.pointer (some ⟨B,0,none⟩))) (W:World) (hBl:B≠l) (hp:p1.block≠l)
    (hl:W.heap[l]? = some (.loop (kRec fn tm Dd .ready none))) (h1:W.cell? p1=some (.string s)) (hB:W.heap[B]? = some (.cells #[.int .i64 0] 3 (0,0))) :
    RoundIn Fence.wide 0 Tryz.prog l fn (tm.setIfInBounds 13 (.agg #[.int .i64 k,.int .i64 f,.int .i64 a,.int .i64 e])) kAsg kBody W (λen W'=>en = .returned (.bool false)∧Fr (λb=>b=l∨b=B) W W' ∧
      ((((a != 0)||(e != (s.size:Int)))=true∧W'.heap[l]? = some (.loop (kRec fn tm Dd .done (some (.exit 0))))∧W'.heap[B]? = some (.cells #[.int .i64 0] 3 (0,0))) ∨
       (((a != 0)||(e != (s.size:Int)))=false∧W'.heap[l]? = some (.loop (kRec fn tm Dd .done (some .ret)))∧W'.heap[B]? = some (.cells #[.int .i64 k] 3 (0,0))))):=by
  rcases tm with ⟨_ | ⟨x0,_ | ⟨x1,_ | ⟨x2,_ | ⟨x3,_ | ⟨x4,_ | ⟨x5,_ | ⟨x6,_ | ⟨x7,_ | ⟨x8,_ | ⟨x9,_ | ⟨x10,_ | ⟨x11,_ | ⟨x12,_ | ⟨x13,_ | ⟨x14,_ | ⟨x15,_ | ⟨x16,_ | ⟨x17,_ | ⟨x18,_ | ⟨x19,_ | ⟨x20,_ | ⟨x21,_ | ⟨x22,_ | ⟨x23,_ | ⟨x24,_ | ⟨x25,_ | ⟨x26,xs⟩⟩⟩⟩⟩⟩⟩⟩⟩⟩⟩⟩⟩⟩⟩⟩⟩⟩⟩⟩⟩⟩⟩⟩⟩⟩⟩⟩
  all_goals first | (exfalso;simp at hs;done) | skip
  all_goals first | (exfalso;simp at hs;omega) | skip
  simp at ht1 ht2
  subst ht1;subst ht2
  exact kRound fn l Dd B p1 s k f a e x0 x3 x4 x5 x6 x7 x8 x9 x10 x11 x12 x13 x14 x15 x16 x17 x18 x19 x20 x21 x22 x23 x24 x25 W hBl hp hl h1 hB
theorem hK267:callable Tryz.prog 267=true:=by kernel_rfl
theorem hK240:callable Tryz.prog 240=true:=by kernel_rfl
theorem hK268:callable Tryz.prog 268=true:=by kernel_rfl
theorem hZ188:zaW Tryz.prog 188 none=true:=by kernel_rfl
abbrev KE:List UInt8→Value:=λl:List UInt8=>Value.string ⟨l.toArray⟩
theorem lexer_tokens_ok (n:Nat) (t0:List UInt8) (kw:GMap (List UInt8) Bool) (h:zbs n=some kw):Pure Tryz.prog 240 [.str t0] (.fn (.func 268) [] [.ref (.str t0),.ref (GMap.dat KE D.bool kw)]):=by
 refine Pure.of_tri Tryz.func240 rfl (by rw [Tryz.ntmps240];simp) λA w=>?_
 rw [Tryz.ntmps240]
 refine .seq ?_
 refine .region ?_
 refine .op rfl rfl (.box rfl rfl) ?_
 refine .op rfl rfl (.assign rfl rfl) ?_
 refine .nil ?_
 refine .seq ?_
 refine .region ?_
 refine .op rfl rfl (.call rfl hK267 rfl (ziF _ _ h)) ?_
 refine .allocStore rfl rfl rfl rfl rfl rfl rfl rfl (by simp) rfl rfl hZ188 ?_
 refine .nil ?_
 refine .seq ?_
 refine .region ?_
 refine .op rfl rfl (.makeFunc rfl rfl) ?_
 refine .op rfl rfl (.assign rfl rfl) ?_
 refine .nil ?_
 refine .ret ?_
 exact zaH rfl (.d _)
theorem lexer_Kind_ok (n:Nat) (t0:List UInt8) (r:Int) (h:zeb n t0=some r):Pure Tryz.prog 202 [.str t0] (.int r):=by
  unfold zeb at h
  refine Pure.of_triM Tryz.func202 rfl (by rw [Tryz.ntmps202];simp) λA w=>?_
  rw [Tryz.ntmps202]
  refine .seq ?_
  refine .region ?_
  refine .op rfl rfl (.box rfl rfl) ?_
  refine .allocZ rfl rfl rfl rfl (.val Zv3) rfl ?_
  refine .nil ?_
  refine .seq ?_
  refine .seq ?_
  refine .plain 7 rfl ?_
  refine .op rfl rfl rfl rfl (.load rfl rfl Y9 rfl) ?_
  refine .op rfl rfl rfl rfl (.str_eql rfl rfl rfl) ?_
  refine .op rfl rfl rfl rfl (.move rfl rfl) ?_
  refine .jOr 3 (b2:=decide (4096<(t0.length:Int))) rfl rfl rfl rfl (.inl rfl) (λ_ _ _ h1=>(by cases h1)) rfl rfl (λhb_1=>?_) ?_
  · refine .gop rfl rfl rfl rfl rfl rfl (.load rfl rfl Y9 rfl) ?_
    refine .gop rfl rfl rfl rfl rfl rfl (.len_str rfl U9 rfl) ?_
    refine .gop rfl rfl rfl rfl rfl rfl (.gtr rfl rfl rfl) ?_
    exact .nil rfl
  refine .nil ?_
  refine .nil ?_
  refine .condS rfl h (λh=>?_) (λh=>?_)
  · refine .seq ?_
    refine .region ?_
    refine .store rfl rfl rfl rfl rfl rfl (.ofD rfl) C3 rfl (yi rfl) ?_
    refine .nil ?_
    refine .ret ?_
    cases h
    exact retCell1 rfl rfl Y3 (.d _)
  refine .skip ?_
  obtain ⟨kw,hkw,h⟩:=bindS h
  obtain ⟨tok,htok,h⟩:=bindS h
  refine Tri.le (t:=⟨[(1,.d (.ref (.str t0))),(2,.loc 0 0)],[.box 3 [.d (.int 0)]]⟩) ⟨rfl,rfl,rfl,trivial⟩ ?_
  refine ⟨λbs a w' hR=>?_⟩
  have hR0:R ⟨A,zd,w,26,λ_ _=>False,[],0,[]⟩ bs ⟨[(1,.d (.ref (.str t0))),(2,.loc 0 0)],[.box 3 [.d (.int 0)]]⟩ a w':=hR.noEsc
  refine wp_seq (wp_seq (Code.wp_mono ?_ (Tri.run (C:=⟨A,zd,w,26,λ_ _=>False,[],0,[]⟩) (Q:=λe s=>e = .normal∧look 12 s.T=some (.d (.fn (.func 268) [] [.ref (.str t0),.ref (GMap.dat KE D.bool kw)]))∧look 1 s.T=some (.d (.ref (.str t0)))∧look 2 s.T=some (.loc 0 0)∧s.H[0]? = some (.box 3 [.d (.int 0)])) ?_ bs a w' hR0)))
  case refine_2=>
    refine .region ?_
    refine .op rfl rfl (.load rfl rfl Y9 rfl) ?_
    refine .op rfl rfl (.call rfl hK240 rfl (lexer_tokens_ok _ _ _ hkw)) ?_
    refine .nil ?_
    exact ⟨rfl,rfl,rfl,rfl,rfl⟩
  rintro e a3 w3 (⟨bs3,s3,⟨rfl,g12,g1,g2,gH⟩,hR3⟩ | ⟨_,hE⟩)
  case inr=>exact hE.elim
  simp only [Exit.then]
  have e12:=hR3.ev (x:=.tmp 12) (by simpa [ev] using g12)
  have e1:=hR3.ev (x:=.tmp 1) (by simpa [ev] using g1)
  have e2:=hR3.ev (x:=.tmp 2) (by simpa [ev] using g2)
  have hbox:=hR3.blk 0 _ gH
  simp only [V.rep,gH] at e2
  obtain ⟨B,hB0,e2⟩:=e2
  simp only [Blk.rep] at hbox
  obtain ⟨B',vs,hB1,hBh,hvs⟩:=hbox
  obtain rfl:B=B':=by rw [hB0] at hB1;simpa using hB1
  have hvs:vs = #[.int .i64 0]:=by
    simp only [V.reps,V.rep,D.rep] at hvs
    obtain ⟨v,vs',hv,rfl,rfl⟩:=hvs
    exact Array.toList_inj.1 hv
  subst hvs
  simp only [V.rep] at e12 e1
  simp only [D.rep] at e1
  obtain ⟨pb,po,pu,e1,hpA,hplt,hpu,hpc⟩:=e1
  subst hpu
  have hstr:w3.cell? ⟨pb,po,none⟩=some (.string ⟨t0.toArray⟩):=by have:=hpc 0 (by simp [Value.cells]);simpa [Value.cells] using this
  have e12':=e12
  simp only [D.rep] at e12
  obtain ⟨vs,us,e12,hv0,hus⟩:=e12
  simp only [D.reps] at hv0
  have hv0:vs = #[]:=by simpa using hv0
  subst hv0
  have hsz:a3.tmps.size=26:=hR3.size
  have hdf:a3.defers=[]:=hR3.defers
  have hown:=hR3.own
  have hBlt:B<w3.heap.size:=(ym.1 hBh).1
  refine (wpIn_wide (n:=0)).1 (wpIn_block (wpIn_rangeFunc ?_))
  intro fn _
  obtain ⟨w4,hw4⟩:∃ w4,(w3.alloc (.deferred (some []))).alloc (.loop (kRec fn a3.tmps w3.heap.size .ready none))=w4:=⟨_,rfl⟩
  have hold:∀ q,q<w3.heap.size→w4.heap[q]? = w3.heap[q]?:=λq hq=>by rw [← hw4];exact (Below.heap_alloc _ _ q (by simp;omega)).trans (Below.heap_alloc _ _ q hq)
  have hL4:w4.heap[w3.heap.size+1]? = some (.loop (kRec fn a3.tmps w3.heap.size .ready none)):=by rw [← hw4];have:=World.alloc_heap_new (w3.alloc (.deferred (some []))) (.loop (kRec fn a3.tmps w3.heap.size .ready none));rwa [World.size_alloc] at this
  have hD4:w4.heap[w3.heap.size]? = some (.deferred (some [])):=by rw [← hw4];exact (Below.heap_alloc _ _ _ (by simp)).trans (World.alloc_heap_new w3 _)
  have hs4:w4.heap.size=w3.heap.size+2:=by rw [← hw4];simp
  have hfr4:Fr zd w3 w4:=by
    rw [← hw4]
    exact (⟨rfl,rfl,rfl,by simp,λb hb _=>Below.heap_alloc _ _ b hb,λ_=>yn _⟩:Fr zd w3 (w3.alloc (.deferred (some [])))).trans ⟨rfl,rfl,rfl,by simp,λb hb _=>Below.heap_alloc _ _ b hb,λ_=>yn _⟩
  refine ⟨w3.heap.size+1,[{ target:=.collected w3.heap.size,args:=#[] }],w4,{ target:=.fn (.func 268) us,args:=#[.func (.yield (w3.heap.size+1)) #[] #[]] },w4,268,#[.func (.yield (w3.heap.size+1)) #[] #[]]++us,w4,?_,?_,λ_ _=>trivial,?_,λh=>by simp [Fence.wide] at h,?_⟩
  · rw [← hw4];exact run_enterLoop_outer _ _ _ _ _
  · have ek:∀ v,a3.eval (.const v)=v:=λ_=>rfl
    simp [resolve,e12,Deferred.ofValue,ek]
  · simp only [invoke];exact zbt hK268 _ w4
  obtain ⟨A',hA'⟩:∃ A':Nat→Prop,A'=λb=>Own A bs3 b∨b=w3.heap.size∨b=w3.heap.size+1:=⟨_,rfl⟩
  have hAlt:∀ b,A' b→b<w4.heap.size:=λb hb=>by
    subst hA'
    rcases hb with (hb | hb) | rfl | rfl
    · have:=hown.foreign b hb;omega
    · have:=hown.lt b hb;omega
    · omega
    · omega
  have hAin:∀ b,b<w3.heap.size→A' b→Own A bs3 b:=λb hb hb'=>by
    subst hA'
    rcases hb' with hb' | rfl | rfl
    · exact hb'
    · omega
    · omega
  have hG4:zd1 A' w4:=hown.glob.fr hfr4 (λ_ x=>x.elim) hAin
  have hargs:D.reps A' w4 [.fn (.yield (w3.heap.size+1)) [] [],.ref (.str t0),.ref (GMap.dat KE D.bool kw)] ((#[Value.func (.yield (w3.heap.size+1)) #[] #[]]:Array Value)++us).toList:=by
    have:=D.reps_fr hfr4 (λ_ x=>x.elim) hAin _ _ hus
    simp only [Array.toList_append,y7,yV,D.reps,D.rep] at this ⊢
    exact ⟨_,_,rfl,⟨#[],#[],rfl,rfl,rfl⟩,this⟩
  have hstr4:w4.cell? ⟨pb,po,none⟩=some (.string ⟨t0.toArray⟩):=by rw [World.cell?_of_block (hold pb hplt)];exact hstr
  have hB4:w4.heap[B]? = some (.cells #[.int .i64 0] 3 (0,0)):=(hold B hBlt).trans hBh
  have ht1:a3.tmps[1]? = some (.pointer (some ⟨pb,po,none⟩)):=by
    have:a3.tmps.getD 1 undef = .pointer (some ⟨pb,po,none⟩):=e1
    simpa [Array.getD,hsz] using this
  have ht2:a3.tmps[2]? = some (.pointer (some ⟨B,0,none⟩)):=by
    have:a3.tmps.getD 2 undef = .pointer (some ⟨B,0,none⟩):=e2
    simpa [Array.getD,hsz] using this
  obtain ⟨Post,hPost⟩:∃ Post:World→Prop,Post=(λW'=>∃ W0,Fr zd w4 W0∧Fr (λb=>b=w3.heap.size+1∨b=B) W0 W' ∧
      ((((tok.at_ != 0)||(tok.end_ != (t0.length:Int)))=true∧W'.heap[w3.heap.size+1]? = some (.loop (kRec fn a3.tmps w3.heap.size .done (some (.exit 0))))∧W'.heap[B]? = some (.cells #[.int .i64 0] 3 (0,0))) ∨
       (((tok.at_ != 0)||(tok.end_ != (t0.length:Int)))=false∧W'.heap[w3.heap.size+1]? = some (.loop (kRec fn a3.tmps w3.heap.size .done (some .ret)))∧W'.heap[B]? = some (.cells #[.int .i64 tok.kind] 3 (0,0))))):=⟨_,rfl⟩
  refine callsIn_wide.2 ((calls_of_triE (A:=A') (w:=w4) (Post:=Post) Tryz.func268 rfl rfl (by rw [Tryz.ntmps268];exact yi rfl) hAlt hG4 hargs ?_).mono ?_)
  · have htri:=zhW n t0 kw (.fn (.yield (w3.heap.size+1)) [] []) ⟨A',zd,w4,93,λa W'=>a.defers=[]∧Post W',[],0,[]⟩ rfl rfl (λ_ _=>False) tok htok (λQ T H j q0 q5 qj=>tokX_tri (Post:=Post) (w3.heap.size+1) tok ?_ Q T H j q0 q5 qj)
    · rw [ze7 Tryz.func268 rfl] at htri
      exact htri
    · intro W v hf hv
      simp only [Token.enc,D.rep,D.reps] at hv
      obtain ⟨vs,rfl,v1,l1,hvs,rfl,v2,l2,rfl,rfl,v3,l3,rfl,rfl,v4,l4,rfl,rfl,rfl⟩:=hv
      have hvs:vs = #[.int .i64 tok.kind,.int .i64 tok.from_,.int .i64 tok.at_,.int .i64 tok.end_]:=Array.toList_inj.1 (by simpa using hvs)
      subst hvs
      have hLW:W.heap[w3.heap.size+1]? = some (.loop (kRec fn a3.tmps w3.heap.size .ready none)):=(hf.block _ (by omega) (λx=>x.elim)).trans hL4
      refine ⟨fn,a3.tmps.setIfInBounds 13 (.agg #[.int .i64 tok.kind,.int .i64 tok.from_,.int .i64 tok.at_,.int .i64 tok.end_]),kAsg,kBody,?_,(kRound' fn (w3.heap.size+1) w3.heap.size B ⟨pb,po,none⟩ ⟨t0.toArray⟩ tok.kind tok.from_ tok.at_ tok.end_ a3.tmps hsz ht1 ht2 W (by omega) (by simp only;omega) hLW ?_ ?_).mono ?_⟩
      · have:=run_yield (P:=Tryz.prog) (args:=#[.agg #[.int .i64 tok.kind,.int .i64 tok.from_,.int .i64 tok.at_,.int .i64 tok.end_]]) hLW rfl
        simpa [kRec] using this
      · rw [World.cell?_of_block (hf.block pb (by omega) (λx=>x.elim))];exact hstr4
      · exact (hf.block B (by omega) (λx=>x.elim)).trans hB4
      · rintro e W' ⟨rfl,hf2,hcase⟩
        exact ⟨rfl,by rw [hPost];exact ⟨W,hf,hf2,hcase⟩⟩
  · rintro e W ⟨⟨u,rfl⟩,hP⟩
    rw [hPost] at hP
    obtain ⟨W0,f1,f2,hcase⟩:=hP
    have hs0:w4.heap.size≤W0.heap.size:=f1.size
    have hD0:W0.heap[w3.heap.size]? = some (.deferred (some [])):=(f1.block w3.heap.size (by omega) (λx=>x.elim)).trans hD4
    have hDW:W.heap[w3.heap.size]? = some (.deferred (some [])):=(f2.block w3.heap.size (by omega) (by rintro (h | h) <;> omega)).trans hD0
    have hww:w.heap.size≤w3.heap.size:=hR3.fr.size
    have hBw:w.heap.size≤B:=(hR3.new B (yu hB0)).resolve_left (λh=>h)
    have hfr3:Fr zd w w3:=hR3.fr
    have hfW:Fr zd w W:=((hfr3.trans hfr4).trans f1).past f2 (by rintro b (rfl | rfl) <;> omega)
    rcases hcase with ⟨hc,hL,hBW⟩ | ⟨hc,hL,hBW⟩
    · rw [if_pos hc] at h
      cases h
      refine ⟨some (.exit 0),_,run_endLoop hL (by simp [kRec]),?_⟩
      have hB5:(W.putObj (w3.heap.size+1) (.loop { kRec fn a3.tmps w3.heap.size .done (some (.exit 0)) with state:=.exhausted })).heap[B]? = some (.cells #[.int .i64 0] 3 (0,0)):=(World.putObj_heap_other (by omega)).trans hBW
      have hD5:(W.putObj (w3.heap.size+1) (.loop { kRec fn a3.tmps w3.heap.size .done (some (.exit 0)) with state:=.exhausted })).heap[w3.heap.size]? = some (.deferred (some [])):=(World.putObj_heap_other (by omega)).trans hDW
      have hf5:Fr zd w (W.putObj (w3.heap.size+1) (.loop { kRec fn a3.tmps w3.heap.size .done (some (.exit 0)) with state:=.exhausted })):=hfW.past (S:=λb=>b=w3.heap.size+1) ⟨rfl,rfl,rfl,by simp,λb _ hne=>World.putObj_heap_other hne,λ_=>yn _⟩ (by rintro b rfl;omega)
      generalize W.putObj (w3.heap.size+1) (.loop { kRec fn a3.tmps w3.heap.size .done (some (.exit 0)) with state:=.exhausted })=W5 at hB5 hD5 hf5 ⊢
      refine wpIn_exit ?_
      simp only [Exit.inBlock,if_true,Exit.then]
      have hB6:(W5.setCell ⟨B,0,none⟩ (.int .i64 0)).heap[B]? = some (.cells #[.int .i64 0] 3 (0,0)):=by simp [World.setCell,Array.getElem?_modify,hB5]
      have hD6:(W5.setCell ⟨B,0,none⟩ (.int .i64 0)).heap[w3.heap.size]? = some (.deferred (some [])):=(Below.heap_setCell W5 ⟨B,0,none⟩ _ _ (by simp only;omega)).trans hD5
      have hf6:Fr zd w (W5.setCell ⟨B,0,none⟩ (.int .i64 0)):=by
        have k6:Fr (λb=>b=B) W5 (W5.setCell ⟨B,0,none⟩ (.int .i64 0)):=⟨rfl,rfl,rfl,by simp,λb _ hne=>Below.heap_setCell W5 ⟨B,0,none⟩ _ b hne,λ_=>yn _⟩
        exact hf5.past k6 (by rintro b rfl;exact hBw)
      exact kTail' B a3.tmps hsz ht2 _ W5 _ hB5 (.inr ⟨rfl,by rw [hdf];exact kLeave hsz ht2 hB6 hD6 (by omega) hf6 hww⟩)
    · rw [if_neg (by rw [hc];simp)] at h
      cases h
      refine ⟨some .ret,_,run_endLoop hL (by simp [kRec]),?_⟩
      have hB5:(W.putObj (w3.heap.size+1) (.loop { kRec fn a3.tmps w3.heap.size .done (some .ret) with state:=.exhausted })).heap[B]? = some (.cells #[.int .i64 tok.kind] 3 (0,0)):=(World.putObj_heap_other (by omega)).trans hBW
      have hD5:(W.putObj (w3.heap.size+1) (.loop { kRec fn a3.tmps w3.heap.size .done (some .ret) with state:=.exhausted })).heap[w3.heap.size]? = some (.deferred (some [])):=(World.putObj_heap_other (by omega)).trans hDW
      have hf5:Fr zd w (W.putObj (w3.heap.size+1) (.loop { kRec fn a3.tmps w3.heap.size .done (some .ret) with state:=.exhausted })):=hfW.past (S:=λb=>b=w3.heap.size+1) ⟨rfl,rfl,rfl,by simp,λb _ hne=>World.putObj_heap_other hne,λ_=>yn _⟩ (by rintro b rfl;omega)
      generalize W.putObj (w3.heap.size+1) (.loop { kRec fn a3.tmps w3.heap.size .done (some .ret) with state:=.exhausted })=W5 at hB5 hD5 hf5 ⊢
      refine wpIn_ret ?_
      simp only [Exit.inBlock,Exit.then]
      exact .inr ⟨rfl,by rw [hdf];exact kLeave hsz ht2 hB5 hD5 (by omega) hf5 hww⟩
end
section
variable [Env]
theorem zhV (n t0 r) (h:zfa n t0=some r):Pure pg 161 [.str t0] (.bool r):=by
 refine Pure.ot Tryz.func161 I Tryz.ntmps161 I λA w=>.sA 1 I<|.seq<|.plain 8 I<|.A 1 I<|.p I (.len_str I U9 I)<|.A 2 I<|gK h λc2 h=>.jA 3 (((zeb n t0).getD default)==1) I (λb1=>?_) ?_
 ·refine .A 1 I<|.q I (.call I (kC I) I (lexer_Kind_ok _ _ _ (someD (impT c2 b1))))<|.A 1 I<|.nil I
 refine .nil<|.A 1 I<|.nil<|.ret (rO h I)
theorem zhs (n t0 t1 r) (h:zcg n t0 t1=some r):Pure pg 203 [.int t0,.ref (eA t1)] (.bool r):=by
 refine Pure.ot Tryz.func203 I Tryz.ntmps203 I λA w=>.sA 1 I<|.seq<|.plain 8 I<|.A 3 I<|.jO 4 (decide ((t1.length:Int)≤t0)) I (λb1=>?_) ?_
 ·refine .A 2 I<|.q I (.len I U22 I)<|.A 1 I<|.nil I
 refine .nil<|.A 1 I<|.nil<|.ret (rO h I)
theorem ziv (n t0 t1 r) (h:zdF n t0 t1=some r):Pure pg 163 [eA t0,eA t1] (.bool r):=by
 refine Pure.ot Tryz.func163 I Tryz.ntmps163 I λA w=>.sA 2 I<|.seq<|.plain 9 I<|.A 1 I<|.p I (.len I U22 I)<|.A 2 I<|gK h λc2 h=>.jA 4 (!((zh n t1 (λq0=>zcg n q0 t0)).getD default)) I (λb1=>?_) ?_
 ·refine .A 1 I<|.q I (.makeFunc I I)<|.q I (.call I (kC I) I (zai _ _ _ _ (λq0 y hq=>⟨_,_,I,K203,zhs _ q0 _ _ hq⟩) _ (someD (impT c2 b1))))<|.A 1 I<|.nil I
 refine .nil<|.A 1 I<|.nil<|.ret (rO h I)
theorem cells_ranged_ok (n t0 r) (h:zeH n t0=some r):Pure pg 164 [Table.enc t0] (.bool r):=by
 refine Pure.ot Tryz.func164 I Tryz.ntmps164 I λA w=>.sA 2 I<|.seq<|.sr<|.p I (.fa I (zcm _))<|.A 1 I<|.nil<|.block<|.J [1] h (λv=>[(5,.d (.bool v))]) (λv=>[]) I (λk_2 h=>?_) (λx1 h=>?_)
 ·refine .sA 2 I<|.condS I h (λh=>?_) λh=>?_
  ·refine .skip (ndE h I)
  ·refine .sA 2 I<|.condS I h (λh=>?_) λh=>?_
   ·refine .skip (ndE h I)
   ·refine .rA 2 I (ndE h I)
 ·refine .condS I h (λh=>?_) λh=>?_
  ·refine .seq<|.plain 19 I<|.p I (.fa I (zdP _))<|.p I (.fa I (G85_0 _))<|.A 1 I<|.p I (.fa I (zdP _))<|.p I (.fa I (G85_1 _))<|.A 3 I<|.jA 4 (decide ((-9999)≤t0.range.lo)) I (λb3=>?_) ?_
   ·refine .q I (.fa I (zdP _))<|.q I (.fa I (G85_0 _))<|.A 2 I<|.nil I
   refine .A 1 I<|.jA 4 (decide (t0.range.hi≤9999)) I (λb4=>?_) ?_
   ·refine .q I (.fa I (zdP _))<|.q I (.fa I (G85_1 _))<|.A 2 I<|.nil I
   refine .nil<|.A 1 I<|.nil<|.K [2] I<|.ret (rO h I)
  ·refine .skip<|.K [1] I<|.sr<|.p I (.fa I (zdP _))<|.A 1 I<|.p I (.castD (Range.enc (⟨0,1⟩:Range)) I (.build I Pl85 (.agg Zc85 (ds':=[_,_]) (.e .e1)) I I))<|.p I (.seql I SE85 I I (xs:=Range.vals _) (ys:=Range.vals _) I I I I (SQ85 _ _))<|.A 1 I<|.nil<|.ret (rO h I)
theorem zdv (n t0 r) (h:zbO n t0=some r):Pure pg 165 [Table.enc t0] (.bool r):=by
 refine Pure.ot Tryz.func165 I Tryz.ntmps165 I λA w=>.sA 2 I<|.seq<|.plain 8 I<|.p I (.fa I (zcm _))<|.A 3 I<|.jO 3 (t0.kind==1) I (λb1=>?_) ?_
 ·refine .q I (.fa I (zcm _))<|.A 2 I<|.nil I
 refine .nil<|.A 1 I<|.nil<|.ret (rO h I)
theorem zdG (n t0 t1 r) (h:za0 n t0 t1=some r):Pure pg 166 [eA t0,eA t1] (.int r):=by
 refine Pure.ot Tryz.func166 I Tryz.ntmps166 I λA w=>.sA 1 I<|.sA 1 I<|.seq<|.S 1 I<|.p I (.len I U22 I)<|.A 1 I<|.nil<|.block<|.L [0,8,9] h (λv=>[(5,.d (.int v.1)),(10,.d (.int v.2))]) (λv=>[]) I λ_ ⟨x9,x10⟩ h=>.sA 1 I<|.seq<|.condS I h (λh=>?_) λh=>?_
 ·refine .skip<|.seq<|.block<|.sr<|.X h I λx12 h=>.A 2 I<|.nil<|.region<|.A 3 I<|.X h I λx13 h=>.A 3 I<|.nil<|.rA 2 I (ndE h I)
 ·refine .exit<|.sA 2 I<|.ret (rO h I)
theorem zeZ (n t0 t1 r) (h:zbx n t0 t1=some r):Pure pg 126 [eA t0,eB t1] (.bool r):=by
 refine Pure.ot Tryz.func126 I Tryz.ntmps126 I λA w=>.sA 1 I<|.seq<|.S 1 I<|.p I (.len I U22 I)<|.A 2 I<|.p I (.len I U23 I)<|.A 2 I<|.Z h I (cells_sized_ok _ _) λx1 h=>.p I (.buildSl [_,_,_] I I E108 I (λ_=>I) I (enc:=D.bool))<|.Z h I (cells_all_ok _ _) λx2 h=>.A 1 I<|.nil<|.condS I h (λh=>?_) λh=>?_
 ·refine .sA 1 I<|.ret (rO h I)
 ·refine .skip<|.sr<|.makeMap (λl:List UInt8=>Value.string ⟨l.toArray⟩) D.bool I I I I<|.A 1 I<|.nil<|.sr<|.allocZ I I I I (.val Zv3) I<|.allocZ I I I I (.val Zv3) I<|.store I I I I I I (.ofD I) C3 I (yi I)<|.store I I I I I I (.ofD I) C3 I (yi I)<|.nil<|.K [0,1,5,6,7] I<|.seq<|.S 1 I<|.p I (.len I U23 I)<|.A 1 I<|.nil<|.block<|.L [0,5,6,7,23,24] h (λv=>[(25,.d (.int v.2.2.2))]) (λv=>[(0,GMap.blk (λl:List UInt8=>Value.string ⟨l.toArray⟩) D.bool v.1),(1,.box 3 [.d (.int v.2.1)]),(2,.box 3 [.d (.int v.2.2.1)])]) I λ_ ⟨m0_37,c1_0_38,c2_0_39,x40⟩ h=>.sA 1 I<|.K [0,5,6,7,23,24,25,26] I<|.seq<|.condS I h (λh=>?_) λh=>?_
  ·refine .skip<|.J [0,5,6,7,23,24,25] h (λv=>[]) (λv=>[(0,GMap.blk (λl:List UInt8=>Value.string ⟨l.toArray⟩) D.bool v.1),(1,.box 3 [.d (.int v.2.1)]),(2,.box 3 [.d (.int v.2.2)])]) I (λk_45 h=>?_) (λv h=>?_)
   ·refine .block<|.sr<|.X h I λx46 h=>.A 1 I<|.allocStore I I I I I I I I (by simp) I I Z119<|.nil<|.seq<|.seq<|.draw 20 Hm (by kernel_rfl) (by kernel_rfl)<|.p I (.fa I (zhI _))<|.A 1 I<|.Z h I (zhV _ _) λx47 h=>.A 1 I<|.p I (.fa I (zhI _))<|.A 1 I<|.p I (.mapGet I U188 KT9 I I I (z:=(false:Bool)) (.val Zv4))<|.A 1 I<|.p I (.fa I (zcm _))<|.A 1 I<|.Z h I (zf9 _ _ _ _) λx48 h=>.A 1 I<|.p I (.fa I (zbl _))<|.A 1 I<|.Z h I (ziv _ _ _) λx49 h=>.A 1 I<|.Z h I (cells_ranged_ok _ _) λx50 h=>.p I (.buildSl [_,_,_,_,_] I I E108 I (λ_=>I) I (enc:=D.bool))<|.Z h I (cells_all_ok _ _) λx51 h=>.A 1 I<|.nil<|.nil<|.K [0,5,6,7,9,23,24,25,48] I<|.condS I h (λh=>?_) λh=>?_
    ·refine .sA 1 I<|.ret (rO h I)
    ·refine .skip<|.S 1 I<|.p I (.fa I (zhI _))<|.A 1 I<|.mapPut (k:=x46.name) (v:=true) I I I U188 KT9 I I I I<|.nil<|.sA 1 I<|.seq<|.S 1 I<|.Z h I (zdv _ _) λx52 h=>.nil<|.condS I h (λh=>?_) λh=>?_
     ·refine .rA 1 I<|.seq<|.seq<|.draw 6 Hm (by kernel_rfl) (by kernel_rfl)<|.p I (.fa I (zfN _))<|.A 2 I<|.p I (.nilCheck_loc I I I)<|.p I (.loadLoc1 I I I Y3 I)<|.A 1 I<|.nil<|.nil<|.condS I h (λh=>?_) λh=>?_
      ·refine .sA 1 I<|.ret (rO h I)
      ·refine .skip<|.draw 9 Hm (by kernel_rfl) (by kernel_rfl)<|.A 1 I<|.p I (.nilCheck_loc I I I)<|.p I (.loadLoc1 I I I Y3 I)<|.A 1 I<|.p I (.fa I (zbl _))<|.A 1 I<|.Z h I (zdG _ _ _) λx53 h=>.A 1 I<|.p I (.nilCheck_loc I I I)<|.nil<|.store I I I I I I (.ofD I) C3 I (yi I)<|.nil (ndE h I)
     ·refine .skip<|.seq<|.seq<|.draw 6 Hm (by kernel_rfl) (by kernel_rfl)<|.p I (.fa I (zfN _))<|.A 2 I<|.p I (.nilCheck_loc I I I)<|.p I (.loadLoc1 I I I Y3 I)<|.A 1 I<|.nil<|.nil<|.condS I h (λh=>?_) λh=>?_
      ·refine .sA 1 I<|.ret (rO h I)
      ·refine .skip<|.draw 9 Hm (by kernel_rfl) (by kernel_rfl)<|.A 1 I<|.p I (.nilCheck_loc I I I)<|.p I (.loadLoc1 I I I Y3 I)<|.A 1 I<|.p I (.fa I (zbl _))<|.A 1 I<|.Z h I (zdG _ _ _) λx54 h=>.A 1 I<|.p I (.nilCheck_loc I I I)<|.nil<|.store I I I I I I (.ofD I) C3 I (yi I)<|.nil (ndE h I)
   ·obtain ⟨m0_42,c1_0_43,c2_0_44⟩:=v
    refine .rA 2 I (ndE h I)
  ·refine .exit<|.seq<|.plain 6 I<|.p I (.loadLoc1 I I I Y3 I)<|.A 2 I<|.jA 2 (decide (c2_0_39≤64)) I (λb55=>?_) ?_
   ·refine .q I (.loadLoc1 I I I Y3 I)<|.A 1 I<|.nil I
   refine .nil<|.A 1 I<|.nil<|.ret (rO h I)
theorem zfe (n t0 r) (h:zak n t0=some r):Pure pg 127 [eC t0] (.bool r):=by
 refine Pure.ot Tryz.func127 I Tryz.ntmps127 I λA w=>.sA 1 I<|.sr<|.makeMap (λl:List UInt8=>Value.string ⟨l.toArray⟩) D.bool I I I I<|.A 1 I<|.nil<|.seq<|.S 1 I<|.p I (.len I U24 I)<|.A 1 I<|.nil<|.block<|.L [3,7,8] h (λv=>[(9,.d (.int v.2))]) (λv=>[(0,GMap.blk (λl:List UInt8=>Value.string ⟨l.toArray⟩) D.bool v.1)]) I λ_ ⟨m0_11,x12⟩ h=>.sA 1 I<|.K [3,7,8,9,10] I<|.seq<|.condS I h (λh=>?_) λh=>?_
 ·refine .skip<|.seq<|.block<|.sr<|.X h I λx14 h=>.A 2 I<|.nil<|.seq<|.seq<|.plain 8 I<|.A 1 I<|.Z h I (zhV _ _) λx15 h=>.A 2 I<|.jO 3 ((m0_11.get? x14).getD false) I (λb16=>?_) ?_
  ·refine .A 2 I<|.q I (.mapGet I U188 KT9 I I I (z:=(false:Bool)) (.val Zv4))<|.nil I
  refine .nil<|.nil<|.condS I h (λh=>?_) λh=>?_
  ·refine .sA 1 I<|.ret (rO h I)
  ·refine .skip<|.region<|.A 2 I<|.mapPut (k:=x14) (v:=true) I I I U188 KT9 I I I I<|.nil<|.rA 2 I (ndE h I)
 ·refine .exit<|.sA 1 I<|.ret (rO h I)
theorem zhX (n t0 t1 r) (h:zen n t0 t1=some r):Pure pg 242 [.val (.int .u64 t0),.val (.int .u64 t1)] (.tup [.val (.int .u64 r.1),.val (.int .u64 r.2)]):=by
 refine Pure.ot Tryz.func242 I Tryz.ntmps242 I λA w=>.sA 2 I<|.S 1 I<|.p I (.band I I I)<|.A 1 I<|.nil<|.S 1 I<|bK h λx1 q1 h=>.p I (.shr I I I q1)<|.A 1 I<|.nil<|.S 1 I<|.p I (.band I I I)<|.A 1 I<|.nil<|.S 1 I<|bK h λx2 q2 h=>.p I (.shr I I I q2)<|.A 1 I<|.nil<|.S 2 I<|.p I (.mul I I I)<|.A 1 I<|.nil<|.K [0,1,6,7,8,9,10] I<|.S 2 I<|.p I (.mul I I I)<|.A 1 I<|bK h λx3 q3 h=>.p I (.shr I I I q3)<|.p I (.add I I I)<|.A 1 I<|.nil<|.S 1 I<|.p I (.band I I I)<|.A 1 I<|.nil<|.S 1 I<|bK h λx4 q4 h=> ?_
 refine .p I (.shr I I I q4)<|.A 1 I<|.nil<|.S 3 I<|.p I (.mul I I I)<|.p I (.add I I I)<|.A 1 I<|.nil<|.K [0,1,7,9,12,13] I<|.S 2 I<|.p I (.mul I I I)<|.A 1 I<|.p I (.add I I I)<|.A 1 I<|bK h λx5 q5 h=>.p I (.shr I I I q5)<|.p I (.add I I I)<|.A 1 I<|.nil<|.S 2 I<|.p I (.mul I I I)<|.A 1 I<|.nil<|.ret ?_
 cases h
 exact zcQ I I (.d _) (.d _)
theorem math_bits_Mul_ok (n t0 t1 r) (h:zd8 n t0 t1=some r):Pure pg 204 [.val (.int .u64 t0),.val (.int .u64 t1)] (.tup [.val (.int .u64 r.1),.val (.int .u64 r.2)]):=by
 refine Pure.ot Tryz.func204 I Tryz.ntmps204 I λA w=>.sA 2 I<|.seq<|.condF I<|.skip<|.S 2 I<|.Z h I (zhX _ _ _) λx1 h=>.A 1 I<|.p I (.extract I I I)<|.p I (.extract I I I)<|.A 2 I<|.nil<|.sA 4 I<|.ret ?_
 cases h
 exact zcQ I I (.d _) (.d _)
theorem zdn (n t0 t1 r) (h:zF n t0 t1=some r):Pure pg 167 [eK t0,.int t1] (eK r):=by
 refine Pure.ot Tryz.func167 I Tryz.ntmps167 I λA w=>.sr<|.p I (.nilS 2 (α:=Range) Range.enc I)<|.nil<|.seq<|.sA 2 I<|.condS I h (λh=>?_) λh=>?_
 ·refine .region ?_
  cases h
 ·refine .skip<|.S 1 I<|.p I (.len I U82 I)<|.p I (.conv I U3 U201 I)<|.A 1 I<|.p I (.conv I U3 U201 I)<|.Z h I (math_bits_Mul_ok _ _ _) λx1 h=>.A 1 I<|.p I (.extract I I I)<|.p I (.extract I I I)<|.A 2 I<|.nil<|.seq<|.seq<|.plain 6 I<|.A 3 I<|.jO 2 (decide (9223372036854775807<x1.2)) I (λb2=>?_) ?_
  ·refine .A 2 I<|.nil I
  refine .nil<|.nil<|.K [0,6,26] I<|.condS I h (λh=>?_) λh=>?_
  ·refine .region ?_
   cases h
  ·refine .skip<|.S 1 I<|.p I (.conv I U201 U3 I)<|bK h λx3 q3 h=>.makeVec (enc:=Range.enc) (z:=(⟨0,0⟩:Range)) I I I I E82 I I I (.agg Zc85 (ds':=[.int 0,.int 0]) (.e .e1)) q3<|.A 1 I<|.nil<|.S 2 I<|.asSub 31 I<|.copySub (enc:=Range.enc) (l:=x3) (ys:=t0) I I I I E82 I I I (.d I) (λ_=>I)<|.relen 7 I (copyTo_lenW _ t0).symm<|.relen 30 I (copyTo_lenW _ t0).symm<|.A 1 I<|.nil<|.seq<|.block<|.L [] h (λv=>[(7,.vec 0 (List.length v.1)),(8,.d (.int v.2))]) (λv=>[(0,.vec 85 2 (List.map Range.enc v.1))]) I λ_ ⟨b0_12,x13⟩ h=>.seq<|.S 2 I<|.p I (.lenV I U82 I I I)<|.A 1 I<|.nil<|.K [7,8,37] I<|.condS I h (λh=>?_) λh=>?_
   ·refine .skip<|.block<|.drawF 7 [0] Hm (by kernel_rfl) (by kernel_rfl)<|.A 3 I<|bK h λx15 q15 h=>.p I (.subL I I I I I U82 S85 q15)<|.A 2 I<|bK h λx16 q16 h=>.p I (.subH I I I I I U82 S85 q16)<|.nil ⟨.move I I .nil,?_⟩
    refine .copySub (enc:=Range.enc) (l:=b0_12) (ys:=((b0_12.drop 0).take (x13.toNat - 0))) I I I I E82 I I I (.sub I I I) (λ_=>I)<|.relen 7 I (zht q15 ((b0_12.drop 0).take (x13.toNat - 0))).symm<|.relen 39 I (zht q15 ((b0_12.drop 0).take (x13.toNat - 0))).symm<|.relen 42 I (zht q15 ((b0_12.drop 0).take (x13.toNat - 0))).symm<|.A 2 I<|.nil (ndE h I)
   ·refine .exit<|.sA 2 I<|.ret ?_
    cases h
    exact zaH I (.vec I (by simp))
theorem zf7 (n t0 t1 t2 r) (h:zbr n t0 t1 t2=some r):Pure pg 128 [eA t0,eB t1,.bool t2] (eK r):=by
 refine Pure.ot Tryz.func128 I Tryz.ntmps128 I λA w=>.sr<|.p I (.nilS 2 (α:=Range) Range.enc I)<|.nil<|.seq<|.S 2 I<|.Z h I (zeZ _ _ _) λx1 h=>.A 1 I<|.nil<|.condS I h (λh=>?_) λh=>?_
 ·refine .sr<|.p I (.nilS 2 (α:=Range) Range.enc I)<|.nil<|.ret ?_
  cases h
  exact zaH I (.d _)
 ·refine .skip<|.S 1 I<|.nilVec 7 2 85 I<|.nil<|.seq<|.S 1 I<|.p I (.len I U23 I)<|.A 1 I<|.nil<|.block<|.L [0,2,14,15] h (λv=>[(7,.vec 0 (List.length v.1)),(16,.d (.int v.2))]) (λv=>[(0,.vec 85 2 (List.map Range.enc v.1))]) I λ_ ⟨b0_20,x21⟩ h=>.sA 1 I<|.K [0,2,7,14,15,16,17] I<|.seq<|.condS I h (λh=>?_) λh=>?_
  ·refine .skip<|.J [0,2,14,15,16] h (λv=>[(7,.vec 0 (List.length v))]) (λv=>[(0,.vec 85 2 (List.map Range.enc v))]) I (λk_24 h=>?_) (λb0_23 h=>?_)
   ·refine .block<|.sr<|.X h I λx25 h=>.A 1 I<|.allocStore I I I I I I I I (by simp) I I Z119<|.nil<|.S 1 I<|.Z h I (zdv _ _) λx26 h=>.A 1 I<|.p I (.beq I U4 I I)<|.nil<|.condS I h (λh=>?_) λh=>?_
    ·refine .draw 9 Hm (by kernel_rfl) (by kernel_rfl)<|.A 1 I<|.p I (.fa I (zdP _))<|.A 1 I<|.p I (.buildSl [_] I I E82 I (λ_=>I) I (enc:=Range.enc))<|.A 1 I<|.p I (.fa I (zbl _))<|.A 1 I<|.Z h I (zdG _ _ _) λx27 h=>.Z h I (zdn _ _ _) λx28 h=>.nil<|bK h λx29 q29 h=>.app I I I I I I I I E82 I (λ_=>I) q29<|.A 1 I<|.nil (ndE h I)
    ·refine .skip (ndE h I)
   ·refine .rA 2 I (ndE h I)
  ·refine .exit<|.sA 2 I<|.ret ?_
   cases h
   exact zaH I (.vec I (by simp))
theorem zck (n t0 t1 r) (h:zah n t0 t1=some r):Pure pg 168 [.int t0,.int t1] (.bool r):=by
 refine Pure.ot Tryz.func168 I Tryz.ntmps168 I λA w=>.sA 1 I<|.seq<|.plain 7 I<|.A 3 I<|.jA 3 (decide (t0<t1)) I (λb1=>?_) ?_
 ·refine .A 3 I<|.nil I
 refine .nil<|.A 1 I<|.nil<|.ret (rO h I)
theorem zdc (n t0 t1 r) (h:zat n t0 t1=some r):Pure pg 173 [.int t0,.int t1] (.bool r):=by
 refine Pure.ot Tryz.func173 I Tryz.ntmps173 I λA w=>.sA 1 I<|.seq<|.plain 9 I<|.A 2 I<|.p I (.neg6 I I)<|.A 2 I<|.jA 3 (decide (t0≤t1)) I (λb1=>?_) ?_
 ·refine .A 3 I<|.nil I
 refine .nil<|.A 1 I<|.nil<|.ret (rO h I)
theorem zeO (n t0 t1 r) (h:zaq n t0 t1=some r):Pure pg 169 [Judge.enc t0,Row.enc t1] (.bool r):=by
 refine Pure.ot Tryz.func169 I Tryz.ntmps169 I λA w=>.sA 3 I<|.sA 1 I<|.seq<|.sr<|.p I (.fa I (G69_0 _))<|.A 1 I<|.p I (.len I U67 I)<|.A 1 I<|.nil<|.block<|.L [2,3,9,10] h (λv=>[(5,.d (.int v.1)),(11,.d (.int v.2))]) (λv=>[]) I λ_ ⟨x15,x16⟩ h=>.sA 1 I<|.seq<|.condS I h (λh=>?_) λh=>?_
 ·refine .skip<|.seq<|.block<|.sr<|.X h I λx18 h=>.A 1 I<|.allocStore I I I I I I I I (by simp) I I Z77<|.nil<|.seq<|.seq<|.plain 23 I<|.p I (.fa I (G77_0 _))<|.A 4 I<|.jO 6 (decide ((t0.strict.length:Int)≤x18.cell)) I (λb19=>?_) ?_
  ·refine .q I (.fa I (G77_0 _))<|.A 1 I<|.q I (.fa I (G156_1 _))<|.A 1 I<|.q I (.len I U82 I)<|.A 1 I<|.nil I
  refine .A 1 I<|.jO 3 (x18.factor==0) I (λb20=>?_) ?_
  ·refine .q I (.fa I (G77_1 _))<|.A 2 I<|.nil I
  refine .A 1 I<|gK h λc22 h=>.jO 4 (!((zat n x18.factor 1000).getD default)) I (λb21=>?_) ?_
  ·refine .q I (.fa I (G77_1 _))<|.A 1 I<|.q I (.call I (kC I) I (zdc _ _ _ _ (someD (impF c22 b21))))<|.A 1 I<|.nil I
  refine .nil<|.nil<|.K [2,3,7,9,10,11,37] I<|.condS I h (λh=>?_) λh=>?_
  ·refine .sA 1 I<|.ret (rO h I)
  ·refine .skip<|.region<|.p I (.fa I (G77_0 _))<|.A 2 I<|.nil<|.rA 2 I (ndE h I)
 ·refine .exit<|.sr<|.p I (.fa I (G69_1 _))<|.A 1 I<|.Z h I (zdc _ _ _) λx23 h=>.A 1 I<|.nil<|.ret (rO h I)
theorem zf0 (n t0 t1 t2 r) (h:zbe n t0 t1 t2=some r):Pure pg 206 [Table.enc t0,.ref (Constraint.enc t1),.ref (Judge.enc t2)] (.bool r):=by
 refine Pure.ot Tryz.func206 I Tryz.ntmps206 I λA w=>.sA 2 I<|.seq<|.draw 42 Hm (by kernel_rfl) (by kernel_rfl)<|.p I (.fa I (zcm _))<|.A 3 I<|.jA 4 ((t0.columns.length:Int)==2) I (λb1=>?_) ?_
 ·refine .q I (.fa I (zbl _))<|.A 1 I<|.q I (.len I U22 I)<|.A 1 I<|.nil I
 refine .A 1 I<|gK h λc3 h=>gK h λc4 h=>.jA 9 (((idx t0.columns 0).getD default)==((idx t0.columns 1).getD default)) I (λb2=>?_) ?_
 ·refine .q I (.fa I (zbl _))<|.A 1 I<|.q I (.ix I U22 S3 (someD (impT c3 b2)))<|.A 1 I<|.q I (.fa I (zbl _))<|.A 1 I<|.q I (.ix I U22 S3 (someD (impT c4 b2)))<|.A 2 I<|.nil I
 refine .A 1 I<|.jA 5 (t0.first==t1.first) I (λb5=>?_) ?_
 ·refine .q I (.fa I (zfN _))<|.A 1 I<|.q I (.fa I (G74_3 _))<|.A 2 I<|.nil I
 refine .A 1 I<|gK h λc7 h=>gK h λc8 h=>.jA 12 (((idx t2.model.sorts ((idx t0.columns 0).getD default)).getD default)==t1.size) I (λb6=>?_) ?_
 ·refine .q I (.fa I (zbU _))<|.A 2 I<|.q I (.fa I (zbl _))<|.A 1 I<|.q I (.ix I U22 S3 (someD (impT c7 b6)))<|.A 1 I<|.q I (.ix I U22 S3 (someD (impT c8 b6)))<|.A 1 I<|.q I (.fa I (G74_4 _))<|.A 2 I<|.nil I
 refine .A 1 I<|.nil<|.nil<|.K [4] I<|.ret (rO h I)
theorem zcR (n t0) (t1:Table→Option Bool) (F1:D) (hF1:∀ (q0:Table) (y:Bool),t1 q0=some y→Dyn pg F1 [Table.enc q0] (.bool y)) (r) (h:zw n t0 t1=some r):Pure pg 243 [eB t0,F1] (.int r):=by
 refine Pure.ot Tryz.func243 I Tryz.ntmps243 I λA w=>.sA 1 I<|.seq<|.S 1 I<|.p I (.len I U23 I)<|.A 1 I<|.nil<|.block<|.L [0,1,7] h (λv=>[(8,.d (.int v))]) (λv=>[]) I λ_ x7 h=>.sA 1 I<|.seq<|.condS I h (λh=>?_) λh=>?_
 ·refine .skip<|.seq<|.block<|.sA 2 I<|.S 3 I<|.X h I λx9 h=>.A 1 I<|bK h λx10 q10 h=>.p I (.dyn I I I (hF1 _ _ q10))<|.nil<|.condS I h (λh=>?_) λh=>?_
  ·refine .sA 2 I<|.ret (rO h I)
  ·refine .skip<|.rA 2 I (ndE h I)
 ·refine .exit<|.sA 1 I<|.ret (rO h I)
theorem zcA (n t0) (t1:Table→Option Bool) (F1:D) (hF1:∀ (q0:Table) (y:Bool),t1 q0=some y→Dyn pg F1 [Table.enc q0] (.bool y)) (r) (h:zJ n t0 t1=some r):Pure pg 205 [eB t0,F1] (.bool r):=by
 refine Pure.ot Tryz.func205 I Tryz.ntmps205 I λA w=>.sA 1 I<|.S 2 I<|.Z h I (zcR _ _ _ _ hF1) λx1 h=>.A 2 I<|.nil<|.ret (rO h I)
theorem zgY (n t0 t1 r) (h:zbw n t0 t1=some r):Pure pg 170 [Judge.enc t0,Constraint.enc t1] (.bool r):=by
 refine Pure.ot Tryz.func170 I Tryz.ntmps170 I λA w=>.sA 3 I<|.seq<|.plain 18 I<|.p I (.fa I (G74_2 _))<|.p I (.fa I (G69_0 _))<|.A 1 I<|.p I (.len I U67 I)<|.A 2 I<|.jA 4 (t1.row.bound==0) I (λb1=>?_) ?_
 ·refine .q I (.fa I (G74_2 _))<|.q I (.fa I (G69_1 _))<|.A 2 I<|.nil I
 refine .A 1 I<|gK h λc3 h=>.jA 5 (((zJ n t0.model.tables (λq0=>zbe n q0 t1 t0)).getD default)) I (λb2=>?_) ?_
 ·refine .q I (.fa I (zbU _))<|.A 2 I<|.q I (.makeFunc I I)<|.q I (.call I (kC I) I (zcA _ _ _ _ (λq0 y hq=>⟨_,_,I,K206,zf0 _ q0 _ _ _ hq⟩) _ (someD (impT c3 b2))))<|.nil I
 refine .nil<|.A 1 I<|.nil<|.K [4] I<|.ret (rO h I)
theorem zdV (n t0 t1 r) (h:zH n t0 t1=some r):Pure pg 207 [eL t0,eL t1] (.bool r):=by
 refine Pure.ot Tryz.func207 I Tryz.ntmps207 I λA w=>.sA 1 I<|.seq<|.S 1 I<|.p I (.len I U67 I)<|.A 1 I<|.p I (.len I U67 I)<|.A 1 I<|.nil<|.condS I h (λh=>?_) λh=>?_
 ·refine .sA 1 I<|.ret (rO h I)
 ·refine .skip<|.seq<|.S 1 I<|.p I (.len I U67 I)<|.A 1 I<|.nil<|.block<|.L [0,1,12] h (λv=>[(13,.d (.int v))]) (λv=>[]) I λ_ x7 h=>.sA 1 I<|.seq<|.condS I h (λh=>?_) λh=>?_
  ·refine .skip<|.seq<|.block<|.sA 2 I<|.seq<|.draw 9 Hm (by kernel_rfl) (by kernel_rfl)<|.A 2 I<|.X h I λx9 h=>.A 3 I<|.X h I λx10 h=>.A 1 I<|.p I (.sneq I SE77 I I (xs:=Term.vals _) (ys:=Term.vals _) I I I I (SQ77 _ _))<|.nil<|.nil<|.condS I h (λh=>?_) λh=>?_
   ·refine .sA 1 I<|.ret (rO h I)
   ·refine .skip<|.rA 2 I (ndE h I)
  ·refine .exit<|.sA 1 I<|.ret (rO h I)
theorem model_single_ok (n t0 t1 t2 t3 r) (h:zc1 n t0 t1 t2 t3=some r):Pure pg 171 [Row.enc t0,.int t1,.int t2,.int t3] (.bool r):=by
 refine Pure.ot Tryz.func171 I Tryz.ntmps171 I λA w=>.sA 2 I<|.seq<|.plain 13 I<|.p I (.fa I (G69_0 _))<|.A 3 I<|.p I (.castD (Term.enc (⟨t1,t2⟩:Term)) I (.build I Pl77 (.agg Zc77 (ds':=[_,_]) (.e .e1)) I I))<|.p I (.buildSl [_] I I E67 I (λ_=>I) I (enc:=Term.enc))<|.Z h I (zdV _ _ _) λx1 h=>.A 1 I<|.jA 4 (t0.bound==t3) I (λb2=>?_) ?_
 ·refine .q I (.fa I (G69_1 _))<|.A 3 I<|.nil I
 refine .nil<|.A 1 I<|.nil<|.K [8] I<|.ret (rO h I)
theorem zeF (n t0 r) (h:zU n t0=some r):Pure pg 129 [Judge.enc t0] (.bool r):=by
 refine Pure.ot Tryz.func129 I Tryz.ntmps129 I λA w=>.sA 2 I<|.seq<|.seq<|.plain 16 I<|.p I (.fa I (zbU _))<|.A 2 I<|.p I (.len I U25 I)<|.A 2 I<|.jO 9 (decide ((t0.model.constraints.length:Int)<mul64 2 (t0.strict.length:Int))) I (λb1=>?_) ?_
 ·refine .q I (.fa I (zbU _))<|.A 2 I<|.q I (.len I U25 I)<|.q I (.fa I (G156_1 _))<|.A 1 I<|.q I (.len I U82 I)<|.A 2 I<|.nil I
 refine .nil<|.nil<|.K [1,23] I<|.condS I h (λh=>?_) λh=>?_
 ·refine .sA 1 I<|.ret (rO h I)
 ·refine .skip<|.seq<|.sr<|.p I (.fa I (zbU _))<|.A 2 I<|.p I (.len I U25 I)<|.A 1 I<|.nil<|.block<|.L [1,26,27] h (λv=>[(28,.d (.int v))]) (λv=>[]) I λ_ x42 h=>.sA 1 I<|.seq<|.condS I h (λh=>?_) λh=>?_
  ·refine .skip<|.J [1,26,27,28] h (λv=>[]) (λv=>[]) I (λk_44 h=>?_) (λv h=>?_)
   ·refine .block<|.S 1 I<|.X h I λx45 h=>.A 1 I<|.allocZ I I I I (.agg Zc74 (ds':=[.int 0,.int 0,eL [],.int 0,.int 0,.int 0]) (.e (.e (.o (.e (.e .e1)))))) I<|.A 1 I<|.store I I I I I I (.ofD I) C74 I (yi I)<|.nil<|.J [1,3,4,26,27,28] h (λv=>[]) (λv=>[]) I (λk_46 h=>?_) (λv h=>?_)
    ·refine .block<|.sr<|.p I (.fieldAddrLoc I I I F74_1)<|.p I (.loadLoc1 I I I Y3 I)<|.p I (.fa I (zbU _))<|.A 2 I<|.p I (.len I U24 I)<|.Z h I (zck _ _ _) λx47 h=>.A 2 I<|.nil<|.condS I h (λh=>?_) λh=>?_
     ·refine .sA 1 I<|.K [2] I<|.ret (rO h I)
     ·refine .sr<|.p I (.fieldAddrLoc I I I F74_0)<|.p I (.loadLoc1 I I I Y3 I)<|.A 2 I<|.nil<|.K [1,3,4,26,27,28,42] I<|.condS I h (λh=>?_) λh=>?_
      ·refine .seq<|.plain 15 I<|.p I (.fieldAddrLoc I I I F74_3)<|.p I (.loadLoc1 I I I Y3 I)<|.A 2 I<|.jO 3 (x45.size != 0) I (λb48=>?_) ?_
       ·refine .q I (.fieldAddrLoc I I I F74_4)<|.q I (.loadLoc1 I I I Y3 I)<|.A 1 I<|.nil I
       refine .A 1 I<|gK h λc50 h=>.jO 5 (!((zaq n t0 x45.row).getD default)) I (λb49=>?_) ?_
       ·refine .A 1 I<|.q I (.fieldAddrLoc I I I F74_2)<|.q I (.loadLoc I I I Y69 (yi I) (v:=.d (Row.enc x45.row)) I)<|.q I (.call I (kC I) I (zeO _ _ _ _ (someD (impF c50 b49))))<|.A 1 I<|.nil I
       refine .nil<|.nil<|.condS I h (λh=>?_) λh=>?_
       ·refine .sA 1 I<|.K [2] I<|.ret (rO h I)
       ·refine .skip (ndE h I)
      ·refine .seq<|.plain 9 I<|.p I (.fieldAddrLoc I I I F74_0)<|.p I (.loadLoc1 I I I Y3 I)<|.A 2 I<|gK h λc52 h=>.jO 4 (!((zbw n t0 x45).getD default)) I (λb51=>?_) ?_
       ·refine .A 1 I<|.q I (.loadLoc I I I Y74 (yi I) (v:=.d (Constraint.enc x45)) I)<|.q I (.call I (kC I) I (zgY _ _ _ _ (someD (impF c52 b51))))<|.A 1 I<|.nil I
       refine .nil<|.A 1 I<|.nil<|.condS I h (λh=>?_) λh=>?_
       ·refine .sA 1 I<|.ret (rO h I)
       ·refine .skip (ndE h I)
    ·refine .S 1 I<|bK h λx53 q53 h=>.p I (.quo6 I I I q53)<|.p I (.fa I (G156_1 _))<|.A 1 I<|.p I (.len I U82 I)<|.A 1 I<|.nil<|.K [1,3,4,26,27,28,76] I<|.condS I h (λh=>?_) λh=>?_
     ·refine .sr<|.p I (.fa I (G156_1 _))<|.A 2 I<|bK h λx54 q54 h=>.p I (.quo6 I I I q54)<|.X h I λx55 h=>.A 1 I<|.allocStore I I I I I I I I (by simp) I I Z85<|.A 2 I<|.nil<|.J [1,3,4,26,27,28] h (λv=>[(6,.d (.int v.1)),(7,.d (.int v.2))]) (λv=>[]) I (λk_58 h=>?_) (λv h=>?_)
      ·refine .sr<|.p I (.fa I (G85_1 _))<|.A 2 I<|.nil<|.S 1 I<|bK h λx59 q59 h=>.p I (.rem6 I I I q59)<|.A 1 I<|.nil<|.K [1,3,4,5,6,7,26,27,28,87] I<|.condS I h (λh=>?_) λh=>?_
       ·refine .draw 5 Hm (by kernel_rfl) (by kernel_rfl)<|.p I (.fa I (G85_0 _))<|.A 1 I<|.p I (.neg6 I I)<|.A 2 I<|.nil<|.nil (ndE h I)
       ·refine .skip (ndE h I)
      ·obtain ⟨x56,x57⟩:=v
       refine .seq<|.plain 13 I<|.p I (.fieldAddrLoc I I I F74_0)<|.p I (.loadLoc1 I I I Y3 I)<|.A 2 I<|gK h λc61 h=>gK h λc62 h=>.jO 8 (!((zc1 n x45.row ((quo64 x42 2).getD default) x56 x57).getD default)) I (λb60=>?_) ?_
       ·refine .q I (.fieldAddrLoc I I I F74_2)<|.q I (.loadLoc I I I Y69 (yi I) (v:=.d (Row.enc x45.row)) I)<|.A 1 I<|.q I (.quo6 I I I (someD (impF c61 b60)))<|.A 2 I<|.q I (.call I (kC I) I (model_single_ok _ _ _ _ _ _ (someD (impF c62 b60))))<|.A 1 I<|.nil I
       refine .nil<|.nil<|.K [1,26,27,28,103] I<|.condS I h (λh=>?_) λh=>?_
       ·refine .sA 1 I<|.ret (rO h I)
       ·refine .skip (ndE h I)
     ·refine .skip (ndE h I)
   ·refine .rA 2 I (ndE h I)
  ·refine .exit<|.sA 1 I<|.ret (rO h I)
theorem zeo (n t0 t1 r) (h:zaT n t0 t1=some r):Pure pg 172 [.int t0,.ref (Judge.enc t1)] (.bool r):=by
 refine Pure.ot Tryz.func172 I Tryz.ntmps172 I λA w=>.sA 1 I<|.seq<|.plain 10 I<|.A 3 I<|.jO 6 (decide ((t1.model.sorts.length:Int)≤t0)) I (λb1=>?_) ?_
 ·refine .A 1 I<|.q I (.fa I (zbU _))<|.A 2 I<|.q I (.len I U22 I)<|.A 1 I<|.nil I
 refine .nil<|.A 1 I<|.nil<|.ret (rO h I)
theorem ze1 (n t0 r) (h:zA n t0=some r):Pure pg 130 [Judge.enc t0] (.bool r):=by
 refine Pure.ot Tryz.func130 I Tryz.ntmps130 I λA w=>.sA 2 I<|.S 1 I<|.nilVec 3 1 9 I<|.nil<|.seq<|.sr<|.p I (.fa I (zbU _))<|.A 2 I<|.p I (.len I U26 I)<|.A 1 I<|.nil<|.block<|.L [1,8,9] h (λv=>[(3,.vec 0 (List.length v.1)),(10,.d (.int v.2))]) (λv=>[(0,.vec 9 1 (List.map D.str v.1))]) I λ_ ⟨b0_13,x14⟩ h=>.sA 1 I<|.K [1,3,8,9,10,11] I<|.seq<|.condS I h (λh=>?_) λh=>?_
 ·refine .skip<|.seq<|.block<|.sr<|.X h I λx16 h=>.A 1 I<|.allocStore I I I I I I I I (by simp) I I Z123<|.nil<|.S 1 I<|.p I (.fa I (G123_0 _))<|.A 1 I<|.p I (.buildSl [_] I I E24 I (λ_=>I) I (enc:=D.str))<|bK h λx17 q17 h=>.app I I I I I I I I E24 I (λ_=>I) q17<|.A 1 I<|.nil<|.seq<|.plain 10 I<|.p I (.fa I (zf1 _))<|.A 1 I<|.p I (.len I U22 I)<|.A 2 I<|gK h λc19 h=>.jO 4 (((zh n x16.sorts (λq0=>zaT n q0 t0)).getD default)) I (λb18=>?_) ?_
  ·refine .q I (.fa I (zf1 _))<|.A 1 I<|.q I (.makeFunc I I)<|.q I (.call I (kC I) I (zai _ _ _ _ (λq0 y hq=>⟨_,_,I,K172,zeo _ q0 _ _ hq⟩) _ (someD (impF c19 b18))))<|.nil I
  refine .nil<|.nil<|.K [1,3,8,9,10,28] I<|.condS I h (λh=>?_) λh=>?_
  ·refine .sA 1 I<|.ret (rO h I)
  ·refine .skip<|.rA 2 I (ndE h I)
 ·refine .exit<|.seq<|.plain 7 I<|.A 1 I<|.p I (.lenV I U24 I I I)<|.A 2 I<|gK h λc21 h=>.jA 2 (((zak n b0_13).getD default)) I (λb20=>?_) ?_
  ·refine .A 1 I<|.q I (.callB I (kC I) (.cons I (.vec I (by simp)) .nil) I (zfe _ _ _ (someD (impT c21 b20))))<|.nil I
  refine .nil<|.A 1 I<|.nil<|.ret (rO h I)
section
variable [Drw]
theorem zfP (n t0 r) (h:zc6 n t0=some r):Pure pg 244 [.int t0] (.bool r):=by
 refine Pure.ot Tryz.func244 I Tryz.ntmps244 I λA w=>.sA 1 I<|.sA 4 I<|.ret (rO h I)
end
section
variable [Drw]
theorem zeI (n t0 t1 r) (h:zbV n t0 t1=some r):Pure pg 208 [.int t0,.int t1] (.int r):=by
 refine Pure.ot Tryz.func208 I Tryz.ntmps208 I λA w=>.sA 1 I<|.S 1 I<|.Z h I (zfP _ _) λx1 h=>.A 1 I<|.nil<|.S 1 I<|.Z h I (zfP _ _) λx2 h=>.A 1 I<|.nil<|.seq<|.sA 1 I<|.condS I h (λh=>?_) λh=>?_
 ·refine .seq<|.sA 1 I<|.condS I h (λh=>?_) λh=>?_
  ·refine .sA 1 I<|.ret (rO h I)
  ·refine .skip<|.sA 1 I<|.ret (rO h I)
 ·refine .skip<|.seq<|.sA 1 I<|.condS I h (λh=>?_) λh=>?_
  ·refine .sA 1 I<|.ret (rO h I)
  ·refine .skip<|.seq<|.sA 3 I<|.condS I h (λh=>?_) λh=>?_
   ·refine .sA 1 I<|.ret (rO h I)
   ·refine .skip<|.seq<|.sA 3 I<|.condS I h (λh=>?_) λh=>?_
    ·refine .sA 1 I<|.K [4] I<|.ret (rO h I)
    ·refine .skip<|.sA 1 I<|.K [4] I<|.ret (rO h I)
end
section
variable [Drw]
theorem zcK (n t0 t1 r) (h:zg n t0 t1=some r):Pure pg 174 [eA t0,eA t1] (.int r):=by
 refine Pure.ot Tryz.func174 I Tryz.ntmps174 I λA w=>.sA 1 I<|.seq<|.S 1 I<|.p I (.len I U22 I)<|.A 1 I<|.nil<|.block<|.L [0,1,9,10] h (λv=>[(11,.d (.int v))]) (λv=>[]) I λ_ x9 h=>.sA 1 I<|.seq<|.condS I h (λh=>?_) λh=>?_
 ·refine .skip<|.seq<|.block<|.S 1 I<|.X h I λx11 h=>.A 3 I<|.nil<|.seq<|.S 2 I<|.p I (.len I U22 I)<|.A 1 I<|.nil<|.condS I h (λh=>?_) λh=>?_
  ·refine .sA 1 I<|.ret (rO h I)
  ·refine .skip<|.S 2 I<|.X h I λx12 h=>.A 2 I<|.nil<|.S 2 I<|.Z h I (zeI _ _ _) λx13 h=>.A 1 I<|.nil<|.K [0,1,8,9,10,11] I<|.sA 2 I<|.condS I h (λh=>?_) λh=>?_
   ·refine .sA 2 I<|.ret (rO h I)
   ·refine .skip<|.rA 2 I (ndE h I)
 ·refine .exit<|.seq<|.S 1 I<|.p I (.len I U22 I)<|.A 1 I<|.p I (.len I U22 I)<|.A 1 I<|.nil<|.condS I h (λh=>?_) λh=>?_
  ·refine .sA 1 I<|.ret (rO h I)
  ·refine .skip<|.sA 1 I<|.ret (rO h I)
end
theorem cells_Tuple_ok (n t0 t1 t2 t3 r) (h:zaZ n t0 t1 t2 t3=some r):Pure pg 245 [eA t0,eB t1,.bool t2,.int t3] (.tup [.int r.1,eA r.2.1,.bool r.2.2]):=by
 refine Pure.ot Tryz.func245 I Tryz.ntmps245 I λA w=>.S 1 I<|.p I (.nilS 1 (α:=Int) D.int I)<|.A 1 I<|.nil<|.seq<|.seq<|.plain 8 I<|.A 2 I<|.Z h I (zeZ _ _ _) λx1 h=>.A 2 I<|.jO 2 (decide (t3<0)) I (λb2=>?_) ?_
 ·refine .A 2 I<|.nil I
 refine .nil<|.nil<|.condS I h (λh=>?_) λh=>?_
 ·refine .S 1 I<|.p I (.nilS 1 (α:=Int) D.int I)<|.A 1 I<|.nil<|.ret ?_
  cases h
  exact zgV I I I (.d _) (.d _) (.d _)
 ·refine .skip<|.seq<|.S 1 I<|.p I (.len I U23 I)<|.A 1 I<|.nil<|.block<|.L [0,2,3,25,26] h (λv=>[(27,.d (.int v))]) (λv=>[]) I λ_ x73 h=>.sA 1 I<|.seq<|.condS I h (λh=>?_) λh=>?_
  ·refine .skip<|.seq<|.block<|.S 1 I<|.X h I λx75 h=>.A 1 I<|.allocZ I I I I (.agg Zc119 (ds':=[.str [],.int 0,eA [],.int 0,.int 0,.int 0]) (.e (.e (.o (.e (.e .e1)))))) I<|.A 1 I<|.store I I I I I I (.ofD I) C119 I (yi I)<|.nil<|.S 1 I<|.p I (.fieldAddrLoc I I I F119_4)<|.p I (.loadLoc1 I I I Y3 I)<|.A 2 I<|.nil<|.seq<|.seq<|.plain 16 I<|.p I (.loadLoc I I I Y119 (yi I) (v:=.d (Table.enc x75)) I)<|.Z h I (zdv _ _) λx76 h=>.A 1 I<|.p I (.bne I U4 I I)<|.A 1 I<|.jO 2 (decide (sub64 t3 x75.first<0)) I (λb77=>?_) ?_
   ·refine .A 2 I<|.nil I
   refine .A 1 I<|gK h λc79 h=>.jO 6 (decide (((za0 n t0 x75.columns).getD default)≤sub64 t3 x75.first)) I (λb78=>?_) ?_
   ·refine .A 2 I<|.q I (.fieldAddrLoc I I I F119_2)<|.q I (.loadLoc1 I I I Y22 I)<|.q I (.call I (kC I) I (zdG _ _ _ _ (someD (impF c79 b78))))<|.A 1 I<|.nil I
   refine .nil<|.nil<|.K [0,2,3,11,12,13,25,26,27,51] I<|.condS I h (λh=>?_) λh=>?_
   ·refine .exit<|.rA 2 I (ndE h I)
   ·refine .skip<|.sr<|.p I (.fieldAddrLoc I I I F119_2)<|.p I (.loadLoc1 I I I Y22 I)<|.p I (.len I U22 I)<|bK h λx80 q80 h=>.makeVec (enc:=D.int) (z:=(0:Int)) I I I I E22 I I I (.val Zv3) q80<|.A 1 I<|.nil<|.seq<|.S 1 I<|.p I (.lenV I U22 I I I)<|.A 2 I<|.nil<|.block<|.L [0,11,12] h (λv=>[(13,.d (.int v.2.1)),(14,.vec 1 (List.length v.1)),(15,.d (.int v.2.2))]) (λv=>[(1,.vec 3 1 (List.map D.int v.1))]) I λ_ ⟨b1_99,x100,x101⟩ h=>.seq<|.sA 2 I<|.K [0,11,12,13,14,15,60] I<|.condS I h (λh=>?_) λh=>?_
    ·refine .skip<|.seq<|.block<|.S 1 I<|.p I (.fieldAddrLoc I I I F119_2)<|.p I (.loadLoc1 I I I Y22 I)<|.A 1 I<|.X h I λx103 h=>.A 1 I<|.X h I λx104 h=>.A 2 I<|.nil<|.drawF 9 [5,6,7] Hm (by kernel_rfl) (by kernel_rfl)<|.A 4 I<|bK h λx105 q105 h=>.p I (.rem6 I I I q105)<|.A 2 I<|bK h λx106 q106 h=>.p I (.quo6 I I I q106)<|bK h λx107 q107 h=>.p I (.idxV I I I I I U22 S3 q107)<|.nil ⟨.move I I (.move I I (.ints I I I I .nil)),?_⟩
     refine bK h λb1_108 hb1_108 h=>.storeEl (enc:=D.int) I I I I I I I I I C3 hb1_108<|.relen 14 I (zdo hb1_108)<|.relen 71 I (zdo hb1_108)<|.A 1 I<|.nil<|.K [0,11,12,13,14,15] I<|.rA 3 I (ndE h I)
    ·refine .exit<|.sA 5 I<|.ret ?_
     cases h
     exact zgV I I I (.d _) (.vec I (by simp)) (.d _)
  ·refine .exit<|.S 1 I<|.p I (.nilS 1 (α:=Int) D.int I)<|.A 1 I<|.nil<|.ret ?_
   cases h
   exact zgV I I I (.d _) (.d _) (.d _)
theorem zgp (n t0 t1 r) (h:zbm n t0 t1=some r):Pure pg 209 [Judge.enc t0,Update.enc t1] (.bool r):=by
 refine Pure.ot Tryz.func209 I Tryz.ntmps209 I λA w=>.sA 3 I<|.sr<|.p I (.fa I (zbU _))<|.A 2 I<|.p I (.fa I (zbU _))<|.A 2 I<|.p I (.fa I (G184_1 _))<|.A 1 I<|.Z h I (cells_Tuple_ok _ _ _ _ _) λx1 h=>.A 1 I<|.p I (.extract I I I)<|.p I (.extract I I I)<|.p I (.extract I I I)<|.A 3 I<|.nil<|.K [2,3,5,7] I<|.seq<|.sA 2 I<|.condS I h (λh=>?_) λh=>?_
 ·refine .sA 1 I<|.ret (rO h I)
 ·refine .skip<|.sr<|.p I (.fa I (zbU _))<|.A 3 I<|.X h I λx2 h=>.A 1 I<|.allocStore I I I I I I I I (by simp) I I Z119<|.nil<|.sr<|.p I (.fa I (zcm _))<|.A 1 I<|.nil<|.block<|.J [3,8] h (λv=>[(51,.d (.bool v))]) (λv=>[]) I (λk_4 h=>?_) (λx3 h=>?_)
  ·refine .sA 2 I<|.condS I h (λh=>?_) λh=>?_
   ·refine .skip (ndE h I)
   ·refine .rA 2 I (ndE h I)
  ·refine .condS I h (λh=>?_) λh=>?_
   ·refine .seq<|.plain 13 I<|.p I (.fa I (G184_0 _))<|.A 3 I<|.jO 3 (t1.kind==1) I (λb5=>?_) ?_
    ·refine .q I (.fa I (G184_0 _))<|.A 2 I<|.nil I
    refine .A 1 I<|.jA 3 (t1.value==0) I (λb6=>?_) ?_
    ·refine .q I (.fa I (G184_2 _))<|.A 2 I<|.nil I
    refine .nil<|.A 1 I<|.nil<|.K [4] I<|.ret (rO h I)
   ·refine .seq<|.plain 19 I<|.p I (.fa I (G184_0 _))<|.A 3 I<|.jA 6 (decide (x2.range.lo≤t1.value)) I (λb7=>?_) ?_
    ·refine .q I (.fa I (G184_2 _))<|.A 1 I<|.q I (.fa I (zdP _))<|.q I (.fa I (G85_0 _))<|.A 2 I<|.nil I
    refine .A 1 I<|.jA 6 (decide (t1.value≤x2.range.hi)) I (λb8=>?_) ?_
    ·refine .q I (.fa I (G184_2 _))<|.A 1 I<|.q I (.fa I (zdP _))<|.q I (.fa I (G85_1 _))<|.A 2 I<|.nil I
    refine .nil<|.A 1 I<|.nil<|.K [4] I<|.ret (rO h I)
theorem zfB (n t0 t1 r) (h:za4 n t0 t1=some r):Pure pg 211 [Row.enc t0,.ref (Judge.enc t1)] (.bool r):=by
 refine Pure.ot Tryz.func211 I Tryz.ntmps211 I λA w=>.sA 2 I<|.S 2 I<|.Z h I (zeO _ _ _) λx1 h=>.A 2 I<|.nil<|.ret (rO h I)
theorem zds (n t0) (t1:Row→Option Bool) (F1:D) (hF1:∀ (q0:Row) (y:Bool),t1 q0=some y→Dyn pg F1 [Row.enc q0] (.bool y)) (r) (h:zC n t0 t1=some r):Pure pg 246 [eH t0,F1] (.int r):=by
 refine Pure.ot Tryz.func246 I Tryz.ntmps246 I λA w=>.sA 1 I<|.seq<|.S 1 I<|.p I (.len I U57 I)<|.A 1 I<|.nil<|.block<|.L [0,1,7] h (λv=>[(8,.d (.int v))]) (λv=>[]) I λ_ x7 h=>.sA 1 I<|.seq<|.condS I h (λh=>?_) λh=>?_
 ·refine .skip<|.seq<|.block<|.sA 2 I<|.S 3 I<|.X h I λx9 h=>.A 1 I<|bK h λx10 q10 h=>.p I (.dyn I I I (hF1 _ _ q10))<|.nil<|.condS I h (λh=>?_) λh=>?_
  ·refine .sA 2 I<|.ret (rO h I)
  ·refine .skip<|.rA 2 I (ndE h I)
 ·refine .exit<|.sA 1 I<|.ret (rO h I)
theorem zcY (n t0) (t1:Row→Option Bool) (F1:D) (hF1:∀ (q0:Row) (y:Bool),t1 q0=some y→Dyn pg F1 [Row.enc q0] (.bool y)) (r) (h:zI n t0 t1=some r):Pure pg 210 [eH t0,F1] (.bool r):=by
 refine Pure.ot Tryz.func210 I Tryz.ntmps210 I λA w=>.sA 1 I<|.S 2 I<|.Z h I (zds _ _ _ _ hF1) λx1 h=>.A 2 I<|.nil<|.ret (rO h I)
theorem zgn (n t0 t1 r) (h:zG n t0 t1=some r):Pure pg 175 [Judge.enc t0,Effect.enc t1] (.bool r):=by
 refine Pure.ot Tryz.func175 I Tryz.ntmps175 I λA w=>.sA 3 I<|.sA 1 I<|.seq<|.sr<|.p I (.fa I (G60_0 _))<|.A 1 I<|.p I (.len I U56 I)<|.A 1 I<|.nil<|.block<|.L [2,3,11,12] h (λv=>[(5,.d (.int v.1)),(13,.d (.int v.2))]) (λv=>[]) I λ_ ⟨x15,x16⟩ h=>.sA 1 I<|.seq<|.condS I h (λh=>?_) λh=>?_
 ·refine .skip<|.seq<|.block<|.sr<|.X h I λx18 h=>.A 1 I<|.allocStore I I I I I I I I (by simp) I I Z125<|.nil<|.seq<|.seq<|.plain 23 I<|.p I (.fa I (zhJ _))<|.A 4 I<|.jO 6 (decide ((t0.strict.length:Int)≤x18.cell)) I (λb19=>?_) ?_
  ·refine .q I (.fa I (zhJ _))<|.A 1 I<|.q I (.fa I (G156_1 _))<|.A 1 I<|.q I (.len I U82 I)<|.A 1 I<|.nil I
  refine .A 1 I<|.jO 3 (x18.add==0) I (λb20=>?_) ?_
  ·refine .q I (.fa I (G125_1 _))<|.A 2 I<|.nil I
  refine .A 1 I<|gK h λc22 h=>.jO 4 (!((zat n x18.add 1000000000).getD default)) I (λb21=>?_) ?_
  ·refine .q I (.fa I (G125_1 _))<|.A 1 I<|.q I (.call I (kC I) I (zdc _ _ _ _ (someD (impF c22 b21))))<|.A 1 I<|.nil I
  refine .nil<|.nil<|.K [2,3,7,11,12,13,39] I<|.condS I h (λh=>?_) λh=>?_
  ·refine .sA 1 I<|.ret (rO h I)
  ·refine .skip<|.region<|.p I (.fa I (zhJ _))<|.A 2 I<|.nil<|.rA 2 I (ndE h I)
 ·refine .exit<|.sA 1 I<|.seq<|.sr<|.p I (.fa I (G60_2 _))<|.A 1 I<|.p I (.len I U58 I)<|.A 1 I<|.nil<|.block<|.L [2,3,44,45] h (λv=>[(5,.d (.int v.1)),(46,.d (.int v.2))]) (λv=>[]) I λ_ ⟨x33,x34⟩ h=>.sA 1 I<|.seq<|.condS I h (λh=>?_) λh=>?_
  ·refine .skip<|.seq<|.block<|.sr<|.X h I λx36 h=>.A 1 I<|.allocStore I I I I I I I I (by simp) I I Z184<|.nil<|.seq<|.seq<|.plain 10 I<|.p I (.fa I (G184_1 _))<|.A 4 I<|gK h λc38 h=>.jO 4 (!((zbm n t0 x36).getD default)) I (λb37=>?_) ?_
   ·refine .A 2 I<|.q I (.call I (kC I) I (zgp _ _ _ _ (someD (impF c38 b37))))<|.A 1 I<|.nil I
   refine .nil<|.nil<|.condS I h (λh=>?_) λh=>?_
   ·refine .sA 1 I<|.ret (rO h I)
   ·refine .skip<|.region<|.p I (.fa I (G184_1 _))<|.A 2 I<|.nil<|.K [2,3,5,44,45,46] I<|.rA 2 I (ndE h I)
  ·refine .exit<|.seq<|.plain 17 I<|.p I (.fa I (G60_1 _))<|.A 1 I<|.p I (.len I U57 I)<|.A 2 I<|.jA 4 (decide ((t1.updates.length:Int)≤32)) I (λb39=>?_) ?_
   ·refine .q I (.fa I (G60_2 _))<|.A 1 I<|.q I (.len I U58 I)<|.A 1 I<|.nil I
   refine .A 1 I<|gK h λc41 h=>.jA 5 (!((zI n t1.hold (λq0=>za4 n q0 t0)).getD default)) I (λb40=>?_) ?_
   ·refine .q I (.fa I (G60_1 _))<|.A 1 I<|.q I (.makeFunc I I)<|.q I (.call I (kC I) I (zcY _ _ _ _ (λq0 y hq=>⟨_,_,I,K211,zfB _ q0 _ _ hq⟩) _ (someD (impT c41 b40))))<|.A 1 I<|.nil I
   refine .nil<|.A 1 I<|.nil<|.K [4] I<|.ret (rO h I)
theorem zfZ (n t0 r) (h:zx n t0=some r):Pure pg 131 [Judge.enc t0] (.bool r):=by
 refine Pure.ot Tryz.func131 I Tryz.ntmps131 I λA w=>.sA 2 I<|.seq<|.sr<|.p I (.fa I (zbU _))<|.A 2 I<|.p I (.len I U27 I)<|.A 1 I<|.nil<|.condS I h (λh=>?_) λh=>?_
 ·refine .sA 1 I<|.ret (rO h I)
 ·refine .skip<|.seq<|.sr<|.p I (.fa I (zbU _))<|.A 2 I<|.p I (.len I U27 I)<|.A 1 I<|.nil<|.block<|.L [1,16,17] h (λv=>[(18,.d (.int v))]) (λv=>[]) I λ_ x81 h=>.sA 1 I<|.seq<|.condS I h (λh=>?_) λh=>?_
  ·refine .skip<|.seq<|.block<|.S 1 I<|.X h I λx83 h=>.A 1 I<|.allocZ I I I I (.agg Zc62 (ds':=[.int 0,eA [],eM [],eH [],eI []]) (.e (.o (.o (.o .o1))))) I<|.A 1 I<|.store I I I I I I (.ofD I) C62 I (yi I)<|.nil<|.seq<|.seq<|.draw 23 Hm (by kernel_rfl) (by kernel_rfl)<|.p I (.fieldAddrLoc I I I F62_0)<|.p I (.loadLoc1 I I I Y3 I)<|.p I (.fa I (zbU _))<|.A 2 I<|.p I (.len I U26 I)<|.Z h I (zck _ _ _) λx84 h=>.A 2 I<|gK h λc86 h=>.jO 13 ((x83.arguments.length:Int) != ((((idx t0.model.operations x83.operation).getD default).sorts).length:Int)) I (λb85=>?_) ?_
   ·refine .q I (.fieldAddrLoc I I I F62_1)<|.q I (.loadLoc1 I I I Y22 I)<|.q I (.len I U22 I)<|.q I (.fa I (zbU _))<|.A 2 I<|.q I (.fieldAddrLoc I I I F62_0)<|.q I (.loadLoc1 I I I Y3 I)<|.q I (.ix I U26 S123 (someD (impF c86 b85)))<|.q I (.fa I (zf1 _))<|.A 1 I<|.q I (.len I U22 I)<|.A 1 I<|.nil I
   refine .nil<|.nil<|.K [1,3,4,16,17,18,45] I<|.condS I h (λh=>?_) λh=>?_
   ·refine .sA 1 I<|.ret (rO h I)
   ·refine .skip<|.seq<|.sr<|.p I (.fa I (zbU _))<|.A 2 I<|.p I (.fieldAddrLoc I I I F62_0)<|.p I (.loadLoc1 I I I Y3 I)<|.X h I λx87 h=>.p I (.fa I (zf1 _))<|.A 1 I<|.p I (.len I U22 I)<|.A 1 I<|.nil<|.block<|.L [1,3,4,16,17,18,53,54] h (λv=>[(55,.d (.int v))]) (λv=>[]) I λ_ x106 h=>.sA 1 I<|.seq<|.condS I h (λh=>?_) λh=>?_
    ·refine .skip<|.seq<|.block<|.S 1 I<|.X h I λx108 h=>.A 3 I<|.nil<|.sr<|.p I (.fieldAddrLoc I I I F62_1)<|.p I (.loadLoc1 I I I Y22 I)<|.A 1 I<|.X h I λx109 h=>.A 2 I<|.nil<|.seq<|.plain 22 I<|.A 3 I<|gK h λc111 h=>.jA 3 (!((zat n x109 9999).getD default)) I (λb110=>?_) ?_
     ·refine .A 1 I<|.q I (.call I (kC I) I (zdc _ _ _ _ (someD (impT c111 b110))))<|.A 1 I<|.nil I
     refine .A 1 I<|gK h λc114 h=>gK h λc115 h=>.jO 13 ((decide (0≤x108))&&(!((zah n x109 ((idx t0.model.sorts x108).getD default)).getD default))) I (λb112=>?_) ?_
     ·refine .A 3 I<|.jAnd 9 (b2:=!((zah n x109 ((idx t0.model.sorts x108).getD default)).getD default)) I I I I (.inr ⟨_,_,_,I,I,I⟩) (λ_ _ _ h1 h2=>by cases h1;cases h2;decide) I I (λb113=>?_) ?_
      ·refine .A 1 I<|.q I (.fa I (zbU _))<|.A 3 I<|.q I (.ix I U22 S3 (someD (impT (impF c114 b112) b113)))<|.A 1 I<|.q I (.call I (kC I) I (zck _ _ _ _ (someD (impT (impF c115 b112) b113))))<|.A 1 I<|.nil I
      exact .nil I
     refine .nil<|.nil<|.K [1,3,4,16,17,18,53,54,55,86] I<|.condS I h (λh=>?_) λh=>?_
     ·refine .sA 1 I<|.ret (rO h I)
     ·refine .skip<|.rA 2 I (ndE h I)
    ·refine .exit<|.J [1,4,16,17,18] h (λv=>[]) (λv=>[]) I (λk_116 h=>?_) (λv h=>?_)
     ·refine .sA 2 I<|.condS I h (λh=>?_) λh=>?_
      ·refine .sr<|.p I (.fa I (zbU _))<|.A 4 I<|.X h I λx117 h=>.A 1 I<|.allocStore I I I I I I I I (by simp) I I Z62<|.nil<|.seq<|.plain 20 I<|.p I (.fa I (G62_0 _))<|.A 1 I<|.p I (.fieldAddrLoc I I I F62_0)<|.p I (.loadLoc1 I I I Y3 I)<|.A 2 I<|gK h λc120 h=>.jO 13 ((x117.operation==x83.operation)&&(decide (0≤((zg n x117.arguments x83.arguments).getD default)))) I (λb118=>?_) ?_
       ·refine .q I (.fa I (G62_0 _))<|.A 1 I<|.q I (.fieldAddrLoc I I I F62_0)<|.q I (.loadLoc1 I I I Y3 I)<|.A 2 I<|.jAnd 6 (b2:=decide (0≤((zg n x117.arguments x83.arguments).getD default))) I I I I (.inr ⟨_,_,_,I,I,I⟩) (λ_ _ _ h1 h2=>by cases h1;cases h2;decide) I I (λb119=>?_) ?_
        ·refine .q I (.fa I (G62_1 _))<|.A 1 I<|.q I (.fieldAddrLoc I I I F62_1)<|.q I (.loadLoc1 I I I Y22 I)<|.q I (.call I (kC I) I (zcK _ _ _ _ (someD (impT (impF c120 b118) b119))))<|.A 1 I<|.nil I
        exact .nil I
       refine .nil<|.nil<|.K [1,4,16,17,18,116] I<|.condS I h (λh=>?_) λh=>?_
       ·refine .sA 1 I<|.ret (rO h I)
       ·refine .skip (ndE h I)
      ·refine .skip (ndE h I)
     ·refine .S 1 I<|.p I (.fieldAddrLoc I I I F62_2)<|.p I (.loadLoc I I I Y60 (yi I) (v:=.d (Effect.enc x83.effect)) I)<|.Z h I (zgn _ _ _) λx121 h=>.A 1 I<|.nil<|.K [1,16,17,18,121] I<|.condS I h (λh=>?_) λh=>?_
      ·refine .sA 1 I<|.ret (rO h I)
      ·refine .skip<|.rA 2 I (ndE h I)
  ·refine .exit<|.sA 1 I<|.ret (rO h I)
theorem zfC (n t0 t1 t2 r) (h:zcL n t0 t1 t2=some r):Pure pg 177 [Hide.enc t0,.ref (.int t1),.ref (GMap.dat (λn:Int=>Value.int .i64 n) D.bool t2)] (.bool r):=by
 refine Pure.ot Tryz.func177 I Tryz.ntmps177 I λA w=>.sA 2 I<|.seq<|.plain 10 I<|.p I (.fa I (zf2 _))<|.A 4 I<|.jA 4 ((t2.get? t0.to).getD false) I (λb1=>?_) ?_
 ·refine .A 1 I<|.q I (.fa I (zg4 _))<|.A 1 I<|.q I (.mapGetD (ke:=(λn:Int=>Value.int .i64 n)) (ve:=D.bool) I U196 KT3 I I (z:=(false:Bool)) (.val Zv4))<|.nil I
 refine .nil<|.A 1 I<|.nil<|.ret (rO h I)
theorem zc4 (n t0) (t1:Hide→Option Bool) (F1:D) (hF1:∀ (q0:Hide) (y:Bool),t1 q0=some y→Dyn pg F1 [Hide.enc q0] (.bool y)) (r) (h:zy n t0 t1=some r):Pure pg 212 [eG t0,F1] (.int r):=by
 refine Pure.ot Tryz.func212 I Tryz.ntmps212 I λA w=>.sA 1 I<|.seq<|.S 1 I<|.p I (.len I U28 I)<|.A 1 I<|.nil<|.block<|.L [0,1,7] h (λv=>[(8,.d (.int v))]) (λv=>[]) I λ_ x7 h=>.sA 1 I<|.seq<|.condS I h (λh=>?_) λh=>?_
 ·refine .skip<|.seq<|.block<|.sA 2 I<|.S 3 I<|.X h I λx9 h=>.A 1 I<|bK h λx10 q10 h=>.p I (.dyn I I I (hF1 _ _ q10))<|.nil<|.condS I h (λh=>?_) λh=>?_
  ·refine .sA 2 I<|.ret (rO h I)
  ·refine .skip<|.rA 2 I (ndE h I)
 ·refine .exit<|.sA 1 I<|.ret (rO h I)
theorem zcM (n t0) (t1:Hide→Option Bool) (F1:D) (hF1:∀ (q0:Hide) (y:Bool),t1 q0=some y→Dyn pg F1 [Hide.enc q0] (.bool y)) (r) (h:zar n t0 t1=some r):Pure pg 176 [eG t0,F1] (.bool r):=by
 refine Pure.ot Tryz.func176 I Tryz.ntmps176 I λA w=>.sA 1 I<|.S 2 I<|.Z h I (zc4 _ _ _ _ hF1) λx1 h=>.A 2 I<|.nil<|.ret (rO h I)
theorem zgo (n t0 r) (h:zf n t0=some r):Pure pg 132 [Judge.enc t0] (.bool r):=by
 refine Pure.ot Tryz.func132 I Tryz.ntmps132 I λA w=>.sA 2 I<|.seq<|.sr<|.p I (.fa I (zbU _))<|.A 2 I<|.p I (.len I U28 I)<|.A 1 I<|.nil<|.condS I h (λh=>?_) λh=>?_
 ·refine .sA 1 I<|.ret (rO h I)
 ·refine .skip<|.seq<|.sr<|.p I (.fa I (zbU _))<|.A 2 I<|.p I (.len I U28 I)<|.A 1 I<|.nil<|.block<|.L [1,18,19] h (λv=>[(20,.d (.int v))]) (λv=>[]) I λ_ x31 h=>.sA 1 I<|.K [1,18,19,20,21] I<|.seq<|.condS I h (λh=>?_) λh=>?_
  ·refine .skip<|.seq<|.block<|.sr<|.X h I λx33 h=>.A 1 I<|.allocStore I I I I I I I I (by simp) I I Z153<|.nil<|.seq<|.seq<|.plain 25 I<|.p I (.fa I (zf2 _))<|.A 1 I<|.p I (.fa I (zbU _))<|.A 2 I<|.p I (.len I U23 I)<|.Z h I (zck _ _ _) λx34 h=>.A 2 I<|gK h λc36 h=>.jO 8 (!((zah n x33.to (t0.model.tables.length:Int)).getD default)) I (λb35=>?_) ?_
   ·refine .q I (.fa I (zg4 _))<|.A 1 I<|.q I (.fa I (zbU _))<|.A 2 I<|.q I (.len I U23 I)<|.q I (.call I (kC I) I (zck _ _ _ _ (someD (impF c36 b35))))<|.A 1 I<|.nil I
   refine .A 1 I<|.jO 5 (x33.table==x33.to) I (λb37=>?_) ?_
   ·refine .q I (.fa I (zf2 _))<|.A 1 I<|.q I (.fa I (zg4 _))<|.A 2 I<|.nil I
   refine .nil<|.nil<|.K [1,4,18,19,20,48] I<|.condS I h (λh=>?_) λh=>?_
   ·refine .sA 1 I<|.ret (rO h I)
   ·refine .skip<|.seq<|.draw 18 Hm (by kernel_rfl) (by kernel_rfl)<|.p I (.fa I (zbU _))<|.A 2 I<|.p I (.fa I (zf2 _))<|.A 1 I<|.X h I λx38 h=>.A 1 I<|.p I (.fa I (zbU _))<|.A 2 I<|.p I (.fa I (zg4 _))<|.A 1 I<|.X h I λx39 h=>.A 1 I<|.alloc I I I I ZZ119<|.alloc I I I I ZZ119<|.store I I I I I I Z119<|.store I I I I I I Z119<|.nil<|.freezes [0,1] (.cons (t:=5) (d:=.ref (Table.enc x38)) I (.loc (inIds I) I (.v (.v (.v (.v (.v .v1)))))) (.cons (t:=6) (d:=.ref (Table.enc x39)) I (.loc (inIds I) I (.v (.v (.v (.v (.v .v1)))))) .nil))<|.nil<|.K [1,4,5,6,18,19,20] I<|.seq<|.draw 36 Hm (by kernel_rfl) (by kernel_rfl)<|.p I (.fa I (zcm _))<|.A 3 I<|.jO 3 (x39.kind != 0) I (λb40=>?_) ?_
    ·refine .q I (.fa I (zcm _))<|.A 2 I<|.nil I
    refine .A 1 I<|gK h λc42 h=>.jO 7 (!((zah n x33.column (x38.columns.length:Int)).getD default)) I (λb41=>?_) ?_
    ·refine .q I (.fa I (G153_1 _))<|.A 1 I<|.q I (.fa I (zbl _))<|.A 1 I<|.q I (.len I U22 I)<|.q I (.call I (kC I) I (zck _ _ _ _ (someD (impF c42 b41))))<|.A 1 I<|.nil I
    refine .A 1 I<|.jO 4 ((x39.columns.length:Int) != 1) I (λb43=>?_) ?_
    ·refine .q I (.fa I (zbl _))<|.A 1 I<|.q I (.len I U22 I)<|.A 1 I<|.nil I
    refine .A 1 I<|gK h λc45 h=>gK h λc46 h=>.jO 11 (((idx x39.columns 0).getD default) != ((idx x38.columns x33.column).getD default)) I (λb44=>?_) ?_
    ·refine .q I (.fa I (zbl _))<|.A 1 I<|.q I (.ix I U22 S3 (someD (impF c45 b44)))<|.A 1 I<|.q I (.fa I (zbl _))<|.A 1 I<|.q I (.fa I (G153_1 _))<|.A 1 I<|.q I (.ix I U22 S3 (someD (impF c46 b44)))<|.A 2 I<|.nil I
    refine .nil<|.nil<|.K [1,18,19,20,98] I<|.condS I h (λh=>?_) λh=>?_
    ·refine .sA 1 I<|.ret (rO h I)
    ·refine .skip<|.rA 2 I (ndE h I)
  ·refine .exit<|.sr<|.makeMap (λn:Int=>Value.int .i64 n) D.bool I I I I<|.allocZ I I I I (.val Zv196) I<|.store I I I I I I (.cons (.mp I) .nil) C196 I (yi I)<|.nil<|.seq<|.sr<|.p I (.fa I (zbU _))<|.A 2 I<|.p I (.len I U28 I)<|.A 1 I<|.nil<|.block<|.L [1,7,103,104] h (λv=>[(105,.d (.int v.2))]) (λv=>[(0,GMap.blk (λn:Int=>Value.int .i64 n) D.bool v.1)]) I λ_ ⟨m0_53,x54⟩ h=>.sA 1 I<|.K [1,7,103,104,105,106] I<|.seq<|.condS I h (λh=>?_) λh=>?_
   ·refine .skip<|.seq<|.block<|.sr<|.X h I λx56 h=>.A 1 I<|.allocStore I I I I I I I I (by simp) I I Z153<|.nil<|.region<|.p I (.loadLoc1 I I I Y196 I)<|.p I (.fa I (zf2 _))<|.A 1 I<|.mapPut (k:=x56.table) (v:=true) I I I U196 KT3 I I I I<|.nil<|.rA 2 I (ndE h I)
   ·refine .exit<|.seq<|.sr<|.p I (.fa I (zbU _))<|.A 2 I<|.p I (.len I U28 I)<|.A 1 I<|.nil<|.block<|.L [1,7,116] h (λv=>[(117,.d (.int v.2))]) (λv=>[(0,GMap.blk (λn:Int=>Value.int .i64 n) D.bool v.1)]) I λ_ ⟨m0_139,x140⟩ h=>.sA 1 I<|.K [1,7,116,117,118] I<|.seq<|.condS I h (λh=>?_) λh=>?_
    ·refine .skip<|.seq<|.block<|.sr<|.p I (.loadLoc1 I I I Y196 I)<|.mapRange I I I I U196 I I<|.nil<|.block<|.L [1,7,116,117,120] h (λv=>[]) (λv=>[(0,GMap.blk (λn:Int=>Value.int .i64 n) D.bool v.1),(2,.it 0 m0_139.clock v.2.1 v.2.2)]) I λ_ ⟨m0_171,m2_172,m2_173⟩ h=>.seq<|.region ?_
     obtain ⟨hold_176,hend_177,hstep_178⟩:=stepM_S h
     refine .mapNext I I I I I I I hold_176 (λhz=>?_) (λen_175 hen_175=>?_)
     ·have h:=hend_177 hz
      refine .p I (.extract I I I)<|.nil<|.K [1,7,116,117,120,122] I<|.seq<|.condF I<|.exit<|.rA 2 I (ndE h I)
     ·have h:=hstep_178 en_175 hen_175
      refine .p I (.extract I I I)<|.nil<|.K [1,7,116,117,120,122] I<|.seq<|.condT I<|.skip<|.block<|.sr<|gK h λhn_179 h=>.p I (.entry I I I I (List.mem_filter.1 hen_175).1 (of_decide_eq_true hn_179))<|.p I (.extract I I I)<|.allocStore I I I I I I I I (by simp) I I Z3<|.nil<|.sr<|.p I (.fa I (zbU _))<|.A 2 I<|.p I (.makeFuncV I I)<|bK h λx180 q180 h=>.p I (.callB I (kC I) (.cons I (.d _) (.cons I (.fn .nil (.v (.cons (.loc1 I (.mp I (GMap.wfm _)) I) .nil))) .nil)) I (zcM _ _ _ _ (λq0 y hq=>⟨_,_,I,K177,zfC _ q0 _ _ _ hq⟩) _ q180))<|.A 1 I<|.nil<|.condS I h (λh=>?_) λh=>?_
      ·refine .region<|.p I (.loadLoc1 I I I Y196 I)<|.A 1 I<|.mapDel (k:=en_175.2.1) I I I U196 KT3 I I I<|.nil (ndE h I)
      ·refine .skip (ndE h I)
    ·refine .exit<|.sr<|.p I (.loadLoc1 I I I Y196 I)<|.p I (.mapLen I U196 I I)<|.A 2 I<|.nil<|.ret (rO h I)
theorem zcO (n t0 r) (h:zcr n t0=some r):Pure pg 88 [Model.enc t0] (.bool r):=by
 refine Pure.ot Tryz.func88 I Tryz.ntmps88 I λA w=>.sA 2 I<|.seq<|.seq<|.plain 18 I<|.A 4 I<|.Z h I (zeZ _ _ _) λx1 h=>.A 2 I<|.jO 4 (decide (24<(t0.families.length:Int))) I (λb2=>?_) ?_
 ·refine .A 2 I<|.q I (.len I U24 I)<|.A 1 I<|.nil I
 refine .A 1 I<|gK h λc4 h=>.jO 4 (!((zak n t0.families).getD default)) I (λb3=>?_) ?_
 ·refine .A 2 I<|.q I (.call I (kC I) I (zfe _ _ _ (someD (impF c4 b3))))<|.A 1 I<|.nil I
 refine .nil<|.nil<|.K [1,21] I<|.condS I h (λh=>?_) λh=>?_
 ·refine .sA 1 I<|.ret (rO h I)
 ·refine .skip<|.seq<|.draw 9 Hm (by kernel_rfl) (by kernel_rfl)<|.A 5 I<|.Z h I (zf7 _ _ _ _) λx5 h=>.p I (.castD (Judge.enc (⟨t0,x5⟩:Judge)) I (.build I Pl156 (.agg Zc156 (ds':=[_,_,_,_,_,_,_,_]) (.e (.e (.e (.e (.e (.e (.e .e1)))))))) I I))<|.alloc I I I I ZZ156<|.store I I I I I I Z156<|.nil<|.freezes [0] (.cons (t:=3) (d:=.ref (Judge.enc (⟨t0,x5⟩:Judge))) I (.loc (inIds I) I (.v (.v (.v (.v (.v (.v (.v .v1)))))))) .nil)<|.nil<|.seq<|.plain 14 I<|.A 1 I<|.Z h I (zeF _ _) λx6 h=>.A 1 I<|gK h λc8 h=>.jA 2 (((zA n (⟨t0,x5⟩:Judge)).getD default)) I (λb7=>?_) ?_
  ·refine .A 1 I<|.q I (.call I (kC I) I (ze1 _ _ _ (someD (impT c8 b7))))<|.nil I
  refine .A 1 I<|gK h λc10 h=>.jA 2 (((zx n (⟨t0,x5⟩:Judge)).getD default)) I (λb9=>?_) ?_
  ·refine .A 1 I<|.q I (.call I (kC I) I (zfZ _ _ _ (someD (impT c10 b9))))<|.nil I
  refine .A 1 I<|gK h λc12 h=>.jA 2 (((zf n (⟨t0,x5⟩:Judge)).getD default)) I (λb11=>?_) ?_
  ·refine .A 1 I<|.q I (.call I (kC I) I (zgo _ _ _ (someD (impT c12 b11))))<|.nil I
  refine .nil<|.A 1 I<|.nil<|.K [2] I<|.ret (rO h I)
theorem symmetry_open_ok (n t0 r) (h:zi n t0=some r):Pure pg 134 [Model.enc t0] (.tup [optD Layout.enc r.1,.bool r.2]):=by
 refine Pure.ot Tryz.func134 I Tryz.ntmps134 I λA w=>.sA 3 I<|.seq<|.S 1 I<|.Z h I (zcO _ _) λx1 h=>.A 1 I<|.nil<|.condS I h (λh=>?_) λh=>?_
 ·refine .sA 2 I<|.ret ?_
  cases h
  exact zcQ I I (.d _) (.d _)
 ·refine .skip<|.S 1 I<|.p I (.build I Pl204 (.agg Zc204 (ds':=[_,_,_,_,_,_,_,.val (.slice none 0 0),.val (.slice none 0 0)]) (.e (.e (.e (.e (.e (.e (.e (.e .e1))))))))) I I)<|.box I I I I I (.ofD I)<|.nilCell 0 7 2 206 I I<|.nilCell 0 8 2 206 I I<|.A 1 I<|.nil<|.seq<|.S 2 I<|.p I (.len I U23 I)<|.A 1 I<|.nil<|.block<|.L [1,4,23,24] h (λv=>[(25,.d (.int v.2.2))]) (λv=>[(0,.box 204 [.d (eA t0.sorts),.d (eB t0.tables),.d (eC t0.families),.d (eD t0.constraints),.d (eE t0.operations),.d (eF t0.actions),.d (eG t0.hides),.vec 1 (List.length v.1),.vec 2 (List.length v.2.1)]),(1,.vec 206 2 (List.map Place.enc v.1)),(2,.vec 206 2 (List.map Place.enc v.2.1))]) I λ_ ⟨b1_452,b2_453,x454⟩ h=>.sA 1 I<|.K [1,4,23,24,25,26] I<|.seq<|.condS I h (λh=>?_) λh=>?_
  ·refine .skip<|.seq<|.block<|.S 1 I<|.X h I λx456 h=>.A 1 I<|.allocZ I I I I (.agg Zc119 (ds':=[.str [],.int 0,eA [],.int 0,.int 0,.int 0]) (.e (.e (.o (.e (.e .e1)))))) I<|.A 1 I<|.store I I I I I I (.ofD I) C119 I (yi I)<|.nil<|.sr<|.p I (.buildSlLe [[]] I I E142 I .o1 (λ_=>I) I (enc:=eA))<|.A 1 I<|.nil<|.seq<|.sr<|.p I (.fieldAddrLoc I I I F119_2)<|.p I (.loadLoc1 I I I Y22 I)<|.p I (.len I U22 I)<|.A 1 I<|.nil<|.block<|.L [1,4,5,6,23,24,25,32,33] h (λv=>[(7,.d (eN v.1)),(34,.d (.int v.2))]) (λv=>[]) I λ_ ⟨x585,x586⟩ h=>.sA 1 I<|.K [1,4,5,6,7,23,24,25,32,33,34,35] I<|.seq<|.condS I h (λh=>?_) λh=>?_
   ·refine .skip<|.seq<|.block<|.sr<|.X h I λx588 h=>.A 2 I<|.nil<|.S 1 I<|.nilVec 10 1 22 I<|.nil<|.seq<|.S 1 I<|.p I (.len I U142 I)<|.A 1 I<|.nil<|.block<|.L [1,4,5,6,9,23,24,25,32,33,34,38,39] h (λv=>[(10,.vec 4 (List.length v.1)),(40,.d (.int v.2))]) (λv=>[(4,.vec 22 1 (List.map eA v.1))]) I λ_ ⟨b4_629,x630⟩ h=>.sA 1 I<|.K [1,4,5,6,9,10,23,24,25,32,33,34,38,39,40,41] I<|.seq<|.condS I h (λh=>?_) λh=>?_
    ·refine .skip<|.seq<|.block<|.sr<|.X h I λx632 h=>.A 2 I<|.nil<|.S 3 I<|.X h I λx633 h=>.A 2 I<|.nil<|.block<|.L [1,4,5,6,9,12,23,24,25,32,33,34,38,39,40,48] h (λv=>[(10,.vec 4 (List.length v.1)),(49,.d (.int v.2))]) (λv=>[(4,.vec 22 1 (List.map eA v.1))]) I λ_ ⟨b4_644,x645⟩ h=>.sA 1 I<|.K [1,4,5,6,9,10,12,23,24,25,32,33,34,38,39,40,48,49,50] I<|.seq<|.condS I h (λh=>?_) λh=>?_
     ·refine .skip<|.seq<|.block<|.sA 2 I<|.region<|.A 2 I<|bK h λx647 q647 h=>.clone (enc:=D.int) I I I I K96 Tryz.func96 I I I I E22 I (λ_=>I) (λ_=>I) q647 I I<|.A 1 I<|.p I (.buildSl [_] I I E22 I (λ_=>I) I (enc:=D.int))<|bK h λx648 q648 h=>.app I I I I I I I I E22 I (λ_=>I) q648<|.freezes [5] (.cons (t:=57) I (.vec (inIds I) I (by simp)) .nil)<|.p I (.buildSl [_] I I E142 I (λ_=>I) I (enc:=eA))<|bK h λx649 q649 h=>.app I I I I I I I I E142 I (λ_=>I) q649<|.A 1 I<|.nil<|.rA 2 I (ndE h I)
     ·refine .exit<|.rA 2 I (ndE h I)
    ·refine .exit<|.region<|.A 1 I<|.freezes [4] (.cons (t:=62) I (.vec (inIds I) I (by simp)) .nil)<|.A 1 I<|.nil<|.rA 2 I (ndE h I)
   ·refine .exit<|.S 1 I<|.p I (.len I U142 I)<|.A 1 I<|.nil<|.block<|.L [1,4,5,6,23,24,25,64,65] h (λv=>[(66,.d (.int v.2.2))]) (λv=>[(0,.box 204 [.d (eA t0.sorts),.d (eB t0.tables),.d (eC t0.families),.d (eD t0.constraints),.d (eE t0.operations),.d (eF t0.actions),.d (eG t0.hides),.vec 1 (List.length v.1),.vec 2 (List.length v.2.1)]),(1,.vec 206 2 (List.map Place.enc v.1)),(2,.vec 206 2 (List.map Place.enc v.2.1))]) I λ_ ⟨b1_668,b2_669,x670⟩ h=>.sA 1 I<|.K [1,4,5,6,23,24,25,64,65,66,67] I<|.seq<|.condS I h (λh=>?_) λh=>?_
    ·refine .skip<|.J [1,4,5,6,23,24,25,64,65,66] h (λv=>[]) (λv=>[(0,.box 204 [.d (eA t0.sorts),.d (eB t0.tables),.d (eC t0.families),.d (eD t0.constraints),.d (eE t0.operations),.d (eF t0.actions),.d (eG t0.hides),.vec 1 (List.length v.1),.vec 2 (List.length v.2)]),(1,.vec 206 2 (List.map Place.enc v.1)),(2,.vec 206 2 (List.map Place.enc v.2))]) I (λk_674 h=>?_) (λv h=>?_)
     ·refine .block<|.sr<|.X h I λx675 h=>.A 2 I<|.nil<|.sr<|.p I (.fieldAddrLoc I I I F119_1)<|.p I (.loadLoc1 I I I Y3 I)<|.A 1 I<|.nil<|.condS I h (λh=>?_) λh=>?_
      ·refine .region<|.A 2 I<|.p I (.nilCheck_loc I I I)<|.p I (.fieldAddrLoc I I I F204_1)<|.p I (.loadLoc1 I I I Y202 I)<|.A 2 I<|.p I (.castD (Place.enc (⟨x454,x675⟩:Place)) I (.build I Pl206 (.agg Zc206 (ds':=[_,_]) (.e .e1)) I I))<|.p I (.buildSl [_] I I E202 I (λ_=>I) I (enc:=Place.enc))<|bK h λx676 q676 h=>.app I I I I I I I I E202 I (λ_=>I) q676<|.p I (.nilCheck_loc I I I)<|.p I (.fieldAddrLoc I I I F204_1)<|.store I I I I I I (.cons (.vec I (by simp)) .nil) C202 I (yi I)<|.nil (ndE h I)
      ·refine .region<|.A 2 I<|.p I (.nilCheck_loc I I I)<|.p I (.fieldAddrLoc I I I F204_2)<|.p I (.loadLoc1 I I I Y202 I)<|.A 2 I<|.p I (.castD (Place.enc (⟨x454,x675⟩:Place)) I (.build I Pl206 (.agg Zc206 (ds':=[_,_]) (.e .e1)) I I))<|.p I (.buildSl [_] I I E202 I (λ_=>I) I (enc:=Place.enc))<|bK h λx677 q677 h=>.app I I I I I I I I E202 I (λ_=>I) q677<|.p I (.nilCheck_loc I I I)<|.p I (.fieldAddrLoc I I I F204_2)<|.store I I I I I I (.cons (.vec I (by simp)) .nil) C202 I (yi I)<|.nil (ndE h I)
     ·obtain ⟨b1_672,b2_673⟩:=v
      refine .rA 2 I (ndE h I)
    ·refine .exit<|.rA 2 I (ndE h I)
  ·refine .exit<|.sA 3 I<|.ret ?_
   cases h
   exact zcQ I I (.loc I (.v (.v (.v (.v (.v (.v (.v (.cons (.vec I (by simp)) (.cons (.vec I (by simp)) .nil)))))))))) (.d _)
theorem zfq (n t0 t1 r) (h:zbk n t0 t1=some r):Pure pg 135 [.ref (Layout.enc t0),Question.enc t1] (.bool r):=by
 refine Pure.ot Tryz.func135 I Tryz.ntmps135 I λA w=>.sA 2 I<|.S 1 I<|.p I (.nilCheck_ref I I)<|.p I (.fa I (G204_0 _))<|.A 2 I<|.p I (.len I U27 I)<|.A 1 I<|.nil<|.seq<|.seq<|.plain 26 I<|.p I (.fa I (G34_0 _))<|.A 3 I<|.jO 3 (decide (t1.f<0)) I (λb1=>?_) ?_
 ·refine .q I (.fa I (G34_1 _))<|.A 2 I<|.nil I
 refine .A 1 I<|.jO 4 (decide ((t0.m.actions.length:Int)≤t1.e)) I (λb2=>?_) ?_
 ·refine .q I (.fa I (G34_0 _))<|.A 3 I<|.nil I
 refine .A 1 I<|.jO 4 (decide ((t0.m.actions.length:Int)≤t1.f)) I (λb3=>?_) ?_
 ·refine .q I (.fa I (G34_1 _))<|.A 3 I<|.nil I
 refine .A 1 I<|.jO 4 (decide (t1.target.index<0)) I (λb4=>?_) ?_
 ·refine .q I (.fa I (G34_2 _))<|.q I (.fa I (G32_1 _))<|.A 2 I<|.nil I
 refine .nil<|.nil<|.K [0,3,37] I<|.condS I h (λh=>?_) λh=>?_
 ·refine .sA 1 I<|.ret (rO h I)
 ·refine .skip<|.seq<|.sr<|.p I (.fa I (G34_2 _))<|.p I (.fa I (G32_0 _))<|.A 1 I<|.nil<|.condS I h (λh=>?_) λh=>?_
  ·refine .seq<|.draw 17 Hm (by kernel_rfl) (by kernel_rfl)<|.p I (.fa I (G34_2 _))<|.p I (.fa I (G32_1 _))<|.A 2 I<|.p I (.nilCheck_ref I I)<|.p I (.fa I (G204_0 _))<|.A 2 I<|.p I (.fa I (G34_0 _))<|.A 1 I<|.X h I λx5 h=>.p I (.fa I (G62_2 _))<|.p I (.fa I (G60_1 _))<|.A 1 I<|.p I (.len I U57 I)<|.A 2 I<|.nil<|.nil<|.K [4] I<|.ret (rO h I)
  ·refine .skip<|.seq<|.draw 18 Hm (by kernel_rfl) (by kernel_rfl)<|.p I (.fa I (G34_0 _))<|.A 1 I<|.p I (.fa I (G34_1 _))<|.A 3 I<|.jA 10 (decide (t1.target.index<(t0.m.constraints.length:Int))) I (λb6=>?_) ?_
   ·refine .q I (.fa I (G34_2 _))<|.q I (.fa I (G32_1 _))<|.A 2 I<|.q I (.nilCheck_ref I I)<|.q I (.fa I (G204_0 _))<|.A 2 I<|.q I (.len I U25 I)<|.A 1 I<|.nil I
   refine .A 1 I<|.nil<|.nil<|.K [4] I<|.ret (rO h I)
theorem symmetry_Valid_ok (n t0 t1 r) (h:zdN n t0 t1=some r):Pure pg 94 [Model.enc t0,Question.enc t1] (.bool r):=by
 refine Pure.ot Tryz.func94 I Tryz.ntmps94 I λA w=>.sA 3 I<|.S 1 I<|.Z h I (symmetry_open_ok _ _) λx1 h=>.A 1 I<|.p I (.extract I I I)<|.p I (.extract I I I)<|.A 2 I<|.nil<|.seq<|.plain 6 I<|.A 2 I<|gK h λc3 h=>gK h λc4 h=>.jA 3 (((zbk n ((x1.1).getD default) t1).getD default)) I (λb2=>?_) ?_
 ·refine .A 2 I<|.q I (.callLe I (kC I) I (.cons (.ofEq (optD_of (someD (impT c3 b2)))) .e1) (zfq _ _ _ _ (someD (impT c4 b2))))<|.nil I
 refine .nil<|.A 1 I<|.nil<|.K [4] I<|.ret (rO h I)
theorem model_ranges_ok (n t0 t1 r) (h:zgq n t0 t1=some r):Pure pg 136 [Model.enc t0,.bool t1] (eK r):=by
 refine Pure.ot Tryz.func136 I Tryz.ntmps136 I λA w=>.S 1 I<|.p I (.nilS 2 (α:=Range) Range.enc I)<|.nil<|.seq<|.S 1 I<|.Z h I (zcO _ _) λx1 h=>.A 1 I<|.nil<|.condS I h (λh=>?_) λh=>?_
 ·refine .sr<|.p I (.nilS 2 (α:=Range) Range.enc I)<|.nil<|.ret ?_
  cases h
  exact zaH I (.d _)
 ·refine .skip<|.S 5 I<|.Z h I (zf7 _ _ _ _) λx2 h=>.A 1 I<|.nil<|.ret ?_
  cases h
  exact zaH I (.d _)
theorem model_Strict_ok (n t0 r) (h:zc0 n t0=some r):Pure pg 95 [Model.enc t0] (eK r):=by
 refine Pure.ot Tryz.func95 I Tryz.ntmps95 I λA w=>.S 1 I<|.p I (.nilS 2 (α:=Range) Range.enc I)<|.nil<|.S 1 I<|.Z h I (model_ranges_ok _ _ _) λx1 h=>.A 1 I<|.nil<|.ret ?_
 cases h
 exact zaH I (.d _)
theorem zb1 (n t0 t1 r) (h:zbv n t0 t1=some r):Pure pg 44 [Model.enc t0,Scenario.enc t1] (.bool r):=by
 refine Pure.ot Tryz.func44 I Tryz.ntmps44 I λA w=>.sA 3 I<|.seq<|.draw 14 Hm (by kernel_rfl) (by kernel_rfl)<|.A 1 I<|.p I (.fa I (G36_0 _))<|.A 1 I<|.Z h I (symmetry_Valid_ok _ _ _) λx1 h=>.A 1 I<|gK h λc3 h=>.jA 7 ((t1.state.length:Int)==(((zc0 n t0).getD default).length:Int)) I (λb2=>?_) ?_
 ·refine .q I (.fa I (G36_1 _))<|.A 1 I<|.q I (.len I U22 I)<|.A 1 I<|.q I (.call I (kC I) I (model_Strict_ok _ _ _ (someD (impT c3 b2))))<|.q I (.len I U82 I)<|.A 1 I<|.nil I
 refine .A 1 I<|.nil<|.nil<|.K [4] I<|.ret (rO h I)
theorem zhE (n t0 r) (h:zfU n t0=some r):Pure pg 99 [.int t0] (.bool r):=by
 refine Pure.ot Tryz.func99 I Tryz.ntmps99 I λA w=>.sA 1 I<|.seq<|.plain 6 I<|.A 3 I<|.jO 2 (decide (1000000<t0)) I (λb1=>?_) ?_
 ·refine .A 2 I<|.nil I
 refine .nil<|.A 1 I<|.nil<|.ret (rO h I)
theorem zcH (n t0 r) (h:zO n t0=some r):Pure pg 52 [eA t0] (.bool r):=by
 refine Pure.ot Tryz.func52 I Tryz.ntmps52 I λA w=>.sA 1 I<|.S 1 I<|.Z h I (zai _ _ _ _ (λq0 y hq=>⟨_,_,I,K99,zhE _ q0 _ hq⟩)) λx1 h=>.A 2 I<|.nil<|.ret (rO h I)
end
section
def Tryz.lays146_ren:Go.Shelf.Ren:=⟨fun | 146=>100 | 221=>141 | 268=>183 | 138=>184 | 143=>185 | 195=>217 | 197=>218 | 218=>219 | 219=>133 | 260=>247 | 217=>178 | 225=>179 | 224=>180 | 267=>181 | 266=>213 | 314=>214 | n=>n,fun | 9=>9 | 31=>24 | 3=>3 | 4=>4 | 0=>0 | 105=>241 | 21=>21 | 5=>5 | 46=>201 | 119=>288 | 139=>291 | 138=>290 | 146=>238 | 51=>237 | n=>n,fun | 1=>0 | 3=>4 | 4=>5 | n=>n⟩
theorem Tryz.lays146:Lays.n146 Tryz.prog Tryz.lays146_ren:=by
 constructor <;> first | kernel_rfl | (intro w;kernel_rfl) | (constructor <;> first | kernel_rfl | (intro w;kernel_rfl) | (constructor <;> first | kernel_rfl | (intro w;kernel_rfl)))
def Tryz.lays156_ren:Go.Shelf.Ren:=⟨fun | 156=>104 | 165=>144 | 166=>145 | 169=>146 | 240=>188 | 241=>189 | 276=>225 | 277=>226 | n=>n,fun | 31=>24 | 9=>9 | 3=>3 | 4=>4 | 0=>0 | 20=>20 | 72=>173 | 76=>167 | 70=>171 | 37=>140 | 75=>166 | 127=>210 | 164=>249 | 5=>5 | 80=>175 | n=>n,fun | n=>n⟩
theorem Tryz.lays156:Lays.n156 Tryz.prog Tryz.lays156_ren:=by
 constructor <;> first | kernel_rfl | (intro w;kernel_rfl) | (constructor <;> first | kernel_rfl | (intro w;kernel_rfl) | (constructor <;> first | kernel_rfl | (intro w;kernel_rfl)))
def Tryz.laysM171_ren:Go.Shelf.Ren:=⟨fun | 171=>63 | 243=>106 | 246=>147 | 283=>190 | 284=>191 | 285=>192 | 286=>193 | 129=>228 | 317=>227 | 318=>229 | 319=>230 | 320=>231 | 337=>251 | 338=>252 | n=>n,fun | 3=>3 | 9=>9 | 2=>2 | 4=>4 | 171=>211 | 0=>0 | 53=>212 | 37=>140 | 5=>5 | 173=>215 | 212=>253 | 51=>237 | 20=>20 | 213=>254 | 46=>201 | 232=>296 | 233=>297 | n=>n,fun | 17=>1 | 18=>6 | 19=>7 | n=>n⟩
theorem Tryz.laysM171:LaysM.n171 Tryz.prog Tryz.laysM171_ren:=by
 constructor <;> first | kernel_rfl | (intro w;kernel_rfl) | (constructor <;> first | kernel_rfl | (intro w;kernel_rfl) | (constructor <;> first | kernel_rfl | (intro w;kernel_rfl)))
def Tryz.laysC172_ren:Go.Shelf.Ren:=⟨fun | 172=>142 | 244=>186 | 245=>187 | 247=>220 | 279=>221 | 280=>222 | 281=>223 | 282=>224 | 287=>248 | 316=>249 | 171=>63 | 205=>250 | 321=>277 | 322=>278 | 243=>106 | 246=>147 | 283=>190 | 284=>191 | 285=>192 | 286=>193 | 129=>228 | 317=>227 | 318=>229 | 319=>230 | 320=>231 | 337=>251 | 338=>252 | n=>n,fun | 9=>9 | 3=>3 | 75=>166 | 76=>167 | 4=>4 | 5=>5 | 167=>243 | 37=>140 | 0=>0 | 85=>244 | 2=>2 | 168=>246 | 53=>212 | 175=>268 | 46=>201 | 210=>272 | 127=>210 | 145=>295 | 143=>293 | 21=>21 | 171=>211 | 173=>215 | 212=>253 | 51=>237 | 20=>20 | 213=>254 | 232=>296 | 233=>297 | 80=>175 | n=>n,fun | 15=>2 | 16=>3 | 17=>1 | 18=>6 | 19=>7 | n=>n⟩
theorem Tryz.laysC172:LaysC.n172 Tryz.prog Tryz.laysC172_ren:=by
 constructor <;> first | kernel_rfl | (intro w;kernel_rfl) | (constructor <;> first | kernel_rfl | (intro w;kernel_rfl) | (constructor <;> first | kernel_rfl | (intro w;kernel_rfl)))
theorem Tryz.extra156:Builder.Extra Tryz.prog Tryz.lays156_ren:=by
 constructor <;> first | kernel_rfl | (intro w;kernel_rfl) | decide | (constructor <;> kernel_rfl)
theorem Tryz.hi146:(Tryz.prog.info? (Tryz.lays146_ren.t 9)).map (λi=>(i.zero,i.size,i.bytes))=some (some (.string ByteArray.empty),1,16):=by kernel_rfl
theorem Tryz.gP : Tryz.prog.globalNamed "internal/strconv.uint64pow10" = some 1 := by kernel_rfl
theorem fr_below {w w':World} (h:Below w.heap.size w w') : @Fr dF zd w w':=⟨h.os,h.tape,h.output,h.size,λb hb _=>h.block b hb,λx=>x.elim⟩
theorem fr_alloc (w:World) (o:Obj) : @Fr dF zd w (w.alloc o):=⟨rfl,rfl,rfl,by simp,λb hb _=>Below.heap_alloc w _ b hb,λx=>x.elim⟩
theorem fr_grow (w:World) (k:Nat) (os:Array Obj) : @Fr dF zd w (Go.Sort.grow (w.drewN k) os):=⟨rfl,rfl,rfl,by simp [Go.Sort.grow,World.drewN],λb hb _=>by
  show (w.heap++os)[b]? = _
  rw [Array.getElem?_append_left hb],λx=>x.elim⟩
theorem fr_bytes (w:World) (t:TypeId) (s:ByteArray) : @Fr dF zd w (Lib.bytesWorld w t s):=fr_below (Lib.bytesWorld_below _ _ _)
theorem row_strs {A w b}:∀ (l:List (List UInt8)) (off:Nat),(∀ j x,l[j]? = some x→w.cell? ⟨b,off+j,none⟩=some (.string ⟨x.toArray⟩))→D.row A w b 1 (l.map D.str) off
 | [],_,_=>by simp [D.row]
 | x::l,off,h=>by
  simp only [yM,D.row,D.rep]
  refine ⟨⟨_,rfl,λj hj=>?_,rfl⟩,row_strs l (off+1) λj y hy=>by rw [show off+1+j=off+(j+1) by omega];exact h (j+1) y (by simpa using hy)⟩
  have h0:j=0:=by simp [Value.cells] at hj;omega
  subst h0
  rw [h 0 x rfl];rfl
theorem strs_row {A w b}:∀ (l:List (List UInt8)) (off:Nat),D.row A w b 1 (l.map D.str) off→∀ j x,l[j]? = some x→w.cell? ⟨b,off+j,none⟩=some (.string ⟨x.toArray⟩)
 | [],_,_,j,x,hx=>by simp at hx
 | y::l,off,h,j,x,hx=>by
  simp only [yM,D.row,D.rep] at h
  obtain ⟨⟨u,rfl,hc,-⟩,h2⟩:=h
  cases j with
  | zero=>
   simp only [y6,yh] at hx
   subst hx
   have:=hc 0 (by simp [Value.cells])
   simpa [Value.cells] using this
  | succ j=>
   have:=strs_row l (off+1) h2 j x (by simpa using hx)
   rw [show off+(j+1)=off+1+j by omega];exact this
theorem ba_eq (b:ByteArray):(⟨b.data.toList.toArray⟩:ByteArray)=b:=by cases b;simp
variable [Env]
theorem glob_cell {A w} {g:Nat} {v:Value} {t:TypeId} (hG:zd1 A w) (hg:(g,Obj.cells #[v] t (0,0))∈Globs.gs):w.cell? ⟨g,0,none⟩=some v:=by
 have:=(hG _ hg).2
 simp only at this
 simp [World.cell?,this]
theorem zfX (n:Nat) (t0 t1:List UInt8) (r:List (List UInt8)) (h:strings_Split n t0 t1=some r):Pure Tryz.prog 100 [.str t0,.str t1] (.sl 1 (r.map D.str)):=by
 unfold strings_Split at h
 split at h
 case h_2=>cases h
 rename_i c
 split at h
 case isFalse=>cases h
 rename_i hl
 cases h
 refine ⟨λA w vs hA hG hr=>?_⟩
 simp only [D.reps,D.rep] at hr
 obtain ⟨_,_,hv,rfl,_,_,rfl,rfl,rfl⟩:=hr
 obtain rfl:vs = #[.string ⟨t0.toArray⟩,.string ⟨[c].toArray⟩]:=by cases vs;simpa using hv
 refine (Any.strings_Split Tryz.lays146 Tryz.hi146 ⟨t0.toArray⟩ ⟨[c].toArray⟩ Env.ml w (by simpa [ByteArray.size] using hl) (glob_cell hG gmL) (by simp [ByteArray.size])).mono ?_
 rintro e w' ⟨rfl,rfl⟩
 have hs:(Lib.splitB ⟨[c].toArray⟩ 0 (Lib.countB ⟨t0.toArray⟩ ⟨[c].toArray⟩) ⟨t0.toArray⟩).map (·.data.toList)=zgG c t0:=by
  rw [Lib.splitB_data,← split_one c t0.length t0 (yn _)]
  rfl
 have hlen:=congrArg List.length hs
 rw [yS,Lib.splitB_all ⟨[c].toArray⟩ (by simp [ByteArray.size]) 0 _ ⟨t0.toArray⟩ rfl] at hlen
 refine ⟨_,rfl,fr_alloc _ _,?_⟩
 simp only [D.rep,yS]
 refine ⟨some ⟨w.heap.size,0,none⟩,_,by rw [hlen],by omega,Or.inr ⟨w.heap.size,0,rfl,λha=>Nat.lt_irrefl _ (hA _ ha),by simp,row_strs _ _ λj x hx=>?_⟩⟩
 rw [← hs,y8] at hx
 obtain ⟨y,hy,rfl⟩:=Option.map_eq_some_iff.1 hx
 have e1:(w.alloc (.cells ((Lib.splitB ⟨[c].toArray⟩ 0 (Lib.countB ⟨t0.toArray⟩ ⟨[c].toArray⟩) ⟨t0.toArray⟩).map Value.string).toArray (Tryz.lays146_ren.t 9))).heap[w.heap.size]? = some (.cells ((Lib.splitB ⟨[c].toArray⟩ 0 (Lib.countB ⟨t0.toArray⟩ ⟨[c].toArray⟩) ⟨t0.toArray⟩).map Value.string).toArray (Tryz.lays146_ren.t 9)):=World.alloc_heap_new w _
 simp only [World.cell?,e1,ya]
 simp [hy,ba_eq]
theorem strings_Join_ok (n:Nat) (t0:List (List UInt8)) (t1:List UInt8) (r:List UInt8) (h:strings_Join n t0 t1=some r):Pure Tryz.prog 104 [.sl 1 (t0.map D.str),.str t1] (.str r):=by
 unfold strings_Join at h
 split at h
 case isFalse=>cases h
 rename_i hl
 cases h
 refine ⟨λA w vs hA hG hr=>?_⟩
 simp only [D.reps,D.rep,yS] at hr
 obtain ⟨_,_,hv,⟨a,cap,rfl,hc,hrow⟩,_,_,rfl,rfl,rfl⟩:=hr
 obtain rfl:vs = #[.slice a t0.length cap,.string ⟨t1.toArray⟩]:=by cases vs;simpa using hv
 rcases hrow with h0 | ⟨b,off,rfl,hb,hbk,hrow⟩
 ·obtain rfl:t0=[]:=by simpa using h0
  refine (Any.strings_Join_none Tryz.lays156 Tryz.extra156 a cap ⟨t1.toArray⟩ w).mono ?_
  rintro e w' ⟨rfl,rfl⟩
  exact ⟨_,rfl,Fr.refl _ _,rfl⟩
 ·have e1:(t0.map λl=>(⟨l.toArray⟩:ByteArray)).map (·.data.toList)=t0:=by rw [uL];simp [Function.comp_def]
  have:=Any.strings_Join Tryz.lays156 Tryz.extra156 b off cap (t0.map λl=>⟨l.toArray⟩) ⟨t1.toArray⟩ w (λj x hx=>by
   rw [y8] at hx
   obtain ⟨y,hy,rfl⟩:=Option.map_eq_some_iff.1 hx
   exact strs_row t0 off hrow j y hy) hbk (by simpa using hl.1) (by simpa using hc) (by rw [e1];simpa using hl.2)
  rw [e1,yS] at this
  refine this.mono ?_
  rintro e w' ⟨rfl,hw⟩
  exact ⟨_,rfl,fr_below hw,rfl⟩
theorem zbC (n:Nat) (t0:Int) (r:List UInt8) (h:strconv_Itoa n t0=some r):Pure Tryz.prog 63 [.int t0] (.str r):=by
 unfold strconv_Itoa at h
 split at h
 case isFalse=>cases h
 rename_i hl
 cases h
 refine ⟨λA w vs hA hG hr=>?_⟩
 simp only [D.reps,D.rep] at hr
 obtain ⟨_,_,hv,rfl,rfl⟩:=hr
 obtain rfl:vs = #[.int .i64 t0]:=by cases vs;simpa using hv
 have hT : Lib.TabIs Tryz.prog w "internal/strconv.uint64pow10" .u64 Lib.pow10Tab := by
  have h2:=(hG _ gmP).2
  simp only at h2
  unfold Lib.TabIs World.var?
  rw [Tryz.gP]
  simp only [ya,h2]
 refine (Any.strconv_Itoa Tryz.laysM171 t0 hl.1 hl.2 w hT).mono ?_
 rintro e w' ⟨rfl,k,os,rfl⟩
 exact ⟨_,rfl,fr_grow _ _ _,by rw [itoaL_eq hl.1 hl.2];rfl⟩
theorem strconv_Atoi_ok (n:Nat) (t0:List UInt8) (r:Int×Bool) (h:zgH n t0=some r):Pure Tryz.prog 142 [.str t0] (.tup [.int r.1,D.errB r.2]):=by
 unfold zgH at h
 split at h
 case isFalse=>cases h
 rename_i hl
 have hs:(⟨t0.toArray⟩:ByteArray).size≤281474976710656:=by simpa [ByteArray.size] using hl
 refine ⟨λA w vs hA hG hr=>?_⟩
 simp only [D.reps,D.rep] at hr
 obtain ⟨_,_,hv,rfl,rfl⟩:=hr
 obtain rfl:vs = #[.string ⟨t0.toArray⟩]:=by cases vs;simpa using hv
 split at h
 ·rename_i v hv
  cases h
  refine (Any.strconv_Atoi_ok Tryz.laysC172 ⟨t0.toArray⟩ (by omega) v hv w).mono ?_
  rintro e w' ⟨rfl,hw⟩
  refine ⟨_,rfl,?_,?_⟩
  ·rcases hw with rfl | ⟨t,rfl⟩
   ·exact Fr.refl _ _
   ·exact fr_bytes _ _ _
  ·simp only [D.rep,D.reps,D.errB]
   exact ⟨_,rfl,_,_,rfl,rfl,_,_,rfl,rfl,rfl⟩
 ·rename_i hv
  cases h
  refine (Any.strconv_Atoi_range Tryz.laysC172 ⟨t0.toArray⟩ hs hv Env.er w (glob_cell hG gmR) (Or.inr Env.ier)).mono ?_
  rintro e w' ⟨N,rfl,-,-,hb⟩
  refine ⟨_,rfl,fr_below hb,?_⟩
  simp only [D.rep,D.reps,D.errB,if_true]
  exact ⟨_,rfl,_,_,rfl,rfl,_,_,rfl,⟨_,_,rfl⟩,rfl⟩
 ·rename_i h1 h2
  cases h
  refine (Any.strconv_Atoi_syntax Tryz.laysC172 ⟨t0.toArray⟩ hs (by
   change Lib.atoiAll t0=_
   revert h1 h2
   cases Lib.atoiAll t0 <;> intro h1 h2 <;> first
    | rfl
    | exact (h1 _ rfl).elim
    | exact (h2 rfl).elim) Env.es w (glob_cell hG gmS) (Or.inr Env.ies)).mono ?_
  rintro e w' ⟨N,rfl,-,-,hb⟩
  refine ⟨_,rfl,fr_below hb,?_⟩
  simp only [D.rep,D.reps,D.errB,if_true]
  exact ⟨_,rfl,_,_,rfl,rfl,_,_,rfl,⟨_,_,rfl⟩,rfl⟩
end
section
variable [Env]
theorem zdt (n t0 t1) (t2:Int→Option (List UInt8)) (F2:D) (hF2:∀ (q0:Int) (y:List UInt8),t2 q0=some y→Dyn pg F2 [.int q0] (.str y)) (r) (h:zX n t0 t1 t2=some r):Pure pg 60 [eA t0,.str t1,F2] (.str r):=by
 refine Pure.ot Tryz.func60 I Tryz.ntmps60 I λA w=>.sA 1 I<|.S 1 I<|.nilVec 7 1 9 I<|.nil<|.seq<|.S 1 I<|.p I (.len I U22 I)<|.A 1 I<|.nil<|.block<|.L [1,2,10,11] h (λv=>[(7,.vec 0 (List.length v.1)),(12,.d (.int v.2))]) (λv=>[(0,.vec 9 1 (List.map D.str v.1))]) I λ_ ⟨b0_11,x12⟩ h=>.sA 1 I<|.K [1,2,7,10,11,12,13] I<|.seq<|.condS I h (λh=>?_) λh=>?_
 ·refine .skip<|.seq<|.block<|.sr<|.X h I λx14 h=>.A 2 I<|.nil<|.region<|.A 3 I<|bK h λx15 q15 h=>.p I (.dyn I I I (hF2 _ _ q15))<|.p I (.buildSl [_] I I E24 I (λ_=>I) I (enc:=D.str))<|bK h λx16 q16 h=>.app I I I I I I I I E24 I (λ_=>I) q16<|.A 1 I<|.nil<|.rA 2 I (ndE h I)
 ·refine .exit<|.S 2 I<|bK h λx17 q17 h=>.p I (.callB I (kC I) (.cons I (.vec I (by simp)) (.cons I (.d _) .nil)) I (strings_Join_ok _ _ _ _ q17))<|.A 1 I<|.nil<|.ret (rO h I)
theorem zdZ (n t0 t1 r) (h:zcd n t0 t1=some r):Pure pg 67 [eA t0,.str t1] (.str r):=by
 refine Pure.ot Tryz.func67 I Tryz.ntmps67 I λA w=>.sA 1 I<|.S 2 I<|.Z h I (zdt _ _ _ _ _ (λq0 y hq=>⟨_,_,I,K63,zbC _ q0 _ hq⟩)) λx1 h=>.A 1 I<|.nil<|.ret (rO h I)
theorem zfV (n t0 r) (h:zce n t0=some r):Pure pg 53 [Scenario.enc t0] (.str r):=by
 refine Pure.ot Tryz.func53 I Tryz.ntmps53 I λA w=>.sA 2 I<|.sA 1 I<|.J [1] h (λv=>[(3,.d (.str v))]) (λv=>[]) I (λk_2 h=>?_) (λx1 h=>?_)
 ·refine .sr<|.p I (.fa I (G36_0 _))<|.p I (.fa I (G34_2 _))<|.p I (.fa I (G32_0 _))<|.A 1 I<|.nil<|.condS I h (λh=>?_) λh=>?_
  ·refine .rA 1 I (ndE h I)
  ·refine .skip (ndE h I)
 ·refine .sA 1 I<|.K [1,3,4] I<|.seq<|.sr<|.p I (.fa I (G36_1 _))<|.A 1 I<|.p I (.len I U22 I)<|.A 1 I<|.nil<|.block<|.L [1,3,12,13] h (λv=>[(4,.d (.str v.1)),(14,.d (.int v.2))]) (λv=>[]) I λ_ ⟨x15,x16⟩ h=>.sA 1 I<|.seq<|.condS I h (λh=>?_) λh=>?_
  ·refine .skip<|.seq<|.block<|.sr<|.X h I λx18 h=>.A 2 I<|.nil<|.region<|.A 2 I<|.Z h I (zbC _ _) λx19 h=>bK h λx20 q20 h=>.p I (.cat I I I q20)<|bK h λx21 q21 h=>.p I (.cat I I I q21)<|.A 1 I<|.nil<|.rA 2 I (ndE h I)
  ·refine .exit<|.seq<|.draw 24 Hm (by kernel_rfl) (by kernel_rfl)<|.p I (.fa I (G36_0 _))<|.p I (.fa I (G34_0 _))<|.A 1 I<|.p I (.fa I (G36_0 _))<|.p I (.fa I (G34_1 _))<|.A 1 I<|.p I (.buildSl [_,_] I I E22 I (λ_=>I) I (enc:=D.int))<|.Z h I (zdZ _ _ _) λx22 h=>bK h λx23 q23 h=>.p I (.cat I I I q23)<|bK h λx24 q24 h=>.p I (.cat I I I q24)<|.A 1 I<|bK h λx25 q25 h=>.p I (.cat I I I q25)<|bK h λx26 q26 h=>.p I (.cat I I I q26)<|.p I (.fa I (G36_0 _))<|.p I (.fa I (G34_2 _))<|.p I (.fa I (G32_1 _))<|.A 1 I<|.Z h I (zbC _ _) λx27 h=>bK h λx28 q28 h=>.p I (.cat I I I q28)<|bK h λx29 q29 h=>.p I (.cat I I I q29)<|.A 1 I<|bK h λx30 q30 h=>.p I (.cat I I I q30)<|bK h λx31 q31 h=>.p I (.cat I I I q31)<|.A 1 I<|.nil<|.nil<|.K [2] I<|.ret (rO h I)
theorem zih (n t0 t1 r) (h:zgD n t0 t1=some r):Pure pg 19 [Model.enc t0,Scenario.enc t1] (.tup [.str r.1,.int r.2]):=by
 refine Pure.ot Tryz.func19 I Tryz.ntmps19 I λA w=>.sA 4 I<|.seq<|.seq<|.plain 10 I<|.A 2 I<|.Z h I (zb1 _ _ _) λx1 h=>.A 2 I<|gK h λc3 h=>.jO 4 (!((zO n t1.state).getD default)) I (λb2=>?_) ?_
 ·refine .q I (.fa I (G36_1 _))<|.A 1 I<|.q I (.call I (kC I) I (zcH _ _ _ (someD (impF c3 b2))))<|.A 1 I<|.nil I
 refine .nil<|.nil<|.condS I h (λh=>?_) λh=>?_
 ·refine .sA 2 I<|.K [4,5] I<|.ret ?_
  cases h
  exact zcQ I I (.d _) (.d _)
 ·refine .skip<|.S 1 I<|.Z h I (zfV _ _) λx4 h=>.A 2 I<|.nil<|.K [4,5] I<|.ret ?_
  cases h
  exact zcQ I I (.d _) (.d _)
theorem zbF (n:Nat) (c0:List (List UInt8)) (c1:Bool) (t1:List UInt8) (r:(List (List UInt8))×(List (List UInt8))×Bool) (h:zbS n c0 c1 t1=some r):Turns pg 101 132 [eC c0,.bool c1] [eC r.2.1,.bool r.2.2] [.str t1] (eC r.1):=by
 refine Turns.of_tri Tryz.func101 I I (by rw [Tryz.ntmps101];simp) λA b w=>?_
 rw [Tryz.ntmps101]
 refine .sr<|.p I (.nilS 1 (α:=List UInt8) D.str I)<|.nil<|.seq<|.S 1 I<|.p I (.nilCheck_loc I I I)<|.p I (.fieldAddrLoc I I I F132_0)<|.p I (.loadLoc1 I I I Y24 I)<|.p I (.len I U24 I)<|.A 1 I<|.nil<|.condS I h (λh=>?_) λh=>?_
 ·refine .S 1 I<|.p I (.nilCheck_loc I I I)<|.p I (.fieldAddrLoc I I I F132_1)<|.store I I I I I I (.ofD I) C4 I (yi I)<|.nil<|.sr<|.p I (.nilS 1 (α:=List UInt8) D.str I)<|.nil<|.ret ?_
  cases h
  exact ⟨I,I,I⟩
 ·refine .skip<|.S 1 I<|.p I (.nilCheck_loc I I I)<|.p I (.fieldAddrLoc I I I F132_0)<|.p I (.loadLoc1 I I I Y24 I)<|.X h I λx1 h=>.A 1 I<|.Z h I (zfX _ _ _) λx2 h=>.A 1 I<|.nil<|.S 2 I<|.p I (.nilCheck_loc I I I)<|.p I (.fieldAddrLoc I I I F132_0)<|.p I (.loadLoc1 I I I Y24 I)<|bK h λx3 q3 h=>.p I (.cutSlL I I I U24 S9 q3)<|.p I (.nilCheck_loc I I I)<|.p I (.fieldAddrLoc I I I F132_0)<|.store I I I I I I (.ofD I) C24 I (yi I)<|.nil<|.K [0,1,5] I<|.seq<|.plain 12 I<|.A 2 I<|.p I (.nilCheck_loc I I I)<|.p I (.fieldAddrLoc I I I F132_1)<|.p I (.loadLoc1 I I I Y4 I)<|.A 1 I<|gK h λc5 h=>.jA 5 (decide (((idx x2 0).getD default)=t1)) I (λb4=>?_) ?_
  ·refine .A 1 I<|.q I (.ix I U24 S9 (someD (impT c5 b4)))<|.A 2 I<|.q I (.str_eql I I I)<|.nil I
  refine .nil<|.p I (.nilCheck_loc I I I)<|.p I (.fieldAddrLoc I I I F132_1)<|.store I I I I I I (.ofD I) C4 I (yi I)<|.nil<|.S 1 I<|bK h λx6 q6 h=>.p I (.cutSlL I I I U24 S9 q6)<|.A 1 I<|.nil<|.K [4] I<|.ret ?_
  cases h
  exact ⟨I,I,I⟩
theorem zbq (n:Nat) (c0:List (List UInt8)) (c1:Bool) (t1:List (List UInt8)) (r:(List Int)×(List (List UInt8))×Bool) (h:zaG n c0 c1 t1=some r):Turns pg 102 132 [eC c0,.bool c1] [eC r.2.1,.bool r.2.2] [eC t1] (eA r.1):=by
 refine Turns.of_tri Tryz.func102 I I (by rw [Tryz.ntmps102];simp) λA b w=>?_
 rw [Tryz.ntmps102]
 refine .sr<|.p I (.nilS 1 (α:=Int) D.int I)<|.nil<|.S 1 I<|.nilVec 5 1 3 I<|.nil<|.seq<|.S 1 I<|.p I (.len I U24 I)<|.A 1 I<|.nil<|.block<|.L [0,10,11] h (λv=>[(5,.vec 1 (List.length v.1)),(12,.d (.int v.2.2))]) (λv=>[(0,.box 132 [.d (eC c0),.d (.bool v.2.1)]),(1,.vec 3 1 (List.map D.int v.1))]) I λ_ ⟨b1_15,c0_1_16,x17⟩ h=>.sA 1 I<|.K [0,5,10,11,12,13] I<|.seq<|.condS I h (λh=>?_) λh=>?_
 ·refine .skip<|.seq<|.block<|.sr<|.X h I λx19 h=>.A 2 I<|.nil<|.S 1 I<|.Z h I (strconv_Atoi_ok _ _) λx20 h=>.A 1 I<|.p I (.extract I I I)<|.p I (.extract I I I)<|.A 2 I<|.nil<|.seq<|.plain 9 I<|.A 2 I<|.p I (.nilCheck_loc I I I)<|.p I (.fieldAddrLoc I I I F132_1)<|.p I (.loadLoc1 I I I Y4 I)<|.A 1 I<|.jA 2 (!x20.2) I (λb21=>?_) ?_
  ·refine .A 1 I<|.q I (.erreql I UI166 I I)<|.nil I
  refine .nil<|.p I (.nilCheck_loc I I I)<|.p I (.fieldAddrLoc I I I F132_1)<|.store I I I I I I (.ofD I) C4 I (yi I)<|.nil<|.K [0,5,8,10,11,12] I<|.region<|.A 2 I<|.p I (.buildSl [_] I I E22 I (λ_=>I) I (enc:=D.int))<|bK h λx22 q22 h=>.app I I I I I I I I E22 I (λ_=>I) q22<|.A 1 I<|.nil<|.rA 2 I (ndE h I)
 ·refine .exit<|.sA 2 I<|.freezes [1] (.cons (t:=4) I (.vec (inIds I) I (by simp)) .nil)<|.ret ?_
  cases h
  exact ⟨I,I,I⟩
theorem scenario_read_ok (n t0 r) (h:zij n t0=some r):Pure pg 56 [.str t0] (.tup [Scenario.enc r.1,.bool r.2]):=by
 refine Pure.ot Tryz.func56 I Tryz.ntmps56 I λA w=>.sr<|.allocZ I I I I (.agg Zc36 (ds':=[.int 0,.int 0,.bool false,.int 0,eA []]) (.e (.e (.e (.e .o1))))) I<|.A 1 I<|.nil<|.S 1 I<|.Z h I (zfX _ _ _) λx1 h=>.p I (.castD (Reader.enc (⟨x1,true⟩:Reader)) I (.build I Pl132 (.agg Zc132 (ds':=[_,_]) (.e .e1)) I I))<|.box I I I I I (.ofD I)<|.A 1 I<|.nil<|.S 1 I<|.p I (.makeFuncB1 I I)<|.A 1 I<|.nil<|.sr<|.p I (.castD (Scenario.enc (⟨(⟨0,0,(⟨false,0⟩:Target)⟩:Question),[]⟩:Scenario)) I (.build I Pl36 (.agg Zc36 (ds':=[_,_,_,_,eA []]) (.e (.e (.e (.e .o1))))) I I))<|.allocZ I I I I (.agg Zc36 (ds':=[.int 0,.int 0,.bool false,.int 0,eA []]) (.e (.e (.e (.e .o1))))) I<|.store I I I I I I (.ofD I) C36 I (yi I)<|.nil<|.S 2 I<|bK h λx2 q2 h=>.turn (bi:=1) (zbF n _ _ _ _ q2) I I I (.closF I I K101 I) I I<|bK h λx3 q3 h=>.turn (bi:=1) (zbq n _ _ _ _ q3) I I I (.stat I K102 I) I I<|.A 1 I<|bK h λx4 q4 h=>.turn (bi:=1) (zbF n _ _ _ _ q4) I I I (.closF I I K101 I) I I<|.A 2 I<|.nil<|.K [0,2,4,5,6,7,8] I<|.S 2 I<|bK h λx5 q5 h=>.turn (bi:=1) (zbF n _ _ _ _ q5) I I I (.closF I I K101 I) I I<|bK h λx6 q6 h=>.turn (bi:=1) (zbq n _ _ _ _ q6) I I I (.stat I K102 I) I I<|.p I (.fieldAddrLoc I I I F36_1)<|.store I I I I I I (.ofD I) C22 I (yi I) ?_
 refine .nil<|.seq<|.seq<|.plain 15 I<|.A 1 I<|.p I (.nilCheck_loc I I I)<|.p I (.fieldAddrLoc I I I F132_1)<|.p I (.loadLoc1 I I I Y4 I)<|.A 2 I<|.jO 3 ((x3.1.length:Int) != 2) I (λb7=>?_) ?_
 ·refine .A 1 I<|.q I (.len I U22 I)<|.A 1 I<|.nil I
 refine .A 1 I<|.jO 3 ((x4.1.length:Int) != 2) I (λb8=>?_) ?_
 ·refine .A 1 I<|.q I (.len I U24 I)<|.A 1 I<|.nil I
 refine .nil<|.nil<|.K [0,2,4,6,7,8,42] I<|.condS I h (λh=>?_) λh=>?_
 ·refine .sr<|.p I (.loadLoc I I I Y36 (yi I) (v:=.d (Scenario.enc (⟨(⟨0,0,(⟨false,0⟩:Target)⟩:Question),x6.1⟩:Scenario))) I)<|.store I I I I I I (.ofD I) C36 I (yi I)<|.A 1 I<|.nil<|.ret ?_
  cases h
  exact zdA I I Y36 (.v (.v (.v (.v .v1)))) I (.d _)
 ·refine .skip<|.seq<|bK h λx9 q9 h=>bK h λx10 q10 h=>.drawA 12 Hm I<|.first 0 I (by decide +kernel) (by decide +kernel) (by decide +kernel) I (.m I (.nil ⟨I,I⟩))<|.first 3 I (by decide +kernel) (by decide +kernel) (by decide +kernel) I (.m I (.nil ⟨I,I⟩))<|.via 1 #[true,true,true,true,true,true,true,true,true,true,true,false] ⟨[(0,.d (.str t0)),(2,.loc 0 0),(4,.loc 1 0),(6,.loc 2 0),(7,.d (eA x3.1)),(8,.d (eC x4.1)),(49,.d (.int x10)),(53,.loc 2 1)],[.box 36 [.d (.int 0),.d (.int 0),.d (.bool false),.d (.int 0),.d (eA [])],.box 132 [.d (eC x6.2.1),.d (.bool x6.2.2)],.box 36 [.d (.int x9),.d (.int 0),.d (.bool false),.d (.int 0),.d (eA x6.1)]]⟩ ?_ λsA0=>?_
  ·refine .step 11 [] (by decide +kernel) (.cons (i:=11) I (.store I I I I I I (.ofD I) C3 I (yi I) (.nil ⟨I,I⟩)) ?_ .nil)
   refine .done (by decide +kernel)<|.S 1 I<|.X h I λx11 h=>.A 1 I<|.p I (.str_eql I I I)<|.p I (.fieldAddrLoc I I I F36_0)<|.p I (.fieldAddrLoc I I I F34_2)<|.p I (.fieldAddrLoc I I I F32_0)<|.store I I I I I I (.ofD I) C4 I (yi I)<|.nil<|.K [0,2,4,6,7,8] I<|.S 2 I<|bK h λx12 q12 h=>.p I (.cutSlL I I I U24 S9 q12)<|bK h λx13 q13 h=>.turn (bi:=1) (zbq n _ _ _ _ q13) I I I (.stat I K102 I) I I<|.A 1 I<|.nil<|.S 1 I<|.X h I λx14 h=>.A 1 I<|.p I (.fieldAddrLoc I I I F36_0)<|.p I (.fieldAddrLoc I I I F34_2)<|.p I (.fieldAddrLoc I I I F32_1)<|.store I I I I I I (.ofD I) C3 I (yi I)<|.nil<|.seq<|.drawG 24 [21,22,23] Hm (by kernel_rfl) (by kernel_rfl)<|.p I (.loadLoc I I I Y36 (yi I) (v:=.d (Scenario.enc (⟨(⟨x9,x10,(⟨decide (x11=[104,111,108,100]),x14⟩:Target)⟩:Question),x6.1⟩:Scenario))) I)<|.A 1 I<|.p I (.nilCheck_loc I I I)<|.p I (.fieldAddrLoc I I I F132_1)<|.p I (.loadLoc1 I I I Y4 I)<|.A 1 I<|gK h λc16 h=>.jA 2 (((zO n x3.1).getD default)) I (λb15=>?_) ?_
   ·refine .A 1 I<|.q I (.call I (kC I) I (zcH _ _ _ (someD (impT c16 b15))))<|.nil I
   refine .A 1 I<|gK h λc18 h=>.jA 2 (((zO n x13.1).getD default)) I (λb17=>?_) ?_
   ·refine .A 1 I<|.q I (.call I (kC I) I (zcH _ _ _ (someD (impT c18 b17))))<|.nil I
   refine .A 1 I<|gK h λc20 h=>.jA 3 (((zO n x6.1).getD default)) I (λb19=>?_) ?_
   ·refine .q I (.fieldAddrLoc I I I F36_1)<|.q I (.loadLoc1 I I I Y22 I)<|.q I (.call I (kC I) I (zcH _ _ _ (someD (impT c20 b19))))<|.nil I
   refine .A 1 I<|gK h λc22 h=>.jA 4 (decide (((zce n (⟨(⟨x9,x10,(⟨decide (x11=[104,111,108,100]),x14⟩:Target)⟩:Question),x6.1⟩:Scenario)).getD default)=t0)) I (λb21=>?_) ?_
   ·refine .q I (.loadLoc I I I Y36 (yi I) (v:=.d (Scenario.enc (⟨(⟨x9,x10,(⟨decide (x11=[104,111,108,100]),x14⟩:Target)⟩:Question),x6.1⟩:Scenario))) I)<|.q I (.call I (kC I) I (zfV _ _ _ (someD (impT c22 b21))))<|.A 1 I<|.q I (.str_eql I I I)<|.nil I
   refine .nil<|.store I I I I I I (.ofD I) C36 I (yi I)<|.A 1 I<|.nil<|.K [2,3] I<|.ret ?_
   cases h
   exact zdA I I Y36 (.v (.v (.v (.v .v1)))) I (.d _)
  refine .via 2 #[true,true,true,true,true,true,true,true,true,true,false,false] ⟨[(0,.d (.str t0)),(2,.loc 0 0),(4,.loc 1 0),(6,.loc 2 0),(7,.d (eA x3.1)),(8,.d (eC x4.1)),(49,.d (.int x10)),(52,.loc 2 0)],[.box 36 [.d (.int 0),.d (.int 0),.d (.bool false),.d (.int 0),.d (eA [])],.box 132 [.d (eC x6.2.1),.d (.bool x6.2.2)],.box 36 [.d (.int x9),.d (.int 0),.d (.bool false),.d (.int 0),.d (eA x6.1)]]⟩ ?_ λsA1=>?_
  ·refine .step 10 [] (by decide +kernel) (.cons (i:=10) I (.p I (.fieldAddrLoc I I I F34_1) (.nil ⟨I,I⟩)) ?_ .nil)
   exact .keepT [0,2,4,6,7,8,49,53] (.c8 I .nil) (.to #[true,true,true,true,true,true,true,true,true,true,true,false] (by decide +kernel) sA0)
  refine .via 3 #[true,true,true,true,true,true,true,true,true,false,false,false] ⟨[(0,.d (.str t0)),(2,.loc 0 0),(4,.loc 1 0),(6,.loc 2 0),(7,.d (eA x3.1)),(8,.d (eC x4.1)),(49,.d (.int x10))],[.box 36 [.d (.int 0),.d (.int 0),.d (.bool false),.d (.int 0),.d (eA [])],.box 132 [.d (eC x6.2.1),.d (.bool x6.2.2)],.box 36 [.d (.int x9),.d (.int 0),.d (.bool false),.d (.int 0),.d (eA x6.1)]]⟩ ?_ λsA2=>?_
  ·refine .step 9 [] (by decide +kernel) (.cons (i:=9) I (.p I (.fieldAddrLoc I I I F36_0) (.nil ⟨I,I⟩)) ?_ .nil)
   exact .keepT [0,2,4,6,7,8,49,52] (.c8 I .nil) (.to #[true,true,true,true,true,true,true,true,true,true,false,false] (by decide +kernel) sA1)
  refine .via 4 #[true,true,true,true,true,true,true,true,false,false,false,false] ⟨[(0,.d (.str t0)),(2,.loc 0 0),(4,.loc 1 0),(6,.loc 2 0),(7,.d (eA x3.1)),(8,.d (eC x4.1)),(46,.d (.int x9)),(49,.d (.int x10)),(51,.loc 2 0)],[.box 36 [.d (.int 0),.d (.int 0),.d (.bool false),.d (.int 0),.d (eA [])],.box 132 [.d (eC x6.2.1),.d (.bool x6.2.2)],.box 36 [.d (.int 0),.d (.int 0),.d (.bool false),.d (.int 0),.d (eA x6.1)]]⟩ ?_ λsA3=>?_
  ·refine .step 8 [] (by decide +kernel) (.cons (i:=8) I (.store I I I I I I (.ofD I) C3 I (yi I) (.nil ⟨I,I⟩)) ?_ .nil)
   exact .keepT [0,2,4,6,7,8,49] (.c4 I<|.c2 I<|.c I .nil) (.to #[true,true,true,true,true,true,true,true,true,false,false,false] (by decide +kernel) sA2)
  refine .via 4 #[true,true,true,true,true,false,true,true,true,false,false,false] ⟨[(0,.d (.str t0)),(2,.loc 0 0),(4,.loc 1 0),(6,.loc 2 0),(7,.d (eA x3.1)),(8,.d (eC x4.1)),(48,.d (.ref (.int x10)))],[.box 36 [.d (.int 0),.d (.int 0),.d (.bool false),.d (.int 0),.d (eA [])],.box 132 [.d (eC x6.2.1),.d (.bool x6.2.2)],.box 36 [.d (.int x9),.d (.int 0),.d (.bool false),.d (.int 0),.d (eA x6.1)]]⟩ ?_ λsA4=>?_
  ·refine .step 5 [] (by decide +kernel) (.cons (i:=5) I (.p I (.ld Y3 I) (.nil ⟨I,I⟩)) ?_ .nil)
   exact .keepT [0,2,4,6,7,8,49] (.c4 I<|.c2 I<|.c I .nil) (.to #[true,true,true,true,true,true,true,true,true,false,false,false] (by decide +kernel) sA2)
  refine .via 5 #[true,true,true,true,true,true,true,false,false,false,false,false] ⟨[(0,.d (.str t0)),(2,.loc 0 0),(4,.loc 1 0),(6,.loc 2 0),(7,.d (eA x3.1)),(8,.d (eC x4.1)),(46,.d (.int x9)),(49,.d (.int x10)),(50,.loc 2 0)],[.box 36 [.d (.int 0),.d (.int 0),.d (.bool false),.d (.int 0),.d (eA [])],.box 132 [.d (eC x6.2.1),.d (.bool x6.2.2)],.box 36 [.d (.int 0),.d (.int 0),.d (.bool false),.d (.int 0),.d (eA x6.1)]]⟩ ?_ λsA5=>?_
  ·refine .step 7 [] (by decide +kernel) (.cons (i:=7) I (.p I (.fieldAddrLoc I I I F34_0) (.nil ⟨I,I⟩)) ?_ .nil)
   exact .keepT [0,2,4,6,7,8,46,49,51] (.c8 I<|.c I .nil) (.to #[true,true,true,true,true,true,true,true,false,false,false,false] (by decide +kernel) sA3)
  refine .via 5 #[true,true,true,true,true,false,true,true,false,false,false,false] ⟨[(0,.d (.str t0)),(2,.loc 0 0),(4,.loc 1 0),(6,.loc 2 0),(7,.d (eA x3.1)),(8,.d (eC x4.1)),(46,.d (.int x9)),(48,.d (.ref (.int x10))),(51,.loc 2 0)],[.box 36 [.d (.int 0),.d (.int 0),.d (.bool false),.d (.int 0),.d (eA [])],.box 132 [.d (eC x6.2.1),.d (.bool x6.2.2)],.box 36 [.d (.int 0),.d (.int 0),.d (.bool false),.d (.int 0),.d (eA x6.1)]]⟩ ?_ λsA6=>?_
  ·refine .step 5 [8] (by decide +kernel) (.cons (i:=5) I (.p I (.ld Y3 I) (.nil ⟨I,I⟩)) ?_ (.cons (i:=8) I (.store I I I I I I (.ofD I) C3 I (yi I) (.nil ⟨I,I⟩)) ?_ .nil))
   ·exact .keepT [0,2,4,6,7,8,46,49,51] (.c8 I<|.c I .nil) (.to #[true,true,true,true,true,true,true,true,false,false,false,false] (by decide +kernel) sA3)
   ·exact .keepT [0,2,4,6,7,8,48] (.c4 I<|.c2 I<|.c I .nil) (.to #[true,true,true,true,true,false,true,true,true,false,false,false] (by decide +kernel) sA4)
  refine .via 5 #[true,true,true,true,false,false,true,true,true,false,false,false] ⟨[(0,.d (.str t0)),(2,.loc 0 0),(4,.loc 1 0),(6,.loc 2 0),(7,.d (eA x3.1)),(8,.d (eC x4.1)),(47,.d (eA x3.1))],[.box 36 [.d (.int 0),.d (.int 0),.d (.bool false),.d (.int 0),.d (eA [])],.box 132 [.d (eC x6.2.1),.d (.bool x6.2.2)],.box 36 [.d (.int x9),.d (.int 0),.d (.bool false),.d (.int 0),.d (eA x6.1)]]⟩ ?_ λsA7=>?_
  ·refine .step 4 [] (by decide +kernel) (.cons (i:=4) I (.p I (.ix I U22 S3 q10) (.nil ⟨I,I⟩)) ?_ .nil)
   exact .keepT [0,2,4,6,7,8,48] (.c4 I<|.c2 I<|.c I .nil) (.to #[true,true,true,true,true,false,true,true,true,false,false,false] (by decide +kernel) sA4)
  refine .via 6 #[true,true,true,true,true,true,false,false,false,false,false,false] ⟨[(0,.d (.str t0)),(2,.loc 0 0),(4,.loc 1 0),(6,.loc 2 0),(7,.d (eA x3.1)),(8,.d (eC x4.1)),(46,.d (.int x9)),(49,.d (.int x10))],[.box 36 [.d (.int 0),.d (.int 0),.d (.bool false),.d (.int 0),.d (eA [])],.box 132 [.d (eC x6.2.1),.d (.bool x6.2.2)],.box 36 [.d (.int 0),.d (.int 0),.d (.bool false),.d (.int 0),.d (eA x6.1)]]⟩ ?_ λsA8=>?_
  ·refine .step 6 [] (by decide +kernel) (.cons (i:=6) I (.p I (.fieldAddrLoc I I I F36_0) (.nil ⟨I,I⟩)) ?_ .nil)
   exact .keepT [0,2,4,6,7,8,46,49,50] (.c8 I<|.c I .nil) (.to #[true,true,true,true,true,true,true,false,false,false,false,false] (by decide +kernel) sA5)
  refine .via 6 #[true,true,true,true,true,false,true,false,false,false,false,false] ⟨[(0,.d (.str t0)),(2,.loc 0 0),(4,.loc 1 0),(6,.loc 2 0),(7,.d (eA x3.1)),(8,.d (eC x4.1)),(46,.d (.int x9)),(48,.d (.ref (.int x10))),(50,.loc 2 0)],[.box 36 [.d (.int 0),.d (.int 0),.d (.bool false),.d (.int 0),.d (eA [])],.box 132 [.d (eC x6.2.1),.d (.bool x6.2.2)],.box 36 [.d (.int 0),.d (.int 0),.d (.bool false),.d (.int 0),.d (eA x6.1)]]⟩ ?_ λsA9=>?_
  ·refine .step 5 [7] (by decide +kernel) (.cons (i:=5) I (.p I (.ld Y3 I) (.nil ⟨I,I⟩)) ?_ (.cons (i:=7) I (.p I (.fieldAddrLoc I I I F34_0) (.nil ⟨I,I⟩)) ?_ .nil))
   ·exact .keepT [0,2,4,6,7,8,46,49,50] (.c8 I<|.c I .nil) (.to #[true,true,true,true,true,true,true,false,false,false,false,false] (by decide +kernel) sA5)
   ·exact .keepT [0,2,4,6,7,8,46,48,51] (.c8 I<|.c I .nil) (.to #[true,true,true,true,true,false,true,true,false,false,false,false] (by decide +kernel) sA6)
  refine .via 6 #[true,true,true,true,false,false,true,true,false,false,false,false] ⟨[(0,.d (.str t0)),(2,.loc 0 0),(4,.loc 1 0),(6,.loc 2 0),(7,.d (eA x3.1)),(8,.d (eC x4.1)),(46,.d (.int x9)),(47,.d (eA x3.1)),(51,.loc 2 0)],[.box 36 [.d (.int 0),.d (.int 0),.d (.bool false),.d (.int 0),.d (eA [])],.box 132 [.d (eC x6.2.1),.d (.bool x6.2.2)],.box 36 [.d (.int 0),.d (.int 0),.d (.bool false),.d (.int 0),.d (eA x6.1)]]⟩ ?_ λsA10=>?_
  ·refine .step 4 [8] (by decide +kernel) (.cons (i:=4) I (.p I (.ix I U22 S3 q10) (.nil ⟨I,I⟩)) ?_ (.cons (i:=8) I (.store I I I I I I (.ofD I) C3 I (yi I) (.nil ⟨I,I⟩)) ?_ .nil))
   ·exact .keepT [0,2,4,6,7,8,46,48,51] (.c8 I<|.c I .nil) (.to #[true,true,true,true,true,false,true,true,false,false,false,false] (by decide +kernel) sA6)
   ·exact .keepT [0,2,4,6,7,8,47] (.c4 I<|.c2 I<|.c I .nil) (.to #[true,true,true,true,false,false,true,true,true,false,false,false] (by decide +kernel) sA7)
  refine .via 7 #[true,true,true,true,true,false,false,false,false,false,false,false] ⟨[(0,.d (.str t0)),(2,.loc 0 0),(4,.loc 1 0),(6,.loc 2 0),(7,.d (eA x3.1)),(8,.d (eC x4.1)),(46,.d (.int x9)),(48,.d (.ref (.int x10)))],[.box 36 [.d (.int 0),.d (.int 0),.d (.bool false),.d (.int 0),.d (eA [])],.box 132 [.d (eC x6.2.1),.d (.bool x6.2.2)],.box 36 [.d (.int 0),.d (.int 0),.d (.bool false),.d (.int 0),.d (eA x6.1)]]⟩ ?_ λsA11=>?_
  ·refine .step 5 [6] (by decide +kernel) (.cons (i:=5) I (.p I (.ld Y3 I) (.nil ⟨I,I⟩)) ?_ (.cons (i:=6) I (.p I (.fieldAddrLoc I I I F36_0) (.nil ⟨I,I⟩)) ?_ .nil))
   ·exact .keepT [0,2,4,6,7,8,46,49] (.c8 I .nil) (.to #[true,true,true,true,true,true,false,false,false,false,false,false] (by decide +kernel) sA8)
   ·exact .keepT [0,2,4,6,7,8,46,48,50] (.c8 I<|.c I .nil) (.to #[true,true,true,true,true,false,true,false,false,false,false,false] (by decide +kernel) sA9)
  refine .via 7 #[true,true,true,true,false,false,true,false,false,false,false,false] ⟨[(0,.d (.str t0)),(2,.loc 0 0),(4,.loc 1 0),(6,.loc 2 0),(7,.d (eA x3.1)),(8,.d (eC x4.1)),(46,.d (.int x9)),(47,.d (eA x3.1)),(50,.loc 2 0)],[.box 36 [.d (.int 0),.d (.int 0),.d (.bool false),.d (.int 0),.d (eA [])],.box 132 [.d (eC x6.2.1),.d (.bool x6.2.2)],.box 36 [.d (.int 0),.d (.int 0),.d (.bool false),.d (.int 0),.d (eA x6.1)]]⟩ ?_ λsA12=>?_
  ·refine .step 4 [7] (by decide +kernel) (.cons (i:=4) I (.p I (.ix I U22 S3 q10) (.nil ⟨I,I⟩)) ?_ (.cons (i:=7) I (.p I (.fieldAddrLoc I I I F34_0) (.nil ⟨I,I⟩)) ?_ .nil))
   ·exact .keepT [0,2,4,6,7,8,46,48,50] (.c8 I<|.c I .nil) (.to #[true,true,true,true,true,false,true,false,false,false,false,false] (by decide +kernel) sA9)
   ·exact .keepT [0,2,4,6,7,8,46,47,51] (.c8 I<|.c I .nil) (.to #[true,true,true,true,false,false,true,true,false,false,false,false] (by decide +kernel) sA10)
  refine .via 7 #[true,true,false,true,true,true,false,false,false,false,false,false] ⟨[(0,.d (.str t0)),(2,.loc 0 0),(4,.loc 1 0),(6,.loc 2 0),(7,.d (eA x3.1)),(8,.d (eC x4.1)),(45,.d (.ref (.int x9))),(49,.d (.int x10))],[.box 36 [.d (.int 0),.d (.int 0),.d (.bool false),.d (.int 0),.d (eA [])],.box 132 [.d (eC x6.2.1),.d (.bool x6.2.2)],.box 36 [.d (.int 0),.d (.int 0),.d (.bool false),.d (.int 0),.d (eA x6.1)]]⟩ ?_ λsA13=>?_
  ·refine .step 2 [] (by decide +kernel) (.cons (i:=2) I (.p I (.ld Y3 I) (.nil ⟨I,I⟩)) ?_ .nil)
   exact .keepT [0,2,4,6,7,8,46,49] (.c8 I .nil) (.to #[true,true,true,true,true,true,false,false,false,false,false,false] (by decide +kernel) sA8)
  refine .via 8 #[true,true,true,true,false,false,false,false,false,false,false,false] ⟨[(0,.d (.str t0)),(2,.loc 0 0),(4,.loc 1 0),(6,.loc 2 0),(7,.d (eA x3.1)),(8,.d (eC x4.1)),(46,.d (.int x9)),(47,.d (eA x3.1))],[.box 36 [.d (.int 0),.d (.int 0),.d (.bool false),.d (.int 0),.d (eA [])],.box 132 [.d (eC x6.2.1),.d (.bool x6.2.2)],.box 36 [.d (.int 0),.d (.int 0),.d (.bool false),.d (.int 0),.d (eA x6.1)]]⟩ ?_ λsA14=>?_
  ·refine .step 4 [6] (by decide +kernel) (.cons (i:=4) I (.p I (.ix I U22 S3 q10) (.nil ⟨I,I⟩)) ?_ (.cons (i:=6) I (.p I (.fieldAddrLoc I I I F36_0) (.nil ⟨I,I⟩)) ?_ .nil))
   ·exact .keepT [0,2,4,6,7,8,46,48] (.c8 I .nil) (.to #[true,true,true,true,true,false,false,false,false,false,false,false] (by decide +kernel) sA11)
   ·exact .keepT [0,2,4,6,7,8,46,47,50] (.c8 I<|.c I .nil) (.to #[true,true,true,true,false,false,true,false,false,false,false,false] (by decide +kernel) sA12)
  refine .via 8 #[true,true,false,true,true,false,false,false,false,false,false,false] ⟨[(0,.d (.str t0)),(2,.loc 0 0),(4,.loc 1 0),(6,.loc 2 0),(7,.d (eA x3.1)),(8,.d (eC x4.1)),(45,.d (.ref (.int x9))),(48,.d (.ref (.int x10)))],[.box 36 [.d (.int 0),.d (.int 0),.d (.bool false),.d (.int 0),.d (eA [])],.box 132 [.d (eC x6.2.1),.d (.bool x6.2.2)],.box 36 [.d (.int 0),.d (.int 0),.d (.bool false),.d (.int 0),.d (eA x6.1)]]⟩ ?_ λsA15=>?_
  ·refine .step 2 [5] (by decide +kernel) (.cons (i:=2) I (.p I (.ld Y3 I) (.nil ⟨I,I⟩)) ?_ (.cons (i:=5) I (.p I (.ld Y3 I) (.nil ⟨I,I⟩)) ?_ .nil))
   ·exact .keepT [0,2,4,6,7,8,46,48] (.c8 I .nil) (.to #[true,true,true,true,true,false,false,false,false,false,false,false] (by decide +kernel) sA11)
   ·exact .keepT [0,2,4,6,7,8,45,49] (.c8 I .nil) (.to #[true,true,false,true,true,true,false,false,false,false,false,false] (by decide +kernel) sA13)
  refine .via 8 #[true,false,false,true,true,true,false,false,false,false,false,false] ⟨[(0,.d (.str t0)),(2,.loc 0 0),(4,.loc 1 0),(6,.loc 2 0),(7,.d (eA x3.1)),(8,.d (eC x4.1)),(44,.d (eA x3.1)),(49,.d (.int x10))],[.box 36 [.d (.int 0),.d (.int 0),.d (.bool false),.d (.int 0),.d (eA [])],.box 132 [.d (eC x6.2.1),.d (.bool x6.2.2)],.box 36 [.d (.int 0),.d (.int 0),.d (.bool false),.d (.int 0),.d (eA x6.1)]]⟩ ?_ λsA16=>?_
  ·refine .step 1 [] (by decide +kernel) (.cons (i:=1) I (.p I (.ix I U22 S3 q9) (.nil ⟨I,I⟩)) ?_ .nil)
   exact .keepT [0,2,4,6,7,8,45,49] (.c8 I .nil) (.to #[true,true,false,true,true,true,false,false,false,false,false,false] (by decide +kernel) sA13)
  refine .via 9 #[true,true,false,true,false,false,false,false,false,false,false,false] ⟨[(0,.d (.str t0)),(2,.loc 0 0),(4,.loc 1 0),(6,.loc 2 0),(7,.d (eA x3.1)),(8,.d (eC x4.1)),(45,.d (.ref (.int x9))),(47,.d (eA x3.1))],[.box 36 [.d (.int 0),.d (.int 0),.d (.bool false),.d (.int 0),.d (eA [])],.box 132 [.d (eC x6.2.1),.d (.bool x6.2.2)],.box 36 [.d (.int 0),.d (.int 0),.d (.bool false),.d (.int 0),.d (eA x6.1)]]⟩ ?_ λsA17=>?_
  ·refine .step 2 [4] (by decide +kernel) (.cons (i:=2) I (.p I (.ld Y3 I) (.nil ⟨I,I⟩)) ?_ (.cons (i:=4) I (.p I (.ix I U22 S3 q10) (.nil ⟨I,I⟩)) ?_ .nil))
   ·exact .keepT [0,2,4,6,7,8,46,47] (.c8 I .nil) (.to #[true,true,true,true,false,false,false,false,false,false,false,false] (by decide +kernel) sA14)
   ·exact .keepT [0,2,4,6,7,8,45,48] (.c8 I .nil) (.to #[true,true,false,true,true,false,false,false,false,false,false,false] (by decide +kernel) sA15)
  refine .via 9 #[true,false,false,true,true,false,false,false,false,false,false,false] ⟨[(0,.d (.str t0)),(2,.loc 0 0),(4,.loc 1 0),(6,.loc 2 0),(7,.d (eA x3.1)),(8,.d (eC x4.1)),(44,.d (eA x3.1)),(48,.d (.ref (.int x10)))],[.box 36 [.d (.int 0),.d (.int 0),.d (.bool false),.d (.int 0),.d (eA [])],.box 132 [.d (eC x6.2.1),.d (.bool x6.2.2)],.box 36 [.d (.int 0),.d (.int 0),.d (.bool false),.d (.int 0),.d (eA x6.1)]]⟩ ?_ λsA18=>?_
  ·refine .step 1 [5] (by decide +kernel) (.cons (i:=1) I (.p I (.ix I U22 S3 q9) (.nil ⟨I,I⟩)) ?_ (.cons (i:=5) I (.p I (.ld Y3 I) (.nil ⟨I,I⟩)) ?_ .nil))
   ·exact .keepT [0,2,4,6,7,8,45,48] (.c8 I .nil) (.to #[true,true,false,true,true,false,false,false,false,false,false,false] (by decide +kernel) sA15)
   ·exact .keepT [0,2,4,6,7,8,44,49] (.c8 I .nil) (.to #[true,false,false,true,true,true,false,false,false,false,false,false] (by decide +kernel) sA16)
  refine .step 1 [4] (by decide +kernel) (.cons (i:=1) I (.p I (.ix I U22 S3 q9) (.nil ⟨I,I⟩)) ?_ (.cons (i:=4) I (.p I (.ix I U22 S3 q10) (.nil ⟨I,I⟩)) ?_ .nil))
  ·exact .keepT [0,2,4,6,7,8,45,47] (.c8 I .nil) (.to #[true,true,false,true,false,false,false,false,false,false,false,false] (by decide +kernel) sA17)
  ·exact .keepT [0,2,4,6,7,8,44,48] (.c8 I .nil) (.to #[true,false,false,true,true,false,false,false,false,false,false,false] (by decide +kernel) sA18)
theorem scenario_Parse_ok (n t0 t1 r) (h:zho n t0 t1=some r):Pure pg 21 [Model.enc t0,.str t1] (.tup [Scenario.enc r.1,.int r.2]):=by
 refine Pure.ot Tryz.func21 I Tryz.ntmps21 I λA w=>.S 1 I<|.allocZ I I I I (.agg Zc36 (ds':=[.int 0,.int 0,.bool false,.int 0,eA []]) (.e (.e (.e (.e .o1))))) I<|.A 1 I<|.nil<|.seq<|.S 1 I<|.p I (.len_str I U9 I)<|.A 1 I<|.nil<|.condS I h (λh=>?_) λh=>?_
 ·refine .sr<|.p I (.castD (Scenario.enc (⟨(⟨0,0,(⟨false,0⟩:Target)⟩:Question),[]⟩:Scenario)) I (.build I Pl36 (.agg Zc36 (ds':=[_,_,_,_,eA []]) (.e (.e (.e (.e .o1))))) I I))<|.store I I I I I I (.ofD I) C36 I (yi I)<|.A 1 I<|.nil<|.ret ?_
  cases h
  exact zdA I I Y36 (.v (.v (.v (.v .v1)))) I (.d _)
 ·refine .skip<|.S 1 I<|.Z h I (scenario_read_ok _ _) λx1 h=>.A 1 I<|.p I (.extract I I I)<|.p I (.extract I I I)<|.allocStore I I I I I I I I (by simp) I I Z36<|.A 1 I<|.nil<|.seq<|.sA 2 I<|.K [2,4,6,18] I<|.condS I h (λh=>?_) λh=>?_
  ·refine .sr<|.p I (.castD (Scenario.enc (⟨(⟨0,0,(⟨false,0⟩:Target)⟩:Question),[]⟩:Scenario)) I (.build I Pl36 (.agg Zc36 (ds':=[_,_,_,_,eA []]) (.e (.e (.e (.e .o1))))) I I))<|.store I I I I I I (.ofD I) C36 I (yi I)<|.A 1 I<|.nil<|.ret ?_
   cases h
   exact zdA I I Y36 (.v (.v (.v (.v .v1)))) I (.d _)
  ·refine .skip<|.seq<|.S 2 I<|.Z h I (zb1 _ _ _) λx2 h=>.A 1 I<|.nil<|.condS I h (λh=>?_) λh=>?_
   ·refine .sr<|.p I (.castD (Scenario.enc (⟨(⟨0,0,(⟨false,0⟩:Target)⟩:Question),[]⟩:Scenario)) I (.build I Pl36 (.agg Zc36 (ds':=[_,_,_,_,eA []]) (.e (.e (.e (.e .o1))))) I I))<|.store I I I I I I (.ofD I) C36 I (yi I)<|.A 1 I<|.nil<|.ret ?_
    cases h
    exact zdA I I Y36 (.v (.v (.v (.v .v1)))) I (.d _)
   ·refine .skip<|.S 1 I<|.store I I I I I I (.ofD I) C36 I (yi I)<|.A 1 I<|.nil<|.ret ?_
    cases h
    exact zdA I I Y36 (.v (.v (.v (.v .v1)))) I (.d _)
theorem zdm (n t0 t1 r) (h:zaL n t0 t1=some r):Pure pg 49 [Row.enc t0,eA t1] (.int r):=by
 refine Pure.ot Tryz.func49 I Tryz.ntmps49 I λA w=>.sA 2 I<|.sA 1 I<|.seq<|.sr<|.p I (.fa I (G69_0 _))<|.A 1 I<|.p I (.len I U67 I)<|.A 1 I<|.nil<|.block<|.L [1,9,10] h (λv=>[(5,.d (.int v.1)),(11,.d (.int v.2))]) (λv=>[]) I λ_ ⟨x9,x10⟩ h=>.sA 1 I<|.seq<|.condS I h (λh=>?_) λh=>?_
 ·refine .skip<|.seq<|.block<|.sr<|.X h I λx12 h=>.A 1 I<|.allocStore I I I I I I I I (by simp) I I Z77<|.nil<|.draw 11 Hm (by kernel_rfl) (by kernel_rfl)<|.A 1 I<|.p I (.fa I (G77_1 _))<|.A 2 I<|.p I (.fa I (G77_0 _))<|.A 1 I<|.X h I λx13 h=>.A 4 I<|.nil<|.nil<|.rA 2 I (ndE h I)
 ·refine .exit<|.sA 2 I<|.ret (rO h I)
theorem digraph_open_ok (n t0 t1 r) (h:zeK n t0 t1=some r):Pure pg 194 [.int t0,eJ t1] (.tup [DGraph.enc r.1,.bool r.2]):=by
 refine Pure.ot Tryz.func194 I Tryz.ntmps194 I λA w=>.sr<|.allocZ I I I I (.agg Zc218 (ds':=[.int 0,eJ []]) (.e .o1)) I<|.A 1 I<|.nil<|.seq<|.plain 17 I<|.A 2 I<|.p I (.castD (DGraph.enc (⟨t0,t1⟩:DGraph)) I (.build I Pl218 (.agg Zc218 (ds':=[_,_]) (.e .e1)) I I))<|.A 3 I<|.jA 2 (decide (t0≤6)) I (λb1=>?_) ?_
 ·refine .A 2 I<|.nil I
 refine .A 1 I<|.jA 6 ((t1.length:Int)==(mul64 t0 t0)) I (λb2=>?_) ?_
 ·refine .A 1 I<|.q I (.len I U108 I)<|.A 4 I<|.nil I
 refine .nil<|.store I I I I I I (.ofD I) C218 I (yi I)<|.A 1 I<|.nil<|.K [4,5] I<|.ret ?_
 cases h
 exact zdA I I Y218 (.v .v1) I (.d _)
theorem zgW (n t0 t1 t2 r) (h:zaS n t0 t1 t2=some r):Pure pg 233 [DGraph.enc t0,.int t1,.int t2] (.bool r):=by
 refine Pure.ot Tryz.func233 I Tryz.ntmps233 I λA w=>.sA 2 I<|.S 8 I<|.X h I λx1 h=>.A 2 I<|.nil<|.ret (rO h I)
theorem zfp (n t0 t1 r) (h:zad n t0 t1=some r):Pure pg 80 [eA t0,.int t1] (.int r):=by
 refine Pure.ot Tryz.func80 I Tryz.ntmps80 I λA w=>.sA 1 I<|.seq<|.S 1 I<|.p I (.len I U22 I)<|.A 1 I<|.nil<|.block<|.L [0,1,7] h (λv=>[(8,.d (.int v))]) (λv=>[]) I λ_ x5 h=>.sA 1 I<|.seq<|.condS I h (λh=>?_) λh=>?_
 ·refine .skip<|.seq<|.block<|.sA 2 I<|.S 3 I<|.X h I λx7 h=>.A 2 I<|.nil<|.condS I h (λh=>?_) λh=>?_
  ·refine .sA 2 I<|.ret (rO h I)
  ·refine .skip<|.rA 2 I (ndE h I)
 ·refine .exit<|.sA 1 I<|.ret (rO h I)
theorem zeB (n t0 t1 r) (h:zaV n t0 t1=some r):Pure pg 32 [eA t0,.int t1] (.bool r):=by
 refine Pure.ot Tryz.func32 I Tryz.ntmps32 I λA w=>.sA 1 I<|.S 2 I<|.Z h I (zfp _ _ _) λx1 h=>.A 2 I<|.nil<|.ret (rO h I)
section
variable [Drw]
theorem cmp_Or_int_ok (n t0 r) (h:zcC n t0=some r):Pure pg 236 [eA t0] (.int r):=by
 refine Pure.ot Tryz.func236 I Tryz.ntmps236 I λA w=>.sA 1 I<|.sA 1 I<|.seq<|.S 1 I<|.p I (.len I U22 I)<|.A 1 I<|.nil<|.block<|.L [3,6,7] h (λv=>[(8,.d (.int v))]) (λv=>[]) I λ_ x5 h=>.sA 1 I<|.seq<|.condS I h (λh=>?_) λh=>?_
 ·refine .skip<|.seq<|.block<|.sr<|.X h I λx7 h=>.A 2 I<|.nil<|.sA 3 I<|.condS I h (λh=>?_) λh=>?_
  ·refine .sA 2 I<|.ret (rO h I)
  ·refine .skip<|.rA 2 I (ndE h I)
 ·refine .exit<|.sA 2 I<|.ret (rO h I)
end
section
variable [Drw]
theorem zhN (n t0 t1 r) (h:zcn n t0 t1=some r):Pure pg 197 [eA t0,eA t1] (.int r):=by
 refine Pure.ot Tryz.func197 I Tryz.ntmps197 I λA w=>.sA 1 I<|.S 1 I<|.p I (.len I U22 I)<|.A 1 I<|.p I (.len I U22 I)<|.Z h I (zeI _ _ _) λx1 h=>.A 2 I<|.Z h I (zcK _ _ _) λx2 h=>.p I (.buildSl [_,_] I I E22 I (λ_=>I) I (enc:=D.int))<|.Z h I (cmp_Or_int_ok _ _) λx3 h=>.A 1 I<|.nil<|.ret (rO h I)
end
end
section
variable [Env]
abbrev LI (l:List Int):D:=.sl 1 (l.map D.int)
abbrev yfn (l:Nat):D:=.fn (.yield l) [] []
abbrev HT (out:List (List Int)):List Blk:=[.box 142 [.vec 1 out.length],.vec 22 1 (out.map LI)]
abbrev HH (g:DGraph) (l:Nat) (out:List (List Int)):List Blk:=[.box 142 [.vec 1 out.length],.vec 22 1 (out.map LI),.box 39 [.fn (.func 232) [] [.d (.ref g.enc),.d (.ref (yfn l)),.loc 2 0]]]
theorem dK232:callable pg 232=true:=by kernel_rfl
theorem dK195:callable pg 195=true:=by kernel_rfl
theorem dK196:callable pg 196=true:=by kernel_rfl
theorem dK197:callable pg 197=true:=by kernel_rfl
theorem dK194:callable pg 194=true:=by kernel_rfl
theorem dK233:callable pg 233=true:=by kernel_rfl
theorem dK32:callable pg 32=true:=by kernel_rfl
theorem dK96:callable pg 96=true:=by kernel_rfl
theorem dY39:zE pg 39=some none:=by kernel_rfl
theorem dY142:zE pg 142=some none:=by kernel_rfl
theorem dC39:cellsOf pg 39=some 1:=by kernel_rfl
theorem dC142:cellsOf pg 142=some 1:=by kernel_rfl
theorem dZa39:zb3 pg 39=some .nilFunc:=by kernel_rfl
theorem dZa142:zb3 pg 142=some (.slice none 0 0):=by kernel_rfl
theorem dZ218:zaW pg 218 (some 2)=true:=by kernel_rfl
theorem bearsB {P : Program} {f : FuncId} {B : Func} (h : (P.funcs[f]?).isSome = true) (hn : (((P.funcs[f]?).get h).name == "runtime.NumGoroutine") = false) (he : P.funcs[f]? = some { B with name := ((P.funcs[f]?).get h).name }) : Go.Proofs.Bears P f B := ⟨_, hn, he⟩
def Tryz.sortLL_ren:Go.Shelf.Ren:=⟨fun | 6=>196 | 15=>235 | 14=>234 | 28=>261 | 29=>228 | 20=>253 | 21=>254 | 22=>255 | 23=>256 | 24=>257 | 25=>258 | 26=>259 | 27=>260 | 46=>279 | 47=>280 | 48=>281 | 49=>282 | 50=>283 | 57=>289 | n=>n,fun | 22=>142 | 24=>22 | 25=>146 | 3=>3 | 39=>201 | 0=>0 | 53=>237 | 55=>212 | 4=>4 | 46=>277 | 45=>276 | 50=>281 | 5=>5 | 9=>9 | 66=>298 | 70=>190 | 76=>304 | 77=>169 | n=>n,fun | n=>n⟩
theorem Tryz.sortLL:Go.Proofs.SlLaysF.n6 pg Tryz.sortLL_ren:=by
 constructor <;> first | kernel_rfl | (intro w;kernel_rfl) | exact bearsB (by kernel_rfl) (by kernel_rfl) (by kernel_rfl)
theorem dE142:zbW pg 142 22 1 24=true:=by kernel_rfl
theorem Tri.seqJ [Globs] {P:Program} {C:Ctx} {Q:Exit→St→Prop} {s:St} {x y:Code} (J:St→Prop) (hy:∀ s,J s→Tri P C y Q s) (hx:Tri P C x (thenQ J Q) s):Tri P C (.seq x y) Q s:=
 .seq (hx.mono λe s h=>by cases e <;> first | exact hy s h | exact h)
theorem TriL.visit {G:Globs} {g:DGraph} {l:Nat} {rec:Loop} {xs:List Int} {out out2:List (List Int)} {T1:List (Nat×V)}
  (IH:∀ (A0 own0:Nat→Prop) (w0:World) (gh:List (V×Value)),Serves ⟨A0,own0,w0,57,λ_ _=>False,gh,3,[]⟩ l rec T1→Tri pg ⟨A0,own0,w0,57,λ_ _=>False,gh,3,[]⟩ (bodyOf pg 232) (retV [.tmp 5] λv H2=>v = .d (.bool true)∧∃ X,H2=HH g l out2++X)
   ⟨zdY 0 [.d (LI xs),.d (.ref g.enc),.d (.ref (yfn l)),.loc 2 0],HH g l out⟩)
  {C:Ctx} {ops:Array Oper} {o:Oper} {rest:List Oper} {Q:Exit→St→Prop} {T:List (Nat×V)} {d:Nat} (hg:o.guard=none) (hd:o.dst=some d) (hdn:Nat.blt d C.n=true) (hc:CallV pg o (ev T) 232 [.d (LI xs),.d (.ref g.enc),.d (.ref (yfn l)),.loc 2 0])
  (hu:(T.all λp=>p.2.under 3)=true) (hgn:Nat.ble C.gn 3=true) (hs:Serves C l rec T1) (hT:Sub ((d,.d (.bool true))::T) ((d,.d (.bool true))::T))
  (kk:TriL pg C ops rest Q ⟨(d,.d (.bool true))::T,HH g l out2⟩):TriL pg C ops (o::rest) Q ⟨T,HH g l out⟩:=by
 refine TriL.inlineG (rs:=[.tmp 5]) hg (by rw [hd];simpa [dstOK] using hdn) hc Tryz.func232 rfl Tryz.ntmps232 rfl rfl hu hgn λown0 w gh h1 h2=>?_
 have ih:=IH C.A0 own0 w gh ⟨h1 _ hs.1,λq hq=>h2 _ (hs.2 q hq)⟩
 rw [ze7 Tryz.func232 rfl] at ih
 refine ih.mono λe s ⟨he,vs,hv,hr,X,hX⟩=>⟨he,vs,hv,?_⟩
 rw [hr,hX,hd]
 exact TriL.ge (t:=⟨(d,.d (.bool true))::T,HH g l out2⟩) ⟨X,rfl,rfl,by simpa [V.under,um] using hu,hT⟩ hgn kk
set_option maxRecDepth 10000 in
theorem visit_tri {G1:Globs} [G:Globs] {l:Nat} {rec:Loop} {ia ib ic:Nat} {ra rb:List Oper} (hGs : @Globs.gs G=(l,.loop rec)::@Globs.gs G1) (hGE:∀ q∈@Globs.gs G1,q.1≠l) (hsub:∀ p∈@Globs.gs globs,p∈@Globs.gs G)
  (hrec:rec.state = .ready∧rec.pending=none∧rec.params = #[19]∧rec.tmps.size=27) (hasg:rec.assign = .region ia ra.toArray false) (hbd:rec.body = .block ib (.region ic rb.toArray false)) (hda:(ra.all zep)=true) (hdb:(rb.all zep)=true) (n:Nat) (g:DGraph)
  (hY:∀ (A0 own0:Nat→Prop) (w:World) (gh:List (V×Value)) (out out':List (List Int)) (z:List Int),app 24 out [z]=some out'→@TriL G1 _ pg ⟨A0,own0,w,27,λ_ _=>False,gh,3,[]⟩ ra.toArray ra (λe s1=>e = .normal∧∀ (own0:Nat→Prop) (w:World),
   @TriL G1 _ pg ⟨A0,own0,w,27,λ_ _=>False,gh,3,[]⟩ rb.toArray rb (λe s2=>e = .normal∧s2.H=HH g l out') s1) ⟨(19,.d (LI z))::[(7,.loc 0 0)],HH g l out⟩) :
  ∀ (k:Nat) (xs:List Int) (out out2:List (List Int)),zT n g k xs out=some out2→∀ (A0 own0:Nat→Prop) (w0:World) (gh:List (V×Value)),Serves ⟨A0,own0,w0,57,λ_ _=>False,gh,3,[]⟩ l rec [(7,.loc 0 0)] →
   Tri pg ⟨A0,own0,w0,57,λ_ _=>False,gh,3,[]⟩ (bodyOf pg 232) (retV [.tmp 5] λv H2=>v = .d (.bool true)∧∃ X,H2=HH g l out2++X) ⟨zdY 0 [.d (LI xs),.d (.ref g.enc),.d (.ref (yfn l)),.loc 2 0],HH g l out⟩
 | 0,xs,out,out2,h,_,_,_,_,_=>by simp [zT] at h
 | k+1,xs,out,out2,h,A0,own0,w0,gh,hs=>by
  have hasP:∀ n (g:DGraph) a b r,zaS n g a b=some r→Pure pg 233 [DGraph.enc g,.int a,.int b] (.bool r):=λ_ _ _ _ _ h=>Pure.widen hsub (zgW _ _ _ _ _ h)
  have hasP:∀ n a b r,zaS n g a b=some r→Pure pg 233 [DGraph.enc g,.int a,.int b] (.bool r):=λn a b r h=>hasP n g a b r h
  have contP:∀ n b r,zaV n xs b=some r→Pure pg 32 [eA xs,.int b] (.bool r):=λ_ _ _ h=>Pure.widen hsub (zeB _ _ _ _ h)
  have cloneP:∀ ys zs,app 8 [] ys=some zs→Pure pg 96 [eA ys] (eA zs):=λ_ _ h=>clone_pure Tryz.func96 rfl Tryz.ntmps96 rfl E22 rfl (λ_=>rfl) (λ_=>rfl) h
  have hgn3:Nat.ble (Ctx.gn ⟨A0,own0,w0,57,λ_ _=>False,gh,3,[]⟩) 3=true:=rfl
  have IH:=visit_tri hGs hGE hsub hrec hasg hbd hda hdb n g hY k
  rw [ze7 Tryz.func232 rfl]
  simp only [zT] at h
  refine .sr <| .z I <| .nil <| .sr <| .m I <| .m I <| .p I (.len I U22 I) <| .p I (.sb I) <| bK h λlast ql h=>.p I (.ix I U22 S3 ql) <| .p I (.ld Y3 I) <| .z I <| .nil ?_
  obtain ⟨first,qf,h⟩:=bindS h
  obtain ⟨e,he,h⟩:=bindS h
  refine Tri.seqJ (λs=>∃ out1,loopF (zT.l1 n g (zT n g k) xs last) n (add64 first 1,out1)=some out2∧s=⟨[(0,.d (LI xs)),(1,.d (.ref g.enc)),(2,.d (.ref (yfn l))),(3,.loc 2 0),(6,.d (.int last)),(26,.d (.bool false))],HH g l out1⟩) ?_ ?_
  ·rintro s ⟨out1,h,rfl⟩
   refine .seq <| .seq <| .region <| .m I <| .p I (.ix I U22 S3 qf) <| .p I (.ld Y3 I) <| .p I (.ad I) <| .z I <| .nil ?_
   refine .block <| .loopS [0,1,2,3,6] (λ(v:Int×List (List Int))=>[(7,.d (.int v.1))]) (λv=>[(0,.box 142 [.vec 1 v.2.length]),(1,.vec 22 1 (v.2.map LI))]) (.c4 I <| .c I .nil) h ⟨_,Fz8 I <| FzE⟩ (λrec' v h=>?_)
   refine .seq <| .seq <| .region <| .m I <| .p I (.fa I (G218_0 _)) <| .p I (.ld Y3 I) <| .p I (.ls I) <| .nil <| .keep (HH g l v.2) [0,1,2,3,6,7,34] (.c4 I <| .c2 I <| .c I .nil) I <| .condS I h (λh=>?_) λh=>?_
   ·obtain ⟨e2,he2,h⟩:=bindS h
    refine .skip <| Tri.seqJ (λs=>∃ out1,rec' (add64 v.1 1,out1)=some out2∧s=⟨[(0,.d (LI xs)),(1,.d (.ref g.enc)),(2,.d (.ref (yfn l))),(3,.loc 2 0),(6,.d (.int last)),(7,.d (.int v.1)),(56,.d (.bool false))],HH g l out1⟩) ?_ ?_
    ·rintro s ⟨out1,h,rfl⟩
     refine .region <| .m I <| .p I (.ad I) <| .z I <| .nil ⟨_,h,⟨_,Fz8 I <| FzE⟩⟩
    refine .block <| .seq <| .drawI 20 Hm I ?_
    cases e2 with
    | false=>
     rw [if_neg (by simp)] at h
     refine .first 1 rfl (by decide +kernel) rfl (.none rfl) ?_
     refine .first 2 rfl (by decide +kernel) rfl (.none rfl) ?_
     refine .step 0 [] (by decide +kernel) (.cons (i:=0) rfl (OneI.of rfl (.p I (.ld Y218 I) (.nil ⟨rfl,rfl⟩))) ?_ .nil)
     refine .step 3 [] (by decide +kernel) (.cons (i:=3) rfl (OneI.of rfl (.p I (.call I dK233 I (hasP _ _ _ _ he2)) (.nil ⟨rfl,rfl⟩))) ?_ .nil)
     refine .first 4 rfl (by decide +kernel) rfl (.none rfl) ?_
     refine .skip 5 rfl (by decide +kernel) rfl rfl (.some rfl) ?_
     refine .skip 6 rfl (by decide +kernel) rfl rfl (.some rfl) ?_
     refine .step 7 [] (by decide +kernel) (.cons (i:=7) rfl (OneI.no rfl (.some rfl)) ?_ .nil)
     refine .skip 8 rfl (by decide +kernel) rfl rfl (.some rfl) ?_
     refine .step 9 [] (by decide +kernel) (.cons (i:=9) rfl (OneI.of rfl (.p I (.pick (b:=false) (v:=.d (.bool false)) I I (λh=>by cases h) (λ_=>rfl)) (.nil ⟨rfl,rfl⟩))) ?_ .nil)
     refine .first 10 rfl (by decide +kernel) rfl (.none rfl) ?_
     refine .skip 11 rfl (by decide +kernel) rfl rfl (.some rfl) ?_
     refine .skip 12 rfl (by decide +kernel) rfl rfl (.some rfl) ?_
     refine .skip 14 rfl (by decide +kernel) rfl rfl (.some rfl) ?_
     refine .skip 15 rfl (by decide +kernel) rfl rfl (.some rfl) ?_
     refine .step 13 [] (by decide +kernel) (.cons (i:=13) rfl (OneI.no rfl (.some rfl)) ?_ .nil)
     refine .step 16 [] (by decide +kernel) (.cons (i:=16) rfl (OneI.no rfl (.some rfl)) ?_ .nil)
     refine .step 17 [] (by decide +kernel) (.cons (i:=17) rfl (OneI.no rfl (.some rfl)) ?_ .nil)
     refine .skip 18 rfl (by decide +kernel) rfl rfl (.some rfl) ?_
     refine .step 19 [] (by decide +kernel) (.cons (i:=19) rfl (OneI.of rfl (.p I (.pick (b:=false) (v:=.d (.bool false)) I I (λh=>by cases h) (λ_=>rfl)) (.nil ⟨rfl,rfl⟩))) ?_ .nil)
     refine .done (by decide +kernel) ?_
     refine .keep (HH g l v.2) [0,1,2,3,6,7,56] (.c4 I <| .c2 I <| .c I .nil) I ?_
     refine .cond (t:=false) rfl (λh=>by cases h) (λ_=>.skip ?_)
     exact ⟨_,h,rfl⟩
    | true=>
     rw [if_pos rfl] at h
     obtain ⟨f,hf,h⟩:=bindS h
     cases f with
     | true=>
      rw [if_pos rfl] at h
      refine .first 1 rfl (by decide +kernel) rfl (.none rfl) ?_
      refine .first 2 rfl (by decide +kernel) rfl (.none rfl) ?_
      refine .step 0 [] (by decide +kernel) (.cons (i:=0) rfl (OneI.of rfl (.p I (.ld Y218 I) (.nil ⟨rfl,rfl⟩))) ?_ .nil)
      refine .step 3 [] (by decide +kernel) (.cons (i:=3) rfl (OneI.of rfl (.p I (.call I dK233 I (hasP _ _ _ _ he2)) (.nil ⟨rfl,rfl⟩))) ?_ .nil)
      refine .first 4 rfl (by decide +kernel) rfl (.none rfl) ?_
      refine .first 5 rfl (by decide +kernel) rfl (.some rfl) ?_
      refine .first 6 rfl (by decide +kernel) rfl (.some rfl) ?_
      refine .step 7 [] (by decide +kernel) (.cons (i:=7) rfl (OneI.ofG rfl (.some rfl) (.p I (.call I dK32 I (contP _ _ _ hf)) (.nil ⟨rfl,rfl⟩))) ?_ .nil)
      refine .step 8 [] (by decide +kernel) (.cons (i:=8) rfl (OneI.ofG rfl (.some rfl) (.p I (.nt I) (.nil ⟨rfl,rfl⟩))) ?_ .nil)
      refine .step 9 [] (by decide +kernel) (.cons (i:=9) rfl (OneI.of rfl (.p I (.pick (b:=true) (v:=.d (.bool false)) I I (λ_=>rfl) (λh=>by cases h)) (.nil ⟨rfl,rfl⟩))) ?_ .nil)
      refine .first 10 rfl (by decide +kernel) rfl (.none rfl) ?_
      refine .skip 11 rfl (by decide +kernel) rfl rfl (.some rfl) ?_
      refine .skip 12 rfl (by decide +kernel) rfl rfl (.some rfl) ?_
      refine .skip 14 rfl (by decide +kernel) rfl rfl (.some rfl) ?_
      refine .skip 15 rfl (by decide +kernel) rfl rfl (.some rfl) ?_
      refine .step 13 [] (by decide +kernel) (.cons (i:=13) rfl (OneI.no rfl (.some rfl)) ?_ .nil)
      refine .step 16 [] (by decide +kernel) (.cons (i:=16) rfl (OneI.no rfl (.some rfl)) ?_ .nil)
      refine .step 17 [] (by decide +kernel) (.cons (i:=17) rfl (OneI.no rfl (.some rfl)) ?_ .nil)
      refine .skip 18 rfl (by decide +kernel) rfl rfl (.some rfl) ?_
      refine .step 19 [] (by decide +kernel) (.cons (i:=19) rfl (OneI.of rfl (.p I (.pick (b:=false) (v:=.d (.bool false)) I I (λh=>by cases h) (λ_=>rfl)) (.nil ⟨rfl,rfl⟩))) ?_ .nil)
      refine .done (by decide +kernel) ?_
      refine .keep (HH g l v.2) [0,1,2,3,6,7,56] (.c4 I <| .c2 I <| .c I .nil) I ?_
      refine .cond (t:=false) rfl (λh=>by cases h) (λ_=>.skip ?_)
      exact ⟨_,h,rfl⟩
     | false=>
      rw [if_neg (by simp)] at h
      obtain ⟨c2,hc2,h⟩:=bindS h
      obtain ⟨l2,hl2,h⟩:=bindS h
      obtain ⟨out3,ho3,h⟩:=bindS h
      refine TriI.via 3 #[true,true,true,true,true,true,true,true,true,true,true,true,true,true,true,true,true,false,false,false] ⟨[(0,.d (LI xs)),(1,.d (.ref g.enc)),(2,.d (.ref (yfn l))),(3,.loc 2 0),(6,.d (.int last)),(7,.d (.int v.1)),(47,.d (.bool true)),(48,.fn (.func 232) [] [.d (.ref g.enc),.d (.ref (yfn l)),.loc 2 0]),(53,.d (LI l2))],HH g l v.2⟩ ?_ λtail=>?_
      ·have visitCall:∀ {C:Ctx} {ops:Array Oper} {o:Oper} {rest:List Oper} {Q:Exit→St→Prop} {T:List (Nat×V)} {d:Nat},o.guard=none→o.dst=some d→Nat.blt d C.n=true→CallV pg o (ev T) 232 [.d (LI l2),.d (.ref g.enc),.d (.ref (yfn l)),.loc 2 0]→(T.all λp=>p.2.under 3)=true→Nat.ble C.gn 3=true →
         Serves C l rec [(7,.loc 0 0)]→Sub ((d,.d (.bool true))::T) ((d,.d (.bool true))::T)→TriL pg C ops rest Q ⟨(d,.d (.bool true))::T,HH g l out3⟩→TriL pg C ops (o::rest) Q ⟨T,HH g l v.2⟩:=λa1 a2 a3 a4 a5 a6 a7 a8 a9=>TriL.visit (IH _ _ _ ho3) a1 a2 a3 a4 a5 a6 a7 a8 a9
       refine .step 17 [] (by decide +kernel) (.cons (i:=17) rfl (OneI.ofG rfl (.some rfl) (visitCall rfl rfl rfl (CallV.clos (xs:=[.d (LI l2)]) (caps:=[.d (.ref g.enc),.d (.ref (yfn l)),.loc 2 0]) rfl rfl dK232 rfl) rfl rfl hs (Fz8 I <| Fz2 I trivial) (.nil ⟨rfl,rfl⟩))) ?_ .nil)
       refine .step 18 [] (by decide +kernel) (.cons (i:=18) rfl (OneI.ofG rfl (.some rfl) (.p I (.nt I) (.nil ⟨rfl,rfl⟩))) ?_ .nil)
       refine .step 19 [] (by decide +kernel) (.cons (i:=19) rfl (OneI.of rfl (.p I (.pick (b:=true) (v:=.d (.bool false)) I I (λ_=>rfl) (λh=>by cases h)) (.nil ⟨rfl,rfl⟩))) ?_ .nil)
       refine .done (by decide +kernel) ?_
       refine .keep (HH g l out3) [0,1,2,3,6,7,56] (.c4 I <| .c2 I <| .c I .nil) I ?_
       refine .cond (t:=false) rfl (λh=>by cases h) (λ_=>.skip ?_)
       exact ⟨_,h,rfl⟩
      refine .first 1 rfl (by decide +kernel) rfl (.none rfl) ?_
      refine .first 2 rfl (by decide +kernel) rfl (.none rfl) ?_
      refine .step 0 [] (by decide +kernel) (.cons (i:=0) rfl (OneI.of rfl (.p I (.ld Y218 I) (.nil ⟨rfl,rfl⟩))) ?_ .nil)
      refine .step 3 [] (by decide +kernel) (.cons (i:=3) rfl (OneI.of rfl (.p I (.call I dK233 I (hasP _ _ _ _ he2)) (.nil ⟨rfl,rfl⟩))) ?_ .nil)
      refine .first 4 rfl (by decide +kernel) rfl (.none rfl) ?_
      refine .first 5 rfl (by decide +kernel) rfl (.some rfl) ?_
      refine .first 6 rfl (by decide +kernel) rfl (.some rfl) ?_
      refine .step 7 [] (by decide +kernel) (.cons (i:=7) rfl (OneI.ofG rfl (.some rfl) (.p I (.call I dK32 I (contP _ _ _ hf)) (.nil ⟨rfl,rfl⟩))) ?_ .nil)
      refine .step 8 [] (by decide +kernel) (.cons (i:=8) rfl (OneI.ofG rfl (.some rfl) (.p I (.nt I) (.nil ⟨rfl,rfl⟩))) ?_ .nil)
      refine .step 9 [] (by decide +kernel) (.cons (i:=9) rfl (OneI.of rfl (.p I (.pick (b:=true) (v:=.d (.bool true)) I I (λ_=>rfl) (λh=>by cases h)) (.nil ⟨rfl,rfl⟩))) ?_ .nil)
      refine .first 10 rfl (by decide +kernel) rfl (.none rfl) ?_
      refine .first 12 rfl (by decide +kernel) rfl (.some rfl) ?_
      refine .first 14 rfl (by decide +kernel) rfl (.some rfl) ?_
      refine .step 11 [13,15] (by decide +kernel) (.cons (i:=11) rfl (OneI.ofG rfl (.some rfl) (.p I (.loadLoc1 I I I dY39 I) (.nil ⟨rfl,rfl⟩))) ?_ (.cons (i:=13) rfl (OneI.ofG rfl (.some rfl) (.clone I I I I dK96 Tryz.func96 I Tryz.ntmps96 I I E22 I (λ_=>I) (λ_=>I) hc2 I hgn3 (.nil ⟨rfl,rfl⟩))) ?_ (.cons (i:=15) rfl (OneI.ofG rfl (.some rfl) (.p I (.buildSl [_] I I E22 I (λ_=>I) I (enc:=D.int)) (.nil ⟨rfl,rfl⟩))) ?_ .nil)))
      ·refine .step 13 [15] (by decide +kernel) (.cons (i:=13) rfl (OneI.ofG rfl (.some rfl) (.clone I I I I dK96 Tryz.func96 I Tryz.ntmps96 I I E22 I (λ_=>I) (λ_=>I) hc2 I hgn3 (.nil ⟨rfl,rfl⟩))) ?_ (.cons (i:=15) rfl (OneI.ofG rfl (.some rfl) (.p I (.buildSl [_] I I E22 I (λ_=>I) I (enc:=D.int)) (.nil ⟨rfl,rfl⟩))) ?_ .nil))
       ·refine .step 15 [] (by decide +kernel) (.cons (i:=15) rfl (OneI.ofG rfl (.some rfl) (.p I (.buildSl [_] I I E22 I (λ_=>I) I (enc:=D.int)) (.nil ⟨rfl,rfl⟩))) ?_ .nil)
        refine .step 16 [] (by decide +kernel) (.cons (i:=16) rfl (OneI.ofG rfl (.some rfl) (.app I I I I I I I I E22 I (λ_=>I) hl2 (.freezes [3] (.cons (t:=53) rfl (.vec (inIds rfl) rfl (by simp)) .nil) (.nil ⟨rfl,rfl⟩)))) ?_ .nil)
        exact .keepT [0,1,2,3,6,7,47,48,53] (.c8 I <| .c I .nil) (.cut (HH g l v.2) ⟨_,rfl⟩ rfl rfl (Fz8 I <| FzE) hgn3 (.to _ (by decide +kernel) tail))
       ·refine .step 13 [] (by decide +kernel) (.cons (i:=13) rfl (OneI.ofG rfl (.some rfl) (.clone I I I I dK96 Tryz.func96 I Tryz.ntmps96 I I E22 I (λ_=>I) (λ_=>I) hc2 I hgn3 (.nil ⟨rfl,rfl⟩))) ?_ .nil)
        refine .step 16 [] (by decide +kernel) (.cons (i:=16) rfl (OneI.ofG rfl (.some rfl) (.app I I I I I I I I E22 I (λ_=>I) hl2 (.freezes [3] (.cons (t:=53) rfl (.vec (inIds rfl) rfl (by simp)) .nil) (.nil ⟨rfl,rfl⟩)))) ?_ .nil)
        exact .keepT [0,1,2,3,6,7,47,48,53] (.c8 I <| .c I .nil) (.cut (HH g l v.2) ⟨_,rfl⟩ rfl rfl (Fz8 I <| FzE) hgn3 (.to _ (by decide +kernel) tail))
      ·refine .step 11 [15] (by decide +kernel) (.cons (i:=11) rfl (OneI.ofG rfl (.some rfl) (.p I (.loadLoc1 I I I dY39 I) (.nil ⟨rfl,rfl⟩))) ?_ (.cons (i:=15) rfl (OneI.ofG rfl (.some rfl) (.p I (.buildSl [_] I I E22 I (λ_=>I) I (enc:=D.int)) (.nil ⟨rfl,rfl⟩))) ?_ .nil))
       ·refine .step 15 [] (by decide +kernel) (.cons (i:=15) rfl (OneI.ofG rfl (.some rfl) (.p I (.buildSl [_] I I E22 I (λ_=>I) I (enc:=D.int)) (.nil ⟨rfl,rfl⟩))) ?_ .nil)
        refine .step 16 [] (by decide +kernel) (.cons (i:=16) rfl (OneI.ofG rfl (.some rfl) (.app I I I I I I I I E22 I (λ_=>I) hl2 (.freezes [3] (.cons (t:=53) rfl (.vec (inIds rfl) rfl (by simp)) .nil) (.nil ⟨rfl,rfl⟩)))) ?_ .nil)
        exact .keepT [0,1,2,3,6,7,47,48,53] (.c8 I <| .c I .nil) (.cut (HH g l v.2) ⟨_,rfl⟩ rfl rfl (Fz8 I <| FzE) hgn3 (.to _ (by decide +kernel) tail))
       ·refine .step 11 [16] (by decide +kernel) (.cons (i:=11) rfl (OneI.ofG rfl (.some rfl) (.p I (.loadLoc1 I I I dY39 I) (.nil ⟨rfl,rfl⟩))) ?_ (.cons (i:=16) rfl (OneI.ofG rfl (.some rfl) (.app I I I I I I I I E22 I (λ_=>I) hl2 (.freezes [3] (.cons (t:=53) rfl (.vec (inIds rfl) rfl (by simp)) .nil) (.nil ⟨rfl,rfl⟩)))) ?_ .nil))
        ·refine .step 16 [] (by decide +kernel) (.cons (i:=16) rfl (OneI.ofG rfl (.some rfl) (.app I I I I I I I I E22 I (λ_=>I) hl2 (.freezes [3] (.cons (t:=53) rfl (.vec (inIds rfl) rfl (by simp)) .nil) (.nil ⟨rfl,rfl⟩)))) ?_ .nil)
         exact .keepT [0,1,2,3,6,7,47,48,53] (.c8 I <| .c I .nil) (.cut (HH g l v.2) ⟨_,rfl⟩ rfl rfl (Fz8 I <| FzE) hgn3 (.to _ (by decide +kernel) tail))
        ·refine .step 11 [] (by decide +kernel) (.cons (i:=11) rfl (OneI.ofG rfl (.some rfl) (.p I (.loadLoc1 I I I dY39 I) (.nil ⟨rfl,rfl⟩))) ?_ .nil)
         exact .keepT [0,1,2,3,6,7,47,48,53] (.c8 I <| .c I .nil) (.cut (HH g l v.2) ⟨_,rfl⟩ rfl rfl (Fz8 I <| FzE) hgn3 (.to _ (by decide +kernel) tail))
      ·refine .step 11 [13] (by decide +kernel) (.cons (i:=11) rfl (OneI.ofG rfl (.some rfl) (.p I (.loadLoc1 I I I dY39 I) (.nil ⟨rfl,rfl⟩))) ?_ (.cons (i:=13) rfl (OneI.ofG rfl (.some rfl) (.clone I I I I dK96 Tryz.func96 I Tryz.ntmps96 I I E22 I (λ_=>I) (λ_=>I) hc2 I hgn3 (.nil ⟨rfl,rfl⟩))) ?_ .nil))
       ·refine .step 13 [] (by decide +kernel) (.cons (i:=13) rfl (OneI.ofG rfl (.some rfl) (.clone I I I I dK96 Tryz.func96 I Tryz.ntmps96 I I E22 I (λ_=>I) (λ_=>I) hc2 I hgn3 (.nil ⟨rfl,rfl⟩))) ?_ .nil)
        refine .step 16 [] (by decide +kernel) (.cons (i:=16) rfl (OneI.ofG rfl (.some rfl) (.app I I I I I I I I E22 I (λ_=>I) hl2 (.freezes [3] (.cons (t:=53) rfl (.vec (inIds rfl) rfl (by simp)) .nil) (.nil ⟨rfl,rfl⟩)))) ?_ .nil)
        exact .keepT [0,1,2,3,6,7,47,48,53] (.c8 I <| .c I .nil) (.cut (HH g l v.2) ⟨_,rfl⟩ rfl rfl (Fz8 I <| FzE) hgn3 (.to _ (by decide +kernel) tail))
       ·refine .step 11 [16] (by decide +kernel) (.cons (i:=11) rfl (OneI.ofG rfl (.some rfl) (.p I (.loadLoc1 I I I dY39 I) (.nil ⟨rfl,rfl⟩))) ?_ (.cons (i:=16) rfl (OneI.ofG rfl (.some rfl) (.app I I I I I I I I E22 I (λ_=>I) hl2 (.freezes [3] (.cons (t:=53) rfl (.vec (inIds rfl) rfl (by simp)) .nil) (.nil ⟨rfl,rfl⟩)))) ?_ .nil))
        ·refine .step 16 [] (by decide +kernel) (.cons (i:=16) rfl (OneI.ofG rfl (.some rfl) (.app I I I I I I I I E22 I (λ_=>I) hl2 (.freezes [3] (.cons (t:=53) rfl (.vec (inIds rfl) rfl (by simp)) .nil) (.nil ⟨rfl,rfl⟩)))) ?_ .nil)
         exact .keepT [0,1,2,3,6,7,47,48,53] (.c8 I <| .c I .nil) (.cut (HH g l v.2) ⟨_,rfl⟩ rfl rfl (Fz8 I <| FzE) hgn3 (.to _ (by decide +kernel) tail))
        ·refine .step 11 [] (by decide +kernel) (.cons (i:=11) rfl (OneI.ofG rfl (.some rfl) (.p I (.loadLoc1 I I I dY39 I) (.nil ⟨rfl,rfl⟩))) ?_ .nil)
         exact .keepT [0,1,2,3,6,7,47,48,53] (.c8 I <| .c I .nil) (.cut (HH g l v.2) ⟨_,rfl⟩ rfl rfl (Fz8 I <| FzE) hgn3 (.to _ (by decide +kernel) tail))
   ·cases h
    refine .exit <| .sr <| .z I <| .nil <| .ret ⟨.inl rfl,[.d (.bool true)],⟨_,[],rfl,rfl,rfl⟩,rfl,[],rfl⟩
  ·refine .seq <| .drawI 13 Hm I ?_
   refine TriI.via 8 #[true,true,true,true,true,false,false,false,false,false,false,false,false] ⟨[(0,.d (LI xs)),(1,.d (.ref g.enc)),(2,.d (.ref (yfn l))),(3,.loc 2 0),(6,.d (.int last)),(14,.d g.enc),(15,.d (.int last)),(18,.d (.int first))],HH g l out⟩ ?_ λtail=>?_
   ·cases e with
    | false=>
     rw [if_neg (by simp)] at h
     refine .step 5 [] (by decide +kernel) (.cons (i:=5) rfl (OneI.of rfl (.p I (.call I dK233 I (hasP _ _ _ _ he)) (.nil ⟨rfl,rfl⟩))) ?_ .nil)
     refine .first 6 rfl (by decide +kernel) rfl (.none rfl) ?_
     refine .skip 7 rfl (by decide +kernel) rfl rfl (.some rfl) ?_
     refine .skip 8 rfl (by decide +kernel) rfl rfl (.some rfl) ?_
     refine .step 9 [] (by decide +kernel) (.cons (i:=9) rfl (OneI.no rfl (.some rfl)) ?_ .nil)
     refine .step 10 [] (by decide +kernel) (.cons (i:=10) rfl (OneI.no rfl (.some rfl)) ?_ .nil)
     refine .skip 11 rfl (by decide +kernel) rfl rfl (.some rfl) ?_
     refine .step 12 [] (by decide +kernel) (.cons (i:=12) rfl (OneI.of rfl (.p I (.pick (b:=false) (v:=.d (.bool false)) I I (λh=>by cases h) (λ_=>rfl)) (.nil ⟨rfl,rfl⟩))) ?_ .nil)
     refine .done (by decide +kernel) ?_
     refine .keep (HH g l out) [0,1,2,3,6,26] (.c4 I <| .c2 I .nil) I ?_
     refine .cond (t:=false) rfl (λh=>by cases h) (λ_=>.skip ?_)
     exact ⟨_,h,rfl⟩
    | true=>
     rw [if_pos rfl] at h
     obtain ⟨c,hc,h⟩:=bindS h
     obtain ⟨out1,ho1,h⟩:=bindS h
     refine TriI.via 3 #[true,true,true,true,true,true,true,true,true,true,false,false,false] ⟨[(0,.d (LI xs)),(1,.d (.ref g.enc)),(2,.d (.ref (yfn l))),(3,.loc 2 0),(6,.d (.int last)),(20,.d (.bool true)),(21,.d (yfn l)),(23,.d (LI c))],HH g l out⟩ ?_ λtail2=>?_
     ·have yieldBody:=λown0 w gh=>hY A0 own0 w gh out out1 c ho1
      refine .step 10 [] (by decide +kernel) (.cons (i:=10) rfl (OneI.yield (G1:=G1) hGs hGE hrec hasg hbd hda hdb hs rfl rfl rfl rfl rfl rfl rfl (.some rfl) rfl rfl λown0 w gh=>yieldBody own0 w gh) ?_ .nil)
      refine .step 11 [] (by decide +kernel) (.cons (i:=11) rfl (OneI.ofG rfl (.some rfl) (.p I (.nt I) (.nil ⟨rfl,rfl⟩))) ?_ .nil)
      refine .step 12 [] (by decide +kernel) (.cons (i:=12) rfl (OneI.of rfl (.p I (.pick (b:=true) (v:=.d (.bool false)) I I (λ_=>rfl) (λh=>by cases h)) (.nil ⟨rfl,rfl⟩))) ?_ .nil)
      refine .done (by decide +kernel) ?_
      refine .keep (HH g l out1) [0,1,2,3,6,26] (.c4 I <| .c2 I .nil) I ?_
      refine .cond (t:=false) rfl (λh=>by cases h) (λ_=>.skip ?_)
      exact ⟨_,h,rfl⟩
     refine .step 5 [] (by decide +kernel) (.cons (i:=5) rfl (OneI.of rfl (.p I (.call I dK233 I (hasP _ _ _ _ he)) (.nil ⟨rfl,rfl⟩))) ?_ .nil)
     refine .first 6 rfl (by decide +kernel) rfl (.none rfl) ?_
     refine .first 8 rfl (by decide +kernel) rfl (.some rfl) ?_
     refine .step 7 [9] (by decide +kernel) (.cons (i:=7) rfl (OneI.ofG rfl (.some rfl) (.p I (.ld dY39 I) (.nil ⟨rfl,rfl⟩))) ?_ (.cons (i:=9) rfl (OneI.ofG rfl (.some rfl) (.p I (.call I dK96 I (cloneP _ _ hc)) (.nil ⟨rfl,rfl⟩))) ?_ .nil))
     ·refine .step 9 [] (by decide +kernel) (.cons (i:=9) rfl (OneI.ofG rfl (.some rfl) (.p I (.call I dK96 I (cloneP _ _ hc)) (.nil ⟨rfl,rfl⟩))) ?_ .nil)
      exact .keepT [0,1,2,3,6,20,21,23] (.c8 I .nil) (.to _ (by decide +kernel) tail2)
     ·refine .step 7 [] (by decide +kernel) (.cons (i:=7) rfl (OneI.ofG rfl (.some rfl) (.p I (.ld dY39 I) (.nil ⟨rfl,rfl⟩))) ?_ .nil)
      exact .keepT [0,1,2,3,6,20,21,23] (.c8 I .nil) (.to _ (by decide +kernel) tail2)
   refine .first 1 rfl (by decide +kernel) rfl (.none rfl) ?_
   refine .first 2 rfl (by decide +kernel) rfl (.none rfl) ?_
   refine .step 0 [3] (by decide +kernel) (.cons (i:=0) rfl (OneI.of rfl (.p I (.ld Y218 I) (.nil ⟨rfl,rfl⟩))) ?_ (.cons (i:=3) rfl (OneI.of rfl (.p I (.ix I U22 S3 qf) (.nil ⟨rfl,rfl⟩))) ?_ .nil))
   ·refine .step 3 [] (by decide +kernel) (.cons (i:=3) rfl (OneI.of rfl (.p I (.ix I U22 S3 qf) (.nil ⟨rfl,rfl⟩))) ?_ .nil)
    refine .step 4 [] (by decide +kernel) (.cons (i:=4) rfl (OneI.of rfl (.p I (.ld Y3 I) (.nil ⟨rfl,rfl⟩))) ?_ .nil)
    exact .keepT [0,1,2,3,6,14,15,18] (.c8 I .nil) (.to _ (by decide +kernel) tail)
   ·refine .step 0 [4] (by decide +kernel) (.cons (i:=0) rfl (OneI.of rfl (.p I (.ld Y218 I) (.nil ⟨rfl,rfl⟩))) ?_ (.cons (i:=4) rfl (OneI.of rfl (.p I (.ld Y3 I) (.nil ⟨rfl,rfl⟩))) ?_ .nil))
    ·refine .step 4 [] (by decide +kernel) (.cons (i:=4) rfl (OneI.of rfl (.p I (.ld Y3 I) (.nil ⟨rfl,rfl⟩))) ?_ .nil)
     exact .keepT [0,1,2,3,6,14,15,18] (.c8 I .nil) (.to _ (by decide +kernel) tail)
    ·refine .step 0 [] (by decide +kernel) (.cons (i:=0) rfl (OneI.of rfl (.p I (.ld Y218 I) (.nil ⟨rfl,rfl⟩))) ?_ .nil)
     exact .keepT [0,1,2,3,6,14,15,18] (.c8 I .nil) (.to _ (by decide +kernel) tail)
theorem cycles_tri {G1:Globs} [G:Globs] {l:Nat} {rec:Loop} {ia ib ic:Nat} {ra rb:List Oper} (hGs : @Globs.gs G=(l,.loop rec)::@Globs.gs G1) (hGE:∀ q∈@Globs.gs G1,q.1≠l) (hsub:∀ p∈@Globs.gs globs,p∈@Globs.gs G)
  (hrec:rec.state = .ready∧rec.pending=none∧rec.params = #[19]∧rec.tmps.size=27) (hasg:rec.assign = .region ia ra.toArray false) (hbd:rec.body = .block ib (.region ic rb.toArray false)) (hda:(ra.all zep)=true) (hdb:(rb.all zep)=true) (n:Nat) (g:DGraph)
  (hY:∀ (A0 own0:Nat→Prop) (w:World) (gh:List (V×Value)) (out out':List (List Int)) (z:List Int),app 24 out [z]=some out'→@TriL G1 _ pg ⟨A0,own0,w,27,λ_ _=>False,gh,3,[]⟩ ra.toArray ra (λe s1=>e = .normal∧∀ (own0:Nat→Prop) (w:World),
   @TriL G1 _ pg ⟨A0,own0,w,27,λ_ _=>False,gh,3,[]⟩ rb.toArray rb (λe s2=>e = .normal∧s2.H=HH g l out') s1) ⟨(19,.d (LI z))::[(7,.loc 0 0)],HH g l out⟩)
  (out:List (List Int)) (h:loopF (digraph_cycles.l1 n g) n (0,[])=some out) (A0 own0:Nat→Prop) (w0:World) (gh:List (V×Value)) (hs:Serves ⟨A0,own0,w0,18,λ_ _=>False,gh,2,[]⟩ l rec [(7,.loc 0 0)]) :
  Tri pg ⟨A0,own0,w0,18,λ_ _=>False,gh,2,[]⟩ (bodyOf pg 195) (retV [] λ_ H2=>∃ X,H2=HT out++X) ⟨zdY 0 [.d g.enc,.d (yfn l)],HT []⟩:=by
 rw [ze7 Tryz.func195 rfl]
 refine .sr <| .p I (.bx I) <| .p I (.bx I) <| .nil <| .sr <| .alloc I I I I dZa39 <| .nil <| .sr <| .p I (.makeFuncV I I) <| .store I I I I I I (.cons .fn .nil) dC39 I (yi I) <| .nil <| .sr <| .p I (.fa I (G218_0 _)) <| .p I (.ld Y3 I) <| .m I <| .nil ?_
 refine .block <| .loopS [2,3,4,8] (λ(v:Int×List (List Int))=>[(9,.d (.int v.1))]) (λv=>[(0,.box 142 [.vec 1 v.2.length]),(1,.vec 22 1 (v.2.map LI))]) (.c4 I .nil) h ⟨_,Fz8 I trivial⟩ (λrec' v h=>?_)
 refine .sr <| .p I (.ls I) <| .nil <| .keep (HH g l v.2) [2,3,4,8,9,10] (.c4 I <| .c2 I .nil) I <| .seq <| .condS I h (λh=>?_) λh=>?_
 ·obtain ⟨out3,ho3,h⟩:=bindS h
  refine .skip <| .seq <| .block <| .sr <| .m I <| .z I <| .nil <| .sr <| .p I (.loadLoc1 I I I dY39 I) <| .m I <| .p I (.buildSl [_] I I E22 I (λ_=>I) I (enc:=D.int)) <| TriL.visit (visit_tri hGs hGE hsub hrec hasg hbd hda hdb n g hY n _ _ _ ho3) I I I (CallV.clos (xs:=[.d (LI [v.1])]) (caps:=[.d (.ref g.enc),.d (.ref (yfn l)),.loc 2 0]) I I dK232 I) I I hs (by repeat (first | exact trivial | refine ⟨rfl,?_⟩)) <| .p I (.nt I) <| .nil ?_
  refine .cond (t:=false) rfl (λh=>by cases h) (λ_=>.skip ?_)
  refine .region <| .p I (.ad I) <| .m I <| .nil ⟨_,h,⟨_,Fz8 I trivial⟩⟩
 ·cases h
  refine .exit ?_
  exact ⟨.inr rfl,[],rfl,_,rfl⟩
theorem ziy (n:Nat) (t0:Int) (t1:List Bool) (r:List (List Int)) (h:zcN n t0 t1=some r):Pure pg 148 [.int t0,eJ t1] (eN r):=by
 unfold zcN at h
 obtain ⟨o,ho,h⟩:=bindS h
 refine Pure.of_triM Tryz.func148 rfl (by rw [Tryz.ntmps148];simp) λA w=>?_
 rw [Tryz.ntmps148]
 refine .sr <| .p I (.nilS 1 (α:=List Int) LI I) <| .nil <| .sr <| .m I <| .m I <| .p I (.call I dK194 I (digraph_open_ok _ _ _ _ ho)) <| .m I <| .p I (.extract I I I) <| .p I (.extract I I I) <| .allocStore I I I I I I I I (by simp) I I dZ218 <| .z I <| .nil ?_
 refine .seq <| .sr <| .m I <| .p I (.nt I) <| .nil <| .condS I h (λh=>?_) λh=>?_
 ·refine .sr <| .p I (.nilS 1 (α:=List Int) LI I) <| .nil <| .ret ?_
  cases h
  exact zaH I (.d _)
 obtain ⟨out,ho2,hsort⟩:=bindS h
 refine .skip <| .sr <| .alloc I I I I dZa142 <| .nilCell 0 0 1 22 rfl rfl <| .nil <| .keep (HT []) [5,7] (.c2 I .nil) I ?_
 refine Tri.rangeFunc (K:=λH2=>∃ X,H2=HT out++X) (.region <| .p I (.ld Y218 I) <| .p I (.makeFunc1 I I) <| .nil ⟨rfl,rfl⟩) rfl dK195 Tryz.func195 rfl Tryz.ntmps195 rfl rfl rfl ?_ ?_
 ·intro l Dd rec own0 w1 gh G' hne hG' hGl hrec hasg hbd hown hgh
  obtain ⟨G1,hG1⟩:∃ G1:Globs,@Globs.gs G1=(Dd,.deferred (some []))::@Globs.gs globs:=⟨⟨_⟩,rfl⟩
  have hGs : @Globs.gs G'=(l,.loop rec)::@Globs.gs G1:=by rw [hG',hG1]
  have ct:=@cycles_tri _ G1 G' l rec _ _ _ _ _ hGs (λq hq=>by
   rw [hG1] at hq
   rcases yI.1 hq with rfl | hq
   ·exact λe=>hne e.symm
   ·exact hGl q hq) (λp hp=>by rw [hG'];exact un _ (un _ hp)) hrec hasg hbd rfl rfl n o.1 (λA0 own0 w gh out out' z hz=>?_) out ho2 A own0 w1 gh ⟨hown,λq hq=>by
    have:q=(7,.loc 0 0):=by simpa using hq
    subst this
    exact hgh 7 _ rfl⟩
  ·rw [ze7 Tryz.func195 rfl] at ct
   exact ct
  ·refine .z I <| .nil ⟨rfl,λown0 w=>?_⟩
   refine .p I (.loadLoc1 I I I dY142 I) <| .m I <| .p I (.buildSl [_] I I dE142 I (λ_=>I) I (enc:=LI)) <| .app I I I I I I I I dE142 I (λ_=>I) hz <| .store I I I I I I (.cons (.vec I ?_) .nil) dC142 I (yi I) <| .nil ⟨rfl,rfl⟩
   simp
 ·intro Dd H2 G' hG' ⟨X,hX⟩
  subst hX
  have hsub:∀ p∈@Globs.gs globs,p∈@Globs.gs G':=λp hp=>by rw [hG'];exact un _ hp
  refine Tri.ge (t:=⟨[(7,.loc 0 0)],HT out⟩) ⟨X,rfl,rfl,rfl,rfl,trivial⟩ ?_ rfl
  refine .sr <| .p I (.loadLoc1 I I I dY142 I) <| .sort1 (enc:=LI) (l:=out) Tryz.sortLL I I I I dK196 dK197 I I I I (λ_=>I) (λ_=>I) hsort (λa b v hv=>@Pure.widen _ _ DT hsub _ _ _ _ (@zhN _ DT _ _ _ _ hv)) <| .nil <| .sr <| .p I (.loadLoc1 I I I dY142 I) <| .z I <| .nil <| .ret ⟨rfl,zaH I (.vec I ?_)⟩
  simp [sortO_length hsort]
end
section
variable [Env]
theorem digraph_Cycle_ok (n t0 t1 r) (h:zd6 n t0 t1=some r):Pure pg 107 [.int t0,eJ t1] (eA r):=by
 refine Pure.ot Tryz.func107 I Tryz.ntmps107 I λA w=>.sr<|.p I (.nilS 1 (α:=Int) D.int I)<|.nil<|.S 2 I<|.Z h I (ziy _ _ _) λx1 h=>.A 1 I<|.nil<|.seq<|.S 1 I<|.p I (.len I U142 I)<|.A 1 I<|.nil<|.condS I h (λh=>?_) λh=>?_
 ·refine .sr<|.p I (.nilS 1 (α:=Int) D.int I)<|.nil<|.ret ?_
  cases h
  exact zaH I (.d _)
 ·refine .skip<|.S 1 I<|.X h I λx2 h=>.A 2 I<|.nil<|.ret ?_
  cases h
  exact zaH I (.d _)
theorem zfn (n t0 t1 r) (h:zaM n t0 t1=some r):Pure pg 68 [Constraint.enc t0,eA t1] (eA r):=by
 refine Pure.ot Tryz.func68 I Tryz.ntmps68 I λA w=>.S 1 I<|.p I (.nilS 1 (α:=Int) D.int I)<|.nil<|.sr<|.p I (.fa I (G74_4 _))<|.A 1 I<|.p I (.fa I (G74_4 _))<|.A 2 I<|bK h λx1 q1 h=>.makeVec (enc:=D.bool) (z:=(false:Bool)) I I I I E108 I I I (.val Zv4) q1<|.A 1 I<|.nil<|.seq<|.S 1 I<|.p I (.lenV I U108 I I I)<|.A 1 I<|.nil<|.block<|.L [1,2,14] h (λv=>[(5,.vec 0 (List.length v.1)),(15,.d (.int v.2))]) (λv=>[(0,.vec 4 1 (List.map D.bool v.1))]) I λ_ ⟨b0_12,x13⟩ h=>.sA 1 I<|.K [1,2,5,14,15,16] I<|.seq<|.condS I h (λh=>?_) λh=>?_
 ·refine .skip<|.seq<|.block<|.sA 2 I<|.region<|.A 3 I<|.p I (.fa I (G74_3 _))<|.A 3 I<|.X h I λx15 h=>.A 2 I<|bK h λx16 q16 h=>.p I (.idxV I I I I I U108 S4 q16)<|bK h λb0_17 hb0_17 h=>.storeEl (enc:=D.bool) I I I I I I I I I C4 hb0_17<|.relen 5 I (zdo hb0_17)<|.relen 18 I (zdo hb0_17)<|.nil<|.rA 2 I (ndE h I)
 ·refine .exit<|.seq<|.freezes [0] (.cons (t:=5) I (.vec (inIds I) I (by simp)) .nil)<|.region<|.p I (.fa I (G74_4 _))<|.A 2 I<|.Z h I (digraph_Cycle_ok _ _ _) λx19 h=>.A 1 I<|.nil<|.ret ?_
  cases h
  exact zaH I (.d _)
theorem zdC (n t0 t1 r) (h:zbg n t0 t1=some r):Pure pg 48 [Constraint.enc t0,eA t1] (.bool r):=by
 refine Pure.ot Tryz.func48 I Tryz.ntmps48 I λA w=>.sA 2 I<|.seq<|.sr<|.p I (.fa I (G74_0 _))<|.A 2 I<|.nil<|.condS I h (λh=>?_) λh=>?_
 ·refine .seq<|.draw 9 Hm (by kernel_rfl) (by kernel_rfl)<|.p I (.fa I (G74_2 _))<|.A 2 I<|.Z h I (zdm _ _ _) λx1 h=>.p I (.fa I (G74_2 _))<|.p I (.fa I (G69_1 _))<|.A 3 I<|.nil<|.nil<|.ret (rO h I)
 ·refine .skip<|.S 2 I<|.Z h I (zfn _ _ _) λx2 h=>.p I (.len I U22 I)<|.A 2 I<|.nil<|.ret (rO h I)
theorem zdl (n t0 t1 r) (h:zaD n t0 t1=some r):Pure pg 45 [Model.enc t0,eA t1] (eA r):=by
 refine Pure.ot Tryz.func45 I Tryz.ntmps45 I λA w=>.S 1 I<|.p I (.nilS 1 (α:=Int) D.int I)<|.nil<|.S 1 I<|.nilVec 5 1 3 I<|.nil<|.seq<|.S 2 I<|.p I (.len I U25 I)<|.A 1 I<|.nil<|.block<|.L [1,9,10] h (λv=>[(5,.vec 0 (List.length v.1)),(11,.d (.int v.2))]) (λv=>[(0,.vec 3 1 (List.map D.int v.1))]) I λ_ ⟨b0_15,x16⟩ h=>.sA 1 I<|.K [1,5,9,10,11,12] I<|.seq<|.condS I h (λh=>?_) λh=>?_
 ·refine .skip<|.J [1,9,10,11] h (λv=>[(5,.vec 0 (List.length v))]) (λv=>[(0,.vec 3 1 (List.map D.int v))]) I (λk_19 h=>?_) (λb0_18 h=>?_)
  ·refine .block<|.S 1 I<|.X h I λx20 h=>.A 1 I<|.allocZ I I I I (.agg Zc74 (ds':=[.int 0,.int 0,eL [],.int 0,.int 0,.int 0]) (.e (.e (.o (.e (.e .e1)))))) I<|.A 1 I<|.store I I I I I I (.ofD I) C74 I (yi I)<|.nil<|.sr<|.p I (.loadLoc I I I Y74 (yi I) (v:=.d (Constraint.enc x20)) I)<|.A 1 I<|.Z h I (zdC _ _ _) λx21 h=>.A 1 I<|.nil<|.condS I h (λh=>?_) λh=>?_
   ·refine .region<|.A 2 I<|.p I (.buildSl [_] I I E22 I (λ_=>I) I (enc:=D.int))<|bK h λx22 q22 h=>.app I I I I I I I I E22 I (λ_=>I) q22<|.A 1 I<|.nil (ndE h I)
   ·refine .skip (ndE h I)
  ·refine .rA 2 I (ndE h I)
 ·refine .exit<|.sA 2 I<|.ret ?_
  cases h
  exact zaH I (.vec I (by simp))
theorem zbM (n t0 t1 t2 r) (h:zm n t0 t1 t2=some r):Pure pg 47 [Model.enc t0,eA t1,eA t2] (eA r):=by
 refine Pure.ot Tryz.func47 I Tryz.ntmps47 I λA w=>.S 1 I<|.p I (.nilS 1 (α:=Int) D.int I)<|.nil<|.S 1 I<|bK h λx1 q1 h=>.clone (enc:=D.int) I I I I K96 Tryz.func96 I I I I E22 I (λ_=>I) (λ_=>I) q1 I I<|.A 1 I<|.nil<|.seq<|.S 1 I<|.p I (.len I U22 I)<|.A 1 I<|.nil<|.block<|.L [3,14,15] h (λv=>[(7,.vec 0 (List.length v.1)),(16,.d (.int v.2))]) (λv=>[(0,.vec 3 1 (List.map D.int v.1))]) I λ_ ⟨b0_48,x49⟩ h=>.sA 1 I<|.K [3,7,14,15,16,17] I<|.seq<|.condS I h (λh=>?_) λh=>?_
 ·refine .skip<|.seq<|.block<|.sr<|.X h I λx51 h=>.A 2 I<|.nil<|.S 3 I<|.X h I λx52 h=>.p I (.fa I (G62_2 _))<|.p I (.fa I (G60_0 _))<|.A 1 I<|.p I (.len I U56 I)<|.A 1 I<|.nil<|.block<|.L [3,14,15,16,26,27] h (λv=>[(7,.vec 0 (List.length v.1)),(28,.d (.int v.2))]) (λv=>[(0,.vec 3 1 (List.map D.int v.1))]) I λ_ ⟨b0_65,x66⟩ h=>.sA 1 I<|.K [3,7,14,15,16,26,27,28,29] I<|.seq<|.condS I h (λh=>?_) λh=>?_
  ·refine .skip<|.seq<|.block<|.sr<|.X h I λx68 h=>.A 1 I<|.allocStore I I I I I I I I (by simp) I I Z125<|.nil<|.draw 9 Hm (by kernel_rfl) (by kernel_rfl)<|.A 1 I<|.p I (.fa I (zhJ _))<|.A 1 I<|bK h λx69 q69 h=>.p I (.idxV I I I I I U22 S3 q69)<|.p I (.loadEl I I I I q69 Y3 I)<|.p I (.fa I (G125_1 _))<|.A 2 I<|bK h λx70 q70 h=>.p I (.idxV I I I I I U22 S3 q70)<|.nil<|bK h λb0_71 hb0_71 h=>.storeEl (enc:=D.int) I I I I I I I I I C3 hb0_71<|.relen 7 I (zdo hb0_71)<|.relen 32 I (zdo hb0_71)<|.nil<|.rA 2 I (ndE h I)
  ·refine .exit<|.rA 2 I (ndE h I)
 ·refine .exit<|.sA 2 I<|.ret ?_
  cases h
  exact zaH I (.vec I (by simp))
theorem zd4 (n t0 t1 t2 r) (h:zM n t0 t1 t2=some r):Pure pg 46 [Model.enc t0,.int t1,eA t2] (.bool r):=by
 refine Pure.ot Tryz.func46 I Tryz.ntmps46 I λA w=>.sA 2 I<|.seq<|.S 3 I<|.X h I λx1 h=>.p I (.fa I (G62_2 _))<|.p I (.fa I (G60_1 _))<|.A 1 I<|.p I (.len I U57 I)<|.A 1 I<|.nil<|.block<|.L [1,2,3,15,16] h (λv=>[(17,.d (.int v))]) (λv=>[]) I λ_ x8 h=>.sA 1 I<|.seq<|.condS I h (λh=>?_) λh=>?_
 ·refine .skip<|.seq<|.block<|.sr<|.X h I λx10 h=>.A 1 I<|.allocStore I I I I I I I I (by simp) I I Z69<|.nil<|.seq<|.draw 6 Hm (by kernel_rfl) (by kernel_rfl)<|.A 2 I<|.Z h I (zdm _ _ _) λx11 h=>.p I (.fa I (G69_1 _))<|.A 2 I<|.nil<|.nil<|.condS I h (λh=>?_) λh=>?_
  ·refine .sA 1 I<|.ret (rO h I)
  ·refine .skip<|.rA 2 I (ndE h I)
 ·refine .exit<|.seq<|.draw 10 Hm (by kernel_rfl) (by kernel_rfl)<|.A 4 I<|.p I (.buildSl [_] I I E22 I (λ_=>I) I (enc:=D.int))<|.Z h I (zbM _ _ _ _) λx12 h=>.Z h I (zdl _ _ _) λx13 h=>.p I (.len I U22 I)<|.A 2 I<|.nil<|.nil<|.ret (rO h I)
theorem zdB (n t0 t1 t2 r) (h:ze n t0 t1 t2=some r):Pure pg 12 [Model.enc t0,Scenario.enc t1,eA t2] (.bool r):=by
 refine Pure.ot Tryz.func12 I Tryz.ntmps12 I λA w=>.sA 3 I<|.seq<|.S 2 I<|.Z h I (zb1 _ _ _) λx1 h=>.A 1 I<|.nil<|.condS I h (λh=>?_) λh=>?_
 ·refine .sA 1 I<|.ret (rO h I)
 ·refine .skip<|.seq<|.S 1 I<|.p I (.len I U22 I)<|.A 1 I<|.nil<|.block<|.L [2,3,4,18,19] h (λv=>[(20,.d (.int v))]) (λv=>[]) I λ_ x12 h=>.sA 1 I<|.seq<|.condS I h (λh=>?_) λh=>?_
  ·refine .skip<|.seq<|.block<|.sr<|.X h I λx14 h=>.A 2 I<|.nil<|.seq<|.plain 18 I<|.A 3 I<|.jO 5 (decide ((t0.constraints.length:Int)≤x14)) I (λb15=>?_) ?_
   ·refine .A 3 I<|.q I (.len I U25 I)<|.A 1 I<|.nil I
   refine .A 1 I<|gK h λc17 h=>.jO 7 ((((idx t0.constraints x14).getD default).kind) != 0) I (λb16=>?_) ?_
   ·refine .A 3 I<|.q I (.ix I U25 S74 (someD (impF c17 b16)))<|.q I (.fa I (G74_0 _))<|.A 2 I<|.nil I
   refine .nil<|.nil<|.K [2,3,4,18,19,20,41] I<|.condS I h (λh=>?_) λh=>?_
   ·refine .sA 1 I<|.ret (rO h I)
   ·refine .skip<|.rA 2 I (ndE h I)
  ·refine .exit<|.sr<|.p I (.fa I (G36_0 _))<|.A 1 I<|.allocStore I I I I I I I I (by simp) I I Z34<|.nil<|.seq<|.seq<|.plain 24 I<|.A 1 I<|.p I (.fa I (G36_1 _))<|.A 1 I<|.Z h I (zdl _ _ _) λx18 h=>.p I (.len I U22 I)<|.A 2 I<|gK h λc20 h=>.jO 7 (!((zM n t0 t1.question.e t1.state).getD default)) I (λb19=>?_) ?_
   ·refine .A 1 I<|.q I (.fa I (G34_0 _))<|.A 1 I<|.q I (.fa I (G36_1 _))<|.A 1 I<|.q I (.call I (kC I) I (zd4 _ _ _ _ _ (someD (impF c20 b19))))<|.A 1 I<|.nil I
   refine .A 1 I<|gK h λc22 h=>.jO 7 (!((zM n t0 t1.question.f t1.state).getD default)) I (λb21=>?_) ?_
   ·refine .A 1 I<|.q I (.fa I (G34_1 _))<|.A 1 I<|.q I (.fa I (G36_1 _))<|.A 1 I<|.q I (.call I (kC I) I (zd4 _ _ _ _ _ (someD (impF c22 b21))))<|.A 1 I<|.nil I
   refine .nil<|.nil<|.K [2,3,4,9,68] I<|.condS I h (λh=>?_) λh=>?_
   ·refine .sA 1 I<|.ret (rO h I)
   ·refine .skip<|.S 1 I<|.p I (.fa I (G36_1 _))<|.A 1 I<|.p I (.fa I (G34_0 _))<|.A 1 I<|.p I (.fa I (G34_1 _))<|.A 1 I<|.p I (.buildSl [_,_] I I E22 I (λ_=>I) I (enc:=D.int))<|.Z h I (zbM _ _ _ _) λx23 h=>.A 1 I<|.nil<|.seq<|.S 1 I<|.p I (.len I U22 I)<|.A 1 I<|.nil<|.block<|.L [3,4,9,10,78,79] h (λv=>[(80,.d (.int v))]) (λv=>[]) I λ_ x36 h=>.sA 1 I<|.seq<|.condS I h (λh=>?_) λh=>?_
    ·refine .skip<|.seq<|.block<|.sr<|.X h I λx38 h=>.A 2 I<|.nil<|.seq<|.plain 20 I<|.p I (.fa I (G34_2 _))<|.p I (.fa I (G32_0 _))<|.A 2 I<|.jO 5 (x38 != t1.question.target.index) I (λb39=>?_) ?_
     ·refine .A 1 I<|.q I (.fa I (G34_2 _))<|.q I (.fa I (G32_1 _))<|.A 2 I<|.nil I
     refine .A 1 I<|gK h λc41 h=>gK h λc42 h=>.jA 8 (!((zbg n ((idx t0.constraints x38).getD default) x23).getD default)) I (λb40=>?_) ?_
     ·refine .A 3 I<|.q I (.ix I U25 S74 (someD (impT c41 b40)))<|.A 2 I<|.q I (.call I (kC I) I (zdC _ _ _ _ (someD (impT c42 b40))))<|.A 1 I<|.nil I
     refine .nil<|.nil<|.K [3,4,9,10,78,79,80,103] I<|.condS I h (λh=>?_) λh=>?_
     ·refine .sA 1 I<|.ret (rO h I)
     ·refine .skip<|.rA 2 I (ndE h I)
    ·refine .exit<|.seq<|.sr<|.p I (.fa I (G34_2 _))<|.p I (.fa I (G32_0 _))<|.A 1 I<|.nil<|.condS I h (λh=>?_) λh=>?_
     ·refine .seq<|.draw 15 Hm (by kernel_rfl) (by kernel_rfl)<|.A 2 I<|.p I (.fa I (G34_0 _))<|.A 1 I<|.X h I λx43 h=>.p I (.fa I (G62_2 _))<|.p I (.fa I (G60_1 _))<|.A 1 I<|.p I (.fa I (G34_2 _))<|.p I (.fa I (G32_1 _))<|.A 1 I<|.X h I λx44 h=>.A 1 I<|.alloc I I I I ZZ69<|.store I I I I I I Z69<|.nil<|.freezes [0] (.cons (t:=13) (d:=.ref (Row.enc x44)) I (.loc (inIds I) I (.v .v1)) .nil)<|.nil<|.K [3,4,9,13] I<|.seq<|.draw 13 Hm (by kernel_rfl) (by kernel_rfl)<|.A 2 I<|.p I (.fa I (G36_1 _))<|.A 1 I<|.p I (.fa I (G34_1 _))<|.A 1 I<|.p I (.buildSl [_] I I E22 I (λ_=>I) I (enc:=D.int))<|.Z h I (zbM _ _ _ _) λx45 h=>.Z h I (zdm _ _ _) λx46 h=>.p I (.fa I (G69_1 _))<|.A 3 I<|.nil<|.nil<|.ret (rO h I)
     ·refine .skip<|.S 2 I<|.p I (.fa I (G34_2 _))<|.p I (.fa I (G32_1 _))<|.A 1 I<|.X h I λx47 h=>.A 2 I<|.Z h I (zdC _ _ _) λx48 h=>.A 2 I<|.nil<|.ret (rO h I)
theorem zfo (n t0 t1 r) (h:zaX n t0 t1=some r):Pure pg 105 [.str t0,eA t1] (.str r):=by
 refine Pure.ot Tryz.func105 I Tryz.ntmps105 I λA w=>.sA 1 I<|.S 1 I<|bK h λx1 q1 h=>.p I (.cat I I I q1)<|.A 1 I<|.Z h I (zdZ _ _ _) λx2 h=>bK h λx3 q3 h=>.p I (.cat I I I q3)<|bK h λx4 q4 h=>.p I (.cat I I I q4)<|.A 1 I<|.nil<|.ret (rO h I)
theorem zcU (n t0 t1 r) (h:zl n t0 t1=some r):Pure pg 62 [Model.enc t0,.int t1] (.str r):=by
 refine Pure.ot Tryz.func62 I Tryz.ntmps62 I λA w=>.sA 2 I<|.seq<|.S 2 I<|.p I (.len I U23 I)<|.A 1 I<|.nil<|.block<|.L [1,2,15,16] h (λv=>[(17,.d (.int v))]) (λv=>[]) I λ_ x95 h=>.sA 1 I<|.seq<|.condS I h (λh=>?_) λh=>?_
 ·refine .skip<|.J [1,2,15,16,17] h (λv=>[]) (λv=>[]) I (λk_97 h=>?_) (λv h=>?_)
  ·refine .block<|.sr<|.X h I λx98 h=>.A 1 I<|.allocStore I I I I I I I I (by simp) I I Z119<|.nil<|.seq<|.sr<|.p I (.fa I (zcm _))<|.A 2 I<|.nil<|.condS I h (λh=>?_) λh=>?_
   ·refine .exit (ndE h I)
   ·refine .skip<|.sA 1 I<|.seq<|.sr<|.p I (.fa I (zbl _))<|.A 1 I<|.p I (.len I U22 I)<|.A 1 I<|.nil<|.block<|.L [1,2,6,15,16,17,25,26] h (λv=>[(7,.d (.int v.1)),(27,.d (.int v.2))]) (λv=>[]) I λ_ ⟨x107,x108⟩ h=>.sA 1 I<|.seq<|.condS I h (λh=>?_) λh=>?_
    ·refine .skip<|.seq<|.block<|.sr<|.X h I λx110 h=>.A 2 I<|.nil<|.region<|.A 4 I<|.X h I λx111 h=>.A 3 I<|.nil<|.rA 2 I (ndE h I)
    ·refine .exit<|.seq<|.seq<|.plain 12 I<|.A 1 I<|.p I (.fa I (zfN _))<|.A 3 I<|.jO 6 (decide (add64 x98.first x107≤t1)) I (λb112=>?_) ?_
     ·refine .A 1 I<|.q I (.fa I (zfN _))<|.A 4 I<|.nil I
     refine .nil<|.nil<|.condS I h (λh=>?_) λh=>?_
     ·refine .exit (ndE h I)
     ·refine .skip<|.S 1 I<|.p I (.fa I (zfN _))<|.A 3 I<|.nil<|.K [2,6,10] I<|.sr<|.p I (.fa I (zbl _))<|.A 1 I<|.p I (.len I U22 I)<|bK h λx113 q113 h=>.makeVec (enc:=D.int) (z:=(0:Int)) I I I I E22 I I I (.val Zv3) q113<|.A 1 I<|.nil<|.seq<|.S 1 I<|.p I (.lenV I U22 I I I)<|.A 2 I<|.nil<|.block<|.L [2,6] h (λv=>[(10,.d (.int v.2.1)),(11,.vec 0 (List.length v.1)),(12,.d (.int v.2.2))]) (λv=>[(0,.vec 3 1 (List.map D.int v.1))]) I λ_ ⟨b0_132,x133,x134⟩ h=>.seq<|.sA 2 I<|.K [2,6,10,11,12,63] I<|.condS I h (λh=>?_) λh=>?_
      ·refine .skip<|.seq<|.block<|.seq<|.draw 10 Hm (by kernel_rfl) (by kernel_rfl)<|.A 2 I<|.p I (.fa I (zbl _))<|.A 2 I<|.X h I λx136 h=>.A 1 I<|.X h I λx137 h=>.A 2 I<|.nil<|.nil<|.drawF 9 [5,6,7] Hm (by kernel_rfl) (by kernel_rfl)<|.A 4 I<|bK h λx138 q138 h=>.p I (.rem6 I I I q138)<|.A 2 I<|bK h λx139 q139 h=>.p I (.quo6 I I I q139)<|bK h λx140 q140 h=>.p I (.idxV I I I I I U22 S3 q140)<|.nil ⟨.move I I (.move I I (.ints I I I I .nil)),?_⟩
       refine bK h λb0_141 hb0_141 h=>.storeEl (enc:=D.int) I I I I I I I I I C3 hb0_141<|.relen 11 I (zdo hb0_141)<|.relen 75 I (zdo hb0_141)<|.A 1 I<|.nil<|.K [2,6,10,11,12] I<|.rA 3 I (ndE h I)
      ·refine .exit<|.sr<|.p I (.fa I (zhI _))<|.A 2 I<|bK h λx142 q142 h=>.p I (.callB I (kC I) (.cons I (.d _) (.cons I (.vec I (by simp)) .nil)) I (zfo _ _ _ _ q142))<|.A 1 I<|.nil<|.ret (rO h I)
  ·refine .rA 2 I (ndE h I)
 ·refine .exit<|.sA 1 I<|.ret (rO h I)
theorem zii (n t0 t1 t2 r) (h:zcy n t0 t1 t2=some r):Pure pg 61 [.int t0,.ref (Model.enc t1),.ref (Scenario.enc t2)] (.str r):=by
 refine Pure.ot Tryz.func61 I Tryz.ntmps61 I λA w=>.sA 1 I<|.seq<|.draw 12 Hm (by kernel_rfl) (by kernel_rfl)<|.A 2 I<|.Z h I (zcU _ _ _) λx1 h=>bK h λx2 q2 h=>.p I (.cat I I I q2)<|.p I (.fa I (G36_1 _))<|.A 2 I<|.X h I λx3 h=>.A 1 I<|.Z h I (zbC _ _) λx4 h=>bK h λx5 q5 h=>.p I (.cat I I I q5)<|.A 1 I<|.nil<|.nil<|.ret (rO h I)
theorem zdk (n t0 t1 r) (h:zbj n t0 t1=some r):Pure pg 64 [Model.enc t0,.int t1] (.str r):=by
 refine Pure.ot Tryz.func64 I Tryz.ntmps64 I λA w=>.sA 2 I<|.S 3 I<|.X h I λx1 h=>.A 1 I<|.allocStore I I I I I I I I (by simp) I I Z62<|.nil<|.seq<|.draw 11 Hm (by kernel_rfl) (by kernel_rfl)<|.A 2 I<|.p I (.fa I (G62_0 _))<|.A 1 I<|.X h I λx2 h=>.p I (.fa I (G123_0 _))<|.A 1 I<|.p I (.fa I (G62_1 _))<|.A 1 I<|.Z h I (zfo _ _ _) λx3 h=>.A 1 I<|.nil<|.nil<|.K [4] I<|.ret (rO h I)
theorem zgE (n t0 t1 r) (h:zbu n t0 t1=some r):Pure pg 66 [Model.enc t0,Row.enc t1] (.str r):=by
 refine Pure.ot Tryz.func66 I Tryz.ntmps66 I λA w=>.sA 3 I<|.sA 1 I<|.seq<|.sr<|.p I (.fa I (G69_0 _))<|.A 1 I<|.p I (.len I U67 I)<|.A 1 I<|.nil<|.block<|.L [2,3,10,11] h (λv=>[(5,.d (.str v.1)),(12,.d (.int v.2))]) (λv=>[]) I λ_ ⟨x37,x38⟩ h=>.sA 1 I<|.seq<|.condS I h (λh=>?_) λh=>?_
 ·refine .skip<|.seq<|.block<|.S 1 I<|.X h I λx40 h=>.A 1 I<|.allocZ I I I I (.agg Zc77 (ds':=[.int 0,.int 0]) (.e .e1)) I<|.A 1 I<|.store I I I I I I (.ofD I) C77 I (yi I)<|.nil<|.sr<|.p I (.fieldAddrLoc I I I F77_1)<|.p I (.loadLoc1 I I I Y3 I)<|.A 1 I<|.nil<|.J [2,3,7,8,10,11,12] h (λv=>[(5,.d (.str v))]) (λv=>[]) I (λk_42 h=>?_) (λx41 h=>?_)
  ·refine .block<|.seq<|.plain 6 I<|.A 3 I<|.jA 2 (decide (x40.factor<0)) I (λb43=>?_) ?_
   ·refine .A 2 I<|.nil I
   refine .nil<|.A 1 I<|.nil<|.K [2,3,5,6,7,8,10,11,12,19] I<|.condS I h (λh=>?_) λh=>?_
   ·refine .region<|.A 1 I<|bK h λx44 q44 h=>.p I (.cat I I I q44)<|.A 1 I<|.nil (ndE h I)
   ·refine .seq<|.plain 6 I<|.A 3 I<|.jA 2 (decide (x40.factor<0)) I (λb45=>?_) ?_
    ·refine .A 2 I<|.nil I
    refine .nil<|.A 1 I<|.nil<|.condS I h (λh=>?_) λh=>?_
    ·refine .region<|.A 1 I<|bK h λx46 q46 h=>.p I (.cat I I I q46)<|.A 1 I<|.nil (ndE h I)
    ·refine .sA 3 I<|.condS I h (λh=>?_) λh=>?_
     ·refine .region<|.A 1 I<|bK h λx47 q47 h=>.p I (.cat I I I q47)<|.A 1 I<|.nil (ndE h I)
     ·refine .skip (ndE h I)
  ·refine .J [2,3,7,10,11,12] h (λv=>[(5,.d (.str v))]) (λv=>[]) I (λk_49 h=>?_) (λx48 h=>?_)
   ·refine .seq<|.plain 6 I<|.A 3 I<|.jA 2 (x40.factor != (-1)) I (λb50=>?_) ?_
    ·refine .A 2 I<|.nil I
    refine .nil<|.nil<|.K [2,3,5,7,8,10,11,12,47] I<|.condS I h (λh=>?_) λh=>?_
    ·refine .region<|.A 3 I<|.p I (.neg6 I I)<|.p I (.max2 I I I)<|.Z h I (zbC _ _) λx51 h=>bK h λx52 q52 h=>.p I (.cat I I I q52)<|bK h λx53 q53 h=>.p I (.cat I I I q53)<|.A 1 I<|.nil (ndE h I)
    ·refine .skip (ndE h I)
   ·refine .region<|.A 2 I<|.p I (.fieldAddrLoc I I I F77_0)<|.p I (.loadLoc1 I I I Y3 I)<|.Z h I (zcU _ _ _) λx54 h=>bK h λx55 q55 h=>.p I (.cat I I I q55)<|.A 1 I<|.nil<|.K [2,3,5,10,11,12] I<|.rA 2 I (ndE h I)
 ·refine .exit<|.J [3] h (λv=>[(5,.d (.str v))]) (λv=>[]) I (λk_57 h=>?_) (λx56 h=>?_)
  ·refine .S 1 I<|.p I (.str_eql I I I)<|.nil<|.condS I h (λh=>?_) λh=>?_
   ·refine .rA 1 I (ndE h I)
   ·refine .skip (ndE h I)
  ·refine .S 1 I<|bK h λx58 q58 h=>.p I (.cat I I I q58)<|.p I (.fa I (G69_1 _))<|.A 1 I<|.Z h I (zbC _ _) λx59 h=>bK h λx60 q60 h=>.p I (.cat I I I q60)<|.A 1 I<|.nil<|.K [4] I<|.ret (rO h I)
theorem zeT (n t0 t1 t2 r) (h:zbB n t0 t1 t2=some r):Pure pg 65 [Row.enc t0,eA t1,.ref (Model.enc t2)] (.str r):=by
 refine Pure.ot Tryz.func65 I Tryz.ntmps65 I λA w=>.sA 2 I<|.seq<|.draw 10 Hm (by kernel_rfl) (by kernel_rfl)<|.A 2 I<|.Z h I (zgE _ _ _) λx1 h=>bK h λx2 q2 h=>.p I (.cat I I I q2)<|.A 2 I<|.Z h I (zdm _ _ _) λx3 h=>.Z h I (zbC _ _) λx4 h=>bK h λx5 q5 h=>.p I (.cat I I I q5)<|.A 1 I<|.nil<|.nil<|.ret (rO h I)
theorem zdj (n t0 t1 r) (h:zS n t0 t1=some r):Pure pg 15 [Model.enc t0,Scenario.enc t1] (eA r):=by
 refine Pure.ot Tryz.func15 I Tryz.ntmps15 I λA w=>.S 2 I<|.p I (.nilS 1 (α:=Int) D.int I)<|.nil<|.seq<|.S 2 I<|.Z h I (zb1 _ _ _) λx1 h=>.A 1 I<|.nil<|.condS I h (λh=>?_) λh=>?_
 ·refine .sr<|.p I (.nilS 1 (α:=Int) D.int I)<|.nil<|.ret ?_
  cases h
  exact zaH I (.d _)
 ·refine .skip<|.S 1 I<|.p I (.fa I (G36_1 _))<|.A 1 I<|.p I (.fa I (G36_0 _))<|.p I (.fa I (G34_0 _))<|.A 1 I<|.p I (.fa I (G36_0 _))<|.p I (.fa I (G34_1 _))<|.A 1 I<|.p I (.buildSl [_,_] I I E22 I (λ_=>I) I (enc:=D.int))<|.Z h I (zbM _ _ _ _) λx2 h=>.A 1 I<|.nil<|.K [4] I<|.ret ?_
  cases h
  exact zaH I (.d _)
theorem zfT (n t0 t1 r) (h:zaO n t0 t1=some r):Pure pg 24 [Model.enc t0,Scenario.enc t1] (.tup [eC r.1,.int r.2]):=by
 refine Pure.ot Tryz.func24 I Tryz.ntmps24 I λA w=>.S 2 I<|.p I (.nilS 1 (α:=List UInt8) D.str I)<|.A 1 I<|.nil<|.seq<|.S 2 I<|bK h λx1 q1 h=>.p I (.callLe I (kC I) I (.e (.e .o1)) (zdB _ _ _ _ _ q1))<|.A 1 I<|.nil<|.condS I h (λh=>?_) λh=>?_
 ·refine .sr<|.p I (.nilS 1 (α:=List UInt8) D.str I)<|.A 1 I<|.nil<|.ret ?_
  cases h
  exact zcQ I I (.d _) (.d _)
 ·refine .skip<|.sr<|.p I (.fa I (G36_0 _))<|.A 1 I<|.allocStore I I I I I I I I (by simp) I I Z34<|.nil<|.S 1 I<|.nilVec 7 1 3 I<|.nil<|.seq<|.sr<|.p I (.fa I (G36_1 _))<|.A 1 I<|.p I (.len I U22 I)<|.A 1 I<|.nil<|.K [2,3,6,7,23,24,25] I<|.block<|.L [2,3,6,23,24] h (λv=>[(7,.vec 0 (List.length v.1)),(25,.d (.int v.2))]) (λv=>[(0,.vec 3 1 (List.map D.int v.1))]) I λ_ ⟨b0_14,x15⟩ h=>.sA 1 I<|.K [2,3,6,7,23,24,25,26] I<|.seq<|.condS I h (λh=>?_) λh=>?_
  ·refine .skip<|.J [2,3,6,23,24,25] h (λv=>[(7,.vec 0 (List.length v))]) (λv=>[(0,.vec 3 1 (List.map D.int v))]) I (λk_18 h=>?_) (λb0_17 h=>?_)
   ·refine .block<|.S 1 I<|.X h I λx19 h=>.A 3 I<|.nil<|.sA 2 I<|.condS I h (λh=>?_) λh=>?_
    ·refine .region<|.A 2 I<|.p I (.buildSl [_] I I E22 I (λ_=>I) I (enc:=D.int))<|bK h λx20 q20 h=>.app I I I I I I I I E22 I (λ_=>I) q20<|.A 1 I<|.nil (ndE h I)
    ·refine .skip (ndE h I)
   ·refine .rA 2 I (ndE h I)
  ·refine .exit<|.sA 1 I<|.J [2,3,6] h (λv=>[(10,.d (.str v))]) (λv=>[]) I (λk_22 h=>?_) (λx21 h=>?_)
   ·refine .S 1 I<|.p I (.lenV I U22 I I I)<|.A 1 I<|.nil<|.condS I h (λh=>?_) λh=>?_
    ·refine .region<|.A 1 I<|.p I (.makeFunc I I)<|bK h λx23 q23 h=>.p I (.callB I (kC I) (.cons I (.vec I (by simp)) (.cons I (.d _) (.cons I (.d _) .nil))) I (zdt _ _ _ _ _ (λq0 y hq=>⟨_,_,I,K61,zii _ q0 _ _ _ hq⟩) _ q23))<|bK h λx24 q24 h=>.p I (.cat I I I q24)<|.A 1 I<|.nil (ndE h I)
    ·refine .skip (ndE h I)
   ·refine .seq<|.draw 11 Hm (by kernel_rfl) (by kernel_rfl)<|.A 2 I<|.p I (.fa I (G34_0 _))<|.A 1 I<|.Z h I (zdk _ _ _) λx25 h=>bK h λx26 q26 h=>.p I (.cat I I I q26)<|.A 1 I<|.p I (.fa I (G34_1 _))<|.A 1 I<|.Z h I (zdk _ _ _) λx27 h=>bK h λx28 q28 h=>.p I (.cat I I I q28)<|.nil<|.buildVec [_,_,_] I I I I I E24 I (λ_=>I) I (enc:=D.str)<|.A 1 I<|.nil<|.K [2,3,6,11] I<|.sr<|.p I (.makeFunc I I)<|.A 1 I<|.nil<|.S 2 I<|.Z h I (zdj _ _ _) λx29 h=>.A 1 I<|.nil<|.seq<|.sr<|.p I (.fa I (G34_2 _))<|.p I (.fa I (G32_0 _))<|.A 1 I<|.nil<|.condS I h (λh=>?_) λh=>?_
    ·refine .seq<|.draw 25 Hm (by kernel_rfl) (by kernel_rfl)<|.A 4 I<|.p I (.fa I (G34_0 _))<|.A 1 I<|.X h I λx30 h=>.p I (.fa I (G62_2 _))<|.p I (.fa I (G60_1 _))<|.A 1 I<|.p I (.fa I (G34_2 _))<|.p I (.fa I (G32_1 _))<|.A 1 I<|.X h I λx31 h=>.A 2 I<|.p I (.fa I (G36_1 _))<|.A 1 I<|.p I (.fa I (G34_1 _))<|.A 1 I<|.p I (.buildSl [_] I I E22 I (λ_=>I) I (enc:=D.int))<|.Z h I (zbM _ _ _ _) λx32 h=>bK h λx33 q33 h=>.p I (.dyn I I I ⟨_,_,I,K65,zeT _ _ _ _ _ q33⟩)<|bK h λx34 q34 h=>.p I (.cat I I I q34)<|.p I (.buildSl [_] I I E24 I (λ_=>I) I (enc:=D.str))<|.nil<|bK h λx35 q35 h=>.app I I I I I I I I E24 I (λ_=>I) q35<|.A 2 I<|.nil<|.K [4,5] I<|.ret ?_
     cases h
     exact zcQ I I (.vec I (by simp)) (.d _)
    ·refine .skip<|.S 2 I<|.p I (.fa I (G34_2 _))<|.p I (.fa I (G32_1 _))<|.A 1 I<|.X h I λx36 h=>.A 1 I<|.allocStore I I I I I I I I (by simp) I I Z74<|.nil<|.K [2,11,12,13,14] I<|.S 2 I<|.p I (.fa I (G74_1 _))<|.A 1 I<|.X h I λx37 h=>.A 1 I<|bK h λx38 q38 h=>.p I (.cat I I I q38)<|bK h λx39 q39 h=>.p I (.cat I I I q39)<|.A 1 I<|.nil<|.seq<|.sr<|.p I (.fa I (G74_0 _))<|.A 2 I<|.nil<|.condS I h (λh=>?_) λh=>?_
     ·refine .S 3 I<|.p I (.fa I (G74_2 _))<|.A 2 I<|bK h λx40 q40 h=>.p I (.dyn I I I ⟨_,_,I,K65,zeT _ _ _ _ _ q40⟩)<|bK h λx41 q41 h=>.p I (.cat I I I q41)<|.p I (.buildSl [_] I I E24 I (λ_=>I) I (enc:=D.str))<|bK h λx42 q42 h=>.app I I I I I I I I E24 I (λ_=>I) q42<|.A 2 I<|.nil<|.K [4,5] I<|.ret ?_
      cases h
      exact zcQ I I (.vec I (by simp)) (.d _)
     ·refine .skip<|.S 2 I<|bK h λx43 q43 h=>.p I (.cat I I I q43)<|.A 2 I<|.Z h I (zfn _ _ _) λx44 h=>.Z h I (zdZ _ _ _) λx45 h=>bK h λx46 q46 h=>.p I (.cat I I I q46)<|.p I (.buildSl [_] I I E24 I (λ_=>I) I (enc:=D.str))<|bK h λx47 q47 h=>.app I I I I I I I I E24 I (λ_=>I) q47<|.A 2 I<|.nil<|.K [4,5] I<|.ret ?_
      cases h
      exact zcQ I I (.vec I (by simp)) (.d _)
theorem ref17_Ints_ok (n t0 t1 r) (h:zed n t0 t1=some r):Pure pg 59 [eA t0,eA t1] (.bool r):=by
 refine Pure.ot Tryz.func59 I Tryz.ntmps59 I λA w=>.sA 1 I<|.seq<|.S 1 I<|.p I (.len I U22 I)<|.A 1 I<|.p I (.len I U22 I)<|.A 1 I<|.nil<|.condS I h (λh=>?_) λh=>?_
 ·refine .sA 1 I<|.ret (rO h I)
 ·refine .skip<|.seq<|.sA 1 I<|.block<|.L [0,1] h (λv=>[(5,.d (.int v))]) (λv=>[]) I λ_ x7 h=>.seq<|.S 2 I<|.p I (.len I U22 I)<|.A 1 I<|.nil<|.K [0,1,5,14] I<|.condS I h (λh=>?_) λh=>?_
  ·refine .skip<|.seq<|.block<|.seq<|.draw 9 Hm (by kernel_rfl) (by kernel_rfl)<|.A 2 I<|.X h I λx9 h=>.A 3 I<|.X h I λx10 h=>.A 2 I<|.nil<|.nil<|.condS I h (λh=>?_) λh=>?_
   ·refine .sA 1 I<|.ret (rO h I)
   ·refine .skip<|.rA 3 I (ndE h I)
  ·refine .exit<|.sA 1 I<|.ret (rO h I)
theorem ref24_Same_ok (n t0 t1 r) (h:zbf n t0 t1=some r):Pure pg 23 [Scenario.enc t0,Scenario.enc t1] (.bool r):=by
 refine Pure.ot Tryz.func23 I Tryz.ntmps23 I λA w=>.sA 3 I<|.seq<|.plain 12 I<|.p I (.fa I (G36_0 _))<|.A 1 I<|.p I (.fa I (G36_0 _))<|.A 1 I<|.p I (.seql I SE34 I I (xs:=Question.vals _) (ys:=Question.vals _) I I I I (SQ34 _ _))<|.A 1 I<|gK h λc2 h=>.jA 5 (((zed n t0.state t1.state).getD default)) I (λb1=>?_) ?_
 ·refine .q I (.fa I (G36_1 _))<|.A 1 I<|.q I (.fa I (G36_1 _))<|.A 1 I<|.q I (.call I (kC I) I (ref17_Ints_ok _ _ _ _ (someD (impT c2 b1))))<|.nil I
 refine .nil<|.A 1 I<|.nil<|.K [4] I<|.ret (rO h I)
theorem zb7 (n t0 t1 r) (h:zb n t0 t1=some r):Pure pg 26 [eC t0,eC t1] (.bool r):=by
 refine Pure.ot Tryz.func26 I Tryz.ntmps26 I λA w=>.sA 1 I<|.seq<|.S 1 I<|.p I (.len I U24 I)<|.A 1 I<|.p I (.len I U24 I)<|.A 1 I<|.nil<|.condS I h (λh=>?_) λh=>?_
 ·refine .sA 1 I<|.ret (rO h I)
 ·refine .skip<|.seq<|.S 1 I<|.p I (.len I U24 I)<|.A 1 I<|.nil<|.block<|.L [0,1,12] h (λv=>[(13,.d (.int v))]) (λv=>[]) I λ_ x7 h=>.sA 1 I<|.seq<|.condS I h (λh=>?_) λh=>?_
  ·refine .skip<|.seq<|.block<|.sA 2 I<|.seq<|.draw 9 Hm (by kernel_rfl) (by kernel_rfl)<|.A 2 I<|.X h I λx9 h=>.A 3 I<|.X h I λx10 h=>.A 1 I<|.p I (.str_neq I I I)<|.nil<|.nil<|.condS I h (λh=>?_) λh=>?_
   ·refine .sA 1 I<|.ret (rO h I)
   ·refine .skip<|.rA 2 I (ndE h I)
  ·refine .exit<|.sA 1 I<|.ret (rO h I)
theorem zc3 (n t0 t1 r) (h:zj n t0 t1=some r):Pure pg 14 [eA t0,eA t1] (.bool r):=by
 refine Pure.ot Tryz.func14 I Tryz.ntmps14 I λA w=>.sA 1 I<|.seq<|.S 1 I<|.p I (.len I U22 I)<|.A 1 I<|.p I (.len I U22 I)<|.A 1 I<|.nil<|.condS I h (λh=>?_) λh=>?_
 ·refine .sA 1 I<|.ret (rO h I)
 ·refine .skip<|.seq<|.S 1 I<|.p I (.len I U22 I)<|.A 1 I<|.nil<|.block<|.L [0,1,12] h (λv=>[(13,.d (.int v))]) (λv=>[]) I λ_ x7 h=>.sA 1 I<|.seq<|.condS I h (λh=>?_) λh=>?_
  ·refine .skip<|.seq<|.block<|.sA 2 I<|.seq<|.draw 9 Hm (by kernel_rfl) (by kernel_rfl)<|.A 2 I<|.X h I λx9 h=>.A 3 I<|.X h I λx10 h=>.A 2 I<|.nil<|.nil<|.condS I h (λh=>?_) λh=>?_
   ·refine .sA 1 I<|.ret (rO h I)
   ·refine .skip<|.rA 2 I (ndE h I)
  ·refine .exit<|.sA 1 I<|.ret (rO h I)
theorem zig (n t0 t1 r) (h:za3 n t0 t1=some r):Pure pg 17 [Model.enc t0,Scenario.enc t1] (eA r):=by
 refine Pure.ot Tryz.func17 I Tryz.ntmps17 I λA w=>.S 2 I<|.p I (.nilS 1 (α:=Int) D.int I)<|.nil<|.seq<|.S 2 I<|.Z h I (zb1 _ _ _) λx1 h=>.A 1 I<|.nil<|.condS I h (λh=>?_) λh=>?_
 ·refine .sr<|.p I (.nilS 1 (α:=Int) D.int I)<|.nil<|.ret ?_
  cases h
  exact zaH I (.d _)
 ·refine .skip<|.seq<|.draw 6 Hm (by kernel_rfl) (by kernel_rfl)<|.A 3 I<|.Z h I (zdj _ _ _) λx2 h=>.Z h I (zdl _ _ _) λx3 h=>.A 1 I<|.nil<|.nil<|.ret ?_
  cases h
  exact zaH I (.d _)
theorem scenario_right_ok (n t0 t1 r) (h:zcl n t0 t1=some r):Pure pg 89 [Model.enc t0,Row.enc t1] (.bool r):=by
 refine Pure.ot Tryz.func89 I Tryz.ntmps89 I λA w=>.sA 3 I<|.sA 1 I<|.seq<|.sr<|.p I (.fa I (G69_0 _))<|.A 1 I<|.p I (.len I U67 I)<|.A 1 I<|.nil<|.block<|.L [2,3,9,10] h (λv=>[(5,.d (.int v.1)),(11,.d (.int v.2))]) (λv=>[]) I λ_ ⟨x17,x18⟩ h=>.sA 1 I<|.seq<|.condS I h (λh=>?_) λh=>?_
 ·refine .skip<|.seq<|.block<|.sr<|.X h I λx20 h=>.A 1 I<|.allocStore I I I I I I I I (by simp) I I Z77<|.nil<|.seq<|.seq<|.plain 26 I<|.p I (.fa I (G77_0 _))<|.A 4 I<|.jO 3 (x20.factor==0) I (λb21=>?_) ?_
  ·refine .q I (.fa I (G77_1 _))<|.A 2 I<|.nil I
  refine .A 1 I<|.jO 3 (decide (x20.factor<(-1000))) I (λb22=>?_) ?_
  ·refine .q I (.fa I (G77_1 _))<|.A 2 I<|.nil I
  refine .A 1 I<|.jO 3 (decide (1000<x20.factor)) I (λb23=>?_) ?_
  ·refine .q I (.fa I (G77_1 _))<|.A 2 I<|.nil I
  refine .A 1 I<|gK h λc25 h=>.jO 5 (decide (((zl n t0 x20.cell).getD default)=[])) I (λb24=>?_) ?_
  ·refine .A 1 I<|.q I (.fa I (G77_0 _))<|.A 1 I<|.q I (.call I (kC I) I (zcU _ _ _ _ (someD (impF c25 b24))))<|.q I (.str_eql I I I)<|.nil I
  refine .nil<|.nil<|.K [2,3,7,9,10,11,40] I<|.condS I h (λh=>?_) λh=>?_
  ·refine .sA 1 I<|.ret (rO h I)
  ·refine .skip<|.region<|.p I (.fa I (G77_0 _))<|.A 2 I<|.nil<|.rA 2 I (ndE h I)
 ·refine .exit<|.seq<|.plain 8 I<|.p I (.fa I (G69_1 _))<|.A 3 I<|.jA 3 (decide (t1.bound≤1000000000)) I (λb26=>?_) ?_
  ·refine .q I (.fa I (G69_1 _))<|.A 2 I<|.nil I
  refine .nil<|.A 1 I<|.nil<|.ret (rO h I)
theorem scenario_Row_ok (n t0 t1 r) (h:zc2 n t0 t1=some r):Pure pg 37 [Model.enc t0,Row.enc t1] (.str r):=by
 refine Pure.ot Tryz.func37 I Tryz.ntmps37 I λA w=>.sA 3 I<|.seq<|.seq<|.plain 9 I<|.A 1 I<|.Z h I (zcO _ _) λx1 h=>.A 2 I<|gK h λc3 h=>.jO 4 (!((zcl n t0 t1).getD default)) I (λb2=>?_) ?_
 ·refine .A 2 I<|.q I (.call I (kC I) I (scenario_right_ok _ _ _ _ (someD (impF c3 b2))))<|.A 1 I<|.nil I
 refine .nil<|.nil<|.condS I h (λh=>?_) λh=>?_
 ·refine .sA 1 I<|.ret (rO h I)
 ·refine .skip<|.S 2 I<|.Z h I (zgE _ _ _) λx4 h=>.A 1 I<|.nil<|.K [4] I<|.ret (rO h I)
theorem scenario_Cell_ok (n t0 t1 r) (h:zdi n t0 t1=some r):Pure pg 35 [Model.enc t0,.int t1] (.str r):=by
 refine Pure.ot Tryz.func35 I Tryz.ntmps35 I λA w=>.sA 2 I<|.seq<|.S 1 I<|.Z h I (zcO _ _) λx1 h=>.A 1 I<|.nil<|.condS I h (λh=>?_) λh=>?_
 ·refine .sA 1 I<|.ret (rO h I)
 ·refine .skip<|.S 2 I<|.Z h I (zcU _ _ _) λx2 h=>.A 1 I<|.nil<|.ret (rO h I)
theorem zif (n t0 t1 r) (h:zdh n t0 t1=some r):Pure pg 36 [Model.enc t0,.int t1] (.str r):=by
 refine Pure.ot Tryz.func36 I Tryz.ntmps36 I λA w=>.sA 2 I<|.seq<|.seq<|.plain 14 I<|.A 1 I<|.Z h I (zcO _ _) λx1 h=>.A 2 I<|.jO 2 (decide (t1<0)) I (λb2=>?_) ?_
 ·refine .A 2 I<|.nil I
 refine .A 1 I<|.jO 5 (decide ((t0.actions.length:Int)≤t1)) I (λb3=>?_) ?_
 ·refine .A 3 I<|.q I (.len I U27 I)<|.A 1 I<|.nil I
 refine .nil<|.nil<|.K [1,2,18] I<|.condS I h (λh=>?_) λh=>?_
 ·refine .sA 1 I<|.ret (rO h I)
 ·refine .skip<|.S 2 I<|.Z h I (zdk _ _ _) λx4 h=>.A 1 I<|.nil<|.ret (rO h I)
theorem law24_awake_ok (n r) (h:zhu n=some r):Pure pg 9 [] (.bool r):=by
 refine Pure.ot Tryz.func9 I Tryz.ntmps9 I λA w=>.sA 1 I<|.sr<|.Z h I (law24_example_ok _ ) λx1 h=>.allocStore I I I I I I I I (by simp) I I Z30<|.nil<|.sr<|.p I (.castD (Target.enc (⟨false,1⟩:Target)) I (.build I Pl32 (.agg Zc32 (ds':=[_,_]) (.e .e1)) I I))<|.p I (.castD (Question.enc (⟨0,0,(⟨false,1⟩:Target)⟩:Question)) I (.build I Pl34 (.agg Zc34 (ds':=[_,_,_,_]) (.e (.e (.e .e1)))) I I))<|.p I (.buildSl [_] I I E22 I (λ_=>I) I (enc:=D.int))<|.p I (.castD (Scenario.enc (⟨(⟨0,0,(⟨false,1⟩:Target)⟩:Question),[0]⟩:Scenario)) I (.build I Pl36 (.agg Zc36 (ds':=[_,_,_,_,_]) (.e (.e (.e (.e .e1))))) I I))<|.allocStore I I I I I I I I (by simp) I I Z36<|.nil<|.S 2 I<|.Z h I (zih _ _ _) λx2 h=>.A 1 I<|.p I (.extract I I I)<|.p I (.extract I I I)<|.A 2 I<|.nil<|.K [1,2,3,4] I<|.S 2 I<|.Z h I (scenario_Parse_ok _ _ _) λx3 h=>.A 1 I<|.p I (.extract I I I)<|.p I (.extract I I I)<|.allocStore I I I I I I I I (by simp) I I Z36<|.A 1 I<|.nil<|.S 2 I<|.Z h I (zfT _ _ _) λx4 h=>.A 1 I<|.p I (.extract I I I)<|.p I (.extract I I I)<|.A 2 I<|.nil<|.K [1,2,3,4,5,6,7,8] I ?_
 refine .seq<|.draw 73 Hm (by kernel_rfl) (by kernel_rfl)<|.A 3 I<|.jA 2 (decide (x2.1=[97,99,116,105,111,110,115,32,48,32,48,10,116,97,114,103,101,116,32,99,111,110,115,116,114,97,105,110,116,32,49,10,115,116,97,116,101,32,48,10])) I (λb5=>?_) ?_
 ·refine .A 1 I<|.q I (.str_eql I I I)<|.nil I
 refine .A 1 I<|.jA 2 (x3.2==0) I (λb6=>?_) ?_
 ·refine .A 2 I<|.nil I
 refine .A 1 I<|gK h λc8 h=>.jA 3 (((zbf n x3.1 (⟨(⟨0,0,(⟨false,1⟩:Target)⟩:Question),[0]⟩:Scenario)).getD default)) I (λb7=>?_) ?_
 ·refine .A 2 I<|.q I (.call I (kC I) I (ref24_Same_ok _ _ _ _ (someD (impT c8 b7))))<|.nil I
 refine .A 1 I<|.jA 2 (x4.2==0) I (λb9=>?_) ?_
 ·refine .A 2 I<|.nil I
 refine .A 1 I<|gK h λc11 h=>.jA 3 (((zb n x4.1 [[105,110,32,116,104,101,32,115,116,97,116,101,32,119,105,116,104,32,48,32,101,118,101,114,121,119,104,101,114,101],[114,101,112,108,105,99,97,32,48,32,101,120,101,99,117,116,101,115,32,116,119,111,40,41],[114,101,112,108,105,99,97,32,49,32,101,120,101,99,117,116,101,115,32,116,119,111,40,41],[98,101,104,105,110,100,32,98,111,116,104,32,99,58,32,99,40,41,32,60,61,32,51,32,100,111,101,115,32,110,111,116,32,104,111,108,100,58,32,52]]).getD default)) I (λb10=>?_) ?_
 ·refine .A 1 I<|.q I (.buildSl [_,_,_,_] I I E24 I (λ_=>I) I (enc:=D.str))<|.q I (.call I (kC I) I (zb7 _ _ _ _ (someD (impT c11 b10))))<|.nil I
 refine .A 1 I<|gK h λc13 h=>.jA 3 (((ze n x1 (⟨(⟨0,0,(⟨false,1⟩:Target)⟩:Question),[0]⟩:Scenario) ([]:List Int)).getD default)) I (λb12=>?_) ?_
 ·refine .A 2 I<|.q I (.callLe I (kC I) I (.e (.e .o1)) (zdB _ _ _ _ _ (someD (impT c13 b12))))<|.nil I
 refine .A 1 I<|gK h λc15 h=>.jA 7 (!((ze n x1 (⟨(⟨0,0,(⟨false,1⟩:Target)⟩:Question),[2]⟩:Scenario) ([]:List Int)).getD default)) I (λb14=>?_) ?_
 ·refine .A 1 I<|.q I (.fa I (G36_0 _))<|.A 1 I<|.q I (.buildSl [_] I I E22 I (λ_=>I) I (enc:=D.int))<|.q I (.castD (Scenario.enc (⟨(⟨0,0,(⟨false,1⟩:Target)⟩:Question),[2]⟩:Scenario)) I (.build I Pl36 (.agg Zc36 (ds':=[_,_,_,_,_]) (.e (.e (.e (.e .e1))))) I I))<|.q I (.callLe I (kC I) I (.e (.e .o1)) (zdB _ _ _ _ _ (someD (impT c15 b14))))<|.A 1 I<|.nil I
 refine .A 1 I<|gK h λc17 h=>gK h λc18 h=>.jA 5 (((zj n ((zS n x1 (⟨(⟨0,0,(⟨false,1⟩:Target)⟩:Question),[0]⟩:Scenario)).getD default) [4]).getD default)) I (λb16=>?_) ?_
 ·refine .A 2 I<|.q I (.call I (kC I) I (zdj _ _ _ _ (someD (impT c17 b16))))<|.q I (.buildSl [_] I I E22 I (λ_=>I) I (enc:=D.int))<|.q I (.call I (kC I) I (zc3 _ _ _ _ (someD (impT c18 b16))))<|.nil I
 refine .A 1 I<|gK h λc20 h=>gK h λc21 h=>.jA 5 (((zj n ((za3 n x1 (⟨(⟨0,0,(⟨false,1⟩:Target)⟩:Question),[0]⟩:Scenario)).getD default) [1]).getD default)) I (λb19=>?_) ?_
 ·refine .A 2 I<|.q I (.call I (kC I) I (zig _ _ _ _ (someD (impT c20 b19))))<|.q I (.buildSl [_] I I E22 I (λ_=>I) I (enc:=D.int))<|.q I (.call I (kC I) I (zc3 _ _ _ _ (someD (impT c21 b19))))<|.nil I
 refine .A 1 I<|gK h λc23 h=>gK h λc24 h=>.jA 8 (decide (((zc2 n x1 (((idx x1.constraints 0).getD default).row)).getD default)=[45,99,40,41,32,60,61,32,48])) I (λb22=>?_) ?_
 ·refine .A 3 I<|.q I (.ix I U25 S74 (someD (impT c23 b22)))<|.q I (.fa I (G74_2 _))<|.A 1 I<|.q I (.call I (kC I) I (scenario_Row_ok _ _ _ _ (someD (impT c24 b22))))<|.q I (.str_eql I I I)<|.nil I
 refine .A 1 I<|gK h λc26 h=>.jA 3 (decide (((zdi n x1 0).getD default)=[99,40,41])) I (λb25=>?_) ?_
 ·refine .A 1 I<|.q I (.call I (kC I) I (scenario_Cell_ok _ _ _ _ (someD (impT c26 b25))))<|.q I (.str_eql I I I)<|.nil I
 refine .A 1 I<|gK h λc28 h=>.jA 3 (decide (((zdh n x1 0).getD default)=[116,119,111,40,41])) I (λb27=>?_) ?_
 ·refine .A 1 I<|.q I (.call I (kC I) I (zif _ _ _ _ (someD (impT c28 b27))))<|.q I (.str_eql I I I)<|.nil I
 refine .A 1 I<|.nil<|.nil<|.K [0] I<|.ret (rO h I)
theorem ref09_Few_ok (n t0 t1 r) (h:zcu n t0 t1=some r):Pure pg 91 [eA t0,eB t1] (.bool r):=by
 refine Pure.ot Tryz.func91 I Tryz.ntmps91 I λA w=>.sA 1 I<|.seq<|.sA 1 I<|.block<|.L [0,1] h (λv=>[(5,.d (.int v))]) (λv=>[]) I λ_ x9 h=>.seq<|.S 2 I<|.p I (.len I U23 I)<|.A 1 I<|.nil<|.K [0,1,5,9] I<|.condS I h (λh=>?_) λh=>?_
 ·refine .skip<|.seq<|.block<|.seq<|.plain 16 I<|.A 2 I<|.X h I λx11 h=>.p I (.fa I (zhI _))<|.A 1 I<|.p I (.len_str I U9 I)<|.A 2 I<|gK h λc13 h=>.jO 7 (decide (12<((((idx t1 x9).getD default).columns).length:Int))) I (λb12=>?_) ?_
  ·refine .A 2 I<|.q I (.ix I U23 S119 (someD (impF c13 b12)))<|.q I (.fa I (zbl _))<|.A 1 I<|.q I (.len I U22 I)<|.A 1 I<|.nil I
  refine .nil<|.nil<|.K [0,1,5,27] I<|.condS I h (λh=>?_) λh=>?_
  ·refine .sA 1 I<|.ret (rO h I)
  ·refine .skip<|.rA 3 I (ndE h I)
 ·refine .exit<|.seq<|.plain 8 I<|.A 1 I<|.p I (.len I U22 I)<|.A 2 I<|.jA 3 (decide ((t1.length:Int)≤20)) I (λb14=>?_) ?_
  ·refine .A 1 I<|.q I (.len I U23 I)<|.A 1 I<|.nil I
  refine .nil<|.A 1 I<|.nil<|.ret (rO h I)
theorem ref13_Bounded_ok (n t0 r) (h:zq n t0=some r):Pure pg 40 [Model.enc t0] (.bool r):=by
 refine Pure.ot Tryz.func40 I Tryz.ntmps40 I λA w=>.sA 2 I<|.seq<|.seq<|.plain 48 I<|.A 2 I<|.p I (.len I U22 I)<|.A 2 I<|.jO 4 (decide (6<(t0.tables.length:Int))) I (λb1=>?_) ?_
 ·refine .A 2 I<|.q I (.len I U23 I)<|.A 1 I<|.nil I
 refine .A 1 I<|.jO 4 (decide (20<(t0.families.length:Int))) I (λb2=>?_) ?_
 ·refine .A 2 I<|.q I (.len I U24 I)<|.A 1 I<|.nil I
 refine .A 1 I<|.jO 4 (decide (60<(t0.constraints.length:Int))) I (λb3=>?_) ?_
 ·refine .A 2 I<|.q I (.len I U25 I)<|.A 1 I<|.nil I
 refine .A 1 I<|.jO 4 (decide (8<(t0.operations.length:Int))) I (λb4=>?_) ?_
 ·refine .A 2 I<|.q I (.len I U26 I)<|.A 1 I<|.nil I
 refine .A 1 I<|.jO 4 (decide (30<(t0.actions.length:Int))) I (λb5=>?_) ?_
 ·refine .A 2 I<|.q I (.len I U27 I)<|.A 1 I<|.nil I
 refine .A 1 I<|.jO 4 (decide (12<(t0.hides.length:Int))) I (λb6=>?_) ?_
 ·refine .A 2 I<|.q I (.len I U28 I)<|.A 1 I<|.nil I
 refine .A 1 I<|gK h λc8 h=>.jO 6 (!((zcu n t0.sorts t0.tables).getD default)) I (λb7=>?_) ?_
 ·refine .A 4 I<|.q I (.call I (kC I) I (ref09_Few_ok _ _ _ _ (someD (impF c8 b7))))<|.A 1 I<|.nil I
 refine .nil<|.nil<|.K [1,56] I<|.condS I h (λh=>?_) λh=>?_
 ·refine .sA 1 I<|.ret (rO h I)
 ·refine .skip<|.seq<|.sA 1 I<|.block<|.L [1] h (λv=>[(3,.d (.int v))]) (λv=>[]) I λ_ x13 h=>.seq<|.S 3 I<|.p I (.len I U24 I)<|.A 1 I<|.nil<|.K [1,3,61] I<|.condS I h (λh=>?_) λh=>?_
  ·refine .skip<|.seq<|.block<|.S 3 I<|.X h I λx15 h=>.A 1 I<|.p I (.len_str I U9 I)<|.A 1 I<|.nil<|.condS I h (λh=>?_) λh=>?_
   ·refine .sA 1 I<|.ret (rO h I)
   ·refine .skip<|.rA 3 I (ndE h I)
  ·refine .exit<|.seq<|.sA 1 I<|.block<|.L [1] h (λv=>[(4,.d (.int v))]) (λv=>[]) I λ_ x20 h=>.seq<|.S 3 I<|.p I (.len I U25 I)<|.A 1 I<|.nil<|.K [1,4,75] I<|.condS I h (λh=>?_) λh=>?_
   ·refine .skip<|.seq<|.block<|.S 3 I<|.X h I λx22 h=>.p I (.fa I (G74_2 _))<|.p I (.fa I (G69_0 _))<|.A 1 I<|.p I (.len I U67 I)<|.A 1 I<|.nil<|.condS I h (λh=>?_) λh=>?_
    ·refine .sA 1 I<|.ret (rO h I)
    ·refine .skip<|.rA 3 I (ndE h I)
   ·refine .exit<|.seq<|.sA 1 I<|.block<|.L [1] h (λv=>[(5,.d (.int v))]) (λv=>[]) I λ_ x31 h=>.seq<|.S 3 I<|.p I (.len I U26 I)<|.A 1 I<|.nil<|.K [1,5,91] I<|.condS I h (λh=>?_) λh=>?_
    ·refine .skip<|.seq<|.block<|.seq<|.plain 18 I<|.A 3 I<|.X h I λx33 h=>.p I (.fa I (G123_0 _))<|.A 1 I<|.p I (.len_str I U9 I)<|.A 2 I<|gK h λc35 h=>.jO 8 (decide (6<((((idx t0.operations x31).getD default).sorts).length:Int))) I (λb34=>?_) ?_
     ·refine .A 3 I<|.q I (.ix I U26 S123 (someD (impF c35 b34)))<|.q I (.fa I (zf1 _))<|.A 1 I<|.q I (.len I U22 I)<|.A 1 I<|.nil I
     refine .nil<|.nil<|.K [1,5,111] I<|.condS I h (λh=>?_) λh=>?_
     ·refine .sA 1 I<|.ret (rO h I)
     ·refine .skip<|.rA 3 I (ndE h I)
    ·refine .exit<|.seq<|.sA 1 I<|.block<|.L [1] h (λv=>[(6,.d (.int v))]) (λv=>[]) I λ_ x62 h=>.seq<|.S 3 I<|.p I (.len I U27 I)<|.A 1 I<|.nil<|.K [1,6,116] I<|.condS I h (λh=>?_) λh=>?_
     ·refine .skip<|.seq<|.block<|.S 3 I<|.X h I λx64 h=>.p I (.fa I (G62_2 _))<|.A 1 I<|.allocStore I I I I I I I I (by simp) I I Z60<|.nil<|.seq<|.seq<|.plain 26 I<|.A 3 I<|.X h I λx65 h=>.p I (.fa I (G62_1 _))<|.A 1 I<|.p I (.len I U22 I)<|.A 2 I<|.jO 4 (decide (20<(x64.effect.delta.length:Int))) I (λb66=>?_) ?_
      ·refine .q I (.fa I (G60_0 _))<|.A 1 I<|.q I (.len I U56 I)<|.A 1 I<|.nil I
      refine .A 1 I<|.jO 4 (decide (10<(x64.effect.hold.length:Int))) I (λb67=>?_) ?_
      ·refine .q I (.fa I (G60_1 _))<|.A 1 I<|.q I (.len I U57 I)<|.A 1 I<|.nil I
      refine .A 1 I<|.jO 4 (decide (40<(x64.effect.updates.length:Int))) I (λb68=>?_) ?_
      ·refine .q I (.fa I (G60_2 _))<|.A 1 I<|.q I (.len I U58 I)<|.A 1 I<|.nil I
      refine .nil<|.nil<|.K [1,6,7,150] I<|.condS I h (λh=>?_) λh=>?_
      ·refine .sA 1 I<|.ret (rO h I)
      ·refine .skip<|.sA 1 I<|.block<|.L [1,6,7] h (λv=>[(8,.d (.int v))]) (λv=>[]) I λ_ x73 h=>.seq<|.S 1 I<|.p I (.fa I (G60_1 _))<|.A 1 I<|.p I (.len I U57 I)<|.A 1 I<|.nil<|.K [1,6,7,8,155] I<|.condS I h (λh=>?_) λh=>?_
       ·refine .skip<|.seq<|.block<|.sr<|.p I (.fa I (G60_1 _))<|.A 2 I<|.X h I λx75 h=>.p I (.fa I (G69_0 _))<|.A 1 I<|.p I (.len I U67 I)<|.A 1 I<|.nil<|.condS I h (λh=>?_) λh=>?_
        ·refine .sA 1 I<|.ret (rO h I)
        ·refine .skip<|.rA 3 I (ndE h I)
       ·refine .exit<|.rA 3 I (ndE h I)
     ·refine .exit<|.sA 1 I<|.ret (rO h I)
theorem zhf (n t0 r) (h:za1 n t0=some r):Pure pg 114 [eA t0] (.bool r):=by
 refine Pure.ot Tryz.func114 I Tryz.ntmps114 I λA w=>.sA 1 I<|.seq<|.sA 1 I<|.block<|.L [0] h (λv=>[(3,.d (.int v))]) (λv=>[]) I λ_ x9 h=>.seq<|.S 2 I<|.p I (.len I U22 I)<|.A 1 I<|.nil<|.K [0,3,7] I<|.condS I h (λh=>?_) λh=>?_
 ·refine .skip<|.seq<|.block<|.seq<|.plain 12 I<|.A 2 I<|.X h I λx11 h=>.A 3 I<|gK h λc13 h=>.jO 5 (decide (6<((idx t0 x9).getD default))) I (λb12=>?_) ?_
  ·refine .A 2 I<|.q I (.ix I U22 S3 (someD (impF c13 b12)))<|.A 2 I<|.nil I
  refine .nil<|.nil<|.condS I h (λh=>?_) λh=>?_
  ·refine .sA 1 I<|.ret (rO h I)
  ·refine .skip<|.rA 3 I (ndE h I)
 ·refine .exit<|.sA 1 I<|.ret (rO h I)
theorem zew (n t0 t1 r) (h:z9 n t0 t1=some r):Pure pg 115 [eA t0,eA t1] (.int r):=by
 refine Pure.ot Tryz.func115 I Tryz.ntmps115 I λA w=>.sA 1 I<|.seq<|.seq<|.plain 8 I<|.A 1 I<|.p I (.len I U22 I)<|.A 2 I<|gK h λc2 h=>.jO 3 (!((za1 n t0).getD default)) I (λb1=>?_) ?_
 ·refine .A 1 I<|.q I (.call I (kC I) I (zhf _ _ _ (someD (impF c2 b1))))<|.A 1 I<|.nil I
 refine .nil<|.nil<|.condS I h (λh=>?_) λh=>?_
 ·refine .sA 1 I<|.ret (rO h I)
 ·refine .skip<|.sA 1 I<|.seq<|.sA 1 I<|.block<|.L [0,1] h (λv=>[(5,.d (.int v.1)),(6,.d (.int v.2))]) (λv=>[]) I λ_ ⟨x17,x18⟩ h=>.seq<|.S 2 I<|.p I (.len I U22 I)<|.A 1 I<|.nil<|.K [0,1,5,6,18] I<|.condS I h (λh=>?_) λh=>?_
  ·refine .skip<|.seq<|.block<|.seq<|.seq<|.plain 14 I<|.A 2 I<|.X h I λx20 h=>.A 3 I<|gK h λc22 h=>.jO 7 (decide ((t0.length:Int)≤((idx t1 x18).getD default))) I (λb21=>?_) ?_
   ·refine .A 2 I<|.q I (.ix I U22 S3 (someD (impF c22 b21)))<|.A 2 I<|.q I (.len I U22 I)<|.A 1 I<|.nil I
   refine .nil<|.nil<|.condS I h (λh=>?_) λh=>?_
   ·refine .sA 1 I<|.ret (rO h I)
   ·refine .skip<|.region<|.A 4 I<|.X h I λx23 h=>.A 1 I<|.X h I λx24 h=>.A 3 I<|.nil<|.K [0,1,5,6] I<|.rA 3 I (ndE h I)
  ·refine .exit<|.sA 2 I<|.ret (rO h I)
theorem zhd (n t0 r) (h:zaI n t0=some r):Pure pg 262 [.val (.int .u8 t0)] (.bool r):=by
 refine Pure.ot Tryz.func262 I Tryz.ntmps262 I λA w=>.sA 1 I<|.seq<|.plain 14 I<|.A 3 I<|.jO 2 (t0==10) I (λb1=>?_) ?_
 ·refine .A 2 I<|.nil I
 refine .A 1 I<|.jO 2 (t0==13) I (λb2=>?_) ?_
 ·refine .A 2 I<|.nil I
 refine .A 1 I<|.jO 2 (t0==32) I (λb3=>?_) ?_
 ·refine .A 2 I<|.nil I
 refine .nil<|.A 1 I<|.nil<|.K [2] I<|.ret (rO h I)
theorem zh4 (n t0 t1 r) (h:za5 n t0 t1=some r):Pure pg 237 [.str t0,.int t1] (.int r):=by
 refine Pure.ot Tryz.func237 I Tryz.ntmps237 I λA w=>.sA 1 I<|.seq<|.block<|.L [0] h (λv=>[(1,.d (.int v))]) (λv=>[]) I λ_ x35 h=>.seq<|.seq<|.plain 16 I<|.A 2 I<|.p I (.len_str I U9 I)<|.A 2 I<|gK h λc38 h=>gK h λc39 h=>gK h λc41 h=>.jA 10 (((zaI n ((sidx t0 x35).getD default)).getD default)||(((sidx t0 x35).getD default)==35)) I (λb37=>?_) ?_
 ·refine .A 2 I<|.q I (.sidx I I I U9 (someD (impT c38 b37)))<|.q I (.call I (kC I) I (zhd _ _ _ (someD (impT c39 b37))))<|.A 1 I<|.jOr 4 (b2:=((sidx t0 x35).getD default)==35) I I I I (.inr ⟨_,_,_,I,I,I⟩) (λ_ _ _ h1 h2=>by cases h1;cases h2;decide) I I (λb40=>?_) ?_
  ·refine .A 2 I<|.q I (.sidx I I I U9 (someD (impF (impT c41 b37) b40)))<|.A 1 I<|.nil I
  exact .nil I
 refine .nil<|.nil<|.K [0,1,20] I<|.condS I h (λh=>?_) λh=>?_
 ·refine .skip<|.block<|.S 2 I<|bK h λx42 q42 h=>.p I (.sidx I I I U9 q42)<|.A 1 I<|.nil<|.condS I h (λh=>?_) λh=>?_
  ·refine .block<|.L [0] h (λv=>[(1,.d (.int v))]) (λv=>[]) I λ_ x49 h=>.seq<|.seq<|.plain 10 I<|.A 2 I<|.p I (.len_str I U9 I)<|.A 2 I<|gK h λc52 h=>.jA 4 (((sidx t0 x49).getD default) != 10) I (λb51=>?_) ?_
   ·refine .A 2 I<|.q I (.sidx I I I U9 (someD (impT c52 b51)))<|.A 1 I<|.nil I
   refine .nil<|.nil<|.K [0,1,34] I<|.condS I h (λh=>?_) λh=>?_
   ·refine .skip<|.block<|.rA 3 I (ndE h I)
   ·refine .exit (ndE h I)
  ·refine .rA 3 I (ndE h I)
 ·refine .exit<|.sA 2 I<|.ret (rO h I)
theorem zet (n t0 r) (h:zaz n t0=some r):Pure pg 263 [.val (.int .u8 t0)] (.bool r):=by
 refine Pure.ot Tryz.func263 I Tryz.ntmps263 I λA w=>.sA 1 I<|.seq<|.plain 6 I<|.A 3 I<|.jA 2 (decide (t0≤122)) I (λb1=>?_) ?_
 ·refine .A 2 I<|.nil I
 refine .nil<|.A 1 I<|.nil<|.ret (rO h I)
theorem zdI (n t0 r) (h:zaQ n t0=some r):Pure pg 264 [.val (.int .u8 t0)] (.bool r):=by
 refine Pure.ot Tryz.func264 I Tryz.ntmps264 I λA w=>.sA 1 I<|.seq<|.plain 6 I<|.A 3 I<|.jA 2 (decide (t0≤57)) I (λb1=>?_) ?_
 ·refine .A 2 I<|.nil I
 refine .nil<|.A 1 I<|.nil<|.ret (rO h I)
theorem ziM (n r) (h:ze2 n=some r):Pure pg 265 [] (eC r):=by
 refine Pure.ot Tryz.func265 I Tryz.ntmps265 I λA w=>.sr<|.p I (.nilS 1 (α:=List UInt8) D.str I)<|.nil<|.sr<|.p I (.buildSl [_,_,_,_,_,_,_,_,_,_,_,_,_,_,_,_,_,_,_,_,_,_,_,_,_,_,_,_,_,_,_,_,_,_,_] I I E24 I (λ_=>I) I (enc:=D.str))<|.A 1 I<|.nil<|.ret ?_
 cases h
 exact zaH I (.d _)
theorem ref02_Has_ok (n t0 t1 r) (h:zci n t0 t1=some r):Pure pg 118 [eC t0,.str t1] (.bool r):=by
 refine Pure.ot Tryz.func118 I Tryz.ntmps118 I λA w=>.sA 1 I<|.seq<|.sA 1 I<|.block<|.L [0,1] h (λv=>[(5,.d (.int v))]) (λv=>[]) I λ_ x5 h=>.seq<|.S 2 I<|.p I (.len I U24 I)<|.A 1 I<|.nil<|.K [0,1,5,9] I<|.condS I h (λh=>?_) λh=>?_
 ·refine .skip<|.seq<|.block<|.S 2 I<|.X h I λx7 h=>.A 2 I<|.p I (.str_eql I I I)<|.nil<|.condS I h (λh=>?_) λh=>?_
  ·refine .sA 1 I<|.ret (rO h I)
  ·refine .skip<|.rA 3 I (ndE h I)
 ·refine .exit<|.sA 1 I<|.ret (rO h I)
theorem ref02_Symbols_ok (n r) (h:zfD n=some r):Pure pg 284 [] (eC r):=by
 refine Pure.ot Tryz.func284 I Tryz.ntmps284 I λA w=>.sr<|.p I (.nilS 1 (α:=List UInt8) D.str I)<|.nil<|.sr<|.p I (.buildSl [_,_,_,_,_,_,_,_,_,_,_,_,_,_,_,_,_,_] I I E24 I (λ_=>I) I (enc:=D.str))<|.A 1 I<|.nil<|.ret ?_
 cases h
 exact zaH I (.d _)
theorem zgv (n t0 t1 r) (h:za7 n t0 t1=some r):Pure pg 266 [.str t0,.int t1] (.int r):=by
 refine Pure.ot Tryz.func266 I Tryz.ntmps266 I λA w=>.sA 1 I<|.sr<|.Z h I (ref02_Symbols_ok _ ) λx1 h=>.A 1 I<|.nil<|.seq<|.sA 1 I<|.block<|.L [0,1,5] h (λv=>[(6,.d (.int v))]) (λv=>[]) I λ_ x12 h=>.seq<|.S 2 I<|.p I (.len I U24 I)<|.A 1 I<|.nil<|.K [0,1,5,6,12] I<|.condS I h (λh=>?_) λh=>?_
 ·refine .skip<|.seq<|.block<|.S 2 I<|.X h I λx14 h=>.A 1 I<|.p I (.len_str I U9 I)<|.A 1 I<|.nil<|.seq<|.draw 19 Hm (by kernel_rfl) (by kernel_rfl)<|.A 4 I<|.p I (.len_str I U9 I)<|.A 2 I<|gK h λc16 h=>gK h λc17 h=>.jA 11 (decide (((cut t0 t1 (add64 t1 (x14.length:Int))).getD default)=((idx x1 x12).getD default))) I (λb15=>?_) ?_
  ·refine .A 5 I<|.q I (.cutStrLH I I I I U9 (someD (impT c16 b15)))<|.A 2 I<|.q I (.ix I U24 S9 (someD (impT c17 b15)))<|.A 1 I<|.q I (.str_eql I I I)<|.nil I
  refine .nil<|.nil<|.K [0,1,5,6,7,38] I<|.condS I h (λh=>?_) λh=>?_
  ·refine .sA 2 I<|.ret (rO h I)
  ·refine .skip<|.rA 3 I (ndE h I)
 ·refine .exit<|.sA 1 I<|.ret (rO h I)
theorem ref02_token_ok (n t0 t1 r) (h:zan n t0 t1=some r):Pure pg 238 [.str t0,.int t1] (.tup [.int r.1,.int r.2]):=by
 refine Pure.ot Tryz.func238 I Tryz.ntmps238 I λA w=>.sA 2 I<|.sA 2 I<|.seq<|.S 2 I<|bK h λx1 q1 h=>.p I (.sidx I I I U9 q1)<|.Z h I (zet _ _) λx2 h=>.nil<|.condS I h (λh=>?_) λh=>?_
 ·refine .seq<|.block<|.L [0,1] h (λv=>[(6,.d (.int v))]) (λv=>[]) I λ_ x21 h=>.seq<|.seq<|.plain 22 I<|.A 2 I<|.p I (.len_str I U9 I)<|.A 2 I<|gK h λc24 h=>gK h λc25 h=>gK h λc27 h=>gK h λc28 h=>gK h λc30 h=>.jA 16 ((((zaz n ((sidx t0 x21).getD default)).getD default)||((zaQ n ((sidx t0 x21).getD default)).getD default))||(((sidx t0 x21).getD default)==95)) I (λb23=>?_) ?_
  ·refine .A 2 I<|.q I (.sidx I I I U9 (someD (impT c24 b23)))<|.q I (.call I (kC I) I (zet _ _ _ (someD (impT c25 b23))))<|.A 1 I<|.jOr 4 (b2:=((zaQ n ((sidx t0 x21).getD default)).getD default)) I I I I (.inr ⟨_,_,_,I,I,I⟩) (λ_ _ _ h1 h2=>by cases h1;cases h2;decide) I I (λb26=>?_) ?_
   ·refine .A 2 I<|.q I (.sidx I I I U9 (someD (impF (impT c27 b23) b26)))<|.q I (.call I (kC I) I (zdI _ _ _ (someD (impF (impT c28 b23) b26))))<|.nil I
   refine .A 1 I<|.jOr 4 (b2:=((sidx t0 x21).getD default)==95) I I I I (.inr ⟨_,_,_,I,I,I⟩) (λ_ _ _ h1 h2=>by cases h1;cases h2;decide) I I (λb29=>?_) ?_
   ·refine .A 2 I<|.q I (.sidx I I I U9 (someD (impF (impT c30 b23) b29)))<|.A 1 I<|.nil I
   exact .nil I
  refine .nil<|.nil<|.K [0,1,6,34] I<|.condS I h (λh=>?_) λh=>?_
  ·refine .skip<|.block<|.rA 3 I (ndE h I)
  ·refine .exit<|.seq<|.seq<|.draw 6 Hm (by kernel_rfl) (by kernel_rfl)<|.Z h I (ziM _ ) λx31 h=>.A 3 I<|bK h λx32 q32 h=>.p I (.cutStrLH I I I I U9 q32)<|.Z h I (ref02_Has_ok _ _ _) λx33 h=>.nil<|.nil<|.condS I h (λh=>?_) λh=>?_
   ·refine .sA 3 I<|.ret ?_
    cases h
    exact zcQ I I (.d _) (.d _)
   ·refine .skip<|.sA 3 I<|.ret ?_
    cases h
    exact zcQ I I (.d _) (.d _)
 ·refine .skip<|.seq<|.S 2 I<|bK h λx34 q34 h=>.p I (.sidx I I I U9 q34)<|.Z h I (zdI _ _) λx35 h=>.nil<|.condS I h (λh=>?_) λh=>?_
  ·refine .seq<|.block<|.L [0] h (λv=>[(6,.d (.int v))]) (λv=>[]) I λ_ x44 h=>.seq<|.seq<|.plain 10 I<|.A 2 I<|.p I (.len_str I U9 I)<|.A 2 I<|gK h λc47 h=>gK h λc48 h=>.jA 4 (((zaQ n ((sidx t0 x44).getD default)).getD default)) I (λb46=>?_) ?_
   ·refine .A 2 I<|.q I (.sidx I I I U9 (someD (impT c47 b46)))<|.q I (.call I (kC I) I (zdI _ _ _ (someD (impT c48 b46))))<|.nil I
   refine .nil<|.nil<|.K [0,6,58] I<|.condS I h (λh=>?_) λh=>?_
   ·refine .skip<|.block<|.rA 3 I (ndE h I)
   ·refine .exit<|.sA 3 I<|.ret ?_
    cases h
    exact zcQ I I (.d _) (.d _)
  ·refine .skip<|.seq<|.S 2 I<|.Z h I (zgv _ _ _) λx49 h=>.A 1 I<|.nil<|.K [0,1,6,7] I<|.sA 2 I<|.condS I h (λh=>?_) λh=>?_
   ·refine .sA 5 I<|.ret ?_
    cases h
    exact zcQ I I (.d _) (.d _)
   ·refine .skip<|.seq<|.block<|.L [0] h (λv=>[(6,.d (.int v))]) (λv=>[]) I λ_ x78 h=>.seq<|.seq<|.plain 37 I<|.A 2 I<|.p I (.len_str I U9 I)<|.A 2 I<|gK h λc81 h=>gK h λc82 h=>.jA 5 (!((zaI n ((sidx t0 x78).getD default)).getD default)) I (λb80=>?_) ?_
    ·refine .A 2 I<|.q I (.sidx I I I U9 (someD (impT c81 b80)))<|.q I (.call I (kC I) I (zhd _ _ _ (someD (impT c82 b80))))<|.A 1 I<|.nil I
    refine .A 1 I<|gK h λc84 h=>.jA 4 (((sidx t0 x78).getD default) != 35) I (λb83=>?_) ?_
    ·refine .A 2 I<|.q I (.sidx I I I U9 (someD (impT c84 b83)))<|.A 1 I<|.nil I
    refine .A 1 I<|gK h λc86 h=>gK h λc87 h=>.jA 5 (!((zaz n ((sidx t0 x78).getD default)).getD default)) I (λb85=>?_) ?_
    ·refine .A 2 I<|.q I (.sidx I I I U9 (someD (impT c86 b85)))<|.q I (.call I (kC I) I (zet _ _ _ (someD (impT c87 b85))))<|.A 1 I<|.nil I
    refine .A 1 I<|gK h λc89 h=>gK h λc90 h=>.jA 5 (!((zaQ n ((sidx t0 x78).getD default)).getD default)) I (λb88=>?_) ?_
    ·refine .A 2 I<|.q I (.sidx I I I U9 (someD (impT c89 b88)))<|.q I (.call I (kC I) I (zdI _ _ _ (someD (impT c90 b88))))<|.A 1 I<|.nil I
    refine .A 1 I<|gK h λc92 h=>.jA 4 (((za7 n t0 x78).getD default)==0) I (λb91=>?_) ?_
    ·refine .A 2 I<|.q I (.call I (kC I) I (zgv _ _ _ _ (someD (impT c92 b91))))<|.A 1 I<|.nil I
    refine .nil<|.nil<|.K [0,6,106] I<|.condS I h (λh=>?_) λh=>?_
    ·refine .skip<|.block<|.rA 3 I (ndE h I)
    ·refine .exit<|.sA 3 I<|.ret ?_
     cases h
     exact zcQ I I (.d _) (.d _)
theorem ref02_Scan_ok (n t0 r) (h:zcF n t0=some r):Pure pg 198 [.str t0] (.tup [eO r.1,.int r.2]):=by
 refine Pure.ot Tryz.func198 I Tryz.ntmps198 I λA w=>.sr<|.p I (.nilS 4 (α:=Token) Token.enc I)<|.A 1 I<|.nil<|.seq<|.S 1 I<|.p I (.len_str I U9 I)<|.A 1 I<|.nil<|.condS I h (λh=>?_) λh=>?_
 ·refine .sr<|.p I (.nilS 4 (α:=Token) Token.enc I)<|.A 1 I<|.nil<|.ret ?_
  cases h
  exact zcQ I I (.d _) (.d _)
 ·refine .skip<|.sr<|.buildVec [] I I I I I E223 I (λ_=>I) I (enc:=Token.enc)<|.A 1 I<|.nil<|.sA 1 I<|.seq<|.block<|.L [0] h (λv=>[(4,.vec 0 (List.length v.1)),(5,.d (.int v.2))]) (λv=>[(0,.vec 227 4 (List.map Token.enc v.1))]) I λ_ ⟨b0_13,x14⟩ h=>.seq<|.S 2 I<|.Z h I (zh4 _ _ _) λx16 h=>.A 1 I<|.p I (.len_str I U9 I)<|.A 1 I<|.nil<|.K [0,4,5,18] I<|.condS I h (λh=>?_) λh=>?_
  ·refine .skip<|.block<|.S 2 I<|.Z h I (zh4 _ _ _) λx17 h=>.A 1 I<|.nil<|.S 2 I<|.Z h I (ref02_token_ok _ _ _) λx18 h=>.A 1 I<|.p I (.extract I I I)<|.p I (.extract I I I)<|.A 2 I<|.nil<|.S 5 I<|.p I (.castD (Token.enc (⟨x18.1,x14,x17,x18.2⟩:Token)) I (.build I Pl227 (.agg Zc227 (ds':=[_,_,_,_]) (.e (.e (.e .e1)))) I I))<|.p I (.buildSl [_] I I E223 I (λ_=>I) I (enc:=Token.enc))<|bK h λx19 q19 h=>.app I I I I I I I I E223 I (λ_=>I) q19<|.A 1 I<|.nil<|.K [0,4,8] I<|.rA 2 I (ndE h I)
  ·refine .exit<|.S 3 I<|.p I (.len_str I U9 I)<|.A 1 I<|.p I (.len_str I U9 I)<|.p I (.castD (Token.enc (⟨0,x14,(t0.length:Int),(t0.length:Int)⟩:Token)) I (.build I Pl227 (.agg Zc227 (ds':=[_,_,_,_]) (.e (.e (.e .e1)))) I I))<|.p I (.buildSl [_] I I E223 I (λ_=>I) I (enc:=Token.enc))<|bK h λx20 q20 h=>.app I I I I I I I I E223 I (λ_=>I) q20<|.A 2 I<|.nil<|.ret ?_
   cases h
   exact zcQ I I (.vec I (by simp)) (.d _)
theorem ref02_Kind_ok (n t0 r) (h:zgT n t0=some r):Pure pg 155 [.str t0] (.int r):=by
 refine Pure.ot Tryz.func155 I Tryz.ntmps155 I λA w=>.sA 1 I<|.S 1 I<|.Z h I (ref02_Scan_ok _ _) λx1 h=>.A 1 I<|.p I (.extract I I I)<|.p I (.extract I I I)<|.A 2 I<|.nil<|.seq<|.seq<|.plain 23 I<|.A 3 I<|.jO 3 ((x1.1.length:Int) != 2) I (λb2=>?_) ?_
 ·refine .A 1 I<|.q I (.len I U223 I)<|.A 1 I<|.nil I
 refine .A 1 I<|gK h λc4 h=>.jO 5 ((((idx x1.1 0).getD default).at_) != 0) I (λb3=>?_) ?_
 ·refine .A 1 I<|.q I (.ix I U223 S227 (someD (impF c4 b3)))<|.q I (.fa I (G227_2 _))<|.A 2 I<|.nil I
 refine .A 1 I<|gK h λc6 h=>.jO 7 ((((idx x1.1 0).getD default).end_) != (t0.length:Int)) I (λb5=>?_) ?_
 ·refine .A 1 I<|.q I (.ix I U223 S227 (someD (impF c6 b5)))<|.q I (.fa I (G227_3 _))<|.A 2 I<|.q I (.len_str I U9 I)<|.A 1 I<|.nil I
 refine .nil<|.nil<|.K [3,32] I<|.condS I h (λh=>?_) λh=>?_
 ·refine .sA 1 I<|.ret (rO h I)
 ·refine .skip<|.S 1 I<|.X h I λx7 h=>.p I (.fa I (G227_0 _))<|.A 2 I<|.nil<|.ret (rO h I)
theorem zh3 (n t0 r) (h:zfh n t0=some r):Pure pg 116 [.str t0] (.bool r):=by
 refine Pure.ot Tryz.func116 I Tryz.ntmps116 I λA w=>.sA 1 I<|.seq<|.plain 8 I<|.A 1 I<|.Z h I (ref02_Kind_ok _ _) λx1 h=>.A 2 I<|.jA 3 (decide ((t0.length:Int)≤16)) I (λb2=>?_) ?_
 ·refine .A 1 I<|.q I (.len_str I U9 I)<|.A 1 I<|.nil I
 refine .nil<|.A 1 I<|.nil<|.ret (rO h I)
theorem zex (n t0 r) (h:zbL n t0=some r):Pure pg 117 [.int t0] (.bool r):=by
 refine Pure.ot Tryz.func117 I Tryz.ntmps117 I λA w=>.sA 1 I<|.seq<|.plain 6 I<|.A 3 I<|.jO 2 (t0==1) I (λb1=>?_) ?_
 ·refine .A 2 I<|.nil I
 refine .nil<|.A 1 I<|.nil<|.ret (rO h I)
theorem ze4 (n t0 t1 r) (h:zaw n t0 t1=some r):Pure pg 81 [eA t0,eB t1] (.bool r):=by
 refine Pure.ot Tryz.func81 I Tryz.ntmps81 I λA w=>.sA 1 I<|.seq<|.seq<|.plain 13 I<|.A 1 I<|.p I (.len I U22 I)<|.A 2 I<|gK h λc2 h=>.jO 3 (!((za1 n t0).getD default)) I (λb1=>?_) ?_
 ·refine .A 1 I<|.q I (.call I (kC I) I (zhf _ _ _ (someD (impF c2 b1))))<|.A 1 I<|.nil I
 refine .A 1 I<|.jO 3 (decide (12<(t1.length:Int))) I (λb3=>?_) ?_
 ·refine .A 1 I<|.q I (.len I U23 I)<|.A 1 I<|.nil I
 refine .nil<|.nil<|.condS I h (λh=>?_) λh=>?_
 ·refine .sA 1 I<|.ret (rO h I)
 ·refine .skip<|.sA 2 I<|.K [0,1,5,6] I<|.seq<|.sA 1 I<|.block<|.L [0,1] h (λv=>[(5,.d (.int v.1)),(6,.d (.int v.2.1)),(7,.d (.int v.2.2))]) (λv=>[]) I λ_ ⟨x56,x57,x58⟩ h=>.seq<|.S 2 I<|.p I (.len I U23 I)<|.A 1 I<|.nil<|.K [0,1,5,6,7,27] I<|.condS I h (λh=>?_) λh=>?_
  ·refine .skip<|.J [0,1,7] h (λv=>[(5,.d (.int v.1)),(6,.d (.int v.2))]) (λv=>[]) I (λk_62 h=>?_) (λv h=>?_)
   ·refine .block<|.S 2 I<|.X h I λx63 h=>.A 1 I<|.allocStore I I I I I I I I (by simp) I I Z119<|.nil<|.seq<|.sA 1 I<|.block<|.L [0,1,5,6,7,8] h (λv=>[(9,.d (.int v))]) (λv=>[]) I λ_ x68 h=>.seq<|.sA 3 I<|.condS I h (λh=>?_) λh=>?_
    ·refine .skip<|.seq<|.block<|.seq<|.draw 8 Hm (by kernel_rfl) (by kernel_rfl)<|.A 2 I<|.X h I λx70 h=>.p I (.fa I (zhI _))<|.A 1 I<|.p I (.fa I (zhI _))<|.A 1 I<|.p I (.str_eql I I I)<|.nil<|.nil<|.condS I h (λh=>?_) λh=>?_
     ·refine .sA 1 I<|.ret (rO h I)
     ·refine .skip<|.rA 3 I (ndE h I)
    ·refine .exit<|.S 1 I<|.p I (.fa I (zbl _))<|.A 1 I<|.Z h I (zew _ _ _) λx71 h=>.A 1 I<|.nil<|.seq<|.seq<|.plain 18 I<|.p I (.fa I (zhI _))<|.A 1 I<|.Z h I (zh3 _ _) λx72 h=>.A 2 I<|.jO 3 (decide (x63.kind<0)) I (λb73=>?_) ?_
     ·refine .q I (.fa I (zcm _))<|.A 2 I<|.nil I
     refine .A 1 I<|.jO 3 (decide (5<x63.kind)) I (λb74=>?_) ?_
     ·refine .q I (.fa I (zcm _))<|.A 2 I<|.nil I
     refine .A 1 I<|.jO 2 (x71==0) I (λb75=>?_) ?_
     ·refine .A 2 I<|.nil I
     refine .nil<|.nil<|.K [0,1,5,6,7,8,10,68] I<|.condS I h (λh=>?_) λh=>?_
     ·refine .sA 1 I<|.ret (rO h I)
     ·refine .skip<|.seq<|.seq<|.plain 19 I<|.p I (.fa I (zdP _))<|.p I (.fa I (G85_0 _))<|.A 1 I<|.p I (.fa I (zdP _))<|.p I (.fa I (G85_1 _))<|.A 3 I<|.jO 4 (decide (x63.range.lo<(-9999))) I (λb76=>?_) ?_
      ·refine .q I (.fa I (zdP _))<|.q I (.fa I (G85_0 _))<|.A 2 I<|.nil I
      refine .A 1 I<|.jO 4 (decide (9999<x63.range.hi)) I (λb77=>?_) ?_
      ·refine .q I (.fa I (zdP _))<|.q I (.fa I (G85_1 _))<|.A 2 I<|.nil I
      refine .nil<|.nil<|.K [0,1,5,6,7,8,10,87] I<|.condS I h (λh=>?_) λh=>?_
      ·refine .sA 1 I<|.ret (rO h I)
      ·refine .skip<|.seq<|.seq<|.plain 25 I<|.p I (.fa I (zcm _))<|.A 3 I<|.jO 3 (x63.kind==2) I (λb78=>?_) ?_
       ·refine .q I (.fa I (zcm _))<|.A 2 I<|.nil I
       refine .A 1 I<|.jO 3 (x63.kind==3) I (λb79=>?_) ?_
       ·refine .q I (.fa I (zcm _))<|.A 2 I<|.nil I
       refine .A 1 I<|.jA 10 ((x63.range.lo != 0)||(x63.range.hi != 1)) I (λb80=>?_) ?_
       ·refine .q I (.fa I (zdP _))<|.q I (.fa I (G85_0 _))<|.A 3 I<|.jOr 4 (b2:=x63.range.hi != 1) I I I I (.inr ⟨_,_,_,I,I,I⟩) (λ_ _ _ h1 h2=>by cases h1;cases h2;decide) I I (λb81=>?_) ?_
        ·refine .q I (.fa I (zdP _))<|.q I (.fa I (G85_1 _))<|.A 2 I<|.nil I
        exact .nil I
       refine .nil<|.nil<|.K [0,1,5,6,7,8,10,112] I<|.condS I h (λh=>?_) λh=>?_
       ·refine .sA 1 I<|.ret (rO h I)
       ·refine .skip<|.sr<|.p I (.fa I (zcm _))<|.A 1 I<|.Z h I (zex _ _) λx82 h=>.nil<|.condS I h (λh=>?_) λh=>?_
        ·refine .seq<|.sr<|.p I (.fa I (zfN _))<|.A 3 I<|.nil<|.condS I h (λh=>?_) λh=>?_
         ·refine .sA 1 I<|.ret (rO h I)
         ·refine .skip<|.rA 4 I (ndE h I)
        ·refine .seq<|.sr<|.p I (.fa I (zfN _))<|.A 3 I<|.nil<|.condS I h (λh=>?_) λh=>?_
         ·refine .sA 1 I<|.ret (rO h I)
         ·refine .skip<|.rA 4 I (ndE h I)
   ·obtain ⟨x60,x61⟩:=v
    refine .rA 3 I (ndE h I)
  ·refine .exit<|.seq<|.plain 6 I<|.A 3 I<|.jA 2 (decide (x57≤64)) I (λb83=>?_) ?_
   ·refine .A 2 I<|.nil I
   refine .nil<|.A 1 I<|.nil<|.ret (rO h I)
theorem ref09_Ranges_ok (n t0 t1 t2 r) (h:zaA n t0 t1 t2=some r):Pure pg 92 [eA t0,eB t1,.bool t2] (eK r):=by
 refine Pure.ot Tryz.func92 I Tryz.ntmps92 I λA w=>.sr<|.p I (.nilS 2 (α:=Range) Range.enc I)<|.nil<|.sr<|.buildVec [] I I I I I E82 I (λ_=>I) I (enc:=Range.enc)<|.A 1 I<|.nil<|.seq<|.S 2 I<|.Z h I (ze4 _ _ _) λx1 h=>.A 1 I<|.nil<|.condS I h (λh=>?_) λh=>?_
 ·refine .sA 2 I<|.ret ?_
  cases h
  exact zaH I (.vec I (by simp))
 ·refine .skip<|.seq<|.sA 1 I<|.block<|.L [0,1,2] h (λv=>[(7,.vec 0 (List.length v.1)),(8,.d (.int v.2))]) (λv=>[(0,.vec 85 2 (List.map Range.enc v.1))]) I λ_ ⟨b0_62,x63⟩ h=>.seq<|.S 2 I<|.p I (.len I U23 I)<|.A 1 I<|.nil<|.K [0,1,2,7,8,19] I<|.condS I h (λh=>?_) λh=>?_
  ·refine .skip<|.seq<|.block<|.sA 1 I<|.block<|.L [0,1,2,8] h (λv=>[(7,.vec 0 (List.length v.1)),(9,.d (.int v.2))]) (λv=>[(0,.vec 85 2 (List.map Range.enc v.1))]) I λ_ ⟨b0_83,x84⟩ h=>.seq<|.seq<|.plain 19 I<|.A 2 I<|.X h I λx86 h=>.p I (.fa I (zcm _))<|.A 1 I<|.Z h I (zex _ _) λx87 h=>.A 1 I<|.p I (.beq I U4 I I)<|.A 1 I<|gK h λc89 h=>gK h λc90 h=>.jA 9 (decide (x84<((z9 n t0 (((idx t1 x63).getD default).columns)).getD default))) I (λb88=>?_) ?_
   ·refine .A 4 I<|.q I (.ix I U23 S119 (someD (impT c89 b88)))<|.q I (.fa I (zbl _))<|.A 1 I<|.q I (.call I (kC I) I (zew _ _ _ _ (someD (impT c90 b88))))<|.A 1 I<|.nil I
   refine .nil<|.nil<|.K [0,1,2,7,8,9,40] I<|.condS I h (λh=>?_) λh=>?_
   ·refine .skip<|.seq<|.block<|.region<|.A 3 I<|.X h I λx91 h=>.p I (.fa I (zdP _))<|.A 1 I<|.p I (.buildSl [_] I I E82 I (λ_=>I) I (enc:=Range.enc))<|bK h λx92 q92 h=>.app I I I I I I I I E82 I (λ_=>I) q92<|.A 1 I<|.nil<|.rA 3 I (ndE h I)
   ·refine .exit<|.rA 3 I (ndE h I)
  ·refine .exit<|.sA 2 I<|.ret ?_
   cases h
   exact zaH I (.vec I (by simp))
theorem zey (n t0 r) (h:zb5 n t0=some r):Pure pg 41 [Model.enc t0] (eK r):=by
 refine Pure.ot Tryz.func41 I Tryz.ntmps41 I λA w=>.S 1 I<|.p I (.nilS 2 (α:=Range) Range.enc I)<|.nil<|.S 4 I<|.Z h I (ref09_Ranges_ok _ _ _ _) λx1 h=>.A 1 I<|.nil<|.ret ?_
 cases h
 exact zaH I (.d _)
theorem ref13_Few_ok (n t0 r) (h:zby n t0=some r):Pure pg 10 [Model.enc t0] (.bool r):=by
 refine Pure.ot Tryz.func10 I Tryz.ntmps10 I λA w=>.sA 2 I<|.seq<|.seq<|.plain 15 I<|.A 1 I<|.Z h I (ref13_Bounded_ok _ _) λx1 h=>.A 2 I<|.jO 4 (decide (12<(t0.actions.length:Int))) I (λb2=>?_) ?_
 ·refine .A 2 I<|.q I (.len I U27 I)<|.A 1 I<|.nil I
 refine .A 1 I<|.jO 4 (decide (40<(t0.constraints.length:Int))) I (λb3=>?_) ?_
 ·refine .A 2 I<|.q I (.len I U25 I)<|.A 1 I<|.nil I
 refine .nil<|.nil<|.K [1,21] I<|.condS I h (λh=>?_) λh=>?_
 ·refine .sA 1 I<|.ret (rO h I)
 ·refine .skip<|.seq<|.sA 1 I<|.block<|.L [1] h (λv=>[(3,.d (.int v))]) (λv=>[]) I λ_ x8 h=>.seq<|.S 3 I<|.p I (.len I U27 I)<|.A 1 I<|.nil<|.K [1,3,26] I<|.condS I h (λh=>?_) λh=>?_
  ·refine .skip<|.seq<|.block<|.S 3 I<|.X h I λx10 h=>.p I (.fa I (G62_2 _))<|.p I (.fa I (G60_1 _))<|.A 1 I<|.p I (.len I U57 I)<|.A 1 I<|.nil<|.condS I h (λh=>?_) λh=>?_
   ·refine .sA 1 I<|.ret (rO h I)
   ·refine .skip<|.rA 3 I (ndE h I)
  ·refine .exit<|.S 1 I<|.Z h I (zey _ _) λx11 h=>.A 1 I<|.nil<|.seq<|.S 1 I<|.p I (.len I U82 I)<|.A 1 I<|.nil<|.condS I h (λh=>?_) λh=>?_
   ·refine .sA 1 I<|.ret (rO h I)
   ·refine .skip<|.sA 1 I<|.seq<|.sA 1 I<|.block<|.L [4] h (λv=>[(5,.d (.int v.1)),(6,.d (.int v.2))]) (λv=>[]) I λ_ ⟨x20,x21⟩ h=>.seq<|.S 2 I<|.p I (.len I U82 I)<|.A 1 I<|.nil<|.K [4,5,6,46] I<|.condS I h (λh=>?_) λh=>?_
    ·refine .skip<|.seq<|.block<|.seq<|.draw 15 Hm (by kernel_rfl) (by kernel_rfl)<|.A 3 I<|.X h I λx23 h=>.p I (.fa I (G85_1 _))<|.A 3 I<|.X h I λx24 h=>.p I (.fa I (G85_0 _))<|.A 5 I<|.nil<|.nil<|.sA 2 I<|.K [4,5,6,64] I<|.condS I h (λh=>?_) λh=>?_
     ·refine .sA 1 I<|.ret (rO h I)
     ·refine .skip<|.rA 3 I (ndE h I)
    ·refine .exit<|.sA 1 I<|.ret (rO h I)
theorem law24_small_1_ok (n t0 r) (h:zcD n t0=some r):Pure pg 43 [.int t0] (.bool r):=by
 refine Pure.ot Tryz.func43 I Tryz.ntmps43 I λA w=>.sA 1 I<|.seq<|.plain 6 I<|.A 3 I<|.jO 2 (decide (1099511627776<t0)) I (λb1=>?_) ?_
 ·refine .A 2 I<|.nil I
 refine .nil<|.A 1 I<|.nil<|.ret (rO h I)
theorem law24_small_ok (n t0 r) (h:zdx n t0=some r):Pure pg 11 [eA t0] (.bool r):=by
 refine Pure.ot Tryz.func11 I Tryz.ntmps11 I λA w=>.sA 1 I<|.seq<|.plain 8 I<|.A 1 I<|.p I (.len I U22 I)<|.A 2 I<|gK h λc2 h=>.jA 3 (!((zh n t0 (λq0=>zcD n q0)).getD default)) I (λb1=>?_) ?_
 ·refine .A 1 I<|.q I (.call I (kC I) I (zai _ _ _ _ (λq0 y hq=>⟨_,_,I,K43,law24_small_1_ok _ q0 _ hq⟩) _ (someD (impT c2 b1))))<|.A 1 I<|.nil I
 refine .nil<|.A 1 I<|.nil<|.ret (rO h I)
theorem zfj (n t0 r) (h:zal n t0=some r):Pure pg 82 [eC t0] (.bool r):=by
 refine Pure.ot Tryz.func82 I Tryz.ntmps82 I λA w=>.sA 1 I<|.seq<|.sA 1 I<|.block<|.L [0] h (λv=>[(3,.d (.int v))]) (λv=>[]) I λ_ x15 h=>.seq<|.S 2 I<|.p I (.len I U24 I)<|.A 1 I<|.nil<|.K [0,3,7] I<|.condS I h (λh=>?_) λh=>?_
 ·refine .skip<|.seq<|.block<|.seq<|.draw 16 Hm (by kernel_rfl) (by kernel_rfl)<|.A 2 I<|.X h I λx17 h=>.A 1 I<|.Z h I (zh3 _ _) λx18 h=>.A 2 I<|gK h λc20 h=>gK h λc21 h=>gK h λc22 h=>.jO 8 (((zci n ((cut t0 0 x15).getD default) ((idx t0 x15).getD default)).getD default)) I (λb19=>?_) ?_
  ·refine .A 2 I<|.q I (.cutSlH I I I U24 S9 (someD (impF c20 b19)))<|.A 2 I<|.q I (.ix I U24 S9 (someD (impF c21 b19)))<|.A 1 I<|.q I (.call I (kC I) I (ref02_Has_ok _ _ _ _ (someD (impF c22 b19))))<|.nil I
  refine .nil<|.nil<|.K [0,3,25] I<|.condS I h (λh=>?_) λh=>?_
  ·refine .sA 1 I<|.ret (rO h I)
  ·refine .skip<|.rA 3 I (ndE h I)
 ·refine .exit<|.sA 1 I<|.ret (rO h I)
theorem zh5 (n t0 t1 r) (h:zaB n t0 t1=some r):Pure pg 156 [eL t0,eL t1] (.bool r):=by
 refine Pure.ot Tryz.func156 I Tryz.ntmps156 I λA w=>.sA 1 I<|.seq<|.S 1 I<|.p I (.len I U67 I)<|.A 1 I<|.p I (.len I U67 I)<|.A 1 I<|.nil<|.condS I h (λh=>?_) λh=>?_
 ·refine .sA 1 I<|.ret (rO h I)
 ·refine .skip<|.seq<|.sA 1 I<|.block<|.L [0,1] h (λv=>[(5,.d (.int v))]) (λv=>[]) I λ_ x7 h=>.seq<|.S 2 I<|.p I (.len I U67 I)<|.A 1 I<|.nil<|.K [0,1,5,14] I<|.condS I h (λh=>?_) λh=>?_
  ·refine .skip<|.seq<|.block<|.seq<|.draw 9 Hm (by kernel_rfl) (by kernel_rfl)<|.A 2 I<|.X h I λx9 h=>.A 3 I<|.X h I λx10 h=>.A 1 I<|.p I (.sneq I SE77 I I (xs:=Term.vals _) (ys:=Term.vals _) I I I I (SQ77 _ _))<|.nil<|.nil<|.condS I h (λh=>?_) λh=>?_
   ·refine .sA 1 I<|.ret (rO h I)
   ·refine .skip<|.rA 3 I (ndE h I)
  ·refine .exit<|.sA 1 I<|.ret (rO h I)
theorem zfS (n t0 t1 r) (h:zb9 n t0 t1=some r):Pure pg 119 [Row.enc t0,Row.enc t1] (.bool r):=by
 refine Pure.ot Tryz.func119 I Tryz.ntmps119 I λA w=>.sA 3 I<|.seq<|.plain 12 I<|.p I (.fa I (G69_1 _))<|.A 1 I<|.p I (.fa I (G69_1 _))<|.A 3 I<|gK h λc2 h=>.jA 5 (((zaB n t0.terms t1.terms).getD default)) I (λb1=>?_) ?_
 ·refine .q I (.fa I (G69_0 _))<|.A 1 I<|.q I (.fa I (G69_0 _))<|.A 1 I<|.q I (.call I (kC I) I (zh5 _ _ _ _ (someD (impT c2 b1))))<|.nil I
 refine .nil<|.A 1 I<|.nil<|.K [4] I<|.ret (rO h I)
theorem zcT (n t0 t1 r) (h:zac n t0 t1=some r):Pure pg 122 [.int t0,.int t1] (.bool r):=by
 refine Pure.ot Tryz.func122 I Tryz.ntmps122 I λA w=>.sA 1 I<|.seq<|.plain 9 I<|.A 2 I<|.p I (.neg6 I I)<|.A 2 I<|.jA 3 (decide (t0≤t1)) I (λb1=>?_) ?_
 ·refine .A 3 I<|.nil I
 refine .nil<|.A 1 I<|.nil<|.ret (rO h I)
theorem ref13_row_ok (n t0 t1 r) (h:zbY n t0 t1=some r):Pure pg 120 [Row.enc t0,.int t1] (.bool r):=by
 refine Pure.ot Tryz.func120 I Tryz.ntmps120 I λA w=>.sA 2 I<|.seq<|.sA 1 I<|.block<|.L [1,2] h (λv=>[(5,.d (.int v))]) (λv=>[]) I λ_ x19 h=>.seq<|.S 1 I<|.p I (.fa I (G69_0 _))<|.A 1 I<|.p I (.len I U67 I)<|.A 1 I<|.nil<|.K [1,2,5,11] I<|.condS I h (λh=>?_) λh=>?_
 ·refine .skip<|.seq<|.block<|.sr<|.p I (.fa I (G69_0 _))<|.A 2 I<|.X h I λx21 h=>.A 1 I<|.allocStore I I I I I I I I (by simp) I I Z77<|.nil<|.seq<|.draw 36 Hm (by kernel_rfl) (by kernel_rfl)<|.p I (.fa I (G77_0 _))<|.A 3 I<|.jO 4 (decide (t1≤x21.cell)) I (λb22=>?_) ?_
  ·refine .q I (.fa I (G77_0 _))<|.A 3 I<|.nil I
  refine .A 1 I<|gK h λc25 h=>.jO 14 ((decide (0<x19))&&(decide (x21.cell≤((idx t0.terms (sub64 x19 1)).getD default).cell))) I (λb23=>?_) ?_
  ·refine .A 3 I<|.jAnd 10 (b2:=decide (x21.cell≤((idx t0.terms (sub64 x19 1)).getD default).cell)) I I I I (.inr ⟨_,_,_,I,I,I⟩) (λ_ _ _ h1 h2=>by cases h1;cases h2;decide) I I (λb24=>?_) ?_
   ·refine .q I (.fa I (G69_0 _))<|.A 3 I<|.q I (.ix I U67 S77 (someD (impT (impF c25 b23) b24)))<|.q I (.fa I (G77_0 _))<|.A 1 I<|.q I (.fa I (G77_0 _))<|.A 2 I<|.nil I
   exact .nil I
  refine .A 1 I<|.jO 3 (x21.factor==0) I (λb26=>?_) ?_
  ·refine .q I (.fa I (G77_1 _))<|.A 2 I<|.nil I
  refine .A 1 I<|gK h λc28 h=>.jO 4 (!((zac n x21.factor 1000).getD default)) I (λb27=>?_) ?_
  ·refine .q I (.fa I (G77_1 _))<|.A 1 I<|.q I (.call I (kC I) I (zcT _ _ _ _ (someD (impF c28 b27))))<|.A 1 I<|.nil I
  refine .nil<|.nil<|.K [1,2,5,54] I<|.condS I h (λh=>?_) λh=>?_
  ·refine .sA 1 I<|.ret (rO h I)
  ·refine .skip<|.rA 3 I (ndE h I)
 ·refine .exit<|.sr<|.p I (.fa I (G69_1 _))<|.A 1 I<|.Z h I (zcT _ _ _) λx29 h=>.A 1 I<|.nil<|.ret (rO h I)
theorem ref13_graph_ok (n t0 t1 r) (h:zbo n t0 t1=some r):Pure pg 121 [Model.enc t0,Constraint.enc t1] (.bool r):=by
 refine Pure.ot Tryz.func121 I Tryz.ntmps121 I λA w=>.sA 3 I<|.seq<|.seq<|.plain 11 I<|.p I (.fa I (G74_2 _))<|.p I (.fa I (G69_0 _))<|.A 1 I<|.p I (.len I U67 I)<|.A 2 I<|.jO 4 (t1.row.bound != 0) I (λb1=>?_) ?_
 ·refine .q I (.fa I (G74_2 _))<|.q I (.fa I (G69_1 _))<|.A 2 I<|.nil I
 refine .nil<|.nil<|.condS I h (λh=>?_) λh=>?_
 ·refine .sA 1 I<|.ret (rO h I)
 ·refine .skip<|.seq<|.sA 1 I<|.block<|.L [2,3] h (λv=>[(5,.d (.int v))]) (λv=>[]) I λ_ x22 h=>.seq<|.S 3 I<|.p I (.len I U23 I)<|.A 1 I<|.nil<|.K [2,3,5,22] I<|.condS I h (λh=>?_) λh=>?_
  ·refine .skip<|.seq<|.block<|.S 3 I<|.X h I λx24 h=>.A 1 I<|.allocStore I I I I I I I I (by simp) I I Z119<|.nil<|.seq<|.draw 40 Hm (by kernel_rfl) (by kernel_rfl)<|.p I (.fa I (zcm _))<|.A 3 I<|.jA 4 ((x24.columns.length:Int)==2) I (λb25=>?_) ?_
   ·refine .q I (.fa I (zbl _))<|.A 1 I<|.q I (.len I U22 I)<|.A 1 I<|.nil I
   refine .A 1 I<|gK h λc27 h=>gK h λc28 h=>.jA 9 (((idx x24.columns 0).getD default)==((idx x24.columns 1).getD default)) I (λb26=>?_) ?_
   ·refine .q I (.fa I (zbl _))<|.A 1 I<|.q I (.ix I U22 S3 (someD (impT c27 b26)))<|.A 1 I<|.q I (.fa I (zbl _))<|.A 1 I<|.q I (.ix I U22 S3 (someD (impT c28 b26)))<|.A 2 I<|.nil I
   refine .A 1 I<|.jA 5 (x24.first==t1.first) I (λb29=>?_) ?_
   ·refine .q I (.fa I (zfN _))<|.A 1 I<|.q I (.fa I (G74_3 _))<|.A 2 I<|.nil I
   refine .A 1 I<|gK h λc31 h=>gK h λc32 h=>.jA 11 (((idx t0.sorts ((idx x24.columns 0).getD default)).getD default)==t1.size) I (λb30=>?_) ?_
   ·refine .A 2 I<|.q I (.fa I (zbl _))<|.A 1 I<|.q I (.ix I U22 S3 (someD (impT c31 b30)))<|.A 1 I<|.q I (.ix I U22 S3 (someD (impT c32 b30)))<|.A 1 I<|.q I (.fa I (G74_4 _))<|.A 2 I<|.nil I
   refine .nil<|.nil<|.K [2,3,5,69] I<|.condS I h (λh=>?_) λh=>?_
   ·refine .sA 1 I<|.ret (rO h I)
   ·refine .skip<|.rA 3 I (ndE h I)
  ·refine .exit<|.sA 1 I<|.ret (rO h I)
theorem zg0 (n t0 r) (h:zL n t0=some r):Pure pg 83 [Model.enc t0] (.bool r):=by
 refine Pure.ot Tryz.func83 I Tryz.ntmps83 I λA w=>.sA 2 I<|.S 1 I<|.Z h I (zey _ _) λx1 h=>.A 1 I<|.nil<|.seq<|.seq<|.plain 13 I<|.A 2 I<|.p I (.len I U25 I)<|.A 1 I<|.p I (.len I U82 I)<|.A 3 I<|.jO 4 (decide (512<(t0.constraints.length:Int))) I (λb2=>?_) ?_
 ·refine .A 2 I<|.q I (.len I U25 I)<|.A 1 I<|.nil I
 refine .nil<|.nil<|.K [1,3,24] I<|.condS I h (λh=>?_) λh=>?_
 ·refine .sA 1 I<|.ret (rO h I)
 ·refine .skip<|.seq<|.sA 1 I<|.block<|.L [1,3] h (λv=>[(4,.d (.int v))]) (λv=>[]) I λ_ x19 h=>.seq<|.S 2 I<|.p I (.len I U82 I)<|.A 1 I<|.nil<|.K [1,3,4,28] I<|.condS I h (λh=>?_) λh=>?_
  ·refine .skip<|.seq<|.block<|.S 1 I<|.p I (.castD (Term.enc (⟨x19,(-1)⟩:Term)) I (.build I Pl77 (.agg Zc77 (ds':=[_,_]) (.e .e1)) I I))<|.p I (.buildSl [_] I I E67 I (λ_=>I) I (enc:=Term.enc))<|.A 2 I<|.X h I λx21 h=>.p I (.fa I (G85_0 _))<|.A 1 I<|.p I (.neg6 I I)<|.p I (.castD (Row.enc (⟨[(⟨x19,(-1)⟩:Term)],neg64 x21.lo⟩:Row)) I (.build I Pl69 (.agg Zc69 (ds':=[_,_]) (.e .e1)) I I))<|.allocStore I I I I I I I I (by simp) I I Z69<|.nil<|.S 1 I<|.p I (.castD (Term.enc (⟨x19,1⟩:Term)) I (.build I Pl77 (.agg Zc77 (ds':=[_,_]) (.e .e1)) I I))<|.p I (.buildSl [_] I I E67 I (λ_=>I) I (enc:=Term.enc))<|.A 2 I<|.X h I λx22 h=>.p I (.fa I (G85_1 _))<|.A 1 I<|.p I (.castD (Row.enc (⟨[(⟨x19,1⟩:Term)],x22.hi⟩:Row)) I (.build I Pl69 (.agg Zc69 (ds':=[_,_]) (.e .e1)) I I))<|.allocStore I I I I I I I I (by simp) I I Z69<|.nil<|.K [1,3,4,5,6] I<|.seq<|.draw 23 Hm (by kernel_rfl) (by kernel_rfl)<|.A 4 I<|.X h I λx23 h=>.p I (.fa I (G74_2 _))<|.A 2 I<|.Z h I (zfS _ _ _) λx24 h=>.A 2 I<|gK h λc26 h=>gK h λc27 h=>.jO 11 (!((zb9 n (((idx t0.constraints (add64 (mul64 2 x19) 1)).getD default).row) (⟨[(⟨x19,1⟩:Term)],x22.hi⟩:Row)).getD default)) I (λb25=>?_) ?_
   ·refine .A 5 I<|.q I (.ix I U25 S74 (someD (impF c26 b25)))<|.q I (.fa I (G74_2 _))<|.A 2 I<|.q I (.call I (kC I) I (zfS _ _ _ _ (someD (impF c27 b25))))<|.A 1 I<|.nil I
   refine .nil<|.nil<|.K [1,3,4,72] I<|.condS I h (λh=>?_) λh=>?_
   ·refine .sA 1 I<|.ret (rO h I)
   ·refine .skip<|.rA 3 I (ndE h I)
  ·refine .exit<|.seq<|.sA 1 I<|.block<|.L [1,3] h (λv=>[(7,.d (.int v))]) (λv=>[]) I λ_ x50 h=>.seq<|.S 3 I<|.p I (.len I U25 I)<|.A 1 I<|.nil<|.K [1,3,7,77] I<|.condS I h (λh=>?_) λh=>?_
   ·refine .skip<|.seq<|.block<|.S 3 I<|.X h I λx52 h=>.A 1 I<|.allocStore I I I I I I I I (by simp) I I Z74<|.nil<|.seq<|.seq<|.plain 11 I<|.p I (.fa I (G74_1 _))<|.A 3 I<|.jO 6 (decide ((t0.families.length:Int)≤x52.family)) I (λb53=>?_) ?_
    ·refine .q I (.fa I (G74_1 _))<|.A 3 I<|.q I (.len I U24 I)<|.A 1 I<|.nil I
    refine .nil<|.nil<|.K [1,3,7,8,95] I<|.condS I h (λh=>?_) λh=>?_
    ·refine .sA 1 I<|.ret (rO h I)
    ·refine .skip<|.seq<|.plain 20 I<|.p I (.fa I (G74_0 _))<|.A 3 I<|.jA 3 (x52.first==0) I (λb54=>?_) ?_
     ·refine .q I (.fa I (G74_3 _))<|.A 2 I<|.nil I
     refine .A 1 I<|.jA 3 (x52.size==0) I (λb55=>?_) ?_
     ·refine .q I (.fa I (G74_4 _))<|.A 2 I<|.nil I
     refine .A 1 I<|gK h λc57 h=>.jA 5 (((zbY n x52.row (x1.length:Int)).getD default)) I (λb56=>?_) ?_
     ·refine .q I (.fa I (G74_2 _))<|.A 2 I<|.q I (.len I U82 I)<|.q I (.call I (kC I) I (ref13_row_ok _ _ _ _ (someD (impT c57 b56))))<|.nil I
     refine .nil<|.A 1 I<|.nil<|.K [1,3,7,8,9] I<|.seq<|.plain 20 I<|.A 3 I<|gK h λc61 h=>.jA 16 (!(((decide (mul64 2 (x1.length:Int)≤x50))&&(x52.kind==1))&&((zbo n t0 x52).getD default))) I (λb58=>?_) ?_
     ·refine .A 2 I<|.q I (.len I U82 I)<|.A 3 I<|.jAnd 3 (b2:=x52.kind==1) I I I I (.inr ⟨_,_,_,I,I,I⟩) (λ_ _ _ h1 h2=>by cases h1;cases h2;decide) I I (λb59=>?_) ?_
      ·refine .q I (.fa I (G74_0 _))<|.A 2 I<|.nil I
      refine .A 1 I<|.jAnd 3 (b2:=((zbo n t0 x52).getD default)) I I I I (.inr ⟨_,_,_,I,I,I⟩) (λ_ _ _ h1 h2=>by cases h1;cases h2;decide) I I (λb60=>?_) ?_
      ·refine .A 2 I<|.q I (.call I (kC I) I (ref13_graph_ok _ _ _ _ (someD (impT (impT c61 b58) b60))))<|.nil I
      refine .A 1 I<|.nil I
     refine .nil<|.nil<|.K [1,3,7,135] I<|.condS I h (λh=>?_) λh=>?_
     ·refine .sA 1 I<|.ret (rO h I)
     ·refine .skip<|.rA 3 I (ndE h I)
   ·refine .exit<|.sA 1 I<|.ret (rO h I)
end
end Go.Proofs.YtbnhmfnagdgcmaaGreatDoor
