/- Part of the proof of one law of the seat. -/
import Derived.Test.YtipkniadbkndfaaGreatDoorFr06
import Derived.RangeFuncRecord
import Derived.RangeFuncCalls
import Derived.RangeFuncLeaves
import Derived.WalkKit
import Derived.TacticsIn
import Derived.TacticsInMore
import Derived.BigFrameIn
import Derived.OwnWalkIn
set_option linter.unusedVariables false
set_option linter.unusedSectionVars false
set_option linter.unusedSimpArgs false
set_option maxRecDepth 100000
set_option maxHeartbeats 40000000
namespace Go.Proofs.YtipkniadbkndfaaGreatDoor
open Go Go.RowKit
section
open Go Go.RowKit Go.Proofs
attribute [local go_sem] Oper.semAt_some
def kAsg : Code := (Code.region 4 #[{ dst := some 3, op := Op.alloc 271, type := 0, pos := "lexer.go:137", after := #[], guard := none }, { dst := none, op := Op.store 271 (Operand.tmp 3) (Operand.tmp 13), type := 0, pos := "lexer.go:137", after := #[{ on := 0, ground := Ground.data }, { on := 0, ground := Ground.phase }], guard := none }] false)
def zx3 : Code := (Code.block 1 (((Code.region 5 #[{ dst := some 14, op := Op.fieldAddr 271 (Operand.tmp 3) 2, type := 0, pos := "lexer.go:138", after := #[], guard := none }, { dst := some 15, op := Op.load 3 (Operand.tmp 14), type := 3, pos := "lexer.go:138", after := #[{ on := 0, ground := Ground.data }], guard := none }, { dst := some 16, op := Op.binOp BinOp.neq 3 (Operand.tmp 15) (Operand.const (Value.int IntKind.i64 0)) 3, type := 4, pos := "lexer.go:138", after := #[{ on := 1, ground := Ground.data }], guard := none }, { dst := some 17, op := Op.move (Operand.tmp 16), type := 4, pos := "lexer.go:138", after := #[{ on := 2, ground := Ground.data }], guard := none }, { dst := some 18, op := Op.fieldAddr 271 (Operand.tmp 3) 3, type := 0, pos := "lexer.go:138", after := #[{ on := 3, ground := Ground.guard }], guard := some (3, false) }, { dst := some 19, op := Op.load 3 (Operand.tmp 18), type := 3, pos := "lexer.go:138", after := #[{ on := 4, ground := Ground.data }, { on := 3, ground := Ground.guard }], guard := some (3, false) }, { dst := some 20, op := Op.load 9 (Operand.tmp 1), type := 9, pos := "lexer.go:138", after := #[{ on := 3, ground := Ground.guard }], guard := some (3, false) }, { dst := some 21, op := Op.call { callee := Callee.builtin Builtin.len, args := #[Operand.tmp 20], argTypes := #[9] }, type := 3, pos := "lexer.go:138", after := #[{ on := 6, ground := Ground.data }, { on := 3, ground := Ground.guard }], guard := some (3, false) }, { dst := some 22, op := Op.binOp BinOp.neq 3 (Operand.tmp 19) (Operand.tmp 21) 3, type := 4, pos := "lexer.go:138", after := #[{ on := 5, ground := Ground.data }, { on := 7, ground := Ground.data }, { on := 3, ground := Ground.guard }], guard := some (3, false) }, { dst := some 23, op := Op.pick (Operand.tmp 17) (Operand.const (Value.bool true)) (Operand.tmp 22), type := 4, pos := "lexer.go:138", after := #[{ on := 3, ground := Ground.data }, { on := 8, ground := Ground.data }], guard := none }] false).seq (Code.cond (Operand.tmp 23) (Code.exit 0) Code.skip)).seq ((Code.region 6 #[{ dst := some 24, op := Op.fieldAddr 271 (Operand.tmp 3) 0, type := 0, pos := "lexer.go:141", after := #[], guard := none }, { dst := some 25, op := Op.load 3 (Operand.tmp 24), type := 3, pos := "lexer.go:141", after := #[{ on := 0, ground := Ground.data }], guard := none }, { dst := none, op := Op.store 3 (Operand.tmp 2) (Operand.tmp 25), type := 0, pos := "lexer.go:141", after := #[{ on := 1, ground := Ground.data }, { on := 0, ground := Ground.phase }, { on := 1, ground := Ground.phase }], guard := none }] false).seq Code.ret)))
def kRec (fn:FuncId) (tm:Array Value) (Dd:Nat) (st:LoopState) (pend:Option Code):Loop:=
  { state:=st,pending:=pend,fn,tmps:=tm,params:=#[13],assign:=kAsg,body:=zx3,defers:=Dd }
theorem ztb (fn) (l Dd B) (p1) (s) (k f a e) (x0 x3 x4 x5 x6 x7 x8 x9 x10 x11 x12 x13 x14 x15 x16 x17 x18 x19 x20 x21 x22 x23 x24 x25) (W) (hBl:B≠l) (hp:p1.block≠l)
    (hl:W.heap[l]? = some (.loop (kRec fn #[x0,.pointer (some p1),.pointer (some ⟨B,0,none⟩),x3,x4,x5,x6,x7,x8,x9,x10,x11,x12,x13,x14,x15,x16,x17,x18,x19,x20,x21,x22,x23,x24,x25] Dd .ready none))) (h1:W.cell? p1=some (.string s)) (hB:W.heap[B]? = some (.cells #[.int .i64 0] 3 (0,0))) :
    RoundIn Fence.wide 0 pg l fn #[x0,.pointer (some p1),.pointer (some ⟨B,0,none⟩),x3,x4,x5,x6,x7,x8,x9,x10,x11,x12,(.agg #[.int .i64 k,.int .i64 f,.int .i64 a,.int .i64 e]),x14,x15,x16,x17,x18,x19,x20,x21,x22,x23,x24,x25] kAsg zx3 W (λen W'=>en = .returned (.bool false)∧Fr (λb=>b=l∨b=B) W W' ∧
      ((((a != 0)||(e != (s.size:Int)))=true∧W'.heap[l]? = some (.loop (kRec fn #[x0,.pointer (some p1),.pointer (some ⟨B,0,none⟩),x3,x4,x5,x6,x7,x8,x9,x10,x11,x12,x13,x14,x15,x16,x17,x18,x19,x20,x21,x22,x23,x24,x25] Dd .done (some (.exit 0))))∧W'.heap[B]? = some (.cells #[.int .i64 0] 3 (0,0))) ∨
       (((a != 0)||(e != (s.size:Int)))=false∧W'.heap[l]? = some (.loop (kRec fn #[x0,.pointer (some p1),.pointer (some ⟨B,0,none⟩),x3,x4,x5,x6,x7,x8,x9,x10,x11,x12,x13,x14,x15,x16,x17,x18,x19,x20,x21,x22,x23,x24,x25] Dd .done (some .ret)))∧W'.heap[B]? = some (.cells #[.int .i64 k] 3 (0,0))))):=by
  refine roundIn_of_wpIn trivial ?_
  unfold kAsg
  gi_wp2_with (grind)
  have hlt:l<W.heap.size:=(yk.1 hl).1
  have hBlt:B<W.heap.size:=(yk.1 hB).1
  have hplt:p1.block<W.heap.size:=by
    refine Nat.lt_of_not_le λh=>?_
    have e0:W.heap[p1.block]? = none:=Array.getElem?_eq_none_iff.2 h
    grind [World.cell?]
  obtain ⟨W1,hW1⟩:∃ W1,W.alloc (.cells #[.int .i64 k,.int .i64 f,.int .i64 a,.int .i64 e] 271)=W1:=⟨_,rfl⟩
  have hold:∀ q,q<W.heap.size→W1.heap[q]? = W.heap[q]?:=λq hq=>by grind [Below.heap_alloc]
  have hnew:W1.heap[W.heap.size]? = some (.cells #[.int .i64 k,.int .i64 f,.int .i64 a,.int .i64 e] 271):=by grind [World.alloc_heap_new]
  have hsz1:W1.heap.size=W.heap.size+1:=by rw [← hW1];simp
  have hfr1:Fr ze W W1:=by rw [← hW1];exact ⟨rfl,rfl,rfl,by simp,λb hb _=>Below.heap_alloc W _ b hb,λ_=>ym _⟩
  simp only [hW1]
  clear hW1
  have hL1:=(hold l hlt).trans hl
  have hbr:=run_beginRound (P:=pg) hL1 rfl
  obtain ⟨W2,hW2⟩:∃ W2,W1.putObj l (.loop { kRec fn #[x0,.pointer (some p1),.pointer (some ⟨B,0,none⟩),x3,x4,x5,x6,x7,x8,x9,x10,x11,x12,x13,x14,x15,x16,x17,x18,x19,x20,x21,x22,x23,x24,x25] Dd .ready none with state:=.busy })=W2:=⟨_,rfl⟩
  have hfr2:Fr (λb=>b=l) W1 W2:=by rw [← hW2];exact ⟨rfl,rfl,rfl,by simp,λb _ hne=>World.putObj_heap_other hne,λ_=>ym _⟩
  rw [hW2] at hbr
  have hput:∀ q,q≠l→W2.heap[q]? = W1.heap[q]?:=λq hq=>by rw [← hW2];exact World.putObj_heap_other hq
  have hL2:=(World.putObj_heap_same (w:=W1) (o:=.loop { kRec fn #[x0,.pointer (some p1),.pointer (some ⟨B,0,none⟩),x3,x4,x5,x6,x7,x8,x9,x10,x11,x12,x13,x14,x15,x16,x17,x18,x19,x20,x21,x22,x23,x24,x25] Dd .ready none with state:=.busy }) (by omega:l<W1.heap.size))
  rw [hW2] at hL2
  refine ⟨W2,hbr,?_⟩
  clear hW2 hbr
  have hT2:=(hput W.heap.size (by omega)).trans hnew
  have hB2:=((hput B hBl).trans (hold B hBlt)).trans hB
  have hp2:W2.cell? p1=some (.string s):=((World.cell?_of_block (hput p1.block hp)).trans (World.cell?_of_block (hold p1.block hplt))).trans h1
  have c0:W2.cell? ⟨W.heap.size,0,none⟩=some (.int .i64 k):=by rw [zV hT2];rfl
  have c2:W2.cell? ⟨W.heap.size,2,none⟩=some (.int .i64 a):=by rw [zV hT2];rfl
  have c3:W2.cell? ⟨W.heap.size,3,none⟩=some (.int .i64 e):=by rw [zV hT2];rfl
  have cB:W2.cell? ⟨B,0,none⟩=some (.int .i64 0):=by rw [zV hB2];rfl
  have fB:W2.frozen? ⟨B,0,none⟩=false:=by simp [World.frozen?,hB2]
  unfold zx3
  gi_wp2_with (rw [Oper.semAt_eq _ _ _ (λc h=>by cases h)];go_simp;try go_bits)
  all_goals first
    | (refine ⟨_,_,run_endRound (some (.exit 0)) hL2,rfl,?_,?_,(World.putObj_heap_other hBl).trans hB2⟩
       · refine ((hfr1.mono λ_ _ x=>x.elim).trans (hfr2.mono λ_ _ x=>.inl x)).trans ⟨rfl,rfl,rfl,by simp,λb _ hne=>World.putObj_heap_other (λh=>hne (.inl h)),λ_=>ym _⟩
       · exact World.putObj_heap_same (yk.1 hL2).1)
    | (have hL3:(W2.setCell ⟨B,0,none⟩ (.int .i64 k)).heap[l]? = some (.loop { kRec fn #[x0,.pointer (some p1),.pointer (some ⟨B,0,none⟩),x3,x4,x5,x6,x7,x8,x9,x10,x11,x12,x13,x14,x15,x16,x17,x18,x19,x20,x21,x22,x23,x24,x25] Dd .ready none with state:=.busy }):=(Below.heap_setCell W2 ⟨B,0,none⟩ _ l (Ne.symm hBl)).trans hL2
       refine ⟨_,_,run_endRound (some .ret) hL3,rfl,?_,?_,(World.putObj_heap_other hBl).trans ?_⟩
       · have f3:Fr (λb=>b=l∨b=B) W2 (W2.setCell ⟨B,0,none⟩ (.int .i64 k)):=⟨rfl,rfl,rfl,by simp,λb _ hne=>Below.heap_setCell W2 ⟨B,0,none⟩ _ b (λh=>hne (.inr h)),λ_=>ym _⟩
         exact (((hfr1.mono λ_ _ x=>x.elim).trans (hfr2.mono λ_ _ x=>.inl x)).trans f3).trans ⟨rfl,rfl,rfl,by simp,λb _ hne=>World.putObj_heap_other (λh=>hne (.inl h)),λ_=>ym _⟩
       · exact World.putObj_heap_same (yk.1 hL3).1
       · simp [World.setCell,Array.getElem?_modify,hB2])
def zp5 : Code := .seq (Code.region 7 #[{ dst := none, op := Op.store 3 (Operand.tmp 2) (Operand.const (Value.int IntKind.i64 0)), type := 0, pos := "lexer.go:143", after := #[], guard := none }] false) .ret
theorem kTail (B) (x0 x1 x3 x4 x5 x6 x7 x8 x9 x10 x11 x12 x13 x14 x15 x16 x17 x18 x19 x20 x21 x22 x23 x24 x25) (df) (W) (Qf) (hB:W.heap[B]? = some (.cells #[.int .i64 0] 3 (0,0)))
  (h:Qf .ret { tmps:=#[x0,x1,.pointer (some ⟨B,0,none⟩),x3,x4,x5,x6,x7,x8,x9,x10,x11,x12,x13,x14,x15,x16,x17,x18,x19,x20,x21,x22,x23,x24,x25],defers:=df } (W.setCell ⟨B,0,none⟩ (.int .i64 0))):zp5.wp pg Qf { tmps:=#[x0,x1,.pointer (some ⟨B,0,none⟩),x3,x4,x5,x6,x7,x8,x9,x10,x11,x12,x13,x14,x15,x16,x17,x18,x19,x20,x21,x22,x23,x24,x25],defers:=df } W:=by
 have b:W.cell? ⟨B,0,none⟩=some (.int .i64 0):=by rw [zV hB];rfl
 have a:W.frozen? ⟨B,0,none⟩=false:=by grind [World.frozen?]
 refine (wpIn_wide (n:=0)).1 ?_
 unfold zp5
 gi_wp2
 exact h
theorem ztc (B) (tm) (hs:tm.size=26) (ht2:tm[2]? = some (.pointer (some ⟨B,0,none⟩))) (df) (W) (Qf) (hB:W.heap[B]? = some (.cells #[.int .i64 0] 3 (0,0)))
  (h:Qf .ret { tmps:=tm,defers:=df } (W.setCell ⟨B,0,none⟩ (.int .i64 0))):zp5.wp pg Qf { tmps:=tm,defers:=df } W:=by
 rcases tm with ⟨_ | ⟨z,_ | ⟨w,_ | ⟨x,_ | ⟨y,_ | ⟨A,_ | ⟨C,_ | ⟨E,_ | ⟨t,_ | ⟨u,_ | ⟨v,_ | ⟨c,_ | ⟨d,_ | ⟨e,_ | ⟨b,_ | ⟨f,_ | ⟨g,_ | ⟨i,_ | ⟨j,_ | ⟨a,_ | ⟨l,_ | ⟨m,_ | ⟨n,_ | ⟨k,_ | ⟨p,_ | ⟨o,_ | ⟨q,_ | ⟨r,s⟩⟩⟩⟩⟩⟩⟩⟩⟩⟩⟩⟩⟩⟩⟩⟩⟩⟩⟩⟩⟩⟩⟩⟩⟩⟩⟩⟩
 all_goals simp_all
 grind [kTail]
theorem Fr.past {w W0 W} {S} (h:Fr ze w W0) (k:Fr S W0 W) (hS:∀ b,S b→w.heap.size≤b):Fr ze w W:=
 ⟨k.os.trans h.os,k.tape.trans h.tape,k.output.trans h.output,yH h.size k.size,λb a _=>(k.block b (yA a h.size) λc=>by grind).trans (h.block b a λx=>x.elim),λd=>yH (h.drawn d) (k.drawn d)⟩
theorem zrJ {A} {w W} {tm} {B Dd} {k} (hs:tm.size=26) (ht2:tm[2]? = some (.pointer (some ⟨B,0,none⟩))) (hB:W.heap[B]? = some (.cells #[.int .i64 k] 3 (0,0))) (hD:W.heap[Dd]? = some (.deferred (some []))) (hBD:B≠Dd)
  (hf:Fr ze w W) (hDw:w.heap.size≤Dd):LeavesInM Fence.wide 0 pg Tryz.f272 tm (zge A w (.int k)) [{ target:=.collected Dd,args:=#[] }] .returning W:=by
 refine ⟨by simp,.inl ⟨_,_,rfl,run_takeDeferred hD,?_⟩⟩
 have e:(W.putObj Dd (.deferred none)).heap[B]? = some (.cells #[.int .i64 k] 3 (0,0)):=(World.putObj_heap_other hBD).trans hB
 have c:=zco (P:=pg) (A:=λ_=>False) (w:=W.putObj Dd (.deferred none)) (t:=3) (k:=none) Y3 (b:=B) (off:=0) (d:=.int k) (u:=.int .i64 k) (by grind [D.rep]) rfl (λq i=>by
  grind [Value.cells,zV])
 simp only [Instr.loadAt,Instr.sureAddr,Sem.run_bind,Sem.run_pure] at c
 refine ⟨.int .i64 k,?_,_,rfl,?_,by grind [D.rep]⟩
 ·have g:tm.getD 2 undef = .pointer (some ⟨B,0,none⟩):=by
   simp_all
  have h:(zeb tm (.cell 2 3)).run pg (W.putObj Dd (.deferred none)) = .ok (.int .i64 k) (W.putObj Dd (.deferred none)):=by
   grind [zeb,asAddr,Result.andThen_ok]
  rw [zbU]
  simp_all
 ·exact hf.past (S:=λb=>b=Dd) ⟨rfl,rfl,rfl,by simp,λb _ a=>World.putObj_heap_other a,λ_=>ym _⟩ (λb f=>by grind)
theorem zsg (fn) (l Dd B) (p1) (s) (k f a e) (tm) (hs:tm.size=26) (ht1:tm[1]? = some (.pointer (some p1))) (ht2:tm[2]? = some (.pointer (some ⟨B,0,none⟩))) (W) (hBl:B≠l) (hp:p1.block≠l)
    (hl:W.heap[l]? = some (.loop (kRec fn tm Dd .ready none))) (h1:W.cell? p1=some (.string s)) (hB:W.heap[B]? = some (.cells #[.int .i64 0] 3 (0,0))) :
    RoundIn Fence.wide 0 pg l fn (tm.setIfInBounds 13 (.agg #[.int .i64 k,.int .i64 f,.int .i64 a,.int .i64 e])) kAsg zx3 W (λen W'=>en = .returned (.bool false)∧Fr (λb=>b=l∨b=B) W W' ∧
      ((((a != 0)||(e != (s.size:Int)))=true∧W'.heap[l]? = some (.loop (kRec fn tm Dd .done (some (.exit 0))))∧W'.heap[B]? = some (.cells #[.int .i64 0] 3 (0,0))) ∨
       (((a != 0)||(e != (s.size:Int)))=false∧W'.heap[l]? = some (.loop (kRec fn tm Dd .done (some .ret)))∧W'.heap[B]? = some (.cells #[.int .i64 k] 3 (0,0))))):=by
  rcases tm with ⟨_ | ⟨x0,_ | ⟨x1,_ | ⟨x2,_ | ⟨x3,_ | ⟨x4,_ | ⟨x5,_ | ⟨x6,_ | ⟨x7,_ | ⟨x8,_ | ⟨x9,_ | ⟨x10,_ | ⟨x11,_ | ⟨x12,_ | ⟨x13,_ | ⟨x14,_ | ⟨x15,_ | ⟨x16,_ | ⟨x17,_ | ⟨x18,_ | ⟨x19,_ | ⟨x20,_ | ⟨x21,_ | ⟨x22,_ | ⟨x23,_ | ⟨x24,_ | ⟨x25,_ | ⟨x26,xs⟩⟩⟩⟩⟩⟩⟩⟩⟩⟩⟩⟩⟩⟩⟩⟩⟩⟩⟩⟩⟩⟩⟩⟩⟩⟩⟩⟩
  all_goals first | (exfalso;simp at hs;done) | skip
  all_goals first | (exfalso;simp at hs;omega) | skip
  simp at ht1 ht2
  subst ht1;subst ht2
  exact ztb fn l Dd B p1 s k f a e x0 x3 x4 x5 x6 x7 x8 x9 x10 x11 x12 x13 x14 x15 x16 x17 x18 x19 x20 x21 x22 x23 x24 x25 W hBl hp hl h1 hB
theorem hK298:ztF pg 298=true:=by kernel_rfl
theorem hK293:ztF pg 293=true:=by kernel_rfl
theorem hK299:ztF pg 299=true:=by kernel_rfl
theorem hZ278:zcD pg 278 none=true:=by kernel_rfl
abbrev KE:List UInt8→Value:=λl:List UInt8=>Value.string ⟨l.toArray⟩
theorem zjZ (n) (t0) (kw) (h:zbH n=some kw):Pure pg 293 [.str t0] (.fn (.func 299) [] [.ref (.str t0),.ref (GMap.dat KE D.bool kw)]):=by
  refine Pure.zwr Tryz.func293 rfl (by simp_all) λA w=>.seq <| .region <| .op rfl rfl (.box rfl rfl) <| .op rfl rfl (.assign rfl rfl) <| .nil <| .seq <| .region <| .op rfl rfl (.call rfl hK298 rfl (lexer_keywords_ok _ _ h)) <| .zu9 rfl rfl rfl rfl rfl rfl rfl rfl (by simp) rfl rfl hZ278 <| .nil <| .seq <| .region <| .op rfl rfl (.makeFunc rfl rfl) <| .op rfl rfl (.assign rfl rfl) <| .nil <| .ret <| zfO rfl (.d _)
theorem zlS (n) (t0) (r) (h:zek n t0=some r):Pure pg 272 [.str t0] (.int r):=by
  unfold zek at h
  refine Pure.zxk Tryz.func272 rfl (by rw [Tryz.ntmps272];simp) λA w=>?_
  rw [Tryz.ntmps272]
  refine .seq ?_
  refine .region ?_
  refine .op rfl rfl (.box rfl rfl) ?_
  refine .zuh rfl rfl rfl rfl (.val Zv3) rfl ?_
  refine .nil ?_
  refine .seq ?_
  refine .seq ?_
  refine .plain 7 rfl ?_
  refine .op rfl rfl rfl rfl (.load rfl rfl Y9 rfl) ?_
  refine .op rfl rfl rfl rfl (.zxr rfl rfl rfl) ?_
  refine .op rfl rfl rfl rfl (.move rfl rfl) ?_
  refine .jOr 3 (b2:=decide (4096<(t0.length:Int))) rfl rfl rfl rfl (.inl rfl) (λ_ _ _ h1=>(by cases h1)) rfl rfl (λhb_1=>?_) ?_
  · refine .gop rfl rfl rfl rfl rfl rfl (.load rfl rfl Y9 rfl) ?_
    refine .gop rfl rfl rfl rfl rfl rfl (.zvN rfl U9 rfl) ?_
    refine .gop rfl rfl rfl rfl rfl rfl (.gtr rfl rfl rfl) ?_
    exact .nil rfl
  refine .nil ?_
  refine .nil ?_
  refine .ztJ rfl h (λh=>?_) (λh=>?_)
  · refine .seq ?_
    refine .region ?_
    refine .store rfl rfl rfl rfl rfl rfl (.ofD rfl) C3 rfl (yq rfl) ?_
    refine .nil ?_
    refine .ret ?_
    cases h
    exact zre rfl rfl Y3 (.d _)
  refine .skip ?_
  obtain ⟨kw,hkw,h⟩:=zud h
  obtain ⟨tok,htok,h⟩:=zud h
  refine Tri.le (t:=⟨[(1,.d (.ref (.str t0))),(2,.loc 0 0)],[.box 3 [.d (.int 0)]]⟩) ⟨rfl,rfl,rfl,trivial⟩ ?_
  refine ⟨λbs a w' hR=>?_⟩
  have hR0:R ⟨A,ze,w,26,λ_ _=>False,[],0,[]⟩ bs ⟨[(1,.d (.ref (.str t0))),(2,.loc 0 0)],[.box 3 [.d (.int 0)]]⟩ a w':=hR.noEsc
  refine wp_seq (wp_seq (Code.wp_mono ?_ (Tri.run (C:=⟨A,ze,w,26,λ_ _=>False,[],0,[]⟩) (Q:=λe s=>e = .normal∧look 12 s.T=some (.d (.fn (.func 299) [] [.ref (.str t0),.ref (GMap.dat KE D.bool kw)]))∧look 1 s.T=some (.d (.ref (.str t0)))∧look 2 s.T=some (.loc 0 0)∧s.H[0]? = some (.box 3 [.d (.int 0)])) ?_ bs a w' hR0)))
  case refine_2=>
    refine .region ?_
    refine .op rfl rfl (.load rfl rfl Y9 rfl) ?_
    refine .op rfl rfl (.call rfl hK293 rfl (zjZ _ _ _ hkw)) ?_
    refine .nil ?_
    exact ⟨rfl,rfl,rfl,rfl,rfl⟩
  rintro e a3 w3 (⟨bs3,s3,⟨rfl,g12,g1,g2,gH⟩,hR3⟩ | ⟨_,hE⟩)
  case inr=>exact hE.elim
  simp only [Exit.then]
  have e12:=hR3.ev (x:=.tmp 12) (by simpa [ev] using g12)
  have e1:=hR3.ev (x:=.tmp 1) (by simpa [ev] using g1)
  have e2:=hR3.ev (x:=.tmp 2) (by simpa [ev] using g2)
  have hbox:=hR3.blk 0 _ gH
  simp only [V.rep,gH] at e2
  obtain ⟨B,hB0,e2⟩:=e2
  simp only [Blk.rep] at hbox
  obtain ⟨B',vs,hB1,hBh,hvs⟩:=hbox
  obtain rfl:B=B':=by rw [hB0] at hB1;simpa using hB1
  have hvs:vs = #[.int .i64 0]:=by
    simp only [V.reps,V.rep,D.rep] at hvs
    obtain ⟨v,vs',hv,rfl,rfl⟩:=hvs
    exact Array.toList_inj.1 hv
  subst hvs
  simp only [V.rep] at e12 e1
  simp only [D.rep] at e1
  obtain ⟨pb,po,pu,e1,hpA,hplt,hpu,hpc⟩:=e1
  subst hpu
  have hstr:w3.cell? ⟨pb,po,none⟩=some (.string ⟨t0.toArray⟩):=by have:=hpc 0 (by simp [Value.cells]);simpa [Value.cells] using this
  have e12':=e12
  simp only [D.rep] at e12
  obtain ⟨vs,us,e12,hv0,hus⟩:=e12
  simp only [D.reps] at hv0
  have hv0:vs = #[]:=by simpa using hv0
  subst hv0
  have hsz:a3.tmps.size=26:=hR3.size
  have hdf:a3.defers=[]:=hR3.defers
  have hown:=hR3.own
  have hBlt:B<w3.heap.size:=(yk.1 hBh).1
  refine (wpIn_wide (n:=0)).1 (wpIn_block (wpIn_rangeFunc ?_))
  intro fn _
  obtain ⟨w4,hw4⟩:∃ w4,(w3.alloc (.deferred (some []))).alloc (.loop (kRec fn a3.tmps w3.heap.size .ready none))=w4:=⟨_,rfl⟩
  have hold:∀ q,q<w3.heap.size→w4.heap[q]? = w3.heap[q]?:=λq hq=>by rw [← hw4];exact (Below.heap_alloc _ _ q (by simp;omega)).trans (Below.heap_alloc _ _ q hq)
  have hL4:w4.heap[w3.heap.size+1]? = some (.loop (kRec fn a3.tmps w3.heap.size .ready none)):=by rw [← hw4];have:=World.alloc_heap_new (w3.alloc (.deferred (some []))) (.loop (kRec fn a3.tmps w3.heap.size .ready none));rwa [World.size_alloc] at this
  have hD4:w4.heap[w3.heap.size]? = some (.deferred (some [])):=by rw [← hw4];exact (Below.heap_alloc _ _ _ (by simp)).trans (World.alloc_heap_new w3 _)
  have hs4:w4.heap.size=w3.heap.size+2:=by rw [← hw4];simp
  have hfr4:Fr ze w3 w4:=by
    rw [← hw4]
    exact (⟨rfl,rfl,rfl,by simp,λb hb _=>Below.heap_alloc _ _ b hb,λ_=>ym _⟩:Fr ze w3 (w3.alloc (.deferred (some [])))).trans ⟨rfl,rfl,rfl,by simp,λb hb _=>Below.heap_alloc _ _ b hb,λ_=>ym _⟩
  refine ⟨w3.heap.size+1,[{ target:=.collected w3.heap.size,args:=#[] }],w4,{ target:=.fn (.func 299) us,args:=#[.func (.yield (w3.heap.size+1)) #[] #[]] },w4,299,#[.func (.yield (w3.heap.size+1)) #[] #[]]++us,w4,?_,?_,λ_ _=>trivial,?_,λh=>by simp [Fence.wide] at h,?_⟩
  · rw [← hw4];exact run_enterLoop_outer _ _ _ _ _
  · have ek:∀ v,a3.eval (.const v)=v:=λ_=>rfl
    simp [resolve,e12,Deferred.ofValue,ek]
  · simp only [invoke];exact zaX hK299 _ w4
  obtain ⟨A',hA'⟩:∃ A':Nat→Prop,A'=λb=>Own A bs3 b∨b=w3.heap.size∨b=w3.heap.size+1:=⟨_,rfl⟩
  have hAlt:∀ b,A' b→b<w4.heap.size:=λb hb=>by
    subst hA'
    rcases hb with (hb | hb) | rfl | rfl
    · have:=hown.ztL b hb;omega
    · have:=hown.lt b hb;omega
    · omega
    · omega
  have hAin:∀ b,b<w3.heap.size→A' b→Own A bs3 b:=λb hb hb'=>by
    subst hA'
    rcases hb' with hb' | rfl | rfl
    · exact hb'
    · omega
    · omega
  have hG4:zdh A' w4:=hown.glob.fr hfr4 (λ_ x=>x.elim) hAin
  have hargs:D.reps A' w4 [.fn (.yield (w3.heap.size+1)) [] [],.ref (.str t0),.ref (GMap.dat KE D.bool kw)] ((#[Value.func (.yield (w3.heap.size+1)) #[] #[]]:Array Value)++us).toList:=by
    have:=D.zt8 hfr4 (λ_ x=>x.elim) hAin _ _ hus
    simp only [Array.toList_append,uu,yO,D.reps,D.rep] at this ⊢
    exact ⟨_,_,rfl,⟨#[],#[],rfl,rfl,rfl⟩,this⟩
  have hstr4:w4.cell? ⟨pb,po,none⟩=some (.string ⟨t0.toArray⟩):=by rw [World.cell?_of_block (hold pb hplt)];exact hstr
  have hB4:w4.heap[B]? = some (.cells #[.int .i64 0] 3 (0,0)):=(hold B hBlt).trans hBh
  have ht1:a3.tmps[1]? = some (.pointer (some ⟨pb,po,none⟩)):=by
    have:a3.tmps.getD 1 undef = .pointer (some ⟨pb,po,none⟩):=e1
    simpa [Array.getD,hsz] using this
  have ht2:a3.tmps[2]? = some (.pointer (some ⟨B,0,none⟩)):=by
    have:a3.tmps.getD 2 undef = .pointer (some ⟨B,0,none⟩):=e2
    simpa [Array.getD,hsz] using this
  obtain ⟨Post,hPost⟩:∃ Post:World→Prop,Post=(λW'=>∃ W0,Fr ze w4 W0∧Fr (λb=>b=w3.heap.size+1∨b=B) W0 W' ∧
      ((((tok.at_ != 0)||(tok.end_ != (t0.length:Int)))=true∧W'.heap[w3.heap.size+1]? = some (.loop (kRec fn a3.tmps w3.heap.size .done (some (.exit 0))))∧W'.heap[B]? = some (.cells #[.int .i64 0] 3 (0,0))) ∨
       (((tok.at_ != 0)||(tok.end_ != (t0.length:Int)))=false∧W'.heap[w3.heap.size+1]? = some (.loop (kRec fn a3.tmps w3.heap.size .done (some .ret)))∧W'.heap[B]? = some (.cells #[.int .i64 tok.kind] 3 (0,0))))):=⟨_,rfl⟩
  refine callsIn_wide.2 ((zlt (A:=A') (w:=w4) (Post:=Post) Tryz.func299 rfl rfl (by rw [Tryz.ntmps299];exact yq rfl) hAlt hG4 hargs ?_).mono ?_)
  · have htri:=zhO n t0 kw (.fn (.yield (w3.heap.size+1)) [] []) ⟨A',ze,w4,93,λa W'=>a.defers=[]∧Post W',[],0,[]⟩ rfl rfl (λ_ _=>False) tok htok (λQ T H j q0 q5 qj=>zro (Post:=Post) (w3.heap.size+1) tok ?_ Q T H j q0 q5 qj)
    · rw [zcF Tryz.func299 rfl] at htri
      exact htri
    · intro W v hf hv
      simp only [Token.enc,D.rep,D.reps] at hv
      obtain ⟨vs,rfl,v1,l1,hvs,rfl,v2,l2,rfl,rfl,v3,l3,rfl,rfl,v4,l4,rfl,rfl,rfl⟩:=hv
      have hvs:vs = #[.int .i64 tok.kind,.int .i64 tok.from_,.int .i64 tok.at_,.int .i64 tok.end_]:=Array.toList_inj.1 (by simpa using hvs)
      subst hvs
      have hLW:W.heap[w3.heap.size+1]? = some (.loop (kRec fn a3.tmps w3.heap.size .ready none)):=(hf.block _ (by omega) (λx=>x.elim)).trans hL4
      refine ⟨fn,a3.tmps.setIfInBounds 13 (.agg #[.int .i64 tok.kind,.int .i64 tok.from_,.int .i64 tok.at_,.int .i64 tok.end_]),kAsg,zx3,?_,(zsg fn (w3.heap.size+1) w3.heap.size B ⟨pb,po,none⟩ ⟨t0.toArray⟩ tok.kind tok.from_ tok.at_ tok.end_ a3.tmps hsz ht1 ht2 W (by omega) (by simp only;omega) hLW ?_ ?_).mono ?_⟩
      · have:=run_yield (P:=pg) (args:=#[.agg #[.int .i64 tok.kind,.int .i64 tok.from_,.int .i64 tok.at_,.int .i64 tok.end_]]) hLW rfl
        simpa [kRec] using this
      · rw [World.cell?_of_block (hf.block pb (by omega) (λx=>x.elim))];exact hstr4
      · exact (hf.block B (by omega) (λx=>x.elim)).trans hB4
      · rintro e W' ⟨rfl,hf2,hcase⟩
        exact ⟨rfl,by rw [hPost];exact ⟨W,hf,hf2,hcase⟩⟩
  · rintro e W ⟨⟨u,rfl⟩,hP⟩
    rw [hPost] at hP
    obtain ⟨W0,f1,f2,hcase⟩:=hP
    have hs0:w4.heap.size≤W0.heap.size:=f1.size
    have hD0:W0.heap[w3.heap.size]? = some (.deferred (some [])):=(f1.block w3.heap.size (by omega) (λx=>x.elim)).trans hD4
    have hDW:W.heap[w3.heap.size]? = some (.deferred (some [])):=(f2.block w3.heap.size (by omega) (by rintro (h | h) <;> omega)).trans hD0
    have hww:w.heap.size≤w3.heap.size:=hR3.fr.size
    have hBw:w.heap.size≤B:=(hR3.new B (yz hB0)).resolve_left (λh=>h)
    have hfr3:Fr ze w w3:=hR3.fr
    have hfW:Fr ze w W:=((hfr3.trans hfr4).trans f1).past f2 (by rintro b (rfl | rfl) <;> omega)
    rcases hcase with ⟨hc,hL,hBW⟩ | ⟨hc,hL,hBW⟩
    · rw [if_pos hc] at h
      cases h
      refine ⟨some (.exit 0),_,run_endLoop hL (by simp [kRec]),?_⟩
      have hB5:(W.putObj (w3.heap.size+1) (.loop { kRec fn a3.tmps w3.heap.size .done (some (.exit 0)) with state:=.exhausted })).heap[B]? = some (.cells #[.int .i64 0] 3 (0,0)):=(World.putObj_heap_other (by omega)).trans hBW
      have hD5:(W.putObj (w3.heap.size+1) (.loop { kRec fn a3.tmps w3.heap.size .done (some (.exit 0)) with state:=.exhausted })).heap[w3.heap.size]? = some (.deferred (some [])):=(World.putObj_heap_other (by omega)).trans hDW
      have hf5:Fr ze w (W.putObj (w3.heap.size+1) (.loop { kRec fn a3.tmps w3.heap.size .done (some (.exit 0)) with state:=.exhausted })):=hfW.past (S:=λb=>b=w3.heap.size+1) ⟨rfl,rfl,rfl,by simp,λb _ hne=>World.putObj_heap_other hne,λ_=>ym _⟩ (by rintro b rfl;omega)
      generalize W.putObj (w3.heap.size+1) (.loop { kRec fn a3.tmps w3.heap.size .done (some (.exit 0)) with state:=.exhausted })=W5 at hB5 hD5 hf5 ⊢
      refine wpIn_exit ?_
      simp only [Exit.inBlock,if_true,Exit.then]
      have hB6:(W5.setCell ⟨B,0,none⟩ (.int .i64 0)).heap[B]? = some (.cells #[.int .i64 0] 3 (0,0)):=by simp [World.setCell,Array.getElem?_modify,hB5]
      have hD6:(W5.setCell ⟨B,0,none⟩ (.int .i64 0)).heap[w3.heap.size]? = some (.deferred (some [])):=(Below.heap_setCell W5 ⟨B,0,none⟩ _ _ (by simp only;omega)).trans hD5
      have hf6:Fr ze w (W5.setCell ⟨B,0,none⟩ (.int .i64 0)):=by
        have k6:Fr (λb=>b=B) W5 (W5.setCell ⟨B,0,none⟩ (.int .i64 0)):=⟨rfl,rfl,rfl,by simp,λb _ hne=>Below.heap_setCell W5 ⟨B,0,none⟩ _ b hne,λ_=>ym _⟩
        exact hf5.past k6 (by rintro b rfl;exact hBw)
      exact ztc B a3.tmps hsz ht2 _ W5 _ hB5 (.inr ⟨rfl,by rw [hdf];exact zrJ hsz ht2 hB6 hD6 (by omega) hf6 hww⟩)
    · rw [if_neg (by rw [hc];simp)] at h
      cases h
      refine ⟨some .ret,_,run_endLoop hL (by simp [kRec]),?_⟩
      have hB5:(W.putObj (w3.heap.size+1) (.loop { kRec fn a3.tmps w3.heap.size .done (some .ret) with state:=.exhausted })).heap[B]? = some (.cells #[.int .i64 tok.kind] 3 (0,0)):=(World.putObj_heap_other (by omega)).trans hBW
      have hD5:(W.putObj (w3.heap.size+1) (.loop { kRec fn a3.tmps w3.heap.size .done (some .ret) with state:=.exhausted })).heap[w3.heap.size]? = some (.deferred (some [])):=(World.putObj_heap_other (by omega)).trans hDW
      have hf5:Fr ze w (W.putObj (w3.heap.size+1) (.loop { kRec fn a3.tmps w3.heap.size .done (some .ret) with state:=.exhausted })):=hfW.past (S:=λb=>b=w3.heap.size+1) ⟨rfl,rfl,rfl,by simp,λb _ hne=>World.putObj_heap_other hne,λ_=>ym _⟩ (by rintro b rfl;omega)
      generalize W.putObj (w3.heap.size+1) (.loop { kRec fn a3.tmps w3.heap.size .done (some .ret) with state:=.exhausted })=W5 at hB5 hD5 hf5 ⊢
      refine wpIn_ret ?_
      simp only [Exit.inBlock,Exit.then]
      exact .inr ⟨rfl,by rw [hdf];exact zrJ hsz ht2 hB5 hD5 (by omega) hf5 hww⟩
end
end Go.Proofs.YtipkniadbkndfaaGreatDoor
