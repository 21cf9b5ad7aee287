/- Part of the proof of one law of the seat. -/
import Derived.Test.YtipkniadbkndfaaGreatDoorSm06
import Derived.TacticsInMore
import Derived.BigFrameIn
import Derived.OwnWalkIn
set_option linter.all false
set_option maxRecDepth 100000
set_option maxHeartbeats 40000000
namespace Go.Proofs.YtipkniadbkndfaaGreatDoor
open Go Go.RowKit
open Option renaming some->O,none->Y
open Bool renaming true->U,false->M
open Decidable renaming decide->Z
open Go.Result renaming andThen_ok->xi
open V renaming rep->xk,reps->xE
open D renaming bool->xp,reps->xu,rep->xC
open Go.Sem renaming run_bind->xq,run_pure->xr
open Go.World renaming putObj_heap_other->xx,putObj_heap_same->wC,alloc_heap_new->wP,cell?_of_block->wY
open Go.RowKit.Below renaming heap_alloc->xD,heap_setCell->vK
open Blk renaming rep->xK
open Go.Fence renaming wide->xO
open Go.Code renaming wp_mono->xW
open Go.Value renaming cells->xY,func->wx,string->wS
open Go.Deferred renaming ofValue->xZ
open Go.Instr renaming sureAddr->wg,loadAt->vU
open Go.Exit renaming inBlock->vm
section
open Go Go.RowKit Go.Proofs
attribute[local go_sem]Oper.semAt_some
def kAsg :Code:=Code.region 4 #[{dst:=some 3,op:=Op.alloc 271,type:=0,pos:= "lexer.go:137",after:=#[],guard:=none},{dst:=none,op:=Op.store 271 (Operand.tmp 3)<|Operand.tmp 13,type:=0,pos:= "lexer.go:137",after:=#[{on:=0,ground:=Ground.data},{on:=0,ground:=Ground.phase}],guard:=none}] false
def zz1 :Code:=Code.block 1<|((Code.region 5 #[{dst:=some 14,op:=Op.fieldAddr 271 (Operand.tmp 3) 2,type:=0,pos:= "lexer.go:138",after:=#[],guard:=none},{dst:=some 15,op:=Op.load 3<|Operand.tmp 14,type:=3,pos:= "lexer.go:138",after:=#[{on:=0,ground:=Ground.data}],guard:=none},{dst:=some 16,op:=Op.binOp BinOp.neq 3 (Operand.tmp 15) (Operand.const<|Value.int IntKind.i64 0) 3,type:=4,pos:= "lexer.go:138",after:=#[{on:=1,ground:=Ground.data}],guard:=none},{dst:=some 17,op:=Op.move<|Operand.tmp 16,type:=4,pos:= "lexer.go:138",after:=#[{on:=2,ground:=Ground.data}],guard:=none},{dst:=some 18,op:=Op.fieldAddr 271 (Operand.tmp 3) 3,type:=0,pos:= "lexer.go:138",after:=#[{on:=3,ground:=Ground.guard}],guard:=some (3,false)},{dst:=some 19,op:=Op.load 3<|Operand.tmp 18,type:=3,pos:= "lexer.go:138",after:=#[{on:=4,ground:=Ground.data},{on:=3,ground:=Ground.guard}],guard:=some (3,false)},{dst:=some 20,op:=Op.load 9<|Operand.tmp 1,type:=9,pos:= "lexer.go:138",after:=#[{on:=3,ground:=Ground.guard}],guard:=some (3,false)},{dst:=some 21,op:=Op.call {callee:=Callee.builtin Builtin.len,args:=#[Operand.tmp 20],argTypes:=#[9]},type:=3,pos:= "lexer.go:138",after:=#[{on:=6,ground:=Ground.data},{on:=3,ground:=Ground.guard}],guard:=some (3,false)},{dst:=some 22,op:=Op.binOp BinOp.neq 3 (Operand.tmp 19) (Operand.tmp 21) 3,type:=4,pos:= "lexer.go:138",after:=#[{on:=5,ground:=Ground.data},{on:=7,ground:=Ground.data},{on:=3,ground:=Ground.guard}],guard:=some (3,false)},{dst:=some 23,op:=Op.pick (Operand.tmp 17) (Operand.const<|Value.bool true)<|Operand.tmp 22,type:=4,pos:= "lexer.go:138",after:=#[{on:=3,ground:=Ground.data},{on:=8,ground:=Ground.data}],guard:=none}] false).seq<|Code.cond (Operand.tmp 23) (Code.exit 0) Code.skip).seq<|(Code.region 6 #[{dst:=some 24,op:=Op.fieldAddr 271 (Operand.tmp 3) 0,type:=0,pos:= "lexer.go:141",after:=#[],guard:=none},{dst:=some 25,op:=Op.load 3<|Operand.tmp 24,type:=3,pos:= "lexer.go:141",after:=#[{on:=0,ground:=Ground.data}],guard:=none},{dst:=none,op:=Op.store 3 (Operand.tmp 2)<|Operand.tmp 25,type:=0,pos:= "lexer.go:141",after:=#[{on:=1,ground:=Ground.data},{on:=0,ground:=Ground.phase},{on:=1,ground:=Ground.phase}],guard:=none}] false).seq Code.ret
def kRec (fn:FuncId)(tm:Array Value)(Dd:Nat)(st:LoopState)(pend:Option Code):Loop:={state:=st,pending:=pend,fn,tmps:=tm,params:=#[13],assign:=kAsg,body:=zz1,defers:=Dd}
theorem zu3 (fn)(l Dd B)(p1)(s)(k f a e)(x0 x3 x4 x5 x6 x7 x8 x9 x10 x11 x12 x13 x14 x15 x16 x17 x18 x19 x20 x21 x22 x23 x24 x25)(W)(hBl:B≠l)(hp:p1.block≠l)(hl:W.heap[l]?=O (.loop<|kRec fn #[x0,.pointer<|O p1,.pointer<|O ⟨B,0,Y⟩,x3,x4,x5,x6,x7,x8,x9,x10,x11,x12,x13,x14,x15,x16,x17,x18,x19,x20,x21,x22,x23,x24,x25] Dd .ready Y))(h1:W.cell? p1=O (.string s))(hB:W.heap[B]?=O (.cells #[.int .i64 0] 3 (0,0))):RoundIn xO 0 pg l fn #[x0,.pointer<|O p1,.pointer<|O ⟨B,0,Y⟩,x3,x4,x5,x6,x7,x8,x9,x10,x11,x12,.agg #[.int .i64 k,.int .i64 f,.int .i64 a,.int .i64 e],x14,x15,x16,x17,x18,x19,x20,x21,x22,x23,x24,x25] kAsg zz1 W λen W'=>en=.returned (.bool M)/\Fr (λb=>b=l\/b=B) W W'/\((a !=0||e !=(s.size:Int))=U/\W'.heap[l]?=O (.loop<|kRec fn #[x0,.pointer<|O p1,.pointer<|O ⟨B,0,Y⟩,x3,x4,x5,x6,x7,x8,x9,x10,x11,x12,x13,x14,x15,x16,x17,x18,x19,x20,x21,x22,x23,x24,x25] Dd .done<|O<|.exit 0)/\W'.heap[B]?=O (.cells #[.int .i64 0] 3 (0,0))\/(a !=0||e !=(s.size:Int))=M/\W'.heap[l]?=O (.loop<|kRec fn #[x0,.pointer<|O p1,.pointer<|O ⟨B,0,Y⟩,x3,x4,x5,x6,x7,x8,x9,x10,x11,x12,x13,x14,x15,x16,x17,x18,x19,x20,x21,x22,x23,x24,x25] Dd .done<|O .ret)/\W'.heap[B]?=O (.cells #[.int .i64 k] 3 (0,0))):=by
  refine roundIn_of_wpIn trivial ?_;unfold kAsg;gi_wp2_with(grind);have hlt:l<W.heap.size:=(yk.1 hl).1;have hBlt:B<W.heap.size:=(yk.1 hB).1;have hplt:p1.block<W.heap.size:=by
    refine Nat.lt_of_not_le λh=>?_;have e0:W.heap[p1.block]?=none:=Array.getElem?_eq_none_iff.2 h;grind[World.cell?]
  obtain⟨W1,hW1⟩:∃W1,W.alloc (.cells #[.int .i64 k,.int .i64 f,.int .i64 a,.int .i64 e] 271)=W1:=⟨_,rfl⟩;have hold:∀q,q<W.heap.size->W1.heap[q]?=W.heap[q]?:=λq hq=>by grind[xD]
  have hnew:W1.heap[W.heap.size]?=O (.cells #[.int .i64 k,.int .i64 f,.int .i64 a,.int .i64 e] 271):=by grind[wP]
  have hsz1:W1.heap.size=W.heap.size+1:=by rw[<-hW1];simp
  have hfr1:Fr ze W W1:=by rw[<-hW1];exact⟨rfl,rfl,rfl,by simp,λb hb _=>xD W _ b hb,λ_=>ym _⟩
  simp only[hW1];clear hW1;have hL1:=(hold l hlt).trans hl;have hbr:=run_beginRound (P:=pg) hL1 rfl;obtain⟨W2,hW2⟩:∃W2,W1.putObj l (.loop {kRec fn #[x0,.pointer<|O p1,.pointer<|O ⟨B,0,Y⟩,x3,x4,x5,x6,x7,x8,x9,x10,x11,x12,x13,x14,x15,x16,x17,x18,x19,x20,x21,x22,x23,x24,x25] Dd .ready Y with state:=.busy})=W2:=⟨_,rfl⟩;have hfr2:Fr (λb=>b=l) W1 W2:=by rw[<-hW2];exact⟨rfl,rfl,rfl,by simp,λb _ hne=>xx hne,λ_=>ym _⟩
  rw[hW2]at hbr;have hput:∀q,q≠l->W2.heap[q]?=W1.heap[q]?:=λq hq=>by rw[<-hW2];exact xx hq
  have hL2:=wC (w:=W1) (o:=.loop {kRec fn #[x0,.pointer<|O p1,.pointer<|O ⟨B,0,Y⟩,x3,x4,x5,x6,x7,x8,x9,x10,x11,x12,x13,x14,x15,x16,x17,x18,x19,x20,x21,x22,x23,x24,x25] Dd .ready Y with state:=.busy}) (by omega:l<W1.heap.size);rw[hW2]at hL2;refine⟨W2,hbr,?_⟩;clear hW2 hbr;have hT2:=(hput W.heap.size<|by omega).trans hnew;have hB2:=((hput B hBl).trans<|hold B hBlt).trans hB;have hp2:W2.cell? p1=O (.string s):=((wY<|hput p1.block hp).trans<|wY<|hold p1.block hplt).trans h1;have c0:W2.cell? ⟨W.heap.size,0,Y⟩=O (.int .i64 k):=by rw[zZ hT2];rfl
  have c2:W2.cell? ⟨W.heap.size,2,Y⟩=O (.int .i64 a):=by rw[zZ hT2];rfl
  have c3:W2.cell? ⟨W.heap.size,3,Y⟩=O (.int .i64 e):=by rw[zZ hT2];rfl
  have cB:W2.cell? ⟨B,0,Y⟩=O (.int .i64 0):=by rw[zZ hB2];rfl
  have fB:W2.frozen? ⟨B,0,Y⟩=false:=by simp[World.frozen?,hB2]
  unfold zz1;gi_wp2_with(rw[Oper.semAt_eq _ _ _ λc h=>by cases h];go_simp;try go_bits);all_goals first
    | (refine⟨_,_,run_endRound (O<|.exit 0) hL2,rfl,?_,?_,(xx hBl).trans hB2⟩;·refine((hfr1.mono λ_ _ x=>x.elim).trans<|hfr2.mono λ_ _ x=>.inl x).trans ⟨rfl,rfl,rfl,by simp,λb _ hne=>xx λh=>hne<|.inl h,λ_=>ym _⟩
       ·exact wC (yk.1 hL2).1)
    | (have hL3:(W2.setCell ⟨B,0,Y⟩<|.int .i64 k).heap[l]?=O (.loop {kRec fn #[x0,.pointer<|O p1,.pointer<|O ⟨B,0,Y⟩,x3,x4,x5,x6,x7,x8,x9,x10,x11,x12,x13,x14,x15,x16,x17,x18,x19,x20,x21,x22,x23,x24,x25] Dd .ready Y with state:=.busy}):=(vK W2 ⟨B,0,Y⟩ _ l<|Ne.symm hBl).trans hL2;refine⟨_,_,run_endRound (O .ret) hL3,rfl,?_,?_,(xx hBl).trans ?_⟩
       · have f3:Fr (λb=>b=l\/b=B) W2<|W2.setCell ⟨B,0,Y⟩<|.int .i64 k:=⟨rfl,rfl,rfl,by simp,λb _ hne=>vK W2 ⟨B,0,Y⟩ _ b λh=>hne<|.inr h,λ_=>ym _⟩;exact(((hfr1.mono λ_ _ x=>x.elim).trans<|hfr2.mono λ_ _ x=>.inl x).trans f3).trans ⟨rfl,rfl,rfl,by simp,λb _ hne=>xx λh=>hne<|.inl h,λ_=>ym _⟩
       ·exact wC (yk.1 hL3).1
       ·simp[World.setCell,Array.getElem?_modify,hB2])
def zrq :Code:=.seq (Code.region 7 #[{dst:=none,op:=Op.store 3 (Operand.tmp 2)<|Operand.const<|Value.int IntKind.i64 0,type:=0,pos:= "lexer.go:143",after:=#[],guard:=none}] false) .ret
theorem kTail (B)(x0 x1 x3 x4 x5 x6 x7 x8 x9 x10 x11 x12 x13 x14 x15 x16 x17 x18 x19 x20 x21 x22 x23 x24 x25)(df)(W)(Qf)(hB:W.heap[B]?=O (.cells #[.int .i64 0] 3 (0,0)))(h:Qf .ret {tmps:=#[x0,x1,.pointer<|O ⟨B,0,Y⟩,x3,x4,x5,x6,x7,x8,x9,x10,x11,x12,x13,x14,x15,x16,x17,x18,x19,x20,x21,x22,x23,x24,x25],defers:=df}<|W.setCell ⟨B,0,Y⟩<|.int .i64 0):zrq.wp pg Qf {tmps:=#[x0,x1,.pointer<|O ⟨B,0,Y⟩,x3,x4,x5,x6,x7,x8,x9,x10,x11,x12,x13,x14,x15,x16,x17,x18,x19,x20,x21,x22,x23,x24,x25],defers:=df} W:=by
 have b:W.cell? ⟨B,0,Y⟩=O (.int .i64 0):=by rw[zZ hB];rfl
 have a:W.frozen? ⟨B,0,Y⟩=false:=by grind[World.frozen?]
 refine wpIn_wide (n:=0).1 ?_;unfold zrq;gi_wp2;exact h
theorem zu4 (B)(tm)(hs:tm.size=26)(ht2:tm[2]?=O (.pointer<|O ⟨B,0,Y⟩))(df)(W)(Qf)(hB:W.heap[B]?=O (.cells #[.int .i64 0] 3 (0,0)))(h:Qf .ret {tmps:=tm,defers:=df}<|W.setCell ⟨B,0,Y⟩<|.int .i64 0):zrq.wp pg Qf {tmps:=tm,defers:=df} W:=by
 rcases tm with⟨_|⟨z,_|⟨w,_|⟨x,_|⟨y,_|⟨A,_|⟨C,_|⟨E,_|⟨t,_|⟨u,_|⟨v,_|⟨c,_|⟨d,_|⟨e,_|⟨b,_|⟨f,_|⟨g,_|⟨i,_|⟨j,_|⟨a,_|⟨l,_|⟨m,_|⟨n,_|⟨k,_|⟨p,_|⟨o,_|⟨q,_|⟨r,s⟩⟩⟩⟩⟩⟩⟩⟩⟩⟩⟩⟩⟩⟩⟩⟩⟩⟩⟩⟩⟩⟩⟩⟩⟩⟩⟩⟩;all_goals simp_all
 grind[kTail]
theorem Fr.past {w W0 W}{S}(h:Fr ze w W0)(k:Fr S W0 W)(hS:∀b,S b->w.heap.size<=b):Fr ze w W:=⟨k.os.trans h.os,k.tape.trans h.tape,k.output.trans h.output,yG h.size k.size,λb a _=>(k.block b (yC a h.size) λc=>by grind).trans<|h.block b a λx=>x.elim,λd=>yG (h.drawn d)<|k.drawn d⟩
theorem ztx {A}{w W}{tm}{B Dd}{k}(hs:tm.size=26)(ht2:tm[2]?=O (.pointer<|O ⟨B,0,Y⟩))(hB:W.heap[B]?=O (.cells #[.int .i64 k] 3 (0,0)))(hD:W.heap[Dd]?=O (.deferred<|O []))(hBD:B≠Dd)(hf:Fr ze w W)(hDw:w.heap.size<=Dd):LeavesInM xO 0 pg Tryz.f272 tm (zgY A w<|.int k) [{target:=.collected Dd,args:=#[]}] .returning W:=by
 refine⟨by simp,.inl ⟨_,_,rfl,run_takeDeferred hD,?_⟩⟩;have e:(W.putObj Dd<|.deferred Y).heap[B]?=O (.cells #[.int .i64 k] 3 (0,0)):=(xx hBD).trans hB;have c:=zcE (P:=pg) (A:=λ_=>False) (w:=W.putObj Dd<|.deferred Y) (t:=3) (k:=Y) Y3 (b:=B) (off:=0) (d:=.int k) (u:=.int .i64 k) (by grind[xC]) rfl λq i=>by grind[xY,zZ]
 simp only[vU,wg,xq,xr]at c;refine⟨.int .i64 k,?_,_,rfl,?_,by grind[xC]⟩
 ·have g:tm.getD 2 undef=.pointer (O ⟨B,0,Y⟩):=by simp_all
  have h:(zeI tm<|.cell 2 3).run pg (W.putObj Dd<|.deferred Y)=.ok (.int .i64 k) (W.putObj Dd<|.deferred Y):=by grind[zeI,asAddr,xi]
  rw[zb9];simp_all
 ·exact hf.past (S:=λb=>b=Dd) ⟨rfl,rfl,rfl,by simp,λb _ a=>xx a,λ_=>ym _⟩ λb f=>by grind
theorem zt5 (fn)(l Dd B)(p1)(s)(k f a e)(tm)(hs:tm.size=26)(ht1:tm[1]?=O (.pointer<|O p1))(ht2:tm[2]?=O (.pointer<|O ⟨B,0,Y⟩))(W)(hBl:B≠l)(hp:p1.block≠l)(hl:W.heap[l]?=O (.loop<|kRec fn tm Dd .ready Y))(h1:W.cell? p1=O (.string s))(hB:W.heap[B]?=O (.cells #[.int .i64 0] 3 (0,0))):RoundIn xO 0 pg l fn (tm.setIfInBounds 13<|.agg #[.int .i64 k,.int .i64 f,.int .i64 a,.int .i64 e]) kAsg zz1 W λen W'=>en=.returned (.bool M)/\Fr (λb=>b=l\/b=B) W W'/\((a !=0||e !=(s.size:Int))=U/\W'.heap[l]?=O (.loop<|kRec fn tm Dd .done<|O<|.exit 0)/\W'.heap[B]?=O (.cells #[.int .i64 0] 3 (0,0))\/(a !=0||e !=(s.size:Int))=M/\W'.heap[l]?=O (.loop<|kRec fn tm Dd .done<|O .ret)/\W'.heap[B]?=O (.cells #[.int .i64 k] 3 (0,0))):=by
  rcases tm with⟨_|⟨x0,_|⟨x1,_|⟨x2,_|⟨x3,_|⟨x4,_|⟨x5,_|⟨x6,_|⟨x7,_|⟨x8,_|⟨x9,_|⟨x10,_|⟨x11,_|⟨x12,_|⟨x13,_|⟨x14,_|⟨x15,_|⟨x16,_|⟨x17,_|⟨x18,_|⟨x19,_|⟨x20,_|⟨x21,_|⟨x22,_|⟨x23,_|⟨x24,_|⟨x25,_|⟨x26,xs⟩⟩⟩⟩⟩⟩⟩⟩⟩⟩⟩⟩⟩⟩⟩⟩⟩⟩⟩⟩⟩⟩⟩⟩⟩⟩⟩⟩;all_goals first|(exfalso;simp at hs;done)|skip
  all_goals first|(exfalso;simp at hs;omega)|skip
  simp at ht1 ht2;subst ht1;subst ht2;exact zu3 fn l Dd B p1 s k f a e x0 x3 x4 x5 x6 x7 x8 x9 x10 x11 x12 x13 x14 x15 x16 x17 x18 x19 x20 x21 x22 x23 x24 x25 W hBl hp hl h1 hB
theorem hK298:zvB pg 298=true:=by kernel_rfl
theorem hK293:zvB pg 293=true:=by kernel_rfl
theorem hK299:zvB pg 299=true:=by kernel_rfl
theorem hZ278:zcS pg 278 Y=true:=by kernel_rfl
abbrev KE:List UInt8->Value:=λl:List UInt8=>wS ⟨l.toArray⟩
theorem zkJ (n)(t0)(kw)(h:zbU n=O kw):Pure pg 293 [.str t0]<|.fn (.func 299) [] [.ref<|.str t0,.ref<|GMap.dat KE xp kw]:=by refine Pure.zyo Tryz.func293 rfl (by simp_all) λA w=>.seq<|.region<|.op rfl rfl (.box rfl rfl)<|.op rfl rfl (.assign rfl rfl)<|.nil<|.seq<|.region<|.op rfl rfl (.call rfl hK298 rfl<|lexer_keywords_ok _ _ h)<|.zwY rfl rfl rfl rfl rfl rfl rfl rfl (by simp) rfl rfl hZ278<|.nil<|.seq<|.region<|.op rfl rfl (.makeFunc rfl rfl)<|.op rfl rfl (.assign rfl rfl)<|.nil<|.ret<|zgt rfl<|.d _
theorem zmI (n)(t0)(r)(h:zeS n t0=O r):Pure pg 272 [.str t0]<|.int r:=by
  unfold zeS at h;refine Pure.zzh Tryz.func272 rfl (by rw[Tryz.ntmps272];simp) λA w=>?_;rw[Tryz.ntmps272];refine .seq ?_;refine .region ?_;refine .op rfl rfl (.box rfl rfl) ?_;refine .zwB rfl rfl rfl rfl (.val Zv3) rfl ?_;refine .nil ?_;refine .seq ?_;refine .seq ?_;refine .plain 7 rfl ?_;refine .op rfl rfl rfl rfl (.load rfl rfl Y9 rfl) ?_;refine .op rfl rfl rfl rfl (.zzo rfl rfl rfl) ?_;refine .op rfl rfl rfl rfl (.move rfl rfl) ?_;refine .jOr 3 (b2:=Z<|4096<(t0.length:Int)) rfl rfl rfl rfl (.inl rfl) (λ_ _ _ h1=>by cases h1) rfl rfl (λhb_1=>?_) ?_
  · refine .gop rfl rfl rfl rfl rfl rfl (.load rfl rfl Y9 rfl) ?_;refine .gop rfl rfl rfl rfl rfl rfl (.zxI rfl U9 rfl) ?_;refine .gop rfl rfl rfl rfl rfl rfl (.gtr rfl rfl rfl) ?_;exact .nil rfl
  refine .nil ?_;refine .nil ?_;refine .zvG rfl h (λh=>?_) λh=>?_
  · refine .seq ?_;refine .region ?_;refine .store rfl rfl rfl rfl rfl rfl (.ofD rfl) C3 rfl (yt rfl) ?_;refine .nil ?_;refine .ret ?_;cases h;exact zs3 rfl rfl Y3<|.d _
  refine .skip ?_;obtain⟨kw,hkw,h⟩:=zv0 h;obtain⟨tok,htok,h⟩:=zv0 h;refine Tri.le (t:=⟨[(1,.d<|.ref<|.str t0),(2,.loc 0 0)],[.box 3 [.d<|.int 0]]⟩) ⟨rfl,rfl,rfl,trivial⟩ ?_;refine⟨λbs a w' hR=>?_⟩;have hR0:R ⟨A,ze,w,26,λ_ _=>False,[],0,[]⟩ bs ⟨[(1,.d<|.ref<|.str t0),(2,.loc 0 0)],[.box 3 [.d<|.int 0]]⟩ a w':=hR.noEsc;refine wp_seq<|wp_seq<|xW ?_<|Tri.run (C:=⟨A,ze,w,26,λ_ _=>False,[],0,[]⟩) (Q:=λe s=>e=.normal/\look 12 s.T=O (.d<|.fn (.func 299) [] [.ref<|.str t0,.ref<|GMap.dat KE xp kw])/\look 1 s.T=O (.d<|.ref<|.str t0)/\look 2 s.T=O (.loc 0 0)/\s.H[0]?=O (.box 3 [.d<|.int 0])) ?_ bs a w' hR0;case refine_2=>
    refine .region ?_;refine .op rfl rfl (.load rfl rfl Y9 rfl) ?_;refine .op rfl rfl (.call rfl hK293 rfl<|zkJ _ _ _ hkw) ?_;refine .nil ?_;exact⟨rfl,rfl,rfl,rfl,rfl⟩
  rintro e a3 w3(⟨bs3,s3,⟨rfl,g12,g1,g2,gH⟩,hR3⟩|⟨_,hE⟩);case inr=>exact hE.elim
  simp only[Exit.then];have e12:=hR3.ev (x:=.tmp 12)<|by simpa[ev]using g12
  have e1:=hR3.ev (x:=.tmp 1)<|by simpa[ev]using g1
  have e2:=hR3.ev (x:=.tmp 2)<|by simpa[ev]using g2
  have hbox:=hR3.blk 0 _ gH;simp only[xk,gH]at e2;obtain⟨B,hB0,e2⟩:=e2;simp only[xK]at hbox;obtain⟨B',vs,hB1,hBh,hvs⟩:=hbox;obtain rfl:B=B':=by rw[hB0]at hB1;simpa using hB1
  have hvs:vs=#[.int .i64 0]:=by
    simp only[xE,xk,xC]at hvs;obtain⟨v,vs',hv,rfl,rfl⟩:=hvs;exact Array.toList_inj.1 hv
  subst hvs;simp only[xk]at e12 e1;simp only[xC]at e1;obtain⟨pb,po,pu,e1,hpA,hplt,hpu,hpc⟩:=e1;subst hpu;have hstr:w3.cell? ⟨pb,po,Y⟩=O (.string ⟨t0.toArray⟩):=by have:=hpc 0 (by simp[xY]);simpa[xY]using this
  have e12':=e12;simp only[xC]at e12;obtain⟨vs,us,e12,hv0,hus⟩:=e12;simp only[xu]at hv0;have hv0:vs=#[]:=by simpa using hv0
  subst hv0;have hsz:a3.tmps.size=26:=hR3.size;have hdf:a3.defers=[]:=hR3.defers;have hown:=hR3.own;have hBlt:B<w3.heap.size:=(yk.1 hBh).1;refine wpIn_wide (n:=0).1<|wpIn_block<|wpIn_rangeFunc ?_;intro fn _;obtain⟨w4,hw4⟩:∃w4,(w3.alloc<|.deferred<|O []).alloc (.loop<|kRec fn a3.tmps w3.heap.size .ready Y)=w4:=⟨_,rfl⟩;have hold:∀q,q<w3.heap.size->w4.heap[q]?=w3.heap[q]?:=λq hq=>by rw[<-hw4];exact(xD _ _ q<|by simp;omega).trans<|xD _ _ q hq
  have hL4:w4.heap[w3.heap.size+1]?=O (.loop<|kRec fn a3.tmps w3.heap.size .ready Y):=by rw[<-hw4];have:=wP (w3.alloc<|.deferred<|O [])<|.loop<|kRec fn a3.tmps w3.heap.size .ready Y;rwa[World.size_alloc]at this
  have hD4:w4.heap[w3.heap.size]?=O (.deferred<|O []):=by rw[<-hw4];exact(xD _ _ _<|by simp).trans<|wP w3 _
  have hs4:w4.heap.size=w3.heap.size+2:=by rw[<-hw4];simp
  have hfr4:Fr ze w3 w4:=by
    rw[<-hw4];exact(⟨rfl,rfl,rfl,by simp,λb hb _=>xD _ _ b hb,λ_=>ym _⟩:Fr ze w3<|w3.alloc<|.deferred<|O []).trans ⟨rfl,rfl,rfl,by simp,λb hb _=>xD _ _ b hb,λ_=>ym _⟩
  refine⟨w3.heap.size+1,[{target:=.collected w3.heap.size,args:=#[]}],w4,{target:=.fn (.func 299) us,args:=#[.func (.yield<|w3.heap.size+1) #[] #[]]},w4,299,#[.func (.yield<|w3.heap.size+1) #[] #[]]++us,w4,?_,?_,λ_ _=>trivial,?_,λh=>by simp[xO]at h,?_⟩;·rw[<-hw4];exact run_enterLoop_outer _ _ _ _ _
  · have ek:∀v,a3.eval (.const v)=v:=λ_=>rfl;simp[resolve,e12,xZ,ek]
  ·simp only[invoke];exact za9 hK299 _ w4
  obtain⟨A',hA'⟩:∃A':Nat->Prop,A'=λb=>Own A bs3 b\/b=w3.heap.size\/b=w3.heap.size+1:=⟨_,rfl⟩;have hAlt:∀b,A' b->b<w4.heap.size:=λb hb=>by
    subst hA';rcases hb with(hb|hb)|rfl|rfl;·have:=hown.zvE b hb;omega
    ·have:=hown.lt b hb;omega
    ·omega
    ·omega
  have hAin:∀b,b<w3.heap.size->A' b->Own A bs3 b:=λb hb hb'=>by
    subst hA';rcases hb' with hb'|rfl|rfl;·exact hb'
    ·omega
    ·omega
  have hG4:zdD A' w4:=hown.glob.fr hfr4 (λ_ x=>x.elim) hAin;have hargs:xu A' w4 [.fn (.yield<|w3.heap.size+1) [] [],.ref<|.str t0,.ref<|GMap.dat KE xp kw] ((#[wx (.yield<|w3.heap.size+1) #[] #[]]:Array Value)++us).toList:=by
    have:=D.zv1 hfr4 (λ_ x=>x.elim) hAin _ _ hus;simp only[Array.toList_append,uv,yR,xu,xC]at this|-;exact⟨_,_,rfl,⟨#[],#[],rfl,rfl,rfl⟩,this⟩
  have hstr4:w4.cell? ⟨pb,po,Y⟩=O (.string ⟨t0.toArray⟩):=by rw[wY<|hold pb hplt];exact hstr
  have hB4:w4.heap[B]?=O (.cells #[.int .i64 0] 3 (0,0)):=(hold B hBlt).trans hBh;have ht1:a3.tmps[1]?=O (.pointer<|O ⟨pb,po,Y⟩):=by
    have:a3.tmps.getD 1 undef=.pointer (O ⟨pb,po,Y⟩):=e1;simpa[Array.getD,hsz]using this
  have ht2:a3.tmps[2]?=O (.pointer<|O ⟨B,0,Y⟩):=by
    have:a3.tmps.getD 2 undef=.pointer (O ⟨B,0,Y⟩):=e2;simpa[Array.getD,hsz]using this
  obtain⟨Post,hPost⟩:∃Post:World->Prop,Post=λW'=>∃W0,Fr ze w4 W0/\Fr (λb=>b=w3.heap.size+1\/b=B) W0 W'/\((tok.at_ !=0||tok.end_ !=(t0.length:Int))=U/\W'.heap[w3.heap.size+1]?=O (.loop<|kRec fn a3.tmps w3.heap.size .done<|O<|.exit 0)/\W'.heap[B]?=O (.cells #[.int .i64 0] 3 (0,0))\/(tok.at_ !=0||tok.end_ !=(t0.length:Int))=M/\W'.heap[w3.heap.size+1]?=O (.loop<|kRec fn a3.tmps w3.heap.size .done<|O .ret)/\W'.heap[B]?=O (.cells #[.int .i64 tok.kind] 3 (0,0))):=⟨_,rfl⟩;refine callsIn_wide.2<|(zmh (A:=A') (w:=w4) (Post:=Post) Tryz.func299 rfl rfl (by rw[Tryz.ntmps299];exact yt rfl) hAlt hG4 hargs ?_).mono ?_
  · have htri:=zip n t0 kw (.fn (.yield<|w3.heap.size+1) [] []) ⟨A',ze,w4,93,λa W'=>a.defers=[]/\Post W',[],0,[]⟩ rfl rfl (λ_ _=>False) tok htok λQ T H j q0 q5 qj=>zte (Post:=Post) (w3.heap.size+1) tok ?_ Q T H j q0 q5 qj;· rw[zcV Tryz.func299 rfl]at htri;exact htri
    · intro W v hf hv;simp only[Token.enc,xC,xu]at hv;obtain⟨vs,rfl,v1,l1,hvs,rfl,v2,l2,rfl,rfl,v3,l3,rfl,rfl,v4,l4,rfl,rfl,rfl⟩:=hv;have hvs:vs=#[.int .i64 tok.kind,.int .i64 tok.from_,.int .i64 tok.at_,.int .i64 tok.end_]:=Array.toList_inj.1<|by simpa using hvs
      subst hvs;have hLW:W.heap[w3.heap.size+1]?=O (.loop<|kRec fn a3.tmps w3.heap.size .ready Y):=(hf.block _ (by omega) λx=>x.elim).trans hL4;refine⟨fn,a3.tmps.setIfInBounds 13<|.agg #[.int .i64 tok.kind,.int .i64 tok.from_,.int .i64 tok.at_,.int .i64 tok.end_],kAsg,zz1,?_,(zt5 fn (w3.heap.size+1) w3.heap.size B ⟨pb,po,Y⟩ ⟨t0.toArray⟩ tok.kind tok.from_ tok.at_ tok.end_ a3.tmps hsz ht1 ht2 W (by omega) (by simp only;omega) hLW ?_ ?_).mono ?_⟩
      · have:=run_yield (P:=pg) (args:=#[.agg #[.int .i64 tok.kind,.int .i64 tok.from_,.int .i64 tok.at_,.int .i64 tok.end_]]) hLW rfl;simpa[kRec]using this
      ·rw[wY<|hf.block pb (by omega) λx=>x.elim];exact hstr4
      ·exact(hf.block B (by omega) λx=>x.elim).trans hB4
      · rintro e W'⟨rfl,hf2,hcase⟩;exact⟨rfl,by rw[hPost];exact⟨W,hf,hf2,hcase⟩⟩
  · rintro e W⟨⟨u,rfl⟩,hP⟩;rw[hPost]at hP;obtain⟨W0,f1,f2,hcase⟩:=hP;have hs0:w4.heap.size<=W0.heap.size:=f1.size;have hD0:W0.heap[w3.heap.size]?=O (.deferred<|O []):=(f1.block w3.heap.size (by omega) λx=>x.elim).trans hD4;have hDW:W.heap[w3.heap.size]?=O (.deferred<|O []):=(f2.block w3.heap.size (by omega)<|by rintro(h|h)<;>omega).trans hD0;have hww:w.heap.size<=w3.heap.size:=hR3.fr.size;have hBw:w.heap.size<=B:=(hR3.new B<|yB hB0).resolve_left λh=>h;have hfr3:Fr ze w w3:=hR3.fr;have hfW:Fr ze w W:=((hfr3.trans hfr4).trans f1).past f2<|by rintro b(rfl|rfl)<;>omega
    rcases hcase with⟨hc,hL,hBW⟩|⟨hc,hL,hBW⟩
    · rw[if_pos hc]at h;cases h;refine⟨O<|.exit 0,_,run_endLoop hL<|by simp[kRec],?_⟩;have hB5:(W.putObj (w3.heap.size+1)<|.loop {kRec fn a3.tmps w3.heap.size .done<|O<|.exit 0 with state:=.exhausted}).heap[B]?=O (.cells #[.int .i64 0] 3 (0,0)):=(xx<|by omega).trans hBW;have hD5:(W.putObj (w3.heap.size+1)<|.loop {kRec fn a3.tmps w3.heap.size .done<|O<|.exit 0 with state:=.exhausted}).heap[w3.heap.size]?=O (.deferred<|O []):=(xx<|by omega).trans hDW;have hf5:Fr ze w<|W.putObj (w3.heap.size+1)<|.loop {kRec fn a3.tmps w3.heap.size .done<|O<|.exit 0 with state:=.exhausted}:=hfW.past (S:=λb=>b=w3.heap.size+1) ⟨rfl,rfl,rfl,by simp,λb _ hne=>xx hne,λ_=>ym _⟩<|by rintro b rfl;omega
      generalize W.putObj (w3.heap.size+1) (.loop {kRec fn a3.tmps w3.heap.size .done<|O<|.exit 0 with state:=.exhausted})=W5 at hB5 hD5 hf5|-;refine wpIn_exit ?_;simp only[vm,if_true,Exit.then];have hB6:(W5.setCell ⟨B,0,Y⟩<|.int .i64 0).heap[B]?=O (.cells #[.int .i64 0] 3 (0,0)):=by simp[World.setCell,Array.getElem?_modify,hB5]
      have hD6:(W5.setCell ⟨B,0,Y⟩<|.int .i64 0).heap[w3.heap.size]?=O (.deferred<|O []):=(vK W5 ⟨B,0,Y⟩ _ _<|by simp only;omega).trans hD5;have hf6:Fr ze w<|W5.setCell ⟨B,0,Y⟩<|.int .i64 0:=by
        have k6:Fr (λb=>b=B) W5<|W5.setCell ⟨B,0,Y⟩<|.int .i64 0:=⟨rfl,rfl,rfl,by simp,λb _ hne=>vK W5 ⟨B,0,Y⟩ _ b hne,λ_=>ym _⟩;exact hf5.past k6<|by rintro b rfl;exact hBw
      exact zu4 B a3.tmps hsz ht2 _ W5 _ hB5<|.inr ⟨rfl,by rw[hdf];exact ztx hsz ht2 hB6 hD6 (by omega) hf6 hww⟩
    · rw[if_neg<|by rw[hc];simp]at h;cases h;refine⟨O .ret,_,run_endLoop hL<|by simp[kRec],?_⟩;have hB5:(W.putObj (w3.heap.size+1)<|.loop {kRec fn a3.tmps w3.heap.size .done<|O .ret with state:=.exhausted}).heap[B]?=O (.cells #[.int .i64 tok.kind] 3 (0,0)):=(xx<|by omega).trans hBW;have hD5:(W.putObj (w3.heap.size+1)<|.loop {kRec fn a3.tmps w3.heap.size .done<|O .ret with state:=.exhausted}).heap[w3.heap.size]?=O (.deferred<|O []):=(xx<|by omega).trans hDW;have hf5:Fr ze w<|W.putObj (w3.heap.size+1)<|.loop {kRec fn a3.tmps w3.heap.size .done<|O .ret with state:=.exhausted}:=hfW.past (S:=λb=>b=w3.heap.size+1) ⟨rfl,rfl,rfl,by simp,λb _ hne=>xx hne,λ_=>ym _⟩<|by rintro b rfl;omega
      generalize W.putObj (w3.heap.size+1) (.loop {kRec fn a3.tmps w3.heap.size .done<|O .ret with state:=.exhausted})=W5 at hB5 hD5 hf5|-;refine wpIn_ret ?_;simp only[vm,Exit.then];exact .inr ⟨rfl,by rw[hdf];exact ztx hsz ht2 hB5 hD5 (by omega) hf5 hww⟩
end
