/- Part of the proof of one law of the seat. -/
import Derived.Test.YtcagdmegicijlaaGreatDoorMi02
import Derived.Sort.Defs
import Derived.Lib.BitFns
import Derived.Shelf.SlSortCmp.Whole1
import Derived.Shelf.SlSortCmp.NoneTotal
import Derived.RangeFuncRecord
import Derived.RangeFuncCalls
import Derived.RangeFuncLeaves
import Derived.WalkKit
import Derived.TacticsIn
import Derived.TacticsInMore
import Derived.BigFrameIn
import Derived.OwnWalkIn
set_option linter.unusedVariables false
set_option linter.unusedSectionVars false
set_option linter.unusedSimpArgs false
set_option maxHeartbeats 4000000
namespace Go.Proofs.YtcagdmegicijlaaGreatDoor
open Go Go.RowKit
abbrev yF:=@_root_.decide_eq_false_iff_not
abbrev uj:=@_root_.Bool.and_eq_false_iff
def Serves (C:Ctx) (l:Nat) (rec:Loop) (T1:List (Nat×V)):Prop:=C.own0 l∧∀ q∈T1,(q.2,rec.tmps.getD q.1 Go.undef)∈C.gh
theorem look_mem {T t v} (h:look t T=some v):(t,v)∈T:=by
 induction T with
 | nil=>simp [look] at h
 | cons p r ih=>
  obtain ⟨u,x⟩:=p;simp only [zby] at h;split at h <;> rename_i e
  ·cases h;subst e;simp
  ·exact uv _ (ih h)
theorem OneI.yield {G1 G2:Globs} {l:Nat} {rec:Loop} {P:Program} {C:Ctx} {ops:Array Oper} {o:Oper} {T:List (Nat×V)} {H H':List Blk} {x y:Operand} {tys:Array TypeId} {d:D} {p N ia ib ic:Nat} {ra rb:List Oper} {T1:List (Nat×V)}
  (hGs : @Globs.gs G2=(l,.loop rec)::@Globs.gs G1) (hGE:∀ q∈@Globs.gs G1,q.1≠l) (hrec:rec.state = .ready∧rec.pending=none∧rec.params = #[p]∧rec.tmps.size=N) (hasg:rec.assign = .region ia ra.toArray false) (hbd:rec.body = .block ib (.region ic rb.toArray false))
  (hda:(ra.all zeV)=true) (hdb:(rb.all zeV)=true) (hs:Serves C l rec T1) (hTN:(T1.all λq=>Nat.blt q.1 N)=true) (hpN:Nat.blt p N=true) (hp1:(T1.all λq=>q.1 != p)=true)
  (ho:o.op = .call { callee:=.value x,args:=#[y],argTypes:=tys }) (hx:ev T x=some (.d (.fn (.yield l) [] []))) (hy:ev T y=some (.d d)) (hd:dstOK o.dst C.n=true)
  (hw : @Wants G2 C ops o ⟨T,H⟩ true) (hu:(T.all λq=>q.2.under H.length)=true) (hgn:Nat.ble C.gn H.length=true)
  (h:∀ (own0:Nat→Prop) (w:World) (gh:List (V×Value)),@TriL G1 P ⟨C.A0,own0,w,N,λ_ _=>False,gh,H.length,[]⟩ ra.toArray ra (λe s1=>e = .normal∧∀ (own0:Nat→Prop) (w:World),
   @TriL G1 P ⟨C.A0,own0,w,N,λ_ _=>False,gh,H.length,[]⟩ rb.toArray rb (λe s2=>e = .normal∧s2.H=H') s1) ⟨(p,.d d)::T1,H⟩) :
  @OneI G2 P C ops o ⟨T,H⟩ ((⟨T,H'⟩:St).put o.dst (.d (.bool true))):=by
 obtain ⟨hst,hpe,hps,hsz⟩:=hrec;refine @OneI.mk G2 _ _ _ _ _ _ λbs a w hR Q i K hi hK=>?_
 have hwant:=@Wants.run G2 _ _ _ _ _ hw bs a w hR;have e1:=@R.ev G2 _ _ _ _ _ hR _ _ hx;have e2:=@R.ev G2 _ _ _ _ _ hR _ _ hy;obtain ⟨⟨o1,o2,o3,o4,og⟩,rlen,rblk,rtmp,rdef,rsz,rfr,rnew,rgh⟩:=hR;simp only [V.rep,D.rep,D.reps] at e1;obtain ⟨vs,us,e1,hv0,hu0⟩:=e1;have hv0:vs = #[]:=by simpa using hv0
 have hu0:us = #[]:=by simpa using hu0
 subst hv0 hu0;obtain ⟨hlO,hL⟩:=og (l,.loop rec) (by rw [hGs];simp);simp only at hlO hL;have hlt:l<w.heap.size:=(yo.1 hL).1;unfold wpOpIn;simp only [hi,hwant,if_true];refine ⟨λ_ _=>trivial,?_⟩;obtain ⟨tm1,htm1⟩:∃ tm1,tm1=rec.tmps.setIfInBounds p (a.eval y):=⟨_,rfl⟩
 have hrun:(execOp a.eval o).run P w = .ok (.round l rec.fn tm1 rec.assign rec.body) w:=by
  have hyl:=run_yield (P:=P) (args:=#[a.eval y]) hL (by rw [hps];rfl);rw [hps] at hyl;simp only [execOp,ho,resolve,e1,Deferred.ofValue,Sem.run_bind,Sem.run_pure,Result.andThen_ok,invoke];simpa [htm1] using hyl
 rw [show (o.semAt Fence.wide.round a.eval)=execOp a.eval o from rfl,hrun,Oper.uponIn_round];refine ⟨λh=>by simp [Fence.wide] at h,?_⟩;refine roundIn_of_wpIn trivial ?_;obtain ⟨gh1,hgh1⟩:∃ gh1,gh1=C.gh++vals a T T:=⟨_,rfl⟩
 have hgn:=yh hgn;have hGG:∀ q∈@Globs.gs G1,q∈@Globs.gs G2:=λq hq=>by rw [hGs];exact uv _ hq
 have hR1 : @R G1 ⟨C.A0,λb=>some b∈bs,w,N,λ_ _=>False,gh1,H.length,[]⟩ bs ⟨(p,.d d)::T1,H⟩ { tmps:=tm1,defers:=[] } w:=by
  have hpn:p<rec.tmps.size:=by rw [hsz];simpa using hpN
  refine @R.mk G1 _ _ _ _ _ (@OwnOK.mk G1 _ _ _ o1 o2 o3 o4 λq hq=>og q (hGG q hq)) rlen rblk (λt v hv=>?_) rfl (by rw [htm1];simpa using hsz) (Fr.refl _ _) (λb hb=>.inl hb) λq hq=>?_
  ·simp only [zby] at hv;split at hv <;> rename_i ht
   ·cases hv;subst ht;refine ⟨by rw [← hsz];exact hpn,?_⟩;rw [htm1,zfg _ _ _ _ _ hpn,if_pos rfl];exact e2
   ·have hm:=look_mem hv;have h1:=hs.2 _ hm;have h2:=yi.1 hTN _ hm;refine ⟨by simpa using h2,?_⟩;rw [htm1,zfg _ _ _ _ _ hpn,if_neg ht];exact (rgh _ h1).2
  ·rw [hgh1] at hq;rcases yK.1 hq with hq | hq
   ·exact ⟨V.under_mono hgn _ (rgh q hq).1,(rgh q hq).2⟩
   ·obtain ⟨t,h1,h2⟩:=vals_mem hq;exact ⟨look_under hu h1,by rw [h2];exact (rtmp t _ h1).2⟩
 rw [hasg];refine wpIn_region_lit ?_;refine zgx (F:=Fence.wide.inRound l) (.inr ⟨l,rfl⟩) (Q0:=@QR G1 _ _) ?_ ?_ ra _ _ hda (@TriL.run G1 _ _ _ _ _ _ (h _ _ _) _ _ _ hR1)
 ·rintro e a w (⟨_,_,⟨h,_⟩,_⟩ | ⟨_,h⟩)
  ·exact h
  ·exact h.elim
 rintro a1 w1 (⟨bs1,s1,⟨_,hb⟩,hR1'⟩ | ⟨h,_⟩)
 case inr=>cases h
 simp only [Exit.then];have f1:Fr (λb=>some b∈bs) w w1:=by
  obtain ⟨_,_,_,_,_,_,f,_,_⟩:=hR1';exact f
 have n1:∀ b,some b∈bs1→some b∈bs∨w.heap.size≤b:=by
  obtain ⟨_,_,_,_,_,_,_,f,_⟩:=hR1';exact f
 have hlbs:¬ some l∈bs:=λh=>hlO (.inr h)
 have hL1:w1.heap[l]? = some (.loop rec):=(f1.block l hlt hlbs).trans hL;have hbr:=run_beginRound (P:=P) hL1 hst;refine ⟨_,hbr,?_⟩;obtain ⟨w2,hw2⟩:∃ w2,w2=w1.putObj l (.loop { rec with state:=.busy }):=⟨_,rfl⟩
 rw [← hw2];have t2:Turn w1 w2:=by rw [hw2];exact Turn.put hL1 rfl
 have hs2:w2.heap.size=w1.heap.size:=t2.size;have hlt1:l<w1.heap.size:=(yo.1 hL1).1;have hL2:w2.heap[l]? = some (.loop { rec with state:=.busy }):=by rw [hw2];exact World.putObj_heap_same hlt1
 have hput2:∀ q,q≠l→w2.heap[q]? = w1.heap[q]?:=λq hq=>by rw [hw2];exact World.putObj_heap_other hq
 have hR2 : @R G1 ⟨C.A0,λb=>some b∈bs1,w2,N,λ_ _=>False,gh1,H.length,[]⟩ bs1 s1 a1 w2:=by
  have hg1 : @zfc G1 (Own C.A0 bs1) w1:=by
   obtain ⟨⟨_,_,_,_,g⟩,_⟩:=hR1';exact g
  exact R.turn hR1' t2 rfl rfl rfl rfl rfl (Fr.refl _ _) (λb hb=>.inl hb) λq hq=>⟨(hg1 q hq).1,by rw [hput2 _ (hGE q hq)];exact (hg1 q hq).2⟩
 rw [hbd];refine wpIn_block (wpIn_region_lit ?_);refine zgx (F:=Fence.wide.inRound l) (.inr ⟨l,rfl⟩) (Q0:=@QR G1 _ _) ?_ ?_ rb _ _ hdb (@TriL.run G1 _ _ _ _ _ _ (hb _ _) _ _ _ hR2)
 ·rintro e a w (⟨_,_,⟨h,_⟩,_⟩ | ⟨_,h⟩)
  ·exact h
  ·exact h.elim
 rintro a2 w3 (⟨bs2,s2,⟨_,hH⟩,hR3⟩ | ⟨h,_⟩)
 case inr=>cases h
 simp only [Exit.inBlock,roundPost];have f3:Fr (λb=>some b∈bs1) w2 w3:=by
  obtain ⟨_,_,_,_,_,_,f,_,_⟩:=hR3;exact f
 have n3:∀ b,some b∈bs2→some b∈bs1∨w2.heap.size≤b:=by
  obtain ⟨_,_,_,_,_,_,_,f,_⟩:=hR3;exact f
 have hlbs1:¬ some l∈bs1:=λh=>(n1 l h).elim hlbs (λh=>by omega)
 have hlbs2:¬ some l∈bs2:=λh=>(n3 l h).elim hlbs1 (λh=>by omega)
 have hL3:w3.heap[l]? = some (.loop { rec with state:=.busy }):=(f3.block l (by omega) hlbs1).trans hL2;have her:=run_endRound (P:=P) none hL3;have hback:({ { rec with state:=LoopState.busy } with state:=if (none:Option Code).isNone then LoopState.ready else LoopState.done,pending:=none }:Loop)=rec:=by
  cases rec;simp only at hst hpe;subst hst hpe;rfl
 rw [hback] at her;refine ⟨_,_,her,hK _ _ ⟨bs2,?_⟩⟩;obtain ⟨w4,hw4⟩:∃ w4,w4=w3.putObj l (.loop rec):=⟨_,rfl⟩
 rw [← hw4];have t4:Turn w3 w4:=by rw [hw4];exact Turn.put hL3 rfl
 have hlt3:l<w3.heap.size:=(yo.1 hL3).1;have hL4:w4.heap[l]? = some (.loop rec):=by rw [hw4];exact World.putObj_heap_same hlt3
 have hput4:∀ q,q≠l→w4.heap[q]? = w3.heap[q]?:=λq hq=>by rw [hw4];exact World.putObj_heap_other hq
 obtain ⟨⟨p1,p2,p3,p4,pg⟩,plen,pblk,ptmp,pdef,psz,pfr,pnew,pgh⟩:=hR3;have hRC : @R G2 C bs2 ⟨T,H'⟩ a w4:=by
  subst hH;refine @R.mk G2 _ _ _ _ _ (@OwnOK.mk G2 _ _ _ p1 p2 (λb hb=>by rw [t4.size];exact p3 b hb) (λb hb=>by rw [t4.size];exact p4 b hb) λq hq=>?_) plen (λi k hk=>Blk.rep_turn t4 i k (pblk i k hk)) (λt v hv=>?_) rdef rsz ?_ (λb hb=>?_) λq hq=>?_
  ·rw [hGs] at hq;rcases yM.1 hq with rfl | hq
   ·exact ⟨λh=>h.elim (λh=>hlO (.inl h)) hlbs2,hL4⟩
   ·exact ⟨(pg q hq).1,by rw [hput4 _ (hGE q hq)];exact (pg q hq).2⟩
  ·exact ⟨(rtmp t v hv).1,V.rep_turn t4 _ _ (pgh _ (by rw [hgh1];exact List.mem_append_right _ (mem_vals hv hv))).2⟩
  ·have hfr1:Fr (λb=>some b∈bs∨b=l∨some b∈bs1) w w4:=by
    have g1:Fr (λb=>some b∈bs∨b=l∨some b∈bs1) w w1:=f1.mono λ_ _ h=>.inl h
    have g2:Fr (λb=>some b∈bs∨b=l∨some b∈bs1) w1 w2:=by rw [hw2];exact ⟨rfl,rfl,rfl,by simp,λb _ hn=>World.putObj_heap_other (λe=>hn (.inr (.inl e))),yn _⟩
    have g3:Fr (λb=>some b∈bs∨b=l∨some b∈bs1) w2 w3:=f3.mono λ_ _ h=>.inr (.inr h)
    have g4:Fr (λb=>some b∈bs∨b=l∨some b∈bs1) w3 w4:=by rw [hw4];exact ⟨rfl,rfl,rfl,by simp,λb _ hn=>World.putObj_heap_other (λe=>hn (.inr (.inl e))),yn _⟩
    exact ((g1.trans g2).trans g3).trans g4
   refine ⟨hfr1.os.trans rfr.os,hfr1.tape.trans rfr.tape,hfr1.output.trans rfr.output,ua rfr.size hfr1.size,λq hq hno=>?_,ua rfr.drawn hfr1.drawn⟩;refine (hfr1.block q (yT hq rfr.size) λe=>?_).trans (rfr.block q hq hno);have hbs:¬ some q∈bs:=λh=>(rnew q h).elim hno (λh=>by omega)
   rcases e with e | e | e
   ·exact hbs e
   ·exact hno (by rw [e];exact hs.1)
   ·exact (n1 q e).elim hbs (λh=>by have:=rfr.size;omega)
  ·have hsz1:=f1.size;have hsz0:=rfr.size;rcases n3 b hb with h1 | h1
   ·rcases n1 b h1 with h1 | h1
    ·exact rnew b h1
    ·exact .inr (by omega)
   ·exact .inr (by omega)
  ·exact ⟨(rgh q hq).1,V.rep_turn t4 _ _ (pgh q (by rw [hgh1];exact List.mem_append_left _ hq)).2⟩
 exact @R.put G2 _ _ _ _ _ _ hRC (Fr.refl _ _) o.dst hd (.d (.bool true)) (.bool true) (zp.2 rfl)
theorem Tri.rangeFunc {G0:Globs} {P:Program} {fnC:Func} {A:Nat→Prop} {w0:World} {n N p b0:Nat} {y:D} {s0:St} {T:List (Nat×V)} {H:List Blk} {g:Operand} {x asg body tail:Code} {fi:FuncId} {fs:List D} {fn:Func} {c:Code} {Q:Exit→St→Prop} {K:List Blk→Prop}
  (hx0 : @Tri G0 P ⟨A,zf,w0,n,λ_ _=>False,[],0,[]⟩ x (λe s=>e = .normal∧s=⟨T,H⟩) s0) (hx:ev T g=some (.d (.fn (.func fi) fs []))) (hc:callable P fi=true) (hf:P.funcs[fi]? = some fn) (hb:fn.body=some c) (hN:fn.ntmps=N) (hres:fn.results = #[])
  (hn:Nat.ble (fs.length+1) N=true) (hu:(T.all λq=>q.2.under H.length)=true)
  (h:∀ (l Dd:Nat) (rec:Loop) (own0:Nat→Prop) (w:World) (gh:List (V×Value)) (G':Globs),l≠Dd→@Globs.gs G'=(l,.loop rec)::(Dd,.deferred (some []))::@Globs.gs G0→(∀ q∈@Globs.gs G0,q.1≠l)→(rec.state = .ready∧rec.pending=none∧rec.params = #[p]∧rec.tmps.size=n) →
   rec.assign=asg→rec.body=body→own0 l→(∀ t v,look t T=some v→(v,rec.tmps.getD t Go.undef)∈gh) →
   @Tri G' P ⟨A,own0,w,N,λ_ _=>False,gh,H.length,[]⟩ c (retV [] λ_ H2=>K H2) ⟨zex 0 (fs.map .d++[.d (.fn (.yield l) [] [])]),H⟩)
  (k:∀ (Dd:Nat) (H2:List Blk) (G':Globs),@Globs.gs G'=(Dd,.deferred (some []))::@Globs.gs G0→K H2→@Tri G' P ⟨A,zf,w0,n,λ_ _=>False,[],0,[{ target:=.collected Dd,args:=#[] }]⟩ tail (λe s=>e = .ret∧retQ P fnC.results y e s) ⟨T,H2⟩) :
  @Tri G0 P ⟨A,zf,w0,n,λa' w'=>LeavesInM Fence.wide 0 P fnC a'.tmps (pureEnd A w0 y) a'.defers .returning w',[],0,[]⟩ (.seq (.seq x (.block b0 (.rangeFunc g #[p] asg body))) tail) Q s0:=by
 subst hN;have hn:=yh hn;refine @Tri.mk G0 _ _ _ _ _ λbs a w' hR=>?_
 have hR0 : @R G0 ⟨A,zf,w0,n,λ_ _=>False,[],0,[]⟩ bs s0 a w':=by
  obtain ⟨q1,q2,q3,q4,q5,q6,q7,q8,q9⟩:=hR;exact @R.mk G0 _ _ _ _ _ q1 q2 q3 q4 q5 q6 q7 q8 q9
 refine wp_seq (wp_seq (Code.wp_mono ?_ (@Tri.run G0 _ _ _ _ _ hx0 bs a w' hR0)));rintro e a w3 (⟨bs,s,⟨rfl,rfl⟩,hR⟩ | ⟨_,hE⟩)
 case inr=>exact hE.elim
 simp only [Exit.then];clear hR0;have e1:=@R.ev G0 _ _ _ _ _ hR _ _ hx;have hRf:=λ{w'} (f:Fr zf w3 w')=>@R.put G0 _ _ _ _ _ _ hR f none rfl .junk Go.undef (by simp only [V.rep])
 obtain ⟨⟨o1,o2,o3,o4,og⟩,rlen,rblk,rtmp,rdef,rsz,rfr,rnew,rgh⟩:=hR;simp only [V.rep,D.rep] at e1;obtain ⟨vs,us,e1,hvs,hus⟩:=e1;simp only [D.reps] at hus;have hus:us = #[]:=by simpa using hus
 subst hus;refine (wpIn_wide (n:=0)).1 (wpIn_block (wpIn_rangeFunc ?_));intro fnid _;obtain ⟨rec,hrec⟩:∃ rec:Loop,rec = { state:=.ready,pending:=none,fn:=fnid,tmps:=a.tmps,params:=#[p],assign:=asg,body:=body,defers:=w3.heap.size }:=⟨_,rfl⟩
 obtain ⟨l,hl⟩:∃ l,l=w3.heap.size+1:=⟨_,rfl⟩
 obtain ⟨Dd,hDd⟩:∃ Dd,Dd=w3.heap.size:=⟨_,rfl⟩
 obtain ⟨w4,hw4⟩:∃ w4,(w3.alloc (.deferred (some []))).alloc (.loop rec)=w4:=⟨_,rfl⟩
 have hold:∀ q,q<w3.heap.size→w4.heap[q]? = w3.heap[q]?:=λq hq=>by rw [← hw4];exact (Below.heap_alloc _ _ q (by simp;omega)).trans (Below.heap_alloc _ _ q hq)
 have hL4:w4.heap[l]? = some (.loop rec):=by rw [← hw4,hl];have:=World.alloc_heap_new (w3.alloc (.deferred (some []))) (.loop rec);rwa [World.size_alloc] at this
 have hD4:w4.heap[Dd]? = some (.deferred (some [])):=by rw [← hw4,hDd];exact (Below.heap_alloc _ _ _ (by simp)).trans (World.alloc_heap_new w3 _)
 have hs4:w4.heap.size=w3.heap.size+2:=by rw [← hw4];simp
 have hfr4:Fr zf w3 w4:=by
  rw [← hw4];exact (⟨rfl,rfl,rfl,by simp,λb hb _=>Below.heap_alloc _ _ b hb,yn _⟩:Fr zf w3 (w3.alloc (.deferred (some [])))).trans ⟨rfl,rfl,rfl,by simp,λb hb _=>Below.heap_alloc _ _ b hb,yn _⟩
 refine ⟨l,[{ target:=.collected Dd,args:=#[] }],w4,{ target:=.fn (.func fi) #[],args:=vs++#[.func (.yield l) #[] #[]] },w4,fi,vs++#[.func (.yield l) #[] #[]]++#[],w4,?_,?_,λ_ _=>trivial,?_,λh=>by simp [Fence.wide] at h,?_⟩
 ·rw [← hw4,hl,hDd,hrec];exact run_enterLoop_outer _ _ _ _ _
 ·have ek:∀ v,a.eval (.const v)=v:=λ_=>rfl
  simp [resolve,e1,Deferred.ofValue,ek]
 ·simp only [invoke];exact zb9 hc _ w4
 have hR4:=hRf hfr4;obtain ⟨⟨q1,q2,q3,q4,qg⟩,qlen,qblk,qtmp,qdef,qsz,qfr,qnew,_⟩:=hR4;have hlA:¬ Own A bs l:=λh=>by
  rcases h with h | h
  ·have:=o4 l h;omega
  ·have:=o3 l h;omega
 have hDA:¬ Own A bs Dd:=λh=>by
  rcases h with h | h
  ·have:=o4 Dd h;omega
  ·have:=o3 Dd h;omega
 have hgl:∀ q∈@Globs.gs G0,q.1<w3.heap.size:=λq hq=>(yo.1 (og q hq).2).1
 obtain ⟨G',hG'⟩:∃ G':Globs,@Globs.gs G'=(l,.loop rec)::(Dd,.deferred (some []))::@Globs.gs G0:=⟨⟨_⟩,rfl⟩
 obtain ⟨GD,hGD⟩:∃ G':Globs,@Globs.gs G'=(Dd,.deferred (some []))::@Globs.gs G0:=⟨⟨_⟩,rfl⟩
 have hargs:(vs++#[Value.func (.yield l) #[] #[]]++#[]:Array Value)=vs++#[Value.func (.yield l) #[] #[]]:=by simp
 rw [hargs];have hvl:=D.reps_len hvs;simp only [yy] at hvl;have hreps:V.reps (Own A bs) w4 bs H (fs.map .d++[.d (.fn (.yield l) [] [])]) (vs++#[Value.func (.yield l) #[] #[]]:Array Value).toList:=by
  simp only [Array.toList_append];refine V.reps_append ?_ ?_
  ·have:=D.reps_ext hfr4 hvs;have key:∀ (ds:List D) (vs:List Value),D.reps (Own A bs) w4 ds vs→V.reps (Own A bs) w4 bs H (ds.map .d) vs:=by
    intro ds
    induction ds with
    | nil=>intro vs h;simpa only [D.reps,List.map_nil,V.reps] using h
    | cons d ds ih=>
     intro vs h;simp only [D.reps] at h;obtain ⟨v,vs',rfl,h1,h2⟩:=h;simp only [yP,V.reps,V.rep];exact ⟨v,vs',rfl,h1,ih _ h2⟩
   exact key _ _ this
  ·simp [V.reps,V.rep,D.rep,D.reps]
 have hRi : @R G' ⟨A,λb=>some b∈bs∨b=l,w4,fn.ntmps,λ_ _=>False,vals a T T,H.length,[]⟩ bs ⟨zex 0 (fs.map .d++[.d (.fn (.yield l) [] [])]),H⟩ { tmps:=(vs++#[Value.func (.yield l) #[] #[]])++Array.replicate (fn.ntmps - (vs++#[Value.func (.yield l) #[] #[]]).size) undef,defers:=[] } w4:=by
  have hsz:((vs++#[Value.func (.yield l) #[] #[]])++Array.replicate (fn.ntmps - (vs++#[Value.func (.yield l) #[] #[]]).size) undef).size=fn.ntmps:=by simp;omega
  refine @R.mk G' _ _ _ _ _ (@OwnOK.mk G' _ _ _ q1 q2 q3 q4 λq hq=>?_) qlen qblk (λt v hv=>?_) rfl hsz (Fr.refl _ _) (λb hb=>.inl (.inl hb)) λq hq=>?_
  ·rw [hG'] at hq;rcases yM.1 hq with rfl | hq
   ·exact ⟨hlA,hL4⟩
   rcases yM.1 hq with rfl | hq
   ·exact ⟨hDA,hD4⟩
   ·exact qg q hq
  ·have:=paramsV_look _ 0 _ ((vs++#[Value.func (.yield l) #[] #[]])++Array.replicate (fn.ntmps - (vs++#[Value.func (.yield l) #[] #[]]).size) undef) hreps
    (λj hj=>by
     have hj':j<(vs++#[Value.func (.yield l) #[] #[]]).size:=by simpa using hj
     rw [uz,yY,Array.getElem?_append_left hj',List.getD,uc])
    (by rw [hsz];simp;omega) t v hv
   rw [hsz] at this;exact this
  ·obtain ⟨t,h1,h2⟩:=vals_mem hq;exact ⟨look_under hu h1,by rw [h2];exact (qtmp t _ h1).2⟩
 have htri:=h l Dd rec (λb=>some b∈bs∨b=l) w4 (vals a T T) G' (by omega) hG' (λq hq=>by have:=hgl q hq;omega) (by rw [hrec];exact ⟨rfl,rfl,rfl,rsz⟩) (by rw [hrec]) (by rw [hrec]) (.inr rfl) (λt v hv=>by rw [hrec];exact mem_vals hv hv);refine callsIn_wide.2 (calls_of_wp hf hb (Code.wp_mono ?_ (@Tri.run G' _ _ _ _ _ htri bs _ w4 hRi)));rintro e a' w5 (⟨bs',s',⟨he,ys,hys,hk⟩,hR5⟩ | ⟨_,hE⟩)
 case inr=>exact hE.elim
 obtain ⟨⟨p1,p2,p3,p4,pg⟩,plen,pblk,ptmp,pdef,psz,pfr,pnew,pgh⟩:=hR5;have hrun:(results fn a'.tmps).run P w5 = .ok (.tuple #[]) w5:=by
  rw [zeM,hres];simp [Sem.run_bind,Sem.run_pure]
 have hfin:rangePost Fence.wide 0 P l (Exit.inBlock b0 (Exit.then (tail.wp P (@QR G0 ⟨A,zf,w0,n,λa' w'=>LeavesInM Fence.wide 0 P fnC a'.tmps (pureEnd A w0 y) a'.defers .returning w',[],0,[]⟩ Q)) (@QR G0 ⟨A,zf,w0,n,λa' w'=>LeavesInM Fence.wide 0 P fnC a'.tmps (pureEnd A w0 y) a'.defers .returning w',[],0,[]⟩ Q))) { a with defers:=[{ target:=.collected Dd,args:=#[] }]++a.defers } (.returned (.tuple #[])) w5:=by
  have hL5:=(pg (l,.loop rec) (by rw [hG'];simp)).2;have hD5:=(pg (Dd,.deferred (some [])) (by rw [hG'];simp)).2;simp only at hL5 hD5;simp only [rangePost];refine ⟨none,w5.putObj l (.loop { rec with state:=.exhausted }),by have:=run_endLoop (P:=P) hL5 (by rw [hrec];simp);rw [this,hrec],?_⟩;simp only [Exit.inBlock,Exit.then];obtain ⟨w6,hw6⟩:∃ w6,w6=w5.putObj l (.loop { rec with state:=.exhausted }):=⟨_,rfl⟩
  rw [← hw6];have t6:Turn w5 w6:=by rw [hw6];exact Turn.put hL5 rfl
  have hput6:∀ q,q≠l→w6.heap[q]? = w5.heap[q]?:=λq hq=>by rw [hw6];exact World.putObj_heap_other hq
  have hlbs':∀ b,some b∈bs'→(some b∈bs∨b=l)∨w4.heap.size≤b:=pnew;have hR6 : @R GD ⟨A,zf,w0,n,λ_ _=>False,[],0,[{ target:=.collected Dd,args:=#[] }]⟩ bs' ⟨T,s'.H⟩ { a with defers:=[{ target:=.collected Dd,args:=#[] }]++a.defers } w6:=by
   refine @R.mk GD _ _ _ _ _ (@OwnOK.mk GD _ _ _ p1 p2 (λb hb=>by rw [t6.size];exact p3 b hb) (λb hb=>by rw [t6.size];exact p4 b hb) λq hq=>?_) plen (λi k hk=>Blk.rep_turn t6 i k (pblk i k hk)) (λt v hv=>?_) (by simp only;rw [rdef];rfl) rsz ?_ (λb hb=>?_) (λq hq=>(by cases hq))
   ·rw [hGD] at hq;have hq':q∈@Globs.gs G':=by rw [hG'];exact uv _ hq
    have hne:q.1≠l:=by
     rcases yM.1 hq with rfl | hq
     ·simp only;omega
     ·have:=hgl q hq;omega
    exact ⟨(pg q hq').1,by rw [hput6 _ hne];exact (pg q hq').2⟩
   ·exact ⟨(rtmp t v hv).1,V.rep_turn t6 _ _ (pgh _ (mem_vals hv hv)).2⟩
   ·have f5:Fr (λb=>some b∈bs∨b=l) w4 w5:=pfr;have f6:Fr (λb=>some b∈bs∨b=l) w5 w6:=by rw [hw6];exact ⟨rfl,rfl,rfl,by simp,λb _ hn=>World.putObj_heap_other (λe=>hn (.inr e)),yn _⟩
    have f46:=(hfr4.mono (W':=λb=>some b∈bs∨b=l) λ_ _ x=>x.elim).trans (f5.trans f6);have rfr':Fr zf w0 w3:=rfr;refine ⟨f46.os.trans rfr'.os,f46.tape.trans rfr'.tape,f46.output.trans rfr'.output,ua rfr'.size f46.size,λq hq hno=>?_,ua rfr'.drawn f46.drawn⟩;have:=rfr'.size;have hq:q<w0.heap.size:=hq;refine (f46.block q (by omega) λe=>?_).trans (rfr'.block q hq hno);rcases e with e | e
    ·have h3:zf q∨w0.heap.size≤q:=rnew q e;exact h3.elim (λx=>x) (λh=>by omega)
    ·omega
   ·have hz:w0.heap.size≤w3.heap.size:=rfr.size;rcases hlbs' b hb with (h1 | h1) | h1
    ·exact rnew b h1
    ·exact .inr (by simp only;omega)
    ·exact .inr (by simp only;omega)
  have hR6' : @R GD ⟨A,zf,w0,n,λ_ _=>False,[],0,[{ target:=.collected Dd,args:=#[] }]⟩ bs' ⟨T,s'.H⟩ { a with defers:=[{ target:=.collected Dd,args:=#[] }]++a.defers } w6:=hR6;refine Code.wp_mono ?_ (@Tri.run GD _ _ _ _ _ (k Dd s'.H GD hGD hk) _ _ _ hR6');rintro e a7 w7 (⟨bs7,s7,⟨rfl,he7,ds,hy7,hres7⟩,hR7⟩ | ⟨_,hE⟩)
  case inr=>exact hE.elim
  refine .inr ⟨rfl,?_⟩;have hg7 : @zfc GD (Own A bs7) w7:=by
   obtain ⟨⟨_,_,_,_,g⟩,_⟩:=hR7;exact g
  have hdf7:a7.defers=[{ target:=.collected Dd,args:=#[] }]:=by
   obtain ⟨_,_,_,_,d,_⟩:=hR7;exact d
  have hfr7:Fr zf w0 w7:=by
   obtain ⟨_,_,_,_,_,_,f,_,_⟩:=hR7;exact f
  have hnew7:∀ b,some b∈bs7→zf b∨w0.heap.size≤b:=by
   obtain ⟨_,_,_,_,_,_,_,f,_⟩:=hR7;exact f
  have hD7:=(hg7 (Dd,.deferred (some [])) (by rw [hGD];simp)).2;simp only at hD7;obtain ⟨w8,hw8⟩:∃ w8,w8=w7.putObj Dd (.deferred none):=⟨_,rfl⟩
  have hput8:∀ q,q≠Dd→w8.heap[q]? = w7.heap[q]?:=λq hq=>by rw [hw8];exact World.putObj_heap_other hq
  have hfr8:Fr zf w0 w8:=by
   have hz:w0.heap.size≤w3.heap.size:=rfr.size;refine ⟨by rw [hw8];exact hfr7.os,by rw [hw8];exact hfr7.tape,by rw [hw8];exact hfr7.output,by rw [hw8];simpa using hfr7.size,λq hq hno=>(hput8 q (by omega)).trans (hfr7.block q hq hno),by rw [hw8];exact hfr7.drawn⟩
  have hR8:=R.turn (G':=G0) (C':=⟨A,zf,w0,n,λ_ _=>False,[],0,[{ target:=.collected Dd,args:=#[] }]⟩) hR7 (w':=w8) (by rw [hw8];exact Turn.put hD7 rfl) rfl rfl rfl rfl rfl hfr8 hnew7 λq hq=>by
   have hne:q.1≠Dd:=by have:=hgl q hq;omega
   have:=hg7 q (by rw [hGD];exact uv _ hq);exact ⟨this.1,by rw [hput8 _ hne];exact this.2⟩
  obtain ⟨u,hu1,hu2⟩:=@res_of G0 _ _ _ _ _ _ _ _ _ hy7 hres7 hR8;show LeavesInM Fence.wide 0 P fnC a7.tmps (pureEnd A w0 y) a7.defers .returning w7;rw [hdf7];exact ⟨by simp,.inl ⟨Dd,w8,rfl,by rw [hw8];exact run_takeDeferred hD7,u,hu1,u,rfl,hfr8,hu2⟩⟩
 rcases he with rfl | rfl
 ·exact ⟨pdef,_,hrun,hfin⟩
 ·exact ⟨pdef,_,hrun,hfin⟩
def ze7 (n:Nat) (cf:Fin (n+1)→Fin (n+1)→Int):Array (Fin (n+1)):=Go.Sort.pdq (λx y=>decide (cf x y<0)) (Array.ofFn (n:=n+1) id) 0 (n+1) (Go.Lib.bitLen (n+1)) true true
def sortF {α:Type} (cf:α→α→Int):List α→List α
 | []=>[]
 | x::xs=>(ze7 xs.length λi j=>cf ((x::xs)[i.val]'(by simp)) ((x::xs)[j.val]'(by simp))).toList.map λi=>(x::xs)[i.val]'(by simp)
def swoB {α:Type} (cf:α→α→Int) (l:List α):Bool:=
 l.all λx=>!decide (cf x x<0)&&l.all λy=>l.all λz=>(!(decide (cf x y<0)&&decide (cf y z<0))||decide (cf x z<0))&&(decide (cf x y<0)||decide (cf y z<0)||!decide (cf x z<0))
def sortO {α:Type} (f:α→α→Option Int) (l:List α):Option (List α):=
 if (l.all λx=>l.all λy=>(f x y).isSome)&&swoB (λx y=>(f x y).getD 0) l&&decide (l.length<4611686018427387904) then some (sortF (λx y=>(f x y).getD 0) l) else none
section
open Go Go.RowKit Go.Sort Go.Shelf
theorem swo_of {α β:Type} {cf:α→α→Int} {l:List α} (h:swoB cf l=true) (g:β→α) (hg:∀ b,g b∈l):SWO (ltOf λx y:β=>cf (g x) (g y)):=by
 unfold swoB at h;rw [yi] at h;have k:∀ x y z:β,¬ cf (g x) (g x)<0∧(cf (g x) (g y)<0→cf (g y) (g z)<0→cf (g x) (g z)<0)∧(¬ cf (g x) (g y)<0→¬ cf (g y) (g z)<0→¬ cf (g x) (g z)<0):=by
  intro x y z;have h1:=h _ (hg x);rw [yb,yi] at h1;have h2:=h1.2 _ (hg y);rw [yi] at h2;have h3:=h2 _ (hg z);have h0:=h1.1;simp only [yz,yF] at h0;simp only [yb,yw,yz,uj,yd,yF] at h3;exact ⟨h0,by omega,by omega⟩
 refine ⟨λx=>?_,λx y z h1 h2=>?_,λx y z h1 h2=>?_⟩
 ·have:=(k x x x).1;simpa only [ltOf,yF] using this
 ·simp only [ltOf,yd] at *;exact (k x y z).2.1 h1 h2
 ·simp only [ltOf,yF] at *;exact (k x y z).2.2 h1 h2
theorem sortIx_spec {n} {cf:Fin (n+1)→Fin (n+1)→Int} (hO:SWO (ltOf cf)):(ze7 n cf).size=n+1∧(ze7 n cf).toList.Perm (List.ofFn (n:=n+1) id)∧(ze7 n cf).toList.Pairwise λx y=>ltOf cf y x=false:=by
 obtain ⟨⟨h1,_,h2⟩,h3⟩:=pdq_sorts (ltOf cf) hO (Array.ofFn (n:=n+1) id) 0 (n+1) (Lib.bitLen (n+1)) true true (yp _) (by simp) (Or.inl rfl);have hs:(ze7 n cf).size=n+1:=by
  change (pdq (ltOf cf) (Array.ofFn (n:=n+1) id) 0 (n+1) (Lib.bitLen (n+1)) true true).size=n+1;rw [h1];simp
 refine ⟨hs,?_,?_⟩
 ·have e:∀ (arr:Array (Fin (n+1))) (m:Nat),arr.size=m→arr.extract 0 m=arr:=by
   rintro arr m rfl;exact Array.extract_size
  have e1:=e (ze7 n cf) (n+1) hs;have e2:=e (Array.ofFn (n:=n+1) id) (n+1) (by simp);change ((ze7 n cf).extract 0 (n+1)).toList.Perm _ at h2;rw [e1,e2] at h2;simpa using h2
 ·rw [List.pairwise_iff_getElem];intro i j hi hj hij;have hi':i<(ze7 n cf).size:=by simpa using hi
  have hj':j<(ze7 n cf).size:=by simpa using hj
  have:=h3 i j (yp _) hij (by omega);change ltOf cf (ze7 n cf)[j]! (ze7 n cf)[i]! = false at this;rw [getElem!_pos (ze7 n cf) j hj',getElem!_pos (ze7 n cf) i hi'] at this;simpa using this
theorem map_ofFn_get {α:Type}:∀ (l:List α) (n:Nat) (h:n=l.length),(List.ofFn (n:=n) id).map (λi=>l[i.val]'(by rw [← h];exact i.isLt))=l:=by
 intro l n h;subst h;apply uO
 ·simp
 ·intro i h1 h2;simp
theorem sortF_perm {α:Type} {cf:α→α→Int} {l:List α} (h:swoB cf l=true):(sortF cf l).Perm l:=by
 cases l with
 | nil=>simp [sortF]
 | cons x xs=>
  have hO:SWO (ltOf λi j:Fin (xs.length+1)=>cf ((x::xs)[i.val]'(by simp)) ((x::xs)[j.val]'(by simp))):=swo_of h (λi:Fin (xs.length+1)=>(x::xs)[i.val]'(by simp)) (λi=>yg _);have h2:=(sortIx_spec hO).2.1.map λi=>(x::xs)[i.val]'(by simp)
  rw [map_ofFn_get (x::xs) (xs.length+1) (by simp)] at h2;exact h2
theorem sortF_sorted {α:Type} {cf:α→α→Int} {l:List α} (h:swoB cf l=true):(sortF cf l).Pairwise λx y=>¬ cf y x<0:=by
 cases l with
 | nil=>simp [sortF]
 | cons x xs=>
  have hO:SWO (ltOf λi j:Fin (xs.length+1)=>cf ((x::xs)[i.val]'(by simp)) ((x::xs)[j.val]'(by simp))):=swo_of h (λi:Fin (xs.length+1)=>(x::xs)[i.val]'(by simp)) (λi=>yg _);have h2:=(sortIx_spec hO).2.2;simp only [sortF,List.pairwise_map];refine h2.imp λ{a b} hab=>?_
  simpa [ltOf] using hab
theorem sortO_some {α:Type} {f:α→α→Option Int} {l r:List α} (h:sortO f l=some r):(∀ x∈l,∀ y∈l,(f x y).isSome=true)∧swoB (λx y=>(f x y).getD 0) l=true∧l.length<4611686018427387904∧r=sortF (λx y=>(f x y).getD 0) l:=by
 unfold sortO at h;split at h
 ·rename_i hc;simp only [yb,yd,yi] at hc;cases h;exact ⟨λx hx y hy=>hc.1.1 x hx y hy,hc.1.2,hc.2,rfl⟩
 ·cases h
theorem sortO_length {α:Type} {f:α→α→Option Int} {l r:List α} (h:sortO f l=some r):r.length=l.length:=by
 obtain ⟨_,h1,_,rfl⟩:=sortO_some h;exact (sortF_perm h1).length_eq
variable [Globs]
theorem Fr.grow_eq {w w'} (h:Fr zf w w'):∃ q os,w'=grow (w.drewN q) os:=by
 refine ⟨w'.drawn - w.drawn,w'.heap.extract w.heap.size w'.heap.size,?_⟩;obtain ⟨heap,tape,drawn,os,output⟩:=w;obtain ⟨heap',tape',drawn',os',output'⟩:=w';obtain ⟨h1,h2,h3,h4,h5,h6⟩:=h;simp only at h1 h2 h3 h4 h5 h6;subst h1 h2 h3;have e:heap'=heap++heap'.extract heap.size heap'.size:=by
  apply Array.ext_getElem?;intro i;by_cases hi:i<heap.size
  ·rw [Array.getElem?_append_left hi];exact h5 i hi (λx=>x)
  ·rw [Array.getElem?_append_right (by omega),Array.getElem?_extract];simp only [show heap.size+(i - heap.size)=i by omega];by_cases hj:i<heap'.size
   ·rw [if_pos (by omega)]
   ·rw [if_neg (by omega)];exact Array.getElem?_eq_none (by omega)
 simp only [grow,World.drewN,World.mk.injEq];exact ⟨e,trivial,by omega,trivial,trivial⟩
theorem fr_sorted {α:Type} [Inhabited α] {enc:α→Value} {w} {g n:Nat} {os:Array Obj} (d:Array α):Fr (λb=>some g=some b) w (sortWorld enc w g 0 n d os):=by
 refine ⟨rfl,rfl,rfl,by simp [sortWorld],λk hk hne=>?_,Nat.le_add_right _ _⟩;unfold sortWorld;rw [heap_grow_old _ _ (by simpa using hk)];have:g≠k:=λe=>hne (by rw [e])
 simp [putRow,mapBlock,Sort.ahead,Array.getElem?_modify,this]
theorem cmp_of_pure {P A w} {k g blk:Nat} (hA:∀ b,A b→b<w.heap.size) (hG:zfc A w) (hb:A blk) {vals:Fin (k+1)→Value} {encs:Fin (k+1)→D} (hr:∀ i,(encs i).rep A w (vals i)) {cf:Fin (k+1)→Fin (k+1)→Int}
  (hp:∀ i j,Pure P g [encs i,encs j] (.int (cf i j))):CmpLays1 P g #[] vals cf blk 0 (k+1) w:=by
 intro m os dk _ x y;have f0:Fr (λb=>some blk=some b) w (sortWorld vals w blk 0 m dk os):=fr_sorted dk;have hW:∀ b,some blk=some b→A b:=λb e=>by cases e;exact hb
 have h:=(hp x y).run A (sortWorld vals w blk 0 m dk os) #[vals x,vals y] (λb hb=>yT (hA b hb) f0.size) (hG.fr f0 hW (λ_ _ h=>h)) (by
  simp only [D.reps];exact ⟨_,_,rfl,D.rep_fr f0 hW (λ_ _ h=>h) _ _ (hr x),_,_,rfl,D.rep_fr f0 hW (λ_ _ h=>h) _ _ (hr y),rfl⟩)
 simp only [Array.append_empty];refine h.mono ?_;rintro e w' ⟨u,rfl,hf,hu⟩;simp only [D.rep] at hu;obtain ⟨q,os',he⟩:=hf.grow_eq;exact ⟨by rw [hu],q,os',he⟩
theorem D.flat_one {A w}:∀ {xs:List D} {cs:List Value},(∀ x∈xs,x.shape=none)→(D.flat A w 1 xs cs↔D.reps A w xs cs)
 | [],cs,_=>by simp only [D.flat,D.reps]
 | x::xs,cs,h=>by
  simp only [D.flat,D.reps];constructor
  ·rintro ⟨u,cs',rfl,hk,h1,h2⟩;have hc:=D.cells_of_one h1 (h x (by simp));refine ⟨u,cs',by rw [hc];rfl,h1,(D.flat_one λy hy=>h y (by simp [hy])).1 h2⟩
  ·rintro ⟨u,cs',rfl,h1,h2⟩;have hc:=D.cells_of_one h1 (h x (by simp));exact ⟨u,cs',by rw [hc];rfl,by rw [hc];rfl,h1,(D.flat_one λy hy=>h y (by simp [hy])).2 h2⟩
theorem D.reps_of_get {A w}:∀ {ds:List D} {vs:List Value},vs.length=ds.length→(∀ (i:Nat) (d:D) (v:Value),ds[i]? = some d→vs[i]? = some v→d.rep A w v)→D.reps A w ds vs
 | [],[],_,_=>by simp only [D.reps]
 | d::ds,v::vs,hl,h=>by
  simp only [D.reps];exact ⟨v,vs,rfl,h 0 d v rfl rfl,D.reps_of_get (by simpa using hl) λi d' v' h1 h2=>h (i+1) d' v' (by simpa using h1) (by simpa using h2)⟩
 | [],_::_,hl,_=>by simp at hl
 | _::_,[],hl,_=>by simp at hl
theorem mapBlock_setRow {w g f cur e fr} (hb:w.heap[g]? = some (.cells cur e fr)):mapBlock w g f=w.setRow g (f cur):=by
 unfold mapBlock World.setRow;congr 1;apply Array.ext_getElem?;intro i;simp only [Array.getElem?_modify];split
 ·rename_i h;subst h;simp [hb,onCells]
 ·rfl
theorem TriL.sort1 {P C ops o rest Q T H} {ρ:Ren} (L:SlLaysF.n6 P ρ) {α:Type} {F} {tys:Array TypeId} {x y el} {i n g:Nat} {enc:α→D} {l r:List α} {cmp:α→α→Option Int}
  (hF:ρ.f 6=F) (hg:o.guard=none) (ho:o.op = .call { callee:=.value (.func F),args:=#[x,y],argTypes:=tys }) (hd:dstOK o.dst C.n=true) (hc:callable P F=true) (hcg:callable P g=true)
  (hx:ev T x=some (.vec i n)) (hy:ev T y=some (.d (.fn (.func g) [] []))) (hi:H[i]? = some (.vec el 1 (l.map enc))) (hn:n=l.length) (h1:∀ x,(enc x).shape=none) (h2:∀ x,(enc x).ones=true) (hs:sortO cmp l=some r)
  (hp:∀ a b v,cmp a b=some v→Pure P g [enc a,enc b] (.int v))
  (kk:TriL P C ops rest Q ((⟨T,H.set i (.vec el 1 (r.map enc))⟩:St).put o.dst .junk)):TriL P C ops (o::rest) Q ⟨T,H⟩:=by
 subst hF;obtain ⟨hsome,hswo,hlen,rfl⟩:=sortO_some hs;refine ⟨λbs a w hR=>wpList_plain hg λK hK=>?_⟩;have hxr:=hR.ev hx;have hyr:=hR.ev hy;simp only [V.rep,hi] at hxr;simp only [V.rep,D.rep,D.reps] at hyr;obtain ⟨vs,us,hyv,hv0,hu0⟩:=hyr;have hv0:vs = #[]:=by simpa using hv0
 have hu0:us = #[]:=by simpa using hu0
 subst hv0 hu0;obtain ⟨cells,hown,hbs,hflat⟩:=hxr.2 (by simpa using hn);have hrun:(execOp a.eval o).run P w = .ok (.enter (ρ.f 6) #[a.eval x,a.eval y]) w:=by
  have hk:∀ k,a.eval (.func k) = .func (.func k) #[] #[]:=λ_=>rfl
  simp only [execOp,ho,resolve,hk,Deferred.ofValue,Sem.run_bind,Sem.run_pure,Result.andThen_ok,invoke];simpa using zb9 hc #[a.eval x,a.eval y] w
 have hR':∀ {w':World} {H':List Blk} {u:Value},R C bs ⟨T,H'⟩ a w'→R C bs ((⟨T,H'⟩:St).put o.dst .junk) (a.put o.dst u) w':=λh=>h.put (Fr.refl _ _) o.dst hd (v:=.junk) (by simp only [V.rep])
 refine Oper.wp_of_runs (K:=λu w'=>R C bs ⟨T,H.set i (.vec el 1 ((sortF (λx y=>(cmp x y).getD 0) l).map enc))⟩ a w') ?_ λu w' h=>hK _ _ (kk.run bs _ _ (hR' h))
 rw [hrun];simp only [OpRuns];have hshape:∀ (l:List α),∀ d∈l.map enc,d.shape=none:=λl d hd=>by
  obtain ⟨z,_,rfl⟩:=yN.1 hd;exact h1 z
 cases l with
 | nil=>
  have hset:H.set i (.vec el 1 ((sortF (λx y=>(cmp x y).getD 0) ([]:List α)).map enc))=H:=by
   refine uw λj=>?_
   by_cases hij:i=j
   ·subst hij;rw [yA (yc.1 hi).1,hi];rfl
   ·rw [yG hij]
  rw [hset];have hn0:n=0:=by simpa using hn
  subst hn0;have hxv:∃ p cap,a.eval x = .slice p 0 cap:=by
   rcases hown.2 with ⟨h,_⟩ | ⟨g',cap,cur,h,_⟩
   ·exact ⟨_,_,h⟩
   ·exact ⟨_,_,h⟩
  obtain ⟨p,cap,hxv⟩:=hxv;rw [hxv];refine (AnyF.slices_SortFunc_none { L with } p cap (a.eval y) w).mono ?_;rintro e w' ⟨rfl,rfl⟩;exact ⟨_,rfl,hR⟩
 | cons z zs=>
  obtain ⟨k,hk⟩:∃ k,k=zs.length:=⟨_,rfl⟩
  have hnk:n=k+1:=by rw [hn,hk];rfl
  obtain ⟨gb,cap,cur,hxv,_,hheap,hncap,hcapm,hcurs,htake⟩:=hown.2.resolve_left (λh=>by omega);have hob:bs[i]? = some (some gb):=by rw [hbs,hxv];rfl
  have hcl:cells.length=k+1:=by rw [hown.1,hnk];simp
  obtain ⟨vals,hvals⟩:∃ vals:Fin (k+1)→Value,∀ j:Fin (k+1),cells[j.val]? = some (vals j):=
   ⟨λj=>cells[j.val]'(by have:=j.isLt;omega),λj=>yu _⟩
  have hll:(z::zs).length=k+1:=by rw [hk];rfl
  obtain ⟨el',hel⟩:∃ el':Fin (k+1)→α,∀ j:Fin (k+1),(z::zs)[j.val]? = some (el' j):=
   ⟨λj=>(z::zs)[j.val]'(by have:=j.isLt;omega),λj=>yu _⟩
  have hreps:=(D.flat_one (hshape (z::zs))).1 hflat
  have hval:∀ j,(enc (el' j)).rep (Own C.A0 bs) w (vals j):=by
   intro j;obtain ⟨v,hv,hr⟩:=D.reps_get hreps j.val (enc (el' j)) (by rw [y8,hel j];rfl);rw [hvals j] at hv;cases hv;exact hr
  have hmem:∀ j,el' j∈z::zs:=λj=>yD (hel j)
  have hO:SWO (ltOf λp q:Fin (k+1)=>(cmp (el' p) (el' q)).getD 0):=swo_of hswo el' hmem;have hAlt:∀ b,Own C.A0 bs b→b<w.heap.size:=λb hb=>hb.elim (hR.own.foreign b) (hR.own.lt b)
  have hgb:Own C.A0 bs gb:=.inr (yD hob);have hcmp:CmpLays1 P g #[] vals (λp q:Fin (k+1)=>(cmp (el' p) (el' q)).getD 0) gb 0 (k+1) w:=cmp_of_pure hAlt hR.own.glob hgb hval λp q=>by
   obtain ⟨v,hv⟩:=Option.isSome_iff_exists.1 (hsome _ (hmem p) _ (hmem q));have:=hp _ _ _ hv;rw [hv];exact this
  have hone:OneCell vals:=λj=>D.flat_ones (λd hd=>by obtain ⟨q,_,rfl⟩:=yN.1 hd;exact h2 q) hflat _ (yD (hvals j))
  have eg:∀ args w,(callFunc g args).run P w = .ok (.enter g args) w:=λargs w=>zb9 hcg args w
  have hH:Holds vals w gb 0 (Array.ofFn (n:=k+1) id):=by
   intro j hj;have hj':j<k+1:=by simpa using hj
   refine ⟨?_,by simp [World.frozen?,hheap]⟩;rw [getElem!_pos _ j hj,uz,zak hheap];have h2:(cur.toList.take (n*1))[j]? = cells[j]?:=by rw [htake]
   rw [List.getElem?_take_of_lt (by omega)] at h2;rw [← uc,h2];have:=hvals ⟨j,hj'⟩;simpa using this
  have hcon:=Any.slices_SortFunc_eq L vals hone (λp q:Fin (k+1)=>(cmp (el' p) (el' q)).getD 0) hO g #[] gb 0 cap (Array.ofFn (n:=k+1) id) w eg (by simpa using hcmp) hH (yo.1 hheap).1 (by have:=hlen;rw [hll] at this;simpa using this);rw [hxv,hyv];have hsz:(Array.ofFn (n:=k+1) (id:Fin (k+1)→Fin (k+1))).size=k+1:=by simp
  rw [hsz] at hcon;rw [hnk];refine hcon.mono ?_;rintro e w' ⟨rfl,m,os,rfl⟩;refine ⟨_,rfl,?_⟩;change R C bs ⟨T,_⟩ a (sortWorld vals w gb 0 m (ze7 k λp q:Fin (k+1)=>(cmp (el' p) (el' q)).getD 0) os);have hsp:=sortIx_spec hO;obtain ⟨ix,hix⟩:∃ ix,ix=ze7 k λp q:Fin (k+1)=>(cmp (el' p) (el' q)).getD 0:=⟨_,rfl⟩
  rw [← hix] at hsp ⊢;have hres:sortF (λx y=>(cmp x y).getD 0) (z::zs)=ix.toList.map el':=by
   have hel':∀ (j:Fin (zs.length+1)),el' (j.cast (by rw [hk]))=(z::zs)[j.val]'(by simp):=λj=>by
    have:=hel (j.cast (by rw [hk]));rw [yu (by simp)] at this;simpa using this.symm
   subst hk;have hel2:el'=λj=>(z::zs)[j.val]'(by simp):=funext λj=>hel' j
   rw [hix,hel2];rfl
  rw [hres];have hnew:(putCells vals 0 ix cur).toList.take ((k+1)*1)=ix.toList.map vals:=by
   apply uw;intro j;have hcs:k+1≤cur.size:=by rw [hcurs];omega
   by_cases hj:j<k+1
   ·rw [List.getElem?_take_of_lt (by omega),uc];have hj2:j<ix.size:=by rw [hsp.1];exact hj
    simp [putCells,hj2,show j<cur.size by omega,getElem!_pos ix j hj2]
   ·rw [List.getElem?_take_eq_none (by omega),List.getElem?_eq_none (by simp [hsp.1];omega)]
  have hw1:sortWorld vals w gb 0 m ix os=grow (Sort.ahead (w.setRow gb (putCells vals 0 ix cur)) m) os:=by
   unfold sortWorld;rw [putRow_ahead];unfold putRow;rw [mapBlock_setRow hheap]
  rw [hw1];have hR1:R C bs ⟨T,H.set i (.vec el 1 ((ix.toList.map el').map enc))⟩ a (w.setRow gb (putCells vals 0 ix cur)):=by
   refine R.vecTurn (cur:=cur) hR hi hob hheap (by simp [putCells]) (by simp [hsp.1,hk]) ?_ (by simp);have e1:((z::zs).map enc).length*1=(k+1)*1:=by simp [hk]
   rw [e1,hnew];refine (D.flat_one (hshape _)).2 (D.reps_of_get (by simp) λj d v hd hv=>?_);simp only [y8,Option.map_eq_some_iff] at hd hv;obtain ⟨q,⟨p,hp1,rfl⟩,rfl⟩:=hd;obtain ⟨p',hp2,rfl⟩:=hv;rw [hp1] at hp2;cases hp2;exact hval p
  have hfr:Fr zf (w.setRow gb (putCells vals 0 ix cur)) (grow (Sort.ahead (w.setRow gb (putCells vals 0 ix cur)) m) os):=
   ⟨rfl,rfl,rfl,by simp [Sort.ahead],λb hb _=>by rw [heap_grow_old _ _ (by simpa [Sort.ahead] using hb)];rfl,Nat.le_add_right _ _⟩
  exact hR1.put hfr none rfl (v:=.junk) (u:=Go.undef) (by simp only [V.rep])
end
section
variable [Globs]
theorem TriI.to {P C ops fuel listed Q s} (listed') (e:listed=listed') (h:TriI P C ops fuel listed' Q s):TriI P C ops fuel listed Q s:=by subst e;exact h
theorem TriI.via {P C ops fuel listed Q s} (f l' s') (h:TriI P C ops f l' Q s') (k:TriI P C ops f l' Q s'→TriI P C ops fuel listed Q s):TriI P C ops fuel listed Q s:=k h
theorem TriI.keepT {P C ops fuel listed Q T K H} (ks) (hK:Looks T ks K) (h:TriI P C ops fuel listed Q ⟨K,H⟩):TriI P C ops fuel listed Q ⟨T,H⟩:=
 ⟨λbs a w hR=>h.run bs a w (hR.weaken hK.sub.look)⟩
theorem TriI.ge {P C ops fuel listed Q s t} (hl:s.ge t) (hgn:Nat.ble C.gn t.H.length=true) (h:TriI P C ops fuel listed Q t):TriI P C ops fuel listed Q s:=
 ⟨λ_ a w hR=>let ⟨bs',hR'⟩:=hR.ge hl hgn;h.run bs' a w hR'⟩
theorem TriL.ge {P C ops rest Q s t} (hl:s.ge t) (hgn:Nat.ble C.gn t.H.length=true) (h:TriL P C ops rest Q t):TriL P C ops rest Q s:=
 ⟨λ_ a w hR=>let ⟨bs',hR'⟩:=hR.ge hl hgn;h.run bs' a w hR'⟩
theorem TriI.cut {P C ops fuel listed Q T H'} (H) (hl:∃ X,H'=H++X) (h1:(H.all (Blk.under H.length))=true) (h2:(T.all λp=>p.2.under H.length)=true) (hT:Sub T T) (hgn:Nat.ble C.gn H.length=true)
  (h:TriI P C ops fuel listed Q ⟨T,H⟩):TriI P C ops fuel listed Q ⟨T,H'⟩:=
 .ge (t:=⟨T,H⟩) (let ⟨X,hX⟩:=hl;⟨X,hX,h1,h2,hT⟩) hgn h
theorem OneI.ofG {P C ops o s s'} (hd:zeV o=true) (hw:Wants C ops o s true) (h:TriL P C ops [{ o with guard:=none }] (After s') s):OneI P C ops o s s':=by
 refine ⟨λbs a w hR Q i K hi hK=>?_⟩;have h1:=h.run bs a w hR;have hw:=hw.run bs a w hR;unfold wpOpIn;simp only [hi,hw,if_true];unfold wpList at h1;have h0:Region.wanted { o with guard:=none } (yielded ops a.tmps)=true:=rfl;rw [if_pos h0] at h1;rcases h1 with h1 | ⟨_,a1,w1,h1⟩
 ·have h2:o.wp P a w (QR C (After s') .normal) (QR C (After s')):=h1;exact Oper.wpIn_wide (.inl rfl) (noDefer_spec hd) (Oper.wp_after hK h2)
 ·rcases h1 with ⟨bs',s1,⟨h,_⟩,hR⟩ | ⟨h,_⟩ <;> cases h
theorem OneI.no {P C ops o s} (hd:dstOK o.dst C.n=true) (hw:Wants C ops o s false):OneI P C ops o s (s.put o.dst .junk):=by
 refine ⟨λbs a w hR Q i K hi hK=>?_⟩;have hw:=hw.run bs a w hR;unfold wpOpIn;simp only [hi,hw];exact ⟨λ_ _=>trivial,hK _ _ ⟨bs,hR.put (Fr.refl _ _) o.dst hd (v:=.junk) (by simp only [V.rep])⟩⟩
theorem clone_pure {P f fn} {α:Type} {t el} {k bytes:Nat} {enc:α→D} {xs zs:List α} (hf:P.funcs[f]? = some fn) (hbody:fn.body=some (cloneCode t)) (hN:fn.ntmps=8) (hrs:fn.results = #[.tmp 2])
  (ht:zbT P t el k bytes=true) (hb:Nat.blt 0 bytes=true) (hones:∀ z,(enc z).ones=true) (hk:∀ x,(enc x).kOK k=true) (hv:Go.Proofs.YtcagdmegicijlaaGreatDoor.app bytes [] xs=some zs):Pure P f [.sl k (xs.map enc)] (.sl k (zs.map enc)):=by
 have hz:zs=xs:=by have:=(appS hv).1;simpa using this
 have htu:=(zcu ht).1;refine Pure.ot hf hbody hN rfl λA w=>?_
 rw [hrs];refine .seq (.region (.op rfl rfl (.assign rfl rfl) (.nil ?_)));refine .seq (.seq (.region (.op rfl rfl (.move rfl rfl) (.eqNil rfl rfl rfl htu rfl λb hxs=>.nil ?_))));refine .cond (t:=b) rfl (λhbt=>?_) (λ_=>.skip ?_)
 ·have hxs:=hxs hbt;have hxs:xs=[]:=by simpa using hxs
  subst hxs;subst hz;refine .seq (.region (.op rfl rfl (.assign rfl rfl) (.nil ?_)));refine .nilVec 2 k el rfl (.ret ?_);exact zb8 rfl (.vec rfl rfl)
 ·refine .seq (.region (.buildVec (α:=α) (enc:=enc) [] rfl rfl rfl rfl rfl ht rfl hk (by simp [Nat.ble_eq]) ?_));refine .op rfl rfl (.move rfl rfl) ?_;refine .app rfl rfl rfl rfl rfl rfl rfl rfl ht hb hones hv ?_;refine .op rfl rfl (.assign rfl rfl) (.nil ?_);refine .ret ?_;exact zb8 rfl (.vec rfl (by simp))
theorem OpV.makeFunc1 {P o e H g x d} (ho:o.op = .makeFunc (.func g) #[x] #[]) (hx:e x=some (.d d)):OpV P o e H (.d (.fn (.func g) [d] [])):=
 .of_same λA0 bs w f _ hf=>by
  have h1:=hf x (by simp [ho,Op.operands]) _ hx;refine ⟨.func (.func g) #[f x] #[],by simp [execOp,ho,Instr.makeFunc],?_⟩;simp only [V.rep,D.rep,D.reps] at h1 ⊢;exact ⟨#[f x],#[],rfl,⟨f x,[],rfl,h1,rfl⟩,rfl⟩
end
noncomputable section
def law22_example (n:Nat):Option Model:=
 some (⟨[],[(⟨[99],1,[],(⟨0,3⟩:Range),0⟩:Table)],[[99]],[(⟨0,0,(⟨[(⟨0,(-1)⟩:Term)],0⟩:Row),0,0⟩:Constraint),(⟨0,0,(⟨[(⟨0,1⟩:Term)],3⟩:Row),0,0⟩:Constraint)],[(⟨[116,119,111],false,[]⟩:Operation)],[(⟨0,[],(⟨[(⟨0,2⟩:Change)],[],[]⟩:Effect)⟩:Action)],[]⟩:Model)
def zW.l1 (n:Nat) (t0:List Int) (t1:Int→Option Bool) (b:Int→Option Int) (a:Int):Option Int:=
 if (decide (a<(t0.length:Int))) then
 (idx t0 a).bind λc=>
 (t1 c).bind λd=>
 if d then
 some a
 else
 b (add64 a 1)
 else
 some (-1)
def zW (n:Nat) (t0:List Int) (t1:Int→Option Bool):Option Int:=
 loopF (zW.l1 n t0 t1) n 0
def zw (n:Nat) (t0:List Int) (t1:Int→Option Bool):Option Bool:=
 (zW n t0 t1).bind λa=>
 some (decide (0≤a))
def zel (n:Nat) (t0:Int) (t1:Int) (t2:Int):Option Bool:=
 some ((decide (t1≤t0))&&(decide (t0≤t2)))
def zgf (n:Nat) (t0:Int):Option Bool:=
 (zel n t0 1 6).bind λa=>
 some (!a)
def zge (n:Nat) (t0:List Int):Option Bool:=
 (zw n t0 (λq0=>zgf n q0)).bind λa=>
 some (!a)
def zac.l1 (n:Nat) (t0:List Bool) (t1:Bool) (b:Int→Option Int) (a:Int):Option Int:=
 if (decide (a<(t0.length:Int))) then
 (idx t0 a).bind λc=>
 if (t1==c) then
 some a
 else
 b (add64 a 1)
 else
 some (-1)
def zac (n:Nat) (t0:List Bool) (t1:Bool):Option Int:=
 loopF (zac.l1 n t0 t1) n 0
def zb1 (n:Nat) (t0:List Bool) (t1:Bool):Option Bool:=
 (zac n t0 t1).bind λa=>
 some (decide (0≤a))
def zgP (n:Nat) (t0:List Bool):Option Bool:=
 (zb1 n t0 false).bind λa=>
 some (!a)
def zfq (n:Nat) (t0:List UInt8) (t1:Int→Option Bool):Option (List (List UInt8)):=
 none
def unicode_IsSpace (n:Nat) (t0:Int):Option Bool:=
 if (decide (wk .u32 t0≤255)) then
 jn (λ(b:Bool)=>
 if b then
 some true
 else
 some false) λa=>
 if (t0==9) then
 a (t0==9)
 else
 if (t0==10) then
 a (t0==10)
 else
 if (t0==11) then
 a (t0==11)
 else
 if (t0==12) then
 a (t0==12)
 else
 if (t0==13) then
 a (t0==13)
 else
 if (t0==32) then
 a (t0==32)
 else
 if (t0==133) then
 a (t0==133)
 else
 a (t0==160)
 else
 none
def zbf.l4 (n:Nat) (t0:List UInt8) (e:Int) (c:((List (List UInt8))×Int×Int×Int)→Option (List (List UInt8))) (b:List (List UInt8)) (d:Int→Option (List (List UInt8))) (a:Int):Option (List (List UInt8)):=
 grd (!(decide (a<(t0.length:Int)))||(sidx t0 a).isSome) <|
 grd (!(decide (a<(t0.length:Int)))||(idx tab0 ((sidx t0 a).getD default)).isSome) <|
 if ((decide (a<(t0.length:Int)))&&(((idx tab0 ((sidx t0 a).getD default)).getD default) != 0)) then
 d (add64 a 1)
 else
 c (b,add64 e 1,a,a)
def zbf.l3 (n:Nat) (t0:List UInt8) (e:((List (List UInt8))×Int×Int×Int)→Option (List (List UInt8))) (s:(List (List UInt8))×Int×Int×Int):Option (List (List UInt8)):=
 let a:=s.2.1
 let c:=s.2.2.1
 let b:=s.2.2.2
 if (decide (b<(t0.length:Int))) then
 (sidx t0 b).bind λj=>
 (idx tab0 j).bind λk=>
 if (k==0) then
 e (s.1,a,c,add64 b 1)
 else
 (cut t0 c b).bind λl=>
 (idx s.1 a).bind λo=>
 (sto s.1 a l).bind λh=>
 loopF (zbf.l4 n t0 a e h) n (add64 b 1)
 else
 jn (λ(f:(List (List UInt8)))=>
 some f) λd=>
 if (decide (c<(t0.length:Int))) then
 (cut t0 c (t0.length:Int)).bind λi=>
 (idx s.1 a).bind λm=>
 (sto s.1 a i).bind λg=>
 d g
 else
 d s.1
def zbf.l2 (n:Nat) (t0:List UInt8) (c:List (List UInt8)) (b:Int→Option (List (List UInt8))) (a:Int):Option (List (List UInt8)):=
 grd (!(decide (a<(t0.length:Int)))||(sidx t0 a).isSome) <|
 grd (!(decide (a<(t0.length:Int)))||(idx tab0 ((sidx t0 a).getD default)).isSome) <|
 if ((decide (a<(t0.length:Int)))&&(((idx tab0 ((sidx t0 a).getD default)).getD default) != 0)) then
 b (add64 a 1)
 else
 loopF (zbf.l3 n t0) n (c,0,a,a)
def zbf.l1 (n:Nat) (t0:List UInt8) (d:(Int×Int×Int×Int)→Option (List (List UInt8))) (s:Int×Int×Int×Int):Option (List (List UInt8)):=
 let a:=s.2.2.2
 if (decide (a<(t0.length:Int))) then
 (sidx t0 a).bind λb=>
 (idx tab0 b).bind λc=>
 d (add64 s.1 (band .i64 s.2.1 (bnot .i64 (wk .i64 c))),wk .i64 c,bor .u8 s.2.2.1 b,add64 a 1)
 else
 if (decide (128≤s.2.2.1)) then
 (zfq n t0 (λq0=>unicode_IsSpace n q0)).bind λe=>
 some e
 else
 (mkl 16 s.1 ([]:List UInt8)).bind λf=>
 loopF (zbf.l2 n t0 f) n 0
def zbf (n:Nat) (t0:List UInt8):Option (List (List UInt8)):=
 loopF (zbf.l1 n t0) n (0,1,0,0)
def zbP.l1 (n:Nat) (a:List (List UInt8)) (b:((GMap (List UInt8) Bool)×Int)→Option (GMap (List UInt8) Bool)) (s:(GMap (List UInt8) Bool)×Int):Option (GMap (List UInt8) Bool):=
 if (decide (s.2<(a.length:Int))) then
 (idx a s.2).bind λc=>
 b ((s.1.put c true),add64 s.2 1)
 else
 some s.1
def zbP (n:Nat):Option (GMap (List UInt8) Bool):=
 (zbf n [115,111,114,116,32,114,101,108,97,116,105,111,110,32,99,111,117,110,116,101,114,32,115,101,116,32,114,101,103,105,115,116,101,114,32,105,110,118,97,114,105,97,110,116,32,111,112,101,114,97,116,105,111,110,32,107,101,121,32,114,101,102,101,114,101,110,99,101,32,116,111,32,99,111,117,110,116,32,97,99,121,99,108,105,99,32,97,108,108,32,115,117,109,32,105,110,32,97,100,100,119,105,110,115,32,114,101,109,111,118,101,119,105,110,115,32,108,97,115,116,32,109,117,108,116,105,32,104,105,100,101,32,111,114,100,101,114,101,100,32,114,101,113,117,105,114,101,32,104,111,108,100,32,105,110,115,101,114,116,32,100,101,108,101,116,101,32,97,100,100,32,102,114,111,109,32,112,117,116,32,100,114,111,112,32,97,115,115,105,103,110,32,102,111,114,32,119,104,101,114,101,32,97,110,100,32,111,114,32,110,111,116]).bind λa=>
 loopF (zbP.l1 n a) n ((GMap.empty:GMap (List UInt8) Bool),0)
def zcc (n:Nat) (t0:Int):Option Bool:=
 some ((((t0==32)||(t0==9))||(t0==10))||(t0==13))
def zcR.l1 (n:Nat) (t0:List UInt8) (t1:Int→Option Bool) (b:Int→Option Int) (a:Int):Option Int:=
 grd (!(decide (a<(t0.length:Int)))||(sidx t0 a).isSome) <|
 grd (!(decide (a<(t0.length:Int)))||(t1 ((sidx t0 a).getD default)).isSome) <|
 if ((decide (a<(t0.length:Int)))&&((t1 ((sidx t0 a).getD default)).getD default)) then
 b (add64 a 1)
 else
 some a
def zcR (n:Nat) (t0:List UInt8) (t1:Int→Option Bool):Option Int:=
 loopF (zcR.l1 n t0 t1) n 0
def zg1 (n:Nat) (t0:Int):Option Bool:=
 some (t0 != 10)
def zc4.l1 (n:Nat) (t0:List UInt8) (b:Int→Option Int) (a:Int):Option Int:=
 if (decide (a<(t0.length:Int))) then
 (sidx t0 a).bind λc=>
 (zcc n c).bind λd=>
 if d then
 b (add64 a 1)
 else
 (sidx t0 a).bind λe=>
 if (e==35) then
 (cut t0 a (t0.length:Int)).bind λf=>
 (zcR n f (λq0=>zg1 n q0)).bind λg=>
 b (add64 a g)
 else
 some a
 else
 some a
def zc4 (n:Nat) (t0:List UInt8):Option Int:=
 loopF (zc4.l1 n t0) n 0
def zcQ (n:Nat) (t0:Int):Option Bool:=
 some ((decide (97≤t0))&&(decide (t0≤122)))
def zbq (n:Nat) (t0:Int):Option Bool:=
 some ((decide (48≤t0))&&(decide (t0≤57)))
def lexer_part (n:Nat) (t0:Int):Option Bool:=
 (zcQ n t0).bind λa=>
 grd (a||(zbq n t0).isSome) <|
 some ((a||((zbq n t0).getD default))||(t0==95))
def zbw (n:Nat) (t0:List UInt8) (t1:List UInt8):Option Bool:=
 grd (!(decide ((t1.length:Int)≤(t0.length:Int)))||(cut t0 0 (t1.length:Int)).isSome) <|
 some ((decide ((t1.length:Int)≤(t0.length:Int)))&&(decide (((cut t0 0 (t1.length:Int)).getD default)=t1)))
def zda (n:Nat) (t0:List UInt8) (t1:List UInt8):Option Bool:=
 (zbw n t0 t1).bind λa=>
 some a
def zbx (n:Nat) (t0:List UInt8) (t1:Int):Option Int:=
 some (Lib.indexByte t0 t1.toNat.toUInt8)
def zco (n:Nat) (t0:List UInt8) (t1:Int):Option Int:=
 (zbx n t0 t1).bind λa=>
 some a
def zbm.l1 (n:Nat) (t0:List UInt8) (b:Int→Option Int) (a:Int):Option Int:=
 if (decide (a<([[61,61],[33,61],[60,61],[62,61],[46,46]].length:Int))) then
 (idx [[61,61],[33,61],[60,61],[62,61],[46,46]] a).bind λd=>
 (zda n t0 d).bind λc=>
 if c then
 some 2
 else
 b (add64 a 1)
 else
 grd (!(!decide (t0=[]))||(sidx t0 0).isSome) <|
 grd (!(!decide (t0=[]))||(zco n [60,62,61,43,45,42,40,41,123,125,44,58,59] ((sidx t0 0).getD default)).isSome) <|
 if ((!decide (t0=[]))&&(decide (0≤((zco n [60,62,61,43,45,42,40,41,123,125,44,58,59] ((sidx t0 0).getD default)).getD default)))) then
 some 1
 else
 some 0
def zbm (n:Nat) (t0:List UInt8):Option Int:=
 loopF (zbm.l1 n t0) n 0
def zdC (n:Nat) (t0:List UInt8):Option Bool:=
 (sidx t0 0).bind λb=>
 (zcQ n b).bind λa=>
 grd (a||(sidx t0 0).isSome) <|
 grd (a||(zbq n ((sidx t0 0).getD default)).isSome) <|
 grd ((a||((zbq n ((sidx t0 0).getD default)).getD default))||(zbm n t0).isSome) <|
 some ((a||((zbq n ((sidx t0 0).getD default)).getD default))||(decide (0<((zbm n t0).getD default))))
def zaI.l2 (n:Nat) (a:List UInt8) (c:(Int×Int)→Option Token) (d:Int→Option Token) (b:Int):Option Token:=
 grd (!(decide (b<(a.length:Int)))||(sidx a b).isSome) <|
 grd (!(decide (b<(a.length:Int)))||(zcc n ((sidx a b).getD default)).isSome) <|
 grd (!((decide (b<(a.length:Int)))&&(!((zcc n ((sidx a b).getD default)).getD default)))||(sidx a b).isSome) <|
 grd (!(((decide (b<(a.length:Int)))&&(!((zcc n ((sidx a b).getD default)).getD default)))&&(((sidx a b).getD default) != 35))||(cut a b (a.length:Int)).isSome) <|
 grd (!(((decide (b<(a.length:Int)))&&(!((zcc n ((sidx a b).getD default)).getD default)))&&(((sidx a b).getD default) != 35))||(zdC n ((cut a b (a.length:Int)).getD default)).isSome) <|
 if ((((decide (b<(a.length:Int)))&&(!((zcc n ((sidx a b).getD default)).getD default)))&&(((sidx a b).getD default) != 35))&&(!((zdC n ((cut a b (a.length:Int)).getD default)).getD default))) then
 d (add64 b 1)
 else
 c (5,b)
def zaI.l1 (n:Nat) (t1:List UInt8) (t2:GMap (List UInt8) Bool) (p:Unit→Option Token) (s:Unit):Option Token:=
 (cut t1 0 (t1.length:Int)).bind λf=>
 (zc4 n f).bind λc=>
 (cut t1 (add64 0 c) (t1.length:Int)).bind λa=>
 jn (λ(e:Int×Int)=>
 some (⟨e.1,0,add64 0 c,add64 (add64 0 c) e.2⟩:Token)) λb=>
 if (decide (a=[])) then
 b (0,0)
 else
 (sidx a 0).bind λg=>
 (zcQ n g).bind λh=>
 if h then
 (zcR n a (λq0=>lexer_part n q0)).bind λd=>
 (cut a 0 d).bind λi=>
 if ((t2.get? i).getD false) then
 b (2,d)
 else
 b (1,d)
 else
 (sidx a 0).bind λj=>
 (zbq n j).bind λk=>
 if k then
 (zcR n a (λq0=>zbq n q0)).bind λl=>
 b (3,l)
 else
 (zbm n a).bind λm=>
 if (decide (0<m)) then
 (zbm n a).bind λo=>
 b (4,o)
 else
 loopF (zaI.l2 n a b) n 1
def zaI (n:Nat) (t1:List UInt8) (t2:GMap (List UInt8) Bool):Option Token:=
 loopF (zaI.l1 n t1 t2) n ()
def zeK (n:Nat) (t0:List UInt8):Option Int:=
 if ((decide (t0=[]))||(decide (4096<(t0.length:Int))))=true then some 0
 else
 (zbP n).bind λkw=>
 (zaI n t0 kw).bind λtok=>
 if (tok.at_ != 0||tok.end_ != (t0.length:Int))=true then some 0 else some tok.kind
def zfV (n:Nat) (t0:List UInt8):Option Bool:=
 grd (!(decide ((t0.length:Int)≤16))||(zeK n t0).isSome) <|
 some ((decide ((t0.length:Int)≤16))&&(((zeK n t0).getD default)==1))
def zcB (n:Nat) (t0:Int) (t1:List Int):Option Bool:=
 some ((decide (t0<0))||(decide ((t1.length:Int)≤t0)))
def zee (n:Nat) (t0:List Int) (t1:List Int):Option Bool:=
 grd (!(decide ((t1.length:Int)≤3))||(zw n t1 (λq0=>zcB n q0 t0)).isSome) <|
 some ((decide ((t1.length:Int)≤3))&&(!((zw n t1 (λq0=>zcB n q0 t0)).getD default)))
def zfe (n:Nat) (t0:Table):Option Bool:=
 jn (λ(b:Bool)=>
 if b then
 some (((decide (t0.range.lo≤t0.range.hi))&&(decide ((-9999)≤t0.range.lo)))&&(decide (t0.range.hi≤9999)))
 else
 some (decide ((t0.range:Range)=(⟨0,1⟩:Range)))) λa=>
 if (t0.kind==1) then
 a (t0.kind==1)
 else
 if (t0.kind==4) then
 a (t0.kind==4)
 else
 a (t0.kind==5)
def zca (n:Nat) (t0:Table):Option Bool:=
 some ((t0.kind==0)||(t0.kind==1))
def zbh.l1 (n:Nat) (t0:List Int) (t1:List Int) (a:(Int×Int)→Option Int) (s:Int×Int):Option Int:=
 if (decide (s.2<(t1.length:Int))) then
 (idx t1 s.2).bind λb=>
 (idx t0 b).bind λc=>
 a (mul64 s.1 c,add64 s.2 1)
 else
 some s.1
def zbh (n:Nat) (t0:List Int) (t1:List Int):Option Int:=
 loopF (zbh.l1 n t0 t1) n (1,0)
def zbS.l1 (n:Nat) (t0:List Int) (t1:List Table) (f:((GMap (List UInt8) Bool)×Int×Int×Int)→Option Bool) (s:(GMap (List UInt8) Bool)×Int×Int×Int):Option Bool:=
 let b:=s.2.2.1
 let d:=s.2.2.2
 if (decide (d<(t1.length:Int))) then
 jn (λ(c:(GMap (List UInt8) Bool)×Int×Int)=>
 f (c.1,c.2.1,c.2.2,add64 d 1)) λe=>
 (idx t1 d).bind λa=>
 (zfV n a.name).bind λg=>
 (zel n a.kind 0 5).bind λh=>
 (zee n t0 a.columns).bind λi=>
 (zfe n a).bind λj=>
 (zgP n [g,!((s.1.get? a.name).getD false),h,i,j]).bind λk=>
 if (!k) then
 some false
 else
 (zca n a).bind λl=>
 if l then
 if (a.first != s.2.1) then
 some false
 else
 (zbh n t0 a.columns).bind λm=>
 e ((s.1.put a.name true),add64 s.2.1 m,b)
 else
 if (a.first != b) then
 some false
 else
 (zbh n t0 a.columns).bind λo=>
 e ((s.1.put a.name true),s.2.1,add64 b o)
 else
 some ((decide (s.2.1≤128))&&(decide (b≤64)))
def zbS (n:Nat) (t0:List Int) (t1:List Table):Option Bool:=
 (zge n t0).bind λa=>
 (zgP n [decide ((t0.length:Int)≤4),decide ((t1.length:Int)≤12),a]).bind λb=>
 if (!b) then
 some false
 else
 loopF (zbS.l1 n t0 t1) n ((GMap.empty:GMap (List UInt8) Bool),0,0,0)
def zav.l1 (n:Nat) (t0:List (List UInt8)) (b:((GMap (List UInt8) Bool)×Int)→Option Bool) (s:(GMap (List UInt8) Bool)×Int):Option Bool:=
 if (decide (s.2<(t0.length:Int))) then
 (idx t0 s.2).bind λa=>
 (zfV n a).bind λc=>
 if ((!c)||((s.1.get? a).getD false)) then
 some false
 else
 b ((s.1.put a true),add64 s.2 1)
 else
 some true
def zav (n:Nat) (t0:List (List UInt8)):Option Bool:=
 loopF (zav.l1 n t0) n ((GMap.empty:GMap (List UInt8) Bool),0)
def zeT (n:Nat) (t0:Int) (t1:Int):Option (Int×Int):=
 (shrO .u64 t0 32).bind λa=>
 (shrO .u64 t1 32).bind λb=>
 (shrO .u64 (wk .u64 ((band .u64 t0 4294967295)*(band .u64 t1 4294967295))) 32).bind λc=>
 (shrO .u64 (wk .u64 ((wk .u64 (a*(band .u64 t1 4294967295)))+c)) 32).bind λd=>
 (shrO .u64 (wk .u64 ((band .u64 (wk .u64 ((wk .u64 (a*(band .u64 t1 4294967295)))+c)) 4294967295)+(wk .u64 ((band .u64 t0 4294967295)*b)))) 32).bind λe=>
 some (wk .u64 ((wk .u64 ((wk .u64 (a*b))+d))+e),wk .u64 (t0*t1))
def zeF (n:Nat) (t0:Int) (t1:Int):Option (Int×Int):=
 (zeT n t0 t1).bind λa=>
 some (a.1,a.2)
def zJ.l1 (n:Nat) (b:((List Range)×Int)→Option (List Range)) (s:(List Range)×Int):Option (List Range):=
 let a:=s.1
 if (decide (s.2<(a.length:Int))) then
 (cut a s.2 (a.length:Int)).bind λc=>
 (cut a 0 s.2).bind λd=>
 b ((zdb a s.2.toNat a.length ((a.drop 0).take (s.2.toNat - 0))),add64 s.2 (min (a.length - s.2.toNat) ((a.drop 0).take (s.2.toNat - 0)).length:Nat))
 else
 some a
def zJ (n:Nat) (t0:List Range) (t1:Int):Option (List Range):=
 if (decide (t1<0)) then
 none
 else
 (zeF n (wk .u64 (t0.length:Int)) (wk .u64 t1)).bind λa=>
 if ((decide (0<a.1))||(decide (9223372036854775807<a.2))) then
 none
 else
 (mkl 16 (wk .i64 a.2) (⟨0,0⟩:Range)).bind λb=>
 loopF (zJ.l1 n) n ((zdb b 0 b.length t0),(min (b.length - 0) t0.length:Nat))
def zbM.l1 (n:Nat) (t0:List Int) (t1:List Table) (t2:Bool) (d:((List Range)×Int)→Option (List Range)) (s:(List Range)×Int):Option (List Range):=
 if (decide (s.2<(t1.length:Int))) then
 jn (λ(c:(List Range))=>
 d (c,add64 s.2 1)) λb=>
 (idx t1 s.2).bind λa=>
 (zca n a).bind λe=>
 if (e==t2) then
 (zbh n t0 a.columns).bind λf=>
 (zJ n [a.range] f).bind λg=>
 (app 16 s.1 g).bind λh=>
 b h
 else
 b s.1
 else
 some s.1
def zbM (n:Nat) (t0:List Int) (t1:List Table) (t2:Bool):Option (List Range):=
 (zbS n t0 t1).bind λa=>
 if (!a) then
 some []
 else
 loopF (zbM.l1 n t0 t1 t2) n (([]:List Range),0)
def zas (n:Nat) (t0:Int) (t1:Int):Option Bool:=
 some ((decide (0≤t0))&&(decide (t0<t1)))
def zaJ (n:Nat) (t0:Int) (t1:Int):Option Bool:=
 some ((decide (neg64 t1≤t0))&&(decide (t0≤t1)))
def zaF.l1 (n:Nat) (t0:Judge) (t1:Row) (b:(Int×Int)→Option Bool) (s:Int×Int):Option Bool:=
 if (decide (s.2<(t1.terms.length:Int))) then
 (idx t1.terms s.2).bind λa=>
 grd ((((decide (a.cell≤s.1))||(decide ((t0.strict.length:Int)≤a.cell)))||(a.factor==0))||(zaJ n a.factor 1000).isSome) <|
 if ((((decide (a.cell≤s.1))||(decide ((t0.strict.length:Int)≤a.cell)))||(a.factor==0))||(!((zaJ n a.factor 1000).getD default))) then
 some false
 else
 b (a.cell,add64 s.2 1)
 else
 (zaJ n t1.bound 1000000000).bind λc=>
 some c
def zaF (n:Nat) (t0:Judge) (t1:Row):Option Bool:=
 loopF (zaF.l1 n t0 t1) n ((-1),0)
def zbr (n:Nat) (t0:Table) (t1:Constraint) (t2:Judge):Option Bool:=
 grd (!((t0.kind==0)&&((t0.columns.length:Int)==2))||(idx t0.columns 0).isSome) <|
 grd (!((t0.kind==0)&&((t0.columns.length:Int)==2))||(idx t0.columns 1).isSome) <|
 grd (!((((t0.kind==0)&&((t0.columns.length:Int)==2))&&(((idx t0.columns 0).getD default)==((idx t0.columns 1).getD default)))&&(t0.first==t1.first))||(idx t0.columns 0).isSome) <|
 grd (!((((t0.kind==0)&&((t0.columns.length:Int)==2))&&(((idx t0.columns 0).getD default)==((idx t0.columns 1).getD default)))&&(t0.first==t1.first))||(idx t2.model.sorts ((idx t0.columns 0).getD default)).isSome) <|
 some (((((t0.kind==0)&&((t0.columns.length:Int)==2))&&(((idx t0.columns 0).getD default)==((idx t0.columns 1).getD default)))&&(t0.first==t1.first))&&(((idx t2.model.sorts ((idx t0.columns 0).getD default)).getD default)==t1.size))
def zx.l1 (n:Nat) (t0:List Table) (t1:Table→Option Bool) (b:Int→Option Int) (a:Int):Option Int:=
 if (decide (a<(t0.length:Int))) then
 (idx t0 a).bind λc=>
 (t1 c).bind λd=>
 if d then
 some a
 else
 b (add64 a 1)
 else
 some (-1)
def zx (n:Nat) (t0:List Table) (t1:Table→Option Bool):Option Int:=
 loopF (zx.l1 n t0 t1) n 0
def zN (n:Nat) (t0:List Table) (t1:Table→Option Bool):Option Bool:=
 (zx n t0 t1).bind λa=>
 some (decide (0≤a))
def zbQ (n:Nat) (t0:Judge) (t1:Constraint):Option Bool:=
 grd (!(((t1.row.terms.length:Int)==0)&&(t1.row.bound==0))||(zN n t0.model.tables (λq0=>zbr n q0 t1 t0)).isSome) <|
 some ((((t1.row.terms.length:Int)==0)&&(t1.row.bound==0))&&((zN n t0.model.tables (λq0=>zbr n q0 t1 t0)).getD default))
def zM.l1 (n:Nat) (t0:List Term) (t1:List Term) (b:Int→Option Bool) (a:Int):Option Bool:=
 if (decide (a<(t0.length:Int))) then
 (idx t0 a).bind λc=>
 (idx t1 a).bind λd=>
 if (!decide ((c:Term)=d)) then
 some false
 else
 b (add64 a 1)
 else
 some true
def zM (n:Nat) (t0:List Term) (t1:List Term):Option Bool:=
 if ((t0.length:Int) != (t1.length:Int)) then
 some false
 else
 loopF (zM.l1 n t0 t1) n 0
def zdD (n:Nat) (t0:Row) (t1:Int) (t2:Int) (t3:Int):Option Bool:=
 (zM n t0.terms [(⟨t1,t2⟩:Term)]).bind λa=>
 some (a&&(t0.bound==t3))
def zab.l1 (n:Nat) (t0:Judge) (h:Int→Option Bool) (b:Int):Option Bool:=
 if (decide (b<(t0.model.constraints.length:Int))) then
 jn (λ(m:Unit)=>
 h (add64 b 1)) λd=>
 (idx t0.model.constraints b).bind λa=>
 jn (λ(o:Unit)=>
 (quo64 b 2).bind λj=>
 if (decide (j<(t0.strict.length:Int))) then
 (quo64 b 2).bind λk=>
 (idx t0.strict k).bind λg=>
 jn (λ(c:Int×Int)=>
 grd ((a.kind != 0)||(quo64 b 2).isSome) <|
 grd ((a.kind != 0)||(zdD n a.row ((quo64 b 2).getD default) c.1 c.2).isSome) <|
 if ((a.kind != 0)||(!((zdD n a.row ((quo64 b 2).getD default) c.1 c.2).getD default))) then
 some false
 else
 d ()) λf=>
 (rem64 b 2).bind λl=>
 if (l==0) then
 f ((-1),neg64 g.lo)
 else
 f (1,g.hi)
 else
 d ()) λe=>
 (zas n a.family (t0.model.families.length:Int)).bind λi=>
 if (!i) then
 some false
 else
 if (a.kind==0) then
 grd (((a.first != 0)||(a.size != 0))||(zaF n t0 a.row).isSome) <|
 if (((a.first != 0)||(a.size != 0))||(!((zaF n t0 a.row).getD default))) then
 some false
 else
 e ()
 else
 grd ((a.kind != 1)||(zbQ n t0 a).isSome) <|
 if ((a.kind != 1)||(!((zbQ n t0 a).getD default))) then
 some false
 else
 e ()
 else
 some true
def zab (n:Nat) (t0:Judge):Option Bool:=
 if ((decide (512<(t0.model.constraints.length:Int)))||(decide ((t0.model.constraints.length:Int)<mul64 2 (t0.strict.length:Int)))) then
 some false
 else
 loopF (zab.l1 n t0) n 0
def zba (n:Nat) (t0:Int) (t1:Judge):Option Bool:=
 some ((decide (t0<(-1)))||(decide ((t1.model.sorts.length:Int)≤t0)))
def zF.l1 (n:Nat) (t0:Judge) (b:((List (List UInt8))×Int)→Option Bool) (s:(List (List UInt8))×Int):Option Bool:=
 if (decide (s.2<(t0.model.operations.length:Int))) then
 (idx t0.model.operations s.2).bind λa=>
 (app 16 s.1 [a.name]).bind λc=>
 grd ((decide (3<(a.sorts.length:Int)))||(zw n a.sorts (λq0=>zba n q0 t0)).isSome) <|
 if ((decide (3<(a.sorts.length:Int)))||((zw n a.sorts (λq0=>zba n q0 t0)).getD default)) then
 some false
 else
 b (c,add64 s.2 1)
 else
 grd (!(decide ((s.1.length:Int)≤8))||(zav n s.1).isSome) <|
 some ((decide ((s.1.length:Int)≤8))&&((zav n s.1).getD default))
def zF (n:Nat) (t0:Judge):Option Bool:=
 loopF (zF.l1 n t0) n (([]:List (List UInt8)),0)
def zdJ (n:Nat) (t0:Int):Option Bool:=
 some (t0 != t0)
def zci (n:Nat) (t0:Int) (t1:Int):Option Int:=
 (zdJ n t0).bind λb=>
 (zdJ n t1).bind λa=>
 if b then
 if a then
 some 0
 else
 some (-1)
 else
 if a then
 some 1
 else
 if (decide (t0<t1)) then
 some (-1)
 else
 if (decide (t1<t0)) then
 some 1
 else
 some 0
def zl.l1 (n:Nat) (t0:List Int) (t1:List Int) (c:Int→Option Int) (a:Int):Option Int:=
 if (decide (a<(t0.length:Int))) then
 (idx t0 a).bind λd=>
 if (decide ((t1.length:Int)≤a)) then
 some 1
 else
 (idx t1 a).bind λe=>
 (zci n d e).bind λb=>
 if (b != 0) then
 some b
 else
 c (add64 a 1)
 else
 if (decide ((t0.length:Int)<(t1.length:Int))) then
 some (-1)
 else
 some 0
def zl (n:Nat) (t0:List Int) (t1:List Int):Option Int:=
 loopF (zl.l1 n t0 t1) n 0
def zbg.l2 (n:Nat) (t0:List Int) (e:Int) (f:Table) (d:((List Int)×Int×Int)→Option (Int×(List Int)×Bool)) (s:(List Int)×Int×Int):Option (Int×(List Int)×Bool):=
 let a:=s.2.2
 if (decide (0≤a)) then
 (idx f.columns a).bind λg=>
 (idx t0 g).bind λb=>
 (rem64 s.2.1 b).bind λh=>
 (quo64 s.2.1 b).bind λi=>
 (idx s.1 a).bind λj=>
 (sto s.1 a h).bind λc=>
 d (c,i,sub64 a 1)
 else
 some (e,s.1,true)
def zbg.l1 (n:Nat) (t0:List Int) (t1:List Table) (t2:Bool) (t3:Int) (e:Int→Option (Int×(List Int)×Bool)) (b:Int):Option (Int×(List Int)×Bool):=
 if (decide (b<(t1.length:Int))) then
 (idx t1 b).bind λa=>
 (zca n a).bind λc=>
 grd (((c != t2)||(decide (sub64 t3 a.first<0)))||(zbh n t0 a.columns).isSome) <|
 if (((c != t2)||(decide (sub64 t3 a.first<0)))||(decide (((zbh n t0 a.columns).getD default)≤sub64 t3 a.first))) then
 e (add64 b 1)
 else
 (mkl 8 (a.columns.length:Int) (0:Int)).bind λd=>
 loopF (zbg.l2 n t0 b a) n (d,sub64 t3 a.first,sub64 (d.length:Int) 1)
 else
 some (0,[],false)
def zbg (n:Nat) (t0:List Int) (t1:List Table) (t2:Bool) (t3:Int):Option (Int×(List Int)×Bool):=
 (zbS n t0 t1).bind λa=>
 if ((!a)||(decide (t3<0))) then
 some (0,[],false)
 else
 loopF (zbg.l1 n t0 t1 t2 t3) n 0
def zbD (n:Nat) (t0:Judge) (t1:Update):Option Bool:=
 (zbg n t0.model.sorts t0.model.tables false t1.cell).bind λc=>
 if (!c.2.2) then
 some false
 else
 (idx t0.model.tables c.1).bind λa=>
 jn (λ(d:Bool)=>
 if d then
 some (((t1.kind==0)||(t1.kind==1))&&(t1.value==0))
 else
 some (((t1.kind==2)&&(decide (a.range.lo≤t1.value)))&&(decide (t1.value≤a.range.hi)))) λb=>
 if (a.kind==2) then
 b (a.kind==2)
 else
 b (a.kind==3)
def zbk (n:Nat) (t0:Row) (t1:Judge):Option Bool:=
 (zaF n t1 t0).bind λa=>
 some (!a)
def zH.l1 (n:Nat) (t0:List Row) (t1:Row→Option Bool) (b:Int→Option Int) (a:Int):Option Int:=
 if (decide (a<(t0.length:Int))) then
 (idx t0 a).bind λc=>
 (t1 c).bind λd=>
 if d then
 some a
 else
 b (add64 a 1)
 else
 some (-1)
def zH (n:Nat) (t0:List Row) (t1:Row→Option Bool):Option Int:=
 loopF (zH.l1 n t0 t1) n 0
def zo (n:Nat) (t0:List Row) (t1:Row→Option Bool):Option Bool:=
 (zH n t0 t1).bind λa=>
 some (decide (0≤a))
def zK.l2 (n:Nat) (t0:Judge) (t1:Effect) (b:(Int×Int)→Option Bool) (s:Int×Int):Option Bool:=
 if (decide (s.2<(t1.updates.length:Int))) then
 (idx t1.updates s.2).bind λa=>
 grd ((decide (a.cell≤s.1))||(zbD n t0 a).isSome) <|
 if ((decide (a.cell≤s.1))||(!((zbD n t0 a).getD default))) then
 some false
 else
 b (a.cell,add64 s.2 1)
 else
 grd (!((decide ((t1.hold.length:Int)≤8))&&(decide ((t1.updates.length:Int)≤32)))||(zo n t1.hold (λq0=>zbk n q0 t0)).isSome) <|
 some (((decide ((t1.hold.length:Int)≤8))&&(decide ((t1.updates.length:Int)≤32)))&&(!((zo n t1.hold (λq0=>zbk n q0 t0)).getD default)))
def zK.l1 (n:Nat) (t0:Judge) (t1:Effect) (b:(Int×Int)→Option Bool) (s:Int×Int):Option Bool:=
 if (decide (s.2<(t1.delta.length:Int))) then
 (idx t1.delta s.2).bind λa=>
 grd ((((decide (a.cell≤s.1))||(decide ((t0.strict.length:Int)≤a.cell)))||(a.add==0))||(zaJ n a.add 1000000000).isSome) <|
 if ((((decide (a.cell≤s.1))||(decide ((t0.strict.length:Int)≤a.cell)))||(a.add==0))||(!((zaJ n a.add 1000000000).getD default))) then
 some false
 else
 b (a.cell,add64 s.2 1)
 else
 loopF (zK.l2 n t0 t1) n ((-1),0)
def zK (n:Nat) (t0:Judge) (t1:Effect):Option Bool:=
 loopF (zK.l1 n t0 t1) n ((-1),0)
def zy.l2 (n:Nat) (t0:Judge) (f:Int) (j:Int→Option Bool) (b:Action) (h:Operation) (i:Int→Option Bool) (e:Int):Option Bool:=
 if (decide (e<(h.sorts.length:Int))) then
 (idx h.sorts e).bind λa=>
 (idx b.arguments e).bind λc=>
 grd (!(decide (a<0))||(zaJ n c 9999).isSome) <|
 grd (((decide (a<0))&&(!((zaJ n c 9999).getD default)))||(!(decide (0≤a))||(idx t0.model.sorts a).isSome)) <|
 grd (((decide (a<0))&&(!((zaJ n c 9999).getD default)))||(!(decide (0≤a))||(zas n c ((idx t0.model.sorts a).getD default)).isSome)) <|
 if (((decide (a<0))&&(!((zaJ n c 9999).getD default)))||((decide (0≤a))&&(!((zas n c ((idx t0.model.sorts a).getD default)).getD default)))) then
 some false
 else
 i (add64 e 1)
 else
 jn (λ(l:Unit)=>
 (zK n t0 b.effect).bind λk=>
 if (!k) then
 some false
 else
 j (add64 f 1)) λg=>
 if (decide (0<f)) then
 (idx t0.model.actions (sub64 f 1)).bind λd=>
 grd ((decide (b.operation<d.operation))||(!(d.operation==b.operation)||(zl n d.arguments b.arguments).isSome)) <|
 if ((decide (b.operation<d.operation))||((d.operation==b.operation)&&(decide (0≤((zl n d.arguments b.arguments).getD default))))) then
 some false
 else
 g ()
 else
 g ()
def zy.l1 (n:Nat) (t0:Judge) (d:Int→Option Bool) (b:Int):Option Bool:=
 if (decide (b<(t0.model.actions.length:Int))) then
 (idx t0.model.actions b).bind λa=>
 (zas n a.operation (t0.model.operations.length:Int)).bind λc=>
 grd ((!c)||(idx t0.model.operations a.operation).isSome) <|
 if ((!c)||((a.arguments.length:Int) != ((((idx t0.model.operations a.operation).getD default).sorts).length:Int))) then
 some false
 else
 (idx t0.model.operations a.operation).bind λe=>
 loopF (zy.l2 n t0 b d a e) n 0
 else
 some true
def zy (n:Nat) (t0:Judge):Option Bool:=
 if (decide (256<(t0.model.actions.length:Int))) then
 some false
 else
 loopF (zy.l1 n t0) n 0
def zde (n:Nat) (t0:Hide) (t1:Int) (t2:GMap Int Bool):Option Bool:=
 some ((t0.table==t1)&&((t2.get? t0.to).getD false))
def zB.l1 (n:Nat) (t0:List Hide) (t1:Hide→Option Bool) (b:Int→Option Int) (a:Int):Option Int:=
 if (decide (a<(t0.length:Int))) then
 (idx t0 a).bind λc=>
 (t1 c).bind λd=>
 if d then
 some a
 else
 b (add64 a 1)
 else
 some (-1)
def zB (n:Nat) (t0:List Hide) (t1:Hide→Option Bool):Option Int:=
 loopF (zB.l1 n t0 t1) n 0
def zaH (n:Nat) (t0:List Hide) (t1:Hide→Option Bool):Option Bool:=
 (zB n t0 t1).bind λa=>
 some (decide (0≤a))
def ze.l4 (n:Nat) (t0:Judge) (c:GMap Int Bool) (e:Int) (d:((GMap Int Bool)×Int)→Option Bool) (b:((GMap Int Bool)×(List Nat)×Nat)→Option Bool) (s:(GMap Int Bool)×(List Nat)×Nat):Option Bool:=
 stepM s.1 s.2.1 c.clock s.2.2 (
 d (s.1,add64 e 1)) λa=>
 grd (decide (s.1.es.map (·.1)).Nodup) <|
 (zaH n t0.model.hides (λq0=>zde n q0 a.2.1 s.1)).bind λf=>
 if (!f) then
 b ((s.1.del a.2.1),s.2.1++[a.1],s.1.clock)
 else
 b (s.1,s.2.1++[a.1],s.1.clock)
def ze.l3 (n:Nat) (t0:Judge) (a:((GMap Int Bool)×Int)→Option Bool) (s:(GMap Int Bool)×Int):Option Bool:=
 if (decide (s.2<(t0.model.hides.length:Int))) then
 loopF (ze.l4 n t0 s.1 s.2 a) n (s.1,([]:List Nat),s.1.clock)
 else
 some ((s.1.es.length:Int)==0)
def ze.l2 (n:Nat) (t0:Judge) (a:((GMap Int Bool)×Int)→Option Bool) (s:(GMap Int Bool)×Int):Option Bool:=
 if (decide (s.2<(t0.model.hides.length:Int))) then
 (idx t0.model.hides s.2).bind λb=>
 a ((s.1.put b.table true),add64 s.2 1)
 else
 loopF (ze.l3 n t0) n (s.1,0)
def ze.l1 (n:Nat) (t0:Judge) (f:Int→Option Bool) (d:Int):Option Bool:=
 if (decide (d<(t0.model.hides.length:Int))) then
 (idx t0.model.hides d).bind λa=>
 (zas n a.table (t0.model.tables.length:Int)).bind λe=>
 grd ((!e)||(zas n a.to (t0.model.tables.length:Int)).isSome) <|
 if (((!e)||(!((zas n a.to (t0.model.tables.length:Int)).getD default)))||(a.table==a.to)) then
 some false
 else
 (idx t0.model.tables a.table).bind λb=>
 (idx t0.model.tables a.to).bind λc=>
 grd (((b.kind != 0)||(c.kind != 0))||(zas n a.column (b.columns.length:Int)).isSome) <|
 grd (((((b.kind != 0)||(c.kind != 0))||(!((zas n a.column (b.columns.length:Int)).getD default)))||((c.columns.length:Int) != 1))||(idx c.columns 0).isSome) <|
 grd (((((b.kind != 0)||(c.kind != 0))||(!((zas n a.column (b.columns.length:Int)).getD default)))||((c.columns.length:Int) != 1))||(idx b.columns a.column).isSome) <|
 if (((((b.kind != 0)||(c.kind != 0))||(!((zas n a.column (b.columns.length:Int)).getD default)))||((c.columns.length:Int) != 1))||(((idx c.columns 0).getD default) != ((idx b.columns a.column).getD default))) then
 some false
 else
 f (add64 d 1)
 else
 loopF (ze.l2 n t0) n ((GMap.empty:GMap Int Bool),0)
def ze (n:Nat) (t0:Judge):Option Bool:=
 if (decide (12<(t0.model.hides.length:Int))) then
 some false
 else
 loopF (ze.l1 n t0) n 0
def zdw (n:Nat) (t0:Model):Option Bool:=
 (zbS n t0.sorts t0.tables).bind λc=>
 grd (((!c)||(decide (24<(t0.families.length:Int))))||(zav n t0.families).isSome) <|
 if (((!c)||(decide (24<(t0.families.length:Int))))||(!((zav n t0.families).getD default))) then
 some false
 else
 (zbM n t0.sorts t0.tables true).bind λa=>
 (zab n (⟨t0,a⟩:Judge)).bind λb=>
 grd (!b||(zF n (⟨t0,a⟩:Judge)).isSome) <|
 grd (!(b&&((zF n (⟨t0,a⟩:Judge)).getD default))||(zy n (⟨t0,a⟩:Judge)).isSome) <|
 grd (!((b&&((zF n (⟨t0,a⟩:Judge)).getD default))&&((zy n (⟨t0,a⟩:Judge)).getD default))||(ze n (⟨t0,a⟩:Judge)).isSome) <|
 some (((b&&((zF n (⟨t0,a⟩:Judge)).getD default))&&((zy n (⟨t0,a⟩:Judge)).getD default))&&((ze n (⟨t0,a⟩:Judge)).getD default))
def zn.l5 (n:Nat) (a:Int) (f:((List Place)×(List Place)×Int)→Option ((Option Layout)×Bool)) (h:Table) (e:List (List Int)) (g:((List Place)×(List Place)×Int)→Option ((Option Layout)×Bool)) (s:(List Place)×(List Place)×Int):Option ((Option Layout)×Bool):=
 if (decide (s.2.2<(e.length:Int))) then
 jn (λ(b:(List Place)×(List Place))=>
 g (b.1,b.2,add64 s.2.2 1)) λc=>
 (idx e s.2.2).bind λd=>
 if (decide (h.kind≤1)) then
 (app 32 s.1 [(⟨a,d⟩:Place)]).bind λi=>
 c (i,s.2.1)
 else
 (app 32 s.2.1 [(⟨a,d⟩:Place)]).bind λj=>
 c (s.1,j)
 else
 f (s.1,s.2.1,add64 a 1)
def zn.l4 (n:Nat) (c:Int) (a:((List (List Int))×Int)→Option ((Option Layout)×Bool)) (d:List Int) (e:Int) (b:((List (List Int))×Int)→Option ((Option Layout)×Bool)) (s:(List (List Int))×Int):Option ((Option Layout)×Bool):=
 if (decide (s.2<e)) then
 (app 8 [] d).bind λf=>
 (app 8 f [s.2]).bind λg=>
 (app 24 s.1 [g]).bind λh=>
 b (h,add64 s.2 1)
 else
 a (s.1,add64 c 1)
def zn.l3 (n:Nat) (t0:Model) (a:List (List Int)) (d:Int) (b:((List (List Int))×Int)→Option ((Option Layout)×Bool)) (e:Int) (c:((List (List Int))×Int)→Option ((Option Layout)×Bool)) (s:(List (List Int))×Int):Option ((Option Layout)×Bool):=
 if (decide (s.2<(a.length:Int))) then
 (idx a s.2).bind λf=>
 (idx t0.sorts e).bind λg=>
 loopF (zn.l4 n s.2 c f g) n (s.1,0)
 else
 b (s.1,add64 d 1)
def zn.l2 (n:Nat) (t0:Model) (b:List Place) (c:List Place) (f:Int) (d:((List Place)×(List Place)×Int)→Option ((Option Layout)×Bool)) (a:Table) (e:((List (List Int))×Int)→Option ((Option Layout)×Bool)) (s:(List (List Int))×Int):Option ((Option Layout)×Bool):=
 if (decide (s.2<(a.columns.length:Int))) then
 (idx a.columns s.2).bind λg=>
 loopF (zn.l3 n t0 s.1 s.2 e g) n (([]:List (List Int)),0)
 else
 loopF (zn.l5 n f d a s.1) n (b,c,0)
def zn.l1 (n:Nat) (t0:Model) (a:((List Place)×(List Place)×Int)→Option ((Option Layout)×Bool)) (s:(List Place)×(List Place)×Int):Option ((Option Layout)×Bool):=
 if (decide (s.2.2<(t0.tables.length:Int))) then
 (idx t0.tables s.2.2).bind λb=>
 loopF (zn.l2 n t0 s.1 s.2.1 s.2.2 a b) n ([[]],0)
 else
 some (some ((⟨t0,s.1,s.2.1⟩:Layout)),true)
def zn (n:Nat) (t0:Model):Option ((Option Layout)×Bool):=
 (zdw n t0).bind λa=>
 if (!a) then
 some (none,false)
 else
 loopF (zn.l1 n t0) n (([]:List Place),([]:List Place),0)
def zbz (n:Nat) (t0:Layout) (t1:Question):Option Bool:=
 if (((((decide (t1.e<0))||(decide (t1.f<0)))||(decide ((t0.m.actions.length:Int)≤t1.e)))||(decide ((t0.m.actions.length:Int)≤t1.f)))||(decide (t1.target.index<0))) then
 some false
 else
 if t1.target.hold then
 (idx t0.m.actions t1.e).bind λa=>
 some (decide (t1.target.index<(a.effect.hold.length:Int)))
 else
 some ((decide (t1.e≤t1.f))&&(decide (t1.target.index<(t0.m.constraints.length:Int))))
def zdl (n:Nat) (t0:Model) (t1:Question):Option Bool:=
 (zn n t0).bind λa=>
 grd (!a.2||(a.1).isSome) <|
 grd (!a.2||(zbz n ((a.1).getD default) t1).isSome) <|
 some (a.2&&((zbz n ((a.1).getD default) t1).getD default))
def model_ranges (n:Nat) (t0:Model) (t1:Bool):Option (List Range):=
 (zdw n t0).bind λb=>
 if (!b) then
 some []
 else
 (zbM n t0.sorts t0.tables t1).bind λa=>
 some a
def zfh (n:Nat) (t0:Model):Option (List Range):=
 (model_ranges n t0 true).bind λa=>
 some a
def zG.l1 (n:Nat) (t0:Action) (t1:Int) (c:Int→Option Int) (a:Int):Option Int:=
 if (decide (a<(t0.effect.delta.length:Int))) then
 (idx t0.effect.delta a).bind λb=>
 if (b.cell==t1) then
 some b.add
 else
 c (add64 a 1)
 else
 some 0
def zG (n:Nat) (t0:Action) (t1:Int):Option Int:=
 loopF (zG.l1 n t0 t1) n 0
def zq.l1 (n:Nat) (t0:Action) (t1:Row) (b:(Int×Int)→Option Int) (s:Int×Int):Option Int:=
 if (decide (s.2<(t1.terms.length:Int))) then
 (idx t1.terms s.2).bind λa=>
 (zG n t0 a.cell).bind λc=>
 b (add64 s.1 (mul64 a.factor c),add64 s.2 1)
 else
 some s.1
def zq (n:Nat) (t0:Action) (t1:Row):Option Int:=
 loopF (zq.l1 n t0 t1) n (0,0)
def zap.l1 (n:Nat) (t0:List Int) (t1:Int) (b:Int→Option Int) (a:Int):Option Int:=
 if (decide (a<(t0.length:Int))) then
 (idx t0 a).bind λc=>
 if (t1==c) then
 some a
 else
 b (add64 a 1)
 else
 some (-1)
def zap (n:Nat) (t0:List Int) (t1:Int):Option Int:=
 loopF (zap.l1 n t0 t1) n 0
def zaN (n:Nat) (t0:List Int) (t1:Int):Option Bool:=
 (zap n t0 t1).bind λa=>
 some (decide (0≤a))
def zev (n:Nat) (t0:Int) (t1:Int):Option Int:=
 some (sub64 t0 t1)
def zQ.l1 (n:Nat) (t0:Row) (t1:Int→Option Int) (c:Int) (b:((List Term)×Int)→Option Row) (s:(List Term)×Int):Option Row:=
 if (decide (s.2<(t0.terms.length:Int))) then
 (idx t0.terms s.2).bind λa=>
 (t1 a.factor).bind λd=>
 (app 16 s.1 [(⟨a.cell,d⟩:Term)]).bind λe=>
 b (e,add64 s.2 1)
 else
 some (⟨s.1,c⟩:Row)
def zQ (n:Nat) (t0:Row) (t1:Int→Option Int) (t2:Int→Option Int):Option Row:=
 (t2 t0.bound).bind λa=>
 loopF (zQ.l1 n t0 t1 a) n (([]:List Term),0)
def zbt (n:Nat) (t0:Int):Option Int:=
 some t0
def zaX (n:Nat) (t0:Int) (t1:Int):Option Int:=
 some (sub64 (add64 (neg64 t0) t1) 1)
def zbp (n:Nat) (t0:Int):Option Int:=
 some (neg64 t0)
def zO.l1 (n:Nat) (t0:Constraint) (t1:Int→Option Int) (a:((List Int)×Int)→Option Graph) (s:(List Int)×Int):Option Graph:=
 if (decide (s.2<mul64 t0.size t0.size)) then
 (t1 (add64 t0.first s.2)).bind λb=>
 (app 8 s.1 [sub64 1 b]).bind λc=>
 a (c,add64 s.2 1)
 else
 some (⟨t0.first,t0.size,s.1⟩:Graph)
def zO (n:Nat) (t0:Constraint) (t1:Int→Option Int):Option Graph:=
 loopF (zO.l1 n t0 t1) n (([]:List Int),0)
def zbB (n:Nat) (t0:Int):Option Int:=
 some 0
def zi.l1 (n:Nat) (t0:Action) (t1:Constraint) (c:((List Int)×Int)→Option (List Int)) (s:(List Int)×Int):Option (List Int):=
 if (decide (s.2<mul64 t1.size t1.size)) then
 jn (λ(b:(List Int))=>
 c (b,add64 s.2 1)) λa=>
 (zG n t0 (add64 t1.first s.2)).bind λd=>
 if (decide (0<d)) then
 (app 8 s.1 [s.2]).bind λe=>
 a e
 else
 a s.1
 else
 some s.1
def zi (n:Nat) (t0:Action) (t1:Constraint):Option (List Int):=
 loopF (zi.l1 n t0 t1) n (([]:List Int),0)
def zm (n:Nat) (t0:Int) (t1:Action):Option Int:=
 (zG n t1 t0).bind λa=>
 some a
def zae (n:Nat) (t0:Int) (t1:Action):Option Int:=
 (zG n t1 t0).bind λa=>
 some a
def zaU (n:Nat) (t0:Int) (t1:Action) (t2:Constraint) (t3:Action):Option Int:=
 (zG n t1 (add64 t2.first t0)).bind λa=>
 (zG n t3 (add64 t2.first t0)).bind λb=>
 some (add64 a b)
def zdB (n:Nat) (t0:Int) (t1:List Bool):Option (DGraph×Bool):=
 some ((⟨t0,t1⟩:DGraph),((decide (1≤t0))&&(decide (t0≤6)))&&((t1.length:Int)==(mul64 t0 t0)))
def za8 (n:Nat) (t0:DGraph) (t1:Int) (t2:Int):Option Bool:=
 (idx t0.edges (add64 (mul64 t1 t0.size) t2)).bind λa=>
 some a
def zc2.l1 (n:Nat) (t0:List Int) (c:Int→Option Int) (a:Int):Option Int:=
 if (decide (a<(t0.length:Int))) then
 (idx t0 a).bind λb=>
 if (b != 0) then
 some b
 else
 c (add64 a 1)
 else
 some 0
def zc2 (n:Nat) (t0:List Int):Option Int:=
 loopF (zc2.l1 n t0) n 0
def zcj (n:Nat) (t0:List Int) (t1:List Int):Option Int:=
 (zci n (t0.length:Int) (t1.length:Int)).bind λc=>
 (zl n t0 t1).bind λa=>
 (zc2 n [c,a]).bind λb=>
 some b
def zz.l1 (n:Nat) (g:DGraph) (v:List Int→List (List Int)→Option (List (List Int))) (l:List Int) (last:Int) (rec:Int×List (List Int)→Option (List (List Int))) (s:Int×List (List Int)):Option (List (List Int)):=
 if (decide (s.1<g.size)) then
 (za8 n g last s.1).bind λe=>
 if e then
 (zaN n l s.1).bind λf=>
 if f=true then rec (add64 s.1 1,s.2)
 else
 (app 8 [] l).bind λc=>
 (app 8 c [s.1]).bind λl2=>
 (v l2 s.2).bind λout=>
 rec (add64 s.1 1,out)
 else rec (add64 s.1 1,s.2)
 else some s.2
def zz (n:Nat) (g:DGraph):Nat→List Int→List (List Int)→Option (List (List Int))
 | 0,_,_=>none
 | k+1,l,out=>
 (idx l (sub64 (l.length:Int) 1)).bind λlast=>
 (idx l 0).bind λfirst=>
 (za8 n g last first).bind λe=>
 if e then
 (app 8 [] l).bind λc=>
 (app 24 out [c]).bind λout=>
 loopF (zz.l1 n g (zz n g k) l last) n (add64 first 1,out)
 else loopF (zz.l1 n g (zz n g k) l last) n (add64 first 1,out)
def digraph_cycles.l1 (n:Nat) (g:DGraph) (rec:Int×List (List Int)→Option (List (List Int))) (s:Int×List (List Int)):Option (List (List Int)):=
 if (decide (s.1<g.size)) then
 (zz n g n [s.1] s.2).bind λout=>
 rec (add64 s.1 1,out)
 else some s.2
def zbN (n:Nat) (t0:Int) (t1:List Bool):Option (List (List Int)):=
 (zdB n t0 t1).bind λo=>
 if (!o.2)=true then some []
 else
 (loopF (digraph_cycles.l1 n o.1) n (0,[])).bind λout=>
 sortO (zcj n) out
def zj.l3 (n:Nat) (t1:Constraint) (t2:Action) (t3:Action) (f:List (List Row)) (g:((List (List Row)))→Option (List (List Row))) (c:List Int) (h:((List Row)×Bool×Bool×Int)→Option (List (List Row))) (s:(List Row)×Bool×Bool×Int):Option (List (List Row)):=
 let e:=s.2.2.1
 let d:=s.2.2.2
 if (decide (d<(c.length:Int))) then
 (idx c d).bind λa=>
 (rem64 (add64 d 1) (c.length:Int)).bind λl=>
 (idx c l).bind λb=>
 grd (s.2.1||(zG n t2 (add64 t1.first (add64 (mul64 a t1.size) b))).isSome) <|
 grd (e||(zG n t3 (add64 t1.first (add64 (mul64 a t1.size) b))).isSome) <|
 (zaU n (add64 (mul64 a t1.size) b) t2 t1 t3).bind λi=>
 (app 32 s.1 [(⟨[(⟨add64 t1.first (add64 (mul64 a t1.size) b),(-1)⟩:Term)],sub64 i 1⟩:Row)]).bind λj=>
 h (j,s.2.1||(decide (0<((zG n t2 (add64 t1.first (add64 (mul64 a t1.size) b))).getD default))),e||(decide (0<((zG n t3 (add64 t1.first (add64 (mul64 a t1.size) b))).getD default))),add64 d 1)
 else
 if (s.2.1&&e) then
 (app 24 f [s.1]).bind λk=>
 g k
 else
 g f
def zj.l2 (n:Nat) (t1:Constraint) (t2:Action) (t3:Action) (a:List (List Int)) (d:((List (List Row))×Int)→Option (List (List Row))) (s:(List (List Row))×Int):Option (List (List Row)):=
 if (decide (s.2<(a.length:Int))) then
 jn (λ(b:(List (List Row)))=>
 d (b,add64 s.2 1)) λc=>
 (idx a s.2).bind λe=>
 loopF (zj.l3 n t1 t2 t3 s.1 c e) n (([]:List Row),false,false,0)
 else
 some s.1
def zj.l1 (n:Nat) (t0:List Range) (t1:Constraint) (t2:Action) (t3:Action) (c:List Bool) (b:((List Bool)×Int)→Option (List (List Row))) (s:(List Bool)×Int):Option (List (List Row)):=
 if (decide (s.2<(c.length:Int))) then
 (idx t0 (add64 t1.first s.2)).bind λd=>
 (zaU n s.2 t2 t1 t3).bind λe=>
 (idx s.1 s.2).bind λg=>
 (sto s.1 s.2 (decide (1≤add64 d.hi e))).bind λa=>
 b (a,add64 s.2 1)
 else
 (zbN n t1.size s.1).bind λf=>
 loopF (zj.l2 n t1 t2 t3 f) n (([]:List (List Row)),0)
def zj (n:Nat) (t0:List Range) (t1:Constraint) (t2:Action) (t3:Action):Option (List (List Row)):=
 (mkl 1 (mul64 t1.size t1.size) (false:Bool)).bind λa=>
 loopF (zj.l1 n t0 t1 t2 t3 a) n (a,0)
def zb5.l1 (n:Nat) (t0:List Range) (c:Int→Option Bool) (b:Int):Option Bool:=
 if (decide (b<(t0.length:Int))) then
 (idx t0 b).bind λa=>
 if ((((decide (a.lo<(-1000000)))||(decide (1000000<a.lo)))||(decide (a.hi<(-1000000))))||(decide (1000000<a.hi))) then
 some false
 else
 c (add64 b 1)
 else
 some (decide ((t0.length:Int)≤128))
def zb5 (n:Nat) (t0:List Range):Option Bool:=
 loopF (zb5.l1 n t0) n 0
def zbL.l1 (n:Nat) (t0:Int) (t1:Row) (b:(Int×Int)→Option Bool) (s:Int×Int):Option Bool:=
 if (decide (s.2<(t1.terms.length:Int))) then
 (idx t1.terms s.2).bind λa=>
 if (((((decide (a.cell≤s.1))||(decide (t0≤a.cell)))||(a.factor==0))||(decide (a.factor<(-1000))))||(decide (1000<a.factor))) then
 some false
 else
 b (a.cell,add64 s.2 1)
 else
 some ((decide ((-1000000000)≤t1.bound))&&(decide (t1.bound≤1000000000)))
def zbL (n:Nat) (t0:Int) (t1:Row):Option Bool:=
 loopF (zbL.l1 n t0 t1) n ((-1),0)
def zb2 (n:Nat) (t0:Row) (t1:List Range):Option Bool:=
 (zbL n (t1.length:Int) t0).bind λa=>
 some (!a)
def zbO (n:Nat) (t0:List Range) (t1:List Row):Option Bool:=
 (zb5 n t0).bind λa=>
 grd (!a||(zo n t1 (λq0=>zb2 n q0 t0)).isSome) <|
 some (a&&(!((zo n t1 (λq0=>zb2 n q0 t0)).getD default)))
def zD.l1 (n:Nat) (t0:List Range) (t1:Range→Option Bool) (b:Int→Option Int) (a:Int):Option Int:=
 if (decide (a<(t0.length:Int))) then
 (idx t0 a).bind λc=>
 (t1 c).bind λd=>
 if d then
 some a
 else
 b (add64 a 1)
 else
 some (-1)
def zD (n:Nat) (t0:List Range) (t1:Range→Option Bool):Option Int:=
 loopF (zD.l1 n t0 t1) n 0
def zay (n:Nat) (t0:List Range) (t1:Range→Option Bool):Option Bool:=
 (zD n t0 t1).bind λa=>
 some (decide (0≤a))
def zfy (n:Nat) (t0:Range):Option Bool:=
 some (decide (t0.hi<t0.lo))
def zcb (n:Nat) (t0:List Range):Option Bool:=
 (zay n t0 (λq0=>zfy n q0)).bind λa=>
 some a
def zdz (n:Nat) (t0:System) (t1:List Row) (t2:Int):Option Bool:=
 grd (!(decide ((t1.length:Int)≤t2))||(zbO n t0.box t1).isSome) <|
 some ((decide ((t1.length:Int)≤t2))&&((zbO n t0.box t1).getD default))
def zfH (n:Nat) (t0:Int):Option Bool:=
 some ((decide (t0<(-4000000)))||(decide (4000000<t0)))
def zfr (n:Nat) (t0:Int) (t1:Graph):Option Bool:=
 if (((((decide (t1.size<1))||(decide (6<t1.size)))||(decide (t1.first<0)))||(decide (sub64 t0 (mul64 t1.size t1.size)<t1.first)))||((t1.least.length:Int) != (mul64 t1.size t1.size))) then
 some false
 else
 (zw n t1.least (λq0=>zfH n q0)).bind λa=>
 some (!a)
def zfG (n:Nat) (t0:List Row) (t1:System):Option Bool:=
 (zdz n t1 t0 64).bind λa=>
 some (!a)
def zY.l1 (n:Nat) (t0:List (List Row)) (t1:(List Row)→Option Bool) (b:Int→Option Int) (a:Int):Option Int:=
 if (decide (a<(t0.length:Int))) then
 (idx t0 a).bind λc=>
 (t1 c).bind λd=>
 if d then
 some a
 else
 b (add64 a 1)
 else
 some (-1)
def zY (n:Nat) (t0:List (List Row)) (t1:(List Row)→Option Bool):Option Int:=
 loopF (zY.l1 n t0 t1) n 0
def za2 (n:Nat) (t0:List (List Row)) (t1:(List Row)→Option Bool):Option Bool:=
 (zY n t0 t1).bind λa=>
 some (decide (0≤a))
def zbb.l1 (n:Nat) (t0:System) (b:Int→Option Bool) (a:Int):Option Bool:=
 if (decide (a<(t0.graphs.length:Int))) then
 (idx t0.graphs a).bind λc=>
 (zfr n (t0.box.length:Int) c).bind λd=>
 if (!d) then
 some false
 else
 b (add64 a 1)
 else
 (za2 n t0.cases (λq0=>zfG n q0 t0)).bind λe=>
 some (!e)
def zbb (n:Nat) (t0:System):Option Bool:=
 (zbO n t0.box ([]:List Row)).bind λa=>
 grd ((!a)||(zcb n t0.box).isSome) <|
 grd (((!a)||((zcb n t0.box).getD default))||(zdz n t0 t0.rows 1024).isSome) <|
 if (((((!a)||((zcb n t0.box).getD default))||(!((zdz n t0 t0.rows 1024).getD default)))||(decide (64<(t0.graphs.length:Int))))||(decide (1024<(t0.cases.length:Int)))) then
 some false
 else
 loopF (zbb.l1 n t0) n 0
def zc.l4 (n:Nat) (t0:Model) (t1:Question) (j:Action) (c:Action) (k:List Range) (d:List Row) (m:Int) (r:Int) (t:List Term) (u:Int) (w:Int) (x:Int) (y:((List Graph)×Int)→Option (System×Int)) (s:(List Graph)×Int):Option (System×Int):=
 if (decide (s.2<(t0.constraints.length:Int))) then
 jn (λ(q:(List Graph))=>
 y (q,add64 s.2 1)) λg=>
 (idx t0.constraints s.2).bind λa=>
 if (a.kind != 1) then
 g s.1
 else
 (zO n a (λq0=>zbB n q0)).bind λz=>
 (app 40 s.1 [z]).bind λp=>
 jn (λ(l:(List Graph))=>
 grd (!(t1.e != t1.f)||(zi n c a).isSome) <|
 if ((t1.e != t1.f)&&(decide (0<(((zi n c a).getD default).length:Int)))) then
 (zO n a (λq0=>zae n q0 c)).bind λD=>
 (app 40 l [D]).bind λE=>
 g E
 else
 g l) λo=>
 (zi n j a).bind λA=>
 if (decide (0<(A.length:Int))) then
 (zO n a (λq0=>zm n q0 j)).bind λB=>
 (app 40 p [B]).bind λC=>
 o C
 else
 o p
 else
 jn (λ(b:(List Row)×(List (List Row)))=>
 (zbb n (⟨k,b.1,s.1,b.2⟩:System)).bind λG=>
 if (!G) then
 some ((⟨[],[],[],[]⟩:System),8)
 else
 some ((⟨k,b.1,s.1,b.2⟩:System),0)) λh=>
 if (m==1) then
 (zj n k (⟨m,r,(⟨t,u⟩:Row),w,x⟩:Constraint) j c).bind λi=>
 if ((i.length:Int)==0) then
 (app 32 d [(⟨[],(-1)⟩:Row)]).bind λF=>
 h (F,i)
 else
 h (d,i)
 else
 h (d,[])
def zc.l3 (n:Nat) (t0:Model) (t1:Question) (d:Action) (e:Action) (r:List Range) (f:List Row) (h:((List Row)×Int)→Option (System×Int)) (s:(List Row)×Int):Option (System×Int):=
 if (decide (s.2<(f.length:Int))) then
 (idx f s.2).bind λk=>
 (zQ n k (λq0=>zbt n q0) (λq0=>zbt n q0)).bind λl=>
 (app 32 s.1 [l]).bind λm=>
 h (m,add64 s.2 1)
 else
 jn (λ(b:(List Row)×Int×Int×(List Term)×Int×Int×Int)=>
 loopF (zc.l4 n t0 t1 d e r b.1 b.2.1 b.2.2.1 b.2.2.2.1 b.2.2.2.2.1 b.2.2.2.2.2.1 b.2.2.2.2.2.2) n (([]:List Graph),0)) λc=>
 if t1.target.hold then
 (idx d.effect.hold t1.target.index).bind λg=>
 (zq n e g).bind λo=>
 (zQ n g (λq0=>zbp n q0) (λq0=>zaX n q0 o)).bind λt=>
 (app 32 s.1 [t]).bind λj=>
 c (j,0,0,[],0,0,0)
 else
 (idx t0.constraints t1.target.index).bind λa=>
 if (a.kind==0) then
 (zq n d a.row).bind λp=>
 (zq n e a.row).bind λq=>
 (zQ n a.row (λq0=>zbp n q0) (λq0=>zaX n q0 (add64 p q))).bind λu=>
 (app 32 s.1 [u]).bind λi=>
 c (i,a.kind,a.family,a.row.terms,a.row.bound,a.first,a.size)
 else
 c (s.1,a.kind,a.family,a.row.terms,a.row.bound,a.first,a.size)
def zc.l2 (n:Nat) (t0:Model) (t1:Question) (t2:List Int) (b:Action) (c:Action) (u:List Range) (o:((List Row)×Int)→Option (System×Int)) (s:(List Row)×Int):Option (System×Int):=
 if (decide (s.2<(t0.constraints.length:Int))) then
 jn (λ(l:(List Row))=>
 o (l,add64 s.2 1)) λh=>
 (idx t0.constraints s.2).bind λa=>
 if (a.kind != 0) then
 h s.1
 else
 (zq n b a.row).bind λd=>
 (zq n c a.row).bind λg=>
 jn (λ(t:Int)=>
 (zQ n a.row (λq0=>zbt n q0) (λq0=>zev n q0 t)).bind λp=>
 (app 32 s.1 [p]).bind λq=>
 h q) λi=>
 (zaN n t2 s.2).bind λw=>
 if (w&&(t1.target.hold||(t1.target.index != s.2))) then
 i (gmax (gmax (gmax 0 d) g) (add64 d g))
 else
 i (gmax (gmax 0 d) g)
 else
 (app 32 [] b.effect.hold).bind λk=>
 jn (λ(m:(List Row))=>
 loopF (zc.l3 n t0 t1 b c u m) n (s.1,0)) λj=>
 if (t1.e != t1.f) then
 (app 32 k c.effect.hold).bind λr=>
 j r
 else
 j k
def zc.l1 (n:Nat) (t0:Model) (t1:Question) (t2:List Int) (c:Int→Option (System×Int)) (b:Int):Option (System×Int):=
 if (decide (b<(t2.length:Int))) then
 (idx t2 b).bind λa=>
 grd (((decide (a<0))||(decide ((t0.constraints.length:Int)≤a)))||(idx t0.constraints a).isSome) <|
 if (((decide (a<0))||(decide ((t0.constraints.length:Int)≤a)))||((((idx t0.constraints a).getD default).kind) != 0)) then
 some ((⟨[],[],[],[]⟩:System),2)
 else
 c (add64 b 1)
 else
 (idx t0.actions t1.e).bind λd=>
 (idx t0.actions t1.f).bind λg=>
 (zfh n t0).bind λh=>
 loopF (zc.l2 n t0 t1 t2 d g h) n (([]:List Row),0)
def zc (n:Nat) (t0:Model) (t1:Question) (t2:List Int):Option (System×Int):=
 (zdl n t0 t1).bind λa=>
 if (!a) then
 some ((⟨[],[],[],[]⟩:System),1)
 else
 loopF (zc.l1 n t0 t1 t2) n 0
def zdg (n:Nat) (t0:Model) (t1:Question):Option Bool:=
 (idx t0.actions t1.e).bind λc=>
 (idx t0.actions t1.f).bind λb=>
 if t1.target.hold then
 (idx c.effect.hold t1.target.index).bind λh=>
 (zq n b h).bind λi=>
 some (decide (0<i))
 else
 (idx t0.constraints t1.target.index).bind λa=>
 if (a.kind==0) then
 (zq n c a.row).bind λd=>
 grd (!(decide (0<d))||(zq n b a.row).isSome) <|
 some ((decide (0<d))&&(decide (0<((zq n b a.row).getD default))))
 else
 (zi n c a).bind λg=>
 grd (!(decide (0<(g.length:Int)))||(zi n b a).isSome) <|
 some ((decide (0<(g.length:Int)))&&(decide (0<(((zi n b a).getD default).length:Int))))
def zcN (n:Nat) (t0:Question) (t1:Model):Option Bool:=
 (zdg n t1 t0).bind λa=>
 some (!a)
def zao.l1 (n:Nat) (t0:List Question) (t1:Question→Option Bool) (b:Int→Option Int) (a:Int):Option Int:=
 if (decide (a<(t0.length:Int))) then
 (idx t0 a).bind λc=>
 (t1 c).bind λd=>
 if d then
 some a
 else
 b (add64 a 1)
 else
 some (-1)
def zao (n:Nat) (t0:List Question) (t1:Question→Option Bool):Option Int:=
 loopF (zao.l1 n t0 t1) n 0
def zZ.l5 (n:Nat) (t0:Model) (f:List Question) (h:((List Question))→Option (List Question)) (i:((List Question)×Int×Int)→Option (List Question)) (s:(List Question)×Int×Int):Option (List Question):=
 let a:=s.1
 let b:=s.2.1
 if (decide (s.2.2<(a.length:Int))) then
 jn (λ(c:(List Question)×Int)=>
 i (c.1,c.2,add64 s.2.2 1)) λd=>
 (idx a s.2.2).bind λe=>
 (zcN n e t0).bind λj=>
 if (!j) then
 (idx a b).bind λl=>
 (sto a b e).bind λg=>
 d (g,add64 b 1)
 else
 d (a,b)
 else
 (cut a b (a.length:Int)).bind λm=>
 (cut (zdb a b.toNat a.length (List.replicate (a.length - b.toNat) (⟨0,0,⟨false,0⟩⟩:Question))) 0 b).bind λo=>
 (app 32 f (((zdb a b.toNat a.length (List.replicate (a.length - b.toNat) (⟨0,0,⟨false,0⟩⟩:Question))).drop 0).take (b.toNat - 0))).bind λk=>
 h k
def zZ.l4 (n:Nat) (t0:Model) (e:Int) (b:List Question) (f:Int) (c:((List Question))→Option (List Question)) (g:Action) (d:((List Question)×Int)→Option (List Question)) (s:(List Question)×Int):Option (List Question):=
 if (decide (s.2<(g.effect.hold.length:Int))) then
 (app 32 s.1 [(⟨e,f,(⟨true,s.2⟩:Target)⟩:Question)]).bind λh=>
 d (h,add64 s.2 1)
 else
 (zao n s.1 (λq0=>zcN n q0 t0)).bind λa=>
 if (a==(-1)) then
 (app 32 b s.1).bind λi=>
 c i
 else
 loopF (zZ.l5 n t0 b c) n (s.1,a,add64 a 1)
def zZ.l3 (n:Nat) (t0:Model) (a:Int) (d:List Question) (b:Int) (f:((List Question))→Option (List Question)) (g:((List Question)×Int)→Option (List Question)) (s:(List Question)×Int):Option (List Question):=
 if (decide (s.2<(t0.constraints.length:Int))) then
 jn (λ(e:(List Question))=>
 g (e,add64 s.2 1)) λc=>
 if (decide (a≤b)) then
 (app 32 s.1 [(⟨a,b,(⟨false,s.2⟩:Target)⟩:Question)]).bind λh=>
 c h
 else
 c s.1
 else
 (idx t0.actions a).bind λi=>
 loopF (zZ.l4 n t0 a d b f i) n (s.1,0)
def zZ.l2 (n:Nat) (t0:Model) (a:Int) (e:((List Question)×Int)→Option (List Question)) (d:((List Question)×Int)→Option (List Question)) (s:(List Question)×Int):Option (List Question):=
 if (decide (s.2<(t0.actions.length:Int))) then
 jn (λ(b:(List Question))=>
 d (b,add64 s.2 1)) λc=>
 loopF (zZ.l3 n t0 a s.1 s.2 c) n (([]:List Question),0)
 else
 e (s.1,add64 a 1)
def zZ.l1 (n:Nat) (t0:Model) (a:((List Question)×Int)→Option (List Question)) (s:(List Question)×Int):Option (List Question):=
 if (decide (s.2<(t0.actions.length:Int))) then
 loopF (zZ.l2 n t0 s.2 a) n (s.1,0)
 else
 some s.1
def zZ (n:Nat) (t0:Model):Option (List Question):=
 (zdw n t0).bind λa=>
 if (!a) then
 some []
 else
 loopF (zZ.l1 n t0) n (([]:List Question),0)
def zat (n:Nat) (t0:Model) (t1:Question):Option Bool:=
 (zdl n t0 t1).bind λa=>
 grd (!a||(zdg n t0 t1).isSome) <|
 some (a&&((zdg n t0 t1).getD default))
def zcC (n:Nat) (t0:Model) (t1:Int) (t2:Row):Option Int:=
 (zdw n t0).bind λc=>
 if (((!c)||(decide (t1<0)))||(decide ((t0.actions.length:Int)≤t1))) then
 some 0
 else
 (idx t0.actions t1).bind λa=>
 (zq n a t2).bind λb=>
 some b
def zT.l1 (n:Nat) (t0:List Question) (t1:List Question) (b:Int→Option Bool) (a:Int):Option Bool:=
 if (decide (a<(t0.length:Int))) then
 (idx t0 a).bind λc=>
 (idx t1 a).bind λd=>
 if (!decide ((c:Question)=d)) then
 some false
 else
 b (add64 a 1)
 else
 some true
def zT (n:Nat) (t0:List Question) (t1:List Question):Option Bool:=
 if ((t0.length:Int) != (t1.length:Int)) then
 some false
 else
 loopF (zT.l1 n t0 t1) n 0
def law22_awake (n:Nat):Option Bool:=
 (law22_example n ).bind λb=>
 (zc n b (⟨0,0,(⟨false,1⟩:Target)⟩:Question) ([]:List Int)).bind λa=>
 (zZ n b).bind λc=>
 grd (!((a.2==0)&&((a.1.rows.length:Int)==3))||(idx a.1.rows 1).isSome) <|
 grd (!(((a.2==0)&&((a.1.rows.length:Int)==3))&&((((idx a.1.rows 1).getD default).bound)==1))||(idx a.1.rows 2).isSome) <|
 grd (!((((a.2==0)&&((a.1.rows.length:Int)==3))&&((((idx a.1.rows 1).getD default).bound)==1))&&((((idx a.1.rows 2).getD default).bound)==0))||(idx a.1.rows 2).isSome) <|
 grd (!(((((a.2==0)&&((a.1.rows.length:Int)==3))&&((((idx a.1.rows 1).getD default).bound)==1))&&((((idx a.1.rows 2).getD default).bound)==0))&&(((((idx a.1.rows 2).getD default).terms).length:Int)==1))||(idx a.1.rows 2).isSome) <|
 grd (!(((((a.2==0)&&((a.1.rows.length:Int)==3))&&((((idx a.1.rows 1).getD default).bound)==1))&&((((idx a.1.rows 2).getD default).bound)==0))&&(((((idx a.1.rows 2).getD default).terms).length:Int)==1))||(idx (((idx a.1.rows 2).getD default).terms) 0).isSome) <|
 grd (!((((((a.2==0)&&((a.1.rows.length:Int)==3))&&((((idx a.1.rows 1).getD default).bound)==1))&&((((idx a.1.rows 2).getD default).bound)==0))&&(((((idx a.1.rows 2).getD default).terms).length:Int)==1))&&((((idx (((idx a.1.rows 2).getD default).terms) 0).getD default).factor)==(-1)))||(zat n b (⟨0,0,(⟨false,1⟩:Target)⟩:Question)).isSome) <|
 grd (!(((((((a.2==0)&&((a.1.rows.length:Int)==3))&&((((idx a.1.rows 1).getD default).bound)==1))&&((((idx a.1.rows 2).getD default).bound)==0))&&(((((idx a.1.rows 2).getD default).terms).length:Int)==1))&&((((idx (((idx a.1.rows 2).getD default).terms) 0).getD default).factor)==(-1)))&&((zat n b (⟨0,0,(⟨false,1⟩:Target)⟩:Question)).getD default))||(zat n b (⟨0,0,(⟨false,0⟩:Target)⟩:Question)).isSome) <|
 grd (!((((((((a.2==0)&&((a.1.rows.length:Int)==3))&&((((idx a.1.rows 1).getD default).bound)==1))&&((((idx a.1.rows 2).getD default).bound)==0))&&(((((idx a.1.rows 2).getD default).terms).length:Int)==1))&&((((idx (((idx a.1.rows 2).getD default).terms) 0).getD default).factor)==(-1)))&&((zat n b (⟨0,0,(⟨false,1⟩:Target)⟩:Question)).getD default))&&(!((zat n b (⟨0,0,(⟨false,0⟩:Target)⟩:Question)).getD default)))||(idx b.constraints 0).isSome) <|
 grd (!((((((((a.2==0)&&((a.1.rows.length:Int)==3))&&((((idx a.1.rows 1).getD default).bound)==1))&&((((idx a.1.rows 2).getD default).bound)==0))&&(((((idx a.1.rows 2).getD default).terms).length:Int)==1))&&((((idx (((idx a.1.rows 2).getD default).terms) 0).getD default).factor)==(-1)))&&((zat n b (⟨0,0,(⟨false,1⟩:Target)⟩:Question)).getD default))&&(!((zat n b (⟨0,0,(⟨false,0⟩:Target)⟩:Question)).getD default)))||(zcC n b 0 (((idx b.constraints 0).getD default).row)).isSome) <|
 grd (!(((((((((a.2==0)&&((a.1.rows.length:Int)==3))&&((((idx a.1.rows 1).getD default).bound)==1))&&((((idx a.1.rows 2).getD default).bound)==0))&&(((((idx a.1.rows 2).getD default).terms).length:Int)==1))&&((((idx (((idx a.1.rows 2).getD default).terms) 0).getD default).factor)==(-1)))&&((zat n b (⟨0,0,(⟨false,1⟩:Target)⟩:Question)).getD default))&&(!((zat n b (⟨0,0,(⟨false,0⟩:Target)⟩:Question)).getD default)))&&(((zcC n b 0 (((idx b.constraints 0).getD default).row)).getD default)==(-2)))||(zT n c [(⟨0,0,(⟨false,1⟩:Target)⟩:Question)]).isSome) <|
 some ((((((((((a.2==0)&&((a.1.rows.length:Int)==3))&&((((idx a.1.rows 1).getD default).bound)==1))&&((((idx a.1.rows 2).getD default).bound)==0))&&(((((idx a.1.rows 2).getD default).terms).length:Int)==1))&&((((idx (((idx a.1.rows 2).getD default).terms) 0).getD default).factor)==(-1)))&&((zat n b (⟨0,0,(⟨false,1⟩:Target)⟩:Question)).getD default))&&(!((zat n b (⟨0,0,(⟨false,0⟩:Target)⟩:Question)).getD default)))&&(((zcC n b 0 (((idx b.constraints 0).getD default).row)).getD default)==(-2)))&&((zT n c [(⟨0,0,(⟨false,1⟩:Target)⟩:Question)]).getD default))
def zcU.l1 (n:Nat) (t0:List Int) (t1:List Table) (c:Int→Option Bool) (a:Int):Option Bool:=
 if (decide (a<(t1.length:Int))) then
 (idx t1 a).bind λb=>
 grd ((decide (40<(b.name.length:Int)))||(idx t1 a).isSome) <|
 if ((decide (40<(b.name.length:Int)))||(decide (12<((((idx t1 a).getD default).columns).length:Int)))) then
 some false
 else
 c (add64 a 1)
 else
 some ((decide ((t0.length:Int)≤12))&&(decide ((t1.length:Int)≤20)))
def zcU (n:Nat) (t0:List Int) (t1:List Table):Option Bool:=
 loopF (zcU.l1 n t0 t1) n 0
def zt.l5 (n:Nat) (f:Int) (c:Int→Option Bool) (b:Action) (d:Int→Option Bool) (a:Int):Option Bool:=
 if (decide (a<(b.effect.hold.length:Int))) then
 (idx b.effect.hold a).bind λe=>
 if (decide (20<(e.terms.length:Int))) then
 some false
 else
 d (add64 a 1)
 else
 c (add64 f 1)
def zt.l4 (n:Nat) (t0:Model) (c:Int→Option Bool) (b:Int):Option Bool:=
 if (decide (b<(t0.actions.length:Int))) then
 (idx t0.actions b).bind λa=>
 (idx t0.actions b).bind λd=>
 if ((((decide (6<(d.arguments.length:Int)))||(decide (20<(a.effect.delta.length:Int))))||(decide (10<(a.effect.hold.length:Int))))||(decide (40<(a.effect.updates.length:Int)))) then
 some false
 else
 loopF (zt.l5 n b c a) n 0
 else
 some true
def zt.l3 (n:Nat) (t0:Model) (c:Int→Option Bool) (a:Int):Option Bool:=
 if (decide (a<(t0.operations.length:Int))) then
 (idx t0.operations a).bind λb=>
 grd ((decide (40<(b.name.length:Int)))||(idx t0.operations a).isSome) <|
 if ((decide (40<(b.name.length:Int)))||(decide (6<((((idx t0.operations a).getD default).sorts).length:Int)))) then
 some false
 else
 c (add64 a 1)
 else
 loopF (zt.l4 n t0) n 0
def zt.l2 (n:Nat) (t0:Model) (b:Int→Option Bool) (a:Int):Option Bool:=
 if (decide (a<(t0.constraints.length:Int))) then
 (idx t0.constraints a).bind λc=>
 if (decide (20<(c.row.terms.length:Int))) then
 some false
 else
 b (add64 a 1)
 else
 loopF (zt.l3 n t0) n 0
def zt.l1 (n:Nat) (t0:Model) (b:Int→Option Bool) (a:Int):Option Bool:=
 if (decide (a<(t0.families.length:Int))) then
 (idx t0.families a).bind λc=>
 if (decide (40<(c.length:Int))) then
 some false
 else
 b (add64 a 1)
 else
 loopF (zt.l2 n t0) n 0
def zt (n:Nat) (t0:Model):Option Bool:=
 grd ((((((((decide (8<(t0.sorts.length:Int)))||(decide (6<(t0.tables.length:Int))))||(decide (20<(t0.families.length:Int))))||(decide (60<(t0.constraints.length:Int))))||(decide (8<(t0.operations.length:Int))))||(decide (30<(t0.actions.length:Int))))||(decide (12<(t0.hides.length:Int))))||(zcU n t0.sorts t0.tables).isSome) <|
 if ((((((((decide (8<(t0.sorts.length:Int)))||(decide (6<(t0.tables.length:Int))))||(decide (20<(t0.families.length:Int))))||(decide (60<(t0.constraints.length:Int))))||(decide (8<(t0.operations.length:Int))))||(decide (30<(t0.actions.length:Int))))||(decide (12<(t0.hides.length:Int))))||(!((zcU n t0.sorts t0.tables).getD default))) then
 some false
 else
 loopF (zt.l1 n t0) n 0
def zbj.l1 (n:Nat) (t0:List Int) (c:Int→Option Bool) (a:Int):Option Bool:=
 if (decide (a<(t0.length:Int))) then
 (idx t0 a).bind λb=>
 grd ((decide (b<1))||(idx t0 a).isSome) <|
 if ((decide (b<1))||(decide (6<((idx t0 a).getD default)))) then
 some false
 else
 c (add64 a 1)
 else
 some true
def zbj (n:Nat) (t0:List Int):Option Bool:=
 loopF (zbj.l1 n t0) n 0
def zai.l1 (n:Nat) (t0:List Int) (t1:List Int) (b:(Int×Int)→Option Int) (s:Int×Int):Option Int:=
 if (decide (s.2<(t1.length:Int))) then
 (idx t1 s.2).bind λa=>
 grd ((decide (a<0))||(idx t1 s.2).isSome) <|
 if ((decide (a<0))||(decide ((t0.length:Int)≤((idx t1 s.2).getD default)))) then
 some 0
 else
 (idx t1 s.2).bind λc=>
 (idx t0 c).bind λd=>
 b (mul64 s.1 d,add64 s.2 1)
 else
 some s.1
def zai (n:Nat) (t0:List Int) (t1:List Int):Option Int:=
 grd ((decide (3<(t1.length:Int)))||(zbj n t0).isSome) <|
 if ((decide (3<(t1.length:Int)))||(!((zbj n t0).getD default))) then
 some 0
 else
 loopF (zai.l1 n t0 t1) n (1,0)
def zaY (n:Nat) (t0:Int):Option Bool:=
 some ((((t0==9)||(t0==10))||(t0==13))||(t0==32))
def zbl.l2 (n:Nat) (t0:List UInt8) (b:Int→Option Int) (c:Int→Option Int) (a:Int):Option Int:=
 grd (!(decide (a<(t0.length:Int)))||(sidx t0 a).isSome) <|
 if ((decide (a<(t0.length:Int)))&&(((sidx t0 a).getD default) != 10)) then
 c (add64 a 1)
 else
 b a
def zbl.l1 (n:Nat) (t0:List UInt8) (b:Int→Option Int) (a:Int):Option Int:=
 grd (!(decide (a<(t0.length:Int)))||(sidx t0 a).isSome) <|
 grd (!(decide (a<(t0.length:Int)))||(zaY n ((sidx t0 a).getD default)).isSome) <|
 grd (!(decide (a<(t0.length:Int)))||(((zaY n ((sidx t0 a).getD default)).getD default)||(sidx t0 a).isSome)) <|
 if ((decide (a<(t0.length:Int)))&&(((zaY n ((sidx t0 a).getD default)).getD default)||(((sidx t0 a).getD default)==35))) then
 (sidx t0 a).bind λc=>
 if (c==35) then
 loopF (zbl.l2 n t0 b) n a
 else
 b (add64 a 1)
 else
 some a
def zbl (n:Nat) (t0:List UInt8) (t1:Int):Option Int:=
 loopF (zbl.l1 n t0) n t1
def zaO (n:Nat) (t0:Int):Option Bool:=
 some ((decide (97≤t0))&&(decide (t0≤122)))
def za5 (n:Nat) (t0:Int):Option Bool:=
 some ((decide (48≤t0))&&(decide (t0≤57)))
def zfA (n:Nat):Option (List (List UInt8)):=
 some [[115,111,114,116],[114,101,108,97,116,105,111,110],[99,111,117,110,116,101,114],[115,101,116],[114,101,103,105,115,116,101,114],[105,110,118,97,114,105,97,110,116],[111,112,101,114,97,116,105,111,110],[107,101,121],[114,101,102,101,114,101,110,99,101],[116,111],[99,111,117,110,116],[97,99,121,99,108,105,99],[97,108,108],[115,117,109],[105,110],[97,100,100,119,105,110,115],[114,101,109,111,118,101,119,105,110,115],[108,97,115,116],[109,117,108,116,105],[104,105,100,101],[111,114,100,101,114,101,100],[114,101,113,117,105,114,101],[104,111,108,100],[105,110,115,101,114,116],[100,101,108,101,116,101],[97,100,100],[102,114,111,109],[112,117,116],[100,114,111,112],[97,115,115,105,103,110],[102,111,114],[119,104,101,114,101],[97,110,100],[111,114],[110,111,116]]
def zcD.l1 (n:Nat) (t0:List (List UInt8)) (t1:List UInt8) (b:Int→Option Bool) (a:Int):Option Bool:=
 if (decide (a<(t0.length:Int))) then
 (idx t0 a).bind λc=>
 if (decide (c=t1)) then
 some true
 else
 b (add64 a 1)
 else
 some false
def zcD (n:Nat) (t0:List (List UInt8)) (t1:List UInt8):Option Bool:=
 loopF (zcD.l1 n t0 t1) n 0
def zgr (n:Nat):Option (List (List UInt8)):=
 some [[61,61],[33,61],[60,61],[62,61],[46,46],[60],[62],[61],[43],[45],[42],[40],[41],[123],[125],[44],[58],[59]]
def zbn.l1 (n:Nat) (t0:List UInt8) (t1:Int) (c:List (List UInt8)) (d:Int→Option Int) (b:Int):Option Int:=
 if (decide (b<(c.length:Int))) then
 (idx c b).bind λa=>
 grd (!(decide (add64 t1 (a.length:Int)≤(t0.length:Int)))||(cut t0 t1 (add64 t1 (a.length:Int))).isSome) <|
 grd (!(decide (add64 t1 (a.length:Int)≤(t0.length:Int)))||(idx c b).isSome) <|
 if ((decide (add64 t1 (a.length:Int)≤(t0.length:Int)))&&(decide (((cut t0 t1 (add64 t1 (a.length:Int))).getD default)=((idx c b).getD default)))) then
 some (a.length:Int)
 else
 d (add64 b 1)
 else
 some 0
def zbn (n:Nat) (t0:List UInt8) (t1:Int):Option Int:=
 (zgr n ).bind λa=>
 loopF (zbn.l1 n t0 t1 a) n 0
def zaC.l3 (n:Nat) (t0:List UInt8) (b:Int→Option (Int×Int)) (a:Int):Option (Int×Int):=
 grd (!(decide (a<(t0.length:Int)))||(sidx t0 a).isSome) <|
 grd (!(decide (a<(t0.length:Int)))||(zaY n ((sidx t0 a).getD default)).isSome) <|
 grd (!((decide (a<(t0.length:Int)))&&(!((zaY n ((sidx t0 a).getD default)).getD default)))||(sidx t0 a).isSome) <|
 grd (!(((decide (a<(t0.length:Int)))&&(!((zaY n ((sidx t0 a).getD default)).getD default)))&&(((sidx t0 a).getD default) != 35))||(sidx t0 a).isSome) <|
 grd (!(((decide (a<(t0.length:Int)))&&(!((zaY n ((sidx t0 a).getD default)).getD default)))&&(((sidx t0 a).getD default) != 35))||(zaO n ((sidx t0 a).getD default)).isSome) <|
 grd (!((((decide (a<(t0.length:Int)))&&(!((zaY n ((sidx t0 a).getD default)).getD default)))&&(((sidx t0 a).getD default) != 35))&&(!((zaO n ((sidx t0 a).getD default)).getD default)))||(sidx t0 a).isSome) <|
 grd (!((((decide (a<(t0.length:Int)))&&(!((zaY n ((sidx t0 a).getD default)).getD default)))&&(((sidx t0 a).getD default) != 35))&&(!((zaO n ((sidx t0 a).getD default)).getD default)))||(za5 n ((sidx t0 a).getD default)).isSome) <|
 grd (!(((((decide (a<(t0.length:Int)))&&(!((zaY n ((sidx t0 a).getD default)).getD default)))&&(((sidx t0 a).getD default) != 35))&&(!((zaO n ((sidx t0 a).getD default)).getD default)))&&(!((za5 n ((sidx t0 a).getD default)).getD default)))||(zbn n t0 a).isSome) <|
 if ((((((decide (a<(t0.length:Int)))&&(!((zaY n ((sidx t0 a).getD default)).getD default)))&&(((sidx t0 a).getD default) != 35))&&(!((zaO n ((sidx t0 a).getD default)).getD default)))&&(!((za5 n ((sidx t0 a).getD default)).getD default)))&&(((zbn n t0 a).getD default)==0)) then
 b (add64 a 1)
 else
 some (5,a)
def zaC.l2 (n:Nat) (t0:List UInt8) (b:Int→Option (Int×Int)) (a:Int):Option (Int×Int):=
 grd (!(decide (a<(t0.length:Int)))||(sidx t0 a).isSome) <|
 grd (!(decide (a<(t0.length:Int)))||(za5 n ((sidx t0 a).getD default)).isSome) <|
 if ((decide (a<(t0.length:Int)))&&((za5 n ((sidx t0 a).getD default)).getD default)) then
 b (add64 a 1)
 else
 some (3,a)
def zaC.l1 (n:Nat) (t0:List UInt8) (t1:Int) (b:Int→Option (Int×Int)) (a:Int):Option (Int×Int):=
 grd (!(decide (a<(t0.length:Int)))||(sidx t0 a).isSome) <|
 grd (!(decide (a<(t0.length:Int)))||(zaO n ((sidx t0 a).getD default)).isSome) <|
 grd (!(decide (a<(t0.length:Int)))||(((zaO n ((sidx t0 a).getD default)).getD default)||(sidx t0 a).isSome)) <|
 grd (!(decide (a<(t0.length:Int)))||(((zaO n ((sidx t0 a).getD default)).getD default)||(za5 n ((sidx t0 a).getD default)).isSome)) <|
 grd (!(decide (a<(t0.length:Int)))||((((zaO n ((sidx t0 a).getD default)).getD default)||((za5 n ((sidx t0 a).getD default)).getD default))||(sidx t0 a).isSome)) <|
 if ((decide (a<(t0.length:Int)))&&((((zaO n ((sidx t0 a).getD default)).getD default)||((za5 n ((sidx t0 a).getD default)).getD default))||(((sidx t0 a).getD default)==95))) then
 b (add64 a 1)
 else
 (zfA n ).bind λc=>
 (cut t0 t1 a).bind λd=>
 (zcD n c d).bind λe=>
 if e then
 some (2,a)
 else
 some (1,a)
def zaC (n:Nat) (t0:List UInt8) (t1:Int):Option (Int×Int):=
 (sidx t0 t1).bind λb=>
 (zaO n b).bind λc=>
 if c then
 loopF (zaC.l1 n t0 t1) n t1
 else
 (sidx t0 t1).bind λd=>
 (za5 n d).bind λe=>
 if e then
 loopF (zaC.l2 n t0) n t1
 else
 (zbn n t0 t1).bind λa=>
 if (decide (0<a)) then
 some (4,add64 t1 a)
 else
 loopF (zaC.l3 n t0) n t1
def zc6.l1 (n:Nat) (t0:List UInt8) (c:((List Token)×Int)→Option ((List Token)×Int)) (s:(List Token)×Int):Option ((List Token)×Int):=
 (zbl n t0 s.2).bind λd=>
 if (decide (d<(t0.length:Int))) then
 (zbl n t0 s.2).bind λb=>
 (zaC n t0 b).bind λa=>
 (app 32 s.1 [(⟨a.1,s.2,b,a.2⟩:Token)]).bind λe=>
 c (e,a.2)
 else
 (app 32 s.1 [(⟨0,s.2,(t0.length:Int),(t0.length:Int)⟩:Token)]).bind λf=>
 some (f,0)
def zc6 (n:Nat) (t0:List UInt8):Option ((List Token)×Int):=
 if (decide (4096<(t0.length:Int))) then
 some ([],8)
 else
 loopF (zc6.l1 n t0) n (([]:List Token),0)
def ref02_Kind (n:Nat) (t0:List UInt8):Option Int:=
 (zc6 n t0).bind λa=>
 grd (((a.2 != 0)||((a.1.length:Int) != 2))||(idx a.1 0).isSome) <|
 grd ((((a.2 != 0)||((a.1.length:Int) != 2))||((((idx a.1 0).getD default).at_) != 0))||(idx a.1 0).isSome) <|
 if ((((a.2 != 0)||((a.1.length:Int) != 2))||((((idx a.1 0).getD default).at_) != 0))||((((idx a.1 0).getD default).end_) != (t0.length:Int))) then
 some 0
 else
 (idx a.1 0).bind λb=>
 some b.kind
def zf1 (n:Nat) (t0:List UInt8):Option Bool:=
 (ref02_Kind n t0).bind λa=>
 some ((a==1)&&(decide ((t0.length:Int)≤16)))
def zb6 (n:Nat) (t0:Int):Option Bool:=
 some ((t0==0)||(t0==1))
def zaK.l2 (n:Nat) (t0:List Int) (t1:List Table) (c:Int) (d:Int) (k:Int) (f:(Int×Int)→Option Bool) (a:Table) (g:Int→Option Bool) (e:Int):Option Bool:=
 if (decide (e<k)) then
 (idx t1 e).bind λi=>
 if (decide (i.name=a.name)) then
 some false
 else
 g (add64 e 1)
 else
 (zai n t0 a.columns).bind λb=>
 (zf1 n a.name).bind λj=>
 if ((((!j)||(decide (a.kind<0)))||(decide (5<a.kind)))||(b==0)) then
 some false
 else
 if (((decide (a.range.hi<a.range.lo))||(decide (a.range.lo<(-9999))))||(decide (9999<a.range.hi))) then
 some false
 else
 if ((((a.kind==0)||(a.kind==2))||(a.kind==3))&&((a.range.lo != 0)||(a.range.hi != 1))) then
 some false
 else
 (zb6 n a.kind).bind λh=>
 if h then
 if (a.first != c) then
 some false
 else
 f (add64 c b,d)
 else
 if (a.first != d) then
 some false
 else
 f (c,add64 d b)
def zaK.l1 (n:Nat) (t0:List Int) (t1:List Table) (c:(Int×Int×Int)→Option Bool) (s:Int×Int×Int):Option Bool:=
 if (decide (s.2.2<(t1.length:Int))) then
 jn (λ(a:Int×Int)=>
 c (a.1,a.2,add64 s.2.2 1)) λb=>
 (idx t1 s.2.2).bind λd=>
 loopF (zaK.l2 n t0 t1 s.1 s.2.1 s.2.2 b d) n 0
 else
 some ((decide (s.1≤128))&&(decide (s.2.1≤64)))
def zaK (n:Nat) (t0:List Int) (t1:List Table):Option Bool:=
 grd ((decide (4<(t0.length:Int)))||(zbj n t0).isSome) <|
 if (((decide (4<(t0.length:Int)))||(!((zbj n t0).getD default)))||(decide (12<(t1.length:Int)))) then
 some false
 else
 loopF (zaK.l1 n t0 t1) n (0,0,0)
def zaP.l2 (n:Nat) (t0:List Int) (t1:List Table) (t2:Bool) (a:Int) (c:((List Range)×Int)→Option (List Range)) (d:((List Range)×Int)→Option (List Range)) (s:(List Range)×Int):Option (List Range):=
 (idx t1 a).bind λe=>
 (zb6 n e.kind).bind λb=>
 grd (!(b==t2)||(idx t1 a).isSome) <|
 grd (!(b==t2)||(zai n t0 (((idx t1 a).getD default).columns)).isSome) <|
 if ((b==t2)&&(decide (s.2<((zai n t0 (((idx t1 a).getD default).columns)).getD default)))) then
 (idx t1 a).bind λf=>
 (app 16 s.1 [f.range]).bind λg=>
 d (g,add64 s.2 1)
 else
 c (s.1,add64 a 1)
def zaP.l1 (n:Nat) (t0:List Int) (t1:List Table) (t2:Bool) (a:((List Range)×Int)→Option (List Range)) (s:(List Range)×Int):Option (List Range):=
 if (decide (s.2<(t1.length:Int))) then
 loopF (zaP.l2 n t0 t1 t2 s.2 a) n (s.1,0)
 else
 some s.1
def zaP (n:Nat) (t0:List Int) (t1:List Table) (t2:Bool):Option (List Range):=
 (zaK n t0 t1).bind λa=>
 if (!a) then
 some ([]:List Range)
 else
 loopF (zaP.l1 n t0 t1 t2) n (([]:List Range),0)
def zcr (n:Nat) (t0:Model):Option (List Range):=
 (zaP n t0.sorts t0.tables true).bind λa=>
 some a
def zbU.l2 (n:Nat) (a:List Range) (d:(Int×Int)→Option Bool) (s:Int×Int):Option Bool:=
 if (decide (s.2<(a.length:Int))) then
 (idx a s.2).bind λb=>
 (idx a s.2).bind λc=>
 if (decide (4096<mul64 s.1 (add64 (sub64 b.hi c.lo) 1))) then
 some false
 else
 d (mul64 s.1 (add64 (sub64 b.hi c.lo) 1),add64 s.2 1)
 else
 some true
def zbU.l1 (n:Nat) (t0:Model) (c:Int→Option Bool) (a:Int):Option Bool:=
 if (decide (a<(t0.actions.length:Int))) then
 (idx t0.actions a).bind λd=>
 if (decide (4<(d.effect.hold.length:Int))) then
 some false
 else
 c (add64 a 1)
 else
 (zcr n t0).bind λb=>
 if (decide (12<(b.length:Int))) then
 some false
 else
 loopF (zbU.l2 n b) n (1,0)
def zbU (n:Nat) (t0:Model):Option Bool:=
 (zt n t0).bind λa=>
 if (((!a)||(decide (12<(t0.actions.length:Int))))||(decide (40<(t0.constraints.length:Int)))) then
 some false
 else
 loopF (zbU.l1 n t0) n 0
def zaw.l1 (n:Nat) (t0:List (List UInt8)) (c:Int→Option Bool) (a:Int):Option Bool:=
 if (decide (a<(t0.length:Int))) then
 (idx t0 a).bind λd=>
 (zf1 n d).bind λb=>
 grd ((!b)||(cut t0 0 a).isSome) <|
 grd ((!b)||(idx t0 a).isSome) <|
 grd ((!b)||(zcD n ((cut t0 0 a).getD default) ((idx t0 a).getD default)).isSome) <|
 if ((!b)||((zcD n ((cut t0 0 a).getD default) ((idx t0 a).getD default)).getD default)) then
 some false
 else
 c (add64 a 1)
 else
 some true
def zaw (n:Nat) (t0:List (List UInt8)):Option Bool:=
 loopF (zaw.l1 n t0) n 0
def zaQ.l1 (n:Nat) (t0:List Term) (t1:List Term) (b:Int→Option Bool) (a:Int):Option Bool:=
 if (decide (a<(t0.length:Int))) then
 (idx t0 a).bind λc=>
 (idx t1 a).bind λd=>
 if (!decide ((c:Term)=d)) then
 some false
 else
 b (add64 a 1)
 else
 some true
def zaQ (n:Nat) (t0:List Term) (t1:List Term):Option Bool:=
 if ((t0.length:Int) != (t1.length:Int)) then
 some false
 else
 loopF (zaQ.l1 n t0 t1) n 0
def zcx (n:Nat) (t0:Row) (t1:Row):Option Bool:=
 grd (!(t0.bound==t1.bound)||(zaQ n t0.terms t1.terms).isSome) <|
 some ((t0.bound==t1.bound)&&((zaQ n t0.terms t1.terms).getD default))
def zan (n:Nat) (t0:Int) (t1:Int):Option Bool:=
 some ((decide (neg64 t1≤t0))&&(decide (t0≤t1)))
def zcn.l1 (n:Nat) (t0:Row) (t1:Int) (c:Int→Option Bool) (b:Int):Option Bool:=
 if (decide (b<(t0.terms.length:Int))) then
 (idx t0.terms b).bind λa=>
 grd (((decide (a.cell<0))||(decide (t1≤a.cell)))||(!(decide (0<b))||(idx t0.terms (sub64 b 1)).isSome)) <|
 grd (((((decide (a.cell<0))||(decide (t1≤a.cell)))||((decide (0<b))&&(decide (a.cell≤((idx t0.terms (sub64 b 1)).getD default).cell))))||(a.factor==0))||(zan n a.factor 1000).isSome) <|
 if (((((decide (a.cell<0))||(decide (t1≤a.cell)))||((decide (0<b))&&(decide (a.cell≤((idx t0.terms (sub64 b 1)).getD default).cell))))||(a.factor==0))||(!((zan n a.factor 1000).getD default))) then
 some false
 else
 c (add64 b 1)
 else
 (zan n t0.bound 1000000000).bind λd=>
 some d
def zcn (n:Nat) (t0:Row) (t1:Int):Option Bool:=
 loopF (zcn.l1 n t0 t1) n 0
def zbG.l1 (n:Nat) (t0:Model) (t1:Constraint) (c:Int→Option Bool) (b:Int):Option Bool:=
 if (decide (b<(t0.tables.length:Int))) then
 (idx t0.tables b).bind λa=>
 grd (!((a.kind==0)&&((a.columns.length:Int)==2))||(idx a.columns 0).isSome) <|
 grd (!((a.kind==0)&&((a.columns.length:Int)==2))||(idx a.columns 1).isSome) <|
 grd (!((((a.kind==0)&&((a.columns.length:Int)==2))&&(((idx a.columns 0).getD default)==((idx a.columns 1).getD default)))&&(a.first==t1.first))||(idx a.columns 0).isSome) <|
 grd (!((((a.kind==0)&&((a.columns.length:Int)==2))&&(((idx a.columns 0).getD default)==((idx a.columns 1).getD default)))&&(a.first==t1.first))||(idx t0.sorts ((idx a.columns 0).getD default)).isSome) <|
 if (((((a.kind==0)&&((a.columns.length:Int)==2))&&(((idx a.columns 0).getD default)==((idx a.columns 1).getD default)))&&(a.first==t1.first))&&(((idx t0.sorts ((idx a.columns 0).getD default)).getD default)==t1.size)) then
 some true
 else
 c (add64 b 1)
 else
 some false
def zbG (n:Nat) (t0:Model) (t1:Constraint):Option Bool:=
 if ((decide (0<(t1.row.terms.length:Int)))||(t1.row.bound != 0)) then
 some false
 else
 loopF (zbG.l1 n t0 t1) n 0
def zR.l2 (n:Nat) (t0:Model) (b:List Range) (d:Int→Option Bool) (c:Int):Option Bool:=
 if (decide (c<(t0.constraints.length:Int))) then
 (idx t0.constraints c).bind λa=>
 if ((decide (a.family<0))||(decide ((t0.families.length:Int)≤a.family))) then
 some false
 else
 grd (!(((a.kind==0)&&(a.first==0))&&(a.size==0))||(zcn n a.row (b.length:Int)).isSome) <|
 grd (!(!((((a.kind==0)&&(a.first==0))&&(a.size==0))&&((zcn n a.row (b.length:Int)).getD default)))||(!((decide (mul64 2 (b.length:Int)≤c))&&(a.kind==1))||(zbG n t0 a).isSome)) <|
 if ((!((((a.kind==0)&&(a.first==0))&&(a.size==0))&&((zcn n a.row (b.length:Int)).getD default)))&&(!(((decide (mul64 2 (b.length:Int)≤c))&&(a.kind==1))&&((zbG n t0 a).getD default)))) then
 some false
 else
 d (add64 c 1)
 else
 some true
def zR.l1 (n:Nat) (t0:Model) (b:List Range) (e:Int→Option Bool) (a:Int):Option Bool:=
 if (decide (a<(b.length:Int))) then
 (idx b a).bind λf=>
 (idx b a).bind λd=>
 (idx t0.constraints (mul64 2 a)).bind λg=>
 (zcx n g.row (⟨[(⟨a,(-1)⟩:Term)],neg64 f.lo⟩:Row)).bind λc=>
 grd ((!c)||(idx t0.constraints (add64 (mul64 2 a) 1)).isSome) <|
 grd ((!c)||(zcx n (((idx t0.constraints (add64 (mul64 2 a) 1)).getD default).row) (⟨[(⟨a,1⟩:Term)],d.hi⟩:Row)).isSome) <|
 if ((!c)||(!((zcx n (((idx t0.constraints (add64 (mul64 2 a) 1)).getD default).row) (⟨[(⟨a,1⟩:Term)],d.hi⟩:Row)).getD default))) then
 some false
 else
 e (add64 a 1)
 else
 loopF (zR.l2 n t0 b) n 0
def zR (n:Nat) (t0:Model):Option Bool:=
 (zcr n t0).bind λa=>
 if ((decide ((t0.constraints.length:Int)<mul64 2 (a.length:Int)))||(decide (512<(t0.constraints.length:Int)))) then
 some false
 else
 loopF (zR.l1 n t0 a) n 0
def zb3.l1 (n:Nat) (t0:List Int) (t1:List Int) (b:Int→Option Bool) (a:Int):Option Bool:=
 if ((decide (a<(t0.length:Int)))&&(decide (a<(t1.length:Int)))) then
 (idx t0 a).bind λc=>
 (idx t1 a).bind λd=>
 if (c != d) then
 (idx t0 a).bind λe=>
 (idx t1 a).bind λf=>
 some (decide (e<f))
 else
 b (add64 a 1)
 else
 some (decide ((t0.length:Int)<(t1.length:Int)))
def zb3 (n:Nat) (t0:List Int) (t1:List Int):Option Bool:=
 loopF (zb3.l1 n t0 t1) n 0
def zdU.l1 (n:Nat) (t0:List Int) (t1:List Int) (c:((List Int)×Int×Int)→Option (List Int)) (s:(List Int)×Int×Int):Option (List Int):=
 let a:=s.2.2
 if (decide (0≤a)) then
 (idx t1 a).bind λd=>
 (idx t0 d).bind λe=>
 (rem64 s.2.1 e).bind λf=>
 (idx s.1 a).bind λj=>
 (sto s.1 a f).bind λb=>
 (idx t1 a).bind λg=>
 (idx t0 g).bind λh=>
 (quo64 s.2.1 h).bind λi=>
 c (b,i,sub64 a 1)
 else
 some s.1
def zdU (n:Nat) (t0:List Int) (t1:List Int) (t2:Int):Option (List Int):=
 (mkl 8 (t1.length:Int) (0:Int)).bind λa=>
 loopF (zdU.l1 n t0 t1) n (a,t2,sub64 (t1.length:Int) 1)
def zcw.l1 (n:Nat) (t0:List Int) (t1:List Table) (t2:Bool) (t3:Int) (d:Int→Option (Int×(List Int)×Bool)) (a:Int):Option (Int×(List Int)×Bool):=
 if (decide (a<(t1.length:Int))) then
 (idx t1 a).bind λb=>
 (idx t1 a).bind λe=>
 (zb6 n e.kind).bind λc=>
 grd (!(((c==t2)&&(decide (0≤t3)))&&(decide (0≤sub64 t3 b.first)))||(idx t1 a).isSome) <|
 grd (!(((c==t2)&&(decide (0≤t3)))&&(decide (0≤sub64 t3 b.first)))||(zai n t0 (((idx t1 a).getD default).columns)).isSome) <|
 if ((((c==t2)&&(decide (0≤t3)))&&(decide (0≤sub64 t3 b.first)))&&(decide (sub64 t3 b.first<((zai n t0 (((idx t1 a).getD default).columns)).getD default)))) then
 (idx t1 a).bind λf=>
 (zdU n t0 f.columns (sub64 t3 b.first)).bind λg=>
 some (a,g,true)
 else
 d (add64 a 1)
 else
 some (0,[],false)
def zcw (n:Nat) (t0:List Int) (t1:List Table) (t2:Bool) (t3:Int):Option (Int×(List Int)×Bool):=
 (zaK n t0 t1).bind λa=>
 if (!a) then
 some (0,[],false)
 else
 loopF (zcw.l1 n t0 t1 t2 t3) n 0
def ref13_set (n:Nat) (t0:Int):Option Bool:=
 some ((t0==2)||(t0==3))
def z9.l3 (n:Nat) (t0:Model) (t1:Effect) (e:Int→Option Bool) (b:Int):Option Bool:=
 if (decide (b<(t1.updates.length:Int))) then
 (idx t1.updates b).bind λa=>
 (zcw n t0.sorts t0.tables false a.cell).bind λd=>
 grd ((!d.2.2)||(!(decide (0<b))||(idx t1.updates (sub64 b 1)).isSome)) <|
 if ((!d.2.2)||((decide (0<b))&&(decide (a.cell≤((idx t1.updates (sub64 b 1)).getD default).cell)))) then
 some false
 else
 (idx t0.tables d.1).bind λc=>
 (ref13_set n c.kind).bind λf=>
 if (f&&(((a.kind != 0)&&(a.kind != 1))||(a.value != 0))) then
 some false
 else
 (ref13_set n c.kind).bind λg=>
 if ((!g)&&(((a.kind != 2)||(decide (a.value<c.range.lo)))||(decide (c.range.hi<a.value)))) then
 some false
 else
 e (add64 b 1)
 else
 some ((decide ((t1.hold.length:Int)≤8))&&(decide ((t1.updates.length:Int)≤32)))
def z9.l2 (n:Nat) (t0:Model) (t1:Effect) (c:List Range) (b:Int→Option Bool) (a:Int):Option Bool:=
 if (decide (a<(t1.hold.length:Int))) then
 (idx t1.hold a).bind λd=>
 (zcn n d (c.length:Int)).bind λe=>
 if (!e) then
 some false
 else
 b (add64 a 1)
 else
 loopF (z9.l3 n t0 t1) n 0
def z9.l1 (n:Nat) (t0:Model) (t1:Effect) (c:List Range) (d:Int→Option Bool) (b:Int):Option Bool:=
 if (decide (b<(t1.delta.length:Int))) then
 (idx t1.delta b).bind λa=>
 grd (((decide (a.cell<0))||(decide ((c.length:Int)≤a.cell)))||(!(decide (0<b))||(idx t1.delta (sub64 b 1)).isSome)) <|
 grd (((((decide (a.cell<0))||(decide ((c.length:Int)≤a.cell)))||((decide (0<b))&&(decide (a.cell≤((idx t1.delta (sub64 b 1)).getD default).cell))))||(a.add==0))||(zan n a.add 1000000000).isSome) <|
 if (((((decide (a.cell<0))||(decide ((c.length:Int)≤a.cell)))||((decide (0<b))&&(decide (a.cell≤((idx t1.delta (sub64 b 1)).getD default).cell))))||(a.add==0))||(!((zan n a.add 1000000000).getD default))) then
 some false
 else
 d (add64 b 1)
 else
 loopF (z9.l2 n t0 t1 c) n 0
def z9 (n:Nat) (t0:Model) (t1:Effect):Option Bool:=
 (zcr n t0).bind λa=>
 loopF (z9.l1 n t0 t1 a) n 0
def zu.l4 (n:Nat) (t0:Model) (e:Int) (g:Int→Option Bool) (a:Action) (h:Int→Option Bool) (b:Int):Option Bool:=
 if (decide (b<(a.arguments.length:Int))) then
 (idx t0.operations a.operation).bind λi=>
 (idx i.sorts b).bind λc=>
 grd (!(decide (c<0))||(idx a.arguments b).isSome) <|
 grd (!(decide (c<0))||(zan n ((idx a.arguments b).getD default) 9999).isSome) <|
 grd (((decide (c<0))&&(!((zan n ((idx a.arguments b).getD default) 9999).getD default)))||(!(decide (0≤c))||(idx a.arguments b).isSome)) <|
 grd (((decide (c<0))&&(!((zan n ((idx a.arguments b).getD default) 9999).getD default)))||(!(decide (0≤c))||((decide (((idx a.arguments b).getD default)<0))||(idx a.arguments b).isSome))) <|
 grd (((decide (c<0))&&(!((zan n ((idx a.arguments b).getD default) 9999).getD default)))||(!(decide (0≤c))||((decide (((idx a.arguments b).getD default)<0))||(idx t0.sorts c).isSome))) <|
 if (((decide (c<0))&&(!((zan n ((idx a.arguments b).getD default) 9999).getD default)))||((decide (0≤c))&&((decide (((idx a.arguments b).getD default)<0))||(decide (((idx t0.sorts c).getD default)≤((idx a.arguments b).getD default)))))) then
 some false
 else
 h (add64 b 1)
 else
 jn (λ(k:Unit)=>
 (z9 n t0 a.effect).bind λj=>
 if (!j) then
 some false
 else
 g (add64 e 1)) λf=>
 if (decide (0<e)) then
 (idx t0.actions (sub64 e 1)).bind λd=>
 grd ((decide (a.operation<d.operation))||(!(d.operation==a.operation)||(zb3 n d.arguments a.arguments).isSome)) <|
 if ((decide (a.operation<d.operation))||((d.operation==a.operation)&&(!((zb3 n d.arguments a.arguments).getD default)))) then
 some false
 else
 f ()
 else
 f ()
def zu.l3 (n:Nat) (t0:Model) (c:Int→Option Bool) (b:Int):Option Bool:=
 if (decide (b<(t0.actions.length:Int))) then
 (idx t0.actions b).bind λa=>
 grd (((decide (a.operation<0))||(decide ((t0.operations.length:Int)≤a.operation)))||(idx t0.operations a.operation).isSome) <|
 if (((decide (a.operation<0))||(decide ((t0.operations.length:Int)≤a.operation)))||((a.arguments.length:Int) != ((((idx t0.operations a.operation).getD default).sorts).length:Int))) then
 some false
 else
 loopF (zu.l4 n t0 b c a) n 0
 else
 some true
def zu.l2 (n:Nat) (t0:Model) (g:Int) (d:((List (List UInt8))×Int)→Option Bool) (a:Operation) (f:List (List UInt8)) (e:Int→Option Bool) (b:Int):Option Bool:=
 if (decide (b<(a.sorts.length:Int))) then
 (idx a.sorts b).bind λc=>
 grd ((decide (c<(-1)))||(idx a.sorts b).isSome) <|
 if ((decide (c<(-1)))||(decide ((t0.sorts.length:Int)≤((idx a.sorts b).getD default)))) then
 some false
 else
 e (add64 b 1)
 else
 if (decide (3<(a.sorts.length:Int))) then
 some false
 else
 d (f,add64 g 1)
def zu.l1 (n:Nat) (t0:Model) (b:((List (List UInt8))×Int)→Option Bool) (s:(List (List UInt8))×Int):Option Bool:=
 if (decide (s.2<(t0.operations.length:Int))) then
 (idx t0.operations s.2).bind λa=>
 (app 16 s.1 [a.name]).bind λc=>
 loopF (zu.l2 n t0 s.2 b a c) n 0
 else
 grd ((decide (8<(t0.operations.length:Int)))||(zaw n s.1).isSome) <|
 if (((decide (8<(t0.operations.length:Int)))||(!((zaw n s.1).getD default)))||(decide (256<(t0.actions.length:Int)))) then
 some false
 else
 loopF (zu.l3 n t0) n 0
def zu (n:Nat) (t0:Model):Option Bool:=
 loopF (zu.l1 n t0) n (([]:List (List UInt8)),0)
def zaD.l1 (n:Nat) (self:Model→Int→Int→Int→Option Bool) (t0:Model) (t1:Int) (t2:Int) (t3:Int) (c:Int→Option Bool) (a:Int):Option Bool:=
 if ((decide (a<(t0.hides.length:Int)))&&(decide (0<t3))) then
 (idx t0.hides a).bind λb=>
 grd (!(b.table==t1)||(idx t0.hides a).isSome) <|
 grd (!(b.table==t1)||(self t0 (((idx t0.hides a).getD default).to) t2 (sub64 t3 1)).isSome) <|
 if ((b.table==t1)&&((self t0 (((idx t0.hides a).getD default).to) t2 (sub64 t3 1)).getD default)) then
 some true
 else
 c (add64 a 1)
 else
 some false
def zaD.body (n:Nat) (self:Model→Int→Int→Int→Option Bool) (t0:Model) (t1:Int) (t2:Int) (t3:Int):Option Bool:=
 if (t1==t2) then
 some true
 else
 loopF (zaD.l1 n self t0 t1 t2 t3) n 0
def zaD:Nat→Model→Int→Int→Int→Option Bool
 | 0,_,_,_,_=>none
 | n+1,t0,t1,t2,t3=>zaD.body n (zaD n) t0 t1 t2 t3
def zaA.l2 (n:Nat) (t0:Model) (b:Int→Option Bool) (a:Int):Option Bool:=
 if (decide (a<(t0.hides.length:Int))) then
 (idx t0.hides a).bind λc=>
 (idx t0.hides a).bind λd=>
 (zaD n t0 c.to d.table (t0.tables.length:Int)).bind λe=>
 if e then
 some false
 else
 b (add64 a 1)
 else
 some true
def zaA.l1 (n:Nat) (t0:Model) (e:Int→Option Bool) (d:Int):Option Bool:=
 if (decide (d<(t0.hides.length:Int))) then
 (idx t0.hides d).bind λa=>
 if (((((decide (a.table<0))||(decide ((t0.tables.length:Int)≤a.table)))||(decide (a.to<0)))||(decide ((t0.tables.length:Int)≤a.to)))||(a.table==a.to)) then
 some false
 else
 (idx t0.tables a.table).bind λb=>
 (idx t0.tables a.to).bind λc=>
 grd ((((((b.kind != 0)||(c.kind != 0))||(decide (a.column<0)))||(decide ((b.columns.length:Int)≤a.column)))||((c.columns.length:Int) != 1))||(idx c.columns 0).isSome) <|
 grd ((((((b.kind != 0)||(c.kind != 0))||(decide (a.column<0)))||(decide ((b.columns.length:Int)≤a.column)))||((c.columns.length:Int) != 1))||(idx b.columns a.column).isSome) <|
 if ((((((b.kind != 0)||(c.kind != 0))||(decide (a.column<0)))||(decide ((b.columns.length:Int)≤a.column)))||((c.columns.length:Int) != 1))||(((idx c.columns 0).getD default) != ((idx b.columns a.column).getD default))) then
 some false
 else
 e (add64 d 1)
 else
 loopF (zaA.l2 n t0) n 0
def zaA (n:Nat) (t0:Model):Option Bool:=
 if (decide (12<(t0.hides.length:Int))) then
 some false
 else
 loopF (zaA.l1 n t0) n 0
def ze3 (n:Nat) (t0:Model):Option Bool:=
 (zaK n t0.sorts t0.tables).bind λb=>
 grd (((!b)||(decide (24<(t0.families.length:Int))))||(zaw n t0.families).isSome) <|
 if (((!b)||(decide (24<(t0.families.length:Int))))||(!((zaw n t0.families).getD default))) then
 some false
 else
 (zR n t0).bind λa=>
 grd (!a||(zu n t0).isSome) <|
 grd (!(a&&((zu n t0).getD default))||(zaA n t0).isSome) <|
 some ((a&&((zu n t0).getD default))&&((zaA n t0).getD default))
def zbI.l1 (n:Nat) (t0:Effect) (t1:Int) (b:(Int×Int)→Option Int) (s:Int×Int):Option Int:=
 if (decide (s.2<(t0.delta.length:Int))) then
 jn (λ(e:Int)=>
 b (e,add64 s.2 1)) λa=>
 (idx t0.delta s.2).bind λc=>
 if (c.cell==t1) then
 (idx t0.delta s.2).bind λd=>
 a (add64 s.1 d.add)
 else
 a s.1
 else
 some s.1
def zbI (n:Nat) (t0:Effect) (t1:Int):Option Int:=
 loopF (zbI.l1 n t0 t1) n (0,0)
def zeb (n:Nat) (t0:Model) (t1:Question):Option Bool:=
 (ze3 n t0).bind λb=>
 if ((((((!b)||(decide (t1.e<0)))||(decide (t1.f<0)))||(decide ((t0.actions.length:Int)≤t1.e)))||(decide ((t0.actions.length:Int)≤t1.f)))||(decide (t1.target.index<0))) then
 some false
 else
 if t1.target.hold then
 (idx t0.actions t1.e).bind λa=>
 some (decide (t1.target.index<(a.effect.hold.length:Int)))
 else
 some ((decide (t1.e≤t1.f))&&(decide (t1.target.index<(t0.constraints.length:Int))))
def zcV (n:Nat) (t0:Int):Option Bool:=
 some ((t0==0)||(t0==1))
def zbs.l1 (n:Nat) (t0:Model) (t1:Table) (a:(Int×Int)→Option Int) (s:Int×Int):Option Int:=
 if (decide (s.2<(t1.columns.length:Int))) then
 (idx t1.columns s.2).bind λb=>
 (idx t0.sorts b).bind λc=>
 a (mul64 s.1 c,add64 s.2 1)
 else
 some s.1
def zbs (n:Nat) (t0:Model) (t1:Table):Option Int:=
 loopF (zbs.l1 n t0 t1) n (1,0)
def zb7.l2 (n:Nat) (t0:Model) (a:Int) (b:((List Range))→Option (List Range)) (c:((List Range)×Int)→Option (List Range)) (s:(List Range)×Int):Option (List Range):=
 (idx t0.tables a).bind λd=>
 (zbs n t0 d).bind λe=>
 if (decide (s.2<e)) then
 (idx t0.tables a).bind λf=>
 (app 16 s.1 [f.range]).bind λg=>
 c (g,add64 s.2 1)
 else
 b s.1
def zb7.l1 (n:Nat) (t0:Model) (c:((List Range)×Int)→Option (List Range)) (s:(List Range)×Int):Option (List Range):=
 if (decide (s.2<(t0.tables.length:Int))) then
 jn (λ(b:(List Range))=>
 c (b,add64 s.2 1)) λa=>
 (idx t0.tables s.2).bind λd=>
 (zcV n d.kind).bind λe=>
 if e then
 loopF (zb7.l2 n t0 s.2 a) n (s.1,0)
 else
 a s.1
 else
 some s.1
def zb7 (n:Nat) (t0:Model):Option (List Range):=
 loopF (zb7.l1 n t0) n (([]:List Range),0)
def ref19_Valid (n:Nat) (t0:Int) (t1:List Bool):Option Bool:=
 some (((decide (1≤t0))&&(decide (t0≤6)))&&((t1.length:Int)==(mul64 t0 t0)))
def zcX.l1 (n:Nat) (t0:List Int) (t1:Int) (b:Int→Option Bool) (a:Int):Option Bool:=
 if (decide (a<(t0.length:Int))) then
 (idx t0 a).bind λc=>
 if (c==t1) then
 some true
 else
 b (add64 a 1)
 else
 some false
def zcX (n:Nat) (t0:List Int) (t1:Int):Option Bool:=
 loopF (zcX.l1 n t0 t1) n 0
def zdE.l1 (n:Nat) (t0:List Int) (t1:Int) (a:((List Int)×Int)→Option (List Int)) (s:(List Int)×Int):Option (List Int):=
 if (decide (s.2<(t0.length:Int))) then
 (idx t0 s.2).bind λb=>
 (app 8 s.1 [b]).bind λc=>
 a (c,add64 s.2 1)
 else
 (app 8 s.1 [t1]).bind λd=>
 some d
def zdE (n:Nat) (t0:List Int) (t1:Int):Option (List Int):=
 loopF (zdE.l1 n t0 t1) n (([]:List Int),0)
def zC.l4 (n:Nat) (t0:Int) (t1:List Bool) (b:List (List Int)) (a:Int) (g:((List (List Int))×(List (List Int))×Int)→Option (List (List Int))) (l:Int) (e:List (List Int)) (h:((List (List Int))×Int)→Option (List (List Int))) (s:(List (List Int))×Int):Option (List (List Int)):=
 if (decide (s.2<t0)) then
 jn (λ(f:(List (List Int)))=>
 h (f,add64 s.2 1)) λd=>
 (idx t1 (add64 (mul64 l t0) s.2)).bind λc=>
 grd (!c||(idx b a).isSome) <|
 grd (!c||(zcX n ((idx b a).getD default) s.2).isSome) <|
 if (c&&(!((zcX n ((idx b a).getD default) s.2).getD default))) then
 (idx b a).bind λi=>
 (zdE n i s.2).bind λj=>
 (app 24 s.1 [j]).bind λk=>
 d k
 else
 d s.1
 else
 g (e,s.1,add64 a 1)
def zC.l3 (n:Nat) (t0:Int) (t1:List Bool) (b:List (List Int)) (p:Int) (g:((List (List Int))×(List (List Int))×Int)→Option (List (List Int))) (h:((List (List Int))×(List (List Int))×Int)→Option (List (List Int))) (s:(List (List Int))×(List (List Int))×Int):Option (List (List Int)):=
 let a:=s.2.2
 if (decide (a<(b.length:Int))) then
 (idx b a).bind λi=>
 (idx i 0).bind λd=>
 (idx b a).bind λj=>
 (idx b a).bind λk=>
 (idx j (sub64 (k.length:Int) 1)).bind λe=>
 jn (λ(f:(List (List Int)))=>
 loopF (zC.l4 n t0 t1 b a h e f) n (s.2.1,add64 d 1)) λc=>
 (idx t1 (add64 (mul64 e t0) d)).bind λl=>
 if l then
 (idx b a).bind λm=>
 (app 24 s.1 [m]).bind λo=>
 c o
 else
 c s.1
 else
 g (s.1,s.2.1,add64 p 1)
def zC.l2 (n:Nat) (t0:Int) (t1:List Bool) (a:((List (List Int))×(List (List Int))×Int)→Option (List (List Int))) (s:(List (List Int))×(List (List Int))×Int):Option (List (List Int)):=
 if (decide (s.2.2<t0)) then
 loopF (zC.l3 n t0 t1 s.2.1 s.2.2 a) n (s.1,([]:List (List Int)),0)
 else
 some s.1
def zC.l1 (n:Nat) (t0:Int) (t1:List Bool) (a:((List (List Int))×Int)→Option (List (List Int))) (s:(List (List Int))×Int):Option (List (List Int)):=
 if (decide (s.2<t0)) then
 (app 24 s.1 [[s.2]]).bind λb=>
 a (b,add64 s.2 1)
 else
 loopF (zC.l2 n t0 t1) n (([]:List (List Int)),s.1,0)
def zC (n:Nat) (t0:Int) (t1:List Bool):Option (List (List Int)):=
 (ref19_Valid n t0 t1).bind λa=>
 if (!a) then
 some ([]:List (List Int))
 else
 loopF (zC.l1 n t0 t1) n (([]:List (List Int)),0)
def zaE.l3 (n:Nat) (t1:Constraint) (t2:Effect) (t3:Effect) (e:List (List Int)) (g:List (List Row)) (c:Int) (h:((List (List Row)))→Option (List (List Row))) (i:((List Row)×Bool×Bool×Int)→Option (List (List Row))) (s:(List Row)×Bool×Bool×Int):Option (List (List Row)):=
 let f:=s.2.2.1
 let d:=s.2.2.2
 (idx e c).bind λo=>
 if (decide (d<(o.length:Int))) then
 (idx e c).bind λp=>
 (idx e c).bind λq=>
 (rem64 (add64 d 1) (q.length:Int)).bind λr=>
 (idx p r).bind λa=>
 (idx e c).bind λt=>
 (idx t d).bind λb=>
 grd (s.2.1||(zbI n t2 (add64 (add64 t1.first (mul64 b t1.size)) a)).isSome) <|
 grd (f||(zbI n t3 (add64 (add64 t1.first (mul64 b t1.size)) a)).isSome) <|
 (zbI n t2 (add64 (add64 t1.first (mul64 b t1.size)) a)).bind λj=>
 (zbI n t3 (add64 (add64 t1.first (mul64 b t1.size)) a)).bind λk=>
 (app 32 s.1 [(⟨[(⟨add64 (add64 t1.first (mul64 b t1.size)) a,(-1)⟩:Term)],add64 (add64 (-1) j) k⟩:Row)]).bind λl=>
 i (l,s.2.1||(decide (0<((zbI n t2 (add64 (add64 t1.first (mul64 b t1.size)) a)).getD default))),f||(decide (0<((zbI n t3 (add64 (add64 t1.first (mul64 b t1.size)) a)).getD default))),add64 d 1)
 else
 if (s.2.1&&f) then
 (app 24 g [s.1]).bind λm=>
 h m
 else
 h g
def zaE.l2 (n:Nat) (t1:Constraint) (t2:Effect) (t3:Effect) (a:List (List Int)) (d:((List (List Row))×Int)→Option (List (List Row))) (s:(List (List Row))×Int):Option (List (List Row)):=
 if (decide (s.2<(a.length:Int))) then
 jn (λ(b:(List (List Row)))=>
 d (b,add64 s.2 1)) λc=>
 loopF (zaE.l3 n t1 t2 t3 a s.1 s.2 c) n (([]:List Row),false,false,0)
 else
 some s.1
def zaE.l1 (n:Nat) (t0:List Range) (t1:Constraint) (t2:Effect) (t3:Effect) (a:((List Bool)×Int)→Option (List (List Row))) (s:(List Bool)×Int):Option (List (List Row)):=
 if (decide (s.2<mul64 t1.size t1.size)) then
 (idx t0 (add64 t1.first s.2)).bind λb=>
 (zbI n t2 (add64 t1.first s.2)).bind λc=>
 (zbI n t3 (add64 t1.first s.2)).bind λd=>
 (app 1 s.1 [decide (1≤add64 (add64 b.hi c) d)]).bind λe=>
 a (e,add64 s.2 1)
 else
 (zC n t1.size s.1).bind λf=>
 loopF (zaE.l2 n t1 t2 t3 f) n (([]:List (List Row)),0)
def zaE (n:Nat) (t0:List Range) (t1:Constraint) (t2:Effect) (t3:Effect):Option (List (List Row)):=
 loopF (zaE.l1 n t0 t1 t2 t3) n (([]:List Bool),0)
def zaS (n:Nat) (t0:Int) (t1:Int) (t2:Int):Option Bool:=
 some ((decide (t1≤t0))&&(decide (t0≤t2)))
def zdV.l1 (n:Nat) (t0:Row) (t1:Int) (b:(Int×Int)→Option Bool) (s:Int×Int):Option Bool:=
 if (decide (s.2<(t0.terms.length:Int))) then
 (idx t0.terms s.2).bind λa=>
 grd ((((decide (a.cell≤s.1))||(decide (t1≤a.cell)))||(a.factor==0))||(zaS n a.factor (-1000) 1000).isSome) <|
 if ((((decide (a.cell≤s.1))||(decide (t1≤a.cell)))||(a.factor==0))||(!((zaS n a.factor (-1000) 1000).getD default))) then
 some false
 else
 b (a.cell,add64 s.2 1)
 else
 (zaS n t0.bound (-1000000000) 1000000000).bind λc=>
 some c
def zdV (n:Nat) (t0:Row) (t1:Int):Option Bool:=
 loopF (zdV.l1 n t0 t1) n ((-1),0)
def zS.l2 (n:Nat) (t0:List Range) (t1:List Row) (b:Int→Option Bool) (a:Int):Option Bool:=
 if (decide (a<(t1.length:Int))) then
 (idx t1 a).bind λc=>
 (zdV n c (t0.length:Int)).bind λd=>
 if (!d) then
 some false
 else
 b (add64 a 1)
 else
 some true
def zS.l1 (n:Nat) (t0:List Range) (t1:List Row) (c:Int→Option Bool) (a:Int):Option Bool:=
 if (decide (a<(t0.length:Int))) then
 (idx t0 a).bind λd=>
 (zaS n d.lo (-1000000) 1000000).bind λb=>
 grd ((!b)||(idx t0 a).isSome) <|
 grd ((!b)||(zaS n (((idx t0 a).getD default).hi) (-1000000) 1000000).isSome) <|
 if ((!b)||(!((zaS n (((idx t0 a).getD default).hi) (-1000000) 1000000).getD default))) then
 some false
 else
 c (add64 a 1)
 else
 loopF (zS.l2 n t0 t1) n 0
def zS (n:Nat) (t0:List Range) (t1:List Row):Option Bool:=
 if (decide (128<(t0.length:Int))) then
 some false
 else
 loopF (zS.l1 n t0 t1) n 0
def zbW.l1 (n:Nat) (t0:List Range) (b:Int→Option Bool) (a:Int):Option Bool:=
 if (decide (a<(t0.length:Int))) then
 (idx t0 a).bind λc=>
 (idx t0 a).bind λd=>
 if (decide (d.hi<c.lo)) then
 some true
 else
 b (add64 a 1)
 else
 some false
def zbW (n:Nat) (t0:List Range):Option Bool:=
 loopF (zbW.l1 n t0) n 0
def zag.l3 (n:Nat) (f:Int) (d:Int→Option Bool) (b:Graph) (e:Int→Option Bool) (a:Int):Option Bool:=
 if (decide (a<(b.least.length:Int))) then
 (idx b.least a).bind λc=>
 grd ((decide (c<(-4000000)))||(idx b.least a).isSome) <|
 if ((decide (c<(-4000000)))||(decide (4000000<((idx b.least a).getD default)))) then
 some false
 else
 e (add64 a 1)
 else
 d (add64 f 1)
def zag.l2 (n:Nat) (t0:System) (c:Int→Option Bool) (b:Int):Option Bool:=
 if (decide (b<(t0.graphs.length:Int))) then
 (idx t0.graphs b).bind λa=>
 if (((((decide (a.size<1))||(decide (6<a.size)))||(decide (a.first<0)))||(decide (sub64 (t0.box.length:Int) (mul64 a.size a.size)<a.first)))||((a.least.length:Int) != (mul64 a.size a.size))) then
 some false
 else
 loopF (zag.l3 n b c a) n 0
 else
 some true
def zag.l1 (n:Nat) (t0:System) (c:Int→Option Bool) (a:Int):Option Bool:=
 if (decide (a<(t0.cases.length:Int))) then
 (idx t0.cases a).bind λb=>
 grd ((decide (64<(b.length:Int)))||(idx t0.cases a).isSome) <|
 grd ((decide (64<(b.length:Int)))||(zS n t0.box ((idx t0.cases a).getD default)).isSome) <|
 if ((decide (64<(b.length:Int)))||(!((zS n t0.box ((idx t0.cases a).getD default)).getD default))) then
 some false
 else
 c (add64 a 1)
 else
 loopF (zag.l2 n t0) n 0
def zag (n:Nat) (t0:System):Option Bool:=
 grd ((((decide (1024<(t0.rows.length:Int)))||(decide (64<(t0.graphs.length:Int))))||(decide (1024<(t0.cases.length:Int))))||(zS n t0.box t0.rows).isSome) <|
 grd (((((decide (1024<(t0.rows.length:Int)))||(decide (64<(t0.graphs.length:Int))))||(decide (1024<(t0.cases.length:Int))))||(!((zS n t0.box t0.rows).getD default)))||(zbW n t0.box).isSome) <|
 if (((((decide (1024<(t0.rows.length:Int)))||(decide (64<(t0.graphs.length:Int))))||(decide (1024<(t0.cases.length:Int))))||(!((zS n t0.box t0.rows).getD default)))||((zbW n t0.box).getD default)) then
 some false
 else
 loopF (zag.l1 n t0) n 0
def zax.l1 (n:Nat) (t0:List Range) (t1:List Int) (b:Int→Option Bool) (a:Int):Option Bool:=
 if (decide (a<(t0.length:Int))) then
 (idx t1 a).bind λc=>
 (idx t0 a).bind λd=>
 (idx t0 a).bind λe=>
 (zaS n c d.lo e.hi).bind λf=>
 if (!f) then
 some false
 else
 b (add64 a 1)
 else
 some true
def zax (n:Nat) (t0:List Range) (t1:List Int):Option Bool:=
 if ((t0.length:Int) != (t1.length:Int)) then
 some false
 else
 loopF (zax.l1 n t0 t1) n 0
def zbX.l1 (n:Nat) (t1:List Int) (c:Int→Option Bool) (a:Int):Option Bool:=
 if (decide (a<(t1.length:Int))) then
 (idx t1 a).bind λb=>
 grd ((decide (b<(-4000000)))||(idx t1 a).isSome) <|
 if ((decide (b<(-4000000)))||(decide (4000000<((idx t1 a).getD default)))) then
 some false
 else
 c (add64 a 1)
 else
 some true
def zbX (n:Nat) (t0:System) (t1:List Int):Option Bool:=
 (zag n t0).bind λa=>
 if ((!a)||((t1.length:Int) != (t0.box.length:Int))) then
 some false
 else
 loopF (zbX.l1 n t1) n 0
def zaR.l1 (n:Nat) (t0:Row) (t1:List Int) (a:(Int×Int)→Option Int) (s:Int×Int):Option Int:=
 if (decide (s.2<(t0.terms.length:Int))) then
 (idx t0.terms s.2).bind λb=>
 (idx t0.terms s.2).bind λc=>
 (idx t1 c.cell).bind λd=>
 a (add64 s.1 (mul64 b.factor d),add64 s.2 1)
 else
 some s.1
def zaR (n:Nat) (t0:Row) (t1:List Int):Option Int:=
 loopF (zaR.l1 n t0 t1) n (0,0)
def za6.l1 (n:Nat) (t0:Graph) (t1:List Int) (a:((List Bool)×Int)→Option (List Bool)) (s:(List Bool)×Int):Option (List Bool):=
 if (decide (s.2<mul64 t0.size t0.size)) then
 (idx t1 (add64 t0.first s.2)).bind λb=>
 (idx t0.least s.2).bind λc=>
 (app 1 s.1 [decide (c≤b)]).bind λd=>
 a (d,add64 s.2 1)
 else
 some s.1
def za6 (n:Nat) (t0:Graph) (t1:List Int):Option (List Bool):=
 loopF (za6.l1 n t0 t1) n (([]:List Bool),0)
def zd.l5 (n:Nat) (t0:Int) (b:List Bool) (c:Int→Option Bool) (a:Int):Option Bool:=
 if (decide (a<t0)) then
 (idx b a).bind λd=>
 if d then
 some false
 else
 c (add64 a 1)
 else
 some true
def zd.l4 (n:Nat) (t0:Int) (t1:List Bool) (a:List Bool) (b:Int) (c:((List Bool))→Option Bool) (g:(Bool×Int)→Option Bool) (s:Bool×Int):Option Bool:=
 if (decide (s.2<t0)) then
 jn (λ(h:Bool)=>
 g (h,add64 s.2 1)) λd=>
 (idx a s.2).bind λe=>
 grd (!e||(idx t1 (add64 (mul64 s.2 t0) b)).isSome) <|
 if (e&&((idx t1 (add64 (mul64 s.2 t0) b)).getD default)) then
 d false
 else
 d s.1
 else
 if s.1 then
 (idx a b).bind λi=>
 (sto a b false).bind λf=>
 c f
 else
 c a
def zd.l3 (n:Nat) (t0:Int) (t1:List Bool) (e:Int) (c:((List Bool)×Int)→Option Bool) (d:((List Bool)×Int)→Option Bool) (s:(List Bool)×Int):Option Bool:=
 if (decide (s.2<t0)) then
 jn (λ(a:(List Bool))=>
 d (a,add64 s.2 1)) λb=>
 loopF (zd.l4 n t0 t1 s.1 s.2 b) n (true,0)
 else
 c (s.1,add64 e 1)
def zd.l2 (n:Nat) (t0:Int) (t1:List Bool) (a:((List Bool)×Int)→Option Bool) (s:(List Bool)×Int):Option Bool:=
 if (decide (s.2<t0)) then
 loopF (zd.l3 n t0 t1 s.2 a) n (s.1,0)
 else
 loopF (zd.l5 n t0 s.1) n 0
def zd.l1 (n:Nat) (t0:Int) (t1:List Bool) (a:((List Bool)×Int)→Option Bool) (s:(List Bool)×Int):Option Bool:=
 if (decide (s.2<t0)) then
 (app 1 s.1 [true]).bind λb=>
 a (b,add64 s.2 1)
 else
 loopF (zd.l2 n t0 t1) n (s.1,0)
def zd (n:Nat) (t0:Int) (t1:List Bool):Option Bool:=
 loopF (zd.l1 n t0 t1) n (([]:List Bool),0)
def za7.l2 (n:Nat) (t0:System) (t1:List Int) (b:List Int) (d:((List Int)×Int)→Option ((List Int)×(List Int))) (s:(List Int)×Int):Option ((List Int)×(List Int)):=
 if (decide (s.2<(t0.graphs.length:Int))) then
 jn (λ(c:(List Int))=>
 d (c,add64 s.2 1)) λa=>
 (idx t0.graphs s.2).bind λe=>
 (idx t0.graphs s.2).bind λf=>
 (za6 n f t1).bind λg=>
 (zd n e.size g).bind λh=>
 if (!h) then
 (app 8 s.1 [s.2]).bind λi=>
 a i
 else
 a s.1
 else
 some (b,s.1)
def za7.l1 (n:Nat) (t0:System) (t1:List Int) (c:((List Int)×Int)→Option ((List Int)×(List Int))) (s:(List Int)×Int):Option ((List Int)×(List Int)):=
 if (decide (s.2<(t0.rows.length:Int))) then
 jn (λ(b:(List Int))=>
 c (b,add64 s.2 1)) λa=>
 (idx t0.rows s.2).bind λd=>
 (zaR n d t1).bind λe=>
 (idx t0.rows s.2).bind λf=>
 if (decide (f.bound<e)) then
 (app 8 s.1 [s.2]).bind λg=>
 a g
 else
 a s.1
 else
 loopF (za7.l2 n t0 t1 s.1) n (([]:List Int),0)
def za7 (n:Nat) (t0:System) (t1:List Int):Option ((List Int)×(List Int)):=
 (zbX n t0 t1).bind λa=>
 if (!a) then
 some ([],[])
 else
 loopF (za7.l1 n t0 t1) n (([]:List Int),0)
def zbF.l2 (n:Nat) (t0:System) (t1:List Int) (a:Int) (c:Int→Option (Int×Bool)) (d:(Bool×Int)→Option (Int×Bool)) (s:Bool×Int):Option (Int×Bool):=
 (idx t0.cases a).bind λe=>
 if (decide (s.2<(e.length:Int))) then
 jn (λ(k:Bool)=>
 d (k,add64 s.2 1)) λb=>
 (idx t0.cases a).bind λf=>
 (idx f s.2).bind λg=>
 (zaR n g t1).bind λh=>
 (idx t0.cases a).bind λi=>
 (idx i s.2).bind λj=>
 if (decide (j.bound<h)) then
 b false
 else
 b s.1
 else
 if s.1 then
 some (a,true)
 else
 c (add64 a 1)
def zbF.l1 (n:Nat) (t0:System) (t1:List Int) (b:Int→Option (Int×Bool)) (a:Int):Option (Int×Bool):=
 if (decide (a<(t0.cases.length:Int))) then
 loopF (zbF.l2 n t0 t1 a b) n (true,0)
 else
 some (0,false)
def zbF (n:Nat) (t0:System) (t1:List Int):Option (Int×Bool):=
 (zbX n t0 t1).bind λa=>
 if (!a) then
 some (0,false)
 else
 loopF (zbF.l1 n t0 t1) n 0
def ze6 (n:Nat) (t0:System) (t1:List Int):Option Bool:=
 (zag n t0).bind λa=>
 grd ((!a)||(zax n t0.box t1).isSome) <|
 if ((!a)||(!((zax n t0.box t1).getD default))) then
 some false
 else
 (za7 n t0 t1).bind λb=>
 (zbF n t0 t1).bind λc=>
 some ((((b.1.length:Int)==0)&&((b.2.length:Int)==0))&&(((t0.cases.length:Int)==0)||c.2))
def zbV.l1 (n:Nat) (t0:Model) (b:(Int×Int)→Option Int) (s:Int×Int):Option Int:=
 if (decide (s.2<(t0.tables.length:Int))) then
 jn (λ(g:Int)=>
 b (g,add64 s.2 1)) λa=>
 (idx t0.tables s.2).bind λc=>
 (zcV n c.kind).bind λd=>
 if d then
 (idx t0.tables s.2).bind λe=>
 (zbs n t0 e).bind λf=>
 a (add64 s.1 f)
 else
 a s.1
 else
 some s.1
def zbV (n:Nat) (t0:Model):Option Int:=
 loopF (zbV.l1 n t0) n (0,0)
def zcA.l1 (n:Nat) (t0:List Range) (a:((List Int)×Int)→Option (List Int)) (s:(List Int)×Int):Option (List Int):=
 if (decide (s.2<(t0.length:Int))) then
 (idx t0 s.2).bind λb=>
 (app 8 s.1 [b.lo]).bind λc=>
 a (c,add64 s.2 1)
 else
 some s.1
def zcA (n:Nat) (t0:List Range):Option (List Int):=
 loopF (zcA.l1 n t0) n (([]:List Int),0)
def zbR.l2 (n:Nat) (t0:List Range) (t1:List Int) (b:Int) (d:((List Int)×Int)→Option ((List Int)×Bool)) (s:(List Int)×Int):Option ((List Int)×Bool):=
 if (decide (s.2<(t0.length:Int))) then
 jn (λ(c:(List Int))=>
 d (c,add64 s.2 1)) λa=>
 if (decide (s.2<b)) then
 (idx t1 s.2).bind λg=>
 (app 8 s.1 [g]).bind λh=>
 a h
 else
 if (s.2==b) then
 (idx t1 s.2).bind λi=>
 (app 8 s.1 [add64 i 1]).bind λj=>
 a j
 else
 (idx t0 s.2).bind λe=>
 (app 8 s.1 [e.lo]).bind λf=>
 a f
 else
 some (s.1,true)
def zbR.l1 (n:Nat) (t0:List Range) (t1:List Int) (b:Int→Option ((List Int)×Bool)) (a:Int):Option ((List Int)×Bool):=
 if (decide (0≤a)) then
 (idx t1 a).bind λc=>
 (idx t0 a).bind λd=>
 if (decide (c<d.hi)) then
 loopF (zbR.l2 n t0 t1 a) n (([]:List Int),0)
 else
 b (sub64 a 1)
 else
 some ([],false)
def zbR (n:Nat) (t0:List Range) (t1:List Int):Option ((List Int)×Bool):=
 (zS n t0 ([]:List Row)).bind λa=>
 grd ((!a)||(zax n t0 t1).isSome) <|
 if ((!a)||(!((zax n t0 t1).getD default))) then
 some ([],false)
 else
 loopF (zbR.l1 n t0 t1) n (sub64 (t0.length:Int) 1)
def za9.l1 (n:Nat) (t1:(List Int)→Option Bool) (d:List Range) (b:((List Int)×Bool)→Option Bool) (s:(List Int)×Bool):Option Bool:=
 if s.2 then
 (t1 s.1).bind λc=>
 if (!c) then
 some false
 else
 (zbR n d s.1).bind λa=>
 b (a.1,a.2)
 else
 some true
def za9 (n:Nat) (t0:Model) (t1:(List Int)→Option Bool):Option Bool:=
 (zb7 n t0).bind λa=>
 (zcA n a).bind λb=>
 loopF (za9.l1 n t1 a) n (b,true)
def zea (n:Nat) (t0:Model) (t1:Swap):Option Bool:=
 (ze3 n t0).bind λc=>
 grd (!((((c&&(decide (0≤t1.sort)))&&(decide (t1.sort<(t0.sorts.length:Int))))&&(decide (0≤t1.a)))&&(decide (t1.a<t1.b)))||(idx t0.sorts t1.sort).isSome) <|
 some (((((c&&(decide (0≤t1.sort)))&&(decide (t1.sort<(t0.sorts.length:Int))))&&(decide (0≤t1.a)))&&(decide (t1.a<t1.b)))&&(decide (t1.b<((idx t0.sorts t1.sort).getD default))))
def zc8 (n:Nat) (t0:Swap) (t1:Int):Option Int:=
 if (t1==t0.a) then
 some t0.b
 else
 if (t1==t0.b) then
 some t0.a
 else
 some t1
def zaM.l2 (n:Nat) (t0:Model) (t1:Swap) (b:Table) (f:(Int×Int×Int×Int)→Option Int) (s:Int×Int×Int×Int):Option Int:=
 let a:=s.2.2.2
 if (decide (0≤a)) then
 (idx b.columns a).bind λh=>
 (idx t0.sorts h).bind λc=>
 (rem64 s.1 c).bind λe=>
 jn (λ(g:Int)=>
 (quo64 s.1 c).bind λk=>
 f (k,add64 s.2.1 (mul64 g s.2.2.1),mul64 s.2.2.1 c,sub64 a 1)) λd=>
 (idx b.columns a).bind λi=>
 if (i==t1.sort) then
 (zc8 n t1 e).bind λj=>
 d j
 else
 d e
 else
 some (add64 b.first s.2.1)
def zaM.l1 (n:Nat) (t0:Model) (t1:Swap) (t2:Int) (t3:Bool) (d:Int→Option Int) (b:Int):Option Int:=
 if (decide (b<(t0.tables.length:Int))) then
 (idx t0.tables b).bind λa=>
 (zcV n a.kind).bind λc=>
 grd (((c != t3)||(decide (sub64 t2 a.first<0)))||(zbs n t0 a).isSome) <|
 if (((c != t3)||(decide (sub64 t2 a.first<0)))||(decide (((zbs n t0 a).getD default)≤sub64 t2 a.first))) then
 d (add64 b 1)
 else
 loopF (zaM.l2 n t0 t1 a) n (sub64 t2 a.first,0,1,sub64 (a.columns.length:Int) 1)
 else
 some (-1)
def zaM (n:Nat) (t0:Model) (t1:Swap) (t2:Int) (t3:Bool):Option Int:=
 loopF (zaM.l1 n t0 t1 t2 t3) n 0
def zbH.l2 (n:Nat) (b:List Term) (p:Int) (j:((List Term)×Int)→Option Row) (c:Int) (g:Term) (i:((List Term)×Bool×Int)→Option Row) (s:(List Term)×Bool×Int):Option Row:=
 let a:=s.2.2
 if (decide (a<(b.length:Int))) then
 jn (λ(d:(List Term)×Bool)=>
 (idx b a).bind λl=>
 (app 16 d.1 [l]).bind λm=>
 i (m,d.2,add64 a 1)) λe=>
 grd (!(!s.2.1)||(idx b a).isSome) <|
 if ((!s.2.1)&&(decide (c<((idx b a).getD default).cell))) then
 (app 16 s.1 [(⟨c,g.factor⟩:Term)]).bind λk=>
 e (k,true)
 else
 e (s.1,s.2.1)
 else
 jn (λ(h:(List Term))=>
 j (h,add64 p 1)) λf=>
 if (!s.2.1) then
 (app 16 s.1 [(⟨c,g.factor⟩:Term)]).bind λo=>
 f o
 else
 f s.1
def zbH.l1 (n:Nat) (t0:Model) (t1:Swap) (t2:Row) (a:((List Term)×Int)→Option Row) (s:(List Term)×Int):Option Row:=
 if (decide (s.2<(t2.terms.length:Int))) then
 (idx t2.terms s.2).bind λb=>
 (zaM n t0 t1 b.cell true).bind λc=>
 (idx t2.terms s.2).bind λd=>
 loopF (zbH.l2 n s.1 s.2 a c d) n (([]:List Term),false,0)
 else
 some (⟨s.1,t2.bound⟩:Row)
def zbH (n:Nat) (t0:Model) (t1:Swap) (t2:Row):Option Row:=
 loopF (zbH.l1 n t0 t1 t2) n ([],0)
def zah.l1 (n:Nat) (t0:Row) (t1:Row) (b:Int→Option Bool) (a:Int):Option Bool:=
 if (decide (a<(t0.terms.length:Int))) then
 (idx t0.terms a).bind λc=>
 (idx t1.terms a).bind λd=>
 if (!decide ((c:Term)=d)) then
 some false
 else
 b (add64 a 1)
 else
 some true
def zah (n:Nat) (t0:Row) (t1:Row):Option Bool:=
 if ((t0.bound != t1.bound)||((t0.terms.length:Int) != (t1.terms.length:Int))) then
 some false
 else
 loopF (zah.l1 n t0 t1) n 0
def zaZ.l1 (n:Nat) (t0:List Row) (t1:Int) (t2:Row) (b:(Int×Int)→Option Int) (s:Int×Int):Option Int:=
 if (decide (s.2<t1)) then
 jn (λ(e:Int)=>
 b (e,add64 s.2 1)) λa=>
 (idx t0 s.2).bind λc=>
 (zah n c t2).bind λd=>
 if d then
 a (add64 s.1 1)
 else
 a s.1
 else
 some s.1
def zaZ (n:Nat) (t0:List Row) (t1:Int) (t2:Row):Option Int:=
 loopF (zaZ.l1 n t0 t1 t2) n (0,0)
def zbv.l1 (n:Nat) (t0:List Update) (t1:Update) (b:(Int×Int)→Option Int) (s:Int×Int):Option Int:=
 if (decide (s.2<(t0.length:Int))) then
 jn (λ(d:Int)=>
 b (d,add64 s.2 1)) λa=>
 (idx t0 s.2).bind λc=>
 if (decide ((c:Update)=t1)) then
 a (add64 s.1 1)
 else
 a s.1
 else
 some s.1
def zbv (n:Nat) (t0:List Update) (t1:Update):Option Int:=
 loopF (zbv.l1 n t0 t1) n (0,0)
def zL.l4 (n:Nat) (t0:Model) (t1:Swap) (t2:Effect) (t3:Effect) (c:Int→Option Bool) (a:Int):Option Bool:=
 if (decide (a<(t2.updates.length:Int))) then
 (idx t2.updates a).bind λb=>
 (zaM n t0 t1 b.cell false).bind λd=>
 (idx t2.updates a).bind λe=>
 (zbv n t2.updates e).bind λf=>
 (zbv n t3.updates (⟨b.kind,d,b.value⟩:Update)).bind λg=>
 if (f != g) then
 some false
 else
 c (add64 a 1)
 else
 some true
def zL.l3 (n:Nat) (t0:Model) (t1:Swap) (t2:Effect) (t3:Effect) (b:Int→Option Bool) (a:Int):Option Bool:=
 if (decide (a<(t2.hold.length:Int))) then
 (idx t2.hold a).bind λc=>
 (zbH n t0 t1 c).bind λd=>
 (idx t2.hold a).bind λe=>
 (zaZ n t2.hold (t2.hold.length:Int) e).bind λf=>
 (zaZ n t3.hold (t3.hold.length:Int) d).bind λg=>
 if (f != g) then
 some false
 else
 b (add64 a 1)
 else
 loopF (zL.l4 n t0 t1 t2 t3) n 0
def zL.l2 (n:Nat) (t0:Model) (t1:Swap) (t2:Effect) (t3:Effect) (a:Int) (e:Int→Option Bool) (f:(Bool×Int)→Option Bool) (s:Bool×Int):Option Bool:=
 if (decide (s.2<(t3.delta.length:Int))) then
 jn (λ(g:Bool)=>
 f (g,add64 s.2 1)) λd=>
 (idx t3.delta s.2).bind λb=>
 (idx t2.delta a).bind λh=>
 (zaM n t0 t1 h.cell true).bind λc=>
 grd (!(b.cell==c)||(idx t3.delta s.2).isSome) <|
 grd (!(b.cell==c)||(idx t2.delta a).isSome) <|
 if ((b.cell==c)&&((((idx t3.delta s.2).getD default).add)==(((idx t2.delta a).getD default).add))) then
 d true
 else
 d s.1
 else
 if (!s.1) then
 some false
 else
 e (add64 a 1)
def zL.l1 (n:Nat) (t0:Model) (t1:Swap) (t2:Effect) (t3:Effect) (b:Int→Option Bool) (a:Int):Option Bool:=
 if (decide (a<(t2.delta.length:Int))) then
 loopF (zL.l2 n t0 t1 t2 t3 a b) n (false,0)
 else
 loopF (zL.l3 n t0 t1 t2 t3) n 0
def zL (n:Nat) (t0:Model) (t1:Swap) (t2:Effect) (t3:Effect):Option Bool:=
 if ((((t2.delta.length:Int) != (t3.delta.length:Int))||((t2.hold.length:Int) != (t3.hold.length:Int)))||((t2.updates.length:Int) != (t3.updates.length:Int))) then
 some false
 else
 loopF (zL.l1 n t0 t1 t2 t3) n 0
def zU.l2 (n:Nat) (t0:Model) (t1:Swap) (a:Action) (i:Operation) (d:Int) (f:Int→Option (Int×Bool)) (b:Action) (g:(Bool×Int)→Option (Int×Bool)) (s:Bool×Int):Option (Int×Bool):=
 if (s.1&&(decide (s.2<(a.arguments.length:Int)))) then
 (idx a.arguments s.2).bind λe=>
 jn (λ(h:Int)=>
 (idx b.arguments s.2).bind λl=>
 g (l==h,add64 s.2 1)) λc=>
 (idx i.sorts s.2).bind λj=>
 if (j==t1.sort) then
 (zc8 n t1 e).bind λk=>
 c k
 else
 c e
 else
 grd (!s.1||(zL n t0 t1 a.effect b.effect).isSome) <|
 if (s.1&&((zL n t0 t1 a.effect b.effect).getD default)) then
 some (d,true)
 else
 f (add64 d 1)
def zU.l1 (n:Nat) (t0:Model) (t1:Swap) (b:Action) (e:Operation) (d:Int→Option (Int×Bool)) (a:Int):Option (Int×Bool):=
 if (decide (a<(t0.actions.length:Int))) then
 (idx t0.actions a).bind λc=>
 loopF (zU.l2 n t0 t1 b e a d c) n ((c.operation==b.operation)&&((c.arguments.length:Int)==(b.arguments.length:Int)),0)
 else
 some (0,false)
def zU (n:Nat) (t0:Model) (t1:Swap) (t2:Int):Option (Int×Bool):=
 (idx t0.actions t2).bind λa=>
 (idx t0.operations a.operation).bind λb=>
 loopF (zU.l1 n t0 t1 a b) n 0
def zbE.l1 (n:Nat) (t0:Model) (t1:Int) (a:Constraint) (d:(Int×Int)→Option Int) (s:Int×Int):Option Int:=
 if (decide (s.2<t1)) then
 jn (λ(e:Int)=>
 d (e,add64 s.2 1)) λc=>
 (idx t0.constraints s.2).bind λb=>
 grd (!((b.kind==a.kind)&&(b.family==a.family))||(zah n b.row a.row).isSome) <|
 if (((b.kind==a.kind)&&(b.family==a.family))&&((zah n b.row a.row).getD default)) then
 c (add64 s.1 1)
 else
 c s.1
 else
 some s.1
def zbE (n:Nat) (t0:Model) (t1:Int):Option Int:=
 (idx t0.constraints t1).bind λa=>
 loopF (zbE.l1 n t0 t1 a) n (0,0)
def zV.l1 (n:Nat) (t0:Model) (t2:Int) (b:Constraint) (d:Row) (e:Int→Option (Int×Bool)) (c:Int):Option (Int×Bool):=
 if (decide (c<(t0.constraints.length:Int))) then
 (idx t0.constraints c).bind λa=>
 grd (!((a.kind==b.kind)&&(a.family==b.family))||(zah n a.row d).isSome) <|
 grd (!(((a.kind==b.kind)&&(a.family==b.family))&&((zah n a.row d).getD default))||(zbE n t0 c).isSome) <|
 grd (!(((a.kind==b.kind)&&(a.family==b.family))&&((zah n a.row d).getD default))||(zbE n t0 t2).isSome) <|
 if ((((a.kind==b.kind)&&(a.family==b.family))&&((zah n a.row d).getD default))&&(((zbE n t0 c).getD default)==((zbE n t0 t2).getD default))) then
 some (c,true)
 else
 e (add64 c 1)
 else
 some (0,false)
def zV (n:Nat) (t0:Model) (t1:Swap) (t2:Int):Option (Int×Bool):=
 (idx t0.constraints t2).bind λa=>
 if (a.kind==1) then
 some (t2,true)
 else
 (zbH n t0 t1 a.row).bind λb=>
 loopF (zV.l1 n t0 t2 a b) n 0
def zP.l2 (n:Nat) (t0:Model) (t1:Swap) (b:Int→Option Bool) (a:Int):Option Bool:=
 if (decide (a<(t0.constraints.length:Int))) then
 (zV n t0 t1 a).bind λc=>
 if (!c.2) then
 some false
 else
 b (add64 a 1)
 else
 some true
def zP.l1 (n:Nat) (t0:Model) (t1:Swap) (b:Int→Option Bool) (a:Int):Option Bool:=
 if (decide (a<(t0.actions.length:Int))) then
 (zU n t0 t1 a).bind λc=>
 if (!c.2) then
 some false
 else
 b (add64 a 1)
 else
 loopF (zP.l2 n t0 t1) n 0
def zP (n:Nat) (t0:Model) (t1:Swap):Option Bool:=
 loopF (zP.l1 n t0 t1) n 0
def zd9 (n:Nat) (t0:Model) (t1:Swap):Option Bool:=
 (zea n t0 t1).bind λa=>
 grd (!a||(zP n t0 t1).isSome) <|
 some (a&&((zP n t0 t1).getD default))
def zc7.l1 (n:Nat) (t2:Question) (g:Int×Bool) (h:Int×Bool) (b:Action) (d:Action) (e:Row) (f:Int→Option (Question×Bool)) (a:Int):Option (Question×Bool):=
 if (decide (a<(d.effect.hold.length:Int))) then
 (idx d.effect.hold a).bind λi=>
 (zah n i e).bind λc=>
 grd (!c||(zaZ n d.effect.hold a e).isSome) <|
 grd (!c||(idx b.effect.hold t2.target.index).isSome) <|
 grd (!c||(zaZ n b.effect.hold t2.target.index ((idx b.effect.hold t2.target.index).getD default)).isSome) <|
 if (c&&(((zaZ n d.effect.hold a e).getD default)==((zaZ n b.effect.hold t2.target.index ((idx b.effect.hold t2.target.index).getD default)).getD default))) then
 some ((⟨g.1,h.1,(⟨true,a⟩:Target)⟩:Question),true)
 else
 f (add64 a 1)
 else
 some ((⟨0,0,(⟨false,0⟩:Target)⟩:Question),false)
def zc7 (n:Nat) (t0:Model) (t1:Swap) (t2:Question):Option (Question×Bool):=
 (zU n t0 t1 t2.e).bind λa=>
 (zU n t0 t1 t2.f).bind λb=>
 if ((!a.2)||(!b.2)) then
 some ((⟨0,0,(⟨false,0⟩:Target)⟩:Question),false)
 else
 if (!t2.target.hold) then
 (zV n t0 t1 t2.target.index).bind λc=>
 if (!c.2) then
 some ((⟨0,0,(⟨false,0⟩:Target)⟩:Question),false)
 else
 some ((⟨(gmin a.1 b.1),(gmax a.1 b.1),(⟨false,c.1⟩:Target)⟩:Question),true)
 else
 (idx t0.actions t2.e).bind λd=>
 (idx t0.actions a.1).bind λg=>
 (idx d.effect.hold t2.target.index).bind λh=>
 (zbH n t0 t1 h).bind λi=>
 loopF (zc7.l1 n t2 a b d g i) n 0
def zcG (n:Nat) (t0:Model) (t1:Swap) (t2:Question):Option (Question×Bool):=
 (zea n t0 t1).bind λa=>
 grd ((!a)||(zeb n t0 t2).isSome) <|
 if ((!a)||(!((zeb n t0 t2).getD default))) then
 some ((⟨0,0,(⟨false,0⟩:Target)⟩:Question),false)
 else
 (zc7 n t0 t1 t2).bind λb=>
 some (b.1,b.2)
def zdp (n:Nat) (t0:Model) (t1:Swap) (t2:Int):Option (Int×Bool):=
 (zea n t0 t1).bind λb=>
 if (((!b)||(decide (t2<0)))||(decide ((t0.constraints.length:Int)≤t2))) then
 some (0,false)
 else
 (zV n t0 t1 t2).bind λa=>
 some (a.1,a.2)
def zcy.l1 (n:Nat) (t0:Model) (t1:Swap) (t2:List Int) (a:((List Int)×Int)→Option ((List Int)×Bool)) (s:(List Int)×Int):Option ((List Int)×Bool):=
 if (decide (s.2<(t2.length:Int))) then
 (zaM n t0 t1 s.2 true).bind λb=>
 (idx t2 b).bind λc=>
 (app 8 s.1 [c]).bind λd=>
 a (d,add64 s.2 1)
 else
 some (s.1,true)
def zcy (n:Nat) (t0:Model) (t1:Swap) (t2:List Int):Option ((List Int)×Bool):=
 (zea n t0 t1).bind λa=>
 grd ((!a)||(zbV n t0).isSome) <|
 if ((!a)||((t2.length:Int) != ((zbV n t0).getD default))) then
 some ([],false)
 else
 loopF (zcy.l1 n t0 t1 t2) n (([]:List Int),0)
def zam (n:Nat) (t0:List Int) (t1:Model) (t2:Swap) (t3:System) (t4:System):Option Bool:=
 (zcy n t1 t2 t0).bind λa=>
 (ze6 n t3 t0).bind λb=>
 (ze6 n t4 a.1).bind λc=>
 some (b==c)
def zaz.l1 (n:Nat) (t0:Model) (t1:Swap) (t3:List Int) (b:System×Int) (d:Question×Bool) (c:((List Int)×Int)→Option Bool) (s:(List Int)×Int):Option Bool:=
 if (decide (s.2<(t3.length:Int))) then
 (idx t3 s.2).bind λe=>
 (zdp n t0 t1 e).bind λf=>
 (app 8 s.1 [f.1]).bind λg=>
 c (g,add64 s.2 1)
 else
 (zc n t0 d.1 s.1).bind λa=>
 grd (!(a.2==0)||(za9 n t0 (λq0=>zam n q0 t0 t1 b.1 a.1)).isSome) <|
 some ((a.2==0)&&((za9 n t0 (λq0=>zam n q0 t0 t1 b.1 a.1)).getD default))
def zaz (n:Nat) (t0:Model) (t1:Swap) (t2:Question) (t3:List Int):Option Bool:=
 (law22_awake n ).bind λd=>
 if (!d) then
 some false
 else
 (zbU n t0).bind λa=>
 grd (((!a)||(decide (20<(t3.length:Int))))||(zd9 n t0 t1).isSome) <|
 if (((!a)||(decide (20<(t3.length:Int))))||(!((zd9 n t0 t1).getD default))) then
 some true
 else
 (zc n t0 t2 t3).bind λb=>
 (zcG n t0 t1 t2).bind λc=>
 if ((b.2 != 0)||(!c.2)) then
 some true
 else
 loopF (zaz.l1 n t0 t1 t3 b c) n (([]:List Int),0)
end
theorem law22_example_ok (n r) (h:law22_example n=some r):Pure pg 36 [] (Model.enc r):=by
 refine Pure.ot Tryz.func36 I Tryz.ntmps36 I λA w=>.sr<|.allocZ I I I I (.agg Zc30 (ds':=[eA [],eB [],eC [],eD [],eE [],eF [],eG []]) (.o (.o (.o (.o (.o (.o .o1))))))) I<|.nil<|.sr<|.p I (.castD (Range.enc (⟨0,3⟩:Range)) I (.build I Pl87 (.agg Zc87 (ds':=[_,_]) (.e .e1)) I I))<|.p I (.castD (Table.enc (⟨[99],1,[],(⟨0,3⟩:Range),0⟩:Table)) I (.build I Pl127 (.agg Zc127 (ds':=[_,_,eA [],_,_,_]) (.e (.e (.o (.e (.e .e1)))))) I I))<|.p I (.buildSl [_] I I E23 I (λ_=>I) I (enc:=Table.enc))<|.p I (.buildSl [_] I I E24 I (λ_=>I) I (enc:=D.str))<|.p I (.castD (Term.enc (⟨0,(-1)⟩:Term)) I (.build I Pl41 (.agg Zc41 (ds':=[_,_]) (.e .e1)) I I))<|.p I (.buildSl [_] I I E31 I (λ_=>I) I (enc:=Term.enc))<|.p I (.castD (Row.enc (⟨[(⟨0,(-1)⟩:Term)],0⟩:Row)) I (.build I Pl33 (.agg Zc33 (ds':=[_,_]) (.e .e1)) I I))<|.p I (.castD (Constraint.enc (⟨0,0,(⟨[(⟨0,(-1)⟩:Term)],0⟩:Row),0,0⟩:Constraint)) I (.build I Pl78 (.agg Zc78 (ds':=[_,_,_,_,_,_]) (.e (.e (.e (.e (.e .e1)))))) I I))<|.p I (.castD (Term.enc (⟨0,1⟩:Term)) I (.build I Pl41 (.agg Zc41 (ds':=[_,_]) (.e .e1)) I I))<|.p I (.buildSl [_] I I E31 I (λ_=>I) I (enc:=Term.enc))<|.p I (.castD (Row.enc (⟨[(⟨0,1⟩:Term)],3⟩:Row)) I (.build I Pl33 (.agg Zc33 (ds':=[_,_]) (.e .e1)) I I))<|.p I (.castD (Constraint.enc (⟨0,0,(⟨[(⟨0,1⟩:Term)],3⟩:Row),0,0⟩:Constraint)) I (.build I Pl78 (.agg Zc78 (ds':=[_,_,_,_,_,_]) (.e (.e (.e (.e (.e .e1)))))) I I))<|.p I (.buildSl [_,_] I I E25 I (λ_=>I) I (enc:=Constraint.enc))<|.p I (.castD (Operation.enc (⟨[116,119,111],false,[]⟩:Operation)) I (.build I Pl129 (.agg Zc129 (ds':=[_,_,eA []]) (.e (.e .o1))) I I))<|.p I (.buildSl [_] I I E26 I (λ_=>I) I (enc:=Operation.enc))<|.p I (.castD (Change.enc (⟨0,2⟩:Change)) I (.build I Pl131 (.agg Zc131 (ds':=[_,_]) (.e .e1)) I I))<|.p I (.buildSl [_] I I E79 I (λ_=>I) I (enc:=Change.enc))<|.p I (.castD (Effect.enc (⟨[(⟨0,2⟩:Change)],[],[]⟩:Effect)) I (.build I Pl82 (.agg Zc82 (ds':=[_,eH [],eI []]) (.e (.o .o1))) I I))<|.p I (.castD (Action.enc (⟨0,[],(⟨[(⟨0,2⟩:Change)],[],[]⟩:Effect)⟩:Action)) I (.build I Pl84 (.agg Zc84 (ds':=[_,eA [],_,_,_]) (.e (.o (.e (.e .e1))))) I I))<|.p I (.buildSl [_] I I E27 I (λ_=>I) I (enc:=Action.enc))<|.p I (.castD (Model.enc (⟨[],[(⟨[99],1,[],(⟨0,3⟩:Range),0⟩:Table)],[[99]],[(⟨0,0,(⟨[(⟨0,(-1)⟩:Term)],0⟩:Row),0,0⟩:Constraint),(⟨0,0,(⟨[(⟨0,1⟩:Term)],3⟩:Row),0,0⟩:Constraint)],[(⟨[116,119,111],false,[]⟩:Operation)],[(⟨0,[],(⟨[(⟨0,2⟩:Change)],[],[]⟩:Effect)⟩:Action)],[]⟩:Model)) I (.build I Pl30 (.agg Zc30 (ds':=[eA [],_,_,_,_,_,eG []]) (.o (.e (.e (.e (.e (.e .o1))))))) I I))<|.store I I I I I I (.ofD I) C30 I (yh I)<|.nil<|.K [0] I<|.ret ?_
 cases h
 exact retCell I I Y30 (.v (.v (.v (.v (.v (.v .v1))))))
theorem zeI (n t0) (t1:Int→Option Bool) (F1:D) (hF1:∀ (q0:Int) (y:Bool),t1 q0=some y→Dyn pg F1 [.int q0] (.bool y)) (r) (h:zW n t0 t1=some r):Pure pg 199 [eA t0,F1] (.int r):=by
 refine Pure.ot Tryz.func199 I Tryz.ntmps199 I λA w=>.sA 1 I<|.seq<|.S 1 I<|.p I (.len I U22 I)<|.A 1 I<|.nil<|.block<|.L [0,1,7] h (λv=>[(8,.d (.int v))]) (λv=>[]) I λ_ x7 h=>.sA 1 I<|.seq<|.condS I h (λh=>?_) λh=>?_
 ·refine .skip<|.seq<|.block<|.sA 2 I<|.S 3 I<|.X h I λx9 h=>.A 1 I<|bK h λx10 q10 h=>.p I (.dyn I I I (hF1 _ _ q10))<|.nil<|.condS I h (λh=>?_) λh=>?_
  ·refine .sA 2 I<|.ret (rO h I)
  ·refine .skip<|.rA 2 I (ndE h I)
 ·refine .exit<|.sA 1 I<|.ret (rO h I)
theorem zaW (n t0) (t1:Int→Option Bool) (F1:D) (hF1:∀ (q0:Int) (y:Bool),t1 q0=some y→Dyn pg F1 [.int q0] (.bool y)) (r) (h:zw n t0 t1=some r):Pure pg 154 [eA t0,F1] (.bool r):=by
 refine Pure.ot Tryz.func154 I Tryz.ntmps154 I λA w=>.sA 1 I<|.S 2 I<|.Z h I (zeI _ _ _ _ hF1) λx1 h=>.A 2 I<|.nil<|.ret (rO h I)
theorem zgQ (n t0 t1 t2 r) (h:zel n t0 t1 t2=some r):Pure pg 144 [.int t0,.int t1,.int t2] (.bool r):=by
 refine Pure.ot Tryz.func144 I Tryz.ntmps144 I λA w=>.sA 1 I<|.seq<|.plain 8 I<|.A 4 I<|.jA 3 (decide (t0≤t2)) I (λb1=>?_) ?_
 ·refine .A 3 I<|.nil I
 refine .nil<|.A 1 I<|.nil<|.ret (rO h I)
theorem cells_sized_1_ok (n t0 r) (h:zgf n t0=some r):Pure pg 192 [.int t0] (.bool r):=by
 refine Pure.ot Tryz.func192 I Tryz.ntmps192 I λA w=>.sA 1 I<|.S 1 I<|.Z h I (zgQ _ _ _ _) λx1 h=>.A 2 I<|.nil<|.ret (rO h I)
theorem cells_sized_ok (n t0 r) (h:zge n t0=some r):Pure pg 142 [eA t0] (.bool r):=by
 refine Pure.ot Tryz.func142 I Tryz.ntmps142 I λA w=>.sA 1 I<|.S 1 I<|.Z h I (zaW _ _ _ _ (λq0 y hq=>⟨_,_,I,K192,cells_sized_1_ok _ q0 _ hq⟩)) λx1 h=>.A 2 I<|.nil<|.ret (rO h I)
theorem zfb (n t0 t1 r) (h:zac n t0 t1=some r):Pure pg 217 [eJ t0,.bool t1] (.int r):=by
 refine Pure.ot Tryz.func217 I Tryz.ntmps217 I λA w=>.sA 1 I<|.seq<|.S 1 I<|.p I (.len I U144 I)<|.A 1 I<|.nil<|.block<|.L [0,1,7] h (λv=>[(8,.d (.int v))]) (λv=>[]) I λ_ x5 h=>.sA 1 I<|.seq<|.condS I h (λh=>?_) λh=>?_
 ·refine .skip<|.seq<|.block<|.sA 2 I<|.S 3 I<|.X h I λx7 h=>.A 1 I<|.p I (.beq I U4 I I)<|.nil<|.condS I h (λh=>?_) λh=>?_
  ·refine .sA 2 I<|.ret (rO h I)
  ·refine .skip<|.rA 2 I (ndE h I)
 ·refine .exit<|.sA 1 I<|.ret (rO h I)
theorem zey (n t0 t1 r) (h:zb1 n t0 t1=some r):Pure pg 191 [eJ t0,.bool t1] (.bool r):=by
 refine Pure.ot Tryz.func191 I Tryz.ntmps191 I λA w=>.sA 1 I<|.S 2 I<|.Z h I (zfb _ _ _) λx1 h=>.A 2 I<|.nil<|.ret (rO h I)
theorem cells_all_ok (n t0 r) (h:zgP n t0=some r):Pure pg 141 [eJ t0] (.bool r):=by
 refine Pure.ot Tryz.func141 I Tryz.ntmps141 I λA w=>.sA 1 I<|.S 1 I<|.Z h I (zey _ _ _) λx1 h=>.A 2 I<|.nil<|.ret (rO h I)
theorem strings_FieldsFunc_ok (n t0) (t1:Int→Option Bool) (F1:D) (hF1:∀ (q0:Int) (y:Bool),t1 q0=some y→Dyn pg F1 [.val (.int .i32 q0)] (.bool y)) (r) (h:zfq n t0 t1=some r):Pure pg 265 [.str t0,F1] (eC r):=by
 refine Pure.ot Tryz.func265 I Tryz.ntmps265 I λA w=>.sr<|.p I (.nilS 1 (α:=List UInt8) D.str I)<|.nil<|.seq<|.region ?_
 cases h
theorem unicode_IsSpace_ok (n t0 r) (h:unicode_IsSpace n t0=some r):Pure pg 266 [.val (.int .i32 t0)] (.bool r):=by
 refine Pure.ot Tryz.func266 I Tryz.ntmps266 I λA w=>.sA 1 I<|.seq<|.S 1 I<|.p I (.conv I U21 U235 I)<|.A 1 I<|.nil<|.condS I h (λh=>?_) λh=>?_
 ·refine .seq<|.sA 1 I<|.block<|.J [] h (λv=>[(7,.d (.bool v))]) (λv=>[]) I (λk_2 h=>?_) (λx1 h=>?_)
  ·refine .sA 2 I<|.condS I h (λh=>?_) λh=>?_
   ·refine .skip (ndE h I)
   ·refine .sA 2 I<|.condS I h (λh=>?_) λh=>?_
    ·refine .skip (ndE h I)
    ·refine .sA 2 I<|.condS I h (λh=>?_) λh=>?_
     ·refine .skip (ndE h I)
     ·refine .sA 2 I<|.condS I h (λh=>?_) λh=>?_
      ·refine .skip (ndE h I)
      ·refine .sA 2 I<|.condS I h (λh=>?_) λh=>?_
       ·refine .skip (ndE h I)
       ·refine .sA 2 I<|.K [6,7] I<|.condS I h (λh=>?_) λh=>?_
        ·refine .skip (ndE h I)
        ·refine .sA 2 I<|.condS I h (λh=>?_) λh=>?_
         ·refine .skip (ndE h I)
         ·refine .rA 2 I (ndE h I)
  ·refine .condS I h (λh=>?_) λh=>?_
   ·refine .sA 1 I<|.K [2] I<|.ret (rO h I)
   ·refine .skip<|.K [] I<|.sA 1 I<|.ret (rO h I)
 ·refine .skip<|.seq<|.region ?_
  cases h
theorem strings_Fields_ok (n t0 r) (h:zbf n t0=some r):Pure pg 255 [.str t0] (eC r):=by
 refine Pure.ot Tryz.func255 I Tryz.ntmps255 I λA w=>.sr<|.p I (.nilS 1 (α:=List UInt8) D.str I)<|.nil<|.sA 1 I<|.sA 1 I<|.sA 1 I<|.seq<|.sA 1 I<|.block<|.L [0] h (λv=>[(3,.d (.int v.1)),(4,.d (.int v.2.1)),(5,.d (.val (.int .u8 v.2.2.1))),(6,.d (.int v.2.2.2))]) (λv=>[]) I λ_ ⟨x13,x14,x15,x16⟩ h=>.seq<|.S 2 I<|.p I (.len_str I U9 I)<|.A 1 I<|.nil<|.K [0,3,4,5,6,16] I<|.condS I h (λh=>?_) λh=>?_
 ·refine .skip<|.seq<|.block<|.S 2 I<|bK h λx18 q18 h=>.p I (.sidx I I I U9 q18)<|.A 1 I<|.nil<|.S 2 I<|.p I (.bor I I I)<|.A 1 I<|.nil<|.S 1 I<|bK h λx19 q19 h=>.p I (.idxG (l:=tab0) I I I gm0 U274 S5 tl0 q19)<|.A 1 I<|.p I (.conv I U5 U3 I)<|.A 1 I<|.nil<|.S 3 I<|.p I (.bnot I I)<|.p I (.band I I I)<|.A 2 I<|.nil<|.K [0,3,5,6,8] I<|.rA 2 I<|.rA 3 I (ndE h I)
 ·refine .exit<|.seq<|.sA 2 I<|.condS I h (λh=>?_) λh=>?_
  ·refine .S 1 I<|.Z h I (strings_FieldsFunc_ok _ _ _ _ (λq0 y hq=>⟨_,_,I,K266,unicode_IsSpace_ok _ q0 _ hq⟩)) λx20 h=>.A 1 I<|.nil<|.ret ?_
   cases h
   exact zb8 I (.d _)
  ·refine .skip<|.S 1 I<|bK h λx21 q21 h=>.makeVec (enc:=D.str) (z:=([]:List UInt8)) I I I I E24 I I I (.val Zv9) q21<|.A 1 I<|.nil<|.sA 1 I<|.sA 1 I<|.sA 1 I<|.seq<|.block<|.L [0,9,10] h (λv=>[(12,.d (.int v))]) (λv=>[]) I λ_ x30 h=>.seq<|.seq<|.plain 12 I<|.A 2 I<|.p I (.len_str I U9 I)<|.A 2 I<|gK h λc33 h=>gK h λc34 h=>.jA 6 (((idx tab0 ((sidx t0 x30).getD default)).getD default) != 0) I (λb32=>?_) ?_
   ·refine .A 2 I<|.q I (.sidx I I I U9 (someD (impT c33 b32)))<|.q I (.idxG (l:=tab0) I I I gm0 U274 S5 tl0 (someD (impT c34 b32)))<|.A 2 I<|.nil I
   refine .nil<|.nil<|.K [0,9,10,12,53] I<|.condS I h (λh=>?_) λh=>?_
   ·refine .skip<|.block<|.rA 3 I (ndE h I)
   ·refine .exit<|.sA 2 I<|.seq<|.block<|.L [0] h (λv=>[(9,.vec 0 (List.length v.1)),(10,.d (.int v.2.1)),(11,.d (.int v.2.2.1)),(12,.d (.int v.2.2.2))]) (λv=>[(0,.vec 9 1 (List.map D.str v.1))]) I λ_ ⟨b0_79,x80,x81,x82⟩ h=>.seq<|.S 2 I<|.p I (.len_str I U9 I)<|.A 1 I<|.nil<|.K [0,9,10,11,12,60] I<|.condS I h (λh=>?_) λh=>?_
    ·refine .skip<|.block<|.seq<|.S 2 I<|bK h λx84 q84 h=>.p I (.sidx I I I U9 q84)<|bK h λx85 q85 h=>.p I (.idxG (l:=tab0) I I I gm0 U274 S5 tl0 q85)<|.A 2 I<|.nil<|.condS I h (λh=>?_) λh=>?_
     ·refine .sA 3 I<|.exit (ndE h I)
     ·refine .skip<|.S 5 I<|bK h λx86 q86 h=>.p I (.cutStrLH I I I I U9 q86)<|bK h λx87 q87 h=>.p I (.idxV I I I I I U24 S9 q87)<|bK h λb0_88 hb0_88 h=>.storeEl (enc:=D.str) I I I I I I I I I C9 hb0_88<|.relen 9 I (zdy hb0_88)<|.relen 69 I (zdy hb0_88)<|.nil<|.sA 3 I<|.K [0,9,10,12] I<|.sA 3 I<|.seq<|.block<|.L [0,9,10] h (λv=>[(12,.d (.int v))]) (λv=>[]) I λ_ x97 h=>.seq<|.seq<|.plain 12 I<|.A 2 I<|.p I (.len_str I U9 I)<|.A 2 I<|gK h λc100 h=>gK h λc101 h=>.jA 6 (((idx tab0 ((sidx t0 x97).getD default)).getD default) != 0) I (λb99=>?_) ?_
      ·refine .A 2 I<|.q I (.sidx I I I U9 (someD (impT c100 b99)))<|.q I (.idxG (l:=tab0) I I I gm0 U274 S5 tl0 (someD (impT c101 b99)))<|.A 2 I<|.nil I
      refine .nil<|.nil<|.K [0,9,10,12,91] I<|.condS I h (λh=>?_) λh=>?_
      ·refine .skip<|.block<|.rA 3 I (ndE h I)
      ·refine .exit<|.rA 2 I (ndE h I)
    ·refine .exit<|.J [] h (λv=>[(9,.vec 0 (List.length v))]) (λv=>[(0,.vec 9 1 (List.map D.str v))]) I (λk_103 h=>?_) (λb0_102 h=>?_)
     ·refine .S 2 I<|.p I (.len_str I U9 I)<|.A 1 I<|.nil<|.condS I h (λh=>?_) λh=>?_
      ·refine .region<|.A 4 I<|bK h λx104 q104 h=>.p I (.cutStrL I I I U9 q104)<|bK h λx105 q105 h=>.p I (.idxV I I I I I U24 S9 q105)<|bK h λb0_106 hb0_106 h=>.storeEl (enc:=D.str) I I I I I I I I I C9 hb0_106<|.relen 9 I (zdy hb0_106)<|.relen 99 I (zdy hb0_106)<|.nil (ndE h I)
      ·refine .skip (ndE h I)
     ·refine .sA 2 I<|.K [2] I<|.ret ?_
      cases h
      exact zb8 I (.vec I (by simp))
theorem lexer_keywords_ok (n r) (h:zbP n=some r):Pure pg 238 [] (GMap.dat (λl:List UInt8=>Value.string ⟨l.toArray⟩) D.bool r):=by
 refine Pure.ot Tryz.func238 I Tryz.ntmps238 I λA w=>.sA 1 I<|.sr<|.makeMap (λl:List UInt8=>Value.string ⟨l.toArray⟩) D.bool I I I I<|.A 1 I<|.nil<|.seq<|.sr<|.Z h I (strings_Fields_ok _ _) λx1 h=>.p I (.len I U24 I)<|.A 1 I<|.nil<|.block<|.L [1,5,6] h (λv=>[(7,.d (.int v.2))]) (λv=>[(0,GMap.blk (λl:List UInt8=>Value.string ⟨l.toArray⟩) D.bool v.1)]) I λ_ ⟨m0_8,x9⟩ h=>.sA 1 I<|.K [1,5,6,7,8] I<|.seq<|.condS I h (λh=>?_) λh=>?_
 ·refine .skip<|.seq<|.block<|.sr<|.X h I λx11 h=>.A 2 I<|.nil<|.region<|.A 2 I<|.mapPut (k:=x11) (v:=true) I I I U167 KT9 I I I I<|.nil<|.rA 2 I (ndE h I)
 ·refine .exit<|.sA 2 I<|.ret ?_
  cases h
  exact zb8 I (.mp I)
theorem lexer_white_ok (n t0 r) (h:zcc n t0=some r):Pure pg 246 [.val (.int .u8 t0)] (.bool r):=by
 refine Pure.ot Tryz.func246 I Tryz.ntmps246 I λA w=>.sA 1 I<|.seq<|.plain 14 I<|.A 3 I<|.jO 2 (t0==9) I (λb1=>?_) ?_
 ·refine .A 2 I<|.nil I
 refine .A 1 I<|.jO 2 (t0==10) I (λb2=>?_) ?_
 ·refine .A 2 I<|.nil I
 refine .A 1 I<|.jO 2 (t0==13) I (λb3=>?_) ?_
 ·refine .A 2 I<|.nil I
 refine .nil<|.A 1 I<|.nil<|.K [2] I<|.ret (rO h I)
theorem zg0 (n t0) (t1:Int→Option Bool) (F1:D) (hF1:∀ (q0:Int) (y:Bool),t1 q0=some y→Dyn pg F1 [.val (.int .u8 q0)] (.bool y)) (r) (h:zcR n t0 t1=some r):Pure pg 242 [.str t0,F1] (.int r):=by
 refine Pure.ot Tryz.func242 I Tryz.ntmps242 I λA w=>.sA 1 I<|.sA 1 I<|.seq<|.block<|.L [0,1] h (λv=>[(5,.d (.int v))]) (λv=>[]) I λ_ x9 h=>.seq<|.seq<|.plain 11 I<|.A 2 I<|.p I (.len_str I U9 I)<|.A 2 I<|gK h λc12 h=>gK h λc13 h=>.jA 5 (((t1 ((sidx t0 x9).getD default)).getD default)) I (λb11=>?_) ?_
 ·refine .A 3 I<|.q I (.sidx I I I U9 (someD (impT c12 b11)))<|.q I (.dyn I I I (hF1 _ _ (someD (impT c13 b11))))<|.nil I
 refine .nil<|.nil<|.K [0,1,5,16] I<|.condS I h (λh=>?_) λh=>?_
 ·refine .skip<|.block<|.rA 3 I (ndE h I)
 ·refine .exit<|.sA 2 I<|.ret (rO h I)
theorem lexer_skip_1_ok (n t0 r) (h:zg1 n t0=some r):Pure pg 256 [.val (.int .u8 t0)] (.bool r):=by
 refine Pure.ot Tryz.func256 I Tryz.ntmps256 I λA w=>.sA 1 I<|.sA 3 I<|.ret (rO h I)
theorem lexer_skip_ok (n t0 r) (h:zc4 n t0=some r):Pure pg 240 [.str t0] (.int r):=by
 refine Pure.ot Tryz.func240 I Tryz.ntmps240 I λA w=>.sA 1 I<|.sA 1 I<|.seq<|.block<|.L [0] h (λv=>[(3,.d (.int v))]) (λv=>[]) I λ_ x13 h=>.seq<|.S 2 I<|.p I (.len_str I U9 I)<|.A 1 I<|.nil<|.K [0,3,7] I<|.condS I h (λh=>?_) λh=>?_
 ·refine .skip<|.block<|.block<|.S 2 I<|bK h λx15 q15 h=>.p I (.sidx I I I U9 q15)<|.Z h I (lexer_white_ok _ _) λx16 h=>.A 1 I<|.nil<|.condS I h (λh=>?_) λh=>?_
  ·refine .rA 3 I (ndE h I)
  ·refine .S 2 I<|bK h λx17 q17 h=>.p I (.sidx I I I U9 q17)<|.A 2 I<|.nil<|.condS I h (λh=>?_) λh=>?_
   ·refine .region<|.A 3 I<|bK h λx18 q18 h=>.p I (.cutStrL I I I U9 q18)<|.Z h I (zg0 _ _ _ _ (λq0 y hq=>⟨_,_,I,K256,lexer_skip_1_ok _ q0 _ hq⟩)) λx19 h=>.A 2 I<|.nil (ndE h I)
   ·refine .sA 2 I<|.ret (rO h I)
 ·refine .exit<|.sA 2 I<|.ret (rO h I)
theorem zeR (n t0 r) (h:zcQ n t0=some r):Pure pg 241 [.val (.int .u8 t0)] (.bool r):=by
 refine Pure.ot Tryz.func241 I Tryz.ntmps241 I λA w=>.sA 1 I<|.seq<|.plain 6 I<|.A 3 I<|.jA 2 (decide (t0≤122)) I (λb1=>?_) ?_
 ·refine .A 2 I<|.nil I
 refine .nil<|.A 1 I<|.nil<|.ret (rO h I)
theorem zeg (n t0 r) (h:zbq n t0=some r):Pure pg 244 [.val (.int .u8 t0)] (.bool r):=by
 refine Pure.ot Tryz.func244 I Tryz.ntmps244 I λA w=>.sA 1 I<|.seq<|.plain 6 I<|.A 3 I<|.jA 2 (decide (t0≤57)) I (λb1=>?_) ?_
 ·refine .A 2 I<|.nil I
 refine .nil<|.A 1 I<|.nil<|.ret (rO h I)
theorem lexer_part_ok (n t0 r) (h:lexer_part n t0=some r):Pure pg 243 [.val (.int .u8 t0)] (.bool r):=by
 refine Pure.ot Tryz.func243 I Tryz.ntmps243 I λA w=>.sA 1 I<|.seq<|.plain 10 I<|.A 1 I<|.Z h I (zeR _ _) λx1 h=>.A 1 I<|gK h λc3 h=>.jO 2 (((zbq n t0).getD default)) I (λb2=>?_) ?_
 ·refine .A 1 I<|.q I (.call I (kC I) I (zeg _ _ _ (someD (impF c3 b2))))<|.nil I
 refine .A 1 I<|.jO 2 (t0==95) I (λb4=>?_) ?_
 ·refine .A 2 I<|.nil I
 refine .nil<|.A 1 I<|.nil<|.ret (rO h I)
theorem zdN (n t0 t1 r) (h:zbw n t0 t1=some r):Pure pg 267 [.str t0,.str t1] (.bool r):=by
 refine Pure.ot Tryz.func267 I Tryz.ntmps267 I λA w=>.sA 1 I<|.seq<|.plain 13 I<|.A 1 I<|.p I (.len_str I U9 I)<|.A 1 I<|.p I (.len_str I U9 I)<|.A 2 I<|gK h λc2 h=>.jA 6 (decide (((cut t0 0 (t1.length:Int)).getD default)=t1)) I (λb1=>?_) ?_
 ·refine .A 2 I<|.q I (.len_str I U9 I)<|.q I (.cutStrH I I I U9 (someD (impT c2 b1)))<|.A 1 I<|.q I (.str_eql I I I)<|.nil I
 refine .nil<|.A 1 I<|.nil<|.ret (rO h I)
theorem strings_HasPrefix_ok (n t0 t1 r) (h:zda n t0 t1=some r):Pure pg 257 [.str t0,.str t1] (.bool r):=by
 refine Pure.ot Tryz.func257 I Tryz.ntmps257 I λA w=>.sA 1 I<|.S 2 I<|.Z h I (zdN _ _ _) λx1 h=>.A 1 I<|.nil<|.ret (rO h I)
theorem zdO (n t0 t1 r) (h:zbx n t0 t1=some r):Pure pg 268 [.str t0,.val (.int .u8 t1)] (.int r):=by
 refine Pure.ot Tryz.func268 I Tryz.ntmps268 I λA w=>.sA 1 I<|.S 2 I<|.p I (.idxByte I IB271 I I)<|.A 1 I<|.nil<|.ret (rO h I)
theorem strings_IndexByte_ok (n t0 t1 r) (h:zco n t0 t1=some r):Pure pg 258 [.str t0,.val (.int .u8 t1)] (.int r):=by
 refine Pure.ot Tryz.func258 I Tryz.ntmps258 I λA w=>.sA 1 I<|.S 2 I<|.Z h I (zdO _ _ _) λx1 h=>.A 1 I<|.nil<|.ret (rO h I)
theorem zeS (n t0 r) (h:zbm n t0=some r):Pure pg 245 [.str t0] (.int r):=by
 refine Pure.ot Tryz.func245 I Tryz.ntmps245 I λA w=>.sA 1 I<|.seq<|.sr<|.p I (.buildSl [_,_,_,_,_] I I E24 I (λ_=>I) I (enc:=D.str))<|.p I (.len I U24 I)<|.A 1 I<|.nil<|.block<|.L [0,5,6] h (λv=>[(7,.d (.int v))]) (λv=>[]) I λ_ x7 h=>.sA 1 I<|.seq<|.condS I h (λh=>?_) λh=>?_
 ·refine .skip<|.seq<|.block<|.sr<|.X h I λx9 h=>.A 2 I<|.nil<|.S 2 I<|.Z h I (strings_HasPrefix_ok _ _ _) λx10 h=>.nil<|.condS I h (λh=>?_) λh=>?_
  ·refine .sA 1 I<|.ret (rO h I)
  ·refine .skip<|.rA 2 I (ndE h I)
 ·refine .exit<|.seq<|.seq<|.plain 8 I<|.A 1 I<|.p I (.str_neq I I I)<|.A 1 I<|gK h λc12 h=>gK h λc13 h=>.jA 4 (decide (0≤((zco n [60,62,61,43,45,42,40,41,123,125,44,58,59] ((sidx t0 0).getD default)).getD default))) I (λb11=>?_) ?_
  ·refine .A 1 I<|.q I (.sidx I I I U9 (someD (impT c12 b11)))<|.q I (.call I (kC I) I (strings_IndexByte_ok _ _ _ _ (someD (impT c13 b11))))<|.A 1 I<|.nil I
  refine .nil<|.nil<|.condS I h (λh=>?_) λh=>?_
  ·refine .sA 1 I<|.ret (rO h I)
  ·refine .skip<|.sA 1 I<|.ret (rO h I)
theorem lexer_begins_ok (n t0 r) (h:zdC n t0=some r):Pure pg 247 [.str t0] (.bool r):=by
 refine Pure.ot Tryz.func247 I Tryz.ntmps247 I λA w=>.sA 1 I<|.seq<|.plain 13 I<|.A 1 I<|bK h λx1 q1 h=>.p I (.sidx I I I U9 q1)<|.Z h I (zeR _ _) λx2 h=>.A 1 I<|gK h λc4 h=>gK h λc5 h=>.jO 3 (((zbq n ((sidx t0 0).getD default)).getD default)) I (λb3=>?_) ?_
 ·refine .A 1 I<|.q I (.sidx I I I U9 (someD (impF c4 b3)))<|.q I (.call I (kC I) I (zeg _ _ _ (someD (impF c5 b3))))<|.nil I
 refine .A 1 I<|gK h λc7 h=>.jO 3 (decide (0<((zbm n t0).getD default))) I (λb6=>?_) ?_
 ·refine .A 1 I<|.q I (.call I (kC I) I (zeS _ _ _ (someD (impF c7 b6))))<|.A 1 I<|.nil I
 refine .nil<|.A 1 I<|.nil<|.ret (rO h I)
theorem lexer_tokens_1_tri (n:Nat) (t1:List UInt8) (t2:GMap (List UInt8) Bool) (F0:D) (C:Ctx) (hC:C.n=93) (hG:C.gn=0) (Q0:Exit→St→Prop) (r:Token) (h:zaI n t1 t2=some r)
  (hY:∀ (Q:Exit→St→Prop) (T:List (Nat×V)) (H:List Blk) (j:Nat),look 0 T=some (.d F0)→look 5 T=some (.loc j 0)→H[j]? = some (.box 234 (V.cellsV (.d (Token.enc r))))→Tri pg C tokX Q ⟨T,H⟩) :
  Tri pg C (bodyOf pg 239) Q0 ⟨params 0 [F0,.ref (.str t1),.ref (GMap.dat (λl:List UInt8=>Value.string ⟨l.toArray⟩) D.bool t2)],[]⟩:=by
 obtain ⟨A0,own0,w0,n0,esc,gh,gn⟩:=C
 simp only at hC hG
 subst hC
 subst hG
 rw [zfJ Tryz.func239 I]
 refine .sA 1 I<|.block<|.L [0,1,2,4] h (λv=>[]) (λv=>[]) I λ_ v h=>.block<|.S 4 I<|bK h λx45 q45 h=>.p I (.cutStrL I I I U9 q45)<|.Z h I (lexer_skip_ok _ _) λx46 h=>.A 1 I<|.p I (.castD (Token.enc (⟨0,0,add64 0 x46,0⟩:Token)) I (.build I Pl234 (.agg Zc234 (ds':=[_,_,_,_]) (.e (.e (.e .e1)))) I I))<|.allocZ I I I I (.agg Zc234 (ds':=[.int 0,.int 0,.int 0,.int 0]) (.e (.e (.e .e1)))) I<|.store I I I I I I (.ofD I) C234 I (yh I)<|.nil<|.K [0,1,2,5] I<|.S 1 I<|.p I (.fieldAddrLoc I I I F234_2)<|.p I (.loadLoc1 I I I Y3 I)<|bK h λx47 q47 h=>.p I (.cutStrL I I I U9 q47)<|.A 1 I<|.nil<|.sA 1 I<|.J [0,1,2,5] h (λv=>[(7,.d (.int v.2))]) (λv=>[(0,.box 234 [.d (.int v.1),.d (.int 0),.d (.int (add64 0 x46)),.d (.int 0)])]) I (λk_50 h=>?_) (λv h=>?_)
 ·refine .block<|.S 1 I<|.p I (.str_eql I I I)<|.A 1 I<|.nil<|.condS I h (λh=>?_) λh=>?_
  ·refine .skip (ndE h I)
  ·refine .S 1 I<|bK h λx51 q51 h=>.p I (.sidx I I I U9 q51)<|.Z h I (zeR _ _) λx52 h=>.A 1 I<|.nil<|.condS I h (λh=>?_) λh=>?_
   ·refine .S 1 I<|.Z h I (zg0 _ _ _ _ (λq0 y hq=>⟨_,_,I,K243,lexer_part_ok _ q0 _ hq⟩)) λx53 h=>.A 1 I<|.p I (.fieldAddrLoc I I I F234_0)<|.store I I I I I I (.ofD I) C3 I (yh I)<|.nil<|.K [0,1,2,5,6,7] I<|.seq<|.draw 5 Hm (by kernel_rfl) (by kernel_rfl)<|.A 3 I<|bK h λx54 q54 h=>.p I (.cutStrH I I I U9 q54)<|.p I (.mapGetD (ke:=(λl:List UInt8=>Value.string ⟨l.toArray⟩)) (ve:=D.bool) I U167 KT9 I I (z:=(false:Bool)) (.val Zv4))<|.nil<|.nil<|.condS I h (λh=>?_) λh=>?_
    ·refine .region<|.p I (.fieldAddrLoc I I I F234_0)<|.store I I I I I I (.ofD I) C3 I (yh I)<|.nil (ndE h I)
    ·refine .skip (ndE h I)
   ·refine .S 1 I<|bK h λx55 q55 h=>.p I (.sidx I I I U9 q55)<|.Z h I (zeg _ _) λx56 h=>.A 1 I<|.nil<|.K [0,1,2,5,6,63] I<|.condS I h (λh=>?_) λh=>?_
    ·refine .region<|.A 1 I<|.Z h I (zg0 _ _ _ _ (λq0 y hq=>⟨_,_,I,K244,zeg _ q0 _ hq⟩)) λx57 h=>.A 1 I<|.p I (.fieldAddrLoc I I I F234_0)<|.store I I I I I I (.ofD I) C3 I (yh I)<|.nil (ndE h I)
    ·refine .S 1 I<|.Z h I (zeS _ _) λx58 h=>.A 2 I<|.nil<|.condS I h (λh=>?_) λh=>?_
     ·refine .region<|.A 1 I<|.Z h I (zeS _ _) λx59 h=>.A 1 I<|.p I (.fieldAddrLoc I I I F234_0)<|.store I I I I I I (.ofD I) C3 I (yh I)<|.nil (ndE h I)
     ·refine .sr<|.p I (.fieldAddrLoc I I I F234_0)<|.store I I I I I I (.ofD I) C3 I (yh I)<|.nil<|.sA 1 I<|.block<|.L [0,1,2,5,6] h (λv=>[(7,.d (.int v))]) (λv=>[]) I λ_ x78 h=>.seq<|.seq<|.plain 24 I<|.A 2 I<|.p I (.len_str I U9 I)<|.A 2 I<|gK h λc81 h=>gK h λc82 h=>.jA 5 (!((zcc n ((sidx x47 x78).getD default)).getD default)) I (λb80=>?_) ?_
      ·refine .A 2 I<|.q I (.sidx I I I U9 (someD (impT c81 b80)))<|.q I (.call I (kC I) I (lexer_white_ok _ _ _ (someD (impT c82 b80))))<|.A 1 I<|.nil I
      refine .A 1 I<|gK h λc84 h=>.jA 4 (((sidx x47 x78).getD default) != 35) I (λb83=>?_) ?_
      ·refine .A 2 I<|.q I (.sidx I I I U9 (someD (impT c84 b83)))<|.A 1 I<|.nil I
      refine .A 1 I<|gK h λc86 h=>gK h λc87 h=>.jA 5 (!((zdC n ((cut x47 x78 (x47.length:Int)).getD default)).getD default)) I (λb85=>?_) ?_
      ·refine .A 2 I<|.q I (.cutStrL I I I U9 (someD (impT c86 b85)))<|.q I (.call I (kC I) I (lexer_begins_ok _ _ _ (someD (impT c87 b85))))<|.A 1 I<|.nil I
      refine .nil<|.nil<|.K [0,1,2,5,6,7,44] I<|.condS I h (λh=>?_) λh=>?_
      ·refine .skip<|.seq<|.block<|.skip<|.rA 3 I (ndE h I)
      ·refine .exit (ndE h I)
 ·obtain ⟨c0_0_48,x49⟩:=v
  refine .sr<|.p I (.fieldAddrLoc I I I F234_2)<|.p I (.loadLoc1 I I I Y3 I)<|.A 2 I<|.p I (.fieldAddrLoc I I I F234_3)<|.store I I I I I I (.ofD I) C3 I (yh I)<|.nil<|.K [0,1,2,5] I<|.sr<|.p I (.fieldAddrLoc I I I F234_3)<|.p I (.loadLoc1 I I I Y3 I)<|.A 1 I<|.nil ?_
  cases h
  refine hY _ _ _ 0 ?_ ?_ ?_
  all_goals rfl
section
open Go Go.RowKit Go.Proofs
attribute [local go_sem] Oper.semAt_some
def kAsg : Code := (Code.region 4 #[{ dst := some 3, op := Op.alloc 234, type := 0, pos := "lexer.go:137", after := #[], guard := none }, { dst := none, op := Op.store 234 (Operand.tmp 3) (Operand.tmp 13), type := 0, pos := "lexer.go:137", after := #[{ on := 0, ground := Ground.data }, { on := 0, ground := Ground.phase }], guard := none }] false)
def kBody : Code := (Code.block 1 (((Code.region 5 #[{ dst := some 14, op := Op.fieldAddr 234 (Operand.tmp 3) 2, type := 0, pos := "lexer.go:138", after := #[], guard := none }, { dst := some 15, op := Op.load 3 (Operand.tmp 14), type := 3, pos := "lexer.go:138", after := #[{ on := 0, ground := Ground.data }], guard := none }, { dst := some 16, op := Op.binOp BinOp.neq 3 (Operand.tmp 15) (Operand.const (Value.int IntKind.i64 0)) 3, type := 4, pos := "lexer.go:138", after := #[{ on := 1, ground := Ground.data }], guard := none }, { dst := some 17, op := Op.move (Operand.tmp 16), type := 4, pos := "lexer.go:138", after := #[{ on := 2, ground := Ground.data }], guard := none }, { dst := some 18, op := Op.fieldAddr 234 (Operand.tmp 3) 3, type := 0, pos := "lexer.go:138", after := #[{ on := 3, ground := Ground.guard }], guard := some (3, false) }, { dst := some 19, op := Op.load 3 (Operand.tmp 18), type := 3, pos := "lexer.go:138", after := #[{ on := 4, ground := Ground.data }, { on := 3, ground := Ground.guard }], guard := some (3, false) }, { dst := some 20, op := Op.load 9 (Operand.tmp 1), type := 9, pos := "lexer.go:138", after := #[{ on := 3, ground := Ground.guard }], guard := some (3, false) }, { dst := some 21, op := Op.call { callee := Callee.builtin Builtin.len, args := #[Operand.tmp 20], argTypes := #[9] }, type := 3, pos := "lexer.go:138", after := #[{ on := 6, ground := Ground.data }, { on := 3, ground := Ground.guard }], guard := some (3, false) }, { dst := some 22, op := Op.binOp BinOp.neq 3 (Operand.tmp 19) (Operand.tmp 21) 3, type := 4, pos := "lexer.go:138", after := #[{ on := 5, ground := Ground.data }, { on := 7, ground := Ground.data }, { on := 3, ground := Ground.guard }], guard := some (3, false) }, { dst := some 23, op := Op.pick (Operand.tmp 17) (Operand.const (Value.bool true)) (Operand.tmp 22), type := 4, pos := "lexer.go:138", after := #[{ on := 3, ground := Ground.data }, { on := 8, ground := Ground.data }], guard := none }] false).seq (Code.cond (Operand.tmp 23) (Code.exit 0) Code.skip)).seq ((Code.region 6 #[{ dst := some 24, op := Op.fieldAddr 234 (Operand.tmp 3) 0, type := 0, pos := "lexer.go:141", after := #[], guard := none }, { dst := some 25, op := Op.load 3 (Operand.tmp 24), type := 3, pos := "lexer.go:141", after := #[{ on := 0, ground := Ground.data }], guard := none }, { dst := none, op := Op.store 3 (Operand.tmp 2) (Operand.tmp 25), type := 0, pos := "lexer.go:141", after := #[{ on := 1, ground := Ground.data }, { on := 0, ground := Ground.phase }, { on := 1, ground := Ground.phase }], guard := none }] false).seq Code.ret)))
def kRec (fn:FuncId) (tm:Array Value) (Dd:Nat) (st:LoopState) (pend:Option Code):Loop:=
  { state:=st,pending:=pend,fn,tmps:=tm,params:=#[13],assign:=kAsg,body:=kBody,defers:=Dd }
theorem kRound (fn:FuncId) (l Dd B:Nat) (p1:Addr) (s:ByteArray) (k f a e:Int) (x0 x3 x4 x5 x6 x7 x8 x9 x10 x11 x12 x13 x14 x15 x16 x17 x18 x19 x20 x21 x22 x23 x24 x25:Value) (W:World) (hBl:B≠l) (hp:p1.block≠l)
    (hl:W.heap[l]? = some (.loop (kRec fn #[x0,.pointer (some p1),.pointer (some ⟨B,0,none⟩),x3,x4,x5,x6,x7,x8,x9,x10,x11,x12,x13,x14,x15,x16,x17,x18,x19,x20,x21,x22,x23,x24,x25] Dd .ready none))) (h1:W.cell? p1=some (.string s)) (hB:W.heap[B]? = some (.cells #[.int .i64 0] 3 (0,0))) :
    RoundIn Fence.wide 0 Tryz.prog l fn #[x0,.pointer (some p1),.pointer (some ⟨B,0,none⟩),x3,x4,x5,x6,x7,x8,x9,x10,x11,x12,(.agg #[.int .i64 k,.int .i64 f,.int .i64 a,.int .i64 e]),x14,x15,x16,x17,x18,x19,x20,x21,x22,x23,x24,x25] kAsg kBody W (λen W'=>en = .returned (.bool false)∧Fr (λb=>b=l∨b=B) W W' ∧
      ((((a != 0)||(e != (s.size:Int)))=true∧W'.heap[l]? = some (.loop (kRec fn #[x0,.pointer (some p1),.pointer (some ⟨B,0,none⟩),x3,x4,x5,x6,x7,x8,x9,x10,x11,x12,x13,x14,x15,x16,x17,x18,x19,x20,x21,x22,x23,x24,x25] Dd .done (some (.exit 0))))∧W'.heap[B]? = some (.cells #[.int .i64 0] 3 (0,0))) ∨
       (((a != 0)||(e != (s.size:Int)))=false∧W'.heap[l]? = some (.loop (kRec fn #[x0,.pointer (some p1),.pointer (some ⟨B,0,none⟩),x3,x4,x5,x6,x7,x8,x9,x10,x11,x12,x13,x14,x15,x16,x17,x18,x19,x20,x21,x22,x23,x24,x25] Dd .done (some .ret)))∧W'.heap[B]? = some (.cells #[.int .i64 k] 3 (0,0))))):=by
  refine roundIn_of_wpIn trivial ?_
  unfold kAsg
  gi_wp2_with (rw [Oper.semAt_eq _ _ _ (λc h=>by cases h)];go_simp;try go_bits)
  have hlt:l<W.heap.size:=(yo.1 hl).1
  have hBlt:B<W.heap.size:=(yo.1 hB).1
  have hplt:p1.block<W.heap.size:=by
    refine Nat.lt_of_not_le λh=>?_
    have e0:W.heap[p1.block]? = none:=Array.getElem?_eq_none_iff.2 h
    simp [World.cell?,e0] at h1
  obtain ⟨W1,hW1⟩:∃ W1,W.alloc (.cells #[.int .i64 k,.int .i64 f,.int .i64 a,.int .i64 e] 234)=W1:=⟨_,rfl⟩
  have hold:∀ q,q<W.heap.size→W1.heap[q]? = W.heap[q]?:=λq hq=>by rw [← hW1];exact Below.heap_alloc _ _ q hq
  have hnew:W1.heap[W.heap.size]? = some (.cells #[.int .i64 k,.int .i64 f,.int .i64 a,.int .i64 e] 234):=by rw [← hW1];exact World.alloc_heap_new W _
  have hsz1:W1.heap.size=W.heap.size+1:=by rw [← hW1];simp
  have hfr1:Fr zf W W1:=by rw [← hW1];exact ⟨rfl,rfl,rfl,by simp,λb hb _=>Below.heap_alloc W _ b hb,yn _⟩
  simp only [hW1]
  clear hW1
  have hL1:=(hold l hlt).trans hl
  have hbr:=run_beginRound (P:=Tryz.prog) hL1 rfl
  obtain ⟨W2,hW2⟩:∃ W2,W1.putObj l (.loop { kRec fn #[x0,.pointer (some p1),.pointer (some ⟨B,0,none⟩),x3,x4,x5,x6,x7,x8,x9,x10,x11,x12,x13,x14,x15,x16,x17,x18,x19,x20,x21,x22,x23,x24,x25] Dd .ready none with state:=.busy })=W2:=⟨_,rfl⟩
  have hfr2:Fr (λb=>b=l) W1 W2:=by rw [← hW2];exact ⟨rfl,rfl,rfl,by simp,λb _ hne=>World.putObj_heap_other hne,yn _⟩
  rw [hW2] at hbr
  have hput:∀ q,q≠l→W2.heap[q]? = W1.heap[q]?:=λq hq=>by rw [← hW2];exact World.putObj_heap_other hq
  have hL2:=(World.putObj_heap_same (w:=W1) (o:=.loop { kRec fn #[x0,.pointer (some p1),.pointer (some ⟨B,0,none⟩),x3,x4,x5,x6,x7,x8,x9,x10,x11,x12,x13,x14,x15,x16,x17,x18,x19,x20,x21,x22,x23,x24,x25] Dd .ready none with state:=.busy }) (by omega:l<W1.heap.size))
  rw [hW2] at hL2
  refine ⟨W2,hbr,?_⟩
  clear hW2 hbr
  have hT2:=(hput W.heap.size (by omega)).trans hnew
  have hB2:=((hput B hBl).trans (hold B hBlt)).trans hB
  have hp2:W2.cell? p1=some (.string s):=((World.cell?_of_block (hput p1.block hp)).trans (World.cell?_of_block (hold p1.block hplt))).trans h1
  have c0:W2.cell? ⟨W.heap.size,0,none⟩=some (.int .i64 k):=by rw [zak hT2];rfl
  have c2:W2.cell? ⟨W.heap.size,2,none⟩=some (.int .i64 a):=by rw [zak hT2];rfl
  have c3:W2.cell? ⟨W.heap.size,3,none⟩=some (.int .i64 e):=by rw [zak hT2];rfl
  have cB:W2.cell? ⟨B,0,none⟩=some (.int .i64 0):=by rw [zak hB2];rfl
  have fB:W2.frozen? ⟨B,0,none⟩=false:=by simp [World.frozen?,hB2]
  unfold kBody
  gi_wp2_with (rw [Oper.semAt_eq _ _ _ (λc h=>by cases h)];go_simp;try go_bits)
  all_goals first
    | (refine ⟨_,_,run_endRound (some (.exit 0)) hL2,rfl,?_,?_,(World.putObj_heap_other hBl).trans hB2⟩
       · refine ((hfr1.mono λ_ _ x=>x.elim).trans (hfr2.mono λ_ _ x=>.inl x)).trans ⟨rfl,rfl,rfl,by simp,λb _ hne=>World.putObj_heap_other (λh=>hne (.inl h)),yn _⟩
       · exact World.putObj_heap_same (yo.1 hL2).1)
    | (have hL3:(W2.setCell ⟨B,0,none⟩ (.int .i64 k)).heap[l]? = some (.loop { kRec fn #[x0,.pointer (some p1),.pointer (some ⟨B,0,none⟩),x3,x4,x5,x6,x7,x8,x9,x10,x11,x12,x13,x14,x15,x16,x17,x18,x19,x20,x21,x22,x23,x24,x25] Dd .ready none with state:=.busy }):=(Below.heap_setCell W2 ⟨B,0,none⟩ _ l (Ne.symm hBl)).trans hL2
       refine ⟨_,_,run_endRound (some .ret) hL3,rfl,?_,?_,(World.putObj_heap_other hBl).trans ?_⟩
       · have f3:Fr (λb=>b=l∨b=B) W2 (W2.setCell ⟨B,0,none⟩ (.int .i64 k)):=⟨rfl,rfl,rfl,by simp,λb _ hne=>Below.heap_setCell W2 ⟨B,0,none⟩ _ b (λh=>hne (.inr h)),yn _⟩
         exact (((hfr1.mono λ_ _ x=>x.elim).trans (hfr2.mono λ_ _ x=>.inl x)).trans f3).trans ⟨rfl,rfl,rfl,by simp,λb _ hne=>World.putObj_heap_other (λh=>hne (.inl h)),yn _⟩
       · exact World.putObj_heap_same (yo.1 hL3).1
       · simp [World.setCell,Array.getElem?_modify,hB2])
def kTailC : Code := .seq (Code.region 7 #[{ dst := none, op := Op.store 3 (Operand.tmp 2) (Operand.const (Value.int IntKind.i64 0)), type := 0, pos := "lexer.go:143", after := #[], guard := none }] false) .ret
theorem kTail (B:Nat) (x0 x1 x3 x4 x5 x6 x7 x8 x9 x10 x11 x12 x13 x14 x15 x16 x17 x18 x19 x20 x21 x22 x23 x24 x25:Value) (df:List Deferred) (W:World) (Qf:Exit→Act→World→Prop) (hB:W.heap[B]? = some (.cells #[.int .i64 0] 3 (0,0)))
  (h:Qf .ret { tmps:=#[x0,x1,.pointer (some ⟨B,0,none⟩),x3,x4,x5,x6,x7,x8,x9,x10,x11,x12,x13,x14,x15,x16,x17,x18,x19,x20,x21,x22,x23,x24,x25],defers:=df } (W.setCell ⟨B,0,none⟩ (.int .i64 0))):kTailC.wp Tryz.prog Qf { tmps:=#[x0,x1,.pointer (some ⟨B,0,none⟩),x3,x4,x5,x6,x7,x8,x9,x10,x11,x12,x13,x14,x15,x16,x17,x18,x19,x20,x21,x22,x23,x24,x25],defers:=df } W:=by
 have cB:W.cell? ⟨B,0,none⟩=some (.int .i64 0):=by rw [zak hB];rfl
 have fB:W.frozen? ⟨B,0,none⟩=false:=by simp [World.frozen?,hB]
 refine (wpIn_wide (n:=0)).1 ?_
 unfold kTailC
 gi_wp2
 exact h
theorem kTail' (B:Nat) (tm:Array Value) (hs:tm.size=26) (ht2:tm[2]? = some (.pointer (some ⟨B,0,none⟩))) (df:List Deferred) (W:World) (Qf:Exit→Act→World→Prop) (hB:W.heap[B]? = some (.cells #[.int .i64 0] 3 (0,0)))
  (h:Qf .ret { tmps:=tm,defers:=df } (W.setCell ⟨B,0,none⟩ (.int .i64 0))):kTailC.wp Tryz.prog Qf { tmps:=tm,defers:=df } W:=by
 rcases tm with ⟨_ | ⟨x0,_ | ⟨x1,_ | ⟨x2,_ | ⟨x3,_ | ⟨x4,_ | ⟨x5,_ | ⟨x6,_ | ⟨x7,_ | ⟨x8,_ | ⟨x9,_ | ⟨x10,_ | ⟨x11,_ | ⟨x12,_ | ⟨x13,_ | ⟨x14,_ | ⟨x15,_ | ⟨x16,_ | ⟨x17,_ | ⟨x18,_ | ⟨x19,_ | ⟨x20,_ | ⟨x21,_ | ⟨x22,_ | ⟨x23,_ | ⟨x24,_ | ⟨x25,_ | ⟨x26,xs⟩⟩⟩⟩⟩⟩⟩⟩⟩⟩⟩⟩⟩⟩⟩⟩⟩⟩⟩⟩⟩⟩⟩⟩⟩⟩⟩⟩
 all_goals first | (exfalso;simp at hs;done) | skip
 all_goals first | (exfalso;simp at hs;omega) | skip
 simp at ht2
 subst ht2
 exact kTail B x0 x1 x3 x4 x5 x6 x7 x8 x9 x10 x11 x12 x13 x14 x15 x16 x17 x18 x19 x20 x21 x22 x23 x24 x25 df W Qf hB h
theorem Fr.past {w W0 W:World} {S:Nat→Prop} (h:Fr zf w W0) (k:Fr S W0 W) (hS:∀ b,S b→w.heap.size≤b):Fr zf w W:=
 ⟨k.os.trans h.os,k.tape.trans h.tape,k.output.trans h.output,ua h.size k.size,λb hb _=>(k.block b (yT hb h.size) λhs=>by have:=hS b hs;omega).trans (h.block b hb λx=>x.elim),ua h.drawn k.drawn⟩
theorem kLeave {A:Nat→Prop} {w W:World} {tm:Array Value} {B Dd:Nat} {k:Int} (hs:tm.size=26) (ht2:tm[2]? = some (.pointer (some ⟨B,0,none⟩))) (hB:W.heap[B]? = some (.cells #[.int .i64 k] 3 (0,0))) (hD:W.heap[Dd]? = some (.deferred (some []))) (hBD:B≠Dd)
  (hf:Fr zf w W) (hDw:w.heap.size≤Dd):LeavesInM Fence.wide 0 Tryz.prog Tryz.f193 tm (pureEnd A w (.int k)) [{ target:=.collected Dd,args:=#[] }] .returning W:=by
 refine ⟨by simp,.inl ⟨_,_,rfl,run_takeDeferred hD,?_⟩⟩
 have hB2:(W.putObj Dd (.deferred none)).heap[B]? = some (.cells #[.int .i64 k] 3 (0,0)):=(World.putObj_heap_other hBD).trans hB
 have hl:=zfo (P:=Tryz.prog) (A:=λ_=>False) (w:=W.putObj Dd (.deferred none)) (t:=3) (k:=none) Y3 (b:=B) (off:=0) (d:=.int k) (u:=.int .i64 k) (by simp only [D.rep]) rfl (λq hq=>by
  have hq0:q=0:=by simp [Value.cells] at hq;omega
  subst hq0
  rw [zak hB2];simp [Value.cells])
 simp only [Instr.loadAt,Instr.sureAddr,Sem.run_bind,Sem.run_pure,Result.andThen_ok] at hl
 refine ⟨.int .i64 k,?_,_,rfl,?_,by simp only [D.rep]⟩
 ·have hp:tm.getD 2 undef = .pointer (some ⟨B,0,none⟩):=by
   have h2:(2:Nat)<tm.size:=by omega
   rw [uu h2] at ht2
   simpa [Array.getD,h2] using ht2
  have hr:(zfn tm (.cell 2 3)).run Tryz.prog (W.putObj Dd (.deferred none)) = .ok (.int .i64 k) (W.putObj Dd (.deferred none)):=by
   simp only [zfn,Sem.run_bind,hp,asAddr,Sem.run_pure,Result.andThen_ok,hl]
  rw [zeM]
  have hm:((Tryz.f193).results.mapM (zfn tm)).run Tryz.prog (W.putObj Dd (.deferred none)) = .ok #[.int .i64 k] (W.putObj Dd (.deferred none)):=by
   show (#[ResultVar.cell 2 3].mapM (zfn tm)).run Tryz.prog _=_
   rw [List.mapM_toArray]
   simp [Sem.run_map,hr]
  simp only [Sem.run_bind,hm,Result.andThen_ok,Sem.run_pure]
  rfl
 ·exact hf.past (S:=λb=>b=Dd) ⟨rfl,rfl,rfl,by simp,λb _ hne=>World.putObj_heap_other hne,yn _⟩ (λb hb=>by rw [hb];exact hDw)
theorem kRound' (fn:FuncId) (l Dd B:Nat) (p1:Addr) (s:ByteArray) (k f a e:Int) (tm:Array Value) (hs:tm.size=26) (ht1:tm[1]? = some (.pointer (some p1))) (ht2:tm[2]? = some (.pointer (some ⟨B,0,none⟩))) (W:World) (hBl:B≠l) (hp:p1.block≠l)
    (hl:W.heap[l]? = some (.loop (kRec fn tm Dd .ready none))) (h1:W.cell? p1=some (.string s)) (hB:W.heap[B]? = some (.cells #[.int .i64 0] 3 (0,0))) :
    RoundIn Fence.wide 0 Tryz.prog l fn (tm.setIfInBounds 13 (.agg #[.int .i64 k,.int .i64 f,.int .i64 a,.int .i64 e])) kAsg kBody W (λen W'=>en = .returned (.bool false)∧Fr (λb=>b=l∨b=B) W W' ∧
      ((((a != 0)||(e != (s.size:Int)))=true∧W'.heap[l]? = some (.loop (kRec fn tm Dd .done (some (.exit 0))))∧W'.heap[B]? = some (.cells #[.int .i64 0] 3 (0,0))) ∨
       (((a != 0)||(e != (s.size:Int)))=false∧W'.heap[l]? = some (.loop (kRec fn tm Dd .done (some .ret)))∧W'.heap[B]? = some (.cells #[.int .i64 k] 3 (0,0))))):=by
  rcases tm with ⟨_ | ⟨x0,_ | ⟨x1,_ | ⟨x2,_ | ⟨x3,_ | ⟨x4,_ | ⟨x5,_ | ⟨x6,_ | ⟨x7,_ | ⟨x8,_ | ⟨x9,_ | ⟨x10,_ | ⟨x11,_ | ⟨x12,_ | ⟨x13,_ | ⟨x14,_ | ⟨x15,_ | ⟨x16,_ | ⟨x17,_ | ⟨x18,_ | ⟨x19,_ | ⟨x20,_ | ⟨x21,_ | ⟨x22,_ | ⟨x23,_ | ⟨x24,_ | ⟨x25,_ | ⟨x26,xs⟩⟩⟩⟩⟩⟩⟩⟩⟩⟩⟩⟩⟩⟩⟩⟩⟩⟩⟩⟩⟩⟩⟩⟩⟩⟩⟩⟩
  all_goals first | (exfalso;simp at hs;done) | skip
  all_goals first | (exfalso;simp at hs;omega) | skip
  simp at ht1 ht2
  subst ht1;subst ht2
  exact kRound fn l Dd B p1 s k f a e x0 x3 x4 x5 x6 x7 x8 x9 x10 x11 x12 x13 x14 x15 x16 x17 x18 x19 x20 x21 x22 x23 x24 x25 W hBl hp hl h1 hB
theorem hK238:callable Tryz.prog 238=true:=by kernel_rfl
theorem hK218:callable Tryz.prog 218=true:=by kernel_rfl
theorem hK239:callable Tryz.prog 239=true:=by kernel_rfl
theorem hZ167:za4 Tryz.prog 167 none=true:=by kernel_rfl
abbrev KE:List UInt8→Value:=λl:List UInt8=>Value.string ⟨l.toArray⟩
theorem lexer_tokens_ok (n:Nat) (t0:List UInt8) (kw:GMap (List UInt8) Bool) (h:zbP n=some kw):Pure Tryz.prog 218 [.str t0] (.fn (.func 239) [] [.ref (.str t0),.ref (GMap.dat KE D.bool kw)]):=by
 refine Pure.of_tri Tryz.func218 rfl (by rw [Tryz.ntmps218];simp) λA w=>?_
 rw [Tryz.ntmps218]
 refine .seq ?_
 refine .region ?_
 refine .op rfl rfl (.box rfl rfl) ?_
 refine .op rfl rfl (.assign rfl rfl) ?_
 refine .nil ?_
 refine .seq ?_
 refine .region ?_
 refine .op rfl rfl (.call rfl hK238 rfl (lexer_keywords_ok _ _ h)) ?_
 refine .allocStore rfl rfl rfl rfl rfl rfl rfl rfl (by simp) rfl rfl hZ167 ?_
 refine .nil ?_
 refine .seq ?_
 refine .region ?_
 refine .op rfl rfl (.makeFunc rfl rfl) ?_
 refine .op rfl rfl (.assign rfl rfl) ?_
 refine .nil ?_
 refine .ret ?_
 exact zb8 rfl (.d _)
theorem lexer_Kind_ok (n:Nat) (t0:List UInt8) (r:Int) (h:zeK n t0=some r):Pure Tryz.prog 193 [.str t0] (.int r):=by
  unfold zeK at h
  refine Pure.of_triM Tryz.func193 rfl (by rw [Tryz.ntmps193];simp) λA w=>?_
  rw [Tryz.ntmps193]
  refine .seq ?_
  refine .region ?_
  refine .op rfl rfl (.box rfl rfl) ?_
  refine .allocZ rfl rfl rfl rfl (.val Zv3) rfl ?_
  refine .nil ?_
  refine .seq ?_
  refine .seq ?_
  refine .plain 7 rfl ?_
  refine .op rfl rfl rfl rfl (.load rfl rfl Y9 rfl) ?_
  refine .op rfl rfl rfl rfl (.str_eql rfl rfl rfl) ?_
  refine .op rfl rfl rfl rfl (.move rfl rfl) ?_
  refine .jOr 3 (b2:=decide (4096<(t0.length:Int))) rfl rfl rfl rfl (.inl rfl) (λ_ _ _ h1=>(by cases h1)) rfl rfl (λhb_1=>?_) ?_
  · refine .gop rfl rfl rfl rfl rfl rfl (.load rfl rfl Y9 rfl) ?_
    refine .gop rfl rfl rfl rfl rfl rfl (.len_str rfl U9 rfl) ?_
    refine .gop rfl rfl rfl rfl rfl rfl (.gtr rfl rfl rfl) ?_
    exact .nil rfl
  refine .nil ?_
  refine .nil ?_
  refine .condS rfl h (λh=>?_) (λh=>?_)
  · refine .seq ?_
    refine .region ?_
    refine .store rfl rfl rfl rfl rfl rfl (.ofD rfl) C3 rfl (yh rfl) ?_
    refine .nil ?_
    refine .ret ?_
    cases h
    exact retCell1 rfl rfl Y3 (.d _)
  refine .skip ?_
  obtain ⟨kw,hkw,h⟩:=bindS h
  obtain ⟨tok,htok,h⟩:=bindS h
  refine Tri.le (t:=⟨[(1,.d (.ref (.str t0))),(2,.loc 0 0)],[.box 3 [.d (.int 0)]]⟩) ⟨rfl,rfl,rfl,trivial⟩ ?_
  refine ⟨λbs a w' hR=>?_⟩
  have hR0:R ⟨A,zf,w,26,λ_ _=>False,[],0,[]⟩ bs ⟨[(1,.d (.ref (.str t0))),(2,.loc 0 0)],[.box 3 [.d (.int 0)]]⟩ a w':=hR.noEsc
  refine wp_seq (wp_seq (Code.wp_mono ?_ (Tri.run (C:=⟨A,zf,w,26,λ_ _=>False,[],0,[]⟩) (Q:=λe s=>e = .normal∧look 12 s.T=some (.d (.fn (.func 239) [] [.ref (.str t0),.ref (GMap.dat KE D.bool kw)]))∧look 1 s.T=some (.d (.ref (.str t0)))∧look 2 s.T=some (.loc 0 0)∧s.H[0]? = some (.box 3 [.d (.int 0)])) ?_ bs a w' hR0)))
  case refine_2=>
    refine .region ?_
    refine .op rfl rfl (.load rfl rfl Y9 rfl) ?_
    refine .op rfl rfl (.call rfl hK218 rfl (lexer_tokens_ok _ _ _ hkw)) ?_
    refine .nil ?_
    exact ⟨rfl,rfl,rfl,rfl,rfl⟩
  rintro e a3 w3 (⟨bs3,s3,⟨rfl,g12,g1,g2,gH⟩,hR3⟩ | ⟨_,hE⟩)
  case inr=>exact hE.elim
  simp only [Exit.then]
  have e12:=hR3.ev (x:=.tmp 12) (by simpa [ev] using g12)
  have e1:=hR3.ev (x:=.tmp 1) (by simpa [ev] using g1)
  have e2:=hR3.ev (x:=.tmp 2) (by simpa [ev] using g2)
  have hbox:=hR3.blk 0 _ gH
  simp only [V.rep,gH] at e2
  obtain ⟨B,hB0,e2⟩:=e2
  simp only [Blk.rep] at hbox
  obtain ⟨B',vs,hB1,hBh,hvs⟩:=hbox
  obtain rfl:B=B':=by rw [hB0] at hB1;simpa using hB1
  have hvs:vs = #[.int .i64 0]:=by
    simp only [V.reps,V.rep,D.rep] at hvs
    obtain ⟨v,vs',hv,rfl,rfl⟩:=hvs
    exact Array.toList_inj.1 hv
  subst hvs
  simp only [V.rep] at e12 e1
  simp only [D.rep] at e1
  obtain ⟨pb,po,pu,e1,hpA,hplt,hpu,hpc⟩:=e1
  subst hpu
  have hstr:w3.cell? ⟨pb,po,none⟩=some (.string ⟨t0.toArray⟩):=by have:=hpc 0 (by simp [Value.cells]);simpa [Value.cells] using this
  have e12':=e12
  simp only [D.rep] at e12
  obtain ⟨vs,us,e12,hv0,hus⟩:=e12
  simp only [D.reps] at hv0
  have hv0:vs = #[]:=by simpa using hv0
  subst hv0
  have hsz:a3.tmps.size=26:=hR3.size
  have hdf:a3.defers=[]:=hR3.defers
  have hown:=hR3.own
  have hBlt:B<w3.heap.size:=(yo.1 hBh).1
  refine (wpIn_wide (n:=0)).1 (wpIn_block (wpIn_rangeFunc ?_))
  intro fn _
  obtain ⟨w4,hw4⟩:∃ w4,(w3.alloc (.deferred (some []))).alloc (.loop (kRec fn a3.tmps w3.heap.size .ready none))=w4:=⟨_,rfl⟩
  have hold:∀ q,q<w3.heap.size→w4.heap[q]? = w3.heap[q]?:=λq hq=>by rw [← hw4];exact (Below.heap_alloc _ _ q (by simp;omega)).trans (Below.heap_alloc _ _ q hq)
  have hL4:w4.heap[w3.heap.size+1]? = some (.loop (kRec fn a3.tmps w3.heap.size .ready none)):=by rw [← hw4];have:=World.alloc_heap_new (w3.alloc (.deferred (some []))) (.loop (kRec fn a3.tmps w3.heap.size .ready none));rwa [World.size_alloc] at this
  have hD4:w4.heap[w3.heap.size]? = some (.deferred (some [])):=by rw [← hw4];exact (Below.heap_alloc _ _ _ (by simp)).trans (World.alloc_heap_new w3 _)
  have hs4:w4.heap.size=w3.heap.size+2:=by rw [← hw4];simp
  have hfr4:Fr zf w3 w4:=by
    rw [← hw4]
    exact (⟨rfl,rfl,rfl,by simp,λb hb _=>Below.heap_alloc _ _ b hb,yn _⟩:Fr zf w3 (w3.alloc (.deferred (some [])))).trans ⟨rfl,rfl,rfl,by simp,λb hb _=>Below.heap_alloc _ _ b hb,yn _⟩
  refine ⟨w3.heap.size+1,[{ target:=.collected w3.heap.size,args:=#[] }],w4,{ target:=.fn (.func 239) us,args:=#[.func (.yield (w3.heap.size+1)) #[] #[]] },w4,239,#[.func (.yield (w3.heap.size+1)) #[] #[]]++us,w4,?_,?_,λ_ _=>trivial,?_,λh=>by simp [Fence.wide] at h,?_⟩
  · rw [← hw4];exact run_enterLoop_outer _ _ _ _ _
  · have ek:∀ v,a3.eval (.const v)=v:=λ_=>rfl
    simp [resolve,e12,Deferred.ofValue,ek]
  · simp only [invoke];exact zb9 hK239 _ w4
  obtain ⟨A',hA'⟩:∃ A':Nat→Prop,A'=λb=>Own A bs3 b∨b=w3.heap.size∨b=w3.heap.size+1:=⟨_,rfl⟩
  have hAlt:∀ b,A' b→b<w4.heap.size:=λb hb=>by
    subst hA'
    rcases hb with (hb | hb) | rfl | rfl
    · have:=hown.foreign b hb;omega
    · have:=hown.lt b hb;omega
    · omega
    · omega
  have hAin:∀ b,b<w3.heap.size→A' b→Own A bs3 b:=λb hb hb'=>by
    subst hA'
    rcases hb' with hb' | rfl | rfl
    · exact hb'
    · omega
    · omega
  have hG4:zfc A' w4:=hown.glob.fr hfr4 (λ_ x=>x.elim) hAin
  have hargs:D.reps A' w4 [.fn (.yield (w3.heap.size+1)) [] [],.ref (.str t0),.ref (GMap.dat KE D.bool kw)] ((#[Value.func (.yield (w3.heap.size+1)) #[] #[]]:Array Value)++us).toList:=by
    have:=D.reps_fr hfr4 (λ_ x=>x.elim) hAin _ _ hus
    simp only [Array.toList_append,ud,yZ,D.reps,D.rep] at this ⊢
    exact ⟨_,_,rfl,⟨#[],#[],rfl,rfl,rfl⟩,this⟩
  have hstr4:w4.cell? ⟨pb,po,none⟩=some (.string ⟨t0.toArray⟩):=by rw [World.cell?_of_block (hold pb hplt)];exact hstr
  have hB4:w4.heap[B]? = some (.cells #[.int .i64 0] 3 (0,0)):=(hold B hBlt).trans hBh
  have ht1:a3.tmps[1]? = some (.pointer (some ⟨pb,po,none⟩)):=by
    have:a3.tmps.getD 1 undef = .pointer (some ⟨pb,po,none⟩):=e1
    simpa [Array.getD,hsz] using this
  have ht2:a3.tmps[2]? = some (.pointer (some ⟨B,0,none⟩)):=by
    have:a3.tmps.getD 2 undef = .pointer (some ⟨B,0,none⟩):=e2
    simpa [Array.getD,hsz] using this
  obtain ⟨Post,hPost⟩:∃ Post:World→Prop,Post=(λW'=>∃ W0,Fr zf w4 W0∧Fr (λb=>b=w3.heap.size+1∨b=B) W0 W' ∧
      ((((tok.at_ != 0)||(tok.end_ != (t0.length:Int)))=true∧W'.heap[w3.heap.size+1]? = some (.loop (kRec fn a3.tmps w3.heap.size .done (some (.exit 0))))∧W'.heap[B]? = some (.cells #[.int .i64 0] 3 (0,0))) ∨
       (((tok.at_ != 0)||(tok.end_ != (t0.length:Int)))=false∧W'.heap[w3.heap.size+1]? = some (.loop (kRec fn a3.tmps w3.heap.size .done (some .ret)))∧W'.heap[B]? = some (.cells #[.int .i64 tok.kind] 3 (0,0))))):=⟨_,rfl⟩
  refine callsIn_wide.2 ((calls_of_triE (A:=A') (w:=w4) (Post:=Post) Tryz.func239 rfl rfl (by rw [Tryz.ntmps239];exact yh rfl) hAlt hG4 hargs ?_).mono ?_)
  · have htri:=lexer_tokens_1_tri n t0 kw (.fn (.yield (w3.heap.size+1)) [] []) ⟨A',zf,w4,93,λa W'=>a.defers=[]∧Post W',[],0,[]⟩ rfl rfl (λ_ _=>False) tok htok (λQ T H j q0 q5 qj=>tokX_tri (Post:=Post) (w3.heap.size+1) tok ?_ Q T H j q0 q5 qj)
    · rw [zfJ Tryz.func239 rfl] at htri
      exact htri
    · intro W v hf hv
      simp only [Token.enc,D.rep,D.reps] at hv
      obtain ⟨vs,rfl,v1,l1,hvs,rfl,v2,l2,rfl,rfl,v3,l3,rfl,rfl,v4,l4,rfl,rfl,rfl⟩:=hv
      have hvs:vs = #[.int .i64 tok.kind,.int .i64 tok.from_,.int .i64 tok.at_,.int .i64 tok.end_]:=Array.toList_inj.1 (by simpa using hvs)
      subst hvs
      have hLW:W.heap[w3.heap.size+1]? = some (.loop (kRec fn a3.tmps w3.heap.size .ready none)):=(hf.block _ (by omega) (λx=>x.elim)).trans hL4
      refine ⟨fn,a3.tmps.setIfInBounds 13 (.agg #[.int .i64 tok.kind,.int .i64 tok.from_,.int .i64 tok.at_,.int .i64 tok.end_]),kAsg,kBody,?_,(kRound' fn (w3.heap.size+1) w3.heap.size B ⟨pb,po,none⟩ ⟨t0.toArray⟩ tok.kind tok.from_ tok.at_ tok.end_ a3.tmps hsz ht1 ht2 W (by omega) (by simp only;omega) hLW ?_ ?_).mono ?_⟩
      · have:=run_yield (P:=Tryz.prog) (args:=#[.agg #[.int .i64 tok.kind,.int .i64 tok.from_,.int .i64 tok.at_,.int .i64 tok.end_]]) hLW rfl
        simpa [kRec] using this
      · rw [World.cell?_of_block (hf.block pb (by omega) (λx=>x.elim))];exact hstr4
      · exact (hf.block B (by omega) (λx=>x.elim)).trans hB4
      · rintro e W' ⟨rfl,hf2,hcase⟩
        exact ⟨rfl,by rw [hPost];exact ⟨W,hf,hf2,hcase⟩⟩
  · rintro e W ⟨⟨u,rfl⟩,hP⟩
    rw [hPost] at hP
    obtain ⟨W0,f1,f2,hcase⟩:=hP
    have hs0:w4.heap.size≤W0.heap.size:=f1.size
    have hD0:W0.heap[w3.heap.size]? = some (.deferred (some [])):=(f1.block w3.heap.size (by omega) (λx=>x.elim)).trans hD4
    have hDW:W.heap[w3.heap.size]? = some (.deferred (some [])):=(f2.block w3.heap.size (by omega) (by rintro (h | h) <;> omega)).trans hD0
    have hww:w.heap.size≤w3.heap.size:=hR3.fr.size
    have hBw:w.heap.size≤B:=(hR3.new B (yD hB0)).resolve_left (λh=>h)
    have hfr3:Fr zf w w3:=hR3.fr
    have hfW:Fr zf w W:=((hfr3.trans hfr4).trans f1).past f2 (by rintro b (rfl | rfl) <;> omega)
    rcases hcase with ⟨hc,hL,hBW⟩ | ⟨hc,hL,hBW⟩
    · rw [if_pos hc] at h
      cases h
      refine ⟨some (.exit 0),_,run_endLoop hL (by simp [kRec]),?_⟩
      have hB5:(W.putObj (w3.heap.size+1) (.loop { kRec fn a3.tmps w3.heap.size .done (some (.exit 0)) with state:=.exhausted })).heap[B]? = some (.cells #[.int .i64 0] 3 (0,0)):=(World.putObj_heap_other (by omega)).trans hBW
      have hD5:(W.putObj (w3.heap.size+1) (.loop { kRec fn a3.tmps w3.heap.size .done (some (.exit 0)) with state:=.exhausted })).heap[w3.heap.size]? = some (.deferred (some [])):=(World.putObj_heap_other (by omega)).trans hDW
      have hf5:Fr zf w (W.putObj (w3.heap.size+1) (.loop { kRec fn a3.tmps w3.heap.size .done (some (.exit 0)) with state:=.exhausted })):=hfW.past (S:=λb=>b=w3.heap.size+1) ⟨rfl,rfl,rfl,by simp,λb _ hne=>World.putObj_heap_other hne,yn _⟩ (by rintro b rfl;omega)
      generalize W.putObj (w3.heap.size+1) (.loop { kRec fn a3.tmps w3.heap.size .done (some (.exit 0)) with state:=.exhausted })=W5 at hB5 hD5 hf5 ⊢
      refine wpIn_exit ?_
      simp only [Exit.inBlock,if_true,Exit.then]
      have hB6:(W5.setCell ⟨B,0,none⟩ (.int .i64 0)).heap[B]? = some (.cells #[.int .i64 0] 3 (0,0)):=by simp [World.setCell,Array.getElem?_modify,hB5]
      have hD6:(W5.setCell ⟨B,0,none⟩ (.int .i64 0)).heap[w3.heap.size]? = some (.deferred (some [])):=(Below.heap_setCell W5 ⟨B,0,none⟩ _ _ (by simp only;omega)).trans hD5
      have hf6:Fr zf w (W5.setCell ⟨B,0,none⟩ (.int .i64 0)):=by
        have k6:Fr (λb=>b=B) W5 (W5.setCell ⟨B,0,none⟩ (.int .i64 0)):=⟨rfl,rfl,rfl,by simp,λb _ hne=>Below.heap_setCell W5 ⟨B,0,none⟩ _ b hne,yn _⟩
        exact hf5.past k6 (by rintro b rfl;exact hBw)
      exact kTail' B a3.tmps hsz ht2 _ W5 _ hB5 (.inr ⟨rfl,by rw [hdf];exact kLeave hsz ht2 hB6 hD6 (by omega) hf6 hww⟩)
    · rw [if_neg (by rw [hc];simp)] at h
      cases h
      refine ⟨some .ret,_,run_endLoop hL (by simp [kRec]),?_⟩
      have hB5:(W.putObj (w3.heap.size+1) (.loop { kRec fn a3.tmps w3.heap.size .done (some .ret) with state:=.exhausted })).heap[B]? = some (.cells #[.int .i64 tok.kind] 3 (0,0)):=(World.putObj_heap_other (by omega)).trans hBW
      have hD5:(W.putObj (w3.heap.size+1) (.loop { kRec fn a3.tmps w3.heap.size .done (some .ret) with state:=.exhausted })).heap[w3.heap.size]? = some (.deferred (some [])):=(World.putObj_heap_other (by omega)).trans hDW
      have hf5:Fr zf w (W.putObj (w3.heap.size+1) (.loop { kRec fn a3.tmps w3.heap.size .done (some .ret) with state:=.exhausted })):=hfW.past (S:=λb=>b=w3.heap.size+1) ⟨rfl,rfl,rfl,by simp,λb _ hne=>World.putObj_heap_other hne,yn _⟩ (by rintro b rfl;omega)
      generalize W.putObj (w3.heap.size+1) (.loop { kRec fn a3.tmps w3.heap.size .done (some .ret) with state:=.exhausted })=W5 at hB5 hD5 hf5 ⊢
      refine wpIn_ret ?_
      simp only [Exit.inBlock,Exit.then]
      exact .inr ⟨rfl,by rw [hdf];exact kLeave hsz ht2 hB5 hD5 (by omega) hf5 hww⟩
end
end Go.Proofs.YtcagdmegicijlaaGreatDoor
