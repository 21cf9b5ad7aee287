/- Part of the proof of one law of the seat. -/
import Derived.Test.YtipkniadbkndfaaGreatDoorSm03
import Derived.Tactics
import Derived.Tactics2
import Derived.Defers
import Derived.Recover
import Derived.Laws.Pointers
import Derived.Deep.RegionHeld
set_option linter.all false
set_option maxRecDepth 100000
set_option maxHeartbeats 40000000
namespace Go.Proofs.YtipkniadbkndfaaGreatDoor
open Go Go.RowKit
open Option renaming some->O,none->Y
open Bool renaming true->U,false->M
open Go.Result renaming andThen_ok->xi
open V renaming rep->xk,reps->xE
open Go.Sem renaming run_bind->xq,run_pure->xr
open D renaming reps->xu,rep->xC
open _root_.Array renaming replicate->xv,getElem?_append->ww,getElem?_append_left->vd
open Go.World renaming putObj_heap_other->xx,putObj_heap_same->wC,alloc_heap_new->wP
open Fr renaming refl->xz
open Nat renaming blt->xA,ble->xQ,beq->vf
open Go.RowKit.Below renaming heap_alloc->xD
open zvx renaming gs->xI
open Go.Fence renaming wide->xO
open Go.Code renaming wp_mono->xW
open Go.Deferred renaming ofValue->xZ
open List renaming mem_append_left->wi,map_nil->wB,mem_append_right->wF,getD->vD
open Go.Region renaming wanted->wq
open Go.Value renaming func->wx
open OneI renaming of->wJ
open Go.Act renaming eval->wK,put->vo
open Go.Oper renaming upon->vh
open Blk renaming under->vl
open Go.Exit renaming inBlock->vm
open Go.Calls renaming mono->uY
open Go.Proofs.Tryz renaming prog->xg
section
open Go Go.RowKit Go.Proofs
theorem Y271:zas xg 271=O (O 4):=by kernel_rfl
def tokL :List Oper:=[{dst:=some 84,op:=Op.move<|Operand.tmp 0,type:=331,pos:= "lexer.go:103",after:=#[],guard:=none},{dst:=some 85,op:=Op.load 271<|Operand.tmp 5,type:=271,pos:= "lexer.go:103",after:=#[],guard:=none},{dst:=some 86,op:=Op.call {callee:=Callee.value<|Operand.tmp 84,args:=#[Operand.tmp 85],argTypes:=#[271]},type:=4,pos:= "lexer.go:103",after:=#[{on:=0,ground:=Ground.data},{on:=1,ground:=Ground.data}],guard:=none},{dst:=some 87,op:=Op.unOp UnOp.not 4<|Operand.tmp 86,type:=4,pos:= "lexer.go:103",after:=#[{on:=2,ground:=Ground.data}],guard:=none},{dst:=some 88,op:=Op.move<|Operand.tmp 87,type:=4,pos:= "lexer.go:103",after:=#[{on:=3,ground:=Ground.data},{on:=2,ground:=Ground.chain}],guard:=none},{dst:=some 89,op:=Op.fieldAddr 271 (Operand.tmp 5) 0,type:=0,pos:= "lexer.go:103",after:=#[{on:=4,ground:=Ground.guard}],guard:=some (4,false)},{dst:=some 90,op:=Op.load 3<|Operand.tmp 89,type:=3,pos:= "lexer.go:103",after:=#[{on:=5,ground:=Ground.data},{on:=4,ground:=Ground.guard}],guard:=some (4,false)},{dst:=some 91,op:=Op.binOp BinOp.eql 3 (Operand.tmp 90) (Operand.const<|Value.int IntKind.i64 0) 3,type:=4,pos:= "lexer.go:103",after:=#[{on:=6,ground:=Ground.data},{on:=4,ground:=Ground.guard}],guard:=some (4,false)},{dst:=some 92,op:=Op.pick (Operand.tmp 88) (Operand.const<|Value.bool true)<|Operand.tmp 91,type:=4,pos:= "lexer.go:103",after:=#[{on:=4,ground:=Ground.data},{on:=7,ground:=Ground.data}],guard:=none}]
def tokX:Code:=.seq (.region 19 tokL.toArray M)<|.cond (.tmp 92) .ret .skip
theorem R.reCtx {C C'}(h1:C'.A0=C.A0)(h2:C'.own0=C.own0)(h3:C'.w0=C.w0)(h4:C'.n=C.n)(h5:C'.gh=C.gh)(h6:C'.gn=C.gn)(h7:C'.df=C.df){bs}{s}{a}{w}(h:R C bs s a w):R C' bs s a w:=by
 obtain⟨g,b,j,i,c,f,e,d⟩:=C';subst h1;subst h2;subst h3;subst h4;subst h5;subst h6;subst h7;exact⟨h.own,h.len,h.blk,h.tmp,h.defers,h.size,h.fr,h.new,h.gh⟩
theorem R.noEsc {A0 own0}{w0}{n}{esc esc'}{bs}{s}{a}{w}(h:R ⟨A0,own0,w0,n,esc,[],0,[]⟩ bs s a w):R ⟨A0,own0,w0,n,esc',[],0,[]⟩ bs s a w:=⟨h.own,h.len,h.blk,h.tmp,h.defers,h.size,h.fr,h.new,h.gh⟩
theorem zte {A}{w0}{Post:World->Prop}(l:Nat)(tok:Token)(hround:∀(W:World)(v:Value),Fr ze w0 W->xC A W tok.enc v->∃fn tm asg bd,(Instr.yield l #[v]).run xg W=.ok (.round l fn tm asg bd) W/\RoundIn xO 0 xg l fn tm asg bd W λe W'=>e=.returned (.bool M)/\Post W')(Q:Exit->St->Prop)(T:List<|Nat×V)(H:List Blk)(j:Nat)(h0:look 0 T=O (.d<|.fn (.yield l) [] []))(h5:look 5 T=O (.loc j 0))(hj:H[j]?=O (.box 271<|V.zvR<|.d tok.enc)):Tri xg ⟨A,ze,w0,93,λa W'=>a.defers=[]/\Post W',[],0,[]⟩ tokX Q ⟨T,H⟩:=by
 refine⟨λbs a w hR=>wpIn_wide (n:=1).1 ?_⟩;unfold tokX;refine wpIn_seq<|wpIn_region_lit ?_;have hR':R ⟨A,ze,w0,93,λ_ _=>False,[],0,[]⟩ bs ⟨T,H⟩ a w:=R.reCtx (C:=⟨A,ze,w0,93,λa W'=>a.defers=[]/\Post W',[],0,[]⟩) (C':=⟨A,ze,w0,93,λ_ _=>False,[],0,[]⟩) rfl rfl rfl rfl rfl rfl rfl hR;have hpre:TriL xg ⟨A,ze,w0,93,λ_ _=>False,[],0,[]⟩ tokL.toArray (tokL.take 2) (λe s=>e=.normal/\look 84 s.T=O (.d<|.fn (.yield l) [] [])/\look 85 s.T=O (.d tok.enc)) ⟨T,H⟩:=by
  refine .op rfl rfl (.move rfl h0) ?_;refine .op rfl rfl (.zxi rfl h5 hj Y271 (yt rfl) (v:=.d tok.enc) rfl) ?_;exact .nil ⟨rfl,rfl,rfl⟩
 refine zg7 (pre:=tokL.take 2) (post:=tokL.drop 2) (Q0:=QR _ _) ?_ ?_ a w<|hpre.run bs a w hR'
 ·rintro e a w(⟨_,_,⟨h,_⟩,_⟩|⟨_,h⟩);·exact h
  simp_all
 rintro a1 w1(⟨bs1,s1,⟨_,g1,g2⟩,hR1⟩|⟨h,_⟩);case inr=>cases h
 have e84:=hR1.ev (x:=.tmp 84)<|by simpa[ev]using g1
 have e85:=hR1.ev (x:=.tmp 85)<|by simpa[ev]using g2
 simp only[xk,xC]at e84;obtain⟨vs,us,e84,e1,e2⟩:=e84;simp only[xu]at e1 e2;have e1:vs=#[]:=by simp_all
 have e2:us=#[]:=by simpa using e2
 subst e1;subst e2;simp only[xk]at e85;obtain⟨fn,tm,asg,bd,hy,hr⟩:=hround w1 _ hR1.fr<|D.zyf rfl e85;have hsz:a1.tmps.size=93:=hR1.size;have hdf:=hR1.defers;simp only[tokL,List.drop];refine wpListIn_plain rfl λK hK=>⟨λ_ _=>trivial,?_⟩;have hx:∀(o:Oper),o.op=.call {callee:=.value<|.tmp 84,args:=#[.tmp 85],argTypes:=#[271]}->(execOp a1.eval o).run xg w1=.ok (.round l fn tm asg bd) w1:=λo ho=>by simp[execOp,ho,resolve,e84,xZ,invoke,hy]
 have hsm:∀ρ o,Oper.semAt Fence.wide.round ρ o=execOp ρ o:=λ_ _=>rfl;rw[hsm,hx _ rfl,Oper.uponIn_round];refine⟨λh=>by simp[xO]at h,hr.mono ?_⟩;rintro e W'⟨rfl,hp⟩;refine hK _ _ ?_;obtain⟨a2,ha2⟩:∃a2,a1.put (O 86) (.bool M)=a2:=⟨_,rfl⟩;have z2:a2.tmps.size=93/\a2.defers=[]/\a2.tmps[86]?=O (.bool M):=by subst ha2;exact⟨by simp[vo,hsz],hdf,by simp[vo,hsz]⟩
 simp only[ha2];clear ha2 hK K;refine wpListIn_plain rfl λK hK=>⟨λ_ _=>trivial,?_⟩;rw[hsm];have x87:∀(o:Oper),o.op=.unOp .not 4 (.tmp 86)->(execOp a2.eval o).run xg W'=.ok (.value<|.bool U) W':=λo ho=>by simp[execOp,ho,Op.unary,wK,z2.2.2]
 rw[x87 _ rfl];refine hK _ _ ?_;obtain⟨a3,ha3⟩:∃a3,a2.put (O 87) (.bool U)=a3:=⟨_,rfl⟩;have z3:a3.tmps.size=93/\a3.defers=[]/\a3.tmps[87]?=O (.bool U):=by subst ha3;exact⟨by simp[vo,z2.1],z2.2.1,by simp[vo,z2.1]⟩
 simp only[ha3];clear ha3 hK K;refine wpListIn_plain rfl λK hK=>⟨λ_ _=>trivial,?_⟩;rw[hsm];have x88:∀(o:Oper),o.op=.move (.tmp 87)->(execOp a3.eval o).run xg W'=.ok (.value<|.bool U) W':=λo ho=>by simp[execOp,ho,wK,z3.2.2]
 rw[x88 _ rfl];refine hK _ _ ?_;obtain⟨a4,ha4⟩:∃a4,a3.put (O 88) (.bool U)=a4:=⟨_,rfl⟩;have z4:a4.tmps.size=93/\a4.defers=[]/\a4.tmps[88]?=O (.bool U):=by subst ha4;exact⟨by simp[vo,z3.1],z3.2.1,by simp[vo,z3.1]⟩
 simp only[ha4];clear ha4 hK K;have hw:∀(a:Act)(o:Oper),o.guard=O (4,M)->a.tmps[88]?=O (.bool U)->wq o (yielded tokL.toArray a.tmps)=false:=λa o ho ha=>by simp[wq,ho,yielded,tokL,ha]
 simp only[tokL]at hw;refine wpListIn_skip (hw a4 _ rfl z4.2.2) rfl ?_;obtain⟨a5,ha5⟩:∃a5,a4.put (O 89) undef=a5:=⟨_,rfl⟩;have z5:a5.tmps.size=93/\a5.defers=[]/\a5.tmps[88]?=O (.bool U):=by grind[vo]
 simp only[ha5];refine wpListIn_skip (hw a5 _ rfl z5.2.2) rfl ?_;obtain⟨a6,ha6⟩:∃a6,a5.put (O 90) undef=a6:=⟨_,rfl⟩;have z6:a6.tmps.size=93/\a6.defers=[]/\a6.tmps[88]?=O (.bool U):=by grind[vo]
 simp only[ha6];refine wpListIn_skip (hw a6 _ rfl z6.2.2) rfl ?_;obtain⟨a7,ha7⟩:∃a7,a6.put (O 91) undef=a7:=⟨_,rfl⟩;have z7:a7.tmps.size=93/\a7.defers=[]/\a7.tmps[88]?=O (.bool U):=by grind[vo]
 simp only[ha7];clear ha5 ha6 ha7;refine wpListIn_plain rfl λK hK=>⟨λ_ _=>trivial,?_⟩;rw[hsm];have x92:∀(o:Oper),o.op=.pick (.tmp 88) (.const<|.bool U) (.tmp 91)->(execOp a7.eval o).run xg W'=.ok (.value<|.bool U) W':=λo ho=>by simp[execOp,ho,asBool,wK,z7.2.2]
 rw[x92 _ rfl];refine hK _ _ ?_;obtain⟨a8,ha8⟩:∃a8,a7.put (O 92) (.bool U)=a8:=⟨_,rfl⟩;have z8:a8.defers=[]/\a8.tmps[92]?=O (.bool U):=by grind[vo]
 simp only[ha8];refine wpListIn_nil ?_;simp only[Exit.then];refine wpIn_cond (t:=U) (by simp[wK,z8.2]) ?_;exact wpIn_ret<|.inr ⟨rfl,z8.1,hp⟩
end
abbrev Ctx.ne (C:Ctx):Ctx:=⟨C.A0,C.own0,C.w0,C.n,λ_ _=>False,C.gh,C.gn,C.df⟩
theorem R.esc [zvx][Drw]{C}{bs s a w}{E}(h:R C bs s a w):R ⟨C.A0,C.own0,C.w0,C.n,E,C.gh,C.gn,C.df⟩ bs s a w:=by obtain⟨c,d,e,f,g,i,j,k,b⟩:=h;exact⟨c,d,e,f,g,i,j,k,b⟩
theorem R.unesc [zvx][Drw]{C}{bs s a w}(h:R C.ne bs s a w):R C bs s a w:=by obtain⟨c,d,e,f,g,i,j,k,b⟩:=h;exact⟨c,d,e,f,g,i,j,k,b⟩
structure TriR [zvx][Drw](l:Nat)(P:Program)(C:Ctx)(c:Code)(Q:Exit->St->Prop)(s:St):Prop where run:∀bs a w,R C bs s a w->c.wpIn (Fence.wide.inRound l) 0 P (QR C.ne Q) a w
section
variable[zvx][Drw]{l:Nat}{P:Program}{C:Ctx}{Q:Exit->St->Prop}{s:St}
theorem TriR.region {id}{ops}(hd:ops.all zea=U)(h:TriL P C.ne ops.toArray ops (λe s=>e=.normal/\Q .normal s) s):TriR l P C (.region id ops.toArray M) Q s:=by
 refine⟨λi a w d=>wpIn_region_lit ?_⟩;refine zfg (F:=Fence.wide.inRound l) (.inr ⟨l,rfl⟩) (Q0:=QR C.ne λe s=>e=.normal/\Q .normal s) ?_ ?_ ops _ _ hd<|h.run _ _ _ d.esc
 ·rintro e a w(⟨_,_,⟨h,_⟩,_⟩|⟨_,h⟩);·exact h
  simp_all
 ·rintro a w(⟨c,g,⟨_,f⟩,b⟩|⟨_,h⟩);·exact .inl ⟨c,g,f,b⟩
  simp_all
theorem TriR.seq {x y}(h:TriR l P C x (λe s=>e=.normal/\TriR l P C y Q s) s):TriR l P C (.seq x y) Q s:=by
 refine⟨λf a w d=>wpIn_seq<|wpIn_mono (h.run f a w d) ?_⟩;rintro e a w(⟨c,i,⟨rfl,g⟩,b⟩|⟨_,h⟩);·exact g.run c a w b.unesc
 simp_all
theorem TriR.cond {c}{x y}{t}(hc:ev s.T c=O (.d<|.bool t))(h:TriR l P C (if t then x else y) Q s):TriR l P C (.cond c x y) Q s:=by refine⟨λe a w b=>wpIn_cond (t:=t) ?_<|h.run e a w b⟩;exact zr.1<|b.ev hc
theorem TriR.skip (h:Q .normal s):TriR l P C .skip Q s:=⟨λc a w b=>wpIn_skip<|.inl ⟨c,s,h,b.esc⟩⟩
theorem TriR.ret (h:Q .ret s):TriR l P C .ret Q s:=⟨λc a w b=>wpIn_ret<|.inl ⟨c,s,h,b.esc⟩⟩
theorem TriR.block {id}{c}(h:TriR l P C c (λe s=>(e=.normal\/e=.ret)/\Q e s) s):TriR l P C (.block id c) Q s:=by
 refine⟨λk a w i=>wpIn_block<|wpIn_mono (h.run k a w i) ?_⟩;rintro e a w(⟨b,f,⟨j,g⟩,d⟩|⟨_,h⟩)
 ·rcases j with rfl|rfl;·exact .inl ⟨b,f,g,d⟩
  ·exact .inl ⟨b,f,g,d⟩
 simp_all
end
structure OneX (G2:zvx)(D0:Drw)(C:Ctx)(G3:zvx)(C3:Ctx)(P:Program)(ops:Array Oper)(o:Oper)(s s':St):Prop where run:∀bs a w,@R G2 D0 C bs s a w->∀(Q:Exit->Act->World->Prop)(i:Nat)(K:Act->World->Prop),ops[i]?=O o->(∀a w,(∃bs,@R G3 D0 C3 bs s' a w)->K a w)->wpOpIn xO 0 P ops Q i K a w
theorem OneX.of {G}{D0}{P}{C}{ops}{o}{s s'}(h:@OneI G D0 P C ops o s s'):OneX G D0 C G C P ops o s s':=⟨@OneI.run G D0 _ _ _ _ _ _ h⟩
structure TriW (G:zvx)(D0:Drw)(P:Program)(C:Ctx)(ops:Array Oper)(l:List Oper)(Q:Exit->Act->World->Prop)(s:St):Prop where run:∀bs a w,@R G D0 C bs s a w->wpListIn xO 0 P ops Q l a w
theorem TriW.one {G2 G3}{D0}{P}{C C3}{ops}{o}{l}{Q}{s s'}(i:Nat)(hi:ops[i]?=O o)(h:OneX G2 D0 C G3 C3 P ops o s s')(k:TriW G3 D0 P C3 ops l Q s'):TriW G2 D0 P C ops (o::l) Q s:=by
 refine⟨λd a w e=>?_⟩;have:=h.run d a w e Q i (wpListIn xO 0 P ops Q l) hi λa w⟨b,c⟩=>k.run b a w c;grind[wpOpIn,wpListIn]
theorem TriW.op {G}{D0}{P}{C}{ops}{o}{l}{Q}{s s'}(i:Nat)(hi:ops[i]?=O o)(hd:zea o=U)(h:@TriL G D0 P C ops [o] (zyh s') s)(k:TriW G D0 P C ops l Q s'):TriW G D0 P C ops (o::l) Q s:=.one i hi (.of<|@wJ G D0 _ _ _ _ _ _ hd h) k
theorem TriW.nil {G2 G3}{D0}{P}{C C3}{ops}{c}{Q Q3}{s}(h:@Tri G3 D0 P C3 c Q3 s)(hQ:∀e a w,@QR G3 D0 C3 Q3 e a w->@QR G2 D0 C Q e a w):TriW G3 D0 P C3.ne ops [] (Exit.then (c.wp P<|@QR G2 D0 C Q)<|@QR G2 D0 C Q) s:=⟨λd a w b=>xW hQ<|@Tri.run G3 D0 _ _ _ _ _ h d a w<|@R.unesc G3 D0 _ _ _ _ _ b⟩
theorem Tri.regW {G2}{D0}{P}{C}{id}{l}{c}{Q}{s}(h:TriW G2 D0 P C.ne l.toArray l (Exit.then (c.wp P<|@QR G2 D0 C Q)<|@QR G2 D0 C Q) s):@Tri G2 D0 P C (.seq (.region id l.toArray M) c) Q s:=@Tri.mk G2 D0 _ _ _ _ _ λd a w b=>wp_seq<|wpIn_wide (n:=0).1<|wpIn_region_lit<|h.run d a w<|@R.esc G2 D0 _ _ _ _ _ _ b
structure TriX (G2:zvx)(D0:Drw)(C:Ctx)(G3:zvx)(P:Program)(c:Code)(Q:Exit->St->Prop)(s:St):Prop where run:∀bs a w,@R G2 D0 C bs s a w->c.wp P (λe a' w'=>∃bs' s',Q e s'/\@R G3 D0 C bs' s' a' w') a w
def escX (G3:zvx)(D0:Drw)(C:Ctx)(Q:Exit->St->Prop)(a:Act)(w:World):Prop:=∃bs s,Q .ret s/\@R G3 D0 C.ne bs s a w
theorem OneX.call {G2 G3}{D0}{P}{C}{ops}{o:Oper}{T:List<|Nat×V}{H H':List Blk}{f:FuncId}{fn}{c}{xs}{N}{rs}{r}(hw:@zxN G2 D0 C ops o ⟨T,H⟩ U)(hd:zvU o.dst C.n=U)(hc:zw7 P o (ev T) f xs)(hf:P.funcs[f]?=O fn)(hb:fn.body=O c)(hN:fn.ntmps=N)(hrs:fn.results=rs.toArray)(hn:xQ xs.length N=U)(hu:(T.all λp=>p.2.under H.length)=U)(hgn:xQ C.gn H.length=U)(hH':H'.all (vl H'.length)=U)(hu':(T.all λp=>p.2.under H'.length)=U)(hgn':xQ C.gn H'.length=U)(hT:Sub T T)(h:∀(own0:Nat->Prop)(w)(gh:List<|V×Value),(∀b,C.own0 b->own0 b)->(∀p∈C.gh,p∈gh)->TriX G2 D0 ⟨C.A0,own0,w,N,λ_ _=>False,gh,H.length,[]⟩ G3 P c (retV rs λv H2=>v=.d (.bool r)/\∃X,H2=H'++X) ⟨zbv 0 xs,H⟩):OneX G2 D0 C G3 C P ops o ⟨T,H⟩<|(⟨T,H'⟩:St).put o.dst<|.d<|.bool r:=by
 subst hN;have hgn:=yt hgn;have hn:=yt hn;refine⟨λbs a w hR Q i K hi hK=>?_⟩;have hwant:=@zxN.run G2 D0 _ _ _ _ _ hw bs a w hR;obtain⟨vs,hrun,hvs⟩:=hc.run (Own C.A0 bs) w bs H a.eval (λx _ y hx=>@R.ev G2 D0 _ _ _ _ _ hR _ _ hx) λ_=>rfl;have hlen:=V.zwE hvs;simp only[yF]at hlen;have h0:=h (λb=>C.own0 b\/O b∈bs) w (C.gh++vals a T T) (λb hb=>.inl hb) λp hp=>wi _ hp;obtain⟨rown,rlen,rblk,rtmp,rdef,rsz,rfr,rnew,rgh⟩:=hR;have hR0:@R G2 D0 ⟨C.A0,λb=>C.own0 b\/O b∈bs,w,fn.ntmps,λ_ _=>False,C.gh++vals a T T,H.length,[]⟩ bs ⟨zbv 0 xs,H⟩ {tmps:=vs++xv (fn.ntmps-vs.size) undef,defers:=[]} w:=by
  have hsz:(vs++xv (fn.ntmps-vs.size) undef).size=fn.ntmps:=by simp;omega
  refine@R.mk G2 D0 _ _ _ _ _ rown rlen rblk (λt v hv=>?_) rfl hsz (xz _ _) (λb hb=>.inl<|.inr hb) λp hp=>?_
  ·have:=zc2 xs 0 vs.toList (vs++xv (fn.ntmps-vs.size) undef) hvs (λj hj=>by
     have hj':j<vs.size:=by simpa using hj
     simp[y9,ww,hj',vD]) (by rw[hsz];simp;omega) t v hv;rw[hsz]at this;exact this
  ·rcases yv.1 hp with hp|hp;·exact⟨V.zwG hgn _ (rgh p hp).1,(rgh p hp).2⟩
   ·obtain⟨t,h1,h2⟩:=zek hp;exact⟨zdG hu h1,by rw[h2];exact(rtmp t _ h1).2⟩
 unfold wpOpIn;simp only[hi,hwant,if_true];refine⟨λ_ _=>trivial,?_⟩;rw[show o.semAt Fence.wide.round a.eval=execOp a.eval o from rfl,hrun,Oper.uponIn_enter];refine⟨λh=>by grind[xO],?_⟩;refine callsIn_wide.2<|calls_of_wp hf hb<|xW ?_<|h0.run bs _ w hR0;rintro e a' w'⟨bs',s',⟨he,ys,hres,hv,X,hX⟩,hR'⟩;obtain⟨u,hu1,hu2⟩:=@zmX G3 D0 P _ _ _ _ _ fn _ hR' (by rw[hrs];omega);obtain⟨sown,slen,sblk,stmp,sdef,ssz,sfr,snew,sgh⟩:=hR';have hRC:@R G3 D0 C bs' ⟨T,s'.H⟩ a w':=by
  have f1:Fr (λb=>C.own0 b\/O b∈bs) w w':=sfr;refine@R.mk G3 D0 _ _ _ _ _ sown slen sblk (λt v hv=>⟨(rtmp t v hv).1,(sgh _<|wF _<|zdR hv hv).2⟩) rdef rsz ?_ (λb hb=>?_) λp hp=>⟨(rgh p hp).1,(sgh p<|wi _ hp).2⟩;·refine⟨f1.os.trans rfr.os,f1.tape.trans rfr.tape,f1.output.trans rfr.output,yG rfr.size f1.size,λq hq hno=>?_,λd=>yG (rfr.drawn d)<|f1.drawn d⟩;refine(f1.block q (yC hq rfr.size) λe=>?_).trans<|rfr.block q hq hno;grind
  ·rcases snew b hb with(h1|h1)|h1;·exact .inl h1
   ·simp_all
   ·exact .inr<|yG rfr.size h1
 obtain⟨bs2,hR2⟩:=@R.ge G3 D0 _ _ _ ⟨T,H'⟩ _ _ hRC ⟨X,hX,hH',hu',hT⟩ hgn';have hu3:u=.bool r:=by grind[zr]
 have hfin:K (a.put o.dst u) w':=hK _ _ ⟨bs2,@R.put G3 D0 _ _ _ _ _ _ hR2 (xz _ _) o.dst hd (.d<|.bool r) u<|zr.2 hu3⟩;rcases he with rfl|rfl;·exact⟨sdef,u,hu1,hfin⟩
 ·exact⟨sdef,u,hu1,hfin⟩
def recB (left:Bool)(rec:Loop):Loop:=if left=U then{rec with state:=.done,pending:=O .ret}else rec
theorem OneX.yield {G1 G2 G3:zvx}{D0:Drw}{l:Nat}{rec:Loop}{P:Program}{C:Ctx}{ops:Array Oper}{o:Oper}{T:List<|Nat×V}{H H':List Blk}{x y1 y2:Operand}{tys:Array TypeId}{d1 d2:D}{p1 p2 N:Nat}{asg body:Code}{T1:List<|Nat×V}(left:Bool)(hGs:@xI G2=(l,.loop rec)::@xI G1)(hG3:@xI G3=(l,.loop<|recB left rec)::@xI G1)(hGE:∀q∈@xI G1,q.1≠l)(hrec:rec.state=.ready/\rec.pending=Y/\rec.params=#[p1,p2]/\rec.tmps.size=N)(hasg:rec.assign=asg)(hbd:rec.body=body)(hs:zxD C l rec T1)(hTN:(T1.all λq=>xA q.1 N)=U)(hp1N:xA p1 N=U)(hp2N:xA p2 N=U)(hp12:p1≠p2)(hp:T1.all λq=>q.1 !=p1&&q.1 !=p2=U)(ho:o.op=.call {callee:=.value x,args:=#[y1,y2],argTypes:=tys})(hx:ev T x=O (.d<|.fn (.yield l) [] []))(hy1:ev T y1=O (.d d1))(hy2:ev T y2=O (.d d2))(hd:zvU o.dst C.n=U)(hw:@zxN G2 D0 C ops o ⟨T,H⟩ U)(hu:(T.all λq=>q.2.under H.length)=U)(hgn:xQ C.gn H.length=U)(hH':H'.all (vl H'.length)=U)(hu':(T.all λp=>p.2.under H'.length)=U)(hgn':xQ C.gn H'.length=U)(hT:Sub T T)(h:∀(own0:Nat->Prop)(w:World)(gh:List<|V×Value),@TriR G1 D0 l P ⟨C.A0,own0,w,N,λ_ _=>False,gh,H.length,[]⟩ asg (λe s1=>e=.normal/\∀(own0:Nat->Prop)(w:World),@TriR G1 D0 l P ⟨C.A0,own0,w,N,λ_ _=>False,gh,H.length,[]⟩ body (λe s2=>e=(if left=U then .ret else .normal)/\∃X,s2.H=H'++X) s1) ⟨(p2,.d d2)::(p1,.d d1)::T1,H⟩):OneX G2 D0 C G3 C P ops o ⟨T,H⟩<|(⟨T,H'⟩:St).put o.dst<|.d<|.bool<|!left:=by
 obtain⟨hst,hpe,hps,hsz⟩:=hrec;refine OneX.mk λbs a w hR Q i K hi hK=>?_;have hwant:=@zxN.run G2 D0 _ _ _ _ _ hw bs a w hR;have e1:=@R.ev G2 D0 _ _ _ _ _ hR _ _ hx;have e21:=@R.ev G2 D0 _ _ _ _ _ hR _ _ hy1;have e22:=@R.ev G2 D0 _ _ _ _ _ hR _ _ hy2;obtain⟨⟨o1,o2,o3,o4,og⟩,rlen,rblk,rtmp,rdef,rsz,rfr,rnew,rgh⟩:=hR;simp only[xk,xC,xu]at e1;obtain⟨vs,us,e1,hv0,hu0⟩:=e1;have hv0:vs=#[]:=by simpa using hv0
 have hu0:us=#[]:=by simpa using hu0
 subst hv0 hu0;obtain⟨hlO,hL⟩:=og (l,.loop rec) (by rw[hGs];simp);simp only at hlO hL;have hlt:l<w.heap.size:=(yk.1 hL).1;unfold wpOpIn;simp only[hi,hwant,if_true];refine⟨λ_ _=>trivial,?_⟩;obtain⟨tm0,htm0⟩:∃tm0,tm0=rec.tmps.setIfInBounds p1 (a.eval y1):=⟨_,rfl⟩;obtain⟨tm1,htm1⟩:∃tm1,tm1=tm0.setIfInBounds p2 (a.eval y2):=⟨_,rfl⟩;have hrun:(execOp a.eval o).run P w=.ok (.round l rec.fn tm1 rec.assign rec.body) w:=by have hyl:=run_yield (P:=P) (args:=#[a.eval y1,a.eval y2]) hL (by rw[hps];rfl);rw[hps]at hyl;simp only[execOp,ho,resolve,e1,xZ,xq,xr,xi,invoke];simpa[htm1,htm0]using hyl
 rw[show o.semAt Fence.wide.round a.eval=execOp a.eval o from rfl,hrun,Oper.uponIn_round];refine⟨λh=>by simp[xO]at h,?_⟩;refine roundIn_of_wpIn trivial ?_;obtain⟨gh1,hgh1⟩:∃gh1,gh1=C.gh++vals a T T:=⟨_,rfl⟩;have hgn:=yt hgn;have hGG:∀q∈@xI G1,q∈@xI G2:=λq hq=>by rw[hGs];exact yZ _ hq
 have hR1:@R G1 D0 ⟨C.A0,λb=>O b∈bs,w,N,λ_ _=>False,gh1,H.length,[]⟩ bs ⟨(p2,.d d2)::(p1,.d d1)::T1,H⟩ {tmps:=tm1,defers:=[]} w:=by
  have hpn1:p1<rec.tmps.size:=by rw[hsz];simpa using hp1N
  have hpn2:p2<tm0.size:=by rw[htm0];simp;rw[hsz];simpa using hp2N
  have hs0:tm0.size=rec.tmps.size:=by rw[htm0];simp
  have hs1:tm1.size=rec.tmps.size:=by rw[htm1,htm0];simp
  refine@R.mk G1 D0 _ _ _ _ _ (@zxT.mk G1 _ _ _ o1 o2 o3 o4 λq hq=>og q<|hGG q hq) rlen rblk (λt v hv=>?_) rfl (by rw[hs1];exact hsz) (xz _ _) (λb hb=>.inl hb) λq hq=>?_
  ·simp only[zbm]at hv;split at hv<;>rename_i ht;·cases hv;subst ht;refine⟨by rw[<-hsz,<-hs0];exact hpn2,?_⟩;rw[htm1,zc9 _ _ _ _ _ hpn2,if_pos rfl];exact e22
   ·split at hv<;>rename_i ht1;·cases hv;subst ht1;refine⟨by rw[<-hsz];exact hpn1,?_⟩;rw[htm1,zc9 _ _ _ _ _ hpn2,if_neg ht,htm0,zc9 _ _ _ _ _ hpn1,if_pos rfl];exact e21
    ·have hm:=zpB hv;have h1:=hs.2 _ hm;have h2:=yo.1 hTN _ hm;refine⟨by simpa using h2,?_⟩;rw[htm1,zc9 _ _ _ _ _ hpn2,if_neg ht,htm0,zc9 _ _ _ _ _ hpn1,if_neg ht1];exact(rgh _ h1).2
  ·rw[hgh1]at hq;rcases yv.1 hq with hq|hq;·exact⟨V.zwG hgn _ (rgh q hq).1,(rgh q hq).2⟩
   ·obtain⟨t,h1,h2⟩:=zek hq;exact⟨zdG hu h1,by rw[h2];exact(rtmp t _ h1).2⟩
 rw[hasg];refine wpIn_mono (@TriR.run G1 D0 _ _ _ _ _ _ (h _ _ _) _ _ _ hR1) ?_;rintro e a1 w1(⟨bs1,s1,⟨rfl,hb⟩,hR1'⟩|⟨_,h⟩);case inr=>exact h.elim
 simp only[Exit.then];have f1:Fr (λb=>O b∈bs) w w1:=by obtain⟨_,_,_,_,_,_,f,_,_⟩:=hR1';exact f
 have n1:∀b,O b∈bs1->O b∈bs\/w.heap.size<=b:=by obtain⟨_,_,_,_,_,_,_,f,_⟩:=hR1';exact f
 have hlbs:¬O l∈bs:=λh=>hlO<|.inr h;have hL1:w1.heap[l]?=O (.loop rec):=(f1.block l hlt hlbs).trans hL;have hbr:=run_beginRound (P:=P) hL1 hst;refine⟨_,hbr,?_⟩;obtain⟨w2,hw2⟩:∃w2,w2=w1.putObj l (.loop {rec with state:=.busy}):=⟨_,rfl⟩;rw[<-hw2];have t2:Turn w1 w2:=by rw[hw2];exact Turn.put hL1 rfl
 have hs2:w2.heap.size=w1.heap.size:=t2.size;have hlt1:l<w1.heap.size:=(yk.1 hL1).1;have hL2:w2.heap[l]?=O (.loop {rec with state:=.busy}):=by rw[hw2];exact wC hlt1
 have hput2:∀q,q≠l->w2.heap[q]?=w1.heap[q]?:=λq hq=>by rw[hw2];exact xx hq
 have hR2:@R G1 D0 ⟨C.A0,λb=>O b∈bs1,w2,N,λ_ _=>False,gh1,H.length,[]⟩ bs1 s1 a1 w2:=by
  have hg1:@zdD G1 (Own C.A0 bs1) w1:=by obtain⟨⟨_,_,_,_,g⟩,_⟩:=hR1';exact g
  exact R.turn hR1' t2 rfl rfl rfl rfl rfl (xz _ _) (λb hb=>.inl hb) λq hq=>⟨(hg1 q hq).1,by rw[hput2 _<|hGE q hq];exact(hg1 q hq).2⟩
 rw[hbd];refine wpIn_mono (@TriR.run G1 D0 _ _ _ _ _ _ (hb _ _) _ _ _ hR2) ?_;rintro e a2 w3(⟨bs2,s2,⟨he,X,hH⟩,hR3⟩|⟨_,h⟩);case inr=>exact h.elim
 have f3:Fr (λb=>O b∈bs1) w2 w3:=by obtain⟨_,_,_,_,_,_,f,_,_⟩:=hR3;exact f
 have n3:∀b,O b∈bs2->O b∈bs1\/w2.heap.size<=b:=by obtain⟨_,_,_,_,_,_,_,f,_⟩:=hR3;exact f
 have hlbs1:¬O l∈bs1:=λh=>(n1 l h).elim hlbs λh=>by omega
 have hlbs2:¬O l∈bs2:=λh=>(n3 l h).elim hlbs1 λh=>by omega
 have hL3:w3.heap[l]?=O (.loop {rec with state:=.busy}):=(f3.block l (by omega) hlbs1).trans hL2;obtain⟨w4,hw4⟩:∃w4,w4=w3.putObj l (.loop<|recB left rec):=⟨_,rfl⟩;have t4:Turn w3 w4:=by rw[hw4];exact Turn.put hL3 rfl
 have hlt3:l<w3.heap.size:=(yk.1 hL3).1;have hL4:w4.heap[l]?=O (.loop<|recB left rec):=by rw[hw4];exact wC hlt3
 have hput4:∀q,q≠l->w4.heap[q]?=w3.heap[q]?:=λq hq=>by rw[hw4];exact xx hq
 have hRC:@R G3 D0 C bs2 ⟨T,s2.H⟩ a w4:=by
  obtain⟨⟨p1,p2,p3,p4,pg⟩,plen,pblk,ptmp,pdef,psz,pfr,pnew,pgh⟩:=hR3;refine@R.mk G3 D0 _ _ _ _ _ (@zxT.mk G3 _ _ _ p1 p2 (λb hb=>by rw[t4.size];exact p3 b hb) (λb hb=>by rw[t4.size];exact p4 b hb) λq hq=>?_) plen (λi k hk=>Blk.zvW t4 i k<|pblk i k hk) (λt v hv=>?_) rdef rsz ?_ (λb hb=>?_) λq hq=>?_
  ·rw[hG3]at hq;rcases yE.1 hq with rfl|hq;·exact⟨λh=>h.elim (λh=>hlO<|.inl h) hlbs2,hL4⟩
   ·exact⟨(pg q hq).1,by rw[hput4 _<|hGE q hq];exact(pg q hq).2⟩
  ·exact⟨(rtmp t v hv).1,V.zvW t4 _ _ (pgh _<|by rw[hgh1];exact wF _<|zdR hv hv).2⟩
  ·have hfr1:Fr (λb=>O b∈bs\/b=l\/O b∈bs1) w w4:=by
    have g1:Fr (λb=>O b∈bs\/b=l\/O b∈bs1) w w1:=f1.mono λ_ _ h=>.inl h;have g2:Fr (λb=>O b∈bs\/b=l\/O b∈bs1) w1 w2:=by rw[hw2];exact⟨rfl,rfl,rfl,by simp,λb _ hn=>xx λe=>hn<|.inr<|.inl e,λ_=>ym _⟩
    have g3:Fr (λb=>O b∈bs\/b=l\/O b∈bs1) w2 w3:=f3.mono λ_ _ h=>.inr<|.inr h;have g4:Fr (λb=>O b∈bs\/b=l\/O b∈bs1) w3 w4:=by rw[hw4];exact⟨rfl,rfl,rfl,by simp,λb _ hn=>xx λe=>hn<|.inr<|.inl e,λ_=>ym _⟩
    exact((g1.trans g2).trans g3).trans g4
   refine⟨hfr1.os.trans rfr.os,hfr1.tape.trans rfr.tape,hfr1.output.trans rfr.output,yG rfr.size hfr1.size,λq hq hno=>?_,λd=>yG (rfr.drawn d)<|hfr1.drawn d⟩;refine(hfr1.block q (yC hq rfr.size) λe=>?_).trans<|rfr.block q hq hno;have hbs:¬O q∈bs:=λh=>(rnew q h).elim hno λh=>by omega
   rcases e with e|e|e;·exact hbs e
   ·exact hno<|by rw[e];exact hs.1
   ·exact(n1 q e).elim hbs λh=>by have:=rfr.size;omega
  ·have hsz1:=f1.size;have hsz0:=rfr.size;rcases n3 b hb with h1|h1
   ·rcases n1 b h1 with h1|h1;·exact rnew b h1
    ·exact .inr<|by omega
   ·exact .inr<|by omega
  ·exact⟨(rgh q hq).1,V.zvW t4 _ _ (pgh q<|by rw[hgh1];exact wi _ hq).2⟩
 obtain⟨bs4,hR4⟩:=@R.ge G3 D0 _ _ _ ⟨T,H'⟩ _ _ hRC ⟨X,hH,hH',hu',hT⟩ hgn';have hfin:K (a.put o.dst<|.bool<|!left) w4:=hK _ _ ⟨bs4,@R.put G3 D0 _ _ _ _ _ _ hR4 (xz _ _) o.dst hd (.d<|.bool<|!left) (.bool<|!left)<|zr.2 rfl⟩;cases left with
 |false=>
  simp only[ye,if_false]at he;subst he;simp only[roundPost];have her:=run_endRound (P:=P) Y hL3;have hback:({{rec with state:=LoopState.busy}with state:=if(Y:Option Code).isNone then LoopState.ready else LoopState.done,pending:=Y}:Loop)=recB M rec:=by cases rec;simp only at hst hpe;subst hst hpe;rfl
  rw[hback,<-hw4]at her;exact⟨_,_,her,hfin⟩|true=>
  simp only[if_true]at he;subst he;simp only[roundPost];have her:=run_endRound (P:=P) (O .ret) hL3;have hback:({{rec with state:=LoopState.busy}with state:=if(O Code.ret:Option Code).isNone then LoopState.ready else LoopState.done,pending:=O Code.ret}:Loop)=recB U rec:=by cases rec;rfl
  rw[hback,<-hw4]at her;exact⟨_,_,her,hfin⟩
theorem Tri.zzG {G0:zvx}{D0:Drw}{P:Program}{fnC:Func}{A:Nat->Prop}{w0:World}{n N p1 p2 b0:Nat}{E:Ending->World->Prop}{RQ:St->Prop}{s0:St}{T:List<|Nat×V}{H:List Blk}{g:Operand}{x asg body tail:Code}{fi:FuncId}{fs cs:List D}{fn:Func}{c:Code}{Q:Exit->St->Prop}{K:List Blk->Prop}(left:Bool)(hx0:@Tri G0 D0 P ⟨A,ze,w0,n,λ_ _=>False,[],0,[]⟩ x (λe s=>e=.normal/\s=⟨T,H⟩) s0)(hx:ev T g=O (.d<|.fn (.func fi) fs cs))(hc:zvB P fi=U)(hf:P.funcs[fi]?=O fn)(hb:fn.body=O c)(hN:fn.ntmps=N)(hres:fn.results=#[])(hn:xQ (fs.length+1+cs.length) N=U)(hu:(T.all λq=>q.2.under H.length)=U)(h:∀(l Dd:Nat)(rec:Loop)(own0:Nat->Prop)(w:World)(gh:List<|V×Value)(G':zvx),l≠Dd->@xI G'=(l,.loop rec)::(Dd,.deferred<|O [])::@xI G0->(∀q∈@xI G0,q.1≠l)->rec.state=.ready/\rec.pending=Y/\rec.params=#[p1,p2]/\rec.tmps.size=n->rec.assign=asg->rec.body=body->own0 l->(∀t v,look t T=O v->(v,rec.tmps.getD t Go.undef)∈gh)->∀G'':zvx,@xI G''=(l,.loop<|recB left rec)::(Dd,.deferred<|O [])::@xI G0->TriX G' D0 ⟨A,own0,w,N,λ_ _=>False,gh,H.length,[]⟩ G'' P c (λe s=>(e=.ret\/e=.normal)/\K s.H) ⟨zbv 0<|fs.map .d++[.d<|.fn (.yield l) [] []]++cs.map .d,H⟩)(kl:left=U->∀H2,K H2->RQ ⟨T,H2⟩)(k:left=M->∀(Dd:Nat)(H2:List Blk)(G':zvx),@xI G'=(Dd,.deferred<|O [])::@xI G0->K H2->@Tri G' D0 P ⟨A,ze,w0,n,λ_ _=>False,[],0,[{target:=.collected Dd,args:=#[]}]⟩ tail (λe s=>e=.ret/\RQ s) ⟨T,H2⟩)(hEnd:∀(s:St)(bs:List<|Option Nat)(a:Act)(w:World)(df:List Deferred),RQ s->@R G0 D0 ⟨A,ze,w0,n,λ_ _=>False,[],0,df⟩ bs s a w->∃u,(results fnC a.tmps).run P w=.ok u w/\E (.returned u) w):@Tri G0 D0 P ⟨A,ze,w0,n,λa' w'=>LeavesInM xO 0 P fnC a'.tmps E a'.defers .returning w',[],0,[]⟩ (.seq (.seq x<|.block b0<|.rangeFunc g #[p1,p2] asg body) tail) Q s0:=by
  subst hN;have hn:=yt hn;refine@Tri.mk G0 D0 _ _ _ _ _ λbs a w' hR=>?_;have hR0:@R G0 D0 ⟨A,ze,w0,n,λ_ _=>False,[],0,[]⟩ bs s0 a w':=by obtain⟨q1,q2,q3,q4,q5,q6,q7,q8,q9⟩:=hR;exact@R.mk G0 D0 _ _ _ _ _ q1 q2 q3 q4 q5 q6 q7 q8 q9
  refine wp_seq<|wp_seq<|xW ?_<|@Tri.run G0 D0 _ _ _ _ _ hx0 bs a w' hR0;rintro e a w3(⟨bs,s,⟨rfl,rfl⟩,hR⟩|⟨_,hE⟩);case inr=>exact hE.elim
  simp only[Exit.then];clear hR0;have e1:=@R.ev G0 D0 _ _ _ _ _ hR _ _ hx;have hRf:=λ{w'}(f:Fr ze w3 w')=>@R.put G0 D0 _ _ _ _ _ _ hR f Y rfl .junk Go.undef<|by simp only[xk]
  obtain⟨⟨o1,o2,o3,o4,og⟩,rlen,rblk,rtmp,rdef,rsz,rfr,rnew,rgh⟩:=hR;simp only[xk,xC]at e1;obtain⟨vs,us,e1,hvs,hus⟩:=e1;refine wpIn_wide (n:=0).1<|wpIn_block<|wpIn_rangeFunc ?_;intro fnid _;obtain⟨rec,hrec⟩:∃rec:Loop,rec={state:=.ready,pending:=Y,fn:=fnid,tmps:=a.tmps,params:=#[p1,p2],assign:=asg,body:=body,defers:=w3.heap.size}:=⟨_,rfl⟩;obtain⟨l,hl⟩:∃l,l=w3.heap.size+1:=⟨_,rfl⟩;obtain⟨Dd,hDd⟩:∃Dd,Dd=w3.heap.size:=⟨_,rfl⟩;obtain⟨w4,hw4⟩:∃w4,(w3.alloc<|.deferred<|O []).alloc (.loop rec)=w4:=⟨_,rfl⟩;have hold:∀q,q<w3.heap.size->w4.heap[q]?=w3.heap[q]?:=λq hq=>by rw[<-hw4];exact(xD _ _ q<|by simp;omega).trans<|xD _ _ q hq
  have hL4:w4.heap[l]?=O (.loop rec):=by rw[<-hw4,hl];have:=wP (w3.alloc<|.deferred<|O [])<|.loop rec;rwa[World.size_alloc]at this
  have hD4:w4.heap[Dd]?=O (.deferred<|O []):=by rw[<-hw4,hDd];exact(xD _ _ _<|by simp).trans<|wP w3 _
  have hs4:w4.heap.size=w3.heap.size+2:=by rw[<-hw4];simp
  have hfr4:Fr ze w3 w4:=by rw[<-hw4];exact(⟨rfl,rfl,rfl,by simp,λb hb _=>xD _ _ b hb,λ_=>ym _⟩:Fr ze w3<|w3.alloc<|.deferred<|O []).trans ⟨rfl,rfl,rfl,by simp,λb hb _=>xD _ _ b hb,λ_=>ym _⟩
  refine⟨l,[{target:=.collected Dd,args:=#[]}],w4,{target:=.fn (.func fi) us,args:=vs++#[.func (.yield l) #[] #[]]},w4,fi,vs++#[.func (.yield l) #[] #[]]++us,w4,?_,?_,λ_ _=>trivial,?_,λh=>by simp[xO]at h,?_⟩;·rw[<-hw4,hl,hDd,hrec];exact run_enterLoop_outer _ _ _ _ _
  · have ek:∀v,a.eval (.const v)=v:=λ_=>rfl;simp[resolve,e1,xZ,ek]
  ·simp only[invoke];exact za9 hc _ w4
  have hR4:=hRf hfr4;obtain⟨⟨q1,q2,q3,q4,qg⟩,qlen,qblk,qtmp,qdef,qsz,qfr,qnew,_⟩:=hR4;have hlA:¬Own A bs l:=λh=>by
    rcases h with h|h;·have:=o4 l h;omega
    ·have:=o3 l h;omega
  have hDA:¬Own A bs Dd:=λh=>by
    rcases h with h|h;·have:=o4 Dd h;omega
    ·have:=o3 Dd h;omega
  have hgl:∀q∈@xI G0,q.1<w3.heap.size:=λq hq=>(yk.1 (og q hq).2).1;obtain⟨G',hG'⟩:∃G':zvx,@xI G'=(l,.loop rec)::(Dd,.deferred<|O [])::@xI G0:=⟨⟨_⟩,rfl⟩;obtain⟨G'',hG''⟩:∃G'':zvx,@xI G''=(l,.loop<|recB left rec)::(Dd,.deferred<|O [])::@xI G0:=⟨⟨_⟩,rfl⟩;obtain⟨GD,hGD⟩:∃G':zvx,@xI G'=(Dd,.deferred<|O [])::@xI G0:=⟨⟨_⟩,rfl⟩;have hvl:=D.zvK hvs;have hul:=D.zvK hus;simp only[yF]at hvl hul;have hreps:xE (Own A bs) w4 bs H (fs.map .d++[.d<|.fn (.yield l) [] []]++cs.map .d) (vs++#[wx (.yield l) #[] #[]]++us:Array Value).toList:=by
    simp only[Array.toList_append];have key:∀(ds:List D)(vs:List Value),xu (Own A bs) w4 ds vs->xE (Own A bs) w4 bs H (ds.map .d) vs:=by
      intro ds;induction ds with|nil=>intro vs h;simpa only[xu,wB,xE]using h|cons d ds ih=>intro vs h;simp only[xu]at h;obtain⟨v,vs',rfl,h1,h2⟩:=h;simp only[yU,xE,xk];exact⟨v,vs',rfl,h1,ih _ h2⟩
    refine V.zvZ (V.zvZ (key _ _<|D.zyN hfr4 hvs) ?_)<|key _ _<|D.zyN hfr4 hus;simp[xE,xk,xC,xu]
  have hRi:@R G' D0 ⟨A,λb=>O b∈bs\/b=l,w4,fn.ntmps,λ_ _=>False,vals a T T,H.length,[]⟩ bs ⟨zbv 0<|fs.map .d++[.d<|.fn (.yield l) [] []]++cs.map .d,H⟩ {tmps:=vs++#[wx (.yield l) #[] #[]]++us++xv (fn.ntmps-(vs++#[wx (.yield l) #[] #[]]++us).size) undef,defers:=[]} w4:=by
    have hsz:(vs++#[wx (.yield l) #[] #[]]++us++xv (fn.ntmps-(vs++#[wx (.yield l) #[] #[]]++us).size) undef).size=fn.ntmps:=by simp;omega
    refine@R.mk G' D0 _ _ _ _ _ (@zxT.mk G' _ _ _ q1 q2 q3 q4 λq hq=>?_) qlen qblk (λt v hv=>?_) rfl hsz (xz _ _) (λb hb=>.inl<|.inl hb) λq hq=>?_
    · rw[hG']at hq;rcases yE.1 hq with rfl|hq;·exact⟨hlA,hL4⟩
      rcases yE.1 hq with rfl|hq;·exact⟨hDA,hD4⟩
      ·exact qg q hq
    · have:=zc2 _ 0 _ (vs++#[wx (.yield l) #[] #[]]++us++xv (fn.ntmps-(vs++#[wx (.yield l) #[] #[]]++us).size) undef) hreps (λj hj=>by
          have hj':j<(vs++#[wx (.yield l) #[] #[]]++us).size:=by have:=hj;simp at this|-;omega
          rw[uh,y9,vd hj',vD,y6]) (by rw[hsz];simp;omega) t v hv;rw[hsz]at this;exact this
    · obtain⟨t,h1,h2⟩:=zek hq;exact⟨zdG hu h1,by rw[h2];exact(qtmp t _ h1).2⟩
  have htri:=h l Dd rec (λb=>O b∈bs\/b=l) w4 (vals a T T) G' (by omega) hG' (λq hq=>by have:=hgl q hq;omega) (by rw[hrec];exact⟨rfl,rfl,rfl,rsz⟩) (by rw[hrec]) (by rw[hrec]) (.inr rfl) (λt v hv=>by rw[hrec];exact zdR hv hv) G'' hG'';refine callsIn_wide.2<|calls_of_wp hf hb<|xW ?_<|htri.run bs _ w4 hRi;rintro e a' w5⟨bs',s',⟨he,hk⟩,hR5⟩;obtain⟨⟨p1,p2,p3,p4,pg⟩,plen,pblk,ptmp,pdef,psz,pfr,pnew,pgh⟩:=hR5;have hrun:(results fn a'.tmps).run P w5=.ok (.tuple #[]) w5:=by rw[zb9,hres];simp[xq,xr]
  have hfin:rangePost xO 0 P l (vm b0<|Exit.then (tail.wp P<|@QR G0 D0 ⟨A,ze,w0,n,λa' w'=>LeavesInM xO 0 P fnC a'.tmps E a'.defers .returning w',[],0,[]⟩ Q)<|@QR G0 D0 ⟨A,ze,w0,n,λa' w'=>LeavesInM xO 0 P fnC a'.tmps E a'.defers .returning w',[],0,[]⟩ Q) {a with defers:=[{target:=.collected Dd,args:=#[]}]++a.defers} (.returned<|.tuple #[]) w5:=by
    have hL5:=(pg (l,.loop<|recB left rec)<|by rw[hG''];simp).2;have hD5:=(pg (Dd,.deferred<|O [])<|by rw[hG''];simp).2;simp only at hL5 hD5;simp only[rangePost];have hst5:(recB left rec).state≠.busy:=by unfold recB;rw[hrec];cases left<;>simp
    have hel:=run_endLoop (P:=P) hL5 hst5;obtain⟨w6,hw6⟩:∃w6,w6=w5.putObj l (.loop {recB left rec with state:=.exhausted}):=⟨_,rfl⟩;rw[<-hw6]at hel;refine⟨_,_,hel,?_⟩;have t6:Turn w5 w6:=by rw[hw6];exact Turn.put hL5 rfl
    have hput6:∀q,q≠l->w6.heap[q]?=w5.heap[q]?:=λq hq=>by rw[hw6];exact xx hq
    have hlbs':∀b,O b∈bs'->(O b∈bs\/b=l)\/w4.heap.size<=b:=pnew;have hR6:@R GD D0 ⟨A,ze,w0,n,λ_ _=>False,[],0,[{target:=.collected Dd,args:=#[]}]⟩ bs' ⟨T,s'.H⟩ {a with defers:=[{target:=.collected Dd,args:=#[]}]++a.defers} w6:=by
      refine@R.mk GD D0 _ _ _ _ _ (@zxT.mk GD _ _ _ p1 p2 (λb hb=>by rw[t6.size];exact p3 b hb) (λb hb=>by rw[t6.size];exact p4 b hb) λq hq=>?_) plen (λi k hk=>Blk.zvW t6 i k<|pblk i k hk) (λt v hv=>?_) (by simp only;rw[rdef];rfl) rsz ?_ (λb hb=>?_) λq hq=>by cases hq
      · rw[hGD]at hq;have hq':q∈@xI G'':=by rw[hG''];exact yZ _ hq
        have hne:q.1≠l:=by
          rcases yE.1 hq with rfl|hq;·simp only;omega
          ·have:=hgl q hq;omega
        exact⟨(pg q hq').1,by rw[hput6 _ hne];exact(pg q hq').2⟩
      ·exact⟨(rtmp t v hv).1,V.zvW t6 _ _ (pgh _<|zdR hv hv).2⟩
      · have f5:Fr (λb=>O b∈bs\/b=l) w4 w5:=pfr;have f6:Fr (λb=>O b∈bs\/b=l) w5 w6:=by rw[hw6];exact⟨rfl,rfl,rfl,by simp,λb _ hn=>xx λe=>hn<|.inr e,λ_=>ym _⟩
        have f46:=(hfr4.mono (W':=λb=>O b∈bs\/b=l) λ_ _ x=>x.elim).trans<|f5.trans f6;have rfr':Fr ze w0 w3:=rfr;refine⟨f46.os.trans rfr'.os,f46.tape.trans rfr'.tape,f46.output.trans rfr'.output,yG rfr'.size f46.size,λq hq hno=>?_,λd=>yG (rfr'.drawn d)<|f46.drawn d⟩;have:=rfr'.size;have hq:q<w0.heap.size:=hq;refine(f46.block q (by omega) λe=>?_).trans<|rfr'.block q hq hno;rcases e with e|e
        · have h3:ze q\/w0.heap.size<=q:=rnew q e;exact h3.elim (λx=>x) λh=>by omega
        ·omega
      · have hz:w0.heap.size<=w3.heap.size:=rfr.size;rcases hlbs' b hb with(h1|h1)|h1;·exact rnew b h1
        ·exact .inr<|by simp only;omega
        ·exact .inr<|by simp only;omega
    have hlast:∀(bs7:List<|Option Nat)(s7:St)(a7:Act)(w7:World),RQ s7->@R GD D0 ⟨A,ze,w0,n,λ_ _=>False,[],0,[{target:=.collected Dd,args:=#[]}]⟩ bs7 s7 a7 w7->LeavesInM xO 0 P fnC a7.tmps E a7.defers .returning w7:=by
     intro bs7 s7 a7 w7 hrq7 hR7;have hg7:@zdD GD (Own A bs7) w7:=by obtain⟨⟨_,_,_,_,g⟩,_⟩:=hR7;exact g
     have hdf7:a7.defers=[{target:=.collected Dd,args:=#[]}]:=by obtain⟨_,_,_,_,d,_⟩:=hR7;exact d
     have hfr7:Fr ze w0 w7:=by obtain⟨_,_,_,_,_,_,f,_,_⟩:=hR7;exact f
     have hnew7:∀b,O b∈bs7->ze b\/w0.heap.size<=b:=by obtain⟨_,_,_,_,_,_,_,f,_⟩:=hR7;exact f
     have hD7:=(hg7 (Dd,.deferred<|O [])<|by rw[hGD];simp).2;simp only at hD7;obtain⟨w8,hw8⟩:∃w8,w8=w7.putObj Dd (.deferred Y):=⟨_,rfl⟩;have hput8:∀q,q≠Dd->w8.heap[q]?=w7.heap[q]?:=λq hq=>by rw[hw8];exact xx hq
     have hfr8:Fr ze w0 w8:=by have hz:w0.heap.size<=w3.heap.size:=rfr.size;refine⟨by rw[hw8];exact hfr7.os,by rw[hw8];exact hfr7.tape,by rw[hw8];exact hfr7.output,by rw[hw8];simpa using hfr7.size,λq hq hno=>(hput8 q<|by omega).trans<|hfr7.block q hq hno,by rw[hw8];exact hfr7.drawn⟩
     have hR8:=R.turn (G':=G0) (C':=⟨A,ze,w0,n,λ_ _=>False,[],0,[{target:=.collected Dd,args:=#[]}]⟩) hR7 (w':=w8) (by rw[hw8];exact Turn.put hD7 rfl) rfl rfl rfl rfl rfl hfr8 hnew7 λq hq=>by
       have hne:q.1≠Dd:=by have:=hgl q hq;omega
       have:=hg7 q (by rw[hGD];exact yZ _ hq);exact⟨this.1,by rw[hput8 _ hne];exact this.2⟩
     obtain⟨u,hu1,hu2⟩:=hEnd s7 bs7 a7 w8 _ hrq7 hR8;show LeavesInM xO 0 P fnC a7.tmps E a7.defers .returning w7;rw[hdf7];exact⟨by simp,.inl ⟨Dd,w8,rfl,by rw[hw8];exact run_takeDeferred hD7,u,hu1,hu2⟩⟩
    cases left with
    |false=>
      have hp:(recB M rec).pending=none:=by unfold recB;rw[hrec];rfl
      rw[hp];simp only[vm,Exit.then];refine xW ?_<|@Tri.run GD D0 _ _ _ _ _ (k rfl Dd s'.H GD hGD hk) _ _ _ hR6;rintro e a7 w7(⟨bs7,s7,⟨rfl,hrq7⟩,hR7⟩|⟨_,hE⟩);·exact .inr ⟨rfl,hlast bs7 s7 a7 w7 hrq7 hR7⟩
      ·exact hE.elim|true=>have hp:(recB U rec).pending=O .ret:=rfl;rw[hp];refine wpIn_ret ?_;simp only[vm,Exit.then];exact .inr ⟨rfl,hlast bs' ⟨T,s'.H⟩ _ w6 (kl rfl s'.H hk) hR6⟩
  rcases he with rfl|rfl;·exact⟨pdef,_,hrun,hfin⟩
  ·exact⟨pdef,_,hrun,hfin⟩
section
variable[zvx][Drw]
def upd (f:Nat->Bool)(i j:Nat):Bool:=vf j i||f j
end
set_option maxRecDepth 100000 in
theorem zox (p)(older)(w):CallsD xg 125 #[.pointer<|O p] (.panicking<|{v:=.iface 182<|.agg #[],recovered:=M}::older) w λe u' w'=>e=.returned (.tuple #[])/\u'=.panicking ({v:=.iface 182<|.agg #[],recovered:=U}::older)/\w'=w.alloc (.cells #[] 182):=by
 refine callsD_of_wpS Tryz.func125 rfl λc₀ cs hu=>?_;apply wpS_seq;apply wpS_region;simp[wpOpsS,go_sem,recoverD,hu,Tryz.ntmps125,Exit.thenS];have hta:∀w:World,(Instr.typeAssert (.iface 182<|.agg #[]) 20 182 U).run xg w=.ok (.tuple #[.agg #[],.bool U]) w:=λw=>by
  have hu:xg.underlying 182=O (.struct #[]):=by simp
  simp[Instr.typeAssert,run_underlying hu]
 refine wpS_of_wp ?_;go_wp2;cases c₀;simp[bodyPostS,results,Tryz.results125,go_sem]
set_option maxRecDepth 100000 in
theorem zqk (p)(b)(w)(hc:w.cell? p=O (.bool b))(hz:w.frozen? p=M):CallsD xg 125 #[.pointer<|O p] .returning w λe u' w'=>e=.returned (.tuple #[])/\u'=.returning/\w'=w.setCell p (.bool U):=by
 refine callsD_of_wpS Tryz.func125 rfl λc₀ cs hu=>?_;apply wpS_seq;apply wpS_region;simp[wpOpsS,go_sem,recoverD,hu,Tryz.ntmps125,Exit.thenS];refine wpS_of_wp ?_;go_wp2;cases c₀;simp_all[bodyPostS,results,Tryz.results125,go_sem]
set_option maxRecDepth 100000 in
theorem zmx {K:Bool->World->Prop}(f:FuncId)(caps:Array Value)(w:World)(hcl:zvB xg f=U)(h:Calls xg f caps (w.alloc<|.cells #[.bool M] 4) λe w'=>w'.cell? ⟨w.heap.size,0,Y⟩=O (.bool M)/\w'.frozen? ⟨w.heap.size,0,Y⟩=M/\((∃u,e=.returned u/\K U ((w'.setCell ⟨w.heap.size,0,Y⟩<|.bool U).setCell ⟨w.heap.size,0,Y⟩<|.bool U))\/e=.panicked [{v:=.iface 182<|.agg #[],recovered:=M}]/\K M (w'.alloc<|.cells #[] 182))):Calls xg 70 #[.func (.func f) #[] caps] w λe w'=>∃b,e=.returned (.bool b)/\K b w':=by
 have m:∀(l:Fn)(c g:Array Value)(w:World),(Instr.makeFunc l c g).run xg w=.ok (.func l c g) w:=λ_ _ _ _=>rfl;go_enter_defers Tryz.func70,Tryz.ntmps70;go_wp2;rw[za9 hcl caps];simp only[vh];refine uY h ?_;rintro e w'⟨k,q,⟨u,rfl,o⟩|⟨rfl,o⟩⟩
 ·simp only;go_wp2;have n:(w'.setCell ⟨w.heap.size,0,Y⟩<|.bool U).cell? ⟨w.heap.size,0,Y⟩=O (.bool U):=by simp[go_sem,k]
  have j:(w'.setCell ⟨w.heap.size,0,Y⟩<|.bool U).frozen? ⟨w.heap.size,0,Y⟩=false:=by simp_all
  have d:((w'.setCell ⟨w.heap.size,0,Y⟩<|.bool U).setCell ⟨w.heap.size,0,Y⟩<|.bool U).cell? ⟨w.heap.size,0,Y⟩=O (.bool U):=by simp[go_sem,k]
  refine leaves_cons (f:=125) (args:=#[.pointer<|O ⟨w.heap.size,0,Y⟩]) (by simp) (by simp[go_sem]) ?_;refine(zqk ⟨w.heap.size,0,Y⟩ U _ n j).mono ?_;rintro e p i⟨rfl,rfl,rfl⟩;simp[Leaves,settle,results,Tryz.results70,go_sem,d];grind
 ·show bodyPostD _ _ _ (Exit.panic _) _ _;refine leaves_cons (f:=125) (args:=#[.pointer<|O ⟨w.heap.size,0,Y⟩]) (by simp) (by simp[go_sem]) ?_;refine(zox ⟨w.heap.size,0,Y⟩ [] _).mono ?_;rintro e p i⟨rfl,rfl,rfl⟩;have d:(w'.alloc<|.cells #[] 182).cell? ⟨w.heap.size,0,Y⟩=O (.bool M):=by grind[World.cell?_alloc_some]
  simp[Leaves,settle,results,Tryz.results70,go_sem,d];grind
theorem zqs:Guard xg 70 4 182<|.iface 182<|.agg #[]:=λK f a w b h=>zmx f a w b h
