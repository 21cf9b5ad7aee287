/- Part of the proof of one law of the seat. -/
import Derived.Test.YtipkniadbkndfaaGreatDoorEm01
import Derived.Laws.StructEq
import Derived.Maps.RangeRun
import Derived.MapKept
import Derived.RangeFuncRecord
import Derived.RangeFuncLeaves
import Derived.RangeFuncCalls
import Derived.TacticsIn
import Derived.Laws.CopyRow
import Derived.Lib.SliceRun
import Derived.Laws.Externs
import Derived.Lib.Bytealg
import Derived.WideKeyRuns
import Derived.ArgAppend
import Derived.OrdersIn
import Derived.RangeFuncIn
import Derived.Sort.Defs
import Derived.Lib.BitFns
import Derived.Sort.AssemblyPlain
import Derived.Shelf.SlSortCmp.Insertion
import Derived.Shelf.SlSortCmp.Whole1
import Derived.Shelf.SlSortCmp.NoneTotal
import Derived.Shelf.SlSortCmp.WholeK
import Derived.Shelf.Spec.SlicesGrow
set_option linter.all false
set_option maxRecDepth 100000
set_option maxHeartbeats 40000000
namespace Go.Proofs.YtipkniadbkndfaaGreatDoor
open Go Go.RowKit
open Option renaming some->O,none->Y,map_none->vI,bind_none->uY
open Bool renaming true->U,false->M,and_assoc->vZ
open Decidable renaming decide->Z
open Inhabited renaming default->J
open List renaming length->xh,map->xj,range->xn,replicate->xy,take_of_length_le->xV,drop_eq_nil_of_le->wb,getElem_of_mem->wh,mem_append_left->wm,range'->wt,map_nil->wz,mem_append_right->wC,take_length->wJ,drop_zero->wN,set_cons_zero->wP,getElem?_of_mem->wU,getElem?_append_left->vf,getElem?_take_of_lt->vv,replicate_succ->vw,getD->vy,not_mem_nil->vz,getElem?_toArray->vK
open Go.Result renaming andThen_ok->xi
open Go.Op renaming operands->xk
open V renaming rep->xm,reps->xF
open Go.Sem renaming run_bind->xr,run_pure->xt
open _root_.Array renaming replicate->xu,getElem?_append->wu,getElem?_append_left->vc,toArray_toList->vp,toList_map->vU,ofFn->uZ,toList_modify->tc
open D renaming reps->xv,rep->xD,flat->xM
open Go.World renaming putObj_heap_other->xx,putObj_heap_same->wA,alloc_heap_new->wK
open Fr renaming refl->xz
open Nat renaming blt->xA,ble->xQ,mod_eq_of_lt->wd,le_mul_of_pos_right->wV,min_eq_left->vh,add_mul->vm
open Go.RowKit.Below renaming heap_alloc->xE,heap_setCell->vF
open Classical renaming byContradiction->xG
open Go.Operand renaming tmp->xH,const->wR
open Go.Value renaming ownBlock->xI,cells->xX,func->wv,string->wM,int->wQ,slice->vC
open zuV renaming gs->xK
open Blk renaming rep->xL
open Go.Fence renaming wide->xP
open Go.Code renaming wp_mono->xU
open Go.Call renaming operands->xW
open Go.Deferred renaming ofValue->xY
open Go.Ground renaming data->wc,phase->v9
open Go.Region renaming wanted->wg,ready->wr,binds->wZ
open Go.Instr renaming sureAddr->wj,findNow->vu,loadAt->vS
open Go.MapKept renaming run_getObj_map->wl,run_setObj_map->vE
open Go.Addr renaming add_lit->wq,add_mid->vT
open List.cons renaming injEq->wy
open Go.Oper renaming apart_spec->wD,upon->va,wp->vo
open Go.Act renaming eval->wG
open TriL renaming step->wI
open Go.Exit renaming inBlock->vl
open Go.ChangeMaps renaming setBlock->vx
open Go.Program renaming cellsOf->vW,elem->tk
open Go.Calls renaming mono->vY
open BitVec renaming ofInt->v8
open Go.Builtin renaming lenOf->u4,copy_->u5,len_->tf
abbrev ya:=@_root_.Option.bind_some
abbrev ye:=@_root_.Bool.false_eq_true
abbrev yf:=@_root_.decide_eq_true_eq
abbrev yg:=@_root_.List.getElem_mem
abbrev yj:=@_root_.Option.getD_some
abbrev yG:=@_root_.Bool.or_eq_true
abbrev yJ:=@_root_.decide_eq_false_iff_not
abbrev yV:=@_root_.List.mem_cons_of_mem
abbrev ue:=@_root_.List.append_nil
abbrev uj:=@_root_.Bool.and_true
abbrev ut:=@_root_.List.any_eq_true
abbrev uC:=@_root_.Bool.and_eq_false_iff
abbrev uF:=@_root_.List.getElem?_cons_succ
abbrev uL:=@_root_.List.length_singleton
abbrev uO:=@_root_.List.ext_getElem
abbrev uR:=@_root_.List.mem_cons_self
abbrev uU:=@_root_.List.nodup_append
section
variable[zuV][Drw]
def wk (k:IntKind)(x:Int):Int:=k.wrap x
def gmax (x y:Int):Int:=if y>x then y else x
def gmin (x y:Int):Int:=if y<x then y else x
theorem impT {b c}(h:(!b||c)=U)(hb:b=U):c=true:=by simp_all
theorem impF {b c}(h:(b||c)=U)(hb:b=M):c=true:=by simp_all
section
variable{P:Program}{o:Oper}{e:Operand->Option V}{H:List Blk}
theorem OpV.zy0 {d0}(d)(he:d0=d)(h:OpV P o e H<|.d d0):OpV P o e H<|.d d:=he▸h
theorem OpV.nilS {α:Type}(k)(enc:α->D)(ho:o.op=.assign (.const<|.slice Y 0 0)):OpV P o e H<|.d<|.sl k<|xj enc []:=⟨λc g w f m _ b _=>by
  have a:(execOp f o).run P w=.ok (.value<|.slice Y 0 0) w:=by simp[execOp,ho,b]
  rw[a];refine⟨xz _ w,?_⟩;simp only[xm,xD];simp_all⟩
theorem OpV.max2 {x y tys a b k}(ho:o.op=.call {callee:=.builtin .max,args:=#[x,y],argTypes:=tys})(hx:e x=O (.d<|.val<|.int k a))(hy:e y=O (.d<|.val<|.int k b)):OpV P o e H<|.d<|.val<|.int k<|gmax a b:=.of_same λ_ _ w f _ c=>by have h:=zt.1<|c x (by grind[xk,xW]) _ hx;have g:=zt.1<|c y (by simp[ho,xk,xW]) _ hy;exact⟨.int k<|gmax a b,by simp[execOp,ho,resolve,invoke,builtin,Builtin.max_,Builtin.max2,h,g,gmax],zt.2 rfl⟩
theorem OpV.max3 {x y z tys a b c k}(ho:o.op=.call {callee:=.builtin .max,args:=#[x,y,z],argTypes:=tys})(hx:e x=O (.d<|.val<|.int k a))(hy:e y=O (.d<|.val<|.int k b))(hz:e z=O (.d<|.val<|.int k c)):OpV P o e H<|.d<|.val<|.int k<|gmax (gmax a b) c:=.of_same λ_ _ w f _ g=>by have i:=zt.1<|g x (by grind[xk,xW]) _ hx;have j:=zt.1<|g y (by simp[ho,xk,xW]) _ hy;have h:=zt.1<|g z (by simp[ho,xk,xW]) _ hz;exact⟨.int k<|gmax (gmax a b) c,by simp[execOp,ho,resolve,invoke,builtin,Builtin.max_,Builtin.max2,i,j,h,gmax],zt.2 rfl⟩
theorem OpV.min2 {x y tys a b k}(ho:o.op=.call {callee:=.builtin .min,args:=#[x,y],argTypes:=tys})(hx:e x=O (.d<|.val<|.int k a))(hy:e y=O (.d<|.val<|.int k b)):OpV P o e H<|.d<|.val<|.int k<|gmin a b:=.of_same λ_ _ w f _ c=>by have h:=zt.1<|c x (by grind[xk,xW]) _ hx;have g:=zt.1<|c y (by simp[ho,xk,xW]) _ hy;exact⟨.int k<|gmin a b,by simp[execOp,ho,resolve,invoke,builtin,Builtin.min_,Builtin.min2,h,g,gmin],zt.2 rfl⟩
end
theorem zwI.nil {P t k}(h:zbS P t=O (.slice Y 0 0)):zwI P t<|.sl k []:=⟨_,h,λ_ _=>by simp only[xD];simp_all⟩
theorem TriL.zyY {P}{C}{ops:Array Oper}{o:Oper}{rest}{Q}{T:List<|Nat×V}{H}{α:Type}{t el:TypeId}{len k bytes d:Nat}{parts:Array<|Nat×Operand}{enc:α->D}{ys:List D}(xs:List α)(hg:o.guard=Y)(ho:o.op=.buildSlice t len parts)(hd:o.dst=O d)(hdn:xA d C.n=U)(hp:parts.toList.map (·.1)=wt 0 len)(he:zcc P t el k bytes=U)(hx:evs (ev T) (parts.toList.map (·.2))=O ys)(hle:D.Les ys<|xs.map enc)(hk:∀x,(enc x).kOK k=U)(hl:xQ (len*k) 16777216=U)(kk:TriL P C ops rest Q ⟨(d,.vec H.length xs.length)::T,H++[.vec el k<|xs.map enc]⟩):TriL P C ops (o::rest) Q ⟨T,H⟩:=by
 obtain⟨htu,hk0,inf,z,hinf,hz,hisz,hib,hzc⟩:=zbN he;refine wI hg (λbs a w hR=>?_) kk;have hreps:xv (Own C.A0 bs) w (xs.map enc)<|(parts.toList.map (·.2)).map a.eval:=hle.reps<|zff (H:=H) hx λx _ y hy=>hR.ev hy;have hcells:=D.zwx hreps (k:=k) (by intro d hd;obtain⟨x,_,rfl⟩:=y7.1 hd;exact hk x);have hlen:=congrArg xh hp;simp only[yL,List.length_range',yE]at hlen;have hkk:∀u∈(parts.toList.map (·.2)).map a.eval,u.cells.size=k:=by
  intro u hu;obtain⟨i,hi,rfl⟩:=wh hu;have hl2:=D.zva hreps;have hi':i<(xs.map enc).length:=by grind
  obtain⟨v,hv,hr⟩:=D.zvF hreps i (xs.map enc)[i]<|yB hi';grind[List.getElem?_eq_getElem,D.zwS]
 obtain⟨cells,g1,g2⟩:=zfy (P:=P) (w:=w) (k:=k) htu hinf hz hisz hzc hkk<|by simp_all
 have hzip:=zna (β:=D) parts.toList 0 (by simp_all);have harr:(parts.map λ(i,x)=>(i,a.eval x))=((((parts.toList.map (·.2)).map a.eval).zipIdx 0).map λp=>(p.2,p.1)).toArray:=by
  apply Array.ext';rw[vU];conv=>lhs;rw[hzip]
  simp only[List.zipIdx_map,List.map_map];rfl
 have hrun:(execOp a.eval o).run P w=.ok (.value<|.slice (O ⟨w.heap.size,0,Y⟩) len len) (w.alloc<|.cells cells el):=by simp only[yL,yE,hlen]at g2;simp only[execOp,ho,xr,harr,g2,xi,xt]
 have hxl:xs.length=len:=by have:=D.zva hreps;grind
 have hcl:cells.size=len*k:=by grind[D.zwa,Array.length_toList,List.length_map]
 refine⟨_,_,bs++[O w.heap.size],hrun,.inl ⟨_,rfl,?_⟩⟩;have hcap:len<=maxLen:=by
  have h1:=yt hl;have h2:len<=len*k:=wV _ hk0;grind[maxLen]
 have:=hR.newVec (el:=el) (k:=k) (n:=len) (cap:=len) (r:=d) (cells:=cells) (xs:=xs.map enc) (by simpa using hdn) (by grind) hcl (yk _) hcap<|by rw[xV<|by grind,g1];grind
 grind
theorem TriL.zwk {P}{C}{ops}{o:Oper}{rest}{Q}{T}{H}{α:Type}{t el}{len k bytes d:Nat}{parts}{enc}(xs:List α)(hg:o.guard=Y)(ho:o.op=.buildSlice t len parts)(hd:o.dst=O d)(hdn:xA d C.n=U)(hp:parts.toList.map (·.1)=wt 0 len)(he:zcc P t el k bytes=U)(hx:evs (ev T) (parts.toList.map (·.2))=O (xs.map enc))(hk:∀x,(enc x).kOK k=U)(hl:xQ (len*k) 16777216=U)(kk:TriL P C ops rest Q ⟨(d,.vec H.length xs.length)::T,H++[.vec el k<|xs.map enc]⟩):TriL P C ops (o::rest) Q ⟨T,H⟩:=TriL.zyY xs hg ho hd hdn hp he hx (.refls _) hk hl kk
theorem R.zwT {C bs T H a w j c k t el cs}(h:R C bs ⟨T,H⟩ a w)(hj:H[j]?=O (.box t cs))(hc:cs[c]?=O .nilS):R C (bs++[Y]) ⟨T,(H++[Blk.vec el k []]).set j<|.box t<|cs.set c<|.vec H.length 0⟩ a w:=by
 have h1:R C (bs++[Y]) ⟨T,H++[.vec el k []]⟩ a w:=h.zxG λ_ _ _=>by simp only[xL]
 have hlen:=h.len;simp only at hlen;have hjl:=(yd.1 hj).1;have hj':(H++[Blk.vec el k []])[j]?=O (.box t cs):=by rw[yi hjl];exact hj
 have hblk:=h1.blk j _ hj';simp only[xL]at hblk;obtain⟨b,vs,hb,hh,hreps⟩:=hblk;have hset:(bs++[Y]).set j (O b)=bs++[Y]:=by
  refine ua λq=>?_;by_cases hij:j=q;·subst hij;rw[yy (yd.1 hb).1,hb]
  ·rw[yx hij]
 have hfr:Fr (λq=>O b=O q) w w:=xz _ w;have hWA:∀q,O b=O q->Own C.A0 (bs++[Y]) q:=λq hq=>.inr<|by rw[<-hq];exact yC hb
 have hupd:=R.upd (y:=.box t<|cs.set c<|.vec H.length 0) (c':=O b) h1 hj' hb (by simp[Compat]) hfr (.inl rfl)<|by
  simp only[xL];refine⟨b,vs,by simp_all,hh,?_⟩;have:=V.zwm (x:=.box t cs) (y:=.box t<|cs.set c<|.vec H.length 0) (c:=O b) (c':=O b) (A':=Own C.A0<|(bs++[Y]).set j<|O b) hj' hb (by simp[Compat]) h1.own.apart hfr hWA (λq hq=>hq) (λq _ hq=>by simp_all) cs vs.toList hreps;generalize hG:(H++[Blk.vec el k []]).set j (.box t<|cs.set c<|.vec H.length 0)=G at this|-;have hGv:G[H.length]?=O (.vec el k []):=by rw[<-hG,yx<|by omega,yP<|yk _];simp
  rw[hset]at this|-;clear hG;have key:∀(cs:List V)(us:List Value)(c:Nat),xF (Own C.A0<|bs++[Y]) w (bs++[Y]) G cs us->cs[c]?=O .nilS->xF (Own C.A0<|bs++[Y]) w (bs++[Y]) G (cs.set c<|.vec H.length 0) us:=by
   intro cs;induction cs with|nil=>simp_all|cons x cs ih=>intro us c hr hc;simp only[xF]at hr;obtain⟨v,vs',rfl,h2,h3⟩:=hr;cases c with
    |zero=>simp only[yS,yo]at hc;subst hc;simp only[wP,xF];refine⟨v,vs',rfl,?_,h3⟩;have hv:=zt.1 h2;subst hv;simp only[xm,hGv];exact⟨yk _,λ_=>⟨[],World.ownsRow_nil w 0 el k,by rw[<-hlen];simp[xI],by simp[xM]⟩⟩|succ c=>
     simp only[List.set_cons_succ,xF];grind
  simp_all
 simp_all
theorem TriL.zwT {P C ops rest Q T H}(j c k el){t cs}(hj:H[j]?=O (.box t cs))(hc:cs[c]?=O .nilS)(kk:TriL P C ops rest Q ⟨T,(H++[Blk.vec el k []]).set j<|.box t<|cs.set c<|.vec H.length 0⟩):TriL P C ops rest Q ⟨T,H⟩:=⟨λ_ a w b=>kk.run _ a w<|b.zwT hj hc⟩
section
variable{P:Program}{n:Nat}{ops:Array Oper}{H:List Blk}{l:List Oper}{p:Oper}{rest:List Oper}{al:List Ev}{T:List<|Nat×V}{K:List Ev->List (Nat×V)->Prop}
theorem TriQ.jAnd (m){b b2}{g r d:Nat}(hl:l.drop m=p::rest)(hp:p.op=.pick (.tmp g) (.tmp r) (.const<|.bool M))(hb:look g T=O (.d<|.bool b))(hs:zfp ops n g U (l.take m) []=U)(hrun:Runs ops p T)(hgp:∀j w g',p.guard=O (j,w)->ops[j]?.bind (·.dst)=O g'->g'∉dsts (l.take m))(hd:p.dst=O d)(hn:xA d n=U)(h1:b=U->TriQ P n ops H (l.take m) al ((g,.d<|.bool U)::T) λ_ T'=>look r T'=O (.d<|.bool b2))(h2:TriQ P n ops H rest al ((d,.d<|.bool<|b&&b2)::zxx (dsts<|l.take m) T) K):TriQ P n ops H l al T K:=TriQ.zyR m (want:=U) hl hp ⟨rfl,rfl⟩ hb hs hrun hgp hd hn h1 h2
theorem TriQ.jOr (m){b b2}{g r d:Nat}(hl:l.drop m=p::rest)(hp:p.op=.pick (.tmp g) (.const<|.bool U) (.tmp r))(hb:look g T=O (.d<|.bool b))(hs:zfp ops n g M (l.take m) []=U)(hrun:Runs ops p T)(hgp:∀j w g',p.guard=O (j,w)->ops[j]?.bind (·.dst)=O g'->g'∉dsts (l.take m))(hd:p.dst=O d)(hn:xA d n=U)(h1:b=M->TriQ P n ops H (l.take m) al ((g,.d<|.bool M)::T) λ_ T'=>look r T'=O (.d<|.bool b2))(h2:TriQ P n ops H rest al ((d,.d<|.bool<|b||b2)::zxx (dsts<|l.take m) T) K):TriQ P n ops H l al T K:=TriQ.zyR m (want:=M) hl hp ⟨rfl,rfl⟩ hb hs hrun hgp hd hn h1 h2
end
end
section
variable[zuV][Drw]
theorem cutS {α:Type}{l:List α}{lo hi:Int}{r:List α}(h:cut l lo hi=O r):∃a b:Nat,lo=(a:Int)/\hi=(b:Int)/\a<=b/\b<=l.length/\r=(l.drop a).take (b-a):=by
 unfold cut at h;split at h;·rename_i h0;obtain⟨h1,h2,h3⟩:=h0;obtain⟨a,rfl⟩:=y9 h1;obtain⟨b,rfl⟩:=y9<|Int.le_trans h1 h2;cases h;exact⟨a,b,rfl,rfl,by omega,by omega,by simp⟩
 ·cases h
theorem zfZ (l:List UInt8)(a b):(⟨l.toArray⟩:ByteArray).extract a b=⟨((l.drop a).take<|b-a).toArray⟩:=by apply ByteArray.ext;simp_all
section
variable{P:Program}{o:Oper}{e:Operand->Option V}{H:List Blk}
theorem OpV.zx6 {t x y z}{l r}{lo hi}(ho:o.op=.slice t x (O y) (O z) Y)(hx:e x=O (.d<|.str l))(hy:e y=O (.d<|.int lo))(hz:e z=O (.d<|.int hi))(ht:P.underlying t=O .string)(hr:cut l lo hi=O r):OpV P o e H<|.d<|.str r:=by
 obtain⟨a,b,rfl,rfl,k,h,rfl⟩:=cutS hr;refine .of_same λn p w f _ g=>?_;have j:=zt.1<|g x (by grind[xk]) _ hx;have i:=zt.1<|g y (by grind[xk]) _ hy;have m:=zt.1<|g z (by grind[xk]) _ hz;refine⟨_,?_,zt.2 rfl⟩;have c:b<=(⟨l.toArray⟩:ByteArray).size:=h;simp[execOp,ho,j,i,m,run_sliceAt_string w t _ _ _ _ ht,Instr.slice,run_underlying ht,Instr.sliceBounds,Instr.sliceBound,asIntOf,c,k,zfZ]
theorem OpV.zx5 {t x y}{l r}{lo}(ho:o.op=.slice t x (O y) Y Y)(hx:e x=O (.d<|.str l))(hy:e y=O (.d<|.int lo))(ht:P.underlying t=O .string)(hr:cut l lo (l.length:Int)=O r):OpV P o e H<|.d<|.str r:=by
 obtain⟨a,b,rfl,m,i,n,rfl⟩:=cutS hr;have c:l.length=b:=by omega
 subst c;refine .of_same λp q w f _ g=>?_;have j:=zt.1<|g x (by grind[xk]) _ hx;have k:=zt.1<|g y (by grind[xk]) _ hy;refine⟨_,?_,zt.2 rfl⟩;have h:(⟨l.toArray⟩:ByteArray).size=l.length:=rfl;simp[execOp,ho,j,k,run_sliceAt_string w t _ _ _ _ ht,Instr.slice,run_underlying ht,Instr.sliceBounds,Instr.sliceBound,asIntOf,h,i,zfZ]
theorem OpV.zzk {t x z}{l r}{hi}(ho:o.op=.slice t x Y (O z) Y)(hx:e x=O (.d<|.str l))(hz:e z=O (.d<|.int hi))(ht:P.underlying t=O .string)(hr:cut l 0 hi=O r):OpV P o e H<|.d<|.str r:=by
 obtain⟨a,b,m,rfl,n,i,rfl⟩:=cutS hr;have c:a=0:=by omega
 subst c;refine .of_same λp q w f _ h=>?_;have j:=zt.1<|h x (by grind[xk]) _ hx;have k:=zt.1<|h z (by grind[xk]) _ hz;refine⟨_,?_,zt.2 rfl⟩;have g:b<=(⟨l.toArray⟩:ByteArray).size:=i;simp[execOp,ho,j,k,run_sliceAt_string w t _ _ _ _ ht,Instr.slice,run_underlying ht,Instr.sliceBounds,Instr.sliceBound,asIntOf,g,zfZ]
theorem OpV.cutSlH {α:Type}{t el x z}{k:Nat}{l r:List α}{enc:α->D}{hi}(ho:o.op=.slice t x Y (O z) Y)(hx:e x=O (.d<|.sl k<|l.map enc))(hz:e z=O (.d<|.int hi))(ht:P.underlying t=O (.slice el))(hs:(P.info? el).map (·.size)=O k)(hr:cut l 0 hi=O r):OpV P o e H<|.d<|.sl k<|r.map enc:=by
 obtain⟨a,b,ha,rfl,h1,h2,rfl⟩:=cutS hr;have ha':a=0:=by omega
 subst ha';refine .of_same λA0 bs w f _ hf=>?_;have e1:=hf x (by simp[ho,xk]) _ hx;have e2:=zt.1<|hf z (by grind[xk]) _ hz;simp only[xm]at e1;obtain⟨ad,cap,hp,hcap,hrow⟩:=e1;simp only[yL]at hp hcap;cases hinf:P.info? el with
 |none=>simp_all|some inf=>
  have hsz:inf.size=k:=by simpa[hinf]using hs
  have hel:P.elem t=el:=by simp[tk,ht]
  have hck:P.cellsOf el=k:=by simp[vW,hinf,hsz]
  refine⟨sliced ad 0 b cap k,?_,?_⟩
  ·have:=run_slice_h (P:=P) w t ad l.length cap (by rw[hel];exact ht) .i64 b (by omega) (by omega);rw[hel,run_sizeOf w hinf,hck]at this;grind[Int.toNat_natCast,xi,execOp,xr,run_sliceAt_slice,xt]
  ·simp only[xm,xD,sliced];refine⟨if cap=0 then ad else ad.map (·.add<|0*k),cap,by simp_all,by grind,?_⟩;by_cases hb:b=0;·grind
   ·right;rcases hrow with hrow|⟨bl,off,rfl,hnb,hlt,hrow⟩;·simp_all
    ·refine⟨bl,off,?_,hnb,hlt,?_⟩
     ·by_cases hc:cap=0;·simp_all
      ·simp[wq]
     grind[D.zwY,List.map_take]
end
end
section
variable[zuV][Drw]
def eqV:Value->Value->Bool|.bool a,.bool b=>a==b|.int _ a,.int _ b=>a==b|.string a,.string b=>a.toList==b.toList|_,_=>M
def eqVs:List Value->List Value->Bool|[],[]=>U|x::xs,y::ys=>eqV x y&&eqVs xs ys|_,_=>M
def zrk:TypeDesc->Value->Bool|.bool,.bool _=>U|.int k,.int j _=>decide<|j=k|.string,.string _=>U|_,_=>M
def za3:List TypeDesc->List Value->Bool|[],[]=>U|d::ds,v::vs=>zrk d v&&za3 ds vs|_,_=>M
def zpa (rec:TypeId->Option (List TypeDesc)):List Field->Nat->Option (List TypeDesc)|[],_=>O []|f::fs,off=>if f.name= "_" ∨f.offset≠off then none else match rec f.type with|none=>Y|some l=>match zpa rec fs<|off+l.length with|none=>Y|some r=>O<|l++r
def zx7 (P:Program):Nat->TypeId->Option (List TypeDesc)|0,_=>Y|d+1,t=>match P.underlying t with
  |some<|.struct fs=>if P.stoodInHeld t=U then Y else match zpa (zx7 P d) fs.toList 0 with
   |none=>Y|some l=>if(P.info? t).map (·.size)=O l.length then O l else Y
  |some .bool=>O [.bool]|some<|.int k=>O [.int k]|some .string=>O [.string]|_=>Y
theorem zcz:∀{ls}{vs},za3 ls vs=U->vs.length=ls.length|[],[],_=>rfl|_::_,_::_,h=>by simp only[za3,yc]at h;simp[zcz h.2]|[],_::_,h=>by grind[za3]|_::_,[],h=>by grind[za3]
theorem ze0:∀{l r}{vs},za3 (l++r) vs=U->za3 l (vs.take l.length)=U/\za3 r (vs.drop l.length)=U|[],r,vs,h=>by grind[za3]|d::l,r,[],h=>by grind[za3]|d::l,r,v::vs,h=>by simp only[uu,za3,yc]at h;have:=ze0 (l:=l) h.2;simp only[yW,List.take_succ_cons,za3];simp_all
theorem zlL:∀(n)(xs ys),xs.length=ys.length->eqVs xs ys=(eqVs (xs.take n) (ys.take n)&&eqVs (xs.drop n) (ys.drop n))|0,xs,ys,_=>by simp[eqVs]|n+1,[],[],_=>by simp_all|n+1,x::xs,y::ys,h=>by simp only[eqVs,List.take_succ_cons,List.drop_succ_cons,zlL n xs ys<|by simp_all,vZ]|n+1,[],_::_,h=>by grind|n+1,_::_,[],h=>by grind
def zxU (P:Program)(t:TypeId)(cs:Array Value):Value:=match P.underlying t with|some<|.struct _=>.agg cs|_=>cs.getD 0 undef
def zsP (P:Program)(d:Nat):Prop:=∀(t:TypeId)(ls:List TypeDesc),zx7 P d t=O ls->∀(m:Nat)(w:World)(xs ys:Array Value),d<=m->za3 ls xs.toList=U->za3 ls ys.toList=U->(Op.equalIn m t (zxU P t xs)<|zxU P t ys).run P w=.ok (eqVs xs.toList ys.toList) w
theorem ziF {P d t}{l}(h:zx7 P d t=O l)(w xs off)(hl:za3 l ((xs.toList.drop off).take l.length)=U):(part t xs off).run P w=.ok (zxU P t<|xs.extract off<|off+l.length) w:=by cases d with
  |zero=>grind[zx7]|succ d=>
    have e:=zcz hl;unfold zx7 at h;split at h
    · rename_i j a;split at h;·cases h
      · split at h;·cases h
        · split at h
          · rename_i b;cases h;cases c:P.info? t with|none=>simp_all|some i=>simp only[c,yQ,yo]at b;simp[part,isAgg,run_underlying a,sizeOf,typeInfo,c,b,zxU,a]
          grind
    all_goals first
      |(cases h;done)
      | (rename_i a;cases h;have g:off<xs.size:=by grind
         have f:=um g;simp[part,isAgg,run_underlying a,f,zxU];grind)
theorem zfR {P d m}(ih:zsP P d)(hm:d<=m)(xs ys):∀(fs)(off)(ls)(w),zpa (zx7 P d) fs off=O ls->za3 ls (xs.toList.drop off)=U->za3 ls (ys.toList.drop off)=U->(Op.eqFields m xs ys fs).run P w=.ok (eqVs (xs.toList.drop off)<|ys.toList.drop off) w
 |[],off,ls,w,h,c,b=>by cases h;have y:=zcz c;have o:=zcz b;rw[List.length_eq_zero_iff.1 y,List.length_eq_zero_iff.1 o];simp[Op.eqFields,eqVs]|f::fs,off,ls,w,h,c,b=>by
  simp only[zpa]at h;split at h;·cases h
  ·rename_i a;have x:f.name≠ "_" :=fun e=>a<|.inl e;have n:=xG λe=>a<|.inr e;split at h;·cases h
   ·rename_i l g;split at h;·cases h
    ·rename_i r p;cases h;obtain⟨k,C⟩:=ze0 c;obtain⟨s,E⟩:=ze0 b;have t:=ziF g w xs off k;have u:=ziF g w ys off s;have v:(xs.extract off<|off+l.length).toList=(xs.toList.drop off).take l.length:=by simp_all
     have q:(ys.extract off<|off+l.length).toList=(ys.toList.drop off).take l.length:=by simp_all
     have j:=ih f.type l g m w (xs.extract off<|off+l.length) (ys.extract off<|off+l.length) hm (by simp_all) (by simp_all);rw[v,q]at j;have i:=zfR ih hm xs ys fs (off+l.length) r w p (by simp_all) (by simp_all);have z:=zcz c;have A:=zcz b;rw[zlL l.length _ _<|by simp_all,List.drop_drop,List.drop_drop];simp only[Op.eqFields,x,ne_eq,n,xr,t,u,j,xi,Sem.run_ite];cases B:eqVs (List.take l.length<|List.drop off xs.toList)<|List.take l.length<|List.drop off ys.toList;·simp
     simp_all
theorem zsT {P}:∀d,zsP P d
  |0=>λt j h=>by grind[zx7]|d+1=>fun t j h m w b c u e a=>by
    obtain⟨m,rfl⟩:∃q,m=q+1:=⟨m-1,by omega⟩;unfold zx7 at h;split at h
    · rename_i k n;split at h;·cases h
      · split at h;·cases h
        · rename_i s f;split at h
          · cases h;have r:P.fieldsOf t=k:=by grind[Program.fieldsOf]
            have o:∀g,zxU P t g=.agg g:=λg=>by grind[zxU]
            rw[o,o,run_equalIn_struct w m t b c (by simp_all)<|by simp_all,r];have:=zfR (zsT d) (by omega:d<=m) b c k.toList 0 j w f (by simp_all) (by simp_all);simp_all
          grind
    all_goals first
      |(cases h;done)
      | (rename_i n;cases h;obtain⟨xl,rfl⟩:∃l:List Value,b=l.toArray:=⟨b.toList,by simp⟩;obtain⟨yl,rfl⟩:∃l:List Value,c=l.toArray:=⟨c.toList,by simp⟩;cases xl with|nil=>grind[za3]|cons x xl=>cases yl with
           |nil=>grind[za3]|cons y yl=>
             have p:=zcz e;have i:=zcz a;simp at p i;subst p;subst i;simp only[za3,uj]at e a;cases x<;>simp only[zrk,yf,ye]at e;cases y<;>simp only[zrk,yf,ye]at a;try subst e
             try subst a
             simp[zxU,n,eqVs,eqV,run_equalIn_bool' w m t _ _,run_equalIn_int w m t,run_equalIn_string w m t])
section
variable{P:Program}{o:Oper}{e:Operand->Option V}{H:List Blk}
theorem zl0 {A w}:∀{l vs},xv A w (l.map .val) vs->vs=l|[],vs,h=>by grind[xv]|v::l,vs,h=>by obtain⟨u,c,rfl,b,a⟩:=h;rw[b,zl0 a]
def zhX (vs:List Value):D:=.agg<|vs.map .val
theorem ze8 {A w vs v}(h:(zhX vs).rep A w v):v=.agg vs.toArray:=by obtain⟨b,rfl,a⟩:=h;rw[<-zl0 a]
structure zwv (P:Program)(t:TypeId)(ls:List TypeDesc):Prop where
 flat:zx7 P 20 t=O ls
 str:(match P.underlying t with|some<|.struct _=>U|_=>M)=U
 grd:P.eqGuardType P.depth t=M
theorem zwv.run {t}{ls}(h:zwv P t ls){xs ys}(hx:za3 ls xs=U)(hy:za3 ls ys=U)(w):(Op.equalIn 10000 t (.agg xs.toArray)<|.agg ys.toArray).run P w=.ok (eqVs xs ys) w:=by
 have:=zsT 20 t ls h.flat 10000 w xs.toArray ys.toArray (by decide) (by simp_all) (by simp_all);have b:∀a,zxU P t a=.agg a:=λa=>by
  have:=h.str;grind[zxU]
 simp_all
theorem OpV.seql {t u x y}{ls}{a b xs ys r}(ho:o.op=.binOp .eql t x y u)(ht:zwv P t ls)(hx:e x=O (.d a))(hy:e y=O (.d b))(ha:a=zhX xs)(hb:b=zhX ys)(lx:za3 ls xs=U)(ly:za3 ls ys=U)(hr:eqVs xs ys=r):OpV P o e H<|.d<|.bool r:=.of_same λ_ _ w f _ h=>by subst ha;subst hb;have g:=h x (by grind[xk]) _ hx;have c:=h y (by grind[xk]) _ hy;have g:=ze8 g;have c:=ze8 c;exact⟨.bool r,by simp only[execOp,ho,g,c,run_eqGuard_agg w _ t x y _ _ ht.grd,run_eql_struct,ht.run lx ly,hr,xr,xt,xi],zt.2 rfl⟩
theorem OpV.sneq {t u x y}{ls}{a b xs ys r}(ho:o.op=.binOp .neq t x y u)(ht:zwv P t ls)(hx:e x=O (.d a))(hy:e y=O (.d b))(ha:a=zhX xs)(hb:b=zhX ys)(lx:za3 ls xs=U)(ly:za3 ls ys=U)(hr:eqVs xs ys=r):OpV P o e H<|.d<|.bool<|!r:=.of_same λ_ _ w f _ h=>by subst ha;subst hb;have g:=h x (by grind[xk]) _ hx;have c:=h y (by grind[xk]) _ hy;have g:=ze8 g;have c:=ze8 c;exact⟨.bool<|!r,by simp only[execOp,ho,g,c,run_eqGuard_agg w _ t x y _ _ ht.grd,run_neq_struct,ht.run lx ly,hr,xr,xt,xi],zt.2 rfl⟩
theorem OpV.callLe {f args tys xs xs' y}(ho:o.op=.call {callee:=.value<|.func f,args:=args,argTypes:=tys})(hc:zu0 P f=U)(hx:evs e args.toList=O xs)(hl:D.Les xs xs')(hp:Pure P f xs' y):OpV P o e H<|.d y:=.call ho hc hx ⟨λA w b c g a=>hp.run A w b c g<|hl.reps a⟩
end
end
section
variable[zuV][Drw]
theorem zlj {z k}(hz:z.size=k)(hk:0<k)(n):(madeCells z<|(n+1)*k).toList=z.toList++(madeCells z<|n*k).toList:=by
 unfold madeCells;rw[vU,vU,Array.toList_range,Array.toList_range,uz,Nat.add_comm,List.range_add,un,List.map_map];congr 1
 ·apply uO;·grind
  grind[wd]
 simp_all
theorem znt {A w k z d}(hr:d.rep A w z)(hz:z.cells.size=k)(hk:0<k):∀n,xM A w k (xy n d) (madeCells z.cells<|n*k).toList|0=>by simp[xM,madeCells]|n+1=>by rw[zlj hz hk,vw];exact⟨z,_,rfl,hz,hr,znt hr hz hk n⟩
theorem mkS {α}{b}{n}{x}{r:List α}(h:mkl b n x=O r):∃m:Nat,n=(m:Int)/\m*b<=140737488355328/\r=xy m x:=by unfold mkl at h;grind
theorem zwt {i}{ids:List Nat}(h:ids.contains i=U):i∈ids:=by simp_all
theorem TriL.zxo {P:Program}{C:Ctx}{ops:Array Oper}{o:Oper}{rest}{Q}{T}{H}{α}{t el}{k bytes d:Nat}{x y}{enc}{m}{z}{r:List α}(hg:o.guard=Y)(ho:o.op=.makeSlice t x y)(hd:o.dst=O d)(hdn:xA d C.n=U)(he:zcc P t el k bytes=U)(hb:xA 0 bytes=U)(hx:ev T x=O (.d<|.int m))(hy:ev T y=O (.d<|.int m))(hz:zwI P el<|enc z)(hm:mkl bytes m z=O r)(kk:TriL P C ops rest Q ⟨(d,.vec H.length r.length)::T,H++[.vec el k<|r.map enc]⟩):TriL P C ops (o::rest) Q ⟨T,H⟩:=by
 obtain⟨f,s,g,p,b,h,l,A,G⟩:=zbN he;obtain⟨n,rfl,q,rfl⟩:=mkS hm;obtain⟨e,u,v⟩:=hz.out;have:e=p:=by grind[zbS]
 subst this;have j:0<bytes:=by simp_all
 have B:=yI (wV n j) q;refine wI hg (λE a w i=>?_) kk;have I:=zt.1<|i.ev hx;have xf:=zt.1<|i.ev hy;have F:=run_make (P:=P) w t el g e f b h .i64 .i64 n n (by omega) (Int.le_refl _) (by grind) (by omega);have c:(execOp a.eval o).run P w=.ok (.value<|.slice (O ⟨w.heap.size,0,Y⟩) n n) (w.alloc<|.cells (madeCells e.cells<|n*k) el):=by grind[execOp,xr,xi,xt,Int.toNat_natCast]
 refine⟨_,_,E++[O w.heap.size],c,.inl ⟨_,rfl,?_⟩⟩;have:=i.newVec (el:=el) (k:=k) (n:=n) (cap:=n) (r:=d) (cells:=madeCells e.cells<|n*k) (xs:=xy n<|enc z) (by simp_all) (by simp) (size_madeCells _ _) (yk _) (by grind[maxLen])<|by rw[xV<|by rw[yE,size_madeCells];simp_all];grind[znt]
 simp_all
theorem zcq {α}{l}{i}{x}{r:List α}(h:sto l i x=O r):l.length=r.length:=by obtain⟨n,_,_,rfl⟩:=stoS h;simp
theorem TriL.zwK {P C ops rest Q T H}(t){i n m}(ht:look t T=O (.vec i n))(e:n=m)(k:TriL P C ops rest Q ⟨(t,.vec i m)::T,H⟩):TriL P C ops rest Q ⟨T,H⟩:=by subst e;exact⟨λ_ a w b=>k.run _ a w<|b.know (b.tmp t _ ht).1 (b.tmp t _ ht).2⟩
theorem TriL.zxg {P C ops rest Q T H}(j c){i n m t cs}(hj:H[j]?=O (.box t cs))(hc:cs[c]?=O (.vec i n))(e:n=m)(k:TriL P C ops rest Q ⟨T,H.set j<|.box t<|cs.set c<|.vec i m⟩):TriL P C ops rest Q ⟨T,H⟩:=by grind[List.set_getElem_self]
end
section
variable[zuV][Drw]
def znu (o:Oper):Bool:=match o.guard,o.dst,o.op with|none,O _,.move _=>U|none,O _,.binOp .quo _ (.tmp _) (.tmp _) _=>U|none,O _,.binOp .rem _ (.tmp _) (.tmp _) _=>U|_,_,_=>M
def zh0 (o:Oper)(T:List<|Nat×V):Prop:=match o.op with|.binOp _ _ (.tmp x) (.tmp y) _=>∃a b:Int,look x T=O (.d<|.int a)/\look y T=O (.d<|.int b)|_=>True
theorem zp7 {P o}(h:znu o=U){T}(hi:zh0 o T){f}(hf:∀x a,xH x∈o.op.operands->look x T=O (.d<|.int a)->f (.tmp x)=.int .i64 a){w}{K}(hr:zfE P K<|(execOp f o).run P w):∃u,K u w/\∀w',(execOp f o).run P w'=.ok (.value u) w':=by
 unfold znu at h;split at h
 ·rename_i x _ _ c;have:∀w',(execOp f o).run P w'=.ok (.value<|f x) w':=λw'=>by simp[execOp,c]
  rw[this]at hr;exact⟨_,hr,this⟩
 ·rename_i t x y u _ _ c;simp only[zh0,c]at hi;obtain⟨a,b,j,k⟩:=hi;have i:=hf x a (by grind[xk]) j;have g:=hf y b (by grind[xk]) k;by_cases e:b=0;·revert hr;simp[execOp,c,i,g,eqGuard_at_int,binOp,Op.intDiv,e,zfE,runtimePanic]
  ·have:∀w',(execOp f o).run P w'=.ok (.value<|.int .i64<|w64<|a.tdiv b) w':=λw'=>by simp[execOp,c,i,g,eqGuard_at_int,binOp,Op.intDiv,e,w64]
   rw[this]at hr;exact⟨_,hr,this⟩
 ·rename_i t x y u _ _ c;simp only[zh0,c]at hi;obtain⟨a,b,j,k⟩:=hi;have i:=hf x a (by grind[xk]) j;have g:=hf y b (by grind[xk]) k;by_cases e:b=0;·revert hr;simp[execOp,c,i,g,eqGuard_at_int,binOp,Op.intDiv,e,zfE,runtimePanic]
  ·have:∀w',(execOp f o).run P w'=.ok (.value<|.int .i64<|a.tmod b) w':=λw'=>by simp[execOp,c,i,g,eqGuard_at_int,binOp,Op.intDiv,e]
   rw[this]at hr;exact⟨_,hr,this⟩
 grind
def zmF (o:Oper):Bool:=match o.op with|.select _ _=>U|_=>M
def zf4 (l:List Oper)(n:Nat):List Nat->List Nat->Bool
 |[],_=>U|i::F,dn=>(match l[i]? with|none=>M|some oi=>znu oi&&Z (i<n)&&!dn.contains i&&oi.after.toList.all (λe=>!Region.binds .any e||dn.contains e.on)&&(xn l.length).all (λj=>j==i||dn.contains j||match l[j]? with|none=>M|some oj=>oj.after.toList.any (λe=>wZ .any e&&e.on==i)||oi.apart l.toArray oj)&&match oi.op with
    |.binOp _ _ (.tmp x) (.tmp y) _=>(xn l.length).all λj=>Z (j<i)||match l[j]? with|none=>U|some oj=>oj.dst !=O x&&oj.dst !=O y
    |_=>U)&&zf4 l n F (i::dn)
def zcg (Q:Exit->St->Prop):Exit->St->Prop|.panic _,_=>False|e,s=>Q e s
structure First (l:List Oper)(n:Nat)(i:Nat)(oi:Oper)(dn:List Nat):Prop where
 at_:l[i]?=O oi
 free:znu oi=U
 lt:i<n
 new:i∉dn
 after:∀e∈oi.after.toList,wZ .any e=U->e.on∈dn
 apart:∀j oj,l[j]?=O oj->j≠i->j∉dn->(∀e∈oj.after.toList,wZ .any e=U->e.on≠i)->oi.apart l.toArray oj=U
 ops:∀op t x y u,oi.op=.binOp op t (.tmp x) (.tmp y) u->∀j oj,l[j]?=O oj->¬j<i->oj.dst≠O x/\oj.dst≠O y
theorem zic {l n i F dn}(h:zf4 l n (i::F) dn=U):(∃oi,First l n i oi dn)/\zf4 l n F (i::dn)=true:=by simp only[zf4,yc]at h;refine⟨?_,h.2⟩;have h:=h.1;cases ho:l[i]? with
 |none=>simp[ho]at h|some oi=>
  simp only[ho,yc,yf,yq]at h;obtain⟨⟨⟨⟨⟨o,h2⟩,A⟩,B⟩,h5⟩,h6⟩:=h;refine⟨oi,ho,o,h2,by simp_all,λe he C=>?_,λj oj hj hji hjd k=>?_,λz t x y u s j oj hj hlt=>?_⟩;·grind
  ·have:=h5 j<|yU.2 (yd.1 hj).1;simp only[hj,yG,beq_iff_eq,ut,yc]at this;rcases this with(h|h)|⟨e,he,v,h8⟩|h;·exact absurd h hji
   ·exact absurd (by simpa using h) hjd
   ·exact absurd h8<|k e he v
   ·exact h
  grind
theorem zub {l T0 ps xd L0 n}(ok:zx1 l n xd L0)(hfst:∀(i:Nat)(o)(v),ps[i]?=O (o,v)->l[i]?=O o){listed}(hsz:listed.size=l.length)(hcl:zxa l xd listed){i o v}(hpi:ps[i]?=O (o,v))(hil:listed.getD i M=M)(hbef:∀k,(xd.getD i 0).testBit k=U->listed.getD k M=U)(t):look t (TL T0 ps (λk=>(listed.setIfInBounds i U).getD k M) ps.length)=look t (putT (TL T0 ps (λk=>listed.getD k M) ps.length) o.dst v):=by
 have g:=hfst i o v hpi;have w:=(yd.1 g).1;have r:=(yd.1 hpi).1;rw[zek];by_cases j:o.dst=O t
 ·have x:look t (TL T0 ps (λk=>(listed.setIfInBounds i U).getD k M) ps.length)=look t (TL T0 ps (λk=>Z<|k<i+1) ps.length):=by
   refine zeF (λk b s f e=>?_) ps.length;have c:=hfst k b s f;rw[zaL _ _ _ _<|by omega];rcases Nat.lt_trichotomy k i with a|a|a
   ·simp only[show k<i+1 by omega,decide_true];rcases ok.pair k i b _ a c g with u|d;·simp_all
    ·exact absurd j<|(wD d).2.1 t e
   ·simp_all
   ·rw[if_neg<|by omega];simp only[show¬k<i+1 by omega];cases u:listed.getD k M with
    |false=>rfl|true=>
     rcases ok.pair i k _ b a g c with h|d;·have:=hcl k (by grind) u i h;simp_all
     grind[wD]
  rw[x];have q:=zfF (T:=T0) (ps:=ps) (p:=λk=>Z<|k<i+1) (m:=i+1) (λk f=>by simp_all)<|ps.length-(i+1);rw[show i+1+(ps.length-(i+1))=ps.length by omega]at q;rw[q];simp only[TL,hpi,Nat.lt_succ_self,decide_true,if_true,zek,j]
 ·rw[if_neg j];refine zeF (λk b s f e=>?_) ps.length;rw[zaL _ _ _ _<|by omega];grind
theorem zjQ {P C bs H T0 Q ps xd L0 l n}(hQ:∀c s,¬Q (.panic c) s)(hsel:l.all (λo=>!zmF o)=U)(hfst:∀(i:Nat)(o:Oper)(v:V),ps[i]?=O (o,v)->l[i]?=O o)(hpn:ps.length=n)(ok:zx1 l n xd L0)(hy:∀(i:Nat)(o:Oper)(v:V),ps[i]?=O (o,v)->YV P C.n l.toArray H o (TL T0 ps (λk=>Z<|k<i) ps.length) v):∀(F dn:List Nat),zf4 l n F dn=U->(∀i∈F,∀o,l[i]?=O o->zh0 o (TL T0 ps (λ_=>U) ps.length))->∀(listed:Array Bool)(a:Act)(w:World)(fuel:Nat),listed.size=l.length->(∀j,j<l.length->(listed.getD j M=U↔j∈dn))->zxa l xd listed->R C bs ⟨TL T0 ps (λk=>listed.getD k M) ps.length,H⟩ a w->(∀(listed':Array Bool)(a':Act),listed'.size=l.length->(∀j,j<l.length->(listed'.getD j M=U↔j∈F.reverse++dn))->zxa l xd listed'->R C bs ⟨TL T0 ps (λk=>listed'.getD k M) ps.length,H⟩ a' w->wpAny P .any l.toArray (QR C Q) fuel listed' a' w)->wpAny P .any l.toArray (QR C Q) (fuel+F.length) listed a w
 |[],dn,_,_,listed,a,w,fuel,hsz,hdn,hcl,hR,hk=>hk listed a hsz (by simpa using hdn) hcl hR|i::F,dn,hF,hI,listed,a,w,fuel,hsz,hdn,hcl,hR,hk=>by
  obtain⟨⟨oi,f⟩,hF'⟩:=zic hF;have hilt:=(yd.1 f.at_).1;have hips:i<ps.length:=by rw[hpn];exact f.lt
  have hpi:ps[i]?=O (ps[i].1,ps[i].2):=yB hips;have hoi:oi=ps[i].1:=by have:=hfst i _ _ hpi;rw[f.at_]at this;simpa using this
  have hil:listed.getD i M=false:=by cases hb:listed.getD i M with|false=>rfl|true=>exact absurd ((hdn i hilt).1 hb) f.new
  have hedges:∀e∈oi.after.toList,wZ .any e=U->listed.getD e.on M=true:=λe he hb=>by have:=ok.back i oi f.at_ e he hb;exact(hdn e.on<|by omega).2<|f.after e he hb
  have hbef:=zgQ ok hcl f.at_ hedges;have hready:i∈wr .any l.toArray listed:=zgI.2 ⟨oi,f.at_,by rw[zc0 _ _<|by omega];exact hil,hedges⟩;have hlook:∀t∈oi.looksAt l.toArray,look t (TL T0 ps (λk=>Z<|k<i) ps.length)=look t (TL T0 ps (λk=>listed.getD k M) ps.length):=by
   intro t ht;refine zeF (λk ok' vk hk hd=>?_) ps.length;have hlk:=hfst k ok' vk hk;rcases Nat.lt_trichotomy k i with hki|hki|hki
   ·simp only[hki,decide_true];rcases ok.pair k i ok' _ hki hlk f.at_ with hb|hap;·exact(hbef k hb).symm
    ·exact absurd ht<|(wD hap).1 t hd
   ·subst hki;simp only[Nat.lt_irrefl,decide_false];exact hil.symm
   ·simp only[show¬k<i by omega,decide_false];cases hb:listed.getD k M with
    |false=>rfl|true=>
     exfalso;rcases ok.pair i k _ ok' hki f.at_ hlk with hb2|hap;·have:=hcl k (by have:=(yd.1 hlk).1;omega) hb i hb2;rw[hil]at this;cases this
     ·exact(wD hap).2.2 t hd ht
  have hyi:=(hy i _ _ hpi).congr (by rw[<-hoi];exact hlook);rw[<-hoi]at hyi;obtain⟨hdst,hyi⟩:=hyi;have hfree:=f.free;have hgd:oi.guard=Y/\zaq oi=false:=by
   unfold znu at hfree;split at hfree;·rename_i hg _ ho;exact⟨hg,by simp[zaq,ho]⟩
   ·rename_i hg _ ho;exact⟨hg,by simp[zaq,ho]⟩
   ·rename_i hg _ ho;exact⟨hg,by simp[zaq,ho]⟩
   ·cases hfree
  have hop:OpV P oi (ev<|TL T0 ps (λk=>listed.getD k M) ps.length) H ps[i].2:=by
   rcases hyi with⟨_,_,hv⟩|⟨_,⟨t,r,q,_⟩,_⟩|⟨_,j,want,g,hg,_⟩|⟨_,t,r,y,d,k,q,_⟩;·exact hv
   ·simp[zaq,q]at hgd
   ·rw[hgd.1]at hg;cases hg
   ·simp[zaq,q]at hgd
  have hints:zh0 oi<|TL T0 ps (λk=>listed.getD k M) ps.length:=by
   have h0:=hI i (by simp) oi f.at_;unfold zh0 at h0|-;split
   ·rename_i op t x y u hq;simp only[hq]at h0;have hsame:∀z,z=x\/z=y->look z (TL T0 ps (λ_=>U) ps.length)=look z (TL T0 ps (λk=>listed.getD k M) ps.length):=by
     intro z hz;have hz':z∈oi.looksAt l.toArray:=by
      simp only[Oper.looksAt,yu,List.mem_filterMap];left;rcases hz with rfl|rfl;·exact⟨.tmp z,by simp[hq,xk],rfl⟩
      ·exact⟨.tmp z,by simp[hq,xk],rfl⟩
     rw[<-hlook z hz'];refine zeF (λk ok' vk hk hd=>?_) ps.length;have hlk:=hfst k ok' vk hk;by_cases hki:k<i;·simp[hki]
     ·exfalso;have:=f.ops op t x y u hq k ok' hlk hki;rcases hz with rfl|rfl;·exact this.1 hd
      ·exact this.2 hd
    rw[<-hsame x<|.inl rfl,<-hsame y<|.inr rfl];exact h0
   ·trivial
  have hrun:=hop.run C.A0 bs w a.eval hR.mem (λx _ y hx=>hR.ev hx) (λ_=>rfl) λ_=>rfl;obtain⟨u,⟨_,hu⟩,hall⟩:=zp7 hfree hints (f:=a.eval) (λx b _ hx=>by have:=zt.1<|hR.ev (x:=.tmp x) (by simpa[ev]using hx);exact this) hrun;have hyields:Yields P l.toArray oi u a:=.inl ⟨by simp[wg,hgd.1],hall⟩;have hselA:∀(j:Nat)(o:Oper)cs b,l.toArray[j]?=O o->o.op≠.select cs b:=λj o cs b hj hs=>by have:=(yq.1 hsel) o (by simp at hj;exact yC hj);simp[zmF,hs]at this
  rw[show fuel+(i::F).length=fuel+F.length+1 by simp;omega];refine wpAny_first (i:=i) (oi:=oi) (v:=u) (by simpa using f.at_) hselA (λc a w h=>h.elim (λ⟨bs',s',hq,_⟩=>absurd hq<|hQ c s') λh=>by cases h.1) (fuel+F.length) listed a w (λj oj hj hji hjl hw=>?_) hready hyields ?_;·simp only[vK]at hj;have hjlt:=(yd.1 hj).1;rw[zc0 _ _<|by omega]at hjl;exact f.apart j oj hj hji (λh=>by rw[(hdn j hjlt).2 h]at hjl;cases hjl) λe he hb=>hw e (by simpa using he) hb
  ·have hget:∀k,(listed.setIfInBounds i U).getD k M=if k=i then U else listed.getD k false:=λk=>zaL _ _ _ _<|by omega
   refine zjQ hQ hsel hfst hpn ok hy F (i::dn) hF' (λj hj=>hI j<|by simp[hj]) (listed.setIfInBounds i U) _ w fuel (by simpa using hsz) (λj hj=>?_) ?_ ?_ λl' a' q1 q2 q3 q4=>hk l' a' q1 (λj hj=>by rw[q2 j hj];simp[or_assoc,or_left_comm]) q3 q4
   ·rw[hget];split;·rename_i e;simp[e]
    ·rename_i e;rw[hdn j hj];simp[e]
   ·intro j hj hjl i' hi';rw[hget]at hjl|-;split;·rfl
    ·split at hjl<;>rename_i hji;·subst hji;exact hbef i' hi'
     ·exact hcl j hj hjl i' hi'
   ·have hput:=hR.put (xz _ _) oi.dst hdst hu;rw[St.put_eq]at hput;refine hput.weaken λt v hv=>?_;rw[<-hv,zub ok hfst hsz hcl hpi hil hbef t,<-hoi]
inductive Ints (l:List Oper)(T:List<|Nat×V):List Nat->Prop|nil:Ints l T []|move{i:Nat}{F:List Nat}{o:Oper}{x:Operand}:l[i]?=O o->o.op=.move x->Ints l T F->Ints l T (i::F)|ints{i:Nat}{F:List Nat}{o:Oper}{op:BinOp}{t u:TypeId}{x y:Tmp}{a b:Int}:l[i]?=O o->o.op=.binOp op t (.tmp x) (.tmp y) u->look x T=O (.d<|.int a)->look y T=O (.d<|.int b)->Ints l T F->Ints l T (i::F)
theorem Ints.all {l T T1 n}(hw:Wk n T1 T):∀{F},Ints l T F->∀i∈F,∀o,l[i]?=O o->zh0 o T1
 |_,.nil,i,a,_,_=>by grind|_,.move e d c,i,a,o,b=>by
  rcases yF.1 a with rfl|a;·grind[zh0]
  ·exact c.all hw i a o b|_,.ints e d c g f,i,a,o,b=>by
  rcases yF.1 a with rfl|a;·rw[e]at b;cases b;simp only[zh0,d];exact⟨_,_,(hw _ _ c).resolve_right λh=>by grind,(hw _ _ g).resolve_right λh=>by grind⟩
  ·exact f.all hw i a o b
theorem Tri.drawF {P C Q s id l}(n F)(hm:P.follows .mixedOrders=U)(hok:zrp l n F=U)(hf:(zf4 l n F []&&l.all (λo=>!zmF o)&&(l.take n).all (λo=>!zaq o)&&Z (n<=l.length)&&zfW (l.take n)&&zeI (l.take n)&&((xn n).filter λi=>!F.contains i).length+F.length==n)=U)(h:TriQ P C.n l.toArray s.H (l.take n) [] s.T λ_ T=>Ints l T F/\TriL P C l.toArray (l.drop n) (zcg Q) ⟨T,s.H⟩):Tri P C (.region id l.toArray U) Q s:=by
 simp only[yc,yf,beq_iff_eq]at hf;obtain⟨⟨⟨⟨⟨⟨hf1,hf2⟩,hf3⟩,hn⟩,ha1⟩,ha2⟩,hcount⟩:=hf;refine Tri.mono (Q:=zcg Q) ⟨λbs a w hR=>?_⟩ (λe s hq=>by cases e<;>first|exact hq.elim|exact hq);obtain⟨xd,ok⟩:=zlY hok;obtain⟨qs,hq1,hq2,T',⟨hI,hK⟩,hq3⟩:=zu6.path (T0:=s.T) (l.take n) [] s.T [] (λ_=>rfl) h.run;simp only[yN,ul,ug]at hq2 hq3 hK hI;have hlen:qs.length=n:=by have:=congrArg xh hq1;simp at this;omega
 have hl:l=qs.map (·.1)++l.drop n:=by rw[hq1,uA]
 have hfst:∀(i:Nat)(o:Oper)(v:V),qs[i]?=O (o,v)->l[i]?=O o:=λi o v hi=>by rw[hl,yi<|by simpa using(yd.1 hi).1];simp[hi]
 have hnos:∀o∈qs.map (·.1),zaq o=false:=λo ho=>by rw[hq1]at ho;simpa using(yq.1 hf3) o ho
 have hevs:zwf qs=[]:=by unfold zwf;rw[List.flatMap_eq_nil_iff];intro p hp;exact zfH<|hnos p.1<|y7.2 ⟨p,hp,rfl⟩
 have hal:zfW (qs.map (·.1))=U/\zeI (qs.map (·.1))=true:=by rw[hq1];exact⟨ha1,ha2⟩
 have hf0:∀i,(xu l.toArray.size M).getD i M=false:=λi=>by simp only[y8,Array.getElem?_replicate];split<;>rfl
 refine wp_region_any hm ?_;have hend:TriL P C l.toArray (l.drop n) (zcg Q) ⟨zwy (zwD<|zwf qs) s.H.length<|TL s.T qs (λ_=>U) qs.length,s.H++zhE P (zwf qs)⟩:=by
  have e:zhE P (zwf qs)=[]:=by rw[hevs];rfl
  rw[e,hevs,ue];exact TriL.wk hq3 hK
 have hFn:∀i∈F,i<n:=by
  have:∀(F dn:List Nat),zf4 l n F dn=U->∀i∈F,i<n:=by
   intro F;induction F with|nil=>intro dn _;simp|cons i F ih=>
    intro dn h j hj;obtain⟨⟨oi,f⟩,h'⟩:=zic h;rcases yF.1 hj with rfl|hj;·exact f.lt
    ·exact ih _ h' j hj
  exact this F [] hf1
 have hR2:R C bs ⟨TL s.T qs (λk=>(xu l.toArray.size M).getD k M) qs.length,s.H⟩ a {w with drawn:=w.drawn+1}:=by
  refine hR.drew.weaken λt v hv=>?_;rw[<-hv];have:TL s.T qs (λk=>(xu l.toArray.size M).getD k M) qs.length=TL s.T qs (λk=>(xu l.toArray.size M).getD k M) 0:=by have:=zfF (T:=s.T) (ps:=qs) (p:=λk=>(xu l.toArray.size M).getD k M) (m:=0) (λi _=>hf0 i) qs.length;simpa using this
  rw[this];rfl
 have key:=zjQ (P:=P) (C:=C) (bs:=bs) (H:=s.H) (T0:=s.T) (Q:=zcg Q) (ps:=qs) (n:=n) (λc s h=>h) hf2 hfst hlen ok hq2 F [] hf1 (hI.all hq3) (xu l.toArray.size M) a {w with drawn:=w.drawn+1} (l.length-F.length) (by simp) (λj _=>by rw[hf0 j];simp) (λj _ hj=>by rw[hf0 j]at hj;cases hj) hR2 λlisted' a' q1 q2 q3 q4=>?_
 ·have e:l.toArray.size=l.length-F.length+F.length:=by simp;omega
  have key':wpAny P .any l.toArray (QR C<|zcg Q) l.toArray.size (xu l.toArray.size M) a {w with drawn:=w.drawn+1}:=by
   conv=>arg 5;rw[e]
   exact key
  exact key'
 ·have hq2':∀j,j<l.length->(listed'.getD j M=U↔j∈F):=λj hj=>by rw[q2 j hj];simp
  have ok':zx1 l qs.length xd F:=by rw[hlen];exact ok
  refine ziP (P:=P) (C:=C) (bs:=bs) (H:=s.H) (T0:=s.T) (Q:=zcg Q) (ps:=qs) (l2:=l.drop n) (xd:=xd) (L0:=F) (l:=l) hl ok' (λi o v hi=>hq2 i o v hi) hal.1 hal.2 hend _ listed' a' _ q1 (λi hi=>(hq2' i<|by have:=hFn i hi;omega).2 hi) (λi hi=>?_) q3 ?_ ?_
  ·by_cases hil:i<l.length;·cases hb:listed'.getD i M with
    |false=>rfl|true=>have:=hFn i<|(hq2' i hil).1 hb;omega
   ·simp[y8,show listed'[i]?=Y by simp;omega]
  ·have hcnt:((xn qs.length).filter λi=>!listed'.getD i M).length=qs.length-F.length:=by
    have e1:((xn qs.length).filter λi=>!listed'.getD i M)=(xn qs.length).filter λi=>!F.contains i:=by
     refine List.filter_congr λi hi=>?_;have hi':=yU.1 hi;have:=hq2' i (by omega);cases hb:listed'.getD i M
     ·have hno:i∉F:=λh=>by rw[this.2 h]at hb;cases hb
      simp[hno]
     ·have hyes:=this.1 hb;simp[hyes]
    rw[e1];rw[hlen];omega
   rw[hcnt,hlen,ub];omega
  ·refine⟨λ_=>Y,?_,⟨λi b h=>(by cases h),λi o v t r h1 h2 _ _=>?_,λi j b h=>(by cases h),λi b h=>by cases h⟩,λi b h=>by cases h⟩;·exact q4.zvP (A:=(C.plus λ_=>Y).A0) (xz zg _) (λb _ hb=>hb.elim (λh=>h) λ⟨i,h⟩=>by cases h) λb hb=>hb.elim (q4.own.zu5 b) λ⟨i,h⟩=>by cases h
   ·have:=hnos o<|y7.2 ⟨(o,v),yC h1,rfl⟩;simp[zaq,h2]at this
end
section
structure GMap (κ β:Type)where
 es:List<|Nat×κ×β
 clock:Nat
 wf:wfM (es.map (·.1)) clock
theorem GMap.wfm {κ β}(m:GMap κ β):wfM (m.es.map (·.1)) m.clock:=m.wf
def GMap.empty {κ β:Type}:GMap κ β:=⟨[],0,⟨by simp,by simp⟩⟩
theorem zjl {κ β:Type}{es:List<|Nat×κ×β}{cl}(h:wfM (es.map (·.1)) cl)(i)(v):wfM ((es.modify i λe=>(e.1,e.2.1,v)).map (·.1)) cl:=by
 have e:(es.modify i λe=>(e.1,e.2.1,v)).map (·.1)=es.map (·.1):=by
  apply ua;grind
 grind
theorem zm8 {κ β:Type}{es}{cl}(h:wfM (es.map (·.1)) cl)(k:κ)(v:β):wfM ((es++[(cl,k,v)]).map (·.1))<|cl+1:=by
 simp only[un,yX,wz];refine⟨uU.2 ⟨h.nd,by simp,λa e b d=>?_⟩,λx c=>?_⟩;·simp only[yK]at d;subst d;exact Nat.ne_of_lt<|h.lt a e
 ·rcases yu.1 c with c|c;·exact Nat.lt_succ_of_lt<|h.lt x c
  grind
theorem zlc {κ β:Type}{es:List<|Nat×κ×β}{cl}(h:wfM (es.map (·.1)) cl)(i):wfM ((es.eraseIdx i).map (·.1)) cl:=by have a:((es.eraseIdx i).map (·.1)).Sublist<|es.map (·.1):=(List.eraseIdx_sublist es i).map _;exact⟨a.nodup h.nd,λx b=>h.lt x<|a.subset b⟩
def zvS {κ β:Type}[DecidableEq κ](k:κ):List (Nat×κ×β)->Option (Nat×β)|[]=>Y|e::es=>if k=e.2.1 then O (0,e.2.2)else(zvS k es).map λp=>(p.1+1,p.2)
def GMap.get? {κ β:Type}[DecidableEq κ](m:GMap κ β)(k:κ):Option β:=(zvS k m.es).map (·.2)
def GMap.put {κ β:Type}[DecidableEq κ](m:GMap κ β)(k:κ)(v:β):GMap κ β:=match zvS k m.es with|some (i,_)=>⟨m.es.modify i λe=>(e.1,e.2.1,v),m.clock,zjl m.wf i v⟩|none=>⟨m.es++[(m.clock,k,v)],m.clock+1,zm8 m.wf k v⟩
def GMap.del {κ β:Type}[DecidableEq κ](m:GMap κ β)(k:κ):GMap κ β:=match zvS k m.es with|some (i,_)=>⟨m.es.eraseIdx i,m.clock,zlc m.wf i⟩|none=>m
def GMap.blk {κ β:Type}(ke:κ->Value)(ve:β->D)(m:GMap κ β):Blk:=.mp (m.es.map (·.1)) (m.es.map λe=>ke e.2.1) (m.es.map λe=>ve e.2.2) m.clock
def GMap.dat {κ β:Type}(ke:κ->Value)(ve:β->D)(m:GMap κ β):D:=.mp (m.es.map λe=>ke e.2.1)<|m.es.map λe=>ve e.2.2
variable[zuV][Drw]
structure IsV (d:D)(v:Value):Prop where eq:∀(A:Nat->Prop)(w:World)(u:Value),d.rep A w u↔u=v
theorem IsV.val (v):IsV (.val v) v:=⟨λA w u=>by grind[xD]⟩
theorem IsV.struct (vs):IsV (zhX vs)<|.agg vs.toArray:=⟨λA w u=>⟨ze8,λh=>by
 subst h;refine⟨vs.toArray,rfl,?_⟩;induction vs with|nil=>simp[xv]|cons x xs ih=>simp only[yX,xv,xD];grind⟩⟩
theorem IsV.ev {A w bs H d v u}(h:IsV d v)(hu:xm A w bs H (.d d) u):u=v:=(h.eq A w u).1<|by grind[xm]
structure KeyT (P:Program)(kt:TypeId){κ:Type}[DecidableEq κ](ke:κ->Value):Prop where
 check:∀(b:Bool)(k:κ)(w:World),(Instr.checkKey b 10000 kt<|ke k).run P w=.ok () w
 find:∀{β:Type}(k:κ)(l:List<|Nat×κ×β)(es:List MapEntry)(w:World),es.map (·.key)=l.map (λe=>ke e.2.1)->(Instr.findKey kt (ke k) es).run P w=.ok ((zvS k l).bind λp=>es[p.1]?.map λe=>(p.1,e.val)) w
 bits:∀k:κ,Instr.sameBits 10000 (ke k) (ke k)=U
theorem zf3 {d}{k}:∀(es)(i),vu d k es i=(vu d k es 0).map λo=>o.map λp=>(p.1+i,p.2)
 |[],i=>by simp[vu]|e::es,i=>by
  simp only[vu];split;·simp
  ·rw[zf3 es<|i+1,zf3 es<|0+1];cases vu d k es 0 with|none=>rfl|some o=>cases o<;>simp;omega
  ·rfl
theorem zgz {κ β}[DecidableEq κ]{d}{ke:κ->Value}(hs:∀a b,Instr.sameNow d (ke a) (ke b)=O (Z<|a=b))(k):∀(l:List<|Nat×κ×β)(es),es.map (·.key)=l.map (λe=>ke e.2.1)->vu d (ke k) es 0=O ((zvS k l).bind λp=>es[p.1]?.map λe=>(p.1,e.val))
 |[],es,h=>by
  have:es=[]:=by simp_all
  grind[vu,zvS]|x::l,[],h=>by simp at h|x::l,e::es,h=>by
  simp only[yX,wy]at h;simp only[vu,h.1,hs,zvS];by_cases c:k=x.2.1;·simp[c]
  ·simp only[c];rw[zf3,zgz hs k l es h.2];cases zvS k l with|none=>simp|some p=>simp;rfl
theorem KeyT.str {P kt}(h:P.underlying kt=O .string):KeyT P kt λl:List UInt8=>wM ⟨l.toArray⟩where
 check b k w:=MapKept.run_checkKey h (k:=.string ⟨k.toArray⟩) trivial b 9999
 find k l e w c:=MapKept.run_findKey h<|zgz (d:=.string) (ke:=λl=>wM ⟨l.toArray⟩) (λa b=>by grind[Instr.sameNow,beq_toListBytes,zjh]) k l e c
 bits k:=by grind[Instr.sameBits,beq_toListBytes]
theorem KeyT.int {P kt}(h:P.underlying kt=O (.int .i64)):KeyT P kt λn=>wQ .i64 n where
 check b k w:=MapKept.run_checkKey h (k:=.int .i64 k) rfl b 9999
 find k l e w c:=MapKept.run_findKey h<|zgz (d:=.int .i64) (ke:=λn=>wQ .i64 n) (λa b=>by rfl) k l e c
 bits k:=by simp[Instr.sameBits]
theorem R.adoptK {C:Ctx}{A}{bs}{s}{a}{w}{b}{o}(k0)(h:R {C with A0:=λc=>A c\/c=b} bs s a w)(hb:w.heap[b]?=O o)(hA:¬A b)(hlo:C.w0.heap.size<=b)(hk0:k0.rep (Own A<|bs++[O b]) w (bs++[O b]) (s.H++[k0]) s.H.length):R {C with A0:=A} (bs++[O b]) ⟨s.T,s.H++[k0]⟩ a w:=by
 have hbl:=(yn.1 hb).1;have hnb:O b∉bs:=λhc=>h.own.not b hc<|.inr rfl;have hsub:∀c,c<w.heap.size->Own A (bs++[O b]) c->Own (λc=>A c\/c=b) bs c:=λc _ hc=>by
  rcases hc with hc|hc;·exact .inl<|.inl hc
  ·rcases yu.1 hc with hc|hc;·exact .inr hc
   ·simp only[yK,yo]at hc;exact .inl<|.inr hc
 have hlen:=h.len;refine⟨⟨λi j c hi hj=>?_,λc hc=>?_,λc hc=>?_,λc hc=>h.own.zu5 c<|.inl hc,h.own.glob.fr (xz zg w) (λ_ x=>x.elim) hsub⟩,by grind,λi k hk=>?_,λu v hv=>⟨(h.tmp u v hv).1,V.zvN hlen hsub v _ (h.tmp u v hv).2⟩,h.defers,h.size,h.fr,λc hc=>?_,λp hp=>⟨(h.gh p hp).1,V.zvN hlen hsub p.1 _ (h.gh p hp).2⟩⟩
 ·rcases uH i bs.length with hib|hib
  ·rw[yi hib]at hi;rcases uH j bs.length with hjb|hjb;·rw[yi hjb]at hj;exact h.own.apart i j c hi hj
   grind
  grind
 ·rcases yu.1 hc with hc|hc;·exactλhA'=>h.own.not c hc<|.inl hA'
  ·simp only[yK,yo]at hc;subst hc;exact hA
 ·rcases yu.1 hc with hc|hc;·exact h.own.lt c hc
  ·simp only[yK,yo]at hc;subst hc;exact hbl
 ·rcases uH i s.H.length with hi|hi;·simp only at hk;rw[yi hi]at hk;exact Blk.zvN hlen hsub i k<|h.blk i k hk
  ·simp only at hk;rw[yP hi]at hk;have e1:i-s.H.length=0:=by have:=(yd.1 hk).1;simp at this;omega
   have e2:i=s.H.length:=by omega
   rw[e1]at hk;simp at hk;subst hk;subst e2;exact hk0
 ·rcases yu.1 hc with hc|hc;·exact h.new c hc
  ·simp only[yK,yo]at hc;subst hc;exact .inr hlo
theorem R.newObj {C}{bs}{T}{H}{a}{w}(h:R C bs ⟨T,H⟩ a w)(o)(k)(hk:k.rep (Own C.A0<|bs++[O w.heap.size]) (w.alloc o) (bs++[O w.heap.size]) (H++[k]) H.length):R C (bs++[O w.heap.size]) ⟨T,H++[k]⟩ a<|w.alloc o:=by
 have f:Fr zg w<|w.alloc o:=⟨rfl,rfl,rfl,by simp,λb d _=>xE w _ b d,λ_=>yk _⟩;have i:¬C.A0 w.heap.size:=λj=>absurd (h.own.zu5 _ j)<|by omega
 have l:=h.zvP (A:=λc=>C.A0 c\/c=w.heap.size) f (λb d g=>g.elim id λe=>by omega) λb d=>by
   rcases d with d|rfl;·exact yD (h.own.zu5 b d) f.size
   ·simp
 exact R.adoptK (C:=C) k l (heap_alloc_new w _) i h.fr.size hk
section
variable{P:Program}{C:Ctx}{ops:Array Oper}{o:Oper}{rest:List Oper}{Q:Exit->St->Prop}{T:List<|Nat×V}{H:List Blk}{κ β:Type}[DecidableEq κ]{ke:κ->Value}{ve:β->D}
theorem TriL.makeMap {t}{d:Nat}(ke:κ->Value)(ve:β->D)(hg:o.guard=Y)(ho:o.op=.makeMap t Y)(hd:o.dst=O d)(hdn:xA d C.n=U)(kk:TriL P C ops rest Q ⟨(d,.mp H.length)::T,H++[GMap.blk ke ve GMap.empty]⟩):TriL P C ops (o::rest) Q ⟨T,H⟩:=by
 refine wI hg (λg a w c=>?_) kk;have b:(execOp a.eval o).run P w=.ok (.value<|.map<|O w.heap.size) (w.alloc<|.map #[] 0):=by simp only[execOp,ho,vI,xr,run_makeMap,xi,xt]
 refine⟨_,_,g++[O w.heap.size],b,.inl ⟨_,rfl,?_⟩⟩;have e:=c.len;have f:=c.newObj (.map #[] 0) (GMap.blk ke ve GMap.empty)<|by grind[GMap.blk,GMap.empty,xL,heap_alloc_new,xv]
 have:=f.put (xz _ _) (O d) (by grind[zvk]) (v:=.mp H.length) (u:=.map<|O w.heap.size)<|by
  simp only[xm];simp only[uw,yS,GMap.blk];grind
 rw[hd];exact this
theorem zfI:∀{l}{k:κ}{i}{v:β},zvS k l=O (i,v)->∃b,l[i]?=O (b,k,v)
 |[],_,_,_,h=>by grind[zvS]|e::l,k,i,v,h=>by
  simp only[zvS]at h;split at h;·grind
  ·cases a:zvS k l with
   |none=>grind|some p=>
    simp only[a]at h;obtain⟨b,c⟩:=zfI a;grind
theorem zpz {A w d v}(hv:d.rep A w v):∀{ds}{vs}(i),xv A w ds vs->xv A w (ds.set i d) (vs.set i v)
 |[],vs,i,h=>by grind[xv]|x::ds,vs,0,h=>by
  obtain⟨u,c,rfl,b,a⟩:=h;simp only[wP,xv];grind|x::ds,vs,i+1,h=>by obtain⟨u,c,rfl,b,a⟩:=h;exact⟨u,_,rfl,b,zpz hv i a⟩
theorem zlZ {A w}:∀{ds}{vs}(i),xv A w ds vs->xv A w (ds.eraseIdx i) (vs.eraseIdx i)
 |[],vs,i,h=>by grind[xv]|x::ds,vs,0,h=>by
  simp only[xv]at h;grind|x::ds,vs,i+1,h=>by obtain⟨u,c,rfl,b,a⟩:=h;exact⟨u,_,rfl,b,zlZ i a⟩
theorem R.zx8 {bs a w i b}{m m'}(h:R C bs ⟨T,H⟩ a w)(hi:H[i]?=O (GMap.blk ke ve m))(hb:bs[i]?=O (O b)){es es' cl}(hh:w.heap[b]?=O (.map es cl))(h1:es'.toList.map (·.born)=m'.es.map (·.1))(h2:es'.toList.map (·.key)=m'.es.map λe=>ke e.2.1)(h3:xv (Own C.A0 bs) w (m'.es.map λe=>ve e.2.2)<|es'.toList.map (·.val)):R C bs ⟨T,H.set i<|GMap.blk ke ve m'⟩ a {w with heap:=w.heap.setIfInBounds b<|.map es' m'.clock}:=by
 have f:Fr (λc=>O b=O c) w {w with heap:=w.heap.setIfInBounds b<|.map es' m'.clock}:=⟨rfl,rfl,rfl,by simp,λc _ l=>by grind,λ_=>yk _⟩;have d:bs.set i (O b)=bs:=by
  refine ua λq=>?_;grind
 have g:∀c,O b=O c->Own C.A0 bs c:=λc k=>.inr<|by grind
 have j:=R.upd (y:=GMap.blk ke ve m') (c':=O b) h hi hb (by simp[GMap.blk,Compat]) f (.inl rfl)<|by refine⟨b,es',by grind,by grind,h1,h2,?_⟩;rw[d];exact D.zvs f g (λc _ k=>k) _ _ h3
 grind
theorem R.mapAt {bs a w i}{m}{v}(h:R C bs ⟨T,H⟩ a w)(hi:H[i]?=O (GMap.blk ke ve m))(hv:xm (Own C.A0 bs) w bs H (.mp i) v):∃b es,bs[i]?=O (O b)/\v=.map (O b)/\w.heap[b]?=O (.map es m.clock)/\es.toList.map (·.born)=m.es.map (·.1)/\es.toList.map (·.key)=m.es.map (λe=>ke e.2.1)/\xv (Own C.A0 bs) w (m.es.map λe=>ve e.2.2) (es.toList.map (·.val)):=by
 have c:=h.blk i _ hi;obtain⟨b,es,f,g,j,k,d⟩:=c;simp only[xm,hi,GMap.blk]at hv;grind
theorem TriL.zzy {t kt et x y z i}{m}{k}{dk}{v}(hg:o.guard=Y)(ho:o.op=.mapUpdate t x y z\/o.op=.insert t x y z)(hd:o.dst=Y)(ht:P.underlying t=O (.map kt et))(hK:KeyT P kt ke)(hx:ev T x=O (.mp i))(hi:H[i]?=O (GMap.blk ke ve m))(hy:ev T y=O (.d dk))(hz:ev T z=O (.d<|ve v))(kk:TriL P C ops rest Q ⟨T,H.set i<|GMap.blk ke ve<|m.put k v⟩)(hkd:IsV dk<|ke k:=by exact .val _):TriL P C ops (o::rest) Q ⟨T,H⟩:=by
 refine wI hg (λbs a w hR=>?_) kk;obtain⟨b,es,h1,h2,h3,h4,h5,h6⟩:=hR.mapAt hi<|hR.ev hx;have e2:=hkd.ev<|hR.ev hy;have e3:=hR.ev hz;simp only[xm]at e3;have hlen:es.toList.length=m.es.length:=by have:=congrArg xh h4;grind
 have hfind:=hK.find k m.es es.toList w h5;cases hf:zvS k m.es with
 |none=>
  simp only[hf,uY]at hfind;have hrun:(execOp a.eval o).run P w=.ok .skip {w with heap:=w.heap.setIfInBounds b<|.map (es.push {key:=ke k,val:=a.eval z,born:=m.clock})<|m.clock+1}:=by rcases ho with ho|ho<;>simp only[execOp,ho,h2,e2,Instr.mapUpdate,xr,run_underlying ht,wl h3,hK.check,hfind,vE _ h3,xi,xt]
  have hput:m.put k v=⟨m.es++[(m.clock,k,v)],m.clock+1,zm8 m.wf k v⟩:=by grind[GMap.put]
  refine⟨_,_,bs,hrun,.inr ⟨rfl,?_⟩⟩;rw[hd,hput];exact R.zx8 (m':=⟨m.es++[(m.clock,k,v)],m.clock+1,zm8 m.wf k v⟩) hR hi h1 h3 (by simp[h4]) (by simp[h5])<|by simp only[un,yX,wz,Array.toList_push];exact D.zvo h6<|by simp only[xv];grind|some p=>
  obtain⟨j,u⟩:=p;obtain⟨bj,hj⟩:=zfI hf;have hjl:j<es.toList.length:=by rw[hlen];exact(yd.1 hj).1
  have hje:es[j]?=O es[j]:=um (by simpa using hjl);have hjk:es[j].key=ke k:=by have h:=congrArg (λl=>l[j]?) h5;simp only[y6,hj,y0,hje,yQ,yo]at h;exact h
  simp only[hf,ya,y0,hje,yQ]at hfind;have hrun:(execOp a.eval o).run P w=.ok .skip {w with heap:=w.heap.setIfInBounds b<|.map (es.modify j λe=>{e with key:=ke k,val:=a.eval z}) m.clock}:=by rcases ho with ho|ho<;>simp only[execOp,ho,h2,e2,Instr.mapUpdate,xr,run_underlying ht,wl h3,hK.check,hfind,xi,xt,hje,yQ,yj,hjk,Instr.keyThatStays,hK.bits,if_true,vE _ h3]
  have hput:m.put k v=⟨m.es.modify j λe=>(e.1,e.2.1,v),m.clock,zjl m.wf j v⟩:=by simp[GMap.put,hf]
  refine⟨_,_,bs,hrun,.inr ⟨rfl,?_⟩⟩;rw[hd,hput];have hmod:∀{α γ:Type}(l:List α)(f:α->α)(g:α->γ)(n:Nat),(∀x,l[n]?=O x->g (f x)=g x)->(l.modify n f).map g=l.map g:=by
   intro α γ l f g n hfg;refine ua λq=>?_;simp only[y6,List.getElem?_modify];by_cases hq:n=q;·subst hq;cases hl:l[n]? with
    |none=>simp|some x=>simp[hfg x hl]
   ·simp[hq]
  have hmods:∀{α γ:Type}(l:List α)(f:α->α)(g:α->γ)(n:Nat)(c:γ),(∀x,l[n]?=O x->g (f x)=c)->(l.modify n f).map g=(l.map g).set n c:=by
   intro α γ l f g n c hfg;refine ua λq=>?_;simp only[y6,List.getElem?_modify,List.getElem?_set,yL];by_cases hq:n=q;·subst hq;cases hl:l[n]? with|none=>have:=List.getElem?_eq_none_iff.1 hl;simp;omega|some x=>have:=(yd.1 hl).1;simp[hfg x hl,this]
   ·simp[hq]
  exact R.zx8 (m':=⟨m.es.modify j λe=>(e.1,e.2.1,v),m.clock,zjl m.wf j v⟩) hR hi h1 h3 (by rw[tc];exact(hmod es.toList (λe=>{e with key:=ke k,val:=a.eval z}) (·.born) j λ_ _=>rfl).trans<|h4.trans (hmod m.es (λe=>(e.1,e.2.1,v)) (·.1) j λ_ _=>rfl).symm) (by rw[tc];exact(hmod es.toList (λe=>{e with key:=ke k,val:=a.eval z}) (·.key) j λx hx=>by rw[y0,hje]at hx;cases hx;exact hjk.symm).trans<|h5.trans (hmod m.es (λe=>(e.1,e.2.1,v)) (λe=>ke e.2.1) j λ_ _=>rfl).symm)<|by rw[tc,hmods es.toList (λe=>{e with key:=ke k,val:=a.eval z}) (·.val) j (a.eval z) λ_ _=>rfl,hmods m.es (λe=>(e.1,e.2.1,v)) (λe=>ve e.2.2) j (ve v) λ_ _=>rfl];exact zpz e3 j h6
theorem TriL.mapPut {t kt et x y z i}{m}{k}{dk}{v}(hg:o.guard=Y)(ho:o.op=.mapUpdate t x y z)(hd:o.dst=Y)(ht:P.underlying t=O (.map kt et))(hK:KeyT P kt ke)(hx:ev T x=O (.mp i))(hi:H[i]?=O (GMap.blk ke ve m))(hy:ev T y=O (.d dk))(hz:ev T z=O (.d<|ve v))(kk:TriL P C ops rest Q ⟨T,H.set i<|GMap.blk ke ve<|m.put k v⟩)(hkd:IsV dk<|ke k:=by exact .val _):TriL P C ops (o::rest) Q ⟨T,H⟩:=.zzy hg (.inl ho) hd ht hK hx hi hy hz kk hkd
theorem TriL.zyT {t kt et x y z i}{m}{k}{dk}{v}(hg:o.guard=Y)(ho:o.op=.insert t x y z)(hd:o.dst=Y)(ht:P.underlying t=O (.map kt et))(hK:KeyT P kt ke)(hx:ev T x=O (.mp i))(hi:H[i]?=O (GMap.blk ke ve m))(hy:ev T y=O (.d dk))(hz:ev T z=O (.d<|ve v))(kk:TriL P C ops rest Q ⟨T,H.set i<|GMap.blk ke ve<|m.put k v⟩)(hkd:IsV dk<|ke k:=by exact .val _):TriL P C ops (o::rest) Q ⟨T,H⟩:=.zzy hg (.inr ho) hd ht hK hx hi hy hz kk hkd
theorem TriL.mapDel {t kt et kt' x y i}{m}{k}{dk}(hg:o.guard=Y)(ho:o.op=.call {callee:=.builtin .delete,args:=#[x,y],argTypes:=#[t,kt']})(hd:o.dst=Y)(ht:P.underlying t=O (.map kt et))(hK:KeyT P kt ke)(hx:ev T x=O (.mp i))(hi:H[i]?=O (GMap.blk ke ve m))(hy:ev T y=O (.d dk))(kk:TriL P C ops rest Q ⟨T,H.set i<|GMap.blk ke ve<|m.del k⟩)(hkd:IsV dk<|ke k:=by exact .val _):TriL P C ops (o::rest) Q ⟨T,H⟩:=by
 refine wI hg (λbs a w hR=>?_) kk;obtain⟨b,es,h1,h2,h3,h4,h5,h6⟩:=hR.mapAt hi<|hR.ev hx;have e2:=hkd.ev<|hR.ev hy;have hlen:es.toList.length=m.es.length:=by have:=congrArg xh h4;grind
 have hfind:=hK.find k m.es es.toList w h5;cases hf:zvS k m.es with
 |none=>
  simp only[hf,uY]at hfind;have hrun:(execOp a.eval o).run P w=.ok (.value<|.tuple #[]) {w with heap:=w.heap.setIfInBounds b<|.map es m.clock}:=by simp[execOp,ho,resolve,invoke,builtin,Builtin.delete_,h2,e2,run_underlying ht,wl h3,hK.check,hfind,vE _ h3]
  have hput:m.del k=m:=by grind[GMap.del]
  refine⟨_,_,bs,hrun,.inl ⟨_,rfl,?_⟩⟩;rw[hd,hput];exact R.zx8 (m':=m) hR hi h1 h3 h4 h5 h6|some p=>
  obtain⟨j,u⟩:=p;obtain⟨bj,hj⟩:=zfI hf;have hjl:j<es.toList.length:=by rw[hlen];exact(yd.1 hj).1
  have hje:es[j]?=O es[j]:=um (by simpa using hjl);simp only[hf,ya,y0,hje,yQ]at hfind;have hrun:(execOp a.eval o).run P w=.ok (.value<|.tuple #[]) {w with heap:=w.heap.setIfInBounds b<|.map (es.eraseIdxIfInBounds j) m.clock}:=by simp[execOp,ho,resolve,invoke,builtin,Builtin.delete_,h2,e2,run_underlying ht,wl h3,hK.check,hfind,vE _ h3]
  have hput:m.del k=⟨m.es.eraseIdx j,m.clock,zlc m.wf j⟩:=by simp[GMap.del,hf]
  have hto:(es.eraseIdxIfInBounds j).toList=es.toList.eraseIdx j:=by unfold Array.eraseIdxIfInBounds;rw[dif_pos<|by simpa using hjl,Array.toList_eraseIdx]
  have hmap:∀{α γ:Type}(l:List α)(g:α->γ),(l.eraseIdx j).map g=(l.map g).eraseIdx j:=λl g=>by rw[List.eraseIdx_eq_take_drop_succ,List.eraseIdx_eq_take_drop_succ,un,List.map_take,List.map_drop]
  refine⟨_,_,bs,hrun,.inl ⟨_,rfl,?_⟩⟩;rw[hd,hput];exact R.zx8 (m':=⟨m.es.eraseIdx j,m.clock,zlc m.wf j⟩) hR hi h1 h3 (by rw[hto,hmap,hmap,h4]) (by rw[hto,hmap,hmap,h5])<|by rw[hto,hmap,hmap];exact zlZ j h6
variable{e:Operand->Option V}
theorem OpV.zyS {t kt et x y i}{m}{k}{dk}{z}(ho:o.op=.lookup t x y M)(ht:P.underlying t=O (.map kt et))(hK:KeyT P kt ke)(hx:e x=O (.mp i))(hi:H[i]?=O (GMap.blk ke ve m))(hy:e y=O (.d dk))(hz:zwI P et<|ve z)(hkd:IsV dk<|ke k:=by exact .val _):OpV P o e H<|.d<|ve<|(m.get? k).getD z:=.of_same λA0 bs w f mm hf=>by
  have h0:=hf x (by grind[xk]) _ hx;have e2:=hkd.ev<|hf y (by grind[xk]) _ hy;have hblk:=mm.blk i _ hi;simp only[GMap.blk,xL]at hblk;obtain⟨b,es,h1,h3,h4,h5,h6⟩:=hblk;simp only[xm,hi,GMap.blk]at h0;obtain⟨b',hb',h2⟩:=h0;obtain rfl:b=b':=by grind
  have hlen:es.toList.length=m.es.length:=by have:=congrArg xh h4;grind
  have hfind:=hK.find k m.es es.toList w h5;obtain⟨zv,hz1,hz2⟩:=hz.out;have hzr:(zeroValue et).run P w=.ok zv w:=by unfold zbS at hz1;cases hi:P.info? et with
   |none=>simp_all|some inf=>simp only[hi]at hz1;simp[zeroValue,typeInfo,hi,hz1]
  cases hf:zvS k m.es with
  |none=>simp only[hf,uY]at hfind;refine⟨zv,by simp[execOp,ho,h2,e2,Instr.lookup,run_underlying ht,wl h3,hK.check,hfind,hzr],?_⟩;simp only[xm,GMap.get?,hf,vI,Option.getD_none];simp_all|some p=>
   obtain⟨j,u⟩:=p;obtain⟨bj,hj⟩:=zfI hf;have hjl:j<es.toList.length:=by rw[hlen];exact(yd.1 hj).1
   have hje:es[j]?=O es[j]:=um (by simpa using hjl);simp only[hf,ya,y0,hje,yQ]at hfind;refine⟨es[j].val,by simp[execOp,ho,h2,e2,Instr.lookup,run_underlying ht,wl h3,hK.check,hfind],?_⟩;simp only[xm,GMap.get?,hf,yQ,yj];obtain⟨v,g1,g2⟩:=D.zvF h6 j (ve u) (by simp[y6,hj]);simp only[y6,y0,hje,yQ,yo]at g1;rw[g1];exact g2
theorem OpV.zzx {t kt et x y}{m}{k}{dk}{z}(ho:o.op=.lookup t x y M)(ht:P.underlying t=O (.map kt et))(hK:KeyT P kt ke)(hx:e x=O (.d<|GMap.dat ke ve m))(hy:e y=O (.d dk))(hz:zwI P et<|ve z)(hkd:IsV dk<|ke k:=by exact .val _):OpV P o e H<|.d<|ve<|(m.get? k).getD z:=.of_same λA0 bs w f mm hf=>by
  have h0:=hf x (by grind[xk]) _ hx;have e2:=hkd.ev<|hf y (by grind[xk]) _ hy;simp only[xm,GMap.dat,xD]at h0;obtain⟨b,es,cl,h2,_,_,h3,h5,_,h6⟩:=h0;have hlen:es.toList.length=m.es.length:=by have:=congrArg xh h5;grind
  have hfind:=hK.find k m.es es.toList w h5;obtain⟨zv,hz1,hz2⟩:=hz.out;have hzr:(zeroValue et).run P w=.ok zv w:=by unfold zbS at hz1;cases hi:P.info? et with
   |none=>grind|some inf=>simp only[hi]at hz1;simp[zeroValue,typeInfo,hi,hz1]
  cases hf:zvS k m.es with
  |none=>
   simp only[hf,uY]at hfind;refine⟨zv,by simp[execOp,ho,h2,e2,Instr.lookup,run_underlying ht,wl h3,hK.check,hfind,hzr],?_⟩;simp only[xm,GMap.get?,hf,vI,Option.getD_none];grind|some p=>
   obtain⟨j,u⟩:=p;obtain⟨bj,hj⟩:=zfI hf;have hjl:j<es.toList.length:=by rw[hlen];exact(yd.1 hj).1
   have hje:es[j]?=O es[j]:=um (by simpa using hjl);simp only[hf,ya,y0,hje,yQ]at hfind;refine⟨es[j].val,by simp[execOp,ho,h2,e2,Instr.lookup,run_underlying ht,wl h3,hK.check,hfind],?_⟩;simp only[xm,GMap.get?,hf,yQ,yj];obtain⟨v,g1,g2⟩:=D.zvF h6 j (ve u) (by simp[y6,hj]);simp only[y6,y0,hje,yQ,yo]at g1;rw[g1];exact g2
theorem OpV.mapLen {t kt et x i}{m}(ho:o.op=.call {callee:=.builtin .len,args:=#[x],argTypes:=#[t]})(ht:P.underlying t=O (.map kt et))(hx:e x=O (.mp i))(hi:H[i]?=O (GMap.blk ke ve m)):OpV P o e H<|.d<|.int (m.es.length:Int):=.of_same λs v w f j k=>by
  have g:=k x (by grind[xk,xW]) _ hx;have a:=j.blk i _ hi;obtain⟨b,h,y,n,p,z,u⟩:=a;simp only[xm,hi]at g;obtain⟨l,q,r⟩:=g;obtain rfl:b=l:=by grind
  have c:h.size=m.es.length:=by have:=congrArg xh p;grind
  refine⟨.int .i64 m.es.length,by simp[execOp,ho,resolve,invoke,builtin,tf,r,run_underlying ht,wl n,goInt,c],zt.2 rfl⟩
theorem TriL.mapRange {t kt et}{x}{i d:Nat}{m}(hg:o.guard=Y)(ho:o.op=.range t x)(hd:o.dst=O d)(hdn:xA d C.n=U)(ht:P.underlying t=O (.map kt et))(hx:ev T x=O (.mp i))(hi:H[i]?=O (GMap.blk ke ve m))(kk:TriL P C ops rest Q ⟨(d,.itp H.length)::T,H++[.it i m.clock [] m.clock]⟩):TriL P C ops (o::rest) Q ⟨T,H⟩:=by
 refine wI hg (λbs a w hR=>?_) kk;obtain⟨b,es,h1,h2,h3,_⟩:=hR.mapAt hi<|hR.ev hx;have hrun:(execOp a.eval o).run P w=.ok (.value<|.pointer<|O ⟨w.heap.size,0,Y⟩) (w.alloc<|.mapIter (O b) m.clock #[] m.clock):=by simp only[execOp,ho,h2,xr,run_range_map w t kt et b es m.clock ht h3,xi,xt]
 refine⟨_,_,bs++[O w.heap.size],hrun,.inl ⟨_,rfl,?_⟩⟩;have hlen:=hR.len;have h2:=hR.newObj (.mapIter (O b) m.clock #[] m.clock) (.it i m.clock [] m.clock)<|by grind[xL,vf,GMap.blk,heap_alloc_new]
 have:=h2.put (xz _ _) (O d) (by grind[zvk]) (v:=.itp H.length) (u:=.pointer<|O ⟨w.heap.size,0,Y⟩)<|by simp only[xm];simp_all
 rw[hd];exact this
def GMap.left {κ β:Type}(m:GMap κ β)(seen:List Nat):List<|Nat×κ×β:=m.es.filter λe=>!seen.contains e.1
def GMap.old {κ β:Type}(m:GMap κ β)(since last:Nat):Bool:=m.es.all (λe=>Z<|e.1<since)&&Z (since<=last)
theorem zkC (es)(seen:List Nat):(leftOf es seen.toArray).toList=es.toList.filter λe=>!seen.contains e.born:=by simp[leftOf]
theorem TriL.mapNext {x}{i j d since last:Nat}{seen}{m}(hg:o.guard=Y)(ho:o.op=.next x M)(hd:o.dst=O d)(hdn:xA d C.n=U)(hx:ev T x=O (.itp i))(hi:H[i]?=O (.it j since seen last))(hj:H[j]?=O (GMap.blk ke ve m))(hc:m.old since last=U)(hend:m.left seen=[]->TriL P C ops rest Q ⟨(d,.d<|.tup [.bool M])::T,H⟩)(hstep:∀e∈m.left seen,TriL P C ops rest Q ⟨(d,.d<|.tup [.bool U,.val<|ke e.2.1,ve e.2.2])::T,H.set i<|.it j since (seen++[e.1]) m.clock⟩):TriL P C ops (o::rest) Q ⟨T,H⟩:=by
 refine⟨λbs a w hR=>wpList_plain hg λK hK=>?_⟩;have h0:=hR.ev hx;have hbi:=hR.blk i _ hi;have hbj:=hR.blk j _ hj;simp only[GMap.blk,xL]at hbj;obtain⟨bm,es,g1,g2,g3,g4,g5⟩:=hbj;simp only[xL,hj,GMap.blk]at hbi;obtain⟨b,bm',k1,k2,k3⟩:=hbi;obtain rfl:bm=bm':=by grind
 simp only[xm,hi]at h0;obtain⟨b',hb',h2⟩:=h0;obtain rfl:b=b':=by grind
 simp only[GMap.old,yc,yq,yf]at hc;have hlen:es.toList.length=m.es.length:=by have:=congrArg xh g3;grind
 have hget:∀(q:Nat)(y:MapEntry),es.toList[q]?=O y->∃e,m.es[q]?=O e/\e.1=y.born/\ke e.2.1=y.key:=by
  intro q y hy;have hq:q<m.es.length:=by grind
  refine⟨m.es[q],yB hq,?_,?_⟩;·have h:=congrArg (λl=>l[q]?) g3;grind[List.getElem?_eq_getElem,Option.some.injEq]
  ·have h:=congrArg (λl=>l[q]?) g4;simp only[y6,hy,yB hq,yQ,yo]at h;exact h.symm
 have hnext:=run_next_at (P:=P) w o.type b bm since last seen.toArray es m.clock k3 g2 (λy hy=>by obtain⟨q,hq⟩:=wU hy;obtain⟨e,he,h1,_⟩:=hget q y hq;rw[<-h1];exact hc.1 e<|yC he) hc.2;unfold vo;have hex:(execOp a.eval o).run P w=((Instr.next (.pointer<|O ⟨b,0,Y⟩) M o.type).run P w).andThen λv w'=>.ok (.value v) w':=by simp only[execOp,ho,h2,xr,xt]
 rw[hex];rcases hnext with⟨hz,hrun⟩|⟨y,hy,w1,hw1,hrun⟩
 ·rw[hrun];simp only[xi,va];refine hK _ _<|(hend ?_).run bs _ _ ?_
  ·have hl0:(leftOf es seen.toArray).toList=[]:=yY (by simpa using hz);rw[zkC]at hl0;rw[GMap.left,List.filter_eq_nil_iff];intro e he;obtain⟨q,hq⟩:=wU he;have hq2:q<es.toList.length:=by rw[hlen];exact(yd.1 hq).1
   obtain⟨e',he',h1,_⟩:=hget q es.toList[q]<|yB hq2;rw[hq]at he';cases he';have:=(List.filter_eq_nil_iff.1 hl0) es.toList[q]<|yg hq2;rw[<-h1]at this;exact this
  ·have:=hR.put (xz _ _) (O d) (by simpa[zvk]using hdn) (v:=.d<|.tup [.bool M]) (u:=.tuple #[.bool M]) (by simp only[xm,xD];exact⟨#[.bool M],rfl,by simp[xv,xD]⟩);rw[hd];exact this
 ·rw[hrun];simp only[xi,va];rw[zkC]at hy;obtain⟨hy1,hy2⟩:=List.mem_filter.1 hy;obtain⟨q,hq⟩:=wU hy1;obtain⟨e,he,h1,h3⟩:=hget q y hq;have hmem:e∈m.left seen:=List.mem_filter.2 ⟨yC he,by rw[h1];exact hy2⟩;refine hK _ _<|(hstep e hmem).run bs _ _ ?_;have hR1:R C bs ⟨T,H⟩ a w1:=by
   rcases hw1 with rfl|rfl;·exact hR
   ·exact hR.drew
  have hheap:w1.heap=w.heap:=by rcases hw1 with rfl|rfl<;>rfl
  have hlt:b<w1.heap.size:=by rw[hheap];exact(yn.1 k3).1
  have hfr:Fr (λc=>O b=O c) w1<|vx w1 b<|.mapIter (O bm) since (seen.toArray.push y.born) m.clock:=⟨rfl,rfl,rfl,by simp[vx],λc _ hno=>by simp[vx,Array.getElem?_setIfInBounds_ne λe:b=c=>hno<|by rw[e]],λ_=>yk _⟩;have hset:bs.set i (O b)=bs:=by
   refine ua λq=>?_;by_cases hij:i=q;·subst hij;rw[yy (yd.1 k1).1,k1]
   ·rw[yx hij]
  have hij:i≠j:=λh=>by subst h;rw[hi]at hj;simp[GMap.blk]at hj
  have hupd:=R.upd (y:=.it j since (seen++[e.1]) m.clock) (c':=O b) hR1 hi k1 (by simp[Compat]) hfr (.inl rfl)<|by simp only[xL];rw[yx hij,hj];simp only[GMap.blk];exact⟨b,bm,by rw[hset];exact k1,by rw[hset];exact g1,by simp[vx,hlt,h1]⟩
  rw[hset]at hupd;have hval:xD (Own C.A0 bs) (vx w1 b<|.mapIter (O bm) since (seen.toArray.push y.born) m.clock) (ve e.2.2) y.val:=by
   obtain⟨v,f1,f2⟩:=D.zvF g5 q (ve e.2.2) (by simp[y6,he]);simp only[y6,hq,yQ,yo]at f1;rw[f1];have hfr0:Fr zg w w1:=by
    rcases hw1 with rfl|rfl;·exact xz _ _
    ·exact(xz zg w).drew
   exact D.zvU (W:=λc=>O b=O c) hfr (λc hc=>.inr<|by rw[<-hc];exact yC k1) (λ_ _ h=>h) _ _<|D.zwr hfr0 f2
  have:=hupd.put (xz _ _) (O d) (by simpa[zvk]using hdn) (v:=.d<|.tup [.bool U,.val<|ke e.2.1,ve e.2.2]) (u:=.tuple #[.bool U,y.key,y.val])<|by simp only[xm,xD];exact⟨_,rfl,by simp only[xv,xD];exact⟨_,_,rfl,rfl,_,_,rfl,h3.symm,_,[],rfl,hval,rfl⟩⟩
  rw[hd];exact this
theorem OpV.entry {x i j since seen}{m}{en}(ho:o.op=.entry x)(hx:e x=O (.itp i))(hi:H[i]?=O (.it j since (seen++[en.1]) m.clock))(hj:H[j]?=O (GMap.blk ke ve m))(he:en∈m.es)(hn:(m.es.map (·.1)).Nodup):OpV P o e H<|.d<|.tup [.val<|ke en.2.1,ve en.2.2]:=.of_same λA0 bs w f mm hf=>by
  have h0:=hf x (by grind[xk]) _ hx;have hbi:=mm.blk i _ hi;have hbj:=mm.blk j _ hj;simp only[GMap.blk,xL]at hbj;obtain⟨bm,es,g1,g2,g3,g4,g5⟩:=hbj;simp only[xL,hj,GMap.blk]at hbi;obtain⟨b,bm',k1,k2,k3⟩:=hbi;obtain rfl:bm=bm':=by grind
  simp only[xm,hi]at h0;obtain⟨b',hb',h2⟩:=h0;obtain rfl:b=b':=by grind
  obtain⟨q,hq⟩:=wU he;have hlen:es.toList.length=m.es.length:=by have:=congrArg xh g3;grind
  have hql:q<es.toList.length:=by grind
  have hqe:=yB hql;have h1:es.toList[q].born=en.1:=by have h:=congrArg (λl=>l[q]?) g3;simpa only[y6,hq,hqe,yQ,yo]using h
  have h3:es.toList[q].key=ke en.2.1:=by
   have h:=congrArg (λl=>l[q]?) g4;grind
  have hent:=run_entry_at (P:=P) w b bm since seen.toArray es m.clock es.toList[q] (by rw[k3,h1];simp) g2 (yg hql) (by rw[g3];exact hn);obtain⟨v,f1,f2⟩:=D.zvF g5 q (ve en.2.2) (by simp[y6,hq]);simp only[y6,hqe,yQ,yo]at f1;refine⟨.tuple #[es.toList[q].key,es.toList[q].val],by simp only[execOp,ho,h2,xr,hent,xi,xt],?_⟩;simp only[xm,xD];exact⟨_,rfl,by simp only[xv,xD];exact⟨_,_,rfl,h3,_,[],rfl,by rw[f1];exact f2,rfl⟩⟩
noncomputable def zgt {α R:Type}(l:List α)(k:α->Option R):Option R:=open Classical in match l with|[]=>Y|a::l=>if∀b∈a::l,k b=k a then k a else Y
theorem zmn {α R}{l}{k:α->Option R}{r}(h:zgt l k=O r):∀a∈l,k a=O r:=by
 unfold zgt at h;grind
theorem zmm {α R}{l}{k:α->Option R}{r}(hne:l≠[])(h:∀a∈l,k a=O r):zgt l k=O r:=by
 unfold zgt;grind
noncomputable def stepM {κ β R:Type}(m:GMap κ β)(seen:List Nat)(since last:Nat)(over:Option R)(k:Nat×κ×β->Option R):Option R:=grd (m.old since last)<|if(m.left seen).isEmpty=U then over else zgt (m.left seen) k
theorem ztP {κ β R}{m}{seen}{since last}{over}{k:Nat×κ×β->Option R}{r}(h:stepM m seen since last over k=O r):m.old since last=U/\(m.left seen=[]->over=O r)/\∀e∈m.left seen,k e=O r:=by
 obtain⟨a,c⟩:=grdS h;refine⟨a,λd=>by grind,λe b=>?_⟩;grind[zmn]
def evsV (e:Operand->Option V):List Operand->Option (List V)|[]=>O []|x::xs=>match e x,evsV e xs with|some v,O vs=>O<|v::vs|_,_=>Y
theorem zib {A w bs f e}:∀{xs}{vs},evsV e xs=O vs->(∀x∈xs,∀y,e x=O y->xm A w bs H y (f x))->xF A w bs H vs (xs.map f)
 |[],vs,h,_=>by grind[evsV,xF]|x::xs,vs,h,a=>by
  simp only[evsV]at h;split at h;·rename_i v c d g;cases h;exact⟨_,_,rfl,a x (by simp) _ d,zib g λy b=>a y<|by simp[b]⟩
  grind
theorem OpV.zwF {g cs vs}(ho:o.op=.makeFunc (.func g) #[] cs)(hc:evsV e cs.toList=O vs):OpV P o e H<|.fn (.func g) [] vs:=.of_same λb bs w f _ a=>by refine⟨.func (.func g) #[]<|cs.map f,by simp[execOp,ho,Instr.makeFunc],?_⟩;refine⟨#[],cs.map f,rfl,by simp[xF],?_⟩;have:=zib (A:=Own b bs) (w:=w) (bs:=bs) (H:=H) (f:=f) hc λx c=>a x (by grind[xk]);simp_all
omit[DecidableEq κ]in
theorem Tri.zzi {s c x y}(hc:ev s.T c=O (.d<|.bool U))(h:Tri P C x Q s):Tri P C (.cond c x y) Q s:=Tri.cond hc (λ_=>h) λh=>by cases h
omit[DecidableEq κ]in
theorem Tri.zzh {s c x y}(hc:ev s.T c=O (.d<|.bool M))(h:Tri P C y Q s):Tri P C (.cond c x y) Q s:=Tri.cond hc (λh=>by cases h) λ_=>h
end
end
section
variable[zuV][Drw]
def zh3 (P:Program)(f:FuncId):Code:=match P.funcs[f]? with|some fn=>fn.body.getD .skip|none=>.skip
theorem zcY {P f fn c}(hf:P.funcs[f]?=O fn)(hb:fn.body=O c):zh3 P f=c:=by grind[zh3]
theorem zgY {P n ops}{Q0 Q'}(hno:∀e a w,Q0 e a w->e=.normal){post}(hk:∀a w,Q0 .normal a w->wpListIn xP n P ops Q' post a w):∀(pre)(a)(w),wpList P ops Q0 pre a w->wpListIn xP n P ops Q' (pre++post) a w
 |[],a,w,h=>hk a w h|o::pre,a,w,h=>by
  simp only[wpList]at h;simp only[uu,wpListIn];split<;>rename_i j
  ·rw[if_pos j]at h;rcases h with h|⟨_,l,w',h⟩;·refine⟨λf _=>trivial,?_⟩;unfold vo at h;have m:o.semAt Fence.wide.round a.eval=execOp a.eval o:=rfl;rw[m];generalize(execOp a.eval o).run P w=r at h;have g:=λa w h=>zgY hno hk pre a w h;cases r with
    |ok nx w'=>cases nx with
     |value v=>exact g _ _ h|skip=>exact g _ _ h|defer d=>exact g _ _ h|enter f args=>refine⟨λk=>by grind[xP],callsIn_wide.2<|vY h λe b i=>?_⟩;cases e with
      |returned v=>simp_all|panicked chain=>grind|outgrown=>obtain⟨l,w',i⟩:=i;grind
     |row row args=>
      refine⟨λk=>by grind[xP],RowsIn.mono (R:=λv b=>wpList P ops Q0 pre (a.put o.dst v) b) (λc p _=>?_) λv b i=>g _ _ i⟩;obtain⟨v,q,r,s⟩:=h c p;grind[stepsIn_wide]|_=>exact h.elim
    |halt x w'=>cases x with|panic v=>exact absurd (hno _ _ _ h)<|by simp|_=>exact h.elim
   grind
  ·rw[if_neg j]at h;exact⟨λf _=>trivial,zgY hno hk pre _ _ h⟩
theorem zml {P f fn c xs A w vs}{Post:World->Prop}(hf:P.funcs[f]?=O fn)(hb:fn.body=O c)(hres:fn.results=#[])(hn:xs.length<=fn.ntmps)(hA:∀b,A b->b<w.heap.size)(hG:zdv A w)(hr:xv A w xs vs.toList)(h:Tri P ⟨A,zg,w,fn.ntmps,λa w'=>a.defers=[]/\Post w',[],0,[]⟩ c (λ_ _=>False) ⟨params 0 xs,[]⟩):Calls P f vs w λe w'=>(∃u,e=.returned u)/\Post w':=by
 have k:=D.zva hr;refine calls_of_wp hf hb<|xU ?_<|h.run [] _ w ?_
 ·rintro e o w'(⟨_,_,n,_⟩|⟨rfl,l,i⟩);·simp_all
  ·refine⟨l,.tuple #[],?_,⟨_,rfl⟩,i⟩;rw[zca,hres];simp
 ·have g:(vs++xu (fn.ntmps-vs.size) undef).size=fn.ntmps:=by simp_all
  refine⟨⟨by simp,by simp,by simp,hA,hG.fr (xz zg w) (λ_ x=>x.elim) λb _ hb=>hb.elim id λh=>by grind⟩,rfl,by simp,λt v m=>?_,rfl,g,xz _ _,by simp,λp i=>by cases i⟩;have:=zd4 (A:=Own A []) (w:=w) (bs:=[]) (H:=[]) xs 0 vs.toList (vs++xu (fn.ntmps-vs.size) undef) (D.zvs (xz zg w) (λ_ x=>x.elim) (λb _ hb=>hb.elim id λh=>by grind) xs _ hr) (λj q=>by
    have d:j<vs.size:=by simp_all
    simp[wu,d]) (by simp_all) t v m;grind
theorem zrt {P C fn y bs' s' a' w' ds}(hy:zfk ds=y)(hres:zyX P s' fn.results.toList ds)(hR:R C bs' s' a' w'):∃u,(results fn a'.tmps).run P w'=.ok u w'/\xD C.A0 w' y u:=by
 obtain⟨b,c,a⟩:=zj8 hR fn.results.toList ds hres;have g:=D.zva a;have i:(fn.results.mapM<|zeC a'.tmps).run P w'=.ok b.toArray w':=by rw[<-vp (xs:=fn.results),List.mapM_toArray];simp_all
 rw[zca];simp only[xr,i,xi,xt];match ds,b,a,g with
 |[d],[u],a,_=>
  obtain⟨_,_,e,k,_⟩:=a;grind[zfk]|[],[],a,_=>grind[zfk,xD]|l::m::ds,h::j::b,a,_=>
  simp only[zfk]at hy;subst hy;have f:¬(h::j::b).toArray.size=1:=by simp
  simp only[xD];simp_all
def zgO (A:Nat->Prop)(w:World)(y:D)(e:Ending)(w':World):Prop:=∃u,e=.returned u/\Fr zg w w'/\xD A w' y u
theorem Pure.zyE {P f fn c xs y}(hf:P.funcs[f]?=O fn)(hb:fn.body=O c)(hn:xs.length<=fn.ntmps)(h:∀A w,Tri P ⟨A,zg,w,fn.ntmps,λa' w'=>LeavesInM xP 0 P fn a'.tmps (zgO A w y) a'.defers .returning w',[],0,[]⟩ c (retQ P fn.results y) ⟨params 0 xs,[]⟩):Pure P f xs y:=by
 refine⟨λA w a s B q=>?_⟩;have r:=D.zva q;have g:CallsIn xP 0 P f a w<|zgO A w y:=by
  refine callsIn_of_wp_marks hf hb trivial (wpIn_wide.2<|xU ?_<|(h A w).run [] _ w ?_) rfl
  ·rintro e a' w'(⟨z,L,⟨F,xd,G,d⟩,m⟩|⟨rfl,C⟩)
   ·obtain⟨u,l,k⟩:=zrt (P:=P) (fn:=fn) G d m;have n:=m.fr;have I:=m.defers;have E:LeavesInM xP 0 P fn a'.tmps (zgO A w y) a'.defers .returning w':=by rw[I];exact⟨u,l,u,rfl,n,k⟩
    rcases F with rfl|rfl<;>exact E
   ·exact C
  ·have o:(a++xu (fn.ntmps-a.size) undef).size=fn.ntmps:=by simp_all
   refine⟨⟨by simp,by simp,by simp,s,B.fr (xz zg w) (λ_ x=>x.elim) λb _ hb=>hb.elim id λh=>by grind⟩,rfl,by simp,λt v xf=>?_,rfl,o,xz _ _,by simp,λp K=>by cases K⟩;have:=zd4 (A:=Own A []) (w:=w) (bs:=[]) (H:=[]) xs 0 a.toList (a++xu (fn.ntmps-a.size) undef) (D.zvs (xz zg w) (λ_ x=>x.elim) (λb _ hb=>hb.elim id λh=>by grind) xs _ q) (λj N=>by
     have i:j<a.size:=by simp_all
     simp[wu,i]) (by simp_all) t v xf;grind
 exact callsIn_wide.1 g
end
section
variable[zuV][Drw]
def zfX (k:IntKind)(r:BitVec k.bits):Int:=k.wrap r.toNat
def band (k:IntKind)(x y:Int):Int:=zfX k<|v8 k.bits x&&&v8 k.bits y
def bor (k:IntKind)(x y:Int):Int:=zfX k<|v8 k.bits x|||v8 k.bits y
def bxor (k:IntKind)(x y:Int):Int:=zfX k<|v8 k.bits x^^^v8 k.bits y
def bnot (k:IntKind)(x:Int):Int:=bxor k (if k.signed then-1 else k.max) x
section
variable{P:Program}{o:Oper}{e:Operand->Option V}{H:List Blk}
theorem OpV.band {t u x y k a b}(ho:o.op=.binOp .and t x y u)(hx:e x=O (.d<|.val<|.int k a))(hy:e y=O (.d<|.val<|.int k b)):OpV P o e H<|.d<|.val<|.int k<|band k a b:=.zv4 ho hx hy λw=>by simp[binOp,Op.intBits,Go.Proofs.YtipkniadbkndfaaGreatDoor.band,zfX]
theorem OpV.bor {t u x y k a b}(ho:o.op=.binOp .or t x y u)(hx:e x=O (.d<|.val<|.int k a))(hy:e y=O (.d<|.val<|.int k b)):OpV P o e H<|.d<|.val<|.int k<|bor k a b:=.zv4 ho hx hy λw=>by simp[binOp,Op.intBits,Go.Proofs.YtipkniadbkndfaaGreatDoor.bor,zfX]
theorem OpV.bnot {t x k a}(ho:o.op=.unOp .xor t x)(hx:e x=O (.d<|.val<|.int k a)):OpV P o e H<|.d<|.val<|.int k<|bnot k a:=.of_same λ_ _ w f _ c=>by have b:=zt.1<|c x (by grind[xk]) _ hx;exact⟨.int k<|Go.Proofs.YtipkniadbkndfaaGreatDoor.bnot k a,by simp[execOp,ho,b,Op.unary,Op.intBits,Go.Proofs.YtipkniadbkndfaaGreatDoor.bnot,Go.Proofs.YtipkniadbkndfaaGreatDoor.bxor,zfX],zt.2 rfl⟩
theorem OpV.idxG {t el ty g N x i k j l a v}(ho:o.op=.indexAddr t x i)(hx:e x=O (.d<|.val<|.pointer<|O ⟨g,0,Y⟩))(hi:e i=O (.d<|.val<|.int j a))(hg:(g,Obj.cells (l.map<|wQ k).toArray ty (0,0))∈xK)(ht:P.underlying t=O (.array N el))(hs:(P.info? el).map (·.size)=O 1)(hN:N=l.length)(hv:Go.Proofs.YtipkniadbkndfaaGreatDoor.idx l a=O v):OpV P o e H<|.d<|.ref<|.val<|.int k v:=.of_same λE C w f m p=>by have u:=zt.1<|p x (by grind[xk]) _ hx;have A:=zt.1<|p i (by grind[xk]) _ hi;obtain⟨n,rfl,B,y⟩:=idxS hv;obtain⟨z,r⟩:=m.own.glob _ hg;cases c:P.info? el with
  |none=>simp_all|some inf=>
   have h:inf.size=1:=by simp_all
   refine⟨.pointer<|O ⟨g,n,Y⟩,?_,?_⟩
   ·have b:(0:Int)<=n/\(n:Int)<N:=by simp_all
    simp only[execOp,ho,u,A,Instr.indexAt,asIntOf,xr,xt,xi,run_underlying ht,wj];rw[if_pos b];simp[sizeOf,typeInfo,c,h,wq]
   ·refine⟨g,n,.int k v,rfl,z,(yn.1 r).1,rfl,λq F=>?_⟩;have s:q=0:=by grind[xX]
    rw[zab r];grind[xX]
end
end
section
variable[zuV][Drw]
theorem R.zzL {C bs T H a w i g k el xs ys cur new}(hR:R C bs ⟨T,H⟩ a w)(hi:H[i]?=O (.vec el k xs))(hb:bs[i]?=O (O g))(hheap:w.heap[g]?=O (.cells cur el (0,0)))(hnew:new.size=cur.size)(hl:ys.length=xs.length)(hfl:xM (Own C.A0 bs) w k ys<|new.toList.take<|xs.length*k)(h0:0<xs.length):R C bs ⟨T,H.set i<|.vec el k ys⟩ a<|w.setRow g new:=by
 have d:Fr (λc=>O g=O c) w<|w.setRow g new:=⟨rfl,rfl,rfl,by simp,λc _ o=>setRow_other w g c _ λe=>o<|by rw[e],λ_=>yk _⟩;have s:bs.set i (O g)=bs:=by
  refine ua λq=>?_;grind
 have p:∀c,O g=O c->Own C.A0 bs c:=λc E=>.inr<|by grind
 have u:=R.upd (y:=.vec el k ys) (c:=O g) (c':=O g) hR hi hb (by
  simp only[Compat];refine .inr ⟨hl,trivial,trivial,λv n z G F=>?_⟩;rcases z.2 with⟨h,A⟩|⟨B,f,t,r,_,b,j,l,x,m⟩;·omega
  obtain rfl:g=B:=by grind[xI]
  rw[hheap]at b;refine⟨new.toList.take<|xs.length*k,⟨?_,.inr ⟨g,f,new,by rw[r],ym _,setRow_heap w g cur _ el _ hheap,j,l,by grind,rfl⟩⟩,D.zve d p (λc _ E=>by grind) _ _ hfl⟩;simp_all) d (.inl rfl)<|by grind[xL]
 grind
theorem V.asSub {A w bs H i n v}(h:xm A w bs H (.vec i n) v):xm A w bs H (.sub i n 0 n) v:=by
 simp only[xm]at h|-;split at h
 ·refine⟨h.1,λj=>?_⟩;obtain⟨a,c,e,f⟩:=h.2 j;refine⟨v,a,c,e,f,ym _,yk _,?_⟩;rcases c.2 with⟨rfl,l⟩|⟨g,b,k,rfl,_,_,d,_,_,_⟩;·grind
  ·exact⟨_,b,rfl,by omega,λ_=>⟨g,by simp[xI],by simp⟩⟩
 ·trivial
 grind
theorem TriL.asSub {P C ops rest Q T H}(t){i n}(ht:look t T=O (.vec i n))(k:TriL P C ops rest Q ⟨(t,.sub i n 0 n)::T,H⟩):TriL P C ops rest Q ⟨T,H⟩:=⟨λ_ a w b=>k.run _ a w<|b.know (b.tmp t _ ht).1<|V.asSub (b.tmp t _ ht).2⟩
def zfe {α:Type}(xs:List α)(lo hi:Nat)(ys:List α):List α:=xs.take lo++(ys.take (hi-lo)++xs.drop (lo+min (hi-lo) ys.length))
omit[zuV][Drw]in
theorem zdG {α}{xs}{lo hi}{ys:List α}(h1:lo<=hi)(h2:hi<=xs.length):(zfe xs lo hi ys).length=xs.length:=by grind[zfe]
theorem D.zv5 {A w k}:∀{xs}{cells}(n),xM A w k xs cells->xM A w k (xs.take n) (cells.take<|n*k)/\xM A w k (xs.drop n) (cells.drop<|n*k)
 |xs,cells,0,h=>by grind[xM]|[],cells,n+1,h=>by grind[xM]|x::xs,cells,n+1,h=>by
  obtain⟨u,a,rfl,j,g,f⟩:=h;obtain⟨l,i⟩:=D.zv5 n f;have e:(n+1)*k=k+n*k:=by grind
  have b:u.cells.toList.length=k:=by grind
  have d:(u.cells.toList++a).take (k+n*k)=u.cells.toList++a.take (n*k):=by grind
  have c:(u.cells.toList++a).drop (k+n*k)=a.drop (n*k):=by rw[List.drop_append,b,wb<|by grind,Nat.add_sub_cancel_left,yN]
  rw[List.take_succ_cons,List.drop_succ_cons,e,d,c];simp only[xM];grind
theorem zrJ {P}(w dT sT ty elem k n dp sp dLen dCap sLen sCap)(hu:P.underlying dT=O (.slice elem))(hsz:(P.info? elem).map (·.size)=O k)(hn:n=Nat.min sLen dLen)(g o)(cur)(t)(hg:w.heap[g]?=O (.cells cur t (0,0)))(cs)(hl:cs.length=n*k)(hd:0<n->dp=O ⟨g,o,Y⟩)(hs:0<n->∃ad,sp=O ad/\∀j v,cs[j]?=O v->w.cell? (ad.add j)=O v)(hfit:o+cs.length<=cur.size)(h1:∀v∈cs,v.oneCell'=U):(u5 #[dT,sT] ty #[.slice dp dLen dCap,.slice sp sLen sCap]).run P w=.ok (goInt n) (if 0<n then w.setRow g (cur.toList.take o++cs++cur.toList.drop (o+cs.length)).toArray else w):=by cases hi:P.info? elem with
 |none=>grind|some inf=>
  have hq:inf.size=k:=by grind
  by_cases h0:0<n;·obtain⟨ad,rfl,hsrc⟩:=hs h0;rw[hd h0];have hfc:=run_firstCells_some (P:=P) w k n ad sLen sCap cs hl hsrc;have hst:=run_storeCells_at P g o t cs 0 cur w hg (by grind) h1;subst hn;simp[u5,run_underlying hu,u4,sizeOf,typeInfo,hi,hq,hfc,hst,h0]
  ·have hn0:n=0:=by omega
   subst hn0;have hcs:cs=[]:=yY (by grind);have:Nat.min sLen dLen=0:=hn.symm;cases dp<;>cases sp<;>simp[u5,run_underlying hu,u4,Builtin.firstCells,loadCells,loadCellsFrom,sizeOf,typeInfo,hi,hq,this,storeCells]
section
variable{P:Program}{o:Oper}{e:Operand->Option V}{H:List Blk}
theorem OpV.subL {α}{t el el' x y}{i n k}{l r}{enc:α->D}{lo}(ho:o.op=.slice t x (O y) Y Y)(hx:e x=O (.vec i n))(hi:H[i]?=O (.vec el' k<|l.map enc))(hn:n=l.length)(hy:e y=O (.d<|.int lo))(ht:P.underlying t=O (.slice el))(hs:(P.info? el).map (·.size)=O k)(hr:cut l lo (l.length:Int)=O r):OpV P o e H<|.sub i n lo.toNat n:=by
 obtain⟨a,b,rfl,hb,h1,h2,rfl⟩:=cutS hr;have hb':l.length=b:=by omega
 subst hb';refine .of_same λA0 bs w f _ hf=>?_;have e1:=hf x (by grind[xk]) _ hx;have e2:=zt.1<|hf y (by grind[xk]) _ hy;simp only[xm,hi]at e1;obtain⟨cells,g1,g2,g3⟩:=e1.2 (by grind);cases hinf:P.info? el with|none=>grind|some inf=>
  have hsz:inf.size=k:=by simpa[hinf]using hs
  have hel:P.elem t=el:=by simp[tk,ht]
  have hck:P.cellsOf el=k:=by grind[vW]
  have main:∀(ad:Option Addr)(cap:Nat),f x=.slice ad n cap->n<=cap->(∀g,ad=O g->∃b,(f x).ownBlock=O b/\g=⟨b,0,Y⟩)->(0<n->ad.isSome=U)->∃u,(execOp f o).run P w=.ok (.value u) w/\xm (Own A0 bs) w bs H (.sub i n (a:Int).toNat n) u:=by
   intro ad cap hp hnc hg hne;refine⟨sliced ad a n cap k,?_,?_⟩;·have:=run_slice_l (P:=P) w t ad n cap (by rw[hel];exact ht) .i64 a (by omega) (by omega);rw[hel,run_sizeOf w hinf,hck]at this;simp only[yr,xi]at this;simp only[execOp,ho,hp,e2,yQ,vI,xr,run_sliceAt_slice w t _ _ _ _<|by rw[hel];exact ht,this,xi,xt]
   ·simp only[xm,hi,yr];refine⟨e1.1,λ_=>⟨f x,cells,g1,g2,g3,by omega,yk _,if cap=a then ad else ad.map (·.add<|a*k),cap-a,rfl,by omega,λhlt=>?_⟩⟩;have hso:=hne (by omega);cases ad with|none=>simp at hso|some g=>obtain⟨b,hb1,rfl⟩:=hg g rfl;exact⟨b,hb1,by rw[if_neg<|by omega];simp[wq]⟩
  rcases g1.2 with⟨h,h0⟩|⟨g,cap,cur,hh,_,_,hnc,_,_,_⟩;·exact main Y 0 (by rw[h,h0]) (by omega) (λg h=>by cases h) λh=>by omega
  ·exact main (O ⟨g,0,Y⟩) cap hh hnc (λg' h=>⟨g,by rw[hh];simp[xI],by simpa using h.symm⟩) λ_=>rfl
theorem OpV.subH {α}{t el el' x y}{i n k}{l r}{enc:α->D}{hi'}(ho:o.op=.slice t x Y (O y) Y)(hx:e x=O (.vec i n))(hi:H[i]?=O (.vec el' k<|l.map enc))(hn:n=l.length)(hy:e y=O (.d<|.int hi'))(ht:P.underlying t=O (.slice el))(hs:(P.info? el).map (·.size)=O k)(hr:cut l 0 hi'=O r):OpV P o e H<|.sub i n 0 hi'.toNat:=by
 obtain⟨z,b,hz,rfl,h1,h2,rfl⟩:=cutS hr;refine .of_same λA0 bs w f _ hf=>?_;have e1:=hf x (by grind[xk]) _ hx;have e2:=zt.1<|hf y (by grind[xk]) _ hy;simp only[xm,hi]at e1;obtain⟨cells,g1,g2,g3⟩:=e1.2 (by grind);cases hinf:P.info? el with|none=>grind|some inf=>
  have hsz:inf.size=k:=by grind
  have hel:P.elem t=el:=by grind[tk]
  have hck:P.cellsOf el=k:=by grind[vW]
  have main:∀(ad:Option Addr)(cap:Nat),f x=.slice ad n cap->n<=cap->(∀g,ad=O g->∃b,(f x).ownBlock=O b/\g=⟨b,0,Y⟩)->(0<n->ad.isSome=U)->∃u,(execOp f o).run P w=.ok (.value u) w/\xm (Own A0 bs) w bs H (.sub i n 0 (b:Int).toNat) u:=by
   intro ad cap hp hnc hg hne;refine⟨sliced ad 0 b cap k,?_,?_⟩;·have:=run_slice_h (P:=P) w t ad n cap (by rw[hel];exact ht) .i64 b (by omega) (by omega);rw[hel,run_sizeOf w hinf,hck]at this;simp only[yr,xi]at this;simp only[execOp,ho,hp,e2,yQ,vI,xr,run_sliceAt_slice w t _ _ _ _<|by rw[hel];exact ht,this,xi,xt]
   ·simp only[xm,hi,yr];refine⟨e1.1,λ_=>⟨f x,cells,g1,g2,g3,ym _,by omega,if cap=0 then ad else ad.map (·.add<|0*k),cap,rfl,by omega,λhlt=>?_⟩⟩;have hso:=hne (by omega);cases ad with|none=>simp at hso|some g=>obtain⟨b,hb1,rfl⟩:=hg g rfl;exact⟨b,hb1,by rw[if_neg<|by omega];simp[wq]⟩
  rcases g1.2 with⟨h,h0⟩|⟨g,cap,cur,hh,_,_,hnc,_,_,_⟩;·exact main Y 0 (by rw[h,h0]) (by omega) (λg h=>by cases h) λh=>by omega
  ·exact main (O ⟨g,0,Y⟩) cap hh hnc (λg' h=>⟨g,by rw[hh];simp[xI],by simpa using h.symm⟩) λ_=>rfl
end
theorem zns {A w k xs ys zs a b c}(h1:xM A w k xs a)(h2:xM A w k ys b)(h3:xM A w k zs c):xM A w k (xs++(ys++zs))<|a++(b++c):=D.zwq h1<|D.zwq h2 h3
theorem take3 {α:Type}{A B C:List α}{n a c}(hA:A.length=a)(hB:B.length=c)(h:a+c<=n):(A++(B++C)).take n=A++(B++C.take (n-a-c)):=by grind[List.take_append,xV]
inductive zzd (e:Operand->Option V)(H:List Blk)(k:Nat){α:Type}(enc:α->D)(y:Operand):List α->Prop|d{ys:List α}:e y=O (.d<|.sl k<|ys.map enc)->zzd e H k enc y ys|sub{i n lo hi:Nat}{el:TypeId}{l:List α}:e y=O (.sub i n lo hi)->H[i]?=O (.vec el k<|l.map enc)->n=l.length->zzd e H k enc y ((l.drop lo).take<|hi-lo)
theorem zzd.reads {C bs T H a w}(hR:R C bs ⟨T,H⟩ a w){k}{α}{enc}{y}{ys:List α}(h:zzd (ev T) H k enc y ys):∃sp cap cells,a.eval y=.slice sp ys.length cap/\xM (Own C.A0 bs) w k (ys.map enc) cells/\(0<ys.length->∃ad,sp=O ad/\∀j v,cells[j]?=O v->w.cell? (ad.add j)=O v):=by cases h with
 |d hy=>
  have h1:=hR.ev hy;simp only[xm,xD,yL]at h1;obtain⟨ad,cap,hp,hcap,hrow⟩:=h1;rcases hrow with hnil|⟨b,off,rfl,_,_,hrow⟩
  ·have:ys=[]:=by simp_all
   subst this;exact⟨ad,cap,[],hp,by simp[xM],λh=>by simp at h⟩
  ·obtain⟨cells,h1,h2⟩:=D.zxE _ _ hrow;exact⟨_,cap,cells,hp,h1,λ_=>⟨_,rfl,λj v hv=>by grind[wq]⟩⟩|sub hy hi hn=>
  rename_i i n lo hh el l;have h1:=hR.ev hy;simp only[xm,hi]at h1;obtain⟨hdr,cells,g1,g2,g3,glo,ghi,ad,cap,hp,hcap,hne⟩:=h1.2 (by grind);have hlen:((l.drop lo).take<|hh-lo).length=hh-lo:=by grind
  have hsp:=(D.zv5 (hh-lo) (D.zv5 lo g3).2).1;refine⟨ad,cap,(cells.drop<|lo*k).take<|(hh-lo)*k,by grind,by simp_all,λh0=>?_⟩;rw[hlen]at h0;obtain⟨b,hb,rfl⟩:=hne (by omega);refine⟨_,rfl,λj v hv=>?_⟩;rcases g1.2 with⟨rfl,_⟩|⟨g,cp,cur,rfl,_,_,_,_,_,_⟩;·grind
  ·obtain rfl:g=b:=by simpa[xI]using hb
   rw[List.getElem?_take]at hv;split at hv;·rw[List.getElem?_drop]at hv;have:=g1.cells (g:=g) rfl _ _ hv;rw[vT]at this;rw[wq];simpa using this
   ·cases hv
theorem TriL.zzj {P}{C}{ops}{o:Oper}{rest}{Q}{T}{H}{α}{t t' el}{x y}{i n lo hi k bytes d:Nat}{enc}{l ys:List α}(hg:o.guard=Y)(ho:o.op=.call {callee:=.builtin .copy,args:=#[x,y],argTypes:=#[t,t']})(hd:o.dst=O d)(hdn:xA d C.n=U)(he:zcc P t el k bytes=U)(hx:ev T x=O (.sub i n lo hi))(hi':H[i]?=O (.vec el k<|l.map enc))(hn:n=l.length)(hy:zzd (ev T) H k enc y ys)(h1:∀x,(enc x).ones=U)(kk:TriL P C ops rest Q ⟨(d,.d<|.int (min (hi-lo) ys.length:Nat))::T,H.set i<|.vec el k<|(zfe l lo hi ys).map enc⟩):TriL P C ops (o::rest) Q ⟨T,H⟩:=by
 obtain⟨htu,hk0,inf,z,hinf,hz,hisz,hib,hzc⟩:=zbN he;refine wI hg (λbs a w hR=>?_) kk;have hxr:=hR.ev hx;simp only[xm,hi']at hxr;obtain⟨hdr,cells,g1,g2,g3,glo,ghi,ad,cap,hp,hcap,hne⟩:=hxr.2 (by grind);obtain⟨sp,scap,scells,hs,hsf,hsr⟩:=hy.reads hR;have hsl:=D.zwa hsf;simp only[yL]at hsl;obtain⟨c,hc⟩:∃c,c=min (hi-lo) ys.length:=⟨_,rfl⟩;have hc1:c<=hi-lo:=by omega
 have hc2:c<=ys.length:=by omega
 have htk:scells.take (c*k)=scells.take (c*k):=rfl;have hckl:(scells.take<|c*k).length=c*k:=by simp_all
 have hfl1:=(D.zv5 c hsf).1;have hone:∀v∈scells.take<|c*k,v.oneCell'=true:=D.zwR (λq hq=>by grind) hfl1;have hset:bs.set i hdr.ownBlock=bs:=by
  refine ua λq=>?_;grind
 by_cases h0:0<c
 ·obtain⟨b,hb,rfl⟩:=hne (by omega);rcases g1.2 with⟨rfl,_⟩|⟨g,cp,cur,rfl,_,hheap,hnc,hcm,hcs,htake⟩;·simp[xI]at hb
  obtain rfl:g=b:=by simpa[xI]using hb
  have hnk:n*k<=cp*k:=yH _ hnc;have hlock:lo*k+c*k<=n*k:=by rw[<-vm];exact yH _<|by omega
  have hrun:=zrJ (P:=P) w t t' o.type el k c (O ⟨g,lo*k,Y⟩) sp (hi-lo) cap ys.length scap htu (by simp[hinf,hisz]) (by rw[hc];exact Nat.min_comm _ _) g (lo*k) cur el hheap (scells.take<|c*k) hckl (λ_=>rfl) (λ_=>by obtain⟨ad,h2,h3⟩:=hsr (by omega);exact⟨ad,h2,λj v hv=>h3 j v<|by rw[List.getElem?_take]at hv;split at hv;exact hv;cases hv⟩) (by rw[hckl,hcs];omega) hone;rw[if_pos h0,hckl]at hrun;obtain⟨new,hnew⟩:∃new:Array Value,new=(cur.toList.take (lo*k)++scells.take (c*k)++cur.toList.drop (lo*k+c*k)).toArray:=⟨_,rfl⟩;rw[<-hnew]at hrun;have hex:(execOp a.eval o).run P w=.ok (.value<|goInt c) (w.setRow g new):=by simp only[execOp,ho,resolve,invoke,builtin];simp[hp,hs,hrun]
  have hnsz:new.size=cur.size:=by rw[hnew];simp only[uK,yT,ui,ub,yE,hckl,hcs];omega
  have hcopy:(zfe l lo hi ys).map enc=(l.map enc).take lo++((ys.map enc).take c++(l.map enc).drop (lo+c)):=by
   have e1:ys.take (hi-lo)=ys.take c:=by
    by_cases hle:hi-lo<=ys.length;·rw[show c=hi-lo by omega]
    ·rw[xV<|by omega,show c=ys.length by omega,wJ]
   simp only[zfe,un,e1,List.map_take,List.map_drop,<-hc]
  have hflat:xM (Own C.A0 bs) w k ((zfe l lo hi ys).map enc)<|new.toList.take<|(l.map enc).length*k:=by
   rw[hcopy];have t1:=(D.zv5 lo g3).1;have t3:=(D.zv5 (lo+c) g3).2;have:=zns t1 hfl1 t3;have e2:new.toList.take ((l.map enc).length*k)=cells.take (lo*k)++(scells.take (c*k)++cells.drop ((lo+c)*k)):=by
    rw[hnew,yL,<-hn,<-htake];simp only[List.toList_toArray,yM];have l1:(cur.toList.take<|lo*k).length=lo*k:=by rw[ui,yE,hcs];omega
    rw[take3 l1 hckl hlock,List.take_take,vh<|by omega,List.drop_take,vm,Nat.sub_sub]
   rw[e2];exact this
  have hT:=hR.zzL hi' (by rw[g2];rfl) hheap hnsz (by simp[zdG glo (by omega:hi<=l.length)]) hflat<|by simp;omega
  have hput:=hT.put (xz _ _) (O d) (by simpa[zvk]using hdn) (v:=.d<|.int (min (hi-lo) ys.length:Nat)) (u:=goInt c) (by simp only[xm,xD,goInt,hc]);refine⟨_,_,bs,hex,.inl ⟨_,rfl,?_⟩⟩;rw[hd];exact hput
 ·have hc0:c=0:=by omega
  have hcopy:zfe l lo hi ys=l:=by
   have e1:ys.take (hi-lo)=[]:=by
    rcases Nat.eq_zero_or_pos<|hi-lo with h|h;·rw[h,List.take_zero]
    ·have:ys=[]:=yY (by omega);rw[this,List.take_nil]
   simp only[zfe,e1,yN,<-hc,hc0,uv,uA]
  have hrun:(u5 #[t,t'] o.type #[.slice ad (hi-lo) cap,.slice sp ys.length scap]).run P w=.ok (goInt 0) w:=by
   have hm:Nat.min ys.length (hi-lo)=0:=by rw[Nat.min_comm]at hc;exact hc.symm.trans hc0
   cases ad<;>cases sp<;>simp[u5,run_underlying htu,u4,Builtin.firstCells,loadCells,loadCellsFrom,sizeOf,typeInfo,hinf,hm,storeCells]
  have hex:(execOp a.eval o).run P w=.ok (.value<|goInt 0) w:=by simp only[execOp,ho,resolve,invoke,builtin];simp[hp,hs,hrun]
  have hput:=hR.put (xz _ _) (O d) (by simpa[zvk]using hdn) (v:=.d<|.int (min (hi-lo) ys.length:Nat)) (u:=goInt 0) (by simp only[xm,xD,goInt,<-hc,hc0];rfl);refine⟨_,_,bs,hex,.inl ⟨_,rfl,?_⟩⟩;rw[hd,hcopy];have:H.set i (.vec el k<|l.map enc)=H:=by obtain⟨q1,q2⟩:=yd.1 hi';rw[<-q2,List.set_getElem_self]
  rw[this];exact hput
omit[zuV][Drw]in
theorem zks {α}(xs)(ys:List α):(zfe xs 0 xs.length ys).length=xs.length:=zdG (ym _)<|yk _
theorem zhF {α}{xs r}{lo}(h:cut xs lo (xs.length:Int)=O r)(ys:List α):(zfe xs lo.toNat xs.length ys).length=xs.length:=by obtain⟨a,b,rfl,d,e,c,rfl⟩:=cutS h;exact zdG (by grind)<|yk _
def shrO (k:IntKind)(a b:Int):Option Int:=if b<0 then Y else O<|a.fdiv<|2^min b.toNat k.bits
section
variable{P:Program}{o:Oper}{e:Operand->Option V}{H:List Blk}
theorem OpV.shr {t u x y k j a b c}(ho:o.op=.binOp .shr t x y u)(hx:e x=O (.d<|.val<|.int k a))(hy:e y=O (.d<|.val<|.int j b))(hc:shrO k a b=O c):OpV P o e H<|.d<|.val<|.int k c:=.of_same λ_ _ w f _ g=>by
  have i:=zt.1<|g x (by grind[xk]) _ hx;have l:=zt.1<|g y (by grind[xk]) _ hy;unfold shrO at hc;split at hc;·cases hc
  ·rename_i h;cases hc;refine⟨_,?_,zt.2 rfl⟩;simp[execOp,ho,i,l,eqGuard_at_int,binOp,Op.shift,h]
end
theorem Tri.keep {P C c Q s}(H ks){K}(hK:Looks s.T ks K)(hH:s.H=H)(k:Tri P C c Q ⟨K,H⟩):Tri P C c Q s:=Tri.le ⟨hH,hK.sub⟩ k
end
section
variable[zuV][Drw]
mutual
theorem V.zv8 {m n}(h:m<=n):∀(x:V),x.under m=U->x.under n=U|.d _,_=>rfl|.junk,_=>rfl|.loc i _,hx|.vec i _,hx|.arr i _ _,hx|.el i _ _ _,hx|.sub i _ _ _,hx|.mp i,hx|.itp i,hx|.que i _,hx|.qel i _ _,hx=>by simp only[V.under,uG]at hx|-;omega|.agg cs,hx|.tup cs,hx=>by simp only[V.under]at hx|-;exact V.zwL h cs hx|.fn _ a b,hx=>by simp only[V.under,yc]at hx|-;exact⟨V.zwL h a hx.1,V.zwL h b hx.2⟩
theorem V.zwL {m n}(h:m<=n):∀(xs:List V),V.zw3 m xs=U->V.zw3 n xs=U|[],_=>rfl|x::xs,hx=>by simp only[V.zw3,yc]at hx|-;exact⟨V.zv8 h x hx.1,V.zwL h xs hx.2⟩
end
def zbz:Nat->List V->List (Nat×V)|_,[]=>[]|i,x::xs=>(i,x)::zbz (i+1) xs
theorem zc5 {A w bs H}:∀(xs)(i)(vs)(tmps:Array Value),xF A w bs H xs vs->(∀j,j<vs.length->tmps.getD (i+j) undef=vs.getD j undef)->i+vs.length<=tmps.size->∀t v,look t (zbz i xs)=O v->t<tmps.size/\xm A w bs H v (tmps.getD t undef)
 |[],_,_,_,_,_,_,t,v,h=>by grind[zbz,look]|x::xs,i,vs,tmps,f,b,d,t,v,h=>by
  obtain⟨u,a,rfl,k,g⟩:=f;simp only[zbz,zbn]at h;simp only[yW]at d;split at h<;>rename_i e
  ·have:=b 0<|by simp
   grind
  ·exact zc5 xs (i+1) a tmps g (λj c=>by
    have:=b (j+1)<|by simp_all
    grind) (by omega) t v h
def ResV:St->List ResultVar->List V->Prop|_,[],vs=>vs=[]|s,.tmp t::rs,vs=>∃v vs',vs=v::vs'/\look t s.T=O v/\ResV s rs vs'|_,.cell _ _::_,_=>False
def zdM:List V->V|[v]=>v|vs=>.tup vs
def retV (rs:List ResultVar)(K:V->List Blk->Prop)(e:Exit)(s:St):Prop:=(e=.ret\/e=.normal)/\∃vs,ResV s rs vs/\K (zdM vs) s.H
theorem znY {P C bs s a w}(hR:R C bs s a w):∀(rs)(xs),ResV s rs xs->∃vs:List Value,(rs.mapM<|zeC a.tmps).run P w=.ok vs w/\xF (Own C.A0 bs) w bs s.H xs vs
 |[],xs,h=>by subst h;exact⟨[],by simp,by simp[xF]⟩|.tmp t::rs,xs,h=>by
  obtain⟨v,b,rfl,d,e⟩:=h;obtain⟨vs,f,c⟩:=znY (P:=P) hR rs b e;refine⟨a.tmps.getD t undef::vs,?_,?_⟩;·grind[xr,zeC,xt,xi]
  ·exact⟨_,_,rfl,(hR.tmp t v d).2,c⟩|.cell _ _::_,_,h=>by grind[ResV]
theorem V.zv7 {A w bs H}:∀{xs}{vs},xF A w bs H xs vs->vs.length=xs.length|[],vs,h=>by grind[xF]|x::xs,vs,h=>by obtain⟨v,b,rfl,_,a⟩:=h;simp[V.zv7 a]
theorem zmZ {P C bs s a w fn xs}(hR:R C bs s a w)(h:ResV s fn.results.toList xs):∃u,(results fn a.tmps).run P w=.ok u w/\xm (Own C.A0 bs) w bs s.H (zdM xs) u:=by
 obtain⟨c,d,b⟩:=znY (P:=P) hR fn.results.toList xs h;have g:=V.zv7 b;have j:(fn.results.mapM<|zeC a.tmps).run P w=.ok c.toArray w:=by rw[<-vp (xs:=fn.results),List.mapM_toArray];simp_all
 rw[zca];simp only[xr,j,xi,xt];match xs,c,b,g with
 |[x],[u],b,_=>
  obtain⟨_,_,e,l,_⟩:=b;grind[zdM]|[],[],b,_=>grind[xm,zdM]|n::o::m,i::k::c,b,_=>
  have f:¬(i::k::c).toArray.size=1:=by simp
  simp only[xm,zdM];simp_all
structure zwz (P:Program)(o:Oper)(e:Operand->Option V)(f:FuncId)(xs:List V):Prop where run:∀(A:Nat->Prop)(w:World)(bs:List<|Option Nat)(H:List Blk)(g:Operand->Value),(∀x∈o.op.operands,∀y,e x=O y->xm A w bs H y (g x))->(∀k,g (.func k)=.func (.func k) #[] #[])->∃vs:Array Value,(execOp g o).run P w=.ok (.enter f vs) w/\xF A w bs H xs vs.toList
theorem zwz.stat {P o e f args tys xs}(ho:o.op=.call {callee:=.value<|.func f,args:=args,argTypes:=tys})(hc:zu0 P f=U)(ha:evsV e args.toList=O xs):zwz P o e f xs:=by
 refine⟨λA w bs H g a c=>⟨args.map g,?_,?_⟩⟩;·grind[execOp,resolve,xY,invoke,za7]
 ·have:=zib (A:=A) (w:=w) (bs:=bs) (H:=H) (f:=g) ha λx b=>a x (by grind[xk,xW]);simp_all
theorem zwz.clos {P o e x f args tys xs caps}(ho:o.op=.call {callee:=.value x,args:=args,argTypes:=tys})(hx:e x=O (.fn (.func f) [] caps))(hc:zu0 P f=U)(ha:evsV e args.toList=O xs):zwz P o e f<|xs++caps:=by
 refine⟨λA w bs H g c l=>?_⟩;have i:=c x (by grind[xk,xW]) _ hx;obtain⟨h,j,k,b,a⟩:=i;simp only[xF]at b;have d:h=#[]:=by simp_all
 refine⟨args.map g++j,?_,?_⟩;·grind[execOp,resolve,xY,invoke,za7]
 ·have:=zib (A:=A) (w:=w) (bs:=bs) (H:=H) (f:=g) ha λx hx=>c x (by grind[xk,xW]);have:=V.zvo this a;simp_all
def vals (a:Act):List (Nat×V)->List (Nat×V)->List (V×Value)|_,[]=>[]|T,(t,_)::r=>match look t T with|some v=>(v,a.tmps.getD t undef)::vals a T r|none=>vals a T r
theorem zeb {a T}:∀{L}{p},p∈vals a T L->∃t,look t T=O p.1/\p.2=a.tmps.getD t undef
 |[],p,h=>by grind[vals]|(t,x)::r,p,h=>by
  simp only[vals]at h;split at h<;>rename_i e
  ·rcases yF.1 h with rfl|h;·grind
   ·exact zeb h
  ·exact zeb h
theorem zdL {a T t v}(ht:look t T=O v):∀{L}{x},look t L=O x->(v,a.tmps.getD t undef)∈vals a T L
 |[],x,h=>by grind[look]|(u,y)::r,x,h=>by
  simp only[zbn]at h;simp only[vals];split at h<;>rename_i e;·simp_all
  ·have:=zdL (a:=a) ht h;grind
theorem zdy {T n t v}(h:(T.all λp=>p.2.under n)=U):look t T=O v->v.under n=true:=by induction T with|nil=>grind[look]|cons p L ih=>grind[zbn]
theorem TriL.zzq {P C ops o rest Q T H f fn c xs N}{rs}(hg:o.guard=Y)(hd:zvk o.dst C.n=U)(hc:zwz P o (ev T) f xs)(hf:P.funcs[f]?=O fn)(hb:fn.body=O c)(hN:fn.ntmps=N)(hrs:fn.results=rs.toArray)(hn:xQ xs.length N=U)(hu:(T.all λp=>p.2.under H.length)=U)(hgn:xQ C.gn H.length=U)(h:∀(own0:Nat->Prop)(w:World)(gh:List<|V×Value),(∀b,C.own0 b->own0 b)->(∀p∈C.gh,p∈gh)->Tri P ⟨C.A0,own0,w,N,λ_ _=>False,gh,H.length,[]⟩ c (retV rs λv H'=>TriL P C ops rest Q ⟨putT T o.dst v,H'⟩) ⟨zbz 0 xs,H⟩):TriL P C ops (o::rest) Q ⟨T,H⟩:=by
 subst hN;have hgn:=yt hgn;have hn:=yt hn;refine⟨λbs a w hR=>wpList_plain hg λK hK=>?_⟩;obtain⟨vs,hrun,hvs⟩:=hc.run (Own C.A0 bs) w bs H a.eval (λx _ y hx=>hR.ev hx) λ_=>rfl;unfold vo;rw[hrun];simp only[va];have hlen:=V.zv7 hvs;simp only[yE]at hlen;refine calls_of_wp hf hb ?_;have h0:=h (λb=>C.own0 b\/O b∈bs) w (C.gh++vals a T T) (λb hb=>.inl hb) λp hp=>wm _ hp;have hR0:R ⟨C.A0,λb=>C.own0 b\/O b∈bs,w,fn.ntmps,λ_ _=>False,C.gh++vals a T T,H.length,[]⟩ bs ⟨zbz 0 xs,H⟩ {tmps:=vs++xu (fn.ntmps-vs.size) undef,defers:=[]} w:=by
  have hsz:(vs++xu (fn.ntmps-vs.size) undef).size=fn.ntmps:=by simp_all
  refine⟨hR.own,hR.len,hR.blk,λt v hv=>?_,rfl,hsz,xz _ _,λb hb=>.inl<|.inr hb,λp hp=>?_⟩
  ·have:=zc5 xs 0 vs.toList (vs++xu (fn.ntmps-vs.size) undef) hvs (λj hj=>by
     have hj':j<vs.size:=by simp_all
     simp[y8,wu,hj',vy]) (by simp_all) t v hv;rw[hsz]at this;exact this
  ·rcases yu.1 hp with hp|hp;·exact⟨V.zv8 hgn _ (hR.gh p hp).1,(hR.gh p hp).2⟩
   ·obtain⟨t,h1,h2⟩:=zeb hp;exact⟨zdy hu h1,by rw[h2];exact(hR.tmp t _ h1).2⟩
 refine xU ?_<|h0.run bs _ w hR0;rintro e a' w'(⟨bs',s',⟨he,ys,hres,hk⟩,hR'⟩|⟨_,hE⟩);case inr=>exact hE.elim
 obtain⟨u,hu1,hu2⟩:=zmZ (P:=P) (fn:=fn) hR' (by rw[hrs];omega);have hRC:R C bs' ⟨T,s'.H⟩ a w':=by
  refine⟨hR'.own,hR'.len,hR'.blk,λt v hv=>⟨(hR.tmp t v hv).1,(hR'.gh _<|wC _<|zdL hv hv).2⟩,hR.defers,hR.size,?_,λb hb=>?_,λp hp=>⟨(hR.gh p hp).1,(hR'.gh p<|wm _ hp).2⟩⟩
  ·have f1:=hR'.fr;refine⟨f1.os.trans hR.fr.os,f1.tape.trans hR.fr.tape,f1.output.trans hR.fr.output,yI hR.fr.size f1.size,λq hq hno=>?_,λd=>yI (hR.fr.drawn d)<|f1.drawn d⟩;refine(f1.block q (yD hq hR.fr.size) λe=>?_).trans<|hR.fr.block q hq hno;rcases e with e|e;·simp_all
   ·rcases hR.new q e with e|e;·simp_all
    grind
  ·rcases hR'.new b hb with(h1|h1)|h1;·simp_all
   ·exact hR.new b h1
   ·exact .inr<|yI hR.fr.size h1
 have hfin:K (a.put o.dst u) w':=by have:=hRC.put (xz _ _) o.dst hd hu2;rw[St.put_eq]at this;exact hK _ _<|hk.run bs' _ _ this
 rcases he with rfl|rfl;·exact⟨hR'.defers,u,hu1,hfin⟩
 ·exact⟨hR'.defers,u,hu1,hfin⟩
theorem TriL.inline {P C ops o rest Q T H f fn c xs N}{rs}(hg:o.guard=Y)(hd:zvk o.dst C.n=U)(hc:zwz P o (ev T) f xs)(hf:P.funcs[f]?=O fn)(hb:fn.body=O c)(hN:fn.ntmps=N)(hrs:fn.results=rs.toArray)(hn:xQ xs.length N=U)(hu:(T.all λp=>p.2.under H.length)=U)(hgn:xQ C.gn H.length=U)(h:∀(own0)(w)(gh),Tri P ⟨C.A0,own0,w,N,λ_ _=>False,gh,H.length,[]⟩ c (retV rs λv H'=>TriL P C ops rest Q ⟨putT T o.dst v,H'⟩) ⟨zbz 0 xs,H⟩):TriL P C ops (o::rest) Q ⟨T,H⟩:=TriL.zzq hg hd hc hf hb hN hrs hn hu hgn λown0 w gh _ _=>h own0 w gh
theorem TriL.eqNil {P C ops o rest Q s t u el x k xs}(hg:o.guard=Y)(hd:zvk o.dst C.n=U)(ho:o.op=.binOp .eql t x (.const<|.slice Y 0 0) u)(htu:P.underlying t=O (.slice el))(hx:ev s.T x=O (.d<|.sl k xs))(kk:∀b,(b=U->xs=[])->TriL P C ops rest Q (s.put o.dst<|.d<|.bool b)):TriL P C ops (o::rest) Q s:=by
 refine⟨λn a w h=>wpList_plain hg λK m=>?_⟩;have l:=h.ev hx;obtain⟨p,f,j,g,q⟩:=l;have c:∃b:Bool,(b=U->xs=[])/\(execOp a.eval o).run P w=.ok (.value<|.bool b) w:=by
  refine⟨p.isNone,λr=>?_,?_⟩;·simp_all
  ·simp only[execOp,ho,j];simp only[wG];have e:(eqGuard BinOp.eql t x (wR<|vC Y 0 0) (vC p xs.length f)<|vC Y 0 0).run P w=.ok () w:=by simp[eqGuard]
   simp[e,Lib.run_eql_slice_nil w t el p xs.length f 0 0 htu]
 obtain⟨b,i,c⟩:=c;unfold vo;rw[c];exact m _ _<|(kk b i).run n _ _<|h.put (xz _ _) o.dst hd<|zt.2 rfl
def zgu (t:TypeId):Code:=(Code.region 0 #[{dst:=some 2,op:=Op.assign<|Operand.const<|Value.slice none 0 0,type:=t,pos:= "slices.go:355",after:=#[],guard:=none}] false).seq<|((Code.region 1 #[{dst:=some 3,op:=Op.move<|Operand.tmp 0,type:=t,pos:= "slices.go:357",after:=#[],guard:=none},{dst:=some 4,op:=Op.binOp BinOp.eql t (Operand.tmp 3) (Operand.const<|Value.slice none 0 0) t,type:=4,pos:= "slices.go:357",after:=#[{on:=0,ground:=Ground.data}],guard:=none}] false).seq<|Code.cond (xH 4) ((Code.region 2 #[{dst:=some 2,op:=Op.assign<|Operand.const<|Value.slice none 0 0,type:=t,pos:= "slices.go:358",after:=#[],guard:=none}] false).seq Code.ret) Code.skip).seq<|(Code.region 3 #[{dst:=some 5,op:=Op.buildSlice t 0 #[],type:=t,pos:= "slices.go:362",after:=#[],guard:=none},{dst:=some 6,op:=Op.move<|Operand.tmp 0,type:=t,pos:= "slices.go:362",after:=#[],guard:=none},{dst:=some 7,op:=Op.call {callee:=Callee.builtin Builtin.append,args:=#[Operand.tmp 5,Operand.tmp 6],argTypes:=#[t,t]},type:=t,pos:= "slices.go:362",after:=#[{on:=0,ground:=Ground.data},{on:=1,ground:=Ground.data}],guard:=none},{dst:=some 2,op:=Op.assign<|Operand.tmp 7,type:=t,pos:= "slices.go:362",after:=#[{on:=2,ground:=wc},{on:=2,ground:=Ground.chain},{on:=0,ground:=v9},{on:=1,ground:=v9},{on:=2,ground:=v9}],guard:=Y}] M).seq Code.ret
theorem TriL.clone {P}{C}{ops}{o:Oper}{rest}{Q}{T}{H}{f}{fn}{x}{tys}{α}{t el}{k bytes d:Nat}{enc}{xs zs:List α}(hg:o.guard=Y)(ho:o.op=.call {callee:=.value<|.func f,args:=#[x],argTypes:=tys})(hd:o.dst=O d)(hdn:xA d C.n=U)(hcl:zu0 P f=U)(hf:P.funcs[f]?=O fn)(hbody:fn.body=O (zgu t))(hN:fn.ntmps=8)(hrs:fn.results=#[.tmp 2])(hx:ev T x=O (.d<|.sl k<|xs.map enc))(ht:zcc P t el k bytes=U)(hb:xA 0 bytes=U)(hones:∀z,(enc z).ones=U)(hk:∀x,(enc x).kOK k=U)(hv:Go.Proofs.YtipkniadbkndfaaGreatDoor.app bytes [] xs=O zs)(hu:(T.all λp=>p.2.under H.length)=U)(hgn:xQ C.gn H.length=U)(kk:TriL P C ops rest Q ⟨(d,.vec H.length zs.length)::T,H++[.vec el k<|zs.map enc]⟩):TriL P C ops (o::rest) Q ⟨T,H⟩:=by
 have j:zs=xs:=by have:=(appS hv).1;simp_all
 have g:=(zbN ht).1;have a:(H++[Blk.vec el k<|xj enc []])[H.length]?=O (.vec el k<|xj enc []):=by simp
 have c:(H++[Blk.vec el k<|xj enc []]).set H.length (.vec el k<|zs.map enc)=H++[.vec el k<|zs.map enc]:=by simp
 refine TriL.inline (rs:=[.tmp 2]) (xs:=[.d<|.sl k<|xs.map enc]) hg (by grind[zvk]) (zwz.stat ho hcl<|by grind[evsV]) hf hbody hN hrs rfl hu hgn λh w l=>?_;refine .seq<|.region<|.op rfl rfl (.assign rfl rfl)<|.nil ?_;refine .seq<|.seq<|.region<|.op rfl rfl (.move rfl rfl)<|.eqNil rfl rfl rfl g rfl λb e=>.nil ?_;refine .cond (t:=b) rfl (λi=>?_) λ_=>.skip ?_
 ·have e:xs=[]:=by simp_all
  subst e;subst j;refine .seq<|.region<|.op rfl rfl (.assign rfl rfl)<|.nil ?_;refine .zxf 2 k el rfl<|.ret ⟨.inl rfl,[.vec H.length 0],⟨_,[],rfl,rfl,rfl⟩,?_⟩;rw[hd];exact kk
 ·refine .seq<|.region<|.zwk (α:=α) (enc:=enc) [] rfl rfl rfl rfl rfl ht rfl hk (by simp_all) ?_;refine .op rfl rfl (.move rfl rfl) ?_;refine .app rfl rfl rfl rfl rfl a rfl rfl ht hb hones hv ?_;refine .op rfl rfl (.assign rfl rfl)<|.nil ?_;refine .ret ⟨.inl rfl,[.vec H.length zs.length],⟨_,[],rfl,rfl,rfl⟩,?_⟩;rw[hd];simp only[St.put,c];exact kk
def optD {α:Type}(enc:α->D):Option α->D|none=>.val<|.pointer Y|some x=>.ref<|enc x
theorem ztG {α}{enc}{o}{x:α}(h:o=O x):optD enc o=.ref (enc x):=by rw[h];rfl
theorem D.Le.ofEq {d d'}(h:d=d'):D.Le d d':=h▸.refl _
end
section
variable[zuV][Drw]
end
section
variable[zuV][Drw]
structure zyg (P:Program)(f:FuncId):Prop where out:∃fn,P.funcs[f]?=some fn∧(fn.name== "runtime.NumGoroutine")=false∧fn.body.isNone=true∧Extern.findNext fn=none∧Extern.find fn=some Extern.BytealgIndexByte.indexByte
theorem OpV.idxByte {P o e H f x y tys}{l:List UInt8}{c}(ho:o.op=.call {callee:=.value<|.func f,args:=#[x,y],argTypes:=tys})(hf:zyg P f)(hx:e x=O (.d<|.str l))(hy:e y=O (.d<|.val<|.int .u8 c)):OpV P o e H<|.d<|.int<|Lib.indexByte l c.toNat.toUInt8:=by
 obtain⟨fn,h1,h2,h3,h4,h5⟩:=hf.out;refine⟨λA0 bs w g m hg _ hk=>?_⟩;have e1:=zt.1<|hg x (by simp[ho,xk,xW]) _ hx;have e2:=zt.1<|hg y (by simp[ho,xk,xW]) _ hy;have hrun:(execOp g o).run P w=.ok (.value<|.int .i64<|Lib.indexByte l c.toNat.toUInt8) w:=by have h:=run_callFunc_extern h1 h2 h3 h4 h5 #[.string ⟨l.toArray⟩,.int .u8 c] w;rw[Lib.run_indexByteString]at h;simp only[execOp,ho,resolve,hk,xY,xr,xt,xi,invoke];simpa[e1,e2]using h
 rw[hrun];exact⟨xz _ _,zt.2 rfl⟩
end
def tab0:List Int:=[0,0,0,0,0,0,0,0,0,1,1,1,1,1,0,0,0,0,0,0,0,0,0,0,0,0,0,0,0,0,0,0,1,0,0,0,0,0,0,0,0,0,0,0,0,0,0,0,0,0,0,0,0,0,0,0,0,0,0,0,0,0,0,0,0,0,0,0,0,0,0,0,0,0,0,0,0,0,0,0,0,0,0,0,0,0,0,0,0,0,0,0,0,0,0,0,0,0,0,0,0,0,0,0,0,0,0,0,0,0,0,0,0,0,0,0,0,0,0,0,0,0,0,0,0,0,0,0,0,0,0,0,0,0,0,0,0,0,0,0,0,0,0,0,0,0,0,0,0,0,0,0,0,0,0,0,0,0,0,0,0,0,0,0,0,0,0,0,0,0,0,0,0,0,0,0,0,0,0,0,0,0,0,0,0,0,0,0,0,0,0,0,0,0,0,0,0,0,0,0,0,0,0,0,0,0,0,0,0,0,0,0,0,0,0,0,0,0,0,0,0,0,0,0,0,0,0,0,0,0,0,0,0,0,0,0,0,0,0,0,0,0,0,0,0,0,0,0,0,0,0,0,0,0,0,0]
instance dF:Drw:=⟨False⟩
instance globs:zuV:=⟨[(0,.cells (tab0.map<|wQ .u8).toArray 336 (0,0))]⟩
theorem gm0:(0,Obj.cells (tab0.map<|wQ .u8).toArray 336 (0,0))∈xK:=uR
theorem tl0:256=tab0.length:=by decide+kernel
section
theorem I.{u}{α:Sort u}{a:α}:a=a:=rfl
theorem Looks.c {T:List<|Nat×V}{k:Nat}{v:V}{ks:List Nat}{K:List<|Nat×V}(h:look k T=O v)(r:Looks T ks K):Looks T (k::ks)<|(k,v)::K:=.cons h r
theorem bK {α R:Type}{o:Option α}{k:α->Option R}{r:R}{G:Prop}(h:o.bind k=O r)(f:∀v,o=O v->k v=O r->G):G:=by
 obtain⟨v,h1,h2⟩:=zvq h;exact f v h1 h2
theorem gK {R:Type}{c:Bool}{m:Option R}{r:R}{G:Prop}(h:grd c m=O r)(f:c=U->m=O r->G):G:=f (grdS h).1 (grdS h).2
theorem Pure.ot [zuV][Drw]{P:Program}{f:FuncId}{fn:Func}{c:Code}{xs:List D}{y:D}{m:Nat}(hf:P.funcs[f]?=O fn)(hb:fn.body=O c)(hm:fn.ntmps=m)(hn:xQ xs.length m=U)(h:∀A w,Tri P ⟨A,zg,w,m,λ_ _=>False,[],0,[]⟩ c (retQ P fn.results y) ⟨params 0 xs,[]⟩):Pure P f xs y:=by
 subst hm;exact Pure.zxN hf hb (yt hn) h
theorem Looks.c2 {T:List<|Nat×V}{k0 k1:Nat}{v0 v1:V}{ks:List Nat}{K:List<|Nat×V}(h:(look k0 T,look k1 T)=(O v0,O v1))(r:Looks T ks K):Looks T (k0::k1::ks)<|(k0,v0)::(k1,v1)::K:=by simp only[yh]at h;exact .cons h.1<|.cons h.2 r
theorem Looks.c4 {T:List<|Nat×V}{k0 k1 k2 k3:Nat}{v0 v1 v2 v3:V}{ks:List Nat}{K:List<|Nat×V}(h:(look k0 T,look k1 T,look k2 T,look k3 T)=(O v0,O v1,O v2,O v3))(r:Looks T ks K):Looks T (k0::k1::k2::k3::ks)<|(k0,v0)::(k1,v1)::(k2,v2)::(k3,v3)::K:=by simp only[yh]at h;exact .cons h.1<|.cons h.2.1<|.cons h.2.2.1<|.cons h.2.2.2 r
theorem Looks.c8 {T:List<|Nat×V}{k0 k1 k2 k3 k4 k5 k6 k7:Nat}{v0 v1 v2 v3 v4 v5 v6 v7:V}{ks:List Nat}{K:List<|Nat×V}(h:(look k0 T,look k1 T,look k2 T,look k3 T,look k4 T,look k5 T,look k6 T,look k7 T)=(O v0,O v1,O v2,O v3,O v4,O v5,O v6,O v7))(r:Looks T ks K):Looks T (k0::k1::k2::k3::k4::k5::k6::k7::ks)<|(k0,v0)::(k1,v1)::(k2,v2)::(k3,v3)::(k4,v4)::(k5,v5)::(k6,v6)::(k7,v7)::K:=by simp only[yh]at h;exact .cons h.1<|.cons h.2.1<|.cons h.2.2.1<|.cons h.2.2.2.1<|.cons h.2.2.2.2.1<|.cons h.2.2.2.2.2.1<|.cons h.2.2.2.2.2.2.1<|.cons h.2.2.2.2.2.2.2 r
theorem Fz1.{u}{α:Sort u}{a b:α}{R:Prop}(h:a=b)(r:R):a=b/\R:=⟨h,r⟩
theorem Fz2 {α0 α1:Type}{a0 b0:α0}{a1 b1:α1}{R:Prop}(h:(a0,a1)=(b0,b1))(r:R):a0=b0/\a1=b1/\R:=by simp only[yh]at h;exact⟨h.1,h.2,r⟩
theorem FzE.{u}{α:Sort u}{a:α}:a=a/\True:=⟨rfl,trivial⟩
theorem Fz8 {α0 α1 α2 α3 α4 α5 α6 α7:Type}{a0 b0:α0}{a1 b1:α1}{a2 b2:α2}{a3 b3:α3}{a4 b4:α4}{a5 b5:α5}{a6 b6:α6}{a7 b7:α7}{R:Prop}(h:(a0,a1,a2,a3,a4,a5,a6,a7)=(b0,b1,b2,b3,b4,b5,b6,b7))(r:R):a0=b0/\a1=b1/\a2=b2/\a3=b3/\a4=b4/\a5=b5/\a6=b6/\a7=b7/\R:=by simp only[yh]at h;exact⟨h.1,h.2.1,h.2.2.1,h.2.2.2.1,h.2.2.2.2.1,h.2.2.2.2.2.1,h.2.2.2.2.2.2.1,h.2.2.2.2.2.2.2,r⟩
variable[zuV][Drw]
theorem TriL.p {P:Program}{C:Ctx}{ops:Array Oper}{o:Oper}{rest:List Oper}{Q:Exit->St->Prop}{s:St}{v:V}(h:(o.guard,zvk o.dst C.n)=(Y,U))(hv:OpV P o (ev s.T) s.H v)(k:TriL P C ops rest Q<|s.put o.dst v):TriL P C ops (o::rest) Q s:=by
 simp only[yh]at h;exact .op h.1 h.2 hv k
theorem Tri.sr {P:Program}{C:Ctx}{Q:Exit->St->Prop}{s:St}{id:Nat}{l:List Oper}{y:Code}(h:TriL P C l.toArray l (zxi (Tri P C y Q) Q) s):Tri P C (.seq (.region id l.toArray M) y) Q s:=.seq<|.region h
section
variable{P:Program}{n:Nat}{ops:Array Oper}{H:List Blk}{o:Oper}{rest:List Oper}{al:List Ev}{T:List<|Nat×V}{K:List Ev->List (Nat×V)->Prop}
theorem TriQ.p {d:Nat}{v:V}(h:(o.guard,o.dst,xA d n,zaq o)=(Y,O d,U,M))(hv:OpV P o (ev T) H v)(k:TriQ P n ops H rest al ((d,v)::T) K):TriQ P n ops H (o::rest) al T K:=by
 simp only[yh]at h;exact .op h.1 h.2.1 h.2.2.1 h.2.2.2 hv k
theorem TriQ.q {d:Nat}{v:V}{j g:Nat}{want:Bool}(h:(o.guard,ops[j]?.bind (·.dst),look g T,o.dst,xA d n,zaq o)=(O (j,want),O g,O<|.d<|.bool want,O d,U,M))(hv:OpV P o (ev T) H v)(k:TriQ P n ops H rest al ((d,v)::T) K):TriQ P n ops H (o::rest) al T K:=by
 simp only[yh]at h;exact .gop h.1 h.2.1 h.2.2.1 h.2.2.2.1 h.2.2.2.2.1 h.2.2.2.2.2 hv k
end
variable{P:Program}{o:Oper}{e:Operand->Option V}{H:List Blk}
theorem OpV.asg {x:Operand}{v:V}(h:(o.op,e x)=(.assign x,O v)):OpV P o e H v:=by
 simp only[yh]at h;exact .assign h.1 h.2
theorem OpV.nt {t:TypeId}{x:Operand}{b:Bool}(h:(o.op,e x)=(.unOp .not t x,O<|.d<|.bool b)):OpV P o e H<|.d<|.bool !b:=by
 simp only[yh]at h;exact .not h.1 h.2
theorem OpV.bx {t:TypeId}{x:Operand}{d:D}(h:(o.op,e x)=(.box t x,O<|.d d)):OpV P o e H<|.d<|.ref d:=by
 simp only[yh]at h;exact .box h.1 h.2
theorem OpV.ad {t u:TypeId}{x y:Operand}{a b:Int}(h:(o.op,e x,e y)=(.binOp .add t x y u,O<|.d<|.int a,O<|.d<|.int b)):OpV P o e H<|.d<|.int<|zuN a b:=by
 simp only[yh]at h;exact .add6 h.1 h.2.1 h.2.2
theorem OpV.sb {t u:TypeId}{x y:Operand}{a b:Int}(h:(o.op,e x,e y)=(.binOp .sub t x y u,O<|.d<|.int a,O<|.d<|.int b)):OpV P o e H<|.d<|.int<|zuY a b:=by
 simp only[yh]at h;exact .sub6 h.1 h.2.1 h.2.2
theorem OpV.ls {t u:TypeId}{x y:Operand}{k:IntKind}{a b:Int}(h:(o.op,e x,e y)=(.binOp .lss t x y u,O<|.d<|.val<|.int k a,O<|.d<|.val<|.int k b)):OpV P o e H<|.d<|.bool<|Z<|a<b:=by
 simp only[yh]at h;exact .lss h.1 h.2.1 h.2.2
theorem OpV.le {t u:TypeId}{x y:Operand}{k:IntKind}{a b:Int}(h:(o.op,e x,e y)=(.binOp .leq t x y u,O<|.d<|.val<|.int k a,O<|.d<|.val<|.int k b)):OpV P o e H<|.d<|.bool<|Z<|a<=b:=by
 simp only[yh]at h;exact .leq h.1 h.2.1 h.2.2
theorem OpV.gt {t u:TypeId}{x y:Operand}{k:IntKind}{a b:Int}(h:(o.op,e x,e y)=(.binOp .gtr t x y u,O<|.d<|.val<|.int k a,O<|.d<|.val<|.int k b)):OpV P o e H<|.d<|.bool<|Z<|b<a:=by
 simp only[yh]at h;exact .gtr h.1 h.2.1 h.2.2
theorem OpV.ge {t u:TypeId}{x y:Operand}{k:IntKind}{a b:Int}(h:(o.op,e x,e y)=(.binOp .geq t x y u,O<|.d<|.val<|.int k a,O<|.d<|.val<|.int k b)):OpV P o e H<|.d<|.bool<|Z<|b<=a:=by
 simp only[yh]at h;exact .geq h.1 h.2.1 h.2.2
theorem OpV.eq {t u:TypeId}{x y:Operand}{k:IntKind}{a b:Int}(h:(o.op,e x,e y)=(.binOp .eql t x y u,O<|.d<|.val<|.int k a,O<|.d<|.val<|.int k b)):OpV P o e H<|.d<|.bool<|a==b:=by
 simp only[yh]at h;exact .eql h.1 h.2.1 h.2.2
theorem OpV.ne {t u:TypeId}{x y:Operand}{k:IntKind}{a b:Int}(h:(o.op,e x,e y)=(.binOp .neq t x y u,O<|.d<|.val<|.int k a,O<|.d<|.val<|.int k b)):OpV P o e H<|.d<|.bool<|a !=b:=by
 simp only[yh]at h;exact .neq h.1 h.2.1 h.2.2
theorem OpV.fa {t:TypeId}{x:Operand}{i:Nat}{a b:D}(h:(o.op,e x)=(.fieldAddr t x i,O<|.d<|.ref a))(hf:Fld P t i a b):OpV P o e H<|.d<|.ref b:=by
 simp only[yh]at h;exact .fieldAddr h.1 h.2 hf
theorem OpV.ld {t:TypeId}{x:Operand}{d:D}{k:Option Nat}(ht:zan P t=O k)(h:(o.op,e x,d.shape)=(.load t x,O<|.d<|.ref d,k)):OpV P o e H<|.d d:=by
 simp only[yh]at h;exact .load h.1 h.2.1 ht h.2.2
theorem OpV.ix {α:Type}{t el:TypeId}{x i:Operand}{k:Nat}{l:List α}{enc:α->D}{a:Int}{v:α}(h:(o.op,e x,e i)=(.indexAddr t x i,O<|.d<|.sl k<|l.map enc,O<|.d<|.int a))(ht:P.underlying t=O (.slice el))(hs:(P.info? el).map (·.size)=O k)(hv:Go.Proofs.YtipkniadbkndfaaGreatDoor.idx l a=O v):OpV P o e H<|.d<|.ref<|enc v:=by
 simp only[yh]at h;exact .idx h.1 h.2.1 h.2.2 ht hs hv
section
variable{P:Program}{C:Ctx}{ops:Array Oper}{o o':Oper}{rest:List Oper}{Q:Exit->St->Prop}{s:St}{v:V}{x y:Operand}{t u:TypeId}{i:Nat}{a b:D}{k:Option Nat}
theorem TriL.m (h:(o.guard,zvk o.dst C.n,o.op,ev s.T x)=(Y,U,.move x,O v))(r:TriL P C ops rest Q<|s.put o.dst v):TriL P C ops (o::rest) Q s:=by
 simp only[yh]at h;exact .op h.1 h.2.1 (.move h.2.2.1 h.2.2.2) r
theorem TriL.z (h:(o.guard,zvk o.dst C.n,o.op,ev s.T x)=(Y,U,.assign x,O v))(r:TriL P C ops rest Q<|s.put o.dst v):TriL P C ops (o::rest) Q s:=by
 simp only[yh]at h;exact .op h.1 h.2.1 (.assign h.2.2.1 h.2.2.2) r
theorem TriL.f (h:(o.guard,zvk o.dst C.n,o.op,ev s.T x)=(Y,U,.fieldAddr t x i,O<|.d<|.ref a))(hf:Fld P t i a b)(ht:zan P u=O k)(h':(o'.guard,zvk o'.dst C.n,o'.op,ev (s.put o.dst<|.d<|.ref b).T y,b.shape)=(Y,U,.load u y,O<|.d<|.ref b,k))(r:TriL P C ops rest Q<|(s.put o.dst<|.d<|.ref b).put o'.dst<|.d b):TriL P C ops (o::o'::rest) Q s:=by
 simp only[yh]at h h';exact .op h.1 h.2.1 (.fieldAddr h.2.2.1 h.2.2.2 hf)<|.op h'.1 h'.2.1 (.load h'.2.2.1 h'.2.2.2.1 ht h'.2.2.2.2) r
end
section
variable{P:Program}{n:Nat}{ops:Array Oper}{H:List Blk}{l:List Oper}{p o o':Oper}{rest:List Oper}{al:List Ev}{T:List<|Nat×V}{K:List Ev->List (Nat×V)->Prop}{x y:Operand}{v:V}{d d' j j' g g' r i:Nat}{w w' bo b2:Bool}{t u:TypeId}{a b:D}{k:Option Nat}
theorem TriQ.m (h:(o.guard,o.dst,xA d n,o.op,ev T x)=(Y,O d,U,.move x,O v))(r:TriQ P n ops H rest al ((d,v)::T) K):TriQ P n ops H (o::rest) al T K:=by
 simp only[yh]at h;exact .op h.1 h.2.1 h.2.2.1 (by simp[zaq,h.2.2.2.1]) (.move h.2.2.2.1 h.2.2.2.2) r
theorem TriQ.z (h:(o.guard,o.dst,xA d n,o.op,ev T x)=(Y,O d,U,.assign x,O v))(r:TriQ P n ops H rest al ((d,v)::T) K):TriQ P n ops H (o::rest) al T K:=by
 simp only[yh]at h;exact .op h.1 h.2.1 h.2.2.1 (by simp[zaq,h.2.2.2.1]) (.assign h.2.2.2.1 h.2.2.2.2) r
theorem TriQ.f (h:(o.guard,o.dst,xA d n,o.op,ev T x)=(Y,O d,U,.fieldAddr t x i,O<|.d<|.ref a))(hf:Fld P t i a b)(ht:zan P u=O k)(h':(o'.guard,o'.dst,xA d' n,o'.op,ev ((d,.d<|.ref b)::T) y,b.shape)=(Y,O d',U,.load u y,O<|.d<|.ref b,k))(r:TriQ P n ops H rest al ((d',.d b)::(d,.d<|.ref b)::T) K):TriQ P n ops H (o::o'::rest) al T K:=by
 simp only[yh]at h h';exact .op h.1 h.2.1 h.2.2.1 (by simp[zaq,h.2.2.2.1]) (.fieldAddr h.2.2.2.1 h.2.2.2.2 hf)<|.op h'.1 h'.2.1 h'.2.2.1 (by simp[zaq,h'.2.2.2.1]) (.load h'.2.2.2.1 h'.2.2.2.2.1 ht h'.2.2.2.2.2) r
theorem TriQ.qf (h:(o.guard,ops[j]?.bind (·.dst),look g T,o.dst,xA d n,o.op,ev T x)=(O (j,w),O g,O<|.d<|.bool w,O d,U,.fieldAddr t x i,O<|.d<|.ref a))(hf:Fld P t i a b)(ht:zan P u=O k)(h':(o'.guard,ops[j']?.bind (·.dst),look g'<|(d,.d<|.ref b)::T,o'.dst,xA d' n,o'.op,ev ((d,.d<|.ref b)::T) y,b.shape)=(O (j',w'),O g',O<|.d<|.bool w',O d',U,.load u y,O<|.d<|.ref b,k))(r:TriQ P n ops H rest al ((d',.d b)::(d,.d<|.ref b)::T) K):TriQ P n ops H (o::o'::rest) al T K:=by
 simp only[yh]at h h';exact .gop h.1 h.2.1 h.2.2.1 h.2.2.2.1 h.2.2.2.2.1 (by simp[zaq,h.2.2.2.2.2.1]) (.fieldAddr h.2.2.2.2.2.1 h.2.2.2.2.2.2 hf)<|.gop h'.1 h'.2.1 h'.2.2.1 h'.2.2.2.1 h'.2.2.2.2.1 (by simp[zaq,h'.2.2.2.2.2.1]) (.load h'.2.2.2.2.2.1 h'.2.2.2.2.2.2.1 ht h'.2.2.2.2.2.2.2) r
theorem TriQ.jA (m:Nat)(b2:Bool)(h:(l.drop m,p.op,look g T,zfp ops n g U (l.take m) [],p.guard,p.dst,xA d n)=(p::rest,.pick (.tmp g) (.tmp r)<|.const<|.bool M,O<|.d<|.bool bo,U,Y,O d,U))(h1:bo=U->TriQ P n ops H (l.take m) al ((g,.d<|.bool U)::T) λ_ T'=>look r T'=O (.d<|.bool b2))(h2:TriQ P n ops H rest al ((d,.d<|.bool<|bo&&b2)::zxx (dsts<|l.take m) T) K):TriQ P n ops H l al T K:=by
 simp only[yh]at h;exact .jAnd m h.1 h.2.1 h.2.2.1 h.2.2.2.1 (.inl h.2.2.2.2.1) (λ_ _ _ q=>by rw[h.2.2.2.2.1]at q;cases q) h.2.2.2.2.2.1 h.2.2.2.2.2.2 h1 h2
theorem TriQ.jO (m:Nat)(b2:Bool)(h:(l.drop m,p.op,look g T,zfp ops n g M (l.take m) [],p.guard,p.dst,xA d n)=(p::rest,.pick (.tmp g) (.const<|.bool U)<|.tmp r,O<|.d<|.bool bo,U,Y,O d,U))(h1:bo=M->TriQ P n ops H (l.take m) al ((g,.d<|.bool M)::T) λ_ T'=>look r T'=O (.d<|.bool b2))(h2:TriQ P n ops H rest al ((d,.d<|.bool<|bo||b2)::zxx (dsts<|l.take m) T) K):TriQ P n ops H l al T K:=by
 simp only[yh]at h;exact .jOr m h.1 h.2.1 h.2.2.1 h.2.2.2.1 (.inl h.2.2.2.2.1) (λ_ _ _ q=>by rw[h.2.2.2.2.1]at q;cases q) h.2.2.2.2.2.1 h.2.2.2.2.2.2 h1 h2
end
theorem rO {R:Type}{P:Program}{t:Tmp}{e r:R}{enc:R->D}{s:St}(h:O e=O r)(hl:look t s.T=O (.d<|enc e)):retQ P #[.tmp t] (enc r) .ret s:=by
 cases h;exact zgm hl<|.d _
end
section
variable[zuV][Drw]
def zxu (s':St)(e:Exit)(s:St):Prop:=e=.normal/\s=s'
theorem Oper.zyf {P:Program}{C:Ctx}{s':St}{o:Oper}{a:Act}{w:World}{K:Act->World->Prop}{Q:Exit->Act->World->Prop}(hK:∀a w,(∃bs,R C bs s' a w)->K a w)(h:o.wp P a w (QR C (zxu s') .normal)<|QR C<|zxu s'):o.wp P a w K Q:=by
 have hn:∀a w,QR C (zxu s') .normal a w->K a w:=λa w h=>by
  rcases h with⟨bs',s1,⟨_,rfl⟩,hR⟩|⟨h,_⟩;·exact hK a w ⟨bs',hR⟩
  ·cases h
 have hp:∀c a w,¬QR C (zxu s') (.panic c) a w:=λc a w h=>by rcases h with⟨bs',s1,⟨h,_⟩,hR⟩|⟨h,_⟩<;>cases h
 have ho:¬LetsOut (QR C<|zxu s'):=λ⟨a,w,h⟩=>by rcases h with⟨bs',s1,⟨h,_⟩,hR⟩|⟨h,_⟩<;>cases h
 unfold vo at*;generalize(execOp a.eval o).run P w=r at*;cases r with
 |ok n w'=>
  cases n<;>simp only[va]at h|-;case value u=>exact hn _ _ h
  case skip=>exact hn _ _ h
  case defer d=>exact hn _ _ h
  case enter f args=>
   refine vY h λe w'' he=>?_;cases e with
   |returned u=>exact hn _ _ he|panicked c=>exact absurd he<|hp _ _ _|outgrown=>exact absurd he ho
  case row row args=>exact Rows.mono h λu w'' he=>hn _ _ he|halt x w'=>
  cases x<;>simp only[va]at h|-;case panic u=>exact absurd h<|hp _ _ _
theorem TriL.one {P:Program}{C:Ctx}{ops:Array Oper}{o:Oper}{s s':St}(h:TriL P C ops [o] (zxu s') s){i:Nat}(hi:ops[i]?=O o){bs:List<|Option Nat}{a:Act}{w:World}(hR:R C bs s a w){K:Act->World->Prop}{Q:Exit->Act->World->Prop}(hK:∀a w,(∃bs,R C bs s' a w)->K a w):wpOp P ops Q i K a w:=by
 have h1:=h.run bs a w hR;unfold wpOp;simp only[hi];unfold wpList at h1;split
 ·rename_i hw;rw[if_pos hw]at h1;rcases h1 with h1|⟨_,a1,w1,h1⟩;·exact .inl<|Oper.zyf hK h1
  ·rcases h1 with⟨bs',s1,⟨h,_⟩,hR⟩|⟨h,_⟩<;>cases h
 ·rename_i hw;rw[if_neg hw]at h1;rcases h1 with⟨bs',s1,⟨_,rfl⟩,hR⟩|⟨h,_⟩;·exact hK _ _ ⟨bs',hR⟩
  ·cases h
structure TriA (P:Program)(C:Ctx)(ops:Array Oper)(fuel:Nat)(listed:Array Bool)(Q:Exit->St->Prop)(s:St):Prop where run:∀bs a w,R C bs s a w->wpAny P .any ops (QR C Q) fuel listed a w
theorem TriA.done {P C ops listed Q s}(hr:wr .any ops listed=[])(h:Q .normal s):TriA P C ops 0 listed Q s:=⟨λbs _ _ hR=>⟨hr,.inl ⟨bs,s,h,hR⟩⟩⟩
inductive Nexts (P:Program)(C:Ctx)(ops:Array Oper)(fuel:Nat)(listed:Array Bool)(Q:Exit->St->Prop)(s:St):List Nat->Prop|nil:Nexts P C ops fuel listed Q s []|cons{i:Nat}{o:Oper}{s':St}{is:List Nat}:ops.toList[i]?=O o->TriL P C ops [o] (zxu s') s->TriA P C ops fuel (listed.setIfInBounds i U) Q s'->Nexts P C ops fuel listed Q s is->Nexts P C ops fuel listed Q s (i::is)
theorem TriA.step {P C ops fuel listed Q s}(i is)(hr:wr .any ops listed=i::is)(h:Nexts P C ops fuel listed Q s<|i::is):TriA P C ops (fuel+1) listed Q s:=by
 refine⟨λbs a w hR=>⟨λh0=>(by rw[hr]at h0;cases h0),?_⟩⟩;rw[hr];clear hr;generalize i::is=rs at h;induction h with
 |nil=>intro j hj;cases hj|cons h1 h2 h3 _ ih=>
  intro j hj;rcases yF.1 hj with rfl|hj;·exact h2.one (by simpa using h1) hR λa w⟨bs',hR'⟩=>h3.run bs' a w hR'
  ·exact ih j hj
def zsZ (o:Oper):Bool:=match o.guard,o.op with|none,.move _=>U|_,_=>M
theorem TriA.first {P C ops fuel listed Q s s' o}(i)(hi0:ops.toList[i]?=O o)(hs:Region.noSelect ops=U)(hf:Region.free .any ops listed i=U)(hr:(wr .any ops listed).contains i=U)(hm:zsZ o=U)(h1:TriL P C ops [o] (zxu s') s)(h2:TriA P C ops fuel (listed.setIfInBounds i U) (zcg Q) s'):TriA P C ops (fuel+1) listed (zcg Q) s:=by
 have hi:ops[i]?=O o:=by simpa using hi0
 refine⟨λbs a w hR=>?_⟩;unfold zsZ at hm;split at hm
 ·rename_i x hg ho;have hrun:∀w',(execOp a.eval o).run P w'=.ok (.value<|a.eval x) w':=λw'=>by simp[execOp,ho]
  have hw:wg o (yielded ops a.tmps)=true:=by simp[wg,hg]
  refine wpAny_take (v:=a.eval x) hi hs hf hr (λc a w h=>?_) (.inl ⟨hw,hrun⟩) ?_
  ·rcases h with⟨_,_,h,_⟩|⟨h,_⟩;·exact h.elim
   ·cases h
  ·have h3:=h1.one hi hR (Q:=QR C<|zcg Q) (K:=λa' w'=>∃bs,R C bs s' a' w') λ_ _ h=>h;have h4:=h1.run bs a w hR;unfold wpList at h4;rw[if_pos hw]at h4;rcases h4 with h4|⟨_,a1,w1,h4⟩
   ·simp only[vo,hrun,va,wpList]at h4;rcases h4 with⟨bs',s1,⟨_,rfl⟩,hR'⟩|⟨h,_⟩;·exact h2.run bs' _ _ hR'
    ·cases h
   ·rcases h4 with⟨bs',s1,⟨h,_⟩,hR⟩|⟨h,_⟩<;>cases h
 ·cases hm
theorem TriA.to {P C ops fuel listed Q s}(listed')(e:listed=listed')(h:TriA P C ops fuel listed' Q s):TriA P C ops fuel listed Q s:=by subst e;exact h
theorem Tri.drawA {P C Q s id l}(n)(hm:P.follows .mixedOrders=U)(hn:l.size=n)(h:TriA P C l n (xu n M) (zcg Q) s):Tri P C (.region id l U) Q s:=by subst hn;refine Tri.mono (Q:=zcg Q) ⟨λbs a w hR=>?_⟩ (λe s hq=>by cases e<;>first|exact hq.elim|exact hq);exact wp_region_any hm<|h.run bs a _ hR.drew
end
section
variable[zuV][Drw]
theorem TriL.eqD {P C ops rest Q T H}(t){d d'}(ht:look t T=O (.d d))(e:d=d')(k:TriL P C ops rest Q ⟨(t,.d d')::T,H⟩):TriL P C ops rest Q ⟨T,H⟩:=by subst e;exact⟨λ_ a w hR=>k.run _ a w<|hR.know (hR.tmp t _ ht).1 (hR.tmp t _ ht).2⟩
end
section
variable[zuV][Drw]
theorem TriA.via {P C ops fuel listed Q s}(f l' s')(h:TriA P C ops f l' Q s')(k:TriA P C ops f l' Q s'->TriA P C ops fuel listed Q s):TriA P C ops fuel listed Q s:=k h
theorem TriA.zw0 {P C ops fuel listed Q T K H}(ks)(hK:Looks T ks K)(h:TriA P C ops fuel listed Q ⟨K,H⟩):TriA P C ops fuel listed Q ⟨T,H⟩:=⟨λc a w b=>h.run c a w<|b.weaken hK.sub.look⟩
section
variable{P:Program}{C:Ctx}{ops:Array Oper}{o:Oper}{rest:List Oper}{Q:Exit->St->Prop}{T:List<|Nat×V}{H:List Blk}{e:Operand->Option V}
theorem zpH {bs:List<|Option Nat}{i}{c}(h:bs[i]?=O c):bs.set i c=bs:=by
 refine ua λq=>?_;grind
theorem TriL.buildQue {α:Type}{t el}{len k bytes d:Nat}{parts}{enc}(xs:List α)(hg:o.guard=Y)(ho:o.op=.buildSlice t len parts)(hd:o.dst=O d)(hdn:xA d C.n=U)(hp:parts.toList.map (·.1)=wt 0 len)(he:zcc P t el k bytes=U)(hx:evs (ev T) (parts.toList.map (·.2))=O (xs.map enc))(hk:∀x,(enc x).kOK k=U)(hl:xQ (len*k) 16777216=U)(kk:TriL P C ops rest Q ⟨(d,.que H.length 0)::T,H++[.que 0 el k<|xs.map enc]⟩):TriL P C ops (o::rest) Q ⟨T,H⟩:=by
 obtain⟨htu,hk0,inf,z,hinf,hz,hisz,hib,hzc⟩:=zbN he;refine wI hg (λbs a w hR=>?_) kk;have hreps:xv (Own C.A0 bs) w (xs.map enc)<|(parts.toList.map (·.2)).map a.eval:=zff (H:=H) hx λx _ y hy=>hR.ev hy;have hcells:=D.zwx hreps (k:=k) (by intro d hd;obtain⟨x,_,rfl⟩:=y7.1 hd;exact hk x);have hlen:=congrArg xh hp;simp only[yL,List.length_range',yE]at hlen;have hkk:∀u∈(parts.toList.map (·.2)).map a.eval,u.cells.size=k:=by
  intro u hu;obtain⟨i,hi,rfl⟩:=wh hu;have hl2:=D.zva hreps;have hi':i<(xs.map enc).length:=by rw[<-hl2];exact hi
  obtain⟨v,hv,hr⟩:=D.zvF hreps i (xs.map enc)[i]<|yB hi';rw[yB hi]at hv;cases hv;rw[List.getElem_map]at hr;exact D.zwS hr<|hk _
 obtain⟨cells,g1,g2⟩:=zfy (P:=P) (w:=w) (k:=k) htu hinf hz hisz hzc hkk<|by have:=yt hl;simp only[yL,yE,hlen];omega
 have hzip:=zna (β:=D) parts.toList 0 (by rw[hp];simp[hlen]);have harr:(parts.map λ(i,x)=>(i,a.eval x))=((((parts.toList.map (·.2)).map a.eval).zipIdx 0).map λp=>(p.2,p.1)).toArray:=by
  apply Array.ext';rw[vU];conv=>lhs;rw[hzip]
  simp only[List.zipIdx_map,List.map_map];rfl
 have hrun:(execOp a.eval o).run P w=.ok (.value<|.slice (O ⟨w.heap.size,0,Y⟩) len len) (w.alloc<|.cells cells el):=by simp only[yL,yE,hlen]at g2;simp only[execOp,ho,xr,harr,g2,xi,xt]
 have hxl:xs.length=len:=by have:=D.zva hreps;simp at this;omega
 have hcl:cells.size=len*k:=by have:=D.zwa hcells;rw[<-g1]at this;simp only[yE,yL]at this;rw[this,hxl]
 refine⟨_,_,bs++[O w.heap.size],hrun,.inl ⟨_,rfl,?_⟩⟩;have hl2:=hR.len;simp only at hl2;have h2:=hR.newObj (.cells cells el) (.que 0 el k<|xs.map enc) (by grind[xL]);have hfr:Fr zg w<|w.alloc<|.cells cells el:=⟨rfl,rfl,rfl,by simp,λb hb _=>xE w _ b hb,λ_=>yk _⟩;have hA0:∀b,b<w.heap.size->Own C.A0 (bs++[O w.heap.size]) b->Own C.A0 bs b:=λb hb hb'=>by
  rcases hb' with hb'|hb';·exact .inl hb'
  ·rcases yu.1 hb' with hb'|hb';·exact .inr hb'
   grind
 have:=h2.put (xz _ _) (O d) (by grind[zvk]) (v:=.que H.length 0) (u:=.slice (O ⟨w.heap.size,0,Y⟩) len len)<|by simp only[xm];rw[yP<|yk _];simp only[uw,yS];refine⟨yk _,λ_=>⟨w.heap.size,0,len,by grind,by grind,?_⟩⟩;refine⟨by grind,cells,heap_alloc_new w _,by grind,cells.toList,?_,λj v hv=>by grind⟩;rw[g1];exact D.zve hfr (λ_ x=>x.elim) hA0 _ _ hcells
 rw[hd];exact this
theorem OpV.lenQ {x t el k i s t'}{xs}(ho:o.op=.call {callee:=.builtin .len,args:=#[x],argTypes:=#[t]})(ht:P.underlying t=O (.slice t'))(hx:e x=O (.que i s))(hi:H[i]?=O (.que s el k xs)):OpV P o e H<|.d<|.int (xs.length:Int):=.of_same λl n w f m j=>by have a:=j x (by grind[xk,xW]) _ hx;simp only[xm,hi]at a;obtain⟨b,g,h,_,c,_⟩:=a.2 trivial;refine⟨.int .i64 xs.length,?_,zt.2 rfl⟩;simp[execOp,ho,resolve,invoke,builtin,tf,c,run_underlying ht,goInt]
theorem OpV.lenQL {α:Type}{x t el k i s t'}{enc}{l:List α}(ho:o.op=.call {callee:=.builtin .len,args:=#[x],argTypes:=#[t]})(ht:P.underlying t=O (.slice t'))(hx:e x=O (.que i s))(hi:H[i]?=O (.que s el k<|l.map enc)):OpV P o e H<|.d<|.int (l.length:Int):=by grind[OpV.lenQ,List.length_map]
theorem OpV.idxQ {α}{t el el' x i}{k bi s}{l}{enc}{a}{v:α}(ho:o.op=.indexAddr t x i)(hx:e x=O (.que bi s))(hb:H[bi]?=O (.que s el' k<|l.map enc))(hi:e i=O (.d<|.int a))(ht:P.underlying t=O (.slice el))(hs:(P.info? el).map (·.size)=O k)(hv:Go.Proofs.YtipkniadbkndfaaGreatDoor.idx l a=O v):OpV P o e H<|.qel bi s a.toNat:=by
 obtain⟨j,rfl,A,rfl⟩:=idxS hv;refine .of_same λC E w f m q=>?_;have p:=q x (by grind[xk]) _ hx;have z:=zt.1<|q i (by grind[xk]) _ hi;simp only[xm,hb]at p;obtain⟨b,h,y,r,u,B⟩:=p.2 trivial;cases c:P.info? el with
 |none=>simp_all|some inf=>
  have n:inf.size=k:=by simp_all
  refine⟨.pointer<|O ⟨b,h+j*k,Y⟩,?_,?_⟩
  ·have g:(0:Int)<=j/\(j:Int)<(l.map enc).length:=by simp_all
   simp only[execOp,ho,u,z,Instr.indexAt,asIntOf,xr,xt,xi,run_underlying ht];rw[if_pos g];simp[sizeOf,typeInfo,c,n,wq]
  ·simp only[xm];grind
theorem OpV.loadQ {α}{t el x}{i s k}{sh}{l}{enc}{a}{v:α}(ho:o.op=.load t x)(hx:e x=O (.qel i s a.toNat))(hi:H[i]?=O (.que s el k<|l.map enc))(hv:Go.Proofs.YtipkniadbkndfaaGreatDoor.idx l a=O v)(ht:zan P t=O sh)(hk:(enc v).shape=sh):OpV P o e H<|.d<|enc v:=.of_same λQ xa w f m B=>by
  obtain⟨j,rfl,L,rfl⟩:=idxS hv;have p:=B x (by grind[xk]) _ hx;simp only[xm,hi]at p;obtain⟨b,c,xf,_,n,_,r⟩:=p.2 trivial;obtain⟨C,g,E,F,xd,h,A⟩:=r;obtain⟨z,u,N,G⟩:=D.zxC h j (by simp_all);simp only[List.getElem_map]at u;simp only[yr]at n;have K:zdr w b (c+j*k) z:=λq r=>by
   have y:=G q (by omega);rw[zab E,<-y];grind
  refine⟨z,?_,by grind[xm]⟩;simp only[execOp,ho,n,xr,zcC ht u hk K,xi,xt]
theorem D.zzn {A w k}(n){xs}{cells}(h:xM A w k xs cells):xM A w k (xs.drop n)<|cells.drop<|n*k:=(D.zv5 n h).2
theorem TriL.queTail {α}{t el el' x y}{d i s k:Nat}{l r}{enc:α->D}{lo}(hg:o.guard=Y)(ho:o.op=.slice t x (O y) Y Y)(hd:o.dst=O d)(hdn:xA d C.n=U)(hx:ev T x=O (.que i s))(hi:H[i]?=O (.que s el' k<|l.map enc))(hy:ev T y=O (.d<|.int lo))(ht:P.underlying t=O (.slice el))(hs:(P.info? el).map (·.size)=O k)(hr:cut l lo (l.length:Int)=O r)(kk:TriL P C ops rest Q ⟨(d,.que i<|s+1)::T,H.set i<|.que (s+1) el' k<|r.map enc⟩):TriL P C ops (o::rest) Q ⟨T,H⟩:=by
 obtain⟨a,b,rfl,hb,h1,h2,rfl⟩:=cutS hr;have hb':l.length=b:=by omega
 subst hb';refine wI hg (λbs act w hR=>?_) kk;have e1:=hR.ev hx;have e2:=zt.1<|hR.ev hy;simp only[xm,hi]at e1;obtain⟨g,off,cap,hbs,hp,hle,cells,hh,hsz,cs,hfl,hcs⟩:=e1.2 trivial;simp only[yL]at hp hle;cases hinf:P.info? el with
 |none=>simp_all|some inf=>
  have hszk:inf.size=k:=by simpa[hinf]using hs
  have hel:P.elem t=el:=by simp[tk,ht]
  have hck:P.cellsOf el=k:=by simp[vW,hinf,hszk]
  have hrun:(execOp act.eval o).run P w=.ok (.value<|sliced (O ⟨g,off,Y⟩) a l.length cap k) w:=by have:=run_slice_l (P:=P) w t (O ⟨g,off,Y⟩) l.length cap (by rw[hel];exact ht) .i64 a (by omega) (by omega);rw[hel,run_sizeOf w hinf,hck]at this;simp only[yr,xi]at this;simp only[execOp,ho,hp,e2,yQ,vI,xr,run_sliceAt_slice w t _ _ _ _<|by rw[hel];exact ht,this,xi,xt]
  refine⟨_,_,bs,hrun,.inl ⟨_,rfl,?_⟩⟩;have hset:=zpH hbs;have hfr:Fr (λc=>O g=O c) w w:=xz _ w;have hupd:=R.upd (y:=.que (s+1) el' k<|((l.drop a).take<|l.length-a).map enc) (c:=O g) (c':=O g) hR hi hbs (by grind[Compat]) hfr (.inl rfl) (by grind[xL]);rw[hset]at hupd;have hli:=(yd.1 hi).1;have hlen:(l.drop a).take (l.length-a)=l.drop a:=xV (by simp);rw[hlen]at hupd|-;have:=hupd.put (xz _ _) (O d) (by grind[zvk]) (v:=.que i<|s+1) (u:=sliced (O ⟨g,off,Y⟩) a l.length cap k)<|by
   simp only[xm,yy hli];refine⟨yk _,λ_=>?_⟩;have hfl2:=D.zzn a hfl;rw[<-List.map_drop]at hfl2;by_cases hca:cap=a;·subst hca;refine⟨g,off,0,hbs,by simp[sliced],?_⟩;have:l.drop cap=[]:=wb (by omega);rw[this];exact⟨by simp,cells,hh,by grind,[],by simp[xM],by simp⟩
   ·refine⟨g,off+a*k,cap-a,hbs,by grind[sliced,wq],by grind,cells,hh,?_,cs.drop<|a*k,hfl2,λj v hv=>?_⟩
    ·have:a*k+(cap-a)*k=cap*k:=by rw[<-vm];grind
     omega
    grind
  rw[hd];exact this
theorem ziE {P}(w)(t ty e)(i)(ht:P.underlying t=O (.slice e))(hi:P.info? e=O i)(g off sLen sCap)(cur)(hg:w.heap[g]?=O (.cells cur e (0,0)))(a)(m c)(news)(hl:news.length=m*i.size)(hnews:∀j u,news[j]?=O u->w.cell? (a.add j)=O u)(h1:∀u∈news,u.oneCell'=U)(hroom:sLen+m<=sCap)(hfit:off+sLen*i.size+news.length<=cur.size):(Builtin.append_ #[t,t] ty #[.slice (O ⟨g,off,Y⟩) sLen sCap,.slice (O a) m c]).run P w=.ok (.slice (O ⟨g,off,Y⟩) (sLen+m) sCap) (w.setRow g (cur.toList.take (off+sLen*i.size)++news++cur.toList.drop (off+sLen*i.size+news.length)).toArray):=by have d:=run_firstCells_some (P:=P) w i.size m a m c news hl hnews;have b:=run_storeCells_at P g (off+sLen*i.size) e news 0 cur w hg (by simp_all) h1;simp[Builtin.append_,run_underlying ht,sizeOf,typeInfo,hi,u4,hroom,d,wq,b]
theorem zqU {w}{g}{c}:Fr (λb=>O g=O b) w<|w.setRow g c:=⟨rfl,rfl,rfl,by simp,λk _ a=>setRow_other w g k _ λe=>a<|by rw[e],λ_=>yk _⟩
theorem TriL.queApp {α:Type}{x y:Operand}{t el:TypeId}{i s k bytes d:Nat}{enc:α->D}{xs ys zs:List α}(hg:o.guard=Y)(ho:o.op=.call {callee:=.builtin .append,args:=#[x,y],argTypes:=#[t,t]})(hd:o.dst=O d)(hdn:xA d C.n=U)(hx:ev T x=O (.que i s))(hi:H[i]?=O (.que s el k<|xs.map enc))(hy:ev T y=O (.d<|.sl k<|ys.map enc))(ht:zcc P t el k bytes=U)(hb:xA 0 bytes=U)(hones:∀z,(enc z).ones=U)(hne:ys≠[])(hv:Go.Proofs.YtipkniadbkndfaaGreatDoor.app bytes xs ys=O zs)(kk:TriL P C ops rest Q ⟨(d,.que i<|s+1)::T,H.set i<|.que (s+1) el k<|zs.map enc⟩):TriL P C ops (o::rest) Q ⟨T,H⟩:=by
 obtain⟨rfl,hsz⟩:=appS hv;simp only[uG]at hb;have hml:xs.length+ys.length<=maxLen:=by have:xs.length+ys.length<=(xs.length+ys.length)*bytes:=wV _ hb;simp only[maxLen];omega
 obtain⟨htu,hk0,inf,z,hinf,hz,hisz,hib,hzc⟩:=zbN ht;refine wI hg (λbs act w hR=>?_) kk;have e1:=hR.ev hx;have e2:=hR.ev hy;simp only[xm,hi]at e1;obtain⟨g,off,cap,hbs,hp,hle,cells,hh,hcsz,cs,hfl,hcs⟩:=e1.2 trivial;simp only[yL]at hp hle;simp only[xm,xD]at e2;obtain⟨ad,cap2,hp2,hcap2,hrow⟩:=e2;rcases hrow with hrow|⟨b2,off2,rfl,hb2A,hb2,hrow⟩;·exact absurd (by simpa using hrow) hne
 obtain⟨news,hfl2,hnews⟩:=D.zxE _ _ hrow;have hnl:=D.zwa hfl2;have hcl:=D.zwa hfl;simp only[yL]at hnl hcl hp2;have hones2:∀u∈news,u.oneCell'=true:=D.zwR (λd hd=>by obtain⟨q,_,rfl⟩:=y7.1 hd;exact hones q) hfl2;have hli:=(yd.1 hi).1;have hgo:Own C.A0 bs g:=.inr<|yC hbs;have hWA:∀c,O g=O c->Own C.A0 bs c:=λc hc=>by cases hc;exact hgo
 have hfl3:xM (Own C.A0 bs) w k ((xs++ys).map enc)<|cs++news:=by rw[un];exact D.zwq hfl hfl2
 have hnk:(xs.length+ys.length)*k=xs.length*k+ys.length*k:=vm _ _ _;by_cases hroom:xs.length+ys.length<=cap
 ·have hck:xs.length*k+ys.length*k<=cap*k:=by rw[<-hnk];exact yH _ hroom
  have hr:=ziE (P:=P) w t o.type el inf htu hinf g off xs.length cap cells hh ⟨b2,off2,Y⟩ ys.length cap2 news (by rw[hnl,hisz]) (λj u hu=>by rw[wq];exact hnews j u hu) hones2 hroom (by rw[hnl,hisz];omega);rw[hisz]at hr;obtain⟨nw,hnw⟩:∃nw,nw=(cells.toList.take (off+xs.length*k)++news++cells.toList.drop (off+xs.length*k+news.length)).toArray:=⟨_,rfl⟩;rw[<-hnw]at hr;have hrun:(execOp act.eval o).run P w=.ok (.value<|.slice (O ⟨g,off,Y⟩) (xs.length+ys.length) cap) (w.setRow g nw):=by simp only[execOp,ho,resolve,invoke,builtin,xr,xt,xi,List.map_toArray,yX,wz,hp,hp2,hr]
  refine⟨_,_,bs,hrun,.inl ⟨_,rfl,?_⟩⟩;have hfr:Fr (λc=>O g=O c) w<|w.setRow g nw:=zqU;have hupd:=R.upd (y:=.que (s+1) el k<|(xs++ys).map enc) (c:=O g) (c':=O g) hR hi hbs (by simp only[Compat];omega) hfr (.inl rfl) (by simp only[xL]);rw[zpH hbs]at hupd;have:=hupd.put (xz _ _) (O d) (by simpa[zvk]using hdn) (v:=.que i<|s+1) (u:=.slice (O ⟨g,off,Y⟩) (xs.length+ys.length) cap)<|by
   simp only[xm,yy hli];refine⟨yk _,λ_=>⟨g,off,cap,hbs,by simp,by simpa using hroom,nw,setRow_heap w g cells nw el _ hh,?_,cs++news,D.zve hfr hWA (λ_ _ h=>h) _ _ hfl3,λj v hv=>?_⟩⟩;·rw[hnw];simp;omega
   ·have l1:(cells.toList.take<|off+xs.length*k).length=off+xs.length*k:=by simp;omega
    rw[hnw,vK,yM];by_cases hj:j<cs.length;·rw[yi hj]at hv;rw[yi<|by rw[l1];omega,vv<|by omega];have:=hcs j v hv;simpa using this
    ·rw[yP<|by omega]at hv;rw[yP<|by rw[l1];omega,l1,yi<|by have:=(yd.1 hv).1;omega,<-hv];congr 1;omega
  rw[hd];exact this
 ·have holds:∀j v,cs[j]?=O v->w.cell? ((⟨g,off,Y⟩:Addr).add j)=O v:=λj v hv=>by rw[wq,zab hh];exact hcs j v hv
  have hr:=run_append_grow (P:=P) w t o.type el inf z htu hinf hz ⟨g,off,Y⟩ xs.length cap cs (by rw[hcl,hisz]) holds ⟨b2,off2,Y⟩ ys.length cap2 news (by rw[hnl,hisz]) (λj u hu=>by rw[wq];exact hnews j u hu) (by omega) (by simp only[maxLen]at hml;omega)<|growslice_fits (by omega) (by rw[hib];exact hsz);obtain⟨nc,hnc⟩:∃nc,nc=grownCap w (xs.length+ys.length) cap el:=⟨_,rfl⟩;have hge:xs.length+ys.length<=nc:=by rw[hnc];exact grownCap_ge w (xs.length+ys.length) cap el
  rw[<-hnc]at hr;obtain⟨nw,hnw⟩:∃nw,nw=cs.toArray++news.toArray++Builtin.zeroCells z.cells (nc-(xs.length+ys.length)):=⟨_,rfl⟩;rw[<-hnw]at hr;have hrun:(execOp act.eval o).run P w=.ok (.value<|.slice (O ⟨w.heap.size,0,Y⟩) (xs.length+ys.length) nc) (w.drew.alloc<|.cells nw el):=by simp only[execOp,ho,resolve,invoke,builtin,xr,xt,xi,List.map_toArray,yX,wz,hp,hp2,hr]
  refine⟨_,_,bs.set i<|O w.heap.size,hrun,.inl ⟨_,rfl,?_⟩⟩;have hfr0:Fr zg w<|w.drew.alloc<|.cells nw el:=⟨rfl,rfl,rfl,by simp,λb hb _=>xE w.drew _ b hb,λ_=>Nat.le_succ _⟩;have hfr:Fr (λc=>O g=O c) w<|w.drew.alloc<|.cells nw el:=hfr0.mono λ_ _ x=>x.elim;have hupd:=R.upd (y:=.que (s+1) el k<|(xs++ys).map enc) (c:=O g) (c':=O w.heap.size) hR hi hbs (by simp only[Compat];omega) hfr (.inr<|.inr ⟨w.heap.size,rfl,yk _,by simp⟩) (by simp only[xL]);have hA:∀b,b<w.heap.size->Own C.A0 (bs.set i<|O w.heap.size) b->Own C.A0 bs b:=λb hb hb'=>by
   rcases hb' with hb'|hb';·exact .inl hb'
   ·rcases uP hb' with h|h;·exact .inr h
    ·cases h;omega
  have hib2:=(yd.1 hbs).1;have:=hupd.put (xz _ _) (O d) (by simpa[zvk]using hdn) (v:=.que i<|s+1) (u:=.slice (O ⟨w.heap.size,0,Y⟩) (xs.length+ys.length) nc)<|by
   simp only[xm,yy hli];refine⟨yk _,λ_=>⟨w.heap.size,0,nc,yy hib2,by simp,by simp_all,nw,heap_alloc_new w.drew _,?_,cs++news,D.zve hfr0 (λ_ x=>x.elim) hA _ _ hfl3,λj v hv=>?_⟩⟩;·rw[hnw];simp only[Array.size_append,uK,size_zeroCells,hzc,hcl,hnl,<-hnk,<-vm];simp_all
   grind
  rw[hd];exact this
variable{κ β:Type}[DecidableEq κ]{ke:κ->Value}{ve:β->D}
end
end
section
variable[zuV][Drw]
structure Turns (P:Program)(f:FuncId)(t:TypeId)(cs cs':List D)(xs:List D)(y:D):Prop where run:∀(A:Nat->Prop)(w:World)(b:Nat)(vs us:Array Value)(vr:List Value),(∀c,A c->c<w.heap.size)->zdv (λc=>A c\/c=b) w->¬A b->b<w.heap.size->w.heap[b]?=O (.cells us t (0,0))->xv (λc=>A c\/c=b) w cs us.toList->vs.toList=.pointer (O ⟨b,0,Y⟩)::vr->xv (λc=>A c\/c=b) w xs vr->Calls P f vs w λe w'=>∃u us',e=.returned u/\Fr (λc=>c=b) w w'/\w'.heap[b]?=O (.cells us' t (0,0))/\xv (λc=>A c\/c=b) w' cs' us'.toList/\xD (λc=>A c\/c=b) w' y u
end
section
def zsY:Obj->Bool|.cells _ _ _|.map _ _|.mapIter _ _ _ _=>U|_=>M
structure Turn (w w':World):Prop where
 size:w'.heap.size=w.heap.size
 at_:∀(b:Nat)(o:Obj),w.heap[b]?=O o->zsY o=U->w'.heap[b]?=O o
theorem Turn.put {w l o o'}(h:w.heap[l]?=O o)(hn:zsY o=M):Turn w<|w.putObj l o':=⟨by simp,λb q c a=>by grind[xx]⟩
theorem Turn.cell {w w'}(t:Turn w w'){p v}(h:w.cell? p=O v):w'.cell? p=O v:=by unfold World.cell? at h|-;cases a:w.heap[p.block]? with|none=>simp_all|some o=>cases o with|cells c e f=>rw[t.at_ _ _ a rfl];simp_all|_=>simp_all
theorem Turn.cells {w w'}(t:Turn w w'){b off u}(h:zdr w b off u):zdr w' b off u:=λj a=>by have:=h j a;rw[um a]at this|-;exact t.cell this
theorem Turn.row {w w'}(t:Turn w w'){b e k v n xs}(h:w.ownsRow b e k v n xs):w'.ownsRow b e k v n xs:=⟨h.1,h.2.imp id λ⟨g,c,d,f,i,j,a⟩=>⟨g,c,d,f,i,t.at_ _ _ j rfl,a⟩⟩
mutual
theorem D.zvm {A w w'}(t:Turn w w'):∀(d:D)(v:Value),xD A w d v->xD A w' d v|.val x,v,hv=>by simpa only[xD]using hv|.agg cs,v,hv=>by simp only[xD]at hv|-;obtain⟨vs,e,hr⟩:=hv;exact⟨vs,e,D.zvt t cs _ hr⟩|.tup cs,v,hv=>by simp only[xD]at hv|-;obtain⟨vs,e,hr⟩:=hv;exact⟨vs,e,D.zvt t cs _ hr⟩|.sl k xs,v,hv=>by simp only[xD]at hv|-;obtain⟨a,cap,e,hcap,hr⟩:=hv;refine⟨a,cap,e,hcap,hr.imp id λ⟨b,off,ea,hb,hs,hr⟩=>⟨b,off,ea,hb,by rw[t.size];exact hs,D.zyd t b k xs off hr⟩⟩|.ref x,v,hv=>by simp only[xD]at hv|-;obtain⟨b,off,u,e,hb,hs,hr,hc⟩:=hv;exact⟨b,off,u,e,hb,by rw[t.size];exact hs,D.zvm t x u hr,t.cells hc⟩|.fn f fs cs,v,hv=>by simp only[xD]at hv|-;obtain⟨vs,us,e,h1,h2⟩:=hv;exact⟨vs,us,e,D.zvt t fs _ h1,D.zvt t cs _ h2⟩|.mp ks ds,v,hv=>by simp only[xD]at hv|-;obtain⟨b,es,clock,e,hb,hs,hh,h1,hwf,h2⟩:=hv;exact⟨b,es,clock,e,hb,by rw[t.size];exact hs,t.at_ _ _ hh rfl,h1,hwf,D.zvt t ds _ h2⟩|.err,v,hv=>by simpa only[xD]using hv|.osl k xs,v,hv=>by simp only[xD]at hv|-;obtain⟨a,cap,e,hcap,hn,hr⟩:=hv;refine⟨a,cap,e,hcap,hn,hr.imp id λ⟨b,off,ea,hb,hs,hr⟩=>⟨b,off,ea,hb,by rw[t.size];exact hs,D.zyd t b k xs off hr⟩⟩
theorem D.zvt {A w w'}(t:Turn w w'):∀(ds:List D)(vs:List Value),xv A w ds vs->xv A w' ds vs|[],vs,hv=>by simpa only[xv]using hv|d::ds,vs,hv=>by simp only[xv]at hv|-;obtain⟨v,vs',e,h1,h2⟩:=hv;exact⟨v,vs',e,D.zvm t d v h1,D.zvt t ds vs' h2⟩
theorem D.zyd {A w w'}(t:Turn w w')(b k):∀(xs:List D)(off:Nat),D.row A w b k xs off->D.row A w' b k xs off|[],_,_=>by simp only[D.row]|x::xs,off,hv=>by simp only[D.row]at hv|-;obtain⟨⟨u,h1,h2,h3⟩,h4⟩:=hv;exact⟨⟨u,D.zvm t x u h1,t.cells h2,h3⟩,D.zyd t b k xs (off+k) h4⟩
end
theorem D.zwE {A w w'}(t:Turn w w'){k}:∀(xs)(cs),xM A w k xs cs->xM A w' k xs cs|[],cs,b=>by grind[xM]|x::xs,cs,b=>by obtain⟨u,a,e,d,f,c⟩:=b;exact⟨u,a,e,d,D.zvm t x u f,D.zwE t xs a c⟩
theorem zyi.turn {A w w' b o cap k ty xs}(q:zyi A w b o cap k ty xs)(t:Turn w w'):zyi A w' b o cap k ty xs:=by obtain⟨g,a,e,f,c,h,d⟩:=q;exact⟨g,a,t.at_ _ _ e rfl,f,c,D.zwE t xs c h,d⟩
mutual
theorem V.zvm {A w w' bs H}(t:Turn w w'):∀(x:V)(v:Value),xm A w bs H x v->xm A w' bs H x v
 |.d x,v,hv=>by simp only[xm]at hv|-;exact D.zvm t x v hv|.loc i off,v,hv=>by simpa only[xm]using hv|.vec i n,v,hv=>by
  simp only[xm]at hv|-;split at hv;·refine⟨hv.1,λhn=>?_⟩;obtain⟨cells,h1,h2,h3⟩:=hv.2 hn;exact⟨cells,t.row h1,h2,D.zwE t _ cells h3⟩
  ·trivial
  ·exact hv.elim|.arr i off n,v,hv=>by simpa only[xm]using hv|.el i n j off,v,hv=>by
  simp only[xm]at hv|-;split at hv;·refine⟨hv.1,λhn=>?_⟩;obtain⟨hdr,cells,h1,h2,h3,h4⟩:=hv.2 hn;exact⟨hdr,cells,t.row h1,h2,D.zwE t _ cells h3,h4⟩
  ·trivial
  ·exact hv.elim|.sub i n lo hi,v,hv=>by
  simp only[xm]at hv|-;split at hv;·refine⟨hv.1,λhn=>?_⟩;obtain⟨hdr,cells,h1,h2,h3,h4⟩:=hv.2 hn;exact⟨hdr,cells,t.row h1,h2,D.zwE t _ cells h3,h4⟩
  ·trivial
  ·exact hv.elim|.agg cs,v,hv=>by simp only[xm]at hv|-;obtain⟨vs,e,hr⟩:=hv;exact⟨vs,e,V.zvt t cs _ hr⟩|.tup cs,v,hv=>by simp only[xm]at hv|-;obtain⟨vs,e,hr⟩:=hv;exact⟨vs,e,V.zvt t cs _ hr⟩|.fn f fs cs,v,hv=>by simp only[xm]at hv|-;obtain⟨vs,us,e,h1,h2⟩:=hv;exact⟨vs,us,e,V.zvt t fs _ h1,V.zvt t cs _ h2⟩|.mp i,v,hv=>by simpa only[xm]using hv|.itp i,v,hv=>by simpa only[xm]using hv|.que i m,v,hv=>by
  simp only[xm]at hv|-;split at hv;·refine⟨hv.1,λhn=>?_⟩;obtain⟨b,o,cap,h1,h2,h3⟩:=hv.2 hn;exact⟨b,o,cap,h1,h2,h3.turn t⟩
  ·trivial
  ·exact hv.elim|.qel i m j,v,hv=>by
  simp only[xm]at hv|-;split at hv;·refine⟨hv.1,λhn=>?_⟩;obtain⟨b,o,cap,h1,h2,hj,h3⟩:=hv.2 hn;exact⟨b,o,cap,h1,h2,hj,h3.turn t⟩
  ·trivial
  ·exact hv.elim|.junk,_,_=>by simp only[xm]
theorem V.zvt {A w w' bs H}(t:Turn w w'):∀(xs:List V)(vs:List Value),xF A w bs H xs vs->xF A w' bs H xs vs|[],vs,hv=>by simpa only[xF]using hv|x::xs,vs,hv=>by simp only[xF]at hv|-;obtain⟨v,vs',e,h1,h2⟩:=hv;exact⟨v,vs',e,V.zvm t x v h1,V.zvt t xs vs' h2⟩
end
theorem Blk.zvm {A w w' bs H}(t:Turn w w')(i)(k:Blk)(hk:k.rep A w bs H i):k.rep A w' bs H i:=by cases k with
 |box ty cs=>obtain⟨b,f,c,a,d⟩:=hk;exact⟨b,f,c,t.at_ _ _ a rfl,V.zvt t cs _ d⟩|arr ty k xs=>obtain⟨b,f,c,a,d⟩:=hk;exact⟨b,f,c,t.at_ _ _ a rfl,D.zwE t xs _ d⟩|mp bo ks ds clock=>obtain⟨b,h,c,a,d,e,g⟩:=hk;exact⟨b,h,c,t.at_ _ _ a rfl,d,e,D.zvt t ds _ g⟩|it j since seen last=>
  simp only[xL]at hk|-;split at hk;·obtain⟨b,m,c,a,d⟩:=hk;exact⟨b,m,c,a,t.at_ _ _ d rfl⟩
  ·trivial
  simp_all|itd bo ks ds clock since seen last=>obtain⟨b,n,h,c,a,d,e,g,o,p,l⟩:=hk;exact⟨b,n,h,c,a,by rw[t.size];grind,t.at_ _ _ e rfl,g,o,D.zvt t ds _ p,t.at_ _ _ l rfl⟩|vec ty k xs=>trivial|que s ty k xs=>trivial|dead=>trivial
theorem R.turn {G G'}[D0:Drw]{C C' bs s a w w'}(h:@R G D0 C bs s a w)(t:Turn w w')(hA:C'.A0=C.A0)(hn:C'.n=C.n)(hgh:C'.gh=C.gh)(hgn:C'.gn=C.gn)(hdf:C'.df=C.df)(hfr:Fr C'.own0 C'.w0 w')(hnew:∀b,O b∈bs->C'.own0 b\/C'.w0.heap.size<=b)(hg:@zdv G' (Own C'.A0 bs) w'):@R G' D0 C' bs s a w':=by obtain⟨K,m,xf,H,n,z,r,x⟩:=C';subst hA;subst hn;subst hgh;subst hgn;subst hdf;obtain⟨⟨E,F,q,y,_⟩,f,e,d,A,g,_,_,c⟩:=h;exact⟨⟨E,F,λb j=>by rw[t.size];exact q b j,λb j=>by rw[t.size];exact y b j,hg⟩,f,λi k B=>Blk.zvm t i k<|e i k B,λu v o=>⟨(d u v o).1,V.zvm t v _ (d u v o).2⟩,A,g,hfr,hnew,λp l=>⟨(c p l).1,V.zvm t _ _ (c p l).2⟩⟩
theorem Pure.widen {G G'}[D0:Drw](hs:∀p∈G.gs,p∈G'.gs){P f xs y}(h:@Pure G D0 P f xs y):@Pure G' D0 P f xs y:=by obtain⟨h⟩:=h;exact⟨λA w b c d e=>h A w b c (λp a=>d p<|hs p a) e⟩
variable[zuV][Drw]
theorem Oper.wpIn_wide {P}{F}(hF:F=xP\/∃l,F=Fence.wide.inRound l){o:Oper}(ho:∀c,o.op≠.defer c){a}{w}{K}{Q}(h:o.wp P a w K Q):o.wpIn F 0 P a w K Q:=by
 have g:∀f,F.fn f:=by rcases hF with rfl|⟨l,rfl⟩<;>exactλ_=>trivial
 have j:F.depth=none:=by rcases hF with rfl|⟨l,rfl⟩<;>rfl
 have b:∀{f args w R},Calls P f args w R->CallsIn F 0 P f args w R:=by
  rcases hF with rfl|⟨l,rfl⟩;·grind[callsIn_wide]
  ·exactλh=>callsIn_wide (n:=0).2 h
 have e:∀{row args w R},Rows P row args w R->RowsIn F 0 P row args w R:=by
  rcases hF with rfl|⟨l,rfl⟩
  ·exactλh c i _=>by
    obtain⟨v,k,r,s⟩:=h c i;grind[stepsIn_wide]
  ·exactλh c i _=>by obtain⟨v,k,r,s⟩:=h c i;exact⟨v,k,r,stepsIn_wide.2 s⟩
 refine⟨λf _=>g f,?_⟩;rw[Oper.semAt_eq _ _ _ ho];unfold vo at h;generalize(execOp a.eval o).run P w=r at*;cases r with
 |ok nx w'=>cases nx with
  |value v=>exact h|skip=>exact h|defer d=>exact h|enter f args=>exact⟨λm=>by simp_all,b h⟩|row row args=>exact⟨λm=>by simp_all,e h⟩|_=>exact h.elim
 |halt x w'=>cases x with|panic v=>exact h|_=>exact h.elim
def zd3 (o:Oper):Bool:=match o.op with|.defer _=>M|_=>U
theorem zgL {o}(h:zd3 o=U):∀c,o.op≠.defer c:=λc e=>by grind[zd3]
theorem zfb {P}{F}(hF:F=xP\/∃l,F=Fence.wide.inRound l){ops}{Q0 Q'}(hno:∀e a w,Q0 e a w->e=.normal)(hk:∀a w,Q0 .normal a w->Q' .normal a w):∀(l)(a)(w),l.all zd3=U->wpList P ops Q0 l a w->wpListIn F 0 P ops Q' l a w
 |[],a,w,_,h=>hk a w h|o::l,a,w,b,h=>by
  simp only[uk,yc]at b;simp only[wpList]at h;simp only[wpListIn];have g:∀f,F.fn f:=by rcases hF with rfl|⟨l,rfl⟩<;>exactλ_=>trivial
  split<;>rename_i i
  ·rw[if_pos i]at h;rcases h with h|⟨_,k,w',h⟩
   ·have m:∀c a w,¬Q0 (.panic c) a w:=λc a w h=>by grind
    have n:¬LetsOut Q0:=λ⟨a,w,h⟩=>by grind
    refine Oper.wpIn_wide hF (zgL b.1) ?_;have j:∀a w,wpList P ops Q0 l a w->wpListIn F 0 P ops Q' l a w:=λa w h=>zfb hF hno hk l a w b.2 h;unfold vo at*;generalize(execOp a.eval o).run P w=r at*;cases r with
    |ok nx w'=>
     cases nx<;>simp only[va]at h|-;case value u=>simp_all
     case skip=>simp_all
     case defer d=>simp_all
     case enter f args=>grind[vY]
     grind[Rows.mono]|halt x w'=>
     cases x<;>simp only[va]at h|-;simp_all
   grind
  ·rw[if_neg i]at h;exact⟨λf _=>g f,zfb hF hno hk l _ _ b.2 h⟩
structure OneI (P:Program)(C:Ctx)(ops:Array Oper)(o:Oper)(s s':St):Prop where run:∀bs a w,R C bs s a w->∀(Q:Exit->Act->World->Prop)(i:Nat)(K:Act->World->Prop),ops[i]?=O o->(∀a w,(∃bs,R C bs s' a w)->K a w)->wpOpIn xP 0 P ops Q i K a w
theorem OneI.of {P}{C}{ops}{o}{s s'}(hd:zd3 o=U)(h:TriL P C ops [o] (zxu s') s):OneI P C ops o s s':=by
 refine⟨λg a w d Q i K k j=>?_⟩;have b:=h.run g a w d;unfold wpOpIn;simp only[k];unfold wpList at b;split
 ·rename_i c;rw[if_pos c]at b;rcases b with b|⟨_,l,m,b⟩;·exact Oper.wpIn_wide (.inl rfl) (zgL hd)<|Oper.zyf j b
  ·rcases b with⟨e,f,⟨h,_⟩,d⟩|⟨h,_⟩<;>cases h
 ·rename_i c;rw[if_neg c]at b;refine⟨λ_ _=>trivial,?_⟩;rcases b with⟨e,f,⟨_,rfl⟩,d⟩|⟨h,_⟩;·grind
  grind
structure TriI (P:Program)(C:Ctx)(ops:Array Oper)(fuel:Nat)(listed:Array Bool)(Q:Exit->St->Prop)(s:St):Prop where run:∀bs a w,R C bs s a w->wpAnyIn xP 0 P .any ops (QR C Q) fuel listed a w
theorem TriI.done {P C ops listed Q s}(hr:wr .any ops listed=[])(h:Q .normal s):TriI P C ops 0 listed Q s:=⟨λb _ _ a=>⟨hr,.inl ⟨b,s,h,a⟩⟩⟩
inductive NextI (P:Program)(C:Ctx)(ops:Array Oper)(fuel:Nat)(listed:Array Bool)(Q:Exit->St->Prop)(s:St):List Nat->Prop|nil:NextI P C ops fuel listed Q s []|cons{i:Nat}{o:Oper}{s':St}{is:List Nat}:ops.toList[i]?=O o->OneI P C ops o s s'->TriI P C ops fuel (listed.setIfInBounds i U) Q s'->NextI P C ops fuel listed Q s is->NextI P C ops fuel listed Q s (i::is)
theorem TriI.step {P C ops fuel listed Q s}(i is)(hr:wr .any ops listed=i::is)(h:NextI P C ops fuel listed Q s<|i::is):TriI P C ops (fuel+1) listed Q s:=by
 refine⟨λe a w f=>⟨λk=>by simp_all,?_⟩⟩;rw[hr];generalize i::is=g at h;induction h with
 |nil=>simp_all|cons h1 h2 h3 _ ih=>
  intro j d;rcases yF.1 d with rfl|d;·exact h2.run e a w f _ _ _ (by simp_all) λa w⟨b,c⟩=>h3.run b a w c
  simp_all
structure zxd (C:Ctx)(ops:Array Oper)(o:Oper)(s:St)(b:Bool):Prop where run:∀bs a w,R C bs s a w->wg o (yielded ops a.tmps)=b
theorem zxd.none {C ops o s}(h:o.guard=Y):zxd C ops o s true:=⟨λ_ _ _ _=>by simp[wg,h]⟩
theorem zxd.some {C}{ops:Array Oper}{o}{s}{j g:Nat}{want b r}(h:(o.guard,ops.toList[j]?.bind (·.dst),look g s.T,b==want)=(O (j,want),O g,O<|.d<|.bool b,r)):zxd C ops o s r:=by
 simp only[yh]at h;obtain⟨l,m,f,rfl⟩:=h;refine⟨λn a w c=>?_⟩;have e:=c.tmp g _ f;have i:g<a.tmps.size:=by rw[c.size];grind
 have p:=zt.1 e.2;have k:a.tmps[g]?=Option.some (Value.bool b):=by simp_all
 grind[wg,yielded]
theorem TriI.first {P C ops fuel listed Q s o x v}(i)(hi0:ops.toList[i]?=O o)(hs:(Region.noSelect ops,Region.free .any ops listed i,(wr .any ops listed).contains i)=(U,U,U))(ho:(o.op,ev s.T x,zvk o.dst C.n)=(.move x,O v,U))(hw:zxd C ops o s U)(h2:TriI P C ops fuel (listed.setIfInBounds i U) (zcg Q)<|s.put o.dst v):TriI P C ops (fuel+1) listed (zcg Q) s:=by
 simp only[yh]at hs ho;have g:ops[i]?=O o:=by simp_all
 refine⟨λf a w e=>?_⟩;have b:∀d,(execOp a.eval o).run P d=.ok (.value<|a.eval x) d:=λd=>by simp[execOp,ho.1]
 refine wpAnyIn_take (v:=a.eval x) rfl g hs.1 hs.2.1 hs.2.2 (λc a w h=>?_) ⟨.inl ⟨hw.run f a w e,b⟩,λd=>by grind[Oper.about]⟩ ?_
 ·rcases h with⟨_,_,h,_⟩|⟨h,_⟩;·exact h.elim
  grind
 ·exact h2.run f _ _<|e.put (xz _ _) o.dst ho.2.2<|e.ev ho.2.1
theorem TriI.skip {P C ops fuel listed Q s o}(i)(hi0:ops.toList[i]?=O o)(hs:(Region.noSelect ops,Region.free .any ops listed i,(wr .any ops listed).contains i)=(U,U,U))(ho:zvk o.dst C.n=U)(hab:(match o.op with|.call _=>M|_=>U)=U)(hw:zxd C ops o s M)(h2:TriI P C ops fuel (listed.setIfInBounds i U) (zcg Q)<|s.put o.dst .junk):TriI P C ops (fuel+1) listed (zcg Q) s:=by
 simp only[yh]at hs;have e:ops[i]?=O o:=by simp_all
 refine⟨λd a w b=>?_⟩;refine wpAnyIn_take (v:=Go.undef) rfl e hs.1 hs.2.1 hs.2.2 (λc a w h=>?_) ⟨.inr ⟨hw.run d a w b,rfl⟩,λf=>?_⟩ ?_
 ·rcases h with⟨_,_,h,_⟩|⟨h,_⟩;·exact h.elim
  grind
 ·grind[Oper.about]
 ·exact h2.run d _ _<|b.put (xz _ _) o.dst ho (v:=.junk)<|by grind[xm]
theorem Tri.drawI {P C Q s id l}(n)(hm:P.follows .mixedOrders=U)(hn:l.size=n)(h:TriI P C l n (xu n M) (zcg Q) s):Tri P C (.region id l U) Q s:=by subst hn;refine Tri.mono (Q:=zcg Q) ⟨λc a w d=>?_⟩ (λe s b=>by cases e<;>first|exact b.elim|exact b);exact wpIn_wide (n:=0).1<|wpIn_region_any hm<|h.run c a _ d.drew
end
def zw2 (C:Ctx)(l:Nat)(rec:Loop)(T1:List<|Nat×V):Prop:=C.own0 l/\∀q∈T1,(q.2,rec.tmps.getD q.1 Go.undef)∈C.gh
theorem zpp {T t v}(h:look t T=O v):(t,v)∈T:=by induction T with
 |nil=>grind[look]|cons p r ih=>
  obtain⟨u,x⟩:=p;simp only[zbn]at h;grind
theorem OneI.yield {G1 G2}[D0:Drw]{l}{rec}{P}{C}{ops}{o}{T}{H H'}{x y}{tys}{d}{p N ia ib ic:Nat}{ra rb}{T1}(hGs:@xK G2=(l,.loop rec)::@xK G1)(hGE:∀q∈@xK G1,q.1≠l)(hrec:rec.state=.ready/\rec.pending=Y/\rec.params=#[p]/\rec.tmps.size=N)(hasg:rec.assign=.region ia ra.toArray M)(hbd:rec.body=.block ib (.region ic rb.toArray M))(hda:ra.all zd3=U)(hdb:rb.all zd3=U)(hs:zw2 C l rec T1)(hTN:(T1.all λq=>xA q.1 N)=U)(hpN:xA p N=U)(hp1:T1.all λq=>q.1 !=p=U)(ho:o.op=.call {callee:=.value x,args:=#[y],argTypes:=tys})(hx:ev T x=O (.d<|.fn (.yield l) [] []))(hy:ev T y=O (.d d))(hd:zvk o.dst C.n=U)(hw:@zxd G2 D0 C ops o ⟨T,H⟩ U)(hu:(T.all λq=>q.2.under H.length)=U)(hgn:xQ C.gn H.length=U)(h:∀(own0)(w)(gh),@TriL G1 D0 P ⟨C.A0,own0,w,N,λ_ _=>False,gh,H.length,[]⟩ ra.toArray ra (λe s1=>e=.normal/\∀(own0)(w),@TriL G1 D0 P ⟨C.A0,own0,w,N,λ_ _=>False,gh,H.length,[]⟩ rb.toArray rb (λe s2=>e=.normal/\s2.H=H') s1) ⟨(p,.d d)::T1,H⟩):@OneI G2 D0 P C ops o ⟨T,H⟩<|(⟨T,H'⟩:St).put o.dst<|.d<|.bool U:=by
 obtain⟨hst,hpe,hps,hsz⟩:=hrec;refine@OneI.mk G2 D0 _ _ _ _ _ _ λbs a w hR Q i K hi hK=>?_;have hwant:=@zxd.run G2 D0 _ _ _ _ _ hw bs a w hR;have e1:=@R.ev G2 D0 _ _ _ _ _ hR _ _ hx;have e2:=@R.ev G2 D0 _ _ _ _ _ hR _ _ hy;obtain⟨⟨o1,o2,o3,o4,og⟩,rlen,rblk,rtmp,rdef,rsz,rfr,rnew,rgh⟩:=hR;simp only[xm,xD,xv]at e1;obtain⟨vs,us,e1,hv0,hu0⟩:=e1;have hv0:vs=#[]:=by simpa using hv0
 have hu0:us=#[]:=by simpa using hu0
 subst hv0 hu0;obtain⟨hlO,hL⟩:=og (l,.loop rec) (by rw[hGs];simp);simp only at hlO hL;have hlt:l<w.heap.size:=(yn.1 hL).1;unfold wpOpIn;simp only[hi,hwant,if_true];refine⟨λ_ _=>trivial,?_⟩;obtain⟨tm1,htm1⟩:∃tm1,tm1=rec.tmps.setIfInBounds p (a.eval y):=⟨_,rfl⟩;have hrun:(execOp a.eval o).run P w=.ok (.round l rec.fn tm1 rec.assign rec.body) w:=by have hyl:=run_yield (P:=P) (args:=#[a.eval y]) hL (by rw[hps];rfl);rw[hps]at hyl;simp only[execOp,ho,resolve,e1,xY,xr,xt,xi,invoke];simpa[htm1]using hyl
 rw[show o.semAt Fence.wide.round a.eval=execOp a.eval o from rfl,hrun,Oper.uponIn_round];refine⟨λh=>by simp[xP]at h,?_⟩;refine roundIn_of_wpIn trivial ?_;obtain⟨gh1,hgh1⟩:∃gh1,gh1=C.gh++vals a T T:=⟨_,rfl⟩;have hgn:=yt hgn;have hGG:∀q∈@xK G1,q∈@xK G2:=λq hq=>by rw[hGs];exact yV _ hq
 have hR1:@R G1 D0 ⟨C.A0,λb=>O b∈bs,w,N,λ_ _=>False,gh1,H.length,[]⟩ bs ⟨(p,.d d)::T1,H⟩ {tmps:=tm1,defers:=[]} w:=by
  have hpn:p<rec.tmps.size:=by rw[hsz];simpa using hpN
  refine@R.mk G1 D0 _ _ _ _ _ (@zxk.mk G1 _ _ _ o1 o2 o3 o4 λq hq=>og q<|hGG q hq) rlen rblk (λt v hv=>?_) rfl (by rw[htm1];simpa using hsz) (xz _ _) (λb hb=>.inl hb) λq hq=>?_
  ·simp only[zbn]at hv;split at hv<;>rename_i ht;·cases hv;subst ht;refine⟨by rw[<-hsz];exact hpn,?_⟩;rw[htm1,zdb _ _ _ _ _ hpn,if_pos rfl];exact e2
   ·have hm:=zpp hv;have h1:=hs.2 _ hm;have h2:=yq.1 hTN _ hm;refine⟨by simpa using h2,?_⟩;rw[htm1,zdb _ _ _ _ _ hpn,if_neg ht];exact(rgh _ h1).2
  ·rw[hgh1]at hq;rcases yu.1 hq with hq|hq;·exact⟨V.zv8 hgn _ (rgh q hq).1,(rgh q hq).2⟩
   ·obtain⟨t,h1,h2⟩:=zeb hq;exact⟨zdy hu h1,by rw[h2];exact(rtmp t _ h1).2⟩
 rw[hasg];refine wpIn_region_lit ?_;refine zfb (F:=Fence.wide.inRound l) (.inr ⟨l,rfl⟩) (Q0:=@QR G1 D0 _ _) ?_ ?_ ra _ _ hda<|@TriL.run G1 D0 _ _ _ _ _ _ (h _ _ _) _ _ _ hR1
 ·rintro e a w(⟨_,_,⟨h,_⟩,_⟩|⟨_,h⟩);·exact h
  ·exact h.elim
 rintro a1 w1(⟨bs1,s1,⟨_,hb⟩,hR1'⟩|⟨h,_⟩);case inr=>cases h
 simp only[Exit.then];have f1:Fr (λb=>O b∈bs) w w1:=by obtain⟨_,_,_,_,_,_,f,_,_⟩:=hR1';exact f
 have n1:∀b,O b∈bs1->O b∈bs\/w.heap.size<=b:=by obtain⟨_,_,_,_,_,_,_,f,_⟩:=hR1';exact f
 have hlbs:¬O l∈bs:=λh=>hlO<|.inr h;have hL1:w1.heap[l]?=O (.loop rec):=(f1.block l hlt hlbs).trans hL;have hbr:=run_beginRound (P:=P) hL1 hst;refine⟨_,hbr,?_⟩;obtain⟨w2,hw2⟩:∃w2,w2=w1.putObj l (.loop {rec with state:=.busy}):=⟨_,rfl⟩;rw[<-hw2];have t2:Turn w1 w2:=by rw[hw2];exact Turn.put hL1 rfl
 have hs2:w2.heap.size=w1.heap.size:=t2.size;have hlt1:l<w1.heap.size:=(yn.1 hL1).1;have hL2:w2.heap[l]?=O (.loop {rec with state:=.busy}):=by rw[hw2];exact wA hlt1
 have hput2:∀q,q≠l->w2.heap[q]?=w1.heap[q]?:=λq hq=>by rw[hw2];exact xx hq
 have hR2:@R G1 D0 ⟨C.A0,λb=>O b∈bs1,w2,N,λ_ _=>False,gh1,H.length,[]⟩ bs1 s1 a1 w2:=by
  have hg1:@zdv G1 (Own C.A0 bs1) w1:=by obtain⟨⟨_,_,_,_,g⟩,_⟩:=hR1';exact g
  exact R.turn hR1' t2 rfl rfl rfl rfl rfl (xz _ _) (λb hb=>.inl hb) λq hq=>⟨(hg1 q hq).1,by rw[hput2 _<|hGE q hq];exact(hg1 q hq).2⟩
 rw[hbd];refine wpIn_block<|wpIn_region_lit ?_;refine zfb (F:=Fence.wide.inRound l) (.inr ⟨l,rfl⟩) (Q0:=@QR G1 D0 _ _) ?_ ?_ rb _ _ hdb<|@TriL.run G1 D0 _ _ _ _ _ _ (hb _ _) _ _ _ hR2
 ·rintro e a w(⟨_,_,⟨h,_⟩,_⟩|⟨_,h⟩);·exact h
  ·exact h.elim
 rintro a2 w3(⟨bs2,s2,⟨_,hH⟩,hR3⟩|⟨h,_⟩);case inr=>cases h
 simp only[vl,roundPost];have f3:Fr (λb=>O b∈bs1) w2 w3:=by obtain⟨_,_,_,_,_,_,f,_,_⟩:=hR3;exact f
 have n3:∀b,O b∈bs2->O b∈bs1\/w2.heap.size<=b:=by obtain⟨_,_,_,_,_,_,_,f,_⟩:=hR3;exact f
 have hlbs1:¬O l∈bs1:=λh=>(n1 l h).elim hlbs λh=>by omega
 have hlbs2:¬O l∈bs2:=λh=>(n3 l h).elim hlbs1 λh=>by omega
 have hL3:w3.heap[l]?=O (.loop {rec with state:=.busy}):=(f3.block l (by omega) hlbs1).trans hL2;have her:=run_endRound (P:=P) Y hL3;have hback:({{rec with state:=LoopState.busy}with state:=if(Y:Option Code).isNone then LoopState.ready else LoopState.done,pending:=Y}:Loop)=rec:=by cases rec;simp only at hst hpe;subst hst hpe;rfl
 rw[hback]at her;refine⟨_,_,her,hK _ _ ⟨bs2,?_⟩⟩;obtain⟨w4,hw4⟩:∃w4,w4=w3.putObj l (.loop rec):=⟨_,rfl⟩;rw[<-hw4];have t4:Turn w3 w4:=by rw[hw4];exact Turn.put hL3 rfl
 have hlt3:l<w3.heap.size:=(yn.1 hL3).1;have hL4:w4.heap[l]?=O (.loop rec):=by rw[hw4];exact wA hlt3
 have hput4:∀q,q≠l->w4.heap[q]?=w3.heap[q]?:=λq hq=>by rw[hw4];exact xx hq
 obtain⟨⟨p1,p2,p3,p4,pg⟩,plen,pblk,ptmp,pdef,psz,pfr,pnew,pgh⟩:=hR3;have hRC:@R G2 D0 C bs2 ⟨T,H'⟩ a w4:=by
  subst hH;refine@R.mk G2 D0 _ _ _ _ _ (@zxk.mk G2 _ _ _ p1 p2 (λb hb=>by rw[t4.size];exact p3 b hb) (λb hb=>by rw[t4.size];exact p4 b hb) λq hq=>?_) plen (λi k hk=>Blk.zvm t4 i k<|pblk i k hk) (λt v hv=>?_) rdef rsz ?_ (λb hb=>?_) λq hq=>?_
  ·rw[hGs]at hq;rcases yF.1 hq with rfl|hq;·exact⟨λh=>h.elim (λh=>hlO<|.inl h) hlbs2,hL4⟩
   ·exact⟨(pg q hq).1,by rw[hput4 _<|hGE q hq];exact(pg q hq).2⟩
  ·exact⟨(rtmp t v hv).1,V.zvm t4 _ _ (pgh _<|by rw[hgh1];exact wC _<|zdL hv hv).2⟩
  ·have hfr1:Fr (λb=>O b∈bs\/b=l\/O b∈bs1) w w4:=by
    have g1:Fr (λb=>O b∈bs\/b=l\/O b∈bs1) w w1:=f1.mono λ_ _ h=>.inl h;have g2:Fr (λb=>O b∈bs\/b=l\/O b∈bs1) w1 w2:=by rw[hw2];exact⟨rfl,rfl,rfl,by simp,λb _ hn=>xx λe=>hn<|.inr<|.inl e,λ_=>yk _⟩
    have g3:Fr (λb=>O b∈bs\/b=l\/O b∈bs1) w2 w3:=f3.mono λ_ _ h=>.inr<|.inr h;have g4:Fr (λb=>O b∈bs\/b=l\/O b∈bs1) w3 w4:=by rw[hw4];exact⟨rfl,rfl,rfl,by simp,λb _ hn=>xx λe=>hn<|.inr<|.inl e,λ_=>yk _⟩
    exact((g1.trans g2).trans g3).trans g4
   refine⟨hfr1.os.trans rfr.os,hfr1.tape.trans rfr.tape,hfr1.output.trans rfr.output,yI rfr.size hfr1.size,λq hq hno=>?_,λd=>yI (rfr.drawn d)<|hfr1.drawn d⟩;refine(hfr1.block q (yD hq rfr.size) λe=>?_).trans<|rfr.block q hq hno;have hbs:¬O q∈bs:=λh=>(rnew q h).elim hno λh=>by omega
   rcases e with e|e|e;·exact hbs e
   ·exact hno<|by rw[e];exact hs.1
   ·exact(n1 q e).elim hbs λh=>by have:=rfr.size;omega
  ·have hsz1:=f1.size;have hsz0:=rfr.size;rcases n3 b hb with h1|h1
   ·rcases n1 b h1 with h1|h1;·exact rnew b h1
    ·exact .inr<|by omega
   ·exact .inr<|by omega
  ·exact⟨(rgh q hq).1,V.zvm t4 _ _ (pgh q<|by rw[hgh1];exact wm _ hq).2⟩
 exact@R.put G2 D0 _ _ _ _ _ _ hRC (xz _ _) o.dst hd (.d<|.bool U) (.bool U)<|zt.2 rfl
theorem Tri.rangeFunc {G0}[D0:Drw]{P}{fnC}{A}{w0}{n N p b0:Nat}{y}{s0}{T}{H}{g}{x asg body tail}{fi}{fs}{fn}{c}{Q}{K:List Blk->Prop}(hx0:@Tri G0 D0 P ⟨A,zg,w0,n,λ_ _=>False,[],0,[]⟩ x (λe s=>e=.normal/\s=⟨T,H⟩) s0)(hx:ev T g=O (.d<|.fn (.func fi) fs []))(hc:zu0 P fi=U)(hf:P.funcs[fi]?=O fn)(hb:fn.body=O c)(hN:fn.ntmps=N)(hres:fn.results=#[])(hn:xQ (fs.length+1) N=U)(hu:(T.all λq=>q.2.under H.length)=U)(h:∀(l Dd:Nat)(rec)(own0:Nat->Prop)(w:World)(gh)(G'),l≠Dd->@xK G'=(l,.loop rec)::(Dd,.deferred<|O [])::@xK G0->(∀q∈@xK G0,q.1≠l)->rec.state=.ready/\rec.pending=Y/\rec.params=#[p]/\rec.tmps.size=n->rec.assign=asg->rec.body=body->own0 l->(∀t v,look t T=O v->(v,rec.tmps.getD t Go.undef)∈gh)->@Tri G' D0 P ⟨A,own0,w,N,λ_ _=>False,gh,H.length,[]⟩ c (retV [] λ_ H2=>K H2) ⟨zbz 0<|fs.map .d++[.d<|.fn (.yield l) [] []],H⟩)(k:∀(Dd)(H2)(G'),@xK G'=(Dd,.deferred<|O [])::@xK G0->K H2->@Tri G' D0 P ⟨A,zg,w0,n,λ_ _=>False,[],0,[{target:=.collected Dd,args:=#[]}]⟩ tail (λe s=>e=.ret/\retQ P fnC.results y e s) ⟨T,H2⟩):@Tri G0 D0 P ⟨A,zg,w0,n,λa' w'=>LeavesInM xP 0 P fnC a'.tmps (zgO A w0 y) a'.defers .returning w',[],0,[]⟩ (.seq (.seq x<|.block b0<|.rangeFunc g #[p] asg body) tail) Q s0:=by
 subst hN;have hn:=yt hn;refine@Tri.mk G0 D0 _ _ _ _ _ λbs a w' hR=>?_;have hR0:@R G0 D0 ⟨A,zg,w0,n,λ_ _=>False,[],0,[]⟩ bs s0 a w':=by obtain⟨q1,q2,q3,q4,q5,q6,q7,q8,q9⟩:=hR;exact@R.mk G0 D0 _ _ _ _ _ q1 q2 q3 q4 q5 q6 q7 q8 q9
 refine wp_seq<|wp_seq<|xU ?_<|@Tri.run G0 D0 _ _ _ _ _ hx0 bs a w' hR0;rintro e a w3(⟨bs,s,⟨rfl,rfl⟩,hR⟩|⟨_,hE⟩);case inr=>exact hE.elim
 simp only[Exit.then];clear hR0;have e1:=@R.ev G0 D0 _ _ _ _ _ hR _ _ hx;have hRf:=λ{w'}(f:Fr zg w3 w')=>@R.put G0 D0 _ _ _ _ _ _ hR f Y rfl .junk Go.undef<|by simp only[xm]
 obtain⟨⟨o1,o2,o3,o4,og⟩,rlen,rblk,rtmp,rdef,rsz,rfr,rnew,rgh⟩:=hR;simp only[xm,xD]at e1;obtain⟨vs,us,e1,hvs,hus⟩:=e1;simp only[xv]at hus;have hus:us=#[]:=by simpa using hus
 subst hus;refine wpIn_wide (n:=0).1<|wpIn_block<|wpIn_rangeFunc ?_;intro fnid _;obtain⟨rec,hrec⟩:∃rec:Loop,rec={state:=.ready,pending:=Y,fn:=fnid,tmps:=a.tmps,params:=#[p],assign:=asg,body:=body,defers:=w3.heap.size}:=⟨_,rfl⟩;obtain⟨l,hl⟩:∃l,l=w3.heap.size+1:=⟨_,rfl⟩;obtain⟨Dd,hDd⟩:∃Dd,Dd=w3.heap.size:=⟨_,rfl⟩;obtain⟨w4,hw4⟩:∃w4,(w3.alloc<|.deferred<|O []).alloc (.loop rec)=w4:=⟨_,rfl⟩;have hold:∀q,q<w3.heap.size->w4.heap[q]?=w3.heap[q]?:=λq hq=>by rw[<-hw4];exact(xE _ _ q<|by simp;omega).trans<|xE _ _ q hq
 have hL4:w4.heap[l]?=O (.loop rec):=by rw[<-hw4,hl];have:=wK (w3.alloc<|.deferred<|O [])<|.loop rec;rwa[World.size_alloc]at this
 have hD4:w4.heap[Dd]?=O (.deferred<|O []):=by rw[<-hw4,hDd];exact(xE _ _ _<|by simp).trans<|wK w3 _
 have hs4:w4.heap.size=w3.heap.size+2:=by rw[<-hw4];simp
 have hfr4:Fr zg w3 w4:=by rw[<-hw4];exact(⟨rfl,rfl,rfl,by simp,λb hb _=>xE _ _ b hb,λ_=>yk _⟩:Fr zg w3<|w3.alloc<|.deferred<|O []).trans ⟨rfl,rfl,rfl,by simp,λb hb _=>xE _ _ b hb,λ_=>yk _⟩
 refine⟨l,[{target:=.collected Dd,args:=#[]}],w4,{target:=.fn (.func fi) #[],args:=vs++#[.func (.yield l) #[] #[]]},w4,fi,vs++#[.func (.yield l) #[] #[]]++#[],w4,?_,?_,λ_ _=>trivial,?_,λh=>by simp[xP]at h,?_⟩;·rw[<-hw4,hl,hDd,hrec];exact run_enterLoop_outer _ _ _ _ _
 ·have ek:∀v,a.eval (.const v)=v:=λ_=>rfl;simp[resolve,e1,xY,ek]
 ·simp only[invoke];exact za7 hc _ w4
 have hR4:=hRf hfr4;obtain⟨⟨q1,q2,q3,q4,qg⟩,qlen,qblk,qtmp,qdef,qsz,qfr,qnew,_⟩:=hR4;have hlA:¬Own A bs l:=λh=>by
  rcases h with h|h;·have:=o4 l h;omega
  ·have:=o3 l h;omega
 have hDA:¬Own A bs Dd:=λh=>by
  rcases h with h|h;·have:=o4 Dd h;omega
  ·have:=o3 Dd h;omega
 have hgl:∀q∈@xK G0,q.1<w3.heap.size:=λq hq=>(yn.1 (og q hq).2).1;obtain⟨G',hG'⟩:∃G':zuV,@xK G'=(l,.loop rec)::(Dd,.deferred<|O [])::@xK G0:=⟨⟨_⟩,rfl⟩;obtain⟨GD,hGD⟩:∃G':zuV,@xK G'=(Dd,.deferred<|O [])::@xK G0:=⟨⟨_⟩,rfl⟩;have hargs:(vs++#[wv (.yield l) #[] #[]]++#[]:Array Value)=vs++#[wv (.yield l) #[] #[]]:=by simp
 rw[hargs];have hvl:=D.zva hvs;simp only[yE]at hvl;have hreps:xF (Own A bs) w4 bs H (fs.map .d++[.d<|.fn (.yield l) [] []]) (vs++#[wv (.yield l) #[] #[]]:Array Value).toList:=by
  simp only[Array.toList_append];refine V.zvo ?_ ?_
  ·have:=D.zyb hfr4 hvs;have key:∀(ds:List D)(vs:List Value),xv (Own A bs) w4 ds vs->xF (Own A bs) w4 bs H (ds.map .d) vs:=by
    intro ds;induction ds with
    |nil=>intro vs h;simpa only[xv,wz,xF]using h|cons d ds ih=>intro vs h;simp only[xv]at h;obtain⟨v,vs',rfl,h1,h2⟩:=h;simp only[yX,xF,xm];exact⟨v,vs',rfl,h1,ih _ h2⟩
   exact key _ _ this
  ·simp[xF,xm,xD,xv]
 have hRi:@R G' D0 ⟨A,λb=>O b∈bs\/b=l,w4,fn.ntmps,λ_ _=>False,vals a T T,H.length,[]⟩ bs ⟨zbz 0<|fs.map .d++[.d<|.fn (.yield l) [] []],H⟩ {tmps:=vs++#[wv (.yield l) #[] #[]]++xu (fn.ntmps-(vs++#[wv (.yield l) #[] #[]]).size) undef,defers:=[]} w4:=by
  have hsz:(vs++#[wv (.yield l) #[] #[]]++xu (fn.ntmps-(vs++#[wv (.yield l) #[] #[]]).size) undef).size=fn.ntmps:=by simp;omega
  refine@R.mk G' D0 _ _ _ _ _ (@zxk.mk G' _ _ _ q1 q2 q3 q4 λq hq=>?_) qlen qblk (λt v hv=>?_) rfl hsz (xz _ _) (λb hb=>.inl<|.inl hb) λq hq=>?_
  ·rw[hG']at hq;rcases yF.1 hq with rfl|hq;·exact⟨hlA,hL4⟩
   rcases yF.1 hq with rfl|hq;·exact⟨hDA,hD4⟩
   ·exact qg q hq
  ·have:=zc5 _ 0 _ (vs++#[wv (.yield l) #[] #[]]++xu (fn.ntmps-(vs++#[wv (.yield l) #[] #[]]).size) undef) hreps (λj hj=>by
     have hj':j<(vs++#[wv (.yield l) #[] #[]]).size:=by simpa using hj
     rw[ug,y8,vc hj',vy,y0]) (by rw[hsz];simp;omega) t v hv;rw[hsz]at this;exact this
  ·obtain⟨t,h1,h2⟩:=zeb hq;exact⟨zdy hu h1,by rw[h2];exact(qtmp t _ h1).2⟩
 have htri:=h l Dd rec (λb=>O b∈bs\/b=l) w4 (vals a T T) G' (by omega) hG' (λq hq=>by have:=hgl q hq;omega) (by rw[hrec];exact⟨rfl,rfl,rfl,rsz⟩) (by rw[hrec]) (by rw[hrec]) (.inr rfl) (λt v hv=>by rw[hrec];exact zdL hv hv);refine callsIn_wide.2<|calls_of_wp hf hb<|xU ?_<|@Tri.run G' D0 _ _ _ _ _ htri bs _ w4 hRi;rintro e a' w5(⟨bs',s',⟨he,ys,hys,hk⟩,hR5⟩|⟨_,hE⟩);case inr=>exact hE.elim
 obtain⟨⟨p1,p2,p3,p4,pg⟩,plen,pblk,ptmp,pdef,psz,pfr,pnew,pgh⟩:=hR5;have hrun:(results fn a'.tmps).run P w5=.ok (.tuple #[]) w5:=by rw[zca,hres];simp[xr,xt]
 have hfin:rangePost xP 0 P l (vl b0<|Exit.then (tail.wp P<|@QR G0 D0 ⟨A,zg,w0,n,λa' w'=>LeavesInM xP 0 P fnC a'.tmps (zgO A w0 y) a'.defers .returning w',[],0,[]⟩ Q)<|@QR G0 D0 ⟨A,zg,w0,n,λa' w'=>LeavesInM xP 0 P fnC a'.tmps (zgO A w0 y) a'.defers .returning w',[],0,[]⟩ Q) {a with defers:=[{target:=.collected Dd,args:=#[]}]++a.defers} (.returned<|.tuple #[]) w5:=by
  have hL5:=(pg (l,.loop rec)<|by rw[hG'];simp).2;have hD5:=(pg (Dd,.deferred<|O [])<|by rw[hG'];simp).2;simp only at hL5 hD5;simp only[rangePost];refine⟨Y,w5.putObj l<|.loop {rec with state:=.exhausted},by have:=run_endLoop (P:=P) hL5 (by rw[hrec];simp);rw[this,hrec],?_⟩;simp only[vl,Exit.then];obtain⟨w6,hw6⟩:∃w6,w6=w5.putObj l (.loop {rec with state:=.exhausted}):=⟨_,rfl⟩;rw[<-hw6];have t6:Turn w5 w6:=by rw[hw6];exact Turn.put hL5 rfl
  have hput6:∀q,q≠l->w6.heap[q]?=w5.heap[q]?:=λq hq=>by rw[hw6];exact xx hq
  have hlbs':∀b,O b∈bs'->(O b∈bs\/b=l)\/w4.heap.size<=b:=pnew;have hR6:@R GD D0 ⟨A,zg,w0,n,λ_ _=>False,[],0,[{target:=.collected Dd,args:=#[]}]⟩ bs' ⟨T,s'.H⟩ {a with defers:=[{target:=.collected Dd,args:=#[]}]++a.defers} w6:=by
   refine@R.mk GD D0 _ _ _ _ _ (@zxk.mk GD _ _ _ p1 p2 (λb hb=>by rw[t6.size];exact p3 b hb) (λb hb=>by rw[t6.size];exact p4 b hb) λq hq=>?_) plen (λi k hk=>Blk.zvm t6 i k<|pblk i k hk) (λt v hv=>?_) (by simp only;rw[rdef];rfl) rsz ?_ (λb hb=>?_) λq hq=>by cases hq
   ·rw[hGD]at hq;have hq':q∈@xK G':=by rw[hG'];exact yV _ hq
    have hne:q.1≠l:=by
     rcases yF.1 hq with rfl|hq;·simp only;omega
     ·have:=hgl q hq;omega
    exact⟨(pg q hq').1,by rw[hput6 _ hne];exact(pg q hq').2⟩
   ·exact⟨(rtmp t v hv).1,V.zvm t6 _ _ (pgh _<|zdL hv hv).2⟩
   ·have f5:Fr (λb=>O b∈bs\/b=l) w4 w5:=pfr;have f6:Fr (λb=>O b∈bs\/b=l) w5 w6:=by rw[hw6];exact⟨rfl,rfl,rfl,by simp,λb _ hn=>xx λe=>hn<|.inr e,λ_=>yk _⟩
    have f46:=(hfr4.mono (W':=λb=>O b∈bs\/b=l) λ_ _ x=>x.elim).trans<|f5.trans f6;have rfr':Fr zg w0 w3:=rfr;refine⟨f46.os.trans rfr'.os,f46.tape.trans rfr'.tape,f46.output.trans rfr'.output,yI rfr'.size f46.size,λq hq hno=>?_,λd=>yI (rfr'.drawn d)<|f46.drawn d⟩;have:=rfr'.size;have hq:q<w0.heap.size:=hq;refine(f46.block q (by omega) λe=>?_).trans<|rfr'.block q hq hno;rcases e with e|e;·have h3:zg q\/w0.heap.size<=q:=rnew q e;exact h3.elim (λx=>x) λh=>by omega
    ·omega
   ·have hz:w0.heap.size<=w3.heap.size:=rfr.size;rcases hlbs' b hb with(h1|h1)|h1;·exact rnew b h1
    ·exact .inr<|by simp only;omega
    ·exact .inr<|by simp only;omega
  have hR6':@R GD D0 ⟨A,zg,w0,n,λ_ _=>False,[],0,[{target:=.collected Dd,args:=#[]}]⟩ bs' ⟨T,s'.H⟩ {a with defers:=[{target:=.collected Dd,args:=#[]}]++a.defers} w6:=hR6;refine xU ?_<|@Tri.run GD D0 _ _ _ _ _ (k Dd s'.H GD hGD hk) _ _ _ hR6';rintro e a7 w7(⟨bs7,s7,⟨rfl,he7,ds,hy7,hres7⟩,hR7⟩|⟨_,hE⟩);case inr=>exact hE.elim
  refine .inr ⟨rfl,?_⟩;have hg7:@zdv GD (Own A bs7) w7:=by obtain⟨⟨_,_,_,_,g⟩,_⟩:=hR7;exact g
  have hdf7:a7.defers=[{target:=.collected Dd,args:=#[]}]:=by obtain⟨_,_,_,_,d,_⟩:=hR7;exact d
  have hfr7:Fr zg w0 w7:=by obtain⟨_,_,_,_,_,_,f,_,_⟩:=hR7;exact f
  have hnew7:∀b,O b∈bs7->zg b\/w0.heap.size<=b:=by obtain⟨_,_,_,_,_,_,_,f,_⟩:=hR7;exact f
  have hD7:=(hg7 (Dd,.deferred<|O [])<|by rw[hGD];simp).2;simp only at hD7;obtain⟨w8,hw8⟩:∃w8,w8=w7.putObj Dd (.deferred Y):=⟨_,rfl⟩;have hput8:∀q,q≠Dd->w8.heap[q]?=w7.heap[q]?:=λq hq=>by rw[hw8];exact xx hq
  have hfr8:Fr zg w0 w8:=by have hz:w0.heap.size<=w3.heap.size:=rfr.size;refine⟨by rw[hw8];exact hfr7.os,by rw[hw8];exact hfr7.tape,by rw[hw8];exact hfr7.output,by rw[hw8];simpa using hfr7.size,λq hq hno=>(hput8 q<|by omega).trans<|hfr7.block q hq hno,by rw[hw8];exact hfr7.drawn⟩
  have hR8:=R.turn (G':=G0) (C':=⟨A,zg,w0,n,λ_ _=>False,[],0,[{target:=.collected Dd,args:=#[]}]⟩) hR7 (w':=w8) (by rw[hw8];exact Turn.put hD7 rfl) rfl rfl rfl rfl rfl hfr8 hnew7 λq hq=>by
   have hne:q.1≠Dd:=by have:=hgl q hq;omega
   have:=hg7 q (by rw[hGD];exact yV _ hq);exact⟨this.1,by rw[hput8 _ hne];exact this.2⟩
  obtain⟨u,hu1,hu2⟩:=@zrt G0 D0 _ _ _ _ _ _ _ _ _ hy7 hres7 hR8;show LeavesInM xP 0 P fnC a7.tmps (zgO A w0 y) a7.defers .returning w7;rw[hdf7];exact⟨by simp,.inl ⟨Dd,w8,rfl,by rw[hw8];exact run_takeDeferred hD7,u,hu1,u,rfl,hfr8,hu2⟩⟩
 rcases he with rfl|rfl;·exact⟨pdef,_,hrun,hfin⟩
 ·exact⟨pdef,_,hrun,hfin⟩
section
variable[zuV][Drw]
structure zyh (P:Program)(f:FuncId)(xs:List D)(t:TypeId)(k:Nat)(xe:List D->Prop):Prop where run:∀(A:Nat->Prop)(w:World)(vs:Array Value),(∀b,A b->b<w.heap.size)->zdv A w->xv A w xs vs.toList->Calls P f vs w λe w'=>∃u l cells,e=.returned u/\xe l/\Fr zg w w'/\w'.ownsRow w.heap.size t k u l.length cells/\xM (λb=>A b\/u.ownBlock=O b) w' k l cells
def zsi (A:Nat->Prop)(w:World)(t:TypeId)(k:Nat)(xe:List D->Prop)(e:Ending)(w':World):Prop:=∃u l cells,e=.returned u/\xe l/\Fr zg w w'/\w'.ownsRow w.heap.size t k u l.length cells/\xM (λb=>A b\/u.ownBlock=O b) w' k l cells
def zsU (tt:Tmp)(t:TypeId)(k:Nat)(xe:List D->Prop)(s:St):Prop:=∃i l,look tt s.T=O (.vec i l.length)/\s.H[i]?=O (.vec t k l)/\xe l
theorem zqX {P}{fn}{tt}{A}{w}{n}{esc gh gn df t k xe bs s a w'}(hrs:fn.results=#[.tmp tt])(hq:zsU tt t k xe s)(hR:R ⟨A,zg,w,n,esc,gh,gn,df⟩ bs s a w'):∃u,(results fn a.tmps).run P w'=.ok u w'/\zsi A w t k xe (.returned u) w':=by
 obtain⟨i,l,r,v,y⟩:=hq;have j:=(hR.tmp tt _ r).2;simp only[xm,v]at j;obtain⟨c,m,z,q⟩:=j.2 trivial;refine⟨a.tmps.getD tt undef,?_,⟨_,l,c,rfl,y,hR.fr,⟨m.1,?_⟩,D.zve (xz zg w') (λ_ x=>x.elim) (λb _ d=>?_) _ _ q⟩⟩;·rw[zca,hrs];simp[zeC]
 ·rcases m.2 with h|⟨g,e,f,o,_,B⟩;·simp_all
  ·refine .inr ⟨g,e,f,o,?_,B⟩;have p:bs[i]?=O (O g):=by rw[z,o];rfl
   exact(hR.new g<|yC p).elim (λx=>x.elim) id
 ·rcases d with d|d;·exact .inl d
  ·exact .inr<|by grind
theorem zoA {A}{w}{fn:Func}{xs}{vs}{esc}(hn:xs.length<=fn.ntmps)(hA:∀b,A b->b<w.heap.size)(hG:zdv A w)(hr:xv A w xs vs.toList):R ⟨A,zg,w,fn.ntmps,esc,[],0,[]⟩ [] ⟨params 0 xs,[]⟩ {tmps:=vs++xu (fn.ntmps-vs.size) undef,defers:=[]} w:=by
 have e:=D.zva hr;have a:(vs++xu (fn.ntmps-vs.size) undef).size=fn.ntmps:=by simp_all
 refine⟨⟨by simp,by simp,by simp,hA,hG.fr (xz zg w) (λ_ x=>x.elim) λb _ d=>d.elim id λh=>by grind⟩,rfl,by simp,λt v f=>?_,rfl,a,xz _ _,by simp,λp g=>by cases g⟩;have:=zd4 (A:=Own A []) (w:=w) (bs:=[]) (H:=[]) xs 0 vs.toList (vs++xu (fn.ntmps-vs.size) undef) (D.zvs (xz zg w) (λ_ x=>x.elim) (λb _ d=>d.elim id λh=>by grind) xs _ hr) (λj i=>by
   have c:j<vs.size:=by simp_all
   simp[wu,c]) (by simp_all) t v f;grind
theorem zyh.zxN {P}{f}{fn}{c}{xs}{tt}{t k xe}(hf:P.funcs[f]?=O fn)(hb:fn.body=O c)(hrs:fn.results=#[.tmp tt])(hn:xs.length<=fn.ntmps)(h:∀A w,Tri P ⟨A,zg,w,fn.ntmps,λ_ _=>False,[],0,[]⟩ c (λe s=>e=.ret/\zsU tt t k xe s) ⟨params 0 xs,[]⟩):zyh P f xs t k xe:=by
 refine⟨λA w p j m i=>?_⟩;refine calls_of_wp hf hb<|xU ?_<|(h A w).run [] _ w<|zoA hn j m i;rintro e o n(⟨g,r,⟨rfl,l⟩,d⟩|⟨_,q⟩);case inr=>simp_all
 obtain⟨u,a,b⟩:=zqX (P:=P) hrs l d;exact⟨d.defers,u,a,b⟩
variable{P:Program}{C:Ctx}{ops:Array Oper}{o:Oper}{rest:List Oper}{Q:Exit->St->Prop}{T:List<|Nat×V}{H:List Blk}{e:Operand->Option V}
theorem TriL.zzg {f args tys xs t k xe d}(hg:o.guard=Y)(ho:o.op=.call {callee:=.value<|.func f,args:=args,argTypes:=tys})(hd:o.dst=O d)(hdn:xA d C.n=U)(hc:zu0 P f=U)(ha:evs (ev T) args.toList=O xs)(hp:zyh P f xs t k xe)(kk:∀l,xe l->TriL P C ops rest Q ⟨(d,.vec H.length l.length)::T,H++[.vec t k l]⟩):TriL P C ops (o::rest) Q ⟨T,H⟩:=by
 refine⟨λbs a w hR=>wpList_plain hg λK hK=>?_⟩;have hk:∀k,a.eval (.func k)=.func (.func k) #[] #[]:=λ_=>rfl;have hrun:(execOp a.eval o).run P w=.ok (.enter f<|args.map a.eval) w:=by simp only[execOp,ho,resolve,hk,xY,xr,xt,xi,invoke];simpa using za7 hc (args.map a.eval) w
 have hreps:xv (Own C.A0 bs) w xs (args.map a.eval).toList:=by have:=zff (A:=Own C.A0 bs) (w:=w) (bs:=bs) (H:=H) (f:=a.eval) ha λx _ y hy=>hR.ev hy;simp_all
 have hAlt:∀b,Own C.A0 bs b->b<w.heap.size:=λb hb=>hb.elim (hR.own.zu5 b)<|hR.own.lt b;have hlen:=hR.len;simp only at hlen;refine Oper.zv9 (K:=λu w'=>∃l cells,xe l/\Fr zg w w'/\w'.ownsRow w.heap.size t k u l.length cells/\xM (λb=>Own C.A0 bs b\/u.ownBlock=O b) w' k l cells) ?_ λu w'⟨l,cells,hY,hf,hown,hfl⟩=>?_;·rw[hrun];refine(hp.run (Own C.A0 bs) w (args.map a.eval) hAlt hR.own.glob hreps).mono ?_;simp_all
 ·have hbl:∃bs',R C bs' ⟨(d,.vec H.length l.length)::T,H++[.vec t k l]⟩ (a.put o.dst u) w':=by
   rcases hown.2 with⟨hnil,h0⟩|⟨g,cap,cur,hu,hbase,hheap,hrest⟩
   ·have h1:R C (bs++[Y]) ⟨T,H++[.vec t k l]⟩ a w':=by have:=hR.put hf Y rfl (v:=.junk) (u:=undef) (by grind[xm]);exact R.zxG (k:=.vec t k l) this λ_ _ _=>by grind[xL]
    refine⟨bs++[Y],?_⟩;have:=h1.put (xz _ _) (O d) (by grind[zvk]) (v:=.vec H.length l.length) (u:=u)<|by
     simp only[xm];rw[yP<|yk _];simp only[uw,yS];refine⟨yk _,λ_=>⟨cells,⟨hown.1,.inl ⟨hnil,h0⟩⟩,by grind[xI],D.zve (xz zg w') (λ_ x=>x.elim) (λb _ hb=>.inl ?_) _ _ hfl⟩⟩;rcases hb with hb|hb;·exact .inl hb
     ·rcases yu.1 hb with hb|hb;·exact .inr hb
      simp_all
    rw[hd];exact this
   ·have hgA:¬C.A0 g:=λh=>absurd (hR.own.zu5 g h)<|by omega
    have hgl:g<w'.heap.size:=(yn.1 hheap).1;have h1:R {C with A0:=λc=>C.A0 c\/c=g} bs ⟨T,H⟩ a w':=hR.zvP (A:=λc=>C.A0 c\/c=g) hf (λb hb hb'=>hb'.elim id λe=>by omega) λb hb=>by
      rcases hb with hb|rfl;·exact yD (hR.own.zu5 b hb) hf.size
      simp_all
    have h2:=R.zx2 (C:=C) t k l h1 hheap hgA<|yI hR.fr.size hbase;refine⟨bs++[O g],?_⟩;have:=h2.put (xz _ _) (O d) (by grind[zvk]) (v:=.vec H.length l.length) (u:=u)<|by
     simp only[xm];rw[yP<|yk _];simp only[uw,yS];refine⟨yk _,λ_=>⟨cells,⟨hown.1,.inr ⟨g,cap,cur,hu,ym _,hheap,hrest⟩⟩,by grind[xI],D.zve (xz zg w') (λ_ x=>x.elim) (λb _ hb=>?_) _ _ hfl⟩⟩;rcases hb with hb|hb;·exact .inl<|.inl hb
     ·rcases yu.1 hb with hb|hb;·exact .inl<|.inr hb
      ·simp only[yK,yo]at hb;subst hb;exact .inr<|by rw[hu];rfl
    rw[hd];exact this
  obtain⟨bs',hR'⟩:=hbl;exact hK _ _<|(kk l hY).run bs' _ _ hR'
variable{κ β:Type}{ke:κ->Value}{ve:β->D}
end
section
variable[zuV][Drw]
theorem OpV.mkIface {P o e H t x d v fs}(ho:o.op=.makeInterface t x)(ht:P.underlying t=O (.struct fs))(hx:e x=O (.d d))(hv:IsV d v):OpV P o e H<|.d<|.val<|.iface t v:=by
 refine⟨λA f w g j a h i=>?_⟩;have c:=a x (by grind[xk]) _ hx;have b:=(hv.eq _ _ _).1 c;have:(execOp g o).run P w=.ok (.value<|.iface t v) w:=by simp only[execOp,ho,b,Instr.makeInterface,xr,run_underlying ht,xi,xt]
 rw[this];exact⟨xz _ _,by grind[xm,xD]⟩
theorem TriL.panic {P C ops o rest Q s x t v}(hg:o.guard=Y)(ho:o.op=.panic x)(hx:ev s.T x=O (.d<|.val<|.iface t v))(h:Q (.panic [{v:=.iface t v,recovered:=M}]) s):TriL P C ops (o::rest) Q s:=by
 refine⟨λe a w b=>wpList_plain hg λK f=>?_⟩;have c:=b.ev hx;unfold vo;have:(execOp a.eval o).run P w=.halt (.panic<|.iface t v) w:=by simp only[execOp,ho];rw[c];rfl
 rw[this];exact .inl ⟨e,s,h,b⟩
structure zxt (P:Program)(f:FuncId)(pv:Value)(t:TypeId)(cs:List D)(vt:TypeId)(vk:Nat)(xs:List D)(zs:List D)(o:Option<|D×List D):Prop where run:∀(A:Nat->Prop)(w:World)(b:Nat)(hdr:Value)(vs us:Array Value)(cells vr:List Value),(∀c,A c->c<w.heap.size)->zdv (λc=>A c\/c=b\/hdr.ownBlock=O c) w->¬A b->b<w.heap.size->(∀c,hdr.ownBlock=O c->¬A c/\c≠b/\c<w.heap.size)->w.heap[b]?=O (.cells us t (0,0))->xv (λc=>A c\/c=b\/hdr.ownBlock=O c) w cs us.toList->w.ownsRow 0 vt vk hdr xs.length cells->xM (λc=>A c\/c=b\/hdr.ownBlock=O c) w vk xs cells->vs.toList=.pointer (O ⟨b,0,Y⟩)::hdr::vr->xv (λc=>A c\/c=b\/hdr.ownBlock=O c) w zs vr->Calls P f vs w λe w'=>∃us' cs',Fr (λc=>c=b\/hdr.ownBlock=O c) w w'/\w'.heap[b]?=O (.cells us' t (0,0))/\xv (λc=>A c\/c=b\/hdr.ownBlock=O c) w' cs' us'.toList/\((∃y u,o=O (y,cs')/\e=.returned u/\xD (λc=>A c\/c=b\/hdr.ownBlock=O c) w' y u)\/o=Y/\e=.panicked [{v:=pv,recovered:=M}])
def zyU (tt:Tmp)(ty:TypeId)(P:Program)(pv:Value)(t:TypeId)(m:Nat)(o:Option<|D×List D)(e:Exit)(s:St):Prop:=(∃i T ds cs',o=O (.agg ds,cs')/\e=.ret/\look tt s.T=O (.loc i 0)/\s.H[i]?=O (.box T<|xj V.d ds)/\zan P ty=O (O ds.length)/\s.H[0]?=O (.box t<|xj V.d cs')/\∃t1 k1 xs',s.H[1]?=O (.vec t1 k1 xs')/\xs'.length=m)\/∃cs',o=Y/\e=.panic [{v:=pv,recovered:=M}]/\s.H[0]?=O (.box t<|xj V.d cs')/\∃t1 k1 xs',s.H[1]?=O (.vec t1 k1 xs')/\xs'.length=m
theorem zxt.zxN {P:Program}{f:FuncId}{fn:Func}{c:Code}{pv t cs vt vk xs zs o}{tt:Tmp}{ty:TypeId}(hf:P.funcs[f]?=O fn)(hb:fn.body=O c)(hrs:fn.results=#[.cell tt ty])(hn:zs.length+2<=fn.ntmps)(h:∀(A:Nat->Prop)(b:Nat)(hdr:Value)(w:World),Tri P ⟨A,λc=>c=b\/hdr.ownBlock=O c,w,fn.ntmps,λ_ _=>False,[(.loc 0 0,.pointer<|O ⟨b,0,Y⟩),(.vec 1 xs.length,hdr)],2,[]⟩ c (zyU tt ty P pv t xs.length o) ⟨(0,.loc 0 0)::(1,.vec 1 xs.length)::params 2 zs,[.box t<|cs.map V.d,.vec vt vk xs]⟩):zxt P f pv t cs vt vk xs zs o:=by
 refine⟨λA w b hdr vs us cells vr hA hG hAb hbw hq hh hcs hrow hflat hvs hr=>?_⟩;have hlen:=D.zva hr;have hvl:vs.size=zs.length+2:=by have:=congrArg xh hvs;simp at this;omega
 have hown:∀c,Own A [O b,hdr.ownBlock] c↔A c\/c=b\/hdr.ownBlock=O c:=λc=>by simp only[Own,yF,yo,vz,or_false];exact⟨λh=>h.elim .inl λh=>h.elim (λh=>.inr<|.inl h) λh=>.inr<|.inr h.symm,λh=>h.elim .inl λh=>h.elim (λh=>.inr<|.inl h) λh=>.inr<|.inr h.symm⟩
 have hownE:Own A [O b,hdr.ownBlock]=λc=>A c\/c=b\/hdr.ownBlock=O c:=funext λc=>propext<|hown c;have hsz:(vs++xu (fn.ntmps-vs.size) undef).size=fn.ntmps:=by simp;omega
 have hget:∀j,j<vs.size->(vs++xu (fn.ntmps-vs.size) undef).getD j undef=vs.toList.getD j undef:=λj hj=>by simp[y8,vc hj,vy]
 have hR:R ⟨A,λc=>c=b\/hdr.ownBlock=O c,w,fn.ntmps,λ_ _=>False,[(.loc 0 0,.pointer<|O ⟨b,0,Y⟩),(.vec 1 xs.length,hdr)],2,[]⟩ [O b,hdr.ownBlock] ⟨(0,.loc 0 0)::(1,.vec 1 xs.length)::params 2 zs,[.box t<|cs.map V.d,.vec vt vk xs]⟩ {tmps:=vs++xu (fn.ntmps-vs.size) undef,defers:=[]} w:=by
  have hvec:xm (Own A [O b,hdr.ownBlock]) w [O b,hdr.ownBlock] [.box t<|cs.map V.d,.vec vt vk xs] (.vec 1 xs.length) hdr:=by simp only[xm,uF,yS];exact⟨yk _,λ_=>⟨cells,hrow,trivial,by rw[hownE];exact hflat⟩⟩
  refine⟨⟨λi j q hi hj=>?_,λq hq2=>?_,λq hq2=>?_,hA,by rw[hownE];exact hG⟩,rfl,λi k hk=>?_,λu v hv=>?_,rfl,hsz,xz _ _,λq hq2=>?_,λp hp=>?_⟩;·match i,j with
   |0,0=>rfl|1,1=>rfl|0,1=>simp only[yS,uF,yo]at hi hj;exact absurd hi.symm (hq q hj).2.1|1,0=>simp only[yS,uF,yo]at hi hj;exact absurd hj.symm (hq q hi).2.1|n+2,_=>simp at hi|_,n+2=>simp at hj
  ·simp only[yF,yo,vz,or_false]at hq2;rcases hq2 with rfl|e;·exact hAb
   ·exact(hq q e.symm).1
  ·simp only[yF,yo,vz,or_false]at hq2;rcases hq2 with rfl|e;·exact hbw
   ·exact(hq q e.symm).2.2
  ·match i with
   |0=>simp only[yS,yo]at hk;subst hk;simp only[xL];exact⟨b,us,rfl,hh,V.zwV.2<|by rw[hownE];exact hcs⟩|1=>simp only[yS,uF,yo]at hk;subst hk;simp only[xL]|n+2=>simp at hk
  ·simp only[zbn]at hv;split at hv;·rename_i e;cases hv;subst e;refine⟨by grind,?_⟩;simp only[xm,yS];refine⟨b,rfl,?_⟩;show(vs++xu (fn.ntmps-vs.size) undef).getD 0 undef=_;rw[hget 0<|by omega,hvs];rfl
   ·split at hv
    ·rename_i e;cases hv;subst e;refine⟨by show 1<fn.ntmps;omega,?_⟩;have:(vs++xu (fn.ntmps-vs.size) undef).getD 1 undef=hdr:=by rw[hget 1<|by omega,hvs];rfl
     show xm _ _ _ _ _<|(vs++xu (fn.ntmps-vs.size) undef).getD 1 undef;rw[this];exact hvec
    ·have:=zd4 (A:=Own A [O b,hdr.ownBlock]) (w:=w) (bs:=[O b,hdr.ownBlock]) (H:=[.box t<|cs.map V.d,.vec vt vk xs]) zs 2 vr (vs++xu (fn.ntmps-vs.size) undef) (by rw[hownE];exact hr) (λj hj=>by rw[hget (2+j)<|by omega,hvs,Nat.add_comm];rfl) (by rw[hsz];omega) u v hv;rw[hsz]at this;exact this
  ·simp only[yF,yo,vz,or_false]at hq2;rcases hq2 with rfl|e;·exact .inl<|.inl rfl
   ·exact .inl<|.inr e.symm
  ·rcases yF.1 hp with rfl|hp;·refine⟨rfl,?_⟩;simp only[xm,yS];exact⟨b,rfl,rfl⟩
   ·obtain rfl:p=(.vec 1 xs.length,hdr):=by simpa using hp
    exact⟨rfl,hvec⟩
 refine calls_of_wp hf hb<|xU ?_<|(h A b hdr w).run _ _ w hR;rintro e a' w'(⟨bs',s',hQ,hR'⟩|⟨_,hE⟩);case inr=>simp_all
 have hfin:∀cs',s'.H[0]?=O (.box t<|xj V.d cs')->(∃t1 k1 xs',s'.H[1]?=O (.vec t1 k1 xs')/\xs'.length=xs.length)->(∀c,A c\/c=b\/hdr.ownBlock=O c->Own A bs' c)/\∃us',w'.heap[b]?=O (.cells us' t (0,0))/\xv (λc=>A c\/c=b\/hdr.ownBlock=O c) w' cs' us'.toList:=λcs' hH⟨t1,k1,xs',hH1,hx1⟩=>by
  have hg:=(hR'.gh _ uR).2;simp only[xm,hH]at hg;obtain⟨b1,hb1,e1⟩:=hg;obtain rfl:b=b1:=by simpa using e1
  have hg2:=(hR'.gh _<|yV _ uR).2;simp only[xm,hH1]at hg2;obtain⟨-,hg2⟩:=hg2;obtain⟨-,-,hq1,-⟩:=hg2 hx1.symm;have hblk:=hR'.blk 0 _ hH;simp only[xL]at hblk;obtain⟨b2,us',hb2,hh2,hr2⟩:=hblk;obtain rfl:b=b2:=by rw[hb1]at hb2;simpa using hb2
  have hin:∀c,A c\/c=b\/hdr.ownBlock=O c->Own A bs' c:=λc hc=>by
   rcases hc with hc|rfl|hc;·exact .inl hc
   ·exact .inr<|yC hb1
   ·exact .inr<|by rw[hc]at hq1;exact yC hq1
  exact⟨hin,us',hh2,D.zvs (xz zg w') (λ_ x=>x.elim) (λc _ hc=>hin c hc) _ _<|V.zwV.1 hr2⟩
 rcases hQ with⟨i,T,ds,cs',ho,rfl,ht,hi,hsh,h0,h1⟩|⟨cs',ho,rfl,h0,h1⟩
 ·obtain⟨hin,us',g1,g2⟩:=hfin cs' h0 h1;have hp:=(hR'.tmp tt _ ht).2;simp only[xm,hi]at hp;obtain⟨bi,hbi,hp⟩:=hp;have hblk:=hR'.blk i _ hi;simp only[xL]at hblk;obtain⟨bi2,vs',hbi2,hh2,hr2⟩:=hblk;obtain rfl:bi=bi2:=by rw[hbi]at hbi2;simpa using hbi2
  have hrep:xD (Own A bs') w' (.agg ds)<|.agg vs':=by simp only[xD];exact⟨vs',rfl,V.zwV.1 hr2⟩
  have hl:=zcC (P:=P) (A:=Own A bs') (d:=.agg ds) (b:=bi) (off:=0) hsh hrep rfl (λj hj=>by rw[ug,zab hh2];simp[xX]);simp only[vS,wj,xr,xt,xi]at hl;have hone:(zeC a'.tmps<|.cell tt ty).run P w'=.ok (.agg vs') w':=by grind[zeC,xr,asAddr,xt,xi]
  refine⟨hR'.defers,.agg vs',?_,us',cs',hR'.fr,g1,g2,.inl ⟨_,_,ho,rfl,D.zvU (xz zg w') (λ_ x=>x.elim) (λc _ hc=>hin c hc) _ _ hrep⟩⟩;rw[zca,hrs];simp_all
 ·obtain⟨hin,us',g1,g2⟩:=hfin cs' h0 h1;exact⟨hR'.defers,us',cs',hR'.fr,g1,g2,.inr ⟨ho,rfl⟩⟩
def ziw (w w':World)(q:Option Nat):World:=match q with|none=>w|some q=>{w with heap:=w.heap.setIfInBounds q<|w'.heap[q]?.getD J}
theorem zro (w w')(q):Fr (λc=>q=O c) w<|ziw w w' q:=by cases q with
 |none=>exact xz _ _|some q=>
  refine⟨rfl,rfl,rfl,by simp[ziw],λc b a=>?_,λ_=>yk _⟩;grind[ziw]
theorem zqV {w w'}{q}{W}(h:Fr (λc=>W c\/q=O c) w w'):Fr W (ziw w w' q) w':=by cases q with
 |none=>exact h.mono λc _ a=>a.elim (λh=>h) λh=>by cases h|some q=>
  have d:(ziw w w'<|O q).heap.size=w.heap.size:=by simp[ziw]
  refine⟨h.os,h.tape,h.output,by rw[d];exact h.size,λc a f=>?_,h.drawn⟩;rw[d]at a;simp only[ziw];by_cases e:q=c;·subst e;have g:=yD a h.size;simp_all
  ·rw[Array.getElem?_setIfInBounds_ne e];exact h.block c a λb=>b.elim f λb=>e<|by simp_all
theorem TriL.turn2 {P}{C}{ops}{o:Oper}{rest}{Q:Exit->St->Prop}{T}{H}{f pv t cs vt vk xs zs r d bi vi ys}(hp:zxt P f pv t cs vt vk xs zs r)(hg:o.guard=Y)(hd:o.dst=O d)(hdn:xA d C.n=U)(hc:zwz P o (ev T) f ys)(hz:ys=.loc bi 0::.vec vi xs.length::zs.map V.d)(hB:H[bi]?=O (.box t<|cs.map V.d))(hV:H[vi]?=O (.vec vt vk xs))(kk:∀y cs',r=O (y,cs')->TriL P C ops rest Q ⟨(d,.d y)::T,(H.set bi<|.box t<|cs'.map V.d).set vi .dead⟩)(kp:∀cs':List D,r=Y->Q (.panic [{v:=pv,recovered:=M}]) ⟨T,(H.set bi<|.box t<|cs'.map V.d).set vi .dead⟩):TriL P C ops (o::rest) Q ⟨T,H⟩:=by
 subst hz;refine⟨λbs a w hR=>wpList_plain hg λK hK=>?_⟩;obtain⟨vs,hrun,hvs⟩:=hc.run (Own C.A0 bs) w bs H a.eval (λx _ y hx=>hR.ev hx) λ_=>rfl;obtain⟨v0,vr0,hvs0,hv0,hdr,vr,rfl,hv1,hvr⟩:=hvs;simp only[xm,hB]at hv0;obtain⟨b,hb,rfl⟩:=hv0;simp only[xm,hV]at hv1;obtain⟨cells,hrow,hq,hflat⟩:=hv1.2 trivial;have hblk:=hR.blk bi _ hB;obtain⟨b2,us,hb2,hh,hcs⟩:=hblk;obtain rfl:b=b2:=by rw[hb]at hb2;simpa using hb2
 have hbv:bi≠vi:=λe=>by simp_all
 have hqb:∀c,hdr.ownBlock=O c->c≠b/\O c∈bs:=λc hc=>by rw[hc]at hq;refine⟨λe=>?_,yC hq⟩;subst e;exact hbv<|hR.own.apart _ _ _ hb hq
 have hbm:O b∈bs:=yC hb;have hfun:λc=>Own C.A0 bs c/\c≠b/\hdr.ownBlock≠O c\/c=b\/hdr.ownBlock=O c=Own C.A0 bs:=funext λc=>propext ⟨λh=>by
   rcases h with h|rfl|h;·exact h.1
   ·exact .inr hbm
   ·exact .inr (hqb c h).2,λh=>by grind⟩;have hcall:=hp.run (λc=>Own C.A0 bs c/\c≠b/\hdr.ownBlock≠O c) w b hdr vs us cells vr (λc hc=>hc.1.elim (hR.own.zu5 c)<|hR.own.lt c) (by rw[hfun];exact hR.own.glob) (λh=>h.2.1 rfl) (hR.own.lt b hbm) (λc hc=>⟨λh=>h.2.2 hc,(hqb c hc).1,hR.own.lt c (hqb c hc).2⟩) hh (by rw[hfun];exact V.zwV.1 hcs) hrow (by rw[hfun];exact hflat) hvs0<|by rw[hfun];exact V.zwV.1 hvr
 rw[hfun]at hcall;have hset:∀(i:Nat)(x:Option Nat),bs[i]?=O x->bs.set i x=bs:=λi x hx=>by
  refine ua λj=>?_;by_cases hij:i=j;·subst hij;rw[yy (yd.1 hx).1,hx]
  ·rw[yx hij]
 unfold vo;rw[hrun];refine hcall.mono ?_;rintro e w'⟨us',cs',hf,hh',hcs',hout⟩;have hR1:R C bs ⟨T,H.set vi .dead⟩ a<|ziw w w' hdr.ownBlock:=by
  have:=R.upd (y:=.dead) (c':=hdr.ownBlock) hR hV hq (by simp[Compat]) (zro w w' _) (.inl rfl)<|by simp only[xL]
  rwa[hset vi _ hq]at this
 have hB1:(H.set vi .dead)[bi]?=O (.box t<|cs.map V.d):=by grind
 have hf2:Fr (λc=>O b=O c) (ziw w w' hdr.ownBlock) w':=(zqV<|hf.mono λc _ hc=>hc).mono λc _ hc=>by rw[hc]
 have hR2:R C bs ⟨T,(H.set bi<|.box t<|cs'.map V.d).set vi .dead⟩ a w':=by
  have:=R.upd (y:=.box t<|cs'.map V.d) (c':=O b) hR1 hB1 hb (by simp[Compat]) hf2 (.inl rfl)<|by simp only[xL];refine⟨b,us',by rw[hset bi _ hb];exact hb,hh',?_⟩;rw[hset bi _ hb];exact V.zwV.2 hcs'
  grind[List.set_comm]
 rcases hout with⟨y,u,ho,rfl,hu⟩|⟨ho,rfl⟩;·have hput:=hR2.put (xz _ _) (O d) (by grind[zvk]) (v:=.d y) (u:=u) (by grind[xm]);rw[<-hd]at hput;refine hK _ _<|(kk y cs' ho).run bs _ _ ?_;rw[hd]at hput|-;exact hput
 ·exact .inl ⟨bs,_,kp cs' ho,hR2⟩
end
section
variable[zuV][Drw]
theorem D.zym {A A' w w' k}:∀{xs}{cs},(∀x∈xs,x.scal=U)->xM A w k xs cs->xM A' w' k xs cs|[],_,_,h=>by grind[xM]|x::xs,cs,b,h=>by obtain⟨u,a,e,c,f,d⟩:=h;exact⟨u,a,e,c,D.zxF (b x<|by simp) f,D.zym (λy g=>b y<|by grind) d⟩
theorem TriL.zyZ {P:Program}{C}{ops}{o:Oper}{rest:List Oper}{Q:Exit->St->Prop}{T}{H}{f args tys xs t k xe d}(hg:o.guard=Y)(ho:o.op=.call {callee:=.value<|.func f,args:=args,argTypes:=tys})(hd:o.dst=O d)(hdn:xA d C.n=U)(hc:zu0 P f=U)(ha:Lent (ev T) H args.toList xs)(hp:zyh P f xs t k xe)(hs:∀l,xe l->∀x∈l,x.scal=U)(kk:∀l,xe l->TriL P C ops rest Q ⟨(d,.vec H.length l.length)::T,H++[.vec t k l]⟩):TriL P C ops (o::rest) Q ⟨T,H⟩:=by
 refine⟨λbs a w hR=>wpList_plain hg λK hK=>?_⟩;have hk:∀k,a.eval (.func k)=.func (.func k) #[] #[]:=λ_=>rfl;have hrun:(execOp a.eval o).run P w=.ok (.enter f<|args.map a.eval) w:=by simp only[execOp,ho,resolve,hk,xY,xr,xt,xi,invoke];simpa using za7 hc (args.map a.eval) w
 have hreps:xv C.A0 w xs (args.map a.eval).toList:=by have:=ha.reps (w:=w) (f:=a.eval) hR.mem λx _ y hy=>hR.ev hy;simpa using this
 have hlen:=hR.len;refine Oper.zv9 (K:=λu w'=>∃l cells,xe l/\Fr zg w w'/\w'.ownsRow w.heap.size t k u l.length cells/\xM (λb=>Own C.A0 bs b\/u.ownBlock=O b) w' k l cells) ?_ λu w'⟨l,cells,hY,hf,hown,hfl⟩=>?_
 ·rw[hrun];refine(hp.run C.A0 w (args.map a.eval) hR.own.zu5 (hR.own.glob.fr (xz zg w) (λ_ x=>x.elim) λ_ _ h=>.inl h) hreps).mono ?_;grind[D.zym]
 ·have hbl:∃bs',R C bs' ⟨(d,.vec H.length l.length)::T,H++[.vec t k l]⟩ (a.put o.dst u) w':=by
   rcases hown.2 with⟨hnil,h0⟩|⟨g,cap,cur,hu,hbase,hheap,hrest⟩
   ·have h1:R C (bs++[Y]) ⟨T,H++[.vec t k l]⟩ a w':=by have:=hR.put hf Y rfl (v:=.junk) (u:=undef) (by simp only[xm]);exact R.zxG (k:=.vec t k l) this λ_ _ _=>by grind[xL]
    refine⟨bs++[Y],?_⟩;have:=h1.put (xz _ _) (O d) (by grind[zvk]) (v:=.vec H.length l.length) (u:=u)<|by
     simp only[xm];rw[yP<|yk _];simp only[uw,yS];refine⟨yk _,λ_=>⟨cells,⟨hown.1,.inl ⟨hnil,h0⟩⟩,by grind[xI],D.zve (xz zg w') (λ_ x=>x.elim) (λb _ hb=>.inl ?_) _ _ hfl⟩⟩;rcases hb with hb|hb;·exact .inl hb
     ·rcases yu.1 hb with hb|hb;·exact .inr hb
      simp_all
    rw[hd];exact this
   ·have hgA:¬C.A0 g:=λh=>absurd (hR.own.zu5 g h)<|by omega
    have hgl:g<w'.heap.size:=(yn.1 hheap).1;have h1:R {C with A0:=λc=>C.A0 c\/c=g} bs ⟨T,H⟩ a w':=hR.zvP (A:=λc=>C.A0 c\/c=g) hf (λb hb hb'=>hb'.elim id λe=>by omega) λb hb=>by
      rcases hb with hb|rfl;·exact yD (hR.own.zu5 b hb) hf.size
      simp_all
    have h2:=R.zx2 (C:=C) t k l h1 hheap hgA<|yI hR.fr.size hbase;refine⟨bs++[O g],?_⟩;have:=h2.put (xz _ _) (O d) (by grind[zvk]) (v:=.vec H.length l.length) (u:=u)<|by
     simp only[xm];rw[yP<|yk _];simp only[uw,yS];refine⟨yk _,λ_=>⟨cells,⟨hown.1,.inr ⟨g,cap,cur,hu,ym _,hheap,hrest⟩⟩,by grind[xI],D.zve (xz zg w') (λ_ x=>x.elim) (λb _ hb=>?_) _ _ hfl⟩⟩;rcases hb with hb|hb;·exact .inl<|.inl hb
     ·rcases yu.1 hb with hb|hb;·exact .inl<|.inr hb
      ·simp only[yK,yo]at hb;subst hb;exact .inr<|by rw[hu];rfl
    rw[hd];exact this
  obtain⟨bs',hR'⟩:=hbl;exact hK _ _<|(kk l hY).run bs' _ _ hR'
theorem zqH {P}{f}{fn}{α}{t el}{k bytes}{enc}{xs zs:List α}(hf:P.funcs[f]?=O fn)(hbody:fn.body=O (zgu t))(hN:fn.ntmps=8)(hrs:fn.results=#[.tmp 2])(ht:zcc P t el k bytes=U)(hb:xA 0 bytes=U)(hones:∀z,(enc z).ones=U)(hk:∀x,(enc x).kOK k=U)(hv:Go.Proofs.YtipkniadbkndfaaGreatDoor.app bytes [] xs=O zs):zyh P f [.sl k<|xs.map enc] el k λl=>l=zs.map enc:=by
 have e:zs=xs:=by have:=(appS hv).1;simp_all
 have c:=(zbN ht).1;refine zyh.zxN hf hbody hrs (by simp_all) λA w=>?_;rw[hN];refine .seq<|.region<|.op rfl rfl (.assign rfl rfl)<|.nil ?_;refine .seq<|.seq<|.region<|.op rfl rfl (.move rfl rfl)<|.eqNil rfl rfl rfl c rfl λb a=>.nil ?_;refine .cond (t:=b) rfl (λd=>?_) λ_=>.skip ?_
 ·have a:xs=[]:=by simp_all
  subst a;subst e;refine .seq<|.region<|.op rfl rfl (.assign rfl rfl)<|.nil ?_;exact .zxf 2 k el rfl<|.ret ⟨rfl,0,[],rfl,rfl,rfl⟩
 ·refine .seq<|.region<|.zwk (α:=α) (enc:=enc) [] rfl rfl rfl rfl rfl ht rfl hk (by simp_all) ?_;refine .op rfl rfl (.move rfl rfl) ?_;refine .app rfl rfl rfl rfl rfl rfl rfl rfl ht hb hones hv ?_;refine .op rfl rfl (.assign rfl rfl)<|.nil ?_;exact .ret ⟨rfl,0,zs.map enc,by simp[look,St.put],rfl,rfl⟩
theorem TriL.cloneB {P}{C}{ops}{o:Oper}{rest}{Q}{T}{H}{f}{fn}{x}{tys}{α}{t el}{k bytes d i n el':Nat}{enc}{xs zs:List α}(hg:o.guard=Y)(ho:o.op=.call {callee:=.value<|.func f,args:=#[x],argTypes:=tys})(hd:o.dst=O d)(hdn:xA d C.n=U)(hcl:zu0 P f=U)(hf:P.funcs[f]?=O fn)(hbody:fn.body=O (zgu t))(hN:fn.ntmps=8)(hrs:fn.results=#[.tmp 2])(hx:ev T x=O (.vec i n))(hi:H[i]?=O (.vec el' k<|xs.map enc))(hn:n=xs.length)(ht:zcc P t el k bytes=U)(hb:xA 0 bytes=U)(hones:∀z,(enc z).ones=U)(hk:∀x,(enc x).kOK k=U)(hsc:∀x,(enc x).scal=U)(hv:Go.Proofs.YtipkniadbkndfaaGreatDoor.app bytes [] xs=O zs)(kk:TriL P C ops rest Q ⟨(d,.vec H.length zs.length)::T,H++[.vec el k<|zs.map enc]⟩):TriL P C ops (o::rest) Q ⟨T,H⟩:=by
 refine .zyZ hg ho hd hdn hcl (xs:=[.sl k<|xs.map enc]) (.cons hx (.vec hi<|by simp_all) .nil) (zqH hf hbody hN hrs ht hb hones hk hv) (λl a z b=>?_) λl a=>?_;·grind
 simp_all
theorem TriL.turn2S {P}{C}{ops}{o:Oper}{rest}{Q}{T}{H}{f pv t cs cs' vt vk xs zs y d bi vi ys}(hp:zxt P f pv t cs vt vk xs zs<|O (y,cs'))(hg:o.guard=Y)(hd:o.dst=O d)(hdn:xA d C.n=U)(hc:zwz P o (ev T) f ys)(hz:ys=.loc bi 0::.vec vi xs.length::zs.map V.d)(hB:H[bi]?=O (.box t<|cs.map V.d))(hV:H[vi]?=O (.vec vt vk xs))(kk:TriL P C ops rest Q ⟨(d,.d y)::T,(H.set bi<|.box t<|cs'.map V.d).set vi .dead⟩):TriL P C ops (o::rest) Q ⟨T,H⟩:=.turn2 hp hg hd hdn hc hz hB hV (λb a h=>by simp_all) λ_ h=>by cases h
theorem TriL.turn2P {P}{C}{ops}{o:Oper}{rest}{Q}{T}{H}{f pv t cs vt vk xs zs d bi vi ys}(hp:zxt P f pv t cs vt vk xs zs Y)(hg:o.guard=Y)(hd:o.dst=O d)(hdn:xA d C.n=U)(hc:zwz P o (ev T) f ys)(hz:ys=.loc bi 0::.vec vi xs.length::zs.map V.d)(hB:H[bi]?=O (.box t<|cs.map V.d))(hV:H[vi]?=O (.vec vt vk xs))(kp:∀cs':List D,Q (.panic [{v:=pv,recovered:=M}]) ⟨T,(H.set bi<|.box t<|cs'.map V.d).set vi .dead⟩):TriL P C ops (o::rest) Q ⟨T,H⟩:=.turn2 hp hg hd hdn hc hz hB hV (λ_ _ h=>by cases h) λa _=>kp a
section
variable{P:Program}{o:Oper}{e:Operand->Option V}{H:List Blk}
theorem OpV.oslNeq {t x u el k}{α:Type}{enc}{l:List α}(ho:o.op=.binOp .neq t x (.const<|.slice Y 0 0) u)(htu:P.underlying t=O (.slice el))(hx:e x=O (.d<|.osl k<|l.map enc)):OpV P o e H<|.d<|.bool<|!l.isEmpty:=by
 refine⟨λn q w f m i y _=>?_⟩;have j:=i x (by grind[xk]) _ hx;obtain⟨p,a,z,h,r,s⟩:=j;have v:p.isNone=l.isEmpty:=by grind
 have b:(execOp f o).run P w=.ok (.value<|.bool<|!l.isEmpty) w:=by
  simp only[execOp];have c:(eqGuard BinOp.neq t x (wR<|vC Y 0 0) (vC p l.length a)<|vC Y 0 0).run P w=.ok () w:=by simp[eqGuard]
  have g:(binOp .neq t (.slice p l.length a)<|.slice Y 0 0).run P w=.ok (.bool<|!p.isNone) w:=by simp only[binOp];simp[Op.equal,Op.maxDepth,Lib.run_equalIn_slice_nil w 9999 t el p l.length a 0 0 htu]
  simp_all
 rw[b];exact⟨xz _ _,by grind[xm,xD]⟩
end
theorem zuy {α:Type}{k}{enc}{l:List α}:D.Le (.osl k<|l.map enc)<|.sl k<|l.map enc:=.osl _ _
theorem TriL.toOsl {P C ops rest Q T H}{α:Type}{k}{enc}{l:List α}(t)(ht:look t T=O (.d<|.sl k<|l.map enc))(h:l.isEmpty=M)(kk:TriL P C ops rest Q ⟨(t,.d<|.osl k<|l.map enc)::T,H⟩):TriL P C ops rest Q ⟨T,H⟩:=⟨λ_ a w b=>kk.run _ a w<|b.know (b.tmp t _ ht).1<|by
  have c:=(b.tmp t _ ht).2;grind[xm,xD]⟩
end
def pnk {α β:Type}(r:Option α)(k:α->Option (Option β)):Option<|Option β:=match r with|none=>O Y|some x=>k x
theorem pnkS {α β:Type}{r:Option α}{k:α->Option (Option β)}{o:Option β}(h:pnk r k=O o):r=Y/\o=Y\/∃x,r=O x/\k x=O o:=by cases r with|none=>simp only[pnk,yo]at h;exact .inl ⟨rfl,h.symm⟩|some x=>exact .inr ⟨x,rfl,h⟩
def ppk {α β:Type}(r:Option α)(a:Option β)(k:α->Option β):Option β:=match r with|none=>a|some x=>k x
theorem ppkS {α β:Type}{r:Option α}{a:Option β}{k:α->Option β}{o:Option β}(h:ppk r a k=o):r=Y/\a=o\/∃x,r=O x/\k x=o:=by cases r with|none=>exact .inl ⟨rfl,h⟩|some x=>exact .inr ⟨x,rfl,h⟩
section
variable[zuV][Drw]
theorem zfE.imp {P:Program}{K K':Value->World->Prop}(h:∀u w,K u w->K' u w):∀{r:Result Next},zfE P K r->zfE P K' r|.ok (.value _) _,a=>h _ _ a|.ok .skip _,a=>h _ _ a|.ok (.enter _ _) _,a=>vY a λ_ _⟨u,c,b⟩=>⟨u,c,h _ _ b⟩
theorem OpV.leD {P}{o}{e}{H}{d d'}(hle:D.Le d d')(h:OpV P o e H<|.d d):OpV P o e H<|.d d':=⟨λb c w f g i j k=>zfE.imp (λu m⟨l,a⟩=>⟨l,by exact hle.rep a⟩)<|h.run b c w f g i j k⟩
section
variable{P:Program}{o:Oper}{e:Operand->Option V}{H:List Blk}
theorem OpV.extractV {x i cs v}(ho:o.op=.extract x i)(hx:e x=O (.tup cs))(hd:cs[i]?=O v):OpV P o e H v:=.of_same λk m w f _ d=>by
  have g:=d x (by grind[xk]) _ hx;obtain⟨c,j,h⟩:=g;obtain⟨u,l,a⟩:=V.zvF h i v hd;refine⟨u,?_,a⟩;have b:c[i]?=O u:=by simp_all
  simp[execOp,ho,j,Instr.extract,b]
end
theorem TriL.turn3S {P}{C}{ops}{o:Oper}{rest}{Q}{T}{H}{f pv t cs cs' vt vk xs zs y d bi vi ys nn}(hp:zxt P f pv t cs vt vk xs zs<|O (y,cs'))(hg:o.guard=Y)(hd:o.dst=O d)(hdn:xA d C.n=U)(hc:zwz P o (ev T) f ys)(hz:ys=.loc bi 0::.vec vi nn::zs.map V.d)(hn:nn=xs.length)(hB:H[bi]?=O (.box t<|cs.map V.d))(hV:H[vi]?=O (.vec vt vk xs))(kk:TriL P C ops rest Q ⟨(d,.d y)::T,(H.set bi<|.box t<|cs'.map V.d).set vi .dead⟩):TriL P C ops (o::rest) Q ⟨T,H⟩:=.turn2S hp hg hd hdn hc (hn▸hz) hB hV kk
theorem TriL.turn3P {P}{C}{ops}{o:Oper}{rest}{Q}{T}{H}{f pv t cs vt vk xs zs d bi vi ys nn}(hp:zxt P f pv t cs vt vk xs zs Y)(hg:o.guard=Y)(hd:o.dst=O d)(hdn:xA d C.n=U)(hc:zwz P o (ev T) f ys)(hz:ys=.loc bi 0::.vec vi nn::zs.map V.d)(hn:nn=xs.length)(hB:H[bi]?=O (.box t<|cs.map V.d))(hV:H[vi]?=O (.vec vt vk xs))(kp:∀cs':List D,Q (.panic [{v:=pv,recovered:=M}]) ⟨T,(H.set bi<|.box t<|cs'.map V.d).set vi .dead⟩):TriL P C ops (o::rest) Q ⟨T,H⟩:=.turn2P hp hg hd hdn hc (hn▸hz) hB hV kp
def ResC (P:Program)(s:St)(rs:List ResultVar)(v:V):Prop:=match rs with|[.cell tt ty]=>∃i T cs,look tt s.T=O (.loc i 0)/\s.H[i]?=O (.box T cs)/\zan P ty=O (O cs.length)/\zzC cs=v|rs=>∃vs,ResV s rs vs/\zdM vs=v
def zys (P:Program)(rs:List ResultVar)(K:V->List Blk->Prop)(Kp:List PanicEntry->List Blk->Prop)(e:Exit)(s:St):Prop:=((e=.ret\/e=.normal)/\∃v,ResC P s rs v/\K v s.H)\/∃ch,e=.panic ch/\Kp ch s.H
theorem zsv {P C bs s a w}{fn}{rs}{v}(hR:R C bs s a w)(hrs:fn.results=rs.toArray)(h:ResC P s rs v):∃u,(results fn a.tmps).run P w=.ok u w/\xm (Own C.A0 bs) w bs s.H v u:=by
 unfold ResC at h;split at h
 ·rename_i p l;obtain⟨i,T,F,A,o,c,rfl⟩:=h;have k:=(hR.tmp p _ A).2;simp only[xm,o]at k;obtain⟨B,t,k⟩:=k;have d:=hR.blk i _ o;obtain⟨y,g,m,H,b⟩:=d;have n:=V.zva b;refine⟨.agg g,?_,?_⟩;·unfold zan at c;cases e:P.underlying l with|none=>simp_all|some u=>
    simp only[e]at c;by_cases f:u.isRow=U;·cases z:P.info? l with
     |none=>simp_all|some inf=>
      have q:=run_loadAt_mid (P:=P) w B 0 l g.toList u (λj x G=>by grind[zab]) e f<|by simp_all
      simp only[vS,wj]at q;have r:(zeC a.tmps<|.cell p l).run P w=.ok (.agg g) w:=by simp only[zeC,k,asAddr,q]
      rw[zca,hrs];simp_all
    simp_all
  ·unfold zzC;split;·rename_i xf E;rw[zkj E]at b;exact⟨_,rfl,V.zwV.1 b⟩
   ·simp only[xm];simp_all
 ·obtain⟨g,K,rfl⟩:=h;exact zmZ (P:=P) (fn:=fn) hR<|by simp_all
theorem TriL.zyC {P C ops o rest Q T H f fn c xs N}{rs}(hg:o.guard=Y)(hd:zvk o.dst C.n=U)(hc:zwz P o (ev T) f xs)(hf:P.funcs[f]?=O fn)(hb:fn.body=O c)(hN:fn.ntmps=N)(hrs:fn.results=rs.toArray)(hn:xQ xs.length N=U)(hu:(T.all λp=>p.2.under H.length)=U)(hgn:xQ C.gn H.length=U)(h:∀(own0)(w)(gh),Tri P ⟨C.A0,own0,w,N,λ_ _=>False,gh,H.length,[]⟩ c (zys P rs (λv H'=>TriL P C ops rest Q ⟨putT T o.dst v,H'⟩) λch H'=>Q (.panic ch) ⟨T,H'⟩) ⟨zbz 0 xs,H⟩):TriL P C ops (o::rest) Q ⟨T,H⟩:=by
 subst hN;have hgn:=yt hgn;refine⟨λs a w i=>wpList_plain hg λK hK=>?_⟩;obtain⟨m,B,A⟩:=hc.run (Own C.A0 s) w s H a.eval (λx _ y hx=>i.ev hx) λ_=>rfl;unfold vo;rw[B];have X:=V.zv7 A;refine calls_of_wp hf hb ?_;have xc:=h (λb=>C.own0 b\/O b∈s) w<|C.gh++vals a T T;have L:R ⟨C.A0,λb=>C.own0 b\/O b∈s,w,fn.ntmps,λ_ _=>False,C.gh++vals a T T,H.length,[]⟩ s ⟨zbz 0 xs,H⟩ {tmps:=m++xu (fn.ntmps-m.size) undef,defers:=[]} w:=by
  have xd:(m++xu (fn.ntmps-m.size) undef).size=fn.ntmps:=by simp_all
  refine⟨i.own,i.len,i.blk,λt v F=>?_,rfl,xd,xz _ _,λb hb=>.inl<|.inr hb,λp k=>?_⟩
  ·have:=zc5 xs 0 m.toList (m++xu (fn.ntmps-m.size) undef) A (λj hj=>by
     have S:j<m.size:=by simp_all
     simp[wu,S]) (by simp_all) t v F;grind
  ·rcases yu.1 k with k|k;·exact⟨V.zv8 hgn _ (i.gh p k).1,(i.gh p k).2⟩
   ·obtain⟨t,r,h2⟩:=zeb k;exact⟨zdy hu r,by rw[h2];exact(i.tmp t _ r).2⟩
 refine xU ?_<|xc.run s _ w L;rintro e a' w'(⟨n,s',hQ,g⟩|⟨_,hE⟩);case inr=>simp_all
 have E:R C n ⟨T,s'.H⟩ a w':=by
  refine⟨g.own,g.len,g.blk,λt v F=>⟨(i.tmp t v F).1,(g.gh _<|wC _<|zdL F F).2⟩,i.defers,i.size,?_,λb hb=>?_,λp k=>⟨(i.gh p k).1,(g.gh p<|wm _ k).2⟩⟩
  ·have z:=g.fr;refine⟨z.os.trans i.fr.os,z.tape.trans i.fr.tape,z.output.trans i.fr.output,yI i.fr.size z.size,λq xe xa=>?_,λd=>yI (i.fr.drawn d)<|z.drawn d⟩;refine(z.block q (yD xe i.fr.size) λe=>?_).trans<|i.fr.block q xe xa;rcases e with e|e;·simp_all
   ·rcases i.new q e with e|e;·simp_all
    grind
  ·rcases g.new b hb with(r|r)|r;·simp_all
   ·exact i.new b r
   ·exact .inr<|yI i.fr.size r
 rcases hQ with⟨he,v,G,xb⟩|⟨ch,rfl,xb⟩
 ·obtain⟨u,xf,W⟩:=zsv g hrs G;have l:=by have:=E.put (xz _ _) o.dst hd W;rw[St.put_eq]at this;exact hK _ _<|xb.run n _ _ this
  rcases he with rfl|rfl;·exact⟨g.defers,u,xf,l⟩
  ·exact⟨g.defers,u,xf,l⟩
 ·exact⟨g.defers,.inl ⟨n,_,xb,E⟩⟩
end
def ze7 (n:Nat)(cf:Fin (n+1)->Fin (n+1)->Int):Array<|Fin<|n+1:=Go.Sort.pdq (λx y=>Z<|cf x y<0) (uZ (n:=n+1) id) 0 (n+1) (Go.Lib.bitLen<|n+1) U U
def zxP {α:Type}(cf:α->α->Int):List α->List α|[]=>[]|x::xs=>(ze7 xs.length λi j=>cf ((x::xs)[i.val]'(by simp))<|(x::xs)[j.val]'(by simp)).toList.map λi=>(x::xs)[i.val]'(by simp)
def swoB {α:Type}(cf:α->α->Int)(l:List α):Bool:=l.all λx=>!decide (cf x x<0)&&l.all λy=>l.all λz=>(!(Z (cf x y<0)&&Z (cf y z<0))||decide (cf x z<0))&&(Z (cf x y<0)||decide (cf y z<0)||!decide (cf x z<0))
def zyJ {α:Type}(f:α->α->Option Int)(l:List α):Option<|List α:=if(l.all λx=>l.all λy=>(f x y).isSome)&&swoB (λx y=>(f x y).getD 0) l&&Z (l.length<4611686018427387904)then O<|zxP (λx y=>(f x y).getD 0) l else Y
section
open Go Go.RowKit Go.Sort Go.Shelf
theorem zrT {α β:Type}{cf:α->α->Int}{l:List α}(h:swoB cf l=U)(g:β->α)(hg:∀b,g b∈l):SWO<|ltOf λx y:β=>cf (g x)<|g y:=by
 unfold swoB at h;rw[yq]at h;have k:∀x y z:β,¬cf (g x) (g x)<0/\(cf (g x) (g y)<0->cf (g y) (g z)<0->cf (g x) (g z)<0)/\(¬cf (g x) (g y)<0->¬cf (g y) (g z)<0->¬cf (g x) (g z)<0):=by intro x y z;have h1:=h _<|hg x;rw[yc,yq]at h1;have h2:=h1.2 _<|hg y;rw[yq]at h2;have h3:=h2 _<|hg z;have h0:=h1.1;simp only[yz,yJ]at h0;simp only[yc,yG,yz,uC,yf,yJ]at h3;exact⟨h0,by omega,by omega⟩
 refine⟨λx=>?_,λx y z h1 h2=>?_,λx y z h1 h2=>?_⟩;·have:=(k x x x).1;simpa only[ltOf,yJ]using this
 ·simp only[ltOf,yf]at*;exact(k x y z).2.1 h1 h2
 ·simp only[ltOf,yJ]at*;exact(k x y z).2.2 h1 h2
theorem zhW {n}{cf:Fin (n+1)->Fin (n+1)->Int}(hO:SWO<|ltOf cf):(ze7 n cf).size=n+1/\(ze7 n cf).toList.Perm (List.ofFn (n:=n+1) id)/\(ze7 n cf).toList.Pairwise λx y=>ltOf cf y x=false:=by
 obtain⟨⟨h1,_,h2⟩,h3⟩:=pdq_sorts (ltOf cf) hO (uZ (n:=n+1) id) 0 (n+1) (Lib.bitLen<|n+1) U U (ym _) (by simp)<|Or.inl rfl;have hs:(ze7 n cf).size=n+1:=by change(pdq (ltOf cf) (uZ (n:=n+1) id) 0 (n+1) (Lib.bitLen<|n+1) U U).size=n+1;rw[h1];simp
 refine⟨hs,?_,?_⟩
 ·have e:∀(arr:Array<|Fin<|n+1)(m:Nat),arr.size=m->arr.extract 0 m=arr:=by rintro arr m rfl;exact Array.extract_size
  have e1:=e (ze7 n cf) (n+1) hs;have e2:=e (uZ (n:=n+1) id) (n+1) (by simp);change((ze7 n cf).extract 0<|n+1).toList.Perm _ at h2;rw[e1,e2]at h2;simpa using h2
 ·rw[List.pairwise_iff_getElem];intro i j hi hj hij;have hi':i<(ze7 n cf).size:=by simpa using hi
  have hj':j<(ze7 n cf).size:=by simpa using hj
  have:=h3 i j (ym _) hij (by omega);change ltOf cf (ze7 n cf)[j]! (ze7 n cf)[i]! =M at this;rw[getElem!_pos (ze7 n cf) j hj',getElem!_pos (ze7 n cf) i hi']at this;simpa using this
theorem znF {α:Type}:∀(l:List α)(n:Nat)(h:n=l.length),(List.ofFn (n:=n) id).map (λi=>l[i.val]'(by rw[<-h];exact i.isLt))=l:=by
 intro l n h;subst h;apply uO;·simp
 ·intro i h1 h2;simp
theorem zjg {α:Type}{cf:α->α->Int}{l:List α}(h:swoB cf l=U):(zxP cf l).Perm l:=by cases l with
 |nil=>simp[zxP]|cons x xs=>
  have hO:SWO<|ltOf λi j:Fin<|xs.length+1=>cf ((x::xs)[i.val]'(by simp))<|(x::xs)[j.val]'(by simp):=zrT h (λi:Fin<|xs.length+1=>(x::xs)[i.val]'(by simp)) λi=>yg _;have h2:=(zhW hO).2.1.map λi=>(x::xs)[i.val]'(by simp);rw[znF (x::xs) (xs.length+1)<|by simp]at h2;exact h2
theorem zn9 {α:Type}{cf:α->α->Int}{l:List α}(h:swoB cf l=U):(zxP cf l).Pairwise λx y=>¬cf y x<0:=by cases l with
 |nil=>simp[zxP]|cons x xs=>
  have hO:SWO<|ltOf λi j:Fin<|xs.length+1=>cf ((x::xs)[i.val]'(by simp))<|(x::xs)[j.val]'(by simp):=zrT h (λi:Fin<|xs.length+1=>(x::xs)[i.val]'(by simp)) λi=>yg _;have h2:=(zhW hO).2.2;simp only[zxP,List.pairwise_map];refine h2.imp λ{a b}hab=>?_;simpa[ltOf]using hab
theorem zl8 {α:Type}{f:α->α->Option Int}{l r:List α}(h:zyJ f l=O r):(∀x∈l,∀y∈l,(f x y).isSome=U)/\swoB (λx y=>(f x y).getD 0) l=U/\l.length<4611686018427387904/\r=zxP (λx y=>(f x y).getD 0) l:=by
 unfold zyJ at h;split at h;·rename_i hc;simp only[yc,yf,yq]at hc;cases h;exact⟨λx hx y hy=>hc.1.1 x hx y hy,hc.1.2,hc.2,rfl⟩
 ·cases h
theorem zoa {α:Type}{f:α->α->Option Int}{l r:List α}(h:zyJ f l=O r):r.length=l.length:=by obtain⟨_,h1,_,rfl⟩:=zl8 h;exact(zjg h1).length_eq
end
section
open Go Go.RowKit Go.Sort Go.Shelf
variable[zuV][Drw]
theorem Fr.grow_eq {w w'}(h:@Fr DT zg w w'):∃q os,w'=grow (w.drewN q) os:=by
 refine⟨w'.drawn-w.drawn,w'.heap.extract w.heap.size w'.heap.size,?_⟩;obtain⟨heap,tape,drawn,os,output⟩:=w;obtain⟨heap',tape',drawn',os',output'⟩:=w';obtain⟨h1,h2,h3,h4,h5,h6⟩:=h;simp only at h1 h2 h3 h4 h5 h6;have h6:=h6 trivial;subst h1 h2 h3;have e:heap'=heap++heap'.extract heap.size heap'.size:=by
  apply Array.ext_getElem?;intro i;by_cases hi:i<heap.size;·rw[vc hi];exact h5 i hi λx=>x
  grind
 simp only[grow,World.drewN,World.mk.injEq];grind
theorem zqW {α}[Inhabited α]{enc}{w}{g n}{os}(d:Array α):Fr (λb=>O g=O b) w<|sortWorld enc w g 0 n d os:=by
 refine⟨rfl,rfl,rfl,by simp[sortWorld],λk c a=>?_,λ_=>Nat.le_add_right _ _⟩;grind[sortWorld,heap_grow_old,putRow,mapBlock,Sort.ahead]
theorem zox {P A w}{k g blk:Nat}(hA:∀b,A b->b<w.heap.size)(hG:zdv A w)(hb:A blk){vals}{encs:Fin (k+1)->D}(hr:∀i,(encs i).rep A w<|vals i){cf}(hp:∀i j,@Pure ‹zuV› DT P g [encs i,encs j]<|.int<|cf i j):CmpLays1 P g #[] vals cf blk 0 (k+1) w:=by
 intro m f c _ x y;have a:Fr (λb=>O blk=O b) w<|sortWorld vals w blk 0 m c f:=zqW c;have d:∀b,O blk=O b->A b:=λb e=>by simp_all
 have h:=@Pure.run ‹zuV› DT _ _ _ _ (hp x y) A (sortWorld vals w blk 0 m c f) #[vals x,vals y] (λb hb=>yD (hA b hb) a.size) (hG.fr a d λ_ _ h=>h)<|by exact⟨_,_,rfl,D.zvU a d (λ_ _ h=>h) _ _<|hr x,_,_,rfl,D.zvU a d (λ_ _ h=>h) _ _<|hr y,rfl⟩
 refine h.mono ?_;rintro e r⟨u,rfl,n,l⟩;simp only[xD]at l;obtain⟨q,o,p⟩:=n.grow_eq;grind
theorem D.zxD {A w}:∀{xs}{cs},(∀x∈xs,x.shape=Y)->(xM A w 1 xs cs↔xv A w xs cs)
 |[],cs,_=>by grind[xM,xv]|x::xs,cs,h=>by
  constructor;·rintro⟨u,a,rfl,f,b,c⟩;have e:=D.zvf b<|h x (by simp);refine⟨u,a,by simp_all,b,(D.zxD λy d=>h y<|by grind).1 c⟩
  ·rintro⟨u,a,rfl,b,c⟩;have e:=D.zvf b<|h x (by simp);exact⟨u,a,by simp_all,by simp_all,b,(D.zxD λy d=>h y<|by grind).2 c⟩
theorem D.zxO {A w}:∀{ds}{vs},vs.length=ds.length->(∀(i:Nat)(d)(v),ds[i]?=O d->vs[i]?=O v->d.rep A w v)->xv A w ds vs|[],[],_,_=>by grind[xv]|d::ds,v::vs,a,h=>by exact⟨v,vs,rfl,h 0 d v rfl rfl,D.zxO (by simp_all) λi c b f e=>h (i+1) c b (by simp_all)<|by simp_all⟩|[],_::_,a,_=>by grind|_::_,[],a,_=>by grind
theorem zkJ {w g f cur e fr}(hb:w.heap[g]?=O (.cells cur e fr)):mapBlock w g f=w.setRow g (f cur):=by
 unfold mapBlock World.setRow;congr 1;grind[onCells]
theorem TriL.sort1 {P C ops o rest Q T H}{ρ:Ren}(L:SlLaysF.n6 P ρ){α:Type}{F}{tys:Array TypeId}{x y el}{i n g:Nat}{enc:α->D}{l r:List α}{cmp:α->α->Option Int}(hF:ρ.f 6=F)(hg:o.guard=Y)(ho:o.op=.call {callee:=.value<|.func F,args:=#[x,y],argTypes:=tys})(hd:zvk o.dst C.n=U)(hc:zu0 P F=U)(hcg:zu0 P g=U)(hx:ev T x=O (.vec i n))(hy:ev T y=O (.d<|.fn (.func g) [] []))(hi:H[i]?=O (.vec el 1<|l.map enc))(hn:n=l.length)(h1:∀x,(enc x).shape=Y)(h2:∀x,(enc x).ones=U)(hs:zyJ cmp l=O r)(hp:∀a b v,cmp a b=O v->@Pure ‹zuV› DT P g [enc a,enc b] (.int v))(kk:TriL P C ops rest Q<|(⟨T,H.set i<|.vec el 1<|r.map enc⟩:St).put o.dst .junk):TriL P C ops (o::rest) Q ⟨T,H⟩:=by
 subst hF;obtain⟨hsome,hswo,hlen,rfl⟩:=zl8 hs;refine⟨λbs a w hR=>wpList_plain hg λK hK=>?_⟩;have hxr:=hR.ev hx;have hyr:=hR.ev hy;simp only[xm,hi]at hxr;simp only[xm,xD,xv]at hyr;obtain⟨vs,us,hyv,hv0,hu0⟩:=hyr;have hv0:vs=#[]:=by simpa using hv0
 have hu0:us=#[]:=by simpa using hu0
 subst hv0 hu0;obtain⟨cells,hown,hbs,hflat⟩:=hxr.2 (by simpa using hn);have hrun:(execOp a.eval o).run P w=.ok (.enter (ρ.f 6) #[a.eval x,a.eval y]) w:=by
  have hk:∀k,a.eval (.func k)=.func (.func k) #[] #[]:=λ_=>rfl;simp only[execOp,ho,resolve,hk,xY,xr,xt,xi,invoke];simpa using za7 hc #[a.eval x,a.eval y] w
 have hR':∀{w':World}{H':List Blk}{u:Value},R C bs ⟨T,H'⟩ a w'->R C bs ((⟨T,H'⟩:St).put o.dst .junk) (a.put o.dst u) w':=λh=>h.put (xz _ _) o.dst hd (v:=.junk)<|by simp only[xm]
 refine Oper.zv9 (K:=λu w'=>R C bs ⟨T,H.set i<|.vec el 1<|(zxP (λx y=>(cmp x y).getD 0) l).map enc⟩ a w') ?_ λu w' h=>hK _ _<|kk.run bs _ _<|hR' h;rw[hrun];simp only[zfE];have hshape:∀(l:List α),∀d∈l.map enc,d.shape=none:=λl d hd=>by obtain⟨z,_,rfl⟩:=y7.1 hd;exact h1 z
 cases l with
 |nil=>
  have hset:H.set i (.vec el 1<|(zxP (λx y=>(cmp x y).getD 0) ([]:List α)).map enc)=H:=by
   refine ua λj=>?_;by_cases hij:i=j;·subst hij;rw[yy (yd.1 hi).1,hi];rfl
   ·rw[yx hij]
  rw[hset];have hn0:n=0:=by simpa using hn
  subst hn0;have hxv:∃p cap,a.eval x=.slice p 0 cap:=by
   rcases hown.2 with⟨h,_⟩|⟨g',cap,cur,h,_⟩;·exact⟨_,_,h⟩
   ·exact⟨_,_,h⟩
  obtain⟨p,cap,hxv⟩:=hxv;rw[hxv];refine(AnyF.slices_SortFunc_none {L with} p cap (a.eval y) w).mono ?_;rintro e w'⟨rfl,rfl⟩;exact⟨_,rfl,hR⟩|cons z zs=>
  obtain⟨k,hk⟩:∃k,k=zs.length:=⟨_,rfl⟩;have hnk:n=k+1:=by rw[hn,hk];rfl
  obtain⟨gb,cap,cur,hxv,_,hheap,hncap,hcapm,hcurs,htake⟩:=hown.2.resolve_left (λh=>by omega);have hob:bs[i]?=O (O gb):=by rw[hbs,hxv];rfl
  have hcl:cells.length=k+1:=by rw[hown.1,hnk];simp
  obtain⟨vals,hvals⟩:∃vals:Fin (k+1)->Value,∀j:Fin<|k+1,cells[j.val]?=O (vals j):=⟨λj=>cells[j.val]'(by have:=j.isLt;omega),λj=>yB _⟩;have hll:(z::zs).length=k+1:=by rw[hk];rfl
  obtain⟨el',hel⟩:∃el':Fin (k+1)->α,∀j:Fin<|k+1,(z::zs)[j.val]?=O (el' j):=⟨λj=>(z::zs)[j.val]'(by have:=j.isLt;omega),λj=>yB _⟩;have hreps:=(D.zxD<|hshape<|z::zs).1 hflat;have hval:∀j,(enc<|el' j).rep (Own C.A0 bs) w<|vals j:=by intro j;obtain⟨v,hv,hr⟩:=D.zvF hreps j.val (enc<|el' j) (by rw[y6,hel j];rfl);rw[hvals j]at hv;cases hv;exact hr
  have hmem:∀j,el' j∈z::zs:=λj=>yC<|hel j;have hO:SWO<|ltOf λp q:Fin<|k+1=>(cmp (el' p)<|el' q).getD 0:=zrT hswo el' hmem;have hAlt:∀b,Own C.A0 bs b->b<w.heap.size:=λb hb=>hb.elim (hR.own.zu5 b)<|hR.own.lt b;have hgb:Own C.A0 bs gb:=.inr<|yC hob;have hcmp:CmpLays1 P g #[] vals (λp q:Fin<|k+1=>(cmp (el' p)<|el' q).getD 0) gb 0 (k+1) w:=zox hAlt hR.own.glob hgb hval λp q=>by obtain⟨v,hv⟩:=Option.isSome_iff_exists.1<|hsome _ (hmem p) _<|hmem q;have:=hp _ _ _ hv;rw[hv];exact this
  have hone:OneCell vals:=λj=>D.zwR (λd hd=>by obtain⟨q,_,rfl⟩:=y7.1 hd;exact h2 q) hflat _<|yC<|hvals j;have eg:∀args w,(callFunc g args).run P w=.ok (.enter g args) w:=λargs w=>za7 hcg args w;have hH:Holds vals w gb 0<|uZ (n:=k+1) id:=by
   intro j hj;have hj':j<k+1:=by simpa using hj
   refine⟨?_,by simp[World.frozen?,hheap]⟩;rw[getElem!_pos _ j hj,ug,zab hheap];have h2:(cur.toList.take<|n*1)[j]?=cells[j]?:=by rw[htake]
   rw[vv<|by omega]at h2;rw[<-y0,h2];have:=hvals ⟨j,hj'⟩;simpa using this
  have hcon:=Any.slices_SortFunc_eq L vals hone (λp q:Fin<|k+1=>(cmp (el' p)<|el' q).getD 0) hO g #[] gb 0 cap (uZ (n:=k+1) id) w eg (by simpa using hcmp) hH (yn.1 hheap).1 (by have:=hlen;rw[hll]at this;simpa using this);rw[hxv,hyv];have hsz:(uZ (n:=k+1) (id:Fin (k+1)->Fin (k+1))).size=k+1:=by simp
  rw[hsz]at hcon;rw[hnk];refine hcon.mono ?_;rintro e w'⟨rfl,m,os,rfl⟩;refine⟨_,rfl,?_⟩;change R C bs ⟨T,_⟩ a<|sortWorld vals w gb 0 m (ze7 k λp q:Fin<|k+1=>(cmp (el' p)<|el' q).getD 0) os;have hsp:=zhW hO;obtain⟨ix,hix⟩:∃ix,ix=ze7 k λp q:Fin<|k+1=>(cmp (el' p)<|el' q).getD 0:=⟨_,rfl⟩;rw[<-hix]at hsp|-;have hres:zxP (λx y=>(cmp x y).getD 0) (z::zs)=ix.toList.map el':=by
   have hel':∀(j:Fin<|zs.length+1),el' (j.cast<|by rw[hk])=(z::zs)[j.val]'(by simp):=λj=>by have:=hel<|j.cast (by rw[hk]);rw[yB<|by simp]at this;simpa using this.symm
   subst hk;have hel2:el'=λj=>(z::zs)[j.val]'(by simp):=funext λj=>hel' j;rw[hix,hel2];rfl
  rw[hres];have hnew:(putCells vals 0 ix cur).toList.take ((k+1)*1)=ix.toList.map vals:=by
   apply ua;intro j;have hcs:k+1<=cur.size:=by rw[hcurs];omega
   by_cases hj:j<k+1
   ·rw[vv<|by omega,y0];have hj2:j<ix.size:=by rw[hsp.1];exact hj
    simp[putCells,hj2,show j<cur.size by omega,getElem!_pos ix j hj2]
   ·rw[List.getElem?_take_eq_none<|by omega,List.getElem?_eq_none<|by simp[hsp.1];omega]
  have hw1:sortWorld vals w gb 0 m ix os=grow (Sort.ahead (w.setRow gb<|putCells vals 0 ix cur) m) os:=by unfold sortWorld;rw[putRow_ahead];unfold putRow;rw[zkJ hheap]
  rw[hw1];have hR1:R C bs ⟨T,H.set i<|.vec el 1<|(ix.toList.map el').map enc⟩ a<|w.setRow gb<|putCells vals 0 ix cur:=by
   refine R.zzL (cur:=cur) hR hi hob hheap (by simp[putCells]) (by simp[hsp.1,hk]) ?_ (by simp);have e1:((z::zs).map enc).length*1=(k+1)*1:=by simp[hk]
   rw[e1,hnew];refine(D.zxD<|hshape _).2<|D.zxO (by simp) λj d v hd hv=>?_;simp only[y6,Option.map_eq_some_iff]at hd hv;obtain⟨q,⟨p,hp1,rfl⟩,rfl⟩:=hd;obtain⟨p',hp2,rfl⟩:=hv;rw[hp1]at hp2;cases hp2;exact hval p
  have hfr:Fr zg (w.setRow gb<|putCells vals 0 ix cur)<|grow (Sort.ahead (w.setRow gb<|putCells vals 0 ix cur) m) os:=⟨rfl,rfl,rfl,by simp_all,λb hb _=>by grind[heap_grow_old,Sort.ahead],λ_=>Nat.le_add_right _ _⟩;exact hR1.put hfr Y rfl (v:=.junk) (u:=Go.undef)<|by grind[xm]
end
section
open Go Go.RowKit Go.Sort Go.Shelf
variable[zuV][Drw]
theorem D.zxM {A w k}:∀{xs:List D}{cs:List Value},cs.length=xs.length*k->(∀(j:Nat)(hj:j<xs.length),∃u,xD A w xs[j] u/\u.cells.size=k/\∀q,q<k->cs[j*k+q]?=u.cells[q]?)->xM A w k xs cs
 |[],cs,hl,_=>by have:cs=[]:=yY (by simpa using hl);subst this;simp[xM]|x::xs,cs,hl,h=>by
  obtain⟨u,h1,h2,h3⟩:=h 0 (by simp);simp only[xM];refine⟨u,cs.drop k,?_,h2,by simpa using h1,D.zxM (by rw[ub,hl,yW,uz];omega) λj hj=>?_⟩
  ·have:cs.take k=u.cells.toList:=by
    apply ua;intro q;by_cases hq:q<k;·rw[vv hq];have:=h3 q hq;simpa using this
    ·rw[List.getElem?_take_eq_none<|by omega,List.getElem?_eq_none<|by simp[h2];omega]
   rw[<-this,uA]
  ·obtain⟨u,g1,g2,g3⟩:=h (j+1) (by simpa using hj);refine⟨u,by simpa using g1,g2,λq hq=>?_⟩;rw[List.getElem?_drop,<-g3 q hq];congr 1;rw[uz];omega
end
section
variable[zuV][Drw]
theorem znX {A w}:∀{ds}{us}(i){d}{u},xv A w ds us->xD A w d u->xv A w (ds.set i d) (us.set i u)
 |[],us,i,d,u,h,_=>by grind[xv]|x::ds,us,0,d,u,h,c=>by
  obtain⟨v,a,rfl,e,b⟩:=h;simp only[wP,xv];grind|x::ds,us,i+1,d,u,h,c=>by obtain⟨v,a,rfl,e,b⟩:=h;exact⟨v,a.set i u,rfl,e,znX i b c⟩
theorem D.zzo {A w k}{xs}{cs}{ds}{j off}{dy}{v}(h:xM A w k xs cs)(hj)(e:xs[j]=.agg ds)(ho:off<k)(hv:xD A w dy v):xM A w k (xs.set j<|.agg<|ds.set off dy)<|cs.set (j*k+off) v:=by
 have i:=D.zwa h;have m:∀{a b:Nat},a<b->a*k+k<=b*k:=λ{a b}g=>by rw[<-uz];exact yH _ g
 refine D.zxM (by simp_all) λq l=>?_;simp only[List.length_set]at l;obtain⟨u,d,o,s⟩:=D.zxC h q l;by_cases c:j=q
 ·subst c;rw[e]at d;simp only[xD]at d;obtain⟨r,rfl,t⟩:=d;refine⟨.agg (r.toList.set off v).toArray,?_,?_,λp n=>?_⟩;·rw[List.getElem_set_self];exact⟨_,rfl,by grind[znX]⟩
  ·grind[xX]
  grind[xX]
 ·rw[List.getElem_set_ne c];refine⟨u,d,o,λp n=>?_⟩;rw[<-s p n];refine yx λx=>?_;rcases Nat.lt_or_gt_of_ne c with f|f;·grind
  grind
theorem TriL.storeElF {P C ops o rest Q T H}{α:Type}{t el x y}{i n k off:Nat}{enc:α->D}{l r:List α}{x0 z:α}{a:Int}{ds:List D}{dy:D}(hg:o.guard=Y)(ho:o.op=.store t x y)(hd:o.dst=Y)(hx:ev T x=O (.el i n a.toNat off))(hi:H[i]?=O (.vec el k<|l.map enc))(hn:n=l.length)(hy:ev T y=O (.d dy))(hk:dy.shape=Y)(h1:dy.ones=U)(hs:cellsOf P t=O 1)(h0:idx l a=O x0)(e0:enc x0=.agg ds)(ez:.agg (ds.set off dy)=enc z)(hok:xA off k=U)(hv:sto l a z=O r)(kk:TriL P C ops rest Q ⟨T,H.set i<|.vec el k<|r.map enc⟩):TriL P C ops (o::rest) Q ⟨T,H⟩:=by
 obtain⟨j,rfl,hj,rfl⟩:=stoS hv;have hok:off<k:=by simpa using hok
 have hx0:l[j]=x0:=by have:=h0;simp[idx,hj]at this;exact this
 refine wI hg (λbs a w hR=>?_) kk;have hp:=hR.ev hx;have hz:=hR.ev hy;simp only[xm]at hz;simp only[xm,hi]at hp;obtain⟨hdr,cells,g1,g2,g3,b,g4,g5⟩:=hp.2 (by simpa using hn);simp only[yr]at g5;rcases g1.2 with⟨h,h0⟩|⟨g,cap,cur,hh,_,hheap,hnc,hcm,hcs,htake⟩;·omega
 obtain rfl:g=b:=by rw[hh]at g4;simpa[xI]using g4
 have hone:∀c∈(wG a y).cells.toList,c.oneCell'=true:=D.zwU hz h1;have hyv:=D.zvf hz hk;generalize hv0:wG a y=v at*;have hjk:j*k+k<=n*k:=by rw[<-uz];exact yH _<|by omega
 have hnk:n*k<=cap*k:=yH _ hnc;have hst:=run_storeCells_at P g (j*k+off) el [v] 0 cur w hheap (by simp[hcs];omega) (by rw[hyv]at hone;simpa using hone);simp only[uv,uL]at hst;unfold cellsOf at hs;cases hinf:P.info? t with
 |none=>simp[hinf]at hs|some inf=>
  simp only[hinf,yQ,yo]at hs;have hrow:(cur.toList.take (j*k+off)++[v]++cur.toList.drop (j*k+off+1)).toArray=(cur.toList.set (j*k+off) v).toArray:=by rw[List.set_eq_take_append_cons_drop,if_pos<|by simp[hcs];omega];simp
  have hrun:(execOp a.eval o).run P w=.ok .skip (w.setRow g (cur.toList.set (j*k+off) v).toArray):=by rw[<-hrow];simp only[execOp,ho,g5,Instr.storeAt,wj,storeVar,sizeOf,typeInfo,program,xr,Sem.run,hinf,xt,xi,hv0,hyv,hs,ne_eq,not_true_eq_false,if_false,uK,uL];rw[hs]at*;simp[hst]
  have hfr:Fr (λc=>O g=O c) w<|w.setRow g (cur.toList.set (j*k+off) v).toArray:=⟨rfl,rfl,rfl,by simp,λc _ hno=>setRow_other w g c _ λe=>hno<|by rw[e],λ_=>yk _⟩;have hset:bs.set i (O g)=bs:=by
   refine ua λq=>?_;by_cases hij:i=q;·subst hij;rw[yy (yd.1 g2).1,g2,g4]
   ·rw[yx hij]
  have hWA:∀c,O g=O c->Own C.A0 bs c:=λc hc=>.inr<|by rw[<-hc];rw[g4]at g2;exact yC g2
  have hupd:=R.upd (y:=.vec el k<|(l.set j z).map enc) (c:=O g) (c':=O g) hR hi (by rw[g2,g4]) (by
   simp only[Compat];refine .inr ⟨by simp,trivial,trivial,λv2 cells' q1 q2 q3=>?_⟩;rcases q1.2 with⟨h,h0⟩|⟨g',cap',cur',hh',_,hheap',hnc',hcm',hcs',htake'⟩;·simp only[yL]at h0;omega
   obtain rfl:g=g':=by rw[hh']at q2;simpa[xI]using q2
   rw[hheap]at hheap';cases hheap';have hn':(l.map enc).length=n:=by simp[hn]
   rw[hn']at htake' q1 hnc'|-;have hcells:cells'=cells:=by rw[<-htake',<-htake]
   subst hcells;have hfl:xM (Own C.A0 bs) w k ((l.map enc).set j<|.agg<|ds.set off dy)<|cells'.set (j*k+off) v:=D.zzo q3 (by simpa using hj) (by simp[hx0,e0]) hok hz;rw[ez]at hfl;refine⟨_,⟨?_,.inr ⟨g,cap',_,by rw[hh',hn'],ym _,setRow_heap w g cur _ el _ hheap,hnc',hcm',?_,?_⟩⟩,D.zve hfr hWA (λc _ hc=>by rw[hset]at hc;exact hc) _ _<|by rw[List.map_set];exact hfl⟩;·have:=q1.1;simpa using this
   ·simpa using hcs'
   ·rw[<-htake];simp only[Nat.zero_mul,wN];rw[List.take_set]) hfr (.inl rfl)<|by simp only[xL]
  refine⟨_,_,bs,hrun,.inr ⟨rfl,?_⟩⟩;rw[hset]at hupd;rw[hd];exact hupd
end
section
open Go Go.RowKit Go.Shelf Go.Lib
variable[zuV][Drw]
theorem zsl {P:Program}{ρ:Ren}(L:Lays8.n4 P ρ){f:FuncId}{t el:TypeId}{k bytes:Nat}{n:Int}(hf:ρ.f 4=f)(hel:ρ.t 25=el)(ht:zcc P t el k bytes=U)(hb:xA 0 bytes=U)(h0:0<=n)(hn:n.toNat*bytes<=140737488355328):zyh P f [.val<|.slice Y 0 0,.int n] el k λl=>l=[]:=by
 subst hf;subst hel;obtain⟨htu,hk0,inf,z,hinf,hz,hisz,hib,hzc⟩:=zbN ht;have hb:0<bytes:=by simpa using hb
 obtain⟨m,rfl⟩:=y9 h0;simp only[yr]at hn;have hm:m<=140737488355328:=yI (wV m hb) hn;refine⟨λA w vs hA hG hvs=>?_⟩;have hvs':vs=#[.slice Y 0 0,.int .i64 m]:=by simp only[xv,xD]at hvs;obtain⟨v1,vs1,e1,rfl,v2,vs2,rfl,rfl,rfl⟩:=hvs;exact Array.toList_inj.1<|by simpa using e1
 subst hvs';by_cases hm0:m=0
 ·subst hm0;refine vY (Any8.slices_Grow_room L Y 0 0 0 w (by omega) (by omega) (by omega)<|by omega) λe w' h=>?_;obtain⟨rfl,rfl⟩:=h;exact⟨_,[],[],rfl,rfl,xz _ _,⟨by simp,.inl ⟨rfl,rfl⟩⟩,by simp only[xM]⟩
 ·refine vY (Any8.slices_Grow_grow L inf z hinf hz (by omega) Y 0 0 m [] w (by omega) (by omega) (by rw[ug,hib];exact hn) (by omega) (by simp) (λ_=>rfl) λ_ h=>by cases h) λe w' h=>?_;obtain⟨rfl,rfl⟩:=h;have hge:=grownCap_ge w (0+m) 0<|ρ.t 25;simp only[ug]at hge;have hcm:=grownCap_le_maxLen w (0+m) 0 (ρ.t 25) (by simp only[maxLen];omega);refine⟨_,[],[],rfl,rfl,⟨rfl,rfl,rfl,by simp,λb hb _=>by first|exact heap_alloc_old w.drew _ b hb|exact heap_alloc_old w.drew _ hb,λ_=>by simp⟩,⟨by simp,.inr ⟨w.heap.size,_,_,rfl,yk _,heap_alloc_new w.drew _,ym _,hcm,?_,by simp⟩⟩,by simp only[xM]⟩;simp only[Array.size_append,uK,ul,size_zeroCells,hzc,ug,Nat.sub_zero,<-vm];congr 1;omega
theorem TriL.growNil {P:Program}{C:Ctx}{ops:Array Oper}{o:Oper}{rest:List Oper}{Q:Exit->St->Prop}{T:List<|Nat×V}{H:List Blk}{α:Type}{enc:α->D}{f args tys n el k d}(hg:o.guard=Y)(ho:o.op=.call {callee:=.value<|.func f,args:=args,argTypes:=tys})(hd:o.dst=O d)(hdn:xA d C.n=U)(hc:zu0 P f=U)(ha:evs (ev T) args.toList=O [.val<|.slice Y 0 0,.int n])(hp:zyh P f [.val<|.slice Y 0 0,.int n] el k λl=>l=[])(kk:TriL P C ops rest Q ⟨(d,.vec H.length ([]:List α).length)::T,H++[.vec el k<|([]:List α).map enc]⟩):TriL P C ops (o::rest) Q ⟨T,H⟩:=.zzg hg ho hd hdn hc ha hp λl hl=>by subst hl;exact kk
end
section
def Guard (P:Program)(g:FuncId)(tb te:TypeId)(pv:Value):Prop:=∀(K:Bool->World->Prop)(f:FuncId)(caps:Array Value)(w:World),zu0 P f=U->(Calls P f caps (w.alloc<|.cells #[.bool M] tb) λe w'=>w'.cell? ⟨w.heap.size,0,Y⟩=O (.bool M)/\w'.frozen? ⟨w.heap.size,0,Y⟩=M/\((∃u,e=.returned u/\K U ((w'.setCell ⟨w.heap.size,0,Y⟩<|.bool U).setCell ⟨w.heap.size,0,Y⟩<|.bool U))\/e=.panicked [{v:=pv,recovered:=M}]/\K M (w'.alloc<|.cells #[] te)))->Calls P g #[.func (.func f) #[] caps] w λe w'=>∃b,e=.returned (.bool b)/\K b w'
variable[zuV][Drw]
theorem TriL.guardC {P C ops o rest Q T H f fn c xs N g tb te pv x tys}(hG:Guard P g tb te pv)(hg:o.guard=Y)(hd:zvk o.dst C.n=U)(ho:o.op=.call {callee:=.value<|.func g,args:=#[x],argTypes:=tys})(hx:ev T x=O (.fn (.func f) [] xs))(hcg:zu0 P g=U)(hcf:zu0 P f=U)(hf:P.funcs[f]?=O fn)(hb:fn.body=O c)(hN:fn.ntmps=N)(hrs:fn.results=#[])(hn:xQ xs.length N=U)(hu:(T.all λp=>p.2.under H.length)=U)(hgn:xQ C.gn H.length=U)(h:∀(A0 own0:Nat->Prop)(w:World)(gh),Tri P ⟨A0,own0,w,N,λ_ _=>False,gh,H.length,[]⟩ c (λe s=>(e=.ret\/e=.normal)/\TriL P C ops rest Q ⟨putT T o.dst<|.d<|.bool U,s.H++[.dead]⟩\/e=.panic [{v:=pv,recovered:=M}]/\TriL P C ops rest Q ⟨putT T o.dst<|.d<|.bool M,s.H++[.dead]⟩) ⟨zbz 0 xs,H⟩):TriL P C ops (o::rest) Q ⟨T,H⟩:=by
 subst hN;have hgn:=yt hgn;have hn:=yt hn;refine⟨λbs a w hR=>wpList_plain hg λK hK=>?_⟩;have h1:=hR.ev hx;obtain⟨fs,caps,hfv,hfs,hvs⟩:=h1;have hfs:fs=#[]:=by simp only[xF]at hfs;exact Array.toList_inj.1<|by simpa using hfs
 subst hfs;have hlen:=V.zv7 hvs;simp only[yE]at hlen;have hrun:(execOp a.eval o).run P w=.ok (.enter g #[.func (.func f) #[] caps]) w:=by
  have hk:∀k,a.eval (.func k)=.func (.func k) #[] #[]:=λ_=>rfl;simp only[execOp,ho,resolve,hk,xY,xr,xt,xi,invoke];simpa[hfv]using za7 hcg (#[x].map a.eval) w
 unfold vo;rw[hrun];have hsz0:w.heap.size<(w.alloc<|.cells #[.bool M] tb).heap.size:=by simp
 have hfr1:Fr zg w<|w.alloc<|.cells #[.bool M] tb:=⟨rfl,rfl,rfl,by simp,λb hb _=>xE w _ b hb,λ_=>yk _⟩;have hR1:=hR.zvP (A:=λb=>C.A0 b\/b=w.heap.size) hfr1 (λb hb hA=>hA.elim id λe=>by omega) (λb hA=>hA.elim (λhA=>Nat.lt_trans (hR.own.zu5 b hA) hsz0) λe=>by omega);refine vY (hG (λb w'=>∃bs' H',TriL P C ops rest Q ⟨putT T o.dst<|.d<|.bool b,H'⟩/\R C bs' ⟨T,H'⟩ a w') f caps w hcf ?_) ?_;case refine_2=>rintro e w'⟨b,rfl,bs',H',hk,hR'⟩;have:=hR'.put (xz _ _) o.dst hd (v:=.d<|.bool b) (u:=.bool b) (by simp only[xm,xD]);rw[St.put_eq]at this;exact hK _ _<|hk.run bs' _ _ this
 refine calls_of_wp hf hb ?_;have h0:=h (λb=>C.A0 b\/b=w.heap.size) (λb=>O b∈bs) (w.alloc<|.cells #[.bool M] tb)<|C.gh++vals a T T;have hvs1:xF (Own (λb=>C.A0 b\/b=w.heap.size) bs) (w.alloc<|.cells #[.bool M] tb) bs H xs caps.toList:=by have:=hR1.ev hx;simp only[xm]at this;obtain⟨fs',caps',e1,-,h2⟩:=this;rw[hfv]at e1;cases e1;exact h2
 have hR0:R ⟨λb=>C.A0 b\/b=w.heap.size,λb=>O b∈bs,w.alloc<|.cells #[.bool M] tb,fn.ntmps,λ_ _=>False,C.gh++vals a T T,H.length,[]⟩ bs ⟨zbz 0 xs,H⟩ {tmps:=caps++xu (fn.ntmps-caps.size) undef,defers:=[]}<|w.alloc<|.cells #[.bool M] tb:=by
  have hsz:(caps++xu (fn.ntmps-caps.size) undef).size=fn.ntmps:=by simp;omega
  refine⟨hR1.own,hR1.len,hR1.blk,λt v hv=>?_,rfl,hsz,xz _ _,λb hb=>.inl hb,λp hp=>?_⟩
  ·have:=zc5 xs 0 caps.toList (caps++xu (fn.ntmps-caps.size) undef) hvs1 (λj hj=>by
     have hj':j<caps.size:=by simp_all
     simp[y8,wu,hj',vy]) (by rw[hsz];simp;omega) t v hv;rw[hsz]at this;exact this
  ·rcases yu.1 hp with hp|hp;·exact⟨V.zv8 hgn _ (hR1.gh p hp).1,(hR1.gh p hp).2⟩
   ·obtain⟨t,h1,h2⟩:=zeb hp;exact⟨zdy hu h1,by rw[h2];exact(hR1.tmp t _ h1).2⟩
 refine xU ?_<|h0.run bs _ _ hR0;rintro e a' w'(⟨bs',s',hQ,hR'⟩|⟨_,hE⟩);case inr=>exact hE.elim
 have f1:=hR'.fr;have hnot:O w.heap.size∉bs:=λhc=>by have:=hR.own.lt _ hc;omega
 have hblk:w'.heap[w.heap.size]?=O (.cells #[.bool M] tb (0,0)):=by rw[f1.block w.heap.size hsz0 hnot];exact heap_alloc_new w _
 have hcell:w'.cell? ⟨w.heap.size,0,Y⟩=O (.bool M):=by rw[zab hblk];rfl
 have hfroz:w'.frozen? ⟨w.heap.size,0,Y⟩=false:=by simp[World.frozen?,hblk]
 have hRC:R {C with A0:=λb=>C.A0 b\/b=w.heap.size} bs' ⟨T,s'.H⟩ a w':=by
  refine⟨hR'.own,hR'.len,hR'.blk,λt v hv=>⟨(hR.tmp t v hv).1,(hR'.gh _<|wC _<|zdL hv hv).2⟩,hR.defers,hR.size,?_,λb hb=>?_,λp hp=>⟨(hR.gh p hp).1,(hR'.gh p<|wm _ hp).2⟩⟩
  ·refine⟨f1.os.trans hR.fr.os,f1.tape.trans hR.fr.tape,f1.output.trans hR.fr.output,yI hR.fr.size<|yI hfr1.size f1.size,λq hq hno=>?_,λd=>yI (hR.fr.drawn d)<|f1.drawn d⟩;have hq:q<C.w0.heap.size:=hq;have hqw:q<w.heap.size:=yD hq hR.fr.size;refine((f1.block q (Nat.lt_trans hqw hsz0) λe=>?_).trans<|hfr1.block q hqw λx=>x.elim).trans<|hR.fr.block q hq hno;rcases hR.new q e with e|e;·simp_all
   grind
  ·rcases hR'.new b hb with h1|h1;·exact hR.new b h1
   ·exact .inr<|yI hR.fr.size<|yI hfr1.size h1
 have hlo:C.w0.heap.size<=w.heap.size:=hR.fr.size;have hnA:¬C.A0 w.heap.size:=λhc=>absurd (hR.own.zu5 _ hc)<|Nat.lt_irrefl _;have hin:∀w3,R {C with A0:=λb=>C.A0 b\/b=w.heap.size} bs' ⟨T,s'.H⟩ a w3->∀b,TriL P C ops rest Q ⟨putT T o.dst<|.d<|.bool b,s'.H++[.dead]⟩->∃bs'' H',TriL P C ops rest Q ⟨putT T o.dst<|.d<|.bool b,H'⟩/\R C bs'' ⟨T,H'⟩ a w3:=λw3 h3 b hk=>by
  have hlt3:w.heap.size<w3.heap.size:=h3.own.zu5 _<|.inr rfl;obtain⟨ob,hob⟩:∃ob,w3.heap[w.heap.size]?=O ob:=⟨_,um hlt3⟩;exact⟨_,_,hk,R.adoptK (C:=C) (A:=C.A0) .dead h3 hob hnA hlo<|by grind[xL]⟩
 rcases hQ with⟨he,hk⟩|⟨rfl,hk⟩
 ·have hfr2:Fr (λq=>O w.heap.size=O q) w'<|(w'.setCell ⟨w.heap.size,0,Y⟩<|.bool U).setCell ⟨w.heap.size,0,Y⟩<|.bool U:=by
   refine⟨rfl,rfl,rfl,by simp,λq _ hno=>?_,λ_=>yk _⟩;grind[vF]
  have h3:=hin _ (hRC.zu5 hfr2 (.inr rfl) hlo) U hk;rcases he with rfl|rfl;·exact⟨hR'.defers,.tuple #[],by rw[zca,hrs];simp,hcell,hfroz,.inl ⟨_,rfl,h3⟩⟩
  ·exact⟨hR'.defers,.tuple #[],by rw[zca,hrs];simp,hcell,hfroz,.inl ⟨_,rfl,h3⟩⟩
 ·have hfr2:Fr zg w'<|w'.alloc<|.cells #[] te:=⟨rfl,rfl,rfl,by simp,λb hb _=>xE w' _ b hb,λ_=>yk _⟩;have h2:=hRC.put hfr2 Y rfl (v:=.junk) (u:=undef) (by grind[xm]);have h3:=hin _ h2 M hk;exact⟨hR'.defers,hcell,hfroz,.inr ⟨rfl,h3⟩⟩
end
section
variable[zuV][Drw]
def zzv (ops:Array Oper):Nat->Nat->Array Bool->Bool|0,_,listed=>decide<|wr .any ops listed=[]|f+1,i,listed=>decide (wr .any ops listed=[i])&&zzv ops f (i+1) (listed.setIfInBounds i U)
theorem zld {P:Program}{ops:Array Oper}{Q:Exit->Act->World->Prop}:∀(f i:Nat)(listed:Array Bool)(a:Act)(w:World),zzv ops f i listed=U->(ops.toList.drop i).length=f->wpList P ops Q (ops.toList.drop i) a w->wpAny P .any ops Q f listed a w
 |0,i,listed,a,w,hl,hd,h=>by have h0:ops.toList.drop i=[]:=yY hd;rw[h0]at h;simp only[zzv,yf]at hl;exact⟨hl,h⟩|f+1,i,listed,a,w,hl,hd,h=>by
  simp only[zzv,yc,yf]at hl;have hi:i<ops.toList.length:=by simp at hd|-;omega
  have hc:ops.toList.drop i=ops.toList[i]::ops.toList.drop (i+1):=List.drop_eq_getElem_cons hi;have hd2:(ops.toList.drop<|i+1).length=f:=by simp at hd|-;omega
  have hoi:ops[i]?=O ops.toList[i]:=by simp at hi;simp[hi]
  rw[hc]at h;refine⟨λh0=>(by rw[hl.1]at h0;cases h0),λj hj=>?_⟩;rw[hl.1]at hj;obtain rfl:j=i:=by simpa using hj
  unfold wpOp;simp only[hoi];unfold wpList at h;split;·rename_i hw;rw[if_pos hw]at h;exact h.imp (Oper.wp_mono λa w h=>zld f _ _ a w hl.2 hd2 h) id
  ·rename_i hw;rw[if_neg hw]at h;exact zld f _ _ _ w hl.2 hd2 h
theorem TriA.lin {P C ops fuel listed Q s}(i:Nat)(hl:zzv ops fuel i listed=U)(hd:(ops.toList.drop i).length=fuel)(h:TriL P C ops (ops.toList.drop i) Q s):TriA P C ops fuel listed Q s:=⟨λbs a w hR=>zld fuel i listed a w hl hd<|h.run bs a w hR⟩
theorem Tri.drawB {P C Q s id l}(n)(hm:P.follows .mixedOrders=U)(hn:l.size=n)(h:TriA P C l n (xu n M) Q s):Tri P C (.region id l U) Q s:=by subst hn;exact⟨λbs a w hR=>wp_region_any hm<|h.run bs a _ hR.drew⟩
end
