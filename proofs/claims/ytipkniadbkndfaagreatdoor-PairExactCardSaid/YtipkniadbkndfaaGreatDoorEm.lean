/- The law holds for every input. No condition. -/
import Derived.Test.YtipkniadbkndfaaGreatDoorEm17
import Derived.Test.YtipkniadbkndfaaGreatDoorEm18
import Derived.Test.YtipkniadbkndfaaGreatDoorCards
import Derived.Test.YtipkniadbkndfaaGreatDoorTie
import Derived.JoinedCond
import Derived.Deep.DeepWitnessRowRef
import Derived.Lay
import Derived.ProofKit
set_option linter.all false
set_option maxRecDepth 100000
set_option maxHeartbeats 40000000
namespace Go.Proofs.YtipkniadbkndfaaGreatDoor
open Go Go.RowKit
open Option renaming some->O,none->Y
open Bool renaming true->U,false->M
open Decidable renaming decide->Z
open Inhabited renaming default->J
open D renaming reps->xv,rep->xD
open Classical renaming byContradiction->xG
open List renaming drop_length->xS,drop_eq_nil_of_le->wb,getElem_of_mem->wh,isEmpty_eq_false_iff->vg
open List.cons renaming injEq->wy
open Option.some renaming inj->vJ
open za renaming l1->vL
open Go.OpenSpec renaming ofChange->uW
open Go.Proofs.Tryz renaming prog->xg
def fstP (p:Nat->Bool):Nat->Nat->Option Nat|_,0=>Y|i,k+1=>if p i=U then O i else fstP p (i+1) k
def zx4 (m:Model)(i:Nat):Constraint:=m.constraints.getD i J
def sameC (c d:Constraint):Bool:=d.kind==c.kind&&d.family==c.family&&Z (d.row=c.row)
def rankP (m:Model)(i:Nat):Nat:=(m.constraints.take i).countP<|sameC<|zx4 m i
def conB (m:Model)(s:Swap)(i j:Nat):Bool:=(zx4 m j).kind==(zx4 m i).kind&&(zx4 m j).family==(zx4 m i).family&&Z ((zx4 m j).row=rowM m s (zx4 m i).row)&&Z (rankP m j=rankP m i)
structure ConS (m:Model):Prop where
 len:m.constraints.length<=1000
 con:∀c∈m.constraints,c.row.zuQ.length<=500/\∀t∈c.row.zuQ,-1000000<=t.cell/\t.cell<=1000000
def risT (l:List Term):Prop:=l.Pairwise λa b=>a.cell<b.cell
structure RowIn (m:Model)(r:Row):Prop where
 ris:risT r.zuQ
 term:∀t∈r.zuQ,zfU (boxM m).length t
section
variable{m:Model}{s:Swap}(h:Swp m s)
include h
end
structure EffIn (m:Model)(e:zvL):Prop where
 nd:(e.delta.map (·.cell)).Nodup
 cell:∀d∈e.delta,0<=d.cell/\d.cell<((boxM m).length:Int)hold:∀r∈e.hold,RowIn m r
section
variable{m:Model}{s:Swap}(h:Swp m s)
include h
end
def rhoI (m:Model)(s:Swap)(a:Action):Int:=ixP (actB m s a) m.zuP 0
def sigI (m:Model)(s:Swap)(i:Nat):Nat:=if(zx4 m i).kind=1 then i else(fstP (conB m s i) 0 m.constraints.length).getD 0
def symB (m:Model)(s:Swap):Bool:=(m.zuP.all λa=>Z<|0<=rhoI m s a)&&allR (λi=>Z ((zx4 m i).kind=1)||(fstP (conB m s i) 0 m.constraints.length).isSome) 0 m.constraints.length
structure Sym (m:Model)(s:Swap):Prop where
 small:zvn m
 valid:zwb m
 swap:zyN m.zuU s
 sym:symB m s=U
section
variable{m:Model}{s:Swap}(h:Sym m s)
include h
end
structure TgtMv (m:Model)(s:Swap)(q p:Question)(a A:Action):Prop where
 hold:p.target.hold=q.target.hold
 con:q.target.hold=M->∃i:Nat,i<m.constraints.length/\q.target.index=(i:Int)/\p.target.index=((sigI m s i:Nat):Int)row:q.target.hold=U->∃r,idx a.effect.hold q.target.index=O r/\idx A.effect.hold p.target.index=O (rowM m s r)
section
variable{m:Model}{s:Swap}{q p:Question}{a b A B:Action}(h:Sym m s)
include h
end
structure QMv (m:Model)(s:Swap)(q p:Question)(a b:Action):Prop where out:∃(k l:Nat)(hk:k<m.zuP.length)(hl:l<m.zuP.length),actB m s a m.zuP[k]=U/\actB m s b m.zuP[l]=U/\(q.e=q.f->k=l)/\TgtMv m s q p a m.zuP[k]/\(q.target.hold=U->p.e=(k:Int)/\p.f=(l:Int))/\(q.target.hold=M->p.e<=p.f/\(p.e=(k:Int)/\p.f=(l:Int)\/p.e=(l:Int)/\p.f=(k:Int)))
structure Pair (m:Model)(s:Swap)(a b A B a' b':Action):Prop where
 ma:a∈m.zuP
 mb:b∈m.zuP
 mA:A∈m.zuP
 mB:B∈m.zuP
 aA:actB m s a A=U
 bB:actB m s b B=U
 or:a'=A/\b'=B\/a'=B/\b'=A
section
variable{n:Nat}{m:Model}{s:Swap}(h:Sym m s)(hn:4294967296<=n)
include h
include hn
end
section
variable{n:Nat}{m:Model}{s:Swap}(h:Sym m s)(hn:4294967296<=n){a b A B a' b':Action}(hp:Pair m s a b A B a' b')
include h hp
include hn
end
section
variable{n:Nat}{m:Model}{s:Swap}(h:Sym m s)(hn:4294967296<=n){a b A B a' b':Action}(hp:Pair m s a b A B a' b'){q p:Question}(ht:TgtMv m s q p a A)
include h hn hp
include ht in
end
theorem zqI (n)(pl)(g)(k):zbr n pl g k=zbs n g pl.box k:=rfl
theorem zjS {n}{l}{f}{p}(hp:∀x∈l,f x=O (p x))(hl:l.length<=100000)(hn:1000000<=n):zZ n l f=O (l.any p):=by
 have:=zy (body:=zf.l1 n l f) (len:=l.length) (st:=λi=>i) (g:=λi=>O<|ixA p (l.drop i) i) (λa i b d=>?_) (λa=>?_) n 0 (ym _)<|by omega
 ·unfold zZ zf;have c:zuR (zf.l1 n l f) n 0=O (ixA p l 0):=by simp_all
  rw[c,ya];congr 1;grind[zmG]
 ·rw[zk b];simp only[zf.l1,zb b,ze (i:=i)<|by omega,ixA];grind
 ·simp[zf.l1,ixA]
theorem ztf {n}{b}(hne:∀r∈b,r.lo<=r.hi)(hl:b.length<=1000)(hn:1000000<=n):zbE n b=O false:=by
 unfold zbE;rw[zjS (f:=λa=>zcP n a) (p:=λr=>Z<|r.hi<r.lo) (λx _=>rfl) (by omega) hn,ya];simp_all
theorem zq4 {α}{l}{i}{x:α}(h:idx l i=O x):0<=i/\i<(l.length:Int):=by grind[idx]
structure zxc (s:Step):Prop where
 kd:s.kind=0\/s.kind=1
 i0:0<=s.index
 i1:s.index<=2048
 c0:s.kind=1->0<=s.cell
 c1:-1<=s.cell
 c2:s.cell<128
section
variable(n:Nat)(sf:zvb->Tree->Option Bool)(pl:zvb)(b0:List Range)
def Rep (st:List Step)(b:List Range):Prop:=∀(t:Tree)(rest:List Step)(k:Nat),t.steps=st++rest->zuR (vL n sf pl t) (k+st.length) (b0,0)=zuR (vL n sf pl t) k (b,(st.length:Int))
def RepC (st:List Step):Prop:=∀(t:Tree)(rest:List Step)(k:Nat),t.steps=st++rest->zuR (vL n sf pl t) (k+st.length) (b0,0)=O U
end
section
variable{n:Nat}{sf:zvb->Tree->Option Bool}{pl:zvb}{b0:List Range}
theorem Rep.nil:Rep n sf pl b0 [] b0:=λ_ _ _ _=>rfl
theorem Rep.one {st b}(h:Rep n sf pl b0 st b){s}{t}{rest}{k}(ht:t.steps=st++[s]++rest):(idx t.steps (st.length:Int)=O s/\st.length<t.steps.length)/\zuR (vL n sf pl t) (k+(st++[s]).length) (b0,0)=vL n sf pl t (zuR (vL n sf pl t) k) (b,(st.length:Int)):=by
 have a:st.length<t.steps.length:=by simp_all
 refine⟨⟨?_,a⟩,?_⟩;·grind[zb]
 ·have:=h t (s::rest) (k+1)<|by simp_all
  rw[show k+(st++[s]).length=k+1+st.length by grind,this];rfl
theorem Rep.go {st b b'}(h:Rep n sf pl b0 st b){s}(hs:∀(t)rec,idx t.steps (st.length:Int)=O s->st.length<t.steps.length->vL n sf pl t rec (b,(st.length:Int))=rec (b',zuN (st.length:Int) 1))(hl:st.length<1000000):Rep n sf pl b0 (st++[s]) b':=λt a k d=>by
 obtain⟨⟨e,f⟩,c⟩:=h.one (k:=k) d;rw[c,hs t _ e f,ze<|by omega];simp
theorem Rep.shut {st b}(h:Rep n sf pl b0 st b){s}(hs:∀(t)rec,idx t.steps (st.length:Int)=O s->st.length<t.steps.length->vL n sf pl t rec (b,(st.length:Int))=O U):RepC n sf pl b0<|st++[s]:=λt a k c=>by
 obtain⟨⟨e,f⟩,d⟩:=h.one (k:=k) c;simp_all
theorem zrR {b}{c}{r}(h0:0<=c)(h1:c<(b.length:Int)):sto b c r=O (zvu b c r)/\idx (zvu b c r) c=O r:=by grind[zvu,zjP,zb]
theorem zsy {t}{rec}{b}{i j:Nat}{row}{c}(hi:idx t.steps (j:Int)=O ⟨0,(i:Int),c⟩)(hj:j<t.steps.length)(hr:idx pl.rows (i:Int)=O row)(hrow:RwOK b.length row)(hb:boxP b=U)(h0:0<=c)(h1:c<(b.length:Int))(hn:1000000<=n):vL n sf pl t rec (b,(j:Int))=if(zbW row b c).hi<(zbW row b c).lo then O U else rec (zvu b c<|zbW row b c,zuN (j:Int) 1):=by
 have e:i<pl.rows.length:=by have:=(zq4 hr).2;grind
 obtain⟨f,g⟩:=zrR (r:=zbW row b c) h0 h1;have d:(Z (pl.rows.length<=(i:Int))||decide (b.length<=c))=false:=by simp_all
 have a:Z (c<0)=false:=by simp_all
 simp only[vL,jn,hi,ya,d,hr,a,zlC hb hrow.fits hrow.few h0 h1 hn,zfJ h0 h1];simp_all
theorem zr3 {t}{rec}{b}{i j:Nat}{row}(hi:idx t.steps (j:Int)=O ⟨0,(i:Int),-1⟩)(hj:j<t.steps.length)(hr:idx pl.rows (i:Int)=O row)(hv:zwu row=U):vL n sf pl t rec (b,(j:Int))=O true:=by
 have c:=(zq4 hr).2;simp only[zwu]at hv;have d:(Z (pl.rows.length<=(i:Int))||decide (b.length<=(-1:Int)))=false:=by grind
 have a:((row.zuQ.length:Int)==0&&Z (row.bound<0))=true:=by simp_all
 simp only[vL,zB hj,if_true,jn,hi,ya,show((0:Int)==1)=M from rfl,ye,if_false,d,hr,show Z (-1<0)=U from rfl,a]
theorem zp9 {t}{rec}{b}{i j k K:Nat}{g}(hi:idx t.steps (j:Int)=O ⟨1,(i:Int),g.first+(k:Int)⟩)(hj:j<t.steps.length)(hr:idx pl.s.zuT (i:Int)=O g)(hg:GrOK b.length g K)(hL:b.length<=1000)(hk:k<K*K)(hc:cutP g b k≠rgP b (g.first+(k:Int)))(hn:1000000<=n):vL n sf pl t rec (b,(j:Int))=if(cutP g b k).hi<(cutP g b k).lo then O U else rec (zvu b (g.first+(k:Int))<|cutP g b k,zuN (j:Int) 1):=by
 have l:=(zq4 hr).2;have h:=hg.len;have u:=hg.fst;obtain⟨B,e,d⟩:=hg.cell (show b.length<=1000000 by omega) (k:=k) hk;have m:zuY (g.first+k) g.first=k:=by grind[zuY,z9]
 have p:=zgn (n:=n) hg rfl hL hk hn;have c:k<g.least.length:=by omega
 have f:=hg.num (lstG g k)<|by grind[lstG]
 have q:zuY (lstG g k) 1=lstG g k-1:=z9 (by omega)<|by omega
 have a:lstG g k<=(rgP b<|g.first+k).hi/\zet g b k=U/\cutP g b k=⟨(rgP b<|g.first+k).lo,lstG g k-1⟩:=by
  unfold cutP at hc|-;simp_all
 obtain⟨v,w,x⟩:=a;obtain⟨y,z⟩:=zrR (r:=cutP g b k) e d;have o:Z (pl.s.zuT.length<=(i:Int))=false:=by simp_all
 have s:(Z ((k:Int)<0)||decide (g.least.length<=(k:Int)))=false:=by grind
 have A:⟨(rgP b<|g.first+k).lo,gmin (rgP b<|g.first+k).hi<|lstG g k-1⟩=cutP g b k:=by grind[zmy]
 simp only[vL,jn,hi,ya,o,hr,m,s,zqI,zfJ e d,zj7 c];simp_all
structure PX (n:Nat)(sf:zvb->Tree->Option Bool)(pl:zvb)(b0:List Range)(bud L:Nat)(p:PR):Prop where
 go:p.k=0->PI bud L 0 p.st p.b/\Rep n sf pl b0 p.st p.b/\∀s∈p.st,zxc s
 shut:p.k≠0->p.k≠2->RepC n sf pl b0 p.st/\∀s∈p.st,zxc s
theorem PX.bind {bud L p f}(h:PX n sf pl b0 bud L p)(hf:∀st b,PI bud L 0 st b->Rep n sf pl b0 st b->(∀s∈st,zxc s)->PX n sf pl b0 bud L (f st b)):PX n sf pl b0 bud L<|p.bind f:=by
 unfold PR.bind;split<;>rename_i a
 ·have:=h.go a;simp_all
 grind
theorem zxc.snoc {st}{s}(h:∀x∈st,zxc x)(hs:zxc s):∀x∈st++[s],zxc x:=λx a=>by grind
theorem zrN {bud L kind index cell r st b}(hb:bud<=65536)(hI:PI bud L 0 st b)(hR:Rep n sf pl b0 st b)(hV:∀s∈st,zxc s)(hs:zxc ⟨kind,index,cell⟩)(h0:0<=cell)(h1:cell<(L:Int))(hsub:SubR r<|rgP b cell)(hstep:r≠rgP b cell->∀(t)rec,idx t.steps (st.length:Int)=O ⟨kind,index,cell⟩->st.length<t.steps.length->vL n sf pl t rec (b,(st.length:Int))=if r.hi<r.lo then O U else rec (zvu b cell r,zuN (st.length:Int) 1)):PX n sf pl b0 bud L<|zvY bud kind index cell r st b:=by
 have a:=zgT (kind:=kind) (index:=index) hI h0 h1 hsub;unfold zvY at a|-;split at a<;>rename_i d;·rw[if_pos d];exact⟨λ_=>⟨hI,hR,hV⟩,λh=>absurd rfl h⟩
 ·rw[if_neg d];split at a<;>rename_i c;·rw[if_pos c];exact⟨λh=>absurd h<|by simp,λ_ h=>absurd rfl h⟩
  ·rw[if_neg c];split at a<;>rename_i e
   ·rw[if_pos e];exact⟨λh=>absurd h<|by simp,λ_ _=>⟨hR.shut λt rec g f=>by simp_all,zxc.snoc hV hs⟩⟩
   ·rw[if_neg e];exact⟨λh=>⟨a h,hR.go (λt rec g f=>by simp_all)<|by omega,zxc.snoc hV hs⟩,λh=>absurd rfl h⟩
variable{bud L:Nat}
theorem zs7 {i:Nat}{row}(hn:1000000<=n)(hbud:bud<=65536)(hL:L<=128)(hi:idx pl.rows (i:Int)=O row)(hi2:i<=2048)(hr:RwOK L row):∀{l}{p},(∀t∈l,0<=t.cell/\t.cell<(L:Int))->PX n sf pl b0 bud L p->PX n sf pl b0 bud L (rowT bud i row l p)
 |[],_,_,h=>h|t::l,p,d,h=>by
  have c:=d t<|by simp
  refine zs7 hn hbud hL hi hi2 hr (l:=l) (λx g=>d x<|yV _ g)<|h.bind λo b a j f=>?_;refine zrN hbud a j f ⟨.inl rfl,Int.natCast_nonneg _,by grind,λh=>(by cases h),by grind,by grind⟩ c.1 c.2 zfV λ_ q k m e=>zsy m e hi (by rw[a.len];grind) a.box c.1 (by rw[a.len];grind) hn
theorem zry {i:Nat}{row}{p}(hn:1000000<=n)(hbud:bud<=65536)(hL:L<=128)(hi:idx pl.rows (i:Int)=O row)(hi2:i<=2048)(hr:RwOK L row)(h:PX n sf pl b0 bud L p):PX n sf pl b0 bud L<|zc9 bud i row p:=h.bind λk b e a c=>by
 split<;>rename_i g
 ·split;·exact⟨λh=>absurd h<|by simp,λ_ h=>absurd rfl h⟩
  ·exact⟨λh=>absurd h<|by simp,λ_ _=>⟨a.shut λt f j d=>zr3 j d hi g,zxc.snoc c ⟨.inl rfl,Int.natCast_nonneg _,by grind,λh=>(by cases h),by simp_all,by simp_all⟩⟩⟩
 ·exact zs7 hn hbud hL hi hi2 hr hr.cells ⟨λ_=>⟨e,a,c⟩,λh=>absurd rfl h⟩
theorem zrC (hn:1000000<=n)(hbud:bud<=65536)(hL:L<=128)(hR:∀r∈pl.rows,RwOK L r)(hRl:pl.rows.length<=2048):∀{l}{i}{p},l=pl.rows.drop i->PX n sf pl b0 bud L p->PX n sf pl b0 bud L (zwg bud i l p)
 |[],_,_,_,h=>h|r::l,i,p,a,h=>by
  have c:i<pl.rows.length:=xG λb=>by grind[wb]
  rw[zk c]at a;simp only[wy]at a;refine zrC hn hbud hL hR hRl (l:=l) (i:=i+1) a.2<|zry hn hbud hL (by grind[zb]) (by omega) (by simp_all) h
theorem grT_X {i K:Nat}{g}(hn:1000000<=n)(hbud:bud<=65536)(hL:L<=128)(hi:idx pl.s.zuT (i:Int)=O g)(hi2:i<=2048)(hg:GrOK L g K):∀{d k}{p},k+d<=K*K->PX n sf pl b0 bud L p->PX n sf pl b0 bud L (grT bud i g d k p)
 |0,_,_,_,h=>h|d+1,k,p,q,h=>by
  refine grT_X hn hbud hL hi hi2 hg (d:=d) (k:=k+1) (by omega)<|h.bind λr b a j m=>?_;have c:=hg.cell (show L<=1000000 by omega) (k:=k)<|by omega
  refine zrN hbud a j m ⟨.inr rfl,Int.natCast_nonneg _,by grind,λ_=>c.2.1,by grind,by grind⟩ c.2.1 c.2.2 zh7 λe s l o f=>zp9 (K:=K) o f hi (by rw[a.len];grind) (by rw[a.len];omega) (by omega) e hn
theorem znx (hn:1000000<=n)(hbud:bud<=65536)(hL:L<=128)(hG:∀g∈pl.s.zuT,∃K,GrOK L g K)(hGl:pl.s.zuT.length<=2048):∀{l}{i}{p},l=pl.s.zuT.drop i->PX n sf pl b0 bud L p->PX n sf pl b0 bud L (zb5 bud i l p)
 |[],_,_,_,h=>h|g::l,i,p,a,h=>by
  have c:i<pl.s.zuT.length:=xG λd=>by grind[wb]
  rw[zk c]at a;simp only[wy]at a;obtain⟨K,b⟩:=hG _<|yg c;rw[<-a.1]at b;exact znx hn hbud hL hG hGl (l:=l) (i:=i+1) a.2<|grT_X hn hbud hL (by grind[zb]) (by omega) b (by rw[b.len];omega) h
theorem zs9 (hn:1000000<=n)(hbud:bud<=65536)(hL:L<=128)(hR:∀r∈pl.rows,RwOK L r)(hRl:pl.rows.length<=2048)(hG:∀g∈pl.s.zuT,∃K,GrOK L g K)(hGl:pl.s.zuT.length<=2048):∀{f}{st b},PI bud L 0 st b->Rep n sf pl b0 st b->(∀s∈st,zxc s)->PX n sf pl b0 bud L (runU bud pl.rows pl.s.zuT f st b)
 |0,_,_,d,a,c=>⟨λ_=>⟨d,a,c⟩,λh=>absurd rfl h⟩|f+1,st,b,d,a,c=>by
  have i:PX n sf pl b0 bud L<|zv6 bud pl.rows pl.s.zuT st b:=znx hn hbud hL hG hGl rfl<|zrC hn hbud hL hR hRl rfl ⟨λ_=>⟨d,a,c⟩,λh=>absurd rfl h⟩;unfold runU;split<;>rename_i e
  ·have:=i.go e.1;exact zs9 hn hbud hL hR hRl hG hGl this.1 this.2.1 this.2.2
  simp_all
end
def bitR (r:Range):Nat:=if(r.hi-r.lo).toNat=0 then 0 else Nat.log2 (r.hi-r.lo).toNat+1
def bitB:List Range->Nat|[]=>0|r::b=>bitR r+bitB b
theorem zqB {r o}(h:r.hi-r.lo<=o.hi-o.lo):bitR r<=bitR o:=by
 unfold bitR;split;·simp_all
 ·rw[if_neg<|by omega];have:=Nat.log2_self_le (n:=(r.hi-r.lo).toNat)<|by grind
  have:=(Nat.le_log2 (n:=(o.hi-o.lo).toNat) (k:=(r.hi-r.lo).toNat.log2)<|by omega).2<|by omega
  omega
theorem zqA {r o}(hw:o.lo<o.hi)(h:r.hi-r.lo<=(o.hi-o.lo)/2):bitR r+1<=bitR o:=by
 unfold bitR;rw[if_neg<|show¬(o.hi-o.lo).toNat=0 by omega];split;·omega
 ·rename_i a;have:=Nat.log2_self_le (n:=(r.hi-r.lo).toNat) a;have:=(Nat.le_log2 (n:=(o.hi-o.lo).toNat) (k:=(r.hi-r.lo).toNat.log2+1)<|by omega).2<|by grind
  omega
theorem zoV:∀{b}{i}{r}(h),bitB (b.set i r)+bitR b[i]=bitB b+bitR r
 |o::b,0,r,_=>by grind[bitB]|o::b,i+1,r,h=>by
  have:=zoV (b:=b) (i:=i) (r:=r)<|by simp_all
  grind[bitB]
theorem znl {b}{c}{r}(h0:0<=c)(h1:c<(b.length:Int)):bitB (zvu b c r)+bitR (rgP b c)=bitB b+bitR r:=by
 have a:c.toNat<b.length:=by omega
 have e:rgP b c=b[c.toNat]:=by grind[rgP]
 unfold zvu;rw[if_pos h0,e];exact zoV a
theorem zsA {L bud R G f st b}(hL:L<=1000)(hR:∀r∈R,RwOK L r)(hG:∀g∈G,∃K,GrOK L g K)(hb:b.length=L)(hk:(runU bud R G f st b).k=0):bitB (runU bud R G f st b).b<=bitB b:=by
 have n:∀{c:List Range}{i:Int}{r:Range},c.length=L->0<=i->i<L->SubR r (rgP c i)->¬r.hi<r.lo->bitB (zvu c i r)<=bitB c:=λ{c i r}h m e l a=>by
  have:=znl (b:=c) (r:=r) m<|by omega
  have l:=l<|by omega
  have:=zqB (r:=r) (o:=rgP c i)<|by omega
  omega
 refine(zrH (xf:=λc=>c.length=L/\bitB c<=bitB b) (λr p t q c⟨h,s⟩a=>⟨by grind[zby],?_⟩) (λg u j v c⟨h,s⟩a=>⟨by grind[zby],?_⟩) ⟨hb,yk _⟩ hk).2;·have e:=(hR r p).cells t q;grind[zfV]
 ·obtain⟨K,d⟩:=hG g u;have e:=d.cell (show L<=1000000 by omega) (k:=j)<|by rw[<-d.len];grind
  grind[zh7]
theorem zsb {b}{x}(hc:¬zu3 b<0)(hx:x∈zvM (rgP b<|zu3 b)):bitB (zvu b (zu3 b) x)+1<=bitB b:=by
 obtain⟨c,d,a⟩:=zfc hc;have:=znl (r:=x) c d;have h:x.hi-x.lo<=((rgP b<|zu3 b).hi-(rgP b<|zu3 b).lo)/2:=by
  simp only[zvM]at hx;unfold midP at hx;grind
 have:=zqA a h;omega
theorem ztg {b}(h:∀r∈b,r.hi-r.lo<32768):bitB b<=15*b.length:=by induction b with
 |nil=>simp[bitB]|cons r b ih=>
  have a:=h r<|by simp
  have:bitR r<=15:=by
   unfold bitR;split;·omega
   ·have:=(Nat.log2_lt (n:=(r.hi-r.lo).toNat) (k:=15)<|by omega).2<|by omega
    omega
  grind[bitB]
def zxT (n:Nat)(t:Tree)(c h:Nat):Prop:=∀k level cost:Nat,h<=k->level+h<=4097->cost+c<=65536->zQ n k (level:Int) t (cost:Int)=O (U,((cost+c:Nat):Int))
theorem zxT.mono {n t c h h'}(H:zxT n t c h)(hh:h<=h'):zxT n t c h':=λk a b e f d=>H k a b (by omega) (by omega) d
def VisK (n h:Nat):List Tree->Nat->Prop|[],c=>c=0|t::l,c=>∃c1 c2,c=c1+c2/\zxT n t c1 h/\VisK n h l c2
theorem VisK.snoc {n h}:∀{l}{c}{t}{c1},VisK n h l c->zxT n t c1 h->VisK n h (l++[t]) (c+c1)
 |[],c,t,c1,g,d=>by
  cases g;exact⟨c1,0,by omega,d,rfl⟩|x::l,c,t,c1,⟨a,b,e,i,f⟩,d=>⟨a,b+c1,by omega,i,VisK.snoc f d⟩
theorem zjc {n}{t}(hs:∀s∈t.steps,zxc s)(hl:t.steps.length<1000000)(hn:1000000<=n)(hk:(if(t.kind==0)=U then(t.kids.length:Int)==0&&t.cell==0&&t.at_==0 else if(t.kind==1)=U then(t.kids.length:Int)==2&&Z (0<=t.cell)&&Z (t.cell<128)&&Z (-1000000<=t.at_)&&Z (t.at_<=1000000)else if(t.kind==2)=U then Z (1<=(t.kids.length:Int))&&Z ((t.kids.length:Int)<=1024)&&t.cell==0&&t.at_==0 else M)=U):zax n t=O true:=by
 have:=zy (body:=zax.l1 n t) (len:=t.steps.length) (st:=λi=>i) (g:=λ_=>O U) (λa i b l=>?_) (λa=>?_) n 0 (ym _)<|by omega
 ·grind[zax]
 ·have h:=hs _<|yg b;have e:=h.i0;have f:=h.i1;have d:=h.c0;have j:=h.c1;have k:=h.c2;have c:=h.kd;simp only[zax.l1,zb b,jn,ze (i:=i)<|by omega];grind
 ·simp only[zax.l1];grind
theorem VisK.node {n h c}{t}(hK:VisK n h t.kids c)(hkl:t.kids.length<=1024)(hs:zax n t=O U)(hn:1000000<=n):zxT n t (1+t.steps.length+c)<|h+1:=λk f d z y A=>by
 obtain⟨k,rfl⟩:∃q,k=q+1:=⟨k-1,by omega⟩;have B:zuN 1 t.steps.length=1+t.steps.length:=zcL (a:=1)<|by omega
 have C:zuN d ((1+t.steps.length:Nat))=d+(1+t.steps.length):=zcL<|by omega
 unfold zQ;have:=zbf (σ:=Nat) (body:=zQ.l1 n (zQ n k) f t.kids) (len:=t.kids.length) (st:=λs i=>(s,i)) (g:=λ_ _=>O (U,d+(1+t.steps.length+c))) (λi s=>∃l,VisK n h (t.kids.drop i) l/\s+l=d+(1+t.steps.length+c)) (λo i s p m v=>?_) (λo s m=>?_) n 0 (d+(1+t.steps.length)) (ym _) (by omega) ⟨c,by simp_all,by omega⟩;·grind
 ·obtain⟨l,j,u⟩:=m;rw[zk p]at j;obtain⟨a,b,e,w,x⟩:=j;have r:=w k (f+1) s (by omega) (by omega)<|by omega
  simp only[zQ.l1,zB p,zb p,ya,ze (i:=f)<|by omega,r,ze (i:=i)<|by omega];exact v (s+a) ⟨b,x,by omega⟩
 ·obtain⟨l,j,u⟩:=m;rw[xS]at j;cases j;simp only[zQ.l1];simp_all
theorem zkz {α}{n h}{self}{tr ix d}{A:Nat->α->Tree->Prop}:∀{l:List α}{i}{kids}{c s},(∀j(hj:j<l.length)d',d'<=d->(self l[j] d').k≠2->(self l[j] d').k≠0->zxT n (self l[j] d').t (self l[j] d').c h/\A (i+j) l[j] (self l[j] d').t)->VisK n h kids s->(zvH self tr ix d i l kids c).k≠2->(zvH self tr ix d i l kids c).k≠0->∃ks s',(zvH self tr ix d i l kids c).t=tr (kids++ks)/\ks.length=l.length/\VisK n h (kids++ks) (s+s')/\(zvH self tr ix d i l kids c).c=c+s'/\∀j(hj)(hk:j<ks.length),A (i+j) l[j] ks[j]
 |[],_,kids,c,s,_,hk,_,_=>⟨[],0,by simp[zvH],rfl,by simp_all,by simp[zvH],λj hj=>by simp at hj⟩|x::l,i,kids,c,s,o,hk,h2,h0=>by
  unfold zvH at h2 h0|-;split at h2<;>rename_i f;·exact absurd rfl h2
  ·rw[if_neg f]at h0|-;split at h2<;>rename_i m;·simp_all
   ·rw[if_neg m]at h0|-;obtain⟨g,v2⟩:=o 0 (by simp) (d-c) (Nat.sub_le _ _) f m;simp only[List.getElem_cons_zero,uv]at g v2;obtain⟨ks,s',q,r,k3,k4,k5⟩:=zkz (l:=l) (i:=i+1) (A:=A) (s:=s+(self x<|d-c).c) (λj hj d' hd' g2 g0=>by
     have:=o (j+1) (by simpa using hj) d' hd' (by simpa using g2)<|by simpa using g0
     simp only[List.getElem_cons_succ]at this;rw[show i+1+j=i+(j+1)by omega];exact this) (hk.snoc g) h2 h0;refine⟨(self x<|d-c).t::ks,(self x<|d-c).c+s',by rw[q];simp,by simpa using r,by grind,by grind,λj hj p=>?_⟩;grind
theorem zqt {n}{A B}(hA:A.length<=2000)(hB:B.length<=2000)(hn:1000000<=n):zi n [A,B]=O (A++B):=znc hA hB hn
structure NodeV (n:Nat)(y:NR)(h m:Nat)(pl:zvb):Prop where
 vis:zxT n y.t y.c h
 acc:∀k,1000000+m<=k->za k pl y.t=O U
theorem zmh {n}{pl}{t}(hne:∀r∈pl.box,r.lo<=r.hi)(hl:pl.box.length<=128)(hn:1000000<=n):za (n+1) pl t=zuR (vL n (za n) pl t) n (pl.box,0):=by
 unfold za za.body;rw[ztf hne (by omega) hn,ya,if_neg<|by simp,zl<|by grind,ya,yN]
def zy3 (root:Bool):Nat:=if root=U then 1 else 0
theorem zom {m:Nat}{self:zvb->Tree->Option Bool}{pl:zvb}{t:Tree}{rec}{b:List Range}(hk:t.kind≠1)(hk2:t.kind=2)(hc:pl.zu8=M)(hl:t.kids.length=pl.s.cases.length):vL m self pl t rec (b,(t.steps.length:Int))=zuR (za.l2 m self pl t b) m 0:=by
 simp only[vL,zat,ye,if_false];rw[if_neg<|by simpa using hk,if_pos<|by simpa using hk2,if_neg<|by rw[hc,hl];simp]
theorem zmg {m:Nat}{self:zvb->Tree->Option Bool}{pl:zvb}{t:Tree}{rec}{b:List Range}{k0 k1:Tree}(hk:t.kind=1)(h0:0<=t.cell)(h1:t.cell<(b.length:Int))(hbl:b.length<=128)(hat:(rgP b t.cell).lo<=t.at_/\t.at_<(rgP b t.cell).hi)(hsm:-1000000<=t.at_/\t.at_<=1000000)(hks:t.kids=[k0,k1])(s0:self ⟨pl.s,pl.rows,zvu b t.cell ⟨(rgP b t.cell).lo,t.at_⟩,pl.zu8⟩ k0=O U)(s1:self ⟨pl.s,pl.rows,zvu b t.cell ⟨t.at_+1,(rgP b t.cell).hi⟩,pl.zu8⟩ k1=O U):vL m self pl t rec (b,(t.steps.length:Int))=O true:=by
 have ha:zuN t.at_ 1=t.at_+1:=z9 (by omega)<|by omega
 have m1:zcF m (rgP b t.cell) ⟨(rgP b t.cell).lo,t.at_⟩=O ⟨(rgP b t.cell).lo,t.at_⟩:=by
  unfold zcF;rw[zoB,zmy,show max (rgP b t.cell).lo (rgP b t.cell).lo=(rgP b t.cell).lo by omega,show min (rgP b t.cell).hi t.at_=t.at_ by omega]
 have m2:zcF m (rgP b t.cell) ⟨t.at_+1,(rgP b t.cell).hi⟩=O ⟨t.at_+1,(rgP b t.cell).hi⟩:=by
  unfold zcF;rw[zoB,zmy,show max (rgP b t.cell).lo (t.at_+1)=t.at_+1 by omega,show min (rgP b t.cell).hi (rgP b t.cell).hi=(rgP b t.cell).hi by omega]
 have hap:Go.Proofs.YtipkniadbkndfaaGreatDoor.app 16 [] b=O b:=by rw[zl<|by simp;omega,yN]
 have k00:idx t.kids 0=O k0:=by rw[hks];rfl
 have k11:idx t.kids 1=O k1:=by rw[hks];rfl
 simp only[vL,zat,ye,if_false];rw[if_pos<|by simpa using hk,if_neg<|by simp;omega,zfJ h0 h1,ya,hap,ya,ya,m1,ya];simp only[zfJ h0 h1,ya,(zrR h0 h1).1,ha,m2,k00,s0,k11,yp,yj,s1,yw,grd,if_true,uQ]
theorem zhM {L:Nat}{S:System}(hG:SysG L S.zuT S.cases)(n:Nat)(hn:1000000<=n):∀{f:Nat}{root:Bool}{R:List Row}{b:List Range}{d:Nat}{ch:Bool},d<=65536->(∀r∈R,RwOK L r)->R.length<=1024+(if root=U then 0 else 64)->PI 0 L 0 [] b->(root=U->ch=M)->(zvD S.zuT S.cases f root R b d).k≠2->(zvD S.zuT S.cases f root R b d).k≠0->zxT n (zvD S.zuT S.cases f root R b d).t (zvD S.zuT S.cases f root R b d).c (bitB b+1+zy3 root)/\∀m,1000000+f<=m->za m ⟨S,R,b,ch⟩ (zvD S.zuT S.cases f root R b d).t=O U
 |0,_,_,_,_,_,_,_,_,_,_,h,_=>absurd rfl h|f+1,root,R,b,d,ch,hd6,hR,hRl,hb,hch,h2,h0=>by
  have hL:=hG.le;have hR2:R.length<=1088:=by split at hRl<;>omega
  unfold zvD at h2 h0|-;split at h2<;>rename_i hd0;·exact absurd rfl h2
  rw[if_neg hd0]at h0|-;dsimp only at h2 h0|-;have hX:∀m,1000000<=m->PX m (za m) ⟨S,R,b,ch⟩ b (d-1) L (runU (d-1) R S.zuT d [] b):=λm hm=>zs9 (pl:=⟨S,R,b,ch⟩) hm (by omega) hL hR (by simp only;omega) hG.gr (by have:=hG.gl;simp only;omega) (zh1 hb) Rep.nil<|by simp
  have hbit:=zsA (bud:=d-1) (f:=d) (st:=[]) (show L<=1000 by omega) hR hG.gr hb.len;have hle:=zm3 (bud:=d-1) (R:=R) (G:=S.zuT) (f:=d) (st:=[]) (b:=b)<|by simp
  generalize runU (d-1) R S.zuT d [] b=p at*;split at h2<;>rename_i hp2;·exact absurd rfl h2
  rw[if_neg hp2]at h0|-;have hacc:∀m t,1000000<=m->za (m+1) ⟨S,R,b,ch⟩ t=zuR (vL m (za m) ⟨S,R,b,ch⟩ t) m (b,0):=λm t hm=>zmh hb.ne (by simp only;rw[hb.len];omega) hm;split at h2<;>rename_i h1
  ·rw[if_pos h1]at h0|-;have hs:=(hX 1000000<|yk _).shut h1 hp2;constructor
   ·have hv:=VisK.node (n:=n) (h:=0) (c:=0) (t:=⟨0,p.st,0,0,[]⟩) rfl (by simp) (zjc hs.2 (by simp only;omega) hn<|by simp) hn;exact hv.mono<|by omega
   ·intro m hm;obtain⟨m,rfl⟩:∃m',m=m'+1:=⟨m-1,by omega⟩;rw[hacc m _<|by omega];have:=((hX m<|by omega).shut h1 hp2).1 ⟨0,p.st,0,0,[]⟩ [] (m-p.st.length)<|by simp
    rw[show m-p.st.length+p.st.length=m by omega]at this;exact this
  rw[if_neg h1]at h0|-;have hk:p.k=0:=by omega
  have hI:=((hX 1000000<|yk _).go hk).1;have hV:=((hX 1000000<|yk _).go hk).2.2;have hbit:=hbit hk;have hgo:∀m(t:Tree),1000000<=m->t.steps=p.st->za (m+1) ⟨S,R,b,ch⟩ t=vL m (za m) ⟨S,R,b,ch⟩ t (zuR (vL m (za m) ⟨S,R,b,ch⟩ t)<|m-p.st.length-1) (p.b,(t.steps.length:Int)):=λm t hm ht=>by
   rw[hacc m t hm];have:=((hX m hm).go hk).2.1 t [] (m-p.st.length)<|by simp[ht]
   rw[show m-p.st.length+p.st.length=m by omega]at this;rw[this,ht,zev<|by omega]
  split at h2<;>rename_i hr
  ·rw[if_pos hr]at h0|-;simp only[yc,yz,vg]at hr;rw[hr.1]at hRl hch|-;simp only[if_true,uv]at hRl;have hch:=hch rfl;have hcl:=hG.cl;have hcp:=List.length_pos_iff.2 hr.2;obtain⟨ks,s',k1,k2,k3,k4,k5⟩:=zkz (n:=n) (h:=bitB b+1) (s:=0) (A:=λj cs t=>∀m,1000000+f<=m->za m ⟨S,R++cs,p.b,U⟩ t=O U) (λj hj d' hd' g2 g0=>by
    have hcs:=hG.ca _<|yg hj;have:=zhM hG n hn (f:=f) (root:=M) (R:=R++S.cases[j]) (b:=p.b) (d:=d') (ch:=U) (by omega) (λr hr=>(yu.1 hr).elim (hR r)<|hcs.2 r) (by simp;omega) (zh1 hI) (by simp) g2 g0;exact⟨this.1.mono<|by simp[zy3];omega,this.2⟩) (show VisK n (bitB b+1) [] 0 from rfl) h2 h0;simp only[yN,ug]at k1 k3 k5;rw[k1,k4];constructor
   ·have hv:=VisK.node (n:=n) (h:=bitB b+1) (c:=s') (t:=⟨2,p.st,0,0,ks⟩) k3 (by simp only;omega) (zjc hV (by simp only;omega) hn<|by simp;omega) hn;exact hv.mono<|by simp[zy3]
   ·intro m hm;obtain⟨m,rfl⟩:∃m',m=m'+1:=⟨m-1,by omega⟩;rw[hgo m ⟨2,p.st,0,0,ks⟩ (by omega) rfl,zom (by simp) rfl hch k2];have:=zy (body:=za.l2 m (za m) ⟨S,R,b,ch⟩ ⟨2,p.st,0,0,ks⟩ p.b) (len:=ks.length) (st:=λi=>(i:Int)) (g:=λ_=>O U) (λrec i hi hr2=>?_) (λrec=>?_) m 0 (ym _)<|by omega
    ·exact this
    ·have hic:i<S.cases.length:=by omega
     have hcs:=hG.ca _<|yg hic;simp only[za.l2,zB hi,if_true,zb hi,zb hic,ya,zqt (show R.length<=2000 by omega) (show S.cases[i].length<=2000 by omega)<|show 1000000<=m by omega,k5 i hic hi m<|by omega,uf,ye,if_false,ze (i:=i)<|by omega,hr2]
    ·simp[za.l2]
  rw[if_neg hr]at h0|-;split at h2<;>rename_i hc;·rw[if_pos hc]at h0;exact absurd rfl h0
  rw[if_neg hc]at h0|-;obtain⟨c0,c1,c2⟩:=zfc hc;have hbl:p.b.length<=128:=by rw[hI.len];omega
  have hmem:=zkl hI.box _<|zhy c0 c1;have hRl':R.length<=1024+if M=U then 0 else 64:=by simp;omega
  obtain⟨ks,s',k1,k2,k3,k4,k5⟩:=zkz (n:=n) (h:=bitB b) (s:=0) (A:=λj x t=>∀m,1000000+f<=m->za m ⟨S,R,zvu p.b (zu3 p.b) x,ch⟩ t=O U) (λj hj d' hd' g2 g0=>by
   have hx:=yg hj;have:=zhM hG n hn (f:=f) (root:=M) (R:=R) (d:=d') (ch:=ch) (by omega) hR hRl' (zgq hI hc hx) (by simp) g2 g0;have hbh:=zsb hc hx;exact⟨this.1.mono<|by simp[zy3];omega,this.2⟩) (show VisK n (bitB b) [] 0 from rfl) h2 h0;simp only[yN,ug]at k1 k3 k5;have hlen:ks.length=2:=k2;obtain⟨x0,x1,rfl⟩:∃x0 x1,ks=[x0,x1]:=by match ks,hlen with|[x0,x1],_=>exact⟨x0,x1,rfl⟩
  rw[k1,k4];have hat:(rgP p.b<|zu3 p.b).lo<=midP (rgP p.b<|zu3 p.b)/\midP (rgP p.b<|zu3 p.b)<(rgP p.b<|zu3 p.b).hi:=by unfold midP;omega
  constructor
  ·have hv:=VisK.node (n:=n) (h:=bitB b) (c:=s') (t:=⟨1,p.st,zu3 p.b,midP<|rgP p.b<|zu3 p.b,[x0,x1]⟩) k3 (by simp) (zjc hV (by simp only;omega) hn<|by simp;omega) hn;exact hv.mono<|by omega
  ·intro m hm;obtain⟨m,rfl⟩:∃m',m=m'+1:=⟨m-1,by omega⟩;rw[hgo m ⟨1,p.st,zu3 p.b,midP<|rgP p.b<|zu3 p.b,[x0,x1]⟩ (by omega) rfl];exact zmg (k0:=x0) (k1:=x1) rfl c0 c1 hbl hat (by simp only;omega) rfl (k5 0 (by simp[zvM]) (by simp) m<|by omega)<|k5 1 (by simp[zvM]) (by simp) m<|by omega
theorem znd {n m q rows a b S}(hD:SysD n m q rows a b S)(hc:zh n m q rows=O (S,0))(hn:4294967296<=n)(h0:(zvG S 65536).k≠0)(h2:(zvG S 65536).k≠2):zaF n m q ⟨1,[],(zvG S 65536).t,((zvG S 65536).c:Int)⟩ rows=O true:=by
 obtain⟨hg,hr,hrl⟩:=hD.g;have hpi:=hD.pi;have hlen:=hD.len;have hcost:=zeP (G:=S.zuT) (cs:=S.cases) (f:=65536+1) (root:=U) (R:=S.rows) (b:=S.box) (d:=65536) h2;change 1<=(zvG S 65536).c/\(zvG S 65536).c<=65536 at hcost;have hnode:=zhM hg n (by omega) (f:=65536+1) (root:=U) (d:=65536) (ch:=M) (yk _) hr (by simp;omega) hpi (λ_=>rfl) h2 h0;change zxT n (zvG S 65536).t (zvG S 65536).c _/\∀m,_->za m ⟨S,S.rows,S.box,M⟩ (zvG S 65536).t=O U at hnode;have hbits:bitB S.box<=15*S.box.length:=by
  refine ztg λr hr'=>?_;have hgood:=zeG hD.valid.lay;rw[hD.box]at hr';have:=yq.1 hgood r hr';simp only[yc,yf]at this;omega
 have hbl:S.box.length<=12:=by rw[hpi.len];exact hlen
 have hvis:=hnode.1 n 1 0 (by simp[zy3];omega) (by simp[zy3];omega)<|by omega
 have hvalid:zbw n (zvG S 65536).t=O true:=by
  unfold zbw;rw[show(1:Int)=((1:Nat):Int)from rfl,show(0:Int)=((0:Nat):Int)from rfl,hvis];rfl
 have hacc:=hnode.2 n<|by omega
 unfold zaF;rw[hc,ya,if_neg<|by simp;omega,if_neg<|by simp,if_pos<|by simp];unfold zew;simp only[(hD.zzK<|by omega).1,ya,hvalid,hacc,yp,yj,yw,grd,if_true,uQ,ul];rfl
def lexL:List Int->List Int->Prop|v::vs,x::xs=>v<x\/v=x/\lexL vs xs|[],[]=>True|_,_=>False
theorem znC:∀(v),lexL v v|[]=>trivial|_::a=>.inr ⟨rfl,znC a⟩
theorem zrb:∀{v x}{i},v.length=x.length->i<v.length->(∀j,j<i->v.getD j 0=x.getD j 0)->v.getD i 0<x.getD i 0->lexL v x|[],_,_,_,h,_,_=>by grind|_::_,[],_,h,_,_,_=>by grind|v::b,x::a,0,_,_,_,h=>.inl<|by simp_all|v::b,x::a,i+1,f,e,c,h=>.inr ⟨by simpa using c 0<|by omega,zrb (i:=i) (by simp_all) (by simp_all) (λj d=>by grind)<|by simp_all⟩
theorem zr0:∀{b}{v x},zvT b=U->zvl b v=U->zvl b x=U->lexL v x->valB b v<=valB b x
 |[],[],[],_,_,_,_=>yk _|[],_::_,_,_,h,_,_=>by grind[zvl]|[],[],_::_,_,_,h,_=>by grind[zvl]|_::_,[],_,_,h,_,_=>by grind[zvl]|_::_,_::_,[],_,_,h,_=>by grind[zvl]|r::d,v::j,x::f,i,c,e,h=>by
  simp only[zvl,yc,yf]at c e;have a:zvT d=true:=by grind[zvT]
  simp only[valB];rcases h with h|⟨rfl,h⟩
  ·have k:=zma c.2 a;have g:=yH (zeg d)<|show(v-r.lo).toNat+1<=(x-r.lo).toNat by omega
   grind
  ·have:=zr0 a c.2 e.2 h;omega
theorem zrZ:∀{b}{v x},zvT b=U->zvl b v=U->zvl b x=U->valB b v=valB b x->v=x
 |[],[],[],_,_,_,_=>rfl|[],_::_,_,_,h,_,_=>by grind[zvl]|[],[],_::_,_,_,h,_=>by grind[zvl]|_::_,[],_,_,h,_,_=>by grind[zvl]|_::_,_::_,[],_,_,h,_=>by grind[zvl]|r::f,v::i,x::k,n,d,c,h=>by
  simp only[zvl,yc,yf]at d c;have a:zvT f=true:=by grind[zvT]
  simp only[valB]at h;have l:=zma d.2 a;have m:=zma c.2 a;have e:v=x:=by
   rcases Int.lt_trichotomy v x with g|j|g
   ·have:=yH (zeg f)<|show(v-r.lo).toNat+1<=(x-r.lo).toNat by omega
    grind
   ·grind
   ·have:=yH (zeg f)<|show(x-r.lo).toNat+1<=(v-r.lo).toNat by omega
    grind
  subst e;rw[zrZ a d.2 c.2<|by omega]
theorem zou {b}(hne:∀r∈b,r.lo<=r.hi)(hc:¬zu3 b<0):∀j,0<=j->j<zu3 b->(rgP b j).lo=(rgP b j).hi:=by
 have c:∀(l:List Range)(k:Nat)(j:Nat)(a:j<l.length),k+j<ixA zxj l k->zxj l[j]=false:=by
  intro l;induction l with
  |nil=>simp_all|cons r l ih=>
   intro k j a h;unfold ixA at h;cases d:zxj r with|true=>grind|false=>cases j with|zero=>grind|succ j=>exact ih (k+1) j (by simp_all)<|by grind
 intro j f g;obtain⟨i,m,e⟩:=zfc hc;have a:j.toNat<b.length:=by omega
 have d:=c b 0 j.toNat a<|by grind[zu3]
 grind[rgP,zxj]
theorem kids2 {self}{tr ix d}{l h:Range}{c}(hk:(zvH self tr ix d 0 [l,h] [] c).k=0):(∃e,(self l e).k=0/\(zvH self tr ix d 0 [l,h] [] c).v=(self l e).v)\/∃e e',(self l e).k≠0/\(self l e).k≠2/\(self h e').k=0/\(zvH self tr ix d 0 [l,h] [] c).v=(self h e').v:=by
 unfold zvH at hk|-;split at hk<;>rename_i b;·grind[zeD]
 ·split at hk<;>rename_i f;·grind
  ·obtain⟨y,g,e,i,a⟩:=zj6 hk;grind
theorem zhN {L G}(hG:SysG L G []):∀{f}{root R b d},(∀r∈R,RwOK L r)->PI 0 L 0 [] b->(zvD G [] f root R b d).k=0->∀x,SolN G [] root R b x->lexL (zvD G [] f root R b d).v x
 |0,_,_,_,_,_,_,h=>absurd h<|by simp[zvD,zeD]|f+1,root,R,b,d,hR,hb,h=>by
  intro x hx;have hL:=hG.le;unfold zvD at h|-;split at h<;>rename_i hd0;·exact absurd h<|by simp[zeD]
  rw[if_neg hd0];dsimp only at h|-;have hI:=ziD (bud:=d-1) (f:=d) (show L<=1000 by omega) hR hG.gr<|zh1 (d:=d-1) hb;have hkeep:=zk4 (bud:=d-1) (f:=d) (st:=[]) (show L<=1000 by omega) (λr hr=>⟨hR r hr,hx.rows r hr⟩) (λg hg=>⟨hG.gr g hg,hx.zuT g hg⟩) hx.box hb.len;generalize runU (d-1) R G d [] b=p at*;split at h<;>rename_i hp2;·grind[absurd,zeD]
  rw[if_neg hp2];split at h<;>rename_i h1;·simp_all
  have hk:p.k=0:=by omega
  have hI:=hI hk;have hxb:=(hkeep.1 hk).1;rw[if_neg h1];have hr:¬(root&&!([]:List<|List Row).isEmpty)=true:=by simp
  rw[if_neg hr]at h|-;split at h<;>rename_i hc
  ·have hs:=zlJ hI.ne hc;have e:p.b.map (·.lo)=x:=by
    have hl:=hxb.len;refine uO (by grind) λi h1 h2=>?_;have hm:=hxb.mem (i:Int) (by omega)<|by omega
    grind[rgP,Int,valC,List.getElem_mem]
   grind[znC]
  ·rw[if_neg hc];obtain⟨c0,c1,c2⟩:=zfc hc;have hv:=hxb.mem _ c0 c1;have hlow:(⟨(rgP p.b<|zu3 p.b).lo,midP<|rgP p.b<|zu3 p.b⟩:Range)∈zvM (rgP p.b<|zu3 p.b):=by simp[zvM]
   have hhigh:(⟨midP (rgP p.b<|zu3 p.b)+1,(rgP p.b<|zu3 p.b).hi⟩:Range)∈zvM (rgP p.b<|zu3 p.b):=by simp[zvM]
   have sol:∀{y:Range},y.lo<=valC x (zu3 p.b)/\valC x (zu3 p.b)<=y.hi->SolN G [] M R (zvu p.b (zu3 p.b) y) x:=λhy=>⟨hxb.with_ c0 c1 hy,hx.rows,hx.zuT,λh=>by cases h⟩;have h':(zvH (λr d=>zvD G [] f M R (zvu p.b (zu3 p.b) r) d) (λkids=>⟨1,p.st,zu3 p.b,midP<|rgP p.b<|zu3 p.b,kids⟩) (λ_=>0) d 0 [⟨(rgP p.b<|zu3 p.b).lo,midP<|rgP p.b<|zu3 p.b⟩,⟨midP (rgP p.b<|zu3 p.b)+1,(rgP p.b<|zu3 p.b).hi⟩] []<|1+p.st.length).k=0:=h;change lexL (zvH (λr d=>zvD G [] f M R (zvu p.b (zu3 p.b) r) d) (λkids=>⟨1,p.st,zu3 p.b,midP<|rgP p.b<|zu3 p.b,kids⟩) (λ_=>0) d 0 [⟨(rgP p.b<|zu3 p.b).lo,midP<|rgP p.b<|zu3 p.b⟩,⟨midP (rgP p.b<|zu3 p.b)+1,(rgP p.b<|zu3 p.b).hi⟩] []<|1+p.st.length).v x;rcases kids2 h' with⟨e,e0,ev⟩|⟨e,e',e0,e2,e3,ev⟩
   ·rw[ev];by_cases hxm:valC x (zu3 p.b)<=midP (rgP p.b<|zu3 p.b);·exact zhN hG hR (zgq hI hc hlow) e0 x<|sol ⟨hv.1,hxm⟩
    ·have hf:=(zgb hG hR (zgq hI hc hlow) e0).box;generalize(zvD G [] f M R (zvu p.b (zu3 p.b) ⟨(rgP p.b<|zu3 p.b).lo,midP<|rgP p.b<|zu3 p.b⟩) e).v=v at*;have hvl:=hf.len;rw[zby]at hvl;have hxl:=hxb.len;refine zrb (i:=(zu3 p.b).toNat) (by omega) (by omega) (λj hj=>?_) ?_
     ·have hm:=hf.mem (j:Int) (by omega)<|by grind[zby]
      rw[zk0 c0 c1<|by omega,if_neg<|by omega]at hm;have hxm:=hxb.mem (j:Int) (by omega)<|by omega
      have hs:=zou hI.ne hc (j:Int) (by omega)<|by omega
      grind[valC,Int.toNat_natCast]
     ·have hm:=hf.mem (zu3 p.b) c0<|by grind[zby]
      rw[zk0 c0 c1 c0,if_pos rfl]at hm;grind[valC]
   ·rw[ev];by_cases hxm:valC x (zu3 p.b)<=midP (rgP p.b<|zu3 p.b);·grind[absurd,rgP,zu3,midP,zgc,zgq]
    ·exact zhN hG hR (zgq hI hc hhigh) e3 x<|sol ⟨by grind,hv.2⟩
structure zzc (b:List Range)(p:List Int->Bool)(v:Nat)(l:List<|List Int):Prop where
 mem:∀x,x∈l↔zvl b x=U/\p x=U/\valB b x<v
 ord:l.Pairwise λx y=>valB b x<valB b y
 len:l.length<=v
theorem zzc.next {b p l s}(hg:zvT b=U)(h:zzc b p (valB b s) l)(hs:zvl b s=U):zzc b p (valB b s+1)<|if p s=U then l++[s]else l:=by
 have e:∀x,zvl b x=U->valB b x<valB b s+1->valB b x<valB b s\/x=s:=λx a f=>by grind[zrZ]
 have d:=h.len;split<;>rename_i g
 ·refine⟨λx=>?_,?_,by simp_all⟩
  ·rw[yu,h.mem,yK];grind
  ·rw[List.pairwise_append];refine⟨h.ord,by simp,λx a y c=>?_⟩;simp only[yK]at c;subst c;exact((h.mem x).1 a).2.2
 ·refine⟨λx=>?_,h.ord,by omega⟩;rw[h.mem];grind
theorem zn6 {n m q rows a b S}(hD:SysD n m q rows a b S)(hn:4294967296<=n)(hf:fewP m=U)(hrl:rows.length<=1000):∃l,zba n m q rows=O l/\(∀x,x∈l↔zvl (boxM m) x=U/\zdS m q rows a b x=U)/\l.Pairwise (λx y=>valB (boxM m) x<valB (boxM m) y)/\l.length<=4096:=by
 have hS:=zg1 hf;have hV:=hD.valid;have hgood:=zeG hV.lay;have hlen:=hD.len;have hcount:zeg (boxM m)<=4096:=by
  have hfp:=hf;simp only[fewP,zdj,hV.lay,yc,yf]at hfp;have:=zlK (l:=boxM m) (p:=1) hgood (by omega) (by omega) hfp.2.2.2;omega
 unfold zba;rw[zea hn hS,zdA.2 hV,hD.zyq,ya,if_neg<|by simp,zjJ hS hV.lay<|by omega,ya,zlu (by omega)<|by omega,ya];have hshow:∀s,zvl (boxM m) s=U->zaK n m q rows s=O (zdS m q rows a b s):=λs hs=>zsa ⟨hS,hV,hD.zyq,hD.ha,hD.hb,hs,by omega,hn⟩ hrl<|zoq hD.bad;refine zcV (body:=zba.l1 n m q rows<|boxM m) (λs=>if s.2.2=U then zeg (boxM m)-valB (boxM m) s.2.1 else 0) (λs=>if s.2.2=U then zvl (boxM m) s.2.1=U/\zzc (boxM m) (zdS m q rows a b) (valB (boxM m) s.2.1) s.1 else zzc (boxM m) (zdS m q rows a b) (zeg<|boxM m) s.1) (λ_ r=>∃l,r=O l/\(∀x,x∈l↔zvl (boxM m) x=U/\zdS m q rows a b x=U)/\l.Pairwise (λx y=>valB (boxM m) x<valB (boxM m) y)/\l.length<=4096) (λrec s hI hr=>?_) n ([],zih<|boxM m,U) ?_ ?_;·obtain⟨l,s,more⟩:=s;cases more with
  |false=>
   simp only[if_false]at hI;have hl:=hI.len;refine⟨l,by simp[zba.l1],λx=>?_,hI.ord,by omega⟩;rw[hI.mem];constructor;·rintro⟨h1,h2,-⟩;exact⟨h1,h2⟩
   ·rintro⟨h1,h2⟩;exact⟨h1,h2,zma h1 hgood⟩|true=>
   simp only[if_true]at hI;obtain⟨hs,hL⟩:=hI;have hv:=zma hs hgood;have hnx:=hL.next hgood hs;have hl:=hL.len;have hbody:zba.l1 n m q rows (boxM m) rec (l,s,U)=rec (if zdS m q rows a b s=U then l++[s]else l,match zwG (boxM m) s with|some ys=>(ys,U)|none=>([],M)):=by
    simp only[zba.l1,if_true,jn,hshow s hs,ya,zmU hgood hs (show(boxM m).length<=100 by omega)<|show 1000000<=n by omega];cases zdS m q rows a b s with|true=>rw[if_pos rfl,if_pos rfl,zl<|by simp;omega,ya];cases zwG (boxM m) s<;>rfl|false=>cases zwG (boxM m) s<;>rfl
   rw[hbody];cases hnl:zwG (boxM m) s with
   |some t=>
    obtain⟨h1,h2⟩:=znI hs hgood hnl;refine hr _ ?_ ?_;·simp_all
    grind|none=>
    have h1:=zga hs hgood hnl;refine hr _ ?_ ?_;·simp_all
    grind
 ·refine⟨zmK hgood,?_⟩;rw[zla];exact⟨λx=>by simp,.nil,ym _⟩
 grind
theorem zlz {n}{a b}(ha:a.length<1000000)(hn:1000000<=n):zz n a b=O (Z<|a=b):=by
 unfold zz;split<;>rename_i h
 ·have:a≠b:=λe=>by simp_all
  simp_all
 ·have h:a.length=b.length:=by grind
  have:=zy (body:=zz.l1 n a b) (len:=a.length) (st:=λi=>i) (g:=λi=>O<|Z<|a.drop i=b.drop i) (λc i d k=>?_) (λc=>?_) n 0 (ym _)<|by omega
  ·simp_all
  ·have f:i<b.length:=by omega
   simp only[zz.l1,zb d,zb f,ze (i:=i)<|by omega];have l:=zk d;have j:=zk f;generalize a[i]=y at*;generalize b[i]=z at*;by_cases e:y=z;·simp_all
   simp_all
  ·simp only[zz.l1];simp_all
theorem zmd {n}{l}{f}{p}(hp:∀x∈l,f x=O (p x))(hl:l.length<=100000)(hn:1000000<=n):za9 n l f=O (l.any p):=by
 have:=zy (body:=zW.l1 n l f) (len:=l.length) (st:=λi=>i) (g:=λi=>O<|ixA p (l.drop i) i) (λa i b d=>?_) (λa=>?_) n 0 (ym _)<|by omega
 ·unfold za9 zW;have c:zuR (zW.l1 n l f) n 0=O (ixA p l 0):=by simp_all
  rw[c,ya];congr 1;grind[zmG]
 ·rw[zk b];simp only[zW.l1,zb b,ze (i:=i)<|by omega,ixA];grind
 ·simp[zW.l1,ixA]
theorem zlB {n m q rows e}(hF:Fuel n)(hf:fewP m=U)(hV:zwb m)(hq:zeA m q=U)(hrl:rows.length<=50)(hc:zh n m q rows=O (⟨[],[],[],[]⟩,e)):e=8\/e=0\/e=2/\rows≠[]:=by
 have v:=hF.big;have k:1000000<=n:=by omega
 have g:=zg1 hf;obtain⟨A,w,z,F,I⟩:=ze2 hq;obtain⟨a,l⟩:=zaM A.1 A.2;obtain⟨b,s⟩:=zaM w.1 w.2;have B:=zjp g<|zaA l;have C:=zjp g<|zaA s;have xf:=zhb v g hV<|zaA l;have E:=zhb v g hV<|zaA s;have o:∀c∈m.constraints,zwo (boxM m).length c:=λc hc=>zqM g hV hc;have j:=hf;simp only[fewP,zdj,hV.lay,yc,yf]at j;have xd:(boxM m).length<=12:=j.2.2.1;have f:=zeG hV.lay;have p:=g.constraints;have r:=λc hc=>(o c hc).len;have d:=zk1 (n:=n) (q:=q) (rows:=rows) (a:=a) (b:=b) p r;rw[zh2 (rows:=rows) hF g hV hq l s B C o<|by omega]at hc;by_cases y:(rows.all λx=>!badR m x)=U;case neg=>grind
 obtain⟨xe,H,N,K,G,t,i⟩:=zpM (n:=n) (m:=m) (q:=q) (box:=boxM m) B C o xf E (by omega) (by omega) (λh=>⟨z,F h a l⟩) (λh=>⟨z,(I h).2⟩) k;have u:=zm7 d K G t;rw[i _<|by grind,zdV f (by omega) u k]at hc;cases L:sysP (boxM m).length (zwH n m q rows a b++(zeT q a b++xe)) (zc1 n m q a b) H with
 |false=>
  simp only[endS]at hc;simp_all|true=>
  simp only[endS]at hc;simp_all
theorem zqu {m:Model}{q:Question}{rows:List Int}:zeW 18446744073709551616 m q rows=O true:=by
 unfold zeW;have hF:=zus;have hn:=hF.big;have hn1:1000000<=18446744073709551616:=by omega
 rw[zp0,znR<|by omega];simp only[ya,uf,ye,if_false];by_cases hfew:(!fewP m||decide (20<(rows.length:Int)))=U;·rw[if_pos hfew]
 rw[if_neg hfew];simp only[yG,yz,yf,not_or,Bool.not_eq_false]at hfew;obtain⟨hf,hrl⟩:=hfew;have hS:=zg1 hf;obtain⟨-,hres⟩:=zol (q:=q) (rows:=rows) hF hf<|by omega
 rcases hres with⟨e,hc,he⟩|⟨a,b,S,hD,hc⟩
 ·rw[zok hc he<|by omega];have hv:e=8\/(!(zeE m&&zeA m q)||decide (0<(rows.length:Int)))=true:=by
   rcases he with rfl|rfl|rfl
   ·right;by_cases hvq:(zeE m&&zeA m q)=U
    ·exfalso;simp only[yc]at hvq;exact absurd hc<|by
      intro hc;have:=zlB (q:=q) (rows:=rows) hF hf (zdA.1 hvq.1) hvq.2 (by omega) hc;simp at this
    grind
   ·right;by_cases hr0:0<rows.length;·simp[hr0]
    ·have hr0:rows=[]:=List.length_eq_zero_iff.1<|by omega
     subst hr0;by_cases hvq:(zeE m&&zeA m q)=U
     ·exfalso;simp only[yc]at hvq;grind[absurd,zlB,zdA]
     grind
   simp_all
  rcases hv with rfl|hv;·simp[grd]
  ·by_cases h8:e=8;·grind[grd]
   ·have he0:e≠0:=by grind
    rw[if_neg h8,ya,if_pos<|by grind,zea (by omega) hS];have e0:((e:Int)==0)=false:=by simpa using he0
    simp only[e0,uI,yp,yj,grd,if_true,hv]
 rw[show(65536:Int)=((65536:Nat):Int)from rfl,zpW hD (by omega) hS (yk _) hc,ya];by_cases k2:(zvG S 65536).k=2;·rw[zuK k2,if_pos<|by simp];simp[grd]
 obtain⟨l,hl,hmem,hord,hll⟩:=zn6 hD (by omega) hf<|by omega
 have hcost:=zeP (G:=S.zuT) (cs:=S.cases) (f:=65536+1) (root:=U) (R:=S.rows) (b:=S.box) (d:=65536) k2;change 1<=(zvG S 65536).c/\(zvG S 65536).c<=65536 at hcost;by_cases k0:(zvG S 65536).k=0
 ·obtain⟨hx,hsh⟩:=zmu hD (by omega) hS k0;have hconf:=zjR (c:=(zvG S 65536).c) hD hc (by rw[hD.box];omega) (by omega) hn1;rw[ziI hD (by omega) hS hx,hsh]at hconf;have hin:=zmE.2 hx;have hml:=(hmem _).2 ⟨hin,hsh⟩;have hvl:(zvG S 65536).v.length<1000000:=by have:=hx.len;have:=hD.len;omega
  rw[zuI k0,if_neg<|by simp,hconf,ya,if_neg<|by simp,hl,ya,if_neg<|by simp];simp only;have hq:=ze2 hD.zyq;have hidx:(q.target.hold||(idx m.constraints q.target.index).isSome)=true:=by cases hh:q.target.hold with|true=>rfl|false=>
    obtain⟨c,hc'⟩:=zaM hq.2.2.1 (hq.2.2.2.2 hh).2;simp_all
  rw[hidx];simp only[grd,if_true];by_cases hrow:(q.target.hold||((idx m.constraints q.target.index).getD J).kind==0)=U
  ·rw[if_pos hrow];have hcs:S.cases=[]:=by
    obtain⟨xe,hT,-⟩:=hD.tgt;generalize S.cases=cs at hT;cases hT with
    |hold r h1 h2=>rfl|row c h1 h2 hk=>rfl|none c k h1 h2 hk hz he=>rfl|graph c k h1 h2 hk hz he=>simp_all
   have hne:0<l.length:=List.length_pos_of_mem hml;obtain⟨hg,hr,hrl'⟩:=hD.g;have hleast:=zhN (L:=(boxM m).length) (G:=S.zuT) (by simp_all) (f:=65536+1) (root:=U) (R:=S.rows) (b:=S.box) (d:=65536) hr hD.pi (by rw[<-hcs];exact k0) l[0]<|by
    obtain⟨h1,h2⟩:=(hmem _).1<|yg hne;have h1':=zmE.1 h1;have:=(zm4 (b:=S.box)<|by rw[hD.box];omega).2<|by rw[ziI hD (by omega) hS h1'];grind
    simp_all
   rw[<-hcs]at hleast;change lexL (zvG S 65536).v l[0]at hleast;have h1:=((hmem _).1<|yg hne).1;have hle:=zr0 (zeG hD.valid.lay) hin h1 hleast;have heq:(zvG S 65536).v=l[0]:=by
    obtain⟨i,hi,hil⟩:=wh hml;by_cases h0:i=0;·subst h0;exact hil.symm
    ·have:=List.pairwise_iff_getElem.1 hord 0 i hne hi<|by omega
     rw[hil]at this;omega
   have hi0:idx l 0=O l[0]:=zb (i:=0) hne;have hlt:Z (0<(l.length:Int))=true:=by simp_all
   rw[hlt];simp only[hi0,yp,yj,zlz hvl hn1,yw,if_true,yA];grind
  ·rw[if_neg hrow];rw[zmd (p:=λx=>Z<|x=(zvG S 65536).v) (λx hx=>by
    unfold zd1;have hxl:=zeV ((hmem x).1 hx).1;have:=hD.len;grind[zlz]) (by omega) hn1,ya];simp_all
 ·have hconf:=znd hD hc (by omega) k0 k2;rw[zuJ k2 k0,if_neg<|by simp,hconf,ya,if_neg<|by simp,hl,ya,if_pos<|by simp];have:l=[]:=by cases hl':l with
   |nil=>rfl|cons x xs=>
    exfalso;obtain⟨h1,h2⟩:=(hmem x).1<|by simp_all
    grind[zqS,zmE]
  simp_all
theorem closed25:joinedFacts Tryz.pinned.checked.prog 4 Tryz.f4 (uW Rows.pairExactSpec).bare Rows.pairExactRow=true:=by
 unfold joinedFacts;simp only[yc];repeat' apply And.intro
 all_goals as_aux_lemma=>kernel_rfl
section
open Go.ChangeShapes Go.WideShapes Go.ChangeAt Go.RowKit
theorem own:ownKnob xg.godebug=none:=by kernel_rfl
theorem ztw:laidOutB xg=true:=by kernel_rfl
set_option maxRecDepth 100000 in
theorem zy2 (H:Type)(enc:TypeId×Value->H)(W:World)(base:Nat)(args:Array Value)(ds gs:List<|DataW H)(before:List MemPlace)(hval:∀(j:Nat)t v,Tryz.f4.params[j]?=O t->args[j]?=O v->Value.okWide xg W .any base t v)(hW:DataW.Whole enc xg Tryz.f4.params.toList Rows.pairExactSpec.vars M W args.toList ds gs before)(hL:laidMetH xg Rows.pairExactRow.laid W)(hS:W.ShapedOpen xg):Calls xg 4 args W λe W'=>∃v,e=.returned v/\Rows.pairExactSpec.post enc xg Tryz.f4 M U M M W args v W':=by
 have hW':=hW;obtain⟨p,q,hA0,hV,rfl,hfz,hnd⟩:=hW;have hA:DataW.TrodAll enc xg W 0 (λ_=>U) U Tryz.f4.params.toList args.toList ds p:=hA0;rw[Tryz.params4]at hA hval;obtain⟨v0,vs0,d0,ds0,p0,q0,hargs,rfl,rfl,h0,r0⟩:=trodAll_cons hA;obtain⟨v1,vs1,d1,ds1,p1,q1,rfl,rfl,rfl,h1,r1⟩:=trodAll_cons r0;obtain⟨v2,vs2,d2,ds2,p2,q2,rfl,rfl,rfl,h2,r2⟩:=trodAll_cons r1;obtain⟨rfl,rfl,rfl⟩:=trodAll_nil r2;obtain rfl:args=#[v0,v1,v2]:=by cases args;simp_all
 obtain⟨rfl,rfl⟩:=trodVars_none hV;obtain⟨a0,k0⟩:=zuh.zzA (hval 0 _ v0 rfl rfl) h0;obtain⟨a1,k1⟩:=zuj.zzA (hval 1 _ v1 rfl rfl) h1;obtain⟨a2,k2⟩:=zzl.zzA (hval 2 _ v2 rfl rfl) h2;have hrun:=(law23_PairExact_ok _ a0 a1 a2 U zqu).run zw1 W #[v0,v1,v2] (λ_ h=>h.elim) (ztt hL hS)<|by
  simp only[xv];exact⟨v0,_,rfl,k0,v1,_,rfl,k1,v2,_,rfl,k2,rfl⟩
 refine hrun.mono λe W'⟨u,he,hf,hu⟩=>?_;simp only[xD]at hu;subst hu;subst he;refine⟨_,rfl,zrn hW' rfl rfl rfl ztw (λt ht=>?_) hf λ_ _ _=>trodAll_cons_mk (shut_bool Tryz.underlying4 _) trodAll_mk0⟩;rw[Tryz.params4]at ht;have hall:([30,34,22].all λt=>xg.readableRec t&&Z (t<xg.types.size))=true:=by kernel_rfl
 have:=yq.1 hall t<|by simpa using ht
 simpa using this
theorem reads25 (os:Os){H:Type}(enc:TypeId×Value->H):∃places,DataW.whole enc xg ((World.laidAll xg os Rows.pairExactRow.laid).forCall (λ_ _=>0) ⟨#[],#[.agg #[.slice Y 0 0,.slice Y 0 0,.slice Y 0 0,.slice Y 0 0,.slice Y 0 0,.slice Y 0 0,.slice Y 0 0],.agg #[.int .i64 0,.int .i64 0,.bool M,.int .i64 0],.slice Y 0 0],[]⟩).memory Tryz.f4.params.toList Rows.pairExactSpec.vars M (#[.agg #[.slice Y 0 0,.slice Y 0 0,.slice Y 0 0,.slice Y 0 0,.slice Y 0 0,.slice Y 0 0,.slice Y 0 0],.agg #[.int .i64 0,.int .i64 0,.bool M,.int .i64 0],.slice Y 0 0]:Array Value).toList 8=O ([.agg [.nil,.nil,.nil,.nil,.nil,.nil,.nil],.agg [.lit<|.int .i64 0,.lit<|.int .i64 0,.agg [.lit<|.bool M,.lit<|.int .i64 0]],.nil],[],places):=⟨[],by kernel_rfl⟩
set_option maxRecDepth 100000 in
theorem lifted25 (os:Os) (started:os.Started) (H:Type) (enc:TypeId×Value->H) (F:Stop.Interp) :
  ReturnsInHanded {} Tryz.checked os 4 .any ((uW Rows.pairExactSpec).preRow enc xg Tryz.f4 Rows.pairExactRow.domain M Rows.pairExactRow.laid)<|((uW Rows.pairExactSpec).at F).post enc xg Tryz.f4 M U M M:=by
 obtain ⟨places,hx⟩:=reads25 os enc
 refine returnsInHanded_of_row (C:=Tryz.checked) (s:=uW Rows.pairExactSpec) own started (by kernel_rfl) Tryz.func4
  (witness_row_atRef (enc:=enc) (C:=Tryz.checked) M (World.laidAll xg os Rows.pairExactRow.laid) _ (World.laidAll_os _ _ _) (by kernel_rfl) (by kernel_rfl) (by kernel_rfl)<|OpenSpec.preRow_of_cond 8 hx (by kernel_rfl) (λk hk=>by cases hk) (by kernel_rfl)<|laidMet_laidAll _ (by kernel_rfl)<|by kernel_rfl) ?_
 intro W base args ds gs before hval hW _ _ _ hL hS _
 exact zy2 H enc W base args ds gs before hval hW hL hS
theorem said25:Rows.PairExactSaid:=OpenClaim.holds_of_cond 4 Tryz.f4 rfl rfl rfl rfl rfl rfl rfl ⟨rfl,rfl,rfl,rfl,rfl⟩ rfl rfl rfl rfl rfl (by kernel_rfl) Tryz.func4 closed25 (of_decide_eq_true<|by kernel_rfl) (by unfold Func.isWrapper;first|(rw[if_pos<|by decide+kernel];kernel_rfl)|(rw[if_neg<|by decide+kernel];exact⟨rfl,rfl⟩)) λos started H enc _ F=>by rw[OpenClaim.pre_eq_preRow];exact lifted25 os started H enc F
theorem plain25 (f:FuncId)(fn:Func)(hf:Tryz.pinned.checked.prog.funcNamed Rows.pairExactRow.func=O f)(hfn:Tryz.pinned.checked.prog.funcs[f]?=O fn):U=Tryz.pinned.checked.prog.looks []/\∀(j:Nat)t,fn.params[j]?=O t->Tryz.pinned.checked.prog.wantsStandIn t=false:=by
 obtain rfl:f=4:=vJ ((show xg.funcNamed Rows.pairExactRow.func=O 4 by kernel_rfl).symm.trans hf)|>.symm;obtain rfl:fn=Tryz.f4:=(vJ<|Tryz.func4.symm.trans hfn).symm;refine⟨by kernel_rfl,λj t ht=>?_⟩;rw[Tryz.params4]at ht;have hall:([30,34,22].all λu=>!Tryz.prog.wantsStandIn u)=true:=by kernel_rfl
 have:=yq.1 hall t<|by simpa using Array.mem_of_getElem? ht
 exact show xg.wantsStandIn t=M by simpa using this
theorem pairExact_holds:Rows.PairExactCardSaid:=Claim7.holds_tied_plain_at .later [] _ _ _ _ said25 (λ_ h=>by cases h) (by kernel_rfl) (λ_ h=>by cases h) pairExact_row_tie rfl ⟨rfl,rfl⟩ (by kernel_rfl) rfl plain25<|by kernel_rfl
end
