/- Part of the proof of one law of the seat. -/
import Derived.Test.YtipkniadbkndfaaGreatDoorEm16
set_option linter.all false
set_option maxRecDepth 100000
set_option maxHeartbeats 40000000
namespace Go.Proofs.YtipkniadbkndfaaGreatDoor
open Go Go.RowKit
open Option renaming some->O,none->Y
open Bool renaming true->U,false->M,eq_iff_iff->we,not_eq_false'->vH,and_assoc->vZ
open Decidable renaming decide->Z
open Inhabited renaming default->J
open List renaming range->xn,replicate->xy,drop_length->xS,take_of_length_le->xV,drop_eq_nil_of_le->wb,mem_of_mem_take->ws,range'->wt,take_succ_eq_append_getElem->wx,map_nil->wz,all_nil->wB,take_length->wJ,drop_zero->wN,getD->vy,not_mem_nil->vz,any_eq_false->vM,replicate_succ'->u6
open Classical renaming byContradiction->xG
open Int renaming natCast_zero->wi,mul_le_mul->vP,tdiv_eq_ediv_of_nonneg->vQ
open GMap renaming empty->wn
open List.cons renaming injEq->wy
open List.Pairwise renaming imp_of_mem->wS
open Nat renaming mod_lt->wX,min_eq_left->vh,le_of_lt->th
abbrev yp:=@_root_.Option.isSome_some
abbrev yv:=@_root_.List.take_succ_eq_append_getElem
abbrev yw:=@_root_.Bool.or_true
abbrev yR:=@_root_.Bool.not_eq_true
abbrev yZ:=@_root_.Nat.mul_le_mul
abbrev uc:=@_root_.Bool.or_eq_false_iff
abbrev uf:=@_root_.Bool.not_true
abbrev uh:=@_root_.Bool.false_and
abbrev uq:=@_root_.Nat.pow_le_pow_right
abbrev ur:=@_root_.Bool.not_false
abbrev ux:=@_root_.Int.natCast_mul
abbrev uB:=@_root_.Bool.true_or
abbrev uD:=@_root_.List.length_replicate
abbrev uI:=@_root_.Bool.false_or
abbrev uN:=@_root_.Bool.or_self
abbrev uQ:=@_root_.Bool.and_self
theorem zy {σ R}{body}{len}{st:Nat->σ}{g:Nat->Option R}(hb:∀rec i,i<len->rec (st<|i+1)=g (i+1)->body rec (st i)=g i)(he:∀rec,body rec (st len)=g len):∀n i,i<=len->len-i<n->zuR body n (st i)=g i
 |0,_,_,h=>by omega|n+1,i,a,h=>by
  simp only[zuR];by_cases e:i=len;·simp_all
  ·exact hb _ i (by omega)<|zy hb he n (i+1) (by omega)<|by omega
theorem ze {i:Nat}(h:i<4611686018427387904):zuN (i:Int) 1=((i+1:Nat):Int):=by grind[zuN,z9]
theorem zb {α}{l:List α}{i}(h:i<l.length):idx l (i:Int)=O l[i]:=by unfold idx;simp_all
theorem zB {α:Type}{l:List α}{i}(h:i<l.length):Z ((i:Int)<(l.length:Int))=true:=by simp_all
theorem zat {α:Type}{l:List α}:Z (((l.length:Nat):Int)<(l.length:Int))=false:=by simp
def zA:List Change->Int->Int|[],_=>0|d::l,c=>if d.cell=c then d.add else zA l c
theorem zk {α:Type}{l:List α}{i}(h):l.drop i=l[i]::l.drop (i+1):=List.drop_eq_getElem_cons h
theorem zap {n}{a}(c)(hl:a.effect.delta.length<4611686018427387904)(hn:a.effect.delta.length<n):zT n a c=O (zA a.effect.delta c):=by
 have:=zy (body:=zT.l1 n a c) (len:=a.effect.delta.length) (st:=λi=>i) (g:=λi=>O<|zA (a.effect.delta.drop i) c) (λb i d e=>?_) (λb=>?_) n 0 (ym _)<|by omega
 ·grind[zT]
 ·simp only[zT.l1,zb d,ze (i:=i)<|by omega];rw[zk d];simp only[zA];grind
 ·simp[zT.l1,zA]
def zcT (f:Int->Int):List Term->Int->Int|[],s=>s|t::l,s=>zcT f l<|zuN s<|zuZ t.zuW<|f t.cell
def zye (f:Int->Int)(l:List Term)(i:Nat):Int:=zcT f (l.take i) 0
theorem zhj (f):∀(l m)(s),zcT f (l++m) s=zcT f m (zcT f l s)|[],_,_=>rfl|_::l,m,s=>by exact zhj f l m _
theorem zl9 (f){l i}(h):zye f l (i+1)=zuN (zye f l i) (zuZ l[i].zuW<|f l[i].cell):=by unfold zye;rw[yv h,zhj];rfl
theorem zcE {n}{a r}(h1:a.effect.delta.length<4611686018427387904)(h2:a.effect.delta.length<n)(h3:r.zuQ.length<4611686018427387904)(h4:r.zuQ.length<n):zJ n a r=O (zcT (zA a.effect.delta) r.zuQ 0):=by
 have:=zy (body:=zJ.l1 n a r) (len:=r.zuQ.length) (st:=λi=>(zye (zA a.effect.delta) r.zuQ i,i)) (g:=λ_=>O<|zcT (zA a.effect.delta) r.zuQ 0) (λc i b d=>?_) (λc=>?_) n 0 (ym _)<|by omega
 ·grind[zJ,zye,zcT]
 ·simp only[zJ.l1,zB b,if_true,zb b,ya,zap _ h1 h2,ze (i:=i)<|by omega,<-zl9 _ b,d]
 ·simp[zJ.l1,zye]
def addP (c:Int):List Change->Int->Int|[],s=>s|d::l,s=>addP c l<|if d.cell=c then zuN s d.add else s
theorem zki (c):∀(l m)(s),addP c (l++m) s=addP c m (addP c l s)|[],_,_=>rfl|_::l,m,s=>by exact zki c l m _
theorem zep {n}{e}(c)(hl:e.delta.length<4611686018427387904)(hn:e.delta.length<n):za4 n e c=O (addP c e.delta 0):=by
 have:=zy (body:=za4.l1 n e c) (len:=e.delta.length) (st:=λi=>(addP c (e.delta.take i) 0,i)) (g:=λ_=>O<|addP c e.delta 0) (λa i d b=>?_) (λa=>?_) n 0 (ym _)<|by omega
 ·grind[za4,addP]
 ·rw[yv d,zki]at b;simp only[addP]at b;simp only[za4.l1,zb d,jn,ze (i:=i)<|by omega];grind
 ·simp[za4.l1]
theorem znT {n}{e r}(h1:e.delta.length<4611686018427387904)(h2:e.delta.length<n)(h3:r.zuQ.length<4611686018427387904)(h4:r.zuQ.length<n):zbI n e r=O (zcT (λc=>addP c e.delta 0) r.zuQ 0):=by
 have:=zy (body:=zbI.l1 n e r) (len:=r.zuQ.length) (st:=λi=>(zye (λc=>addP c e.delta 0) r.zuQ i,i)) (g:=λ_=>O<|zcT (λc=>addP c e.delta 0) r.zuQ 0) (λb i a d=>?_) (λb=>?_) n 0 (ym _)<|by omega
 ·grind[zbI,zye,zcT]
 ·rw[zl9 _ a]at d;simp only[zbI.l1,zB a,if_true,zb a,ya,zep _ h1 h2,ze (i:=i)<|by omega,d]
 ·simp[zbI.l1,zye]
theorem zlD (c):∀(l)(s),(∀d∈l,d.cell≠c)->addP c l s=s|[],_,_=>rfl|d::l,s,h=>by simp only[addP];rw[if_neg<|h d<|by simp];exact zlD c l s λx a=>h x<|by grind
theorem zkh (c):∀(l),(l.map (·.cell)).Nodup->(∀d∈l,-9223372036854775808<=d.add/\d.add<=9223372036854775807)->addP c l 0=zA l c
 |[],_,_=>rfl|d::l,a,f=>by
  simp only[yX,List.nodup_cons,y7,not_exists,not_and]at a;simp only[addP,zA];split<;>rename_i h;·rw[zlD c l _ λx b e=>a.1 x b<|e.trans h.symm];unfold zuN;grind[z9]
  ·exact zkh c l a.2 λx b=>f x<|by grind
section
variable{κ:Type}[DecidableEq κ]
structure zxb (m:GMap κ Bool)(l:List κ):Prop where
 tru:∀e∈m.es,e.2.2=U
 mem:∀k,k∈m.es.map (λe=>e.2.1)↔k∈l
theorem zkv (k):∀(es:List<|Nat×κ×Bool),(∀e∈es,e.2.2=U)->((zvS k es).map (·.2)).getD M=Z (k∈es.map λe=>e.2.1)
 |[],_=>by simp[zvS]|e::es,h=>by
  simp only[zvS,yX,yF];by_cases a:k=e.2.1;·simp_all
  ·have:=zkv k es λx b=>h x<|by grind
   simp only[a,false_or,<-this];cases zvS k es<;>rfl
theorem zo8 (k):∀(es:List<|Nat×κ×Bool),zvS k es=Y->k∉es.map λe=>e.2.1
 |[],_=>by simp|e::es,h=>by
  simp only[zvS]at h;split at h;·cases h
  ·rename_i a;simp only[Option.map_eq_none_iff]at h;simp only[yX,yF,not_or];exact⟨a,zo8 k es h⟩
theorem zkw (k):∀(es:List<|Nat×κ×Bool)(p),zvS k es=O p->k∈es.map λe=>e.2.1
 |[],_,h=>by grind[zvS]|e::es,p,h=>by
  simp only[zvS]at h;split at h;·simp_all
  ·simp only[Option.map_eq_some_iff]at h;obtain⟨q,a,_⟩:=h;exact yV _<|zkw k es q a
theorem zxb.get {m}{l}(h:zxb m l)(k:κ):(m.get? k).getD M=Z (k∈l):=by unfold GMap.get?;rw[zkv k m.es h.tru];exact decide_eq_decide.2<|h.mem k
theorem zxb.empty:zxb (wn:GMap κ Bool) []:=⟨λe a=>by grind[wn],λk=>by simp[wn]⟩
theorem zhK (f)(hf:∀e,(f e).2.1=e.2.1):∀(es:List<|Nat×κ×Bool)(i),(es.modify i f).map (λe=>e.2.1)=es.map λe=>e.2.1|[],_=>by simp|e::es,0=>by grind|e::es,i+1=>by simp[zhK f hf es i]
theorem zjb {p:Nat×κ×Bool->Prop}(f)(hf:∀e,p<|f e):∀(es:List<|Nat×κ×Bool)(i),(∀e∈es,p e)->∀e∈es.modify i f,p e
 |[],_,_=>by simp|e::es,0,h=>by grind|e::es,i+1,h=>by
  intro x a;simp only[List.modify_succ_cons,yF]at a;rcases a with rfl|a;·simp_all
  ·exact zjb f hf es i (λy b=>h y<|by grind) x a
theorem zxb.put {m}{l}(h:zxb m l)(k:κ):zxb (m.put k U)<|l++[k]:=by unfold GMap.put;cases d:zvS k m.es with
 |none=>
  refine⟨λe a=>?_,λx=>?_⟩
  ·simp only[yu,yK]at a;rcases a with a|rfl;·exact h.tru e a
   ·rfl
  ·simp only[un,yX,wz,yu,h.mem x]|some p=>obtain⟨i,b⟩:=p;have c:=(h.mem k).1<|zkw k m.es _ d;refine⟨zjb (p:=λe=>e.2.2=U) _ (λe=>rfl) m.es i h.tru,λx=>?_⟩;rw[zhK (λe=>(e.1,e.2.1,U)) (λe=>rfl) m.es i,h.mem x];simp_all
end
def ixP {α:Type}(p:α->Bool):List α->Nat->Int|[],_=>-1|x::l,i=>if p x=U then(i:Int)else ixP p l<|i+1
theorem zq6 {α}(p):∀(l:List α)(i),0<=ixP p l i↔l.any p=U
 |[],_=>by simp[ixP]|x::l,i=>by
  have a:=zq6 p l<|i+1;rw[ixP,List.any_cons];grind
theorem zgB {α}(p)(l:List α)(i):Z (0<=ixP p l i)=l.any p:=by
 have:=zq6 p l i;grind
theorem zfD {n l f p}(hf:∀x∈l,f x=O (p x))(hl:l.length<4611686018427387904)(hn:l.length<n):zR n l f=O (ixP p l 0):=by
 have:=zy (body:=zR.l1 n l f) (len:=l.length) (st:=λi=>i) (g:=λi=>O<|ixP p (l.drop i) i) (λa i b c=>?_) (λa=>?_) n 0 (ym _)<|by omega
 ·grind[zR]
 ·simp only[zR.l1,zb b,ze (i:=i)<|by omega];grind[zk,ixP]
 ·simp[zR.l1,ixP]
theorem zbt {n}{l}{f}{p}(hf:∀x∈l,f x=O (p x))(hl:l.length<4611686018427387904)(hn:l.length<n):zu n l f=O (l.any p):=by unfold zu;rw[zfD hf hl hn,ya,zgB]
def zcO (x:Int):Bool:=Z (1<=x)&&Z (x<=6)
def zvJ (sizes:List Int)(c:Int):Bool:=Z (0<=c)&&Z (c<(sizes.length:Int))
theorem zoo {α:Type}(p)(l:List α):(!l.any λx=>!p x)=l.all p:=by grind
theorem zlg {n}{l}(hl:l.length<4611686018427387904)(hn:l.length<n):zf0 n l=O (l.all zcO):=by unfold zf0;rw[zbt (p:=λx=>!zcO x) (λx _=>by simp[zf1,zee,zcO]) hl hn,ya,zoo]
theorem ziS {n}{sizes cols}(hl:cols.length<4611686018427387904)(hn:cols.length<n):zd8 n sizes cols=O (Z (cols.length<=3)&&cols.all (zvJ sizes)):=by
 unfold zd8;rw[zbt (p:=λx=>!zvJ sizes x) (λx _=>by
  simp only[zdm,zvJ,yo];grind) hl hn];simp only[yp,yw,grd,if_true,yo];grind
theorem zhs {n l}(hl:l.length<4611686018427387904)(hn:l.length<n):zbP n l=O (l.all zcO):=by
 have:=zy (body:=zbP.l1 n l) (len:=l.length) (st:=λi=>i) (g:=λi=>O<|(l.drop i).all zcO) (λa i b c=>?_) (λa=>?_) n 0 (ym _)<|by omega
 ·grind[zbP]
 ·simp only[zbP.l1,zb b,grd,ze (i:=i)<|by omega];rw[zk b];simp only[uk,zcO];grind
 ·simp[zbP.l1]
def zau (sizes:List Int):List Int->Int->Int|[],s=>s|c::l,s=>zau sizes l<|zuZ s<|sizes.getD c.toNat 0
theorem zdX (sizes):∀(l m)(s),zau sizes (l++m) s=zau sizes m (zau sizes l s)|[],_,_=>rfl|_::l,m,s=>by exact zdX sizes l m _
theorem zf6 {sizes c}(h:zvJ sizes c=U):idx sizes c=O (sizes.getD c.toNat 0):=by
 simp only[zvJ]at h;grind[zb]
theorem zfu {n sizes cols}(hc:cols.all (zvJ sizes)=U)(hl:cols.length<4611686018427387904)(hn:cols.length<n):zbm n sizes cols=O (zau sizes cols 1):=by
 have:=zy (body:=zbm.l1 n sizes cols) (len:=cols.length) (st:=λi=>(zau sizes (cols.take i) 1,i)) (g:=λ_=>O<|zau sizes cols 1) (λc i a b=>?_) (λc=>?_) n 0 (ym _)<|by omega
 ·grind[zbm,zau]
 ·rw[yv a,zdX]at b;simp only[zau]at b;simp only[zbm.l1,zB a,if_true,zb a,ya,zf6<|yq.1 hc _<|yg a,ze (i:=i)<|by omega,b]
 ·simp[zbm.l1]
theorem zoJ {n sizes cols}(hl:cols.length<4611686018427387904)(hn:cols.length<n):zuR (zav.l1 n sizes cols) n (1,0)=O (if cols.all (zvJ sizes)=U then zau sizes cols 1 else 0):=by
 by_cases h:cols.all (zvJ sizes)=U
 ·have:=zy (body:=zav.l1 n sizes cols) (len:=cols.length) (st:=λi=>(zau sizes (cols.take i) 1,i)) (g:=λ_=>O<|zau sizes cols 1) (λe i b d=>?_) (λe=>?_) n 0 (ym _)<|by omega
  ·grind[zau]
  ·rw[yv b,zdX]at d;simp only[zau]at d;have a:=yq.1 h _<|yg b;have f:=zf6 a;simp only[zvJ]at a;have c:(Z (cols[i]<0)||Z (sizes.length<=cols[i]))=false:=by simp_all
   simp only[zav.l1,zB b,if_true,zb b,ya,yp,yw,grd,yj,c,ye,if_false,f,ze (i:=i)<|by omega,d]
  ·simp[zav.l1]
 ·have:=zy (body:=zav.l1 n sizes cols) (len:=cols.length) (st:=λi=>(zau sizes (cols.take i) 1,i)) (g:=λi=>O<|if(cols.drop i).all (zvJ sizes)=U then zau sizes cols 1 else 0) (λe i b d=>?_) (λe=>?_) n 0 (ym _)<|by omega
  ·grind[zau]
  ·rw[yv b,zdX]at d;simp only[zau]at d;rw[zk b,uk];by_cases a:zvJ sizes cols[i]=U
   ·have f:=zf6 a;rw[a,yA];simp only[zvJ]at a;have c:(Z (cols[i]<0)||Z (sizes.length<=cols[i]))=false:=by simp_all
    simp only[zav.l1,zB b,if_true,zb b,ya,yp,yw,grd,yj,c,ye,if_false,f,ze (i:=i)<|by omega,d]
   ·have c:(Z (cols[i]<0)||Z (sizes.length<=cols[i]))=true:=by
     simp only[zvJ]at a;grind
    simp only[yR]at a;rw[a,uh,if_neg<|by simp];simp only[zav.l1,zB b,if_true,zb b,ya,yp,yw,grd,yj,c]
  ·simp[zav.l1]
theorem ze4 {n sizes cols}(hl:cols.length<4611686018427387904)(hn:cols.length<n)(hs:sizes.length<4611686018427387904)(hsn:sizes.length<n):zav n sizes cols=O (if(Z (cols.length<=3)&&sizes.all zcO&&cols.all (zvJ sizes))=U then zau sizes cols 1 else 0):=by
 unfold zav;rw[zhs hs hsn,zoJ hl hn];simp only[grd];grind
theorem zcV {S R}{body}(μ:S->Nat)(I:S->Prop)(Q:S->Option R->Prop)(hb:∀rec s,I s->(∀s',I s'->μ s'<μ s->Q s' (rec s'))->Q s (body rec s)):∀n s,I s->μ s<n->Q s (zuR body n s)|0,_,_,h=>by omega|n+1,s,c,h=>hb _ s c λs' a b=>zcV μ I Q hb n s' a<|by omega
theorem zbf {σ S R:Type}{body}{len}{st:σ->Nat->S}{g:Nat->σ->Option R}(I:Nat->σ->Prop)(hb:∀rec i s,i<len->I i s->(∀s',I (i+1) s'->rec (st s'<|i+1)=g (i+1) s')->body rec (st s i)=g i s)(he:∀rec s,I len s->body rec (st s len)=g len s):∀n i s,i<=len->len-i<n->I i s->zuR body n (st s i)=g i s
 |0,_,_,_,h,_=>by omega|n+1,i,s,c,h,b=>by
  simp only[zuR];by_cases e:i=len;·grind
  ·exact hb _ i s (by omega) b λs' a=>zbf I hb he n (i+1) s' (by omega) (by omega) a
theorem zev {S R}{body:(S->Option R)->S->Option R}{n}(h:0<n)(s):zuR body n s=body (zuR body<|n-1) s:=by
 obtain⟨m,rfl⟩:∃m,n=m+1:=⟨n-1,by omega⟩;rfl
theorem zcL {a b:Nat}(h:a+b<9223372036854775808):zuN (a:Int) (b:Int)=((a+b:Nat):Int):=by grind[zuN,z9]
theorem zdp {l:List UInt8}{i}(h:i<l.length):sidx l (i:Int)=O ((l[i].toNat:Nat):Int):=by unfold sidx;grind
theorem zgv {α}{l:List α}{a b}(h1:a<=b)(h2:b<=l.length):cut l (a:Int) (b:Int)=O ((l.drop a).take<|b-a):=by unfold cut;grind
theorem ziX {α}{l:List α}{a}(h1:a<=l.length):cut l (a:Int) (l.length:Int)=O (l.drop a):=by rw[zgv h1<|yk _,xV<|by simp]
theorem ztj {α}{l:List α}:cut l 0 (l.length:Int)=O l:=by have:=ziX (l:=l) (a:=0) (by omega);grind
theorem zjE {i k:Nat}(h:i<k):Z ((i:Int)<(k:Int))=true:=by grind
theorem zhl {i k:Nat}(h:k<=i):Z ((i:Int)<(k:Int))=false:=by grind
def runP (p:Int->Bool):List UInt8->Nat|[]=>0|b::l=>if p (b.toNat:Nat)=U then runP p l+1 else 0
theorem zk3 (p):∀l,runP p l<=l.length
 |[]=>yk _|b::l=>by
  simp only[runP];split;·exact Nat.succ_le_succ<|zk3 p l
  ·omega
theorem zgD {n}{l}{f p}(hf:∀q,f q=O (p q))(hl:l.length<4611686018427387904)(hn:l.length<n):zc4 n l f=O ((runP p l:Nat):Int):=by
 have:=zy (body:=zc4.l1 n l f) (len:=l.length) (st:=λi=>i) (g:=λi=>O<|i+runP p (l.drop i)) (λa i b c=>?_) (λa=>?_) n 0 (ym _)<|by omega
 ·grind[zc4]
 ·simp only[zc4.l1,zdp b,grd,ze (i:=i)<|by omega];grind[zk,runP]
 ·simp[zc4.l1,runP,grd]
def zb6 (q:Int):Bool:=Z (97<=q)&&Z (q<=122)
def zjx (q:Int):Bool:=Z (48<=q)&&Z (q<=57)
def zwl (q:Int):Bool:=zb6 q||zjx q||q==95
theorem zkG {n q}:zc3 n q=O (zb6 q):=rfl
theorem zlh {n q}:zb0 n q=O (zjx q):=rfl
theorem zgf {n q}:zbh n q=O (zb6 q):=rfl
theorem zfn {n q}:zb2 n q=O (zjx q):=rfl
def zdD (q:Int):Bool:=!(q==9||q==10||q==13||q==32||q==35)
theorem zej {q}(h:zb6 q=U):zdD q=true:=by
 simp only[zb6]at h;grind[zdD,Bool.or_eq_false_iff]
theorem zmM {n}{l}(hl:l.length<1000000)(hn:1000000<=n):∃k:Nat,zdc n l=O (k:Int)/\k<=l.length/\(∀h,zdD (l[0].toNat:Nat)=U->k=0)/\∀h,zdD (l[0].toNat:Nat)=M->0<k:=by
 have:=zcV (body:=zdc.l1 n l) (λs:Int=>l.length-s.toNat) (λs=>∃i:Nat,s=i/\i<=l.length) (λs o=>∃k:Nat,o=O (k:Int)/\k<=l.length/\s.toNat<=k/\∀h:s.toNat<l.length,(zdD (l[s.toNat].toNat:Nat)=U->k=s.toNat)/\(zdD (l[s.toNat].toNat:Nat)=M->s.toNat<k)) (λrec s hI hr=>by
   obtain⟨i,rfl,hi⟩:=hI;by_cases hlt:i<l.length
   ·simp only[zdc.l1,zB hlt,if_true,zdp hlt,ya,zcl,yr];by_cases hw:(((l[i].toNat:Nat):Int)==32||((l[i].toNat:Nat):Int)==9||((l[i].toNat:Nat):Int)==10||((l[i].toNat:Nat):Int)==13)=U
    ·rw[if_pos hw,ze (i:=i)<|by omega];obtain⟨k,e,k1,k2,-⟩:=hr ((i+1:Nat):Int) ⟨i+1,rfl,by omega⟩ (by grind);simp only[yr]at k2;refine⟨k,e,k1,by omega,λh=>⟨λhb=>?_,λhb=>by omega⟩⟩;exfalso;simp only[yG,beq_iff_eq]at hw;grind[zdD,Bool.not_eq_true',Bool.or_eq_false_iff,beq_eq_false_iff_ne]
    ·rw[if_neg hw];by_cases hh:((l[i].toNat:Nat):Int)=35
     ·rw[if_pos<|by simp[hh],ziX hi,ya,zgD (f:=λq=>zgE n q) (p:=λq=>q !=10) (λq=>rfl) (by rw[ub];omega)<|by rw[ub];omega,ya];have hrun:1<=runP (λq=>q !=10) (l.drop i):=by rw[zk hlt,runP,hh];simp
      have hle:=zk3 (λq=>q !=10)<|l.drop i;simp only[ub]at hle;rw[zcL<|by omega];obtain⟨k,e,k1,k2,-⟩:=hr ((i+runP (λq=>q !=10) (l.drop i):Nat):Int) ⟨_,rfl,by omega⟩ (by simp only[yr];omega);simp only[yr]at k2;refine⟨k,e,k1,by omega,λh=>⟨λhb=>?_,λhb=>by omega⟩⟩;rw[hh]at hb;exact absurd hb<|by decide
     ·rw[if_neg<|by simpa using hh];refine⟨i,rfl,hi,yk _,λh=>⟨λ_=>rfl,λhb=>?_⟩⟩;exfalso;simp only[yG,beq_iff_eq,not_or]at hw;simp only[zdD,vH,yG,beq_iff_eq]at hb;omega
   ·have:i=l.length:=by omega
    subst this;refine⟨l.length,by simp[zdc.l1],yk _,by simp,λh=>by simp at h⟩) n 0 ⟨0,rfl,by omega⟩<|by simp;omega
 grind[zdc]
theorem zgF {n}{l}(hn:1000000<=n):∃k:Int,zbv n l=O k:=by
 have:=zcV (body:=zbv.l1 n l) (λs:Int=>5-s.toNat) (λs=>∃i:Nat,s=i/\i<=5) (λ_ o=>∃k:Int,o=O k) (λrec s hI hr=>by
  obtain⟨i,rfl,hi⟩:=hI;simp only[zbv.l1];generalize hL:([[61,61],[33,61],[60,61],[62,61],[46,46]]:List<|List UInt8)=L;have hLl:L.length=5:=by grind
  by_cases hlt:i<L.length
  ·have hp:∃b,zdf n l L[i]=O b:=by
    simp only[zdf,zbG];by_cases h:L[i].length<=l.length
    ·have:cut l 0 (L[i].length:Int)=O ((l.drop 0).take<|L[i].length-0):=zgv (a:=0) (by omega)<|by omega
     simp[this,grd]
    ·simp[h,grd]
   obtain⟨b,hp⟩:=hp;have hd:Z ((i:Int)<(([[61,61],[33,61],[60,61],[62,61],[46,46]]:List<|List Nat).length:Int))=true:=by grind
   simp only[hd,if_true,zb hlt,ya,hp,ze (i:=i)<|by omega];split;·grind
   ·exact hr _ ⟨i+1,rfl,by omega⟩<|by grind
  ·have hd:Z ((i:Int)<(([[61,61],[33,61],[60,61],[62,61],[46,46]]:List<|List Nat).length:Int))=false:=by simp;omega
   rw[hd,if_neg<|by simp];cases l with
   |nil=>simp[grd]|cons b l=>
    have h0:sidx (b::l) 0=O ((b.toNat:Nat):Int):=zdp (l:=b::l) (i:=0)<|by simp
    simp only[h0,zcy,za6,ya,yp,yw,grd,if_true,yj];grind) n 0 ⟨0,rfl,by omega⟩<|by grind
 grind[zbv]
theorem zkF {n}{l}(hn:1000000<=n)(h:0<l.length):∃b,zdx n l=O b:=by obtain⟨k,c⟩:=zgF (n:=n) (l:=l) hn;have a:sidx l 0=O l[0].toNat:=zdp (i:=0) h;simp[zdx,a,zc3,zb0,c,grd]
theorem zli {n}{l}{k}(hl:l.length<1000000)(hn:1000000<=n)(h1:0<l.length):∃e,zuR (zaE.l2 n l k) n 1=k (5,e):=by
 refine zcV (body:=zaE.l2 n l k) (λs=>l.length-s.toNat) (λs=>∃i:Nat,s=i/\i<=l.length) (λ_ o=>∃e,o=k (5,e)) (λh s d f=>?_) n 1 ⟨1,rfl,h1⟩ (by grind);obtain⟨i,rfl,g⟩:=d;by_cases a:i<l.length
 ·obtain⟨b,c⟩:=zkF (n:=n) (l:=l.drop i) hn (by grind);simp only[zaE.l2,zdp a,zcl,ziX g,c,yp,yw,grd,if_true,yj,ze (i:=i)<|by omega];split;·exact f _ ⟨i+1,rfl,by omega⟩<|by omega
  grind
 ·have:i=l.length:=by omega
  subst this;exact⟨l.length,by simp[zaE.l2,grd]⟩
def zyt (w:List UInt8):Bool:=(match w with|[]=>M|b::_=>zb6 (b.toNat:Nat))&&Z (runP zwl w=w.length)
theorem zjm (w)(h):zyt w=(zb6 (w[0].toNat:Nat)&&Z (runP zwl w=w.length)):=by cases w with|nil=>simp at h|cons b l=>rfl
theorem zoG {n}{w}{kw}(hl:w.length<1000000)(hn:1000000<=n)(h0:0<w.length):∃t,zaE n w kw=O t/\(t.at_=0/\t.end_=(w.length:Int)/\t.kind=1↔zyt w=U/\(kw.get? w).getD M=M):=by
 obtain⟨k,e,k1,k2,k3⟩:=zmM (n:=n) (l:=w) hl hn;unfold zaE;rw[zev<|by omega];have hz:zuN 0 (k:Int)=(k:Int):=by have:=zcL (a:=0) (b:=k) (by omega);grind
 simp only[zaE.l1,ztj,ya,e,hz,ziX k1,jn];by_cases hk:k=w.length
 ·subst hk;rw[if_pos<|by simp];refine⟨_,rfl,?_⟩;simp only[];constructor;·grind
  ·rintro⟨h,-⟩;exfalso;rw[zjm w h0,yc]at h;grind[zej]
 ·have hd:0<(w.drop k).length:=by grind
  rw[if_neg<|by grind];have hs:sidx (w.drop k) 0=O (((w.drop k)[0].toNat:Nat):Int):=zdp (i:=0) hd;simp only[hs,ya,zkG];rw[zjm w h0];by_cases hlet:zb6 (((w.drop k)[0].toNat:Nat):Int)=U
  ·rw[if_pos hlet,zgD (p:=zwl) (λq=>by simp[zi9,zc3,zb0,grd,zwl,zb6,zjx]) (by simp;omega)<|by simp;omega];have hle:=zk3 zwl<|w.drop k;have hc:=zgv (l:=w.drop k) (a:=0) (b:=runP zwl<|w.drop k) (by omega) hle;simp only[ya,wi]at hc|-;rw[hc];simp only[ub]at hle;have ha:zuN (k:Int) (runP zwl<|w.drop k:Nat)=((k+runP zwl (w.drop k):Nat):Int):=zcL<|by omega
   simp only[ya,ha,wN,Nat.sub_zero];by_cases hk0:k=0
   ·subst hk0;simp only[wN]at hlet|-;by_cases hrun:runP zwl w=w.length
    ·rw[hrun,xV<|yk _];by_cases hkw:(kw.get? w).getD M=U;·rw[if_pos hkw];refine⟨_,rfl,?_⟩;simp[hkw]
     ·rw[if_neg hkw];refine⟨_,rfl,?_⟩;simp only[yR]at hkw;simp[hkw,hlet]
    ·split;all_goals
      refine⟨_,rfl,?_⟩;simp[hrun];try omega
   ·have hbl:zdD (w[0].toNat:Nat)=false:=by cases hb:zdD (w[0].toNat:Nat)with|false=>rfl|true=>exact absurd (k2 h0 hb) hk0
    have hnl:zb6 (w[0].toNat:Nat)=false:=by cases hb:zb6 (w[0].toNat:Nat)with|false=>rfl|true=>rw[zej hb]at hbl;cases hbl
    split;all_goals refine⟨_,rfl,?_⟩;simp[hnl,hk0]
  ·rw[if_neg hlet];have hno:k=0->zb6 (w[0].toNat:Nat)=false:=by intro hk0;subst hk0;simp only[wN,yR]at hlet;exact hlet
   have hno':zb6 (w[0].toNat:Nat)=false:=by
    by_cases hk0:k=0;·exact hno hk0
    ·cases hb:zb6 (w[0].toNat:Nat)with|false=>rfl|true=>exact absurd (k2 h0<|zej hb) hk0
   simp only[zlh,ya,hno',uh,ye,false_and,iff_false];split;·rw[zgD (p:=zjx) (λq=>rfl) (by simp;omega)<|by simp;omega];exact⟨_,rfl,by simp⟩
   ·obtain⟨v,hv⟩:=zgF (n:=n) (l:=w.drop k) hn;simp only[hv,ya];split;·exact⟨_,rfl,by simp⟩
    ·obtain⟨e,he⟩:=zli (n:=n) (l:=w.drop k) (k:=λv=>O (⟨v.1,0,(k:Int),zuN (k:Int) v.2⟩:Token)) (by simp;omega) hn hd;rw[he];exact⟨_,rfl,by simp⟩
def kwL:List<|List UInt8:=[[115,111,114,116],[114,101,108,97,116,105,111,110],[99,111,117,110,116,101,114],[115,101,116],[114,101,103,105,115,116,101,114],[105,110,118,97,114,105,97,110,116],[111,112,101,114,97,116,105,111,110],[107,101,121],[114,101,102,101,114,101,110,99,101],[116,111],[99,111,117,110,116],[97,99,121,99,108,105,99],[97,108,108],[115,117,109],[105,110],[97,100,100,119,105,110,115],[114,101,109,111,118,101,119,105,110,115],[108,97,115,116],[109,117,108,116,105],[104,105,100,101],[111,114,100,101,114,101,100],[114,101,113,117,105,114,101],[104,111,108,100],[105,110,115,101,114,116],[100,101,108,101,116,101],[97,100,100],[102,114,111,109],[112,117,116],[100,114,111,112],[97,115,115,105,103,110],[102,111,114],[119,104,101,114,101],[97,110,100],[111,114],[110,111,116]]
structure Fuel (n:Nat):Prop where
 big:4294967296<=n
 kw:∃m,zbU n=O m/\zxb m kwL
def zxz (w:List UInt8):Bool:=Z (w.length<=16)&&(zyt w&&!decide (w∈kwL))
theorem zil {n}{w}(hF:Fuel n):zfM n w=O (zxz w):=by
 have p:=hF.big;unfold zfM zxz;by_cases d:w.length<=16
 ·have k:Z (w.length<=16)=true:=by grind
  unfold zeN;obtain⟨m,f,g⟩:=hF.kw;cases i:w with
  |nil=>simp[grd,zyt]|cons b l=>
   rw[<-i];have e:0<w.length:=by grind
   rw[if_neg<|by grind,f,ya];obtain⟨t,h,a⟩:=zoG (n:=n) (w:=w) (kw:=m) (by omega) (by omega) e;rw[g.get]at a;simp only[h,ya];by_cases o:t.at_=0/\t.end_=w.length/\t.kind=1;·grind[grd]
   ·have j:(zyt w&&!decide (w∈kwL))=false:=by grind
    rw[j];split;·simp[grd]
    ·rename_i c;grind[grd]
 ·grind[grd]
theorem zoM {n}{t}{rec x}(hx:x<=t.length)(hl:t.length<1000000)(hn:1000000<=n):∃y:Nat,x<=y/\y<=t.length/\zuR (zbu.l2 n t rec) n x=rec (y:Int)/\∀h,(t[x].toNat:Nat)=35->x<y:=by
 have:=zcV (body:=zbu.l2 n t rec) (λs:Int=>t.length-s.toNat) (λs=>∃i:Nat,s=i/\i<=t.length) (λs o=>∃y:Nat,s.toNat<=y/\y<=t.length/\o=rec (y:Int)/\∀h:s.toNat<t.length,(t[s.toNat].toNat:Nat)=35->s.toNat<y) (λr s hI hr=>by
  obtain⟨i,rfl,hi⟩:=hI;by_cases hlt:i<t.length
  ·simp only[zbu.l2,zB hlt,zdp hlt,yp,grd,if_true,yj,yA,ze (i:=i)<|by omega,yr];by_cases h10:(((t[i].toNat:Nat):Int)!=10)=U
   ·obtain⟨y,y1,y2,y3,-⟩:=hr ((i+1:Nat):Int) ⟨_,rfl,by omega⟩<|by omega
    grind
   grind
  ·have:i=t.length:=by omega
   subst this;exact⟨t.length,by simp,yk _,by simp[zbu.l2,grd],λh=>by simp at h⟩) n x ⟨x,rfl,hx⟩<|by omega
 grind
theorem zhU {n}{t:List UInt8}{a}(ha:a<=t.length)(hl:t.length<1000000)(hn:1000000<=n):∃k:Nat,zbu n t a=O (k:Int)/\a<=k/\k<=t.length/\(∀h,zdD (t[k].toNat:Nat)=U)/\∀h,zdD (t[a].toNat:Nat)=U->k=a:=by
 have:=zcV (body:=zbu.l1 n t) (λs:Int=>t.length-s.toNat) (λs=>∃i:Nat,s=i/\i<=t.length) (λs o=>∃k:Nat,o=O (k:Int)/\s.toNat<=k/\k<=t.length/\(∀h:k<t.length,zdD (t[k].toNat:Nat)=U)/\∀h:s.toNat<t.length,zdD (t[s.toNat].toNat:Nat)=U->k=s.toNat) (λr s hI hr=>by
  obtain⟨i,rfl,hi⟩:=hI;by_cases hlt:i<t.length
  ·simp only[zbu.l1,zB hlt,zdp hlt,zbo,yp,yw,grd,if_true,yj,yA,ya,ze (i:=i)<|by omega,yr];by_cases hb:zdD (t[i].toNat:Nat)=U
   ·rw[if_neg<|by simp only[zdD,yz,uc,uo]at hb;simp_all];grind
   ·rw[if_pos<|by simp only[zdD,yz,uc,uo]at hb;simp only[yG,beq_iff_eq];omega];by_cases hh:(t[i].toNat:Nat)=35;·rw[if_pos<|by simp[hh]];obtain⟨y,y1,y2,y3,y4⟩:=zoM (n:=n) (rec:=r) hi hl hn;have y5:=y4 hlt hh;rw[y3];obtain⟨k,e,k1,k2,k3,-⟩:=hr (y:Int) ⟨y,rfl,y2⟩ (by simp only[yr];omega);simp only[yr]at k1;exact⟨k,e,by omega,k2,k3,λ_ h=>absurd h hb⟩
    ·rw[if_neg<|by simp;omega];obtain⟨k,e,k1,k2,k3,-⟩:=hr ((i+1:Nat):Int) ⟨_,rfl,by omega⟩ (by simp only[yr];omega);simp only[yr]at k1;exact⟨k,e,by omega,k2,k3,λ_ h=>absurd h hb⟩
  ·have:i=t.length:=by omega
   subst this;exact⟨t.length,by simp[zbu.l1,grd],by simp,yk _,λh=>absurd h<|by omega,λh=>by simp at h⟩) n a ⟨a,rfl,ha⟩<|by simp;omega
 grind[zbu]
theorem ziA {n}{t:List UInt8}{a}(ha:a<=t.length)(hl:t.length<1000000)(hn:1000000<=n):∃v:Nat,zbH n t a=O (v:Int)/\a+v<=t.length:=by
 unfold zbH;simp only[zgd,ya];generalize hL:([[61,61],[33,61],[60,61],[62,61],[46,46],[60],[62],[61],[43],[45],[42],[40],[41],[123],[125],[44],[58],[59]]:List<|List UInt8)=L;have hLl:L.length=18:=by rw[<-hL];rfl
 have hL2:∀x∈L,x.length<=2:=by rw[<-hL];decide
 refine zcV (body:=zbH.l1 n t a L) (λs:Int=>18-s.toNat) (λs=>∃i:Nat,s=i/\i<=18) (λs o=>∃v:Nat,o=O (v:Int)/\a+v<=t.length) (λr s hI hr=>?_) n 0 ⟨0,rfl,by omega⟩ (by grind);obtain⟨i,rfl,hi⟩:=hI;by_cases hlt:i<L.length
 ·have h2:=hL2 _<|yg hlt;simp only[zbH.l1,zB hlt,if_true,zb hlt,ya,yp,yj,yw,ze (i:=i)<|by omega,zcL<|show a+L[i].length<9223372036854775808 by omega];by_cases hle:a+L[i].length<=t.length
  ·simp only[zgv (l:=t) (a:=a) (b:=a+L[i].length) (by omega) hle,yp,yw,grd,if_true];split;·grind
   ·exact hr _ ⟨i+1,rfl,by omega⟩<|by grind
  ·have hd:Z (((a+L[i].length:Nat):Int)<=(t.length:Int))=false:=by simp;omega
   simp only[hd,ur,uB,grd,if_true,uh,ye,if_false];exact hr _ ⟨i+1,rfl,by omega⟩<|by simp only[yr];omega
 grind[zbH.l1]
theorem zjf {n}{L}{w}(hl:L.length<1000000)(hn:1000000<=n):zc7 n L w=O (Z<|w∈L):=by
 have:=zy (body:=zc7.l1 n L w) (len:=L.length) (st:=λi=>i) (g:=λi=>O<|Z<|w∈L.drop i) (λa i b c=>?_) (λa=>?_) n 0 (ym _)<|by omega
 ·grind[zc7]
 ·simp only[zc7.l1,zb b,ze (i:=i)<|by omega];rw[zk b];grind
 ·simp[zc7.l1]
theorem zgR {n}:zfw n=O kwL:=rfl
theorem zjK {n}{t:List UInt8}{a}(ha:a<t.length)(hb:zdD (t[a].toNat:Nat)=U)(hl:t.length<1000000)(hn:1000000<=n):∃(k:Int)(e:Nat),zaB n t a=O (k,(e:Int))/\a<e/\e<=t.length/\(zb6 (t[a].toNat:Nat)=U->e=a+runP zwl (t.drop a))/\(k=1↔zb6 (t[a].toNat:Nat)=U/\(t.drop a).take (e-a)∉kwL):=by
 unfold zaB;simp only[zdp ha,ya,zgf,zfn];by_cases hlet:zb6 ((t[a].toNat:Nat):Int)=U
 ·rw[if_pos hlet];have hlp:zb6 (t[a].toNat:Nat)=true:=hlet;have hrun1:1<=runP zwl (t.drop a):=by rw[zk ha,runP,if_pos<|by grind[zwl]];omega
  have hle:=zk3 zwl<|t.drop a;simp only[ub]at hle;have:=zbf (body:=zaB.l1 n t a) (len:=t.length) (st:=λ(_:Unit)i=>(i:Int)) (g:=λi _=>O<|if Z ((t.drop a).take (i+runP zwl (t.drop i)-a)∈kwL)=U then(2,((i+runP zwl (t.drop i):Nat):Int))else(1,((i+runP zwl (t.drop i):Nat):Int))) (λi _=>a<=i) (λrec i _ hi hai hr=>?_) (λrec _ hai=>?_) n a () (by omega) (by omega)<|yk _
  ·rw[this];refine⟨if Z ((t.drop a).take (a+runP zwl (t.drop a)-a)∈kwL)=U then 2 else 1,a+runP zwl (t.drop a),?_,by omega,by omega,λ_=>rfl,?_⟩;·grind
   grind
  ·have hr:=hr () (by omega);have hle':=zk3 zwl<|t.drop i;simp only[ub]at hle';simp only[zaB.l1,zB hi,zdp hi,zgf,zfn,yp,yw,grd,if_true,yj,yA,ze (i:=i)<|by omega,hr];rw[zk hi,runP];have hpe:(zb6 ((t[i].toNat:Nat):Int)||zjx ((t[i].toNat:Nat):Int)||((t[i].toNat:Nat):Int)==95)=zwl ((t[i].toNat:Nat):Int):=rfl;rw[hpe];by_cases hp:zwl (t[i].toNat:Nat)=U;·rw[if_pos hp,if_pos hp,show i+(runP zwl (t.drop<|i+1)+1)=i+1+runP zwl (t.drop<|i+1)by omega]
   ·rw[if_neg hp,if_neg hp];simp only[uv,zgR,ya,zgv hai<|th hi];rw[zjf (by decide) hn,ya];cases Z<|(t.drop a).take (i-a)∈kwL<;>rfl
  ·simp only[zaB.l1,zat,ur,uB,grd,if_true,uh,ye,if_false,zgR,ya,zgv hai<|yk _];rw[zjf (by decide) hn,ya];simp only[xS,runP,uv];cases Z<|(t.drop a).take (t.length-a)∈kwL<;>rfl
 ·rw[if_neg hlet];have hlp:zb6 (t[a].toNat:Nat)=false:=by simpa using hlet
  simp only[hlp,ye,false_implies,false_and,iff_false,true_and];by_cases hdig:zjx ((t[a].toNat:Nat):Int)=U
  ·rw[if_pos hdig];have:=zcV (body:=zaB.l2 n t) (λs:Int=>t.length-s.toNat) (λs=>∃i:Nat,s=i/\i<=t.length) (λs o=>∃e:Nat,o=O (3,(e:Int))/\s.toNat<=e/\e<=t.length/\∀h:s.toNat<t.length,zjx (t[s.toNat].toNat:Nat)=U->s.toNat<e) (λr s hI hr=>by
    obtain⟨i,rfl,hi⟩:=hI;by_cases hlt:i<t.length
    ·simp only[zaB.l2,zB hlt,zdp hlt,zfn,yp,yw,grd,if_true,yj,yA,ze (i:=i)<|by omega,yr];split;·obtain⟨e,e1,e2,e3,-⟩:=hr ((i+1:Nat):Int) ⟨_,rfl,by omega⟩ (by simp only[yr];omega);simp only[yr]at e2;exact⟨e,e1,by omega,e3,λ_ _=>by omega⟩
     ·rename_i hno;exact⟨i,rfl,yk _,hi,λ_ h=>absurd h hno⟩
    ·have:i=t.length:=by omega
     subst this;exact⟨t.length,by simp[zaB.l2,grd],by simp,yk _,λh=>by simp at h⟩) n a ⟨a,rfl,th ha⟩<|by simp;omega
   obtain⟨e,e1,-,e3,e4⟩:=this;exact⟨3,e,e1,e4 ha hdig,e3,by decide⟩
  ·rw[if_neg hdig];obtain⟨v,hv,hv2⟩:=ziA (n:=n) (t:=t) (a:=a) (th ha) hl hn;rw[hv,ya];by_cases hv0:0<v;·rw[if_pos<|by simpa using hv0,zcL<|by omega];exact⟨4,a+v,rfl,by omega,hv2,by decide⟩
   ·have hv0:v=0:=by omega
    subst hv0;rw[if_neg<|by simp];have:=zcV (body:=zaB.l3 n t) (λs:Int=>t.length-s.toNat) (λs=>∃i:Nat,s=i/\i<=t.length) (λs o=>∃e:Nat,o=O (5,(e:Int))/\s.toNat<=e/\e<=t.length/\(s=a->a<e)) (λr s hI hr=>by
     obtain⟨i,rfl,hi⟩:=hI;by_cases hlt:i<t.length
     ·obtain⟨u,hu,-⟩:=ziA (n:=n) (t:=t) (a:=i) hi hl hn;simp only[zaB.l3,zB hlt,zdp hlt,zbo,zgf,zfn,hu,yp,yw,grd,if_true,yj,yA,ze (i:=i)<|by omega,yr];split;·obtain⟨e,e1,e2,e3,-⟩:=hr ((i+1:Nat):Int) ⟨_,rfl,by omega⟩ (by simp only[yr];omega);simp only[yr]at e2;exact⟨e,e1,by omega,e3,λh=>by omega⟩
      ·rename_i hno;refine⟨i,rfl,yk _,hi,λh=>?_⟩;have hia:i=a:=by omega
       subst hia;exfalso;apply hno;rw[hv]at hu;simp only[yo,Int.natCast_inj]at hu;subst hu;simp only[zdD,yz,uc,uo]at hb;simp only[yc,bne_iff_ne,ne_eq,yz,uc,uo];simp only[yR]at hlet hdig;exact⟨⟨⟨⟨by omega,by omega⟩,hlet⟩,hdig⟩,by simp⟩
     ·have:i=t.length:=by omega
      subst this;exact⟨t.length,by simp[zaB.l3,grd],by simp,yk _,λh=>by omega⟩) n a ⟨a,rfl,th ha⟩<|by simp;omega
    obtain⟨e,e1,-,e3,e4⟩:=this;exact⟨5,e,e1,e4 rfl,e3,by decide⟩
theorem zl {α}{b}{xs ys:List α}(h:(xs.length+ys.length)*b<=140737488355328):Go.Proofs.YtipkniadbkndfaaGreatDoor.app b xs ys=O (xs++ys):=by unfold Go.Proofs.YtipkniadbkndfaaGreatDoor.app;grind
theorem zkZ {n}{t}(hl:t.length<1000000)(hn:1000000<=n):∀(m)(b)(a:Nat),a<=t.length->b.length<=a->t.length-a<m->∃r,r≠[]/\zuR (zdd.l1 n t) m (b,(a:Int))=O (b++r,0)
 |0,_,_,_,_,h=>by omega|m+1,b,a,g,j,h=>by
  obtain⟨k,e,l,o,d,-⟩:=zhU (n:=n) g hl hn;simp only[zuR,zdd.l1,e,ya];by_cases c:k<t.length
  ·obtain⟨q,z,f,p,i,-,-⟩:=zjK (n:=n) c (d c) hl hn;simp only[f,ya];rw[zl<|by grind,ya];obtain⟨r,-,s⟩:=zkZ hl hn m (b++[⟨q,a,k,z⟩]) z i (by grind)<|by omega
   grind
  ·rw[zhl<|by omega,if_neg<|by simp,zl<|by grind,ya];grind
theorem zoL {n}{w}(hl:w.length<=4096)(hn:1000000<=n):∃k,zg8 n w=O k/\(k=1↔zyt w=U/\w∉kwL):=by
 unfold zg8 zdd;rw[if_neg<|by grind,zev<|by omega];obtain⟨k,e,-,k2,k3,k4⟩:=zhU (n:=n) (t:=w) (a:=0) (by omega) (by omega) hn;simp only[wi]at e;simp only[zdd.l1,e,ya];by_cases hlt:k<w.length
 ·obtain⟨q,z,hz,z1,z2,z3,z4⟩:=zjK (n:=n) hlt (k3 hlt) (by omega) hn;simp only[zB hlt,if_true,hz,ya,yN];rw[zl<|by simp,ya];obtain⟨r,r0,hr⟩:=zkZ (n:=n) (t:=w) (by omega) hn (n-1) [(⟨q,0,(k:Int),(z:Int)⟩:Token)] z z2 (by grind) (by omega);simp only[yN];rw[hr];have h0:idx ([(⟨q,0,(k:Int),(z:Int)⟩:Token)]++r) 0=O ⟨q,0,(k:Int),(z:Int)⟩:=by simp[idx]
  simp only[ya,h0,yp,yw,grd,if_true,yj];rw[zjm w<|by omega];have hw0:k=0->z=w.length->(zb6 (w[k].toNat:Nat)=U/\(w.drop k).take (z-k)∉kwL↔(zb6 (w[0].toNat:Nat)&&Z (runP zwl w=w.length))=U/\w∉kwL):=by grind
  by_cases hc:((0:Int)!=0||(([(⟨q,0,(k:Int),(z:Int)⟩:Token)]++r).length:Int)!=2||(k:Int)!=0||(z:Int)!=(w.length:Int))=U
  ·rw[if_pos hc];refine⟨0,rfl,?_⟩;constructor;·grind
   ·rintro⟨h1,h2⟩;exfalso;simp only[yc,yf]at h1;have hk0:k=0:=k4 (by omega)<|zej h1.1;subst hk0;have hzw:=z3 h1.1;simp only[wN]at hzw;have hzl:z=w.length:=by omega
    subst hzl;rw[zev<|by omega]at hr;obtain⟨k',e',p1,p2,-,-⟩:=zhU (n:=n) (t:=w) (a:=w.length) (yk _) (by omega) hn;have:k'=w.length:=by omega
    subst this;simp only[zdd.l1,e',ya,zat,ye,if_false]at hr;rw[zl<|by simp,ya]at hr;simp only[yo,yh,and_true,List.append_cancel_left_eq]at hr;subst hr;simp at hc
  grind
 ·rw[zhl<|by omega,if_neg<|by simp,zl<|by simp,ya];simp only[yN,ya];refine⟨0,by simp[grd,idx],?_⟩;constructor;·intro h;exact absurd h<|by decide
  ·rintro⟨h1,-⟩;exfalso;cases w with|nil=>simp[zyt]at h1|cons x l=>simp only[zyt,yc]at h1;have:=k4 (by simp)<|zej h1.1;simp at hlt;omega
theorem zix {n}{w}(hl:w.length<=4096)(hn:1000000<=n):zfP n w=O (zxz w):=by
 unfold zfP zxz;obtain⟨k,c,a⟩:=zoL (n:=n) hl hn;have b:Z ((w.length:Int)<=16)=Z (w.length<=16):=decide_eq_decide.2<|by omega
 grind
theorem zxb.getS {m:GMap (List UInt8) Bool}{l:List<|List UInt8}(h:zxb m l)(k:List UInt8):(m.get? k).getD M=Z (k∈l):=(h.get k).trans<|decide_eq_decide.2 Iff.rfl
def zwQ:List (List UInt8)->List (List UInt8)->Bool|_,[]=>U|seen,s::l=>zxz s&&!decide (s∈seen)&&zwQ (seen++[s]) l
theorem zfN {n}{l:List<|List UInt8}(hF:Fuel n)(hl:l.length<1000000):zaW n l=O (zwQ [] l):=by
 have hn:=hF.big;have:=zbf (body:=zaW.l1 n l) (len:=l.length) (st:=λm i=>(m,(i:Int))) (g:=λi _=>O<|zwQ (l.take i)<|l.drop i) (λi m=>zxb m<|l.take i) (λrec i m hi hm hr=>?_) (λrec m _=>?_) n 0 wn (ym _) (by omega)<|by simpa using zxb.empty
 ·simpa[zaW]using this
 ·simp only[zaW.l1,zB hi,if_true,zb hi,ya,zil hF,hm.getS,ze (i:=i)<|by omega];rw[hr _<|by rw[yv hi];exact hm.put _,zk hi,zwQ,yv hi];cases zxz l[i]<;>cases hd:Z<|l[i]∈l.take i<;>simp
 ·simp[zaW.l1,zwQ]
theorem zfQ {n}{l:List<|List UInt8}(hn:1000000<=n)(hl:l.length<1000000)(hw:∀w∈l,w.length<=4096):zaX n l=O (zwQ [] l):=by
 have:=zy (body:=zaX.l1 n l) (len:=l.length) (st:=λi=>(i:Int)) (g:=λi=>O<|zwQ (l.take i)<|l.drop i) (λrec i hi hr=>?_) (λrec=>?_) n 0 (ym _)<|by omega
 ·simpa[zaX]using this
 ·have hc:=zgv (l:=l) (a:=0) (b:=i) (by omega)<|th hi;simp only[wi,wN,Nat.sub_zero]at hc;simp only[zaX.l1,zB hi,if_true,zb hi,ya,zix (hw _<|yg hi) hn,hc,yp,yj,yw,grd,zjf (show(l.take i).length<1000000 by simp;omega) hn,ze (i:=i)<|by omega,hr];rw[zk hi,zwQ,yv hi];cases zxz l[i]<;>cases hd:Z<|l[i]∈l.take i<;>simp
 ·simp[zaX.l1,zwQ]
theorem zqw {n l v}(hl:l.length<1000000)(hn:1000000<=n):zai n l v=O (ixP (λx=>v==x) l 0):=by
 have:=zy (body:=zai.l1 n l v) (len:=l.length) (st:=λi=>(i:Int)) (g:=λi=>O<|ixP (λx=>v==x) (l.drop i) i) (λrec i hi hr=>?_) (λrec=>?_) n 0 (ym _)<|by omega
 ·simpa[zai]using this
 ·simp only[zai.l1,zB hi,if_true,zb hi,ya,ze (i:=i)<|by omega,hr];rw[zk hi];simp only[ixP];split<;>rfl
 ·simp[zai.l1,ixP]
theorem zju {n l}(hl:l.length<1000000)(hn:1000000<=n):zgs n l=O (l.all id):=by unfold zgs zb7;rw[zqw hl hn];simp only[ya,zgB,yo];rw[<-zoo];congr 2;funext x;cases x<;>rfl
def b6:Nat->Int->Int|0,A=>A|k+1,A=>b6 k<|A*6
theorem b6_le:∀(k:Nat)(A:Int),1<=A->A<=b6 k A|0,_,_=>Int.le_refl _|k+1,A,h=>Int.le_trans (by omega)<|b6_le k (A*6)<|by omega
theorem zrg {a b A:Int}(h1:1<=a)(h2:a<=A)(h3:1<=b)(h4:b<=6):1<=a*b/\a*b<=A*6:=by have e1:1*1<=a*b:=vP h1 h3 (by omega) (by omega);have e2:a*b<=A*6:=vP h2 h4 (by omega) (by omega);omega
theorem zoh (sizes:List Int)(hs:sizes.all zcO=U):∀(cols:List Int)(s A:Int),cols.all (zvJ sizes)=U->1<=s->s<=A->b6 cols.length A<=1000000->1<=zau sizes cols s/\zau sizes cols s<=b6 cols.length A
 |[],s,A,_,h1,h2,_=>by simpa[zau,b6]using⟨h1,h2⟩|c::l,s,A,hc,h1,h2,h3=>by
  simp only[uk,yc]at hc;have hcol:=hc.1;simp only[zvJ,yc,yf]at hcol;obtain⟨k,rfl⟩:=y9 hcol.1;have hk:k<sizes.length:=by omega
  have hz:=yq.1 hs _<|yg hk;simp only[zcO,yc,yf]at hz;have hg:sizes.getD (k:Int).toNat 0=sizes[k]:=by simp[vy,hk]
  have hm:=zrg h1 h2 hz.1 hz.2;simp only[yW,b6]at h3|-;have hb:=b6_le l.length (A*6) (by omega);simp only[zau,hg];unfold zuZ;rw[z9 (by omega)<|by omega];exact zoh sizes hs l _ _ hc.2 hm.1 hm.2 h3
theorem zgX {sizes cols}(hs:sizes.all zcO=U)(hc:cols.all (zvJ sizes)=U)(h3:cols.length<=3):1<=zau sizes cols 1/\zau sizes cols 1<=216:=by
 have h:b6 cols.length 1<=216:=by match cols,h3 with
  |[],_=>decide|[_],_=>simp[b6]|[_,_],_=>simp[b6]|[_,_,_],_=>simp[b6]|_::_::_::_::_,h=>simp at h
 have:=zoh sizes hs cols 1 1 hc (by decide) (by decide) (by omega);omega
def zbB (k:Int):Bool:=k==0||k==1
def zgP (t:Table):Bool:=if(t.kind==1||t.kind==4||t.kind==5)=U then Z (t.range.lo<=t.range.hi)&&Z (-9999<=t.range.lo)&&Z (t.range.hi<=9999)else Z<|t.range=(⟨0,1⟩:Range)
def tabP (sizes:List Int)(t:Table):Bool:=zxz t.name&&(Z (0<=t.kind)&&Z (t.kind<=5))&&(Z (t.zuO.length<=3)&&t.zuO.all (zvJ sizes))&&zgP t
def layP (sizes:List Int):List (List UInt8)->Int->Int->List Table->Bool|_,a,b,[]=>decide (a<=128)&&Z (b<=64)|seen,a,b,t::l=>tabP sizes t&&!decide (t.name∈seen)&&if zbB t.kind=U then t.first==a&&layP sizes (seen++[t.name]) (zuN a<|zau sizes t.zuO 1) b l else t.first==b&&layP sizes (seen++[t.name]) a (zuN b<|zau sizes t.zuO 1) l
def zbx (sizes:List Int)(tables:List Table):Bool:=Z (sizes.length<=4)&&Z (tables.length<=12)&&sizes.all zcO&&layP sizes [] 0 0 tables
theorem zkn {n t}:zed n t=O (zgP t):=by
 unfold zed zgP jn;by_cases h1:t.kind=1;·simp[h1]
 ·by_cases h4:t.kind=4;·simp[h4]
  ·by_cases h5:t.kind=5;·simp[h5]
   ·simp[h1,h4,h5]
theorem zft {n sizes tables}(hF:Fuel n)(hs:sizes.length<=1000)(ht:tables.length<=1000)(hc:∀t∈tables,t.zuO.length<=1000):zbY n sizes tables=O (zbx sizes tables):=by
 have hn:=hF.big;unfold zbY zbx;rw[zlg (by omega)<|by omega,ya,zju (by simp)<|by omega,ya];simp only[uk,wB,id,uj];have e1:Z ((sizes.length:Int)<=4)=Z (sizes.length<=4):=decide_eq_decide.2 (by omega);have e2:Z ((tables.length:Int)<=12)=Z (tables.length<=12):=decide_eq_decide.2 (by omega);rw[e1,e2,<-vZ];by_cases h:(Z (sizes.length<=4)&&Z (tables.length<=12)&&sizes.all zcO)=U
 ·rw[h,if_neg<|by simp,yA];have:=zbf (body:=zbY.l1 n sizes tables) (len:=tables.length) (st:=λ(s:GMap (List UInt8) Bool×Int×Int)i=>(s.1,s.2.1,s.2.2,(i:Int))) (g:=λi s=>O<|layP sizes ((tables.take i).map (·.name)) s.2.1 s.2.2<|tables.drop i) (λi s=>zxb s.1<|(tables.take i).map (·.name)) (λrec i s hi hm hr=>?_) (λrec s _=>?_) n 0 (wn,0,0) (ym _) (by omega)<|by simpa using zxb.empty
  ·simpa using this
  ·obtain⟨m,a,b⟩:=s;simp only[]at hm;have hmem:=yg hi;have hcols:=hc _ hmem;simp only[zbY.l1,jn,zB hi,if_true,zb hi,ya,zil hF,hm.getS,zee,ziS (show tables[i].zuO.length<4611686018427387904 by omega)<|show tables[i].zuO.length<n by omega,zkn,zck,ze (i:=i)<|by omega];rw[zju (by simp)<|by omega,ya];simp only[uk,wB,id,uj];have hput:=hm.put tables[i].name;have htk:(tables.take<|i+1).map (·.name)=(tables.take i).map (·.name)++[tables[i].name]:=by rw[yv hi,un];rfl
   rw[<-htk]at hput;have hT:(zxz tables[i].name&&(!decide (tables[i].name∈(tables.take i).map (·.name))&&(Z (0<=tables[i].kind)&&Z (tables[i].kind<=5)&&(Z (tables[i].zuO.length<=3)&&tables[i].zuO.all (zvJ sizes)&&zgP tables[i]))))=(tabP sizes tables[i]&&!decide (tables[i].name∈(tables.take i).map (·.name))):=by unfold tabP;cases zxz tables[i].name<;>cases Z<|tables[i].name∈(tables.take i).map (·.name)<;>simp[vZ]
   rw[hT,zk hi,layP];by_cases hv:(tabP sizes tables[i]&&!decide (tables[i].name∈(tables.take i).map (·.name)))=U
   ·rw[hv,if_neg<|by simp,yA];have hcol:tables[i].zuO.all (zvJ sizes)=true:=by simp only[tabP,yc]at hv;exact hv.1.1.2.2
    simp only[zfu hcol (show tables[i].zuO.length<4611686018427387904 by omega)<|show tables[i].zuO.length<n by omega,ya,<-htk];unfold zbB;by_cases hk:(tables[i].kind==0||tables[i].kind==1)=U
    ·rw[if_pos hk,if_pos hk];by_cases hf:tables[i].first=a;·rw[if_neg<|by simp[hf],hr (m.put tables[i].name U,zuN a<|zau sizes tables[i].zuO 1,b) hput];simp[hf]
     ·rw[if_pos<|by simp[hf]];simp[hf]
    ·rw[if_neg hk,if_neg hk];by_cases hf:tables[i].first=b;·rw[if_neg<|by simp[hf],hr (m.put tables[i].name U,a,zuN b<|zau sizes tables[i].zuO 1) hput];simp[hf]
     ·rw[if_pos<|by simp[hf]];simp[hf]
   ·simp only[yR]at hv;rw[hv,if_pos<|by simp,uh]
  ·simp[zbY.l1,layP]
 ·simp only[yR]at h;rw[h,if_pos<|by simp,uh]
theorem zfx {n sizes tables}(hn:1000000<=n)(hs:sizes.length<=1000)(ht:tables.length<=1000)(hc:∀t∈tables,t.zuO.length<=1000/\t.name.length<=4096):zaI n sizes tables=O (zbx sizes tables):=by
 unfold zaI zbx;have e1:Z (4<(sizes.length:Int))=!decide (sizes.length<=4):=by grind
 have e2:Z (12<(tables.length:Int))=!decide (tables.length<=12):=by grind
 rw[zhs (by omega)<|by omega,e1,e2];simp only[yp,yw,grd,if_true,yj];by_cases h:(Z (sizes.length<=4)&&Z (tables.length<=12)&&sizes.all zcO)=U
 ·rw[h,yA];simp only[yc]at h;obtain⟨⟨h1,h2⟩,h3⟩:=h;rw[h1,h2,h3,if_neg<|by simp];have:=zbf (body:=zaI.l1 n sizes tables) (len:=tables.length) (st:=λ(s:Int×Int)i=>(s.1,s.2,(i:Int))) (g:=λi s=>O<|layP sizes ((tables.take i).map (·.name)) s.1 s.2<|tables.drop i) (λ_ _=>True) (λrec i s hi _ hr=>?_) (λrec s _=>?_) n 0 (0,0) (ym _) (by omega) trivial;·grind
  ·obtain⟨a,b⟩:=s;have hmem:=yg hi;obtain⟨hcols,hname⟩:=hc _ hmem;simp only[zaI.l1,jn,zB hi,if_true,zb hi,ya];generalize hK:(λ(v:Int×Int)=>rec (v.1,v.2,zuN (i:Int) 1))=K;have inner:=zy (body:=zaI.l2 n sizes tables a b i K tables[i]) (len:=i) (st:=λk=>(k:Int)) (g:=λk=>if Z (tables[i].name∈((tables.take i).drop k).map (·.name))=U then O M else zaI.l2 n sizes tables a b i K tables[i] (λ_=>Y) (i:Int)) (λrec' k hk hr'=>?_) (λrec'=>?_) n 0 (ym _)<|by omega
   ·rw[show((0:Nat):Int)=0 from rfl]at inner;rw[inner,zk hi,layP,wN];have htk:(tables.take<|i+1).map (·.name)=(tables.take i).map (·.name)++[tables[i].name]:=by grind[wx]
    cases hseen:Z<|tables[i].name∈(tables.take i).map (·.name)with
    |true=>simp|false=>
     simp only[ye,if_false,ur,uj];have hnum:=ze4 (n:=n) (sizes:=sizes) (cols:=tables[i].zuO) (by omega) (by omega) (by omega) (by omega);rw[h3,uj]at hnum;simp only[zaI.l2,zhl<|yk i,ye,if_false,hnum,ya,zix hname hn,zch];unfold tabP;by_cases hcol:(Z (tables[i].zuO.length<=3)&&tables[i].zuO.all (zvJ sizes))=U
     ·simp only[hcol,if_true,uj];have hcol':=hcol;simp only[yc,yf]at hcol';have hw:=zgX h3 hcol'.2 hcol'.1;have hw0:(zau sizes tables[i].zuO 1==0)=false:=by simp;omega
      rw[hw0,Bool.or_false];by_cases hnk:(zxz tables[i].name&&(Z (0<=tables[i].kind)&&Z (tables[i].kind<=5)))=U
      ·rw[hnk,yA];simp only[yc,yf]at hnk;rw[if_neg<|by simp[hnk.1];omega];by_cases hrg:zgP tables[i]=U
       ·rw[hrg,yA];unfold zgP at hrg;rw[if_neg<|by
         split at hrg;·simp only[yc,yf]at hrg;simp only[yG,yf];omega
         ·simp only[yf]at hrg;rw[hrg];decide,if_neg<|by
         split at hrg;·rename_i hk;simp only[yG,beq_iff_eq]at hk;simp only[yc,yG,beq_iff_eq];omega
         ·simp only[yf]at hrg;rw[hrg];simp];unfold zbB;by_cases hk:(tables[i].kind==0||tables[i].kind==1)=U
        ·rw[if_pos hk,if_pos hk];by_cases hf:tables[i].first=a;·rw[if_neg<|by simp[hf],<-hK];simp only[ze (i:=i)<|by omega];have:=hr (zuN a<|zau sizes tables[i].zuO 1,b) trivial;simp only[]at this;rw[this,htk];simp[hf]
         ·rw[if_pos<|by simp[hf]];simp[hf]
        ·rw[if_neg hk,if_neg hk];by_cases hf:tables[i].first=b;·rw[if_neg<|by simp[hf],<-hK];simp only[ze (i:=i)<|by omega];have:=hr (a,zuN b<|zau sizes tables[i].zuO 1) trivial;simp only[]at this;rw[this,htk];simp[hf]
         ·rw[if_pos<|by simp[hf]];simp[hf]
       ·simp only[yR]at hrg;rw[hrg,uh];unfold zgP at hrg;split at hrg;·rename_i hk;rw[if_pos<|by simp only[uC,yJ]at hrg;simp only[yG,yf];omega]
        ·rename_i hk;simp only[yG,beq_iff_eq,not_or]at hk;have hr01:¬(tables[i].range.lo=0/\tables[i].range.hi=1):=by rintro⟨q1,q2⟩;simp only[yJ]at hrg;apply hrg;cases hrr:tables[i].range;rw[hrr]at q1 q2;simp only[]at q1 q2;rw[q1,q2]
         split;·rfl
         ·rw[if_pos<|by simp only[yc,yG,beq_iff_eq,bne_iff_ne,ne_eq];omega]
      ·simp only[yR]at hnk;rw[hnk,uh,uh];rw[if_pos<|by
        simp only[uC,yJ]at hnk;simp only[yG,yz,yf];rcases hnk with h|h|h;·exact .inl<|.inl h
        ·exact .inl<|.inr<|by omega
        ·exact .inr<|by omega]
     ·simp only[yR]at hcol;simp only[hcol,Bool.and_false,uh,ye,if_false];rw[if_pos<|by simp]
   ·have hk':k<tables.length:=by omega
    simp only[zaI.l2,zjE hk,if_true,zb hk',ya,ze (i:=k)<|by omega,hr'];have hk2:k<(tables.take i).length:=by simp;omega
    rw[zk hk2];simp only[List.getElem_take,yX,yF];by_cases hnm:tables[k].name=tables[i].name;·rw[if_pos<|by simpa using hnm,if_pos<|by simp[hnm]]
    ·rw[if_neg<|by simpa using hnm];have hnm':¬tables[i].name=tables[k].name:=λe=>hnm e.symm;simp only[hnm',false_or]
   ·rw[if_neg<|by simp];simp only[zaI.l2,zhl<|yk i,ye,if_false]
  ·simp[zaI.l1,layP]
 grind
def zY (sizes:List Int)(s:Bool):List Table->List Range|[]=>[]|t::l=>if(zbB t.kind==s)=U then xy (zau sizes t.zuO 1).toNat t.range++zY sizes s l else zY sizes s l
theorem zig {sizes}:∀{l}{seen}{a b},layP sizes seen a b l=U->∀t∈l,tabP sizes t=U
 |[],_,_,_,_,_,c=>by grind|x::l,seen,a,b,h,t,c=>by
  simp only[layP,yc]at h;simp only[yF]at c;rcases c with rfl|c;·grind
  ·have d:=h.2;split at d;·simp only[yc]at d;exact zig d.2 t c
   ·simp only[yc]at d;exact zig d.2 t c
theorem zbZ {sizes tables}(h:zbx sizes tables=U):sizes.length<=4/\tables.length<=12/\sizes.all zcO=U/\∀t∈tables,zxz t.name=U/\(0<=t.kind/\t.kind<=5)/\t.zuO.length<=3/\t.zuO.all (zvJ sizes)=U/\1<=zau sizes t.zuO 1/\zau sizes t.zuO 1<=216:=by simp only[zbx,yc,yf]at h;obtain⟨⟨⟨c,d⟩,b⟩,e⟩:=h;refine⟨c,d,b,λt f=>?_⟩;have:=zig e t f;simp only[tabP,yc,yf]at this;obtain⟨⟨⟨g,i⟩,a⟩,-⟩:=this;exact⟨g,i,a.1,a.2,zgX b a.2 a.1⟩
theorem zdt {sizes s}:∀{l},(∀t∈l,1<=zau sizes t.zuO 1/\zau sizes t.zuO 1<=216)->(zY sizes s l).length<=l.length*216
 |[],_=>by simp[zY]|t::l,h=>by
  have b:=zdt (s:=s) (l:=l) λx a=>h x<|by simp[a]
  grind[zY]
theorem zua {n}:∀w:Fin 217,zeH n 1 ((w.1:Nat):Int)=O (0,((w.1:Nat):Int)):=by intro w;unfold zeH zeY;revert w;decide+kernel
theorem zpT:∀w:Fin 217,wk .u64 ((w.1:Nat):Int)=((w.1:Nat):Int)/\wk .i64 ((w.1:Nat):Int)=((w.1:Nat):Int):=by decide+kernel
theorem zqy {n x w}(h1:1<=w)(h2:w<=216)(hn:1000000<=n):zM n [x] w=O (xy w.toNat x):=by
 obtain⟨W,rfl⟩:=y9 (show 0<=w by omega);have hW:W<217:=by omega
 have hwk:=zpT ⟨W,hW⟩;simp only[]at hwk;have h1k:wk .u64 (([x]:List Range).length:Int)=1:=(zpT ⟨1,by decide⟩).1;unfold zM;rw[if_neg<|by simp,h1k,hwk.1,zua ⟨W,hW⟩];simp only[ya];rw[if_neg<|by grind,hwk.2];have hm:mkl 16 (W:Int) (⟨0,0⟩:Range)=O (xy W ⟨0,0⟩):=by unfold mkl;grind
 rw[hm,ya];simp only[uD,uL,Nat.sub_zero,yr];rw[show min W 1=1 by omega];refine zcV (body:=zM.l1 n) (λs=>W-s.2.toNat) (λs=>∃k:Nat,s.2=(k:Int)/\1<=k/\k<=W/\s.1.length=W/\s.1.take k=xy k x) (λ_ o=>o=O (xy W x)) (λrec s hI hr=>?_) n _ ⟨1,rfl,by omega,by omega,?_,?_⟩<|by simp;omega
 ·obtain⟨b,kk⟩:=s;obtain⟨k,rfl,k1,k2,hb,hk⟩:=hI;simp only[]at hb hk;simp only[zM.l1];by_cases hlt:k<W
  ·have hcE:cut b (k:Int) (W:Int)=O (b.drop k):=by grind[ziX]
   have hc:=zgv (l:=b) (a:=0) (b:=k) (by omega)<|by omega
   simp only[wi]at hc;simp only[hb,zjE hlt,if_true,hcE,hc,ya,yr,wN,Nat.sub_zero,hk,uD];rw[zcL<|by omega];refine hr (_,((k+min (W-k) k:Nat):Int)) ⟨k+min (W-k) k,rfl,by omega,by omega,?_,?_⟩<|by grind
   ·simp only[];rw[zdG (by omega)<|by omega,hb]
   ·simp only[zfe,hk,List.take_replicate,uD];rw[show min (W-k) k=min (W-k) k from rfl,<-yM,List.replicate_append_replicate];rw[List.take_append_of_le_length<|by simp];simp
  grind
 ·rw[zdG (by omega)<|by simp];simp
 grind[zfe,List.take_append,xV,min]
theorem zhr (sizes s):∀(l m),zY sizes s (l++m)=zY sizes s l++zY sizes s m
 |[],_=>rfl|t::l,m=>by
  simp only[uu,zY,zhr sizes s l m];grind
theorem zfm {sizes}{s}{l:List Table}{i}(hi):zY sizes s (l.take<|i+1)=if(zbB l[i].kind==s)=U then zY sizes s (l.take i)++xy (zau sizes l[i].zuO 1).toNat l[i].range else zY sizes s<|l.take i:=by grind[wx,zhr,zY]
theorem zgr {n}{sizes}{tables}{s}(hF:Fuel n)(hs:sizes.length<=1000)(ht:tables.length<=1000)(hc:∀t∈tables,t.zuO.length<=1000):zbT n sizes tables s=O (if zbx sizes tables=U then zY sizes s tables else[]):=by have o:=hF.big;unfold zbT;rw[zft hF hs ht hc,ya];cases f:zbx sizes tables with
 |false=>simp|true=>
  obtain⟨p,k,m,e⟩:=zbZ f;have:=zy (body:=zbT.l1 n sizes tables s) (len:=tables.length) (st:=λi=>(zY sizes s<|tables.take i,(i:Int))) (g:=λ_=>O<|zY sizes s tables) (λa i c b=>?_) (λa=>?_) n 0 (ym _)<|by omega
  ·grind[zY]
  ·have d:=zdt (sizes:=sizes) (s:=s) (l:=tables.take i) λx h=>(e x<|ws h).2.2.2.2;rw[zfm c]at b;simp only[zbT.l1,jn,zb c,ya,zck,ze (i:=i)<|by omega];unfold zbB at b;by_cases j:((tables[i].kind==0||tables[i].kind==1)==s)=U;·grind[zfu,zqy,zl]
   grind
  ·simp[zbT.l1]
theorem ze3 {n}{sizes}{tables}{s}(hn:1000000<=n)(hs:sizes.length<=1000)(ht:tables.length<=1000)(hc:∀t∈tables,t.zuO.length<=1000/\t.name.length<=4096):zaT n sizes tables s=O (if zbx sizes tables=U then zY sizes s tables else[]):=by unfold zaT;rw[zfx hn hs ht hc,ya];cases hL:zbx sizes tables with
 |false=>simp|true=>
  obtain⟨l1,l2,l3,l4⟩:=zbZ hL;have:=zy (body:=zaT.l1 n sizes tables s) (len:=tables.length) (st:=λi=>(zY sizes s<|tables.take i,(i:Int))) (g:=λ_=>O<|zY sizes s tables) (λrec i hi hr=>?_) (λrec=>?_) n 0 (ym _)<|by omega
  ·grind[zY]
  ·obtain⟨-,-,c1,c2,c3,c4⟩:=l4 _<|yg hi;have hlen:=zdt (sizes:=sizes) (s:=s) (l:=tables.take i) λx hx=>(l4 x<|ws hx).2.2.2.2;simp only[ui]at hlen;rw[zfm hi]at hr;simp only[zaT.l1,zB hi,if_true];obtain⟨W,hW⟩:=y9 (show 0<=zau sizes tables[i].zuO 1 by omega);have hnum:=ze4 (n:=n) (sizes:=sizes) (cols:=tables[i].zuO) (by omega) (by omega) (by omega) (by omega);simp only[l3,c2,c1,decide_true,uj,if_true]at hnum;have inner:=zy (body:=zaT.l2 n sizes tables s i rec) (len:=if(zbB tables[i].kind==s)=U then W else 0) (st:=λk=>(zY sizes s (tables.take i)++xy k tables[i].range,(k:Int))) (g:=λ_=>O<|zY sizes s tables) (λrec' k hk hr'=>?_) (λrec'=>?_) n 0 (ym _)<|by grind
   ·grind
   ·split at hk;·rename_i hst;simp only[zbB]at hst;simp only[zaT.l2,zb hi,ya,zch,hst,yp,yw,grd,if_true,yj,hnum,yA,hW,zjE hk,ze (i:=k)<|by omega];rw[zl<|by simp only[yT,uD,uL];omega,ya,yM,<-u6,hr']
    ·omega
   ·by_cases hst:((tables[i].kind==0||tables[i].kind==1)==s)=U;·have hst':(zbB tables[i].kind==s)=true:=hst;rw[if_pos hst']at hr|-;simp only[zaT.l2,zb hi,ya,zch,hst,yp,yw,grd,if_true,yj,hnum,yA,hW,zhl<|yk W,ye,if_false,ze (i:=i)<|by omega];rw[hW]at hr;simpa using hr
    ·have hst':¬(zbB tables[i].kind==s)=true:=hst;rw[if_neg hst']at hr|-;simp only[yR]at hst;simp only[zaT.l2,zb hi,ya,zch,hst,ur,uB,grd,if_true,uh,ye,if_false,ze (i:=i)<|by omega];simpa using hr
  ·simp[zaT.l1]
def zcn (p:Int->Bool)(i:Nat):Nat->List Int|0=>[]|m+1=>if p (i:Int)=U then(i:Int)::zcn p (i+1) m else zcn p (i+1) m
theorem zhQ (p):∀(m i),(zcn p i m).length<=m
 |0,_=>yk _|m+1,i=>by
  simp only[zcn];split;·exact Nat.succ_le_succ<|zhQ p m<|i+1
  ·exact Nat.le_succ_of_le<|zhQ p m<|i+1
theorem zjH (p):∀(m i),zcn p i (m+1)=if p ((i+m:Nat):Int)=U then zcn p i m++[((i+m:Nat):Int)]else zcn p i m
 |0,i=>by simp[zcn]|m+1,i=>by
  have a:=zjH p m<|i+1;grind[zcn]
def zeB (l:List Change)(c:Constraint)(k:Int):Bool:=Z<|0<zA l (zuN c.first k)
theorem zds {n}{a c}{K:Nat}(hK:zuZ c.size c.size=(K:Int))(h1:a.effect.delta.length<4611686018427387904)(h2:a.effect.delta.length<n)(h3:K<17592186044416)(h4:K<n):zE n a c=O (zcn (zeB a.effect.delta c) 0 K):=by
 have:=zy (body:=zE.l1 n a c) (len:=K) (st:=λi=>(zcn (zeB a.effect.delta c) 0 i,i)) (g:=λ_=>O<|zcn (zeB a.effect.delta c) 0 K) (λe i j b=>?_) (λe=>?_) n 0 (ym _)<|by omega
 ·grind[zE,zcn]
 ·rw[zjH]at b;have h:=zhQ (zeB a.effect.delta c) i 0;have k:Z (i<zuZ c.size c.size)=true:=by simp_all
  have f:Go.Proofs.YtipkniadbkndfaaGreatDoor.app 8 (zcn (zeB a.effect.delta c) 0 i) [i]=O (zcn (zeB a.effect.delta c) 0 i++[(i:Int)]):=by unfold Go.Proofs.YtipkniadbkndfaaGreatDoor.app;grind
  simp only[zE.l1,jn,zap _ h1 h2,ze (i:=i)<|by omega];simp only[ug]at b;by_cases d:zeB a.effect.delta c i=U;·rw[if_pos d]at b;unfold zeB at d;simp_all
  ·rw[if_neg d]at b;unfold zeB at d;grind
 ·grind[zE.l1]
theorem zkY {n}{e c}{K:Nat}(hK:zuZ c.size c.size=(K:Int))(h1:e.delta.length<4611686018427387904)(h2:e.delta.length<n)(h3:K<17592186044416)(h4:K<n)(hadd:∀k,addP k e.delta 0=zA e.delta k):zbV n e c=O (Z<|0<(zcn (zeB e.delta c) 0 K).length):=by
 have:=zy (body:=zbV.l1 n e c) (len:=K) (st:=λi=>i) (g:=λi=>O<|Z<|0<(zcn (zeB e.delta c) i<|K-i).length) (λb i f h=>?_) (λb=>?_) n 0 (ym _)<|by omega
 ·grind[zbV]
 ·have d:Z (i<zuZ c.size c.size)=true:=by simp_all
  simp only[zbV.l1,zep _ h1 h2,ze (i:=i)<|by omega];rw[show K-i=K-(i+1)+1 by omega,zcn];by_cases a:zeB e.delta c i=U;·rw[if_pos a];unfold zeB at a;simp_all
  ·rw[if_neg a];unfold zeB at a;grind
 ·have d:Z (K<zuZ c.size c.size)=false:=by simp_all
  simp[zbV.l1,d,zcn]
structure Good (n:Nat)(m:Model):Prop where
 acts:∀a∈m.zuP,a.effect.delta.length<4611686018427387904/\a.effect.delta.length<n/\(∀k,addP k a.effect.delta 0=zA a.effect.delta k)/\∀r∈a.effect.hold,r.zuQ.length<4611686018427387904/\r.zuQ.length<n
 cons:∀c∈m.constraints,(c.kind=0\/c.kind=1)/\c.row.zuQ.length<4611686018427387904/\c.row.zuQ.length<n/\∃K:Nat,zuZ c.size c.size=(K:Int)/\K<17592186044416/\K<n
theorem zh6 {f g}(h:∀k,f k=g k):∀(l:List Term)(s:Int),zcT f l s=zcT g l s|[],_=>rfl|t::l,s=>by simp only[zcT,h];exact zh6 h l _
theorem zaA {α:Type}{l:List α}{i:Int}{x:α}(h:idx l i=O x):x∈l:=by obtain⟨n,rfl,hn,rfl⟩:=idxS h;exact yg hn
theorem zaM {α:Type}{l:List α}{i:Int}(h0:0<=i)(h1:i<(l.length:Int)):∃x,idx l i=O x:=by obtain⟨n,rfl⟩:=y9 h0;exact⟨_,zb<|by omega⟩
def allR (p:Nat->Bool)(i:Nat):Nat->Bool|0=>U|k+1=>p i&&allR p (i+1) k
theorem zj1 {p}:∀{k i},allR p i k=U↔∀j,i<=j->j<i+k->p j=U
 |0,i=>by grind[allR]|k+1,i=>by
  simp only[allR,yc,zj1 (k:=k) (i:=i+1)];grind
theorem zjq {p k}:allR p 0 k=U↔∀j,j<k->p j=true:=by grind[zj1]
theorem zgG {S R}{body}{len n}{st:Nat->S}(p)(F T:Option R)(hb:∀rec i,i<len->body rec (st i)=if p i=U then rec<|st<|i+1 else F)(he:∀rec,body rec (st len)=T)(hn:len<n):zuR body n (st 0)=if allR p 0 len=U then T else F:=by
 have:=zy (body:=body) (len:=len) (st:=st) (g:=λi=>if allR p i (len-i)=U then T else F) (λrec i b a=>?_) (λrec=>?_) n 0 (ym _)<|by omega
 ·grind
 ·rw[hb rec i b,show len-i=len-(i+1)+1 by omega,allR,a];grind
 grind[allR]
theorem zes {n l f p}(hf:∀x∈l,f x=O (p x))(hl:l.length<1000000)(hn:1000000<=n):zC n l f=O (ixP p l 0):=by
 have:=zy (body:=zC.l1 n l f) (len:=l.length) (st:=λi=>i) (g:=λi=>O<|ixP p (l.drop i) i) (λa i b c=>?_) (λa=>?_) n 0 (ym _)<|by omega
 ·grind[zC]
 ·simp only[zC.l1,zb b,ze (i:=i)<|by omega];grind[zk,ixP]
 ·simp[zC.l1,ixP]
theorem zdY {n l f p}(hf:∀x∈l,f x=O (p x))(hl:l.length<1000000)(hn:1000000<=n):zaj n l f=O (l.any p):=by unfold zaj;rw[zes hf hl hn,ya,zgB]
theorem zfs {n l f p}(hf:∀x∈l,f x=O (p x))(hl:l.length<1000000)(hn:1000000<=n):zo n l f=O (ixP p l 0):=by
 have:=zy (body:=zo.l1 n l f) (len:=l.length) (st:=λi=>i) (g:=λi=>O<|ixP p (l.drop i) i) (λa i b c=>?_) (λa=>?_) n 0 (ym _)<|by omega
 ·grind[zo]
 ·simp only[zo.l1,zb b,ze (i:=i)<|by omega];grind[zk,ixP]
 ·simp[zo.l1,ixP]
theorem zcW {n l f p}(hf:∀x∈l,f x=O (p x))(hl:l.length<1000000)(hn:1000000<=n):zp n l f=O (l.any p):=by unfold zp;rw[zfs hf hl hn,ya,zgB]
theorem zeS {n l f p}(hf:∀x∈l,f x=O (p x))(hl:l.length<1000000)(hn:1000000<=n):zG n l f=O (ixP p l 0):=by
 have:=zy (body:=zG.l1 n l f) (len:=l.length) (st:=λi=>i) (g:=λi=>O<|ixP p (l.drop i) i) (λa i b c=>?_) (λa=>?_) n 0 (ym _)<|by omega
 ·grind[zG]
 ·simp only[zG.l1,zb b,ze (i:=i)<|by omega];grind[zk,ixP]
 ·simp[zG.l1,ixP]
theorem zec {n l f p}(hf:∀x∈l,f x=O (p x))(hl:l.length<1000000)(hn:1000000<=n):zaC n l f=O (l.any p):=by unfold zaC;rw[zeS hf hl hn,ya,zgB]
def zaZ (x most:Int):Bool:=Z (-most<=x)&&Z (x<=most)
theorem around3 {n x}:zbg n x 1000=O (zaZ x 1000):=rfl
theorem zzf {n x}:zbg n x 1000000000=O (zaZ x 1000000000):=rfl
theorem around4 {n x}:zbg n x 9999=O (zaZ x 9999):=rfl
theorem between3 {n x}:zaO n x 1000=O (zaZ x 1000):=rfl
theorem zyP {n x}:zaO n x 1000000000=O (zaZ x 1000000000):=rfl
theorem between4 {n x}:zaO n x 9999=O (zaZ x 9999):=rfl
def rowP (K:Nat):Int->List Term->Bool|_,[]=>U|last,t::l=>Z (last<t.cell)&&Z (t.cell<(K:Int))&&t.zuW !=0&&zaZ t.zuW 1000&&rowP K t.cell l
def zvE (K:Nat)(r:Row):Bool:=rowP K (-1) r.zuQ&&zaZ r.bound 1000000000
theorem ze9 {i:Nat}(h0:0<i)(h:i<4611686018427387904):zuY (i:Int) 1=((i-1:Nat):Int):=by grind[zuY,z9]
theorem zjF {n}{j}{r}(hl:r.zuQ.length<1000000)(hn:1000000<=n):zaS n j r=O (zvE j.strict.length r):=by
 have:=zbf (body:=zaS.l1 n j r) (len:=r.zuQ.length) (st:=λs i=>(s,i)) (g:=λi s=>O<|rowP j.strict.length s (r.zuQ.drop i)&&zaZ r.bound 1000000000) (λ_ _=>True) (λa i s b _ c=>?_) (λa s _=>?_) n 0 (-1) (ym _) (by omega) trivial;·grind[zaS,zvE]
 ·simp only[zaS.l1,zb b,around3,grd,ze (i:=i)<|by omega];rw[zk b,rowP];grind
 ·simp[zaS.l1,zzf,rowP]
theorem zlX {n K:Nat}{r}(hl:r.zuQ.length<1000000)(hn:1000000<=n):zcN n r (K:Int)=O (zvE K r):=by
 have:=zbf (body:=zcN.l1 n r K) (len:=r.zuQ.length) (st:=λ_ i=>i) (g:=λi s=>O<|rowP K s (r.zuQ.drop i)&&zaZ r.bound 1000000000) (λi s=>-1<=s/\(i=0/\s=-1\/0<i/\∃x,idx r.zuQ (zuY i 1)=O x/\x.cell=s)) (λb i s c e d=>?_) (λb s _=>?_) n 0 (-1) (ym _) (by omega) ⟨by omega,.inl ⟨rfl,rfl⟩⟩;·grind[zcN,zvE]
 ·have a:(Z (0<i)&&Z (r.zuQ[i].cell<=((idx r.zuQ<|zuY i 1).getD J).cell))=(Z (0<i)&&Z (r.zuQ[i].cell<=s))/\(! Z (0<(i:Int))||(idx r.zuQ<|zuY i 1).isSome)=true:=by grind
  simp only[zcN.l1,zB c,if_true,zb c,ya,between3,yp,yw,grd,a.2,ze (i:=i)<|by omega];rw[zk c,rowP];by_cases h:(Z (s<r.zuQ[i].cell)&&Z (r.zuQ[i].cell<K)&&r.zuQ[i].zuW !=0&&zaZ r.zuQ[i].zuW 1000)=U;·rw[h,yA];simp only[yc,yf]at h;rw[if_neg<|by grind,d r.zuQ[i].cell ⟨by omega,.inr ⟨by omega,r.zuQ[i],by grind[ze9,zb],rfl⟩⟩]
  grind
 ·simp[zcN.l1,zyP,rowP]
def zie (zuU:List Int)(c:Constraint)(t:Table):Bool:=t.kind==0&&(t.zuO.length:Int)==2&&((idx t.zuO 0).getD J==(idx t.zuO 1).getD J&&t.first==c.first&&(idx zuU<|(idx t.zuO 0).getD J).getD J==c.size)
def zhm (m:Model)(c:Constraint):Bool:=(c.row.zuQ.length:Int)==0&&c.row.bound==0&&m.tables.any (zie m.zuU c)
theorem zi4 {zuU}{t:Table}(hc:t.zuO.all (zvJ zuU)=U)(h2:(t.zuO.length:Int)=2):(∃x,idx t.zuO 0=O x)/\(∃x,idx t.zuO 1=O x)/\∃x,idx zuU ((idx t.zuO 0).getD J)=O x:=by
 obtain⟨x,b⟩:=zaM (l:=t.zuO) (i:=0) (by omega) (by omega);obtain⟨y,a⟩:=zaM (l:=t.zuO) (i:=1) (by omega)<|by omega
 grind[zf6,zaA]
theorem zp8 {n}{j}{c t}(hc:t.zuO.all (zvJ j.model.zuU)=U):zb1 n t c j=O (zie j.model.zuU c t):=by
 unfold zb1 zie;by_cases b:(t.kind==0&&(t.zuO.length:Int)==2)=U
 ·have a:=b;simp only[yc,beq_iff_eq]at a;obtain⟨⟨x,e⟩,⟨y,f⟩,z,d⟩:=zi4 hc a.2;grind[grd]
 ·grind[grd]
theorem zlk {n}{j}{c}(hc:∀t∈j.model.tables,t.zuO.all (zvJ j.model.zuU)=U)(hl:j.model.tables.length<1000000)(hn:1000000<=n):zcx n j c=O (zhm j.model c):=by unfold zcx zhm;rw[zdY (p:=zie j.model.zuU c) (λt a=>zp8<|hc t a) hl hn];simp[grd]
theorem znV {n m c}(hc:∀t∈m.tables,t.zuO.all (zvJ m.zuU)=U)(hl:m.tables.length<1000000)(hn:1000000<=n):zco n m c=O (zhm m c):=by
 unfold zco zhm;by_cases h:((c.row.zuQ.length:Int)==0&&c.row.bound==0)=U
 ·rw[h,yA];simp only[yc,beq_iff_eq]at h;rw[if_neg<|by grind];have:=zy (body:=zco.l1 n m c) (len:=m.tables.length) (st:=λi=>(i:Int)) (g:=λi=>O<|(m.tables.drop i).any<|zie m.zuU c) (λrec i hi hr=>?_) (λrec=>?_) n 0 (ym _)<|by omega
  ·grind
  ·simp only[zco.l1,zB hi,if_true,zb hi,ya,ze (i:=i)<|by omega,hr];rw[zk hi,List.any_cons];have hcol:=hc _<|yg hi;by_cases h2:(m.tables[i].kind==0&&(m.tables[i].zuO.length:Int)==2)=U
   ·have h2':=h2;simp only[yc,beq_iff_eq]at h2';obtain⟨⟨x,hx⟩,⟨y,hy⟩,z,hz⟩:=zi4 hcol h2'.2;rw[hx]at hz;simp only[yj]at hz;simp only[h2,hx,hy,hz,grd,yp,yw,if_true,yj,yA,zie];grind
   ·simp only[yR]at h2;simp[h2,grd,zie]
  ·simp[zco.l1]
 grind
theorem zne {n a b}(hl:a.length<1000000)(hn:1000000<=n):zV n a b=O (Z<|a=b):=by
 unfold zV;by_cases h:a.length=b.length
 ·have:=zy (body:=zV.l1 n a b) (len:=a.length) (st:=λi=>i) (g:=λi=>O<|Z<|a.drop i=b.drop i) (λd i f j=>?_) (λd=>?_) n 0 (ym _)<|by omega
  ·grind
  ·have c:i<b.length:=by omega
   simp only[zV.l1,zB f,if_true,zb f,zb c,ya,ze (i:=i)<|by omega,j];rw[zk f,zk c];by_cases e:a[i]=b[i];·simp only[e,decide_true,uf,ye,if_false,wy,true_and]
   ·simp only[e,decide_false,ur,if_true,wy,false_and]
  grind[zV.l1]
 ·have:¬a=b:=λe=>h<|by rw[e]
  grind
theorem zni {n a b}(hl:a.length<1000000)(hn:1000000<=n):zbc n a b=O (Z<|a=b):=by
 unfold zbc;by_cases h:a.length=b.length
 ·have:=zy (body:=zbc.l1 n a b) (len:=a.length) (st:=λi=>i) (g:=λi=>O<|Z<|a.drop i=b.drop i) (λd i f j=>?_) (λd=>?_) n 0 (ym _)<|by omega
  ·grind
  ·have c:i<b.length:=by omega
   simp only[zbc.l1,zB f,if_true,zb f,zb c,ya,ze (i:=i)<|by omega,j];rw[zk f,zk c];by_cases e:a[i]=b[i];·simp only[e,decide_true,uf,ye,if_false,wy,true_and]
   ·simp only[e,decide_false,ur,if_true,wy,false_and]
  grind[zbc.l1]
 ·have:¬a=b:=λe=>h<|by rw[e]
  grind
theorem zrL {n r c f b}(hl:r.zuQ.length<1000000)(hn:1000000<=n):zem n r c f b=O (Z<|r=(⟨[⟨c,f⟩],b⟩:Row)):=by unfold zem;rw[zne hl hn,ya];congr 1;rw[we];cases r;simp
theorem zlA {n a b}(hl:a.zuQ.length<1000000)(hn:1000000<=n):zde n a b=O (Z<|a=b):=by
 unfold zde;rw[zni hl hn];simp only[yp,yw,grd,if_true];congr 1;cases a;cases b;grind
structure zvn (m:Model):Prop where
 zuU:m.zuU.length<=8
 tables:m.tables.length<=6
 tab:∀t∈m.tables,t.name.length<=40/\t.zuO.length<=12
 zu1:m.zu1.length<=20
 fam:∀s∈m.zu1,s.length<=40
 constraints:m.constraints.length<=60
 con:∀c∈m.constraints,c.row.zuQ.length<=20
 zuS:m.zuS.length<=8
 op:∀o∈m.zuS,o.name.length<=40/\o.zuU.length<=6
 zuP:m.zuP.length<=30
 act:∀a∈m.zuP,a.arguments.length<=6/\a.effect.delta.length<=20/\a.effect.hold.length<=10/\a.effect.zuX.length<=40/\∀r∈a.effect.hold,r.zuQ.length<=20
 zu2:m.zu2.length<=12
def zd7 (l:List Range)(i:Nat):Row:=⟨[⟨((i/2:Nat):Int),if i%2=0 then-1 else 1⟩],if i%2=0 then zvC ((idx l ((i/2:Nat):Int)).getD J).lo else((idx l ((i/2:Nat):Int)).getD J).hi⟩
def famP (m:Model)(c:Constraint):Bool:=Z (0<=c.family)&&Z (c.family<(m.zu1.length:Int))
def zfl (K:Nat)(c:Constraint):Bool:=c.kind==0&&c.first==0&&c.size==0&&zvE K c.row
def acyP (m:Model)(c:Constraint):Bool:=c.kind==1&&zhm m c
def conP (m:Model)(l:List Range)(i:Nat)(c:Constraint):Bool:=famP m c&&(zfl l.length c||acyP m c)&&(!decide (i/2<l.length)||c.kind==0&&Z (c.row=zd7 l i))
def zyl (m:Model)(l:List Range):Bool:=Z (m.constraints.length<=512)&&Z (2*l.length<=m.constraints.length)&&allR (λi=>conP m l i<|(idx m.constraints (i:Int)).getD J) 0 m.constraints.length
theorem quo2 {i:Nat}(h:i<1000000):zv1 (i:Int) 2=O ((i/2:Nat):Int):=by unfold zv1;rw[if_neg<|by decide,vQ<|by omega,z9 (by omega)<|by omega];congr 1
theorem rem2 {i:Nat}:zv2 (i:Int) 2=O ((i%2:Nat):Int):=by
 unfold zv2;grind
theorem mul2 {i:Nat}(h:i<1000000):zuZ 2 (i:Int)=((2*i:Nat):Int):=by grind[zuZ,z9]
theorem zhd {n}{m}{l}(hS:zvn m)(hc:∀t∈m.tables,t.zuO.all (zvJ m.zuU)=U)(hK:l.length<100000)(hn:1000000<=n):zah n ⟨m,l⟩=O (zyl m l):=by
 have hcl:=hS.constraints;have htl:=hS.tables;unfold zah zyl;simp only[mul2<|show l.length<1000000 by omega];by_cases h0:(Z (m.constraints.length<=512)&&Z (2*l.length<=m.constraints.length))=U
 ·rw[h0,yA];simp only[yc,yf]at h0;rw[if_neg<|by grind];have:=zgG (body:=zah.l1 n ⟨m,l⟩) (len:=m.constraints.length) (n:=n) (st:=λi=>(i:Int)) (λi=>conP m l i<|(idx m.constraints (i:Int)).getD J) (O M) (O U) (λrec i hi=>?_) (λrec=>?_)<|by omega
  ·grind
  ·have hterms:=hS.con _<|yg hi;simp only[zah.l1,jn,zB hi,if_true,zb hi,ya,zaH,yj,zjF (j:=⟨m,l⟩) (r:=m.constraints[i].row) (show m.constraints[i].row.zuQ.length<1000000 by omega) hn,zlk (j:=⟨m,l⟩) (c:=m.constraints[i]) hc (show m.tables.length<1000000 by omega) hn,yp,yw,grd,quo2<|show i<1000000 by omega,rem2,zrL (r:=m.constraints[i].row) (show m.constraints[i].row.zuQ.length<1000000 by omega) hn,ze (i:=i)<|by omega];have hfam:(Z (0<=m.constraints[i].family)&&Z (m.constraints[i].family<(m.zu1.length:Int)))=famP m m.constraints[i]:=rfl;rw[hfam];cases hf:famP m m.constraints[i]with
   |false=>grind[conP]|true=>
    simp only[uf,ye,if_false];have hrest:∀(X:Bool),X=(zfl l.length m.constraints[i]||acyP m m.constraints[i])->(if X=U then if Z (((i/2:Nat):Int)<(l.length:Int))=U then(idx l ((i/2:Nat):Int)).bind λx81=>if(((i%2:Nat):Int)==0)=U then if(m.constraints[i].kind !=0||!decide (m.constraints[i].row=(⟨[⟨((i/2:Nat):Int),-1⟩],zvC x81.lo⟩:Row)))=U then O M else rec ((i+1:Nat):Int)else if(m.constraints[i].kind !=0||!decide (m.constraints[i].row=(⟨[⟨((i/2:Nat):Int),1⟩],x81.hi⟩:Row)))=U then O M else rec ((i+1:Nat):Int)else rec ((i+1:Nat):Int)else O M)=if conP m l i m.constraints[i]=U then rec ((i+1:Nat):Int)else O false:=by intro X hX;unfold conP;rw[hf,<-hX];cases X with
     |false=>simp|true=>
      simp only[if_true,yA];by_cases hlt:i/2<l.length
      ·rw[if_pos<|zjE hlt,zb hlt,ya];simp only[hlt,decide_true,uf,uI,zd7,zb hlt,yj];grind
      grind
    by_cases hk:m.constraints[i].kind=0;·rw[if_pos<|by simp[hk]];grind[zfl,acyP,zvE,bne]
    ·rw[if_neg<|by simp[hk]];have hX:(zfl l.length m.constraints[i]||acyP m m.constraints[i])=(m.constraints[i].kind==1&&zhm m m.constraints[i]):=by simp[zfl,acyP,hk]
     rw[<-hrest _ hX.symm];cases h1:m.constraints[i].kind==1<;>cases h3:zhm m m.constraints[i]<;>simp[bne,h1]
  ·simp[zah.l1]
 grind
theorem zqN {m l}(h2:2*l.length<=m.constraints.length):allR (λi=>conP m l i<|(idx m.constraints (i:Int)).getD J) 0 m.constraints.length=(allR (λi=>Z (((idx m.constraints ((2*i:Nat):Int)).getD J).row=zd7 l (2*i))&&Z (((idx m.constraints ((2*i+1:Nat):Int)).getD J).row=zd7 l (2*i+1))) 0 l.length&&allR (λi=>famP m ((idx m.constraints (i:Int)).getD J)&&(zfl l.length ((idx m.constraints (i:Int)).getD J)||Z (2*l.length<=i)&&acyP m ((idx m.constraints (i:Int)).getD J))) 0 m.constraints.length):=by
 rw[we,yc,zjq,zjq,zjq];constructor
 ·intro h;refine⟨λj hj=>?_,λi hi=>?_⟩
  ·have ha:=h (2*j) (by omega);have hb:=h (2*j+1) (by omega);simp only[conP,yc,yG,yz,yJ,yf]at ha hb|-;grind
  ·have ha:=h i hi;simp only[conP,yc,yG,yz,yJ,yf]at ha|-;refine⟨ha.1.1,?_⟩;rcases ha.1.2 with e|e;·grind
   ·refine .inr ⟨?_,e⟩;rcases ha.2 with f|f;·omega
    ·simp only[acyP,yc,beq_iff_eq]at e;grind
 ·rintro⟨ha,hb⟩i hi;have hb:=hb i hi;simp only[conP,yc,yG,yz,yJ,yf]at hb|-;refine⟨⟨hb.1,hb.2.imp id (·.2)⟩,?_⟩;by_cases hlt:i/2<l.length
  ·right;have ha:=ha (i/2) hlt;simp only[yc,yf]at ha;rcases hb.2 with e|e
   ·refine⟨?_,?_⟩;·simp only[zfl,yc]at e;exact e.1.1.1
    ·by_cases hm:i%2=0
     ·have:=ha.1;rwa[show 2*(i/2)=i by omega]at this
     ·have:=ha.2;rwa[show 2*(i/2)+1=i by omega]at this
   ·omega
  ·exact .inl hlt
theorem zhe {n}{m}(hS:zvn m)(hL:zbx m.zuU m.tables=U)(hn:1000000<=n):zaa n m=O (zyl m<|zY m.zuU U m.tables):=by
 have hcl:=hS.constraints;have htl:=hS.tables;have hsl:=hS.zuU;obtain⟨l1,l2,l3,l4⟩:=zbZ hL;have hlen:=zdt (sizes:=m.zuU) (s:=U) (l:=m.tables) λx hx=>(l4 x hx).2.2.2.2;unfold zaa zcA zyl;rw[ze3 hn (by omega) (by omega) λt ht=>by have:=hS.tab t ht;omega,hL,if_pos rfl];generalize zY m.zuU U m.tables=l at hlen;simp only[ya,mul2<|show l.length<1000000 by omega];by_cases h0:(Z (m.constraints.length<=512)&&Z (2*l.length<=m.constraints.length))=U
 ·rw[h0,yA];simp only[yc,yf]at h0;rw[if_neg<|by grind,zqN h0.2];have first:=zgG (body:=zaa.l1 n m l) (len:=l.length) (n:=n) (st:=λi=>(i:Int)) (λi=>Z (((idx m.constraints ((2*i:Nat):Int)).getD J).row=zd7 l (2*i))&&Z (((idx m.constraints ((2*i+1:Nat):Int)).getD J).row=zd7 l (2*i+1))) (O M) (zuR (zaa.l2 n m l) n 0) (λrec i hi=>?_) (λrec=>?_)<|by omega
  ·simp only[wi]at first;rw[first];have second:=zgG (body:=zaa.l2 n m l) (len:=m.constraints.length) (n:=n) (st:=λi=>(i:Int)) (λi=>famP m ((idx m.constraints (i:Int)).getD J)&&(zfl l.length ((idx m.constraints (i:Int)).getD J)||Z (2*l.length<=i)&&acyP m ((idx m.constraints (i:Int)).getD J))) (O M) (O U) (λrec i hi=>?_) (λrec=>?_)<|by omega
   ·grind
   ·have hterms:=hS.con _<|yg hi;have hd:Z (zuZ 2 (l.length:Int)<=(i:Int))=Z (2*l.length<=i):=by rw[mul2<|by omega];exact decide_eq_decide.2<|by omega
    simp only[zaa.l2,zB hi,if_true,zb hi,ya,yj,zlX (r:=m.constraints[i].row) (show m.constraints[i].row.zuQ.length<1000000 by omega) hn,znV (m:=m) (c:=m.constraints[i]) (λt ht=>(l4 t ht).2.2.2.1) (show m.tables.length<1000000 by omega) hn,yp,yw,grd,ze (i:=i)<|by omega,hd];have hfam:(Z (m.constraints[i].family<0)||decide ((m.zu1.length:Int)<=m.constraints[i].family))=!famP m m.constraints[i]:=by
     unfold famP;rw[Bool.not_and,<-decide_not,<-decide_not];congr 1;·exact decide_eq_decide.2<|by omega
     ·exact decide_eq_decide.2<|by omega
    rw[hfam];cases famP m m.constraints[i]with
    |false=>simp|true=>have hp:(m.constraints[i].kind==0&&m.constraints[i].first==0&&m.constraints[i].size==0&&zvE l.length m.constraints[i].row)=zfl l.length m.constraints[i]:=rfl;rw[hp];unfold acyP;cases zfl l.length m.constraints[i]<;>cases Z<|2*l.length<=i<;>cases m.constraints[i].kind==1<;>cases zhm m m.constraints[i]<;>simp
   ·simp[zaa.l2]
  ·have h2i:2*i<m.constraints.length:=by omega
   have h2j:2*i+1<m.constraints.length:=by omega
   have t1:=hS.con _<|yg h2i;have t2:=hS.con _<|yg h2j;have e1:zd7 l (2*i)=⟨[⟨(i:Int),-1⟩],zvC l[i].lo⟩:=by unfold zd7;rw[show 2*i/2=i by omega,if_pos<|by omega,if_pos<|by omega,zb hi];rfl
   have e2:zd7 l (2*i+1)=⟨[⟨(i:Int),1⟩],l[i].hi⟩:=by unfold zd7;rw[show(2*i+1)/2=i by omega,if_neg<|by omega,if_neg<|by omega,zb hi];rfl
   have hadd:zuN ((2*i:Nat):Int) 1=((2*i+1:Nat):Int):=ze (by omega);simp only[zaa.l1,zB hi,if_true,zb hi,mul2<|show i<1000000 by omega,zb h2i,hadd,zb h2j,ya,yj,zlA (show m.constraints[2*i].row.zuQ.length<1000000 by omega) hn,zlA (show m.constraints[2*i+1].row.zuQ.length<1000000 by omega) hn,yp,yw,grd,ze (i:=i)<|by omega,e1,e2];cases Z<|m.constraints[2*i].row=⟨[⟨(i:Int),-1⟩],zvC l[i].lo⟩<;>cases Z<|m.constraints[2*i+1].row=⟨[⟨(i:Int),1⟩],l[i].hi⟩<;>simp
  ·simp[zaa.l1]
 grind
theorem zao {α S R:Type}{body}{l:List α}{n}{st:Nat->S}(p)(F T:Option R)(hb:∀rec i(hi),body rec (st i)=if p l[i]=U then rec<|st<|i+1 else F)(he:∀rec,body rec (st l.length)=T)(hn:l.length<n):zuR body n (st 0)=if l.all p=U then T else F:=by
 have:=zy (body:=body) (len:=l.length) (st:=st) (g:=λi=>if(l.drop i).all p=U then T else F) (λrec i hi a=>?_) (λrec=>?_) n 0 (ym _)<|by omega
 ·grind
 ·grind[zk]
 grind
def zdg (sizes:List Int)(c:Int):Int:=sizes.getD c.toNat 0
def digR (sizes:List Int):List Int->Int->List Int|[],_=>[]|c::l,k=>k.tmod (zdg sizes c)::digR sizes l (w64<|k.tdiv<|zdg sizes c)
def zpO (sizes cols:List Int)(k:Int):List Int:=(digR sizes cols.reverse k).reverse
theorem ziG {sizes}(hs:sizes.all zcO=U){c}(hc:zvJ sizes c=U):1<=zdg sizes c/\zdg sizes c<=6:=by
 simp only[zvJ,yc,yf]at hc;obtain⟨k,rfl⟩:=y9 hc.1;have b:k<sizes.length:=by omega
 have a:=yq.1 hs _<|yg b;simp only[zcO]at a;grind[zdg]
theorem zrQ {r}{done}{x:Int}:sto (xy (r+1) 0++done) (r:Int) x=O (xy r 0++x::done):=by
 unfold sto;rw[if_pos<|by grind];grind[Int.toNat_natCast,u6]
theorem zq5 {r}{done:List Int}:∃x,idx (xy (r+1) 0++done) (r:Int)=O x:=⟨_,zb<|by grind⟩
theorem zpN {α:Type}{l:List α}{r}(h):(l.take<|r+1).reverse=l[r]::(l.take r).reverse:=by simp_all
theorem zjv {n}{sizes}{t}{i}(hs:sizes.all zcO=U)(hc:t.zuO.all (zvJ sizes)=U)(hl:t.zuO.length<1000000):∀(m r)(done)(k),r<m->r<=t.zuO.length->zuR (zbe.l2 n sizes i t) m (xy r 0++done,k,(r:Int)-1)=O (i,(digR sizes (t.zuO.take r).reverse k).reverse++done,U)
 |0,_,_,_,h,_=>by omega|m+1,0,done,k,_,_=>by simp[zuR,zbe.l2,digR]|m+1,r+1,done,k,h,o=>by
  have d:=by omega
  have a:=yq.1 hc _<|yg d;have j:=ziG hs a;have e:(r+1:Nat)-1=(r:Int):=by omega
  obtain⟨x,p⟩:=zq5 (r:=r) (done:=done);have b:zv2 k (zdg sizes t.zuO[r])=O (k.tmod<|zdg sizes t.zuO[r]):=by unfold zv2;grind
  have c:zv1 k (zdg sizes t.zuO[r])=O (w64<|k.tdiv<|zdg sizes t.zuO[r]):=by unfold zv1;grind
  have g:=zf6 a;have f:zuY r 1=r-1:=by grind[zuY,z9]
  have l:Z (0<=r)=true:=by simp
  unfold zdg at b c;simp only[zuR,zbe.l2,e,zb d,g,b,c,zrQ,ya,f];rw[zjv hs hc hl m r _ _ (by omega)<|by omega,zpN d];grind[digR,zdg]
theorem zlW {n}{sizes cols}(hs:sizes.all zcO=U)(hc:cols.all (zvJ sizes)=U)(hl:cols.length<1000000):∀(m r)(done)(k),r<m->r<=cols.length->zuR (zdN.l1 n sizes cols) m (xy r 0++done,k,(r:Int)-1)=O ((digR sizes (cols.take r).reverse k).reverse++done)
 |0,_,_,_,h,_=>by omega|m+1,0,done,k,_,_=>by simp[zuR,zdN.l1,digR]|m+1,r+1,done,k,h,l=>by
  have d:=by omega
  have a:=yq.1 hc _<|yg d;have i:=ziG hs a;have e:(r+1:Nat)-1=(r:Int):=by omega
  obtain⟨x,o⟩:=zq5 (r:=r) (done:=done);have b:zv2 k (zdg sizes cols[r])=O (k.tmod<|zdg sizes cols[r]):=by unfold zv2;grind
  have c:zv1 k (zdg sizes cols[r])=O (w64<|k.tdiv<|zdg sizes cols[r]):=by unfold zv1;grind
  have g:=zf6 a;have f:zuY r 1=r-1:=by grind[zuY,z9]
  have j:Z (0<=r)=true:=by simp
  unfold zdg at b c;simp only[zuR,zdN.l1,e,zb d,g,b,c,zrQ,ya,f];rw[zlW hs hc hl m r _ _ (by omega)<|by omega,zpN d];grind[digR,zdg]
theorem mkl_0 {b k:Nat}(h:k*b<=140737488355328):mkl b (k:Int) (0:Int)=O (xy k 0):=by unfold mkl;grind
theorem zk7 {k:Nat}(h:k<1000000):zuY (k:Int) 1=(k:Int)-1:=by grind[zuY,z9]
theorem znP {n}{sizes cols}{k}(hs:sizes.all zcO=U)(hc:cols.all (zvJ sizes)=U)(hl:cols.length<=1000)(hn:1000000<=n):zdN n sizes cols k=O (zpO sizes cols k):=by
 unfold zdN;rw[mkl_0<|by omega,ya,zk7<|by omega];have:=zlW (n:=n) hs hc (by omega) n cols.length [] k (by omega)<|yk _;grind[zpO]
def hitP (sizes:List Int)(s:Bool)(cell:Int)(t:Table):Bool:=zbB t.kind==s&&(Z (0<=zuY cell t.first)&&Z (zuY cell t.first<zau sizes t.zuO 1))
def resT (sizes:List Int)(s:Bool)(cell:Int):List Table->Nat->Int×List Int×Bool|[],_=>(0,[],M)|t::l,i=>if hitP sizes s cell t=U then((i:Int),zpO sizes t.zuO<|zuY cell t.first,U)else resT sizes s cell l<|i+1
def zxl (sizes:List Int)(tables:List Table)(s:Bool)(cell:Int):Int×List Int×Bool:=if(zbx sizes tables&&Z (0<=cell))=U then resT sizes s cell tables 0 else(0,[],M)
theorem zle {n}{sizes}{tables}{s}{cell}(hF:Fuel n)(hs:sizes.length<=1000)(ht:tables.length<=1000)(hc:∀t∈tables,t.zuO.length<=1000):zbe n sizes tables s cell=O (zxl sizes tables s cell):=by have hn:=hF.big;unfold zbe zxl;rw[zft hF hs ht hc,ya];cases hL:zbx sizes tables with
 |false=>simp|true=>
  obtain⟨l1,l2,l3,l4⟩:=zbZ hL;by_cases h0:0<=cell
  ·have:=zy (body:=zbe.l1 n sizes tables s cell) (len:=tables.length) (st:=λi=>i) (g:=λi=>O<|resT sizes s cell (tables.drop i) i) (λrec i hi hr=>?_) (λrec=>?_) n 0 (ym _)<|by omega
   ·grind
   ·obtain⟨-,-,c1,c2,c3,c4⟩:=l4 _<|yg hi;simp only[zbe.l1,zB hi,zb hi,ya,zck,zfu c2 (show tables[i].zuO.length<4611686018427387904 by omega)<|show tables[i].zuO.length<n by omega,grd,ze (i:=i)<|by omega,mkl_0 (b:=8) (k:=tables[i].zuO.length)<|by omega,uD,zk7<|show tables[i].zuO.length<1000000 by omega];have hdig:=zjv (n:=n) (i:=(i:Int)) l3 c2 (by omega) n tables[i].zuO.length [] (zuY cell tables[i].first) (by omega)<|yk _;simp only[ue,wJ]at hdig;rw[hdig,zk hi,resT];have hh:((tables[i].kind==0||tables[i].kind==1)!=s||decide (zuY cell tables[i].first<0)||decide (zau sizes tables[i].zuO 1<=zuY cell tables[i].first))=!hitP sizes s cell tables[i]:=by
     unfold hitP zbB;grind
    grind[hitP,zpO]
   ·simp[zbe.l1,resT]
  grind
theorem zln {n}{sizes}{tables}{s}{cell}(hn:1000000<=n)(hs:sizes.length<=1000)(ht:tables.length<=1000)(hc:∀t∈tables,t.zuO.length<=1000/\t.name.length<=4096):zcG n sizes tables s cell=O (zxl sizes tables s cell):=by unfold zcG zxl;rw[zfx hn hs ht hc,ya];cases d:zbx sizes tables with
 |false=>simp|true=>
  obtain⟨m,j,e,f⟩:=zbZ d;have:=zy (body:=zcG.l1 n sizes tables s cell) (len:=tables.length) (st:=λi=>i) (g:=λi=>O<|if Z (0<=cell)=U then resT sizes s cell (tables.drop i) i else(0,[],M)) (λa i b k=>?_) (λa=>?_) n 0 (ym _)<|by omega
  ·grind
  ·obtain⟨-,-,l,h,o,p⟩:=f _<|yg b;have c:=ze4 (n:=n) (sizes:=sizes) (cols:=tables[i].zuO) (by omega) (by omega) (by omega) (by omega);simp only[zcG.l1,zb b,ya,zch,grd,ze (i:=i)<|by omega,znP e h (show tables[i].zuO.length<=1000 by omega) hn];rw[zk b,resT];unfold hitP zbB;grind
  ·simp[zcG.l1,resT]
theorem zrr {sizes}{s}{cell}:∀(l)(i),(resT sizes s cell l i).2.2=U->∃k:Nat,(resT sizes s cell l i).1=(k:Int)/\i<=k/\k<i+l.length
 |[],_,h=>by grind[resT]|t::l,i,h=>by
  rw[resT]at h|-;split at h;·grind
  ·rename_i b;obtain⟨k,e,c,a⟩:=zrr l (i+1) h;grind
theorem zno {sizes}{tables}{s}{cell}(h:(zxl sizes tables s cell).2.2=U):∃t,idx tables (zxl sizes tables s cell).1=O t:=by
 unfold zxl at h|-;split at h;·rename_i a;rw[if_pos a];obtain⟨k,e,-,b⟩:=zrr tables 0 h;rw[e];exact⟨_,zb<|by omega⟩
 grind
theorem zqF {sizes}{tables}{s}{cell}(h:cell<0):(zxl sizes tables s cell).2.2=false:=by
 unfold zxl;grind
def updT (t:Table)(u:zwp):Bool:=if(t.kind==2||t.kind==3)=U then(u.kind==0||u.kind==1)&&u.value==0 else u.kind==2&&Z (t.range.lo<=u.value)&&Z (u.value<=t.range.hi)
def updP (m:Model)(u:zwp):Bool:=(zxl m.zuU m.tables M u.cell).2.2&&updT ((idx m.tables (zxl m.zuU m.tables M u.cell).1).getD J) u
def zw9 (m:Model):Int->List zwp->Bool|_,[]=>U|last,u::l=>Z (last<u.cell)&&updP m u&&zw9 m u.cell l
theorem zkO {n}{m}{l}{u}(hF:Fuel n)(hS:zvn m):zcf n ⟨m,l⟩ u=O (updP m u):=by unfold zcf updP;have c:=hS.zuU;have b:=hS.tables;simp only[];rw[zle hF (by omega) (by omega) λt h=>by have:=hS.tab t h;omega,ya];cases a:(zxl m.zuU m.tables M u.cell).2.2 with
 |false=>simp|true=>
  obtain⟨t,b⟩:=zno a;simp only[jn,updT];grind
def opP (m:Model)(o:zvp):Bool:=Z (o.zuU.length<=3)&&o.zuU.all λs=>Z (-1<=s)&&Z (s<(m.zuU.length:Int))
def opsP (m:Model):Bool:=m.zuS.all (opP m)&&(Z (m.zuS.length<=8)&&zwQ [] (m.zuS.map (·.name)))
theorem zdK {α β:Type}{f:α->β}{l:List α}{i}(hi):(l.take i).map f++[f l[i]]=(l.take<|i+1).map f:=by grind[wx]
theorem zhJ {n}{m}{l}(hF:Fuel n)(hS:zvn m):zP n ⟨m,l⟩=O (opsP m):=by
 have hn:=hF.big;have hol:=hS.zuS;unfold zP opsP;have:=zao (body:=zP.l1 n ⟨m,l⟩) (l:=m.zuS) (n:=n) (st:=λi=>((m.zuS.take i).map (·.name),(i:Int))) (opP m) (O M) (O<|Z (m.zuS.length<=8)&&zwQ [] (m.zuS.map (·.name))) (λrec i hi=>?_) (λrec=>?_)<|by omega
 ·grind
 ·have hop:=hS.op _<|yg hi;simp only[zP.l1,zb hi,ya];rw[zl<|by grind,ya,zbt (p:=λs=>!(Z (-1<=s)&&Z (s<(m.zuU.length:Int)))) (λx _=>by
   simp only[zbK,Bool.not_and,<-decide_not];grind) (by omega)<|by omega];simp only[grd,ze (i:=i)<|by omega,zdK hi];have h3:Z (3<(m.zuS[i].zuU.length:Int))=!decide (m.zuS[i].zuU.length<=3):=by grind
  grind[opP]
 ·simp only[zP.l1,ye,if_false,wJ];rw[zfN hF<|by grind];simp only[yp,yw,grd,if_true,yj,yL,yo];grind
def zhk (K:Nat):Int->List Change->Bool|_,[]=>U|last,d::l=>Z (last<d.cell)&&Z (d.cell<(K:Int))&&d.add !=0&&zaZ d.add 1000000000&&zhk K d.cell l
def effP (m:Model)(K:Nat)(x:zvL):Bool:=zhk K (-1) x.delta&&(zw9 m (-1) x.zuX&&(Z (x.hold.length<=8)&&Z (x.zuX.length<=32)&&x.hold.all (zvE K)))
theorem zkM {n m l x}(hF:Fuel n)(hS:zvn m)(h1:x.delta.length<=1000)(h2:x.zuX.length<=1000)(h3:x.hold.length<=1000)(h4:∀r∈x.hold,r.zuQ.length<=1000):zU n ⟨m,l⟩ x=O (effP m l.length x):=by
 have hn:=hF.big;have T:zuR (zU.l2 n ⟨m,l⟩ x) n (-1,0)=O (zw9 m (-1) x.zuX&&(Z (x.hold.length<=8)&&Z (x.zuX.length<=32)&&x.hold.all (zvE l.length))):=by
  have:=zbf (body:=zU.l2 n ⟨m,l⟩ x) (len:=x.zuX.length) (st:=λ(s:Int)i=>(s,(i:Int))) (g:=λi s=>O<|zw9 m s (x.zuX.drop i)&&(Z (x.hold.length<=8)&&Z (x.zuX.length<=32)&&x.hold.all (zvE l.length))) (λ_ _=>True) (λrec i s hi _ hr=>?_) (λrec s _=>?_) n 0 (-1) (ym _) (by omega) trivial;·simpa using this
  ·simp only[zU.l2,zB hi,if_true,zb hi,ya,zkO hF hS,yp,yw,grd,yj,ze (i:=i)<|by omega,hr x.zuX[i].cell trivial];rw[zk hi,zw9];by_cases hlt:s<x.zuX[i].cell
   ·have hd:Z (x.zuX[i].cell<=s)=false:=by simp;omega
    rw[hd];cases updP m x.zuX[i]<;>simp[hlt]
   ·have hd:Z (x.zuX[i].cell<=s)=true:=by simp;omega
    rw[hd];simp[hlt]
  ·have hc:zp n x.hold (λq0=>zbR n q0 ⟨m,l⟩)=O (x.hold.any λr=>!zvE l.length r):=zcW (λr hr=>by unfold zbR;rw[zjF (by have:=h4 r hr;omega)<|by omega];rfl) (by omega)<|by omega
   simp only[zU.l2,zat,ye,if_false,hc,yp,yw,grd,if_true,yj,zoo,xS,zw9,yA,yo];congr 2;·exact decide_eq_decide.2<|by omega
   ·exact decide_eq_decide.2<|by omega
 have:=zbf (body:=zU.l1 n ⟨m,l⟩ x) (len:=x.delta.length) (st:=λ(s:Int)i=>(s,(i:Int))) (g:=λi s=>O<|zhk l.length s (x.delta.drop i)&&(zw9 m (-1) x.zuX&&(Z (x.hold.length<=8)&&Z (x.zuX.length<=32)&&x.hold.all (zvE l.length)))) (λ_ _=>True) (λrec i s hi _ hr=>?_) (λrec s _=>?_) n 0 (-1) (ym _) (by omega) trivial;·simpa[zU,effP]using this
 ·simp only[zU.l1,zB hi,if_true,zb hi,ya,zzf,yp,yw,grd,yj,ze (i:=i)<|by omega,hr x.delta[i].cell trivial];rw[zk hi,zhk];by_cases h:(Z (s<x.delta[i].cell)&&Z (x.delta[i].cell<(l.length:Int))&&x.delta[i].add !=0&&zaZ x.delta[i].add 1000000000)=U;·rw[h,yA];simp only[yc,yf,bne_iff_ne]at h;rw[if_neg<|by simp[h.2,h.1.2];omega]
  ·rw[if_pos<|by
    simp only[yc,yf,bne_iff_ne,ne_eq]at h;simp only[yG,yf,beq_iff_eq,yz,<-yR];by_cases ha:zaZ x.delta[i].add 1000000000=U;·left;simp only[ha,and_true]at h;omega
    ·exact .inr ha];simp only[yR]at h;rw[h];rfl
 ·simp only[zU.l1,zat,ye,if_false,T,xS,zhk,yA]
theorem zmW {n m x}(hn:1000000<=n)(hS:zvn m)(hL:zbx m.zuU m.tables=U)(h1:x.delta.length<=1000)(h2:x.zuX.length<=1000)(h3:x.hold.length<=1000)(h4:∀r∈x.hold,r.zuQ.length<=1000):zaf n m x=O (effP m (zY m.zuU U m.tables).length x):=by
 have htl:=hS.tables;have hsl:=hS.zuU;have hcs:∀t∈m.tables,t.zuO.length<=1000/\t.name.length<=4096:=λt ht=>by have:=hS.tab t ht;omega
 unfold zaf zcA;rw[ze3 hn (by omega) (by omega) hcs,hL,if_pos rfl];generalize zY m.zuU U m.tables=l;simp only[ya];have T3:zuR (zaf.l3 n m x) n 0=O (zw9 m (-1) x.zuX&&(Z (x.hold.length<=8)&&Z (x.zuX.length<=32))):=by
  have:=zbf (body:=zaf.l3 n m x) (len:=x.zuX.length) (st:=λ(_:Int)i=>(i:Int)) (g:=λi s=>O<|zw9 m s (x.zuX.drop i)&&(Z (x.hold.length<=8)&&Z (x.zuX.length<=32))) (λi s=>-1<=s/\(i=0/\s=-1\/0<i/\∃y,idx x.zuX (zuY (i:Int) 1)=O y/\y.cell=s)) (λrec i s hi hI hr=>?_) (λrec s _=>?_) n 0 (-1) (ym _) (by omega) ⟨by omega,.inl ⟨rfl,rfl⟩⟩;·simpa using this
  ·obtain⟨h1,h2⟩:=hI;have hprev:(Z (0<(i:Int))&&Z (x.zuX[i].cell<=((idx x.zuX<|zuY (i:Int) 1).getD J).cell))=(Z (0<i)&&Z (x.zuX[i].cell<=s))/\(! Z (0<(i:Int))||(idx x.zuX<|zuY (i:Int) 1).isSome)=true:=by
    rcases h2 with⟨h2,h3⟩|⟨h2,y,h3,h4⟩;·subst h2;simp
    ·rw[h3];simp[h4,h2]
   have hnext:-1<=x.zuX[i].cell->rec ((i+1:Nat):Int)=O (zw9 m x.zuX[i].cell (x.zuX.drop<|i+1)&&(Z (x.hold.length<=8)&&Z (x.zuX.length<=32))):=λh=>hr x.zuX[i].cell ⟨h,.inr ⟨by omega,x.zuX[i],by rw[ze9 (by omega)<|by omega,show i+1-1=i by omega,zb hi],rfl⟩⟩;simp only[zaf.l3,zB hi,if_true,zb hi,ya,zln (cell:=x.zuX[i].cell) (s:=M) hn (show m.zuU.length<=1000 by omega) (show m.tables.length<=1000 by omega) hcs,hprev.1,hprev.2,yw,grd,ziy,ze (i:=i)<|by omega];rw[zk hi,zw9];unfold updP;cases hok:(zxl m.zuU m.tables M x.zuX[i].cell).2.2 with|false=>simp|true=>
    obtain⟨t,ht⟩:=zno hok;have hge:0<=x.zuX[i].cell:=by
     by_cases h:x.zuX[i].cell<0;·rw[zqF h]at hok;cases hok
     ·omega
    have hasc:(Z (0<i)&&Z (x.zuX[i].cell<=s))=!decide (s<x.zuX[i].cell):=by rw[<-decide_not,<-Bool.decide_and];refine decide_eq_decide.2 ?_;rcases h2 with⟨h2,h3⟩|⟨h2,-⟩<;>omega
    rw[hasc,hnext<|by omega];simp only[ht,uf,uI,ya,yj,yA];cases Z<|s<x.zuX[i].cell with
    |false=>simp|true=>
     simp only[uf,ye,if_false,yA];unfold updT;by_cases hset:(t.kind==2||t.kind==3)=U;·rw[hset];simp only[if_true,yA,uf,uh,ye,if_false];cases hk0:x.zuX[i].kind==0<;>cases hk1:x.zuX[i].kind==1<;>cases hv:x.zuX[i].value==0<;>simp[bne,hk0,hk1,hv]
     ·simp only[yR]at hset;rw[hset];simp only[uh,ye,if_false,ur,yA];have e1:Z (x.zuX[i].value<t.range.lo)=!decide (t.range.lo<=x.zuX[i].value):=by rw[<-decide_not];exact decide_eq_decide.2<|by omega
      have e2:Z (t.range.hi<x.zuX[i].value)=!decide (x.zuX[i].value<=t.range.hi):=by rw[<-decide_not];exact decide_eq_decide.2<|by omega
      rw[e1,e2];cases hk0:x.zuX[i].kind==2<;>cases Z<|t.range.lo<=x.zuX[i].value<;>cases Z<|x.zuX[i].value<=t.range.hi<;>simp[bne,hk0]
  ·simp only[zaf.l3,zat,ye,if_false,xS,zw9,yA,yo];congr 1;·exact decide_eq_decide.2<|by omega
   ·exact decide_eq_decide.2<|by omega
 have T2:zuR (zaf.l2 n m x l) n 0=if x.hold.all (zvE l.length)=U then O<|zw9 m (-1) x.zuX&&(Z (x.hold.length<=8)&&Z (x.zuX.length<=32))else O false:=by
  have:=zao (body:=zaf.l2 n m x l) (l:=x.hold) (n:=n) (st:=λi=>(i:Int)) (zvE l.length) (O M) (O<|zw9 m (-1) x.zuX&&(Z (x.hold.length<=8)&&Z (x.zuX.length<=32))) (λrec i hi=>?_) (λrec=>?_)<|by omega
  ·simpa using this
  ·simp only[zaf.l2,zB hi,if_true,zb hi,ya,zlX (show x.hold[i].zuQ.length<1000000 by have:=h4 _<|yg hi;omega) hn,ze (i:=i)<|by omega];cases zvE l.length x.hold[i]<;>simp
  ·simp only[zaf.l2,zat,ye,if_false,T3]
 have:=zbf (body:=zaf.l1 n m x l) (len:=x.delta.length) (st:=λ(_:Int)i=>(i:Int)) (g:=λi s=>O<|zhk l.length s (x.delta.drop i)&&(zw9 m (-1) x.zuX&&(Z (x.hold.length<=8)&&Z (x.zuX.length<=32)&&x.hold.all (zvE l.length)))) (λi s=>-1<=s/\(i=0/\s=-1\/0<i/\∃y,idx x.delta (zuY (i:Int) 1)=O y/\y.cell=s)) (λrec i s hi hI hr=>?_) (λrec s _=>?_) n 0 (-1) (ym _) (by omega) ⟨by omega,.inl ⟨rfl,rfl⟩⟩;·simpa[effP]using this
 ·obtain⟨h1,h2⟩:=hI;have hprev:(Z (0<(i:Int))&&Z (x.delta[i].cell<=((idx x.delta<|zuY (i:Int) 1).getD J).cell))=(Z (0<i)&&Z (x.delta[i].cell<=s))/\(! Z (0<(i:Int))||(idx x.delta<|zuY (i:Int) 1).isSome)=true:=by
   rcases h2 with⟨h2,h3⟩|⟨h2,y,h3,h4⟩;·subst h2;simp
   ·rw[h3];simp[h4,h2]
  simp only[zaf.l1,zB hi,if_true,zb hi,ya,zyP,yp,yw,grd,yj,hprev.1,hprev.2,ze (i:=i)<|by omega];rw[zk hi,zhk];by_cases h:(Z (s<x.delta[i].cell)&&Z (x.delta[i].cell<(l.length:Int))&&x.delta[i].add !=0&&zaZ x.delta[i].add 1000000000)=U;·rw[h,yA];simp only[yc,yf,bne_iff_ne]at h;rw[if_neg<|by simp[h.2,h.1.2];omega,hr x.delta[i].cell ⟨by omega,.inr ⟨by omega,x.delta[i],by rw[ze9 (by omega)<|by omega,show i+1-1=i by omega,zb hi],rfl⟩⟩]
  ·rw[if_pos<|by
    simp only[yc,yf,bne_iff_ne,ne_eq]at h;simp only[yG,yc,yf,beq_iff_eq,yz,<-yR];by_cases ha:zaZ x.delta[i].add 1000000000=U;·left;simp only[ha,and_true]at h;rcases h2 with⟨h2,h3⟩|⟨h2,-⟩<;>omega
    ·exact .inr ha];simp only[yR]at h;rw[h];rfl
 ·simp only[zaf.l1,zat,ye,if_false,T2,xS,zhk,yA];cases x.hold.all<|zvE l.length<;>simp
def cmpP:List Int->List Int->Int|[],[]=>0|[],_::_=>-1|_::_,[]=>1|x::l,y::k=>if x<y then-1 else if y<x then 1 else cmpP l k
def zxy:List Int->List Int->Bool|[],[]=>M|[],_::_=>U|_::_,[]=>M|x::l,y::k=>if x=y then zxy l k else Z<|x<y
theorem zoX:∀a b:List Int,Z (0<=cmpP a b)=!zxy a b
 |[],[]=>rfl|[],_::_=>rfl|_::_,[]=>rfl|x::l,y::k=>by
  simp only[cmpP,zxy];by_cases h:x=y;·subst h;simp[zoX l k]
  ·by_cases h2:x<y;·simp[h,h2]
   ·have:y<x:=by omega
    simp[h,h2,this]
theorem zpV {n a b}(hl:a.length<1000000)(hn:1000000<=n):zr n a b=O (cmpP a b):=by
 have:=zy (body:=zr.l1 n a b) (len:=a.length) (st:=λi=>(i:Int)) (g:=λi=>O<|cmpP (a.drop i)<|b.drop i) (λrec i hi hr=>?_) (λrec=>?_) n 0 (ym _)<|by omega
 ·simpa[zr]using this
 ·simp only[zr.l1,zB hi,if_true,zb hi,ya,ze (i:=i)<|by omega,hr];rw[zk hi];by_cases hb:i<b.length
  ·rw[if_neg<|by simp;omega,zb hb,zk hb];simp only[ya,zct,zdF,bne_self_eq_false,ye,if_false,cmpP,yf];by_cases h1:a[i]<b[i];·simp[h1]
   ·by_cases h2:b[i]<a[i];·simp[h1,h2]
    ·simp[h1,h2]
  ·rw[if_pos<|by simp;omega,show b.drop i=[]from wb<|by omega];rfl
 ·simp only[zr.l1,zat,ye,if_false,xS];by_cases hb:a.length<b.length;·rw[if_pos<|by simpa using hb,zk hb];rfl
  ·rw[if_neg<|by simpa using hb,wb<|by omega];rfl
theorem zoN {n a b}(hl:a.length<1000000)(hn:1000000<=n):zcR n a b=O (zxy a b):=by
 have:=zy (body:=zcR.l1 n a b) (len:=min a.length b.length) (st:=λi=>(i:Int)) (g:=λi=>O<|zxy (a.drop i)<|b.drop i) (λrec i hi hr=>?_) (λrec=>?_) n 0 (ym _)<|by omega
 ·simpa[zcR]using this
 ·have ha:i<a.length:=by omega
  have hb:i<b.length:=by omega
  simp only[zcR.l1,zB ha,zB hb,uQ,if_true,zb ha,zb hb,ya,ze (i:=i)<|by omega,hr];rw[zk ha,zk hb];by_cases h:a[i]=b[i];·simp[h,zxy]
  ·simp[h,zxy]
 ·simp only[zcR.l1];rw[if_neg<|by simp;omega];by_cases ha:a.length<=b.length
  ·rw[vh ha,xS];by_cases hb:a.length<b.length;·rw[zk hb];simp[zxy,hb]
   ·rw[wb<|by omega];simp[zxy];omega
  ·rw[Nat.min_eq_right<|by omega,xS,zk<|by omega];simp[zxy];omega
def argP (m:Model)(s x:Int):Bool:=(!decide (s<0)||zaZ x 9999)&&(!decide (0<=s)||Z (0<=x)&&Z (x<(idx m.zuU s).getD J))
def zyj (m:Model):List Int->List Int->Bool|s::l,x::k=>argP m s x&&zyj m l k|_,_=>U
def opAt (m:Model)(a:Action):zvp:=(idx m.zuS a.operation).getD J
def ordP (b a:Action):Bool:=!decide (a.operation<b.operation)&&(! b.operation==a.operation||zxy b.arguments a.arguments)
def actP (m:Model)(K:Nat)(i:Nat)(a:Action):Bool:=Z (0<=a.operation)&&Z (a.operation<(m.zuS.length:Int))&&a.arguments.length==(opAt m a).zuU.length&&zyj m (opAt m a).zuU a.arguments&&(Z (i=0)||ordP ((idx m.zuP ((i-1:Nat):Int)).getD J) a)&&effP m K a.effect
def zyw (m:Model)(K:Nat):Bool:=Z (m.zuP.length<=256)&&allR (λi=>actP m K i<|(idx m.zuP (i:Int)).getD J) 0 m.zuP.length
theorem zlG {m}{s x:List Int}{k}(h1)(h2:k<x.length):zyj m (s.drop k) (x.drop k)=(argP m s[k] x[k]&&zyj m (s.drop<|k+1) (x.drop<|k+1)):=by rw[zk h1,zk h2];rfl
theorem zpw {m a}(h:(Z (0<=a.operation)&&Z (a.operation<(m.zuS.length:Int)))=U):idx m.zuS a.operation=O (opAt m a)/\opAt m a∈m.zuS:=by
 simp only[yc,yf]at h;obtain⟨o,b⟩:=zaM h.1 h.2;grind[opAt,zaA]
theorem zsn {m:Model}{s}(h0:0<=s)(h:s<(m.zuU.length:Int)):idx m.zuU s=O ((idx m.zuU s).getD J):=by
 obtain⟨x,a⟩:=zaM h0 h;grind
theorem zlR {m}(h:opsP m=U):∀o∈m.zuS,o.zuU.length<=3/\∀s∈o.zuU,-1<=s/\s<(m.zuU.length:Int):=by
 simp only[opsP,yc,yq]at h;intro o a;have:=h.1 o a;simp only[opP]at this;grind
theorem zrm {b a}:(Z (a.operation<b.operation)||b.operation==a.operation&&Z (0<=cmpP b.arguments a.arguments))=!ordP b a:=by grind[zoX,ordP]
theorem ztH {b a}:(Z (a.operation<b.operation)||b.operation==a.operation&&!zxy b.arguments a.arguments)=!ordP b a:=by grind[ordP]
theorem zjT {n}{m}{l}(hF:Fuel n)(hS:zvn m)(hO:opsP m=U):zK n ⟨m,l⟩=O (zyw m l.length):=by
 have hn:=hF.big;have hal:=hS.zuP;unfold zK zyw;by_cases h0:m.zuP.length<=256
 ·rw[if_neg<|by grind,decide_eq_true h0,yA];have:=zgG (body:=zK.l1 n ⟨m,l⟩) (len:=m.zuP.length) (n:=n) (st:=λi=>(i:Int)) (λi=>actP m l.length i<|(idx m.zuP (i:Int)).getD J) (O M) (O U) (λrec i hi=>?_) (λrec=>?_)<|by omega
  ·grind
  ·have hmem:=yg hi;obtain⟨a1,a2,a3,a4,a5⟩:=hS.act _ hmem;simp only[zK.l1,zB hi,if_true,zb hi,ya,zaH,yj];unfold actP;cases hop:Z (0<=m.zuP[i].operation)&&Z (m.zuP[i].operation<(m.zuS.length:Int))with
   |false=>simp[grd]|true=>
    obtain⟨ho,hom⟩:=zpw hop;obtain⟨o1,o2⟩:=zlR hO _ hom;simp only[ho,yp,yw,grd,if_true,yj,uf,uI,yA,ya];by_cases hlen:m.zuP[i].arguments.length=(opAt m m.zuP[i]).zuU.length
    ·rw[if_neg<|by grind];have hle:(m.zuP[i].arguments.length==(opAt m m.zuP[i]).zuU.length)=true:=by grind
     rw[hle,yA];have inner:=zy (body:=zK.l2 n ⟨m,l⟩ i rec m.zuP[i]<|opAt m m.zuP[i]) (len:=(opAt m m.zuP[i]).zuU.length) (st:=λk=>(k:Int)) (g:=λk=>if zyj m ((opAt m m.zuP[i]).zuU.drop k) (m.zuP[i].arguments.drop k)=U then if((Z (i=0)||ordP ((idx m.zuP ((i-1:Nat):Int)).getD J) m.zuP[i])&&effP m l.length m.zuP[i].effect)=U then rec ((i+1:Nat):Int)else O M else O M) (λrec' k hk hr'=>?_) (λrec'=>?_) n 0 (ym _)<|by omega
     ·grind
     ·have hk2:k<m.zuP[i].arguments.length:=by omega
      have hs2:=o2 _<|yg hk;simp only[zK.l2,zB hk,if_true,zb hk,zb hk2,ya,around4,yp,yw,grd,yj,ze (i:=k)<|by omega,hr',zaH];rw[zlG hk hk2];unfold argP;by_cases hneg:(opAt m m.zuP[i]).zuU[k]<0;·grind
      ·have hd1:Z ((opAt m m.zuP[i]).zuU[k]<0)=false:=by simp;omega
       have hd2:Z (0<=(opAt m m.zuP[i]).zuU[k])=true:=by simp;omega
       obtain⟨z,hz⟩:=zaM (l:=m.zuU) (i:=(opAt m m.zuP[i]).zuU[k]) (by omega) hs2.2;rw[hz,hd1,hd2];by_cases h1:0<=m.zuP[i].arguments[k]
       ·by_cases h2:m.zuP[i].arguments[k]<z
        ·have h2':¬z<=m.zuP[i].arguments[k]:=by omega
         simp[h1,h2,h2']
        ·have h2':z<=m.zuP[i].arguments[k]:=by omega
         simp[h1,h2,h2']
       ·simp[h1]
     ·simp only[zK.l2,zat,ye,if_false,jn,xS];rw[zkM hF hS (by omega) (by omega) (by omega) λr hr=>by have:=a5 r hr;omega];simp only[ya,ze (i:=i)<|by omega];have hargs:zyj m [] (m.zuP[i].arguments.drop (opAt m m.zuP[i]).zuU.length)=true:=rfl;rw[hargs,if_pos rfl];by_cases h0i:i=0;·subst h0i;rw[if_neg<|by simp];cases effP m l.length m.zuP[0].effect<;>simp
      ·rw[if_pos<|by simp;omega,ze9 (by omega)<|by omega];have hi1:i-1<m.zuP.length:=by omega
       have b1:=(hS.act _<|yg hi1).1;simp only[zb hi1,ya,zrm,yj,zpV (a:=m.zuP[i-1].arguments) (b:=m.zuP[i].arguments) (show m.zuP[i-1].arguments.length<1000000 by omega)<|show 1000000<=n by omega,yp,yw,if_true,h0i,decide_false,uI];cases ordP m.zuP[i-1] m.zuP[i]<;>cases effP m l.length m.zuP[i].effect<;>simp[grd]
    grind
  ·simp[zK.l1]
 grind
theorem zjW {n}{m}(hn:1000000<=n)(hS:zvn m)(hL:zbx m.zuU m.tables=U):zD n m=O (opsP m&&zyw m (zY m.zuU U m.tables).length):=by
 have hal:=hS.zuP;have hol:=hS.zuS;have hef:∀a∈m.zuP,zaf n m a.effect=O (effP m (zY m.zuU U m.tables).length a.effect):=λa ha=>by
  obtain⟨a1,a2,a3,a4,a5⟩:=hS.act _ ha;grind[zmW]
 generalize(zY m.zuU U m.tables).length=K at hef;have T:opsP m=U->zuR (zD.l3 n m) n 0=O (allR (λi=>actP m K i<|(idx m.zuP (i:Int)).getD J) 0 m.zuP.length):=λhO=>by
  have:=zgG (body:=zD.l3 n m) (len:=m.zuP.length) (n:=n) (st:=λi=>(i:Int)) (λi=>actP m K i<|(idx m.zuP (i:Int)).getD J) (O M) (O U) (λrec i hi=>?_) (λrec=>?_)<|by omega
  ·grind
  ·have hmem:=yg hi;obtain⟨a1,a2,a3,a4,a5⟩:=hS.act _ hmem;simp only[zD.l3,zB hi,if_true,zb hi,ya,yj];have hneg:(Z (m.zuP[i].operation<0)||decide ((m.zuS.length:Int)<=m.zuP[i].operation))=!(Z (0<=m.zuP[i].operation)&&Z (m.zuP[i].operation<(m.zuS.length:Int))):=by grind
   rw[hneg];unfold actP;cases hop:Z (0<=m.zuP[i].operation)&&Z (m.zuP[i].operation<(m.zuS.length:Int))with
   |false=>simp[grd]|true=>
    obtain⟨ho,hom⟩:=zpw hop;obtain⟨o1,o2⟩:=zlR hO _ hom;simp only[ho,yp,yw,grd,if_true,yj,uf,uI,yA];by_cases hlen:m.zuP[i].arguments.length=(opAt m m.zuP[i]).zuU.length
    ·rw[if_neg<|by grind];have hle:(m.zuP[i].arguments.length==(opAt m m.zuP[i]).zuU.length)=true:=by grind
     rw[hle,yA];have inner:=zy (body:=zD.l4 n m i rec m.zuP[i]) (len:=m.zuP[i].arguments.length) (st:=λk=>(k:Int)) (g:=λk=>if zyj m ((opAt m m.zuP[i]).zuU.drop k) (m.zuP[i].arguments.drop k)=U then if((Z (i=0)||ordP ((idx m.zuP ((i-1:Nat):Int)).getD J) m.zuP[i])&&effP m K m.zuP[i].effect)=U then rec ((i+1:Nat):Int)else O M else O M) (λrec' k hk2 hr'=>?_) (λrec'=>?_) n 0 (ym _)<|by omega
     ·grind
     ·have hk:k<(opAt m m.zuP[i]).zuU.length:=by omega
      have hs2:=o2 _<|yg hk;simp only[zD.l4,zB hk2,if_true,ho,zb hk,zb hk2,ya,between4,yp,yw,grd,yj,ze (i:=k)<|by omega,hr'];rw[zlG hk hk2];unfold argP;by_cases hneg:(opAt m m.zuP[i]).zuU[k]<0
      ·have hd1:Z ((opAt m m.zuP[i]).zuU[k]<0)=true:=by simp[hneg]
       have hd2:Z (0<=(opAt m m.zuP[i]).zuU[k])=false:=by simp;omega
       rw[hd1,hd2];cases zaZ m.zuP[i].arguments[k] 9999<;>simp
      ·have hd1:Z ((opAt m m.zuP[i]).zuU[k]<0)=false:=by simp;omega
       have hd2:Z (0<=(opAt m m.zuP[i]).zuU[k])=true:=by simp;omega
       rw[zsn (m:=m) (s:=(opAt m m.zuP[i]).zuU[k]) (by omega) hs2.2,hd1,hd2];simp only[yj];generalize(idx m.zuU (opAt m m.zuP[i]).zuU[k]).getD J=z;by_cases h1:m.zuP[i].arguments[k]<0
       ·have h1':¬0<=m.zuP[i].arguments[k]:=by omega
        simp[h1,h1']
       ·have h1':0<=m.zuP[i].arguments[k]:=by omega
        by_cases h2:z<=m.zuP[i].arguments[k]
        ·have h2':¬m.zuP[i].arguments[k]<z:=by omega
         simp[h1,h1',h2,h2']
        ·have h2':m.zuP[i].arguments[k]<z:=by omega
         simp[h1,h1',h2,h2']
     ·simp only[zD.l4,zat,ye,if_false,jn,xS,hef _ hmem];simp only[ya,ze (i:=i)<|by omega];have hargs:zyj m ((opAt m m.zuP[i]).zuU.drop m.zuP[i].arguments.length) []=true:=by cases(opAt m m.zuP[i]).zuU.drop m.zuP[i].arguments.length<;>rfl
      rw[hargs,if_pos rfl];by_cases h0i:i=0;·subst h0i;rw[if_neg<|by simp];cases effP m K m.zuP[0].effect<;>simp
      ·rw[if_pos<|by simp;omega,ze9 (by omega)<|by omega];have hi1:i-1<m.zuP.length:=by omega
       have b1:=(hS.act _<|yg hi1).1;simp only[zb hi1,ya,ztH,yj,zoN (a:=m.zuP[i-1].arguments) (b:=m.zuP[i].arguments) (show m.zuP[i-1].arguments.length<1000000 by omega)<|show 1000000<=n by omega,yp,yw,if_true,h0i,decide_false,uI];cases ordP m.zuP[i-1] m.zuP[i]<;>cases effP m K m.zuP[i].effect<;>simp[grd]
    grind
  ·simp[zD.l3]
 unfold zD;have:=zao (body:=zD.l1 n m) (l:=m.zuS) (n:=n) (st:=λi=>((m.zuS.take i).map (·.name),(i:Int))) (opP m) (O M) (if(Z (m.zuS.length<=8)&&zwQ [] (m.zuS.map (·.name))&&Z (m.zuP.length<=256))=U then zuR (zD.l3 n m) n 0 else O M) (λrec i hi=>?_) (λrec=>?_)<|by omega
 ·simp only[List.take_zero,wz,wi]at this;rw[this];unfold zyw;cases hO:opsP m with|true=>have hO':=hO;simp only[opsP,yc]at hO';rw[hO'.1,hO'.2.1,hO'.2.2,T hO];cases Z<|m.zuP.length<=256<;>rfl|false=>unfold opsP at hO;cases h1:m.zuS.all<|opP m with|false=>simp|true=>rw[h1,yA]at hO;rw[hO];simp
 ·have hop:=hS.op _<|yg hi;simp only[zD.l1,zB hi,if_true,zb hi,ya];rw[zl<|by simp;omega,ya,zdK hi];generalize hX:(m.zuS.take<|i+1).map (·.name)=X;have inner:=zao (body:=zD.l2 n m i rec m.zuS[i] X) (l:=m.zuS[i].zuU) (n:=n) (st:=λk=>(k:Int)) (λs=>Z (-1<=s)&&Z (s<(m.zuU.length:Int))) (O M) (if Z (m.zuS[i].zuU.length<=3)=U then rec (X,((i+1:Nat):Int))else O M) (λrec' k hk=>?_) (λrec'=>?_)<|by omega
  ·simp only[wi]at inner;rw[inner];unfold opP;cases Z<|m.zuS[i].zuU.length<=3<;>cases m.zuS[i].zuU.all λs=>Z (-1<=s)&&Z (s<(m.zuU.length:Int))<;>simp
  ·simp only[zD.l2,zB hk,if_true,zb hk,ya,yp,yw,grd,yj,ze (i:=k)<|by omega];have e1:Z (m.zuS[i].zuU[k]< -1)=!decide (-1<=m.zuS[i].zuU[k]):=by rw[<-decide_not];exact decide_eq_decide.2<|by omega
   have e2:Z ((m.zuU.length:Int)<=m.zuS[i].zuU[k])=!decide (m.zuS[i].zuU[k]<(m.zuU.length:Int)):=by rw[<-decide_not];exact decide_eq_decide.2<|by omega
   rw[e1,e2];cases Z<|-1<=m.zuS[i].zuU[k]<;>cases Z<|m.zuS[i].zuU[k]<(m.zuU.length:Int)<;>simp
  ·simp only[zD.l2,zat,ye,if_false,ze (i:=i)<|by omega];by_cases h3:m.zuS[i].zuU.length<=3;·rw[if_neg<|by simp;omega,if_pos<|by simp[h3]]
   ·rw[if_pos<|by simp;omega,if_neg<|by simp[h3]]
 ·simp only[zD.l1,zat,ye,if_false,wJ];rw[zfQ hn (by simp;omega) λw hw=>by simp only[y7]at hw;obtain⟨o,ho,rfl⟩:=hw;have:=(hS.op o ho).1;omega];simp only[yp,yw,grd,if_true,yj];have e1:Z (8<(m.zuS.length:Int))=!decide (m.zuS.length<=8):=by rw[<-decide_not];exact decide_eq_decide.2<|by omega
  have e2:Z (256<(m.zuP.length:Int))=!decide (m.zuP.length<=256):=by rw[<-decide_not];exact decide_eq_decide.2<|by omega
  rw[e1,e2];cases Z<|m.zuS.length<=8<;>cases zwQ []<|m.zuS.map (·.name)<;>cases Z<|m.zuP.length<=256<;>simp
def zbb (hs:List Hide):Nat->Int->Int->Bool|0,a,b=>a==b|k+1,a,b=>a==b||hs.any λh=>h.table==a&&zbb hs k h.to b
def zxn (m:Model)(h:Hide):Bool:=Z (0<=h.table)&&Z (h.table<(m.tables.length:Int))&&(Z (0<=h.to)&&Z (h.to<(m.tables.length:Int)))&&h.table !=h.to&&(((idx m.tables h.table).getD J).kind==0&&((idx m.tables h.to).getD J).kind==0&&(Z (0<=h.column)&&Z (h.column<(((idx m.tables h.table).getD J).zuO.length:Int))&&((((idx m.tables h.to).getD J).zuO.length:Int)==1&&(idx ((idx m.tables h.to).getD J).zuO 0).getD J==(idx ((idx m.tables h.table).getD J).zuO h.column).getD J)))
def zlN (m:Model):Bool:=Z (m.zu2.length<=12)&&(m.zu2.all (zxn m)&&m.zu2.all λh=>!zbb m.zu2 m.tables.length h.to h.table)
theorem zqd {m n self a b k}(hl:m.zu2.length<n)(hl2:m.zu2.length<1000000)(hk:k+1<1000000)(hself:∀x,self m x b (k:Int)=O (zbb m.zu2 k x b)):zuR (zaV.l1 n self m a b ((k+1:Nat):Int)) n 0=O (m.zu2.any λh=>h.table==a&&zbb m.zu2 k h.to b):=by
 have:=zy (body:=zaV.l1 n self m a b<|k+1) (len:=m.zu2.length) (st:=λi=>i) (g:=λi=>O<|(m.zu2.drop i).any λh=>h.table==a&&zbb m.zu2 k h.to b) (λc i e f=>?_) (λc=>?_) n 0 (ym _)<|by omega
 ·simp_all
 ·have j:Z (0<k+1)=true:=by simp
  have d:zuY ((k+1:Nat)) 1=k:=by rw[ze9 (by omega)<|by omega];simp
  simp only[zaV.l1,zb e,grd,ze (i:=i)<|by omega];grind[zk]
 ·simp[zaV.l1]
theorem znW {m}(hl:m.zu2.length<1000000):∀(k n:Nat)(a b),k<1000000->1000000+k<n->zaV n m a b (k:Int)=O (zbb m.zu2 k a b)
 |0,0,_,_,_,h=>by omega|0,n+1,a,b,_,h=>by
  simp only[zaV,zaV.body,zbb];by_cases e:a=b;·grind
  ·grind[zev,zaV.l1]|k+1,0,_,_,_,h=>by omega|k+1,n+1,a,b,c,h=>by
  simp only[zaV,zaV.body,zbb];by_cases e:a=b;·grind
  ·rw[if_neg<|by simp_all,zqd (by omega) hl c λx=>znW hl k n x b (by omega)<|by omega];simp_all
theorem zpg {m:Model}{h:Hide}(h0:0<=h.table/\h.table<(m.tables.length:Int))(h1:0<=h.to/\h.to<(m.tables.length:Int)):∃t u,idx m.tables h.table=O t/\idx m.tables h.to=O u:=by obtain⟨t,b⟩:=zaM h0.1 h0.2;obtain⟨u,a⟩:=zaM h1.1 h1.2;simp_all
theorem zkV {n}{m}(hn:4294967296<=n)(hS:zvn m):zaG n m=O (zlN m):=by
 have hhl:=hS.zu2;have htl:=hS.tables;unfold zaG zlN;have T:zuR (zaG.l2 n m) n 0=O (m.zu2.all λh=>!zbb m.zu2 m.tables.length h.to h.table):=by
  have:=zao (body:=zaG.l2 n m) (l:=m.zu2) (n:=n) (st:=λi=>(i:Int)) (λh=>!zbb m.zu2 m.tables.length h.to h.table) (O M) (O U) (λrec i hi=>?_) (λrec=>?_)<|by omega
  ·grind
  ·simp only[zaG.l2,zb hi,ya,znW (m:=m) (by omega) m.tables.length n m.zu2[i].to m.zu2[i].table (by omega)<|by omega,ze (i:=i)<|by omega];grind
  ·simp[zaG.l2]
 have:=zao (body:=zaG.l1 n m) (l:=m.zu2) (n:=n) (st:=λi=>(i:Int)) (zxn m) (O M) (O<|m.zu2.all λh=>!zbb m.zu2 m.tables.length h.to h.table) (λrec i hi=>?_) (λrec=>?_)<|by omega
 ·grind
 ·simp only[zaG.l1,zB hi,if_true,zb hi,ya,ze (i:=i)<|by omega];generalize m.zu2[i]=h;by_cases hb:((0<=h.table/\h.table<(m.tables.length:Int))/\0<=h.to/\h.to<(m.tables.length:Int))/\h.table≠h.to
  ·rw[if_neg<|by simp_all];obtain⟨t,u,ht,hu⟩:=zpg hb.1.1 hb.1.2;have hhp:zxn m h=(t.kind==0&&u.kind==0&&(Z (0<=h.column)&&Z (h.column<(t.zuO.length:Int))&&((u.zuO.length:Int)==1&&(idx u.zuO 0).getD J==(idx t.zuO h.column).getD J))):=by grind[zxn]
   simp only[ht,hu,ya];by_cases hk:(t.kind==0&&u.kind==0&&(Z (0<=h.column)&&Z (h.column<(t.zuO.length:Int))&&(u.zuO.length:Int)==1))=U
   ·have hk':=hk;simp only[yc,yf,beq_iff_eq]at hk';obtain⟨⟨k1,k2⟩,⟨k3,k4⟩,k5⟩:=hk';obtain⟨x,hx⟩:=zaM (l:=u.zuO) (i:=0) (by omega) (by omega);obtain⟨y,hy⟩:=zaM k3 k4;have n1:¬h.column<0:=by omega
    have n2:¬(t.zuO.length:Int)<=h.column:=by omega
    simp only[n1,n2,grd];simp_all
   ·have hf:(t.kind !=0||u.kind !=0||Z (h.column<0)||Z ((t.zuO.length:Int)<=h.column)||(u.zuO.length:Int)!=1)=true:=by grind
    simp only[uB,grd,if_true];simp_all
  ·have hhp:zxn m h=false:=by unfold zxn;simp_all
   simp_all
 ·simp only[zaG.l1,zat,ye,if_false,T]
theorem zkR:∀(T:Nat)(l:List Int),l.Nodup->(∀x∈l,0<=x/\x<(T:Int))->l.length<=T
 |0,l,_,h=>by cases l with|nil=>simp|cons x l=>have:=h x (by simp);omega
 |T+1,l,a,h=>by
  by_cases c:(T:Int)∈l
  ·have d:=zkR T (l.erase T) (a.erase _) λx b=>by grind
   grind
  ·have:=zkR T l a λx b=>by grind
   omega
theorem zkA {hs}:∀{k}{a b},zbb hs k a b=U->zbb hs (k+1) a b=U
 |0,a,b,h=>by simp only[zbb]at h;simp only[zbb,h,uB]|k+1,a,b,h=>by
  rw[zbb]at h|-;simp only[yG,ut,yc]at h|-;rcases h with h|⟨x,d,e,c⟩;·grind
  ·exact .inr ⟨x,d,e,zkA c⟩
theorem zq8 {hs k j a b}(h:zbb hs k a b=U)(hkj:k<=j):zbb hs j a b=true:=by
 obtain⟨d,rfl⟩:=Nat.exists_eq_add_of_le hkj;clear hkj;induction d with|zero=>exact h|succ d ih=>exact zkA ih
theorem zf8 {hs k a}:zbb hs k a a=true:=by cases k<;>simp[zbb]
theorem zkB {hs h}(hh:h∈hs):∀{k}{a},zbb hs k a h.table=U->zbb hs (k+1) a h.to=U
 |0,a,e=>by
  simp only[zbb]at e;simp only[zbb];grind|k+1,a,e=>by
  rw[zbb]at e|-;simp only[yG,ut,yc]at e|-;rcases e with e|⟨x,c,d,b⟩;·grind[zf8]
  ·exact .inr ⟨x,c,d,zkB hh b⟩
def zxW (f:Int->Hide)(s:Int):Nat->Int|0=>s|k+1=>(f<|zxW f s k).to
theorem ztO {hs}{T:Nat}{S}(hS:S≠[])(hb:∀t∈S,0<=t/\t<(T:Int))(hac:∀h∈hs,zbb hs T h.to h.table=M):∃t∈S,∀h∈hs,¬(h.table=t/\h.to∈S):=by
 apply xG;intro hno;have hedge:∀t,t∈S->∃h,h∈hs/\h.table=t/\h.to∈S:=λt ht=>by apply xG;intro hn;exact hno ⟨t,ht,λh hh he=>hn ⟨h,hh,he.1,he.2⟩⟩
 obtain⟨s,hs0⟩:∃s,s∈S:=by cases S with
  |nil=>exact absurd rfl hS|cons x l=>exact⟨x,by simp⟩
 obtain⟨f,hf⟩:∃f:Int->Hide,∀t,t∈S->f t∈hs/\(f t).table=t/\(f t).to∈S:=by refine⟨λt=>if ht:t∈S then Classical.choose<|hedge t ht else J,λt ht=>?_⟩;simp only[ht,dite_true];exact Classical.choose_spec<|hedge t ht
 have hw:∀k,zxW f s k∈S:=λk=>by induction k with
  |zero=>exact hs0|succ k ih=>exact(hf _ ih).2.2
 have hlead:∀d i,zbb hs d (zxW f s i) (zxW f s<|i+d)=true:=λd=>by induction d with|zero=>intro i;exact zf8|succ d ih=>intro i;simp only[zbb,yG,ut,yc,beq_iff_eq];refine .inr ⟨f<|zxW f s i,(hf _<|hw i).1,(hf _<|hw i).2.1,?_⟩;have:=ih<|i+1;rw[show i+1+d=i+(d+1)by omega]at this;exact this
 have hne:∀i j,i<j->j<=T->zxW f s i≠zxW f s j:=λi j hij hj e=>by have h1:=hlead (j-i-1)<|i+1;rw[show i+1+(j-i-1)=j by omega,<-e]at h1;have h2:=hac _ (hf _<|hw i).1;rw[(hf _<|hw i).2.1]at h2;have h3:zbb hs T (f<|zxW f s i).to (zxW f s i)=true:=zq8 h1 (by omega);rw[h3]at h2;cases h2
 have hlen:=zkR T ((xn<|T+1).map<|zxW f s) (by rw[List.Nodup,List.pairwise_map];exact wS (λ{a b}_ hb hab=>hne a b hab<|by have:=yU.1 hb;omega) List.pairwise_lt_range) λx hx=>by simp only[y7]at hx;obtain⟨k,-,rfl⟩:=hx;exact hb _<|hw k
 simp at hlen;omega
def zcv (m:GMap Int Bool):List Int:=m.es.map λe=>e.2.1
structure WfM (m:GMap Int Bool):Prop where
 tru:∀e∈m.es,e.2.2=U
 nd:(m.es.map (·.1)).Nodup
 lt:∀e∈m.es,e.1<m.clock
theorem WfM.get {m}(h:WfM m)(k):(m.get? k).getD M=Z (k∈zcv m):=by unfold GMap.get?;rw[zkv k m.es h.tru];rfl
theorem WfM.empty:WfM (wn:GMap Int Bool):=⟨λe a=>by grind[wn],by simp[wn],λe a=>by grind[wn]⟩
theorem zo7 (k):∀(es:List<|Nat×Int×Bool)(p),zvS k es=O p->∃h:p.1<es.length,es[p.1].2.1=k
 |[],_,h=>by grind[zvS]|e::es,p,h=>by
  simp only[zvS]at h;split at h;·grind
  ·simp only[Option.map_eq_some_iff]at h;obtain⟨q,a,rfl⟩:=h;obtain⟨c,b⟩:=zo7 k es q a;grind
theorem zip (f)(hf:∀e,(f e).1=e.1):∀(es:List<|Nat×Int×Bool)(i),(es.modify i f).map (·.1)=es.map (·.1)|[],_=>by simp|e::es,0=>by simp[hf]|e::es,i+1=>by simp[zip f hf es i]
theorem WfM.put {m}(h:WfM m)(k):WfM (m.put k U)/\(m.put k U).es.length<=m.es.length+1/\∀t,t∈zcv (m.put k U)↔t∈zcv m\/t=k:=by unfold GMap.put zcv;cases l:zvS k m.es with
 |none=>
  refine⟨⟨λe c=>?_,?_,λe c=>?_⟩,by simp,λt=>by simp⟩
  ·simp only[yu,yK]at c;rcases c with c|rfl;·exact h.tru e c
   ·rfl
  ·simp only[un,yX,wz];rw[uU];refine⟨h.nd,by simp,λa f b d=>?_⟩;simp only[yK]at d;simp only[y7]at f;obtain⟨e,c,rfl⟩:=f;have:=h.lt e c;omega
  ·simp only[yu,yK]at c;rcases c with c|rfl
   ·have:=h.lt e c;grind
   ·simp|some p=>
  obtain⟨i,b⟩:=p;have d:=zip (λe=>(e.1,e.2.1,U)) (λe=>rfl) m.es i;refine⟨⟨zjb (p:=λe=>e.2.2=U) _ (λe=>rfl) m.es i h.tru,by rw[d];exact h.nd,λe c=>?_⟩,by simp,λt=>?_⟩
  ·have:e.1∈m.es.map (·.1):=by grind
   simp only[y7]at this;obtain⟨x,j,n⟩:=this;have:=h.lt x j;grind
  ·rw[zhK (λe=>(e.1,e.2.1,U)) (λe=>rfl) m.es i];constructor;·grind
   ·rintro(g|rfl);·exact g
    grind[zkw]
theorem WfM.del {m}(h:WfM m){e}(he:e∈m.es):WfM (m.del e.2.1)/\(m.del e.2.1).clock=m.clock/\(m.del e.2.1).es.length+1=m.es.length/\(m.del e.2.1).es.Sublist m.es/\∀t,t∈zcv m->t≠e.2.1->t∈zcv (m.del e.2.1):=by unfold GMap.del zcv;cases g:zvS e.2.1 m.es with
 |none=>exact absurd (List.mem_map_of_mem (f:=λe=>e.2.1) he)<|zo8 _ m.es g|some p=>
  obtain⟨i,b⟩:=p;obtain⟨l,d⟩:=zo7 _ m.es _ g;simp only[]at l d|-;have a:=List.eraseIdx_sublist m.es i;refine⟨⟨λx c=>h.tru x<|a.subset c,(a.map _).nodup h.nd,λx c=>h.lt x<|a.subset c⟩,trivial,?_,a,λt k n=>?_⟩;·grind
  ·simp only[y7]at k|-;obtain⟨x,c,rfl⟩:=k;obtain⟨j,o,rfl⟩:=List.mem_iff_getElem.1 c;refine⟨_,?_,rfl⟩;rw[List.mem_eraseIdx_iff_getElem];grind
theorem znB {m m':GMap Int Bool}{seen}{e}(he:e∈m.left seen)(hs:m'.es.Sublist m.es):(m'.left<|seen++[e.1]).length<(m.left seen).length:=by
 unfold GMap.left at he|-;have b:(m.es.filter λx=>!(seen++[e.1]).contains x.1)=(m.es.filter λx=>!seen.contains x.1).filter λx=>! x.1==e.1:=by
  rw[List.filter_filter];congr 1;funext x;simp;grind
 have a:((m.es.filter λx=>!seen.contains x.1).filter λx=>! x.1==e.1).length<(m.es.filter λx=>!seen.contains x.1).length:=List.length_filter_lt_length_iff_exists.2 ⟨e,he,by simp⟩;grind
theorem zjC {n}{j}{m0}{i}{rec}{r}(hn:1000000<=n)(hh:j.model.zu2.length<1000000)(xf:GMap Int Bool->List Nat->Prop)(hwf:∀m seen,xf m seen->WfM m/\m.clock=m0.clock)(hover:∀m seen,xf m seen->m.left seen=[]->rec (m,zuN i 1)=O r)(hstep:∀m seen e,xf m seen->e∈m.left seen->xf (if(j.model.zu2.any λh=>h.table==e.2.1&&Z (h.to∈zcv m))=U then m else m.del e.2.1) (seen++[e.1]))(h0:xf m0 [])(hl:m0.es.length<1000000):zuR (zj.l4 n j m0 i rec) n (m0,[],m0.clock)=O r:=by
 refine zcV (body:=zj.l4 n j m0 i rec) (λs=>(s.1.left s.2.1).length) (λs=>xf s.1 s.2.1/\s.2.2=m0.clock) (λ_ o=>o=O r) (λrec' s hI hr=>?_) n _ ⟨h0,rfl⟩ ?_
 ·obtain⟨m,seen,last⟩:=s;obtain⟨hJ,hlast⟩:=hI;simp only[]at hJ hlast hr;subst hlast;obtain⟨hw,hc⟩:=hwf m seen hJ;simp only[zj.l4,stepM];have hold:m.old m0.clock m0.clock=true:=by simp only[GMap.old,yc,yq,yf];exact⟨λe he=>by have:=hw.lt e he;omega,yk _⟩
  rw[hold];unfold grd;rw[if_pos rfl];cases hleft:m.left seen with
  |nil=>grind|cons x l=>
   rw[<-hleft,if_neg<|by grind];refine zmm (by rw[hleft];simp) λe he=>?_;have hem:e∈m.es:=(List.mem_filter.1 he).1;rw[if_pos<|by simpa using hw.nd,zec (p:=λh=>h.table==e.2.1&&Z (h.to∈zcv m)) (λh _=>by unfold zdi;rw[hw.get]) hh hn,ya];have hst:=hstep m seen e hJ he;cases hb:j.model.zu2.any λh=>h.table==e.2.1&&Z (h.to∈zcv m)with
   |true=>
    rw[hb]at hst;rw[if_neg<|by simp];grind[seen,znB]|false=>rw[hb]at hst;rw[if_pos<|by simp];exact hr (m.del e.2.1,seen++[e.1],m.clock) ⟨hst,hc⟩<|znB he (hw.del hem).2.2.2.1
 ·have:(m0.left []).length<=m0.es.length:=List.length_filter_le _ _;simp only[];omega
theorem zir {α β:Type}{f:α->β}:∀{l:List α},(l.map f).Nodup->∀x∈l,∀y∈l,f x=f y->x=y
 |[],_,x,b,_,_,_=>by grind|a::l,h,x,b,y,c,e=>by
  simp only[yX,List.nodup_cons]at h;simp only[yF]at b c;rcases b with rfl|b<;>rcases c with rfl|c;·rfl
  ·grind
  ·grind
  ·exact zir h.2 x b y c e
theorem zmD {n}{j}{m}(hn:1000000<=n)(hh:j.model.zu2.length<=1000)(hok:∀h∈j.model.zu2,0<=h.table/\h.table<(j.model.tables.length:Int))(hw:WfM m)(hlen:m.es.length<=j.model.zu2.length)(hk:∀t,t∈zcv m↔∃h∈j.model.zu2,h.table=t):zuR (zj.l3 n j) n (m,0)=O (j.model.zu2.all λh=>!zbb j.model.zu2 j.model.tables.length h.to h.table):=by cases hac:j.model.zu2.all λh=>!zbb j.model.zu2 j.model.tables.length h.to h.table with
 |true=>
  have hac':∀h∈j.model.zu2,zbb j.model.zu2 j.model.tables.length h.to h.table=false:=λh hm=>by grind
  have hrange:∀m':GMap Int Bool,(∀t∈zcv m',∃h∈j.model.zu2,h.table=t)->m'.es≠[]->∃e∈m'.es,∀h∈j.model.zu2,¬(h.table=e.2.1/\h.to∈zcv m'):=λm' hm' hne=>by
   obtain⟨t,ht,hs⟩:=ztO (hs:=j.model.zu2) (T:=j.model.tables.length) (S:=zcv m') (by simpa[zcv]using hne) (λt ht=>by grind) hac';simp only[zcv,y7]at ht;grind
  refine zbf (body:=zj.l3 n j) (len:=j.model.zu2.length) (st:=λm i=>(m,(i:Int))) (g:=λ_ _=>O U) (λi m=>WfM m/\m.es.length+i<=j.model.zu2.length/\∀t∈zcv m,∃h∈j.model.zu2,h.table=t) (λrec i m hi hI hr=>?_) (λrec m hI=>?_) n 0 m (ym _) (by omega) ⟨hw,by omega,λt ht=>(hk t).1 ht⟩
  ·obtain⟨h1,h2,h3⟩:=hI;simp only[zj.l3,zB hi,if_true];refine zjC (r:=U) (by omega) (by omega) (λm' seen=>(WfM m'/\m'.clock=m.clock/\∀t∈zcv m',∃h∈j.model.zu2,h.table=t)/\(m'.es.length+i+1<=j.model.zu2.length\/m'.es.length+i<=j.model.zu2.length/\∃e∈m'.left seen,∀h∈j.model.zu2,¬(h.table=e.2.1/\h.to∈zcv m'))) (λm' seen hJ=>⟨hJ.1.1,hJ.1.2.1⟩) (λm' seen hJ hl=>?_) (λm' seen e hJ he=>?_) ⟨⟨h1,rfl,h3⟩,?_⟩<|by omega
   ·rw[ze<|by omega];refine hr m' ⟨hJ.1.1,?_,hJ.1.2.2⟩;rcases hJ.2 with h|⟨-,e,he,-⟩;·omega
    grind
   ·obtain⟨⟨w1,w2,w3⟩,hd⟩:=hJ;have hem:e∈m'.es:=(List.mem_filter.1 he).1;obtain⟨d1,d2,d3,d4,-⟩:=w1.del hem;cases hb:j.model.zu2.any λh=>h.table==e.2.1&&Z (h.to∈zcv m')with
    |true=>
     rw[if_pos rfl];refine⟨⟨w1,w2,w3⟩,?_⟩;rcases hd with hd|⟨hd,x,hx,hs⟩;·exact .inl hd
     ·refine .inr ⟨hd,x,?_,hs⟩;simp only[GMap.left,List.mem_filter]at hx|-;refine⟨hx.1,?_⟩;have hne:x.1≠e.1:=λe1=>by have:x=e:=zir w1.nd x hx.1 e hem e1;subst this;simp only[ut,yc,beq_iff_eq,yf]at hb;obtain⟨h,hh,q⟩:=hb;exact hs h hh q
      simp only[yz,List.contains_eq_mem,yJ,yu,yK,not_or]at hx|-;exact⟨hx.2,hne⟩|false=>
     rw[if_neg<|by simp];refine⟨⟨d1,by omega,λt ht=>?_⟩,.inl ?_⟩;·refine w3 t ?_;simp only[zcv,y7]at ht|-;obtain⟨x,hx,rfl⟩:=ht;exact⟨x,d4.subset hx,rfl⟩
     ·rcases hd with hd|⟨hd,-⟩<;>omega
   ·by_cases hne:m.es=[];·left;rw[hne];simp;omega
    ·right;refine⟨h2,?_⟩;obtain⟨e,he,hs⟩:=hrange m h3 hne;exact⟨e,by simp[GMap.left,he],hs⟩
  ·have:m.es.length=0:=by omega
   simp[zj.l3,this]|false=>
  obtain⟨h0,hm0,hl0⟩:∃h∈j.model.zu2,zbb j.model.zu2 j.model.tables.length h.to h.table=true:=by simp only[List.all_eq_false]at hac;obtain⟨h,hm,hx⟩:=hac;exact⟨h,hm,by simpa using hx⟩
  have hclosed:∀t,((∃k,zbb j.model.zu2 k h0.to t=U)/\∃k,zbb j.model.zu2 k t h0.table=U)->∃h∈j.model.zu2,h.table=t/\(∃k,zbb j.model.zu2 k h0.to h.to=U)/\∃k,zbb j.model.zu2 k h.to h0.table=U:=by
   rintro t⟨⟨a,ha⟩,b,hb⟩;have hcase:t=h0.table\/∃h∈j.model.zu2,h.table=t/\∃k,zbb j.model.zu2 k h.to h0.table=true:=by cases b with
    |zero=>left;simpa[zbb]using hb|succ b=>
     simp only[zbb,yG,beq_iff_eq,ut,yc]at hb;rcases hb with hb|⟨h,hm,e,hx⟩;·exact .inl hb
     ·exact .inr ⟨h,hm,e,b,hx⟩
   rcases hcase with rfl|⟨h,hm,rfl,k,hx⟩;·exact⟨h0,hm0,rfl,⟨0,zf8⟩,_,hl0⟩
   ·exact⟨h,hm,rfl,⟨_,zkB hm ha⟩,k,hx⟩
  generalize hC:(λt=>(∃k,zbb j.model.zu2 k h0.to t=U)/\∃k,zbb j.model.zu2 k t h0.table=U)=C at*;have hC':∀t,C t->∃h∈j.model.zu2,h.table=t/\C h.to:=by intro t ht;rw[<-hC]at ht|-;exact hclosed t ht
  have hCs:C h0.to:=by rw[<-hC];exact⟨⟨0,zf8⟩,_,hl0⟩
  refine zbf (body:=zj.l3 n j) (len:=j.model.zu2.length) (st:=λm i=>(m,(i:Int))) (g:=λ_ _=>O M) (λi m=>WfM m/\m.es.length<=1000/\∀t,C t->t∈zcv m) (λrec i m hi hI hr=>?_) (λrec m hI=>?_) n 0 m (ym _) (by omega) ⟨hw,by omega,λt ht=>(hk t).2<|by obtain⟨h,hh,e,-⟩:=hC' t ht;exact⟨h,hh,e⟩⟩
  ·obtain⟨h1,h2,h3⟩:=hI;simp only[zj.l3,zB hi,if_true];refine zjC (r:=M) (by omega) (by omega) (λm' seen=>WfM m'/\m'.clock=m.clock/\m'.es.length<=1000/\∀t,C t->t∈zcv m') (λm' seen hJ=>⟨hJ.1,hJ.2.1⟩) (λm' seen hJ hl=>?_) (λm' seen e hJ he=>?_) ⟨h1,rfl,h2,h3⟩<|by omega
   ·rw[ze<|by omega];exact hr m' ⟨hJ.1,hJ.2.2⟩
   ·obtain⟨w1,w2,w3,w4⟩:=hJ;have hem:e∈m'.es:=(List.mem_filter.1 he).1;obtain⟨d1,d2,d3,-,d5⟩:=w1.del hem;cases hb:j.model.zu2.any λh=>h.table==e.2.1&&Z (h.to∈zcv m')with|true=>rw[if_pos rfl];exact⟨w1,w2,w3,w4⟩|false=>rw[if_neg<|by simp];refine⟨d1,by omega,by omega,λt ht=>d5 t (w4 t ht) λe1=>?_⟩;obtain⟨h,hh,hht,hto⟩:=hC' t ht;have:=List.any_eq_false.1 hb h hh;apply this;simp only[yc,beq_iff_eq,yf];exact⟨by omega,w4 _ hto⟩
  ·obtain⟨-,-,h3⟩:=hI;have:=h3 _ hCs;have hne:m.es.length≠0:=λe=>by simp only[zcv,List.length_eq_zero_iff.1 e,wz,vz]at this
   simp only[zj.l3,zat,ye,if_false,yo,uo];omega
theorem zkN {n m l}(hn:1000000<=n)(hS:zvn m):zj n ⟨m,l⟩=O (zlN m):=by
 have hhl:=hS.zu2;have htl:=hS.tables;unfold zj zlN;rw[if_neg<|by grind,decide_eq_true hhl,yA];have:=zao (body:=zj.l1 n ⟨m,l⟩) (l:=m.zu2) (n:=n) (st:=λi=>(i:Int)) (zxn m) (O M) (zuR (zj.l2 n ⟨m,l⟩) n (wn,0)) (λrec i hi=>?_) (λrec=>?_)<|by omega
 ·simp only[wi]at this;rw[this];cases hall:m.zu2.all<|zxn m with|false=>simp|true=>
   rw[if_pos rfl,yA];have hok:∀h∈m.zu2,0<=h.table/\h.table<(m.tables.length:Int):=λh hm=>by
    have:=yq.1 hall h hm;simp only[zxn,yc,yf]at this;grind
   refine zbf (body:=zj.l2 n ⟨m,l⟩) (len:=m.zu2.length) (st:=λg i=>(g,(i:Int))) (g:=λ_ _=>O<|m.zu2.all λh=>!zbb m.zu2 m.tables.length h.to h.table) (λi g=>WfM g/\g.es.length<=i/\∀t,t∈zcv g↔∃h∈m.zu2.take i,h.table=t) (λrec i g hi hI hr=>?_) (λrec g hI=>?_) n 0 wn (ym _) (by omega) ⟨WfM.empty,by simp[wn],λt=>by simp[zcv,wn]⟩
   ·obtain⟨h1,h2,h3⟩:=hI;obtain⟨p1,p2,p3⟩:=h1.put m.zu2[i].table;simp only[zj.l2,zB hi,if_true,zb hi,ya,ze (i:=i)<|by omega];refine hr _ ⟨p1,by omega,λt=>?_⟩;rw[p3,h3,yv hi];grind
   ·obtain⟨h1,h2,h3⟩:=hI;simp only[zj.l2,zat,ye,if_false];grind[zmD,wJ]
 ·simp only[zj.l1,zaH,zB hi,if_true,zb hi,ya,yp,yw,yj,ze (i:=i)<|by omega];generalize m.zu2[i]=h;by_cases hb:((0<=h.table/\h.table<(m.tables.length:Int))/\0<=h.to/\h.to<(m.tables.length:Int))/\h.table≠h.to
  ·simp only[grd,if_true];rw[if_neg<|by simp[hb]];obtain⟨t,u,ht,hu⟩:=zpg hb.1.1 hb.1.2;have hhp:zxn m h=(t.kind==0&&u.kind==0&&(Z (0<=h.column)&&Z (h.column<(t.zuO.length:Int))&&((u.zuO.length:Int)==1&&(idx u.zuO 0).getD J==(idx t.zuO h.column).getD J))):=by unfold zxn;rw[ht,hu];simp[hb]
   simp only[ht,hu,ya];rw[hhp];by_cases hk:(t.kind==0&&u.kind==0&&(Z (0<=h.column)&&Z (h.column<(t.zuO.length:Int))&&(u.zuO.length:Int)==1))=U
   ·have hk':=hk;simp only[yc,yf,beq_iff_eq]at hk';obtain⟨⟨k1,k2⟩,⟨k3,k4⟩,k5⟩:=hk';obtain⟨x,hx⟩:=zaM (l:=u.zuO) (i:=0) (by omega) (by omega);obtain⟨y,hy⟩:=zaM k3 k4;simp only[k1,k2,k3,k4,k5,hx,hy,yj,decide_true,beq_self_eq_true,bne_self_eq_false,yp,yw,Bool.or_false,yA,uQ,uf,if_true];by_cases hxy:x=y;·simp[hxy]
    ·simp[hxy]
   ·have hf:(t.kind !=0||u.kind !=0||!(Z (0<=h.column)&&Z (h.column<(t.zuO.length:Int)))||(u.zuO.length:Int)!=1)=true:=by simp only[yc,yf,beq_iff_eq]at hk;simp only[yG,bne_iff_ne,yz,uC,yJ];omega
    simp only[hf,uB,if_true];rw[<-vZ<|Z (0<=h.column)&&Z (h.column<(t.zuO.length:Int)),<-vZ];simp only[yR]at hk;rw[hk];rfl
  ·have hhp:zxn m h=false:=by unfold zxn;cases hx:Z (0<=h.table)&&Z (h.table<(m.tables.length:Int))&&(Z (0<=h.to)&&Z (h.to<(m.tables.length:Int)))&&h.table !=h.to with|false=>rfl|true=>simp only[yc,yf,bne_iff_ne]at hx;exact absurd hx hb
   rw[hhp];simp only[grd,if_true];rw[if_pos<|by simp only[yG,yz,uC,yJ,beq_iff_eq];omega];rfl
 ·simp[zj.l1]
def zeE (m:Model):Bool:=zbx m.zuU m.tables&&(Z (m.zu1.length<=24)&&zwQ [] m.zu1)&&(zyl m (zY m.zuU U m.tables)&&(opsP m&&(zyw m (zY m.zuU U m.tables).length&&zlN m)))
theorem zhn {n m}(hF:Fuel n)(hS:zvn m):zeZ n m=O (zeE m):=by
 have u:=hF.big;have r:=hS.zuU;have d:=hS.tables;have q:=hS.zu1;have a:∀t∈m.tables,t.zuO.length<=1000:=λt h=>by have:=hS.tab t h;omega
 unfold zeZ zeE;rw[zft hF (by omega) (by omega) a,zfN hF<|by omega];simp only[ya,yp,yw,grd,if_true];have g:Z (24<(m.zu1.length:Int))=!decide (m.zu1.length<=24):=by grind
 rw[g];cases c:zbx m.zuU m.tables with
 |false=>simp|true=>
  by_cases b:(Z (m.zu1.length<=24)&&zwQ [] m.zu1)=U
  ·simp only[yc]at b;rw[b.1,b.2,if_neg<|by simp,zgr hF (by omega) (by omega) a,c];simp only[if_true,ya];obtain⟨k,o,p,e⟩:=zbZ c;have f:=zdt (sizes:=m.zuU) (s:=U) (l:=m.tables) λx i=>(e x i).2.2.2.2;rw[zhd hS (λt d=>(e t d).2.2.2.1) (by omega)<|by omega,zhJ hF hS,zkN (by omega) hS];simp only[yj];cases zyl m<|zY m.zuU U m.tables with
   |false=>simp|true=>cases j:opsP m with|false=>simp|true=>grind[zjT]
  grind
theorem zlq {n m}(hn:4294967296<=n)(hS:zvn m):zge n m=O (zeE m):=by
 have f:=hS.zuU;have g:=hS.tables;have i:=hS.zu1;have b:∀t∈m.tables,t.zuO.length<=1000/\t.name.length<=4096:=λt h=>by have:=hS.tab t h;omega
 unfold zge zeE;rw[zfx (by omega) (by omega) (by omega) b,zfQ (by omega) (by omega) λw d=>by have:=hS.fam w d;omega];simp only[ya,yp,yw,grd,if_true];have e:Z (24<(m.zu1.length:Int))=!decide (m.zu1.length<=24):=by grind
 rw[e];cases c:zbx m.zuU m.tables with
 |false=>simp|true=>
  by_cases a:(Z (m.zu1.length<=24)&&zwQ [] m.zu1)=U
  ·simp only[yc]at a;rw[a.1,a.2,if_neg<|by simp,zhe hS c<|by omega,zjW (by omega) hS c,zkV hn hS];grind
  grind
def zzu (m:Model):Bool:=Z (8<(m.zuU.length:Int))||Z (6<(m.tables.length:Int))||Z (20<(m.zu1.length:Int))||Z (60<(m.constraints.length:Int))||Z (8<(m.zuS.length:Int))||Z (30<(m.zuP.length:Int))||Z (12<(m.zu2.length:Int))
def tabF (t:Table):Bool:=Z (t.name.length<=40)&&Z (t.zuO.length<=12)
def opF (o:zvp):Bool:=Z (o.name.length<=40)&&Z (o.zuU.length<=6)
def actF (a:Action):Bool:=Z (a.arguments.length<=6)&&Z (a.effect.delta.length<=20)&&(Z (a.effect.hold.length<=10)&&Z (a.effect.zuX.length<=40))&&a.effect.hold.all λr=>Z<|r.zuQ.length<=20
def zgZ (m:Model):Bool:=!zzu m&&(m.tables.all tabF&&(m.zu1.all (λs=>Z<|s.length<=40)&&(m.constraints.all (λc=>Z<|c.row.zuQ.length<=20)&&(m.zuS.all opF&&m.zuP.all actF))))
theorem znJ {a b:Nat}:Z ((a:Int)<(b:Int))=!decide (b<=a):=by grind
theorem zjV {n}{m}(hn:1000000<=n):zx n m=O (zgZ m):=by unfold zx zgZ;have hl:(Z (8<(m.zuU.length:Int))||Z (6<(m.tables.length:Int))||Z (20<(m.zu1.length:Int))||Z (60<(m.constraints.length:Int))||Z (8<(m.zuS.length:Int))||Z (30<(m.zuP.length:Int))||Z (12<(m.zu2.length:Int)))=zzu m:=rfl;rw[hl];cases hlen:zzu m with|true=>simp[grd]|false=>
  simp only[zzu,uc,yJ]at hlen;obtain⟨⟨⟨⟨⟨⟨b1,b2⟩,b3⟩,b4⟩,b5⟩,b6⟩,b7⟩:=hlen;have hfew:zdk n m.zuU m.tables=O (m.tables.all tabF):=by
   have:=zao (body:=zdk.l1 n m.zuU m.tables) (l:=m.tables) (n:=n) (st:=λi=>(i:Int)) tabF (O M) (O U) (λrec i hi=>?_) (λrec=>?_)<|by omega
   ·grind[wi,zdk,tabF]
   ·simp only[zdk.l1,zB hi,if_true,zb hi,ya,yp,yw,grd,yj,ze (i:=i)<|by omega];unfold tabF;grind
   grind[zdk.l1]
  rw[hfew];simp only[yp,yw,grd,if_true,yj,uI,ur,yA];cases m.tables.all tabF with
  |false=>simp|true=>
   rw[if_neg<|by simp,yA];have h4:zuR (zx.l4 n m) n 0=O (m.zuP.all actF):=by
    have:=zao (body:=zx.l4 n m) (l:=m.zuP) (n:=n) (st:=λi=>(i:Int)) actF (O M) (O U) (λrec i hi=>?_) (λrec=>?_)<|by omega
    ·simp only[wi]at this;rw[this];cases m.zuP.all actF<;>rfl
    ·simp only[zx.l4,zB hi,if_true,zb hi,ya];unfold actF;by_cases hx:(Z (m.zuP[i].arguments.length<=6)&&Z (m.zuP[i].effect.delta.length<=20)&&(Z (m.zuP[i].effect.hold.length<=10)&&Z (m.zuP[i].effect.zuX.length<=40)))=U
     ·rw[hx,yA];simp only[yc,yf]at hx;rw[if_neg<|by simp;omega];have:=zao (body:=zx.l5 n i rec m.zuP[i]) (l:=m.zuP[i].effect.hold) (n:=n) (st:=λk=>(k:Int)) (λr=>Z<|r.zuQ.length<=20) (O M) (rec ((i+1:Nat):Int)) (λrec' k hk=>?_) (λrec'=>?_)<|by omega
      ·simpa using this
      ·simp only[zx.l5,zB hk,if_true,zb hk,ya,ze (i:=k)<|by omega];by_cases h:m.zuP[i].effect.hold[k].zuQ.length<=20;·rw[if_neg<|by simp;omega,if_pos<|by simp[h]]
       ·rw[if_pos<|by simp;omega,if_neg<|by simp[h]]
      ·simp only[zx.l5,zat,ye,if_false,ze (i:=i)<|by omega]
     ·rw[if_pos<|by simp only[yc,yf]at hx;simp only[yG,yf];omega];simp only[yR]at hx;rw[hx,uh,if_neg<|by simp]
    ·simp[zx.l4]
   have h3:zuR (zx.l3 n m) n 0=O (m.zuS.all opF&&m.zuP.all actF):=by
    have:=zao (body:=zx.l3 n m) (l:=m.zuS) (n:=n) (st:=λi=>(i:Int)) opF (O M) (O<|m.zuP.all actF) (λrec i hi=>?_) (λrec=>?_)<|by omega
    ·simp only[wi]at this;rw[this];cases m.zuS.all opF<;>rfl
    ·simp only[zx.l3,zB hi,if_true,zb hi,ya,yp,yw,grd,yj,ze (i:=i)<|by omega];unfold opF;by_cases h1:m.zuS[i].name.length<=40
     ·by_cases h2:m.zuS[i].zuU.length<=6;·rw[if_neg<|by simp;omega,if_pos<|by simp[h1,h2]]
      ·rw[if_pos<|by simp;omega,if_neg<|by simp[h2]]
     ·rw[if_pos<|by simp;omega,if_neg<|by simp[h1]]
    ·simp only[zx.l3,zat,ye,if_false,h4]
   have h2:zuR (zx.l2 n m) n 0=O (m.constraints.all (λc=>Z<|c.row.zuQ.length<=20)&&(m.zuS.all opF&&m.zuP.all actF)):=by
    have:=zao (body:=zx.l2 n m) (l:=m.constraints) (n:=n) (st:=λi=>(i:Int)) (λc=>Z<|c.row.zuQ.length<=20) (O M) (O<|m.zuS.all opF&&m.zuP.all actF) (λrec i hi=>?_) (λrec=>?_)<|by omega
    ·simp only[wi]at this;rw[this];cases m.constraints.all λc=>Z<|c.row.zuQ.length<=20<;>rfl
    ·simp only[zx.l2,zB hi,if_true,zb hi,ya,ze (i:=i)<|by omega];by_cases h:m.constraints[i].row.zuQ.length<=20;·rw[if_neg<|by simp;omega,if_pos<|by simp[h]]
     ·rw[if_pos<|by simp;omega,if_neg<|by simp[h]]
    ·simp only[zx.l2,zat,ye,if_false,h3]
   have:=zao (body:=zx.l1 n m) (l:=m.zu1) (n:=n) (st:=λi=>(i:Int)) (λs=>Z<|s.length<=40) (O M) (O<|m.constraints.all (λc=>Z<|c.row.zuQ.length<=20)&&(m.zuS.all opF&&m.zuP.all actF)) (λrec i hi=>?_) (λrec=>?_)<|by omega
   ·simp only[wi]at this;rw[this];cases m.zu1.all λs=>Z<|s.length<=40<;>rfl
   ·simp only[zx.l1,zB hi,if_true,zb hi,ya,ze (i:=i)<|by omega];by_cases h:m.zu1[i].length<=40;·rw[if_neg<|by simp;omega,if_pos<|by simp[h]]
    ·rw[if_pos<|by simp;omega,if_neg<|by simp[h]]
   ·simp only[zx.l1,zat,ye,if_false,h2]
theorem zhi {m}(h:zgZ m=U):zvn m:=by simp only[zgZ,zzu,tabF,opF,actF,yc,yz,uc,yJ,yq,yf]at h;obtain⟨⟨⟨⟨⟨⟨⟨j,k⟩,l⟩,n⟩,g⟩,b6⟩,i⟩,c,d,b,e,o⟩:=h;exact⟨by omega,by omega,c,by omega,d,by omega,b,by omega,e,by omega,λa f=>by grind,by omega⟩
def zya:Int->List Range->Bool|_,[]=>U|p,r::l=>!decide (4096<zuZ p (zuN (zuY r.hi r.lo) 1))&&zya (zuZ p<|zuN (zuY r.hi r.lo) 1) l
def zdj (m:Model):List Range:=if zbx m.zuU m.tables=U then zY m.zuU U m.tables else[]
def fewP (m:Model):Bool:=zgZ m&&Z (m.zuP.length<=12)&&Z (m.constraints.length<=40)&&(m.zuP.all (λa=>Z<|a.effect.hold.length<=4)&&(Z ((zdj m).length<=12)&&zya 1 (zdj m)))
theorem zkW {n}{m}(hn:1000000<=n)(hS:zvn m):zcA n m=O (zdj m):=by have b:=hS.zuU;have a:=hS.tables;unfold zcA;rw[ze3 hn (by omega) (by omega) λt h=>by have:=hS.tab t h;omega];rfl
theorem znR {n}{m}(hn:1000000<=n):zb3 n m=O (fewP m):=by unfold zb3 fewP;rw[zjV hn,ya];have f:Z (12<(m.zuP.length:Int))=!decide (m.zuP.length<=12):=znJ (a:=12);have j:Z (40<(m.constraints.length:Int))=!decide (m.constraints.length<=40):=znJ (a:=40);rw[f,j,<-Bool.not_and,<-Bool.not_and];cases d:zgZ m&&Z (m.zuP.length<=12)&&Z (m.constraints.length<=40)with
 |false=>simp|true=>
  simp only[yc,yf]at d;have e:=zhi d.1.1;have T:(if Z (12<((zdj m).length:Int))=U then O M else zuR (zb3.l2 n<|zdj m) n (1,0))=O (Z ((zdj m).length<=12)&&zya 1 (zdj m)):=by
   by_cases h:(zdj m).length<=12
   ·rw[if_neg<|by grind,decide_eq_true h,yA];refine zbf (body:=zb3.l2 n<|zdj m) (len:=(zdj m).length) (st:=λp i=>(p,i)) (g:=λi p=>O<|zya p<|(zdj m).drop i) (λ_ _=>True) (λb i p c _ k=>?_) (λb p _=>?_) n 0 1 (ym _) (by omega) trivial
    ·simp only[zb3.l2,zb c,ze (i:=i)<|by omega];grind[zk,zya]
    ·simp[zb3.l2,zya]
   grind
  have:=zao (body:=zb3.l1 n m) (l:=m.zuP) (n:=n) (st:=λi=>i) (λa=>Z<|a.effect.hold.length<=4) (O M) (O<|Z ((zdj m).length<=12)&&zya 1 (zdj m)) (λb i c=>?_) (λb=>?_)<|by omega
  ·grind
  ·simp only[zb3.l1,zb c,ze (i:=i)<|by omega];grind
  ·simp only[zb3.l1,zat,ye,if_false,zkW hn e,ya,T]
theorem zg1 {m}(h:fewP m=U):zvn m:=by
 simp only[fewP]at h;grind[zhi]
structure zwb (m:Model):Prop where
 lay:zbx m.zuU m.tables=U
 fams:m.zu1.length<=24/\zwQ [] m.zu1=U
 cons:zyl m (zY m.zuU U m.tables)=U
 ops:opsP m=U
 acts:zyw m (zY m.zuU U m.tables).length=U
 hid:zlN m=U
theorem zdA {m}:zeE m=U↔zwb m:=by simp only[zeE,yc,yf];exact⟨λ⟨⟨a,b,c⟩,d,e,f,g⟩=>⟨a,⟨b,c⟩,d,e,f,g⟩,λ⟨a,⟨b,c⟩,d,e,f,g⟩=>⟨⟨a,b,c⟩,d,e,f,g⟩⟩
def stepT (s:Nat)(L:List<|List Int):List<|List Int:=L.flatMap λl=>(xn s).map λe:Nat=>l++[(e:Int)]
def zfC (sizes:List Int):List Int->List (List Int)->List (List Int)|[],L=>L|c::cols,L=>zfC sizes cols<|stepT (zdg sizes c).toNat L
def zez (sizes cols:List Int):List<|List Int:=zfC sizes cols [[]]
theorem zhA (sizes):∀(a b)(L),zfC sizes (a++b) L=zfC sizes b (zfC sizes a L)|[],_,_=>rfl|_::a,b,L=>by exact zhA sizes a b _
theorem zob {s L}:(stepT s L).length=L.length*s:=by induction L with|nil=>simp[stepT]|cons l L ih=>grind[stepT]
theorem zrP {s L k}(h:∀l∈L,l.length=k):∀l∈stepT s L,l.length=k+1:=λl a=>by
 simp only[stepT]at a;grind
theorem zqo {s}{L:List<|List Int}{i}(hi):stepT s (L.take<|i+1)=stepT s (L.take i)++(xn s).map λe:Nat=>L[i]++[(e:Int)]:=by grind[wx,stepT]
def zen (i:Nat)(L:List<|List Int):List Place:=L.map λl=>⟨(i:Int),l⟩
def zc6 (sizes:List Int)(s:Bool):List Table->Nat->List Place|[],_=>[]|t::l,i=>(if Z (t.kind<=1)=s then zen i<|zez sizes t.zuO else[])++zc6 sizes s l (i+1)
theorem zhq (sizes s):∀(a b)(i),zc6 sizes s (a++b) i=zc6 sizes s a i++zc6 sizes s b (i+a.length)
 |[],b,i=>by simp[zc6]|t::a,b,i=>by
  simp only[uu,zc6,zhq sizes s a b];grind
theorem zjG {sizes}{s}{l:List Table}{i}(hi):zc6 sizes s (l.take<|i+1) 0=zc6 sizes s (l.take i) 0++if Z (l[i].kind<=1)=s then zen i<|zez sizes l[i].zuO else[]:=by
 rw[yv hi,zhq];simp only[zc6];grind
theorem ztE {n}{x40}{rec}{l}{s:Nat}{b}{k:Nat}(hk:zuN x40 1=(k:Int))(hs:s<=6)(hl:l.length<=100)(hb:b.length<=100000)(hn:1000000<=n):zuR (zq.l4 n x40 rec l (s:Int)) n (b,0)=rec (b++(xn s).map λe:Nat=>l++[(e:Int)],(k:Int)):=by
 have:=zy (body:=zq.l4 n x40 rec l s) (len:=s) (st:=λi=>(b++(xn i).map λe:Nat=>l++[(e:Int)],i)) (g:=λ_=>rec (b++(xn s).map λe:Nat=>l++[(e:Int)],k)) (λa i d c=>?_) (λa=>?_) n 0 (ym _)<|by omega
 ·grind
 ·rw[uy,un,<-yM]at c;simp only[zq.l4,ze (i:=i)<|by omega];grind[zl]
 ·simp only[zq.l4,zhl<|yk s,ye,if_false,hk]
theorem ztD {n}{m}{L}{x34 x36}{rec}{s k:Nat}(hk:zuN x34 1=(k:Int))(hx:idx m.zuU x36=O (s:Int))(hs:s<=6)(hl:∀l∈L,l.length<=100)(hL:L.length<=1000)(hn:1000000<=n):zuR (zq.l3 n m L x34 rec x36) n ([],0)=rec (stepT s L,(k:Int)):=by
 have:=zy (body:=zq.l3 n m L x34 rec x36) (len:=L.length) (st:=λi=>(stepT s<|L.take i,i)) (g:=λ_=>rec (stepT s L,k)) (λb i c d=>?_) (λb=>?_) n 0 (ym _)<|by omega
 ·grind[stepT]
 ·rw[zqo c]at d;simp only[zq.l3,zB c,zb c,ya,hx];have a:(stepT s<|L.take i).length<=100000:=by rw[zob,ui];have:min i L.length*s<=1000*6:=yZ (by omega) hs;omega
  rw[ztE (k:=i+1) (ze<|by omega) hs (hl _<|yg c) a hn];exact d
 ·simp only[zq.l3,zat,ye,if_false,hk,wJ]
theorem ztF {n}{i:Nat}{rec}{t}{L}{b1 b2}(hi:i<1000000)(hL:L.length<=1000)(h1:b1.length<=100000)(h2:b2.length<=100000)(hn:1000000<=n):zuR (zq.l5 n (i:Int) rec t L) n (b1,b2,0)=rec (b1++if Z (t.kind<=1)=U then zen i L else[],b2++if Z (t.kind<=1)=M then zen i L else[],((i+1:Nat):Int)):=by cases hk:Z<|t.kind<=1 with
 |true=>
  have:=zy (body:=zq.l5 n (i:Int) rec t L) (len:=L.length) (st:=λk=>(b1++zen i (L.take k),b2,(k:Int))) (g:=λ_=>rec (b1++zen i L,b2,((i+1:Nat):Int))) (λrec' k hk' hr=>?_) (λrec'=>?_) n 0 (ym _)<|by omega
  ·grind[zen]
  ·simp only[zen]at hr|-;rw[<-zdK hk',<-yM]at hr;simp only[zq.l5,jn,zb hk',ze (i:=k)<|by omega];grind[zl]
  ·simp only[zq.l5,zat,ye,if_false,wJ,ze (i:=i)<|by omega]|false=>
  have:=zy (body:=zq.l5 n (i:Int) rec t L) (len:=L.length) (st:=λk=>(b1,b2++zen i (L.take k),(k:Int))) (g:=λ_=>rec (b1,b2++zen i L,((i+1:Nat):Int))) (λrec' k hk' hr=>?_) (λrec'=>?_) n 0 (ym _)<|by omega
  ·grind[zen]
  ·simp only[zen]at hr|-;rw[<-zdK hk',<-yM]at hr;simp only[zq.l5,jn,zB hk',if_true,zb hk',ya,hk,ye,if_false,ze (i:=k)<|by omega];grind[zl]
  ·simp only[zq.l5,zat,ye,if_false,wJ,ze (i:=i)<|by omega]
theorem ziM {sizes}(hs:sizes.all zcO=U):∀(cols)(L)(A k),cols.all (zvJ sizes)=U->L.length<=A->(∀l∈L,l.length=k)->(zfC sizes cols L).length<=A*6^cols.length/\∀l∈zfC sizes cols L,l.length=k+cols.length
 |[],L,A,k,_,h1,h2=>by grind[zfC]|c::cols,L,A,k,hc,h1,h2=>by
  simp only[uk,yc]at hc;have hz:=ziG hs hc.1;have hlen:(stepT (zdg sizes c).toNat L).length<=A*6:=by rw[zob];exact yZ h1<|by omega
  obtain⟨p1,p2⟩:=ziM hs cols (stepT (zdg sizes c).toNat L) (A*6) (k+1) hc.2 hlen<|zrP h2;grind[zfC,List.length_cons,Nat.pow_succ,Nat.mul_comm,Nat.mul_assoc]
theorem zgj {sizes cols}(hs:sizes.all zcO=U)(hc:cols.all (zvJ sizes)=U)(h3:cols.length<=3):(zez sizes cols).length<=216/\∀l∈zez sizes cols,l.length=cols.length:=by obtain⟨b,c⟩:=ziM hs cols [[]] 1 0 hc (by simp) (by simp);refine⟨yI b ?_,λl a=>by simpa using c l a⟩;have:6^cols.length<=6^3:=uq (by decide) h3;omega
theorem ztC {n}{m}{b1 b2}{i:Nat}{rec}{t}(hs:m.zuU.all zcO=U)(hc:t.zuO.all (zvJ m.zuU)=U)(h3:t.zuO.length<=3)(hi:i<1000000)(h1:b1.length<=100000)(h2:b2.length<=100000)(hn:1000000<=n):zuR (zq.l2 n m b1 b2 (i:Int) rec t) n ([[]],0)=rec (b1++if Z (t.kind<=1)=U then zen i<|zez m.zuU t.zuO else[],b2++if Z (t.kind<=1)=M then zen i<|zez m.zuU t.zuO else[],((i+1:Nat):Int)):=by
 have hpre:∀k,(t.zuO.take k).all (zvJ m.zuU)=true:=λk=>yq.2 λc hm=>yq.1 hc c<|ws hm;have:=zy (body:=zq.l2 n m b1 b2 (i:Int) rec t) (len:=t.zuO.length) (st:=λk=>(zez m.zuU<|t.zuO.take k,(k:Int))) (g:=λ_=>rec (b1++if Z (t.kind<=1)=U then zen i<|zez m.zuU t.zuO else[],b2++if Z (t.kind<=1)=M then zen i<|zez m.zuU t.zuO else[],((i+1:Nat):Int))) (λrec' k hk hr=>?_) (λrec'=>?_) n 0 (ym _)<|by omega
 ·grind[zez,zfC]
 ·have hcol:=yq.1 hc _<|yg hk;have hz:=ziG hs hcol;obtain⟨p1,p2⟩:=zgj hs (hpre k) (by grind);have hsz:idx m.zuU t.zuO[k]=O (((zdg m.zuU t.zuO[k]).toNat:Nat):Int):=by grind[zf6,zdg]
  simp only[zq.l2,zB hk,if_true,zb hk,ya];rw[ztD (k:=k+1) (ze<|by omega) hsz (by omega) (λl hl=>by grind) (by omega) hn,<-hr];unfold zez;rw[yv hk,zhA];rfl
 ·obtain⟨p1,-⟩:=zgj hs hc h3;simp only[zq.l2,zat,ye,if_false,wJ];exact ztF hi (by omega) h1 h2 hn
theorem zhP {sizes s}:∀{l}{i},(∀t∈l,(zez sizes t.zuO).length<=216)->(zc6 sizes s l i).length<=l.length*216
 |[],_,_=>by simp[zc6]|t::l,i,h=>by
  have b:=zhP (s:=s) (l:=l) (i:=i+1) λx a=>h x<|by simp[a]
  grind[zc6,zen]
def zmJ (m:Model):zwM:=⟨m,zc6 m.zuU U m.tables 0,zc6 m.zuU M m.tables 0⟩
theorem zjZ {n}{m}(hF:Fuel n)(hS:zvn m):zq n m=O (if zeE m=U then(O<|zmJ m,U)else(Y,M)):=by have v:=hF.big;unfold zq;rw[zhn hF hS,ya];cases p:zeE m with
 |false=>simp|true=>
  have q:=zdA.1 p;obtain⟨w,x,h,e⟩:=zbZ q.lay;have f:=λt a=>(zgj h (e t a).2.2.2.1 (e t a).2.2.1).1;have:=zy (body:=zq.l1 n m) (len:=m.tables.length) (st:=λi=>(zc6 m.zuU U (m.tables.take i) 0,zc6 m.zuU M (m.tables.take i) 0,i)) (g:=λ_=>O (O<|zmJ m,U)) (λd i b j=>?_) (λd=>?_) n 0 (ym _)<|by omega
  ·grind[zc6]
  ·have c:=yg b;obtain⟨-,-,o,r,-⟩:=e _ c;have u:=zhP (s:=U) (l:=m.tables.take i) (i:=0) λt a=>f t<|ws a;have k:=zhP (s:=M) (l:=m.tables.take i) (i:=0) λt a=>f t<|ws a;simp only[ui]at u k;rw[zjG b,zjG b]at j;simp only[zq.l1,zB b,zb b,ya];rw[ztC h r o (by omega) (by omega) (by omega)<|by omega];exact j
  ·simp[zq.l1,zmJ]
def zeA (m:Model)(q:Question):Bool:=Z (0<=q.e)&&Z (q.e<(m.zuP.length:Int))&&(Z (0<=q.f)&&Z (q.f<(m.zuP.length:Int)))&&Z (0<=q.target.index)&&if q.target.hold=U then Z<|q.target.index<(((idx m.zuP q.e).getD J).effect.hold.length:Int)else Z (q.e<=q.f)&&Z (q.target.index<(m.constraints.length:Int))
theorem zxZ {m q}:(if(Z (q.e<0)||Z (q.f<0)||Z ((m.zuP.length:Int)<=q.e)||Z ((m.zuP.length:Int)<=q.f)||Z (q.target.index<0))=U then O M else if q.target.hold=U then(idx m.zuP q.e).bind λx=>O<|Z<|q.target.index<(x.effect.hold.length:Int)else O<|Z (q.e<=q.f)&&Z (q.target.index<(m.constraints.length:Int)))=O (zeA m q):=by
 unfold zeA;by_cases h:((0<=q.e/\q.e<m.zuP.length)/\0<=q.f/\q.f<m.zuP.length)/\0<=q.target.index
 ·obtain⟨a,b⟩:=zaM h.1.1.1 h.1.1.2;grind
 grind
theorem zfT {n m q}(hF:Fuel n)(hS:zvn m):zdl n m q=O (zeE m&&zeA m q):=by unfold zdl;rw[zjZ hF hS,ya];cases zeE m with
 |false=>simp[grd]|true=>
  have:zbJ n (zmJ m) q=O (zeA m q):=zxZ;grind[grd]
theorem zea {n m q}(hn:4294967296<=n)(hS:zvn m):zdu n m q=O (zeE m&&zeA m q):=by unfold zdu;rw[zlq hn hS,ya];cases zeE m with|false=>simp|true=>exact zxZ
theorem zp0:zhI 18446744073709551616=O true:=by decide+kernel
theorem zmH:(zbU 18446744073709551616).map (λm=>m.es.map λe=>e.2)=O (kwL.map λk=>(k,U)):=by decide+kernel
theorem zus:Fuel 18446744073709551616:=by refine⟨by decide,?_⟩;have h:=zmH;cases b:zbU 18446744073709551616 with
 |none=>simp_all|some m=>
  rw[b]at h;simp only[yQ,yo]at h;refine⟨m,rfl,λe c=>?_,λk=>?_⟩;·grind[List.mem_map_of_mem]
  ·have:m.es.map (λe=>e.2.1)=kwL:=by
    have a:m.es.map (λe=>e.2.1)=(m.es.map λe=>e.2).map (·.1):=by simp
    rw[a,h,List.map_map];exact List.map_id kwL
   grind
theorem zhG {K}:∀(l)(last),zhk K last l=U->(∀d∈l,last<d.cell/\d.cell<(K:Int)/\d.add≠0/\-1000000000<=d.add/\d.add<=1000000000)/\(l.map (·.cell)).Nodup
 |[],_,_=>by simp|d::l,last,h=>by
  simp only[zhk,zaZ,yc]at h;obtain⟨⟨⟨⟨i,c⟩,e⟩,f,g⟩,a⟩:=h;obtain⟨j,b⟩:=zhG l d.cell a;grind
theorem zod {m}(hV:zwb m){a}(ha:a∈m.zuP):effP m (zY m.zuU U m.tables).length a.effect=U/\0<=a.operation/\a.operation<(m.zuS.length:Int):=by have h:=hV.acts;simp only[zyw,yc]at h;obtain⟨i,b,rfl⟩:=List.mem_iff_getElem.1 ha;have:=zjq.1 h.2 i b;simp only[zb b,actP]at this;simp_all
theorem zlb {m}(hV:zwb m){c}(hc:c∈m.constraints):zfl (zY m.zuU U m.tables).length c=U\/acyP m c=true:=by have h:=hV.cons;simp only[zyl,yc]at h;obtain⟨i,a,rfl⟩:=List.mem_iff_getElem.1 hc;have:=zjq.1 h.2 i a;simp only[zb a,conP]at this;simp_all
theorem zmi {m}(hV:zwb m){c}(h:acyP m c=U):c.kind=1/\1<=c.size/\c.size<=6:=by obtain⟨p,j,i,f⟩:=zbZ hV.lay;simp only[acyP,zhm,yc,ut,beq_iff_eq]at h;obtain⟨l,-,t,e,d⟩:=h;simp only[zie,yc,beq_iff_eq]at d;obtain⟨⟨k,g⟩,⟨n,o⟩,b⟩:=d;obtain⟨⟨x,q⟩,-,z,a⟩:=zi4 (f t e).2.2.2.1 g;rw[a]at b;simp only[yj]at b;have:=yq.1 i z<|zaA a;simp only[zcO,yc,yf]at this;omega
theorem zf5 {n m}(hn:4294967296<=n)(hS:zvn m)(hV:zwb m):Good n m:=by
 refine⟨λa d=>?_,λc e=>?_⟩;·obtain⟨i,l,p,j,k⟩:=hS.act a d;have f:=(zod hV d).1;simp only[effP]at f;grind[zhG,zkh]
 ·have o:=hS.con c e;rcases zlb hV e with h|h;·simp only[zfl,yc,beq_iff_eq]at h;refine⟨.inl h.1.1.1,by omega,by omega,0,?_,by decide,by omega⟩;rw[h.1.2];rfl
  ·obtain⟨g,q,b⟩:=zmi hV h;refine⟨.inr g,by omega,by omega,c.size.toNat*c.size.toNat,?_,?_,?_⟩
   ·have:=vP b b (by omega)<|by omega
    grind[zuZ,z9]
   ·have:c.size.toNat*c.size.toNat<=6*6:=yZ (by omega) (by omega);omega
   ·have:c.size.toNat*c.size.toNat<=6*6:=yZ (by omega) (by omega);omega
theorem ze2 {m q}(h:zeA m q=U):(0<=q.e/\q.e<(m.zuP.length:Int))/\(0<=q.f/\q.f<(m.zuP.length:Int))/\0<=q.target.index/\(q.target.hold=U->∀a,idx m.zuP q.e=O a->q.target.index<(a.effect.hold.length:Int))/\(q.target.hold=M->q.e<=q.f/\q.target.index<(m.constraints.length:Int)):=by
 simp only[zeA]at h;grind
def zwG:List Range->List Int->Option (List Int)
 |r::rs,x::xs=>match zwG rs xs with
  |some ys=>O<|x::ys|none=>if x<r.hi then O<|(x+1)::rs.map (·.lo)else Y
 |_,_=>Y
def zvl:List Range->List Int->Bool|r::rs,x::xs=>Z (r.lo<=x)&&Z (x<=r.hi)&&zvl rs xs|[],[]=>U|_,_=>M
def zeg:List Range->Nat|[]=>1|r::rs=>(r.hi-r.lo+1).toNat*zeg rs
def valB:List Range->List Int->Nat|r::rs,x::xs=>(x-r.lo).toNat*zeg rs+valB rs xs|_,_=>0
def zih (box:List Range):List Int:=box.map (·.lo)
def zvT (box:List Range):Bool:=box.all λr=>Z (r.lo<=r.hi)&&(Z (-9999<=r.lo)&&Z (r.hi<=9999))
theorem zeV:∀{box}{s},zvl box s=U->s.length=box.length|[],[],_=>rfl|[],_::_,h=>by grind[zvl]|_::_,[],h=>by grind[zvl]|_::b,_::a,h=>by simp only[zvl,yc]at h;simp[zeV h.2]
theorem zfK:∀{box}{s}(h:zvl box s=U)(i)(hi)(hs:i<s.length),box[i].lo<=s[i]/\s[i]<=box[i].hi
 |[],_,_,i,hi,_=>by grind|_::_,[],h,_,_,_=>by grind|r::b,x::a,h,0,_,_=>by
  simp only[zvl]at h;grind|r::b,x::a,h,i+1,hi,hs=>by simp only[zvl,yc]at h;simpa using zfK h.2 i (by simp_all)<|by simp_all
theorem zmK:∀{box},zvT box=U->zvl box (zih box)=U|[],_=>rfl|r::a,h=>by simp only[zvT,uk,yc,yf]at h;simp only[zih,yX,zvl,yc,yf];exact⟨⟨Int.le_refl _,h.1.1⟩,zmK<|by grind[zvT]⟩
theorem zma:∀{box}{s},zvl box s=U->zvT box=U->valB box s<zeg box
 |[],[],_,_=>by simp[valB,zeg]|[],_::_,h,_=>by grind[zvl]|_::_,[],h,_=>by grind[zvl]|r::b,x::f,h,d=>by
  simp only[zvl,yc,yf]at h;have e:=zma h.2 (by grind[zvT]);simp only[valB,zeg];have a:(x-r.lo).toNat+1<=(r.hi-r.lo+1).toNat:=by omega
  have c:=yH (zeg b) a;grind
theorem zla:∀(box),valB box (zih box)=0|[]=>rfl|r::a=>by simp[zih,valB];exact zla a
theorem zga:∀{box}{s},zvl box s=U->zvT box=U->zwG box s=Y->valB box s+1=zeg box
 |[],[],_,_,_=>rfl|[],_::_,h,_,_=>by grind[zvl]|_::_,[],h,_,_=>by grind[zvl]|r::e,x::f,h,d,a=>by
  simp only[zvl,yc,yf]at h;rw[zwG]at a;split at a;·grind
  ·rename_i b;split at a;·grind
   ·have g:=zga h.2 (by grind[zvT]) b;simp only[valB,zeg];have c:(r.hi-r.lo+1).toNat=(x-r.lo).toNat+1:=by omega
    grind
theorem znI:∀{box}{s t},zvl box s=U->zvT box=U->zwG box s=O t->zvl box t=U/\valB box t=valB box s+1
 |[],[],_,_,_,b=>by grind[zwG]|[],_::_,_,h,_,_=>by grind[zvl]|_::_,[],_,h,_,_=>by grind[zvl]|r::d,x::g,t,h,m,b=>by
  simp only[zvl,yc,yf]at h;have a:zvT d=true:=by grind[zvT]
  rw[zwG]at b;split at b;·rename_i n c;cases b;obtain⟨j,k⟩:=znI h.2 a c;simp only[zvl,valB];grind
  ·rename_i c;split at b
   ·cases b;have l:=zga h.2 a c;have e:=zmK a;have f:=zla d;unfold zih at e f;simp only[zvl,valB];have i:(x+1-r.lo).toNat=(x-r.lo).toNat+1:=by omega
    grind
   simp_all
theorem zjX {n box}(hg:zvT box=U)(hl:box.length<=100)(hn:1000000<=n):zae n box []=O true:=by
 unfold zae;rw[if_neg<|by grind];have:=zy (body:=zae.l1 n box []) (len:=box.length) (st:=λi=>i) (g:=λ_=>O U) (λa i hi c=>?_) (λa=>?_) n 0 (ym _)<|by omega
 ·simp_all
 ·have:=yq.1 hg _<|yg hi;have d:(Z (-1000000<=box[i].lo)&&Z (box[i].lo<=1000000))=true:=by grind
  have b:(Z (-1000000<=box[i].hi)&&Z (box[i].hi<=1000000))=true:=by grind
  simp only[zae.l1,zB hi,if_true,zb hi,ya,zbi,d,b,yp,yw,grd,yj,uf,uN,ye,if_false,ze (i:=i)<|by omega,c]
 ·simp only[zae.l1];grind[zev,zae.l2]
theorem zje {n box s}(hi:zvl box s=U)(hl:box.length<=100)(hn:1000000<=n):zbk n box s=O true:=by
 have c:=zeV hi;unfold zbk;have:=zy (body:=zbk.l1 n box s) (len:=box.length) (st:=λi=>i) (g:=λ_=>O U) (λb i a f=>?_) (λb=>?_) n 0 (ym _)<|by omega
 ·simp_all
 ·have d:i<s.length:=by omega
  have:=zfK hi i a d;have e:(Z (box[i].lo<=s[i])&&Z (s[i]<=box[i].hi))=true:=by simp_all
  simp only[zbk.l1,zB a,if_true,zb a,zb d,ya,zbi,e,uf,ye,if_false,ze (i:=i)<|by omega,f]
 ·simp[zbk.l1]
theorem zlQ:∀(i){box}{s ys},s.length=box.length->i<=box.length->zwG (box.drop i) (s.drop i)=O ys->zwG box s=O (s.take i++ys)
 |0,_,_,_,_,_,h=>by simp_all|i+1,box,s,ys,b,c,h=>by
  have a:i<s.length:=by omega
  have:zwG (box.drop i) (s.drop i)=O (s[i]::ys):=by grind[zk,zwG]
  rw[zlQ i b (by omega) this,yv a,yM];rfl
theorem zmU {n box s}(hg:zvT box=U)(hi:zvl box s=U)(hl:box.length<=100)(hn:1000000<=n):zbX n box s=O (match zwG box s with|some ys=>(ys,U)|none=>([],M)):=by
 have hlen:=zeV hi;unfold zbX;rw[zjX hg hl hn,zje hi hl hn];simp only[ya,yp,yw,grd,if_true,yj,uf,uN,ye,if_false];have main:∀(m k:Nat),k<m->k<=box.length->zwG (box.drop k) (s.drop k)=Y->zuR (zbX.l1 n box s) m ((k:Int)-1)=O (match zwG box s with|some ys=>(ys,U)|none=>([],M)):=λm=>by induction m with|zero=>intro k h;omega|succ m ih=>intro k hk hkl hnone;simp only[zuR,zbX.l1];cases k with
   |zero=>simp only[wN]at hnone;rw[hnone];simp|succ k=>
    have hkb:k<box.length:=by omega
    have hks:k<s.length:=by omega
    have e:((k+1:Nat):Int)-1=(k:Int):=by omega
    have hd:Z (0<=(k:Int))=true:=by simp
    simp only[e,hd,if_true,zb hkb,zb hks,ya];by_cases hx:s[k]<box[k].hi
    ·rw[if_pos<|by simpa using hx];have hsome:zwG (box.drop k) (s.drop k)=O ((s[k]+1)::(box.drop<|k+1).map (·.lo)):=by rw[zk hkb,zk hks,zwG,hnone];simp[hx]
     rw[zlQ k hlen (by omega) hsome];generalize hR:s.take k++(s[k]+1)::(box.drop<|k+1).map (·.lo)=R;have hRl:R.length=box.length:=by rw[<-hR];simp;omega
     have:=zy (body:=zbX.l2 n box s (k:Int)) (len:=box.length) (st:=λj=>(R.take j,(j:Int))) (g:=λ_=>O (R,U)) (λrec j hj hr=>?_) (λrec=>?_) n 0 (ym _)<|by omega
     ·simpa using this
     ·have hjR:j<R.length:=by omega
      have hjs:j<s.length:=by omega
      rw[yv hjR]at hr;simp only[zbX.l2,jn,zB hj,if_true,ze (i:=j)<|by omega];by_cases h1:j<k
      ·have hel:R[j]=s[j]:=by simp only[<-hR];rw[List.getElem_append_left<|by simp;omega];simp
       rw[if_pos<|by simpa using h1,zb hjs,ya,zl<|by simp;omega,ya];simp_all
      ·rw[if_neg<|by simp_all];by_cases h2:j=k
       ·subst h2;have hel:R[j]=s[j]+1:=by simp only[<-hR];rw[List.getElem_append_right<|by simp;omega];simp[show min j s.length=j by omega]
        have hb:=zfK hi j hkb hjs;have hbd:=yq.1 hg _<|yg hkb;simp only[yc,yf]at hbd;have hadd:zuN s[j] 1=s[j]+1:=by unfold zuN;rw[z9 (by omega)<|by omega]
        rw[if_pos<|by simp,zb hjs,ya,hadd,zl<|by simp;omega,ya];rw[hel]at hr;exact hr
       ·have hel:R[j]=box[j].lo:=by
         simp only[<-hR];rw[List.getElem_append_right<|by simp;omega];have e2:j-(s.take k).length=j-k-1+1:=by simp;omega
         simp only[e2,List.getElem_cons_succ,List.getElem_map,List.getElem_drop];congr 2;omega
        rw[if_neg<|by simp;omega,zb hj,ya,zl<|by grind,ya];simp_all
     ·simp only[zbX.l2,zat,ye,if_false];grind
    ·rw[if_neg<|by simp_all];grind[zuY,Int,z9,zk,zwG]
 rw[zk7<|by omega];refine main n box.length (by omega) (yk _) ?_;rw[xS,wb<|by omega];rfl
theorem zlu {n box}(hl:box.length<=100)(hn:1000000<=n):zcK n box=O (zih box):=by
 unfold zcK;have:=zy (body:=zcK.l1 n box) (len:=box.length) (st:=λi=>((box.take i).map (·.lo),i)) (g:=λ_=>O<|zih box) (λa i b c=>?_) (λa=>?_) n 0 (ym _)<|by omega
 ·simp_all
 ·rw[<-zdK b]at c;simp only[zcK.l1,zb b,ze (i:=i)<|by omega];grind[zl]
 ·simp[zcK.l1,zih]
def sumP (s:List Int):List Term->Int|[]=>0|t::l=>t.zuW*s.getD t.cell.toNat 0+sumP s l
def zfU (k:Nat)(t:Term):Prop:=0<=t.cell/\t.cell<(k:Int)/\-1000<=t.zuW/\t.zuW<=1000
def ziH (s:List Int):Prop:=∀x∈s,-4000000000<=x/\x<=4000000000
theorem zho {f x B:Int}(h1:-1000<=f)(h2:f<=1000)(h3:-B<=x)(h4:x<=B):-(1000*B)<=f*x/\f*x<=1000*B:=by
 have hB:0<=B:=by omega
 have a1:f.natAbs<=1000:=by omega
 have a2:x.natAbs<=B.toNat:=by omega
 have a3:(f*x).natAbs<=1000*B.toNat:=by rw[Int.natAbs_mul];exact yZ a1 a2
 omega
theorem zj4 {s:List Int}{c:Int}(h0:0<=c)(h1:c<(s.length:Int)):idx s c=O (s.getD c.toNat 0):=by
 obtain⟨k,rfl⟩:=y9 h0;have:k<s.length:=by omega
 rw[zb this];simp[vy,this]
theorem zsk {s:List Int}{c:Int}(h0:0<=c)(h1:c<(s.length:Int)):s.getD c.toNat 0∈s:=zaA<|zj4 h0 h1
theorem zoU {x:Int}(h1:-9223372036854775808<=x)(h2:x<=9223372036854775807):band .i64 x 4294967295=x%4294967296:=by
 unfold band zfX;rw[BitVec.toNat_and,BitVec.toNat_ofInt,BitVec.toNat_ofInt];have e1:((4294967295:Int)%((2^IntKind.i64.bits:Nat):Int)).toNat=2^32-1:=by decide
 rw[e1,Nat.and_two_pow_sub_one_eq_mod];have e2:((2^IntKind.i64.bits:Nat):Int)=18446744073709551616:=by decide
 rw[e2];have e3:(((x%18446744073709551616).toNat%2^32:Nat):Int)=x%4294967296:=by omega
 rw[e3];exact z9 (by omega)<|by omega
theorem zzD {x:Int}(h1:-4000000000<=x)(h2:x<=4000000000):(-1<=x.tdiv 4294967296/\x.tdiv 4294967296<=1)/\(-4294967296<=x.tmod 4294967296/\x.tmod 4294967296<=4294967296)/\x=x.tdiv 4294967296*4294967296+x.tmod 4294967296:=by
 rcases Int.le_total 0 x with h|h;·rw[vQ h,Int.tmod_eq_emod_of_nonneg h];omega
 ·obtain⟨y,rfl⟩:∃y,x=-y:=⟨-x,by omega⟩;rw[Int.neg_tdiv,Int.neg_tmod,vQ<|by omega,Int.tmod_eq_emod_of_nonneg<|by omega];omega
theorem zlo {n:Nat}{r:Row}{s:List Int}(ht:∀t∈r.zuQ,zfU s.length t)(hl:r.zuQ.length<=1000)(hs:ziH s)(hb:-4000000000<=r.bound/\r.bound<=4000000000)(hn:1000000<=n):zcH n r s=O (Z<|sumP s r.zuQ<=r.bound):=by
 have:=zbf (body:=zcH.l1 n r s) (len:=r.zuQ.length) (st:=λ(p:Int×Int)i=>(p.1,p.2,(i:Int))) (g:=λ_ _=>O<|Z<|sumP s r.zuQ<=r.bound) (λi p=>p.1*4294967296+p.2+sumP s (r.zuQ.drop i)=sumP s r.zuQ/\(-(1000*i:Int)<=p.1/\p.1<=1000*i)/\-(4294967296000*i:Int)<=p.2/\p.2<=4294967296000*i) (λrec i p hi hI hr=>?_) (λrec p hI=>?_) n 0 (0,0) (ym _) (by omega) ⟨by simp,by simp,by simp⟩;·simpa[zcH]using this
 ·obtain⟨a,b⟩:=p;obtain⟨h1,h2,h3⟩:=hI;simp only[]at h1 h2 h3;obtain⟨t1,t2,t3,t4⟩:=ht _<|yg hi;have hx:=hs _<|zsk t1 t2;rw[zk hi,sumP]at h1;generalize hxv:s.getD r.zuQ[i].cell.toNat 0=x at*;have hidx:idx s r.zuQ[i].cell=O x:=by rw[zj4 t1 t2,hxv]
  have hq:zv1 x 4294967296=O (x.tdiv 4294967296):=by unfold zv1;rw[if_neg<|by decide];have:=(zzD hx.1 hx.2).1;rw[z9 (by omega)<|by omega]
  have hr4:zv2 x 4294967296=O (x.tmod 4294967296):=by unfold zv2;rw[if_neg<|by decide]
  obtain⟨hqb,hrb,hqr⟩:=zzD hx.1 hx.2;generalize x.tdiv 4294967296=q at*;generalize x.tmod 4294967296=m at*;have m1:=zho t3 t4 hqb.1 hqb.2;have m2:=zho t3 t4 hrb.1 hrb.2;have hmul:r.zuQ[i].zuW*x=r.zuQ[i].zuW*q*4294967296+r.zuQ[i].zuW*m:=by rw[hqr,Int.mul_add,Int.mul_assoc]
  rw[hmul]at h1;have e1:zuZ r.zuQ[i].zuW q=r.zuQ[i].zuW*q:=by unfold zuZ;exact z9 (by omega)<|by omega
  have e2:zuZ r.zuQ[i].zuW m=r.zuQ[i].zuW*m:=by unfold zuZ;exact z9 (by omega)<|by omega
  have hlen:(i:Int)<=1000:=by omega
  have e3:zuN a (r.zuQ[i].zuW*q)=a+r.zuQ[i].zuW*q:=by unfold zuN;exact z9 (by omega)<|by omega
  have e4:zuN b (r.zuQ[i].zuW*m)=b+r.zuQ[i].zuW*m:=by unfold zuN;exact z9 (by omega)<|by omega
  simp only[zcH.l1,zB hi,if_true,zb hi,ya,hidx,hq,hr4,e1,e2,e3,e4,ze (i:=i)<|by omega];exact hr (a+r.zuQ[i].zuW*q,b+r.zuQ[i].zuW*m) ⟨by simp only[];omega,by simp only[];omega,by simp only[];omega⟩
 ·obtain⟨a,b⟩:=p;obtain⟨h1,h2,h3⟩:=hI;simp only[xS,sumP,Int.add_zero]at h1 h2 h3;have hlen:(r.zuQ.length:Int)<=1000:=by omega
  have s1:shrO .i64 b 32=O (b/4294967296):=by unfold shrO;rw[if_neg<|by decide,Int.fdiv_eq_ediv_of_nonneg _<|by decide];rfl
  have s2:shrO .i64 r.bound 32=O (r.bound/4294967296):=by unfold shrO;rw[if_neg<|by decide,Int.fdiv_eq_ediv_of_nonneg _<|by decide];rfl
  have e3:zuN a (b/4294967296)=a+b/4294967296:=by unfold zuN;exact z9 (by omega)<|by omega
  simp only[zcH.l1,zat,ye,if_false,s1,s2,ya,e3,zoU (x:=b) (by omega)<|by omega,zoU (x:=r.bound) (by omega)<|by omega,yo];rw[we];simp only[yG,yc,yf,beq_iff_eq];omega
def anyR (p:Nat->Bool)(i:Nat):Nat->Bool|0=>M|k+1=>p i||anyR p (i+1) k
theorem znk {p q}:∀{k i},(∀j,i<=j->j<i+k->p j=U->q j=U)->anyR p i k=U->anyR q i k=U
 |0,_,_,h=>by grind[anyR]|k+1,i,a,h=>by
  simp only[anyR,yG]at h|-;rcases h with h|h;·simp_all
  ·exact .inr<|znk (λj c b=>a j (by omega)<|by omega) h
def neP (E:Nat->Nat->Bool)(size:Nat):Nat->List Int->Nat->Nat->Bool|0,_,first,last=>E last first|d+1,path,first,last=>anyR (λx=>!(Z ((x:Int)∈path)||!E last x)&&neP E size d (path++[(x:Int)]) first x) (first+1)<|size-(first+1)
theorem zps {E F size}(h:∀a b,a<size->b<size->E a b=U->F a b=U):∀(d)(path)(first last),first<size->last<size->neP E size d path first last=U->neP F size d path first last=U|0,_,first,last,e,f,g=>h _ _ f e g|d+1,path,first,last,e,f,g=>by refine znk (λj i k c=>?_) g;simp only[yc,yz,uc,vH]at c|-;exact⟨⟨c.1.1,h _ _ f (by omega) c.1.2⟩,zps h d _ first j e (by omega) c.2⟩
def zvX (s:List Int)(c:Constraint)(a b:Nat):Bool:=Z<|1<=s.getD (c.first+(a:Int)*c.size+(b:Int)).toNat 0
structure zxH (c:Constraint)(s:List Int)(size:Nat):Prop where
 sz:c.size=(size:Int)pos:1<=size
 six:size<=6
 first:0<=c.first
 fits:c.first+(size*size:Nat)<=(s.length:Int)len:s.length<=1000
theorem zqQ {n c s size a b}(h:zxH c s size)(ha:a<size)(hb:b<size):zd5 n c s a b=O (zvX s c a b):=by
 have e:a*size+b<size*size:=by
  have:=yH size<|show a+1<=size by omega
  grind
 have f:=h.fits;have g:=h.len;have i:=h.first;have j:a*c.size=(a*size:Nat):=by rw[h.sz,ux]
 unfold zd5 zvX;have k:zuZ a c.size=a*size:=by grind[zuZ,z9]
 have l:zuN c.first (a*size)=c.first+a*size:=by grind[zuN,z9]
 have d:zuN (c.first+a*size) b=c.first+a*size+b:=by grind[zuN,z9]
 grind[zj4]
theorem znQ {n l x}(hl:l.length<1000000)(hn:1000000<=n):zdO n l x=O (Z<|x∈l):=by
 have:=zy (body:=zdO.l1 n l x) (len:=l.length) (st:=λi=>i) (g:=λi=>O<|Z<|x∈l.drop i) (λa i b c=>?_) (λa=>?_) n 0 (ym _)<|by omega
 ·grind[zdO]
 ·simp only[zdO.l1,zb b,ze (i:=i)<|by omega];rw[zk b];grind
 ·simp[zdO.l1]
theorem zpx {c s size}(hG:zxH c s size):∀(d m:Nat)(path:List Int)(first last:Nat),d<=6->1000000+d<m->1<=path.length->path.length+d<=10->idx path 0=O (first:Int)->idx path ((path.length-1:Nat):Int)=O (last:Int)->first<size->last<size->∃L,zaJ m c s path ((path.length+d:Nat):Int)=O L/\(L≠[]↔neP (zvX s c) size d path first last=U)/\L.length<=6^d/\∀p∈L,p≠[]
 |d,0,_,_,_,_,h,_,_,_,_,_,_=>by omega|0,m+1,path,first,last,_,hm,hp,hp2,h0,hl,hf,hla=>by simp only[zaJ,zaJ.body];rw[ze9 (by omega)<|by omega,hl,h0];simp only[ya,uv,beq_self_eq_true,if_true,zqQ hG hla hf,neP];cases zvX s c last first with|true=>exact⟨[path],rfl,by simp,by simp,λp hp'=>by simp only[yK]at hp';subst hp';intro e;rw[e]at hp;simp at hp⟩|false=>exact⟨[],rfl,by simp,by simp,λp hp'=>by simp at hp'⟩
 |d+1,m+1,path,first,last,hd6,hm,hp,hp2,h0,hl,hf,hla=>by
  have h6:=hG.six;simp only[zaJ,zaJ.body];rw[ze9 (by omega)<|by omega,hl,h0];simp only[ya];rw[if_neg<|by simp;omega,ze<|by omega,neP];have hpow:1<=6^d:=Nat.one_le_pow _ _ (by decide);have hpow2:6^d<=46656:=yI (uq (by decide)<|show d<=6 by omega) (by decide);have main:=zcV (body:=zaJ.l1 m (zaJ m) c s path ((path.length+(d+1):Nat):Int) (last:Int)) (λst=>size-st.2.toNat) (λst=>∃i:Nat,st.2=(i:Int)/\i<=size/\st.1.length<=i*6^d) (λst o=>∃L,o=O (st.1++L)/\(L≠[]↔anyR (λx=>!(Z ((x:Int)∈path)||!zvX s c last x)&&neP (zvX s c) size d (path++[(x:Int)]) first x) st.2.toNat (size-st.2.toNat)=U)/\L.length<=(size-st.2.toNat)*6^d/\∀p∈L,p≠[]) (λrec st hI hr=>by
    obtain⟨b,x⟩:=st;obtain⟨i,rfl,hi,hb⟩:=hI;simp only[]at hb hr;simp only[zaJ.l1,jn,yr];by_cases hlt:i<size
    ·have hsz:Z ((i:Int)<c.size)=true:=by rw[hG.sz];exact zjE hlt
     have hb2:b.length<=300000:=by have:i*6^d<=6*46656:=yZ (by omega) hpow2;omega
     simp only[hsz,if_true,znQ (show path.length<1000000 by omega)<|show 1000000<=m by omega,zqQ hG hla hlt,ya,yp,yw,grd,yj,ze (i:=i)<|by omega];rw[show size-i=size-(i+1)+1 by omega,anyR];have hnx:∀b':List<|List Int,b'.length<=(i+1)*6^d->∃L,rec (b',((i+1:Nat):Int))=O (b'++L)/\(L≠[]↔anyR (λx=>!(Z ((x:Int)∈path)||!zvX s c last x)&&neP (zvX s c) size d (path++[(x:Int)]) first x) (i+1) (size-(i+1))=U)/\L.length<=(size-(i+1))*6^d/\∀p∈L,p≠[]:=λb' hb'=>by have:=hr (b',((i+1:Nat):Int)) ⟨i+1,rfl,by omega,hb'⟩ (by simp only[yr];omega);simpa only[yr]using this
     by_cases hsk:(Z ((i:Int)∈path)||!zvX s c last i)=U;·rw[if_pos hsk,hsk];obtain⟨L,l1,l2,l3,l4⟩:=hnx b (by rw[uz];omega);refine⟨L,l1,by simpa using l2,by rw[uz];omega,l4⟩
     ·rw[if_neg hsk];simp only[yR]at hsk;rw[hsk,zl<|by simp;omega,ya,zl<|by simp;omega,ya];simp only[yN];obtain⟨L',p1,p2,p3,p4⟩:=zpx hG d m (path++[(i:Int)]) first i (by omega) (by omega) (by simp) (by simp;omega) (by
       obtain⟨y,hy⟩:∃y,y=path:=⟨_,rfl⟩;cases path with
       |nil=>simp at hp|cons z zs=>simpa[idx]using h0) (by
       have:(path++[(i:Int)]).length-1=path.length:=by simp
       rw[this,zb<|by simp];simp) hf hlt;have e:((path++[(i:Int)]).length+d:Nat)=path.length+(d+1):=by simp;omega
      rw[e]at p1;rw[p1,ya,zl<|by omega,ya];obtain⟨L,l1,l2,l3,l4⟩:=hnx (b++L') (by grind);refine⟨L'++L,by rw[l1,yM],?_,by rw[yT,uz];omega,λp hp'=>?_⟩
      ·simp only[ur,yA,yG,<-p2,<-l2,ne_eq,List.append_eq_nil_iff];constructor
       ·intro h;by_cases hx:L'=[];·exact .inr λhy=>h ⟨hx,hy⟩
        ·exact .inl hx
       ·rintro(h|h)⟨h1,h2⟩;·exact h h1
        ·exact h h2
      ·rcases yu.1 hp' with h|h;·exact p4 p h
       ·exact l4 p h
    ·have hie:i=size:=by omega
     have hsz:Z ((i:Int)<c.size)=false:=by rw[hG.sz];simp_all
     simp only[hsz,ye,if_false];exact⟨[],by simp,by simp[hie,anyR],by simp,λp hp'=>by simp at hp'⟩) m ([],((first+1:Nat):Int)) ⟨first+1,rfl,by omega,by simp⟩<|by grind
  grind[Int.toNat_natCast,Nat.pow_succ,Nat.mul_comm,Nat.le_trans,Nat.mul_le_mul_right]
def zwZ (E:Nat->Nat->Bool)(size:Nat):Bool:=allR (λlen=>allR (λa=>!neP E size (len-1) [(a:Int)] a a) 0 size) 1 size
theorem ziQ {E F size}(h:∀a b,a<size->b<size->E a b=U->F a b=U)(hF:zwZ F size=U):zwZ E size=true:=by unfold zwZ at hF|-;rw[zj1]at hF|-;intro len h1 h2;have:=hF len h1 h2;rw[zjq]at this|-;intro a ha;have hn:=this a ha;cases hx:neP E size (len-1) [(a:Int)] a a with|false=>rfl|true=>rw[zps h _ _ _ _ ha ha hx]at hn;exact hn
theorem zr9 {n c s size}(hk:c.kind=1)(hG:zxH c s size)(hn:4294967296<=n):∃l,zbp n c s=O l/\((l.length:Int)==0)=zwZ (zvX s c) size:=by
 have h6:=hG.six;have hpos:=hG.pos;have hfits:=hG.fits;have hlen:=hG.len;have h0:=hG.first;have hsq:((size*size:Nat):Int)=(size:Int)*(size:Int):=ux _ _;have hin:zaU n c (s.length:Int)=O true:=by
  unfold zaU;have e1:zuZ c.size c.size=((size*size:Nat):Int):=by unfold zuZ;have:size*size<=6*6:=yZ h6 h6;rw[hG.sz,<-hsq];exact z9 (by omega)<|by omega
  have e2:zuY (s.length:Int) ((size*size:Nat):Int)=(s.length:Int)-((size*size:Nat):Int):=by have:size*size<=6*6:=yZ h6 h6;unfold zuY;exact z9 (by omega)<|by omega
  rw[if_pos<|by simp[hk],e1,e2,hG.sz];simp only[yo,yc,yf];omega
 unfold zbp;rw[hin];simp only[hk,bne_self_eq_false,yp,yw,grd,if_true,yj,uf,uN,ye,if_false];have inner:∀(len:Nat),1<=len->len<=6->∀rec:Int->Option (List Int),(∃l,zuR (zbp.l2 n c s (len:Int) rec) n 0=O l/\l≠[]/\allR (λa=>!neP (zvX s c) size (len-1) [(a:Int)] a a) 0 size=M)\/zuR (zbp.l2 n c s (len:Int) rec) n 0=rec ((len+1:Nat):Int)/\allR (λa=>!neP (zvX s c) size (len-1) [(a:Int)] a a) 0 size=U:=λlen hl1 hl6 rec=>by
  have:=zcV (body:=zbp.l2 n c s (len:Int) rec) (λst=>size-st.toNat) (λst=>∃i:Nat,st=(i:Int)/\i<=size) (λst o=>(∃l,o=O l/\l≠[]/\allR (λa=>!neP (zvX s c) size (len-1) [(a:Int)] a a) st.toNat (size-st.toNat)=M)\/o=rec ((len+1:Nat):Int)/\allR (λa=>!neP (zvX s c) size (len-1) [(a:Int)] a a) st.toNat (size-st.toNat)=U) (λrec' st hI hr=>by
   obtain⟨i,rfl,hi⟩:=hI;simp only[zbp.l2,yr];by_cases hlt:i<size
   ·have hsz:Z ((i:Int)<c.size)=true:=by rw[hG.sz];exact zjE hlt
    obtain⟨L,p1,p2,p3,p4⟩:=zpx hG (len-1) n [(i:Int)] i i (by omega) (by omega) (by simp) (by simp;omega) (by simp[idx]) (by simp[idx]) hlt hlt;have e:([(i:Int)].length+(len-1):Nat)=len:=by simp;omega
    rw[e]at p1;simp only[hsz,if_true,p1,ya,ze (i:=i)<|by omega];rw[show size-i=size-(i+1)+1 by omega,allR];by_cases hL:L=[]
    ·subst hL;rw[if_neg<|by simp];have hne:neP (zvX s c) size (len-1) [(i:Int)] i i=false:=by cases hx:neP (zvX s c) size (len-1) [(i:Int)] i i with
      |false=>rfl|true=>exact absurd rfl<|p2.2 hx
     rw[hne];have:=hr ((i+1:Nat):Int) ⟨i+1,rfl,by omega⟩ (by simp only[yr];omega);simpa using this
    ·have hpl:0<L.length:=List.length_pos_iff.2 hL;rw[if_pos<|by simpa using hpl];have hne:=p2.1 hL;rw[hne];have hx:idx L 0=O L[0]:=zb (l:=L) (i:=0) hpl;rw[hx];exact .inl ⟨L[0],rfl,p4 _<|yg hpl,by simp⟩
   ·have hie:i=size:=by omega
    have hsz:Z ((i:Int)<c.size)=false:=by rw[hG.sz];exact zhl<|by omega
    simp only[hsz,ye,if_false,ze (i:=len)<|by omega];exact .inr ⟨trivial,by simp[hie,allR]⟩) n 0 ⟨0,rfl,by omega⟩<|by simp;omega
  simpa using this
 have:=zcV (body:=zbp.l1 n c s) (λst=>size+1-st.toNat) (λst=>∃i:Nat,st=(i:Int)/\1<=i/\i<=size+1) (λst o=>∃l,o=O l/\((l.length:Int)==0)=allR (λlen=>allR (λa=>!neP (zvX s c) size (len-1) [(a:Int)] a a) 0 size) st.toNat (size+1-st.toNat)) (λrec st hI hr=>by
  obtain⟨i,rfl,hi1,hi⟩:=hI;simp only[zbp.l1,yr];by_cases hlt:i<=size
  ·have hsz:Z ((i:Int)<=c.size)=true:=by rw[hG.sz];simpa using hlt
   rw[hsz,if_pos rfl,show size+1-i=size+1-(i+1)+1 by omega,allR];rcases inner i hi1 (by omega) rec with⟨l,q1,q2,q3⟩|⟨q1,q2⟩;·rw[q1,q3];exact⟨l,rfl,by simpa using q2⟩
   ·rw[q1,q2];have:=hr ((i+1:Nat):Int) ⟨i+1,rfl,by omega,by omega⟩ (by simp only[yr];omega);simpa using this
  ·have hie:i=size+1:=by omega
   have hsz:Z ((i:Int)<=c.size)=false:=by rw[hG.sz];simp;omega
   rw[hsz,if_neg<|by simp];exact⟨[],rfl,by simp[hie,allR]⟩) n 1 ⟨1,rfl,by omega,by omega⟩<|by simp;omega
 simpa[zwZ]using this
inductive zyV (c:Constraint)(k:Nat):Prop|row:c.kind=0->(∀t∈c.row.zuQ,zfU k t)->c.row.zuQ.length<=1000->-4000000000<=c.row.bound/\c.row.bound<=4000000000->zyV c k|graph(size:Nat):c.kind=1->c.size=(size:Int)->1<=size->size<=6->0<=c.first->c.first+(size*size:Nat)<=(k:Int)->zyV c k
def zag (c:Constraint)(s:List Int):Bool:=if c.kind=1 then zwZ (zvX s c) c.size.toNat else Z<|sumP s c.row.zuQ<=c.row.bound
theorem zhZ {n c s}(hC:zyV c s.length)(hs:ziH s)(hl:s.length<=1000)(hn:4294967296<=n):zbA n c s=O (zag c s):=by unfold zbA zhS zag;cases hC with
 |row hk ht htl hb=>
  have hin:zaU n c (s.length:Int)=O true:=by
   unfold zaU;rw[if_neg<|by simp[hk]];have:=zy (body:=zaU.l1 n c (s.length:Int)) (len:=c.row.zuQ.length) (st:=λi=>(i:Int)) (g:=λ_=>O U) (λrec i hi hr=>?_) (λrec=>?_) n 0 (ym _)<|by omega
   ·simpa using this
   ·obtain⟨t1,t2,-⟩:=ht _<|yg hi;have h1:Z (c.row.zuQ[i].cell<0)=false:=by simp;omega
    have h2:Z ((s.length:Int)<=c.row.zuQ[i].cell)=false:=by simp;omega
    simp only[zaU.l1,zB hi,if_true,zb hi,ya,yp,yw,grd,yj,h1,h2,uN,ye,if_false,ze (i:=i)<|by omega,hr]
   ·simp[zaU.l1,hk]
  have hk1:¬c.kind=1:=by omega
  rw[hin,ya,if_neg<|by simp,if_neg<|by simp[hk],zlo ht htl hs hb<|by omega,if_neg hk1];rfl|graph size hk hsz h1 h6 h0 hf=>
  have hG:zxH c s size:=⟨hsz,h1,h6,h0,hf,hl⟩;obtain⟨l,hc1,hc2⟩:=zr9 hk hG hn;have hin:zaU n c (s.length:Int)=O true:=by
   have hsq:((size*size:Nat):Int)=(size:Int)*(size:Int):=ux _ _;have:size*size<=6*6:=yZ h6 h6;unfold zaU;have e1:zuZ c.size c.size=((size*size:Nat):Int):=by unfold zuZ;rw[hsz,<-hsq];exact z9 (by omega)<|by omega
   have e2:zuY (s.length:Int) ((size*size:Nat):Int)=(s.length:Int)-((size*size:Nat):Int):=by unfold zuY;exact z9 (by omega)<|by omega
   rw[if_pos<|by simp[hk],e1,e2,hsz];simp only[yo,yc,yf];omega
  rw[hin,ya,if_neg<|by simp,if_pos<|by simp[hk],hc1,if_pos hk,hsz];simp only[ya,hc2,yr]
theorem zjd {β:Type}(g:Nat->List β)(k:Nat):(xn<|k+1).flatMap g=(xn k).flatMap g++g k:=by rw[uy,List.flatMap_append];simp
def boxM (m:Model):List Range:=zY m.zuU U m.tables
theorem zhR {sizes s}:∀{l}{r},r∈zY sizes s l->∃t∈l,r=t.range
 |[],r,h=>by grind[zY]|t::l,r,h=>by
  rw[zY]at h;split at h
  ·rcases yu.1 h with h|h;·simp_all
   ·obtain⟨u,a,e⟩:=zhR h;grind
  ·obtain⟨u,a,e⟩:=zhR h;grind
theorem zeG {m}(hL:zbx m.zuU m.tables=U):zvT (boxM m)=true:=by
 unfold zvT;rw[yq];intro r c;obtain⟨t,d,rfl⟩:=zhR c;have a:=hL;simp only[zbx,yc]at a;have:=zig a.2 t d;simp only[tabP,yc]at this;have b:=this.2;unfold zgP at b;split at b;·simp_all
 simp_all
theorem zoF {sizes}(hs:sizes.all zcO=U):∀{l}{seen}{a b},layP sizes seen a b l=U->0<=a->a+216*(l.length:Int)<=1000000->∀t∈l,zbB t.kind=U->a<=t.first/\t.first+zau sizes t.zuO 1<=a+((zY sizes U l).length:Int)
 |[],_,_,_,_,_,_,t,e,_=>by grind|x::l,seen,a,b,h,n,o,t,e,g=>by
  have c:=zig h x (by simp);simp only[tabP,yc,yf]at c;have p:=zgX hs c.1.2.2 c.1.2.1;simp only[layP,yc]at h;have f:=h.2;simp only[yW]at o;have j:=by omega
  by_cases k:zbB x.kind=U
  ·rw[if_pos k]at f;simp only[yc,beq_iff_eq]at f;have m:zuN a (zau sizes x.zuO 1)=a+zau sizes x.zuO 1:=by exact z9 (by omega)<|by omega
   have d:(zY sizes U<|x::l).length=zau sizes x.zuO 1+(zY sizes U l).length:=by rw[zY,k,if_pos<|by rfl,yT,uD];omega
   rcases yF.1 e with rfl|e;·omega
   ·have:=zoF hs f.2 (by omega) (by omega) t e g;omega
  ·rw[if_neg k]at f;simp only[yc]at f;have i:zbB x.kind=false:=by simp_all
   have d:zY sizes U (x::l)=zY sizes U l:=by rw[zY,i,if_neg<|by decide]
   rw[d];rcases yF.1 e with rfl|e;·simp_all
   ·exact zoF hs f.2 n (by omega) t e g
theorem zha {K}:∀{l}{last},rowP K last l=U->-1<=last->∀t∈l,zfU K t
 |[],_,_,_,t,a=>by grind|x::l,last,h,b,t,a=>by
  simp only[rowP,zaZ,yc,yf]at h;rcases yF.1 a with rfl|a;·exact⟨by omega,h.1.1.1.2,by omega,by omega⟩
  ·exact zha h.2 (by omega) t a
theorem zs8 {K r}(h:zvE K r=U)(hl:r.zuQ.length<=1000):zyV ⟨0,0,r,0,0⟩ K:=by simp only[zvE,zaZ,yc]at h;exact .row rfl (zha h.1<|by decide) hl<|by grind
theorem zqL {m}(hS:zvn m)(hV:zwb m){c}(hc:c∈m.constraints):zyV c (boxM m).length:=by
 have z:=hS.con c hc;rcases zlb hV hc with h|h;·simp only[zfl,yc,beq_iff_eq]at h;have l:=h.2;simp only[zvE,zaZ,yc,yf]at l;exact .row h.1.1.1 (zha l.1<|by decide) (by omega)<|by omega
 ·obtain⟨C,G,u,w⟩:=zbZ hV.lay;obtain⟨y,F,o⟩:=zmi hV h;have r:=hV.lay;simp only[zbx,yc]at r;simp only[acyP,zhm,yc,ut]at h;obtain⟨-,-,t,s,n⟩:=h;simp only[zie,yc,beq_iff_eq]at n;obtain⟨⟨A,B⟩,⟨f,E⟩,d⟩:=n;have k:=zoF u r.2 (Int.le_refl _) (by omega) t s (by grind[zbB]);have a:=(w t s).2.2.2.1;obtain⟨p,q,b⟩:∃p q,t.zuO=[p,q]:=by match v:t.zuO with
   |[]=>simp_all|[_]=>simp_all|[p,q]=>simp_all|_::_::_::_=>grind
  have e:idx t.zuO 0=O p:=by rw[b];rfl
  have g:idx t.zuO 1=O q:=by rw[b];rfl
  rw[e,g]at f;rw[e]at d;simp only[yj]at f d;subst f;have j:=yq.1 a p (by simp_all);rw[zf6 j]at d;simp only[yj]at d;have H:zau m.zuU t.zuO 1=c.size*c.size:=by rw[b];simp only[zau,d];have:=vP o o (by omega) (by omega);have I:0<=c.size*c.size:=Int.mul_nonneg (by omega) (by omega);unfold zuZ;rw[Int.one_mul,z9 (x:=c.size) (by omega)<|by omega,z9 (by omega)<|by omega]
  have i:c.size=c.size.toNat:=by omega
  refine .graph c.size.toNat y i (by omega) (by omega) (by omega) ?_;grind[boxM]
def zu4 (s:List Int)(d:List Change):List Int:=(xn s.length).map λi=>s.getD i 0+zA d (i:Int)
theorem zd9 (s d):(zu4 s d).length=s.length:=by simp[zu4]
theorem zg6 {s d c}(h0:0<=c)(h1:c<(s.length:Int)):(zu4 s d).getD c.toNat 0=s.getD c.toNat 0+zA d c:=by grind[zu4]
def ze6 (d:List Change):Prop:=∀x∈d,-1000000000<=x.add/\x.add<=1000000000
theorem zcj {d}(h:ze6 d)(c):-1000000000<=zA d c/\zA d c<=1000000000:=by induction d with
 |nil=>simp[zA]|cons x l ih=>
  simp only[zA];split;·exact h x<|by simp
  ·exact ih λy a=>h y<|by grind
theorem zfO {s d B}(hs:∀x∈s,-B<=x/\x<=B)(hd:ze6 d):∀x∈zu4 s d,-(B+1000000000)<=x/\x<=B+1000000000:=by
 intro x a;simp only[zu4,y7,yU]at a;obtain⟨i,b,rfl⟩:=a;have e:=hs s[i]<|yg b;have c:=zcj hd i;grind
theorem zmf {n e s}(h1:e.delta.length<4611686018427387904)(h2:e.delta.length<n)(ha:∀k,addP k e.delta 0=zA e.delta k)(hd:ze6 e.delta)(hs:ziH s)(hl:s.length<=1000)(hn:1000000<=n):zb9 n s e=O (zu4 s e.delta):=by
 unfold zb9;have:=zy (body:=zb9.l1 n s e) (len:=s.length) (st:=λi=>((zu4 s e.delta).take i,i)) (g:=λ_=>O<|zu4 s e.delta) (λb i c f=>?_) (λb=>?_) n 0 (ym _)<|by omega
 ·simp_all
 ·have a:i<(zu4 s e.delta).length:=by grind[zd9]
  rw[yv a]at f;have h:(zu4 s e.delta)[i]=s[i]+zA e.delta i:=by grind[zu4]
  have l:=hs _<|yg c;have j:=zcj hd i;have d:zuN s[i] (zA e.delta i)=s[i]+zA e.delta i:=by grind[zuN,z9]
  simp only[zb9.l1,zb c,zep _ h1 h2,ze (i:=i)<|by omega];grind[zl]
 ·simp only[zb9.l1,zat,ye,if_false];rw[xV<|by rw[zd9];simp_all]
def chgP (d:List Change):List Term->Int|[]=>0|t::l=>t.zuW*zA d t.cell+chgP d l
theorem zgi {s d}:∀{l},(∀t∈l,zfU s.length t)->sumP (zu4 s d) l=sumP s l+chgP d l
 |[],_=>rfl|t::l,h=>by
  obtain⟨t1,t2,-⟩:=h t (by simp);have ih:=zgi (s:=s) (d:=d) (l:=l) λx hx=>h x<|by grind
  grind[sumP,chgP,zg6,Int.mul_add]
set_option maxRecDepth 20000 in
theorem zjw {d}(hd:ze6 d):∀{l}{s},(∀t∈l,-1000<=t.zuW/\t.zuW<=1000)->(l.length:Int)<=1000->-(1000000000000*(1000-(l.length:Int)))<=s/\s<=1000000000000*(1000-(l.length:Int))->zcT (zA d) l s=s+chgP d l
 |[],s,_,_,_=>by simp[zcT,chgP]|t::l,s,c,e,g=>by
  have b:=c t (by simp);have a:=zcj hd t.cell;have j:=zho b.1 b.2 a.1 a.2;simp only[yW]at e g;have k:=by omega
  have f:zuZ t.zuW (zA d t.cell)=t.zuW*zA d t.cell:=by grind[zuZ,z9]
  have h:zuN s (t.zuW*zA d t.cell)=s+t.zuW*zA d t.cell:=by grind[zuN,z9]
  rw[zcT,f,h,zjw hd (λx i=>c x<|by grind) (by omega)<|by omega,chgP];omega
theorem zkp {d}(hd:ze6 d){l}(ht:∀t∈l,-1000<=t.zuW/\t.zuW<=1000)(hl:l.length<=1000):zcT (zA d) l 0=chgP d l:=by grind[zjw]
theorem zhu {n m t}(hc:t.zuO.all (zvJ m.zuU)=U)(hl:t.zuO.length<=1000)(hn:1000000<=n):zcp n m t=O (zau m.zuU t.zuO 1):=by
 have:=zy (body:=zcp.l1 n m t) (len:=t.zuO.length) (st:=λi=>(zau m.zuU (t.zuO.take i) 1,i)) (g:=λ_=>O<|zau m.zuU t.zuO 1) (λc i a b=>?_) (λc=>?_) n 0 (ym _)<|by omega
 ·grind[zcp,zau]
 ·rw[yv a,zdX]at b;simp only[zau]at b;simp only[zcp.l1,zB a,if_true,zb a,ya,zf6<|yq.1 hc _<|yg a,ze (i:=i)<|by omega,b]
 ·simp[zcp.l1]
theorem zjJ {n m}(hS:zvn m)(hL:zbx m.zuU m.tables=U)(hn:1000000<=n):zb4 n m=O (boxM m):=by
 obtain⟨l1,l2,l3,l4⟩:=zbZ hL;unfold zb4;have:=zy (body:=zb4.l1 n m) (len:=m.tables.length) (st:=λi=>(zY m.zuU U<|m.tables.take i,(i:Int))) (g:=λ_=>O<|boxM m) (λrec i hi hr=>?_) (λrec=>?_) n 0 (ym _)<|by omega
 ·simpa[zY]using this
 ·obtain⟨-,-,c1,c2,c3,c4⟩:=l4 _<|yg hi;have hlen:=zdt (sizes:=m.zuU) (s:=U) (l:=m.tables.take i) λx hx=>(l4 x<|ws hx).2.2.2.2;rw[zfm hi]at hr;obtain⟨W,hW⟩:=y9 (show 0<=zau m.zuU m.tables[i].zuO 1 by omega);have hcell:=zhu (n:=n) (m:=m) (t:=m.tables[i]) c2 (by omega) hn;rw[hW]at hcell hr;simp only[zb4.l1,jn,zB hi,zb hi,ya,zeo,ze (i:=i)<|by omega];by_cases hst:(m.tables[i].kind==0||m.tables[i].kind==1)=U
  ·have hst':(zbB m.tables[i].kind==U)=true:=by grind[zbB]
   rw[if_pos hst];have inner:=zy (body:=zb4.l2 n m (i:Int) λv=>rec (v,((i+1:Nat):Int))) (len:=W) (st:=λk=>(zY m.zuU U (m.tables.take i)++xy k m.tables[i].range,(k:Int))) (g:=λ_=>O<|boxM m) (λrec' k hk hr'=>?_) (λrec'=>?_) n 0 (ym _)<|by omega
   ·simpa using inner
   ·simp only[zb4.l2,zb hi,hcell,if_true,ze (i:=k)<|by omega];grind[zl,u6]
   ·simp only[zb4.l2,zb hi];simp_all
  ·have hst':¬(zbB m.tables[i].kind==U)=true:=by grind[zbB]
   simp_all
 ·simp[zb4.l1,boxM]
theorem zlr {n m}(hL:zbx m.zuU m.tables=U)(hn:1000000<=n):zcI n m=O ((boxM m).length:Int):=by
 obtain⟨q,w,u,f⟩:=zbZ hL;unfold zcI;have:=zy (body:=zcI.l1 n m) (len:=m.tables.length) (st:=λi=>((zY m.zuU U<|m.tables.take i).length,i)) (g:=λ_=>O (boxM m).length) (λd i b k=>?_) (λd=>?_) n 0 (ym _)<|by omega
 ·grind[zY]
 ·obtain⟨-,-,v,j,y,r⟩:=f _<|yg b;have h:=zdt (sizes:=m.zuU) (s:=U) (l:=m.tables.take i) λx o=>(f x<|ws o).2.2.2.2;rw[zfm b]at k;have c:=zhu (n:=n) (m:=m) (t:=m.tables[i]) j (by omega) hn;simp only[zcI.l1,jn,zb b,zeo,ze (i:=i)<|by omega];by_cases p:(m.tables[i].kind==0||m.tables[i].kind==1)=U
  ·have a:(zbB m.tables[i].kind==U)=true:=by grind[zbB]
   have e:zuN (zY m.zuU U<|m.tables.take i).length (zau m.zuU m.tables[i].zuO 1)=(zY m.zuU U (m.tables.take i)++xy (zau m.zuU m.tables[i].zuO 1).toNat m.tables[i].range).length:=by grind[zuN,z9]
   simp_all
  ·have a:¬(zbB m.tables[i].kind==U)=true:=by grind[zbB]
   simp_all
 ·simp[zcI.l1,boxM]
def zx9 (m:Model)(e:zvL)(s:List Int):Bool:=m.constraints.all (λc=>zag c s&&zag c (zu4 s e.delta))&&e.hold.all λr=>zag ⟨0,0,r,0,0⟩ s
structure zyv (m:Model)(s:List Int):Prop where
 len:s.length=(boxM m).length
 small:∀x∈s,-9999<=x/\x<=9999
theorem zsE {m}(hL:zbx m.zuU m.tables=U){s}(h:zvl (boxM m) s=U):zyv m s:=by
 have a:=zeV h;refine⟨a,λx d=>?_⟩;obtain⟨i,c,rfl⟩:=List.mem_iff_getElem.1 d;have b:i<(boxM m).length:=by omega
 have f:=zfK h i b c;have e:=yq.1 (zeG hL) _<|yg b;grind
theorem zkg {m}(hV:zwb m){a}(ha:a∈m.zuP):ze6 a.effect.delta/\∀r∈a.effect.hold,zvE (boxM m).length r=true:=by have h:=(zod hV ha).1;simp only[effP,yc,yq]at h;obtain⟨c,-⟩:=zhG _ _ h.1;exact⟨λx b=>by simp_all,h.2.2.2⟩
theorem zkf {n m a s}(hS:zvn m)(hV:zwb m)(ha:a∈m.zuP)(hs:zyv m s)(hK:(boxM m).length<=1000)(hn:4294967296<=n):zad n m a.effect s=O (zx9 m a.effect s):=by
 have z:=zf5 hn hS hV;obtain⟨v,w,p,-⟩:=z.acts a ha;obtain⟨j,y⟩:=zkg hV ha;obtain⟨G,H,C,F,t⟩:=hS.act a ha;have u:=hS.constraints;have o:=hs.len;have e:ziH s:=λx h=>by have:=hs.small x h;omega
 have f:ziH<|zu4 s a.effect.delta:=λx h=>by have:=zfO hs.small j x h;omega
 have q:=zd9 s a.effect.delta;unfold zad zx9;rw[zmf v w p j e (by omega)<|by omega,ya];have T:zuR (zad.l2 n a.effect s) n 0=if(a.effect.hold.all λr=>zag ⟨0,0,r,0,0⟩ s)=U then O U else O false:=by
  have:=zao (body:=zad.l2 n a.effect s) (l:=a.effect.hold) (n:=n) (st:=λi=>i) (λr=>zag ⟨0,0,r,0,0⟩ s) (O M) (O U) (λb i d=>?_) (λb=>?_)<|by omega
  ·simp_all
  ·have A:=y _<|yg d;have B:=t _<|yg d;have g:=zs8 A (by omega);have k:ze5 n a.effect.hold[i] s=O (zag ⟨0,0,a.effect.hold[i],0,0⟩ s):=by grind[ze5,zhZ]
   simp only[zad.l2,zb d,ze (i:=i)<|by omega];grind
  ·simp[zad.l2]
 have:=zao (body:=zad.l1 n m a.effect s<|zu4 s a.effect.delta) (l:=m.constraints) (n:=n) (st:=λi=>i) (λc=>zag c s&&zag c (zu4 s a.effect.delta)) (O M) (zuR (zad.l2 n a.effect s) n 0) (λb i d=>?_) (λb=>?_)<|by omega
 ·grind
 ·have g:=zqL hS hV<|yg d;have I:zbA n m.constraints[i] s=O (zag m.constraints[i] s):=zhZ (by simp_all) e (by omega) hn;have E:zbA n m.constraints[i] (zu4 s a.effect.delta)=O (zag m.constraints[i]<|zu4 s a.effect.delta):=zhZ (by simp_all) f (by omega) hn;simp only[zad.l1,zb d,grd,ze (i:=i)<|by omega];grind
 ·simp[zad.l1]
theorem zoD {c s d size}(hk:c.kind=1)(hG:zxH c s size)(hch:∀k,k<size*size->zA d (c.first+(k:Int))<=0)(h:zag c s=U):zag c (zu4 s d)=true:=by
 unfold zag at h|-;rw[if_pos hk]at h|-;have f:=by have:=hG.sz;omega
 refine ziQ (λa b g i e=>?_) h;have l:a*size+b<size*size:=by
  have:=yH size<|show a+1<=size by omega
  grind
 have m:=hG.fits;have n:=hG.first;have j:a*c.size=a*size:=by grind
 unfold zvX at e|-;rw[zg6 (by omega)<|by omega]at e;grind
theorem zlV {p}:∀{k i},¬0<(zcn p i k).length->∀j,i<=j->j<i+k->p (j:Int)=M
 |0,i,_,j,b,c=>by omega|k+1,i,h,j,b,c=>by
  rw[zcn]at h;by_cases a:p i=U;·simp_all
  ·rw[if_neg a]at h;by_cases e:j=i;·simp_all
   ·exact zlV h j (by omega)<|by omega
theorem zlK:∀{l:List Range}{p:Int},zvT l=U->1<=p->p<=4096->zya p l=U->p*(zeg l:Nat)<=4096
 |[],p,_,_,h,_=>by simp[zeg];exact h|r::l,p,hg,h1,h2,hp=>by
  simp only[zvT,uk,yc,yf]at hg;obtain⟨⟨g1,g2,g3⟩,g4⟩:=hg;simp only[zya,yc,yz,yJ]at hp;have e1:zuY r.hi r.lo=r.hi-r.lo:=by unfold zuY;exact z9 (by omega)<|by omega
  have e2:zuN (r.hi-r.lo) 1=r.hi-r.lo+1:=by unfold zuN;exact z9 (by omega)<|by omega
  rw[e1,e2]at hp;have hw1:1<=r.hi-r.lo+1:=by omega
  have hw2:r.hi-r.lo+1<=19999:=by omega
  have hlo:1*1<=p*(r.hi-r.lo+1):=vP h1 hw1 (by omega) (by omega);have hhi:p*(r.hi-r.lo+1)<=4096*19999:=vP h2 hw2 (by omega) (by omega);have e3:zuZ p (r.hi-r.lo+1)=p*(r.hi-r.lo+1):=by unfold zuZ;exact z9 (by omega)<|by omega
  rw[e3]at hp;have ih:=zlK (l:=l) (p:=p*(r.hi-r.lo+1)) (by simpa only[zvT]using g4) (by omega) (by omega) hp.2;simp only[zeg];rw[ux,Int.toNat_of_nonneg<|by omega,<-Int.mul_assoc];exact ih
theorem zcw {γ S R:Type}{body}{k n}{st:List γ->Nat->S}(g)(fin:List γ->Option R)(B)(b0)(hB:∀i,i<k->(g i).length<=B)(step:∀rec(b)i,i<k->b.length<=b0.length+i*B->body rec (st b i)=rec (st (b++g i)<|i+1))(done:∀rec(b),b.length<=b0.length+k*B->body rec (st b k)=fin b)(hn:k<n):zuR body n (st b0 0)=fin (b0++(xn k).flatMap g):=by
 have:=zbf (σ:=List γ) (body:=body) (len:=k) (st:=st) (g:=λi b=>fin<|b++(wt i<|k-i).flatMap g) (λi b=>b.length<=b0.length+i*B) (λrec i b d a c=>?_) (λrec b a=>?_) n 0 b0 (ym _) (by omega)<|by simp
 ·grind[List.range_eq_range']
 ·have:wt i (k-i)=i::wt (i+1) (k-(i+1)):=by rw[show k-i=k-(i+1)+1 by omega,List.range'_succ]
  grind
 grind
theorem zel {α γ S R:Type}{body}{l:List α}{n}{st:List γ->Nat->S}(h)(fin:List γ->Option R)(b0)(step:∀rec(b)i(hi),b.length=b0.length+i->body rec (st b i)=rec (st (b++[h l[i]])<|i+1))(done:∀rec(b),b.length=b0.length+l.length->body rec (st b l.length)=fin b)(hn:l.length<n):zuR body n (st b0 0)=fin (b0++l.map h):=by
 have:=zy (body:=body) (len:=l.length) (st:=λi=>st (b0++(l.take i).map h) i) (g:=λ_=>fin<|b0++l.map h) (λrec i hi a=>?_) (λrec=>?_) n 0 (ym _)<|by omega
 ·grind
 ·grind[wx]
 grind
theorem zdI {σ S R:Type}{body}{k n}{st:σ->Nat->S}(I:Nat->σ->Prop)(Q:R->Prop)(hb:∀rec i s,i<k->I i s->(∀s',I (i+1) s'->∃r,rec (st s'<|i+1)=O r/\Q r)->∃r,body rec (st s i)=O r/\Q r)(he:∀rec s,I k s->∃r,body rec (st s k)=O r/\Q r)(hn:k<n)(s0)(h0:I 0 s0):∃r,zuR body n (st s0 0)=O r/\Q r:=by
 have b:∀m i s,i<=k->k-i<m->I i s->∃r,zuR body m (st s i)=O r/\Q r:=by
  intro m;induction m with
  |zero=>grind|succ m ih=>
   intro i s d f c;simp only[zuR];by_cases e:i=k;·simp_all
   ·exact hb _ i s (by omega) c λs' a=>ih (i+1) s' (by omega) (by omega) a
 simp_all
theorem zme {n l x}(hl:l.length<1000000)(hn:1000000<=n):∃k,zay n l x=O k/\Z (0<=k)=Z (x∈l):=by
 have:=zy (body:=zay.l1 n l x) (len:=l.length) (st:=λi=>i) (g:=λi=>O<|ixP (λy=>Z<|x=y) (l.drop i) i) (λa i b c=>?_) (λa=>?_) n 0 (ym _)<|by omega
 ·refine⟨_,this,?_⟩;rw[wN,zgB];grind
 ·simp only[zay.l1,zb b];grind[ze,zk,ixP]
 ·simp only[zay.l1];simp[ixP]
theorem zer {n l x}(hl:l.length<1000000)(hn:1000000<=n):zaQ n l x=O (Z<|x∈l):=by
 obtain⟨k,b,a⟩:=zme (x:=x) hl hn;grind[zaQ]
structure zwe (g:zwi)(K:Nat):Prop where
 size:g.size=(K:Int)le:K<=6
 len:g.zu9.length=K*K
def hasP (g:zwi)(a b:Nat):Bool:=g.zu9.getD (a*g.size.toNat+b) M
theorem ze1 {K a b:Nat}(ha:a<K)(hb:b<K):a*K+b<K*K:=by
 have:(a+1)*K<=K*K:=yH _ ha;grind
theorem zlM {n}{g}{K a b}(hg:zwe g K)(ha:a<K)(hb:b<K):za2 n g (a:Int) (b:Int)=O (hasP g a b):=by
 have d:=ze1 ha hb;have f:=yZ hg.le hg.le;have e:zuN (zuZ a g.size) b=(a*K+b:Nat):=by
  rw[hg.size];have c:zuZ a K=(a*K:Nat):=by grind[zuZ,z9]
  rw[c,zcL<|by omega]
 unfold za2;rw[e,zb<|by rw[hg.len];exact d,ya];simp only[hasP,hg.size];grind
def zw5 (K:Nat)(l:List Int):Prop:=1<=l.length/\l.length<=K/\∀x∈l,0<=x/\x<(K:Int)
theorem zw5.get {K l}(h:zw5 K l){i}(hi:i<l.length):∃a:Nat,l[i]=(a:Int)/\a<K:=by obtain⟨c,b⟩:=h.2.2 _<|yg hi;exact⟨l[i].toNat,by omega,by omega⟩
theorem ziq:∀{K:Nat}{l:List Int},l.Nodup->(∀x∈l,0<=x/\x<(K:Int))->l.length<=K
 |0,l,_,h=>by cases l with|nil=>simp|cons x l=>have:=h x (by simp);omega
 |K+1,l,a,h=>by
  by_cases c:(K:Int)∈l
  ·have d:=ziq (K:=K) (a.erase (K:Int)) λx b=>by grind
   grind
  ·have:=ziq (K:=K) a λx b=>by grind
   omega
theorem zr2 {n}{g}{K}(hg:zwe g K)(hn:1000000<=n):∀(d k)(l)(out),l.Nodup->zw5 K l->K-l.length=d->d<k->out.length<=1000000-7^(d+1)->d<=5->(∀c∈out,zw5 K c)->∃r,zF n g k l out=O r/\r.length<=out.length+7^(d+1)/\∀c∈r,zw5 K c:=by
 intro d;induction d using Nat.strongRecOn with|ind d ih=>
  intro k l out hnd hv hd hk ho hd5 hc;obtain⟨k,rfl⟩:∃k',k=k'+1:=⟨k-1,by omega⟩;have hK:=hg.le;have hl1:=hv.1;have hl2:=hv.2.1;have hp:7<=7^(d+1):=by grind
  have hp2:7^(d+1)<=117649:=by
   have:7^(d+1)<=7^6:=uq (by omega)<|by omega
   grind
  obtain⟨last,hlast,hlK⟩:=hv.get (i:=l.length-1) (by omega);obtain⟨first,hfirst,hfK⟩:=hv.get (i:=0) (by omega);have e1:idx l (zuY (l.length:Int) 1)=O (last:Int):=by rw[ze9 (by omega)<|by omega,zb<|by omega,hlast]
  have e2:idx l 0=O (first:Int):=by
   have:=zb (l:=l) (i:=0)<|by omega
   grind
  simp only[zF,e1,e2,ya,zlM hg hlK hfK];have loop:∀out1:List<|List Int,out1.length<=out.length+1->(∀c∈out1,zw5 K c)->∃r,zuR (zF.l1 n g (zF n g k) l (last:Int)) n (zuN (first:Int) 1,out1)=O r/\r.length<=out.length+7^(d+1)/\∀c∈r,zw5 K c:=by
   intro out1 ho1 hc1;rw[ze<|by omega];have:=zdI (body:=zF.l1 n g (zF n g k) l (last:Int)) (k:=K-(first+1)) (n:=n) (st:=λ(o:List<|List Int)i=>(((first+1+i:Nat):Int),o)) (λi o=>o.length<=out.length+1+i*7^d/\∀c∈o,zw5 K c) (λr=>r.length<=out.length+7^(d+1)/\∀c∈r,zw5 K c) (λrec i o hi hI hr=>?_) (λrec o hI=>?_) (by omega) out1 ⟨by simpa using ho1,hc1⟩;·simpa using this
   ·have hb:first+1+i<K:=by omega
    have hlt:Z (((first+1+i:Nat):Int)<g.size)=true:=by rw[hg.size];simp;omega
    have hnx:zuN ((first+1+i:Nat):Int) 1=((first+1+(i+1):Nat):Int):=by rw[ze<|by omega];rfl
    simp only[zF.l1,hlt,if_true,zlM hg hlK hb,ya,hnx];have keep:∃r,rec (((first+1+(i+1):Nat):Int),o)=O r/\r.length<=out.length+7^(d+1)/\∀c∈r,zw5 K c:=hr o ⟨by have:=hI.1;rw[uz];omega,hI.2⟩;by_cases hh:hasP g last (first+1+i)=U
    ·rw[if_pos hh,zer (by omega) hn,ya];by_cases hm:((first+1+i:Nat):Int)∈l;·rw[if_pos<|by simpa using hm];exact keep
     ·rw[if_neg<|by simpa using hm,zl<|by simp;omega,ya,yN,zl<|by simp;omega,ya];have hnd2:(l++[((first+1+i:Nat):Int)]).Nodup:=by rw[uU];exact⟨hnd,by simp,λa ha b hb e=>by simp at hb;subst hb;subst e;exact hm ha⟩
      have hall:∀x∈l++[((first+1+i:Nat):Int)],0<=x/\x<(K:Int):=λx hx=>by
       rcases yu.1 hx with hx|hx;·exact hv.2.2 x hx
       ·simp at hx;subst hx;omega
      have hlen:=ziq hnd2 hall;simp only[yT,yW,ul]at hlen;have hd1:1<=d:=by omega
      have hpow:7^d<=7^(d+1):=uq (by omega) (by omega);have h6:i*7^d<=5*7^d:=yH _ (by omega);have h7:7^(d+1)=7*7^d:=by rw[Nat.pow_succ];omega
      have hone:1<=7^d:=Nat.one_le_pow _ _ (by omega);obtain⟨r,hr1,hr2,hr3⟩:=ih (d-1) (by omega) k (l++[((first+1+i:Nat):Int)]) o hnd2 ⟨by simp,by simpa using hlen,hall⟩ (by simp;omega) (by omega) (by rw[show d-1+1=d by omega];have:=hI.1;omega) (by omega) hI.2;rw[show d-1+1=d by omega]at hr2;rw[hr1,ya];exact hr r ⟨by have:=hI.1;rw[uz];omega,hr3⟩
    ·rw[if_neg hh];exact keep
   ·have hge:Z (((first+1+(K-(first+1)):Nat):Int)<g.size)=false:=by rw[hg.size];simp;omega
    simp only[zF.l1,hge,ye,if_false];have hone:1<=7^d:=Nat.one_le_pow _ _ (by omega);have h7:7^(d+1)=7*7^d:=by rw[Nat.pow_succ];omega
    have h5:(K-(first+1))*7^d<=5*7^d:=yH _ (by omega);exact⟨o,rfl,by have:=hI.1;omega,hI.2⟩
  by_cases hh:hasP g last first=U
  ·rw[if_pos hh,zl<|by simp;omega,ya,yN,zl<|by simp;omega,ya];exact loop _ (by simp) λc hc'=>by
    rcases yu.1 hc' with h|h;·exact hc c h
    ·simp at h;subst h;exact hv
  grind
theorem zp5 {n}{g}{K}(hg:zwe g K)(hn:1000000<=n):∃r,zuR (zvj.l1 n g) n (0,[])=O r/\r.length<=900000/\∀c∈r,zw5 K c:=by
 have p:=hg.le;have:=zdI (body:=zvj.l1 n g) (k:=K) (n:=n) (st:=λo i=>(i,o)) (λi o=>o.length<=i*117649/\∀c∈o,zw5 K c) (λr=>r.length<=900000/\∀c∈r,zw5 K c) (λa i o l b m=>?_) (λa o b=>?_) (by omega) [] ⟨by simp,by simp⟩;·grind
 ·have f:Z (i<g.size)=true:=by rw[hg.size];grind
  have q:7^(K-1+1)<=117649:=by
   have:7^(K-1+1)<=7^6:=uq (by omega)<|by omega
   grind
  obtain⟨r,h,e,j⟩:=zr2 hg hn (K-1) n [i] o (by simp) ⟨by simp,by grind,by grind⟩ (by simp) (by omega) (by grind) (by omega) b.2;simp only[zvj.l1];rw[ze<|by omega];grind
 ·have d:Z (K<g.size)=false:=by rw[hg.size];simp
  simp only[zvj.l1];grind
def lexP:List Int->List Int->Int|[],[]=>0|[],_::_=>-1|_::_,[]=>1|a::l,b::m=>if a<b then-1 else if b<a then 1 else lexP l m
theorem zrc:∀(a b:List Int),lexP b a=-lexP a b|[],[]=>rfl|[],_::_=>rfl|_::_,[]=>rfl|a::l,b::m=>by have:=zrc l m;simp only[lexP];split<;>split<;>omega
theorem zpo:∀{a b:List Int},lexP a b=0->a=b
 |[],[],_=>rfl|[],_::_,h=>by simp[lexP]at h|_::_,[],h=>by simp[lexP]at h|a::l,b::m,h=>by
  simp only[lexP]at h;split at h;·omega
  ·split at h;·omega
   ·rw[zpo h,show a=b by omega]
theorem znD:∀{a b c:List Int},lexP a b<0->lexP b c<0->lexP a c<0
 |[],[],c,h,_=>by simp[lexP]at h|[],_::_,[],_,h=>by simp[lexP]at h|[],_::_,_::_,_,_=>by simp[lexP]|_::_,[],_,h,_=>by simp[lexP]at h|_::_,_::_,[],_,h=>by simp[lexP]at h|a::l,b::m,c::k,h1,h2=>by
  simp only[lexP]at*;have ih:=@znD l m k;by_cases e1:a<b
  ·by_cases e2:b<c;·rw[if_pos<|by omega];omega
   ·by_cases e3:c<b;·rw[if_neg e2,if_pos e3]at h2;omega
    ·rw[if_pos<|by omega];omega
  ·by_cases e1':b<a;·rw[if_neg e1,if_pos e1']at h1;omega
   ·rw[if_neg e1,if_neg e1']at h1;by_cases e2:b<c;·rw[if_pos<|by omega];omega
    ·by_cases e3:c<b;·rw[if_neg e2,if_pos e3]at h2;omega
     ·rw[if_neg e2,if_neg e3]at h2;rw[if_neg<|by omega,if_neg<|by omega];exact ih h1 h2
def cmpI (a b:Int):Int:=if a<b then-1 else if b<a then 1 else 0
def cmpC (a b:List Int):Int:=if cmpI a.length b.length≠0 then cmpI a.length b.length else lexP a b
theorem zf2 (a b):cmpC b a=-cmpC a b:=by have:=zrc a b;unfold cmpC cmpI;split<;>split<;>(try split)<;>(try split)<;>simp_all<;>omega
theorem zkr {a b}(h:cmpC a b=0):a=b:=by
 unfold cmpC at h;split at h;·rename_i hne;exact absurd h hne
 ·exact zpo h
theorem ziT {a b c}(h1:cmpC a b<0)(h2:cmpC b c<0):cmpC a c<0:=by
 have k:∀(x y:List Int),cmpC x y<0↔x.length<y.length\/x.length=y.length/\lexP x y<0:=by
  intro x y;unfold cmpC cmpI;by_cases e:(x.length:Int)<y.length;·simp[e];omega
  ·by_cases e2:(y.length:Int)<x.length;·simp[e,e2];omega
   ·simp[e,e2];omega
 rw[k]at*;rcases h1 with h1|⟨h1,h1'⟩<;>rcases h2 with h2|⟨h2,h2'⟩;·left;omega
 ·left;omega
 ·left;omega
 ·exact .inr ⟨by omega,znD h1' h2'⟩
theorem zkq {a b c}(h1:¬cmpC a b<0)(h2:¬cmpC b c<0):¬cmpC a c<0:=by
 intro h;have n1:=zf2 a b;have n2:=zf2 b c;by_cases e1:cmpC a b=0;·rw[zkr e1]at h;exact h2 h
 ·by_cases e2:cmpC b c=0;·rw[<-zkr e2]at h;exact h1 h
  ·have:=ziT (a:=c) (b:=b) (c:=a) (by omega) (by omega);have n3:=zf2 a c;omega
theorem zhg {n}(a b):zct n a b=O (cmpI a b):=by unfold zct zdF cmpI;simp;split<;>(try split)<;>rfl
theorem znb {n a b}(ha:a.length<1000000)(hn:1000000<=n):zr n a b=O (lexP a b):=by
 unfold zr;have:=zbf (σ:=Unit) (body:=zr.l1 n a b) (len:=a.length) (st:=λ_ i=>(i:Int)) (g:=λi _=>O<|lexP (a.drop i)<|b.drop i) (λi _=>i<=b.length) (λrec i s hi hI hr=>?_) (λrec s hI=>?_) n 0 () (ym _) (by omega)<|ym _;·simpa using this
 ·simp only[zr.l1,zB hi,if_true,zb hi,ya];by_cases hb:b.length<=i;·have e:b.drop i=[]:=wb hb;rw[if_pos<|by simp;omega,e,zk hi];rfl
  ·rw[if_neg<|by simp;omega,zb<|show i<b.length by omega,ya,zhg,ya,ze<|by omega,hr ()<|by omega,zk hi,zk<|show i<b.length by omega];simp only[lexP,cmpI];split;·simp
   ·split;·simp
    ·simp
 ·simp only[zr.l1,zat,ye,if_false];rw[xS];by_cases hb:a.length<b.length;·rw[if_pos<|by simp;omega,zk hb];rfl
  ·rw[if_neg<|by simp;omega,wb<|by omega];rfl
theorem Or_eq {n}(x y)(hn:1000000<=n):zda n [x,y]=O (if x≠0 then x else y):=by
 unfold zda;rw[zev<|by omega];have e0:idx [x,y] 0=O x:=rfl;have e1:idx [x,y] 1=O y:=rfl;simp only[zda.l1,e0,ya,yW,ul];rw[if_pos<|by simp];by_cases hx:x=0
 ·rw[if_neg<|by simp[hx],show zuN 0 1=1 from rfl,zev<|by omega];simp only[zda.l1,e1,ya,yW,ul];rw[if_pos<|by simp];by_cases hy:y=0;·rw[if_neg<|by simp[hy],show zuN 1 1=2 from rfl,zev<|by omega];simp[zda.l1,hx,hy]
  ·rw[if_pos<|by simp[hy]];simp[hx]
 ·rw[if_pos<|by simp[hx]];simp[hx]
theorem ziU {n a b}(ha:a.length<1000000)(hn:1000000<=n):zcu n a b=O (cmpC a b):=by unfold zcu;rw[zhg,ya,znb ha hn,ya,Or_eq _ _ hn];rfl
theorem zpJ {α:Type}{f:α->α->Option Int}{c:α->α->Int}{l:List α}(h1:∀x∈l,∀y∈l,f x y=O (c x y))(irr:∀x,¬c x x<0)(tr:∀x y z,c x y<0->c y z<0->c x z<0)(nt:∀x y z,¬c x y<0->¬c y z<0->¬c x z<0)(hl:l.length<4611686018427387904):zyJ f l=O (zxP (λx y=>(f x y).getD 0) l)/\swoB (λx y=>(f x y).getD 0) l=true:=by
 have hs:swoB (λx y=>(f x y).getD 0) l=true:=by
  unfold swoB;rw[yq];intro x hx;rw[yc,yq];refine⟨by simpa[h1 x hx x hx]using irr x,λy hy=>?_⟩;rw[yq];intro z hz;simp only[h1 x hx y hy,h1 y hy z hz,h1 x hx z hz,yj,yc,yG,yz,uC,yf,yJ];have a1:=tr x y z;have a2:=nt x y z;constructor
  ·by_cases p:c x y<0
   ·by_cases q:c y z<0;·exact .inr<|a1 p q
    ·exact .inl<|.inr q
   ·exact .inl<|.inl p
  ·by_cases p:c x y<0;·exact .inl<|.inl p
   ·by_cases q:c y z<0;·exact .inl<|.inr q
    ·exact .inr<|a2 p q
 refine⟨?_,hs⟩;unfold zyJ;rw[if_pos];simp only[yc,yq,yf];exact⟨⟨λx hx y hy=>by rw[h1 x hx y hy];rfl,hs⟩,hl⟩
theorem zly {n:Nat}{size:Int}{zu9:List Bool}{K:Nat}(hs:size=(K:Int))(h1:1<=K)(h6:K<=6)(hl:zu9.length=K*K)(hn:1000000<=n):∃r,zbD n size zu9=O r/\r.length<=900000/\∀c∈r,zw5 K c:=by
 have hg:zwe ⟨size,zu9⟩ K:=⟨hs,h6,hl⟩;obtain⟨out,ho,hol,hov⟩:=zp5 hg hn;have h4:K*K<=36:=yZ h6 h6;have e:zuZ size size=((K*K:Nat):Int):=by rw[hs];unfold zuZ;rw[z9 (by rw[<-ux];omega)<|by rw[<-ux];omega];simp
 have hopen:zcb n size zu9=O (⟨size,zu9⟩,U):=by unfold zcb;rw[e,hl];simp[hs];omega
 unfold zbD;rw[hopen,ya,if_neg<|by simp,ho,ya];obtain⟨s1,s2⟩:=zpJ (f:=zcu n) (c:=cmpC) (l:=out) (λx hx y _=>ziU (by have:=(hov x hx).2.1;omega) hn) (λx=>by have:=zf2 x x;omega) (λ_ _ _=>ziT) (λ_ _ _=>zkq) (by omega);have hp:=zjg s2;exact⟨_,s1,by rw[hp.length_eq];exact hol,λc hc=>hov c<|hp.mem_iff.1 hc⟩
theorem zcD {x y}(h1:-9223372036854775808<=x+y)(h2:x+y<=9223372036854775807):zuN x y=x+y:=z9 h1 h2
theorem zg4 {x y}(h1:-9223372036854775808<=x*y)(h2:x*y<=9223372036854775807):zuZ x y=x*y:=z9 h1 h2
theorem zkd {x y}(h1:-9223372036854775808<=x-y)(h2:x-y<=9223372036854775807):zuY x y=x-y:=z9 h1 h2
def zgo (r:List<|List Row):Prop:=r.length<=900000/\∀rows∈r,rows.length<=6/\∀row∈rows,row.zuQ.length<=1
theorem zkm {n c e f}(k)(he:e.effect.delta.length<=20)(hf:f.effect.delta.length<=20)(hn:1000000<=n):∃r,za0 n k e c f=O r:=by unfold za0;rw[zap _ (by omega)<|by omega,ya,zap _ (by omega)<|by omega,ya];simp_all
theorem zp1 {n c e f K cyc b1 k}{Q:List (List Row)->Prop}(hv:zw5 K cyc)(h6:K<=6)(he:e.effect.delta.length<=20)(hf:f.effect.delta.length<=20)(hn:1000000<=n)(hb:b1.length<=900000)(hk:∀b,b.length<=b1.length+1->(∀rows∈b,rows∈b1\/rows.length<=6/\∀row∈rows,row.zuQ.length<=1)->∃r,k b=O r/\Q r):∃r,zuR (zn.l3 n c e f b1 k cyc) n (([]:List Row),M,M,0)=O r/\Q r:=by
 have u:=hv.2.1;have:=zdI (body:=zn.l3 n c e f b1 k cyc) (k:=cyc.length) (n:=n) (st:=λs i=>(s.1,s.2.1,s.2.2,i)) (λi s=>s.1.length<=i/\∀row∈s.1,row.zuQ.length<=1) Q (λg i s l t p=>?_) (λg s t=>?_) (by omega) ([],M,M) ⟨by simp,by simp⟩;·simp_all
 ·obtain⟨o,x,y⟩:=s;have a:∃r:Nat,zv2 (zuN i 1) cyc.length=O (r:Int)/\r<cyc.length:=by
   rw[ze<|by omega];refine⟨(i+1)%cyc.length,?_,wX _<|by omega⟩;unfold zv2;grind
  obtain⟨r,h,j⟩:=a;simp only[zn.l3,zB l,zb l,ya,h,zb j];rw[zap _ (by omega)<|by omega,zap _ (by omega)<|by omega];simp only[yp,yw];obtain⟨z,q⟩:=zkm (n:=n) (c:=c) (e:=e) (f:=f) (zuN (zuZ cyc[i] c.size) cyc[r]) he hf hn;rw[q,ya,zl<|by grind,ya,ze<|by omega];exact p (_,_,_) ⟨by simp_all,λrow m=>by grind⟩
 ·obtain⟨o,x,y⟩:=s;simp only[zn.l3,zat,ye,if_false];split;·rw[zl<|by grind,ya];exact hk _ (by simp) λrows d=>by grind
  simp_all
theorem ztQ {α}{l}{i:Nat}{x:α}(h:i<l.length):∃r,sto l (i:Int) x=O r/\r.length=l.length:=by grind[sto]
theorem znn {n}{box}{c e f}{K:Nat}(hs:c.size=(K:Int))(h1:1<=K)(h6:K<=6)(h0:0<=c.first)(hbx:c.first+((K*K:Nat):Int)<=(box.length:Int))(hbl:box.length<=1000)(he:e.effect.delta.length<=20)(hf:f.effect.delta.length<=20)(hn:1000000<=n):∃r,zn n box c e f=O r/\zgo r:=by
 have em:zuZ c.size c.size=(K*K:Nat):=by grind[zg4]
 have hmk:mkl 1 (zuZ c.size c.size) M=O (xy (K*K) M):=by rw[em];unfold mkl;rw[if_pos<|by omega,yr]
 unfold zn;have:=zdI (body:=zn.l1 n box c e f<|xy (K*K) M) (k:=K*K) (n:=n) (st:=λs i=>(s,i)) (λi s=>s.length=K*K) zgo (λrec i s hi hI hr=>?_) (λrec s hI=>?_) (by omega) (xy (K*K) M)<|by simp
 ·simp_all
 ·have hlt:Z (i<(xy (K*K) M).length)=true:=by grind
  obtain⟨z,hz⟩:=zkm (n:=n) (c:=c) (e:=e) (f:=f) i he hf hn;obtain⟨w,hw⟩:=zaM (l:=box) (i:=zuN c.first i) (by grind[zcD]) (by grind[zcD]);obtain⟨s',hs1,hs2⟩:=ztQ (l:=s) (i:=i) (x:=Z<|1<=zuN w.hi z) (by omega);simp only[zn.l1,zb<|show i<s.length by omega];grind[ze]
 ·have hge:Z ((K*K:Nat)<((xy (K*K) M).length:Int))=false:=by simp
  simp only[zn.l1];obtain⟨cyc,hc1,hc2,hc3⟩:=zly (n:=n) (size:=c.size) (zu9:=s) hs h1 h6 hI hn;have:=zdI (body:=zn.l2 n c e f cyc) (k:=cyc.length) (n:=n) (st:=λ(s:List<|List Row)i=>(s,(i:Int))) (λi s=>s.length<=i/\∀rows∈s,rows.length<=6/\∀row∈rows,row.zuQ.length<=1) zgo (λrec i s hi hI hr=>?_) (λrec s hI=>?_) (by omega) [] ⟨by simp,by simp⟩;·simp_all
  ·simp only[zn.l2,zB hi,zb hi];refine zp1 (K:=K) (hc3 _<|yg hi) h6 he hf hn (by grind) λb hb hbr=>?_;grind[ze]
  ·simp only[zn.l2,zat];exact⟨s,rfl,by grind,hI.2⟩
theorem zqT {n K:Nat}{r}(hl:r.zuQ.length<1000000)(hn:1000000<=n):zaN n (K:Int) r=O (zvE K r):=by
 have:=zbf (body:=zaN.l1 n K r) (len:=r.zuQ.length) (st:=λs i=>(s,i)) (g:=λi s=>O<|rowP K s (r.zuQ.drop i)&&zaZ r.bound 1000000000) (λ_ _=>True) (λb i s a _ c=>?_) (λb s _=>?_) n 0 (-1) (ym _) (by omega) trivial;·grind[zaN,zvE]
 ·simp only[zaN.l1,zB a,if_true,zb a,ya,ze (i:=i)<|by omega];rw[zk a,rowP];by_cases h:(Z (s<r.zuQ[i].cell)&&Z (r.zuQ[i].cell<K)&&r.zuQ[i].zuW !=0&&zaZ r.zuQ[i].zuW 1000)=U;·rw[h,yA];simp only[zaZ]at h;grind
  ·rw[if_pos<|by
    simp only[zaZ]at h;grind];grind
 ·simp[zaN.l1,zaZ,rowP]
theorem znS {n K:Nat}{r}(hl:r.zuQ.length<1000000)(hn:1000000<=n):zdP n r (K:Int)=O (zvE K r):=by
 have:=zbf (body:=zdP.l1 n r K) (len:=r.zuQ.length) (st:=λs i=>(s,i)) (g:=λi s=>O<|rowP K s (r.zuQ.drop i)&&zaZ r.bound 1000000000) (λ_ _=>True) (λb i s a _ c=>?_) (λb s _=>?_) n 0 (-1) (ym _) (by omega) trivial;·grind[zdP,zvE]
 ·simp only[zdP.l1,zB a,if_true,zb a,ya,zbi,yp,yw,grd,ze (i:=i)<|by omega];rw[zk a,rowP];by_cases h:(Z (s<r.zuQ[i].cell)&&Z (r.zuQ[i].cell<K)&&r.zuQ[i].zuW !=0&&zaZ r.zuQ[i].zuW 1000)=U;·rw[h,yA];simp only[zaZ]at h;grind
  ·rw[if_pos<|by
    simp only[zaZ]at h;grind];grind
 ·simp[zdP.l1,zbi,zaZ,rowP]
def zn8 (R:List Row):Prop:=R.length<1000000/\∀r∈R,r.zuQ.length<1000000
theorem zhv {n}{box}{R}(hg:zvT box=U)(hl:box.length<=100)(hR:zn8 R)(hn:1000000<=n):zae n box R=O (R.all<|zvE box.length):=by
 unfold zae;have:=zy (body:=zae.l1 n box R) (len:=box.length) (st:=λi=>i) (g:=λ_=>O<|R.all<|zvE box.length) (λa i hi c=>?_) (λa=>?_) n 0 (ym _)<|by omega
 ·grind
 ·have:=yq.1 hg _<|yg hi;have d:(Z (-1000000<=box[i].lo)&&Z (box[i].lo<=1000000))=true:=by grind
  have e:(Z (-1000000<=box[i].hi)&&Z (box[i].hi<=1000000))=true:=by grind
  simp only[zae.l1,zB hi,if_true,zb hi,ya,zbi,d,e,yp,yw,grd,yj,uf,uN,ye,if_false,ze (i:=i)<|by omega,c]
 ·simp only[zae.l1];have b:=hR.1;have:=zao (body:=zae.l2 n box R) (l:=R) (n:=n) (st:=λi=>i) (zvE box.length) (O M) (O U) (λa i hi=>?_) (λa=>?_)<|by omega
  ·grind
  ·simp only[zae.l2,zb hi,ya,znS (hR.2 _<|yg hi) hn,ze (i:=i)<|by omega];grind
  ·simp[zae.l2]
theorem zlt {n box}(hg:zvT box=U)(hl:box.length<=100)(hn:1000000<=n):zcJ n box=O false:=by
 unfold zcJ;have:=zy (body:=zcJ.l1 n box) (len:=box.length) (st:=λi=>i) (g:=λ_=>O M) (λb i a c=>?_) (λb=>?_) n 0 (ym _)<|by omega
 ·grind
 ·have:=yq.1 hg _<|yg a;simp only[zcJ.l1,zB a,if_true,zb a,ya];rw[if_neg<|by grind,ze<|by omega,c]
 ·simp[zcJ.l1]
theorem zhB {n l f p}(hf:∀x∈l,f x=O (p x))(hl:l.length<1000000)(hn:1000000<=n):zZ n l f=O (l.any p):=by
 unfold zZ zf;have:=zy (body:=zf.l1 n l f) (len:=l.length) (st:=λi=>i) (g:=λi=>O<|ixP p (l.drop i) i) (λa i b c=>?_) (λa=>?_) n 0 (ym _)<|by omega
 ·rw[show 0=0 from rfl]at this;grind[zgB]
 ·simp only[zf.l1,if_true,zb b,ze (i:=i)<|by omega];grind[zk,ixP]
 ·simp[zf.l1,ixP]
theorem zgp {n l f p}(hf:∀x∈l,f x=O (p x))(hl:l.length<1000000)(hn:1000000<=n):za8 n l f=O (l.any p):=by
 unfold za8 zac;have:=zy (body:=zac.l1 n l f) (len:=l.length) (st:=λi=>i) (g:=λi=>O<|ixP p (l.drop i) i) (λa i b c=>?_) (λa=>?_) n 0 (ym _)<|by omega
 ·grind[zgB]
 ·simp only[zac.l1,zb b,ze (i:=i)<|by omega];grind[zk,ixP]
 ·simp[zac.l1,ixP]
theorem zfL {n box R}(hg:zvT box=U)(hl:box.length<=100)(hR:zn8 R)(hn:1000000<=n):zbj n box R=O (R.all<|zvE box.length):=by
 have f:zaR n box=O true:=by
  unfold zaR;have:=zy (body:=zaR.l1 n box) (len:=box.length) (st:=λi=>i) (g:=λ_=>O U) (λb i a e=>?_) (λb=>?_) n 0 (ym _)<|by omega
  ·grind
  ·have:=yq.1 hg _<|yg a;simp only[zaR.l1,zB a,if_true,zb a,ya];rw[if_neg<|by grind,ze<|by omega,e]
  grind[zaR.l1]
 have h:zp n R (λd=>zbO n d box)=O (R.any λr=>!zvE box.length r):=zcW (λx c=>by unfold zbO;rw[zqT (hR.2 x c) hn];rfl) hR.1 hn;grind[zbj,grd]
theorem zi6 {n box}(hg:zvT box=U)(hl:box.length<=100)(hn:1000000<=n):zbE n box=O false:=by
 unfold zbE;rw[zhB (f:=λb=>zcP n b) (p:=λr=>Z<|r.hi<r.lo) (λx _=>rfl) (by omega) hn,ya];congr 1;rw[vM];intro r a;have:=yq.1 hg _ a;grind
def zgC (x:Int):Bool:=Z (x< -4000000)||decide (4000000<x)
def zjz (K:Nat)(g:zvg):Bool:=Z (g.size<1)||decide (6<g.size)||decide (g.first<0)||decide (zuY (K:Int) (zuZ g.size g.size)<g.first)||(g.least.length:Int)!=zuZ g.size g.size
def zfg (K:Nat)(g:zvg):Bool:=!zjz K g&&!g.least.any zgC
def zx3 (K:Nat)(rows:List Row):Bool:=Z (rows.length<=64)&&rows.all (zvE K)
def sysP (K:Nat)(R:List Row)(G:List zvg)(cs:List<|List Row):Bool:=Z (R.length<=1024)&&R.all (zvE K)&&Z (G.length<=64)&&Z (cs.length<=1024)&&(G.all (zfg K)&&cs.all (zx3 K))
structure SysOK (R:List Row)(G:List zvg)(cs:List<|List Row):Prop where
 rows:zn8 R
 zuT:G.length<1000000/\∀g∈G,g.least.length<1000000
 cases:cs.length<1000000/\∀rows∈cs,zn8 rows
theorem zk8 {n K:Nat}{g}(hl:g.least.length<1000000)(hn:1000000<=n):zfr n (K:Int) g=O (zfg K g):=by
 unfold zfr zfg;by_cases h:zjz K g=U;·grind[zjz]
 ·have a:=h;unfold zjz at a;rw[if_neg a,zbt (f:=λb=>zfB n b) (p:=zgC) (λx _=>rfl) (by omega)<|by omega,ya];grind
theorem zdV {n}{box}{R}{G}{cs}(hg:zvT box=U)(hl:box.length<=100)(hS:SysOK R G cs)(hn:1000000<=n):zas n ⟨box,R,G,cs⟩=O (sysP box.length R G cs):=by
 unfold zas;have hrows:∀(rows:List Row)(k:Int),zn8 rows->zd6 n ⟨box,R,G,cs⟩ rows k=O (Z (rows.length<=k)&&rows.all (zvE box.length)):=λrows k hr=>by unfold zd6;simp only[zfL hg hl hr hn,yp,yw,grd,if_true,yj]
 have hbox:zbj n box []=O true:=by rw[zfL hg hl ⟨by simp,by simp⟩ hn];rfl
 simp only[zi6 hg hl hn,hrows R 1024 hS.rows,grd];have hloop:zuR (zas.l1 n ⟨box,R,G,cs⟩) n 0=O (G.all (zfg box.length)&&cs.all (zx3 box.length)):=by
  have:=zao (body:=zas.l1 n ⟨box,R,G,cs⟩) (l:=G) (n:=n) (st:=λi=>i) (zfg box.length) (O M) (O<|cs.all<|zx3 box.length) (λrec i hi=>?_) (λrec=>?_)<|by have:=hS.zuT.1;omega
  ·grind
  ·simp only[zas.l1,zb hi,ya,zk8 (hS.zuT.2 _<|yg hi) hn,ze<|show i<4611686018427387904 by have:=hS.zuT.1;omega];grind
  ·simp only[zas.l1];rw[zgp (p:=λrows=>!zx3 box.length rows) (λx hx=>by
    unfold zfA;rw[hrows x 64<|hS.cases.2 x hx,ya];congr 2;unfold zx3;grind) hS.cases.1 hn,ya];grind
 have e1:Z (R.length<=1024)=Z (R.length<=1024):=decide_eq_decide.2 (by omega);have e2:Z (64<(G.length:Int))=!decide (G.length<=64):=by grind
 have e3:Z (1024<(cs.length:Int))=!decide (cs.length<=1024):=by grind
 unfold sysP;grind
theorem zhw {n box R G cs}(hg:zvT box=U)(hl:box.length<=100)(hS:SysOK R G cs)(hn:1000000<=n):zal n ⟨box,R,G,cs⟩=O (sysP box.length R G cs):=by
 unfold zal;simp only[zhv hg hl hS.rows hn,zlt hg hl hn,grd];have hgr:∀i(rec:Int->Option Bool)(hi:i<G.length),zal.l2 n ⟨box,R,G,cs⟩ rec (i:Int)=if zfg box.length G[i]=U then rec ((i+1:Nat):Int)else O false:=λi rec hi=>by
  have hgl:=hS.zuT.2 _<|yg hi;have h3:=zao (body:=zal.l3 n (i:Int) rec G[i]) (l:=G[i].least) (n:=n) (st:=λj=>(j:Int)) (λx=>!zgC x) (O M) (rec<|zuN (i:Int) 1) (λrec' j hj=>?_) (λrec'=>?_)<|by omega
  ·rw[show((0:Nat):Int)=0 from rfl]at h3;simp only[zal.l2,zB hi,if_true,zb hi,ya,h3,ze<|show i<4611686018427387904 by have:=hS.zuT.1;omega];by_cases h:zjz box.length G[i]=U;·have h':=h;unfold zjz at h';rw[if_pos h',if_neg<|by grind[zfg]]
   ·have h':=h;unfold zjz at h';rw[if_neg h'];have e:zfg box.length G[i]=G[i].least.all λx=>!zgC x:=by
     unfold zfg;grind
    rw[e]
  ·simp only[zal.l3,zb hj,grd,ze (i:=j)<|by omega];by_cases h:zgC G[i].least[j]=U;·have h':=h;unfold zgC at h';simp_all
   ·have h':=h;unfold zgC at h';grind
  ·simp[zal.l3]
 have hloop:zuR (zal.l1 n ⟨box,R,G,cs⟩) n 0=O (G.all (zfg box.length)&&cs.all (zx3 box.length)):=by
  have:=zao (body:=zal.l1 n ⟨box,R,G,cs⟩) (l:=cs) (n:=n) (st:=λi=>(i:Int)) (zx3 box.length) (O M) (O<|G.all<|zfg box.length) (λrec i hi=>?_) (λrec=>?_)<|by have:=hS.cases.1;omega
  ·grind
  ·simp only[zal.l1,zb hi,zhv hg hl (hS.cases.2 _<|yg hi) hn,grd,yj,ze<|show i<4611686018427387904 by have:=hS.cases.1;omega];unfold zx3;grind
  ·simp only[zal.l1,zat,ye,if_false];have:=zao (body:=zal.l2 n ⟨box,R,G,cs⟩) (l:=G) (n:=n) (st:=λi=>(i:Int)) (zfg box.length) (O M) (O U) (λrec i hi=>hgr i rec hi) (λrec=>?_)<|by have:=hS.zuT.1;omega
   ·grind
   ·simp[zal.l2]
 grind[sysP,decide,zvE]
