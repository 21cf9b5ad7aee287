/- Part of the proof of one law of the seat. -/
import Derived.Test.YtipkniadbkndfaaGreatDoorGm06
set_option linter.all false
set_option maxRecDepth 100000
set_option maxHeartbeats 40000000
namespace Go.Proofs.YtipkniadbkndfaaGreatDoor
open Go Go.RowKit
open Option renaming some->O,none->Y
open Bool renaming true->U,false->M,eq_iff_iff->wb,and_assoc->vS
open Decidable renaming decide->Z
open Inhabited renaming default->J
open List renaming range->xr,replicate->xA,drop_length->xN,take_of_length_le->xS,take_succ_eq_append_getElem->wi,take_length->wn,mem_of_mem_take->wq,range'->wr,drop_eq_nil_of_le->wt,all_nil->wy,map_nil->wz,drop_zero->wU,getD->vo,not_mem_nil->vp,replicate_succ'->uR
open Classical renaming byContradiction->xV
open Int renaming natCast_zero->wd,mul_le_mul->uZ
open GMap renaming empty->wj
open List.cons renaming injEq->wM
open Nat renaming min_eq_left->vb,mod_lt->vQ,le_of_lt->uY
open List.Pairwise renaming imp_of_mem->vl
abbrev yp:=@_root_.Option.isSome_some
abbrev yt:=@_root_.List.take_succ_eq_append_getElem
abbrev yy:=@_root_.Bool.or_true
abbrev yT:=@_root_.Bool.not_eq_true
abbrev y8:=@_root_.Nat.mul_le_mul
abbrev ua:=@_root_.Bool.or_eq_false_iff
abbrev uf:=@_root_.Bool.false_and
abbrev uj:=@_root_.Nat.pow_le_pow_right
abbrev ul:=@_root_.Bool.not_true
abbrev ux:=@_root_.Bool.not_false
abbrev uy:=@_root_.Bool.true_or
abbrev uA:=@_root_.List.length_replicate
abbrev uI:=@_root_.Bool.false_or
abbrev uJ:=@_root_.Int.natCast_mul
abbrev uN:=@_root_.Bool.and_self
theorem zw {σ R}{body}{len}{st:Nat->σ}{g:Nat->Option R}(hb:∀rec i,i<len->rec (st (i+1))=g (i+1)->body rec (st i)=g i)(he:∀rec,body rec (st len)=g len):∀n i,i<=len->len-i<n->ztg body n (st i)=g i
 |0,_,_,h=>by omega|n+1,i,a,h=>by
  simp only[ztg];by_cases e:i=len;·simp_all
  ·exact hb _ i (by omega) (zw hb he n (i+1) (by omega) (by omega))
theorem zd {i:Nat}(h:i<4611686018427387904):ztc (i:Int) 1=((i+1:Nat):Int):=by grind[ztc,zaf]
theorem zb {α}{l:List α}{i}(h:i<l.length):idx l (i:Int)=O l[i]:=by unfold idx;simp_all
theorem zC {α:Type}{l:List α}{i}(h:i<l.length):Z ((i:Int)<(l.length:Int))=true:=by simp_all
theorem zan {α:Type}{l:List α}:Z (((l.length:Nat):Int)<(l.length:Int))=false:=by simp
def zA:List Change->Int->Int|[],_=>0|d::l,c=>if d.cell=c then d.add else zA l c
theorem zj {α:Type}{l:List α}{i}(h):l.drop i=l[i]::l.drop (i+1):=List.drop_eq_getElem_cons h
theorem zaj {n}{a}(c)(hl:a.effect.delta.length<4611686018427387904)(hn:a.effect.delta.length<n):zR n a c=O (zA a.effect.delta c):=by
 have:=zw (body:=zR.l1 n a c) (len:=a.effect.delta.length) (st:=λi=>i) (g:=λi=>O (zA (a.effect.delta.drop i) c)) (λb i d e=>?_) (λb=>?_) n 0 (yj _) (by omega);·grind[zR]
 ·simp only[zR.l1,zb d,zd (i:=i) (by omega)];rw[zj d];simp only[zA];grind
 ·simp[zR.l1,zA]
def zcF (f:Int->Int):List Term->Int->Int|[],s=>s|t::l,s=>zcF f l (ztc s (zto t.ztl (f t.cell)))
def zwz (f:Int->Int)(l:List Term)(i:Nat):Int:=zcF f (l.take i) 0
theorem zgY (f):∀(l m)(s),zcF f (l++m) s=zcF f m (zcF f l s)|[],_,_=>rfl|_::l,m,s=>by exact zgY f l m _
theorem zlz (f){l i}(h):zwz f l (i+1)=ztc (zwz f l i) (zto l[i].ztl (f l[i].cell)):=by unfold zwz;rw[yt h,zgY];rfl
theorem zcv {n}{a r}(h1:a.effect.delta.length<4611686018427387904)(h2:a.effect.delta.length<n)(h3:r.ztf.length<4611686018427387904)(h4:r.ztf.length<n):zJ n a r=O (zcF (zA a.effect.delta) r.ztf 0):=by
 have:=zw (body:=zJ.l1 n a r) (len:=r.ztf.length) (st:=λi=>(zwz (zA a.effect.delta) r.ztf i,i)) (g:=λ_=>O (zcF (zA a.effect.delta) r.ztf 0)) (λc i b d=>?_) (λc=>?_) n 0 (yj _) (by omega);·grind[zJ,zwz,zcF]
 ·simp only[zJ.l1,zC b,if_true,zb b,ya,zaj _ h1 h2,zd (i:=i) (by omega),<-zlz _ b,d]
 ·simp[zJ.l1,zwz]
def addP (c:Int):List Change->Int->Int|[],s=>s|d::l,s=>addP c l (if d.cell=c then ztc s d.add else s)
theorem zjK (c):∀(l m)(s),addP c (l++m) s=addP c m (addP c l s)|[],_,_=>rfl|_::l,m,s=>by exact zjK c l m _
theorem zeW {n}{e}(c)(hl:e.delta.length<4611686018427387904)(hn:e.delta.length<n):zaU n e c=O (addP c e.delta 0):=by
 have:=zw (body:=zaU.l1 n e c) (len:=e.delta.length) (st:=λi=>(addP c (e.delta.take i) 0,i)) (g:=λ_=>O (addP c e.delta 0)) (λa i d b=>?_) (λa=>?_) n 0 (yj _) (by omega);·grind[zaU,addP]
 ·rw[yt d,zjK]at b;simp only[addP]at b;simp only[zaU.l1,zb d,jn,zd (i:=i) (by omega)];grind
 ·simp[zaU.l1]
theorem zm9 {n}{e r}(h1:e.delta.length<4611686018427387904)(h2:e.delta.length<n)(h3:r.ztf.length<4611686018427387904)(h4:r.ztf.length<n):zbj n e r=O (zcF (λc=>addP c e.delta 0) r.ztf 0):=by
 have:=zw (body:=zbj.l1 n e r) (len:=r.ztf.length) (st:=λi=>(zwz (λc=>addP c e.delta 0) r.ztf i,i)) (g:=λ_=>O (zcF (λc=>addP c e.delta 0) r.ztf 0)) (λb i a d=>?_) (λb=>?_) n 0 (yj _) (by omega);·grind[zbj,zwz,zcF]
 ·rw[zlz _ a]at d;simp only[zbj.l1,zC a,if_true,zb a,ya,zeW _ h1 h2,zd (i:=i) (by omega),d]
 ·simp[zbj.l1,zwz]
theorem zk6 (c):∀(l)(s),(∀d∈l,d.cell≠c)->addP c l s=s|[],_,_=>rfl|d::l,s,h=>by simp only[addP];rw[if_neg (h d (by simp))];exact zk6 c l s λx a=>h x (by grind)
theorem zjJ (c):∀(l),(l.map (·.cell)).Nodup->(∀d∈l,-9223372036854775808<=d.add/\d.add<=9223372036854775807)->addP c l 0=zA l c
 |[],_,_=>rfl|d::l,a,f=>by
  simp only[yW,List.nodup_cons,y9,not_exists,not_and]at a;simp only[addP,zA];split<;>rename_i h;·rw[zk6 c l _ λx b e=>a.1 x b (e.trans h.symm)];unfold ztc;grind[zaf]
  ·exact zjJ c l a.2 λx b=>f x (by grind)
section
variable{κ:Type}[DecidableEq κ]
structure zvx (m:GMap κ Bool)(l:List κ):Prop where
 tru:∀e∈m.es,e.2.2=U
 mem:∀k,k∈m.es.map (λe=>e.2.1)↔k∈l
theorem zj0 (k):∀(es:List (Nat×κ×Bool)),(∀e∈es,e.2.2=U)->((zue k es).map (·.2)).getD M=Z (k∈es.map λe=>e.2.1)
 |[],_=>by simp[zue]|e::es,h=>by
  simp only[zue,yW,yG];by_cases a:k=e.2.1;·simp_all
  ·have:=zj0 k es λx b=>h x (by grind);simp only[a,false_or,<-this];cases zue k es<;>rfl
theorem zon (k):∀(es:List (Nat×κ×Bool)),zue k es=Y->k∉es.map λe=>e.2.1
 |[],_=>by simp|e::es,h=>by
  simp only[zue]at h;split at h;·cases h
  ·rename_i a;simp only[Option.map_eq_none_iff]at h;simp only[yW,yG,not_or];exact⟨a,zon k es h⟩
theorem zj1 (k):∀(es:List (Nat×κ×Bool))(p),zue k es=O p->k∈es.map λe=>e.2.1
 |[],_,h=>by grind[zue]|e::es,p,h=>by
  simp only[zue]at h;split at h;·simp_all
  ·simp only[Option.map_eq_some_iff]at h;obtain⟨q,a,_⟩:=h;exact yO _ (zj1 k es q a)
theorem zvx.get {m}{l}(h:zvx m l)(k:κ):(m.get? k).getD M=Z (k∈l):=by unfold GMap.get?;rw[zj0 k m.es h.tru];exact decide_eq_decide.2 (h.mem k)
theorem zvx.empty:zvx (wj:GMap κ Bool) []:=⟨λe a=>by grind[wj],λk=>by simp[wj]⟩
theorem zhm (f)(hf:∀e,(f e).2.1=e.2.1):∀(es:List (Nat×κ×Bool))(i),(es.modify i f).map (λe=>e.2.1)=es.map λe=>e.2.1|[],_=>by simp|e::es,0=>by grind|e::es,i+1=>by simp[zhm f hf es i]
theorem ziG {p:Nat×κ×Bool->Prop}(f)(hf:∀e,p (f e)):∀(es:List (Nat×κ×Bool))(i),(∀e∈es,p e)->∀e∈es.modify i f,p e
 |[],_,_=>by simp|e::es,0,h=>by grind|e::es,i+1,h=>by
  intro x a;simp only[List.modify_succ_cons,yG]at a;rcases a with rfl|a;·simp_all
  ·exact ziG f hf es i (λy b=>h y (by grind)) x a
theorem zvx.put {m}{l}(h:zvx m l)(k:κ):zvx (m.put k U) (l++[k]):=by unfold GMap.put;cases d:zue k m.es with
 |none=>
  refine⟨λe a=>?_,λx=>?_⟩
  ·simp only[yu,yL]at a;rcases a with a|rfl;·exact h.tru e a
   ·rfl
  ·simp only[uq,yW,wz,yu,h.mem x]|some p=>obtain⟨i,b⟩:=p;have c:=(h.mem k).1 (zj1 k m.es _ d);refine⟨ziG (p:=λe=>e.2.2=U) _ (λe=>rfl) m.es i h.tru,λx=>?_⟩;rw[zhm (λe=>(e.1,e.2.1,U)) (λe=>rfl) m.es i,h.mem x];simp_all
end
def ixP {α:Type}(p:α->Bool):List α->Nat->Int|[],_=>-1|x::l,i=>if p x=U then(i:Int)else ixP p l (i+1)
theorem zp1 {α}(p):∀(l:List α)(i),0<=ixP p l i↔l.any p=U
 |[],_=>by simp[ixP]|x::l,i=>by
  have a:=zp1 p l (i+1);rw[ixP,List.any_cons];grind
theorem zge {α}(p)(l:List α)(i):Z (0<=ixP p l i)=l.any p:=by
 have:=zp1 p l i;grind
theorem zik {n l f p}(hf:∀x∈l,f x=O (p x))(hl:l.length<4611686018427387904)(hn:l.length<n):zP n l f=O (ixP p l 0):=by
 have:=zw (body:=zP.l1 n l f) (len:=l.length) (st:=λi=>i) (g:=λi=>O (ixP p (l.drop i) i)) (λa i b c=>?_) (λa=>?_) n 0 (yj _) (by omega);·grind[zP]
 ·simp only[zP.l1,zb b,zd (i:=i) (by omega)];grind[zj,ixP]
 ·simp[zP.l1,ixP]
theorem zcg {n}{l}{f}{p}(hf:∀x∈l,f x=O (p x))(hl:l.length<4611686018427387904)(hn:l.length<n):zt n l f=O (l.any p):=by unfold zt;rw[zik hf hl hn,ya,zge]
def zcI (x:Int):Bool:=Z (1<=x)&&Z (x<=6)
def zt4 (sizes:List Int)(c:Int):Bool:=Z (0<=c)&&Z (c<(sizes.length:Int))
theorem znE {α:Type}(p)(l:List α):(!l.any λx=>!p x)=l.all p:=by grind
theorem zkO {n}{l}(hl:l.length<4611686018427387904)(hn:l.length<n):zfE n l=O (l.all zcI):=by unfold zfE;rw[zcg (p:=λx=>!zcI x) (λx _=>by simp[zfF,zdT,zcI]) hl hn,ya,znE]
theorem zin {n}{sizes cols}(hl:cols.length<4611686018427387904)(hn:cols.length<n):zdP n sizes cols=O (Z (cols.length<=3)&&cols.all (zt4 sizes)):=by
 unfold zdP;rw[zcg (p:=λx=>!zt4 sizes x) (λx _=>by
  simp only[zdc,zt4,yn];grind) hl hn];simp only[yp,yy,grd,if_true,yn];grind
theorem zg6 {n l}(hl:l.length<4611686018427387904)(hn:l.length<n):zbC n l=O (l.all zcI):=by
 have:=zw (body:=zbC.l1 n l) (len:=l.length) (st:=λi=>i) (g:=λi=>O ((l.drop i).all zcI)) (λa i b c=>?_) (λa=>?_) n 0 (yj _) (by omega);·grind[zbC]
 ·simp only[zbC.l1,zb b,grd,zd (i:=i) (by omega)];rw[zj b];simp only[um,zcI];grind
 ·simp[zbC.l1]
def zau (sizes:List Int):List Int->Int->Int|[],s=>s|c::l,s=>zau sizes l (zto s (sizes.getD c.toNat 0))
theorem zdG (sizes):∀(l m)(s),zau sizes (l++m) s=zau sizes m (zau sizes l s)|[],_,_=>rfl|_::l,m,s=>by exact zdG sizes l m _
theorem zfK {sizes c}(h:zt4 sizes c=U):idx sizes c=O (sizes.getD c.toNat 0):=by
 simp only[zt4]at h;grind[zb]
theorem ze5 {n sizes cols}(hc:cols.all (zt4 sizes)=U)(hl:cols.length<4611686018427387904)(hn:cols.length<n):zba n sizes cols=O (zau sizes cols 1):=by
 have:=zw (body:=zba.l1 n sizes cols) (len:=cols.length) (st:=λi=>(zau sizes (cols.take i) 1,i)) (g:=λ_=>O (zau sizes cols 1)) (λc i a b=>?_) (λc=>?_) n 0 (yj _) (by omega);·grind[zba,zau]
 ·rw[yt a,zdG]at b;simp only[zau]at b;simp only[zba.l1,zC a,if_true,zb a,ya,zfK (yq.1 hc _ (yi a)),zd (i:=i) (by omega),b]
 ·simp[zba.l1]
theorem znX {n sizes cols}(hl:cols.length<4611686018427387904)(hn:cols.length<n):ztg (zao.l1 n sizes cols) n (1,0)=O (if cols.all (zt4 sizes)=U then zau sizes cols 1 else 0):=by
 by_cases h:cols.all (zt4 sizes)=U
 ·have:=zw (body:=zao.l1 n sizes cols) (len:=cols.length) (st:=λi=>(zau sizes (cols.take i) 1,i)) (g:=λ_=>O (zau sizes cols 1)) (λe i b d=>?_) (λe=>?_) n 0 (yj _) (by omega);·grind[zau]
  ·rw[yt b,zdG]at d;simp only[zau]at d;have a:=yq.1 h _ (yi b);have f:=zfK a;simp only[zt4]at a;have c:(Z (cols[i]<0)||Z (sizes.length<=cols[i]))=false:=by simp_all
   simp only[zao.l1,zC b,if_true,zb b,ya,yp,yy,grd,ym,c,ye,if_false,f,zd (i:=i) (by omega),d]
  ·simp[zao.l1]
 ·have:=zw (body:=zao.l1 n sizes cols) (len:=cols.length) (st:=λi=>(zau sizes (cols.take i) 1,i)) (g:=λi=>O (if(cols.drop i).all (zt4 sizes)=U then zau sizes cols 1 else 0)) (λe i b d=>?_) (λe=>?_) n 0 (yj _) (by omega);·grind[zau]
  ·rw[yt b,zdG]at d;simp only[zau]at d;rw[zj b,um];by_cases a:zt4 sizes cols[i]=U
   ·have f:=zfK a;rw[a,yC];simp only[zt4]at a;have c:(Z (cols[i]<0)||Z (sizes.length<=cols[i]))=false:=by simp_all
    simp only[zao.l1,zC b,if_true,zb b,ya,yp,yy,grd,ym,c,ye,if_false,f,zd (i:=i) (by omega),d]
   ·have c:(Z (cols[i]<0)||Z (sizes.length<=cols[i]))=true:=by
     simp only[zt4]at a;grind
    simp only[yT]at a;rw[a,uf,if_neg (by simp)];simp only[zao.l1,zC b,if_true,zb b,ya,yp,yy,grd,ym,c]
  ·simp[zao.l1]
theorem zeB {n sizes cols}(hl:cols.length<4611686018427387904)(hn:cols.length<n)(hs:sizes.length<4611686018427387904)(hsn:sizes.length<n):zao n sizes cols=O (if(Z (cols.length<=3)&&sizes.all zcI&&cols.all (zt4 sizes))=U then zau sizes cols 1 else 0):=by
 unfold zao;rw[zg6 hs hsn,znX hl hn];simp only[grd];grind
theorem zc5 {S R}{body}(μ:S->Nat)(I:S->Prop)(Q:S->Option R->Prop)(hb:∀rec s,I s->(∀s',I s'->μ s'<μ s->Q s' (rec s'))->Q s (body rec s)):∀n s,I s->μ s<n->Q s (ztg body n s)|0,_,_,h=>by omega|n+1,s,c,h=>hb _ s c λs' a b=>zc5 μ I Q hb n s' a (by omega)
theorem zaS {σ S R:Type}{body}{len}{st:σ->Nat->S}{g:Nat->σ->Option R}(I:Nat->σ->Prop)(hb:∀rec i s,i<len->I i s->(∀s',I (i+1) s'->rec (st s' (i+1))=g (i+1) s')->body rec (st s i)=g i s)(he:∀rec s,I len s->body rec (st s len)=g len s):∀n i s,i<=len->len-i<n->I i s->ztg body n (st s i)=g i s
 |0,_,_,_,h,_=>by omega|n+1,i,s,c,h,b=>by
  simp only[ztg];by_cases e:i=len;·grind
  ·exact hb _ i s (by omega) b λs' a=>zaS I hb he n (i+1) s' (by omega) (by omega) a
theorem zgk {S R}{body:(S->Option R)->S->Option R}{n}(h:0<n)(s):ztg body n s=body (ztg body (n-1)) s:=by
 obtain⟨m,rfl⟩:∃m,n=m+1:=⟨n-1,by omega⟩;rfl
theorem zc7 {a b:Nat}(h:a+b<9223372036854775808):ztc (a:Int) (b:Int)=((a+b:Nat):Int):=by grind[ztc,zaf]
theorem zdg {l:List UInt8}{i}(h:i<l.length):sidx l (i:Int)=O ((l[i].toNat:Nat):Int):=by unfold sidx;grind
theorem zgb {α}{l:List α}{a b}(h1:a<=b)(h2:b<=l.length):cut l (a:Int) (b:Int)=O ((l.drop a).take (b-a)):=by unfold cut;grind
theorem zis {α}{l:List α}{a}(h1:a<=l.length):cut l (a:Int) (l.length:Int)=O (l.drop a):=by rw[zgb h1 (yo _),xS (by simp)]
theorem zrW {α}{l:List α}:cut l 0 (l.length:Int)=O l:=by have:=zis (l:=l) (a:=0) (by omega);grind
theorem zkf {i k:Nat}(h:i<k):Z ((i:Int)<(k:Int))=true:=by grind
theorem zhJ {i k:Nat}(h:k<=i):Z ((i:Int)<(k:Int))=false:=by grind
def runP (p:Int->Bool):List UInt8->Nat|[]=>0|b::l=>if p (b.toNat:Nat)=U then runP p l+1 else 0
theorem zkA (p):∀l,runP p l<=l.length
 |[]=>yo _|b::l=>by
  simp only[runP];split;·exact Nat.succ_le_succ (zkA p l)
  ·omega
theorem zgh {n}{l}{f p}(hf:∀q,f q=O (p q))(hl:l.length<4611686018427387904)(hn:l.length<n):zcQ n l f=O ((runP p l:Nat):Int):=by
 have:=zw (body:=zcQ.l1 n l f) (len:=l.length) (st:=λi=>i) (g:=λi=>O (i+runP p (l.drop i))) (λa i b c=>?_) (λa=>?_) n 0 (yj _) (by omega);·grind[zcQ]
 ·simp only[zcQ.l1,zdg b,grd,zd (i:=i) (by omega)];grind[zj,runP]
 ·simp[zcQ.l1,runP,grd]
def zbR (q:Int):Bool:=Z (97<=q)&&Z (q<=122)
def zi3 (q:Int):Bool:=Z (48<=q)&&Z (q<=57)
def zuG (q:Int):Bool:=zbR q||zi3 q||q==95
theorem zkc {n q}:zcP n q=O (zbR q):=rfl
theorem zkP {n q}:zbK n q=O (zi3 q):=rfl
theorem zfT {n q}:za6 n q=O (zbR q):=rfl
theorem zeX {n q}:zbN n q=O (zi3 q):=rfl
def zds (q:Int):Bool:=!(q==9||q==10||q==13||q==32||q==35)
theorem zdX {q}(h:zbR q=U):zds q=true:=by
 simp only[zbR]at h;grind[zds,Bool.or_eq_false_iff]
theorem zl8 {n}{l}(hl:l.length<1000000)(hn:1000000<=n):∃k:Nat,zcY n l=O (k:Int)/\k<=l.length/\(∀h,zds (l[0].toNat:Nat)=U->k=0)/\∀h,zds (l[0].toNat:Nat)=M->0<k:=by
 have:=zc5 (body:=zcY.l1 n l) (λs:Int=>l.length-s.toNat) (λs=>∃i:Nat,s=i/\i<=l.length) (λs o=>∃k:Nat,o=O (k:Int)/\k<=l.length/\s.toNat<=k/\∀h:s.toNat<l.length,(zds (l[s.toNat].toNat:Nat)=U->k=s.toNat)/\(zds (l[s.toNat].toNat:Nat)=M->s.toNat<k)) (λrec s hI hr=>by
   obtain⟨i,rfl,hi⟩:=hI;by_cases hlt:i<l.length
   ·simp only[zcY.l1,zC hlt,if_true,zdg hlt,ya,zb6,yv];by_cases hw:(((l[i].toNat:Nat):Int)==32||((l[i].toNat:Nat):Int)==9||((l[i].toNat:Nat):Int)==10||((l[i].toNat:Nat):Int)==13)=U
    ·rw[if_pos hw,zd (i:=i) (by omega)];obtain⟨k,e,k1,k2,-⟩:=hr ((i+1:Nat):Int) ⟨i+1,rfl,by omega⟩ (by grind);simp only[yv]at k2;refine⟨k,e,k1,by omega,λh=>⟨λhb=>?_,λhb=>by omega⟩⟩;exfalso;simp only[yF,beq_iff_eq]at hw;grind[zds,Bool.not_eq_true',Bool.or_eq_false_iff,beq_eq_false_iff_ne]
    ·rw[if_neg hw];by_cases hh:((l[i].toNat:Nat):Int)=35
     ·rw[if_pos (by simp[hh]),zis hi,ya,zgh (f:=λq=>zgi n q) (p:=λq=>q !=10) (λq=>rfl) (by rw[y7];omega) (by rw[y7];omega),ya];have hrun:1<=runP (λq=>q !=10) (l.drop i):=by rw[zj hlt,runP,hh];simp
      have hle:=zkA (λq=>q !=10) (l.drop i);simp only[y7]at hle;rw[zc7 (by omega)];obtain⟨k,e,k1,k2,-⟩:=hr ((i+runP (λq=>q !=10) (l.drop i):Nat):Int) ⟨_,rfl,by omega⟩ (by simp only[yv];omega);simp only[yv]at k2;refine⟨k,e,k1,by omega,λh=>⟨λhb=>?_,λhb=>by omega⟩⟩;rw[hh]at hb;exact absurd hb (by decide)
     ·rw[if_neg (by simpa using hh)];refine⟨i,rfl,hi,yo _,λh=>⟨λ_=>rfl,λhb=>?_⟩⟩;exfalso;simp only[yF,beq_iff_eq,not_or]at hw;simp only[zds,Bool.not_eq_false',yF,beq_iff_eq]at hb;omega
   ·have:i=l.length:=by omega
    subst this;refine⟨l.length,by simp[zcY.l1],yo _,by simp,λh=>by simp at h⟩) n 0 ⟨0,rfl,by omega⟩ (by simp;omega);grind[zcY]
theorem zgj {n}{l}(hn:1000000<=n):∃k:Int,zbi n l=O k:=by
 have:=zc5 (body:=zbi.l1 n l) (λs:Int=>5-s.toNat) (λs=>∃i:Nat,s=i/\i<=5) (λ_ o=>∃k:Int,o=O k) (λrec s hI hr=>by
  obtain⟨i,rfl,hi⟩:=hI;simp only[zbi.l1];generalize hL:([[61,61],[33,61],[60,61],[62,61],[46,46]]:List (List UInt8))=L;have hLl:L.length=5:=by grind
  by_cases hlt:i<L.length
  ·have hp:∃b,zc1 n l L[i]=O b:=by
    simp only[zc1,zbs];by_cases h:L[i].length<=l.length
    ·have:cut l 0 (L[i].length:Int)=O ((l.drop 0).take (L[i].length-0)):=zgb (a:=0) (by omega) (by omega);simp[this,grd]
    ·simp[h,grd]
   obtain⟨b,hp⟩:=hp;have hd:Z ((i:Int)<(([[61,61],[33,61],[60,61],[62,61],[46,46]]:List (List Nat)).length:Int))=true:=by grind
   simp only[hd,if_true,zb hlt,ya,hp,zd (i:=i) (by omega)];split;·grind
   ·exact hr _ ⟨i+1,rfl,by omega⟩ (by grind)
  ·have hd:Z ((i:Int)<(([[61,61],[33,61],[60,61],[62,61],[46,46]]:List (List Nat)).length:Int))=false:=by simp;omega
   rw[hd,if_neg (by simp)];cases l with
   |nil=>simp[grd]|cons b l=>
    have h0:sidx (b::l) 0=O ((b.toNat:Nat):Int):=zdg (l:=b::l) (i:=0) (by simp);simp only[h0,zcp,zaX,ya,yp,yy,grd,if_true,ym];grind) n 0 ⟨0,rfl,by omega⟩ (by grind);grind[zbi]
theorem zkb {n}{l}(hn:1000000<=n)(h:0<l.length):∃b,zdn n l=O b:=by obtain⟨k,c⟩:=zgj (n:=n) (l:=l) hn;have a:sidx l 0=O l[0].toNat:=zdg (i:=0) h;simp[zdn,a,zcP,zbK,c,grd]
theorem zkQ {n}{l}{k}(hl:l.length<1000000)(hn:1000000<=n)(h1:0<l.length):∃e,ztg (zaA.l2 n l k) n 1=k (5,e):=by
 refine zc5 (body:=zaA.l2 n l k) (λs=>l.length-s.toNat) (λs=>∃i:Nat,s=i/\i<=l.length) (λ_ o=>∃e,o=k (5,e)) (λh s d f=>?_) n 1 ⟨1,rfl,h1⟩ (by grind);obtain⟨i,rfl,g⟩:=d;by_cases a:i<l.length
 ·obtain⟨b,c⟩:=zkb (n:=n) (l:=l.drop i) hn (by grind);simp only[zaA.l2,zdg a,zb6,zis g,c,yp,yy,grd,if_true,ym,zd (i:=i) (by omega)];split;·exact f _ ⟨i+1,rfl,by omega⟩ (by omega)
  grind
 ·have:i=l.length:=by omega
  subst this;exact⟨l.length,by simp[zaA.l2,grd]⟩
def zwN (w:List UInt8):Bool:=(match w with|[]=>M|b::_=>zbR (b.toNat:Nat))&&Z (runP zuG w=w.length)
theorem ziT (w)(h):zwN w=(zbR (w[0].toNat:Nat)&&Z (runP zuG w=w.length)):=by cases w with|nil=>simp at h|cons b l=>rfl
theorem znT {n}{w}{kw}(hl:w.length<1000000)(hn:1000000<=n)(h0:0<w.length):∃t,zaA n w kw=O t/\(t.at_=0/\t.end_=(w.length:Int)/\t.kind=1↔zwN w=U/\(kw.get? w).getD M=M):=by
 obtain⟨k,e,k1,k2,k3⟩:=zl8 (n:=n) (l:=w) hl hn;unfold zaA;rw[zgk (by omega)];have hz:ztc 0 (k:Int)=(k:Int):=by have:=zc7 (a:=0) (b:=k) (by omega);grind
 simp only[zaA.l1,zrW,ya,e,hz,zis k1,jn];by_cases hk:k=w.length
 ·subst hk;rw[if_pos (by simp)];refine⟨_,rfl,?_⟩;simp only[];constructor;·grind
  ·rintro⟨h,-⟩;exfalso;rw[ziT w h0,yd]at h;grind[zdX]
 ·have hd:0<(w.drop k).length:=by grind
  rw[if_neg (by grind)];have hs:sidx (w.drop k) 0=O (((w.drop k)[0].toNat:Nat):Int):=zdg (i:=0) hd;simp only[hs,ya,zkc];rw[ziT w h0];by_cases hlet:zbR (((w.drop k)[0].toNat:Nat):Int)=U
  ·rw[if_pos hlet,zgh (p:=zuG) (λq=>by simp[ziE,zcP,zbK,grd,zuG,zbR,zi3]) (by simp;omega) (by simp;omega)];have hle:=zkA zuG (w.drop k);have hc:=zgb (l:=w.drop k) (a:=0) (b:=runP zuG (w.drop k)) (by omega) hle;simp only[ya,wd]at hc|-;rw[hc];simp only[y7]at hle;have ha:ztc (k:Int) (runP zuG (w.drop k):Nat)=((k+runP zuG (w.drop k):Nat):Int):=zc7 (by omega);simp only[ya,ha,wU,Nat.sub_zero];by_cases hk0:k=0
   ·subst hk0;simp only[wU]at hlet|-;by_cases hrun:runP zuG w=w.length
    ·rw[hrun,xS (yo _)];by_cases hkw:(kw.get? w).getD M=U;·rw[if_pos hkw];refine⟨_,rfl,?_⟩;simp[hkw]
     ·rw[if_neg hkw];refine⟨_,rfl,?_⟩;simp only[yT]at hkw;simp[hkw,hlet]
    ·split;all_goals
      refine⟨_,rfl,?_⟩;simp[hrun];try omega
   ·have hbl:zds (w[0].toNat:Nat)=false:=by cases hb:zds (w[0].toNat:Nat)with|false=>rfl|true=>exact absurd (k2 h0 hb) hk0
    have hnl:zbR (w[0].toNat:Nat)=false:=by cases hb:zbR (w[0].toNat:Nat)with|false=>rfl|true=>rw[zdX hb]at hbl;cases hbl
    split;all_goals refine⟨_,rfl,?_⟩;simp[hnl,hk0]
  ·rw[if_neg hlet];have hno:k=0->zbR (w[0].toNat:Nat)=false:=by intro hk0;subst hk0;simp only[wU,yT]at hlet;exact hlet
   have hno':zbR (w[0].toNat:Nat)=false:=by
    by_cases hk0:k=0;·exact hno hk0
    ·cases hb:zbR (w[0].toNat:Nat)with|false=>rfl|true=>exact absurd (k2 h0 (zdX hb)) hk0
   simp only[zkP,ya,hno',uf,ye,false_and,iff_false];split;·rw[zgh (p:=zi3) (λq=>rfl) (by simp;omega) (by simp;omega)];exact⟨_,rfl,by simp⟩
   ·obtain⟨v,hv⟩:=zgj (n:=n) (l:=w.drop k) hn;simp only[hv,ya];split;·exact⟨_,rfl,by simp⟩
    ·obtain⟨e,he⟩:=zkQ (n:=n) (l:=w.drop k) (k:=λv=>O (⟨v.1,0,(k:Int),ztc (k:Int) v.2⟩:Token)) (by simp;omega) hn hd;rw[he];exact⟨_,rfl,by simp⟩
def kwL:List (List UInt8):=[[115,111,114,116],[114,101,108,97,116,105,111,110],[99,111,117,110,116,101,114],[115,101,116],[114,101,103,105,115,116,101,114],[105,110,118,97,114,105,97,110,116],[111,112,101,114,97,116,105,111,110],[107,101,121],[114,101,102,101,114,101,110,99,101],[116,111],[99,111,117,110,116],[97,99,121,99,108,105,99],[97,108,108],[115,117,109],[105,110],[97,100,100,119,105,110,115],[114,101,109,111,118,101,119,105,110,115],[108,97,115,116],[109,117,108,116,105],[104,105,100,101],[111,114,100,101,114,101,100],[114,101,113,117,105,114,101],[104,111,108,100],[105,110,115,101,114,116],[100,101,108,101,116,101],[97,100,100],[102,114,111,109],[112,117,116],[100,114,111,112],[97,115,115,105,103,110],[102,111,114],[119,104,101,114,101],[97,110,100],[111,114],[110,111,116]]
structure Fuel (n:Nat):Prop where
 big:4294967296<=n
 kw:∃m,zbH n=O m/\zvx m kwL
def zvS (w:List UInt8):Bool:=Z (w.length<=16)&&(zwN w&&!decide (w∈kwL))
theorem zhQ {n}{w}(hF:Fuel n):zfl n w=O (zvS w):=by
 have p:=hF.big;unfold zfl zvS;by_cases d:w.length<=16
 ·have k:Z (w.length<=16)=true:=by grind
  unfold zel;obtain⟨m,f,g⟩:=hF.kw;cases i:w with
  |nil=>simp[grd,zwN]|cons b l=>
   rw[<-i];have e:0<w.length:=by grind
   rw[if_neg (by grind),f,ya];obtain⟨t,h,a⟩:=znT (n:=n) (w:=w) (kw:=m) (by omega) (by omega) e;rw[g.get]at a;simp only[h,ya];by_cases o:t.at_=0/\t.end_=w.length/\t.kind=1;·grind[grd]
   ·have j:(zwN w&&!decide (w∈kwL))=false:=by grind
    rw[j];split;·simp[grd]
    ·rename_i c;grind[grd]
 ·grind[grd]
theorem zn3 {n}{t}{rec x}(hx:x<=t.length)(hl:t.length<1000000)(hn:1000000<=n):∃y:Nat,x<=y/\y<=t.length/\ztg (zbh.l2 n t rec) n x=rec (y:Int)/\∀h,(t[x].toNat:Nat)=35->x<y:=by
 have:=zc5 (body:=zbh.l2 n t rec) (λs:Int=>t.length-s.toNat) (λs=>∃i:Nat,s=i/\i<=t.length) (λs o=>∃y:Nat,s.toNat<=y/\y<=t.length/\o=rec (y:Int)/\∀h:s.toNat<t.length,(t[s.toNat].toNat:Nat)=35->s.toNat<y) (λr s hI hr=>by
  obtain⟨i,rfl,hi⟩:=hI;by_cases hlt:i<t.length
  ·simp only[zbh.l2,zC hlt,zdg hlt,yp,grd,if_true,ym,yC,zd (i:=i) (by omega),yv];by_cases h10:(((t[i].toNat:Nat):Int)!=10)=U;·obtain⟨y,y1,y2,y3,-⟩:=hr ((i+1:Nat):Int) ⟨_,rfl,by omega⟩ (by omega);grind
   grind
  ·have:i=t.length:=by omega
   subst this;exact⟨t.length,by simp,yo _,by simp[zbh.l2,grd],λh=>by simp at h⟩) n x ⟨x,rfl,hx⟩ (by omega);grind
theorem zhu {n}{t:List UInt8}{a}(ha:a<=t.length)(hl:t.length<1000000)(hn:1000000<=n):∃k:Nat,zbh n t a=O (k:Int)/\a<=k/\k<=t.length/\(∀h,zds (t[k].toNat:Nat)=U)/\∀h,zds (t[a].toNat:Nat)=U->k=a:=by
 have:=zc5 (body:=zbh.l1 n t) (λs:Int=>t.length-s.toNat) (λs=>∃i:Nat,s=i/\i<=t.length) (λs o=>∃k:Nat,o=O (k:Int)/\s.toNat<=k/\k<=t.length/\(∀h:k<t.length,zds (t[k].toNat:Nat)=U)/\∀h:s.toNat<t.length,zds (t[s.toNat].toNat:Nat)=U->k=s.toNat) (λr s hI hr=>by
  obtain⟨i,rfl,hi⟩:=hI;by_cases hlt:i<t.length
  ·simp only[zbh.l1,zC hlt,zdg hlt,zbd,yp,yy,grd,if_true,ym,yC,ya,zd (i:=i) (by omega),yv];by_cases hb:zds (t[i].toNat:Nat)=U
   ·rw[if_neg (by simp only[zds,yB,ua,uo]at hb;simp_all)];grind
   ·rw[if_pos (by simp only[zds,yB,ua,uo]at hb;simp only[yF,beq_iff_eq];omega)];by_cases hh:(t[i].toNat:Nat)=35;·rw[if_pos (by simp[hh])];obtain⟨y,y1,y2,y3,y4⟩:=zn3 (n:=n) (rec:=r) hi hl hn;have y5:=y4 hlt hh;rw[y3];obtain⟨k,e,k1,k2,k3,-⟩:=hr (y:Int) ⟨y,rfl,y2⟩ (by simp only[yv];omega);simp only[yv]at k1;exact⟨k,e,by omega,k2,k3,λ_ h=>absurd h hb⟩
    ·rw[if_neg (by simp;omega)];obtain⟨k,e,k1,k2,k3,-⟩:=hr ((i+1:Nat):Int) ⟨_,rfl,by omega⟩ (by simp only[yv];omega);simp only[yv]at k1;exact⟨k,e,by omega,k2,k3,λ_ h=>absurd h hb⟩
  ·have:i=t.length:=by omega
   subst this;exact⟨t.length,by simp[zbh.l1,grd],by simp,yo _,λh=>absurd h (by omega),λh=>by simp at h⟩) n a ⟨a,rfl,ha⟩ (by simp;omega);grind[zbh]
theorem zh4 {n}{t:List UInt8}{a}(ha:a<=t.length)(hl:t.length<1000000)(hn:1000000<=n):∃v:Nat,zbv n t a=O (v:Int)/\a+v<=t.length:=by
 unfold zbv;simp only[zfO,ya];generalize hL:([[61,61],[33,61],[60,61],[62,61],[46,46],[60],[62],[61],[43],[45],[42],[40],[41],[123],[125],[44],[58],[59]]:List (List UInt8))=L;have hLl:L.length=18:=by rw[<-hL];rfl
 have hL2:∀x∈L,x.length<=2:=by rw[<-hL];decide
 refine zc5 (body:=zbv.l1 n t a L) (λs:Int=>18-s.toNat) (λs=>∃i:Nat,s=i/\i<=18) (λs o=>∃v:Nat,o=O (v:Int)/\a+v<=t.length) (λr s hI hr=>?_) n 0 ⟨0,rfl,by omega⟩ (by grind);obtain⟨i,rfl,hi⟩:=hI;by_cases hlt:i<L.length
 ·have h2:=hL2 _ (yi hlt);simp only[zbv.l1,zC hlt,if_true,zb hlt,ya,yp,ym,yy,zd (i:=i) (by omega),zc7 (show a+L[i].length<9223372036854775808 by omega)];by_cases hle:a+L[i].length<=t.length
  ·simp only[zgb (l:=t) (a:=a) (b:=a+L[i].length) (by omega) hle,yp,yy,grd,if_true];split;·grind
   ·exact hr _ ⟨i+1,rfl,by omega⟩ (by grind)
  ·have hd:Z (((a+L[i].length:Nat):Int)<=(t.length:Int))=false:=by simp;omega
   simp only[hd,ux,uy,grd,if_true,uf,ye,if_false];exact hr _ ⟨i+1,rfl,by omega⟩ (by simp only[yv];omega)
 grind[zbv.l1]
theorem ziK {n}{L}{w}(hl:L.length<1000000)(hn:1000000<=n):zcT n L w=O (Z (w∈L)):=by
 have:=zw (body:=zcT.l1 n L w) (len:=L.length) (st:=λi=>i) (g:=λi=>O (Z (w∈L.drop i))) (λa i b c=>?_) (λa=>?_) n 0 (yj _) (by omega);·grind[zcT]
 ·simp only[zcT.l1,zb b,zd (i:=i) (by omega)];rw[zj b];grind
 ·simp[zcT.l1]
theorem zgy {n}:ze8 n=O kwL:=rfl
theorem zjc {n}{t:List UInt8}{a}(ha:a<t.length)(hb:zds (t[a].toNat:Nat)=U)(hl:t.length<1000000)(hn:1000000<=n):∃(k:Int)(e:Nat),zax n t a=O (k,(e:Int))/\a<e/\e<=t.length/\(zbR (t[a].toNat:Nat)=U->e=a+runP zuG (t.drop a))/\(k=1↔zbR (t[a].toNat:Nat)=U/\(t.drop a).take (e-a)∉kwL):=by
 unfold zax;simp only[zdg ha,ya,zfT,zeX];by_cases hlet:zbR ((t[a].toNat:Nat):Int)=U
 ·rw[if_pos hlet];have hlp:zbR (t[a].toNat:Nat)=true:=hlet;have hrun1:1<=runP zuG (t.drop a):=by rw[zj ha,runP,if_pos (by grind[zuG])];omega
  have hle:=zkA zuG (t.drop a);simp only[y7]at hle;have:=zaS (body:=zax.l1 n t a) (len:=t.length) (st:=λ(_:Unit)i=>(i:Int)) (g:=λi _=>O (if Z ((t.drop a).take (i+runP zuG (t.drop i)-a)∈kwL)=U then(2,((i+runP zuG (t.drop i):Nat):Int))else(1,((i+runP zuG (t.drop i):Nat):Int)))) (λi _=>a<=i) (λrec i _ hi hai hr=>?_) (λrec _ hai=>?_) n a () (by omega) (by omega) (yo _)
  ·rw[this];refine⟨if Z ((t.drop a).take (a+runP zuG (t.drop a)-a)∈kwL)=U then 2 else 1,a+runP zuG (t.drop a),?_,by omega,by omega,λ_=>rfl,?_⟩;·grind
   grind
  ·have hr:=hr () (by omega);have hle':=zkA zuG (t.drop i);simp only[y7]at hle';simp only[zax.l1,zC hi,zdg hi,zfT,zeX,yp,yy,grd,if_true,ym,yC,zd (i:=i) (by omega),hr];rw[zj hi,runP];have hpe:(zbR ((t[i].toNat:Nat):Int)||zi3 ((t[i].toNat:Nat):Int)||((t[i].toNat:Nat):Int)==95)=zuG ((t[i].toNat:Nat):Int):=rfl;rw[hpe];by_cases hp:zuG (t[i].toNat:Nat)=U;·rw[if_pos hp,if_pos hp,show i+(runP zuG (t.drop (i+1))+1)=i+1+runP zuG (t.drop (i+1))by omega]
   ·rw[if_neg hp,if_neg hp];simp only[ut,zgy,ya,zgb hai (uY hi)];rw[ziK (by decide) hn,ya];cases Z ((t.drop a).take (i-a)∈kwL)<;>rfl
  ·simp only[zax.l1,zan,ux,uy,grd,if_true,uf,ye,if_false,zgy,ya,zgb hai (yo _)];rw[ziK (by decide) hn,ya];simp only[xN,runP,ut];cases Z ((t.drop a).take (t.length-a)∈kwL)<;>rfl
 ·rw[if_neg hlet];have hlp:zbR (t[a].toNat:Nat)=false:=by simpa using hlet
  simp only[hlp,ye,false_implies,false_and,iff_false,true_and];by_cases hdig:zi3 ((t[a].toNat:Nat):Int)=U
  ·rw[if_pos hdig];have:=zc5 (body:=zax.l2 n t) (λs:Int=>t.length-s.toNat) (λs=>∃i:Nat,s=i/\i<=t.length) (λs o=>∃e:Nat,o=O (3,(e:Int))/\s.toNat<=e/\e<=t.length/\∀h:s.toNat<t.length,zi3 (t[s.toNat].toNat:Nat)=U->s.toNat<e) (λr s hI hr=>by
    obtain⟨i,rfl,hi⟩:=hI;by_cases hlt:i<t.length
    ·simp only[zax.l2,zC hlt,zdg hlt,zeX,yp,yy,grd,if_true,ym,yC,zd (i:=i) (by omega),yv];split;·obtain⟨e,e1,e2,e3,-⟩:=hr ((i+1:Nat):Int) ⟨_,rfl,by omega⟩ (by simp only[yv];omega);simp only[yv]at e2;exact⟨e,e1,by omega,e3,λ_ _=>by omega⟩
     ·rename_i hno;exact⟨i,rfl,yo _,hi,λ_ h=>absurd h hno⟩
    ·have:i=t.length:=by omega
     subst this;exact⟨t.length,by simp[zax.l2,grd],by simp,yo _,λh=>by simp at h⟩) n a ⟨a,rfl,uY ha⟩ (by simp;omega);obtain⟨e,e1,-,e3,e4⟩:=this;exact⟨3,e,e1,e4 ha hdig,e3,by decide⟩
  ·rw[if_neg hdig];obtain⟨v,hv,hv2⟩:=zh4 (n:=n) (t:=t) (a:=a) (uY ha) hl hn;rw[hv,ya];by_cases hv0:0<v;·rw[if_pos (by simpa using hv0),zc7 (by omega)];exact⟨4,a+v,rfl,by omega,hv2,by decide⟩
   ·have hv0:v=0:=by omega
    subst hv0;rw[if_neg (by simp)];have:=zc5 (body:=zax.l3 n t) (λs:Int=>t.length-s.toNat) (λs=>∃i:Nat,s=i/\i<=t.length) (λs o=>∃e:Nat,o=O (5,(e:Int))/\s.toNat<=e/\e<=t.length/\(s=a->a<e)) (λr s hI hr=>by
     obtain⟨i,rfl,hi⟩:=hI;by_cases hlt:i<t.length
     ·obtain⟨u,hu,-⟩:=zh4 (n:=n) (t:=t) (a:=i) hi hl hn;simp only[zax.l3,zC hlt,zdg hlt,zbd,zfT,zeX,hu,yp,yy,grd,if_true,ym,yC,zd (i:=i) (by omega),yv];split;·obtain⟨e,e1,e2,e3,-⟩:=hr ((i+1:Nat):Int) ⟨_,rfl,by omega⟩ (by simp only[yv];omega);simp only[yv]at e2;exact⟨e,e1,by omega,e3,λh=>by omega⟩
      ·rename_i hno;refine⟨i,rfl,yo _,hi,λh=>?_⟩;have hia:i=a:=by omega
       subst hia;exfalso;apply hno;rw[hv]at hu;simp only[yn,Int.natCast_inj]at hu;subst hu;simp only[zds,yB,ua,uo]at hb;simp only[yd,bne_iff_ne,ne_eq,yB,ua,uo];simp only[yT]at hlet hdig;exact⟨⟨⟨⟨by omega,by omega⟩,hlet⟩,hdig⟩,by simp⟩
     ·have:i=t.length:=by omega
      subst this;exact⟨t.length,by simp[zax.l3,grd],by simp,yo _,λh=>by omega⟩) n a ⟨a,rfl,uY ha⟩ (by simp;omega);obtain⟨e,e1,-,e3,e4⟩:=this;exact⟨5,e,e1,e4 rfl,e3,by decide⟩
theorem zl {α}{b}{xs ys:List α}(h:(xs.length+ys.length)*b<=140737488355328):Go.Proofs.YtipkniadbkndfaaGreatDoor.app b xs ys=O (xs++ys):=by unfold Go.Proofs.YtipkniadbkndfaaGreatDoor.app;grind
theorem zky {n}{t}(hl:t.length<1000000)(hn:1000000<=n):∀(m)(b)(a:Nat),a<=t.length->b.length<=a->t.length-a<m->∃r,r≠[]/\ztg (zcZ.l1 n t) m (b,(a:Int))=O (b++r,0)
 |0,_,_,_,_,h=>by omega|m+1,b,a,g,j,h=>by
  obtain⟨k,e,l,o,d,-⟩:=zhu (n:=n) g hl hn;simp only[ztg,zcZ.l1,e,ya];by_cases c:k<t.length;·obtain⟨q,z,f,p,i,-,-⟩:=zjc (n:=n) c (d c) hl hn;simp only[f,ya];rw[zl (by grind),ya];obtain⟨r,-,s⟩:=zky hl hn m (b++[⟨q,a,k,z⟩]) z i (by grind) (by omega);grind
  ·rw[zhJ (by omega),if_neg (by simp),zl (by grind),ya];grind
theorem zn2 {n}{w}(hl:w.length<=4096)(hn:1000000<=n):∃k,zgP n w=O k/\(k=1↔zwN w=U/\w∉kwL):=by
 unfold zgP zcZ;rw[if_neg (by grind),zgk (by omega)];obtain⟨k,e,-,k2,k3,k4⟩:=zhu (n:=n) (t:=w) (a:=0) (by omega) (by omega) hn;simp only[wd]at e;simp only[zcZ.l1,e,ya];by_cases hlt:k<w.length
 ·obtain⟨q,z,hz,z1,z2,z3,z4⟩:=zjc (n:=n) hlt (k3 hlt) (by omega) hn;simp only[zC hlt,if_true,hz,ya,yP];rw[zl (by simp),ya];obtain⟨r,r0,hr⟩:=zky (n:=n) (t:=w) (by omega) hn (n-1) [(⟨q,0,(k:Int),(z:Int)⟩:Token)] z z2 (by grind) (by omega);simp only[yP];rw[hr];have h0:idx ([(⟨q,0,(k:Int),(z:Int)⟩:Token)]++r) 0=O ⟨q,0,(k:Int),(z:Int)⟩:=by simp[idx]
  simp only[ya,h0,yp,yy,grd,if_true,ym];rw[ziT w (by omega)];have hw0:k=0->z=w.length->(zbR (w[k].toNat:Nat)=U/\(w.drop k).take (z-k)∉kwL↔(zbR (w[0].toNat:Nat)&&Z (runP zuG w=w.length))=U/\w∉kwL):=by grind
  by_cases hc:((0:Int)!=0||(([(⟨q,0,(k:Int),(z:Int)⟩:Token)]++r).length:Int)!=2||(k:Int)!=0||(z:Int)!=(w.length:Int))=U
  ·rw[if_pos hc];refine⟨0,rfl,?_⟩;constructor;·grind
   ·rintro⟨h1,h2⟩;exfalso;simp only[yd,yg]at h1;have hk0:k=0:=k4 (by omega) (zdX h1.1);subst hk0;have hzw:=z3 h1.1;simp only[wU]at hzw;have hzl:z=w.length:=by omega
    subst hzl;rw[zgk (by omega)]at hr;obtain⟨k',e',p1,p2,-,-⟩:=zhu (n:=n) (t:=w) (a:=w.length) (yo _) (by omega) hn;have:k'=w.length:=by omega
    subst this;simp only[zcZ.l1,e',ya,zan,ye,if_false]at hr;rw[zl (by simp),ya]at hr;simp only[yn,yf,and_true,List.append_cancel_left_eq]at hr;subst hr;simp at hc
  grind
 ·rw[zhJ (by omega),if_neg (by simp),zl (by simp),ya];simp only[yP,ya];refine⟨0,by simp[grd,idx],?_⟩;constructor;·intro h;exact absurd h (by decide)
  ·rintro⟨h1,-⟩;exfalso;cases w with|nil=>simp[zwN]at h1|cons x l=>simp only[zwN,yd]at h1;have:=k4 (by simp) (zdX h1.1);simp at hlt;omega
theorem zh0 {n}{w}(hl:w.length<=4096)(hn:1000000<=n):zfo n w=O (zvS w):=by
 unfold zfo zvS;obtain⟨k,c,a⟩:=zn2 (n:=n) hl hn;have b:Z ((w.length:Int)<=16)=Z (w.length<=16):=decide_eq_decide.2 (by omega);grind
theorem zvx.getS {m:GMap (List UInt8) Bool}{l:List (List UInt8)}(h:zvx m l)(k:List UInt8):(m.get? k).getD M=Z (k∈l):=(h.get k).trans (decide_eq_decide.2 Iff.rfl)
def zvb:List (List UInt8)->List (List UInt8)->Bool|_,[]=>U|seen,s::l=>zvS s&&!decide (s∈seen)&&zvb (seen++[s]) l
theorem zfm {n}{l:List (List UInt8)}(hF:Fuel n)(hl:l.length<1000000):zaM n l=O (zvb [] l):=by
 have hn:=hF.big;have:=zaS (body:=zaM.l1 n l) (len:=l.length) (st:=λm i=>(m,(i:Int))) (g:=λi _=>O (zvb (l.take i) (l.drop i))) (λi m=>zvx m (l.take i)) (λrec i m hi hm hr=>?_) (λrec m _=>?_) n 0 wj (yj _) (by omega) (by simpa using zvx.empty);·simpa[zaM]using this
 ·simp only[zaM.l1,zC hi,if_true,zb hi,ya,zhQ hF,hm.getS,zd (i:=i) (by omega)];rw[hr _ (by rw[yt hi];exact hm.put _),zj hi,zvb,yt hi];cases zvS l[i]<;>cases hd:Z (l[i]∈l.take i)<;>simp
 ·simp[zaM.l1,zvb]
theorem zfq {n}{l:List (List UInt8)}(hn:1000000<=n)(hl:l.length<1000000)(hw:∀w∈l,w.length<=4096):zaN n l=O (zvb [] l):=by
 have:=zw (body:=zaN.l1 n l) (len:=l.length) (st:=λi=>(i:Int)) (g:=λi=>O (zvb (l.take i) (l.drop i))) (λrec i hi hr=>?_) (λrec=>?_) n 0 (yj _) (by omega);·simpa[zaN]using this
 ·have hc:=zgb (l:=l) (a:=0) (b:=i) (by omega) (uY hi);simp only[wd,wU,Nat.sub_zero]at hc;simp only[zaN.l1,zC hi,if_true,zb hi,ya,zh0 (hw _ (yi hi)) hn,hc,yp,ym,yy,grd,ziK (show(l.take i).length<1000000 by simp;omega) hn,zd (i:=i) (by omega),hr];rw[zj hi,zvb,yt hi];cases zvS l[i]<;>cases hd:Z (l[i]∈l.take i)<;>simp
 ·simp[zaN.l1,zvb]
theorem zpx {n l v}(hl:l.length<1000000)(hn:1000000<=n):zad n l v=O (ixP (λx=>v==x) l 0):=by
 have:=zw (body:=zad.l1 n l v) (len:=l.length) (st:=λi=>(i:Int)) (g:=λi=>O (ixP (λx=>v==x) (l.drop i) i)) (λrec i hi hr=>?_) (λrec=>?_) n 0 (yj _) (by omega);·simpa[zad]using this
 ·simp only[zad.l1,zC hi,if_true,zb hi,ya,zd (i:=i) (by omega),hr];rw[zj hi];simp only[ixP];split<;>rfl
 ·simp[zad.l1,ixP]
theorem zi0 {n l}(hl:l.length<1000000)(hn:1000000<=n):zf8 n l=O (l.all id):=by unfold zf8 zbS;rw[zpx hl hn];simp only[ya,zge,yn];rw[<-znE];congr 2;funext x;cases x<;>rfl
def b6:Nat->Int->Int|0,A=>A|k+1,A=>b6 k (A*6)
theorem b6_le:∀(k:Nat)(A:Int),1<=A->A<=b6 k A|0,_,_=>Int.le_refl _|k+1,A,h=>Int.le_trans (by omega) (b6_le k (A*6) (by omega))
theorem zqb {a b A:Int}(h1:1<=a)(h2:a<=A)(h3:1<=b)(h4:b<=6):1<=a*b/\a*b<=A*6:=by have e1:1*1<=a*b:=uZ h1 h3 (by omega) (by omega);have e2:a*b<=A*6:=uZ h2 h4 (by omega) (by omega);omega
theorem znv (sizes:List Int)(hs:sizes.all zcI=U):∀(cols:List Int)(s A:Int),cols.all (zt4 sizes)=U->1<=s->s<=A->b6 cols.length A<=1000000->1<=zau sizes cols s/\zau sizes cols s<=b6 cols.length A
 |[],s,A,_,h1,h2,_=>by simpa[zau,b6]using⟨h1,h2⟩|c::l,s,A,hc,h1,h2,h3=>by
  simp only[um,yd]at hc;have hcol:=hc.1;simp only[zt4,yd,yg]at hcol;obtain⟨k,rfl⟩:=yX hcol.1;have hk:k<sizes.length:=by omega
  have hz:=yq.1 hs _ (yi hk);simp only[zcI,yd,yg]at hz;have hg:sizes.getD (k:Int).toNat 0=sizes[k]:=by simp[vo,hk]
  have hm:=zqb h1 h2 hz.1 hz.2;simp only[yU,b6]at h3|-;have hb:=b6_le l.length (A*6) (by omega);simp only[zau,hg];unfold zto;rw[zaf (by omega) (by omega)];exact znv sizes hs l _ _ hc.2 hm.1 hm.2 h3
theorem zgF {sizes cols}(hs:sizes.all zcI=U)(hc:cols.all (zt4 sizes)=U)(h3:cols.length<=3):1<=zau sizes cols 1/\zau sizes cols 1<=216:=by
 have h:b6 cols.length 1<=216:=by match cols,h3 with
  |[],_=>decide|[_],_=>simp[b6]|[_,_],_=>simp[b6]|[_,_,_],_=>simp[b6]|_::_::_::_::_,h=>simp at h
 have:=znv sizes hs cols 1 1 hc (by decide) (by decide) (by omega);omega
def zce (k:Int):Bool:=k==0||k==1
def zgt (t:Table):Bool:=if(t.kind==1||t.kind==4||t.kind==5)=U then Z (t.range.lo<=t.range.hi)&&Z (-9999<=t.range.lo)&&Z (t.range.hi<=9999)else Z (t.range=(⟨0,1⟩:Range))
def tabP (sizes:List Int)(t:Table):Bool:=zvS t.name&&(Z (0<=t.kind)&&Z (t.kind<=5))&&(Z (t.ztd.length<=3)&&t.ztd.all (zt4 sizes))&&zgt t
def layP (sizes:List Int):List (List UInt8)->Int->Int->List Table->Bool|_,a,b,[]=>decide (a<=128)&&Z (b<=64)|seen,a,b,t::l=>tabP sizes t&&!decide (t.name∈seen)&&if zce t.kind=U then t.first==a&&layP sizes (seen++[t.name]) (ztc a (zau sizes t.ztd 1)) b l else t.first==b&&layP sizes (seen++[t.name]) a (ztc b (zau sizes t.ztd 1)) l
def zbt (sizes:List Int)(tables:List Table):Bool:=Z (sizes.length<=4)&&Z (tables.length<=12)&&sizes.all zcI&&layP sizes [] 0 0 tables
theorem zjP {n t}:zdS n t=O (zgt t):=by
 unfold zdS zgt jn;by_cases h1:t.kind=1;·simp[h1]
 ·by_cases h4:t.kind=4;·simp[h4]
  ·by_cases h5:t.kind=5;·simp[h5]
   ·simp[h1,h4,h5]
theorem ze4 {n sizes tables}(hF:Fuel n)(hs:sizes.length<=1000)(ht:tables.length<=1000)(hc:∀t∈tables,t.ztd.length<=1000):zbJ n sizes tables=O (zbt sizes tables):=by
 have hn:=hF.big;unfold zbJ zbt;rw[zkO (by omega) (by omega),ya,zi0 (by simp) (by omega),ya];simp only[um,wy,id,ug];have e1:Z ((sizes.length:Int)<=4)=Z (sizes.length<=4):=decide_eq_decide.2 (by omega);have e2:Z ((tables.length:Int)<=12)=Z (tables.length<=12):=decide_eq_decide.2 (by omega);rw[e1,e2,<-vS];by_cases h:(Z (sizes.length<=4)&&Z (tables.length<=12)&&sizes.all zcI)=U
 ·rw[h,if_neg (by simp),yC];have:=zaS (body:=zbJ.l1 n sizes tables) (len:=tables.length) (st:=λ(s:GMap (List UInt8) Bool×Int×Int)i=>(s.1,s.2.1,s.2.2,(i:Int))) (g:=λi s=>O (layP sizes ((tables.take i).map (·.name)) s.2.1 s.2.2 (tables.drop i))) (λi s=>zvx s.1 ((tables.take i).map (·.name))) (λrec i s hi hm hr=>?_) (λrec s _=>?_) n 0 (wj,0,0) (yj _) (by omega) (by simpa using zvx.empty);·simpa using this
  ·obtain⟨m,a,b⟩:=s;simp only[]at hm;have hmem:=yi hi;have hcols:=hc _ hmem;simp only[zbJ.l1,jn,zC hi,if_true,zb hi,ya,zhQ hF,hm.getS,zdT,zin (show tables[i].ztd.length<4611686018427387904 by omega) (show tables[i].ztd.length<n by omega),zjP,zb3,zd (i:=i) (by omega)];rw[zi0 (by simp) (by omega),ya];simp only[um,wy,id,ug];have hput:=hm.put tables[i].name;have htk:(tables.take (i+1)).map (·.name)=(tables.take i).map (·.name)++[tables[i].name]:=by rw[yt hi,uq];rfl
   rw[<-htk]at hput;have hT:(zvS tables[i].name&&(!decide (tables[i].name∈(tables.take i).map (·.name))&&(Z (0<=tables[i].kind)&&Z (tables[i].kind<=5)&&(Z (tables[i].ztd.length<=3)&&tables[i].ztd.all (zt4 sizes)&&zgt tables[i]))))=(tabP sizes tables[i]&&!decide (tables[i].name∈(tables.take i).map (·.name))):=by unfold tabP;cases zvS tables[i].name<;>cases Z (tables[i].name∈(tables.take i).map (·.name))<;>simp[vS]
   rw[hT,zj hi,layP];by_cases hv:(tabP sizes tables[i]&&!decide (tables[i].name∈(tables.take i).map (·.name)))=U
   ·rw[hv,if_neg (by simp),yC];have hcol:tables[i].ztd.all (zt4 sizes)=true:=by simp only[tabP,yd]at hv;exact hv.1.1.2.2
    simp only[ze5 hcol (show tables[i].ztd.length<4611686018427387904 by omega) (show tables[i].ztd.length<n by omega),ya,<-htk];unfold zce;by_cases hk:(tables[i].kind==0||tables[i].kind==1)=U
    ·rw[if_pos hk,if_pos hk];by_cases hf:tables[i].first=a;·rw[if_neg (by simp[hf]),hr (m.put tables[i].name U,ztc a (zau sizes tables[i].ztd 1),b) hput];simp[hf]
     ·rw[if_pos (by simp[hf])];simp[hf]
    ·rw[if_neg hk,if_neg hk];by_cases hf:tables[i].first=b;·rw[if_neg (by simp[hf]),hr (m.put tables[i].name U,a,ztc b (zau sizes tables[i].ztd 1)) hput];simp[hf]
     ·rw[if_pos (by simp[hf])];simp[hf]
   ·simp only[yT]at hv;rw[hv,if_pos (by simp),uf]
  ·simp[zbJ.l1,layP]
 ·simp only[yT]at h;rw[h,if_pos (by simp),uf]
theorem ze9 {n sizes tables}(hn:1000000<=n)(hs:sizes.length<=1000)(ht:tables.length<=1000)(hc:∀t∈tables,t.ztd.length<=1000/\t.name.length<=4096):zaD n sizes tables=O (zbt sizes tables):=by
 unfold zaD zbt;have e1:Z (4<(sizes.length:Int))=!decide (sizes.length<=4):=by grind
 have e2:Z (12<(tables.length:Int))=!decide (tables.length<=12):=by grind
 rw[zg6 (by omega) (by omega),e1,e2];simp only[yp,yy,grd,if_true,ym];by_cases h:(Z (sizes.length<=4)&&Z (tables.length<=12)&&sizes.all zcI)=U
 ·rw[h,yC];simp only[yd]at h;obtain⟨⟨h1,h2⟩,h3⟩:=h;rw[h1,h2,h3,if_neg (by simp)];have:=zaS (body:=zaD.l1 n sizes tables) (len:=tables.length) (st:=λ(s:Int×Int)i=>(s.1,s.2,(i:Int))) (g:=λi s=>O (layP sizes ((tables.take i).map (·.name)) s.1 s.2 (tables.drop i))) (λ_ _=>True) (λrec i s hi _ hr=>?_) (λrec s _=>?_) n 0 (0,0) (yj _) (by omega) trivial;·grind
  ·obtain⟨a,b⟩:=s;have hmem:=yi hi;obtain⟨hcols,hname⟩:=hc _ hmem;simp only[zaD.l1,jn,zC hi,if_true,zb hi,ya];generalize hK:(λ(v:Int×Int)=>rec (v.1,v.2,ztc (i:Int) 1))=K;have inner:=zw (body:=zaD.l2 n sizes tables a b i K tables[i]) (len:=i) (st:=λk=>(k:Int)) (g:=λk=>if Z (tables[i].name∈((tables.take i).drop k).map (·.name))=U then O M else zaD.l2 n sizes tables a b i K tables[i] (λ_=>Y) (i:Int)) (λrec' k hk hr'=>?_) (λrec'=>?_) n 0 (yj _) (by omega)
   ·rw[show((0:Nat):Int)=0 from rfl]at inner;rw[inner,zj hi,layP,wU];have htk:(tables.take (i+1)).map (·.name)=(tables.take i).map (·.name)++[tables[i].name]:=by grind[wi]
    cases hseen:Z (tables[i].name∈(tables.take i).map (·.name))with
    |true=>simp|false=>
     simp only[ye,if_false,ux,ug];have hnum:=zeB (n:=n) (sizes:=sizes) (cols:=tables[i].ztd) (by omega) (by omega) (by omega) (by omega);rw[h3,ug]at hnum;simp only[zaD.l2,zhJ (yo i),ye,if_false,hnum,ya,zh0 hname hn,zb0];unfold tabP;by_cases hcol:(Z (tables[i].ztd.length<=3)&&tables[i].ztd.all (zt4 sizes))=U
     ·simp only[hcol,if_true,ug];have hcol':=hcol;simp only[yd,yg]at hcol';have hw:=zgF h3 hcol'.2 hcol'.1;have hw0:(zau sizes tables[i].ztd 1==0)=false:=by simp;omega
      rw[hw0,Bool.or_false];by_cases hnk:(zvS tables[i].name&&(Z (0<=tables[i].kind)&&Z (tables[i].kind<=5)))=U
      ·rw[hnk,yC];simp only[yd,yg]at hnk;rw[if_neg (by simp[hnk.1];omega)];by_cases hrg:zgt tables[i]=U
       ·rw[hrg,yC];unfold zgt at hrg;rw[if_neg (by
         split at hrg;·simp only[yd,yg]at hrg;simp only[yF,yg];omega
         ·simp only[yg]at hrg;rw[hrg];decide),if_neg (by
         split at hrg;·rename_i hk;simp only[yF,beq_iff_eq]at hk;simp only[yd,yF,beq_iff_eq];omega
         ·simp only[yg]at hrg;rw[hrg];simp)];unfold zce;by_cases hk:(tables[i].kind==0||tables[i].kind==1)=U
        ·rw[if_pos hk,if_pos hk];by_cases hf:tables[i].first=a;·rw[if_neg (by simp[hf]),<-hK];simp only[zd (i:=i) (by omega)];have:=hr (ztc a (zau sizes tables[i].ztd 1),b) trivial;simp only[]at this;rw[this,htk];simp[hf]
         ·rw[if_pos (by simp[hf])];simp[hf]
        ·rw[if_neg hk,if_neg hk];by_cases hf:tables[i].first=b;·rw[if_neg (by simp[hf]),<-hK];simp only[zd (i:=i) (by omega)];have:=hr (a,ztc b (zau sizes tables[i].ztd 1)) trivial;simp only[]at this;rw[this,htk];simp[hf]
         ·rw[if_pos (by simp[hf])];simp[hf]
       ·simp only[yT]at hrg;rw[hrg,uf];unfold zgt at hrg;split at hrg;·rename_i hk;rw[if_pos (by simp only[uz,yH]at hrg;simp only[yF,yg];omega)]
        ·rename_i hk;simp only[yF,beq_iff_eq,not_or]at hk;have hr01:¬(tables[i].range.lo=0/\tables[i].range.hi=1):=by rintro⟨q1,q2⟩;simp only[yH]at hrg;apply hrg;cases hrr:tables[i].range;rw[hrr]at q1 q2;simp only[]at q1 q2;rw[q1,q2]
         split;·rfl
         ·rw[if_pos (by simp only[yd,yF,beq_iff_eq,bne_iff_ne,ne_eq];omega)]
      ·simp only[yT]at hnk;rw[hnk,uf,uf];rw[if_pos (by
        simp only[uz,yH]at hnk;simp only[yF,yB,yg];rcases hnk with h|h|h;·exact .inl (.inl h)
        ·exact .inl (.inr (by omega))
        ·exact .inr (by omega))]
     ·simp only[yT]at hcol;simp only[hcol,Bool.and_false,uf,ye,if_false];rw[if_pos (by simp)]
   ·have hk':k<tables.length:=by omega
    simp only[zaD.l2,zkf hk,if_true,zb hk',ya,zd (i:=k) (by omega),hr'];have hk2:k<(tables.take i).length:=by simp;omega
    rw[zj hk2];simp only[List.getElem_take,yW,yG];by_cases hnm:tables[k].name=tables[i].name;·rw[if_pos (by simpa using hnm),if_pos (by simp[hnm])]
    ·rw[if_neg (by simpa using hnm)];have hnm':¬tables[i].name=tables[k].name:=λe=>hnm e.symm;simp only[hnm',false_or]
   ·rw[if_neg (by simp)];simp only[zaD.l2,zhJ (yo i),ye,if_false]
  ·simp[zaD.l1,layP]
 grind
def zY (sizes:List Int)(s:Bool):List Table->List Range|[]=>[]|t::l=>if(zce t.kind==s)=U then xA (zau sizes t.ztd 1).toNat t.range++zY sizes s l else zY sizes s l
theorem zhN {sizes}:∀{l}{seen}{a b},layP sizes seen a b l=U->∀t∈l,tabP sizes t=U
 |[],_,_,_,_,_,c=>by grind|x::l,seen,a,b,h,t,c=>by
  simp only[layP,yd]at h;simp only[yG]at c;rcases c with rfl|c;·grind
  ·have d:=h.2;split at d;·simp only[yd]at d;exact zhN d.2 t c
   ·simp only[yd]at d;exact zhN d.2 t c
theorem zb5 {sizes tables}(h:zbt sizes tables=U):sizes.length<=4/\tables.length<=12/\sizes.all zcI=U/\∀t∈tables,zvS t.name=U/\(0<=t.kind/\t.kind<=5)/\t.ztd.length<=3/\t.ztd.all (zt4 sizes)=U/\1<=zau sizes t.ztd 1/\zau sizes t.ztd 1<=216:=by simp only[zbt,yd,yg]at h;obtain⟨⟨⟨c,d⟩,b⟩,e⟩:=h;refine⟨c,d,b,λt f=>?_⟩;have:=zhN e t f;simp only[tabP,yd,yg]at this;obtain⟨⟨⟨g,i⟩,a⟩,-⟩:=this;exact⟨g,i,a.1,a.2,zgF b a.2 a.1⟩
theorem zdM {sizes s}:∀{l},(∀t∈l,1<=zau sizes t.ztd 1/\zau sizes t.ztd 1<=216)->(zY sizes s l).length<=l.length*216
 |[],_=>by simp[zY]|t::l,h=>by
  have b:=zdM (s:=s) (l:=l) λx a=>h x (by simp[a]);grind[zY]
theorem zsG {n}:∀w:Fin 217,zeh n 1 ((w.1:Nat):Int)=O (0,((w.1:Nat):Int)):=by intro w;unfold zeh zew;revert w;decide+kernel
theorem zo4:∀w:Fin 217,wk .u64 ((w.1:Nat):Int)=((w.1:Nat):Int)/\wk .i64 ((w.1:Nat):Int)=((w.1:Nat):Int):=by decide+kernel
theorem zpA {n x w}(h1:1<=w)(h2:w<=216)(hn:1000000<=n):zL n [x] w=O (xA w.toNat x):=by
 obtain⟨W,rfl⟩:=yX (show 0<=w by omega);have hW:W<217:=by omega
 have hwk:=zo4 ⟨W,hW⟩;simp only[]at hwk;have h1k:wk .u64 (([x]:List Range).length:Int)=1:=(zo4 ⟨1,by decide⟩).1;unfold zL;rw[if_neg (by simp),h1k,hwk.1,zsG ⟨W,hW⟩];simp only[ya];rw[if_neg (by grind),hwk.2];have hm:mkl 16 (W:Int) (⟨0,0⟩:Range)=O (xA W ⟨0,0⟩):=by unfold mkl;grind
 rw[hm,ya];simp only[uA,uK,Nat.sub_zero,yv];rw[show min W 1=1 by omega];refine zc5 (body:=zL.l1 n) (λs=>W-s.2.toNat) (λs=>∃k:Nat,s.2=(k:Int)/\1<=k/\k<=W/\s.1.length=W/\s.1.take k=xA k x) (λ_ o=>o=O (xA W x)) (λrec s hI hr=>?_) n _ ⟨1,rfl,by omega,by omega,?_,?_⟩ (by simp;omega)
 ·obtain⟨b,kk⟩:=s;obtain⟨k,rfl,k1,k2,hb,hk⟩:=hI;simp only[]at hb hk;simp only[zL.l1];by_cases hlt:k<W
  ·have hcE:cut b (k:Int) (W:Int)=O (b.drop k):=by grind[zis]
   have hc:=zgb (l:=b) (a:=0) (b:=k) (by omega) (by omega);simp only[wd]at hc;simp only[hb,zkf hlt,if_true,hcE,hc,ya,yv,wU,Nat.sub_zero,hk,uA];rw[zc7 (by omega)];refine hr (_,((k+min (W-k) k:Nat):Int)) ⟨k+min (W-k) k,rfl,by omega,by omega,?_,?_⟩ (by grind);·simp only[];rw[zdv (by omega) (by omega),hb]
   ·simp only[zeL,hk,List.take_replicate,uA];rw[show min (W-k) k=min (W-k) k from rfl,<-yJ,List.replicate_append_replicate];rw[List.take_append_of_le_length (by simp)];simp
  grind
 ·rw[zdv (by omega) (by simp)];simp
 grind[zeL,List.take_append,xS,min]
theorem zg5 (sizes s):∀(l m),zY sizes s (l++m)=zY sizes s l++zY sizes s m
 |[],_=>rfl|t::l,m=>by
  simp only[ur,zY,zg5 sizes s l m];grind
theorem zgu {sizes}{s}{l:List Table}{i}(hi):zY sizes s (l.take (i+1))=if(zce l[i].kind==s)=U then zY sizes s (l.take i)++xA (zau sizes l[i].ztd 1).toNat l[i].range else zY sizes s (l.take i):=by grind[wi,zg5,zY]
theorem zf7 {n}{sizes}{tables}{s}(hF:Fuel n)(hs:sizes.length<=1000)(ht:tables.length<=1000)(hc:∀t∈tables,t.ztd.length<=1000):zbG n sizes tables s=O (if zbt sizes tables=U then zY sizes s tables else[]):=by have o:=hF.big;unfold zbG;rw[ze4 hF hs ht hc,ya];cases f:zbt sizes tables with
 |false=>simp|true=>
  obtain⟨p,k,m,e⟩:=zb5 f;have:=zw (body:=zbG.l1 n sizes tables s) (len:=tables.length) (st:=λi=>(zY sizes s (tables.take i),(i:Int))) (g:=λ_=>O (zY sizes s tables)) (λa i c b=>?_) (λa=>?_) n 0 (yj _) (by omega);·grind[zY]
  ·have d:=zdM (sizes:=sizes) (s:=s) (l:=tables.take i) λx h=>(e x (wq h)).2.2.2.2;rw[zgu c]at b;simp only[zbG.l1,jn,zb c,ya,zb3,zd (i:=i) (by omega)];unfold zce at b;by_cases j:((tables[i].kind==0||tables[i].kind==1)==s)=U;·grind[ze5,zpA,zl]
   grind
  ·simp[zbG.l1]
theorem zeA {n}{sizes}{tables}{s}(hn:1000000<=n)(hs:sizes.length<=1000)(ht:tables.length<=1000)(hc:∀t∈tables,t.ztd.length<=1000/\t.name.length<=4096):zaK n sizes tables s=O (if zbt sizes tables=U then zY sizes s tables else[]):=by unfold zaK;rw[ze9 hn hs ht hc,ya];cases hL:zbt sizes tables with
 |false=>simp|true=>
  obtain⟨l1,l2,l3,l4⟩:=zb5 hL;have:=zw (body:=zaK.l1 n sizes tables s) (len:=tables.length) (st:=λi=>(zY sizes s (tables.take i),(i:Int))) (g:=λ_=>O (zY sizes s tables)) (λrec i hi hr=>?_) (λrec=>?_) n 0 (yj _) (by omega);·grind[zY]
  ·obtain⟨-,-,c1,c2,c3,c4⟩:=l4 _ (yi hi);have hlen:=zdM (sizes:=sizes) (s:=s) (l:=tables.take i) λx hx=>(l4 x (wq hx)).2.2.2.2;simp only[ud]at hlen;rw[zgu hi]at hr;simp only[zaK.l1,zC hi,if_true];obtain⟨W,hW⟩:=yX (show 0<=zau sizes tables[i].ztd 1 by omega);have hnum:=zeB (n:=n) (sizes:=sizes) (cols:=tables[i].ztd) (by omega) (by omega) (by omega) (by omega);simp only[l3,c2,c1,decide_true,ug,if_true]at hnum;have inner:=zw (body:=zaK.l2 n sizes tables s i rec) (len:=if(zce tables[i].kind==s)=U then W else 0) (st:=λk=>(zY sizes s (tables.take i)++xA k tables[i].range,(k:Int))) (g:=λ_=>O (zY sizes s tables)) (λrec' k hk hr'=>?_) (λrec'=>?_) n 0 (yj _) (by grind);·grind
   ·split at hk;·rename_i hst;simp only[zce]at hst;simp only[zaK.l2,zb hi,ya,zb0,hst,yp,yy,grd,if_true,ym,hnum,yC,hW,zkf hk,zd (i:=k) (by omega)];rw[zl (by simp only[yR,uA,uK];omega),ya,yJ,<-uR,hr']
    ·omega
   ·by_cases hst:((tables[i].kind==0||tables[i].kind==1)==s)=U;·have hst':(zce tables[i].kind==s)=true:=hst;rw[if_pos hst']at hr|-;simp only[zaK.l2,zb hi,ya,zb0,hst,yp,yy,grd,if_true,ym,hnum,yC,hW,zhJ (yo W),ye,if_false,zd (i:=i) (by omega)];rw[hW]at hr;simpa using hr
    ·have hst':¬(zce tables[i].kind==s)=true:=hst;rw[if_neg hst']at hr|-;simp only[yT]at hst;simp only[zaK.l2,zb hi,ya,zb0,hst,ux,uy,grd,if_true,uf,ye,if_false,zd (i:=i) (by omega)];simpa using hr
  ·simp[zaK.l1]
def zb7 (p:Int->Bool)(i:Nat):Nat->List Int|0=>[]|m+1=>if p (i:Int)=U then(i:Int)::zb7 p (i+1) m else zb7 p (i+1) m
theorem zhq (p):∀(m i),(zb7 p i m).length<=m
 |0,_=>yo _|m+1,i=>by
  simp only[zb7];split;·exact Nat.succ_le_succ (zhq p m (i+1))
  ·exact Nat.le_succ_of_le (zhq p m (i+1))
theorem zjb (p):∀(m i),zb7 p i (m+1)=if p ((i+m:Nat):Int)=U then zb7 p i m++[((i+m:Nat):Int)]else zb7 p i m
 |0,i=>by simp[zb7]|m+1,i=>by
  have a:=zjb p m (i+1);grind[zb7]
def zec (l:List Change)(c:Constraint)(k:Int):Bool:=Z (0<zA l (ztc c.first k))
theorem zdi {n}{a c}{K:Nat}(hK:zto c.size c.size=(K:Int))(h1:a.effect.delta.length<4611686018427387904)(h2:a.effect.delta.length<n)(h3:K<17592186044416)(h4:K<n):zD n a c=O (zb7 (zec a.effect.delta c) 0 K):=by
 have:=zw (body:=zD.l1 n a c) (len:=K) (st:=λi=>(zb7 (zec a.effect.delta c) 0 i,i)) (g:=λ_=>O (zb7 (zec a.effect.delta c) 0 K)) (λe i j b=>?_) (λe=>?_) n 0 (yj _) (by omega);·grind[zD,zb7]
 ·rw[zjb]at b;have h:=zhq (zec a.effect.delta c) i 0;have k:Z (i<zto c.size c.size)=true:=by simp_all
  have f:Go.Proofs.YtipkniadbkndfaaGreatDoor.app 8 (zb7 (zec a.effect.delta c) 0 i) [i]=O (zb7 (zec a.effect.delta c) 0 i++[(i:Int)]):=by unfold Go.Proofs.YtipkniadbkndfaaGreatDoor.app;grind
  simp only[zD.l1,jn,zaj _ h1 h2,zd (i:=i) (by omega)];simp only[uk]at b;by_cases d:zec a.effect.delta c i=U;·rw[if_pos d]at b;unfold zec at d;simp_all
  ·rw[if_neg d]at b;unfold zec at d;grind
 ·grind[zD.l1]
theorem zkx {n}{e c}{K:Nat}(hK:zto c.size c.size=(K:Int))(h1:e.delta.length<4611686018427387904)(h2:e.delta.length<n)(h3:K<17592186044416)(h4:K<n)(hadd:∀k,addP k e.delta 0=zA e.delta k):zbw n e c=O (Z (0<(zb7 (zec e.delta c) 0 K).length)):=by
 have:=zw (body:=zbw.l1 n e c) (len:=K) (st:=λi=>i) (g:=λi=>O (Z (0<(zb7 (zec e.delta c) i (K-i)).length))) (λb i f h=>?_) (λb=>?_) n 0 (yj _) (by omega);·grind[zbw]
 ·have d:Z (i<zto c.size c.size)=true:=by simp_all
  simp only[zbw.l1,zeW _ h1 h2,zd (i:=i) (by omega)];rw[show K-i=K-(i+1)+1 by omega,zb7];by_cases a:zec e.delta c i=U;·rw[if_pos a];unfold zec at a;simp_all
  ·rw[if_neg a];unfold zec at a;grind
 ·have d:Z (K<zto c.size c.size)=false:=by simp_all
  simp[zbw.l1,d,zb7]
structure Good (n:Nat)(m:Model):Prop where
 acts:∀a∈m.zte,a.effect.delta.length<4611686018427387904/\a.effect.delta.length<n/\(∀k,addP k a.effect.delta 0=zA a.effect.delta k)/\∀r∈a.effect.hold,r.ztf.length<4611686018427387904/\r.ztf.length<n
 cons:∀c∈m.constraints,(c.kind=0\/c.kind=1)/\c.row.ztf.length<4611686018427387904/\c.row.ztf.length<n/\∃K:Nat,zto c.size c.size=(K:Int)/\K<17592186044416/\K<n
theorem zhE {f g}(h:∀k,f k=g k):∀(l:List Term)(s:Int),zcF f l s=zcF g l s|[],_=>rfl|t::l,s=>by simp only[zcF,h];exact zhE h l _
theorem zbb {α:Type}{l:List α}{i:Int}{x:α}(h:idx l i=O x):x∈l:=by obtain⟨n,rfl,hn,rfl⟩:=idxS h;exact yi hn
theorem za8 {α:Type}{l:List α}{i:Int}(h0:0<=i)(h1:i<(l.length:Int)):∃x,idx l i=O x:=by obtain⟨n,rfl⟩:=yX h0;exact⟨_,zb (by omega)⟩
def allR (p:Nat->Bool)(i:Nat):Nat->Bool|0=>U|k+1=>p i&&allR p (i+1) k
theorem zjs {p}:∀{k i},allR p i k=U↔∀j,i<=j->j<i+k->p j=U
 |0,i=>by grind[allR]|k+1,i=>by
  simp only[allR,yd,zjs (k:=k) (i:=i+1)];grind
theorem ziW {p k}:allR p 0 k=U↔∀j,j<k->p j=true:=by grind[zjs]
theorem zgl {S R}{body}{len n}{st:Nat->S}(p)(F T:Option R)(hb:∀rec i,i<len->body rec (st i)=if p i=U then rec (st (i+1))else F)(he:∀rec,body rec (st len)=T)(hn:len<n):ztg body n (st 0)=if allR p 0 len=U then T else F:=by
 have:=zw (body:=body) (len:=len) (st:=st) (g:=λi=>if allR p i (len-i)=U then T else F) (λrec i b a=>?_) (λrec=>?_) n 0 (yj _) (by omega);·grind
 ·rw[hb rec i b,show len-i=len-(i+1)+1 by omega,allR,a];grind
 grind[allR]
theorem zd5 {n l f p}(hf:∀x∈l,f x=O (p x))(hl:l.length<1000000)(hn:1000000<=n):zy n l f=O (ixP p l 0):=by
 have:=zw (body:=zy.l1 n l f) (len:=l.length) (st:=λi=>i) (g:=λi=>O (ixP p (l.drop i) i)) (λa i b c=>?_) (λa=>?_) n 0 (yj _) (by omega);·grind[zy]
 ·simp only[zy.l1,zb b,zd (i:=i) (by omega)];grind[zj,ixP]
 ·simp[zy.l1,ixP]
theorem zdH {n l f p}(hf:∀x∈l,f x=O (p x))(hl:l.length<1000000)(hn:1000000<=n):zae n l f=O (l.any p):=by unfold zae;rw[zd5 hf hl hn,ya,zge]
theorem ze3 {n l f p}(hf:∀x∈l,f x=O (p x))(hl:l.length<1000000)(hn:1000000<=n):zm n l f=O (ixP p l 0):=by
 have:=zw (body:=zm.l1 n l f) (len:=l.length) (st:=λi=>i) (g:=λi=>O (ixP p (l.drop i) i)) (λa i b c=>?_) (λa=>?_) n 0 (yj _) (by omega);·grind[zm]
 ·simp only[zm.l1,zb b,zd (i:=i) (by omega)];grind[zj,ixP]
 ·simp[zm.l1,ixP]
theorem zcH {n l f p}(hf:∀x∈l,f x=O (p x))(hl:l.length<1000000)(hn:1000000<=n):zn n l f=O (l.any p):=by unfold zn;rw[ze3 hf hl hn,ya,zge]
theorem zer {n l f p}(hf:∀x∈l,f x=O (p x))(hl:l.length<1000000)(hn:1000000<=n):zF n l f=O (ixP p l 0):=by
 have:=zw (body:=zF.l1 n l f) (len:=l.length) (st:=λi=>i) (g:=λi=>O (ixP p (l.drop i) i)) (λa i b c=>?_) (λa=>?_) n 0 (yj _) (by omega);·grind[zF]
 ·simp only[zF.l1,zb b,zd (i:=i) (by omega)];grind[zj,ixP]
 ·simp[zF.l1,ixP]
theorem zdR {n l f p}(hf:∀x∈l,f x=O (p x))(hl:l.length<1000000)(hn:1000000<=n):zaz n l f=O (l.any p):=by unfold zaz;rw[zer hf hl hn,ya,zge]
def zaV (x most:Int):Bool:=Z (-most<=x)&&Z (x<=most)
theorem around3 {n x}:za5 n x 1000=O (zaV x 1000):=rfl
theorem zxv {n x}:za5 n x 1000000000=O (zaV x 1000000000):=rfl
theorem around4 {n x}:za5 n x 9999=O (zaV x 9999):=rfl
theorem between3 {n x}:zaG n x 1000=O (zaV x 1000):=rfl
theorem zw6 {n x}:zaG n x 1000000000=O (zaV x 1000000000):=rfl
theorem between4 {n x}:zaG n x 9999=O (zaV x 9999):=rfl
def rowP (K:Nat):Int->List Term->Bool|_,[]=>U|last,t::l=>Z (last<t.cell)&&Z (t.cell<(K:Int))&&t.ztl !=0&&zaV t.ztl 1000&&rowP K t.cell l
def zt1 (K:Nat)(r:Row):Bool:=rowP K (-1) r.ztf&&zaV r.bound 1000000000
theorem zd9 {i:Nat}(h0:0<i)(h:i<4611686018427387904):ztn (i:Int) 1=((i-1:Nat):Int):=by grind[ztn,zaf]
theorem zi8 {n}{j}{r}(hl:r.ztf.length<1000000)(hn:1000000<=n):zaJ n j r=O (zt1 j.strict.length r):=by
 have:=zaS (body:=zaJ.l1 n j r) (len:=r.ztf.length) (st:=λs i=>(s,i)) (g:=λi s=>O (rowP j.strict.length s (r.ztf.drop i)&&zaV r.bound 1000000000)) (λ_ _=>True) (λa i s b _ c=>?_) (λa s _=>?_) n 0 (-1) (yj _) (by omega) trivial;·grind[zaJ,zt1]
 ·simp only[zaJ.l1,zb b,around3,grd,zd (i:=i) (by omega)];rw[zj b,rowP];grind
 ·simp[zaJ.l1,zxv,rowP]
theorem zlq {n K:Nat}{r}(hl:r.ztf.length<1000000)(hn:1000000<=n):zcA n r (K:Int)=O (zt1 K r):=by
 have:=zaS (body:=zcA.l1 n r K) (len:=r.ztf.length) (st:=λ_ i=>i) (g:=λi s=>O (rowP K s (r.ztf.drop i)&&zaV r.bound 1000000000)) (λi s=>-1<=s/\(i=0/\s=-1\/0<i/\∃x,idx r.ztf (ztn i 1)=O x/\x.cell=s)) (λb i s c e d=>?_) (λb s _=>?_) n 0 (-1) (yj _) (by omega) ⟨by omega,.inl ⟨rfl,rfl⟩⟩;·grind[zcA,zt1]
 ·have a:(Z (0<i)&&Z (r.ztf[i].cell<=((idx r.ztf (ztn i 1)).getD J).cell))=(Z (0<i)&&Z (r.ztf[i].cell<=s))/\(! Z (0<(i:Int))||(idx r.ztf (ztn i 1)).isSome)=true:=by grind
  simp only[zcA.l1,zC c,if_true,zb c,ya,between3,yp,yy,grd,a.2,zd (i:=i) (by omega)];rw[zj c,rowP];by_cases h:(Z (s<r.ztf[i].cell)&&Z (r.ztf[i].cell<K)&&r.ztf[i].ztl !=0&&zaV r.ztf[i].ztl 1000)=U;·rw[h,yC];simp only[yd,yg]at h;rw[if_neg (by grind),d r.ztf[i].cell ⟨by omega,.inr ⟨by omega,r.ztf[i],by grind[zd9,zb],rfl⟩⟩]
  grind
 ·simp[zcA.l1,zw6,rowP]
def zhL (ztj:List Int)(c:Constraint)(t:Table):Bool:=t.kind==0&&(t.ztd.length:Int)==2&&((idx t.ztd 0).getD J==(idx t.ztd 1).getD J&&t.first==c.first&&(idx ztj ((idx t.ztd 0).getD J)).getD J==c.size)
def zg1 (m:Model)(c:Constraint):Bool:=(c.row.ztf.length:Int)==0&&c.row.bound==0&&m.tables.any (zhL m.ztj c)
theorem ziz {ztj}{t:Table}(hc:t.ztd.all (zt4 ztj)=U)(h2:(t.ztd.length:Int)=2):(∃x,idx t.ztd 0=O x)/\(∃x,idx t.ztd 1=O x)/\∃x,idx ztj ((idx t.ztd 0).getD J)=O x:=by
 obtain⟨x,b⟩:=za8 (l:=t.ztd) (i:=0) (by omega) (by omega);obtain⟨y,a⟩:=za8 (l:=t.ztd) (i:=1) (by omega) (by omega);grind[zfK,zbb]
theorem zpj {n}{j}{c t}(hc:t.ztd.all (zt4 j.model.ztj)=U):zbL n t c j=O (zhL j.model.ztj c t):=by
 unfold zbL zhL;by_cases b:(t.kind==0&&(t.ztd.length:Int)==2)=U
 ·have a:=b;simp only[yd,beq_iff_eq]at a;obtain⟨⟨x,e⟩,⟨y,f⟩,z,d⟩:=ziz hc a.2;grind[grd]
 ·grind[grd]
theorem zkS {n}{j}{c}(hc:∀t∈j.model.tables,t.ztd.all (zt4 j.model.ztj)=U)(hl:j.model.tables.length<1000000)(hn:1000000<=n):zcm n j c=O (zg1 j.model c):=by unfold zcm zg1;rw[zdH (p:=zhL j.model.ztj c) (λt a=>zpj (hc t a)) hl hn];simp[grd]
theorem znb {n m c}(hc:∀t∈m.tables,t.ztd.all (zt4 m.ztj)=U)(hl:m.tables.length<1000000)(hn:1000000<=n):zb8 n m c=O (zg1 m c):=by
 unfold zb8 zg1;by_cases h:((c.row.ztf.length:Int)==0&&c.row.bound==0)=U
 ·rw[h,yC];simp only[yd,beq_iff_eq]at h;rw[if_neg (by grind)];have:=zw (body:=zb8.l1 n m c) (len:=m.tables.length) (st:=λi=>(i:Int)) (g:=λi=>O ((m.tables.drop i).any (zhL m.ztj c))) (λrec i hi hr=>?_) (λrec=>?_) n 0 (yj _) (by omega);·grind
  ·simp only[zb8.l1,zC hi,if_true,zb hi,ya,zd (i:=i) (by omega),hr];rw[zj hi,List.any_cons];have hcol:=hc _ (yi hi);by_cases h2:(m.tables[i].kind==0&&(m.tables[i].ztd.length:Int)==2)=U
   ·have h2':=h2;simp only[yd,beq_iff_eq]at h2';obtain⟨⟨x,hx⟩,⟨y,hy⟩,z,hz⟩:=ziz hcol h2'.2;rw[hx]at hz;simp only[ym]at hz;simp only[h2,hx,hy,hz,grd,yp,yy,if_true,ym,yC,zhL];grind
   ·simp only[yT]at h2;simp[h2,grd,zhL]
  ·simp[zb8.l1]
 grind
theorem zms {n a b}(hl:a.length<1000000)(hn:1000000<=n):zU n a b=O (Z (a=b)):=by
 unfold zU;by_cases h:a.length=b.length
 ·have:=zw (body:=zU.l1 n a b) (len:=a.length) (st:=λi=>i) (g:=λi=>O (Z (a.drop i=b.drop i))) (λd i f j=>?_) (λd=>?_) n 0 (yj _) (by omega);·grind
  ·have c:i<b.length:=by omega
   simp only[zU.l1,zC f,if_true,zb f,zb c,ya,zd (i:=i) (by omega),j];rw[zj f,zj c];by_cases e:a[i]=b[i];·simp only[e,decide_true,ul,ye,if_false,wM,true_and]
   ·simp only[e,decide_false,ux,if_true,wM,false_and]
  grind[zU.l1]
 ·have:¬a=b:=λe=>h (by rw[e]);grind
theorem zmw {n a b}(hl:a.length<1000000)(hn:1000000<=n):za1 n a b=O (Z (a=b)):=by
 unfold za1;by_cases h:a.length=b.length
 ·have:=zw (body:=za1.l1 n a b) (len:=a.length) (st:=λi=>i) (g:=λi=>O (Z (a.drop i=b.drop i))) (λd i f j=>?_) (λd=>?_) n 0 (yj _) (by omega);·grind
  ·have c:i<b.length:=by omega
   simp only[za1.l1,zC f,if_true,zb f,zb c,ya,zd (i:=i) (by omega),j];rw[zj f,zj c];by_cases e:a[i]=b[i];·simp only[e,decide_true,ul,ye,if_false,wM,true_and]
   ·simp only[e,decide_false,ux,if_true,wM,false_and]
  grind[za1.l1]
 ·have:¬a=b:=λe=>h (by rw[e]);grind
theorem zqC {n r c f b}(hl:r.ztf.length<1000000)(hn:1000000<=n):zd0 n r c f b=O (Z (r=(⟨[⟨c,f⟩],b⟩:Row))):=by unfold zd0;rw[zms hl hn,ya];congr 1;rw[wb];cases r;simp
theorem zk4 {n a b}(hl:a.ztf.length<1000000)(hn:1000000<=n):zc0 n a b=O (Z (a=b)):=by
 unfold zc0;rw[zmw hl hn];simp only[yp,yy,grd,if_true];congr 1;cases a;cases b;grind
structure ztW (m:Model):Prop where
 ztj:m.ztj.length<=8
 tables:m.tables.length<=6
 tab:∀t∈m.tables,t.name.length<=40/\t.ztd.length<=12
 ztq:m.ztq.length<=20
 fam:∀s∈m.ztq,s.length<=40
 constraints:m.constraints.length<=60
 con:∀c∈m.constraints,c.row.ztf.length<=20
 zth:m.zth.length<=8
 op:∀o∈m.zth,o.name.length<=40/\o.ztj.length<=6
 zte:m.zte.length<=30
 act:∀a∈m.zte,a.arguments.length<=6/\a.effect.delta.length<=20/\a.effect.hold.length<=10/\a.effect.ztm.length<=40/\∀r∈a.effect.hold,r.ztf.length<=20
 zts:m.zts.length<=12
def zdO (l:List Range)(i:Nat):Row:=⟨[⟨((i/2:Nat):Int),if i%2=0 then-1 else 1⟩],if i%2=0 then ztU ((idx l ((i/2:Nat):Int)).getD J).lo else((idx l ((i/2:Nat):Int)).getD J).hi⟩
def famP (m:Model)(c:Constraint):Bool:=Z (0<=c.family)&&Z (c.family<(m.ztq.length:Int))
def zeU (K:Nat)(c:Constraint):Bool:=c.kind==0&&c.first==0&&c.size==0&&zt1 K c.row
def acyP (m:Model)(c:Constraint):Bool:=c.kind==1&&zg1 m c
def conP (m:Model)(l:List Range)(i:Nat)(c:Constraint):Bool:=famP m c&&(zeU l.length c||acyP m c)&&(!decide (i/2<l.length)||c.kind==0&&Z (c.row=zdO l i))
def zwH (m:Model)(l:List Range):Bool:=Z (m.constraints.length<=512)&&Z (2*l.length<=m.constraints.length)&&allR (λi=>conP m l i ((idx m.constraints (i:Int)).getD J)) 0 m.constraints.length
theorem quo2 {i:Nat}(h:i<1000000):zul (i:Int) 2=O ((i/2:Nat):Int):=by unfold zul;rw[if_neg (by decide),Int.tdiv_eq_ediv_of_nonneg (by omega),zaf (by omega) (by omega)];congr 1
theorem rem2 {i:Nat}:zuo (i:Int) 2=O ((i%2:Nat):Int):=by
 unfold zuo;grind
theorem mul2 {i:Nat}(h:i<1000000):zto 2 (i:Int)=((2*i:Nat):Int):=by grind[zto,zaf]
theorem zgT {n}{m}{l}(hS:ztW m)(hc:∀t∈m.tables,t.ztd.all (zt4 m.ztj)=U)(hK:l.length<100000)(hn:1000000<=n):zac n ⟨m,l⟩=O (zwH m l):=by
 have hcl:=hS.constraints;have htl:=hS.tables;unfold zac zwH;simp only[mul2 (show l.length<1000000 by omega)];by_cases h0:(Z (m.constraints.length<=512)&&Z (2*l.length<=m.constraints.length))=U
 ·rw[h0,yC];simp only[yd,yg]at h0;rw[if_neg (by grind)];have:=zgl (body:=zac.l1 n ⟨m,l⟩) (len:=m.constraints.length) (n:=n) (st:=λi=>(i:Int)) (λi=>conP m l i ((idx m.constraints (i:Int)).getD J)) (O M) (O U) (λrec i hi=>?_) (λrec=>?_) (by omega);·grind
  ·have hterms:=hS.con _ (yi hi);simp only[zac.l1,jn,zC hi,if_true,zb hi,ya,zaC,ym,zi8 (j:=⟨m,l⟩) (r:=m.constraints[i].row) (show m.constraints[i].row.ztf.length<1000000 by omega) hn,zkS (j:=⟨m,l⟩) (c:=m.constraints[i]) hc (show m.tables.length<1000000 by omega) hn,yp,yy,grd,quo2 (show i<1000000 by omega),rem2,zqC (r:=m.constraints[i].row) (show m.constraints[i].row.ztf.length<1000000 by omega) hn,zd (i:=i) (by omega)];have hfam:(Z (0<=m.constraints[i].family)&&Z (m.constraints[i].family<(m.ztq.length:Int)))=famP m m.constraints[i]:=rfl;rw[hfam];cases hf:famP m m.constraints[i]with
   |false=>grind[conP]|true=>
    simp only[ul,ye,if_false];have hrest:∀(X:Bool),X=(zeU l.length m.constraints[i]||acyP m m.constraints[i])->(if X=U then if Z (((i/2:Nat):Int)<(l.length:Int))=U then(idx l ((i/2:Nat):Int)).bind λx81=>if(((i%2:Nat):Int)==0)=U then if(m.constraints[i].kind !=0||!decide (m.constraints[i].row=(⟨[⟨((i/2:Nat):Int),-1⟩],ztU x81.lo⟩:Row)))=U then O M else rec ((i+1:Nat):Int)else if(m.constraints[i].kind !=0||!decide (m.constraints[i].row=(⟨[⟨((i/2:Nat):Int),1⟩],x81.hi⟩:Row)))=U then O M else rec ((i+1:Nat):Int)else rec ((i+1:Nat):Int)else O M)=if conP m l i m.constraints[i]=U then rec ((i+1:Nat):Int)else O false:=by intro X hX;unfold conP;rw[hf,<-hX];cases X with
     |false=>simp|true=>
      simp only[if_true,yC];by_cases hlt:i/2<l.length
      ·rw[if_pos (zkf hlt),zb hlt,ya];simp only[hlt,decide_true,ul,uI,zdO,zb hlt,ym];grind
      grind
    by_cases hk:m.constraints[i].kind=0;·rw[if_pos (by simp[hk])];grind[zeU,acyP,zt1,bne]
    ·rw[if_neg (by simp[hk])];have hX:(zeU l.length m.constraints[i]||acyP m m.constraints[i])=(m.constraints[i].kind==1&&zg1 m m.constraints[i]):=by simp[zeU,acyP,hk]
     rw[<-hrest _ hX.symm];cases h1:m.constraints[i].kind==1<;>cases h3:zg1 m m.constraints[i]<;>simp[bne,h1]
  ·simp[zac.l1]
 grind
theorem zpJ {m l}(h2:2*l.length<=m.constraints.length):allR (λi=>conP m l i ((idx m.constraints (i:Int)).getD J)) 0 m.constraints.length=(allR (λi=>Z (((idx m.constraints ((2*i:Nat):Int)).getD J).row=zdO l (2*i))&&Z (((idx m.constraints ((2*i+1:Nat):Int)).getD J).row=zdO l (2*i+1))) 0 l.length&&allR (λi=>famP m ((idx m.constraints (i:Int)).getD J)&&(zeU l.length ((idx m.constraints (i:Int)).getD J)||Z (2*l.length<=i)&&acyP m ((idx m.constraints (i:Int)).getD J))) 0 m.constraints.length):=by
 rw[wb,yd,ziW,ziW,ziW];constructor
 ·intro h;refine⟨λj hj=>?_,λi hi=>?_⟩
  ·have ha:=h (2*j) (by omega);have hb:=h (2*j+1) (by omega);simp only[conP,yd,yF,yB,yH,yg]at ha hb|-;grind
  ·have ha:=h i hi;simp only[conP,yd,yF,yB,yH,yg]at ha|-;refine⟨ha.1.1,?_⟩;rcases ha.1.2 with e|e;·grind
   ·refine .inr ⟨?_,e⟩;rcases ha.2 with f|f;·omega
    ·simp only[acyP,yd,beq_iff_eq]at e;grind
 ·rintro⟨ha,hb⟩i hi;have hb:=hb i hi;simp only[conP,yd,yF,yB,yH,yg]at hb|-;refine⟨⟨hb.1,hb.2.imp id (·.2)⟩,?_⟩;by_cases hlt:i/2<l.length
  ·right;have ha:=ha (i/2) hlt;simp only[yd,yg]at ha;rcases hb.2 with e|e
   ·refine⟨?_,?_⟩;·simp only[zeU,yd]at e;exact e.1.1.1
    ·by_cases hm:i%2=0
     ·have:=ha.1;rwa[show 2*(i/2)=i by omega]at this
     ·have:=ha.2;rwa[show 2*(i/2)+1=i by omega]at this
   ·omega
  ·exact .inl hlt
theorem zgU {n}{m}(hS:ztW m)(hL:zbt m.ztj m.tables=U)(hn:1000000<=n):zW n m=O (zwH m (zY m.ztj U m.tables)):=by
 have hcl:=hS.constraints;have htl:=hS.tables;have hsl:=hS.ztj;obtain⟨l1,l2,l3,l4⟩:=zb5 hL;have hlen:=zdM (sizes:=m.ztj) (s:=U) (l:=m.tables) λx hx=>(l4 x hx).2.2.2.2;unfold zW zcr zwH;rw[zeA hn (by omega) (by omega) λt ht=>by have:=hS.tab t ht;omega,hL,if_pos rfl];generalize zY m.ztj U m.tables=l at hlen;simp only[ya,mul2 (show l.length<1000000 by omega)];by_cases h0:(Z (m.constraints.length<=512)&&Z (2*l.length<=m.constraints.length))=U
 ·rw[h0,yC];simp only[yd,yg]at h0;rw[if_neg (by grind),zpJ h0.2];have first:=zgl (body:=zW.l1 n m l) (len:=l.length) (n:=n) (st:=λi=>(i:Int)) (λi=>Z (((idx m.constraints ((2*i:Nat):Int)).getD J).row=zdO l (2*i))&&Z (((idx m.constraints ((2*i+1:Nat):Int)).getD J).row=zdO l (2*i+1))) (O M) (ztg (zW.l2 n m l) n 0) (λrec i hi=>?_) (λrec=>?_) (by omega)
  ·simp only[wd]at first;rw[first];have second:=zgl (body:=zW.l2 n m l) (len:=m.constraints.length) (n:=n) (st:=λi=>(i:Int)) (λi=>famP m ((idx m.constraints (i:Int)).getD J)&&(zeU l.length ((idx m.constraints (i:Int)).getD J)||Z (2*l.length<=i)&&acyP m ((idx m.constraints (i:Int)).getD J))) (O M) (O U) (λrec i hi=>?_) (λrec=>?_) (by omega);·grind
   ·have hterms:=hS.con _ (yi hi);have hd:Z (zto 2 (l.length:Int)<=(i:Int))=Z (2*l.length<=i):=by rw[mul2 (by omega)];exact decide_eq_decide.2 (by omega)
    simp only[zW.l2,zC hi,if_true,zb hi,ya,ym,zlq (r:=m.constraints[i].row) (show m.constraints[i].row.ztf.length<1000000 by omega) hn,znb (m:=m) (c:=m.constraints[i]) (λt ht=>(l4 t ht).2.2.2.1) (show m.tables.length<1000000 by omega) hn,yp,yy,grd,zd (i:=i) (by omega),hd];have hfam:(Z (m.constraints[i].family<0)||decide ((m.ztq.length:Int)<=m.constraints[i].family))=!famP m m.constraints[i]:=by
     unfold famP;rw[Bool.not_and,<-decide_not,<-decide_not];congr 1;·exact decide_eq_decide.2 (by omega)
     ·exact decide_eq_decide.2 (by omega)
    rw[hfam];cases famP m m.constraints[i]with
    |false=>simp|true=>have hp:(m.constraints[i].kind==0&&m.constraints[i].first==0&&m.constraints[i].size==0&&zt1 l.length m.constraints[i].row)=zeU l.length m.constraints[i]:=rfl;rw[hp];unfold acyP;cases zeU l.length m.constraints[i]<;>cases Z (2*l.length<=i)<;>cases m.constraints[i].kind==1<;>cases zg1 m m.constraints[i]<;>simp
   ·simp[zW.l2]
  ·have h2i:2*i<m.constraints.length:=by omega
   have h2j:2*i+1<m.constraints.length:=by omega
   have t1:=hS.con _ (yi h2i);have t2:=hS.con _ (yi h2j);have e1:zdO l (2*i)=⟨[⟨(i:Int),-1⟩],ztU l[i].lo⟩:=by unfold zdO;rw[show 2*i/2=i by omega,if_pos (by omega),if_pos (by omega),zb hi];rfl
   have e2:zdO l (2*i+1)=⟨[⟨(i:Int),1⟩],l[i].hi⟩:=by unfold zdO;rw[show(2*i+1)/2=i by omega,if_neg (by omega),if_neg (by omega),zb hi];rfl
   have hadd:ztc ((2*i:Nat):Int) 1=((2*i+1:Nat):Int):=zd (by omega);simp only[zW.l1,zC hi,if_true,zb hi,mul2 (show i<1000000 by omega),zb h2i,hadd,zb h2j,ya,ym,zk4 (show m.constraints[2*i].row.ztf.length<1000000 by omega) hn,zk4 (show m.constraints[2*i+1].row.ztf.length<1000000 by omega) hn,yp,yy,grd,zd (i:=i) (by omega),e1,e2];cases Z (m.constraints[2*i].row=⟨[⟨(i:Int),-1⟩],ztU l[i].lo⟩)<;>cases Z (m.constraints[2*i+1].row=⟨[⟨(i:Int),1⟩],l[i].hi⟩)<;>simp
  ·simp[zW.l1]
 grind
theorem zav {α S R:Type}{body}{l:List α}{n}{st:Nat->S}(p)(F T:Option R)(hb:∀rec i(hi),body rec (st i)=if p l[i]=U then rec (st (i+1))else F)(he:∀rec,body rec (st l.length)=T)(hn:l.length<n):ztg body n (st 0)=if l.all p=U then T else F:=by
 have:=zw (body:=body) (len:=l.length) (st:=st) (g:=λi=>if(l.drop i).all p=U then T else F) (λrec i hi a=>?_) (λrec=>?_) n 0 (yj _) (by omega);·grind
 ·grind[zj]
 grind
def zc2 (sizes:List Int)(c:Int):Int:=sizes.getD c.toNat 0
def digR (sizes:List Int):List Int->Int->List Int|[],_=>[]|c::l,k=>k.tmod (zc2 sizes c)::digR sizes l (w64 (k.tdiv (zc2 sizes c)))
def zoZ (sizes cols:List Int)(k:Int):List Int:=(digR sizes cols.reverse k).reverse
theorem zia {sizes}(hs:sizes.all zcI=U){c}(hc:zt4 sizes c=U):1<=zc2 sizes c/\zc2 sizes c<=6:=by
 simp only[zt4,yd,yg]at hc;obtain⟨k,rfl⟩:=yX hc.1;have b:k<sizes.length:=by omega
 have a:=yq.1 hs _ (yi b);simp only[zcI]at a;grind[zc2]
theorem zqE {r}{done}{x:Int}:sto (xA (r+1) 0++done) (r:Int) x=O (xA r 0++x::done):=by
 unfold sto;rw[if_pos (by grind)];grind[Int.toNat_natCast,uR]
theorem zpZ {r}{done:List Int}:∃x,idx (xA (r+1) 0++done) (r:Int)=O x:=⟨_,zb (by grind)⟩
theorem zoY {α:Type}{l:List α}{r}(h):(l.take (r+1)).reverse=l[r]::(l.take r).reverse:=by simp_all
theorem zi1 {n}{sizes}{t}{i}(hs:sizes.all zcI=U)(hc:t.ztd.all (zt4 sizes)=U)(hl:t.ztd.length<1000000):∀(m r)(done)(k),r<m->r<=t.ztd.length->ztg (za4.l2 n sizes i t) m (xA r 0++done,k,(r:Int)-1)=O (i,(digR sizes (t.ztd.take r).reverse k).reverse++done,U)
 |0,_,_,_,h,_=>by omega|m+1,0,done,k,_,_=>by simp[ztg,za4.l2,digR]|m+1,r+1,done,k,h,o=>by
  have d:=by omega
  have a:=yq.1 hc _ (yi d);have j:=zia hs a;have e:(r+1:Nat)-1=(r:Int):=by omega
  obtain⟨x,p⟩:=zpZ (r:=r) (done:=done);have b:zuo k (zc2 sizes t.ztd[r])=O (k.tmod (zc2 sizes t.ztd[r])):=by unfold zuo;grind
  have c:zul k (zc2 sizes t.ztd[r])=O (w64 (k.tdiv (zc2 sizes t.ztd[r]))):=by unfold zul;grind
  have g:=zfK a;have f:ztn r 1=r-1:=by grind[ztn,zaf]
  have l:Z (0<=r)=true:=by simp
  unfold zc2 at b c;simp only[ztg,za4.l2,e,zb d,g,b,c,zqE,ya,f];rw[zi1 hs hc hl m r _ _ (by omega) (by omega),zoY d];grind[digR,zc2]
theorem zlo {n}{sizes cols}(hs:sizes.all zcI=U)(hc:cols.all (zt4 sizes)=U)(hl:cols.length<1000000):∀(m r)(done)(k),r<m->r<=cols.length->ztg (zdz.l1 n sizes cols) m (xA r 0++done,k,(r:Int)-1)=O ((digR sizes (cols.take r).reverse k).reverse++done)
 |0,_,_,_,h,_=>by omega|m+1,0,done,k,_,_=>by simp[ztg,zdz.l1,digR]|m+1,r+1,done,k,h,l=>by
  have d:=by omega
  have a:=yq.1 hc _ (yi d);have i:=zia hs a;have e:(r+1:Nat)-1=(r:Int):=by omega
  obtain⟨x,o⟩:=zpZ (r:=r) (done:=done);have b:zuo k (zc2 sizes cols[r])=O (k.tmod (zc2 sizes cols[r])):=by unfold zuo;grind
  have c:zul k (zc2 sizes cols[r])=O (w64 (k.tdiv (zc2 sizes cols[r]))):=by unfold zul;grind
  have g:=zfK a;have f:ztn r 1=r-1:=by grind[ztn,zaf]
  have j:Z (0<=r)=true:=by simp
  unfold zc2 at b c;simp only[ztg,zdz.l1,e,zb d,g,b,c,zqE,ya,f];rw[zlo hs hc hl m r _ _ (by omega) (by omega),zoY d];grind[digR,zc2]
theorem mkl_0 {b k:Nat}(h:k*b<=140737488355328):mkl b (k:Int) (0:Int)=O (xA k 0):=by unfold mkl;grind
theorem znp {k:Nat}(h:k<1000000):ztn (k:Int) 1=(k:Int)-1:=by grind[ztn,zaf]
theorem zm1 {n}{sizes cols}{k}(hs:sizes.all zcI=U)(hc:cols.all (zt4 sizes)=U)(hl:cols.length<=1000)(hn:1000000<=n):zdz n sizes cols k=O (zoZ sizes cols k):=by
 unfold zdz;rw[mkl_0 (by omega),ya,znp (by omega)];have:=zlo (n:=n) hs hc (by omega) n cols.length [] k (by omega) (yo _);grind[zoZ]
def hitP (sizes:List Int)(s:Bool)(cell:Int)(t:Table):Bool:=zce t.kind==s&&(Z (0<=ztn cell t.first)&&Z (ztn cell t.first<zau sizes t.ztd 1))
def resT (sizes:List Int)(s:Bool)(cell:Int):List Table->Nat->Int×List Int×Bool|[],_=>(0,[],M)|t::l,i=>if hitP sizes s cell t=U then((i:Int),zoZ sizes t.ztd (ztn cell t.first),U)else resT sizes s cell l (i+1)
def zvG (sizes:List Int)(tables:List Table)(s:Bool)(cell:Int):Int×List Int×Bool:=if(zbt sizes tables&&Z (0<=cell))=U then resT sizes s cell tables 0 else(0,[],M)
theorem zkM {n}{sizes}{tables}{s}{cell}(hF:Fuel n)(hs:sizes.length<=1000)(ht:tables.length<=1000)(hc:∀t∈tables,t.ztd.length<=1000):za4 n sizes tables s cell=O (zvG sizes tables s cell):=by have hn:=hF.big;unfold za4 zvG;rw[ze4 hF hs ht hc,ya];cases hL:zbt sizes tables with
 |false=>simp|true=>
  obtain⟨l1,l2,l3,l4⟩:=zb5 hL;by_cases h0:0<=cell
  ·have:=zw (body:=za4.l1 n sizes tables s cell) (len:=tables.length) (st:=λi=>i) (g:=λi=>O (resT sizes s cell (tables.drop i) i)) (λrec i hi hr=>?_) (λrec=>?_) n 0 (yj _) (by omega);·grind
   ·obtain⟨-,-,c1,c2,c3,c4⟩:=l4 _ (yi hi);simp only[za4.l1,zC hi,zb hi,ya,zb3,ze5 c2 (show tables[i].ztd.length<4611686018427387904 by omega) (show tables[i].ztd.length<n by omega),grd,zd (i:=i) (by omega),mkl_0 (b:=8) (k:=tables[i].ztd.length) (by omega),uA,znp (show tables[i].ztd.length<1000000 by omega)];have hdig:=zi1 (n:=n) (i:=(i:Int)) l3 c2 (by omega) n tables[i].ztd.length [] (ztn cell tables[i].first) (by omega) (yo _);simp only[uc,wn]at hdig;rw[hdig,zj hi,resT];have hh:((tables[i].kind==0||tables[i].kind==1)!=s||decide (ztn cell tables[i].first<0)||decide (zau sizes tables[i].ztd 1<=ztn cell tables[i].first))=!hitP sizes s cell tables[i]:=by
     unfold hitP zce;grind
    grind[hitP,zoZ]
   ·simp[za4.l1,resT]
  grind
theorem zkV {n}{sizes}{tables}{s}{cell}(hn:1000000<=n)(hs:sizes.length<=1000)(ht:tables.length<=1000)(hc:∀t∈tables,t.ztd.length<=1000/\t.name.length<=4096):zcx n sizes tables s cell=O (zvG sizes tables s cell):=by unfold zcx zvG;rw[ze9 hn hs ht hc,ya];cases d:zbt sizes tables with
 |false=>simp|true=>
  obtain⟨m,j,e,f⟩:=zb5 d;have:=zw (body:=zcx.l1 n sizes tables s cell) (len:=tables.length) (st:=λi=>i) (g:=λi=>O (if Z (0<=cell)=U then resT sizes s cell (tables.drop i) i else(0,[],M))) (λa i b k=>?_) (λa=>?_) n 0 (yj _) (by omega);·grind
  ·obtain⟨-,-,l,h,o,p⟩:=f _ (yi b);have c:=zeB (n:=n) (sizes:=sizes) (cols:=tables[i].ztd) (by omega) (by omega) (by omega) (by omega);simp only[zcx.l1,zb b,ya,zb0,grd,zd (i:=i) (by omega),zm1 e h (show tables[i].ztd.length<=1000 by omega) hn];rw[zj b,resT];unfold hitP zce;grind
  ·simp[zcx.l1,resT]
theorem zqo {sizes}{s}{cell}:∀(l)(i),(resT sizes s cell l i).2.2=U->∃k:Nat,(resT sizes s cell l i).1=(k:Int)/\i<=k/\k<i+l.length
 |[],_,h=>by grind[resT]|t::l,i,h=>by
  rw[resT]at h|-;split at h;·grind
  ·rename_i b;obtain⟨k,e,c,a⟩:=zqo l (i+1) h;grind
theorem zmG {sizes}{tables}{s}{cell}(h:(zvG sizes tables s cell).2.2=U):∃t,idx tables (zvG sizes tables s cell).1=O t:=by
 unfold zvG at h|-;split at h;·rename_i a;rw[if_pos a];obtain⟨k,e,-,b⟩:=zqo tables 0 h;rw[e];exact⟨_,zb (by omega)⟩
 grind
theorem zpE {sizes}{tables}{s}{cell}(h:cell<0):(zvG sizes tables s cell).2.2=false:=by
 unfold zvG;grind
def updT (t:Table)(u:zuJ):Bool:=if(t.kind==2||t.kind==3)=U then(u.kind==0||u.kind==1)&&u.value==0 else u.kind==2&&Z (t.range.lo<=u.value)&&Z (u.value<=t.range.hi)
def updP (m:Model)(u:zuJ):Bool:=(zvG m.ztj m.tables M u.cell).2.2&&updT ((idx m.tables (zvG m.ztj m.tables M u.cell).1).getD J) u
def zvv (m:Model):Int->List zuJ->Bool|_,[]=>U|last,u::l=>Z (last<u.cell)&&updP m u&&zvv m u.cell l
theorem zkl {n}{m}{l}{u}(hF:Fuel n)(hS:ztW m):zbZ n ⟨m,l⟩ u=O (updP m u):=by unfold zbZ updP;have c:=hS.ztj;have b:=hS.tables;simp only[];rw[zkM hF (by omega) (by omega) λt h=>by have:=hS.tab t h;omega,ya];cases a:(zvG m.ztj m.tables M u.cell).2.2 with
 |false=>simp|true=>
  obtain⟨t,b⟩:=zmG a;simp only[jn,updT];grind
def opP (m:Model)(o:ztQ):Bool:=Z (o.ztj.length<=3)&&o.ztj.all λs=>Z (-1<=s)&&Z (s<(m.ztj.length:Int))
def opsP (m:Model):Bool:=m.zth.all (opP m)&&(Z (m.zth.length<=8)&&zvb [] (m.zth.map (·.name)))
theorem zeg {α β:Type}{f:α->β}{l:List α}{i}(hi):(l.take i).map f++[f l[i]]=(l.take (i+1)).map f:=by grind[wi]
theorem zhl {n}{m}{l}(hF:Fuel n)(hS:ztW m):zO n ⟨m,l⟩=O (opsP m):=by
 have hn:=hF.big;have hol:=hS.zth;unfold zO opsP;have:=zav (body:=zO.l1 n ⟨m,l⟩) (l:=m.zth) (n:=n) (st:=λi=>((m.zth.take i).map (·.name),(i:Int))) (opP m) (O M) (O (Z (m.zth.length<=8)&&zvb [] (m.zth.map (·.name)))) (λrec i hi=>?_) (λrec=>?_) (by omega);·grind
 ·have hop:=hS.op _ (yi hi);simp only[zO.l1,zb hi,ya];rw[zl (by grind),ya,zcg (p:=λs=>!(Z (-1<=s)&&Z (s<(m.ztj.length:Int)))) (λx _=>by
   simp only[zby,Bool.not_and,<-decide_not];grind) (by omega) (by omega)];simp only[grd,zd (i:=i) (by omega),zeg hi];have h3:Z (3<(m.zth[i].ztj.length:Int))=!decide (m.zth[i].ztj.length<=3):=by grind
  grind[opP]
 ·simp only[zO.l1,ye,if_false,wn];rw[zfm hF (by grind)];simp only[yp,yy,grd,if_true,ym,yK,yn];grind
def zgZ (K:Nat):Int->List Change->Bool|_,[]=>U|last,d::l=>Z (last<d.cell)&&Z (d.cell<(K:Int))&&d.add !=0&&zaV d.add 1000000000&&zgZ K d.cell l
def effP (m:Model)(K:Nat)(x:ztE):Bool:=zgZ K (-1) x.delta&&(zvv m (-1) x.ztm&&(Z (x.hold.length<=8)&&Z (x.ztm.length<=32)&&x.hold.all (zt1 K)))
theorem zkj {n m l x}(hF:Fuel n)(hS:ztW m)(h1:x.delta.length<=1000)(h2:x.ztm.length<=1000)(h3:x.hold.length<=1000)(h4:∀r∈x.hold,r.ztf.length<=1000):zS n ⟨m,l⟩ x=O (effP m l.length x):=by
 have hn:=hF.big;have T:ztg (zS.l2 n ⟨m,l⟩ x) n (-1,0)=O (zvv m (-1) x.ztm&&(Z (x.hold.length<=8)&&Z (x.ztm.length<=32)&&x.hold.all (zt1 l.length))):=by
  have:=zaS (body:=zS.l2 n ⟨m,l⟩ x) (len:=x.ztm.length) (st:=λ(s:Int)i=>(s,(i:Int))) (g:=λi s=>O (zvv m s (x.ztm.drop i)&&(Z (x.hold.length<=8)&&Z (x.ztm.length<=32)&&x.hold.all (zt1 l.length)))) (λ_ _=>True) (λrec i s hi _ hr=>?_) (λrec s _=>?_) n 0 (-1) (yj _) (by omega) trivial;·simpa using this
  ·simp only[zS.l2,zC hi,if_true,zb hi,ya,zkl hF hS,yp,yy,grd,ym,zd (i:=i) (by omega),hr x.ztm[i].cell trivial];rw[zj hi,zvv];by_cases hlt:s<x.ztm[i].cell
   ·have hd:Z (x.ztm[i].cell<=s)=false:=by simp;omega
    rw[hd];cases updP m x.ztm[i]<;>simp[hlt]
   ·have hd:Z (x.ztm[i].cell<=s)=true:=by simp;omega
    rw[hd];simp[hlt]
  ·have hc:zn n x.hold (λq0=>zbD n q0 ⟨m,l⟩)=O (x.hold.any λr=>!zt1 l.length r):=zcH (λr hr=>by unfold zbD;rw[zi8 (by have:=h4 r hr;omega) (by omega)];rfl) (by omega) (by omega);simp only[zS.l2,zan,ye,if_false,hc,yp,yy,grd,if_true,ym,znE,xN,zvv,yC,yn];congr 2;·exact decide_eq_decide.2 (by omega)
   ·exact decide_eq_decide.2 (by omega)
 have:=zaS (body:=zS.l1 n ⟨m,l⟩ x) (len:=x.delta.length) (st:=λ(s:Int)i=>(s,(i:Int))) (g:=λi s=>O (zgZ l.length s (x.delta.drop i)&&(zvv m (-1) x.ztm&&(Z (x.hold.length<=8)&&Z (x.ztm.length<=32)&&x.hold.all (zt1 l.length))))) (λ_ _=>True) (λrec i s hi _ hr=>?_) (λrec s _=>?_) n 0 (-1) (yj _) (by omega) trivial;·simpa[zS,effP]using this
 ·simp only[zS.l1,zC hi,if_true,zb hi,ya,zxv,yp,yy,grd,ym,zd (i:=i) (by omega),hr x.delta[i].cell trivial];rw[zj hi,zgZ];by_cases h:(Z (s<x.delta[i].cell)&&Z (x.delta[i].cell<(l.length:Int))&&x.delta[i].add !=0&&zaV x.delta[i].add 1000000000)=U;·rw[h,yC];simp only[yd,yg,bne_iff_ne]at h;rw[if_neg (by simp[h.2,h.1.2];omega)]
  ·rw[if_pos (by
    simp only[yd,yg,bne_iff_ne,ne_eq]at h;simp only[yF,yg,beq_iff_eq,yB,<-yT];by_cases ha:zaV x.delta[i].add 1000000000=U;·left;simp only[ha,and_true]at h;omega
    ·exact .inr ha)];simp only[yT]at h;rw[h];rfl
 ·simp only[zS.l1,zan,ye,if_false,T,xN,zgZ,yC]
theorem zmh {n m x}(hn:1000000<=n)(hS:ztW m)(hL:zbt m.ztj m.tables=U)(h1:x.delta.length<=1000)(h2:x.ztm.length<=1000)(h3:x.hold.length<=1000)(h4:∀r∈x.hold,r.ztf.length<=1000):zaa n m x=O (effP m (zY m.ztj U m.tables).length x):=by
 have htl:=hS.tables;have hsl:=hS.ztj;have hcs:∀t∈m.tables,t.ztd.length<=1000/\t.name.length<=4096:=λt ht=>by have:=hS.tab t ht;omega
 unfold zaa zcr;rw[zeA hn (by omega) (by omega) hcs,hL,if_pos rfl];generalize zY m.ztj U m.tables=l;simp only[ya];have T3:ztg (zaa.l3 n m x) n 0=O (zvv m (-1) x.ztm&&(Z (x.hold.length<=8)&&Z (x.ztm.length<=32))):=by
  have:=zaS (body:=zaa.l3 n m x) (len:=x.ztm.length) (st:=λ(_:Int)i=>(i:Int)) (g:=λi s=>O (zvv m s (x.ztm.drop i)&&(Z (x.hold.length<=8)&&Z (x.ztm.length<=32)))) (λi s=>-1<=s/\(i=0/\s=-1\/0<i/\∃y,idx x.ztm (ztn (i:Int) 1)=O y/\y.cell=s)) (λrec i s hi hI hr=>?_) (λrec s _=>?_) n 0 (-1) (yj _) (by omega) ⟨by omega,.inl ⟨rfl,rfl⟩⟩;·simpa using this
  ·obtain⟨h1,h2⟩:=hI;have hprev:(Z (0<(i:Int))&&Z (x.ztm[i].cell<=((idx x.ztm (ztn (i:Int) 1)).getD J).cell))=(Z (0<i)&&Z (x.ztm[i].cell<=s))/\(! Z (0<(i:Int))||(idx x.ztm (ztn (i:Int) 1)).isSome)=true:=by
    rcases h2 with⟨h2,h3⟩|⟨h2,y,h3,h4⟩;·subst h2;simp
    ·rw[h3];simp[h4,h2]
   have hnext:-1<=x.ztm[i].cell->rec ((i+1:Nat):Int)=O (zvv m x.ztm[i].cell (x.ztm.drop (i+1))&&(Z (x.hold.length<=8)&&Z (x.ztm.length<=32))):=λh=>hr x.ztm[i].cell ⟨h,.inr ⟨by omega,x.ztm[i],by rw[zd9 (by omega) (by omega),show i+1-1=i by omega,zb hi],rfl⟩⟩;simp only[zaa.l3,zC hi,if_true,zb hi,ya,zkV (cell:=x.ztm[i].cell) (s:=M) hn (show m.ztj.length<=1000 by omega) (show m.tables.length<=1000 by omega) hcs,hprev.1,hprev.2,yy,grd,zh1,zd (i:=i) (by omega)];rw[zj hi,zvv];unfold updP;cases hok:(zvG m.ztj m.tables M x.ztm[i].cell).2.2 with|false=>simp|true=>
    obtain⟨t,ht⟩:=zmG hok;have hge:0<=x.ztm[i].cell:=by
     by_cases h:x.ztm[i].cell<0;·rw[zpE h]at hok;cases hok
     ·omega
    have hasc:(Z (0<i)&&Z (x.ztm[i].cell<=s))=!decide (s<x.ztm[i].cell):=by rw[<-decide_not,<-Bool.decide_and];refine decide_eq_decide.2 ?_;rcases h2 with⟨h2,h3⟩|⟨h2,-⟩<;>omega
    rw[hasc,hnext (by omega)];simp only[ht,ul,uI,ya,ym,yC];cases Z (s<x.ztm[i].cell)with
    |false=>simp|true=>
     simp only[ul,ye,if_false,yC];unfold updT;by_cases hset:(t.kind==2||t.kind==3)=U;·rw[hset];simp only[if_true,yC,ul,uf,ye,if_false];cases hk0:x.ztm[i].kind==0<;>cases hk1:x.ztm[i].kind==1<;>cases hv:x.ztm[i].value==0<;>simp[bne,hk0,hk1,hv]
     ·simp only[yT]at hset;rw[hset];simp only[uf,ye,if_false,ux,yC];have e1:Z (x.ztm[i].value<t.range.lo)=!decide (t.range.lo<=x.ztm[i].value):=by rw[<-decide_not];exact decide_eq_decide.2 (by omega)
      have e2:Z (t.range.hi<x.ztm[i].value)=!decide (x.ztm[i].value<=t.range.hi):=by rw[<-decide_not];exact decide_eq_decide.2 (by omega)
      rw[e1,e2];cases hk0:x.ztm[i].kind==2<;>cases Z (t.range.lo<=x.ztm[i].value)<;>cases Z (x.ztm[i].value<=t.range.hi)<;>simp[bne,hk0]
  ·simp only[zaa.l3,zan,ye,if_false,xN,zvv,yC,yn];congr 1;·exact decide_eq_decide.2 (by omega)
   ·exact decide_eq_decide.2 (by omega)
 have T2:ztg (zaa.l2 n m x l) n 0=if x.hold.all (zt1 l.length)=U then O (zvv m (-1) x.ztm&&(Z (x.hold.length<=8)&&Z (x.ztm.length<=32)))else O false:=by
  have:=zav (body:=zaa.l2 n m x l) (l:=x.hold) (n:=n) (st:=λi=>(i:Int)) (zt1 l.length) (O M) (O (zvv m (-1) x.ztm&&(Z (x.hold.length<=8)&&Z (x.ztm.length<=32)))) (λrec i hi=>?_) (λrec=>?_) (by omega);·simpa using this
  ·simp only[zaa.l2,zC hi,if_true,zb hi,ya,zlq (show x.hold[i].ztf.length<1000000 by have:=h4 _ (yi hi);omega) hn,zd (i:=i) (by omega)];cases zt1 l.length x.hold[i]<;>simp
  ·simp only[zaa.l2,zan,ye,if_false,T3]
 have:=zaS (body:=zaa.l1 n m x l) (len:=x.delta.length) (st:=λ(_:Int)i=>(i:Int)) (g:=λi s=>O (zgZ l.length s (x.delta.drop i)&&(zvv m (-1) x.ztm&&(Z (x.hold.length<=8)&&Z (x.ztm.length<=32)&&x.hold.all (zt1 l.length))))) (λi s=>-1<=s/\(i=0/\s=-1\/0<i/\∃y,idx x.delta (ztn (i:Int) 1)=O y/\y.cell=s)) (λrec i s hi hI hr=>?_) (λrec s _=>?_) n 0 (-1) (yj _) (by omega) ⟨by omega,.inl ⟨rfl,rfl⟩⟩;·simpa[effP]using this
 ·obtain⟨h1,h2⟩:=hI;have hprev:(Z (0<(i:Int))&&Z (x.delta[i].cell<=((idx x.delta (ztn (i:Int) 1)).getD J).cell))=(Z (0<i)&&Z (x.delta[i].cell<=s))/\(! Z (0<(i:Int))||(idx x.delta (ztn (i:Int) 1)).isSome)=true:=by
   rcases h2 with⟨h2,h3⟩|⟨h2,y,h3,h4⟩;·subst h2;simp
   ·rw[h3];simp[h4,h2]
  simp only[zaa.l1,zC hi,if_true,zb hi,ya,zw6,yp,yy,grd,ym,hprev.1,hprev.2,zd (i:=i) (by omega)];rw[zj hi,zgZ];by_cases h:(Z (s<x.delta[i].cell)&&Z (x.delta[i].cell<(l.length:Int))&&x.delta[i].add !=0&&zaV x.delta[i].add 1000000000)=U;·rw[h,yC];simp only[yd,yg,bne_iff_ne]at h;rw[if_neg (by simp[h.2,h.1.2];omega),hr x.delta[i].cell ⟨by omega,.inr ⟨by omega,x.delta[i],by rw[zd9 (by omega) (by omega),show i+1-1=i by omega,zb hi],rfl⟩⟩]
  ·rw[if_pos (by
    simp only[yd,yg,bne_iff_ne,ne_eq]at h;simp only[yF,yd,yg,beq_iff_eq,yB,<-yT];by_cases ha:zaV x.delta[i].add 1000000000=U;·left;simp only[ha,and_true]at h;rcases h2 with⟨h2,h3⟩|⟨h2,-⟩<;>omega
    ·exact .inr ha)];simp only[yT]at h;rw[h];rfl
 ·simp only[zaa.l1,zan,ye,if_false,T2,xN,zgZ,yC];cases x.hold.all (zt1 l.length)<;>simp
def cmpP:List Int->List Int->Int|[],[]=>0|[],_::_=>-1|_::_,[]=>1|x::l,y::k=>if x<y then-1 else if y<x then 1 else cmpP l k
def zvR:List Int->List Int->Bool|[],[]=>M|[],_::_=>U|_::_,[]=>M|x::l,y::k=>if x=y then zvR l k else Z (x<y)
theorem zob:∀a b:List Int,Z (0<=cmpP a b)=!zvR a b
 |[],[]=>rfl|[],_::_=>rfl|_::_,[]=>rfl|x::l,y::k=>by
  simp only[cmpP,zvR];by_cases h:x=y;·subst h;simp[zob l k]
  ·by_cases h2:x<y;·simp[h,h2]
   ·have:y<x:=by omega
    simp[h,h2,this]
theorem zo6 {n a b}(hl:a.length<1000000)(hn:1000000<=n):zq n a b=O (cmpP a b):=by
 have:=zw (body:=zq.l1 n a b) (len:=a.length) (st:=λi=>(i:Int)) (g:=λi=>O (cmpP (a.drop i) (b.drop i))) (λrec i hi hr=>?_) (λrec=>?_) n 0 (yj _) (by omega);·simpa[zq]using this
 ·simp only[zq.l1,zC hi,if_true,zb hi,ya,zd (i:=i) (by omega),hr];rw[zj hi];by_cases hb:i<b.length
  ·rw[if_neg (by simp;omega),zb hb,zj hb];simp only[ya,zci,zdu,bne_self_eq_false,ye,if_false,cmpP,yg];by_cases h1:a[i]<b[i];·simp[h1]
   ·by_cases h2:b[i]<a[i];·simp[h1,h2]
    ·simp[h1,h2]
  ·rw[if_pos (by simp;omega),show b.drop i=[]from wt (by omega)];rfl
 ·simp only[zq.l1,zan,ye,if_false,xN];by_cases hb:a.length<b.length;·rw[if_pos (by simpa using hb),zj hb];rfl
  ·rw[if_neg (by simpa using hb),wt (by omega)];rfl
theorem zn4 {n a b}(hl:a.length<1000000)(hn:1000000<=n):zcD n a b=O (zvR a b):=by
 have:=zw (body:=zcD.l1 n a b) (len:=min a.length b.length) (st:=λi=>(i:Int)) (g:=λi=>O (zvR (a.drop i) (b.drop i))) (λrec i hi hr=>?_) (λrec=>?_) n 0 (yj _) (by omega);·simpa[zcD]using this
 ·have ha:i<a.length:=by omega
  have hb:i<b.length:=by omega
  simp only[zcD.l1,zC ha,zC hb,uN,if_true,zb ha,zb hb,ya,zd (i:=i) (by omega),hr];rw[zj ha,zj hb];by_cases h:a[i]=b[i];·simp[h,zvR]
  ·simp[h,zvR]
 ·simp only[zcD.l1];rw[if_neg (by simp;omega)];by_cases ha:a.length<=b.length
  ·rw[vb ha,xN];by_cases hb:a.length<b.length;·rw[zj hb];simp[zvR,hb]
   ·rw[wt (by omega)];simp[zvR];omega
  ·rw[Nat.min_eq_right (by omega),xN,zj (by omega)];simp[zvR];omega
def argP (m:Model)(s x:Int):Bool:=(!decide (s<0)||zaV x 9999)&&(!decide (0<=s)||Z (0<=x)&&Z (x<(idx m.ztj s).getD J))
def zwF (m:Model):List Int->List Int->Bool|s::l,x::k=>argP m s x&&zwF m l k|_,_=>U
def opAt (m:Model)(a:Action):ztQ:=(idx m.zth a.operation).getD J
def ordP (b a:Action):Bool:=!decide (a.operation<b.operation)&&(! b.operation==a.operation||zvR b.arguments a.arguments)
def actP (m:Model)(K:Nat)(i:Nat)(a:Action):Bool:=Z (0<=a.operation)&&Z (a.operation<(m.zth.length:Int))&&a.arguments.length==(opAt m a).ztj.length&&zwF m (opAt m a).ztj a.arguments&&(Z (i=0)||ordP ((idx m.zte ((i-1:Nat):Int)).getD J) a)&&effP m K a.effect
def zwQ (m:Model)(K:Nat):Bool:=Z (m.zte.length<=256)&&allR (λi=>actP m K i ((idx m.zte (i:Int)).getD J)) 0 m.zte.length
theorem zk9 {m}{s x:List Int}{k}(h1)(h2:k<x.length):zwF m (s.drop k) (x.drop k)=(argP m s[k] x[k]&&zwF m (s.drop (k+1)) (x.drop (k+1))):=by rw[zj h1,zj h2];rfl
theorem zoG {m a}(h:(Z (0<=a.operation)&&Z (a.operation<(m.zth.length:Int)))=U):idx m.zth a.operation=O (opAt m a)/\opAt m a∈m.zth:=by
 simp only[yd,yg]at h;obtain⟨o,b⟩:=za8 h.1 h.2;grind[opAt,zbb]
theorem zq2 {m:Model}{s}(h0:0<=s)(h:s<(m.ztj.length:Int)):idx m.ztj s=O ((idx m.ztj s).getD J):=by
 obtain⟨x,a⟩:=za8 h0 h;grind
theorem zlj {m}(h:opsP m=U):∀o∈m.zth,o.ztj.length<=3/\∀s∈o.ztj,-1<=s/\s<(m.ztj.length:Int):=by
 simp only[opsP,yd,yq]at h;intro o a;have:=h.1 o a;simp only[opP]at this;grind
theorem zqh {b a}:(Z (a.operation<b.operation)||b.operation==a.operation&&Z (0<=cmpP b.arguments a.arguments))=!ordP b a:=by grind[zob,ordP]
theorem zsh {b a}:(Z (a.operation<b.operation)||b.operation==a.operation&&!zvR b.arguments a.arguments)=!ordP b a:=by grind[ordP]
theorem zjj {n}{m}{l}(hF:Fuel n)(hS:ztW m)(hO:opsP m=U):zK n ⟨m,l⟩=O (zwQ m l.length):=by
 have hn:=hF.big;have hal:=hS.zte;unfold zK zwQ;by_cases h0:m.zte.length<=256
 ·rw[if_neg (by grind),decide_eq_true h0,yC];have:=zgl (body:=zK.l1 n ⟨m,l⟩) (len:=m.zte.length) (n:=n) (st:=λi=>(i:Int)) (λi=>actP m l.length i ((idx m.zte (i:Int)).getD J)) (O M) (O U) (λrec i hi=>?_) (λrec=>?_) (by omega);·grind
  ·have hmem:=yi hi;obtain⟨a1,a2,a3,a4,a5⟩:=hS.act _ hmem;simp only[zK.l1,zC hi,if_true,zb hi,ya,zaC,ym];unfold actP;cases hop:Z (0<=m.zte[i].operation)&&Z (m.zte[i].operation<(m.zth.length:Int))with
   |false=>simp[grd]|true=>
    obtain⟨ho,hom⟩:=zoG hop;obtain⟨o1,o2⟩:=zlj hO _ hom;simp only[ho,yp,yy,grd,if_true,ym,ul,uI,yC,ya];by_cases hlen:m.zte[i].arguments.length=(opAt m m.zte[i]).ztj.length
    ·rw[if_neg (by grind)];have hle:(m.zte[i].arguments.length==(opAt m m.zte[i]).ztj.length)=true:=by grind
     rw[hle,yC];have inner:=zw (body:=zK.l2 n ⟨m,l⟩ i rec m.zte[i] (opAt m m.zte[i])) (len:=(opAt m m.zte[i]).ztj.length) (st:=λk=>(k:Int)) (g:=λk=>if zwF m ((opAt m m.zte[i]).ztj.drop k) (m.zte[i].arguments.drop k)=U then if((Z (i=0)||ordP ((idx m.zte ((i-1:Nat):Int)).getD J) m.zte[i])&&effP m l.length m.zte[i].effect)=U then rec ((i+1:Nat):Int)else O M else O M) (λrec' k hk hr'=>?_) (λrec'=>?_) n 0 (yj _) (by omega);·grind
     ·have hk2:k<m.zte[i].arguments.length:=by omega
      have hs2:=o2 _ (yi hk);simp only[zK.l2,zC hk,if_true,zb hk,zb hk2,ya,around4,yp,yy,grd,ym,zd (i:=k) (by omega),hr',zaC];rw[zk9 hk hk2];unfold argP;by_cases hneg:(opAt m m.zte[i]).ztj[k]<0;·grind
      ·have hd1:Z ((opAt m m.zte[i]).ztj[k]<0)=false:=by simp;omega
       have hd2:Z (0<=(opAt m m.zte[i]).ztj[k])=true:=by simp;omega
       obtain⟨z,hz⟩:=za8 (l:=m.ztj) (i:=(opAt m m.zte[i]).ztj[k]) (by omega) hs2.2;rw[hz,hd1,hd2];by_cases h1:0<=m.zte[i].arguments[k]
       ·by_cases h2:m.zte[i].arguments[k]<z
        ·have h2':¬z<=m.zte[i].arguments[k]:=by omega
         simp[h1,h2,h2']
        ·have h2':z<=m.zte[i].arguments[k]:=by omega
         simp[h1,h2,h2']
       ·simp[h1]
     ·simp only[zK.l2,zan,ye,if_false,jn,xN];rw[zkj hF hS (by omega) (by omega) (by omega) λr hr=>by have:=a5 r hr;omega];simp only[ya,zd (i:=i) (by omega)];have hargs:zwF m [] (m.zte[i].arguments.drop (opAt m m.zte[i]).ztj.length)=true:=rfl;rw[hargs,if_pos rfl];by_cases h0i:i=0;·subst h0i;rw[if_neg (by simp)];cases effP m l.length m.zte[0].effect<;>simp
      ·rw[if_pos (by simp;omega),zd9 (by omega) (by omega)];have hi1:i-1<m.zte.length:=by omega
       have b1:=(hS.act _ (yi hi1)).1;simp only[zb hi1,ya,zqh,ym,zo6 (a:=m.zte[i-1].arguments) (b:=m.zte[i].arguments) (show m.zte[i-1].arguments.length<1000000 by omega) (show 1000000<=n by omega),yp,yy,if_true,h0i,decide_false,uI];cases ordP m.zte[i-1] m.zte[i]<;>cases effP m l.length m.zte[i].effect<;>simp[grd]
    grind
  ·simp[zK.l1]
 grind
theorem zjl {n}{m}(hn:1000000<=n)(hS:ztW m)(hL:zbt m.ztj m.tables=U):zB n m=O (opsP m&&zwQ m (zY m.ztj U m.tables).length):=by
 have hal:=hS.zte;have hol:=hS.zth;have hef:∀a∈m.zte,zaa n m a.effect=O (effP m (zY m.ztj U m.tables).length a.effect):=λa ha=>by
  obtain⟨a1,a2,a3,a4,a5⟩:=hS.act _ ha;grind[zmh]
 generalize(zY m.ztj U m.tables).length=K at hef;have T:opsP m=U->ztg (zB.l3 n m) n 0=O (allR (λi=>actP m K i ((idx m.zte (i:Int)).getD J)) 0 m.zte.length):=λhO=>by
  have:=zgl (body:=zB.l3 n m) (len:=m.zte.length) (n:=n) (st:=λi=>(i:Int)) (λi=>actP m K i ((idx m.zte (i:Int)).getD J)) (O M) (O U) (λrec i hi=>?_) (λrec=>?_) (by omega);·grind
  ·have hmem:=yi hi;obtain⟨a1,a2,a3,a4,a5⟩:=hS.act _ hmem;simp only[zB.l3,zC hi,if_true,zb hi,ya,ym];have hneg:(Z (m.zte[i].operation<0)||decide ((m.zth.length:Int)<=m.zte[i].operation))=!(Z (0<=m.zte[i].operation)&&Z (m.zte[i].operation<(m.zth.length:Int))):=by grind
   rw[hneg];unfold actP;cases hop:Z (0<=m.zte[i].operation)&&Z (m.zte[i].operation<(m.zth.length:Int))with
   |false=>simp[grd]|true=>
    obtain⟨ho,hom⟩:=zoG hop;obtain⟨o1,o2⟩:=zlj hO _ hom;simp only[ho,yp,yy,grd,if_true,ym,ul,uI,yC];by_cases hlen:m.zte[i].arguments.length=(opAt m m.zte[i]).ztj.length
    ·rw[if_neg (by grind)];have hle:(m.zte[i].arguments.length==(opAt m m.zte[i]).ztj.length)=true:=by grind
     rw[hle,yC];have inner:=zw (body:=zB.l4 n m i rec m.zte[i]) (len:=m.zte[i].arguments.length) (st:=λk=>(k:Int)) (g:=λk=>if zwF m ((opAt m m.zte[i]).ztj.drop k) (m.zte[i].arguments.drop k)=U then if((Z (i=0)||ordP ((idx m.zte ((i-1:Nat):Int)).getD J) m.zte[i])&&effP m K m.zte[i].effect)=U then rec ((i+1:Nat):Int)else O M else O M) (λrec' k hk2 hr'=>?_) (λrec'=>?_) n 0 (yj _) (by omega);·grind
     ·have hk:k<(opAt m m.zte[i]).ztj.length:=by omega
      have hs2:=o2 _ (yi hk);simp only[zB.l4,zC hk2,if_true,ho,zb hk,zb hk2,ya,between4,yp,yy,grd,ym,zd (i:=k) (by omega),hr'];rw[zk9 hk hk2];unfold argP;by_cases hneg:(opAt m m.zte[i]).ztj[k]<0
      ·have hd1:Z ((opAt m m.zte[i]).ztj[k]<0)=true:=by simp[hneg]
       have hd2:Z (0<=(opAt m m.zte[i]).ztj[k])=false:=by simp;omega
       rw[hd1,hd2];cases zaV m.zte[i].arguments[k] 9999<;>simp
      ·have hd1:Z ((opAt m m.zte[i]).ztj[k]<0)=false:=by simp;omega
       have hd2:Z (0<=(opAt m m.zte[i]).ztj[k])=true:=by simp;omega
       rw[zq2 (m:=m) (s:=(opAt m m.zte[i]).ztj[k]) (by omega) hs2.2,hd1,hd2];simp only[ym];generalize(idx m.ztj (opAt m m.zte[i]).ztj[k]).getD J=z;by_cases h1:m.zte[i].arguments[k]<0
       ·have h1':¬0<=m.zte[i].arguments[k]:=by omega
        simp[h1,h1']
       ·have h1':0<=m.zte[i].arguments[k]:=by omega
        by_cases h2:z<=m.zte[i].arguments[k]
        ·have h2':¬m.zte[i].arguments[k]<z:=by omega
         simp[h1,h1',h2,h2']
        ·have h2':m.zte[i].arguments[k]<z:=by omega
         simp[h1,h1',h2,h2']
     ·simp only[zB.l4,zan,ye,if_false,jn,xN,hef _ hmem];simp only[ya,zd (i:=i) (by omega)];have hargs:zwF m ((opAt m m.zte[i]).ztj.drop m.zte[i].arguments.length) []=true:=by cases(opAt m m.zte[i]).ztj.drop m.zte[i].arguments.length<;>rfl
      rw[hargs,if_pos rfl];by_cases h0i:i=0;·subst h0i;rw[if_neg (by simp)];cases effP m K m.zte[0].effect<;>simp
      ·rw[if_pos (by simp;omega),zd9 (by omega) (by omega)];have hi1:i-1<m.zte.length:=by omega
       have b1:=(hS.act _ (yi hi1)).1;simp only[zb hi1,ya,zsh,ym,zn4 (a:=m.zte[i-1].arguments) (b:=m.zte[i].arguments) (show m.zte[i-1].arguments.length<1000000 by omega) (show 1000000<=n by omega),yp,yy,if_true,h0i,decide_false,uI];cases ordP m.zte[i-1] m.zte[i]<;>cases effP m K m.zte[i].effect<;>simp[grd]
    grind
  ·simp[zB.l3]
 unfold zB;have:=zav (body:=zB.l1 n m) (l:=m.zth) (n:=n) (st:=λi=>((m.zth.take i).map (·.name),(i:Int))) (opP m) (O M) (if(Z (m.zth.length<=8)&&zvb [] (m.zth.map (·.name))&&Z (m.zte.length<=256))=U then ztg (zB.l3 n m) n 0 else O M) (λrec i hi=>?_) (λrec=>?_) (by omega);·simp only[List.take_zero,wz,wd]at this;rw[this];unfold zwQ;cases hO:opsP m with|true=>have hO':=hO;simp only[opsP,yd]at hO';rw[hO'.1,hO'.2.1,hO'.2.2,T hO];cases Z (m.zte.length<=256)<;>rfl|false=>unfold opsP at hO;cases h1:m.zth.all (opP m)with|false=>simp|true=>rw[h1,yC]at hO;rw[hO];simp
 ·have hop:=hS.op _ (yi hi);simp only[zB.l1,zC hi,if_true,zb hi,ya];rw[zl (by simp;omega),ya,zeg hi];generalize hX:(m.zth.take (i+1)).map (·.name)=X;have inner:=zav (body:=zB.l2 n m i rec m.zth[i] X) (l:=m.zth[i].ztj) (n:=n) (st:=λk=>(k:Int)) (λs=>Z (-1<=s)&&Z (s<(m.ztj.length:Int))) (O M) (if Z (m.zth[i].ztj.length<=3)=U then rec (X,((i+1:Nat):Int))else O M) (λrec' k hk=>?_) (λrec'=>?_) (by omega);·simp only[wd]at inner;rw[inner];unfold opP;cases Z (m.zth[i].ztj.length<=3)<;>cases m.zth[i].ztj.all λs=>Z (-1<=s)&&Z (s<(m.ztj.length:Int))<;>simp
  ·simp only[zB.l2,zC hk,if_true,zb hk,ya,yp,yy,grd,ym,zd (i:=k) (by omega)];have e1:Z (m.zth[i].ztj[k]< -1)=!decide (-1<=m.zth[i].ztj[k]):=by rw[<-decide_not];exact decide_eq_decide.2 (by omega)
   have e2:Z ((m.ztj.length:Int)<=m.zth[i].ztj[k])=!decide (m.zth[i].ztj[k]<(m.ztj.length:Int)):=by rw[<-decide_not];exact decide_eq_decide.2 (by omega)
   rw[e1,e2];cases Z (-1<=m.zth[i].ztj[k])<;>cases Z (m.zth[i].ztj[k]<(m.ztj.length:Int))<;>simp
  ·simp only[zB.l2,zan,ye,if_false,zd (i:=i) (by omega)];by_cases h3:m.zth[i].ztj.length<=3;·rw[if_neg (by simp;omega),if_pos (by simp[h3])]
   ·rw[if_pos (by simp;omega),if_neg (by simp[h3])]
 ·simp only[zB.l1,zan,ye,if_false,wn];rw[zfq hn (by simp;omega) λw hw=>by simp only[y9]at hw;obtain⟨o,ho,rfl⟩:=hw;have:=(hS.op o ho).1;omega];simp only[yp,yy,grd,if_true,ym];have e1:Z (8<(m.zth.length:Int))=!decide (m.zth.length<=8):=by rw[<-decide_not];exact decide_eq_decide.2 (by omega)
  have e2:Z (256<(m.zte.length:Int))=!decide (m.zte.length<=256):=by rw[<-decide_not];exact decide_eq_decide.2 (by omega)
  rw[e1,e2];cases Z (m.zth.length<=8)<;>cases zvb [] (m.zth.map (·.name))<;>cases Z (m.zte.length<=256)<;>simp
def za0 (hs:List Hide):Nat->Int->Int->Bool|0,a,b=>a==b|k+1,a,b=>a==b||hs.any λh=>h.table==a&&za0 hs k h.to b
def zvI (m:Model)(h:Hide):Bool:=Z (0<=h.table)&&Z (h.table<(m.tables.length:Int))&&(Z (0<=h.to)&&Z (h.to<(m.tables.length:Int)))&&h.table !=h.to&&(((idx m.tables h.table).getD J).kind==0&&((idx m.tables h.to).getD J).kind==0&&(Z (0<=h.column)&&Z (h.column<(((idx m.tables h.table).getD J).ztd.length:Int))&&((((idx m.tables h.to).getD J).ztd.length:Int)==1&&(idx ((idx m.tables h.to).getD J).ztd 0).getD J==(idx ((idx m.tables h.table).getD J).ztd h.column).getD J)))
def zlf (m:Model):Bool:=Z (m.zts.length<=12)&&(m.zts.all (zvI m)&&m.zts.all λh=>!za0 m.zts m.tables.length h.to h.table)
theorem zpm {m n self a b k}(hl:m.zts.length<n)(hl2:m.zts.length<1000000)(hk:k+1<1000000)(hself:∀x,self m x b (k:Int)=O (za0 m.zts k x b)):ztg (zaL.l1 n self m a b ((k+1:Nat):Int)) n 0=O (m.zts.any λh=>h.table==a&&za0 m.zts k h.to b):=by
 have:=zw (body:=zaL.l1 n self m a b (k+1)) (len:=m.zts.length) (st:=λi=>i) (g:=λi=>O ((m.zts.drop i).any λh=>h.table==a&&za0 m.zts k h.to b)) (λc i e f=>?_) (λc=>?_) n 0 (yj _) (by omega);·simp_all
 ·have j:Z (0<k+1)=true:=by simp
  have d:ztn ((k+1:Nat)) 1=k:=by rw[zd9 (by omega) (by omega)];simp
  simp only[zaL.l1,zb e,grd,zd (i:=i) (by omega)];grind[zj]
 ·simp[zaL.l1]
theorem znc {m}(hl:m.zts.length<1000000):∀(k n:Nat)(a b),k<1000000->1000000+k<n->zaL n m a b (k:Int)=O (za0 m.zts k a b)
 |0,0,_,_,_,h=>by omega|0,n+1,a,b,_,h=>by
  simp only[zaL,zaL.body,za0];by_cases e:a=b;·grind
  ·grind[zgk,zaL.l1]|k+1,0,_,_,_,h=>by omega|k+1,n+1,a,b,c,h=>by
  simp only[zaL,zaL.body,za0];by_cases e:a=b;·grind
  ·rw[if_neg (by simp_all),zpm (by omega) hl c λx=>znc hl k n x b (by omega) (by omega)];simp_all
theorem zor {m:Model}{h:Hide}(h0:0<=h.table/\h.table<(m.tables.length:Int))(h1:0<=h.to/\h.to<(m.tables.length:Int)):∃t u,idx m.tables h.table=O t/\idx m.tables h.to=O u:=by obtain⟨t,b⟩:=za8 h0.1 h0.2;obtain⟨u,a⟩:=za8 h1.1 h1.2;simp_all
theorem zkt {n}{m}(hn:4294967296<=n)(hS:ztW m):zaB n m=O (zlf m):=by
 have hhl:=hS.zts;have htl:=hS.tables;unfold zaB zlf;have T:ztg (zaB.l2 n m) n 0=O (m.zts.all λh=>!za0 m.zts m.tables.length h.to h.table):=by
  have:=zav (body:=zaB.l2 n m) (l:=m.zts) (n:=n) (st:=λi=>(i:Int)) (λh=>!za0 m.zts m.tables.length h.to h.table) (O M) (O U) (λrec i hi=>?_) (λrec=>?_) (by omega);·grind
  ·simp only[zaB.l2,zb hi,ya,znc (m:=m) (by omega) m.tables.length n m.zts[i].to m.zts[i].table (by omega) (by omega),zd (i:=i) (by omega)];grind
  ·simp[zaB.l2]
 have:=zav (body:=zaB.l1 n m) (l:=m.zts) (n:=n) (st:=λi=>(i:Int)) (zvI m) (O M) (O (m.zts.all λh=>!za0 m.zts m.tables.length h.to h.table)) (λrec i hi=>?_) (λrec=>?_) (by omega);·grind
 ·simp only[zaB.l1,zC hi,if_true,zb hi,ya,zd (i:=i) (by omega)];generalize m.zts[i]=h;by_cases hb:((0<=h.table/\h.table<(m.tables.length:Int))/\0<=h.to/\h.to<(m.tables.length:Int))/\h.table≠h.to
  ·rw[if_neg (by simp_all)];obtain⟨t,u,ht,hu⟩:=zor hb.1.1 hb.1.2;have hhp:zvI m h=(t.kind==0&&u.kind==0&&(Z (0<=h.column)&&Z (h.column<(t.ztd.length:Int))&&((u.ztd.length:Int)==1&&(idx u.ztd 0).getD J==(idx t.ztd h.column).getD J))):=by grind[zvI]
   simp only[ht,hu,ya];by_cases hk:(t.kind==0&&u.kind==0&&(Z (0<=h.column)&&Z (h.column<(t.ztd.length:Int))&&(u.ztd.length:Int)==1))=U
   ·have hk':=hk;simp only[yd,yg,beq_iff_eq]at hk';obtain⟨⟨k1,k2⟩,⟨k3,k4⟩,k5⟩:=hk';obtain⟨x,hx⟩:=za8 (l:=u.ztd) (i:=0) (by omega) (by omega);obtain⟨y,hy⟩:=za8 k3 k4;have n1:¬h.column<0:=by omega
    have n2:¬(t.ztd.length:Int)<=h.column:=by omega
    simp only[n1,n2,grd];simp_all
   ·have hf:(t.kind !=0||u.kind !=0||Z (h.column<0)||Z ((t.ztd.length:Int)<=h.column)||(u.ztd.length:Int)!=1)=true:=by grind
    simp only[uy,grd,if_true];simp_all
  ·have hhp:zvI m h=false:=by unfold zvI;simp_all
   simp_all
 ·simp only[zaB.l1,zan,ye,if_false,T]
theorem zko:∀(T:Nat)(l:List Int),l.Nodup->(∀x∈l,0<=x/\x<(T:Int))->l.length<=T
 |0,l,_,h=>by cases l with|nil=>simp|cons x l=>have:=h x (by simp);omega
 |T+1,l,a,h=>by
  by_cases c:(T:Int)∈l
  ·have d:=zko T (l.erase T) (a.erase _) λx b=>by grind
   grind
  ·have:=zko T l a λx b=>by grind
   omega
theorem zj6 {hs}:∀{k}{a b},za0 hs k a b=U->za0 hs (k+1) a b=U
 |0,a,b,h=>by simp only[za0]at h;simp only[za0,h,uy]|k+1,a,b,h=>by
  rw[za0]at h|-;simp only[yF,uw,yd]at h|-;rcases h with h|⟨x,d,e,c⟩;·grind
  ·exact .inr ⟨x,d,e,zj6 c⟩
theorem zp3 {hs k j a b}(h:za0 hs k a b=U)(hkj:k<=j):za0 hs j a b=true:=by
 obtain⟨d,rfl⟩:=Nat.exists_eq_add_of_le hkj;clear hkj;induction d with|zero=>exact h|succ d ih=>exact zj6 ih
theorem zfN {hs k a}:za0 hs k a a=true:=by cases k<;>simp[za0]
theorem zj7 {hs h}(hh:h∈hs):∀{k}{a},za0 hs k a h.table=U->za0 hs (k+1) a h.to=U
 |0,a,e=>by
  simp only[za0]at e;simp only[za0];grind|k+1,a,e=>by
  rw[za0]at e|-;simp only[yF,uw,yd]at e|-;rcases e with e|⟨x,c,d,b⟩;·grind[zfN]
  ·exact .inr ⟨x,c,d,zj7 hh b⟩
def zwi (f:Int->Hide)(s:Int):Nat->Int|0=>s|k+1=>(f (zwi f s k)).to
theorem zsj {hs}{T:Nat}{S}(hS:S≠[])(hb:∀t∈S,0<=t/\t<(T:Int))(hac:∀h∈hs,za0 hs T h.to h.table=M):∃t∈S,∀h∈hs,¬(h.table=t/\h.to∈S):=by
 apply xV;intro hno;have hedge:∀t,t∈S->∃h,h∈hs/\h.table=t/\h.to∈S:=λt ht=>by apply xV;intro hn;exact hno ⟨t,ht,λh hh he=>hn ⟨h,hh,he.1,he.2⟩⟩
 obtain⟨s,hs0⟩:∃s,s∈S:=by cases S with
  |nil=>exact absurd rfl hS|cons x l=>exact⟨x,by simp⟩
 obtain⟨f,hf⟩:∃f:Int->Hide,∀t,t∈S->f t∈hs/\(f t).table=t/\(f t).to∈S:=by refine⟨λt=>if ht:t∈S then Classical.choose (hedge t ht)else J,λt ht=>?_⟩;simp only[ht,dite_true];exact Classical.choose_spec (hedge t ht)
 have hw:∀k,zwi f s k∈S:=λk=>by induction k with
  |zero=>exact hs0|succ k ih=>exact(hf _ ih).2.2
 have hlead:∀d i,za0 hs d (zwi f s i) (zwi f s (i+d))=true:=λd=>by induction d with|zero=>intro i;exact zfN|succ d ih=>intro i;simp only[za0,yF,uw,yd,beq_iff_eq];refine .inr ⟨f (zwi f s i),(hf _ (hw i)).1,(hf _ (hw i)).2.1,?_⟩;have:=ih (i+1);rw[show i+1+d=i+(d+1)by omega]at this;exact this
 have hne:∀i j,i<j->j<=T->zwi f s i≠zwi f s j:=λi j hij hj e=>by have h1:=hlead (j-i-1) (i+1);rw[show i+1+(j-i-1)=j by omega,<-e]at h1;have h2:=hac _ (hf _ (hw i)).1;rw[(hf _ (hw i)).2.1]at h2;have h3:za0 hs T (f (zwi f s i)).to (zwi f s i)=true:=zp3 h1 (by omega);rw[h3]at h2;cases h2
 have hlen:=zko T ((xr (T+1)).map (zwi f s)) (by rw[List.Nodup,List.pairwise_map];exact vl (λ{a b}_ hb hab=>hne a b hab (by have:=ub.1 hb;omega)) List.pairwise_lt_range) λx hx=>by simp only[y9]at hx;obtain⟨k,-,rfl⟩:=hx;exact hb _ (hw k)
 simp at hlen;omega
def zcl (m:GMap Int Bool):List Int:=m.es.map λe=>e.2.1
structure WfM (m:GMap Int Bool):Prop where
 tru:∀e∈m.es,e.2.2=U
 nd:(m.es.map (·.1)).Nodup
 lt:∀e∈m.es,e.1<m.clock
theorem WfM.get {m}(h:WfM m)(k):(m.get? k).getD M=Z (k∈zcl m):=by unfold GMap.get?;rw[zj0 k m.es h.tru];rfl
theorem WfM.empty:WfM (wj:GMap Int Bool):=⟨λe a=>by grind[wj],by simp[wj],λe a=>by grind[wj]⟩
theorem zom (k):∀(es:List (Nat×Int×Bool))(p),zue k es=O p->∃h:p.1<es.length,es[p.1].2.1=k
 |[],_,h=>by grind[zue]|e::es,p,h=>by
  simp only[zue]at h;split at h;·grind
  ·simp only[Option.map_eq_some_iff]at h;obtain⟨q,a,rfl⟩:=h;obtain⟨c,b⟩:=zom k es q a;grind
theorem zhT (f)(hf:∀e,(f e).1=e.1):∀(es:List (Nat×Int×Bool))(i),(es.modify i f).map (·.1)=es.map (·.1)|[],_=>by simp|e::es,0=>by simp[hf]|e::es,i+1=>by simp[zhT f hf es i]
theorem WfM.put {m}(h:WfM m)(k):WfM (m.put k U)/\(m.put k U).es.length<=m.es.length+1/\∀t,t∈zcl (m.put k U)↔t∈zcl m\/t=k:=by unfold GMap.put zcl;cases l:zue k m.es with
 |none=>
  refine⟨⟨λe c=>?_,?_,λe c=>?_⟩,by simp,λt=>by simp⟩
  ·simp only[yu,yL]at c;rcases c with c|rfl;·exact h.tru e c
   ·rfl
  ·simp only[uq,yW,wz];rw[uQ];refine⟨h.nd,by simp,λa f b d=>?_⟩;simp only[yL]at d;simp only[y9]at f;obtain⟨e,c,rfl⟩:=f;have:=h.lt e c;omega
  ·simp only[yu,yL]at c;rcases c with c|rfl
   ·have:=h.lt e c;grind
   ·simp|some p=>
  obtain⟨i,b⟩:=p;have d:=zhT (λe=>(e.1,e.2.1,U)) (λe=>rfl) m.es i;refine⟨⟨ziG (p:=λe=>e.2.2=U) _ (λe=>rfl) m.es i h.tru,by rw[d];exact h.nd,λe c=>?_⟩,by simp,λt=>?_⟩
  ·have:e.1∈m.es.map (·.1):=by grind
   simp only[y9]at this;obtain⟨x,j,n⟩:=this;have:=h.lt x j;grind
  ·rw[zhm (λe=>(e.1,e.2.1,U)) (λe=>rfl) m.es i];constructor;·grind
   ·rintro(g|rfl);·exact g
    grind[zj1]
theorem WfM.del {m}(h:WfM m){e}(he:e∈m.es):WfM (m.del e.2.1)/\(m.del e.2.1).clock=m.clock/\(m.del e.2.1).es.length+1=m.es.length/\(m.del e.2.1).es.Sublist m.es/\∀t,t∈zcl m->t≠e.2.1->t∈zcl (m.del e.2.1):=by unfold GMap.del zcl;cases g:zue e.2.1 m.es with
 |none=>exact absurd (List.mem_map_of_mem (f:=λe=>e.2.1) he) (zon _ m.es g)|some p=>
  obtain⟨i,b⟩:=p;obtain⟨l,d⟩:=zom _ m.es _ g;simp only[]at l d|-;have a:=List.eraseIdx_sublist m.es i;refine⟨⟨λx c=>h.tru x (a.subset c),(a.map _).nodup h.nd,λx c=>h.lt x (a.subset c)⟩,trivial,?_,a,λt k n=>?_⟩;·grind
  ·simp only[y9]at k|-;obtain⟨x,c,rfl⟩:=k;obtain⟨j,o,rfl⟩:=List.mem_iff_getElem.1 c;refine⟨_,?_,rfl⟩;rw[List.mem_eraseIdx_iff_getElem];grind
theorem zmR {m m':GMap Int Bool}{seen}{e}(he:e∈m.left seen)(hs:m'.es.Sublist m.es):(m'.left (seen++[e.1])).length<(m.left seen).length:=by
 unfold GMap.left at he|-;have b:(m.es.filter λx=>!(seen++[e.1]).contains x.1)=(m.es.filter λx=>!seen.contains x.1).filter λx=>! x.1==e.1:=by
  rw[List.filter_filter];congr 1;funext x;simp;grind
 have a:((m.es.filter λx=>!seen.contains x.1).filter λx=>! x.1==e.1).length<(m.es.filter λx=>!seen.contains x.1).length:=List.length_filter_lt_length_iff_exists.2 ⟨e,he,by simp⟩;grind
theorem zi6 {n}{j}{m0}{i}{rec}{r}(hn:1000000<=n)(hh:j.model.zts.length<1000000)(xf:GMap Int Bool->List Nat->Prop)(hwf:∀m seen,xf m seen->WfM m/\m.clock=m0.clock)(hover:∀m seen,xf m seen->m.left seen=[]->rec (m,ztc i 1)=O r)(hstep:∀m seen e,xf m seen->e∈m.left seen->xf (if(j.model.zts.any λh=>h.table==e.2.1&&Z (h.to∈zcl m))=U then m else m.del e.2.1) (seen++[e.1]))(h0:xf m0 [])(hl:m0.es.length<1000000):ztg (zh.l4 n j m0 i rec) n (m0,[],m0.clock)=O r:=by
 refine zc5 (body:=zh.l4 n j m0 i rec) (λs=>(s.1.left s.2.1).length) (λs=>xf s.1 s.2.1/\s.2.2=m0.clock) (λ_ o=>o=O r) (λrec' s hI hr=>?_) n _ ⟨h0,rfl⟩ ?_
 ·obtain⟨m,seen,last⟩:=s;obtain⟨hJ,hlast⟩:=hI;simp only[]at hJ hlast hr;subst hlast;obtain⟨hw,hc⟩:=hwf m seen hJ;simp only[zh.l4,stepM];have hold:m.old m0.clock m0.clock=true:=by simp only[GMap.old,yd,yq,yg];exact⟨λe he=>by have:=hw.lt e he;omega,yo _⟩
  rw[hold];unfold grd;rw[if_pos rfl];cases hleft:m.left seen with
  |nil=>grind|cons x l=>
   rw[<-hleft,if_neg (by grind)];refine zlK (by rw[hleft];simp) λe he=>?_;have hem:e∈m.es:=(List.mem_filter.1 he).1;rw[if_pos (by simpa using hw.nd),zdR (p:=λh=>h.table==e.2.1&&Z (h.to∈zcl m)) (λh _=>by unfold zc6;rw[hw.get]) hh hn,ya];have hst:=hstep m seen e hJ he;cases hb:j.model.zts.any λh=>h.table==e.2.1&&Z (h.to∈zcl m)with
   |true=>
    rw[hb]at hst;rw[if_neg (by simp)];grind[seen,zmR]|false=>rw[hb]at hst;rw[if_pos (by simp)];exact hr (m.del e.2.1,seen++[e.1],m.clock) ⟨hst,hc⟩ (zmR he (hw.del hem).2.2.2.1)
 ·have:(m0.left []).length<=m0.es.length:=List.length_filter_le _ _;simp only[];omega
theorem zhU {α β:Type}{f:α->β}:∀{l:List α},(l.map f).Nodup->∀x∈l,∀y∈l,f x=f y->x=y
 |[],_,x,b,_,_,_=>by grind|a::l,h,x,b,y,c,e=>by
  simp only[yW,List.nodup_cons]at h;simp only[yG]at b c;rcases b with rfl|b<;>rcases c with rfl|c;·rfl
  ·grind
  ·grind
  ·exact zhU h.2 x b y c e
theorem zl3 {n}{j}{m}(hn:1000000<=n)(hh:j.model.zts.length<=1000)(hok:∀h∈j.model.zts,0<=h.table/\h.table<(j.model.tables.length:Int))(hw:WfM m)(hlen:m.es.length<=j.model.zts.length)(hk:∀t,t∈zcl m↔∃h∈j.model.zts,h.table=t):ztg (zh.l3 n j) n (m,0)=O (j.model.zts.all λh=>!za0 j.model.zts j.model.tables.length h.to h.table):=by cases hac:j.model.zts.all λh=>!za0 j.model.zts j.model.tables.length h.to h.table with
 |true=>
  have hac':∀h∈j.model.zts,za0 j.model.zts j.model.tables.length h.to h.table=false:=λh hm=>by grind
  have hrange:∀m':GMap Int Bool,(∀t∈zcl m',∃h∈j.model.zts,h.table=t)->m'.es≠[]->∃e∈m'.es,∀h∈j.model.zts,¬(h.table=e.2.1/\h.to∈zcl m'):=λm' hm' hne=>by
   obtain⟨t,ht,hs⟩:=zsj (hs:=j.model.zts) (T:=j.model.tables.length) (S:=zcl m') (by simpa[zcl]using hne) (λt ht=>by grind) hac';simp only[zcl,y9]at ht;grind
  refine zaS (body:=zh.l3 n j) (len:=j.model.zts.length) (st:=λm i=>(m,(i:Int))) (g:=λ_ _=>O U) (λi m=>WfM m/\m.es.length+i<=j.model.zts.length/\∀t∈zcl m,∃h∈j.model.zts,h.table=t) (λrec i m hi hI hr=>?_) (λrec m hI=>?_) n 0 m (yj _) (by omega) ⟨hw,by omega,λt ht=>(hk t).1 ht⟩
  ·obtain⟨h1,h2,h3⟩:=hI;simp only[zh.l3,zC hi,if_true];refine zi6 (r:=U) (by omega) (by omega) (λm' seen=>(WfM m'/\m'.clock=m.clock/\∀t∈zcl m',∃h∈j.model.zts,h.table=t)/\(m'.es.length+i+1<=j.model.zts.length\/m'.es.length+i<=j.model.zts.length/\∃e∈m'.left seen,∀h∈j.model.zts,¬(h.table=e.2.1/\h.to∈zcl m'))) (λm' seen hJ=>⟨hJ.1.1,hJ.1.2.1⟩) (λm' seen hJ hl=>?_) (λm' seen e hJ he=>?_) ⟨⟨h1,rfl,h3⟩,?_⟩ (by omega)
   ·rw[zd (by omega)];refine hr m' ⟨hJ.1.1,?_,hJ.1.2.2⟩;rcases hJ.2 with h|⟨-,e,he,-⟩;·omega
    grind
   ·obtain⟨⟨w1,w2,w3⟩,hd⟩:=hJ;have hem:e∈m'.es:=(List.mem_filter.1 he).1;obtain⟨d1,d2,d3,d4,-⟩:=w1.del hem;cases hb:j.model.zts.any λh=>h.table==e.2.1&&Z (h.to∈zcl m')with
    |true=>
     rw[if_pos rfl];refine⟨⟨w1,w2,w3⟩,?_⟩;rcases hd with hd|⟨hd,x,hx,hs⟩;·exact .inl hd
     ·refine .inr ⟨hd,x,?_,hs⟩;simp only[GMap.left,List.mem_filter]at hx|-;refine⟨hx.1,?_⟩;have hne:x.1≠e.1:=λe1=>by have:x=e:=zhU w1.nd x hx.1 e hem e1;subst this;simp only[uw,yd,beq_iff_eq,yg]at hb;obtain⟨h,hh,q⟩:=hb;exact hs h hh q
      simp only[yB,List.contains_eq_mem,yH,yu,yL,not_or]at hx|-;exact⟨hx.2,hne⟩|false=>
     rw[if_neg (by simp)];refine⟨⟨d1,by omega,λt ht=>?_⟩,.inl ?_⟩;·refine w3 t ?_;simp only[zcl,y9]at ht|-;obtain⟨x,hx,rfl⟩:=ht;exact⟨x,d4.subset hx,rfl⟩
     ·rcases hd with hd|⟨hd,-⟩<;>omega
   ·by_cases hne:m.es=[];·left;rw[hne];simp;omega
    ·right;refine⟨h2,?_⟩;obtain⟨e,he,hs⟩:=hrange m h3 hne;exact⟨e,by simp[GMap.left,he],hs⟩
  ·have:m.es.length=0:=by omega
   simp[zh.l3,this]|false=>
  obtain⟨h0,hm0,hl0⟩:∃h∈j.model.zts,za0 j.model.zts j.model.tables.length h.to h.table=true:=by simp only[List.all_eq_false]at hac;obtain⟨h,hm,hx⟩:=hac;exact⟨h,hm,by simpa using hx⟩
  have hclosed:∀t,((∃k,za0 j.model.zts k h0.to t=U)/\∃k,za0 j.model.zts k t h0.table=U)->∃h∈j.model.zts,h.table=t/\(∃k,za0 j.model.zts k h0.to h.to=U)/\∃k,za0 j.model.zts k h.to h0.table=U:=by
   rintro t⟨⟨a,ha⟩,b,hb⟩;have hcase:t=h0.table\/∃h∈j.model.zts,h.table=t/\∃k,za0 j.model.zts k h.to h0.table=true:=by cases b with
    |zero=>left;simpa[za0]using hb|succ b=>
     simp only[za0,yF,beq_iff_eq,uw,yd]at hb;rcases hb with hb|⟨h,hm,e,hx⟩;·exact .inl hb
     ·exact .inr ⟨h,hm,e,b,hx⟩
   rcases hcase with rfl|⟨h,hm,rfl,k,hx⟩;·exact⟨h0,hm0,rfl,⟨0,zfN⟩,_,hl0⟩
   ·exact⟨h,hm,rfl,⟨_,zj7 hm ha⟩,k,hx⟩
  generalize hC:(λt=>(∃k,za0 j.model.zts k h0.to t=U)/\∃k,za0 j.model.zts k t h0.table=U)=C at*;have hC':∀t,C t->∃h∈j.model.zts,h.table=t/\C h.to:=by intro t ht;rw[<-hC]at ht|-;exact hclosed t ht
  have hCs:C h0.to:=by rw[<-hC];exact⟨⟨0,zfN⟩,_,hl0⟩
  refine zaS (body:=zh.l3 n j) (len:=j.model.zts.length) (st:=λm i=>(m,(i:Int))) (g:=λ_ _=>O M) (λi m=>WfM m/\m.es.length<=1000/\∀t,C t->t∈zcl m) (λrec i m hi hI hr=>?_) (λrec m hI=>?_) n 0 m (yj _) (by omega) ⟨hw,by omega,λt ht=>(hk t).2 (by obtain⟨h,hh,e,-⟩:=hC' t ht;exact⟨h,hh,e⟩)⟩
  ·obtain⟨h1,h2,h3⟩:=hI;simp only[zh.l3,zC hi,if_true];refine zi6 (r:=M) (by omega) (by omega) (λm' seen=>WfM m'/\m'.clock=m.clock/\m'.es.length<=1000/\∀t,C t->t∈zcl m') (λm' seen hJ=>⟨hJ.1,hJ.2.1⟩) (λm' seen hJ hl=>?_) (λm' seen e hJ he=>?_) ⟨h1,rfl,h2,h3⟩ (by omega);·rw[zd (by omega)];exact hr m' ⟨hJ.1,hJ.2.2⟩
   ·obtain⟨w1,w2,w3,w4⟩:=hJ;have hem:e∈m'.es:=(List.mem_filter.1 he).1;obtain⟨d1,d2,d3,-,d5⟩:=w1.del hem;cases hb:j.model.zts.any λh=>h.table==e.2.1&&Z (h.to∈zcl m')with|true=>rw[if_pos rfl];exact⟨w1,w2,w3,w4⟩|false=>rw[if_neg (by simp)];refine⟨d1,by omega,by omega,λt ht=>d5 t (w4 t ht) λe1=>?_⟩;obtain⟨h,hh,hht,hto⟩:=hC' t ht;have:=List.any_eq_false.1 hb h hh;apply this;simp only[yd,beq_iff_eq,yg];exact⟨by omega,w4 _ hto⟩
  ·obtain⟨-,-,h3⟩:=hI;have:=h3 _ hCs;have hne:m.es.length≠0:=λe=>by simp only[zcl,List.length_eq_zero_iff.1 e,wz,vp]at this
   simp only[zh.l3,zan,ye,if_false,yn,uo];omega
theorem zkk {n m l}(hn:1000000<=n)(hS:ztW m):zh n ⟨m,l⟩=O (zlf m):=by
 have hhl:=hS.zts;have htl:=hS.tables;unfold zh zlf;rw[if_neg (by grind),decide_eq_true hhl,yC];have:=zav (body:=zh.l1 n ⟨m,l⟩) (l:=m.zts) (n:=n) (st:=λi=>(i:Int)) (zvI m) (O M) (ztg (zh.l2 n ⟨m,l⟩) n (wj,0)) (λrec i hi=>?_) (λrec=>?_) (by omega);·simp only[wd]at this;rw[this];cases hall:m.zts.all (zvI m)with|false=>simp|true=>
   rw[if_pos rfl,yC];have hok:∀h∈m.zts,0<=h.table/\h.table<(m.tables.length:Int):=λh hm=>by
    have:=yq.1 hall h hm;simp only[zvI,yd,yg]at this;grind
   refine zaS (body:=zh.l2 n ⟨m,l⟩) (len:=m.zts.length) (st:=λg i=>(g,(i:Int))) (g:=λ_ _=>O (m.zts.all λh=>!za0 m.zts m.tables.length h.to h.table)) (λi g=>WfM g/\g.es.length<=i/\∀t,t∈zcl g↔∃h∈m.zts.take i,h.table=t) (λrec i g hi hI hr=>?_) (λrec g hI=>?_) n 0 wj (yj _) (by omega) ⟨WfM.empty,by simp[wj],λt=>by simp[zcl,wj]⟩
   ·obtain⟨h1,h2,h3⟩:=hI;obtain⟨p1,p2,p3⟩:=h1.put m.zts[i].table;simp only[zh.l2,zC hi,if_true,zb hi,ya,zd (i:=i) (by omega)];refine hr _ ⟨p1,by omega,λt=>?_⟩;rw[p3,h3,yt hi];grind
   ·obtain⟨h1,h2,h3⟩:=hI;simp only[zh.l2,zan,ye,if_false];grind[zl3,wn]
 ·simp only[zh.l1,zaC,zC hi,if_true,zb hi,ya,yp,yy,ym,zd (i:=i) (by omega)];generalize m.zts[i]=h;by_cases hb:((0<=h.table/\h.table<(m.tables.length:Int))/\0<=h.to/\h.to<(m.tables.length:Int))/\h.table≠h.to
  ·simp only[grd,if_true];rw[if_neg (by simp[hb])];obtain⟨t,u,ht,hu⟩:=zor hb.1.1 hb.1.2;have hhp:zvI m h=(t.kind==0&&u.kind==0&&(Z (0<=h.column)&&Z (h.column<(t.ztd.length:Int))&&((u.ztd.length:Int)==1&&(idx u.ztd 0).getD J==(idx t.ztd h.column).getD J))):=by unfold zvI;rw[ht,hu];simp[hb]
   simp only[ht,hu,ya];rw[hhp];by_cases hk:(t.kind==0&&u.kind==0&&(Z (0<=h.column)&&Z (h.column<(t.ztd.length:Int))&&(u.ztd.length:Int)==1))=U
   ·have hk':=hk;simp only[yd,yg,beq_iff_eq]at hk';obtain⟨⟨k1,k2⟩,⟨k3,k4⟩,k5⟩:=hk';obtain⟨x,hx⟩:=za8 (l:=u.ztd) (i:=0) (by omega) (by omega);obtain⟨y,hy⟩:=za8 k3 k4;simp only[k1,k2,k3,k4,k5,hx,hy,ym,decide_true,beq_self_eq_true,bne_self_eq_false,yp,yy,Bool.or_false,yC,uN,ul,if_true];by_cases hxy:x=y;·simp[hxy]
    ·simp[hxy]
   ·have hf:(t.kind !=0||u.kind !=0||!(Z (0<=h.column)&&Z (h.column<(t.ztd.length:Int)))||(u.ztd.length:Int)!=1)=true:=by simp only[yd,yg,beq_iff_eq]at hk;simp only[yF,bne_iff_ne,yB,uz,yH];omega
    simp only[hf,uy,if_true];rw[<-vS (Z (0<=h.column)&&Z (h.column<(t.ztd.length:Int))),<-vS];simp only[yT]at hk;rw[hk];rfl
  ·have hhp:zvI m h=false:=by unfold zvI;cases hx:Z (0<=h.table)&&Z (h.table<(m.tables.length:Int))&&(Z (0<=h.to)&&Z (h.to<(m.tables.length:Int)))&&h.table !=h.to with|false=>rfl|true=>simp only[yd,yg,bne_iff_ne]at hx;exact absurd hx hb
   rw[hhp];simp only[grd,if_true];rw[if_pos (by simp only[yF,yB,uz,yH,beq_iff_eq];omega)];rfl
 ·simp[zh.l1]
def zfz (m:Model):Bool:=zbt m.ztj m.tables&&(Z (m.ztq.length<=24)&&zvb [] m.ztq)&&(zwH m (zY m.ztj U m.tables)&&(opsP m&&(zwQ m (zY m.ztj U m.tables).length&&zlf m)))
theorem zg2 {n m}(hF:Fuel n)(hS:ztW m):zey n m=O (zfz m):=by
 have u:=hF.big;have r:=hS.ztj;have d:=hS.tables;have q:=hS.ztq;have a:∀t∈m.tables,t.ztd.length<=1000:=λt h=>by have:=hS.tab t h;omega
 unfold zey zfz;rw[ze4 hF (by omega) (by omega) a,zfm hF (by omega)];simp only[ya,yp,yy,grd,if_true];have g:Z (24<(m.ztq.length:Int))=!decide (m.ztq.length<=24):=by grind
 rw[g];cases c:zbt m.ztj m.tables with
 |false=>simp|true=>
  by_cases b:(Z (m.ztq.length<=24)&&zvb [] m.ztq)=U
  ·simp only[yd]at b;rw[b.1,b.2,if_neg (by simp),zf7 hF (by omega) (by omega) a,c];simp only[if_true,ya];obtain⟨k,o,p,e⟩:=zb5 c;have f:=zdM (sizes:=m.ztj) (s:=U) (l:=m.tables) λx i=>(e x i).2.2.2.2;rw[zgT hS (λt d=>(e t d).2.2.2.1) (by omega) (by omega),zhl hF hS,zkk (by omega) hS];simp only[ym];cases zwH m (zY m.ztj U m.tables)with
   |false=>simp|true=>cases j:opsP m with|false=>simp|true=>grind[zjj]
  grind
theorem zkW {n m}(hn:4294967296<=n)(hS:ztW m):zfP n m=O (zfz m):=by
 have f:=hS.ztj;have g:=hS.tables;have i:=hS.ztq;have b:∀t∈m.tables,t.ztd.length<=1000/\t.name.length<=4096:=λt h=>by have:=hS.tab t h;omega
 unfold zfP zfz;rw[ze9 (by omega) (by omega) (by omega) b,zfq (by omega) (by omega) λw d=>by have:=hS.fam w d;omega];simp only[ya,yp,yy,grd,if_true];have e:Z (24<(m.ztq.length:Int))=!decide (m.ztq.length<=24):=by grind
 rw[e];cases c:zbt m.ztj m.tables with
 |false=>simp|true=>
  by_cases a:(Z (m.ztq.length<=24)&&zvb [] m.ztq)=U
  ·simp only[yd]at a;rw[a.1,a.2,if_neg (by simp),zgU hS c (by omega),zjl (by omega) hS c,zkt hn hS];grind
  grind
def zxK (m:Model):Bool:=Z (8<(m.ztj.length:Int))||Z (6<(m.tables.length:Int))||Z (20<(m.ztq.length:Int))||Z (60<(m.constraints.length:Int))||Z (8<(m.zth.length:Int))||Z (30<(m.zte.length:Int))||Z (12<(m.zts.length:Int))
def tabF (t:Table):Bool:=Z (t.name.length<=40)&&Z (t.ztd.length<=12)
def opF (o:ztQ):Bool:=Z (o.name.length<=40)&&Z (o.ztj.length<=6)
def actF (a:Action):Bool:=Z (a.arguments.length<=6)&&Z (a.effect.delta.length<=20)&&(Z (a.effect.hold.length<=10)&&Z (a.effect.ztm.length<=40))&&a.effect.hold.all λr=>Z (r.ztf.length<=20)
def zgI (m:Model):Bool:=!zxK m&&(m.tables.all tabF&&(m.ztq.all (λs=>Z (s.length<=40))&&(m.constraints.all (λc=>Z (c.row.ztf.length<=20))&&(m.zth.all opF&&m.zte.all actF))))
theorem zmW {a b:Nat}:Z ((a:Int)<(b:Int))=!decide (b<=a):=by grind
theorem zjk {n}{m}(hn:1000000<=n):zu n m=O (zgI m):=by unfold zu zgI;have hl:(Z (8<(m.ztj.length:Int))||Z (6<(m.tables.length:Int))||Z (20<(m.ztq.length:Int))||Z (60<(m.constraints.length:Int))||Z (8<(m.zth.length:Int))||Z (30<(m.zte.length:Int))||Z (12<(m.zts.length:Int)))=zxK m:=rfl;rw[hl];cases hlen:zxK m with|true=>simp[grd]|false=>
  simp only[zxK,ua,yH]at hlen;obtain⟨⟨⟨⟨⟨⟨b1,b2⟩,b3⟩,b4⟩,b5⟩,b6⟩,b7⟩:=hlen;have hfew:zc9 n m.ztj m.tables=O (m.tables.all tabF):=by
   have:=zav (body:=zc9.l1 n m.ztj m.tables) (l:=m.tables) (n:=n) (st:=λi=>(i:Int)) tabF (O M) (O U) (λrec i hi=>?_) (λrec=>?_) (by omega);·grind[wd,zc9,tabF]
   ·simp only[zc9.l1,zC hi,if_true,zb hi,ya,yp,yy,grd,ym,zd (i:=i) (by omega)];unfold tabF;grind
   grind[zc9.l1]
  rw[hfew];simp only[yp,yy,grd,if_true,ym,uI,ux,yC];cases m.tables.all tabF with
  |false=>simp|true=>
   rw[if_neg (by simp),yC];have h4:ztg (zu.l4 n m) n 0=O (m.zte.all actF):=by
    have:=zav (body:=zu.l4 n m) (l:=m.zte) (n:=n) (st:=λi=>(i:Int)) actF (O M) (O U) (λrec i hi=>?_) (λrec=>?_) (by omega);·simp only[wd]at this;rw[this];cases m.zte.all actF<;>rfl
    ·simp only[zu.l4,zC hi,if_true,zb hi,ya];unfold actF;by_cases hx:(Z (m.zte[i].arguments.length<=6)&&Z (m.zte[i].effect.delta.length<=20)&&(Z (m.zte[i].effect.hold.length<=10)&&Z (m.zte[i].effect.ztm.length<=40)))=U
     ·rw[hx,yC];simp only[yd,yg]at hx;rw[if_neg (by simp;omega)];have:=zav (body:=zu.l5 n i rec m.zte[i]) (l:=m.zte[i].effect.hold) (n:=n) (st:=λk=>(k:Int)) (λr=>Z (r.ztf.length<=20)) (O M) (rec ((i+1:Nat):Int)) (λrec' k hk=>?_) (λrec'=>?_) (by omega);·simpa using this
      ·simp only[zu.l5,zC hk,if_true,zb hk,ya,zd (i:=k) (by omega)];by_cases h:m.zte[i].effect.hold[k].ztf.length<=20;·rw[if_neg (by simp;omega),if_pos (by simp[h])]
       ·rw[if_pos (by simp;omega),if_neg (by simp[h])]
      ·simp only[zu.l5,zan,ye,if_false,zd (i:=i) (by omega)]
     ·rw[if_pos (by simp only[yd,yg]at hx;simp only[yF,yg];omega)];simp only[yT]at hx;rw[hx,uf,if_neg (by simp)]
    ·simp[zu.l4]
   have h3:ztg (zu.l3 n m) n 0=O (m.zth.all opF&&m.zte.all actF):=by
    have:=zav (body:=zu.l3 n m) (l:=m.zth) (n:=n) (st:=λi=>(i:Int)) opF (O M) (O (m.zte.all actF)) (λrec i hi=>?_) (λrec=>?_) (by omega);·simp only[wd]at this;rw[this];cases m.zth.all opF<;>rfl
    ·simp only[zu.l3,zC hi,if_true,zb hi,ya,yp,yy,grd,ym,zd (i:=i) (by omega)];unfold opF;by_cases h1:m.zth[i].name.length<=40
     ·by_cases h2:m.zth[i].ztj.length<=6;·rw[if_neg (by simp;omega),if_pos (by simp[h1,h2])]
      ·rw[if_pos (by simp;omega),if_neg (by simp[h2])]
     ·rw[if_pos (by simp;omega),if_neg (by simp[h1])]
    ·simp only[zu.l3,zan,ye,if_false,h4]
   have h2:ztg (zu.l2 n m) n 0=O (m.constraints.all (λc=>Z (c.row.ztf.length<=20))&&(m.zth.all opF&&m.zte.all actF)):=by
    have:=zav (body:=zu.l2 n m) (l:=m.constraints) (n:=n) (st:=λi=>(i:Int)) (λc=>Z (c.row.ztf.length<=20)) (O M) (O (m.zth.all opF&&m.zte.all actF)) (λrec i hi=>?_) (λrec=>?_) (by omega);·simp only[wd]at this;rw[this];cases m.constraints.all λc=>Z (c.row.ztf.length<=20)<;>rfl
    ·simp only[zu.l2,zC hi,if_true,zb hi,ya,zd (i:=i) (by omega)];by_cases h:m.constraints[i].row.ztf.length<=20;·rw[if_neg (by simp;omega),if_pos (by simp[h])]
     ·rw[if_pos (by simp;omega),if_neg (by simp[h])]
    ·simp only[zu.l2,zan,ye,if_false,h3]
   have:=zav (body:=zu.l1 n m) (l:=m.ztq) (n:=n) (st:=λi=>(i:Int)) (λs=>Z (s.length<=40)) (O M) (O (m.constraints.all (λc=>Z (c.row.ztf.length<=20))&&(m.zth.all opF&&m.zte.all actF))) (λrec i hi=>?_) (λrec=>?_) (by omega);·simp only[wd]at this;rw[this];cases m.ztq.all λs=>Z (s.length<=40)<;>rfl
   ·simp only[zu.l1,zC hi,if_true,zb hi,ya,zd (i:=i) (by omega)];by_cases h:m.ztq[i].length<=40;·rw[if_neg (by simp;omega),if_pos (by simp[h])]
    ·rw[if_pos (by simp;omega),if_neg (by simp[h])]
   ·simp only[zu.l1,zan,ye,if_false,h2]
theorem zgX {m}(h:zgI m=U):ztW m:=by simp only[zgI,zxK,tabF,opF,actF,yd,yB,ua,yH,yq,yg]at h;obtain⟨⟨⟨⟨⟨⟨⟨j,k⟩,l⟩,n⟩,g⟩,b6⟩,i⟩,c,d,b,e,o⟩:=h;exact⟨by omega,by omega,c,by omega,d,by omega,b,by omega,e,by omega,λa f=>by grind,by omega⟩
def zwW:Int->List Range->Bool|_,[]=>U|p,r::l=>!decide (4096<zto p (ztc (ztn r.hi r.lo) 1))&&zwW (zto p (ztc (ztn r.hi r.lo) 1)) l
def zdD (m:Model):List Range:=if zbt m.ztj m.tables=U then zY m.ztj U m.tables else[]
def fewP (m:Model):Bool:=zgI m&&Z (m.zte.length<=12)&&Z (m.constraints.length<=40)&&(m.zte.all (λa=>Z (a.effect.hold.length<=4))&&(Z ((zdD m).length<=12)&&zwW 1 (zdD m)))
theorem zku {n}{m}(hn:1000000<=n)(hS:ztW m):zcr n m=O (zdD m):=by have b:=hS.ztj;have a:=hS.tables;unfold zcr;rw[zeA hn (by omega) (by omega) λt h=>by have:=hS.tab t h;omega];rfl
theorem zm3 {n}{m}(hn:1000000<=n):zbO n m=O (fewP m):=by unfold zbO fewP;rw[zjk hn,ya];have f:Z (12<(m.zte.length:Int))=!decide (m.zte.length<=12):=zmW (a:=12);have j:Z (40<(m.constraints.length:Int))=!decide (m.constraints.length<=40):=zmW (a:=40);rw[f,j,<-Bool.not_and,<-Bool.not_and];cases d:zgI m&&Z (m.zte.length<=12)&&Z (m.constraints.length<=40)with
 |false=>simp|true=>
  simp only[yd,yg]at d;have e:=zgX d.1.1;have T:(if Z (12<((zdD m).length:Int))=U then O M else ztg (zbO.l2 n (zdD m)) n (1,0))=O (Z ((zdD m).length<=12)&&zwW 1 (zdD m)):=by
   by_cases h:(zdD m).length<=12
   ·rw[if_neg (by grind),decide_eq_true h,yC];refine zaS (body:=zbO.l2 n (zdD m)) (len:=(zdD m).length) (st:=λp i=>(p,i)) (g:=λi p=>O (zwW p ((zdD m).drop i))) (λ_ _=>True) (λb i p c _ k=>?_) (λb p _=>?_) n 0 1 (yj _) (by omega) trivial
    ·simp only[zbO.l2,zb c,zd (i:=i) (by omega)];grind[zj,zwW]
    ·simp[zbO.l2,zwW]
   grind
  have:=zav (body:=zbO.l1 n m) (l:=m.zte) (n:=n) (st:=λi=>i) (λa=>Z (a.effect.hold.length<=4)) (O M) (O (Z ((zdD m).length<=12)&&zwW 1 (zdD m))) (λb i c=>?_) (λb=>?_) (by omega);·grind
  ·simp only[zbO.l1,zb c,zd (i:=i) (by omega)];grind
  ·simp only[zbO.l1,zan,ye,if_false,zku hn e,ya,T]
theorem zlc {m}(h:fewP m=U):ztW m:=by
 simp only[fewP]at h;grind[zgX]
structure zuS (m:Model):Prop where
 lay:zbt m.ztj m.tables=U
 fams:m.ztq.length<=24/\zvb [] m.ztq=U
 cons:zwH m (zY m.ztj U m.tables)=U
 ops:opsP m=U
 acts:zwQ m (zY m.ztj U m.tables).length=U
 hid:zlf m=U
theorem zfA {m}:zfz m=U↔zuS m:=by simp only[zfz,yd,yg];exact⟨λ⟨⟨a,b,c⟩,d,e,f,g⟩=>⟨a,⟨b,c⟩,d,e,f,g⟩,λ⟨a,⟨b,c⟩,d,e,f,g⟩=>⟨⟨a,b,c⟩,d,e,f,g⟩⟩
def stepT (s:Nat)(L:List (List Int)):List (List Int):=L.flatMap λl=>(xr s).map λe:Nat=>l++[(e:Int)]
def zfe (sizes:List Int):List Int->List (List Int)->List (List Int)|[],L=>L|c::cols,L=>zfe sizes cols (stepT (zc2 sizes c).toNat L)
def zea (sizes cols:List Int):List (List Int):=zfe sizes cols [[]]
theorem zhc (sizes):∀(a b)(L),zfe sizes (a++b) L=zfe sizes b (zfe sizes a L)|[],_,_=>rfl|_::a,b,L=>by exact zhc sizes a b _
theorem znn {s L}:(stepT s L).length=L.length*s:=by induction L with|nil=>simp[stepT]|cons l L ih=>grind[stepT]
theorem zqD {s L k}(h:∀l∈L,l.length=k):∀l∈stepT s L,l.length=k+1:=λl a=>by
 simp only[stepT]at a;grind
theorem zps {s}{L:List (List Int)}{i}(hi):stepT s (L.take (i+1))=stepT s (L.take i)++(xr s).map λe:Nat=>L[i]++[(e:Int)]:=by grind[wi,stepT]
def zd1 (i:Nat)(L:List (List Int)):List Place:=L.map λl=>⟨(i:Int),l⟩
def zcS (sizes:List Int)(s:Bool):List Table->Nat->List Place|[],_=>[]|t::l,i=>(if Z (t.kind<=1)=s then zd1 i (zea sizes t.ztd)else[])++zcS sizes s l (i+1)
theorem zg4 (sizes s):∀(a b)(i),zcS sizes s (a++b) i=zcS sizes s a i++zcS sizes s b (i+a.length)
 |[],b,i=>by simp[zcS]|t::a,b,i=>by
  simp only[ur,zcS,zg4 sizes s a b];grind
theorem zja {sizes}{s}{l:List Table}{i}(hi):zcS sizes s (l.take (i+1)) 0=zcS sizes s (l.take i) 0++if Z (l[i].kind<=1)=s then zd1 i (zea sizes l[i].ztd)else[]:=by
 rw[yt hi,zg4];simp only[zcS];grind
theorem zse {n}{x40}{rec}{l}{s:Nat}{b}{k:Nat}(hk:ztc x40 1=(k:Int))(hs:s<=6)(hl:l.length<=100)(hb:b.length<=100000)(hn:1000000<=n):ztg (zo.l4 n x40 rec l (s:Int)) n (b,0)=rec (b++(xr s).map λe:Nat=>l++[(e:Int)],(k:Int)):=by
 have:=zw (body:=zo.l4 n x40 rec l s) (len:=s) (st:=λi=>(b++(xr i).map λe:Nat=>l++[(e:Int)],i)) (g:=λ_=>rec (b++(xr s).map λe:Nat=>l++[(e:Int)],k)) (λa i d c=>?_) (λa=>?_) n 0 (yj _) (by omega);·grind
 ·rw[uG,uq,<-yJ]at c;simp only[zo.l4,zd (i:=i) (by omega)];grind[zl]
 ·simp only[zo.l4,zhJ (yo s),ye,if_false,hk]
theorem zsd {n}{m}{L}{x34 x36}{rec}{s k:Nat}(hk:ztc x34 1=(k:Int))(hx:idx m.ztj x36=O (s:Int))(hs:s<=6)(hl:∀l∈L,l.length<=100)(hL:L.length<=1000)(hn:1000000<=n):ztg (zo.l3 n m L x34 rec x36) n ([],0)=rec (stepT s L,(k:Int)):=by
 have:=zw (body:=zo.l3 n m L x34 rec x36) (len:=L.length) (st:=λi=>(stepT s (L.take i),i)) (g:=λ_=>rec (stepT s L,k)) (λb i c d=>?_) (λb=>?_) n 0 (yj _) (by omega);·grind[stepT]
 ·rw[zps c]at d;simp only[zo.l3,zC c,zb c,ya,hx];have a:(stepT s (L.take i)).length<=100000:=by rw[znn,ud];have:min i L.length*s<=1000*6:=y8 (by omega) hs;omega
  rw[zse (k:=i+1) (zd (by omega)) hs (hl _ (yi c)) a hn];exact d
 ·simp only[zo.l3,zan,ye,if_false,hk,wn]
theorem zsf {n}{i:Nat}{rec}{t}{L}{b1 b2}(hi:i<1000000)(hL:L.length<=1000)(h1:b1.length<=100000)(h2:b2.length<=100000)(hn:1000000<=n):ztg (zo.l5 n (i:Int) rec t L) n (b1,b2,0)=rec (b1++if Z (t.kind<=1)=U then zd1 i L else[],b2++if Z (t.kind<=1)=M then zd1 i L else[],((i+1:Nat):Int)):=by cases hk:Z (t.kind<=1)with
 |true=>
  have:=zw (body:=zo.l5 n (i:Int) rec t L) (len:=L.length) (st:=λk=>(b1++zd1 i (L.take k),b2,(k:Int))) (g:=λ_=>rec (b1++zd1 i L,b2,((i+1:Nat):Int))) (λrec' k hk' hr=>?_) (λrec'=>?_) n 0 (yj _) (by omega);·grind[zd1]
  ·simp only[zd1]at hr|-;rw[<-zeg hk',<-yJ]at hr;simp only[zo.l5,jn,zb hk',zd (i:=k) (by omega)];grind[zl]
  ·simp only[zo.l5,zan,ye,if_false,wn,zd (i:=i) (by omega)]|false=>
  have:=zw (body:=zo.l5 n (i:Int) rec t L) (len:=L.length) (st:=λk=>(b1,b2++zd1 i (L.take k),(k:Int))) (g:=λ_=>rec (b1,b2++zd1 i L,((i+1:Nat):Int))) (λrec' k hk' hr=>?_) (λrec'=>?_) n 0 (yj _) (by omega);·grind[zd1]
  ·simp only[zd1]at hr|-;rw[<-zeg hk',<-yJ]at hr;simp only[zo.l5,jn,zC hk',if_true,zb hk',ya,hk,ye,if_false,zd (i:=k) (by omega)];grind[zl]
  ·simp only[zo.l5,zan,ye,if_false,wn,zd (i:=i) (by omega)]
theorem zig {sizes}(hs:sizes.all zcI=U):∀(cols)(L)(A k),cols.all (zt4 sizes)=U->L.length<=A->(∀l∈L,l.length=k)->(zfe sizes cols L).length<=A*6^cols.length/\∀l∈zfe sizes cols L,l.length=k+cols.length
 |[],L,A,k,_,h1,h2=>by grind[zfe]|c::cols,L,A,k,hc,h1,h2=>by
  simp only[um,yd]at hc;have hz:=zia hs hc.1;have hlen:(stepT (zc2 sizes c).toNat L).length<=A*6:=by rw[znn];exact y8 h1 (by omega)
  obtain⟨p1,p2⟩:=zig hs cols (stepT (zc2 sizes c).toNat L) (A*6) (k+1) hc.2 hlen (zqD h2);grind[zfe,List.length_cons,Nat.pow_succ,Nat.mul_comm,Nat.mul_assoc]
theorem zfX {sizes cols}(hs:sizes.all zcI=U)(hc:cols.all (zt4 sizes)=U)(h3:cols.length<=3):(zea sizes cols).length<=216/\∀l∈zea sizes cols,l.length=cols.length:=by obtain⟨b,c⟩:=zig hs cols [[]] 1 0 hc (by simp) (by simp);refine⟨yI b ?_,λl a=>by simpa using c l a⟩;have:6^cols.length<=6^3:=uj (by decide) h3;omega
theorem zsc {n}{m}{b1 b2}{i:Nat}{rec}{t}(hs:m.ztj.all zcI=U)(hc:t.ztd.all (zt4 m.ztj)=U)(h3:t.ztd.length<=3)(hi:i<1000000)(h1:b1.length<=100000)(h2:b2.length<=100000)(hn:1000000<=n):ztg (zo.l2 n m b1 b2 (i:Int) rec t) n ([[]],0)=rec (b1++if Z (t.kind<=1)=U then zd1 i (zea m.ztj t.ztd)else[],b2++if Z (t.kind<=1)=M then zd1 i (zea m.ztj t.ztd)else[],((i+1:Nat):Int)):=by
 have hpre:∀k,(t.ztd.take k).all (zt4 m.ztj)=true:=λk=>yq.2 λc hm=>yq.1 hc c (wq hm);have:=zw (body:=zo.l2 n m b1 b2 (i:Int) rec t) (len:=t.ztd.length) (st:=λk=>(zea m.ztj (t.ztd.take k),(k:Int))) (g:=λ_=>rec (b1++if Z (t.kind<=1)=U then zd1 i (zea m.ztj t.ztd)else[],b2++if Z (t.kind<=1)=M then zd1 i (zea m.ztj t.ztd)else[],((i+1:Nat):Int))) (λrec' k hk hr=>?_) (λrec'=>?_) n 0 (yj _) (by omega);·grind[zea,zfe]
 ·have hcol:=yq.1 hc _ (yi hk);have hz:=zia hs hcol;obtain⟨p1,p2⟩:=zfX hs (hpre k) (by grind);have hsz:idx m.ztj t.ztd[k]=O (((zc2 m.ztj t.ztd[k]).toNat:Nat):Int):=by grind[zfK,zc2]
  simp only[zo.l2,zC hk,if_true,zb hk,ya];rw[zsd (k:=k+1) (zd (by omega)) hsz (by omega) (λl hl=>by grind) (by omega) hn,<-hr];unfold zea;rw[yt hk,zhc];rfl
 ·obtain⟨p1,-⟩:=zfX hs hc h3;simp only[zo.l2,zan,ye,if_false,wn];exact zsf hi (by omega) h1 h2 hn
theorem zhp {sizes s}:∀{l}{i},(∀t∈l,(zea sizes t.ztd).length<=216)->(zcS sizes s l i).length<=l.length*216
 |[],_,_=>by simp[zcS]|t::l,i,h=>by
  have b:=zhp (s:=s) (l:=l) (i:=i+1) λx a=>h x (by simp[a]);grind[zcS,zd1]
def zl6 (m:Model):zuE:=⟨m,zcS m.ztj U m.tables 0,zcS m.ztj M m.tables 0⟩
theorem zjq {n}{m}(hF:Fuel n)(hS:ztW m):zo n m=O (if zfz m=U then(O (zl6 m),U)else(Y,M)):=by have v:=hF.big;unfold zo;rw[zg2 hF hS,ya];cases p:zfz m with
 |false=>simp|true=>
  have q:=zfA.1 p;obtain⟨w,x,h,e⟩:=zb5 q.lay;have f:=λt a=>(zfX h (e t a).2.2.2.1 (e t a).2.2.1).1;have:=zw (body:=zo.l1 n m) (len:=m.tables.length) (st:=λi=>(zcS m.ztj U (m.tables.take i) 0,zcS m.ztj M (m.tables.take i) 0,i)) (g:=λ_=>O (O (zl6 m),U)) (λd i b j=>?_) (λd=>?_) n 0 (yj _) (by omega);·grind[zcS]
  ·have c:=yi b;obtain⟨-,-,o,r,-⟩:=e _ c;have u:=zhp (s:=U) (l:=m.tables.take i) (i:=0) λt a=>f t (wq a);have k:=zhp (s:=M) (l:=m.tables.take i) (i:=0) λt a=>f t (wq a);simp only[ud]at u k;rw[zja b,zja b]at j;simp only[zo.l1,zC b,zb b,ya];rw[zsc h r o (by omega) (by omega) (by omega) (by omega)];exact j
  ·simp[zo.l1,zl6]
def zf0 (m:Model)(q:Question):Bool:=Z (0<=q.e)&&Z (q.e<(m.zte.length:Int))&&(Z (0<=q.f)&&Z (q.f<(m.zte.length:Int)))&&Z (0<=q.target.index)&&if q.target.hold=U then Z (q.target.index<(((idx m.zte q.e).getD J).effect.hold.length:Int))else Z (q.e<=q.f)&&Z (q.target.index<(m.constraints.length:Int))
theorem zwk {m q}:(if(Z (q.e<0)||Z (q.f<0)||Z ((m.zte.length:Int)<=q.e)||Z ((m.zte.length:Int)<=q.f)||Z (q.target.index<0))=U then O M else if q.target.hold=U then(idx m.zte q.e).bind λx=>O (Z (q.target.index<(x.effect.hold.length:Int)))else O (Z (q.e<=q.f)&&Z (q.target.index<(m.constraints.length:Int))))=O (zf0 m q):=by
 unfold zf0;by_cases h:((0<=q.e/\q.e<m.zte.length)/\0<=q.f/\q.f<m.zte.length)/\0<=q.target.index
 ·obtain⟨a,b⟩:=za8 h.1.1.1 h.1.1.2;grind
 grind
theorem zfy {n m q}(hF:Fuel n)(hS:ztW m):zda n m q=O (zfz m&&zf0 m q):=by unfold zda;rw[zjq hF hS,ya];cases zfz m with
 |false=>simp[grd]|true=>
  have:zbx n (zl6 m) q=O (zf0 m q):=zwk;grind[grd]
theorem zg7 {n m q}(hn:4294967296<=n)(hS:ztW m):zfQ n m q=O (zfz m&&zf0 m q):=by unfold zfQ;rw[zkW hn hS,ya];cases zfz m with|false=>simp|true=>exact zwk
theorem zpb:zhk 18446744073709551616=O true:=by decide+kernel
theorem zl5:(zbH 18446744073709551616).map (λm=>m.es.map λe=>e.2)=O (kwL.map λk=>(k,U)):=by decide+kernel
theorem zsV:Fuel 18446744073709551616:=by refine⟨by decide,?_⟩;have h:=zl5;cases b:zbH 18446744073709551616 with
 |none=>simp_all|some m=>
  rw[b]at h;simp only[yS,yn]at h;refine⟨m,rfl,λe c=>?_,λk=>?_⟩;·grind[List.mem_map_of_mem]
  ·have:m.es.map (λe=>e.2.1)=kwL:=by
    have a:m.es.map (λe=>e.2.1)=(m.es.map λe=>e.2).map (·.1):=by simp
    rw[a,h,List.map_map];exact List.map_id kwL
   grind
theorem zhi {K}:∀(l)(last),zgZ K last l=U->(∀d∈l,last<d.cell/\d.cell<(K:Int)/\d.add≠0/\-1000000000<=d.add/\d.add<=1000000000)/\(l.map (·.cell)).Nodup
 |[],_,_=>by simp|d::l,last,h=>by
  simp only[zgZ,zaV,yd]at h;obtain⟨⟨⟨⟨i,c⟩,e⟩,f,g⟩,a⟩:=h;obtain⟨j,b⟩:=zhi l d.cell a;grind
theorem znr {m}(hV:zuS m){a}(ha:a∈m.zte):effP m (zY m.ztj U m.tables).length a.effect=U/\0<=a.operation/\a.operation<(m.zth.length:Int):=by have h:=hV.acts;simp only[zwQ,yd]at h;obtain⟨i,b,rfl⟩:=List.mem_iff_getElem.1 ha;have:=ziW.1 h.2 i b;simp only[zb b,actP]at this;simp_all
theorem zkH {m}(hV:zuS m){c}(hc:c∈m.constraints):zeU (zY m.ztj U m.tables).length c=U\/acyP m c=true:=by have h:=hV.cons;simp only[zwH,yd]at h;obtain⟨i,a,rfl⟩:=List.mem_iff_getElem.1 hc;have:=ziW.1 h.2 i a;simp only[zb a,conP]at this;simp_all
theorem zlE {m}(hV:zuS m){c}(h:acyP m c=U):c.kind=1/\1<=c.size/\c.size<=6:=by obtain⟨p,j,i,f⟩:=zb5 hV.lay;simp only[acyP,zg1,yd,uw,beq_iff_eq]at h;obtain⟨l,-,t,e,d⟩:=h;simp only[zhL,yd,beq_iff_eq]at d;obtain⟨⟨k,g⟩,⟨n,o⟩,b⟩:=d;obtain⟨⟨x,q⟩,-,z,a⟩:=ziz (f t e).2.2.2.1 g;rw[a]at b;simp only[ym]at b;have:=yq.1 i z (zbb a);simp only[zcI,yd,yg]at this;omega
theorem zlW {n m}(hn:4294967296<=n)(hS:ztW m)(hV:zuS m):Good n m:=by
 refine⟨λa d=>?_,λc e=>?_⟩;·obtain⟨i,l,p,j,k⟩:=hS.act a d;have f:=(znr hV d).1;simp only[effP]at f;grind[zhi,zjJ]
 ·have o:=hS.con c e;rcases zkH hV e with h|h;·simp only[zeU,yd,beq_iff_eq]at h;refine⟨.inl h.1.1.1,by omega,by omega,0,?_,by decide,by omega⟩;rw[h.1.2];rfl
  ·obtain⟨g,q,b⟩:=zlE hV h;refine⟨.inr g,by omega,by omega,c.size.toNat*c.size.toNat,?_,?_,?_⟩
   ·have:=uZ b b (by omega) (by omega);grind[zto,zaf]
   ·have:c.size.toNat*c.size.toNat<=6*6:=y8 (by omega) (by omega);omega
   ·have:c.size.toNat*c.size.toNat<=6*6:=y8 (by omega) (by omega);omega
theorem zkr {m q}(h:zf0 m q=U):(0<=q.e/\q.e<(m.zte.length:Int))/\(0<=q.f/\q.f<(m.zte.length:Int))/\0<=q.target.index/\(q.target.hold=U->∀a,idx m.zte q.e=O a->q.target.index<(a.effect.hold.length:Int))/\(q.target.hold=M->q.e<=q.f/\q.target.index<(m.constraints.length:Int)):=by
 simp only[zf0]at h;grind
def nextL:List Range->List Int->Option (List Int)
 |r::rs,x::xs=>match nextL rs xs with
  |some ys=>O (x::ys)|none=>if x<r.hi then O ((x+1)::rs.map (·.lo))else Y
 |_,_=>Y
def zv6:List Range->List Int->Bool|r::rs,x::xs=>Z (r.lo<=x)&&Z (x<=r.hi)&&zv6 rs xs|[],[]=>U|_,_=>M
def zws (box:List Range):Bool:=box.all λr=>Z (r.lo<=r.hi)&&(Z (-9999<=r.lo)&&Z (r.hi<=9999))
theorem zj5:∀{box}{s},zv6 box s=U->s.length=box.length|[],[],_=>rfl|[],_::_,h=>by grind[zv6]|_::_,[],h=>by grind[zv6]|_::b,_::a,h=>by simp only[zv6,yd]at h;simp[zj5 h.2]
theorem zj4:∀{box}{s}(h:zv6 box s=U)(i)(hi)(hs:i<s.length),box[i].lo<=s[i]/\s[i]<=box[i].hi
 |[],_,_,i,hi,_=>by grind|_::_,[],h,_,_,_=>by grind|r::b,x::a,h,0,_,_=>by
  simp only[zv6]at h;grind|r::b,x::a,h,i+1,hi,hs=>by simp only[zv6,yd]at h;simpa using zj4 h.2 i (by simp_all) (by simp_all)
def sumP (s:List Int):List Term->Int|[]=>0|t::l=>t.ztl*s.getD t.cell.toNat 0+sumP s l
def zf4 (k:Nat)(t:Term):Prop:=0<=t.cell/\t.cell<(k:Int)/\-1000<=t.ztl/\t.ztl<=1000
def ztb (s:List Int):Prop:=∀x∈s,-4000000000<=x/\x<=4000000000
theorem zi9 {f x B:Int}(h1:-1000<=f)(h2:f<=1000)(h3:-B<=x)(h4:x<=B):-(1000*B)<=f*x/\f*x<=1000*B:=by
 have hB:0<=B:=by omega
 have a1:f.natAbs<=1000:=by omega
 have a2:x.natAbs<=B.toNat:=by omega
 have a3:(f*x).natAbs<=1000*B.toNat:=by rw[Int.natAbs_mul];exact y8 a1 a2
 omega
theorem zqZ {s:List Int}{c:Int}(h0:0<=c)(h1:c<(s.length:Int)):idx s c=O (s.getD c.toNat 0):=by
 obtain⟨k,rfl⟩:=yX h0;have:k<s.length:=by omega
 rw[zb this];simp[vo,this]
def anyR (p:Nat->Bool)(i:Nat):Nat->Bool|0=>M|k+1=>p i||anyR p (i+1) k
theorem zmC {p q}:∀{k i},(∀j,i<=j->j<i+k->p j=U->q j=U)->anyR p i k=U->anyR q i k=U
 |0,_,_,h=>by grind[anyR]|k+1,i,a,h=>by
  simp only[anyR,yF]at h|-;rcases h with h|h;·simp_all
  ·exact .inr (zmC (λj c b=>a j (by omega) (by omega)) h)
def neP (E:Nat->Nat->Bool)(size:Nat):Nat->List Int->Nat->Nat->Bool|0,_,first,last=>E last first|d+1,path,first,last=>anyR (λx=>!(Z ((x:Int)∈path)||!E last x)&&neP E size d (path++[(x:Int)]) first x) (first+1) (size-(first+1))
theorem zoD {E F size}(h:∀a b,a<size->b<size->E a b=U->F a b=U):∀(d)(path)(first last),first<size->last<size->neP E size d path first last=U->neP F size d path first last=U|0,_,first,last,e,f,g=>h _ _ f e g|d+1,path,first,last,e,f,g=>by refine zmC (λj i k c=>?_) g;simp only[yd,yB,ua,Bool.not_eq_false']at c|-;exact⟨⟨c.1.1,h _ _ f (by omega) c.1.2⟩,zoD h d _ first j e (by omega) c.2⟩
def zuQ (s:List Int)(c:Constraint)(a b:Nat):Bool:=Z (1<=s.getD (c.first+(a:Int)*c.size+(b:Int)).toNat 0)
structure zwP (c:Constraint)(s:List Int)(size:Nat):Prop where
 sz:c.size=(size:Int)pos:1<=size
 six:size<=6
 first:0<=c.first
 fits:c.first+(size*size:Nat)<=(s.length:Int)len:s.length<=1000
theorem zpN {n c s size a b}(h:zwP c s size)(ha:a<size)(hb:b<size):zfp n c s a b=O (zuQ s c a b):=by
 have e:a*size+b<size*size:=by
  have:=yM size (show a+1<=size by omega);grind
 have f:=h.fits;have g:=h.len;have i:=h.first;have j:a*c.size=(a*size:Nat):=by rw[h.sz,uJ]
 unfold zfp zuQ;have k:zto a c.size=a*size:=by grind[zto,zaf]
 have l:ztc c.first (a*size)=c.first+a*size:=by grind[ztc,zaf]
 have d:ztc (c.first+a*size) b=c.first+a*size+b:=by grind[ztc,zaf]
 grind[zqZ]
theorem zm2 {n l x}(hl:l.length<1000000)(hn:1000000<=n):zd2 n l x=O (Z (x∈l)):=by
 have:=zw (body:=zd2.l1 n l x) (len:=l.length) (st:=λi=>i) (g:=λi=>O (Z (x∈l.drop i))) (λa i b c=>?_) (λa=>?_) n 0 (yj _) (by omega);·grind[zd2]
 ·simp only[zd2.l1,zb b,zd (i:=i) (by omega)];rw[zj b];grind
 ·simp[zd2.l1]
theorem zra {c s size}(hG:zwP c s size):∀(d m:Nat)(path:List Int)(first last:Nat),d<=6->1000000+d<m->1<=path.length->path.length+d<=10->idx path 0=O (first:Int)->idx path ((path.length-1:Nat):Int)=O (last:Int)->first<size->last<size->∃L,zbe m c s path ((path.length+d:Nat):Int)=O L/\(L≠[]↔neP (zuQ s c) size d path first last=U)/\L.length<=6^d/\∀p∈L,p≠[]
 |d,0,_,_,_,_,h,_,_,_,_,_,_=>by omega|0,m+1,path,first,last,_,hm,hp,hp2,h0,hl,hf,hla=>by simp only[zbe,zbe.body];rw[zd9 (by omega) (by omega),hl,h0];simp only[ya,ut,beq_self_eq_true,if_true,zpN hG hla hf,neP];cases zuQ s c last first with|true=>exact⟨[path],rfl,by simp,by simp,λp hp'=>by simp only[yL]at hp';subst hp';intro e;rw[e]at hp;simp at hp⟩|false=>exact⟨[],rfl,by simp,by simp,λp hp'=>by simp at hp'⟩
 |d+1,m+1,path,first,last,hd6,hm,hp,hp2,h0,hl,hf,hla=>by
  have h6:=hG.six;simp only[zbe,zbe.body];rw[zd9 (by omega) (by omega),hl,h0];simp only[ya];rw[if_neg (by simp;omega),zd (by omega),neP];have hpow:1<=6^d:=Nat.one_le_pow _ _ (by decide);have hpow2:6^d<=46656:=yI (uj (by decide) (show d<=6 by omega)) (by decide);have main:=zc5 (body:=zbe.l1 m (zbe m) c s path ((path.length+(d+1):Nat):Int) (last:Int)) (λst=>size-st.2.toNat) (λst=>∃i:Nat,st.2=(i:Int)/\i<=size/\st.1.length<=i*6^d) (λst o=>∃L,o=O (st.1++L)/\(L≠[]↔anyR (λx=>!(Z ((x:Int)∈path)||!zuQ s c last x)&&neP (zuQ s c) size d (path++[(x:Int)]) first x) st.2.toNat (size-st.2.toNat)=U)/\L.length<=(size-st.2.toNat)*6^d/\∀p∈L,p≠[]) (λrec st hI hr=>by
    obtain⟨b,x⟩:=st;obtain⟨i,rfl,hi,hb⟩:=hI;simp only[]at hb hr;simp only[zbe.l1,jn,yv];by_cases hlt:i<size
    ·have hsz:Z ((i:Int)<c.size)=true:=by rw[hG.sz];exact zkf hlt
     have hb2:b.length<=300000:=by have:i*6^d<=6*46656:=y8 (by omega) hpow2;omega
     simp only[hsz,if_true,zm2 (show path.length<1000000 by omega) (show 1000000<=m by omega),zpN hG hla hlt,ya,yp,yy,grd,ym,zd (i:=i) (by omega)];rw[show size-i=size-(i+1)+1 by omega,anyR];have hnx:∀b':List (List Int),b'.length<=(i+1)*6^d->∃L,rec (b',((i+1:Nat):Int))=O (b'++L)/\(L≠[]↔anyR (λx=>!(Z ((x:Int)∈path)||!zuQ s c last x)&&neP (zuQ s c) size d (path++[(x:Int)]) first x) (i+1) (size-(i+1))=U)/\L.length<=(size-(i+1))*6^d/\∀p∈L,p≠[]:=λb' hb'=>by have:=hr (b',((i+1:Nat):Int)) ⟨i+1,rfl,by omega,hb'⟩ (by simp only[yv];omega);simpa only[yv]using this
     by_cases hsk:(Z ((i:Int)∈path)||!zuQ s c last i)=U;·rw[if_pos hsk,hsk];obtain⟨L,l1,l2,l3,l4⟩:=hnx b (by rw[uu];omega);refine⟨L,l1,by simpa using l2,by rw[uu];omega,l4⟩
     ·rw[if_neg hsk];simp only[yT]at hsk;rw[hsk,zl (by simp;omega),ya,zl (by simp;omega),ya];simp only[yP];obtain⟨L',p1,p2,p3,p4⟩:=zra hG d m (path++[(i:Int)]) first i (by omega) (by omega) (by simp) (by simp;omega) (by
       obtain⟨y,hy⟩:∃y,y=path:=⟨_,rfl⟩;cases path with
       |nil=>simp at hp|cons z zs=>simpa[idx]using h0) (by
       have:(path++[(i:Int)]).length-1=path.length:=by simp
       rw[this,zb (by simp)];simp) hf hlt;have e:((path++[(i:Int)]).length+d:Nat)=path.length+(d+1):=by simp;omega
      rw[e]at p1;rw[p1,ya,zl (by omega),ya];obtain⟨L,l1,l2,l3,l4⟩:=hnx (b++L') (by grind);refine⟨L'++L,by rw[l1,yJ],?_,by rw[yR,uu];omega,λp hp'=>?_⟩
      ·simp only[ux,yC,yF,<-p2,<-l2,ne_eq,List.append_eq_nil_iff];constructor
       ·intro h;by_cases hx:L'=[];·exact .inr λhy=>h ⟨hx,hy⟩
        ·exact .inl hx
       ·rintro(h|h)⟨h1,h2⟩;·exact h h1
        ·exact h h2
      ·rcases yu.1 hp' with h|h;·exact p4 p h
       ·exact l4 p h
    ·have hie:i=size:=by omega
     have hsz:Z ((i:Int)<c.size)=false:=by rw[hG.sz];simp_all
     simp only[hsz,ye,if_false];exact⟨[],by simp,by simp[hie,anyR],by simp,λp hp'=>by simp at hp'⟩) m ([],((first+1:Nat):Int)) ⟨first+1,rfl,by omega,by simp⟩ (by grind);grind[Int.toNat_natCast,Nat.pow_succ,Nat.mul_comm,Nat.le_trans,Nat.mul_le_mul_right]
def zwd (E:Nat->Nat->Bool)(size:Nat):Bool:=allR (λlen=>allR (λa=>!neP E size (len-1) [(a:Int)] a a) 0 size) 1 size
theorem zil {E F size}(h:∀a b,a<size->b<size->E a b=U->F a b=U)(hF:zwd F size=U):zwd E size=true:=by unfold zwd at hF|-;rw[zjs]at hF|-;intro len h1 h2;have:=hF len h1 h2;rw[ziW]at this|-;intro a ha;have hn:=this a ha;cases hx:neP E size (len-1) [(a:Int)] a a with|false=>rfl|true=>rw[zoD h _ _ _ _ ha ha hx]at hn;exact hn
inductive ConIn (c:Constraint)(k:Nat):Prop|row:c.kind=0->(∀t∈c.row.ztf,zf4 k t)->c.row.ztf.length<=1000->-4000000000<=c.row.bound/\c.row.bound<=4000000000->ConIn c k|graph(size:Nat):c.kind=1->c.size=(size:Int)->1<=size->size<=6->0<=c.first->c.first+(size*size:Nat)<=(k:Int)->ConIn c k
def zay (c:Constraint)(s:List Int):Bool:=if c.kind=1 then zwd (zuQ s c) c.size.toNat else Z (sumP s c.row.ztf<=c.row.bound)
theorem ziJ {β:Type}(g:Nat->List β)(k:Nat):(xr (k+1)).flatMap g=(xr k).flatMap g++g k:=by rw[uG,List.flatMap_append];simp
def boxM (m:Model):List Range:=zY m.ztj U m.tables
theorem zhr {sizes s}:∀{l}{r},r∈zY sizes s l->∃t∈l,r=t.range
 |[],r,h=>by grind[zY]|t::l,r,h=>by
  rw[zY]at h;split at h
  ·rcases yu.1 h with h|h;·simp_all
   ·obtain⟨u,a,e⟩:=zhr h;grind
  ·obtain⟨u,a,e⟩:=zhr h;grind
theorem zhC {m}(hL:zbt m.ztj m.tables=U):zws (boxM m)=true:=by
 unfold zws;rw[yq];intro r c;obtain⟨t,d,rfl⟩:=zhr c;have a:=hL;simp only[zbt,yd]at a;have:=zhN a.2 t d;simp only[tabP,yd]at this;have b:=this.2;unfold zgt at b;split at b;·simp_all
 simp_all
theorem znS {sizes}(hs:sizes.all zcI=U):∀{l}{seen}{a b},layP sizes seen a b l=U->0<=a->a+216*(l.length:Int)<=1000000->∀t∈l,zce t.kind=U->a<=t.first/\t.first+zau sizes t.ztd 1<=a+((zY sizes U l).length:Int)
 |[],_,_,_,_,_,_,t,e,_=>by grind|x::l,seen,a,b,h,n,o,t,e,g=>by
  have c:=zhN h x (by simp);simp only[tabP,yd,yg]at c;have p:=zgF hs c.1.2.2 c.1.2.1;simp only[layP,yd]at h;have f:=h.2;simp only[yU]at o;have j:=by omega
  by_cases k:zce x.kind=U
  ·rw[if_pos k]at f;simp only[yd,beq_iff_eq]at f;have m:ztc a (zau sizes x.ztd 1)=a+zau sizes x.ztd 1:=by exact zaf (by omega) (by omega)
   have d:(zY sizes U (x::l)).length=zau sizes x.ztd 1+(zY sizes U l).length:=by rw[zY,k,if_pos (by rfl),yR,uA];omega
   rcases yG.1 e with rfl|e;·omega
   ·have:=znS hs f.2 (by omega) (by omega) t e g;omega
  ·rw[if_neg k]at f;simp only[yd]at f;have i:zce x.kind=false:=by simp_all
   have d:zY sizes U (x::l)=zY sizes U l:=by rw[zY,i,if_neg (by decide)]
   rw[d];rcases yG.1 e with rfl|e;·simp_all
   ·exact znS hs f.2 n (by omega) t e g
theorem ziL {K}:∀{l}{last},rowP K last l=U->-1<=last->∀t∈l,zf4 K t
 |[],_,_,_,t,a=>by grind|x::l,last,h,b,t,a=>by
  simp only[rowP,zaV,yd,yg]at h;rcases yG.1 a with rfl|a;·exact⟨by omega,h.1.1.1.2,by omega,by omega⟩
  ·exact ziL h.2 (by omega) t a
theorem zrA {m}(hS:ztW m)(hV:zuS m){c}(hc:c∈m.constraints):ConIn c (boxM m).length:=by
 have z:=hS.con c hc;rcases zkH hV hc with h|h;·simp only[zeU,yd,beq_iff_eq]at h;have l:=h.2;simp only[zt1,zaV,yd,yg]at l;exact .row h.1.1.1 (ziL l.1 (by decide)) (by omega) (by omega)
 ·obtain⟨C,G,u,w⟩:=zb5 hV.lay;obtain⟨y,F,o⟩:=zlE hV h;have r:=hV.lay;simp only[zbt,yd]at r;simp only[acyP,zg1,yd,uw]at h;obtain⟨-,-,t,s,n⟩:=h;simp only[zhL,yd,beq_iff_eq]at n;obtain⟨⟨A,B⟩,⟨f,E⟩,d⟩:=n;have k:=znS u r.2 (Int.le_refl _) (by omega) t s (by grind[zce]);have a:=(w t s).2.2.2.1;obtain⟨p,q,b⟩:∃p q,t.ztd=[p,q]:=by match v:t.ztd with
   |[]=>simp_all|[_]=>simp_all|[p,q]=>simp_all|_::_::_::_=>grind
  have e:idx t.ztd 0=O p:=by rw[b];rfl
  have g:idx t.ztd 1=O q:=by rw[b];rfl
  rw[e,g]at f;rw[e]at d;simp only[ym]at f d;subst f;have j:=yq.1 a p (by simp_all);rw[zfK j]at d;simp only[ym]at d;have H:zau m.ztj t.ztd 1=c.size*c.size:=by rw[b];simp only[zau,d];have:=uZ o o (by omega) (by omega);have I:0<=c.size*c.size:=Int.mul_nonneg (by omega) (by omega);unfold zto;rw[Int.one_mul,zaf (x:=c.size) (by omega) (by omega),zaf (by omega) (by omega)]
  have i:c.size=c.size.toNat:=by omega
  refine .graph c.size.toNat y i (by omega) (by omega) (by omega) ?_;grind[boxM]
def ztL (s:List Int)(d:List Change):List Int:=(xr s.length).map λi=>s.getD i 0+zA d (i:Int)
theorem zjy (s d):(ztL s d).length=s.length:=by simp[ztL]
theorem zgN {s d c}(h0:0<=c)(h1:c<(s.length:Int)):(ztL s d).getD c.toNat 0=s.getD c.toNat 0+zA d c:=by grind[ztL]
def zfx (d:List Change):Prop:=∀x∈d,-1000000000<=x.add/\x.add<=1000000000
theorem zcL {d}(h:zfx d)(c):-1000000000<=zA d c/\zA d c<=1000000000:=by induction d with
 |nil=>simp[zA]|cons x l ih=>
  simp only[zA];split;·exact h x (by simp)
  ·exact ih λy a=>h y (by grind)
def chgP (d:List Change):List Term->Int|[]=>0|t::l=>t.ztl*zA d t.cell+chgP d l
theorem zfW {s d}:∀{l},(∀t∈l,zf4 s.length t)->sumP (ztL s d) l=sumP s l+chgP d l
 |[],_=>rfl|t::l,h=>by
  obtain⟨t1,t2,-⟩:=h t (by simp);have ih:=zfW (s:=s) (d:=d) (l:=l) λx hx=>h x (by grind);grind[sumP,chgP,zgN,Int.mul_add]
set_option maxRecDepth 20000 in
theorem zi2 {d}(hd:zfx d):∀{l}{s},(∀t∈l,-1000<=t.ztl/\t.ztl<=1000)->(l.length:Int)<=1000->-(1000000000000*(1000-(l.length:Int)))<=s/\s<=1000000000000*(1000-(l.length:Int))->zcF (zA d) l s=s+chgP d l
 |[],s,_,_,_=>by simp[zcF,chgP]|t::l,s,c,e,g=>by
  have b:=c t (by simp);have a:=zcL hd t.cell;have j:=zi9 b.1 b.2 a.1 a.2;simp only[yU]at e g;have k:=by omega
  have f:zto t.ztl (zA d t.cell)=t.ztl*zA d t.cell:=by grind[zto,zaf]
  have h:ztc s (t.ztl*zA d t.cell)=s+t.ztl*zA d t.cell:=by grind[ztc,zaf]
  rw[zcF,f,h,zi2 hd (λx i=>c x (by grind)) (by omega) (by omega),chgP];omega
theorem zjR {d}(hd:zfx d){l}(ht:∀t∈l,-1000<=t.ztl/\t.ztl<=1000)(hl:l.length<=1000):zcF (zA d) l 0=chgP d l:=by grind[zi2]
theorem zkX {n m t}(hc:t.ztd.all (zt4 m.ztj)=U)(hl:t.ztd.length<=1000)(hn:1000000<=n):zb9 n m t=O (zau m.ztj t.ztd 1):=by
 have:=zw (body:=zb9.l1 n m t) (len:=t.ztd.length) (st:=λi=>(zau m.ztj (t.ztd.take i) 1,i)) (g:=λ_=>O (zau m.ztj t.ztd 1)) (λc i a b=>?_) (λc=>?_) n 0 (yj _) (by omega);·grind[zb9,zau]
 ·rw[yt a,zdG]at b;simp only[zau]at b;simp only[zb9.l1,zC a,if_true,zb a,ya,zfK (yq.1 hc _ (yi a)),zd (i:=i) (by omega),b]
 ·simp[zb9.l1]
theorem zm7 {n m}(hS:ztW m)(hL:zbt m.ztj m.tables=U)(hn:1000000<=n):zb2 n m=O (boxM m):=by
 obtain⟨l1,l2,l3,l4⟩:=zb5 hL;unfold zb2;have:=zw (body:=zb2.l1 n m) (len:=m.tables.length) (st:=λi=>(zY m.ztj U (m.tables.take i),(i:Int))) (g:=λ_=>O (boxM m)) (λrec i hi hr=>?_) (λrec=>?_) n 0 (yj _) (by omega);·simpa[zY]using this
 ·obtain⟨-,-,c1,c2,c3,c4⟩:=l4 _ (yi hi);have hlen:=zdM (sizes:=m.ztj) (s:=U) (l:=m.tables.take i) λx hx=>(l4 x (wq hx)).2.2.2.2;rw[zgu hi]at hr;obtain⟨W,hW⟩:=yX (show 0<=zau m.ztj m.tables[i].ztd 1 by omega);have hcell:=zkX (n:=n) (m:=m) (t:=m.tables[i]) c2 (by omega) hn;rw[hW]at hcell hr;simp only[zb2.l1,jn,zC hi,zb hi,ya,zeV,zd (i:=i) (by omega)];by_cases hst:(m.tables[i].kind==0||m.tables[i].kind==1)=U
  ·have hst':(zce m.tables[i].kind==U)=true:=by grind[zce]
   rw[if_pos hst];have inner:=zw (body:=zb2.l2 n m (i:Int) λv=>rec (v,((i+1:Nat):Int))) (len:=W) (st:=λk=>(zY m.ztj U (m.tables.take i)++xA k m.tables[i].range,(k:Int))) (g:=λ_=>O (boxM m)) (λrec' k hk hr'=>?_) (λrec'=>?_) n 0 (yj _) (by omega);·simpa using inner
   ·simp only[zb2.l2,zb hi,hcell,if_true,zd (i:=k) (by omega)];grind[zl,uR]
   ·simp only[zb2.l2,zb hi];simp_all
  ·have hst':¬(zce m.tables[i].kind==U)=true:=by grind[zce]
   simp_all
 ·simp[zb2.l1,boxM]
def zxm (m:Model)(e:ztE)(s:List Int):Bool:=m.constraints.all (λc=>zay c s&&zay c (ztL s e.delta))&&e.hold.all λr=>zay ⟨0,0,r,0,0⟩ s
structure zxt (m:Model)(s:List Int):Prop where
 len:s.length=(boxM m).length
 small:∀x∈s,-9999<=x/\x<=9999
theorem zrl {m}(hL:zbt m.ztj m.tables=U){s}(h:zv6 (boxM m) s=U):zxt m s:=by
 have a:=zj5 h;refine⟨a,λx d=>?_⟩;obtain⟨i,c,rfl⟩:=List.mem_iff_getElem.1 d;have b:i<(boxM m).length:=by omega
 have f:=zj4 h i b c;have e:=yq.1 (zhC hL) _ (yi b);grind
theorem zmz {m}(hV:zuS m){a}(ha:a∈m.zte):zfx a.effect.delta/\∀r∈a.effect.hold,zt1 (boxM m).length r=true:=by have h:=(znr hV ha).1;simp only[effP,yd,yq]at h;obtain⟨c,-⟩:=zhi _ _ h.1;exact⟨λx b=>by simp_all,h.2.2.2⟩
theorem znQ {c s d size}(hk:c.kind=1)(hG:zwP c s size)(hch:∀k,k<size*size->zA d (c.first+(k:Int))<=0)(h:zay c s=U):zay c (ztL s d)=true:=by
 unfold zay at h|-;rw[if_pos hk]at h|-;have f:=by have:=hG.sz;omega
 refine zil (λa b g i e=>?_) h;have l:a*size+b<size*size:=by
  have:=yM size (show a+1<=size by omega);grind
 have m:=hG.fits;have n:=hG.first;have j:a*c.size=a*size:=by grind
 unfold zuQ at e|-;rw[zgN (by omega) (by omega)]at e;grind
theorem zln {p}:∀{k i},¬0<(zb7 p i k).length->∀j,i<=j->j<i+k->p (j:Int)=M
 |0,i,_,j,b,c=>by omega|k+1,i,h,j,b,c=>by
  rw[zb7]at h;by_cases a:p i=U;·simp_all
  ·rw[if_neg a]at h;by_cases e:j=i;·simp_all
   ·exact zln h j (by omega) (by omega)
theorem zcz {γ S R:Type}{body}{k n}{st:List γ->Nat->S}(g)(fin:List γ->Option R)(B)(b0)(hB:∀i,i<k->(g i).length<=B)(step:∀rec(b)i,i<k->b.length<=b0.length+i*B->body rec (st b i)=rec (st (b++g i) (i+1)))(done:∀rec(b),b.length<=b0.length+k*B->body rec (st b k)=fin b)(hn:k<n):ztg body n (st b0 0)=fin (b0++(xr k).flatMap g):=by
 have:=zaS (σ:=List γ) (body:=body) (len:=k) (st:=st) (g:=λi b=>fin (b++(wr i (k-i)).flatMap g)) (λi b=>b.length<=b0.length+i*B) (λrec i b d a c=>?_) (λrec b a=>?_) n 0 b0 (yj _) (by omega) (by simp);·grind[List.range_eq_range']
 ·have:wr i (k-i)=i::wr (i+1) (k-(i+1)):=by rw[show k-i=k-(i+1)+1 by omega,List.range'_succ]
  grind
 grind
theorem zdZ {α γ S R:Type}{body}{l:List α}{n}{st:List γ->Nat->S}(h)(fin:List γ->Option R)(b0)(step:∀rec(b)i(hi),b.length=b0.length+i->body rec (st b i)=rec (st (b++[h l[i]]) (i+1)))(done:∀rec(b),b.length=b0.length+l.length->body rec (st b l.length)=fin b)(hn:l.length<n):ztg body n (st b0 0)=fin (b0++l.map h):=by
 have:=zw (body:=body) (len:=l.length) (st:=λi=>st (b0++(l.take i).map h) i) (g:=λ_=>fin (b0++l.map h)) (λrec i hi a=>?_) (λrec=>?_) n 0 (yj _) (by omega);·grind
 ·grind[wi]
 grind
theorem zeu {σ S R:Type}{body}{k n}{st:σ->Nat->S}(I:Nat->σ->Prop)(Q:R->Prop)(hb:∀rec i s,i<k->I i s->(∀s',I (i+1) s'->∃r,rec (st s' (i+1))=O r/\Q r)->∃r,body rec (st s i)=O r/\Q r)(he:∀rec s,I k s->∃r,body rec (st s k)=O r/\Q r)(hn:k<n)(s0)(h0:I 0 s0):∃r,ztg body n (st s0 0)=O r/\Q r:=by
 have b:∀m i s,i<=k->k-i<m->I i s->∃r,ztg body m (st s i)=O r/\Q r:=by
  intro m;induction m with
  |zero=>grind|succ m ih=>
   intro i s d f c;simp only[ztg];by_cases e:i=k;·simp_all
   ·exact hb _ i s (by omega) c λs' a=>ih (i+1) s' (by omega) (by omega) a
 simp_all
theorem zlC {n l x}(hl:l.length<1000000)(hn:1000000<=n):∃k,zat n l x=O k/\Z (0<=k)=Z (x∈l):=by
 have:=zw (body:=zat.l1 n l x) (len:=l.length) (st:=λi=>i) (g:=λi=>O (ixP (λy=>Z (x=y)) (l.drop i) i)) (λa i b c=>?_) (λa=>?_) n 0 (yj _) (by omega);·refine⟨_,this,?_⟩;rw[wU,zge];grind
 ·simp only[zat.l1,zb b];grind[zd,zj,ixP]
 ·simp only[zat.l1];simp[ixP]
theorem zd4 {n l x}(hl:l.length<1000000)(hn:1000000<=n):zaH n l x=O (Z (x∈l)):=by
 obtain⟨k,b,a⟩:=zlC (x:=x) hl hn;grind[zaH]
structure zur (g:zud)(K:Nat):Prop where
 size:g.size=(K:Int)le:K<=6
 len:g.ztr.length=K*K
def hasP (g:zud)(a b:Nat):Bool:=g.ztr.getD (a*g.size.toNat+b) M
theorem ziI {K a b:Nat}(ha:a<K)(hb:b<K):a*K+b<K*K:=by
 have:(a+1)*K<=K*K:=yM _ ha;grind
theorem zle {n}{g}{K a b}(hg:zur g K)(ha:a<K)(hb:b<K):zaQ n g (a:Int) (b:Int)=O (hasP g a b):=by
 have d:=ziI ha hb;have f:=y8 hg.le hg.le;have e:ztc (zto a g.size) b=(a*K+b:Nat):=by
  rw[hg.size];have c:zto a K=(a*K:Nat):=by grind[zto,zaf]
  rw[c,zc7 (by omega)]
 unfold zaQ;rw[e,zb (by rw[hg.len];exact d),ya];simp only[hasP,hg.size];grind
def zvr (K:Nat)(l:List Int):Prop:=1<=l.length/\l.length<=K/\∀x∈l,0<=x/\x<(K:Int)
theorem zvr.get {K l}(h:zvr K l){i}(hi:i<l.length):∃a:Nat,l[i]=(a:Int)/\a<K:=by obtain⟨c,b⟩:=h.2.2 _ (yi hi);exact⟨l[i].toNat,by omega,by omega⟩
theorem zjx:∀{K:Nat}{l:List Int},l.Nodup->(∀x∈l,0<=x/\x<(K:Int))->l.length<=K
 |0,l,_,h=>by cases l with|nil=>simp|cons x l=>have:=h x (by simp);omega
 |K+1,l,a,h=>by
  by_cases c:(K:Int)∈l
  ·have d:=zjx (K:=K) (a.erase (K:Int)) λx b=>by grind
   grind
  ·have:=zjx (K:=K) a λx b=>by grind
   omega
theorem zqK {n}{g}{K}(hg:zur g K)(hn:1000000<=n):∀(d k)(l)(out),l.Nodup->zvr K l->K-l.length=d->d<k->out.length<=1000000-7^(d+1)->d<=5->(∀c∈out,zvr K c)->∃r,zE n g k l out=O r/\r.length<=out.length+7^(d+1)/\∀c∈r,zvr K c:=by
 intro d;induction d using Nat.strongRecOn with|ind d ih=>
  intro k l out hnd hv hd hk ho hd5 hc;obtain⟨k,rfl⟩:∃k',k=k'+1:=⟨k-1,by omega⟩;have hK:=hg.le;have hl1:=hv.1;have hl2:=hv.2.1;have hp:7<=7^(d+1):=by grind
  have hp2:7^(d+1)<=117649:=by
   have:7^(d+1)<=7^6:=uj (by omega) (by omega);grind
  obtain⟨last,hlast,hlK⟩:=hv.get (i:=l.length-1) (by omega);obtain⟨first,hfirst,hfK⟩:=hv.get (i:=0) (by omega);have e1:idx l (ztn (l.length:Int) 1)=O (last:Int):=by rw[zd9 (by omega) (by omega),zb (by omega),hlast]
  have e2:idx l 0=O (first:Int):=by
   have:=zb (l:=l) (i:=0) (by omega);grind
  simp only[zE,e1,e2,ya,zle hg hlK hfK];have loop:∀out1:List (List Int),out1.length<=out.length+1->(∀c∈out1,zvr K c)->∃r,ztg (zE.l1 n g (zE n g k) l (last:Int)) n (ztc (first:Int) 1,out1)=O r/\r.length<=out.length+7^(d+1)/\∀c∈r,zvr K c:=by
   intro out1 ho1 hc1;rw[zd (by omega)];have:=zeu (body:=zE.l1 n g (zE n g k) l (last:Int)) (k:=K-(first+1)) (n:=n) (st:=λ(o:List (List Int))i=>(((first+1+i:Nat):Int),o)) (λi o=>o.length<=out.length+1+i*7^d/\∀c∈o,zvr K c) (λr=>r.length<=out.length+7^(d+1)/\∀c∈r,zvr K c) (λrec i o hi hI hr=>?_) (λrec o hI=>?_) (by omega) out1 ⟨by simpa using ho1,hc1⟩;·simpa using this
   ·have hb:first+1+i<K:=by omega
    have hlt:Z (((first+1+i:Nat):Int)<g.size)=true:=by rw[hg.size];simp;omega
    have hnx:ztc ((first+1+i:Nat):Int) 1=((first+1+(i+1):Nat):Int):=by rw[zd (by omega)];rfl
    simp only[zE.l1,hlt,if_true,zle hg hlK hb,ya,hnx];have keep:∃r,rec (((first+1+(i+1):Nat):Int),o)=O r/\r.length<=out.length+7^(d+1)/\∀c∈r,zvr K c:=hr o ⟨by have:=hI.1;rw[uu];omega,hI.2⟩;by_cases hh:hasP g last (first+1+i)=U
    ·rw[if_pos hh,zd4 (by omega) hn,ya];by_cases hm:((first+1+i:Nat):Int)∈l;·rw[if_pos (by simpa using hm)];exact keep
     ·rw[if_neg (by simpa using hm),zl (by simp;omega),ya,yP,zl (by simp;omega),ya];have hnd2:(l++[((first+1+i:Nat):Int)]).Nodup:=by rw[uQ];exact⟨hnd,by simp,λa ha b hb e=>by simp at hb;subst hb;subst e;exact hm ha⟩
      have hall:∀x∈l++[((first+1+i:Nat):Int)],0<=x/\x<(K:Int):=λx hx=>by
       rcases yu.1 hx with hx|hx;·exact hv.2.2 x hx
       ·simp at hx;subst hx;omega
      have hlen:=zjx hnd2 hall;simp only[yR,yU,ui]at hlen;have hd1:1<=d:=by omega
      have hpow:7^d<=7^(d+1):=uj (by omega) (by omega);have h6:i*7^d<=5*7^d:=yM _ (by omega);have h7:7^(d+1)=7*7^d:=by rw[Nat.pow_succ];omega
      have hone:1<=7^d:=Nat.one_le_pow _ _ (by omega);obtain⟨r,hr1,hr2,hr3⟩:=ih (d-1) (by omega) k (l++[((first+1+i:Nat):Int)]) o hnd2 ⟨by simp,by simpa using hlen,hall⟩ (by simp;omega) (by omega) (by rw[show d-1+1=d by omega];have:=hI.1;omega) (by omega) hI.2;rw[show d-1+1=d by omega]at hr2;rw[hr1,ya];exact hr r ⟨by have:=hI.1;rw[uu];omega,hr3⟩
    ·rw[if_neg hh];exact keep
   ·have hge:Z (((first+1+(K-(first+1)):Nat):Int)<g.size)=false:=by rw[hg.size];simp;omega
    simp only[zE.l1,hge,ye,if_false];have hone:1<=7^d:=Nat.one_le_pow _ _ (by omega);have h7:7^(d+1)=7*7^d:=by rw[Nat.pow_succ];omega
    have h5:(K-(first+1))*7^d<=5*7^d:=yM _ (by omega);exact⟨o,rfl,by have:=hI.1;omega,hI.2⟩
  by_cases hh:hasP g last first=U
  ·rw[if_pos hh,zl (by simp;omega),ya,yP,zl (by simp;omega),ya];exact loop _ (by simp) λc hc'=>by
    rcases yu.1 hc' with h|h;·exact hc c h
    ·simp at h;subst h;exact hv
  grind
theorem zpf {n}{g}{K}(hg:zur g K)(hn:1000000<=n):∃r,ztg (ztI.l1 n g) n (0,[])=O r/\r.length<=900000/\∀c∈r,zvr K c:=by
 have p:=hg.le;have:=zeu (body:=ztI.l1 n g) (k:=K) (n:=n) (st:=λo i=>(i,o)) (λi o=>o.length<=i*117649/\∀c∈o,zvr K c) (λr=>r.length<=900000/\∀c∈r,zvr K c) (λa i o l b m=>?_) (λa o b=>?_) (by omega) [] ⟨by simp,by simp⟩;·grind
 ·have f:Z (i<g.size)=true:=by rw[hg.size];grind
  have q:7^(K-1+1)<=117649:=by
   have:7^(K-1+1)<=7^6:=uj (by omega) (by omega);grind
  obtain⟨r,h,e,j⟩:=zqK hg hn (K-1) n [i] o (by simp) ⟨by simp,by grind,by grind⟩ (by simp) (by omega) (by grind) (by omega) b.2;simp only[ztI.l1];rw[zd (by omega)];grind
 ·have d:Z (K<g.size)=false:=by rw[hg.size];simp
  simp only[ztI.l1];grind
def lexP:List Int->List Int->Int|[],[]=>0|[],_::_=>-1|_::_,[]=>1|a::l,b::m=>if a<b then-1 else if b<a then 1 else lexP l m
theorem zp6:∀(a b:List Int),lexP b a=-lexP a b|[],[]=>rfl|[],_::_=>rfl|_::_,[]=>rfl|a::l,b::m=>by have:=zp6 l m;simp only[lexP];split<;>split<;>omega
theorem zoz:∀{a b:List Int},lexP a b=0->a=b
 |[],[],_=>rfl|[],_::_,h=>by simp[lexP]at h|_::_,[],h=>by simp[lexP]at h|a::l,b::m,h=>by
  simp only[lexP]at h;split at h;·omega
  ·split at h;·omega
   ·rw[zoz h,show a=b by omega]
theorem zmS:∀{a b c:List Int},lexP a b<0->lexP b c<0->lexP a c<0
 |[],[],c,h,_=>by simp[lexP]at h|[],_::_,[],_,h=>by simp[lexP]at h|[],_::_,_::_,_,_=>by simp[lexP]|_::_,[],_,h,_=>by simp[lexP]at h|_::_,_::_,[],_,h=>by simp[lexP]at h|a::l,b::m,c::k,h1,h2=>by
  simp only[lexP]at*;have ih:=@zmS l m k;by_cases e1:a<b
  ·by_cases e2:b<c;·rw[if_pos (by omega)];omega
   ·by_cases e3:c<b;·rw[if_neg e2,if_pos e3]at h2;omega
    ·rw[if_pos (by omega)];omega
  ·by_cases e1':b<a;·rw[if_neg e1,if_pos e1']at h1;omega
   ·rw[if_neg e1,if_neg e1']at h1;by_cases e2:b<c;·rw[if_pos (by omega)];omega
    ·by_cases e3:c<b;·rw[if_neg e2,if_pos e3]at h2;omega
     ·rw[if_neg e2,if_neg e3]at h2;rw[if_neg (by omega),if_neg (by omega)];exact ih h1 h2
def cmpI (a b:Int):Int:=if a<b then-1 else if b<a then 1 else 0
def cmpC (a b:List Int):Int:=if cmpI a.length b.length≠0 then cmpI a.length b.length else lexP a b
theorem zfG (a b):cmpC b a=-cmpC a b:=by have:=zp6 a b;unfold cmpC cmpI;split<;>split<;>(try split)<;>(try split)<;>simp_all<;>omega
theorem zjT {a b}(h:cmpC a b=0):a=b:=by
 unfold cmpC at h;split at h;·rename_i hne;exact absurd h hne
 ·exact zoz h
theorem zio {a b c}(h1:cmpC a b<0)(h2:cmpC b c<0):cmpC a c<0:=by
 have k:∀(x y:List Int),cmpC x y<0↔x.length<y.length\/x.length=y.length/\lexP x y<0:=by
  intro x y;unfold cmpC cmpI;by_cases e:(x.length:Int)<y.length;·simp[e];omega
  ·by_cases e2:(y.length:Int)<x.length;·simp[e,e2];omega
   ·simp[e,e2];omega
 rw[k]at*;rcases h1 with h1|⟨h1,h1'⟩<;>rcases h2 with h2|⟨h2,h2'⟩;·left;omega
 ·left;omega
 ·left;omega
 ·exact .inr ⟨by omega,zmS h1' h2'⟩
theorem zjS {a b c}(h1:¬cmpC a b<0)(h2:¬cmpC b c<0):¬cmpC a c<0:=by
 intro h;have n1:=zfG a b;have n2:=zfG b c;by_cases e1:cmpC a b=0;·rw[zjT e1]at h;exact h2 h
 ·by_cases e2:cmpC b c=0;·rw[<-zjT e2]at h;exact h1 h
  ·have:=zio (a:=c) (b:=b) (c:=a) (by omega) (by omega);have n3:=zfG a c;omega
theorem zgW {n}(a b):zci n a b=O (cmpI a b):=by unfold zci zdu cmpI;simp;split<;>(try split)<;>rfl
theorem zmr {n a b}(ha:a.length<1000000)(hn:1000000<=n):zq n a b=O (lexP a b):=by
 unfold zq;have:=zaS (σ:=Unit) (body:=zq.l1 n a b) (len:=a.length) (st:=λ_ i=>(i:Int)) (g:=λi _=>O (lexP (a.drop i) (b.drop i))) (λi _=>i<=b.length) (λrec i s hi hI hr=>?_) (λrec s hI=>?_) n 0 () (yj _) (by omega) (yj _);·simpa using this
 ·simp only[zq.l1,zC hi,if_true,zb hi,ya];by_cases hb:b.length<=i;·have e:b.drop i=[]:=wt hb;rw[if_pos (by simp;omega),e,zj hi];rfl
  ·rw[if_neg (by simp;omega),zb (show i<b.length by omega),ya,zgW,ya,zd (by omega),hr () (by omega),zj hi,zj (show i<b.length by omega)];simp only[lexP,cmpI];split;·simp
   ·split;·simp
    ·simp
 ·simp only[zq.l1,zan,ye,if_false];rw[xN];by_cases hb:a.length<b.length;·rw[if_pos (by simp;omega),zj hb];rfl
  ·rw[if_neg (by simp;omega),wt (by omega)];rfl
theorem Or_eq {n}(x y)(hn:1000000<=n):zcW n [x,y]=O (if x≠0 then x else y):=by
 unfold zcW;rw[zgk (by omega)];have e0:idx [x,y] 0=O x:=rfl;have e1:idx [x,y] 1=O y:=rfl;simp only[zcW.l1,e0,ya,yU,ui];rw[if_pos (by simp)];by_cases hx:x=0
 ·rw[if_neg (by simp[hx]),show ztc 0 1=1 from rfl,zgk (by omega)];simp only[zcW.l1,e1,ya,yU,ui];rw[if_pos (by simp)];by_cases hy:y=0;·rw[if_neg (by simp[hy]),show ztc 1 1=2 from rfl,zgk (by omega)];simp[zcW.l1,hx,hy]
  ·rw[if_pos (by simp[hy])];simp[hx]
 ·rw[if_pos (by simp[hx])];simp[hx]
theorem zip {n a b}(ha:a.length<1000000)(hn:1000000<=n):zcj n a b=O (cmpC a b):=by unfold zcj;rw[zgW,ya,zmr ha hn,ya,Or_eq _ _ hn];rfl
theorem zoV {α:Type}{f:α->α->Option Int}{c:α->α->Int}{l:List α}(h1:∀x∈l,∀y∈l,f x y=O (c x y))(irr:∀x,¬c x x<0)(tr:∀x y z,c x y<0->c y z<0->c x z<0)(nt:∀x y z,¬c x y<0->¬c y z<0->¬c x z<0)(hl:l.length<4611686018427387904):zw1 f l=O (zv9 (λx y=>(f x y).getD 0) l)/\swoB (λx y=>(f x y).getD 0) l=true:=by
 have hs:swoB (λx y=>(f x y).getD 0) l=true:=by
  unfold swoB;rw[yq];intro x hx;rw[yd,yq];refine⟨by simpa[h1 x hx x hx]using irr x,λy hy=>?_⟩;rw[yq];intro z hz;simp only[h1 x hx y hy,h1 y hy z hz,h1 x hx z hz,ym,yd,yF,yB,uz,yg,yH];have a1:=tr x y z;have a2:=nt x y z;constructor
  ·by_cases p:c x y<0
   ·by_cases q:c y z<0;·exact .inr (a1 p q)
    ·exact .inl (.inr q)
   ·exact .inl (.inl p)
  ·by_cases p:c x y<0;·exact .inl (.inl p)
   ·by_cases q:c y z<0;·exact .inl (.inr q)
    ·exact .inr (a2 p q)
 refine⟨?_,hs⟩;unfold zw1;rw[if_pos];simp only[yd,yq,yg];exact⟨⟨λx hx y hy=>by rw[h1 x hx y hy];rfl,hs⟩,hl⟩
theorem zk2 {n:Nat}{size:Int}{ztr:List Bool}{K:Nat}(hs:size=(K:Int))(h1:1<=K)(h6:K<=6)(hl:ztr.length=K*K)(hn:1000000<=n):∃r,zbo n size ztr=O r/\r.length<=900000/\∀c∈r,zvr K c:=by
 have hg:zur ⟨size,ztr⟩ K:=⟨hs,h6,hl⟩;obtain⟨out,ho,hol,hov⟩:=zpf hg hn;have h4:K*K<=36:=y8 h6 h6;have e:zto size size=((K*K:Nat):Int):=by rw[hs];unfold zto;rw[zaf (by rw[<-uJ];omega) (by rw[<-uJ];omega)];simp
 have hopen:zbW n size ztr=O (⟨size,ztr⟩,U):=by unfold zbW;rw[e,hl];simp[hs];omega
 unfold zbo;rw[hopen,ya,if_neg (by simp),ho,ya];obtain⟨s1,s2⟩:=zoV (f:=zcj n) (c:=cmpC) (l:=out) (λx hx y _=>zip (by have:=(hov x hx).2.1;omega) hn) (λx=>by have:=zfG x x;omega) (λ_ _ _=>zio) (λ_ _ _=>zjS) (by omega);have hp:=ziM s2;exact⟨_,s1,by rw[hp.length_eq];exact hol,λc hc=>hov c (hp.mem_iff.1 hc)⟩
theorem zcu {x y}(h1:-9223372036854775808<=x+y)(h2:x+y<=9223372036854775807):ztc x y=x+y:=zaf h1 h2
theorem zgM {x y}(h1:-9223372036854775808<=x*y)(h2:x*y<=9223372036854775807):zto x y=x*y:=zaf h1 h2
theorem zjF {x y}(h1:-9223372036854775808<=x-y)(h2:x-y<=9223372036854775807):ztn x y=x-y:=zaf h1 h2
def zf5 (r:List (List Row)):Prop:=r.length<=900000/\∀rows∈r,rows.length<=6/\∀row∈rows,row.ztf.length<=1
theorem zjO {n c e f}(k)(he:e.effect.delta.length<=20)(hf:f.effect.delta.length<=20)(hn:1000000<=n):∃r,zaO n k e c f=O r:=by unfold zaO;rw[zaj _ (by omega) (by omega),ya,zaj _ (by omega) (by omega),ya];simp_all
theorem zpc {n c e f K cyc b1 k}{Q:List (List Row)->Prop}(hv:zvr K cyc)(h6:K<=6)(he:e.effect.delta.length<=20)(hf:f.effect.delta.length<=20)(hn:1000000<=n)(hb:b1.length<=900000)(hk:∀b,b.length<=b1.length+1->(∀rows∈b,rows∈b1\/rows.length<=6/\∀row∈rows,row.ztf.length<=1)->∃r,k b=O r/\Q r):∃r,ztg (zk.l3 n c e f b1 k cyc) n (([]:List Row),M,M,0)=O r/\Q r:=by
 have u:=hv.2.1;have:=zeu (body:=zk.l3 n c e f b1 k cyc) (k:=cyc.length) (n:=n) (st:=λs i=>(s.1,s.2.1,s.2.2,i)) (λi s=>s.1.length<=i/\∀row∈s.1,row.ztf.length<=1) Q (λg i s l t p=>?_) (λg s t=>?_) (by omega) ([],M,M) ⟨by simp,by simp⟩;·simp_all
 ·obtain⟨o,x,y⟩:=s;have a:∃r:Nat,zuo (ztc i 1) cyc.length=O (r:Int)/\r<cyc.length:=by
   rw[zd (by omega)];refine⟨(i+1)%cyc.length,?_,vQ _ (by omega)⟩;unfold zuo;grind
  obtain⟨r,h,j⟩:=a;simp only[zk.l3,zC l,zb l,ya,h,zb j];rw[zaj _ (by omega) (by omega),zaj _ (by omega) (by omega)];simp only[yp,yy];obtain⟨z,q⟩:=zjO (n:=n) (c:=c) (e:=e) (f:=f) (ztc (zto cyc[i] c.size) cyc[r]) he hf hn;rw[q,ya,zl (by grind),ya,zd (by omega)];exact p (_,_,_) ⟨by simp_all,λrow m=>by grind⟩
 ·obtain⟨o,x,y⟩:=s;simp only[zk.l3,zan,ye,if_false];split;·rw[zl (by grind),ya];exact hk _ (by simp) λrows d=>by grind
  simp_all
theorem zsl {α}{l}{i:Nat}{x:α}(h:i<l.length):∃r,sto l (i:Int) x=O r/\r.length=l.length:=by grind[sto]
theorem zmF {n}{box}{c e f}{K:Nat}(hs:c.size=(K:Int))(h1:1<=K)(h6:K<=6)(h0:0<=c.first)(hbx:c.first+((K*K:Nat):Int)<=(box.length:Int))(hbl:box.length<=1000)(he:e.effect.delta.length<=20)(hf:f.effect.delta.length<=20)(hn:1000000<=n):∃r,zk n box c e f=O r/\zf5 r:=by
 have em:zto c.size c.size=(K*K:Nat):=by grind[zgM]
 have hmk:mkl 1 (zto c.size c.size) M=O (xA (K*K) M):=by rw[em];unfold mkl;rw[if_pos (by omega),yv]
 unfold zk;have:=zeu (body:=zk.l1 n box c e f (xA (K*K) M)) (k:=K*K) (n:=n) (st:=λs i=>(s,i)) (λi s=>s.length=K*K) zf5 (λrec i s hi hI hr=>?_) (λrec s hI=>?_) (by omega) (xA (K*K) M) (by simp);·simp_all
 ·have hlt:Z (i<(xA (K*K) M).length)=true:=by grind
  obtain⟨z,hz⟩:=zjO (n:=n) (c:=c) (e:=e) (f:=f) i he hf hn;obtain⟨w,hw⟩:=za8 (l:=box) (i:=ztc c.first i) (by grind[zcu]) (by grind[zcu]);obtain⟨s',hs1,hs2⟩:=zsl (l:=s) (i:=i) (x:=Z (1<=ztc w.hi z)) (by omega);simp only[zk.l1,zb (show i<s.length by omega)];grind[zd]
 ·have hge:Z ((K*K:Nat)<((xA (K*K) M).length:Int))=false:=by simp
  simp only[zk.l1];obtain⟨cyc,hc1,hc2,hc3⟩:=zk2 (n:=n) (size:=c.size) (ztr:=s) hs h1 h6 hI hn;have:=zeu (body:=zk.l2 n c e f cyc) (k:=cyc.length) (n:=n) (st:=λ(s:List (List Row))i=>(s,(i:Int))) (λi s=>s.length<=i/\∀rows∈s,rows.length<=6/\∀row∈rows,row.ztf.length<=1) zf5 (λrec i s hi hI hr=>?_) (λrec s hI=>?_) (by omega) [] ⟨by simp,by simp⟩;·simp_all
  ·simp only[zk.l2,zC hi,zb hi];refine zpc (K:=K) (hc3 _ (yi hi)) h6 he hf hn (by grind) λb hb hbr=>?_;grind[zd]
  ·simp only[zk.l2,zan];exact⟨s,rfl,by grind,hI.2⟩
theorem zpO {n K:Nat}{r}(hl:r.ztf.length<1000000)(hn:1000000<=n):zaF n (K:Int) r=O (zt1 K r):=by
 have:=zaS (body:=zaF.l1 n K r) (len:=r.ztf.length) (st:=λs i=>(s,i)) (g:=λi s=>O (rowP K s (r.ztf.drop i)&&zaV r.bound 1000000000)) (λ_ _=>True) (λb i s a _ c=>?_) (λb s _=>?_) n 0 (-1) (yj _) (by omega) trivial;·grind[zaF,zt1]
 ·simp only[zaF.l1,zC a,if_true,zb a,ya,zd (i:=i) (by omega)];rw[zj a,rowP];by_cases h:(Z (s<r.ztf[i].cell)&&Z (r.ztf[i].cell<K)&&r.ztf[i].ztl !=0&&zaV r.ztf[i].ztl 1000)=U;·rw[h,yC];simp only[zaV]at h;grind
  ·rw[if_pos (by
    simp only[zaV]at h;grind)];grind
 ·simp[zaF.l1,zaV,rowP]
theorem zm4 {n K:Nat}{r}(hl:r.ztf.length<1000000)(hn:1000000<=n):zb1 n r (K:Int)=O (zt1 K r):=by
 have:=zaS (body:=zb1.l1 n r K) (len:=r.ztf.length) (st:=λs i=>(s,i)) (g:=λi s=>O (rowP K s (r.ztf.drop i)&&zaV r.bound 1000000000)) (λ_ _=>True) (λb i s a _ c=>?_) (λb s _=>?_) n 0 (-1) (yj _) (by omega) trivial;·grind[zb1,zt1]
 ·simp only[zb1.l1,zC a,if_true,zb a,ya,za7,yp,yy,grd,zd (i:=i) (by omega)];rw[zj a,rowP];by_cases h:(Z (s<r.ztf[i].cell)&&Z (r.ztf[i].cell<K)&&r.ztf[i].ztl !=0&&zaV r.ztf[i].ztl 1000)=U;·rw[h,yC];simp only[zaV]at h;grind
  ·rw[if_pos (by
    simp only[zaV]at h;grind)];grind
 ·simp[zb1.l1,za7,zaV,rowP]
def znj (R:List Row):Prop:=R.length<1000000/\∀r∈R,r.ztf.length<1000000
theorem zg8 {n}{box}{R}(hg:zws box=U)(hl:box.length<=100)(hR:znj R)(hn:1000000<=n):zT n box R=O (R.all (zt1 box.length)):=by
 unfold zT;have:=zw (body:=zT.l1 n box R) (len:=box.length) (st:=λi=>i) (g:=λ_=>O (R.all (zt1 box.length))) (λa i hi c=>?_) (λa=>?_) n 0 (yj _) (by omega);·grind
 ·have:=yq.1 hg _ (yi hi);have d:(Z (-1000000<=box[i].lo)&&Z (box[i].lo<=1000000))=true:=by grind
  have e:(Z (-1000000<=box[i].hi)&&Z (box[i].hi<=1000000))=true:=by grind
  simp only[zT.l1,zC hi,if_true,zb hi,ya,za7,d,e,yp,yy,grd,ym,ul,Bool.or_self,ye,if_false,zd (i:=i) (by omega),c]
 ·simp only[zT.l1];have b:=hR.1;have:=zav (body:=zT.l2 n box R) (l:=R) (n:=n) (st:=λi=>i) (zt1 box.length) (O M) (O U) (λa i hi=>?_) (λa=>?_) (by omega);·grind
  ·simp only[zT.l2,zb hi,ya,zm4 (hR.2 _ (yi hi)) hn,zd (i:=i) (by omega)];grind
  ·simp[zT.l2]
theorem zkY {n box}(hg:zws box=U)(hl:box.length<=100)(hn:1000000<=n):zca n box=O false:=by
 unfold zca;have:=zw (body:=zca.l1 n box) (len:=box.length) (st:=λi=>i) (g:=λ_=>O M) (λb i a c=>?_) (λb=>?_) n 0 (yj _) (by omega);·grind
 ·have:=yq.1 hg _ (yi a);simp only[zca.l1,zC a,if_true,zb a,ya];rw[if_neg (by grind),zd (by omega),c]
 ·simp[zca.l1]
theorem zhd {n l f p}(hf:∀x∈l,f x=O (p x))(hl:l.length<1000000)(hn:1000000<=n):zar n l f=O (l.any p):=by
 unfold zar zi;have:=zw (body:=zi.l1 n l f) (len:=l.length) (st:=λi=>i) (g:=λi=>O (ixP p (l.drop i) i)) (λa i b c=>?_) (λa=>?_) n 0 (yj _) (by omega);·rw[show 0=0 from rfl]at this;grind[zge]
 ·simp only[zi.l1,if_true,zb b,zd (i:=i) (by omega)];grind[zj,ixP]
 ·simp[zi.l1,ixP]
theorem zf6 {n l f p}(hf:∀x∈l,f x=O (p x))(hl:l.length<1000000)(hn:1000000<=n):zaZ n l f=O (l.any p):=by
 unfold zaZ zZ;have:=zw (body:=zZ.l1 n l f) (len:=l.length) (st:=λi=>i) (g:=λi=>O (ixP p (l.drop i) i)) (λa i b c=>?_) (λa=>?_) n 0 (yj _) (by omega);·grind[zge]
 ·simp only[zZ.l1,zb b,zd (i:=i) (by omega)];grind[zj,ixP]
 ·simp[zZ.l1,ixP]
theorem zfk {n box R}(hg:zws box=U)(hl:box.length<=100)(hR:znj R)(hn:1000000<=n):za9 n box R=O (R.all (zt1 box.length)):=by
 have f:zaI n box=O true:=by
  unfold zaI;have:=zw (body:=zaI.l1 n box) (len:=box.length) (st:=λi=>i) (g:=λ_=>O U) (λb i a e=>?_) (λb=>?_) n 0 (yj _) (by omega);·grind
  ·have:=yq.1 hg _ (yi a);simp only[zaI.l1,zC a,if_true,zb a,ya];rw[if_neg (by grind),zd (by omega),e]
  grind[zaI.l1]
 have h:zn n R (λd=>zbB n d box)=O (R.any λr=>!zt1 box.length r):=zcH (λx c=>by unfold zbB;rw[zpO (hR.2 x c) hn];rfl) hR.1 hn;grind[za9,grd]
theorem ziA {n box}(hg:zws box=U)(hl:box.length<=100)(hn:1000000<=n):zb4 n box=O false:=by
 unfold zb4;rw[zhd (f:=λb=>zc8 n b) (p:=λr=>Z (r.hi<r.lo)) (λx _=>rfl) (by omega) hn,ya];congr 1;rw[List.any_eq_false];intro r a;have:=yq.1 hg _ a;grind
def zgf (x:Int):Bool:=Z (x< -4000000)||decide (4000000<x)
def zi5 (K:Nat)(g:ztv):Bool:=Z (g.size<1)||decide (6<g.size)||decide (g.first<0)||decide (ztn (K:Int) (zto g.size g.size)<g.first)||(g.least.length:Int)!=zto g.size g.size
def zeN (K:Nat)(g:ztv):Bool:=!zi5 K g&&!g.least.any zgf
def zwo (K:Nat)(rows:List Row):Bool:=Z (rows.length<=64)&&rows.all (zt1 K)
def sysP (K:Nat)(R:List Row)(G:List ztv)(cs:List (List Row)):Bool:=Z (R.length<=1024)&&R.all (zt1 K)&&Z (G.length<=64)&&Z (cs.length<=1024)&&(G.all (zeN K)&&cs.all (zwo K))
structure SysOK (R:List Row)(G:List ztv)(cs:List (List Row)):Prop where
 rows:znj R
 zti:G.length<1000000/\∀g∈G,g.least.length<1000000
 cases:cs.length<1000000/\∀rows∈cs,znj rows
theorem zkF {n K:Nat}{g}(hl:g.least.length<1000000)(hn:1000000<=n):ze0 n (K:Int) g=O (zeN K g):=by
 unfold ze0 zeN;by_cases h:zi5 K g=U;·grind[zi5]
 ·have a:=h;unfold zi5 at a;rw[if_neg a,zcg (f:=λb=>zfd n b) (p:=zgf) (λx _=>rfl) (by omega) (by omega),ya];grind
theorem zeG {n}{box}{R}{G}{cs}(hg:zws box=U)(hl:box.length<=100)(hS:SysOK R G cs)(hn:1000000<=n):zal n ⟨box,R,G,cs⟩=O (sysP box.length R G cs):=by
 unfold zal;have hrows:∀(rows:List Row)(k:Int),znj rows->zdN n ⟨box,R,G,cs⟩ rows k=O (Z (rows.length<=k)&&rows.all (zt1 box.length)):=λrows k hr=>by unfold zdN;simp only[zfk hg hl hr hn,yp,yy,grd,if_true,ym]
 have hbox:za9 n box []=O true:=by rw[zfk hg hl ⟨by simp,by simp⟩ hn];rfl
 simp only[ziA hg hl hn,hrows R 1024 hS.rows,grd];have hloop:ztg (zal.l1 n ⟨box,R,G,cs⟩) n 0=O (G.all (zeN box.length)&&cs.all (zwo box.length)):=by
  have:=zav (body:=zal.l1 n ⟨box,R,G,cs⟩) (l:=G) (n:=n) (st:=λi=>i) (zeN box.length) (O M) (O (cs.all (zwo box.length))) (λrec i hi=>?_) (λrec=>?_) (by have:=hS.zti.1;omega);·grind
  ·simp only[zal.l1,zb hi,ya,zkF (hS.zti.2 _ (yi hi)) hn,zd (show i<4611686018427387904 by have:=hS.zti.1;omega)];grind
  ·simp only[zal.l1];rw[zf6 (p:=λrows=>!zwo box.length rows) (λx hx=>by
    unfold zfc;rw[hrows x 64 (hS.cases.2 x hx),ya];congr 2;unfold zwo;grind) hS.cases.1 hn,ya];grind
 have e1:Z (R.length<=1024)=Z (R.length<=1024):=decide_eq_decide.2 (by omega);have e2:Z (64<(G.length:Int))=!decide (G.length<=64):=by grind
 have e3:Z (1024<(cs.length:Int))=!decide (cs.length<=1024):=by grind
 unfold sysP;grind
theorem zg9 {n box R G cs}(hg:zws box=U)(hl:box.length<=100)(hS:SysOK R G cs)(hn:1000000<=n):z9 n ⟨box,R,G,cs⟩=O (sysP box.length R G cs):=by
 unfold z9;simp only[zg8 hg hl hS.rows hn,zkY hg hl hn,grd];have hgr:∀i(rec:Int->Option Bool)(hi:i<G.length),z9.l2 n ⟨box,R,G,cs⟩ rec (i:Int)=if zeN box.length G[i]=U then rec ((i+1:Nat):Int)else O false:=λi rec hi=>by
  have hgl:=hS.zti.2 _ (yi hi);have h3:=zav (body:=z9.l3 n (i:Int) rec G[i]) (l:=G[i].least) (n:=n) (st:=λj=>(j:Int)) (λx=>!zgf x) (O M) (rec (ztc (i:Int) 1)) (λrec' j hj=>?_) (λrec'=>?_) (by omega)
  ·rw[show((0:Nat):Int)=0 from rfl]at h3;simp only[z9.l2,zC hi,if_true,zb hi,ya,h3,zd (show i<4611686018427387904 by have:=hS.zti.1;omega)];by_cases h:zi5 box.length G[i]=U;·have h':=h;unfold zi5 at h';rw[if_pos h',if_neg (by grind[zeN])]
   ·have h':=h;unfold zi5 at h';rw[if_neg h'];have e:zeN box.length G[i]=G[i].least.all λx=>!zgf x:=by
     unfold zeN;grind
    rw[e]
  ·simp only[z9.l3,zb hj,grd,zd (i:=j) (by omega)];by_cases h:zgf G[i].least[j]=U;·have h':=h;unfold zgf at h';simp_all
   ·have h':=h;unfold zgf at h';grind
  ·simp[z9.l3]
 have hloop:ztg (z9.l1 n ⟨box,R,G,cs⟩) n 0=O (G.all (zeN box.length)&&cs.all (zwo box.length)):=by
  have:=zav (body:=z9.l1 n ⟨box,R,G,cs⟩) (l:=cs) (n:=n) (st:=λi=>(i:Int)) (zwo box.length) (O M) (O (G.all (zeN box.length))) (λrec i hi=>?_) (λrec=>?_) (by have:=hS.cases.1;omega);·grind
  ·simp only[z9.l1,zb hi,zg8 hg hl (hS.cases.2 _ (yi hi)) hn,grd,ym,zd (show i<4611686018427387904 by have:=hS.cases.1;omega)];unfold zwo;grind
  ·simp only[z9.l1,zan,ye,if_false];have:=zav (body:=z9.l2 n ⟨box,R,G,cs⟩) (l:=G) (n:=n) (st:=λi=>(i:Int)) (zeN box.length) (O M) (O U) (λrec i hi=>hgr i rec hi) (λrec=>?_) (by have:=hS.zti.1;omega);·grind
   ·simp[z9.l2]
 grind[sysP,decide,zt1]
theorem zek {n}{r}{f g}{fP:Int->Int}{B}(hf:∀x,f x=O (fP x))(hg:g r.bound=O B)(hl:r.ztf.length<=1000)(hn:1000000<=n):zV n r f g=O ⟨r.ztf.map λt=>⟨t.cell,fP t.ztl⟩,B⟩:=by
 unfold zV;have:=zdZ (body:=zV.l1 n r f B) (l:=r.ztf) (n:=n) (st:=λb i=>(b,i)) (λt=>⟨t.cell,fP t.ztl⟩) (λb=>O ⟨b,B⟩) [] (λa b i d c=>?_) (λa b c=>?_) (by omega);·grind
 ·simp only[zV.l1,zb d];grind[zl,zd]
 ·simp[zV.l1]
theorem zqB {n}{r}(hl:r.ztf.length<=1000)(hn:1000000<=n):zV n r (λq0=>zbn n q0) (λq0=>zbn n q0)=O r:=by rw[zek (f:=λq0=>zbn n q0) (g:=λq0=>zbn n q0) (fP:=id) (B:=r.bound) (λ_=>rfl) rfl hl hn];simp
theorem zpX {n K:Nat}{c}{f}(hK:zto c.size c.size=(K:Int))(hK2:K<=36)(hf:∀x,∃y,f x=O y)(hn:1000000<=n):∃g,zI n c f=O g/\g.least.length<=36:=by
 unfold zI;have:=zeu (body:=zI.l1 n c f) (k:=K) (n:=n) (st:=λb i=>(b,i)) (λi b=>b.length<=i) (λg=>g.least.length<=36) (λa i b h e j=>?_) (λa b e=>?_) (by omega) [] (by simp);·grind
 ·obtain⟨y,d⟩:=hf (ztc c.first i);simp only[zI.l1,d,ya];rw[zl (by grind),ya,zd (by omega)];simp_all
 ·simp only[zI.l1,hK];grind
structure zuO (K:Nat)(c:Constraint):Prop where
 kind:c.kind=0\/c.kind=1
 len:c.row.ztf.length<=1000
 sz:c.kind=1->∃s:Nat,c.size=(s:Int)/\1<=s/\s<=6/\0<=c.first/\c.first+((s*s:Nat):Int)<=(K:Int)
theorem zuO.mul {K c}(h:zuO K c)(hk:c.kind=1):∃k:Nat,zto c.size c.size=(k:Int)/\k<=36:=by
 obtain⟨s,d,e,a,-⟩:=h.sz hk;have b:=y8 a a;refine⟨s*s,?_,b⟩;grind[zgM]
structure zuk (a:Action):Prop where
 delta:a.effect.delta.length<=20
 hold:a.effect.hold.length<=10
 ztf:∀r∈a.effect.hold,r.ztf.length<=1000
theorem zgO {n K a c}(ha:zuk a)(hc:zuO K c)(hk:c.kind=1)(hn:1000000<=n):∃l,zD n a c=O l:=by obtain⟨k,b,d⟩:=hc.mul hk;have:=ha.delta;exact⟨_,zdi b (by omega) (by omega) (by omega) (by omega)⟩
theorem zgJ {n a r}(ha:zuk a)(hr:r.ztf.length<=1000)(hn:1000000<=n):∃x,zJ n a r=O x:=by have:=ha.delta;exact⟨_,zcv (by omega) (by omega) (by omega) (by omega)⟩
noncomputable def gr (n:Nat)(c:Constraint)(f:Int->Option Int):ztv:=(zI n c f).getD J
noncomputable def gS (n:Nat)(ef:Bool)(a b:Action)(c:Constraint):List ztv:=if(c.kind !=1)=U then[]else[gr n c λq0=>zaW n q0]++((if Z (0<(((zD n a c).getD []).length:Int))=U then[gr n c λq0=>zQ n q0 a]else[])++if(ef&&Z (0<(((zD n b c).getD J).length:Int)))=U then[gr n c λq0=>zag n q0 b]else[])
noncomputable def finS (n:Nat)(box:List Range)(a b:Action)(R:List Row)(c:Constraint)(G:List ztv):Option (System×Int):=jn (λ(v:List Row×List (List Row))=>let b6_150:=v.1;let c3_3_151:=v.2;(zal n (⟨box,b6_150,G,c3_3_151⟩:System)).bind λx267_155=>if(!x267_155)=U then O ((⟨[],[],[],[]⟩:System),8)else O ((⟨box,b6_150,G,c3_3_151⟩:System),0)) λk_152=>if(c.kind==1)=U then(zk n box c a b).bind λx254_153=>if((x254_153.length:Int)==0)=U then(app 32 R [(⟨[],-1⟩:Row)]).bind λx264_154=>k_152 (x264_154,x254_153)else k_152 (R,x254_153)else k_152 (R,[])
theorem zdV {n K}{c}{f}(hc:zuO K c)(hk:c.kind=1)(hf:∀x,∃y,f x=O y)(hn:1000000<=n):zI n c f=O (gr n c f)/\(gr n c f).least.length<=36:=by
 obtain⟨k,b,a⟩:=hc.mul hk;obtain⟨g,e,d⟩:=zpX b a hf hn;unfold gr;grind
theorem zoq {n K ef a b c}(ha:zuk a)(hb:zuk b)(hc:zuO K c)(hn:1000000<=n):(gS n ef a b c).length<=3/\∀g∈gS n ef a b c,g.least.length<=36:=by
 unfold gS;split;·simp
 ·rename_i hk;have hk:c.kind=1:=by simpa using hk
  have f3:∀x,∃y,zQ n x a=O y:=λx=>by unfold zQ;have:=ha.delta;rw[zaj _ (by omega) (by omega)];exact⟨_,rfl⟩
  have f4:∀x,∃y,zag n x b=O y:=λx=>by unfold zag;have:=hb.delta;rw[zaj _ (by omega) (by omega)];exact⟨_,rfl⟩
  have g2:=(zdV (f:=λq0=>zaW n q0) hc hk (λx=>⟨_,rfl⟩) hn).2;have g3:=(zdV (f:=λq0=>zQ n q0 a) hc hk f3 hn).2;have g4:=(zdV (f:=λq0=>zag n q0 b) hc hk f4 hn).2;constructor;·split<;>split<;>simp
  grind[List.mem_singleton]
theorem zju {n K m q a b box R c}(ha:zuk a)(hb:zuk b)(hc:∀c∈m.constraints,zuO K c)(hl:m.constraints.length<=1000)(hn:1000000<=n):ztg (zf.l4 n m q a b box R c.kind c.family c.row.ztf c.row.bound c.first c.size) n ([],0)=finS n box a b R c ((xr m.constraints.length).flatMap λi=>gS n (q.e !=q.f) a b (m.constraints.getD i J)):=by
 have:=zcz (body:=zf.l4 n m q a b box R c.kind c.family c.row.ztf c.row.bound c.first c.size) (k:=m.constraints.length) (n:=n) (st:=λb i=>(b,(i:Int))) (λi=>gS n (q.e !=q.f) a b (m.constraints.getD i J)) (finS n box a b R c) 3 [] (λi hi=>?_) (λrec b7 i hi hI=>?_) (λrec b7 hI=>?_) (by omega);·grind
 ·grind[J,vo,zoq,List.getElem_mem]
 ·have e:m.constraints.getD i J=m.constraints[i]:=by grind
  have hci:=hc _ (yi hi);have hI':b7.length<=3000:=by grind
  simp only[zf.l4,zC hi,if_true,jn,zb hi,ya,e,zd (i:=i) (by omega)];unfold gS;by_cases hk:(m.constraints[i].kind !=1)=U;·grind
  ·rw[if_neg hk,if_neg hk];have hk:m.constraints[i].kind=1:=by grind
   have f3:∀x,∃y,zQ n x a=O y:=λx=>by unfold zQ;have:=ha.delta;rw[zaj _ (by omega) (by omega)];exact⟨_,rfl⟩
   have f4:∀x,∃y,zag n x b=O y:=λx=>by unfold zag;have:=hb.delta;rw[zaj _ (by omega) (by omega)];exact⟨_,rfl⟩
   obtain⟨ra,hra⟩:=zgO ha hci hk hn;obtain⟨rb,hrb⟩:=zgO hb hci hk hn;rw[(zdV (f:=λq0=>zaW n q0) hci hk (λx=>⟨_,rfl⟩) hn).1,(zdV (f:=λq0=>zQ n q0 a) hci hk f3 hn).1,(zdV (f:=λq0=>zag n q0 b) hci hk f4 hn).1,hra,hrb];simp only[ya,ym,yp,yy,grd,if_true];rw[zl (by simp;omega),ya];by_cases h3:Z (0<(ra.length:Int))=U
   ·rw[if_pos h3,if_pos h3,zl (by simp;omega),ya];by_cases h4:(q.e !=q.f&&Z (0<(rb.length:Int)))=U;·rw[if_pos h4,if_pos h4,zl (by simp;omega),ya];simp only[yJ]
    ·rw[if_neg h4,if_neg h4];simp only[yJ,uc]
   ·rw[if_neg h3,if_neg h3];by_cases h4:(q.e !=q.f&&Z (0<(rb.length:Int)))=U;·rw[if_pos h4,if_pos h4,zl (by simp;omega),ya];simp only[yJ,yP]
    ·rw[if_neg h4,if_neg h4];simp only[uc]
 ·simp only[zf.l4,zan,ye,if_false];rfl
noncomputable def zdt (n:Nat)(m:Model)(q:Question)(a b:Action)(box:List Range)(R:List Row):Option (System×Int):=jn (λ(v:List Row×Int×Int×List Term×Int×Int×Int)=>let b6_84:=v.1;let c9_0_85:=v.2.1;let c9_1_86:=v.2.2.1;let c9_2_87:=v.2.2.2.1;let c9_3_88:=v.2.2.2.2.1;let c9_4_89:=v.2.2.2.2.2.1;let c9_5_90:=v.2.2.2.2.2.2;ztg (zf.l4 n m q a b box b6_84 c9_0_85 c9_1_86 c9_2_87 c9_3_88 c9_4_89 c9_5_90) n (([]:List ztv),0)) λk_91=>if q.target.hold=U then(idx a.effect.hold q.target.index).bind λx164_92=>(zJ n b x164_92).bind λx170_93=>(zV n x164_92 (λq0=>zaP n q0) λq0=>zap n q0 x170_93).bind λx9_94=>(app 32 R [x9_94]).bind λx11_95=>k_91 (x11_95,0,0,[],0,0,0)else(idx m.constraints q.target.index).bind λx177_96=>if(x177_96.kind==0)=U then(zJ n a x177_96.row).bind λx188_97=>(zJ n b x177_96.row).bind λx192_98=>(zV n x177_96.row (λq0=>zaP n q0) λq0=>zap n q0 (ztc x188_97 x192_98)).bind λx9_99=>(app 32 R [x9_99]).bind λx11_100=>k_91 (x11_100,x177_96.kind,x177_96.family,x177_96.row.ztf,x177_96.row.bound,x177_96.first,x177_96.size)else k_91 (R,x177_96.kind,x177_96.family,x177_96.row.ztf,x177_96.row.bound,x177_96.first,x177_96.size)
noncomputable def zwh (n:Nat)(m:Model)(q:Question)(a b:Action)(box:List Range)(R:List Row):Option (System×Int):=(app 32 [] a.effect.hold).bind λx128_64=>jn (λ(v:List Row)=>let b8_65:=v;ztg (zf.l3 n m q a b box b8_65) n (R,0)) λk_66=>if(q.e !=q.f)=U then(app 32 x128_64 b.effect.hold).bind λx138_67=>k_66 x138_67 else k_66 x128_64
def endS (n:Nat)(S:System)(v:Option Bool):Option (System×Int):=v.bind λv=>if(!v)=U then O ((⟨[],[],[],[]⟩:System),8)else O (S,0)
noncomputable def chgN (n:Nat)(a:Action)(r:Row):Int:=(zJ n a r).getD 0
noncomputable def kS (n:Nat)(q:Question)(rows:List Int)(a b:Action)(i:Nat)(c:Constraint):Int:=if(Z ((i:Int)∈rows)&&(q.target.hold||q.target.index !=(i:Int)))=U then gmax (gmax (gmax 0 (chgN n a c.row)) (chgN n b c.row)) (ztc (chgN n a c.row) (chgN n b c.row))else gmax (gmax 0 (chgN n a c.row)) (chgN n b c.row)
noncomputable def rowS (n:Nat)(q:Question)(rows:List Int)(a b:Action)(i:Nat)(c:Constraint):List Row:=if(c.kind !=0)=U then[]else[⟨c.row.ztf,ztn c.row.bound (kS n q rows a b i c)⟩]
noncomputable def zu5 (n:Nat)(m:Model)(q:Question)(rows:List Int)(a b:Action):List Row:=(xr m.constraints.length).flatMap λi=>rowS n q rows a b i (m.constraints.getD i J)
theorem zej {n a r}(ha:zuk a)(hr:r.ztf.length<=1000)(hn:1000000<=n):zJ n a r=O (chgN n a r):=by grind[zgJ,chgN]
theorem zqv {n m q rows a b box}(ha:zuk a)(hb:zuk b)(hc:∀c∈m.constraints,zuO box.length c)(hl:m.constraints.length<=1000)(hr:rows.length<=1000)(hn:1000000<=n):ztg (zf.l2 n m q rows a b box) n ([],0)=zwh n m q a b box (zu5 n m q rows a b):=by
 have:=zcz (body:=zf.l2 n m q rows a b box) (k:=m.constraints.length) (n:=n) (st:=λb i=>(b,i)) (λi=>rowS n q rows a b i (m.constraints.getD i J)) (zwh n m q a b box) 1 [] (λi j=>?_) (λo b6 i j u=>?_) (λo b6 u=>?_) (by omega);·grind[zu5]
 ·grind[rowS]
 ·have e:m.constraints.getD i J=m.constraints[i]:=by simp_all
  have d:=hc _ (yi j);rw[e];simp only[zf.l2,zC j,if_true,jn,zb j,ya,zej ha d.len hn,zej hb d.len hn,zd4 (show rows.length<1000000 by omega) hn];unfold rowS;by_cases l:(m.constraints[i].kind !=0)=U;·rw[if_pos l,if_pos l,uc,zd (by omega)]
  ·rw[if_neg l,if_neg l];have h:=λk=>zek (n:=n) (r:=m.constraints[i].row) (f:=λs=>zbn n s) (g:=λs=>zd6 n s k) (fP:=id) (B:=ztn m.constraints[i].row.bound k) (λ_=>rfl) rfl d.len hn;have p:(m.constraints[i].row.ztf.map λt=>⟨t.cell,id t.ztl⟩)=m.constraints[i].row.ztf:=by simp
   simp only[p]at h;unfold kS;split<;>(rw[h,ya,zl (by grind),ya,zd (by omega)])
 ·simp only[zf.l2,zan];rfl
def badR (m:Model)(x:Int):Bool:=Z (x<0)||decide ((m.constraints.length:Int)<=x)||((idx m.constraints x).getD J).kind !=0
theorem zlD {n m q rows a b}(hF:Fuel n)(hS:ztW m)(hV:zuS m)(hq:zf0 m q=U)(ha:idx m.zte q.e=O a)(hb:idx m.zte q.f=O b)(hA:zuk a)(hB:zuk b)(hc:∀c∈m.constraints,zuO (boxM m).length c)(hr:rows.length<=1000):zf n m q rows=if(rows.all λx=>!badR m x)=U then zwh n m q a b (boxM m) (zu5 n m q rows a b)else O (⟨[],[],[],[]⟩,2):=by
 have r:=hF.big;have k:=hS.constraints;have o:zeR n m=O (boxM m):=by unfold zeR zgp;rw[zg2 hF hS,zfA.2 hV,ya,if_neg (by simp),zf7 hF (by have:=hS.ztj;omega) (by have:=hS.tables;omega) λt p=>by have:=(hS.tab t p).2;omega,if_pos hV.lay];rfl
 unfold zf;rw[zfy hF hS,zfA.2 hV,hq,ya,if_neg (by simp)];have:=zav (body:=zf.l1 n m q rows) (l:=rows) (n:=n) (st:=λi=>i) (λx=>!badR m x) (O (⟨[],[],[],[]⟩,2)) (zwh n m q a b (boxM m) (zu5 n m q rows a b)) (λg i h=>?_) (λg=>?_) (by omega);·simp_all
 ·simp only[zf.l1,zC h,zb h,ya];by_cases e:(Z (rows[i]<0)||decide (m.constraints.length<=rows[i]))=U
  ·have d:badR m rows[i]=true:=by grind[badR]
   rw[d];simp only[e,uy,grd,if_true,ul,ye,if_false]
  ·have f:=e;simp only[yF,yg,not_or,Int.not_le,Int.not_lt]at f;obtain⟨c,j⟩:=za8 f.1 f.2;unfold badR;simp only[e,grd,zd (i:=i) (by omega)];simp_all
 ·simp only[zf.l1];grind[zqv]
def zwe (x:Int):Prop:=-4611686018427387904<=x/\x<=4611686018427387904
theorem zn7 {a b:Int}(ha:zwe a):zwe (a.tdiv b):=by
 have c:=Int.natAbs_tdiv_le_natAbs a b;grind[zwe]
theorem zqk {a b}(hb:0<b)(ha:zwe a):zul a b=O (a.tdiv b):=by
 have h:=zn7 (b:=b) ha;unfold zul;rw[if_neg (by omega),zaf (by have:=h.1;omega) (by have:=h.2;omega)]
theorem zqn {a b}(hb:0<b):zuo a b=O (a.tmod b):=by
 unfold zuo;grind
theorem zmJ {a b:Int}(hb:0<b):a/b=if a.tmod b<0 then a.tdiv b-1 else a.tdiv b:=by
 have d:=Int.mul_tdiv_add_tmod a b;have e:=Int.tmod_lt_of_pos a hb;have c:=Int.lt_tmod_of_pos a hb;generalize a.tdiv b=q at*;generalize a.tmod b=r at*;split;·exact(Int.ediv_emod_unique hb (r:=r+b) (q:=q-1).2 ⟨by grind,by omega,by omega⟩).1
 grind[Int.ediv_emod_unique]
theorem zlT {n}{a b}(hb:0<b)(ha:zwe a):zcC n a b=O (a/b):=by
 have h:=zn7 (b:=b) ha;unfold zcC;rw[zqk hb ha,ya,zqn hb];simp only[jn];rw[zmJ hb];have f:ztn (a.tdiv b) 1=a.tdiv b-1:=zaf (by have:=h.1;omega) (by have:=h.2;omega);have g:(a.tmod b !=0&&Z (a<0)!=Z (b<0))=Z (a.tmod b<0):=by
  have d:Z (b<0)=false:=by grind
  by_cases c:a<0
  ·have e:a.tmod b<=0:=by
    have:=Int.tmod_nonneg (a:=-a) b (by omega);simp_all
   grind
  grind[Int.tmod_nonneg]
 grind
theorem zny {n}{a b}(hb:0<b)(ha:zwe a):zeo n a b=O (a/b):=by
 have h:=zn7 (b:=b) ha;unfold zeo;rw[zqn hb,ya,zqk hb ha,zmJ hb];have c:ztn (a.tdiv b) 1=a.tdiv b-1:=zaf (by have:=h.1;omega) (by have:=h.2;omega);grind
def boxS (b:List Range):Prop:=∀r∈b,-1000000<=r.lo/\r.lo<=1000000/\-1000000<=r.hi/\r.hi<=1000000
def rgP (b:List Range)(c:Int):Range:=b.getD c.toNat J
def endP (b:List Range)(t:Term):Int:=if 0<t.ztl then t.ztl*(rgP b t.cell).lo else t.ztl*(rgP b t.cell).hi
def zuN (b:List Range)(c:Int):List Term->Int|[]=>0|t::l=>(if t.cell=c then 0 else endP b t)+zuN b c l
theorem zgz (b c):∀l m,zuN b c (l++m)=zuN b c l+zuN b c m|[],m=>by simp[zuN]|t::l,m=>by simp only[ur,zuN,zgz b c l m];omega
theorem zdW {b}{c}(h0:0<=c)(h1:c<(b.length:Int)):idx b c=O (rgP b c):=by
 unfold idx rgP;simp_all
theorem zjd {b}{c}(h0:0<=c)(h1:c<(b.length:Int)):rgP b c∈b:=by grind[rgP]
theorem zr4 {b}{t}(hb:boxS b)(ht:zf4 b.length t):-1000000000<=endP b t/\endP b t<=1000000000:=by
 obtain⟨f,e,a,c⟩:=ht;obtain⟨g,h,i,d⟩:=hb _ (zjd f e);unfold endP;split;·exact zi9 a c g h
 ·exact zi9 a c i d
theorem zh6 {b}{c}(hb:boxS b):∀{l},(∀t∈l,zf4 b.length t)->-(1000000000*(l.length:Int))<=zuN b c l/\zuN b c l<=1000000000*(l.length:Int)
 |[],_=>by simp[zuN]|t::l,a=>by
  have e:=zr4 hb (a t (by simp));have f:=zh6 (c:=c) hb λx d=>a x (yO _ d);grind[zuN]
theorem zqR {n}{r}{b}{c}(hb:boxS b)(ht:∀t∈r.ztf,zf4 b.length t)(hl:r.ztf.length<=1000)(hn:1000000<=n):zbp n r b c 1=O (zuN b c r.ztf):=by
 have:=zw (body:=zbp.l1 n r b c 1) (len:=r.ztf.length) (st:=λi=>(zuN b c (r.ztf.take i),i)) (g:=λ_=>O (zuN b c r.ztf)) (λd i hi a=>?_) (λd=>?_) n 0 (yj _) (by omega);·grind[zbp,zuN]
 ·rw[yt hi,zgz]at a;obtain⟨f,e,j,k⟩:=ht _ (yi hi);obtain⟨o,q,m,p⟩:=hb _ (zjd f e);have u:=zh6 (c:=c) hb (l:=r.ztf.take i) λt h=>ht t (wq h);have v:=zi9 j k o q;have w:=zi9 j k m p;have x:zto r.ztf[i].ztl 1=r.ztf[i].ztl:=by grind[zto,zaf]
  have y:zto r.ztf[i].ztl (rgP b r.ztf[i].cell).lo=r.ztf[i].ztl*(rgP b r.ztf[i].cell).lo:=zaf (by omega) (by omega);have z:zto r.ztf[i].ztl (rgP b r.ztf[i].cell).hi=r.ztf[i].ztl*(rgP b r.ztf[i].cell).hi:=zaf (by omega) (by omega);simp only[zuN,endP]at a;simp only[zbp.l1,zb hi,zdW f e,ya,jn,zd (i:=i) (by omega)];split at a<;>rename_i h;·simp_all
  ·split at a<;>rename_i s;·grind[ztc,zaf]
   ·grind[ztc,zaf]
 ·simp[zbp.l1]
def facP (c:Int):List Term->Int->Int|[],f=>f|t::l,f=>facP c l (if t.cell=c then t.ztl else f)
theorem zjY (c):∀(l m)(f),facP c (l++m) f=facP c m (facP c l f)|[],_,_=>rfl|_::l,m,f=>by exact zjY c l m _
theorem znN (c):∀{l}{f},(∀t∈l,-1000<=t.ztl/\t.ztl<=1000)->-1000<=f->f<=1000->-1000<=facP c l f/\facP c l f<=1000
 |[],_,_,b,d=>⟨b,d⟩|t::l,f,h,b,d=>by
  have e:=h t (by simp);simp only[facP];split;·exact znN c (λx a=>h x (yO _ a)) e.1 e.2
  ·exact znN c (λx a=>h x (yO _ a)) b d
def zjh (o:Range)(rest f:Int):Range:=if f=0 then o else let lo:=if f<0 then max o.lo (-(rest/ -f))else o.lo;let hi:=if 0<f then min o.hi (rest/f)else o.hi;if hi<lo then⟨1,0⟩else⟨lo,hi⟩
def ze2 (r:Row)(b:List Range)(c:Int):Range:=zjh (rgP b c) (r.bound-zuN b c r.ztf) (facP c r.ztf 0)
theorem znP (x y):gmin x y=min x y:=by grind[gmin]
theorem zpV (x y):gmax x y=max x y:=by grind[gmax]
theorem zkL {n}{r}{b}{c}{o}(hb:boxS b)(ht:∀t∈r.ztf,zf4 b.length t)(hl:r.ztf.length<=1000)(hB:-1000000000<=r.bound/\r.bound<=1000000000)(hn:1000000<=n):ztg (zbq.l1 n r b c o) n (r.bound,0,0)=O (zjh o (r.bound-zuN b c r.ztf) (facP c r.ztf 0)):=by
 have:=zw (body:=zbq.l1 n r b c o) (len:=r.ztf.length) (st:=λi=>(r.bound-zuN b c (r.ztf.take i),facP c (r.ztf.take i) 0,(i:Int))) (g:=λ_=>O (zjh o (r.bound-zuN b c r.ztf) (facP c r.ztf 0))) (λrec i hi hr=>?_) (λrec=>?_) n 0 (yj _) (by omega);·grind[zuN,facP]
 ·rw[yt hi,zgz,zjY]at hr;obtain⟨h0,h1,h2,h3⟩:=ht _ (yi hi);obtain⟨a1,a2,a3,a4⟩:=hb _ (zjd h0 h1);have hp:=zh6 (c:=c) hb (l:=r.ztf.take i) λt h=>ht t (wq h);have m1:=zi9 h2 h3 a1 a2;have m2:=zi9 h2 h3 a3 a4;have e1:zto r.ztf[i].ztl (rgP b r.ztf[i].cell).lo=r.ztf[i].ztl*(rgP b r.ztf[i].cell).lo:=zaf (by omega) (by omega);have e2:zto r.ztf[i].ztl (rgP b r.ztf[i].cell).hi=r.ztf[i].ztl*(rgP b r.ztf[i].cell).hi:=zaf (by omega) (by omega);simp only[zuN,endP,facP]at hr;simp only[zbq.l1,zb hi,ya,jn,zd (i:=i) (by omega)];by_cases h:r.ztf[i].cell=c;·simp_all
  ·rw[zdW h0 h1];simp only[zkv];by_cases h':0<r.ztf[i].ztl;·grind[ztn,zaf]
   ·grind[ztn,zaf]
 ·have hp:=zh6 (c:=c) hb ht;have hf:=znN c (l:=r.ztf) (f:=0) (λt h=>⟨(ht t h).2.2.1,(ht t h).2.2.2⟩) (by omega) (by omega);simp only[wn];generalize zuN b c r.ztf=R at*;generalize facP c r.ztf 0=f at*;have hbig:zwe (r.bound-R):=⟨by omega,by omega⟩;simp only[zbq.l1,zan,ye,if_false,jn,zjh,znP,zpV];rcases Int.lt_trichotomy f 0 with h|h|h
  ·have hneg:ztU f=-f:=zaf (by omega) (by omega);have hd:=zny (n:=n) (a:=r.bound-R) (b:=-f) (by omega) hbig;have hq:zwe ((r.bound-R)/ -f):=by
    constructor;·exact Int.le_trans (by omega) ((Int.le_ediv_iff_mul_le (by omega)).2 (show-4611686018427387904*-f<=r.bound-R by omega))
    ·exact Int.ediv_le_of_le_mul (by omega) (by omega)
   have hn2:ztU ((r.bound-R)/ -f)=-((r.bound-R)/ -f):=zaf (by have:=hq.2;omega) (by have:=hq.1;omega);grind
  ·simp_all
  ·have hd:=zny (n:=n) (a:=r.bound-R) (b:=f) h hbig;grind
theorem zjZ {c}:∀{l}{f},(∀t∈l,t.cell≠c)->facP c l f=f
 |[],_,_=>rfl|t::l,f,h=>by
  simp only[facP];rw[if_neg (h t (by simp))];exact zjZ λx a=>h x (yO _ a)
theorem zoj {c}:∀{l}{f}{t},(l.map (·.cell)).Nodup->t∈l->t.cell=c->facP c l f=t.ztl
 |[],_,_,_,h,_=>by grind|x::l,f,t,a,h,b=>by
  simp only[yW,List.nodup_cons]at a;simp only[facP];rcases yG.1 h with rfl|h
  ·rw[if_pos b];exact zjZ λy d e=>a.1 (by simp_all)
  ·exact zoj a.2 h b
def ixT (c:Int):List Term->Nat->Int|[],_=>-1|t::l,i=>if t.cell=c then(i:Int)else ixT c l (i+1)
theorem zmu {n}{l}{c}(hl:l.length<=1000)(hn:1000000<=n):zG n l (λq0=>zbY n q0 c)=O (ixT c l 0):=by
 have:=zw (body:=zG.l1 n l λq0=>zbY n q0 c) (len:=l.length) (st:=λi=>i) (g:=λi=>O (ixT c (l.drop i) i)) (λa i b d=>?_) (λa=>?_) n 0 (yj _) (by omega);·grind[zG]
 ·rw[zj b];simp only[zG.l1,zb b,zbY,zd (i:=i) (by omega),ixT];grind
 ·simp[zG.l1,ixT]
theorem zmP {c}:∀(l)(k),(∀t∈l,t.cell≠c)/\ixT c l k=-1\/∃i,∃hi:i<l.length,l[i].cell=c/\ixT c l k=((k+i:Nat):Int)
 |[],k=>.inl ⟨by simp,rfl⟩|t::l,k=>by
  simp only[ixT];by_cases h:t.cell=c;·grind
  ·rcases zmP (c:=c) l (k+1)with⟨b,a⟩|⟨i,hi,b,a⟩;·simp_all
   ·exact .inr ⟨i+1,by simp_all,by simp_all,by grind⟩
theorem zpv {n}{r}{b}{c}(hb:boxS b)(ht:∀t∈r.ztf,zf4 b.length t)(hf0:∀t∈r.ztf,t.ztl≠0)(hnd:(r.ztf.map (·.cell)).Nodup)(hl:r.ztf.length<=1000)(hB:-1000000000<=r.bound/\r.bound<=1000000000)(h0:0<=c)(h1:c<(b.length:Int))(hn:1000000<=n):zdd n r b c=O (ze2 r b c):=by
 unfold zdd;rw[zdW h0 h1,ya,zmu hl hn,ya];rcases zmP (c:=c) r.ztf 0 with⟨k,m⟩|⟨i,j,k,m⟩;·grind[ze2,zjZ,zjh]
 ·rw[m];have e:=yi j;have g:=zoj (f:=0) hnd e k;have v:=zh6 (c:=c) hb ht;obtain⟨-,-,w,x⟩:=ht _ e;have s:=hf0 _ e;simp only[uk];rw[if_neg (by simp),zb j,ya,zqR hb ht hl hn,ya];unfold ze2 zjh;generalize r.ztf[i].ztl=f at*;generalize zuN b c r.ztf=R at*;have d:zwe (r.bound-R):=⟨by omega,by omega⟩;have u:ztn r.bound R=r.bound-R:=zaf (by omega) (by omega);simp only[jn,zc8,znP,zpV];by_cases h:0<f
  ·have q:=zlT (n:=n) (a:=r.bound-R) (b:=f) h d;grind
  ·have l:ztU f=-f:=zaf (by omega) (by omega);have q:=zlT (n:=n) (a:=r.bound-R) (b:=-f) (by omega) d;have o:zwe ((r.bound-R)/ -f):=⟨Int.le_trans (by omega) ((Int.le_ediv_iff_mul_le (by omega)).2 (show-4611686018427387904*-f<=r.bound-R by omega)),Int.ediv_le_of_le_mul (by omega) (by omega)⟩;have p:ztU ((r.bound-R)/ -f)=-((r.bound-R)/ -f):=zaf (by have:=o.2;omega) (by have:=o.1;omega);grind
def zwf (k last:Int):List Term->Bool|[]=>U|t::l=>!(Z (t.cell<=last)||decide (k<=t.cell)||t.ztl==0||decide (t.ztl< -1000)||decide (1000<t.ztl))&&zwf k t.cell l
def zvk (k:Int)(r:Row):Bool:=zwf k (-1) r.ztf&&(Z (-1000000000<=r.bound)&&Z (r.bound<=1000000000))
def zwJ (l:List Term)(i:Nat):Int:=match i with|0=>-1|i+1=>(l.getD i J).cell
theorem zlg {l}{i}(h):zwJ l (i+1)=l[i].cell:=by simp[zwJ,h]
theorem zoo {n}{k}{r}(hl:r.ztf.length<=1000)(hn:1000000<=n):zaF n k r=O (zvk k r):=by
 have:=zw (body:=zaF.l1 n k r) (len:=r.ztf.length) (st:=λi=>(zwJ r.ztf i,i)) (g:=λi=>O (zwf k (zwJ r.ztf i) (r.ztf.drop i)&&(Z (-1000000000<=r.bound)&&Z (r.bound<=1000000000)))) (λb i a c=>?_) (λb=>?_) n 0 (yj _) (by omega);·grind[zaF,zwJ,zvk]
 ·rw[zj a];rw[zlg a]at c;simp only[zaF.l1,zb a,zd (i:=i) (by omega),zwf];grind
 ·simp[zaF.l1,zwf]
theorem zqQ {n}{k}{r}(hl:r.ztf.length<=1000)(hn:1000000<=n):zb1 n r k=O (zvk k r):=by
 have:=zw (body:=zb1.l1 n r k) (len:=r.ztf.length) (st:=λi=>(zwJ r.ztf i,i)) (g:=λi=>O (zwf k (zwJ r.ztf i) (r.ztf.drop i)&&(Z (-1000000000<=r.bound)&&Z (r.bound<=1000000000)))) (λb i a c=>?_) (λb=>?_) n 0 (yj _) (by omega);·grind[zb1,zwJ,zvk]
 ·rw[zj a];rw[zlg a]at c;simp only[zb1.l1,zb a,zd (i:=i) (by omega),zwf,za7,grd];have e:(!(Z (-1000<=r.ztf[i].ztl)&&Z (r.ztf[i].ztl<=1000)))=(Z (r.ztf[i].ztl< -1000)||decide (1000<r.ztf[i].ztl)):=by grind
  grind
 ·simp[zb1.l1,zwf,za7]
def boxP (b:List Range):Bool:=b.all (λr=>!(Z (r.lo< -1000000)||decide (1000000<r.lo)||decide (r.hi< -1000000)||decide (1000000<r.hi)))&&Z ((b.length:Int)<=128)
theorem zmD {b}(h:boxP b=U):boxS b:=λr a=>by
 simp only[boxP]at h;simp_all
theorem zrz {n}{b}(hl:b.length<=1000)(hn:1000000<=n):zaI n b=O (boxP b):=by
 have:=zw (body:=zaI.l1 n b) (len:=b.length) (st:=λi=>i) (g:=λi=>O ((b.drop i).all (λr=>!(Z (r.lo< -1000000)||decide (1000000<r.lo)||decide (r.hi< -1000000)||decide (1000000<r.hi)))&&Z ((b.length:Int)<=128))) (λa i c d=>?_) (λa=>?_) n 0 (yj _) (by omega);·grind[zaI,boxP]
 ·rw[zj c];simp only[zaI.l1,zb c,zd (i:=i) (by omega)];grind
 ·simp[zaI.l1]
def ixA {α:Type}(p:α->Bool):List α->Nat->Int|[],_=>-1|t::l,i=>if p t=U then(i:Int)else ixA p l (i+1)
theorem zp0 {α}(p):∀(l:List α)(k),0<=ixA p l k↔l.any p=U
 |[],k=>by simp[ixA]|t::l,k=>by
  simp only[ixA];by_cases h:p t=U;·simp_all
  ·rw[if_neg h,zp0 p l (k+1)];grind
theorem zkK {n}{l}{f}{p}(hp:∀x∈l,f x=O (p x))(hl:l.length<=100000)(hn:1000000<=n):zn n l f=O (l.any p):=by
 have:=zw (body:=zm.l1 n l f) (len:=l.length) (st:=λi=>i) (g:=λi=>O (ixA p (l.drop i) i)) (λa i b d=>?_) (λa=>?_) n 0 (yj _) (by omega)
 ·unfold zn zm;have c:ztg (zm.l1 n l f) n 0=O (ixA p l 0):=by simp_all
  rw[c,ya];congr 1;grind[zp0]
 ·rw[zj b];simp only[zm.l1,zb b,zd (i:=i) (by omega),ixA];grind
 ·simp[zm.l1,ixA]
theorem zpa {n}{b}{rows}(hb:b.length<=1000)(hr:∀r∈rows,r.ztf.length<=1000)(hl:rows.length<=100000)(hn:1000000<=n):za9 n b rows=O (boxP b&&rows.all (zvk (b.length:Int))):=by
 unfold za9;rw[zrz hb hn,ya];have d:=zkK (n:=n) (l:=rows) (f:=λa=>zbB n a b) (p:=λr=>!zvk b.length r) (λx c=>by grind[zbB,zoo]) hl hn;grind[grd]
theorem zfJ {k}:∀{l}{last},-1<=last->zwf k last l=U->(∀t∈l,last<t.cell/\0<=t.cell/\t.cell<k/\t.ztl≠0/\-1000<=t.ztl/\t.ztl<=1000)/\(l.map (·.cell)).Nodup
 |[],_,_,_=>by simp|t::l,last,a,h=>by
  simp only[zwf,yd]at h;obtain⟨c,b⟩:=h;simp at c;obtain⟨e,d⟩:=zfJ (l:=l) (last:=t.cell) (by omega) b;grind
theorem zo9 {n}{r}{b}{c}(hb:boxP b=U)(hf:zvk (b.length:Int) r=U)(hl:r.ztf.length<=1000)(h0:0<=c)(h1:c<(b.length:Int))(hn:1000000<=n):zcy n r b c=O (ze2 r b c):=by
 have d:=by
  simp only[boxP,yd,yg]at hb;omega
 unfold zcy;rw[zpa (by omega) (λx i=>by simp_all) (by simp) hn,ya];rw[if_neg (by simp_all)];simp only[zvk,yd,yg]at hf;obtain⟨f,g⟩:=hf;obtain⟨a,e⟩:=zfJ (by omega) f;rw[zpv (zmD hb) (λt h=>⟨(a t h).2.1,(a t h).2.2.1,(a t h).2.2.2.2.1,(a t h).2.2.2.2.2⟩) (λt h=>(a t h).2.2.2.1) e hl g h0 h1 hn];rfl
