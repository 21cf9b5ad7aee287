/- Part of the proof of one law of the seat. -/
import Derived.Test.YtipkniadbkndfaaGreatDoorSm16
set_option linter.all false
set_option maxRecDepth 100000
set_option maxHeartbeats 40000000
namespace Go.Proofs.YtipkniadbkndfaaGreatDoor
open Go Go.RowKit
open Option renaming some->O,none->Y
open Bool renaming true->U,false->M,eq_iff_iff->xP,not_eq_false'->vM
open Decidable renaming decide->Z
open Inhabited renaming default->J
open List renaming range->xm,replicate->xw,drop_length->xV,take_of_length_le->wb,take_succ_eq_append_getElem->wj,take_length->wo,mem_of_mem_take->wr,range'->ws,drop_eq_nil_of_le->wt,map_nil->wB,all_nil->wD,drop_zero->wG,getD->vD,not_mem_nil->vE,any_eq_false->vS,replicate_succ'->tg
open Classical renaming byContradiction->xF
open Int renaming natCast_zero->we,le_refl->wT,le_ediv_iff_mul_le->vb,toNat_natCast->vu,mul_le_mul->tx
open GMap renaming empty->wl
open List.Pairwise renaming imp_of_mem->wv
open Nat renaming mod_lt->wE,min_eq_left->vj,mul_comm->vv,le_of_lt->tv
open List.cons renaming injEq->wI
abbrev yq:=@_root_.Option.isSome_some
abbrev yu:=@_root_.List.take_succ_eq_append_getElem
abbrev yw:=@_root_.Bool.or_true
abbrev yP:=@_root_.Bool.not_eq_true
abbrev y8:=@_root_.Nat.mul_le_mul
abbrev uc:=@_root_.Bool.or_eq_false_iff
abbrev ue:=@_root_.Bool.false_and
abbrev uj:=@_root_.Int.natCast_mul
abbrev uk:=@_root_.Bool.not_true
abbrev ul:=@_root_.Nat.pow_le_pow_right
abbrev ut:=@_root_.Bool.not_false
abbrev ux:=@_root_.List.length_replicate
abbrev uD:=@_root_.Bool.false_or
abbrev uE:=@_root_.Bool.true_or
abbrev uU:=@_root_.Nat.one_le_pow
abbrev uV:=@_root_.Nat.pow_succ
abbrev uW:=@_root_.Bool.and_self
abbrev uX:=@_root_.List.any_cons
theorem zA {σ R}{body}{len}{st:Nat->σ}{g:Nat->Option R}(hb:∀rec i,i<len->rec (st<|i+1)=g (i+1)->body rec (st i)=g i)(he:∀rec,body rec (st len)=g len):∀n i,i<=len->len-i<n->zvt body n (st i)=g i
 |0,_,_,h=>by omega|n+1,i,a,h=>by
  simp only[zvt];by_cases e:i=len;·simp_all
  ·exact hb _ i (by omega)<|zA hb he n (i+1) (by omega)<|by omega
theorem zd {i:Nat}(h:i<4611686018427387904):zvp (i:Int) 1=((i+1:Nat):Int):=by grind[zvp,zau]
theorem za {α}{l:List α}{i}(h:i<l.length):idx l (i:Int)=O l[i]:=by unfold idx;simp_all
theorem zy {α:Type}{l:List α}{i}(h:i<l.length):Z ((i:Int)<(l.length:Int))=true:=by simp_all
theorem zaj {α:Type}{l:List α}:Z (((l.length:Nat):Int)<(l.length:Int))=false:=by simp
def zx:List Change->Int->Int|[],_=>0|d::l,c=>if d.cell=c then d.add else zx l c
theorem zj {α:Type}{l:List α}{i}(h):l.drop i=l[i]::l.drop (i+1):=List.drop_eq_getElem_cons h
theorem zao {n}{a}(c)(hl:a.effect.delta.length<4611686018427387904)(hn:a.effect.delta.length<n):zS n a c=O (zx a.effect.delta c):=by
 have:=zA (body:=zS.l1 n a c) (len:=a.effect.delta.length) (st:=λi=>i) (g:=λi=>O<|zx (a.effect.delta.drop i) c) (λb i d e=>?_) (λb=>?_) n 0 (yn _)<|by omega
 ·grind[zS]
 ·simp only[zS.l1,za d,zd (i:=i)<|by omega];rw[zj d];simp only[zx];grind
 ·simp[zS.l1,zx]
def zcP (f:Int->Int):List Term->Int->Int|[],s=>s|t::l,s=>zcP f l<|zvp s<|zvA t.zvy<|f t.cell
def zyQ (f:Int->Int)(l:List Term)(i:Nat):Int:=zcP f (l.take i) 0
theorem zhr (f):∀(l m)(s),zcP f (l++m) s=zcP f m (zcP f l s)|[],_,_=>rfl|_::l,m,s=>by exact zhr f l m _
theorem zl8 (f){l i}(h):zyQ f l (i+1)=zvp (zyQ f l i) (zvA l[i].zvy<|f l[i].cell):=by unfold zyQ;rw[yu h,zhr];rfl
theorem zcF {n}{a r}(h1:a.effect.delta.length<4611686018427387904)(h2:a.effect.delta.length<n)(h3:r.zvr.length<4611686018427387904)(h4:r.zvr.length<n):zJ n a r=O (zcP (zx a.effect.delta) r.zvr 0):=by
 have:=zA (body:=zJ.l1 n a r) (len:=r.zvr.length) (st:=λi=>(zyQ (zx a.effect.delta) r.zvr i,i)) (g:=λ_=>O<|zcP (zx a.effect.delta) r.zvr 0) (λc i b d=>?_) (λc=>?_) n 0 (yn _)<|by omega
 ·grind[zJ,zyQ,zcP]
 ·simp only[zJ.l1,zy b,if_true,za b,ya,zao _ h1 h2,zd (i:=i)<|by omega,<-zl8 _ b,d]
 ·simp[zJ.l1,zyQ]
def addP (c:Int):List Change->Int->Int|[],s=>s|d::l,s=>addP c l<|if d.cell=c then zvp s d.add else s
theorem zki (c):∀(l m)(s),addP c (l++m) s=addP c m (addP c l s)|[],_,_=>rfl|_::l,m,s=>by exact zki c l m _
theorem zfr {n}{e}(c)(hl:e.delta.length<4611686018427387904)(hn:e.delta.length<n):zbd n e c=O (addP c e.delta 0):=by
 have:=zA (body:=zbd.l1 n e c) (len:=e.delta.length) (st:=λi=>(addP c (e.delta.take i) 0,i)) (g:=λ_=>O<|addP c e.delta 0) (λa i d b=>?_) (λa=>?_) n 0 (yn _)<|by omega
 ·grind[zbd,addP]
 ·rw[yu d,zki]at b;simp only[addP]at b;simp only[zbd.l1,za d,jn,zd (i:=i)<|by omega];grind
 ·simp[zbd.l1]
theorem znU {n}{e r}(h1:e.delta.length<4611686018427387904)(h2:e.delta.length<n)(h3:r.zvr.length<4611686018427387904)(h4:r.zvr.length<n):zbD n e r=O (zcP (λc=>addP c e.delta 0) r.zvr 0):=by
 have:=zA (body:=zbD.l1 n e r) (len:=r.zvr.length) (st:=λi=>(zyQ (λc=>addP c e.delta 0) r.zvr i,i)) (g:=λ_=>O<|zcP (λc=>addP c e.delta 0) r.zvr 0) (λb i a d=>?_) (λb=>?_) n 0 (yn _)<|by omega
 ·grind[zbD,zyQ,zcP]
 ·rw[zl8 _ a]at d;simp only[zbD.l1,zy a,if_true,za a,ya,zfr _ h1 h2,zd (i:=i)<|by omega,d]
 ·simp[zbD.l1,zyQ]
theorem zlB (c):∀(l)(s),(∀d∈l,d.cell≠c)->addP c l s=s|[],_,_=>rfl|d::l,s,h=>by simp only[addP];rw[if_neg<|h d<|by simp];exact zlB c l s λx a=>h x<|by grind
theorem zkh (c):∀(l),(l.map (·.cell)).Nodup->(∀d∈l,-9223372036854775808<=d.add/\d.add<=9223372036854775807)->addP c l 0=zx l c
 |[],_,_=>rfl|d::l,a,f=>by
  simp only[yU,List.nodup_cons,yY,not_exists,not_and]at a;simp only[addP,zx];split<;>rename_i h;·rw[zlB c l _ λx b e=>a.1 x b<|e.trans h.symm];unfold zvp;grind[zau]
  ·exact zkh c l a.2 λx b=>f x<|by grind
section
variable{κ:Type}[DecidableEq κ]
structure zxM (m:GMap κ Bool)(l:List κ):Prop where
 tru:∀e∈m.es,e.2.2=U
 mem:∀k,k∈m.es.map (λe=>e.2.1)↔k∈l
theorem zkx (k):∀(es:List<|Nat×κ×Bool),(∀e∈es,e.2.2=U)->((zwr k es).map (·.2)).getD M=Z (k∈es.map λe=>e.2.1)
 |[],_=>by simp[zwr]|e::es,h=>by
  simp only[zwr,yU,yE];by_cases a:k=e.2.1;·simp_all
  ·have:=zkx k es λx b=>h x<|by grind
   simp only[a,false_or,<-this];cases zwr k es<;>rfl
theorem zpj (k):∀(es:List<|Nat×κ×Bool),zwr k es=Y->k∉es.map λe=>e.2.1
 |[],_=>by simp|e::es,h=>by
  simp only[zwr]at h;split at h;·cases h
  ·rename_i a;simp only[Option.map_eq_none_iff]at h;simp only[yU,yE,not_or];exact⟨a,zpj k es h⟩
theorem zky (k):∀(es:List<|Nat×κ×Bool)(p),zwr k es=O p->k∈es.map λe=>e.2.1
 |[],_,h=>by grind[zwr]|e::es,p,h=>by
  simp only[zwr]at h;split at h;·simp_all
  ·simp only[Option.map_eq_some_iff]at h;obtain⟨q,a,_⟩:=h;exact yZ _<|zky k es q a
theorem zxM.get {m}{l}(h:zxM m l)(k:κ):(m.get? k).getD M=Z (k∈l):=by unfold GMap.get?;rw[zkx k m.es h.tru];exact decide_eq_decide.2<|h.mem k
theorem zxM.empty:zxM (wl:GMap κ Bool) []:=⟨λe a=>by grind[wl],λk=>by simp[wl]⟩
theorem zhP (f)(hf:∀e,(f e).2.1=e.2.1):∀(es:List<|Nat×κ×Bool)(i),(es.modify i f).map (λe=>e.2.1)=es.map λe=>e.2.1|[],_=>by simp|e::es,0=>by grind|e::es,i+1=>by simp[zhP f hf es i]
theorem zjh {p:Nat×κ×Bool->Prop}(f)(hf:∀e,p<|f e):∀(es:List<|Nat×κ×Bool)(i),(∀e∈es,p e)->∀e∈es.modify i f,p e
 |[],_,_=>by simp|e::es,0,h=>by grind|e::es,i+1,h=>by
  intro x a;simp only[List.modify_succ_cons,yE]at a;rcases a with rfl|a;·simp_all
  ·exact zjh f hf es i (λy b=>h y<|by grind) x a
theorem zxM.put {m}{l}(h:zxM m l)(k:κ):zxM (m.put k U)<|l++[k]:=by unfold GMap.put;cases d:zwr k m.es with
 |none=>
  refine⟨λe a=>?_,λx=>?_⟩
  ·simp only[yv,yN]at a;rcases a with a|rfl;·exact h.tru e a
   ·rfl
  ·simp only[ur,yU,wB,yv,h.mem x]|some p=>obtain⟨i,b⟩:=p;have c:=(h.mem k).1<|zky k m.es _ d;refine⟨zjh (p:=λe=>e.2.2=U) _ (λe=>rfl) m.es i h.tru,λx=>?_⟩;rw[zhP (λe=>(e.1,e.2.1,U)) (λe=>rfl) m.es i,h.mem x];simp_all
end
def ixP {α:Type}(p:α->Bool):List α->Nat->Int|[],_=>-1|x::l,i=>if p x=U then(i:Int)else ixP p l<|i+1
theorem zrp {α}(p):∀(l:List α)(i),0<=ixP p l i↔l.any p=U
 |[],_=>by simp[ixP]|x::l,i=>by
  have a:=zrp p l<|i+1;rw[ixP,uX];grind
theorem zgM {α}(p)(l:List α)(i):Z (0<=ixP p l i)=l.any p:=by
 have:=zrp p l i;grind
theorem zfK {n l f p}(hf:∀x∈l,f x=O (p x))(hl:l.length<4611686018427387904)(hn:l.length<n):zQ n l f=O (ixP p l 0):=by
 have:=zA (body:=zQ.l1 n l f) (len:=l.length) (st:=λi=>i) (g:=λi=>O<|ixP p (l.drop i) i) (λa i b c=>?_) (λa=>?_) n 0 (yn _)<|by omega
 ·grind[zQ]
 ·simp only[zQ.l1,za b,zd (i:=i)<|by omega];grind[zj,ixP]
 ·simp[zQ.l1,ixP]
theorem zbs {n}{l}{f}{p}(hf:∀x∈l,f x=O (p x))(hl:l.length<4611686018427387904)(hn:l.length<n):zt n l f=O (l.any p):=by unfold zt;rw[zfK hf hl hn,ya,zgM]
def zbW (x:Int):Bool:=Z (1<=x)&&Z (x<=6)
def zv6 (sizes:List Int)(c:Int):Bool:=Z (0<=c)&&Z (c<(sizes.length:Int))
theorem zos {α:Type}(p)(l:List α):(!l.any λx=>!p x)=l.all p:=by grind
theorem zlk {n}{l}(hl:l.length<4611686018427387904)(hn:l.length<n):zf6 n l=O (l.all zbW):=by unfold zf6;rw[zbs (p:=λx=>!zbW x) (λx _=>by simp[zf7,zen,zbW]) hl hn,ya,zos]
theorem ziX {n}{sizes cols}(hl:cols.length<4611686018427387904)(hn:cols.length<n):zei n sizes cols=O (Z (cols.length<=3)&&cols.all (zv6 sizes)):=by
 unfold zei;rw[zbs (p:=λx=>!zv6 sizes x) (λx _=>by
  simp only[zdq,zv6,yp];grind) hl hn];simp only[yq,yw,grd,if_true,yp];grind
theorem zhy {n l}(hl:l.length<4611686018427387904)(hn:l.length<n):zbL n l=O (l.all zbW):=by
 have:=zA (body:=zbL.l1 n l) (len:=l.length) (st:=λi=>i) (g:=λi=>O<|(l.drop i).all zbW) (λa i b c=>?_) (λa=>?_) n 0 (yn _)<|by omega
 ·grind[zbL]
 ·simp only[zbL.l1,za b,grd,zd (i:=i)<|by omega];rw[zj b];simp only[um,zbW];grind
 ·simp[zbL.l1]
def zae (sizes:List Int):List Int->Int->Int|[],s=>s|c::l,s=>zae sizes l<|zvA s<|sizes.getD c.toNat 0
theorem zd3 (sizes):∀(l m)(s),zae sizes (l++m) s=zae sizes m (zae sizes l s)|[],_,_=>rfl|_::l,m,s=>by exact zd3 sizes l m _
theorem zd8 {sizes c}(h:zv6 sizes c=U):idx sizes c=O (sizes.getD c.toNat 0):=by
 simp only[zv6]at h;grind[za]
theorem zfA {n sizes cols}(hc:cols.all (zv6 sizes)=U)(hl:cols.length<4611686018427387904)(hn:cols.length<n):zbl n sizes cols=O (zae sizes cols 1):=by
 have:=zA (body:=zbl.l1 n sizes cols) (len:=cols.length) (st:=λi=>(zae sizes (cols.take i) 1,i)) (g:=λ_=>O<|zae sizes cols 1) (λc i a b=>?_) (λc=>?_) n 0 (yn _)<|by omega
 ·grind[zbl,zae]
 ·rw[yu a,zd3]at b;simp only[zae]at b;simp only[zbl.l1,zy a,if_true,za a,ya,zd8<|yo.1 hc _<|yh a,zd (i:=i)<|by omega,b]
 ·simp[zbl.l1]
theorem zoP {n sizes cols}(hl:cols.length<4611686018427387904)(hn:cols.length<n):zvt (zat.l1 n sizes cols) n (1,0)=O (if cols.all (zv6 sizes)=U then zae sizes cols 1 else 0):=by
 by_cases h:cols.all (zv6 sizes)=U
 ·have:=zA (body:=zat.l1 n sizes cols) (len:=cols.length) (st:=λi=>(zae sizes (cols.take i) 1,i)) (g:=λ_=>O<|zae sizes cols 1) (λe i b d=>?_) (λe=>?_) n 0 (yn _)<|by omega
  ·grind[zae]
  ·rw[yu b,zd3]at d;simp only[zae]at d;have a:=yo.1 h _<|yh b;have f:=zd8 a;simp only[zv6]at a;have c:(Z (cols[i]<0)||Z (sizes.length<=cols[i]))=false:=by simp_all
   simp only[zat.l1,zy b,if_true,za b,ya,yq,yw,grd,yi,c,ye,if_false,f,zd (i:=i)<|by omega,d]
  ·simp[zat.l1]
 ·have:=zA (body:=zat.l1 n sizes cols) (len:=cols.length) (st:=λi=>(zae sizes (cols.take i) 1,i)) (g:=λi=>O<|if(cols.drop i).all (zv6 sizes)=U then zae sizes cols 1 else 0) (λe i b d=>?_) (λe=>?_) n 0 (yn _)<|by omega
  ·grind[zae]
  ·rw[yu b,zd3]at d;simp only[zae]at d;rw[zj b,um];by_cases a:zv6 sizes cols[i]=U
   ·have f:=zd8 a;rw[a,yz];simp only[zv6]at a;have c:(Z (cols[i]<0)||Z (sizes.length<=cols[i]))=false:=by simp_all
    simp only[zat.l1,zy b,if_true,za b,ya,yq,yw,grd,yi,c,ye,if_false,f,zd (i:=i)<|by omega,d]
   ·have c:(Z (cols[i]<0)||Z (sizes.length<=cols[i]))=true:=by
     simp only[zv6]at a;grind
    simp only[yP]at a;rw[a,ue,if_neg<|by simp];simp only[zat.l1,zy b,if_true,za b,ya,yq,yw,grd,yi,c]
  ·simp[zat.l1]
theorem ze7 {n sizes cols}(hl:cols.length<4611686018427387904)(hn:cols.length<n)(hs:sizes.length<4611686018427387904)(hsn:sizes.length<n):zat n sizes cols=O (if(Z (cols.length<=3)&&sizes.all zbW&&cols.all (zv6 sizes))=U then zae sizes cols 1 else 0):=by
 unfold zat;rw[zhy hs hsn,zoP hl hn];simp only[grd];grind
theorem zdz {S R}{body}(μ:S->Nat)(I:S->Prop)(Q:S->Option R->Prop)(hb:∀rec s,I s->(∀s',I s'->μ s'<μ s->Q s' (rec s'))->Q s (body rec s)):∀n s,I s->μ s<n->Q s (zvt body n s)|0,_,_,h=>by omega|n+1,s,c,h=>hb _ s c λs' a b=>zdz μ I Q hb n s' a<|by omega
theorem za4 {σ S R:Type}{body}{len}{st:σ->Nat->S}{g:Nat->σ->Option R}(I:Nat->σ->Prop)(hb:∀rec i s,i<len->I i s->(∀s',I (i+1) s'->rec (st s'<|i+1)=g (i+1) s')->body rec (st s i)=g i s)(he:∀rec s,I len s->body rec (st s len)=g len s):∀n i s,i<=len->len-i<n->I i s->zvt body n (st s i)=g i s
 |0,_,_,_,h,_=>by omega|n+1,i,s,c,h,b=>by
  simp only[zvt];by_cases e:i=len;·grind
  ·exact hb _ i s (by omega) b λs' a=>za4 I hb he n (i+1) s' (by omega) (by omega) a
theorem ze2 {S R}{body:(S->Option R)->S->Option R}{n}(h:0<n)(s):zvt body n s=body (zvt body<|n-1) s:=by
 obtain⟨m,rfl⟩:∃m,n=m+1:=⟨n-1,by omega⟩;rfl
theorem zcT {a b:Nat}(h:a+b<9223372036854775808):zvp (a:Int) (b:Int)=((a+b:Nat):Int):=by grind[zvp,zau]
theorem zdu {l:List UInt8}{i}(h:i<l.length):sidx l (i:Int)=O ((l[i].toNat:Nat):Int):=by unfold sidx;grind
theorem zgD {α}{l:List α}{a b}(h1:a<=b)(h2:b<=l.length):cut l (a:Int) (b:Int)=O ((l.drop a).take<|b-a):=by unfold cut;grind
theorem zi2 {α}{l:List α}{a}(h1:a<=l.length):cut l (a:Int) (l.length:Int)=O (l.drop a):=by rw[zgD h1<|ym _,wb<|by simp]
theorem ztQ {α}{l:List α}:cut l 0 (l.length:Int)=O l:=by have:=zi2 (l:=l) (a:=0) (by omega);grind
theorem zjI {i k:Nat}(h:i<k):Z ((i:Int)<(k:Int))=true:=by grind
theorem zgH {i k:Nat}(h:k<=i):Z ((i:Int)<(k:Int))=false:=by grind
def runP (p:Int->Bool):List UInt8->Nat|[]=>0|b::l=>if p (b.toNat:Nat)=U then runP p l+1 else 0
theorem zk6 (p):∀l,runP p l<=l.length
 |[]=>ym _|b::l=>by
  simp only[runP];split;·exact Nat.succ_le_succ<|zk6 p l
  ·omega
theorem zgO {n}{l}{f p}(hf:∀q,f q=O (p q))(hl:l.length<4611686018427387904)(hn:l.length<n):zc1 n l f=O ((runP p l:Nat):Int):=by
 have:=zA (body:=zc1.l1 n l f) (len:=l.length) (st:=λi=>i) (g:=λi=>O<|i+runP p (l.drop i)) (λa i b c=>?_) (λa=>?_) n 0 (yn _)<|by omega
 ·grind[zc1]
 ·simp only[zc1.l1,zdu b,grd,zd (i:=i)<|by omega];grind[zj,runP]
 ·simp[zc1.l1,runP,grd]
def zb4 (q:Int):Bool:=Z (97<=q)&&Z (q<=122)
def zjB (q:Int):Bool:=Z (48<=q)&&Z (q<=57)
def zwV (q:Int):Bool:=zb4 q||zjB q||q==95
theorem zkI {n q}:zc0 n q=O (zb4 q):=rfl
theorem zll {n q}:zbY n q=O (zjB q):=rfl
theorem zgj {n q}:zbh n q=O (zb4 q):=rfl
theorem zfs {n q}:zb0 n q=O (zjB q):=rfl
def zdJ (q:Int):Bool:=!(q==9||q==10||q==13||q==32||q==35)
theorem zer {q}(h:zb4 q=U):zdJ q=true:=by
 simp only[zb4]at h;grind[zdJ,Bool.or_eq_false_iff]
theorem zmJ {n}{l}(hl:l.length<1000000)(hn:1000000<=n):∃k:Nat,zda n l=O (k:Int)/\k<=l.length/\(∀h,zdJ (l[0].toNat:Nat)=U->k=0)/\∀h,zdJ (l[0].toNat:Nat)=M->0<k:=by
 have:=zdz (body:=zda.l1 n l) (λs:Int=>l.length-s.toNat) (λs=>∃i:Nat,s=i/\i<=l.length) (λs o=>∃k:Nat,o=O (k:Int)/\k<=l.length/\s.toNat<=k/\∀h:s.toNat<l.length,(zdJ (l[s.toNat].toNat:Nat)=U->k=s.toNat)/\(zdJ (l[s.toNat].toNat:Nat)=M->s.toNat<k)) (λrec s hI hr=>by
   obtain⟨i,rfl,hi⟩:=hI;by_cases hlt:i<l.length
   ·simp only[zda.l1,zy hlt,if_true,zdu hlt,ya,zcl,yr];by_cases hw:(((l[i].toNat:Nat):Int)==32||((l[i].toNat:Nat):Int)==9||((l[i].toNat:Nat):Int)==10||((l[i].toNat:Nat):Int)==13)=U
    ·rw[if_pos hw,zd (i:=i)<|by omega];obtain⟨k,e,k1,k2,-⟩:=hr ((i+1:Nat):Int) ⟨i+1,rfl,by omega⟩ (by grind);simp only[yr]at k2;refine⟨k,e,k1,by omega,λh=>⟨λhb=>?_,λhb=>by omega⟩⟩;exfalso;simp only[yH,beq_iff_eq]at hw;grind[zdJ,Bool.not_eq_true',Bool.or_eq_false_iff,beq_eq_false_iff_ne]
    ·rw[if_neg hw];by_cases hh:((l[i].toNat:Nat):Int)=35
     ·rw[if_pos<|by simp[hh],zi2 hi,ya,zgO (f:=λq=>zgP n q) (p:=λq=>q !=10) (λq=>rfl) (by rw[ub];omega)<|by rw[ub];omega,ya];have hrun:1<=runP (λq=>q !=10) (l.drop i):=by rw[zj hlt,runP,hh];simp
      have hle:=zk6 (λq=>q !=10)<|l.drop i;simp only[ub]at hle;rw[zcT<|by omega];obtain⟨k,e,k1,k2,-⟩:=hr ((i+runP (λq=>q !=10) (l.drop i):Nat):Int) ⟨_,rfl,by omega⟩ (by simp only[yr];omega);simp only[yr]at k2;refine⟨k,e,k1,by omega,λh=>⟨λhb=>?_,λhb=>by omega⟩⟩;rw[hh]at hb;exact absurd hb<|by decide
     ·rw[if_neg<|by simpa using hh];refine⟨i,rfl,hi,ym _,λh=>⟨λ_=>rfl,λhb=>?_⟩⟩;exfalso;simp only[yH,beq_iff_eq,not_or]at hw;simp only[zdJ,vM,yH,beq_iff_eq]at hb;omega
   ·have:i=l.length:=by omega
    subst this;refine⟨l.length,by simp[zda.l1],ym _,by simp,λh=>by simp at h⟩) n 0 ⟨0,rfl,by omega⟩<|by simp;omega
 grind[zda]
theorem zgQ {n}{l}(hn:1000000<=n):∃k:Int,zbu n l=O k:=by
 have:=zdz (body:=zbu.l1 n l) (λs:Int=>5-s.toNat) (λs=>∃i:Nat,s=i/\i<=5) (λ_ o=>∃k:Int,o=O k) (λrec s hI hr=>by
  obtain⟨i,rfl,hi⟩:=hI;simp only[zbu.l1];generalize hL:([[61,61],[33,61],[60,61],[62,61],[46,46]]:List<|List UInt8)=L;have hLl:L.length=5:=by grind
  by_cases hlt:i<L.length
  ·have hp:∃b,zdf n l L[i]=O b:=by
    simp only[zdf,zbB];by_cases h:L[i].length<=l.length
    ·have:cut l 0 (L[i].length:Int)=O ((l.drop 0).take<|L[i].length-0):=zgD (a:=0) (by omega)<|by omega
     simp[this,grd]
    ·simp[h,grd]
   obtain⟨b,hp⟩:=hp;have hd:Z ((i:Int)<(([[61,61],[33,61],[60,61],[62,61],[46,46]]:List<|List Nat).length:Int))=true:=by grind
   simp only[hd,if_true,za hlt,ya,hp,zd (i:=i)<|by omega];split;·grind
   ·exact hr _ ⟨i+1,rfl,by omega⟩<|by grind
  ·have hd:Z ((i:Int)<(([[61,61],[33,61],[60,61],[62,61],[46,46]]:List<|List Nat).length:Int))=false:=by simp;omega
   rw[hd,if_neg<|by simp];cases l with
   |nil=>simp[grd]|cons b l=>
    have h0:sidx (b::l) 0=O ((b.toNat:Nat):Int):=zdu (l:=b::l) (i:=0)<|by simp
    simp only[h0,zcz,za8,ya,yq,yw,grd,if_true,yi];grind) n 0 ⟨0,rfl,by omega⟩<|by grind
 grind[zbu]
theorem zkH {n}{l}(hn:1000000<=n)(h:0<l.length):∃b,zdF n l=O b:=by obtain⟨k,c⟩:=zgQ (n:=n) (l:=l) hn;have a:sidx l 0=O l[0].toNat:=zdu (i:=0) h;simp[zdF,a,zc0,zbY,c,grd]
theorem zlm {n}{l}{k}(hl:l.length<1000000)(hn:1000000<=n)(h1:0<l.length):∃e,zvt (zaH.l2 n l k) n 1=k (5,e):=by
 refine zdz (body:=zaH.l2 n l k) (λs=>l.length-s.toNat) (λs=>∃i:Nat,s=i/\i<=l.length) (λ_ o=>∃e,o=k (5,e)) (λh s d f=>?_) n 1 ⟨1,rfl,h1⟩ (by grind);obtain⟨i,rfl,g⟩:=d;by_cases a:i<l.length
 ·obtain⟨b,c⟩:=zkH (n:=n) (l:=l.drop i) hn (by grind);simp only[zaH.l2,zdu a,zcl,zi2 g,c,yq,yw,grd,if_true,yi,zd (i:=i)<|by omega];split;·exact f _ ⟨i+1,rfl,by omega⟩<|by omega
  grind
 ·have:i=l.length:=by omega
  subst this;exact⟨l.length,by simp[zaH.l2,grd]⟩
def zy6 (w:List UInt8):Bool:=(match w with|[]=>M|b::_=>zb4 (b.toNat:Nat))&&Z (runP zwV w=w.length)
theorem zjr (w)(h):zy6 w=(zb4 (w[0].toNat:Nat)&&Z (runP zwV w=w.length)):=by cases w with|nil=>simp at h|cons b l=>rfl
theorem zoL {n}{w}{kw}(hl:w.length<1000000)(hn:1000000<=n)(h0:0<w.length):∃t,zaH n w kw=O t/\(t.at_=0/\t.end_=(w.length:Int)/\t.kind=1↔zy6 w=U/\(kw.get? w).getD M=M):=by
 obtain⟨k,e,k1,k2,k3⟩:=zmJ (n:=n) (l:=w) hl hn;unfold zaH;rw[ze2<|by omega];have hz:zvp 0 (k:Int)=(k:Int):=by have:=zcT (a:=0) (b:=k) (by omega);grind
 simp only[zaH.l1,ztQ,ya,e,hz,zi2 k1,jn];by_cases hk:k=w.length
 ·subst hk;rw[if_pos<|by simp];refine⟨_,rfl,?_⟩;simp only[];constructor;·grind
  ·rintro⟨h,-⟩;exfalso;rw[zjr w h0,yc]at h;grind[zer]
 ·have hd:0<(w.drop k).length:=by grind
  rw[if_neg<|by grind];have hs:sidx (w.drop k) 0=O (((w.drop k)[0].toNat:Nat):Int):=zdu (i:=0) hd;simp only[hs,ya,zkI];rw[zjr w h0];by_cases hlet:zb4 (((w.drop k)[0].toNat:Nat):Int)=U
  ·rw[if_pos hlet,zgO (p:=zwV) (λq=>by simp[zjf,zc0,zbY,grd,zwV,zb4,zjB]) (by simp;omega)<|by simp;omega];have hle:=zk6 zwV<|w.drop k;have hc:=zgD (l:=w.drop k) (a:=0) (b:=runP zwV<|w.drop k) (by omega) hle;simp only[ya,we]at hc|-;rw[hc];simp only[ub]at hle;have ha:zvp (k:Int) (runP zwV<|w.drop k:Nat)=((k+runP zwV (w.drop k):Nat):Int):=zcT<|by omega
   simp only[ya,ha,wG,Nat.sub_zero];by_cases hk0:k=0
   ·subst hk0;simp only[wG]at hlet|-;by_cases hrun:runP zwV w=w.length
    ·rw[hrun,wb<|ym _];by_cases hkw:(kw.get? w).getD M=U;·rw[if_pos hkw];refine⟨_,rfl,?_⟩;simp[hkw]
     ·rw[if_neg hkw];refine⟨_,rfl,?_⟩;simp only[yP]at hkw;simp[hkw,hlet]
    ·split;all_goals
      refine⟨_,rfl,?_⟩;simp[hrun];try omega
   ·have hbl:zdJ (w[0].toNat:Nat)=false:=by cases hb:zdJ (w[0].toNat:Nat)with|false=>rfl|true=>exact absurd (k2 h0 hb) hk0
    have hnl:zb4 (w[0].toNat:Nat)=false:=by cases hb:zb4 (w[0].toNat:Nat)with|false=>rfl|true=>rw[zer hb]at hbl;cases hbl
    split;all_goals refine⟨_,rfl,?_⟩;simp[hnl,hk0]
  ·rw[if_neg hlet];have hno:k=0->zb4 (w[0].toNat:Nat)=false:=by intro hk0;subst hk0;simp only[wG,yP]at hlet;exact hlet
   have hno':zb4 (w[0].toNat:Nat)=false:=by
    by_cases hk0:k=0;·exact hno hk0
    ·cases hb:zb4 (w[0].toNat:Nat)with|false=>rfl|true=>exact absurd (k2 h0<|zer hb) hk0
   simp only[zll,ya,hno',ue,ye,false_and,iff_false];split;·rw[zgO (p:=zjB) (λq=>rfl) (by simp;omega)<|by simp;omega];exact⟨_,rfl,by simp⟩
   ·obtain⟨v,hv⟩:=zgQ (n:=n) (l:=w.drop k) hn;simp only[hv,ya];split;·exact⟨_,rfl,by simp⟩
    ·obtain⟨e,he⟩:=zlm (n:=n) (l:=w.drop k) (k:=λv=>O (⟨v.1,0,(k:Int),zvp (k:Int) v.2⟩:Token)) (by simp;omega) hn hd;rw[he];exact⟨_,rfl,by simp⟩
def kwL:List<|List UInt8:=[[115,111,114,116],[114,101,108,97,116,105,111,110],[99,111,117,110,116,101,114],[115,101,116],[114,101,103,105,115,116,101,114],[105,110,118,97,114,105,97,110,116],[111,112,101,114,97,116,105,111,110],[107,101,121],[114,101,102,101,114,101,110,99,101],[116,111],[99,111,117,110,116],[97,99,121,99,108,105,99],[97,108,108],[115,117,109],[105,110],[97,100,100,119,105,110,115],[114,101,109,111,118,101,119,105,110,115],[108,97,115,116],[109,117,108,116,105],[104,105,100,101],[111,114,100,101,114,101,100],[114,101,113,117,105,114,101],[104,111,108,100],[105,110,115,101,114,116],[100,101,108,101,116,101],[97,100,100],[102,114,111,109],[112,117,116],[100,114,111,112],[97,115,115,105,103,110],[102,111,114],[119,104,101,114,101],[97,110,100],[111,114],[110,111,116]]
structure Fuel (n:Nat):Prop where
 big:4294967296<=n
 kw:∃m,zbU n=O m/\zxM m kwL
def zx7 (w:List UInt8):Bool:=Z (w.length<=16)&&(zy6 w&&!decide (w∈kwL))
theorem zio {n}{w}(hF:Fuel n):zfS n w=O (zx7 w):=by
 have p:=hF.big;unfold zfS zx7;by_cases d:w.length<=16
 ·have k:Z (w.length<=16)=true:=by grind
  unfold zeS;obtain⟨m,f,g⟩:=hF.kw;cases i:w with
  |nil=>simp[grd,zy6]|cons b l=>
   rw[<-i];have e:0<w.length:=by grind
   rw[if_neg<|by grind,f,ya];obtain⟨t,h,a⟩:=zoL (n:=n) (w:=w) (kw:=m) (by omega) (by omega) e;rw[g.get]at a;simp only[h,ya];by_cases o:t.at_=0/\t.end_=w.length/\t.kind=1;·grind[grd]
   ·have j:(zy6 w&&!decide (w∈kwL))=false:=by grind
    rw[j];split;·simp[grd]
    ·rename_i c;grind[grd]
 ·grind[grd]
theorem zoT {n}{t}{rec x}(hx:x<=t.length)(hl:t.length<1000000)(hn:1000000<=n):∃y:Nat,x<=y/\y<=t.length/\zvt (zbt.l2 n t rec) n x=rec (y:Int)/\∀h,(t[x].toNat:Nat)=35->x<y:=by
 have:=zdz (body:=zbt.l2 n t rec) (λs:Int=>t.length-s.toNat) (λs=>∃i:Nat,s=i/\i<=t.length) (λs o=>∃y:Nat,s.toNat<=y/\y<=t.length/\o=rec (y:Int)/\∀h:s.toNat<t.length,(t[s.toNat].toNat:Nat)=35->s.toNat<y) (λr s hI hr=>by
  obtain⟨i,rfl,hi⟩:=hI;by_cases hlt:i<t.length
  ·simp only[zbt.l2,zy hlt,zdu hlt,yq,grd,if_true,yi,yz,zd (i:=i)<|by omega,yr];by_cases h10:(((t[i].toNat:Nat):Int)!=10)=U
   ·obtain⟨y,y1,y2,y3,-⟩:=hr ((i+1:Nat):Int) ⟨_,rfl,by omega⟩<|by omega
    grind
   grind
  ·have:i=t.length:=by omega
   subst this;exact⟨t.length,by simp,ym _,by simp[zbt.l2,grd],λh=>by simp at h⟩) n x ⟨x,rfl,hx⟩<|by omega
 grind
theorem zhZ {n}{t:List UInt8}{a}(ha:a<=t.length)(hl:t.length<1000000)(hn:1000000<=n):∃k:Nat,zbt n t a=O (k:Int)/\a<=k/\k<=t.length/\(∀h,zdJ (t[k].toNat:Nat)=U)/\∀h,zdJ (t[a].toNat:Nat)=U->k=a:=by
 have:=zdz (body:=zbt.l1 n t) (λs:Int=>t.length-s.toNat) (λs=>∃i:Nat,s=i/\i<=t.length) (λs o=>∃k:Nat,o=O (k:Int)/\s.toNat<=k/\k<=t.length/\(∀h:k<t.length,zdJ (t[k].toNat:Nat)=U)/\∀h:s.toNat<t.length,zdJ (t[s.toNat].toNat:Nat)=U->k=s.toNat) (λr s hI hr=>by
  obtain⟨i,rfl,hi⟩:=hI;by_cases hlt:i<t.length
  ·simp only[zbt.l1,zy hlt,zdu hlt,zbo,yq,yw,grd,if_true,yi,yz,ya,zd (i:=i)<|by omega,yr];by_cases hb:zdJ (t[i].toNat:Nat)=U
   ·rw[if_neg<|by simp only[zdJ,yD,uc,uu]at hb;simp_all];grind
   ·rw[if_pos<|by simp only[zdJ,yD,uc,uu]at hb;simp only[yH,beq_iff_eq];omega];by_cases hh:(t[i].toNat:Nat)=35;·rw[if_pos<|by simp[hh]];obtain⟨y,y1,y2,y3,y4⟩:=zoT (n:=n) (rec:=r) hi hl hn;have y5:=y4 hlt hh;rw[y3];obtain⟨k,e,k1,k2,k3,-⟩:=hr (y:Int) ⟨y,rfl,y2⟩ (by simp only[yr];omega);simp only[yr]at k1;exact⟨k,e,by omega,k2,k3,λ_ h=>absurd h hb⟩
    ·rw[if_neg<|by simp;omega];obtain⟨k,e,k1,k2,k3,-⟩:=hr ((i+1:Nat):Int) ⟨_,rfl,by omega⟩ (by simp only[yr];omega);simp only[yr]at k1;exact⟨k,e,by omega,k2,k3,λ_ h=>absurd h hb⟩
  ·have:i=t.length:=by omega
   subst this;exact⟨t.length,by simp[zbt.l1,grd],by simp,ym _,λh=>absurd h<|by omega,λh=>by simp at h⟩) n a ⟨a,rfl,ha⟩<|by simp;omega
 grind[zbt]
theorem ziD {n}{t:List UInt8}{a}(ha:a<=t.length)(hl:t.length<1000000)(hn:1000000<=n):∃v:Nat,zbC n t a=O (v:Int)/\a+v<=t.length:=by
 unfold zbC;simp only[zgh,ya];generalize hL:([[61,61],[33,61],[60,61],[62,61],[46,46],[60],[62],[61],[43],[45],[42],[40],[41],[123],[125],[44],[58],[59]]:List<|List UInt8)=L;have hLl:L.length=18:=by rw[<-hL];rfl
 have hL2:∀x∈L,x.length<=2:=by rw[<-hL];decide
 refine zdz (body:=zbC.l1 n t a L) (λs:Int=>18-s.toNat) (λs=>∃i:Nat,s=i/\i<=18) (λs o=>∃v:Nat,o=O (v:Int)/\a+v<=t.length) (λr s hI hr=>?_) n 0 ⟨0,rfl,by omega⟩ (by grind);obtain⟨i,rfl,hi⟩:=hI;by_cases hlt:i<L.length
 ·have h2:=hL2 _<|yh hlt;simp only[zbC.l1,zy hlt,if_true,za hlt,ya,yq,yi,yw,zd (i:=i)<|by omega,zcT<|show a+L[i].length<9223372036854775808 by omega];by_cases hle:a+L[i].length<=t.length
  ·simp only[zgD (l:=t) (a:=a) (b:=a+L[i].length) (by omega) hle,yq,yw,grd,if_true];split;·grind
   ·exact hr _ ⟨i+1,rfl,by omega⟩<|by grind
  ·have hd:Z (((a+L[i].length:Nat):Int)<=(t.length:Int))=false:=by simp;omega
   simp only[hd,ut,uE,grd,if_true,ue,ye,if_false];exact hr _ ⟨i+1,rfl,by omega⟩<|by simp only[yr];omega
 grind[zbC.l1]
theorem zjj {n}{L}{w}(hl:L.length<1000000)(hn:1000000<=n):zc5 n L w=O (Z<|w∈L):=by
 have:=zA (body:=zc5.l1 n L w) (len:=L.length) (st:=λi=>i) (g:=λi=>O<|Z<|w∈L.drop i) (λa i b c=>?_) (λa=>?_) n 0 (yn _)<|by omega
 ·grind[zc5]
 ·simp only[zc5.l1,za b,zd (i:=i)<|by omega];rw[zj b];grind
 ·simp[zc5.l1]
theorem zg1 {n}:zfC n=O kwL:=rfl
theorem zjO {n}{t:List UInt8}{a}(ha:a<t.length)(hb:zdJ (t[a].toNat:Nat)=U)(hl:t.length<1000000)(hn:1000000<=n):∃(k:Int)(e:Nat),zaE n t a=O (k,(e:Int))/\a<e/\e<=t.length/\(zb4 (t[a].toNat:Nat)=U->e=a+runP zwV (t.drop a))/\(k=1↔zb4 (t[a].toNat:Nat)=U/\(t.drop a).take (e-a)∉kwL):=by
 unfold zaE;simp only[zdu ha,ya,zgj,zfs];by_cases hlet:zb4 ((t[a].toNat:Nat):Int)=U
 ·rw[if_pos hlet];have hlp:zb4 (t[a].toNat:Nat)=true:=hlet;have hrun1:1<=runP zwV (t.drop a):=by rw[zj ha,runP,if_pos<|by grind[zwV]];omega
  have hle:=zk6 zwV<|t.drop a;simp only[ub]at hle;have:=za4 (body:=zaE.l1 n t a) (len:=t.length) (st:=λ(_:Unit)i=>(i:Int)) (g:=λi _=>O<|if Z ((t.drop a).take (i+runP zwV (t.drop i)-a)∈kwL)=U then(2,((i+runP zwV (t.drop i):Nat):Int))else(1,((i+runP zwV (t.drop i):Nat):Int))) (λi _=>a<=i) (λrec i _ hi hai hr=>?_) (λrec _ hai=>?_) n a () (by omega) (by omega)<|ym _
  ·rw[this];refine⟨if Z ((t.drop a).take (a+runP zwV (t.drop a)-a)∈kwL)=U then 2 else 1,a+runP zwV (t.drop a),?_,by omega,by omega,λ_=>rfl,?_⟩;·grind
   grind
  ·have hr:=hr () (by omega);have hle':=zk6 zwV<|t.drop i;simp only[ub]at hle';simp only[zaE.l1,zy hi,zdu hi,zgj,zfs,yq,yw,grd,if_true,yi,yz,zd (i:=i)<|by omega,hr];rw[zj hi,runP];have hpe:(zb4 ((t[i].toNat:Nat):Int)||zjB ((t[i].toNat:Nat):Int)||((t[i].toNat:Nat):Int)==95)=zwV ((t[i].toNat:Nat):Int):=rfl;rw[hpe];by_cases hp:zwV (t[i].toNat:Nat)=U;·rw[if_pos hp,if_pos hp,show i+(runP zwV (t.drop<|i+1)+1)=i+1+runP zwV (t.drop<|i+1)by omega]
   ·rw[if_neg hp,if_neg hp];simp only[uy,zg1,ya,zgD hai<|tv hi];rw[zjj (by decide) hn,ya];cases Z<|(t.drop a).take (i-a)∈kwL<;>rfl
  ·simp only[zaE.l1,zaj,ut,uE,grd,if_true,ue,ye,if_false,zg1,ya,zgD hai<|ym _];rw[zjj (by decide) hn,ya];simp only[xV,runP,uy];cases Z<|(t.drop a).take (t.length-a)∈kwL<;>rfl
 ·rw[if_neg hlet];have hlp:zb4 (t[a].toNat:Nat)=false:=by simpa using hlet
  simp only[hlp,ye,false_implies,false_and,iff_false,true_and];by_cases hdig:zjB ((t[a].toNat:Nat):Int)=U
  ·rw[if_pos hdig];have:=zdz (body:=zaE.l2 n t) (λs:Int=>t.length-s.toNat) (λs=>∃i:Nat,s=i/\i<=t.length) (λs o=>∃e:Nat,o=O (3,(e:Int))/\s.toNat<=e/\e<=t.length/\∀h:s.toNat<t.length,zjB (t[s.toNat].toNat:Nat)=U->s.toNat<e) (λr s hI hr=>by
    obtain⟨i,rfl,hi⟩:=hI;by_cases hlt:i<t.length
    ·simp only[zaE.l2,zy hlt,zdu hlt,zfs,yq,yw,grd,if_true,yi,yz,zd (i:=i)<|by omega,yr];split;·obtain⟨e,e1,e2,e3,-⟩:=hr ((i+1:Nat):Int) ⟨_,rfl,by omega⟩ (by simp only[yr];omega);simp only[yr]at e2;exact⟨e,e1,by omega,e3,λ_ _=>by omega⟩
     ·rename_i hno;exact⟨i,rfl,ym _,hi,λ_ h=>absurd h hno⟩
    ·have:i=t.length:=by omega
     subst this;exact⟨t.length,by simp[zaE.l2,grd],by simp,ym _,λh=>by simp at h⟩) n a ⟨a,rfl,tv ha⟩<|by simp;omega
   obtain⟨e,e1,-,e3,e4⟩:=this;exact⟨3,e,e1,e4 ha hdig,e3,by decide⟩
  ·rw[if_neg hdig];obtain⟨v,hv,hv2⟩:=ziD (n:=n) (t:=t) (a:=a) (tv ha) hl hn;rw[hv,ya];by_cases hv0:0<v;·rw[if_pos<|by simpa using hv0,zcT<|by omega];exact⟨4,a+v,rfl,by omega,hv2,by decide⟩
   ·have hv0:v=0:=by omega
    subst hv0;rw[if_neg<|by simp];have:=zdz (body:=zaE.l3 n t) (λs:Int=>t.length-s.toNat) (λs=>∃i:Nat,s=i/\i<=t.length) (λs o=>∃e:Nat,o=O (5,(e:Int))/\s.toNat<=e/\e<=t.length/\(s=a->a<e)) (λr s hI hr=>by
     obtain⟨i,rfl,hi⟩:=hI;by_cases hlt:i<t.length
     ·obtain⟨u,hu,-⟩:=ziD (n:=n) (t:=t) (a:=i) hi hl hn;simp only[zaE.l3,zy hlt,zdu hlt,zbo,zgj,zfs,hu,yq,yw,grd,if_true,yi,yz,zd (i:=i)<|by omega,yr];split;·obtain⟨e,e1,e2,e3,-⟩:=hr ((i+1:Nat):Int) ⟨_,rfl,by omega⟩ (by simp only[yr];omega);simp only[yr]at e2;exact⟨e,e1,by omega,e3,λh=>by omega⟩
      ·rename_i hno;refine⟨i,rfl,ym _,hi,λh=>?_⟩;have hia:i=a:=by omega
       subst hia;exfalso;apply hno;rw[hv]at hu;simp only[yp,Int.natCast_inj]at hu;subst hu;simp only[zdJ,yD,uc,uu]at hb;simp only[yc,bne_iff_ne,ne_eq,yD,uc,uu];simp only[yP]at hlet hdig;exact⟨⟨⟨⟨by omega,by omega⟩,hlet⟩,hdig⟩,by simp⟩
     ·have:i=t.length:=by omega
      subst this;exact⟨t.length,by simp[zaE.l3,grd],by simp,ym _,λh=>by omega⟩) n a ⟨a,rfl,tv ha⟩<|by simp;omega
    obtain⟨e,e1,-,e3,e4⟩:=this;exact⟨5,e,e1,e4 rfl,e3,by decide⟩
theorem zk {α}{b}{xs ys:List α}(h:(xs.length+ys.length)*b<=140737488355328):Go.Proofs.YtipkniadbkndfaaGreatDoor.app b xs ys=O (xs++ys):=by unfold Go.Proofs.YtipkniadbkndfaaGreatDoor.app;grind
theorem zk2 {n}{t}(hl:t.length<1000000)(hn:1000000<=n):∀(m)(b)(a:Nat),a<=t.length->b.length<=a->t.length-a<m->∃r,r≠[]/\zvt (zdb.l1 n t) m (b,(a:Int))=O (b++r,0)
 |0,_,_,_,_,h=>by omega|m+1,b,a,g,j,h=>by
  obtain⟨k,e,l,o,d,-⟩:=zhZ (n:=n) g hl hn;simp only[zvt,zdb.l1,e,ya];by_cases c:k<t.length
  ·obtain⟨q,z,f,p,i,-,-⟩:=zjO (n:=n) c (d c) hl hn;simp only[f,ya];rw[zk<|by grind,ya];obtain⟨r,-,s⟩:=zk2 hl hn m (b++[⟨q,a,k,z⟩]) z i (by grind)<|by omega
   grind
  ·rw[zgH<|by omega,if_neg<|by simp,zk<|by grind,ya];grind
theorem zoS {n}{w}(hl:w.length<=4096)(hn:1000000<=n):∃k,zhg n w=O k/\(k=1↔zy6 w=U/\w∉kwL):=by
 unfold zhg zdb;rw[if_neg<|by grind,ze2<|by omega];obtain⟨k,e,-,k2,k3,k4⟩:=zhZ (n:=n) (t:=w) (a:=0) (by omega) (by omega) hn;simp only[we]at e;simp only[zdb.l1,e,ya];by_cases hlt:k<w.length
 ·obtain⟨q,z,hz,z1,z2,z3,z4⟩:=zjO (n:=n) hlt (k3 hlt) (by omega) hn;simp only[zy hlt,if_true,hz,ya,yR];rw[zk<|by simp,ya];obtain⟨r,r0,hr⟩:=zk2 (n:=n) (t:=w) (by omega) hn (n-1) [(⟨q,0,(k:Int),(z:Int)⟩:Token)] z z2 (by grind) (by omega);simp only[yR];rw[hr];have h0:idx ([(⟨q,0,(k:Int),(z:Int)⟩:Token)]++r) 0=O ⟨q,0,(k:Int),(z:Int)⟩:=by simp[idx]
  simp only[ya,h0,yq,yw,grd,if_true,yi];rw[zjr w<|by omega];have hw0:k=0->z=w.length->(zb4 (w[k].toNat:Nat)=U/\(w.drop k).take (z-k)∉kwL↔(zb4 (w[0].toNat:Nat)&&Z (runP zwV w=w.length))=U/\w∉kwL):=by grind
  by_cases hc:((0:Int)!=0||(([(⟨q,0,(k:Int),(z:Int)⟩:Token)]++r).length:Int)!=2||(k:Int)!=0||(z:Int)!=(w.length:Int))=U
  ·rw[if_pos hc];refine⟨0,rfl,?_⟩;constructor;·grind
   ·rintro⟨h1,h2⟩;exfalso;simp only[yc,yf]at h1;have hk0:k=0:=k4 (by omega)<|zer h1.1;subst hk0;have hzw:=z3 h1.1;simp only[wG]at hzw;have hzl:z=w.length:=by omega
    subst hzl;rw[ze2<|by omega]at hr;obtain⟨k',e',p1,p2,-,-⟩:=zhZ (n:=n) (t:=w) (a:=w.length) (ym _) (by omega) hn;have:k'=w.length:=by omega
    subst this;simp only[zdb.l1,e',ya,zaj,ye,if_false]at hr;rw[zk<|by simp,ya]at hr;simp only[yp,yg,and_true,List.append_cancel_left_eq]at hr;subst hr;simp at hc
  grind
 ·rw[zgH<|by omega,if_neg<|by simp,zk<|by simp,ya];simp only[yR,ya];refine⟨0,by simp[grd,idx],?_⟩;constructor;·intro h;exact absurd h<|by decide
  ·rintro⟨h1,-⟩;exfalso;cases w with|nil=>simp[zy6]at h1|cons x l=>simp only[zy6,yc]at h1;have:=k4 (by simp)<|zer h1.1;simp at hlt;omega
theorem ziA {n}{w}(hl:w.length<=4096)(hn:1000000<=n):zfX n w=O (zx7 w):=by
 unfold zfX zx7;obtain⟨k,c,a⟩:=zoS (n:=n) hl hn;have b:Z ((w.length:Int)<=16)=Z (w.length<=16):=decide_eq_decide.2<|by omega
 grind
theorem zxM.getS {m:GMap (List UInt8) Bool}{l:List<|List UInt8}(h:zxM m l)(k:List UInt8):(m.get? k).getD M=Z (k∈l):=(h.get k).trans<|decide_eq_decide.2 Iff.rfl
def zxq:List (List UInt8)->List (List UInt8)->Bool|_,[]=>U|seen,s::l=>zx7 s&&!decide (s∈seen)&&zxq (seen++[s]) l
theorem zfU {n}{l:List<|List UInt8}(hF:Fuel n)(hl:l.length<1000000):zaX n l=O (zxq [] l):=by
 have hn:=hF.big;have:=za4 (body:=zaX.l1 n l) (len:=l.length) (st:=λm i=>(m,(i:Int))) (g:=λi _=>O<|zxq (l.take i)<|l.drop i) (λi m=>zxM m<|l.take i) (λrec i m hi hm hr=>?_) (λrec m _=>?_) n 0 wl (yn _) (by omega)<|by simpa using zxM.empty
 ·simpa[zaX]using this
 ·simp only[zaX.l1,zy hi,if_true,za hi,ya,zio hF,hm.getS,zd (i:=i)<|by omega];rw[hr _<|by rw[yu hi];exact hm.put _,zj hi,zxq,yu hi];cases zx7 l[i]<;>cases hd:Z<|l[i]∈l.take i<;>simp
 ·simp[zaX.l1,zxq]
theorem zfZ {n}{l:List<|List UInt8}(hn:1000000<=n)(hl:l.length<1000000)(hw:∀w∈l,w.length<=4096):zaY n l=O (zxq [] l):=by
 have:=zA (body:=zaY.l1 n l) (len:=l.length) (st:=λi=>(i:Int)) (g:=λi=>O<|zxq (l.take i)<|l.drop i) (λrec i hi hr=>?_) (λrec=>?_) n 0 (yn _)<|by omega
 ·simpa[zaY]using this
 ·have hc:=zgD (l:=l) (a:=0) (b:=i) (by omega)<|tv hi;simp only[we,wG,Nat.sub_zero]at hc;simp only[zaY.l1,zy hi,if_true,za hi,ya,ziA (hw _<|yh hi) hn,hc,yq,yi,yw,grd,zjj (show(l.take i).length<1000000 by simp;omega) hn,zd (i:=i)<|by omega,hr];rw[zj hi,zxq,yu hi];cases zx7 l[i]<;>cases hd:Z<|l[i]∈l.take i<;>simp
 ·simp[zaY.l1,zxq]
theorem zqP {n l v}(hl:l.length<1000000)(hn:1000000<=n):zag n l v=O (ixP (λx=>v==x) l 0):=by
 have:=zA (body:=zag.l1 n l v) (len:=l.length) (st:=λi=>(i:Int)) (g:=λi=>O<|ixP (λx=>v==x) (l.drop i) i) (λrec i hi hr=>?_) (λrec=>?_) n 0 (yn _)<|by omega
 ·simpa[zag]using this
 ·simp only[zag.l1,zy hi,if_true,za hi,ya,zd (i:=i)<|by omega,hr];rw[zj hi];simp only[ixP];split<;>rfl
 ·simp[zag.l1,ixP]
theorem zjy {n l}(hl:l.length<1000000)(hn:1000000<=n):zgA n l=O (l.all id):=by unfold zgA zb5;rw[zqP hl hn];simp only[ya,zgM,yp];rw[<-zos];congr 2;funext x;cases x<;>rfl
def b6:Nat->Int->Int|0,A=>A|k+1,A=>b6 k<|A*6
theorem b6_le:∀(k:Nat)(A:Int),1<=A->A<=b6 k A|0,_,_=>wT _|k+1,A,h=>Int.le_trans (by omega)<|b6_le k (A*6)<|by omega
theorem zry {a b A:Int}(h1:1<=a)(h2:a<=A)(h3:1<=b)(h4:b<=6):1<=a*b/\a*b<=A*6:=by have e1:1*1<=a*b:=tx h1 h3 (by omega) (by omega);have e2:a*b<=A*6:=tx h2 h4 (by omega) (by omega);omega
theorem zol (sizes:List Int)(hs:sizes.all zbW=U):∀(cols:List Int)(s A:Int),cols.all (zv6 sizes)=U->1<=s->s<=A->b6 cols.length A<=1000000->1<=zae sizes cols s/\zae sizes cols s<=b6 cols.length A
 |[],s,A,_,h1,h2,_=>by simpa[zae,b6]using⟨h1,h2⟩|c::l,s,A,hc,h1,h2,h3=>by
  simp only[um,yc]at hc;have hcol:=hc.1;simp only[zv6,yc,yf]at hcol;obtain⟨k,rfl⟩:=yS hcol.1;have hk:k<sizes.length:=by omega
  have hz:=yo.1 hs _<|yh hk;simp only[zbW,yc,yf]at hz;have hg:sizes.getD (k:Int).toNat 0=sizes[k]:=by simp[vD,hk]
  have hm:=zry h1 h2 hz.1 hz.2;simp only[yQ,b6]at h3|-;have hb:=b6_le l.length (A*6) (by omega);simp only[zae,hg];unfold zvA;rw[zau (by omega)<|by omega];exact zol sizes hs l _ _ hc.2 hm.1 hm.2 h3
theorem zfx {sizes cols}(hs:sizes.all zbW=U)(hc:cols.all (zv6 sizes)=U)(h3:cols.length<=3):1<=zae sizes cols 1/\zae sizes cols 1<=216:=by
 have h:b6 cols.length 1<=216:=by match cols,h3 with
  |[],_=>decide|[_],_=>simp[b6]|[_,_],_=>simp[b6]|[_,_,_],_=>simp[b6]|_::_::_::_::_,h=>simp at h
 have:=zol sizes hs cols 1 1 hc (by decide) (by decide) (by omega);omega
def zaL (k:Int):Bool:=k==0||k==1
def zgZ (t:Table):Bool:=if(t.kind==1||t.kind==4||t.kind==5)=U then Z (t.range.lo<=t.range.hi)&&Z (-9999<=t.range.lo)&&Z (t.range.hi<=9999)else Z<|t.range=(⟨0,1⟩:Range)
def tabP (sizes:List Int)(t:Table):Bool:=zx7 t.name&&(Z (0<=t.kind)&&Z (t.kind<=5))&&(Z (t.zvo.length<=3)&&t.zvo.all (zv6 sizes))&&zgZ t
def layP (sizes:List Int):List (List UInt8)->Int->Int->List Table->Bool|_,a,b,[]=>decide (a<=128)&&Z (b<=64)|seen,a,b,t::l=>tabP sizes t&&!decide (t.name∈seen)&&if zaL t.kind=U then t.first==a&&layP sizes (seen++[t.name]) (zvp a<|zae sizes t.zvo 1) b l else t.first==b&&layP sizes (seen++[t.name]) a (zvp b<|zae sizes t.zvo 1) l
def za3 (sizes:List Int)(tables:List Table):Bool:=Z (sizes.length<=4)&&Z (tables.length<=12)&&sizes.all zbW&&layP sizes [] 0 0 tables
theorem zko {n t}:zem n t=O (zgZ t):=by
 unfold zem zgZ jn;by_cases h1:t.kind=1;·simp[h1]
 ·by_cases h4:t.kind=4;·simp[h4]
  ·by_cases h5:t.kind=5;·simp[h5]
   ·simp[h1,h4,h5]
theorem zfz {n sizes tables}(hF:Fuel n)(hs:sizes.length<=1000)(ht:tables.length<=1000)(hc:∀t∈tables,t.zvo.length<=1000):zbX n sizes tables=O (za3 sizes tables):=by
 have hn:=hF.big;unfold zbX za3;rw[zlk (by omega)<|by omega,ya,zjy (by simp)<|by omega,ya];simp only[um,wD,id,ui];have e1:Z ((sizes.length:Int)<=4)=Z (sizes.length<=4):=decide_eq_decide.2 (by omega);have e2:Z ((tables.length:Int)<=12)=Z (tables.length<=12):=decide_eq_decide.2 (by omega);rw[e1,e2,<-Bool.and_assoc];by_cases h:(Z (sizes.length<=4)&&Z (tables.length<=12)&&sizes.all zbW)=U
 ·rw[h,if_neg<|by simp,yz];have:=za4 (body:=zbX.l1 n sizes tables) (len:=tables.length) (st:=λ(s:GMap (List UInt8) Bool×Int×Int)i=>(s.1,s.2.1,s.2.2,(i:Int))) (g:=λi s=>O<|layP sizes ((tables.take i).map (·.name)) s.2.1 s.2.2<|tables.drop i) (λi s=>zxM s.1<|(tables.take i).map (·.name)) (λrec i s hi hm hr=>?_) (λrec s _=>?_) n 0 (wl,0,0) (yn _) (by omega)<|by simpa using zxM.empty
  ·simpa using this
  ·obtain⟨m,a,b⟩:=s;simp only[]at hm;have hmem:=yh hi;have hcols:=hc _ hmem;simp only[zbX.l1,jn,zy hi,if_true,za hi,ya,zio hF,hm.getS,zen,ziX (show tables[i].zvo.length<4611686018427387904 by omega)<|show tables[i].zvo.length<n by omega,zko,zci,zd (i:=i)<|by omega];rw[zjy (by simp)<|by omega,ya];simp only[um,wD,id,ui];have hput:=hm.put tables[i].name;have htk:(tables.take<|i+1).map (·.name)=(tables.take i).map (·.name)++[tables[i].name]:=by rw[yu hi,ur];rfl
   rw[<-htk]at hput;have hT:(zx7 tables[i].name&&(!decide (tables[i].name∈(tables.take i).map (·.name))&&(Z (0<=tables[i].kind)&&Z (tables[i].kind<=5)&&(Z (tables[i].zvo.length<=3)&&tables[i].zvo.all (zv6 sizes)&&zgZ tables[i]))))=(tabP sizes tables[i]&&!decide (tables[i].name∈(tables.take i).map (·.name))):=by unfold tabP;cases zx7 tables[i].name<;>cases Z<|tables[i].name∈(tables.take i).map (·.name)<;>simp[Bool.and_assoc]
   rw[hT,zj hi,layP];by_cases hv:(tabP sizes tables[i]&&!decide (tables[i].name∈(tables.take i).map (·.name)))=U
   ·rw[hv,if_neg<|by simp,yz];have hcol:tables[i].zvo.all (zv6 sizes)=true:=by simp only[tabP,yc]at hv;exact hv.1.1.2.2
    simp only[zfA hcol (show tables[i].zvo.length<4611686018427387904 by omega)<|show tables[i].zvo.length<n by omega,ya,<-htk];unfold zaL;by_cases hk:(tables[i].kind==0||tables[i].kind==1)=U
    ·rw[if_pos hk,if_pos hk];by_cases hf:tables[i].first=a;·rw[if_neg<|by simp[hf],hr (m.put tables[i].name U,zvp a<|zae sizes tables[i].zvo 1,b) hput];simp[hf]
     ·rw[if_pos<|by simp[hf]];simp[hf]
    ·rw[if_neg hk,if_neg hk];by_cases hf:tables[i].first=b;·rw[if_neg<|by simp[hf],hr (m.put tables[i].name U,a,zvp b<|zae sizes tables[i].zvo 1) hput];simp[hf]
     ·rw[if_pos<|by simp[hf]];simp[hf]
   ·simp only[yP]at hv;rw[hv,if_pos<|by simp,ue]
  ·simp[zbX.l1,layP]
 ·simp only[yP]at h;rw[h,if_pos<|by simp,ue]
theorem zfD {n sizes tables}(hn:1000000<=n)(hs:sizes.length<=1000)(ht:tables.length<=1000)(hc:∀t∈tables,t.zvo.length<=1000/\t.name.length<=4096):zaK n sizes tables=O (za3 sizes tables):=by
 unfold zaK za3;have e1:Z (4<(sizes.length:Int))=!decide (sizes.length<=4):=by grind
 have e2:Z (12<(tables.length:Int))=!decide (tables.length<=12):=by grind
 rw[zhy (by omega)<|by omega,e1,e2];simp only[yq,yw,grd,if_true,yi];by_cases h:(Z (sizes.length<=4)&&Z (tables.length<=12)&&sizes.all zbW)=U
 ·rw[h,yz];simp only[yc]at h;obtain⟨⟨h1,h2⟩,h3⟩:=h;rw[h1,h2,h3,if_neg<|by simp];have:=za4 (body:=zaK.l1 n sizes tables) (len:=tables.length) (st:=λ(s:Int×Int)i=>(s.1,s.2,(i:Int))) (g:=λi s=>O<|layP sizes ((tables.take i).map (·.name)) s.1 s.2<|tables.drop i) (λ_ _=>True) (λrec i s hi _ hr=>?_) (λrec s _=>?_) n 0 (0,0) (yn _) (by omega) trivial;·grind
  ·obtain⟨a,b⟩:=s;have hmem:=yh hi;obtain⟨hcols,hname⟩:=hc _ hmem;simp only[zaK.l1,jn,zy hi,if_true,za hi,ya];generalize hK:(λ(v:Int×Int)=>rec (v.1,v.2,zvp (i:Int) 1))=K;have inner:=zA (body:=zaK.l2 n sizes tables a b i K tables[i]) (len:=i) (st:=λk=>(k:Int)) (g:=λk=>if Z (tables[i].name∈((tables.take i).drop k).map (·.name))=U then O M else zaK.l2 n sizes tables a b i K tables[i] (λ_=>Y) (i:Int)) (λrec' k hk hr'=>?_) (λrec'=>?_) n 0 (yn _)<|by omega
   ·rw[show((0:Nat):Int)=0 from rfl]at inner;rw[inner,zj hi,layP,wG];have htk:(tables.take<|i+1).map (·.name)=(tables.take i).map (·.name)++[tables[i].name]:=by grind[wj]
    cases hseen:Z<|tables[i].name∈(tables.take i).map (·.name)with
    |true=>simp|false=>
     simp only[ye,if_false,ut,ui];have hnum:=ze7 (n:=n) (sizes:=sizes) (cols:=tables[i].zvo) (by omega) (by omega) (by omega) (by omega);rw[h3,ui]at hnum;simp only[zaK.l2,zgH<|ym i,ye,if_false,hnum,ya,ziA hname hn,zcf];unfold tabP;by_cases hcol:(Z (tables[i].zvo.length<=3)&&tables[i].zvo.all (zv6 sizes))=U
     ·simp only[hcol,if_true,ui];have hcol':=hcol;simp only[yc,yf]at hcol';have hw:=zfx h3 hcol'.2 hcol'.1;have hw0:(zae sizes tables[i].zvo 1==0)=false:=by simp;omega
      rw[hw0,Bool.or_false];by_cases hnk:(zx7 tables[i].name&&(Z (0<=tables[i].kind)&&Z (tables[i].kind<=5)))=U
      ·rw[hnk,yz];simp only[yc,yf]at hnk;rw[if_neg<|by simp[hnk.1];omega];by_cases hrg:zgZ tables[i]=U
       ·rw[hrg,yz];unfold zgZ at hrg;rw[if_neg<|by
         split at hrg;·simp only[yc,yf]at hrg;simp only[yH,yf];omega
         ·simp only[yf]at hrg;rw[hrg];decide,if_neg<|by
         split at hrg;·rename_i hk;simp only[yH,beq_iff_eq]at hk;simp only[yc,yH,beq_iff_eq];omega
         ·simp only[yf]at hrg;rw[hrg];simp];unfold zaL;by_cases hk:(tables[i].kind==0||tables[i].kind==1)=U
        ·rw[if_pos hk,if_pos hk];by_cases hf:tables[i].first=a;·rw[if_neg<|by simp[hf],<-hK];simp only[zd (i:=i)<|by omega];have:=hr (zvp a<|zae sizes tables[i].zvo 1,b) trivial;simp only[]at this;rw[this,htk];simp[hf]
         ·rw[if_pos<|by simp[hf]];simp[hf]
        ·rw[if_neg hk,if_neg hk];by_cases hf:tables[i].first=b;·rw[if_neg<|by simp[hf],<-hK];simp only[zd (i:=i)<|by omega];have:=hr (a,zvp b<|zae sizes tables[i].zvo 1) trivial;simp only[]at this;rw[this,htk];simp[hf]
         ·rw[if_pos<|by simp[hf]];simp[hf]
       ·simp only[yP]at hrg;rw[hrg,ue];unfold zgZ at hrg;split at hrg;·rename_i hk;rw[if_pos<|by simp only[uF,yK]at hrg;simp only[yH,yf];omega]
        ·rename_i hk;simp only[yH,beq_iff_eq,not_or]at hk;have hr01:¬(tables[i].range.lo=0/\tables[i].range.hi=1):=by rintro⟨q1,q2⟩;simp only[yK]at hrg;apply hrg;cases hrr:tables[i].range;rw[hrr]at q1 q2;simp only[]at q1 q2;rw[q1,q2]
         split;·rfl
         ·rw[if_pos<|by simp only[yc,yH,beq_iff_eq,bne_iff_ne,ne_eq];omega]
      ·simp only[yP]at hnk;rw[hnk,ue,ue];rw[if_pos<|by
        simp only[uF,yK]at hnk;simp only[yH,yD,yf];rcases hnk with h|h|h;·exact .inl<|.inl h
        ·exact .inl<|.inr<|by omega
        ·exact .inr<|by omega]
     ·simp only[yP]at hcol;simp only[hcol,Bool.and_false,ue,ye,if_false];rw[if_pos<|by simp]
   ·have hk':k<tables.length:=by omega
    simp only[zaK.l2,zjI hk,if_true,za hk',ya,zd (i:=k)<|by omega,hr'];have hk2:k<(tables.take i).length:=by simp;omega
    rw[zj hk2];simp only[List.getElem_take,yU,yE];by_cases hnm:tables[k].name=tables[i].name;·rw[if_pos<|by simpa using hnm,if_pos<|by simp[hnm]]
    ·rw[if_neg<|by simpa using hnm];have hnm':¬tables[i].name=tables[k].name:=λe=>hnm e.symm;simp only[hnm',false_or]
   ·rw[if_neg<|by simp];simp only[zaK.l2,zgH<|ym i,ye,if_false]
  ·simp[zaK.l1,layP]
 grind
def zI (sizes:List Int)(s:Bool):List Table->List Range|[]=>[]|t::l=>if(zaL t.kind==s)=U then xw (zae sizes t.zvo 1).toNat t.range++zI sizes s l else zI sizes s l
theorem zdP {sizes}:∀{l}{seen}{a b},layP sizes seen a b l=U->∀t∈l,tabP sizes t=U
 |[],_,_,_,_,_,c=>by grind|x::l,seen,a,b,h,t,c=>by
  simp only[layP,yc]at h;simp only[yE]at c;rcases c with rfl|c;·grind
  ·have d:=h.2;split at d;·simp only[yc]at d;exact zdP d.2 t c
   ·simp only[yc]at d;exact zdP d.2 t c
theorem zbK {sizes tables}(h:za3 sizes tables=U):sizes.length<=4/\tables.length<=12/\sizes.all zbW=U/\∀t∈tables,zx7 t.name=U/\(0<=t.kind/\t.kind<=5)/\t.zvo.length<=3/\t.zvo.all (zv6 sizes)=U/\1<=zae sizes t.zvo 1/\zae sizes t.zvo 1<=216:=by simp only[za3,yc,yf]at h;obtain⟨⟨⟨c,d⟩,b⟩,e⟩:=h;refine⟨c,d,b,λt f=>?_⟩;have:=zdP e t f;simp only[tabP,yc,yf]at this;obtain⟨⟨⟨g,i⟩,a⟩,-⟩:=this;exact⟨g,i,a.1,a.2,zfx b a.2 a.1⟩
theorem zc4 {sizes s}:∀{l},(∀t∈l,1<=zae sizes t.zvo 1/\zae sizes t.zvo 1<=216)->(zI sizes s l).length<=l.length*216
 |[],_=>by simp[zI]|t::l,h=>by
  have b:=zc4 (s:=s) (l:=l) λx a=>h x<|by simp[a]
  grind[zI]
theorem zuM {n}:∀w:Fin 217,zeL n 1 ((w.1:Nat):Int)=O (0,((w.1:Nat):Int)):=by intro w;unfold zeL ze3;revert w;decide+kernel
theorem zp9:∀w:Fin 217,wk .u64 ((w.1:Nat):Int)=((w.1:Nat):Int)/\wk .i64 ((w.1:Nat):Int)=((w.1:Nat):Int):=by decide+kernel
theorem zqS {n x w}(h1:1<=w)(h2:w<=216)(hn:1000000<=n):zM n [x] w=O (xw w.toNat x):=by
 obtain⟨W,rfl⟩:=yS (show 0<=w by omega);have hW:W<217:=by omega
 have hwk:=zp9 ⟨W,hW⟩;simp only[]at hwk;have h1k:wk .u64 (([x]:List Range).length:Int)=1:=(zp9 ⟨1,by decide⟩).1;unfold zM;rw[if_neg<|by simp,h1k,hwk.1,zuM ⟨W,hW⟩];simp only[ya];rw[if_neg<|by grind,hwk.2];have hm:mkl 16 (W:Int) (⟨0,0⟩:Range)=O (xw W ⟨0,0⟩):=by unfold mkl;grind
 rw[hm,ya];simp only[ux,uN,Nat.sub_zero,yr];rw[show min W 1=1 by omega];refine zdz (body:=zM.l1 n) (λs=>W-s.2.toNat) (λs=>∃k:Nat,s.2=(k:Int)/\1<=k/\k<=W/\s.1.length=W/\s.1.take k=xw k x) (λ_ o=>o=O (xw W x)) (λrec s hI hr=>?_) n _ ⟨1,rfl,by omega,by omega,?_,?_⟩<|by simp;omega
 ·obtain⟨b,kk⟩:=s;obtain⟨k,rfl,k1,k2,hb,hk⟩:=hI;simp only[]at hb hk;simp only[zM.l1];by_cases hlt:k<W
  ·have hcE:cut b (k:Int) (W:Int)=O (b.drop k):=by grind[zi2]
   have hc:=zgD (l:=b) (a:=0) (b:=k) (by omega)<|by omega
   simp only[we]at hc;simp only[hb,zjI hlt,if_true,hcE,hc,ya,yr,wG,Nat.sub_zero,hk,ux];rw[zcT<|by omega];refine hr (_,((k+min (W-k) k:Nat):Int)) ⟨k+min (W-k) k,rfl,by omega,by omega,?_,?_⟩<|by grind
   ·simp only[];rw[zdN (by omega)<|by omega,hb]
   ·simp only[zfi,hk,List.take_replicate,ux];rw[show min (W-k) k=min (W-k) k from rfl,<-yJ,List.replicate_append_replicate];rw[List.take_append_of_le_length<|by simp];simp
  grind
 ·rw[zdN (by omega)<|by simp];simp
 grind[zfi,List.take_append,wb,min]
theorem zhx (sizes s):∀(l m),zI sizes s (l++m)=zI sizes s l++zI sizes s m
 |[],_=>rfl|t::l,m=>by
  simp only[uv,zI,zhx sizes s l m];grind
theorem zfq {sizes}{s}{l:List Table}{i}(hi):zI sizes s (l.take<|i+1)=if(zaL l[i].kind==s)=U then zI sizes s (l.take i)++xw (zae sizes l[i].zvo 1).toNat l[i].range else zI sizes s<|l.take i:=by grind[wj,zhx,zI]
theorem zgz {n}{sizes}{tables}{s}(hF:Fuel n)(hs:sizes.length<=1000)(ht:tables.length<=1000)(hc:∀t∈tables,t.zvo.length<=1000):zbT n sizes tables s=O (if za3 sizes tables=U then zI sizes s tables else[]):=by have o:=hF.big;unfold zbT;rw[zfz hF hs ht hc,ya];cases f:za3 sizes tables with
 |false=>simp|true=>
  obtain⟨p,k,m,e⟩:=zbK f;have:=zA (body:=zbT.l1 n sizes tables s) (len:=tables.length) (st:=λi=>(zI sizes s<|tables.take i,(i:Int))) (g:=λ_=>O<|zI sizes s tables) (λa i c b=>?_) (λa=>?_) n 0 (yn _)<|by omega
  ·grind[zI]
  ·have d:=zc4 (sizes:=sizes) (s:=s) (l:=tables.take i) λx h=>(e x<|wr h).2.2.2.2;rw[zfq c]at b;simp only[zbT.l1,jn,za c,ya,zci,zd (i:=i)<|by omega];unfold zaL at b;by_cases j:((tables[i].kind==0||tables[i].kind==1)==s)=U;·grind[zfA,zqS,zk]
   grind
  ·simp[zbT.l1]
theorem ze6 {n}{sizes}{tables}{s}(hn:1000000<=n)(hs:sizes.length<=1000)(ht:tables.length<=1000)(hc:∀t∈tables,t.zvo.length<=1000/\t.name.length<=4096):zaU n sizes tables s=O (if za3 sizes tables=U then zI sizes s tables else[]):=by unfold zaU;rw[zfD hn hs ht hc,ya];cases hL:za3 sizes tables with
 |false=>simp|true=>
  obtain⟨l1,l2,l3,l4⟩:=zbK hL;have:=zA (body:=zaU.l1 n sizes tables s) (len:=tables.length) (st:=λi=>(zI sizes s<|tables.take i,(i:Int))) (g:=λ_=>O<|zI sizes s tables) (λrec i hi hr=>?_) (λrec=>?_) n 0 (yn _)<|by omega
  ·grind[zI]
  ·obtain⟨-,-,c1,c2,c3,c4⟩:=l4 _<|yh hi;have hlen:=zc4 (sizes:=sizes) (s:=s) (l:=tables.take i) λx hx=>(l4 x<|wr hx).2.2.2.2;simp only[ug]at hlen;rw[zfq hi]at hr;simp only[zaU.l1,zy hi,if_true];obtain⟨W,hW⟩:=yS (show 0<=zae sizes tables[i].zvo 1 by omega);have hnum:=ze7 (n:=n) (sizes:=sizes) (cols:=tables[i].zvo) (by omega) (by omega) (by omega) (by omega);simp only[l3,c2,c1,decide_true,ui,if_true]at hnum;have inner:=zA (body:=zaU.l2 n sizes tables s i rec) (len:=if(zaL tables[i].kind==s)=U then W else 0) (st:=λk=>(zI sizes s (tables.take i)++xw k tables[i].range,(k:Int))) (g:=λ_=>O<|zI sizes s tables) (λrec' k hk hr'=>?_) (λrec'=>?_) n 0 (yn _)<|by grind
   ·grind
   ·split at hk;·rename_i hst;simp only[zaL]at hst;simp only[zaU.l2,za hi,ya,zcf,hst,yq,yw,grd,if_true,yi,hnum,yz,hW,zjI hk,zd (i:=k)<|by omega];rw[zk<|by simp only[yT,ux,uN];omega,ya,yJ,<-tg,hr']
    ·omega
   ·by_cases hst:((tables[i].kind==0||tables[i].kind==1)==s)=U;·have hst':(zaL tables[i].kind==s)=true:=hst;rw[if_pos hst']at hr|-;simp only[zaU.l2,za hi,ya,zcf,hst,yq,yw,grd,if_true,yi,hnum,yz,hW,zgH<|ym W,ye,if_false,zd (i:=i)<|by omega];rw[hW]at hr;simpa using hr
    ·have hst':¬(zaL tables[i].kind==s)=true:=hst;rw[if_neg hst']at hr|-;simp only[yP]at hst;simp only[zaU.l2,za hi,ya,zcf,hst,ut,uE,grd,if_true,ue,ye,if_false,zd (i:=i)<|by omega];simpa using hr
  ·simp[zaU.l1]
def zcm (p:Int->Bool)(i:Nat):Nat->List Int|0=>[]|m+1=>if p (i:Int)=U then(i:Int)::zcm p (i+1) m else zcm p (i+1) m
theorem zhV (p):∀(m i),(zcm p i m).length<=m
 |0,_=>ym _|m+1,i=>by
  simp only[zcm];split;·exact Nat.succ_le_succ<|zhV p m<|i+1
  ·exact Nat.le_succ_of_le<|zhV p m<|i+1
theorem zjM (p):∀(m i),zcm p i (m+1)=if p ((i+m:Nat):Int)=U then zcm p i m++[((i+m:Nat):Int)]else zcm p i m
 |0,i=>by simp[zcm]|m+1,i=>by
  have a:=zjM p m<|i+1;grind[zcm]
def zeH (l:List Change)(c:Constraint)(k:Int):Bool:=Z<|0<zx l (zvp c.first k)
theorem zdx {n}{a c}{K:Nat}(hK:zvA c.size c.size=(K:Int))(h1:a.effect.delta.length<4611686018427387904)(h2:a.effect.delta.length<n)(h3:K<17592186044416)(h4:K<n):zD n a c=O (zcm (zeH a.effect.delta c) 0 K):=by
 have:=zA (body:=zD.l1 n a c) (len:=K) (st:=λi=>(zcm (zeH a.effect.delta c) 0 i,i)) (g:=λ_=>O<|zcm (zeH a.effect.delta c) 0 K) (λe i j b=>?_) (λe=>?_) n 0 (yn _)<|by omega
 ·grind[zD,zcm]
 ·rw[zjM]at b;have h:=zhV (zeH a.effect.delta c) i 0;have k:Z (i<zvA c.size c.size)=true:=by simp_all
  have f:Go.Proofs.YtipkniadbkndfaaGreatDoor.app 8 (zcm (zeH a.effect.delta c) 0 i) [i]=O (zcm (zeH a.effect.delta c) 0 i++[(i:Int)]):=by unfold Go.Proofs.YtipkniadbkndfaaGreatDoor.app;grind
  simp only[zD.l1,jn,zao _ h1 h2,zd (i:=i)<|by omega];simp only[uh]at b;by_cases d:zeH a.effect.delta c i=U;·rw[if_pos d]at b;unfold zeH at d;simp_all
  ·rw[if_neg d]at b;unfold zeH at d;grind
 ·grind[zD.l1]
theorem zk1 {n}{e c}{K:Nat}(hK:zvA c.size c.size=(K:Int))(h1:e.delta.length<4611686018427387904)(h2:e.delta.length<n)(h3:K<17592186044416)(h4:K<n)(hadd:∀k,addP k e.delta 0=zx e.delta k):zbV n e c=O (Z<|0<(zcm (zeH e.delta c) 0 K).length):=by
 have:=zA (body:=zbV.l1 n e c) (len:=K) (st:=λi=>i) (g:=λi=>O<|Z<|0<(zcm (zeH e.delta c) i<|K-i).length) (λb i f h=>?_) (λb=>?_) n 0 (yn _)<|by omega
 ·grind[zbV]
 ·have d:Z (i<zvA c.size c.size)=true:=by simp_all
  simp only[zbV.l1,zfr _ h1 h2,zd (i:=i)<|by omega];rw[show K-i=K-(i+1)+1 by omega,zcm];by_cases a:zeH e.delta c i=U;·rw[if_pos a];unfold zeH at a;simp_all
  ·rw[if_neg a];unfold zeH at a;grind
 ·have d:Z (K<zvA c.size c.size)=false:=by simp_all
  simp[zbV.l1,d,zcm]
structure Good (n:Nat)(m:Model):Prop where
 acts:∀a∈m.zvq,a.effect.delta.length<4611686018427387904/\a.effect.delta.length<n/\(∀k,addP k a.effect.delta 0=zx a.effect.delta k)/\∀r∈a.effect.hold,r.zvr.length<4611686018427387904/\r.zvr.length<n
 cons:∀c∈m.constraints,(c.kind=0\/c.kind=1)/\c.row.zvr.length<4611686018427387904/\c.row.zvr.length<n/\∃K:Nat,zvA c.size c.size=(K:Int)/\K<17592186044416/\K<n
theorem zib {f g}(h:∀k,f k=g k):∀(l:List Term)(s:Int),zcP f l s=zcP g l s|[],_=>rfl|t::l,s=>by simp only[zcP,h];exact zib h l _
theorem zam {α:Type}{l:List α}{i:Int}{x:α}(h:idx l i=O x):x∈l:=by obtain⟨n,rfl,hn,rfl⟩:=idxS h;exact yh hn
theorem zaD {α:Type}{l:List α}{i:Int}(h0:0<=i)(h1:i<(l.length:Int)):∃x,idx l i=O x:=by obtain⟨n,rfl⟩:=yS h0;exact⟨_,za<|by omega⟩
def allR (p:Nat->Bool)(i:Nat):Nat->Bool|0=>U|k+1=>p i&&allR p (i+1) k
theorem zj2 {p}:∀{k i},allR p i k=U↔∀j,i<=j->j<i+k->p j=U
 |0,i=>by grind[allR]|k+1,i=>by
  simp only[allR,yc,zj2 (k:=k) (i:=i+1)];grind
theorem zgy {p k}:allR p 0 k=U↔∀j,j<k->p j=true:=by grind[zj2]
theorem zfT {S R}{body}{len n}{st:Nat->S}(p)(F T:Option R)(hb:∀rec i,i<len->body rec (st i)=if p i=U then rec<|st<|i+1 else F)(he:∀rec,body rec (st len)=T)(hn:len<n):zvt body n (st 0)=if allR p 0 len=U then T else F:=by
 have:=zA (body:=body) (len:=len) (st:=st) (g:=λi=>if allR p i (len-i)=U then T else F) (λrec i b a=>?_) (λrec=>?_) n 0 (yn _)<|by omega
 ·grind
 ·rw[hb rec i b,show len-i=len-(i+1)+1 by omega,allR,a];grind
 grind[allR]
theorem zeB {n l f p}(hf:∀x∈l,f x=O (p x))(hl:l.length<1000000)(hn:1000000<=n):zz n l f=O (ixP p l 0):=by
 have:=zA (body:=zz.l1 n l f) (len:=l.length) (st:=λi=>i) (g:=λi=>O<|ixP p (l.drop i) i) (λa i b c=>?_) (λa=>?_) n 0 (yn _)<|by omega
 ·grind[zz]
 ·simp only[zz.l1,za b,zd (i:=i)<|by omega];grind[zj,ixP]
 ·simp[zz.l1,ixP]
theorem zd4 {n l f p}(hf:∀x∈l,f x=O (p x))(hl:l.length<1000000)(hn:1000000<=n):zah n l f=O (l.any p):=by unfold zah;rw[zeB hf hl hn,ya,zgM]
theorem zfy {n l f p}(hf:∀x∈l,f x=O (p x))(hl:l.length<1000000)(hn:1000000<=n):zn n l f=O (ixP p l 0):=by
 have:=zA (body:=zn.l1 n l f) (len:=l.length) (st:=λi=>i) (g:=λi=>O<|ixP p (l.drop i) i) (λa i b c=>?_) (λa=>?_) n 0 (yn _)<|by omega
 ·grind[zn]
 ·simp only[zn.l1,za b,zd (i:=i)<|by omega];grind[zj,ixP]
 ·simp[zn.l1,ixP]
theorem zcR {n l f p}(hf:∀x∈l,f x=O (p x))(hl:l.length<1000000)(hn:1000000<=n):zo n l f=O (l.any p):=by unfold zo;rw[zfy hf hl hn,ya,zgM]
theorem zeY {n l f p}(hf:∀x∈l,f x=O (p x))(hl:l.length<1000000)(hn:1000000<=n):zF n l f=O (ixP p l 0):=by
 have:=zA (body:=zF.l1 n l f) (len:=l.length) (st:=λi=>i) (g:=λi=>O<|ixP p (l.drop i) i) (λa i b c=>?_) (λa=>?_) n 0 (yn _)<|by omega
 ·grind[zF]
 ·simp only[zF.l1,za b,zd (i:=i)<|by omega];grind[zj,ixP]
 ·simp[zF.l1,ixP]
theorem zel {n l f p}(hf:∀x∈l,f x=O (p x))(hl:l.length<1000000)(hn:1000000<=n):zaF n l f=O (l.any p):=by unfold zaF;rw[zeY hf hl hn,ya,zgM]
def za6 (x most:Int):Bool:=Z (-most<=x)&&Z (x<=most)
theorem around3 {n x}:zbg n x 1000=O (za6 x 1000):=rfl
theorem zzQ {n x}:zbg n x 1000000000=O (za6 x 1000000000):=rfl
theorem around4 {n x}:zbg n x 9999=O (za6 x 9999):=rfl
theorem between3 {n x}:zaO n x 1000=O (za6 x 1000):=rfl
theorem zzr {n x}:zaO n x 1000000000=O (za6 x 1000000000):=rfl
theorem between4 {n x}:zaO n x 9999=O (za6 x 9999):=rfl
def rowP (K:Nat):Int->List Term->Bool|_,[]=>U|last,t::l=>Z (last<t.cell)&&Z (t.cell<(K:Int))&&t.zvy !=0&&za6 t.zvy 1000&&rowP K t.cell l
def zwc (K:Nat)(r:Row):Bool:=rowP K (-1) r.zvr&&za6 r.bound 1000000000
theorem zfd {i:Nat}(h0:0<i)(h:i<4611686018427387904):zvz (i:Int) 1=((i-1:Nat):Int):=by grind[zvz,zau]
theorem zjJ {n}{j}{r}(hl:r.zvr.length<1000000)(hn:1000000<=n):zaT n j r=O (zwc j.strict.length r):=by
 have:=za4 (body:=zaT.l1 n j r) (len:=r.zvr.length) (st:=λs i=>(s,i)) (g:=λi s=>O<|rowP j.strict.length s (r.zvr.drop i)&&za6 r.bound 1000000000) (λ_ _=>True) (λa i s b _ c=>?_) (λa s _=>?_) n 0 (-1) (yn _) (by omega) trivial;·grind[zaT,zwc]
 ·simp only[zaT.l1,za b,around3,grd,zd (i:=i)<|by omega];rw[zj b,rowP];grind
 ·simp[zaT.l1,zzQ,rowP]
theorem zlV {n K:Nat}{r}(hl:r.zvr.length<1000000)(hn:1000000<=n):zcK n r (K:Int)=O (zwc K r):=by
 have:=za4 (body:=zcK.l1 n r K) (len:=r.zvr.length) (st:=λ_ i=>i) (g:=λi s=>O<|rowP K s (r.zvr.drop i)&&za6 r.bound 1000000000) (λi s=>-1<=s/\(i=0/\s=-1\/0<i/\∃x,idx r.zvr (zvz i 1)=O x/\x.cell=s)) (λb i s c e d=>?_) (λb s _=>?_) n 0 (-1) (yn _) (by omega) ⟨by omega,.inl ⟨rfl,rfl⟩⟩;·grind[zcK,zwc]
 ·have a:(Z (0<i)&&Z (r.zvr[i].cell<=((idx r.zvr<|zvz i 1).getD J).cell))=(Z (0<i)&&Z (r.zvr[i].cell<=s))/\(! Z (0<(i:Int))||(idx r.zvr<|zvz i 1).isSome)=true:=by grind
  simp only[zcK.l1,zy c,if_true,za c,ya,between3,yq,yw,grd,a.2,zd (i:=i)<|by omega];rw[zj c,rowP];by_cases h:(Z (s<r.zvr[i].cell)&&Z (r.zvr[i].cell<K)&&r.zvr[i].zvy !=0&&za6 r.zvr[i].zvy 1000)=U;·rw[h,yz];simp only[yc,yf]at h;rw[if_neg<|by grind,d r.zvr[i].cell ⟨by omega,.inr ⟨by omega,r.zvr[i],by grind[zfd,za],rfl⟩⟩]
  grind
 ·simp[zcK.l1,zzr,rowP]
def zht (zvu:List Int)(c:Constraint)(t:Table):Bool:=t.kind==0&&(t.zvo.length:Int)==2&&((idx t.zvo 0).getD J==(idx t.zvo 1).getD J&&t.first==c.first&&(idx zvu<|(idx t.zvo 0).getD J).getD J==c.size)
def zgr (m:Model)(c:Constraint):Bool:=(c.row.zvr.length:Int)==0&&c.row.bound==0&&m.tables.any (zht m.zvu c)
theorem zja {zvu}{t:Table}(hc:t.zvo.all (zv6 zvu)=U)(h2:(t.zvo.length:Int)=2):(∃x,idx t.zvo 0=O x)/\(∃x,idx t.zvo 1=O x)/\∃x,idx zvu ((idx t.zvo 0).getD J)=O x:=by
 obtain⟨x,b⟩:=zaD (l:=t.zvo) (i:=0) (by omega) (by omega);obtain⟨y,a⟩:=zaD (l:=t.zvo) (i:=1) (by omega)<|by omega
 grind[zd8,zam]
theorem zqr {n}{j}{c t}(hc:t.zvo.all (zv6 j.model.zvu)=U):zbZ n t c j=O (zht j.model.zvu c t):=by
 unfold zbZ zht;by_cases b:(t.kind==0&&(t.zvo.length:Int)==2)=U
 ·have a:=b;simp only[yc,beq_iff_eq]at a;obtain⟨⟨x,e⟩,⟨y,f⟩,z,d⟩:=zja hc a.2;grind[grd]
 ·grind[grd]
theorem zlo {n}{j}{c}(hc:∀t∈j.model.tables,t.zvo.all (zv6 j.model.zvu)=U)(hl:j.model.tables.length<1000000)(hn:1000000<=n):zcx n j c=O (zgr j.model c):=by unfold zcx zgr;rw[zd4 (p:=zht j.model.zvu c) (λt a=>zqr<|hc t a) hl hn];simp[grd]
theorem znW {n m c}(hc:∀t∈m.tables,t.zvo.all (zv6 m.zvu)=U)(hl:m.tables.length<1000000)(hn:1000000<=n):zcn n m c=O (zgr m c):=by
 unfold zcn zgr;by_cases h:((c.row.zvr.length:Int)==0&&c.row.bound==0)=U
 ·rw[h,yz];simp only[yc,beq_iff_eq]at h;rw[if_neg<|by grind];have:=zA (body:=zcn.l1 n m c) (len:=m.tables.length) (st:=λi=>(i:Int)) (g:=λi=>O<|(m.tables.drop i).any<|zht m.zvu c) (λrec i hi hr=>?_) (λrec=>?_) n 0 (yn _)<|by omega
  ·grind
  ·simp only[zcn.l1,zy hi,if_true,za hi,ya,zd (i:=i)<|by omega,hr];rw[zj hi,uX];have hcol:=hc _<|yh hi;by_cases h2:(m.tables[i].kind==0&&(m.tables[i].zvo.length:Int)==2)=U
   ·have h2':=h2;simp only[yc,beq_iff_eq]at h2';obtain⟨⟨x,hx⟩,⟨y,hy⟩,z,hz⟩:=zja hcol h2'.2;rw[hx]at hz;simp only[yi]at hz;simp only[h2,hx,hy,hz,grd,yq,yw,if_true,yi,yz,zht];grind
   ·simp only[yP]at h2;simp[h2,grd,zht]
  ·simp[zcn.l1]
 grind
theorem zm9 {n a b}(hl:a.length<1000000)(hn:1000000<=n):zU n a b=O (Z<|a=b):=by
 unfold zU;by_cases h:a.length=b.length
 ·have:=zA (body:=zU.l1 n a b) (len:=a.length) (st:=λi=>i) (g:=λi=>O<|Z<|a.drop i=b.drop i) (λd i f j=>?_) (λd=>?_) n 0 (yn _)<|by omega
  ·grind
  ·have c:i<b.length:=by omega
   simp only[zU.l1,zy f,if_true,za f,za c,ya,zd (i:=i)<|by omega,j];rw[zj f,zj c];by_cases e:a[i]=b[i];·simp only[e,decide_true,uk,ye,if_false,wI,true_and]
   ·simp only[e,decide_false,ut,if_true,wI,false_and]
  grind[zU.l1]
 ·have:¬a=b:=λe=>h<|by rw[e]
  grind
theorem znd {n a b}(hl:a.length<1000000)(hn:1000000<=n):zbc n a b=O (Z<|a=b):=by
 unfold zbc;by_cases h:a.length=b.length
 ·have:=zA (body:=zbc.l1 n a b) (len:=a.length) (st:=λi=>i) (g:=λi=>O<|Z<|a.drop i=b.drop i) (λd i f j=>?_) (λd=>?_) n 0 (yn _)<|by omega
  ·grind
  ·have c:i<b.length:=by omega
   simp only[zbc.l1,zy f,if_true,za f,za c,ya,zd (i:=i)<|by omega,j];rw[zj f,zj c];by_cases e:a[i]=b[i];·simp only[e,decide_true,uk,ye,if_false,wI,true_and]
   ·simp only[e,decide_false,ut,if_true,wI,false_and]
  grind[zbc.l1]
 ·have:¬a=b:=λe=>h<|by rw[e]
  grind
theorem zsa {n r c f b}(hl:r.zvr.length<1000000)(hn:1000000<=n):zeu n r c f b=O (Z<|r=(⟨[⟨c,f⟩],b⟩:Row)):=by unfold zeu;rw[zm9 hl hn,ya];congr 1;rw[xP];cases r;simp
theorem zlA {n a b}(hl:a.zvr.length<1000000)(hn:1000000<=n):zdc n a b=O (Z<|a=b):=by
 unfold zdc;rw[znd hl hn];simp only[yq,yw,grd,if_true];congr 1;cases a;cases b;grind
structure zvS (m:Model):Prop where
 zvu:m.zvu.length<=8
 tables:m.tables.length<=6
 tab:∀t∈m.tables,t.name.length<=40/\t.zvo.length<=12
 zvC:m.zvC.length<=20
 fam:∀s∈m.zvC,s.length<=40
 constraints:m.constraints.length<=60
 con:∀c∈m.constraints,c.row.zvr.length<=20
 zvs:m.zvs.length<=8
 op:∀o∈m.zvs,o.name.length<=40/\o.zvu.length<=6
 zvq:m.zvq.length<=30
 act:∀a∈m.zvq,a.arguments.length<=6/\a.effect.delta.length<=20/\a.effect.hold.length<=10/\a.effect.zvw.length<=40/\∀r∈a.effect.hold,r.zvr.length<=20
 zvD:m.zvD.length<=12
def zeh (l:List Range)(i:Nat):Row:=⟨[⟨((i/2:Nat):Int),if i%2=0 then-1 else 1⟩],if i%2=0 then zwb ((idx l ((i/2:Nat):Int)).getD J).lo else((idx l ((i/2:Nat):Int)).getD J).hi⟩
def famP (m:Model)(c:Constraint):Bool:=Z (0<=c.family)&&Z (c.family<(m.zvC.length:Int))
def zeG (K:Nat)(c:Constraint):Bool:=c.kind==0&&c.first==0&&c.size==0&&zwc K c.row
def acyP (m:Model)(c:Constraint):Bool:=c.kind==1&&zgr m c
def conP (m:Model)(l:List Range)(i:Nat)(c:Constraint):Bool:=famP m c&&(zeG l.length c||acyP m c)&&(!decide (i/2<l.length)||c.kind==0&&Z (c.row=zeh l i))
def zyY (m:Model)(l:List Range):Bool:=Z (m.constraints.length<=512)&&Z (2*l.length<=m.constraints.length)&&allR (λi=>conP m l i<|(idx m.constraints (i:Int)).getD J) 0 m.constraints.length
theorem quo2 {i:Nat}(h:i<1000000):zwx (i:Int) 2=O ((i/2:Nat):Int):=by unfold zwx;rw[if_neg<|by decide,Int.tdiv_eq_ediv_of_nonneg<|by omega,zau (by omega)<|by omega];congr 1
theorem rem2 {i:Nat}:zwy (i:Int) 2=O ((i%2:Nat):Int):=by
 unfold zwy;grind
theorem mul2 {i:Nat}(h:i<1000000):zvA 2 (i:Int)=((2*i:Nat):Int):=by grind[zvA,zau]
theorem zhl {n}{m}{l}(hS:zvS m)(hc:∀t∈m.tables,t.zvo.all (zv6 m.zvu)=U)(hK:l.length<100000)(hn:1000000<=n):zaf n ⟨m,l⟩=O (zyY m l):=by
 have hcl:=hS.constraints;have htl:=hS.tables;unfold zaf zyY;simp only[mul2<|show l.length<1000000 by omega];by_cases h0:(Z (m.constraints.length<=512)&&Z (2*l.length<=m.constraints.length))=U
 ·rw[h0,yz];simp only[yc,yf]at h0;rw[if_neg<|by grind];have:=zfT (body:=zaf.l1 n ⟨m,l⟩) (len:=m.constraints.length) (n:=n) (st:=λi=>(i:Int)) (λi=>conP m l i<|(idx m.constraints (i:Int)).getD J) (O M) (O U) (λrec i hi=>?_) (λrec=>?_)<|by omega
  ·grind
  ·have hterms:=hS.con _<|yh hi;simp only[zaf.l1,jn,zy hi,if_true,za hi,ya,zaJ,yi,zjJ (j:=⟨m,l⟩) (r:=m.constraints[i].row) (show m.constraints[i].row.zvr.length<1000000 by omega) hn,zlo (j:=⟨m,l⟩) (c:=m.constraints[i]) hc (show m.tables.length<1000000 by omega) hn,yq,yw,grd,quo2<|show i<1000000 by omega,rem2,zsa (r:=m.constraints[i].row) (show m.constraints[i].row.zvr.length<1000000 by omega) hn,zd (i:=i)<|by omega];have hfam:(Z (0<=m.constraints[i].family)&&Z (m.constraints[i].family<(m.zvC.length:Int)))=famP m m.constraints[i]:=rfl;rw[hfam];cases hf:famP m m.constraints[i]with
   |false=>grind[conP]|true=>
    simp only[uk,ye,if_false];have hrest:∀(X:Bool),X=(zeG l.length m.constraints[i]||acyP m m.constraints[i])->(if X=U then if Z (((i/2:Nat):Int)<(l.length:Int))=U then(idx l ((i/2:Nat):Int)).bind λx81=>if(((i%2:Nat):Int)==0)=U then if(m.constraints[i].kind !=0||!decide (m.constraints[i].row=(⟨[⟨((i/2:Nat):Int),-1⟩],zwb x81.lo⟩:Row)))=U then O M else rec ((i+1:Nat):Int)else if(m.constraints[i].kind !=0||!decide (m.constraints[i].row=(⟨[⟨((i/2:Nat):Int),1⟩],x81.hi⟩:Row)))=U then O M else rec ((i+1:Nat):Int)else rec ((i+1:Nat):Int)else O M)=if conP m l i m.constraints[i]=U then rec ((i+1:Nat):Int)else O false:=by intro X hX;unfold conP;rw[hf,<-hX];cases X with
     |false=>simp|true=>
      simp only[if_true,yz];by_cases hlt:i/2<l.length
      ·rw[if_pos<|zjI hlt,za hlt,ya];simp only[hlt,decide_true,uk,uD,zeh,za hlt,yi];grind
      grind
    by_cases hk:m.constraints[i].kind=0;·rw[if_pos<|by simp[hk]];grind[zeG,acyP,zwc,bne]
    ·rw[if_neg<|by simp[hk]];have hX:(zeG l.length m.constraints[i]||acyP m m.constraints[i])=(m.constraints[i].kind==1&&zgr m m.constraints[i]):=by simp[zeG,acyP,hk]
     rw[<-hrest _ hX.symm];cases h1:m.constraints[i].kind==1<;>cases h3:zgr m m.constraints[i]<;>simp[bne,h1]
  ·simp[zaf.l1]
 grind
theorem zq5 {m l}(h2:2*l.length<=m.constraints.length):allR (λi=>conP m l i<|(idx m.constraints (i:Int)).getD J) 0 m.constraints.length=(allR (λi=>Z (((idx m.constraints ((2*i:Nat):Int)).getD J).row=zeh l (2*i))&&Z (((idx m.constraints ((2*i+1:Nat):Int)).getD J).row=zeh l (2*i+1))) 0 l.length&&allR (λi=>famP m ((idx m.constraints (i:Int)).getD J)&&(zeG l.length ((idx m.constraints (i:Int)).getD J)||Z (2*l.length<=i)&&acyP m ((idx m.constraints (i:Int)).getD J))) 0 m.constraints.length):=by
 rw[xP,yc,zgy,zgy,zgy];constructor
 ·intro h;refine⟨λj hj=>?_,λi hi=>?_⟩
  ·have ha:=h (2*j) (by omega);have hb:=h (2*j+1) (by omega);simp only[conP,yc,yH,yD,yK,yf]at ha hb|-;grind
  ·have ha:=h i hi;simp only[conP,yc,yH,yD,yK,yf]at ha|-;refine⟨ha.1.1,?_⟩;rcases ha.1.2 with e|e;·grind
   ·refine .inr ⟨?_,e⟩;rcases ha.2 with f|f;·omega
    ·simp only[acyP,yc,beq_iff_eq]at e;grind
 ·rintro⟨ha,hb⟩i hi;have hb:=hb i hi;simp only[conP,yc,yH,yD,yK,yf]at hb|-;refine⟨⟨hb.1,hb.2.imp id (·.2)⟩,?_⟩;by_cases hlt:i/2<l.length
  ·right;have ha:=ha (i/2) hlt;simp only[yc,yf]at ha;rcases hb.2 with e|e
   ·refine⟨?_,?_⟩;·simp only[zeG,yc]at e;exact e.1.1.1
    ·by_cases hm:i%2=0
     ·have:=ha.1;rwa[show 2*(i/2)=i by omega]at this
     ·have:=ha.2;rwa[show 2*(i/2)+1=i by omega]at this
   ·omega
  ·exact .inl hlt
theorem zhm {n}{m}(hS:zvS m)(hL:za3 m.zvu m.tables=U)(hn:1000000<=n):zX n m=O (zyY m<|zI m.zvu U m.tables):=by
 have hcl:=hS.constraints;have htl:=hS.tables;have hsl:=hS.zvu;obtain⟨l1,l2,l3,l4⟩:=zbK hL;have hlen:=zc4 (sizes:=m.zvu) (s:=U) (l:=m.tables) λx hx=>(l4 x hx).2.2.2.2;unfold zX zcC zyY;rw[ze6 hn (by omega) (by omega) λt ht=>by have:=hS.tab t ht;omega,hL,if_pos rfl];generalize zI m.zvu U m.tables=l at hlen;simp only[ya,mul2<|show l.length<1000000 by omega];by_cases h0:(Z (m.constraints.length<=512)&&Z (2*l.length<=m.constraints.length))=U
 ·rw[h0,yz];simp only[yc,yf]at h0;rw[if_neg<|by grind,zq5 h0.2];have first:=zfT (body:=zX.l1 n m l) (len:=l.length) (n:=n) (st:=λi=>(i:Int)) (λi=>Z (((idx m.constraints ((2*i:Nat):Int)).getD J).row=zeh l (2*i))&&Z (((idx m.constraints ((2*i+1:Nat):Int)).getD J).row=zeh l (2*i+1))) (O M) (zvt (zX.l2 n m l) n 0) (λrec i hi=>?_) (λrec=>?_)<|by omega
  ·simp only[we]at first;rw[first];have second:=zfT (body:=zX.l2 n m l) (len:=m.constraints.length) (n:=n) (st:=λi=>(i:Int)) (λi=>famP m ((idx m.constraints (i:Int)).getD J)&&(zeG l.length ((idx m.constraints (i:Int)).getD J)||Z (2*l.length<=i)&&acyP m ((idx m.constraints (i:Int)).getD J))) (O M) (O U) (λrec i hi=>?_) (λrec=>?_)<|by omega
   ·grind
   ·have hterms:=hS.con _<|yh hi;have hd:Z (zvA 2 (l.length:Int)<=(i:Int))=Z (2*l.length<=i):=by rw[mul2<|by omega];exact decide_eq_decide.2<|by omega
    simp only[zX.l2,zy hi,if_true,za hi,ya,yi,zlV (r:=m.constraints[i].row) (show m.constraints[i].row.zvr.length<1000000 by omega) hn,znW (m:=m) (c:=m.constraints[i]) (λt ht=>(l4 t ht).2.2.2.1) (show m.tables.length<1000000 by omega) hn,yq,yw,grd,zd (i:=i)<|by omega,hd];have hfam:(Z (m.constraints[i].family<0)||decide ((m.zvC.length:Int)<=m.constraints[i].family))=!famP m m.constraints[i]:=by
     unfold famP;rw[Bool.not_and,<-decide_not,<-decide_not];congr 1;·exact decide_eq_decide.2<|by omega
     ·exact decide_eq_decide.2<|by omega
    rw[hfam];cases famP m m.constraints[i]with
    |false=>simp|true=>have hp:(m.constraints[i].kind==0&&m.constraints[i].first==0&&m.constraints[i].size==0&&zwc l.length m.constraints[i].row)=zeG l.length m.constraints[i]:=rfl;rw[hp];unfold acyP;cases zeG l.length m.constraints[i]<;>cases Z<|2*l.length<=i<;>cases m.constraints[i].kind==1<;>cases zgr m m.constraints[i]<;>simp
   ·simp[zX.l2]
  ·have h2i:2*i<m.constraints.length:=by omega
   have h2j:2*i+1<m.constraints.length:=by omega
   have t1:=hS.con _<|yh h2i;have t2:=hS.con _<|yh h2j;have e1:zeh l (2*i)=⟨[⟨(i:Int),-1⟩],zwb l[i].lo⟩:=by unfold zeh;rw[show 2*i/2=i by omega,if_pos<|by omega,if_pos<|by omega,za hi];rfl
   have e2:zeh l (2*i+1)=⟨[⟨(i:Int),1⟩],l[i].hi⟩:=by unfold zeh;rw[show(2*i+1)/2=i by omega,if_neg<|by omega,if_neg<|by omega,za hi];rfl
   have hadd:zvp ((2*i:Nat):Int) 1=((2*i+1:Nat):Int):=zd (by omega);simp only[zX.l1,zy hi,if_true,za hi,mul2<|show i<1000000 by omega,za h2i,hadd,za h2j,ya,yi,zlA (show m.constraints[2*i].row.zvr.length<1000000 by omega) hn,zlA (show m.constraints[2*i+1].row.zvr.length<1000000 by omega) hn,yq,yw,grd,zd (i:=i)<|by omega,e1,e2];cases Z<|m.constraints[2*i].row=⟨[⟨(i:Int),-1⟩],zwb l[i].lo⟩<;>cases Z<|m.constraints[2*i+1].row=⟨[⟨(i:Int),1⟩],l[i].hi⟩<;>simp
  ·simp[zX.l1]
 grind
theorem zal {α S R:Type}{body}{l:List α}{n}{st:Nat->S}(p)(F T:Option R)(hb:∀rec i(hi),body rec (st i)=if p l[i]=U then rec<|st<|i+1 else F)(he:∀rec,body rec (st l.length)=T)(hn:l.length<n):zvt body n (st 0)=if l.all p=U then T else F:=by
 have:=zA (body:=body) (len:=l.length) (st:=st) (g:=λi=>if(l.drop i).all p=U then T else F) (λrec i hi a=>?_) (λrec=>?_) n 0 (yn _)<|by omega
 ·grind
 ·grind[zj]
 grind
def zdi (sizes:List Int)(c:Int):Int:=sizes.getD c.toNat 0
def digR (sizes:List Int):List Int->Int->List Int|[],_=>[]|c::l,k=>k.tmod (zdi sizes c)::digR sizes l (w64<|k.tdiv<|zdi sizes c)
def zp3 (sizes cols:List Int)(k:Int):List Int:=(digR sizes cols.reverse k).reverse
theorem ziL {sizes}(hs:sizes.all zbW=U){c}(hc:zv6 sizes c=U):1<=zdi sizes c/\zdi sizes c<=6:=by
 simp only[zv6,yc,yf]at hc;obtain⟨k,rfl⟩:=yS hc.1;have b:k<sizes.length:=by omega
 have a:=yo.1 hs _<|yh b;simp only[zbW]at a;grind[zdi]
theorem zsg {r}{done}{x:Int}:sto (xw (r+1) 0++done) (r:Int) x=O (xw r 0++x::done):=by
 unfold sto;rw[if_pos<|by grind];grind[vu,tg]
theorem zrm {r}{done:List Int}:∃x,idx (xw (r+1) 0++done) (r:Int)=O x:=⟨_,za<|by grind⟩
theorem zp2 {α:Type}{l:List α}{r}(h):(l.take<|r+1).reverse=l[r]::(l.take r).reverse:=by simp_all
theorem zjz {n}{sizes}{t}{i}(hs:sizes.all zbW=U)(hc:t.zvo.all (zv6 sizes)=U)(hl:t.zvo.length<1000000):∀(m r)(done)(k),r<m->r<=t.zvo.length->zvt (zbf.l2 n sizes i t) m (xw r 0++done,k,(r:Int)-1)=O (i,(digR sizes (t.zvo.take r).reverse k).reverse++done,U)
 |0,_,_,_,h,_=>by omega|m+1,0,done,k,_,_=>by simp[zvt,zbf.l2,digR]|m+1,r+1,done,k,h,o=>by
  have d:=by omega
  have a:=yo.1 hc _<|yh d;have j:=ziL hs a;have e:(r+1:Nat)-1=(r:Int):=by omega
  obtain⟨x,p⟩:=zrm (r:=r) (done:=done);have b:zwy k (zdi sizes t.zvo[r])=O (k.tmod<|zdi sizes t.zvo[r]):=by unfold zwy;grind
  have c:zwx k (zdi sizes t.zvo[r])=O (w64<|k.tdiv<|zdi sizes t.zvo[r]):=by unfold zwx;grind
  have g:=zd8 a;have f:zvz r 1=r-1:=by grind[zvz,zau]
  have l:Z (0<=r)=true:=by simp
  unfold zdi at b c;simp only[zvt,zbf.l2,e,za d,g,b,c,zsg,ya,f];rw[zjz hs hc hl m r _ _ (by omega)<|by omega,zp2 d];grind[digR,zdi]
theorem zlU {n}{sizes cols}(hs:sizes.all zbW=U)(hc:cols.all (zv6 sizes)=U)(hl:cols.length<1000000):∀(m r)(done)(k),r<m->r<=cols.length->zvt (zdU.l1 n sizes cols) m (xw r 0++done,k,(r:Int)-1)=O ((digR sizes (cols.take r).reverse k).reverse++done)
 |0,_,_,_,h,_=>by omega|m+1,0,done,k,_,_=>by simp[zvt,zdU.l1,digR]|m+1,r+1,done,k,h,l=>by
  have d:=by omega
  have a:=yo.1 hc _<|yh d;have i:=ziL hs a;have e:(r+1:Nat)-1=(r:Int):=by omega
  obtain⟨x,o⟩:=zrm (r:=r) (done:=done);have b:zwy k (zdi sizes cols[r])=O (k.tmod<|zdi sizes cols[r]):=by unfold zwy;grind
  have c:zwx k (zdi sizes cols[r])=O (w64<|k.tdiv<|zdi sizes cols[r]):=by unfold zwx;grind
  have g:=zd8 a;have f:zvz r 1=r-1:=by grind[zvz,zau]
  have j:Z (0<=r)=true:=by simp
  unfold zdi at b c;simp only[zvt,zdU.l1,e,za d,g,b,c,zsg,ya,f];rw[zlU hs hc hl m r _ _ (by omega)<|by omega,zp2 d];grind[digR,zdi]
theorem mkl_0 {b k:Nat}(h:k*b<=140737488355328):mkl b (k:Int) (0:Int)=O (xw k 0):=by unfold mkl;grind
theorem zoe {k:Nat}(h:k<1000000):zvz (k:Int) 1=(k:Int)-1:=by grind[zvz,zau]
theorem znO {n}{sizes cols}{k}(hs:sizes.all zbW=U)(hc:cols.all (zv6 sizes)=U)(hl:cols.length<=1000)(hn:1000000<=n):zdU n sizes cols k=O (zp3 sizes cols k):=by
 unfold zdU;rw[mkl_0<|by omega,ya,zoe<|by omega];have:=zlU (n:=n) hs hc (by omega) n cols.length [] k (by omega)<|ym _;grind[zp3]
def hitP (sizes:List Int)(s:Bool)(cell:Int)(t:Table):Bool:=zaL t.kind==s&&(Z (0<=zvz cell t.first)&&Z (zvz cell t.first<zae sizes t.zvo 1))
def resT (sizes:List Int)(s:Bool)(cell:Int):List Table->Nat->Int×List Int×Bool|[],_=>(0,[],M)|t::l,i=>if hitP sizes s cell t=U then((i:Int),zp3 sizes t.zvo<|zvz cell t.first,U)else resT sizes s cell l<|i+1
def zxU (sizes:List Int)(tables:List Table)(s:Bool)(cell:Int):Int×List Int×Bool:=if(za3 sizes tables&&Z (0<=cell))=U then resT sizes s cell tables 0 else(0,[],M)
theorem zli {n}{sizes}{tables}{s}{cell}(hF:Fuel n)(hs:sizes.length<=1000)(ht:tables.length<=1000)(hc:∀t∈tables,t.zvo.length<=1000):zbf n sizes tables s cell=O (zxU sizes tables s cell):=by have hn:=hF.big;unfold zbf zxU;rw[zfz hF hs ht hc,ya];cases hL:za3 sizes tables with
 |false=>simp|true=>
  obtain⟨l1,l2,l3,l4⟩:=zbK hL;by_cases h0:0<=cell
  ·have:=zA (body:=zbf.l1 n sizes tables s cell) (len:=tables.length) (st:=λi=>i) (g:=λi=>O<|resT sizes s cell (tables.drop i) i) (λrec i hi hr=>?_) (λrec=>?_) n 0 (yn _)<|by omega
   ·grind
   ·obtain⟨-,-,c1,c2,c3,c4⟩:=l4 _<|yh hi;simp only[zbf.l1,zy hi,za hi,ya,zci,zfA c2 (show tables[i].zvo.length<4611686018427387904 by omega)<|show tables[i].zvo.length<n by omega,grd,zd (i:=i)<|by omega,mkl_0 (b:=8) (k:=tables[i].zvo.length)<|by omega,ux,zoe<|show tables[i].zvo.length<1000000 by omega];have hdig:=zjz (n:=n) (i:=(i:Int)) l3 c2 (by omega) n tables[i].zvo.length [] (zvz cell tables[i].first) (by omega)<|ym _;simp only[ud,wo]at hdig;rw[hdig,zj hi,resT];have hh:((tables[i].kind==0||tables[i].kind==1)!=s||decide (zvz cell tables[i].first<0)||decide (zae sizes tables[i].zvo 1<=zvz cell tables[i].first))=!hitP sizes s cell tables[i]:=by
     unfold hitP zaL;grind
    grind[hitP,zp3]
   ·simp[zbf.l1,resT]
  grind
theorem zlt {n}{sizes}{tables}{s}{cell}(hn:1000000<=n)(hs:sizes.length<=1000)(ht:tables.length<=1000)(hc:∀t∈tables,t.zvo.length<=1000/\t.name.length<=4096):zcH n sizes tables s cell=O (zxU sizes tables s cell):=by unfold zcH zxU;rw[zfD hn hs ht hc,ya];cases d:za3 sizes tables with
 |false=>simp|true=>
  obtain⟨m,j,e,f⟩:=zbK d;have:=zA (body:=zcH.l1 n sizes tables s cell) (len:=tables.length) (st:=λi=>i) (g:=λi=>O<|if Z (0<=cell)=U then resT sizes s cell (tables.drop i) i else(0,[],M)) (λa i b k=>?_) (λa=>?_) n 0 (yn _)<|by omega
  ·grind
  ·obtain⟨-,-,l,h,o,p⟩:=f _<|yh b;have c:=ze7 (n:=n) (sizes:=sizes) (cols:=tables[i].zvo) (by omega) (by omega) (by omega) (by omega);simp only[zcH.l1,za b,ya,zcf,grd,zd (i:=i)<|by omega,znO e h (show tables[i].zvo.length<=1000 by omega) hn];rw[zj b,resT];unfold hitP zaL;grind
  ·simp[zcH.l1,resT]
theorem zrQ {sizes}{s}{cell}:∀(l)(i),(resT sizes s cell l i).2.2=U->∃k:Nat,(resT sizes s cell l i).1=(k:Int)/\i<=k/\k<i+l.length
 |[],_,h=>by grind[resT]|t::l,i,h=>by
  rw[resT]at h|-;split at h;·grind
  ·rename_i b;obtain⟨k,e,c,a⟩:=zrQ l (i+1) h;grind
theorem znj {sizes}{tables}{s}{cell}(h:(zxU sizes tables s cell).2.2=U):∃t,idx tables (zxU sizes tables s cell).1=O t:=by
 unfold zxU at h|-;split at h;·rename_i a;rw[if_pos a];obtain⟨k,e,-,b⟩:=zrQ tables 0 h;rw[e];exact⟨_,za<|by omega⟩
 grind
theorem zq0 {sizes}{tables}{s}{cell}(h:cell<0):(zxU sizes tables s cell).2.2=false:=by
 unfold zxU;grind
def updT (t:Table)(u:zwg):Bool:=if(t.kind==2||t.kind==3)=U then(u.kind==0||u.kind==1)&&u.value==0 else u.kind==2&&Z (t.range.lo<=u.value)&&Z (u.value<=t.range.hi)
def updP (m:Model)(u:zwg):Bool:=(zxU m.zvu m.tables M u.cell).2.2&&updT ((idx m.tables (zxU m.zvu m.tables M u.cell).1).getD J) u
def zxK (m:Model):Int->List zwg->Bool|_,[]=>U|last,u::l=>Z (last<u.cell)&&updP m u&&zxK m u.cell l
theorem zkQ {n}{m}{l}{u}(hF:Fuel n)(hS:zvS m):zce n ⟨m,l⟩ u=O (updP m u):=by unfold zce updP;have c:=hS.zvu;have b:=hS.tables;simp only[];rw[zli hF (by omega) (by omega) λt h=>by have:=hS.tab t h;omega,ya];cases a:(zxU m.zvu m.tables M u.cell).2.2 with
 |false=>simp|true=>
  obtain⟨t,b⟩:=znj a;simp only[jn,updT];grind
def opP (m:Model)(o:zvX):Bool:=Z (o.zvu.length<=3)&&o.zvu.all λs=>Z (-1<=s)&&Z (s<(m.zvu.length:Int))
def opsP (m:Model):Bool:=m.zvs.all (opP m)&&(Z (m.zvs.length<=8)&&zxq [] (m.zvs.map (·.name)))
theorem zeK {α β:Type}{f:α->β}{l:List α}{i}(hi):(l.take i).map f++[f l[i]]=(l.take<|i+1).map f:=by grind[wj]
theorem zhO {n}{m}{l}(hF:Fuel n)(hS:zvS m):zP n ⟨m,l⟩=O (opsP m):=by
 have hn:=hF.big;have hol:=hS.zvs;unfold zP opsP;have:=zal (body:=zP.l1 n ⟨m,l⟩) (l:=m.zvs) (n:=n) (st:=λi=>((m.zvs.take i).map (·.name),(i:Int))) (opP m) (O M) (O<|Z (m.zvs.length<=8)&&zxq [] (m.zvs.map (·.name))) (λrec i hi=>?_) (λrec=>?_)<|by omega
 ·grind
 ·have hop:=hS.op _<|yh hi;simp only[zP.l1,za hi,ya];rw[zk<|by grind,ya,zbs (p:=λs=>!(Z (-1<=s)&&Z (s<(m.zvu.length:Int)))) (λx _=>by
   simp only[zbF,Bool.not_and,<-decide_not];grind) (by omega)<|by omega];simp only[grd,zd (i:=i)<|by omega,zeK hi];have h3:Z (3<(m.zvs[i].zvu.length:Int))=!decide (m.zvs[i].zvu.length<=3):=by grind
  grind[opP]
 ·simp only[zP.l1,ye,if_false,wo];rw[zfU hF<|by grind];simp only[yq,yw,grd,if_true,yi,yI,yp];grind
def zhs (K:Nat):Int->List Change->Bool|_,[]=>U|last,d::l=>Z (last<d.cell)&&Z (d.cell<(K:Int))&&d.add !=0&&za6 d.add 1000000000&&zhs K d.cell l
def effP (m:Model)(K:Nat)(x:zwf):Bool:=zhs K (-1) x.delta&&(zxK m (-1) x.zvw&&(Z (x.hold.length<=8)&&Z (x.zvw.length<=32)&&x.hold.all (zwc K)))
theorem zkO {n m l x}(hF:Fuel n)(hS:zvS m)(h1:x.delta.length<=1000)(h2:x.zvw.length<=1000)(h3:x.hold.length<=1000)(h4:∀r∈x.hold,r.zvr.length<=1000):zT n ⟨m,l⟩ x=O (effP m l.length x):=by
 have hn:=hF.big;have T:zvt (zT.l2 n ⟨m,l⟩ x) n (-1,0)=O (zxK m (-1) x.zvw&&(Z (x.hold.length<=8)&&Z (x.zvw.length<=32)&&x.hold.all (zwc l.length))):=by
  have:=za4 (body:=zT.l2 n ⟨m,l⟩ x) (len:=x.zvw.length) (st:=λ(s:Int)i=>(s,(i:Int))) (g:=λi s=>O<|zxK m s (x.zvw.drop i)&&(Z (x.hold.length<=8)&&Z (x.zvw.length<=32)&&x.hold.all (zwc l.length))) (λ_ _=>True) (λrec i s hi _ hr=>?_) (λrec s _=>?_) n 0 (-1) (yn _) (by omega) trivial;·simpa using this
  ·simp only[zT.l2,zy hi,if_true,za hi,ya,zkQ hF hS,yq,yw,grd,yi,zd (i:=i)<|by omega,hr x.zvw[i].cell trivial];rw[zj hi,zxK];by_cases hlt:s<x.zvw[i].cell
   ·have hd:Z (x.zvw[i].cell<=s)=false:=by simp;omega
    rw[hd];cases updP m x.zvw[i]<;>simp[hlt]
   ·have hd:Z (x.zvw[i].cell<=s)=true:=by simp;omega
    rw[hd];simp[hlt]
  ·have hc:zo n x.hold (λq0=>zbP n q0 ⟨m,l⟩)=O (x.hold.any λr=>!zwc l.length r):=zcR (λr hr=>by unfold zbP;rw[zjJ (by have:=h4 r hr;omega)<|by omega];rfl) (by omega)<|by omega
   simp only[zT.l2,zaj,ye,if_false,hc,yq,yw,grd,if_true,yi,zos,xV,zxK,yz,yp];congr 2;·exact decide_eq_decide.2<|by omega
   ·exact decide_eq_decide.2<|by omega
 have:=za4 (body:=zT.l1 n ⟨m,l⟩ x) (len:=x.delta.length) (st:=λ(s:Int)i=>(s,(i:Int))) (g:=λi s=>O<|zhs l.length s (x.delta.drop i)&&(zxK m (-1) x.zvw&&(Z (x.hold.length<=8)&&Z (x.zvw.length<=32)&&x.hold.all (zwc l.length)))) (λ_ _=>True) (λrec i s hi _ hr=>?_) (λrec s _=>?_) n 0 (-1) (yn _) (by omega) trivial;·simpa[zT,effP]using this
 ·simp only[zT.l1,zy hi,if_true,za hi,ya,zzQ,yq,yw,grd,yi,zd (i:=i)<|by omega,hr x.delta[i].cell trivial];rw[zj hi,zhs];by_cases h:(Z (s<x.delta[i].cell)&&Z (x.delta[i].cell<(l.length:Int))&&x.delta[i].add !=0&&za6 x.delta[i].add 1000000000)=U;·rw[h,yz];simp only[yc,yf,bne_iff_ne]at h;rw[if_neg<|by simp[h.2,h.1.2];omega]
  ·rw[if_pos<|by
    simp only[yc,yf,bne_iff_ne,ne_eq]at h;simp only[yH,yf,beq_iff_eq,yD,<-yP];by_cases ha:za6 x.delta[i].add 1000000000=U;·left;simp only[ha,and_true]at h;omega
    ·exact .inr ha];simp only[yP]at h;rw[h];rfl
 ·simp only[zT.l1,zaj,ye,if_false,T,xV,zhs,yz]
theorem zmU {n m x}(hn:1000000<=n)(hS:zvS m)(hL:za3 m.zvu m.tables=U)(h1:x.delta.length<=1000)(h2:x.zvw.length<=1000)(h3:x.hold.length<=1000)(h4:∀r∈x.hold,r.zvr.length<=1000):zac n m x=O (effP m (zI m.zvu U m.tables).length x):=by
 have htl:=hS.tables;have hsl:=hS.zvu;have hcs:∀t∈m.tables,t.zvo.length<=1000/\t.name.length<=4096:=λt ht=>by have:=hS.tab t ht;omega
 unfold zac zcC;rw[ze6 hn (by omega) (by omega) hcs,hL,if_pos rfl];generalize zI m.zvu U m.tables=l;simp only[ya];have T3:zvt (zac.l3 n m x) n 0=O (zxK m (-1) x.zvw&&(Z (x.hold.length<=8)&&Z (x.zvw.length<=32))):=by
  have:=za4 (body:=zac.l3 n m x) (len:=x.zvw.length) (st:=λ(_:Int)i=>(i:Int)) (g:=λi s=>O<|zxK m s (x.zvw.drop i)&&(Z (x.hold.length<=8)&&Z (x.zvw.length<=32))) (λi s=>-1<=s/\(i=0/\s=-1\/0<i/\∃y,idx x.zvw (zvz (i:Int) 1)=O y/\y.cell=s)) (λrec i s hi hI hr=>?_) (λrec s _=>?_) n 0 (-1) (yn _) (by omega) ⟨by omega,.inl ⟨rfl,rfl⟩⟩;·simpa using this
  ·obtain⟨h1,h2⟩:=hI;have hprev:(Z (0<(i:Int))&&Z (x.zvw[i].cell<=((idx x.zvw<|zvz (i:Int) 1).getD J).cell))=(Z (0<i)&&Z (x.zvw[i].cell<=s))/\(! Z (0<(i:Int))||(idx x.zvw<|zvz (i:Int) 1).isSome)=true:=by
    rcases h2 with⟨h2,h3⟩|⟨h2,y,h3,h4⟩;·subst h2;simp
    ·rw[h3];simp[h4,h2]
   have hnext:-1<=x.zvw[i].cell->rec ((i+1:Nat):Int)=O (zxK m x.zvw[i].cell (x.zvw.drop<|i+1)&&(Z (x.hold.length<=8)&&Z (x.zvw.length<=32))):=λh=>hr x.zvw[i].cell ⟨h,.inr ⟨by omega,x.zvw[i],by rw[zfd (by omega)<|by omega,show i+1-1=i by omega,za hi],rfl⟩⟩;simp only[zac.l3,zy hi,if_true,za hi,ya,zlt (cell:=x.zvw[i].cell) (s:=M) hn (show m.zvu.length<=1000 by omega) (show m.tables.length<=1000 by omega) hcs,hprev.1,hprev.2,yw,grd,ziB,zd (i:=i)<|by omega];rw[zj hi,zxK];unfold updP;cases hok:(zxU m.zvu m.tables M x.zvw[i].cell).2.2 with|false=>simp|true=>
    obtain⟨t,ht⟩:=znj hok;have hge:0<=x.zvw[i].cell:=by
     by_cases h:x.zvw[i].cell<0;·rw[zq0 h]at hok;cases hok
     ·omega
    have hasc:(Z (0<i)&&Z (x.zvw[i].cell<=s))=!decide (s<x.zvw[i].cell):=by rw[<-decide_not,<-Bool.decide_and];refine decide_eq_decide.2 ?_;rcases h2 with⟨h2,h3⟩|⟨h2,-⟩<;>omega
    rw[hasc,hnext<|by omega];simp only[ht,uk,uD,ya,yi,yz];cases Z<|s<x.zvw[i].cell with
    |false=>simp|true=>
     simp only[uk,ye,if_false,yz];unfold updT;by_cases hset:(t.kind==2||t.kind==3)=U;·rw[hset];simp only[if_true,yz,uk,ue,ye,if_false];cases hk0:x.zvw[i].kind==0<;>cases hk1:x.zvw[i].kind==1<;>cases hv:x.zvw[i].value==0<;>simp[bne,hk0,hk1,hv]
     ·simp only[yP]at hset;rw[hset];simp only[ue,ye,if_false,ut,yz];have e1:Z (x.zvw[i].value<t.range.lo)=!decide (t.range.lo<=x.zvw[i].value):=by rw[<-decide_not];exact decide_eq_decide.2<|by omega
      have e2:Z (t.range.hi<x.zvw[i].value)=!decide (x.zvw[i].value<=t.range.hi):=by rw[<-decide_not];exact decide_eq_decide.2<|by omega
      rw[e1,e2];cases hk0:x.zvw[i].kind==2<;>cases Z<|t.range.lo<=x.zvw[i].value<;>cases Z<|x.zvw[i].value<=t.range.hi<;>simp[bne,hk0]
  ·simp only[zac.l3,zaj,ye,if_false,xV,zxK,yz,yp];congr 1;·exact decide_eq_decide.2<|by omega
   ·exact decide_eq_decide.2<|by omega
 have T2:zvt (zac.l2 n m x l) n 0=if x.hold.all (zwc l.length)=U then O<|zxK m (-1) x.zvw&&(Z (x.hold.length<=8)&&Z (x.zvw.length<=32))else O false:=by
  have:=zal (body:=zac.l2 n m x l) (l:=x.hold) (n:=n) (st:=λi=>(i:Int)) (zwc l.length) (O M) (O<|zxK m (-1) x.zvw&&(Z (x.hold.length<=8)&&Z (x.zvw.length<=32))) (λrec i hi=>?_) (λrec=>?_)<|by omega
  ·simpa using this
  ·simp only[zac.l2,zy hi,if_true,za hi,ya,zlV (show x.hold[i].zvr.length<1000000 by have:=h4 _<|yh hi;omega) hn,zd (i:=i)<|by omega];cases zwc l.length x.hold[i]<;>simp
  ·simp only[zac.l2,zaj,ye,if_false,T3]
 have:=za4 (body:=zac.l1 n m x l) (len:=x.delta.length) (st:=λ(_:Int)i=>(i:Int)) (g:=λi s=>O<|zhs l.length s (x.delta.drop i)&&(zxK m (-1) x.zvw&&(Z (x.hold.length<=8)&&Z (x.zvw.length<=32)&&x.hold.all (zwc l.length)))) (λi s=>-1<=s/\(i=0/\s=-1\/0<i/\∃y,idx x.delta (zvz (i:Int) 1)=O y/\y.cell=s)) (λrec i s hi hI hr=>?_) (λrec s _=>?_) n 0 (-1) (yn _) (by omega) ⟨by omega,.inl ⟨rfl,rfl⟩⟩;·simpa[effP]using this
 ·obtain⟨h1,h2⟩:=hI;have hprev:(Z (0<(i:Int))&&Z (x.delta[i].cell<=((idx x.delta<|zvz (i:Int) 1).getD J).cell))=(Z (0<i)&&Z (x.delta[i].cell<=s))/\(! Z (0<(i:Int))||(idx x.delta<|zvz (i:Int) 1).isSome)=true:=by
   rcases h2 with⟨h2,h3⟩|⟨h2,y,h3,h4⟩;·subst h2;simp
   ·rw[h3];simp[h4,h2]
  simp only[zac.l1,zy hi,if_true,za hi,ya,zzr,yq,yw,grd,yi,hprev.1,hprev.2,zd (i:=i)<|by omega];rw[zj hi,zhs];by_cases h:(Z (s<x.delta[i].cell)&&Z (x.delta[i].cell<(l.length:Int))&&x.delta[i].add !=0&&za6 x.delta[i].add 1000000000)=U;·rw[h,yz];simp only[yc,yf,bne_iff_ne]at h;rw[if_neg<|by simp[h.2,h.1.2];omega,hr x.delta[i].cell ⟨by omega,.inr ⟨by omega,x.delta[i],by rw[zfd (by omega)<|by omega,show i+1-1=i by omega,za hi],rfl⟩⟩]
  ·rw[if_pos<|by
    simp only[yc,yf,bne_iff_ne,ne_eq]at h;simp only[yH,yc,yf,beq_iff_eq,yD,<-yP];by_cases ha:za6 x.delta[i].add 1000000000=U;·left;simp only[ha,and_true]at h;rcases h2 with⟨h2,h3⟩|⟨h2,-⟩<;>omega
    ·exact .inr ha];simp only[yP]at h;rw[h];rfl
 ·simp only[zac.l1,zaj,ye,if_false,T2,xV,zhs,yz];cases x.hold.all<|zwc l.length<;>simp
def cmpP:List Int->List Int->Int|[],[]=>0|[],_::_=>-1|_::_,[]=>1|x::l,y::k=>if x<y then-1 else if y<x then 1 else cmpP l k
def zx6:List Int->List Int->Bool|[],[]=>M|[],_::_=>U|_::_,[]=>M|x::l,y::k=>if x=y then zx6 l k else Z<|x<y
theorem zo5:∀a b:List Int,Z (0<=cmpP a b)=!zx6 a b
 |[],[]=>rfl|[],_::_=>rfl|_::_,[]=>rfl|x::l,y::k=>by
  simp only[cmpP,zx6];by_cases h:x=y;·subst h;simp[zo5 l k]
  ·by_cases h2:x<y;·simp[h,h2]
   ·have:y<x:=by omega
    simp[h,h2,this]
theorem zqb {n a b}(hl:a.length<1000000)(hn:1000000<=n):zq n a b=O (cmpP a b):=by
 have:=zA (body:=zq.l1 n a b) (len:=a.length) (st:=λi=>(i:Int)) (g:=λi=>O<|cmpP (a.drop i)<|b.drop i) (λrec i hi hr=>?_) (λrec=>?_) n 0 (yn _)<|by omega
 ·simpa[zq]using this
 ·simp only[zq.l1,zy hi,if_true,za hi,ya,zd (i:=i)<|by omega,hr];rw[zj hi];by_cases hb:i<b.length
  ·rw[if_neg<|by simp;omega,za hb,zj hb];simp only[ya,zct,zdL,bne_self_eq_false,ye,if_false,cmpP,yf];by_cases h1:a[i]<b[i];·simp[h1]
   ·by_cases h2:b[i]<a[i];·simp[h1,h2]
    ·simp[h1,h2]
  ·rw[if_pos<|by simp;omega,show b.drop i=[]from wt<|by omega];rfl
 ·simp only[zq.l1,zaj,ye,if_false,xV];by_cases hb:a.length<b.length;·rw[if_pos<|by simpa using hb,zj hb];rfl
  ·rw[if_neg<|by simpa using hb,wt<|by omega];rfl
theorem zoU {n a b}(hl:a.length<1000000)(hn:1000000<=n):zcM n a b=O (zx6 a b):=by
 have:=zA (body:=zcM.l1 n a b) (len:=min a.length b.length) (st:=λi=>(i:Int)) (g:=λi=>O<|zx6 (a.drop i)<|b.drop i) (λrec i hi hr=>?_) (λrec=>?_) n 0 (yn _)<|by omega
 ·simpa[zcM]using this
 ·have ha:i<a.length:=by omega
  have hb:i<b.length:=by omega
  simp only[zcM.l1,zy ha,zy hb,uW,if_true,za ha,za hb,ya,zd (i:=i)<|by omega,hr];rw[zj ha,zj hb];by_cases h:a[i]=b[i];·simp[h,zx6]
  ·simp[h,zx6]
 ·simp only[zcM.l1];rw[if_neg<|by simp;omega];by_cases ha:a.length<=b.length
  ·rw[vj ha,xV];by_cases hb:a.length<b.length;·rw[zj hb];simp[zx6,hb]
   ·rw[wt<|by omega];simp[zx6];omega
  ·rw[Nat.min_eq_right<|by omega,xV,zj<|by omega];simp[zx6];omega
def argP (m:Model)(s x:Int):Bool:=(!decide (s<0)||za6 x 9999)&&(!decide (0<=s)||Z (0<=x)&&Z (x<(idx m.zvu s).getD J))
def zyW (m:Model):List Int->List Int->Bool|s::l,x::k=>argP m s x&&zyW m l k|_,_=>U
def opAt (m:Model)(a:Action):zvX:=(idx m.zvs a.operation).getD J
def ordP (b a:Action):Bool:=!decide (a.operation<b.operation)&&(! b.operation==a.operation||zx6 b.arguments a.arguments)
def actP (m:Model)(K:Nat)(i:Nat)(a:Action):Bool:=Z (0<=a.operation)&&Z (a.operation<(m.zvs.length:Int))&&a.arguments.length==(opAt m a).zvu.length&&zyW m (opAt m a).zvu a.arguments&&(Z (i=0)||ordP ((idx m.zvq ((i-1:Nat):Int)).getD J) a)&&effP m K a.effect
def zyV (m:Model)(K:Nat):Bool:=Z (m.zvq.length<=256)&&allR (λi=>actP m K i<|(idx m.zvq (i:Int)).getD J) 0 m.zvq.length
theorem zlE {m}{s x:List Int}{k}(h1)(h2:k<x.length):zyW m (s.drop k) (x.drop k)=(argP m s[k] x[k]&&zyW m (s.drop<|k+1) (x.drop<|k+1)):=by rw[zj h1,zj h2];rfl
theorem zpJ {m a}(h:(Z (0<=a.operation)&&Z (a.operation<(m.zvs.length:Int)))=U):idx m.zvs a.operation=O (opAt m a)/\opAt m a∈m.zvs:=by
 simp only[yc,yf]at h;obtain⟨o,b⟩:=zaD h.1 h.2;grind[opAt,zam]
theorem zsP {m:Model}{s}(h0:0<=s)(h:s<(m.zvu.length:Int)):idx m.zvu s=O ((idx m.zvu s).getD J):=by
 obtain⟨x,a⟩:=zaD h0 h;grind
theorem zlO {m}(h:opsP m=U):∀o∈m.zvs,o.zvu.length<=3/\∀s∈o.zvu,-1<=s/\s<(m.zvu.length:Int):=by
 simp only[opsP,yc,yo]at h;intro o a;have:=h.1 o a;simp only[opP]at this;grind
theorem zrH {b a}:(Z (a.operation<b.operation)||b.operation==a.operation&&Z (0<=cmpP b.arguments a.arguments))=!ordP b a:=by grind[zo5,ordP]
theorem zui {b a}:(Z (a.operation<b.operation)||b.operation==a.operation&&!zx6 b.arguments a.arguments)=!ordP b a:=by grind[ordP]
theorem zjV {n}{m}{l}(hF:Fuel n)(hS:zvS m)(hO:opsP m=U):zK n ⟨m,l⟩=O (zyV m l.length):=by
 have hn:=hF.big;have hal:=hS.zvq;unfold zK zyV;by_cases h0:m.zvq.length<=256
 ·rw[if_neg<|by grind,decide_eq_true h0,yz];have:=zfT (body:=zK.l1 n ⟨m,l⟩) (len:=m.zvq.length) (n:=n) (st:=λi=>(i:Int)) (λi=>actP m l.length i<|(idx m.zvq (i:Int)).getD J) (O M) (O U) (λrec i hi=>?_) (λrec=>?_)<|by omega
  ·grind
  ·have hmem:=yh hi;obtain⟨a1,a2,a3,a4,a5⟩:=hS.act _ hmem;simp only[zK.l1,zy hi,if_true,za hi,ya,zaJ,yi];unfold actP;cases hop:Z (0<=m.zvq[i].operation)&&Z (m.zvq[i].operation<(m.zvs.length:Int))with
   |false=>simp[grd]|true=>
    obtain⟨ho,hom⟩:=zpJ hop;obtain⟨o1,o2⟩:=zlO hO _ hom;simp only[ho,yq,yw,grd,if_true,yi,uk,uD,yz,ya];by_cases hlen:m.zvq[i].arguments.length=(opAt m m.zvq[i]).zvu.length
    ·rw[if_neg<|by grind];have hle:(m.zvq[i].arguments.length==(opAt m m.zvq[i]).zvu.length)=true:=by grind
     rw[hle,yz];have inner:=zA (body:=zK.l2 n ⟨m,l⟩ i rec m.zvq[i]<|opAt m m.zvq[i]) (len:=(opAt m m.zvq[i]).zvu.length) (st:=λk=>(k:Int)) (g:=λk=>if zyW m ((opAt m m.zvq[i]).zvu.drop k) (m.zvq[i].arguments.drop k)=U then if((Z (i=0)||ordP ((idx m.zvq ((i-1:Nat):Int)).getD J) m.zvq[i])&&effP m l.length m.zvq[i].effect)=U then rec ((i+1:Nat):Int)else O M else O M) (λrec' k hk hr'=>?_) (λrec'=>?_) n 0 (yn _)<|by omega
     ·grind
     ·have hk2:k<m.zvq[i].arguments.length:=by omega
      have hs2:=o2 _<|yh hk;simp only[zK.l2,zy hk,if_true,za hk,za hk2,ya,around4,yq,yw,grd,yi,zd (i:=k)<|by omega,hr',zaJ];rw[zlE hk hk2];unfold argP;by_cases hneg:(opAt m m.zvq[i]).zvu[k]<0;·grind
      ·have hd1:Z ((opAt m m.zvq[i]).zvu[k]<0)=false:=by simp;omega
       have hd2:Z (0<=(opAt m m.zvq[i]).zvu[k])=true:=by simp;omega
       obtain⟨z,hz⟩:=zaD (l:=m.zvu) (i:=(opAt m m.zvq[i]).zvu[k]) (by omega) hs2.2;rw[hz,hd1,hd2];by_cases h1:0<=m.zvq[i].arguments[k]
       ·by_cases h2:m.zvq[i].arguments[k]<z
        ·have h2':¬z<=m.zvq[i].arguments[k]:=by omega
         simp[h1,h2,h2']
        ·have h2':z<=m.zvq[i].arguments[k]:=by omega
         simp[h1,h2,h2']
       ·simp[h1]
     ·simp only[zK.l2,zaj,ye,if_false,jn,xV];rw[zkO hF hS (by omega) (by omega) (by omega) λr hr=>by have:=a5 r hr;omega];simp only[ya,zd (i:=i)<|by omega];have hargs:zyW m [] (m.zvq[i].arguments.drop (opAt m m.zvq[i]).zvu.length)=true:=rfl;rw[hargs,if_pos rfl];by_cases h0i:i=0;·subst h0i;rw[if_neg<|by simp];cases effP m l.length m.zvq[0].effect<;>simp
      ·rw[if_pos<|by simp;omega,zfd (by omega)<|by omega];have hi1:i-1<m.zvq.length:=by omega
       have b1:=(hS.act _<|yh hi1).1;simp only[za hi1,ya,zrH,yi,zqb (a:=m.zvq[i-1].arguments) (b:=m.zvq[i].arguments) (show m.zvq[i-1].arguments.length<1000000 by omega)<|show 1000000<=n by omega,yq,yw,if_true,h0i,decide_false,uD];cases ordP m.zvq[i-1] m.zvq[i]<;>cases effP m l.length m.zvq[i].effect<;>simp[grd]
    grind
  ·simp[zK.l1]
 grind
theorem zjX {n}{m}(hn:1000000<=n)(hS:zvS m)(hL:za3 m.zvu m.tables=U):zC n m=O (opsP m&&zyV m (zI m.zvu U m.tables).length):=by
 have hal:=hS.zvq;have hol:=hS.zvs;have hef:∀a∈m.zvq,zac n m a.effect=O (effP m (zI m.zvu U m.tables).length a.effect):=λa ha=>by
  obtain⟨a1,a2,a3,a4,a5⟩:=hS.act _ ha;grind[zmU]
 generalize(zI m.zvu U m.tables).length=K at hef;have T:opsP m=U->zvt (zC.l3 n m) n 0=O (allR (λi=>actP m K i<|(idx m.zvq (i:Int)).getD J) 0 m.zvq.length):=λhO=>by
  have:=zfT (body:=zC.l3 n m) (len:=m.zvq.length) (n:=n) (st:=λi=>(i:Int)) (λi=>actP m K i<|(idx m.zvq (i:Int)).getD J) (O M) (O U) (λrec i hi=>?_) (λrec=>?_)<|by omega
  ·grind
  ·have hmem:=yh hi;obtain⟨a1,a2,a3,a4,a5⟩:=hS.act _ hmem;simp only[zC.l3,zy hi,if_true,za hi,ya,yi];have hneg:(Z (m.zvq[i].operation<0)||decide ((m.zvs.length:Int)<=m.zvq[i].operation))=!(Z (0<=m.zvq[i].operation)&&Z (m.zvq[i].operation<(m.zvs.length:Int))):=by grind
   rw[hneg];unfold actP;cases hop:Z (0<=m.zvq[i].operation)&&Z (m.zvq[i].operation<(m.zvs.length:Int))with
   |false=>simp[grd]|true=>
    obtain⟨ho,hom⟩:=zpJ hop;obtain⟨o1,o2⟩:=zlO hO _ hom;simp only[ho,yq,yw,grd,if_true,yi,uk,uD,yz];by_cases hlen:m.zvq[i].arguments.length=(opAt m m.zvq[i]).zvu.length
    ·rw[if_neg<|by grind];have hle:(m.zvq[i].arguments.length==(opAt m m.zvq[i]).zvu.length)=true:=by grind
     rw[hle,yz];have inner:=zA (body:=zC.l4 n m i rec m.zvq[i]) (len:=m.zvq[i].arguments.length) (st:=λk=>(k:Int)) (g:=λk=>if zyW m ((opAt m m.zvq[i]).zvu.drop k) (m.zvq[i].arguments.drop k)=U then if((Z (i=0)||ordP ((idx m.zvq ((i-1:Nat):Int)).getD J) m.zvq[i])&&effP m K m.zvq[i].effect)=U then rec ((i+1:Nat):Int)else O M else O M) (λrec' k hk2 hr'=>?_) (λrec'=>?_) n 0 (yn _)<|by omega
     ·grind
     ·have hk:k<(opAt m m.zvq[i]).zvu.length:=by omega
      have hs2:=o2 _<|yh hk;simp only[zC.l4,zy hk2,if_true,ho,za hk,za hk2,ya,between4,yq,yw,grd,yi,zd (i:=k)<|by omega,hr'];rw[zlE hk hk2];unfold argP;by_cases hneg:(opAt m m.zvq[i]).zvu[k]<0
      ·have hd1:Z ((opAt m m.zvq[i]).zvu[k]<0)=true:=by simp[hneg]
       have hd2:Z (0<=(opAt m m.zvq[i]).zvu[k])=false:=by simp;omega
       rw[hd1,hd2];cases za6 m.zvq[i].arguments[k] 9999<;>simp
      ·have hd1:Z ((opAt m m.zvq[i]).zvu[k]<0)=false:=by simp;omega
       have hd2:Z (0<=(opAt m m.zvq[i]).zvu[k])=true:=by simp;omega
       rw[zsP (m:=m) (s:=(opAt m m.zvq[i]).zvu[k]) (by omega) hs2.2,hd1,hd2];simp only[yi];generalize(idx m.zvu (opAt m m.zvq[i]).zvu[k]).getD J=z;by_cases h1:m.zvq[i].arguments[k]<0
       ·have h1':¬0<=m.zvq[i].arguments[k]:=by omega
        simp[h1,h1']
       ·have h1':0<=m.zvq[i].arguments[k]:=by omega
        by_cases h2:z<=m.zvq[i].arguments[k]
        ·have h2':¬m.zvq[i].arguments[k]<z:=by omega
         simp[h1,h1',h2,h2']
        ·have h2':m.zvq[i].arguments[k]<z:=by omega
         simp[h1,h1',h2,h2']
     ·simp only[zC.l4,zaj,ye,if_false,jn,xV,hef _ hmem];simp only[ya,zd (i:=i)<|by omega];have hargs:zyW m ((opAt m m.zvq[i]).zvu.drop m.zvq[i].arguments.length) []=true:=by cases(opAt m m.zvq[i]).zvu.drop m.zvq[i].arguments.length<;>rfl
      rw[hargs,if_pos rfl];by_cases h0i:i=0;·subst h0i;rw[if_neg<|by simp];cases effP m K m.zvq[0].effect<;>simp
      ·rw[if_pos<|by simp;omega,zfd (by omega)<|by omega];have hi1:i-1<m.zvq.length:=by omega
       have b1:=(hS.act _<|yh hi1).1;simp only[za hi1,ya,zui,yi,zoU (a:=m.zvq[i-1].arguments) (b:=m.zvq[i].arguments) (show m.zvq[i-1].arguments.length<1000000 by omega)<|show 1000000<=n by omega,yq,yw,if_true,h0i,decide_false,uD];cases ordP m.zvq[i-1] m.zvq[i]<;>cases effP m K m.zvq[i].effect<;>simp[grd]
    grind
  ·simp[zC.l3]
 unfold zC;have:=zal (body:=zC.l1 n m) (l:=m.zvs) (n:=n) (st:=λi=>((m.zvs.take i).map (·.name),(i:Int))) (opP m) (O M) (if(Z (m.zvs.length<=8)&&zxq [] (m.zvs.map (·.name))&&Z (m.zvq.length<=256))=U then zvt (zC.l3 n m) n 0 else O M) (λrec i hi=>?_) (λrec=>?_)<|by omega
 ·simp only[List.take_zero,wB,we]at this;rw[this];unfold zyV;cases hO:opsP m with|true=>have hO':=hO;simp only[opsP,yc]at hO';rw[hO'.1,hO'.2.1,hO'.2.2,T hO];cases Z<|m.zvq.length<=256<;>rfl|false=>unfold opsP at hO;cases h1:m.zvs.all<|opP m with|false=>simp|true=>rw[h1,yz]at hO;rw[hO];simp
 ·have hop:=hS.op _<|yh hi;simp only[zC.l1,zy hi,if_true,za hi,ya];rw[zk<|by simp;omega,ya,zeK hi];generalize hX:(m.zvs.take<|i+1).map (·.name)=X;have inner:=zal (body:=zC.l2 n m i rec m.zvs[i] X) (l:=m.zvs[i].zvu) (n:=n) (st:=λk=>(k:Int)) (λs=>Z (-1<=s)&&Z (s<(m.zvu.length:Int))) (O M) (if Z (m.zvs[i].zvu.length<=3)=U then rec (X,((i+1:Nat):Int))else O M) (λrec' k hk=>?_) (λrec'=>?_)<|by omega
  ·simp only[we]at inner;rw[inner];unfold opP;cases Z<|m.zvs[i].zvu.length<=3<;>cases m.zvs[i].zvu.all λs=>Z (-1<=s)&&Z (s<(m.zvu.length:Int))<;>simp
  ·simp only[zC.l2,zy hk,if_true,za hk,ya,yq,yw,grd,yi,zd (i:=k)<|by omega];have e1:Z (m.zvs[i].zvu[k]< -1)=!decide (-1<=m.zvs[i].zvu[k]):=by rw[<-decide_not];exact decide_eq_decide.2<|by omega
   have e2:Z ((m.zvu.length:Int)<=m.zvs[i].zvu[k])=!decide (m.zvs[i].zvu[k]<(m.zvu.length:Int)):=by rw[<-decide_not];exact decide_eq_decide.2<|by omega
   rw[e1,e2];cases Z<|-1<=m.zvs[i].zvu[k]<;>cases Z<|m.zvs[i].zvu[k]<(m.zvu.length:Int)<;>simp
  ·simp only[zC.l2,zaj,ye,if_false,zd (i:=i)<|by omega];by_cases h3:m.zvs[i].zvu.length<=3;·rw[if_neg<|by simp;omega,if_pos<|by simp[h3]]
   ·rw[if_pos<|by simp;omega,if_neg<|by simp[h3]]
 ·simp only[zC.l1,zaj,ye,if_false,wo];rw[zfZ hn (by simp;omega) λw hw=>by simp only[yY]at hw;obtain⟨o,ho,rfl⟩:=hw;have:=(hS.op o ho).1;omega];simp only[yq,yw,grd,if_true,yi];have e1:Z (8<(m.zvs.length:Int))=!decide (m.zvs.length<=8):=by rw[<-decide_not];exact decide_eq_decide.2<|by omega
  have e2:Z (256<(m.zvq.length:Int))=!decide (m.zvq.length<=256):=by rw[<-decide_not];exact decide_eq_decide.2<|by omega
  rw[e1,e2];cases Z<|m.zvs.length<=8<;>cases zxq []<|m.zvs.map (·.name)<;>cases Z<|m.zvq.length<=256<;>simp
def zbb (hs:List Hide):Nat->Int->Int->Bool|0,a,b=>a==b|k+1,a,b=>a==b||hs.any λh=>h.table==a&&zbb hs k h.to b
def zxW (m:Model)(h:Hide):Bool:=Z (0<=h.table)&&Z (h.table<(m.tables.length:Int))&&(Z (0<=h.to)&&Z (h.to<(m.tables.length:Int)))&&h.table !=h.to&&(((idx m.tables h.table).getD J).kind==0&&((idx m.tables h.to).getD J).kind==0&&(Z (0<=h.column)&&Z (h.column<(((idx m.tables h.table).getD J).zvo.length:Int))&&((((idx m.tables h.to).getD J).zvo.length:Int)==1&&(idx ((idx m.tables h.to).getD J).zvo 0).getD J==(idx ((idx m.tables h.table).getD J).zvo h.column).getD J)))
def zlL (m:Model):Bool:=Z (m.zvD.length<=12)&&(m.zvD.all (zxW m)&&m.zvD.all λh=>!zbb m.zvD m.tables.length h.to h.table)
theorem zqv {m n self a b k}(hl:m.zvD.length<n)(hl2:m.zvD.length<1000000)(hk:k+1<1000000)(hself:∀x,self m x b (k:Int)=O (zbb m.zvD k x b)):zvt (zaV.l1 n self m a b ((k+1:Nat):Int)) n 0=O (m.zvD.any λh=>h.table==a&&zbb m.zvD k h.to b):=by
 have:=zA (body:=zaV.l1 n self m a b<|k+1) (len:=m.zvD.length) (st:=λi=>i) (g:=λi=>O<|(m.zvD.drop i).any λh=>h.table==a&&zbb m.zvD k h.to b) (λc i e f=>?_) (λc=>?_) n 0 (yn _)<|by omega
 ·simp_all
 ·have j:Z (0<k+1)=true:=by simp
  have d:zvz ((k+1:Nat)) 1=k:=by rw[zfd (by omega)<|by omega];simp
  simp only[zaV.l1,za e,grd,zd (i:=i)<|by omega];grind[zj]
 ·simp[zaV.l1]
theorem znX {m}(hl:m.zvD.length<1000000):∀(k n:Nat)(a b),k<1000000->1000000+k<n->zaV n m a b (k:Int)=O (zbb m.zvD k a b)
 |0,0,_,_,_,h=>by omega|0,n+1,a,b,_,h=>by
  simp only[zaV,zaV.body,zbb];by_cases e:a=b;·grind
  ·grind[ze2,zaV.l1]|k+1,0,_,_,_,h=>by omega|k+1,n+1,a,b,c,h=>by
  simp only[zaV,zaV.body,zbb];by_cases e:a=b;·grind
  ·rw[if_neg<|by simp_all,zqv (by omega) hl c λx=>znX hl k n x b (by omega)<|by omega];simp_all
theorem zpr {m:Model}{h:Hide}(h0:0<=h.table/\h.table<(m.tables.length:Int))(h1:0<=h.to/\h.to<(m.tables.length:Int)):∃t u,idx m.tables h.table=O t/\idx m.tables h.to=O u:=by obtain⟨t,b⟩:=zaD h0.1 h0.2;obtain⟨u,a⟩:=zaD h1.1 h1.2;simp_all
theorem zkY {n}{m}(hn:4294967296<=n)(hS:zvS m):zaI n m=O (zlL m):=by
 have hhl:=hS.zvD;have htl:=hS.tables;unfold zaI zlL;have T:zvt (zaI.l2 n m) n 0=O (m.zvD.all λh=>!zbb m.zvD m.tables.length h.to h.table):=by
  have:=zal (body:=zaI.l2 n m) (l:=m.zvD) (n:=n) (st:=λi=>(i:Int)) (λh=>!zbb m.zvD m.tables.length h.to h.table) (O M) (O U) (λrec i hi=>?_) (λrec=>?_)<|by omega
  ·grind
  ·simp only[zaI.l2,za hi,ya,znX (m:=m) (by omega) m.tables.length n m.zvD[i].to m.zvD[i].table (by omega)<|by omega,zd (i:=i)<|by omega];grind
  ·simp[zaI.l2]
 have:=zal (body:=zaI.l1 n m) (l:=m.zvD) (n:=n) (st:=λi=>(i:Int)) (zxW m) (O M) (O<|m.zvD.all λh=>!zbb m.zvD m.tables.length h.to h.table) (λrec i hi=>?_) (λrec=>?_)<|by omega
 ·grind
 ·simp only[zaI.l1,zy hi,if_true,za hi,ya,zd (i:=i)<|by omega];generalize m.zvD[i]=h;by_cases hb:((0<=h.table/\h.table<(m.tables.length:Int))/\0<=h.to/\h.to<(m.tables.length:Int))/\h.table≠h.to
  ·rw[if_neg<|by simp_all];obtain⟨t,u,ht,hu⟩:=zpr hb.1.1 hb.1.2;have hhp:zxW m h=(t.kind==0&&u.kind==0&&(Z (0<=h.column)&&Z (h.column<(t.zvo.length:Int))&&((u.zvo.length:Int)==1&&(idx u.zvo 0).getD J==(idx t.zvo h.column).getD J))):=by grind[zxW]
   simp only[ht,hu,ya];by_cases hk:(t.kind==0&&u.kind==0&&(Z (0<=h.column)&&Z (h.column<(t.zvo.length:Int))&&(u.zvo.length:Int)==1))=U
   ·have hk':=hk;simp only[yc,yf,beq_iff_eq]at hk';obtain⟨⟨k1,k2⟩,⟨k3,k4⟩,k5⟩:=hk';obtain⟨x,hx⟩:=zaD (l:=u.zvo) (i:=0) (by omega) (by omega);obtain⟨y,hy⟩:=zaD k3 k4;have n1:¬h.column<0:=by omega
    have n2:¬(t.zvo.length:Int)<=h.column:=by omega
    simp only[n1,n2,grd];simp_all
   ·have hf:(t.kind !=0||u.kind !=0||Z (h.column<0)||Z ((t.zvo.length:Int)<=h.column)||(u.zvo.length:Int)!=1)=true:=by grind
    simp only[uE,grd,if_true];simp_all
  ·have hhp:zxW m h=false:=by unfold zxW;simp_all
   simp_all
 ·simp only[zaI.l1,zaj,ye,if_false,T]
theorem zkT:∀(T:Nat)(l:List Int),l.Nodup->(∀x∈l,0<=x/\x<(T:Int))->l.length<=T
 |0,l,_,h=>by cases l with|nil=>simp|cons x l=>have:=h x (by simp);omega
 |T+1,l,a,h=>by
  by_cases c:(T:Int)∈l
  ·have d:=zkT T (l.erase T) (a.erase _) λx b=>by grind
   grind
  ·have:=zkT T l a λx b=>by grind
   omega
theorem zkC {hs}:∀{k}{a b},zbb hs k a b=U->zbb hs (k+1) a b=U
 |0,a,b,h=>by simp only[zbb]at h;simp only[zbb,h,uE]|k+1,a,b,h=>by
  rw[zbb]at h|-;simp only[yH,uo,yc]at h|-;rcases h with h|⟨x,d,e,c⟩;·grind
  ·exact .inr ⟨x,d,e,zkC c⟩
theorem zrr {hs k j a b}(h:zbb hs k a b=U)(hkj:k<=j):zbb hs j a b=true:=by
 obtain⟨d,rfl⟩:=Nat.exists_eq_add_of_le hkj;clear hkj;induction d with|zero=>exact h|succ d ih=>exact zkC ih
theorem zge {hs k a}:zbb hs k a a=true:=by cases k<;>simp[zbb]
theorem zkD {hs h}(hh:h∈hs):∀{k}{a},zbb hs k a h.table=U->zbb hs (k+1) a h.to=U
 |0,a,e=>by
  simp only[zbb]at e;simp only[zbb];grind|k+1,a,e=>by
  rw[zbb]at e|-;simp only[yH,uo,yc]at e|-;rcases e with e|⟨x,c,d,b⟩;·grind[zge]
  ·exact .inr ⟨x,c,d,zkD hh b⟩
def zyx (f:Int->Hide)(s:Int):Nat->Int|0=>s|k+1=>(f<|zyx f s k).to
theorem zuq {hs}{T:Nat}{S}(hS:S≠[])(hb:∀t∈S,0<=t/\t<(T:Int))(hac:∀h∈hs,zbb hs T h.to h.table=M):∃t∈S,∀h∈hs,¬(h.table=t/\h.to∈S):=by
 apply xF;intro hno;have hedge:∀t,t∈S->∃h,h∈hs/\h.table=t/\h.to∈S:=λt ht=>by apply xF;intro hn;exact hno ⟨t,ht,λh hh he=>hn ⟨h,hh,he.1,he.2⟩⟩
 obtain⟨s,hs0⟩:∃s,s∈S:=by cases S with
  |nil=>exact absurd rfl hS|cons x l=>exact⟨x,by simp⟩
 obtain⟨f,hf⟩:∃f:Int->Hide,∀t,t∈S->f t∈hs/\(f t).table=t/\(f t).to∈S:=by refine⟨λt=>if ht:t∈S then Classical.choose<|hedge t ht else J,λt ht=>?_⟩;simp only[ht,dite_true];exact Classical.choose_spec<|hedge t ht
 have hw:∀k,zyx f s k∈S:=λk=>by induction k with
  |zero=>exact hs0|succ k ih=>exact(hf _ ih).2.2
 have hlead:∀d i,zbb hs d (zyx f s i) (zyx f s<|i+d)=true:=λd=>by induction d with|zero=>intro i;exact zge|succ d ih=>intro i;simp only[zbb,yH,uo,yc,beq_iff_eq];refine .inr ⟨f<|zyx f s i,(hf _<|hw i).1,(hf _<|hw i).2.1,?_⟩;have:=ih<|i+1;rw[show i+1+d=i+(d+1)by omega]at this;exact this
 have hne:∀i j,i<j->j<=T->zyx f s i≠zyx f s j:=λi j hij hj e=>by have h1:=hlead (j-i-1)<|i+1;rw[show i+1+(j-i-1)=j by omega,<-e]at h1;have h2:=hac _ (hf _<|hw i).1;rw[(hf _<|hw i).2.1]at h2;have h3:zbb hs T (f<|zyx f s i).to (zyx f s i)=true:=zrr h1 (by omega);rw[h3]at h2;cases h2
 have hlen:=zkT T ((xm<|T+1).map<|zyx f s) (by rw[List.Nodup,List.pairwise_map];exact wv (λ{a b}_ hb hab=>hne a b hab<|by have:=yX.1 hb;omega) List.pairwise_lt_range) λx hx=>by simp only[yY]at hx;obtain⟨k,-,rfl⟩:=hx;exact hb _<|hw k
 simp at hlen;omega
def zcv (m:GMap Int Bool):List Int:=m.es.map λe=>e.2.1
structure WfM (m:GMap Int Bool):Prop where
 tru:∀e∈m.es,e.2.2=U
 nd:(m.es.map (·.1)).Nodup
 lt:∀e∈m.es,e.1<m.clock
theorem WfM.get {m}(h:WfM m)(k):(m.get? k).getD M=Z (k∈zcv m):=by unfold GMap.get?;rw[zkx k m.es h.tru];rfl
theorem WfM.empty:WfM (wl:GMap Int Bool):=⟨λe a=>by grind[wl],by simp[wl],λe a=>by grind[wl]⟩
theorem zpi (k):∀(es:List<|Nat×Int×Bool)(p),zwr k es=O p->∃h:p.1<es.length,es[p.1].2.1=k
 |[],_,h=>by grind[zwr]|e::es,p,h=>by
  simp only[zwr]at h;split at h;·grind
  ·simp only[Option.map_eq_some_iff]at h;obtain⟨q,a,rfl⟩:=h;obtain⟨c,b⟩:=zpi k es q a;grind
theorem zis (f)(hf:∀e,(f e).1=e.1):∀(es:List<|Nat×Int×Bool)(i),(es.modify i f).map (·.1)=es.map (·.1)|[],_=>by simp|e::es,0=>by simp[hf]|e::es,i+1=>by simp[zis f hf es i]
theorem WfM.put {m}(h:WfM m)(k):WfM (m.put k U)/\(m.put k U).es.length<=m.es.length+1/\∀t,t∈zcv (m.put k U)↔t∈zcv m\/t=k:=by unfold GMap.put zcv;cases l:zwr k m.es with
 |none=>
  refine⟨⟨λe c=>?_,?_,λe c=>?_⟩,by simp,λt=>by simp⟩
  ·simp only[yv,yN]at c;rcases c with c|rfl;·exact h.tru e c
   ·rfl
  ·simp only[ur,yU,wB];rw[uT];refine⟨h.nd,by simp,λa f b d=>?_⟩;simp only[yN]at d;simp only[yY]at f;obtain⟨e,c,rfl⟩:=f;have:=h.lt e c;omega
  ·simp only[yv,yN]at c;rcases c with c|rfl
   ·have:=h.lt e c;grind
   ·simp|some p=>
  obtain⟨i,b⟩:=p;have d:=zis (λe=>(e.1,e.2.1,U)) (λe=>rfl) m.es i;refine⟨⟨zjh (p:=λe=>e.2.2=U) _ (λe=>rfl) m.es i h.tru,by rw[d];exact h.nd,λe c=>?_⟩,by simp,λt=>?_⟩
  ·have:e.1∈m.es.map (·.1):=by grind
   simp only[yY]at this;obtain⟨x,j,n⟩:=this;have:=h.lt x j;grind
  ·rw[zhP (λe=>(e.1,e.2.1,U)) (λe=>rfl) m.es i];constructor;·grind
   ·rintro(g|rfl);·exact g
    grind[zky]
theorem WfM.del {m}(h:WfM m){e}(he:e∈m.es):WfM (m.del e.2.1)/\(m.del e.2.1).clock=m.clock/\(m.del e.2.1).es.length+1=m.es.length/\(m.del e.2.1).es.Sublist m.es/\∀t,t∈zcv m->t≠e.2.1->t∈zcv (m.del e.2.1):=by unfold GMap.del zcv;cases g:zwr e.2.1 m.es with
 |none=>exact absurd (List.mem_map_of_mem (f:=λe=>e.2.1) he)<|zpj _ m.es g|some p=>
  obtain⟨i,b⟩:=p;obtain⟨l,d⟩:=zpi _ m.es _ g;simp only[]at l d|-;have a:=List.eraseIdx_sublist m.es i;refine⟨⟨λx c=>h.tru x<|a.subset c,(a.map _).nodup h.nd,λx c=>h.lt x<|a.subset c⟩,trivial,?_,a,λt k n=>?_⟩;·grind
  ·simp only[yY]at k|-;obtain⟨x,c,rfl⟩:=k;obtain⟨j,o,rfl⟩:=List.mem_iff_getElem.1 c;refine⟨_,?_,rfl⟩;rw[List.mem_eraseIdx_iff_getElem];grind
theorem znC {m m':GMap Int Bool}{seen}{e}(he:e∈m.left seen)(hs:m'.es.Sublist m.es):(m'.left<|seen++[e.1]).length<(m.left seen).length:=by
 unfold GMap.left at he|-;have b:(m.es.filter λx=>!(seen++[e.1]).contains x.1)=(m.es.filter λx=>!seen.contains x.1).filter λx=>! x.1==e.1:=by
  rw[List.filter_filter];congr 1;funext x;simp;grind
 have a:((m.es.filter λx=>!seen.contains x.1).filter λx=>! x.1==e.1).length<(m.es.filter λx=>!seen.contains x.1).length:=List.length_filter_lt_length_iff_exists.2 ⟨e,he,by simp⟩;grind
theorem zjG {n}{j}{m0}{i}{rec}{r}(hn:1000000<=n)(hh:j.model.zvD.length<1000000)(xf:GMap Int Bool->List Nat->Prop)(hwf:∀m seen,xf m seen->WfM m/\m.clock=m0.clock)(hover:∀m seen,xf m seen->m.left seen=[]->rec (m,zvp i 1)=O r)(hstep:∀m seen e,xf m seen->e∈m.left seen->xf (if(j.model.zvD.any λh=>h.table==e.2.1&&Z (h.to∈zcv m))=U then m else m.del e.2.1) (seen++[e.1]))(h0:xf m0 [])(hl:m0.es.length<1000000):zvt (zh.l4 n j m0 i rec) n (m0,[],m0.clock)=O r:=by
 refine zdz (body:=zh.l4 n j m0 i rec) (λs=>(s.1.left s.2.1).length) (λs=>xf s.1 s.2.1/\s.2.2=m0.clock) (λ_ o=>o=O r) (λrec' s hI hr=>?_) n _ ⟨h0,rfl⟩ ?_
 ·obtain⟨m,seen,last⟩:=s;obtain⟨hJ,hlast⟩:=hI;simp only[]at hJ hlast hr;subst hlast;obtain⟨hw,hc⟩:=hwf m seen hJ;simp only[zh.l4,stepM];have hold:m.old m0.clock m0.clock=true:=by simp only[GMap.old,yc,yo,yf];exact⟨λe he=>by have:=hw.lt e he;omega,ym _⟩
  rw[hold];unfold grd;rw[if_pos rfl];cases hleft:m.left seen with
  |nil=>grind|cons x l=>
   rw[<-hleft,if_neg<|by grind];refine zmi (by rw[hleft];simp) λe he=>?_;have hem:e∈m.es:=(List.mem_filter.1 he).1;rw[if_pos<|by simpa using hw.nd,zel (p:=λh=>h.table==e.2.1&&Z (h.to∈zcv m)) (λh _=>by unfold zdk;rw[hw.get]) hh hn,ya];have hst:=hstep m seen e hJ he;cases hb:j.model.zvD.any λh=>h.table==e.2.1&&Z (h.to∈zcv m)with
   |true=>
    rw[hb]at hst;rw[if_neg<|by simp];grind[seen,znC]|false=>rw[hb]at hst;rw[if_pos<|by simp];exact hr (m.del e.2.1,seen++[e.1],m.clock) ⟨hst,hc⟩<|znC he (hw.del hem).2.2.2.1
 ·have:(m0.left []).length<=m0.es.length:=List.length_filter_le _ _;simp only[];omega
theorem ziu {α β:Type}{f:α->β}:∀{l:List α},(l.map f).Nodup->∀x∈l,∀y∈l,f x=f y->x=y
 |[],_,x,b,_,_,_=>by grind|a::l,h,x,b,y,c,e=>by
  simp only[yU,List.nodup_cons]at h;simp only[yE]at b c;rcases b with rfl|b<;>rcases c with rfl|c;·rfl
  ·grind
  ·grind
  ·exact ziu h.2 x b y c e
theorem zmz {n}{j}{m}(hn:1000000<=n)(hh:j.model.zvD.length<=1000)(hok:∀h∈j.model.zvD,0<=h.table/\h.table<(j.model.tables.length:Int))(hw:WfM m)(hlen:m.es.length<=j.model.zvD.length)(hk:∀t,t∈zcv m↔∃h∈j.model.zvD,h.table=t):zvt (zh.l3 n j) n (m,0)=O (j.model.zvD.all λh=>!zbb j.model.zvD j.model.tables.length h.to h.table):=by cases hac:j.model.zvD.all λh=>!zbb j.model.zvD j.model.tables.length h.to h.table with
 |true=>
  have hac':∀h∈j.model.zvD,zbb j.model.zvD j.model.tables.length h.to h.table=false:=λh hm=>by grind
  have hrange:∀m':GMap Int Bool,(∀t∈zcv m',∃h∈j.model.zvD,h.table=t)->m'.es≠[]->∃e∈m'.es,∀h∈j.model.zvD,¬(h.table=e.2.1/\h.to∈zcv m'):=λm' hm' hne=>by
   obtain⟨t,ht,hs⟩:=zuq (hs:=j.model.zvD) (T:=j.model.tables.length) (S:=zcv m') (by simpa[zcv]using hne) (λt ht=>by grind) hac';simp only[zcv,yY]at ht;grind
  refine za4 (body:=zh.l3 n j) (len:=j.model.zvD.length) (st:=λm i=>(m,(i:Int))) (g:=λ_ _=>O U) (λi m=>WfM m/\m.es.length+i<=j.model.zvD.length/\∀t∈zcv m,∃h∈j.model.zvD,h.table=t) (λrec i m hi hI hr=>?_) (λrec m hI=>?_) n 0 m (yn _) (by omega) ⟨hw,by omega,λt ht=>(hk t).1 ht⟩
  ·obtain⟨h1,h2,h3⟩:=hI;simp only[zh.l3,zy hi,if_true];refine zjG (r:=U) (by omega) (by omega) (λm' seen=>(WfM m'/\m'.clock=m.clock/\∀t∈zcv m',∃h∈j.model.zvD,h.table=t)/\(m'.es.length+i+1<=j.model.zvD.length\/m'.es.length+i<=j.model.zvD.length/\∃e∈m'.left seen,∀h∈j.model.zvD,¬(h.table=e.2.1/\h.to∈zcv m'))) (λm' seen hJ=>⟨hJ.1.1,hJ.1.2.1⟩) (λm' seen hJ hl=>?_) (λm' seen e hJ he=>?_) ⟨⟨h1,rfl,h3⟩,?_⟩<|by omega
   ·rw[zd<|by omega];refine hr m' ⟨hJ.1.1,?_,hJ.1.2.2⟩;rcases hJ.2 with h|⟨-,e,he,-⟩;·omega
    grind
   ·obtain⟨⟨w1,w2,w3⟩,hd⟩:=hJ;have hem:e∈m'.es:=(List.mem_filter.1 he).1;obtain⟨d1,d2,d3,d4,-⟩:=w1.del hem;cases hb:j.model.zvD.any λh=>h.table==e.2.1&&Z (h.to∈zcv m')with
    |true=>
     rw[if_pos rfl];refine⟨⟨w1,w2,w3⟩,?_⟩;rcases hd with hd|⟨hd,x,hx,hs⟩;·exact .inl hd
     ·refine .inr ⟨hd,x,?_,hs⟩;simp only[GMap.left,List.mem_filter]at hx|-;refine⟨hx.1,?_⟩;have hne:x.1≠e.1:=λe1=>by have:x=e:=ziu w1.nd x hx.1 e hem e1;subst this;simp only[uo,yc,beq_iff_eq,yf]at hb;obtain⟨h,hh,q⟩:=hb;exact hs h hh q
      simp only[yD,List.contains_eq_mem,yK,yv,yN,not_or]at hx|-;exact⟨hx.2,hne⟩|false=>
     rw[if_neg<|by simp];refine⟨⟨d1,by omega,λt ht=>?_⟩,.inl ?_⟩;·refine w3 t ?_;simp only[zcv,yY]at ht|-;obtain⟨x,hx,rfl⟩:=ht;exact⟨x,d4.subset hx,rfl⟩
     ·rcases hd with hd|⟨hd,-⟩<;>omega
   ·by_cases hne:m.es=[];·left;rw[hne];simp;omega
    ·right;refine⟨h2,?_⟩;obtain⟨e,he,hs⟩:=hrange m h3 hne;exact⟨e,by simp[GMap.left,he],hs⟩
  ·have:m.es.length=0:=by omega
   simp[zh.l3,this]|false=>
  obtain⟨h0,hm0,hl0⟩:∃h∈j.model.zvD,zbb j.model.zvD j.model.tables.length h.to h.table=true:=by simp only[List.all_eq_false]at hac;obtain⟨h,hm,hx⟩:=hac;exact⟨h,hm,by simpa using hx⟩
  have hclosed:∀t,((∃k,zbb j.model.zvD k h0.to t=U)/\∃k,zbb j.model.zvD k t h0.table=U)->∃h∈j.model.zvD,h.table=t/\(∃k,zbb j.model.zvD k h0.to h.to=U)/\∃k,zbb j.model.zvD k h.to h0.table=U:=by
   rintro t⟨⟨a,ha⟩,b,hb⟩;have hcase:t=h0.table\/∃h∈j.model.zvD,h.table=t/\∃k,zbb j.model.zvD k h.to h0.table=true:=by cases b with
    |zero=>left;simpa[zbb]using hb|succ b=>
     simp only[zbb,yH,beq_iff_eq,uo,yc]at hb;rcases hb with hb|⟨h,hm,e,hx⟩;·exact .inl hb
     ·exact .inr ⟨h,hm,e,b,hx⟩
   rcases hcase with rfl|⟨h,hm,rfl,k,hx⟩;·exact⟨h0,hm0,rfl,⟨0,zge⟩,_,hl0⟩
   ·exact⟨h,hm,rfl,⟨_,zkD hm ha⟩,k,hx⟩
  generalize hC:(λt=>(∃k,zbb j.model.zvD k h0.to t=U)/\∃k,zbb j.model.zvD k t h0.table=U)=C at*;have hC':∀t,C t->∃h∈j.model.zvD,h.table=t/\C h.to:=by intro t ht;rw[<-hC]at ht|-;exact hclosed t ht
  have hCs:C h0.to:=by rw[<-hC];exact⟨⟨0,zge⟩,_,hl0⟩
  refine za4 (body:=zh.l3 n j) (len:=j.model.zvD.length) (st:=λm i=>(m,(i:Int))) (g:=λ_ _=>O M) (λi m=>WfM m/\m.es.length<=1000/\∀t,C t->t∈zcv m) (λrec i m hi hI hr=>?_) (λrec m hI=>?_) n 0 m (yn _) (by omega) ⟨hw,by omega,λt ht=>(hk t).2<|by obtain⟨h,hh,e,-⟩:=hC' t ht;exact⟨h,hh,e⟩⟩
  ·obtain⟨h1,h2,h3⟩:=hI;simp only[zh.l3,zy hi,if_true];refine zjG (r:=M) (by omega) (by omega) (λm' seen=>WfM m'/\m'.clock=m.clock/\m'.es.length<=1000/\∀t,C t->t∈zcv m') (λm' seen hJ=>⟨hJ.1,hJ.2.1⟩) (λm' seen hJ hl=>?_) (λm' seen e hJ he=>?_) ⟨h1,rfl,h2,h3⟩<|by omega
   ·rw[zd<|by omega];exact hr m' ⟨hJ.1,hJ.2.2⟩
   ·obtain⟨w1,w2,w3,w4⟩:=hJ;have hem:e∈m'.es:=(List.mem_filter.1 he).1;obtain⟨d1,d2,d3,-,d5⟩:=w1.del hem;cases hb:j.model.zvD.any λh=>h.table==e.2.1&&Z (h.to∈zcv m')with|true=>rw[if_pos rfl];exact⟨w1,w2,w3,w4⟩|false=>rw[if_neg<|by simp];refine⟨d1,by omega,by omega,λt ht=>d5 t (w4 t ht) λe1=>?_⟩;obtain⟨h,hh,hht,hto⟩:=hC' t ht;have:=List.any_eq_false.1 hb h hh;apply this;simp only[yc,beq_iff_eq,yf];exact⟨by omega,w4 _ hto⟩
  ·obtain⟨-,-,h3⟩:=hI;have:=h3 _ hCs;have hne:m.es.length≠0:=λe=>by simp only[zcv,List.length_eq_zero_iff.1 e,wB,vE]at this
   simp only[zh.l3,zaj,ye,if_false,yp,uu];omega
theorem zkP {n m l}(hn:1000000<=n)(hS:zvS m):zh n ⟨m,l⟩=O (zlL m):=by
 have hhl:=hS.zvD;have htl:=hS.tables;unfold zh zlL;rw[if_neg<|by grind,decide_eq_true hhl,yz];have:=zal (body:=zh.l1 n ⟨m,l⟩) (l:=m.zvD) (n:=n) (st:=λi=>(i:Int)) (zxW m) (O M) (zvt (zh.l2 n ⟨m,l⟩) n (wl,0)) (λrec i hi=>?_) (λrec=>?_)<|by omega
 ·simp only[we]at this;rw[this];cases hall:m.zvD.all<|zxW m with|false=>simp|true=>
   rw[if_pos rfl,yz];have hok:∀h∈m.zvD,0<=h.table/\h.table<(m.tables.length:Int):=λh hm=>by
    have:=yo.1 hall h hm;simp only[zxW,yc,yf]at this;grind
   refine za4 (body:=zh.l2 n ⟨m,l⟩) (len:=m.zvD.length) (st:=λg i=>(g,(i:Int))) (g:=λ_ _=>O<|m.zvD.all λh=>!zbb m.zvD m.tables.length h.to h.table) (λi g=>WfM g/\g.es.length<=i/\∀t,t∈zcv g↔∃h∈m.zvD.take i,h.table=t) (λrec i g hi hI hr=>?_) (λrec g hI=>?_) n 0 wl (yn _) (by omega) ⟨WfM.empty,by simp[wl],λt=>by simp[zcv,wl]⟩
   ·obtain⟨h1,h2,h3⟩:=hI;obtain⟨p1,p2,p3⟩:=h1.put m.zvD[i].table;simp only[zh.l2,zy hi,if_true,za hi,ya,zd (i:=i)<|by omega];refine hr _ ⟨p1,by omega,λt=>?_⟩;rw[p3,h3,yu hi];grind
   ·obtain⟨h1,h2,h3⟩:=hI;simp only[zh.l2,zaj,ye,if_false];grind[zmz,wo]
 ·simp only[zh.l1,zaJ,zy hi,if_true,za hi,ya,yq,yw,yi,zd (i:=i)<|by omega];generalize m.zvD[i]=h;by_cases hb:((0<=h.table/\h.table<(m.tables.length:Int))/\0<=h.to/\h.to<(m.tables.length:Int))/\h.table≠h.to
  ·simp only[grd,if_true];rw[if_neg<|by simp[hb]];obtain⟨t,u,ht,hu⟩:=zpr hb.1.1 hb.1.2;have hhp:zxW m h=(t.kind==0&&u.kind==0&&(Z (0<=h.column)&&Z (h.column<(t.zvo.length:Int))&&((u.zvo.length:Int)==1&&(idx u.zvo 0).getD J==(idx t.zvo h.column).getD J))):=by unfold zxW;rw[ht,hu];simp[hb]
   simp only[ht,hu,ya];rw[hhp];by_cases hk:(t.kind==0&&u.kind==0&&(Z (0<=h.column)&&Z (h.column<(t.zvo.length:Int))&&(u.zvo.length:Int)==1))=U
   ·have hk':=hk;simp only[yc,yf,beq_iff_eq]at hk';obtain⟨⟨k1,k2⟩,⟨k3,k4⟩,k5⟩:=hk';obtain⟨x,hx⟩:=zaD (l:=u.zvo) (i:=0) (by omega) (by omega);obtain⟨y,hy⟩:=zaD k3 k4;simp only[k1,k2,k3,k4,k5,hx,hy,yi,decide_true,beq_self_eq_true,bne_self_eq_false,yq,yw,Bool.or_false,yz,uW,uk,if_true];by_cases hxy:x=y;·simp[hxy]
    ·simp[hxy]
   ·have hf:(t.kind !=0||u.kind !=0||!(Z (0<=h.column)&&Z (h.column<(t.zvo.length:Int)))||(u.zvo.length:Int)!=1)=true:=by simp only[yc,yf,beq_iff_eq]at hk;simp only[yH,bne_iff_ne,yD,uF,yK];omega
    simp only[hf,uE,if_true];rw[<-Bool.and_assoc<|Z (0<=h.column)&&Z (h.column<(t.zvo.length:Int)),<-Bool.and_assoc];simp only[yP]at hk;rw[hk];rfl
  ·have hhp:zxW m h=false:=by unfold zxW;cases hx:Z (0<=h.table)&&Z (h.table<(m.tables.length:Int))&&(Z (0<=h.to)&&Z (h.to<(m.tables.length:Int)))&&h.table !=h.to with|false=>rfl|true=>simp only[yc,yf,bne_iff_ne]at hx;exact absurd hx hb
   rw[hhp];simp only[grd,if_true];rw[if_pos<|by simp only[yH,yD,uF,yK,beq_iff_eq];omega];rfl
 ·simp[zh.l1]
def zd2 (m:Model):Bool:=za3 m.zvu m.tables&&(Z (m.zvC.length<=24)&&zxq [] m.zvC)&&(zyY m (zI m.zvu U m.tables)&&(opsP m&&(zyV m (zI m.zvu U m.tables).length&&zlL m)))
theorem zhu {n m}(hF:Fuel n)(hS:zvS m):ze4 n m=O (zd2 m):=by
 have u:=hF.big;have r:=hS.zvu;have d:=hS.tables;have q:=hS.zvC;have a:∀t∈m.tables,t.zvo.length<=1000:=λt h=>by have:=hS.tab t h;omega
 unfold ze4 zd2;rw[zfz hF (by omega) (by omega) a,zfU hF<|by omega];simp only[ya,yq,yw,grd,if_true];have g:Z (24<(m.zvC.length:Int))=!decide (m.zvC.length<=24):=by grind
 rw[g];cases c:za3 m.zvu m.tables with
 |false=>simp|true=>
  by_cases b:(Z (m.zvC.length<=24)&&zxq [] m.zvC)=U
  ·simp only[yc]at b;rw[b.1,b.2,if_neg<|by simp,zgz hF (by omega) (by omega) a,c];simp only[if_true,ya];obtain⟨k,o,p,e⟩:=zbK c;have f:=zc4 (sizes:=m.zvu) (s:=U) (l:=m.tables) λx i=>(e x i).2.2.2.2;rw[zhl hS (λt d=>(e t d).2.2.2.1) (by omega)<|by omega,zhO hF hS,zkP (by omega) hS];simp only[yi];cases zyY m<|zI m.zvu U m.tables with
   |false=>simp|true=>cases j:opsP m with|false=>simp|true=>grind[zjV]
  grind
theorem zhz {n m}(hn:4294967296<=n)(hS:zvS m):ze9 n m=O (zd2 m):=by
 have f:=hS.zvu;have g:=hS.tables;have i:=hS.zvC;have b:∀t∈m.tables,t.zvo.length<=1000/\t.name.length<=4096:=λt h=>by have:=hS.tab t h;omega
 unfold ze9 zd2;rw[zfD (by omega) (by omega) (by omega) b,zfZ (by omega) (by omega) λw d=>by have:=hS.fam w d;omega];simp only[ya,yq,yw,grd,if_true];have e:Z (24<(m.zvC.length:Int))=!decide (m.zvC.length<=24):=by grind
 rw[e];cases c:za3 m.zvu m.tables with
 |false=>simp|true=>
  by_cases a:(Z (m.zvC.length<=24)&&zxq [] m.zvC)=U
  ·simp only[yc]at a;rw[a.1,a.2,if_neg<|by simp,zhm hS c<|by omega,zjX (by omega) hS c,zkY hn hS];grind
  grind
def zz4 (m:Model):Bool:=Z (8<(m.zvu.length:Int))||Z (6<(m.tables.length:Int))||Z (20<(m.zvC.length:Int))||Z (60<(m.constraints.length:Int))||Z (8<(m.zvs.length:Int))||Z (30<(m.zvq.length:Int))||Z (12<(m.zvD.length:Int))
def tabF (t:Table):Bool:=Z (t.name.length<=40)&&Z (t.zvo.length<=12)
def opF (o:zvX):Bool:=Z (o.name.length<=40)&&Z (o.zvu.length<=6)
def actF (a:Action):Bool:=Z (a.arguments.length<=6)&&Z (a.effect.delta.length<=20)&&(Z (a.effect.hold.length<=10)&&Z (a.effect.zvw.length<=40))&&a.effect.hold.all λr=>Z<|r.zvr.length<=20
def zg9 (m:Model):Bool:=!zz4 m&&(m.tables.all tabF&&(m.zvC.all (λs=>Z<|s.length<=40)&&(m.constraints.all (λc=>Z<|c.row.zvr.length<=20)&&(m.zvs.all opF&&m.zvq.all actF))))
theorem znJ {a b:Nat}:Z ((a:Int)<(b:Int))=!decide (b<=a):=by grind
theorem zjW {n}{m}(hn:1000000<=n):zw n m=O (zg9 m):=by unfold zw zg9;have hl:(Z (8<(m.zvu.length:Int))||Z (6<(m.tables.length:Int))||Z (20<(m.zvC.length:Int))||Z (60<(m.constraints.length:Int))||Z (8<(m.zvs.length:Int))||Z (30<(m.zvq.length:Int))||Z (12<(m.zvD.length:Int)))=zz4 m:=rfl;rw[hl];cases hlen:zz4 m with|true=>simp[grd]|false=>
  simp only[zz4,uc,yK]at hlen;obtain⟨⟨⟨⟨⟨⟨b1,b2⟩,b3⟩,b4⟩,b5⟩,b6⟩,b7⟩:=hlen;have hfew:zdo n m.zvu m.tables=O (m.tables.all tabF):=by
   have:=zal (body:=zdo.l1 n m.zvu m.tables) (l:=m.tables) (n:=n) (st:=λi=>(i:Int)) tabF (O M) (O U) (λrec i hi=>?_) (λrec=>?_)<|by omega
   ·grind[we,zdo,tabF]
   ·simp only[zdo.l1,zy hi,if_true,za hi,ya,yq,yw,grd,yi,zd (i:=i)<|by omega];unfold tabF;grind
   grind[zdo.l1]
  rw[hfew];simp only[yq,yw,grd,if_true,yi,uD,ut,yz];cases m.tables.all tabF with
  |false=>simp|true=>
   rw[if_neg<|by simp,yz];have h4:zvt (zw.l4 n m) n 0=O (m.zvq.all actF):=by
    have:=zal (body:=zw.l4 n m) (l:=m.zvq) (n:=n) (st:=λi=>(i:Int)) actF (O M) (O U) (λrec i hi=>?_) (λrec=>?_)<|by omega
    ·simp only[we]at this;rw[this];cases m.zvq.all actF<;>rfl
    ·simp only[zw.l4,zy hi,if_true,za hi,ya];unfold actF;by_cases hx:(Z (m.zvq[i].arguments.length<=6)&&Z (m.zvq[i].effect.delta.length<=20)&&(Z (m.zvq[i].effect.hold.length<=10)&&Z (m.zvq[i].effect.zvw.length<=40)))=U
     ·rw[hx,yz];simp only[yc,yf]at hx;rw[if_neg<|by simp;omega];have:=zal (body:=zw.l5 n i rec m.zvq[i]) (l:=m.zvq[i].effect.hold) (n:=n) (st:=λk=>(k:Int)) (λr=>Z<|r.zvr.length<=20) (O M) (rec ((i+1:Nat):Int)) (λrec' k hk=>?_) (λrec'=>?_)<|by omega
      ·simpa using this
      ·simp only[zw.l5,zy hk,if_true,za hk,ya,zd (i:=k)<|by omega];by_cases h:m.zvq[i].effect.hold[k].zvr.length<=20;·rw[if_neg<|by simp;omega,if_pos<|by simp[h]]
       ·rw[if_pos<|by simp;omega,if_neg<|by simp[h]]
      ·simp only[zw.l5,zaj,ye,if_false,zd (i:=i)<|by omega]
     ·rw[if_pos<|by simp only[yc,yf]at hx;simp only[yH,yf];omega];simp only[yP]at hx;rw[hx,ue,if_neg<|by simp]
    ·simp[zw.l4]
   have h3:zvt (zw.l3 n m) n 0=O (m.zvs.all opF&&m.zvq.all actF):=by
    have:=zal (body:=zw.l3 n m) (l:=m.zvs) (n:=n) (st:=λi=>(i:Int)) opF (O M) (O<|m.zvq.all actF) (λrec i hi=>?_) (λrec=>?_)<|by omega
    ·simp only[we]at this;rw[this];cases m.zvs.all opF<;>rfl
    ·simp only[zw.l3,zy hi,if_true,za hi,ya,yq,yw,grd,yi,zd (i:=i)<|by omega];unfold opF;by_cases h1:m.zvs[i].name.length<=40
     ·by_cases h2:m.zvs[i].zvu.length<=6;·rw[if_neg<|by simp;omega,if_pos<|by simp[h1,h2]]
      ·rw[if_pos<|by simp;omega,if_neg<|by simp[h2]]
     ·rw[if_pos<|by simp;omega,if_neg<|by simp[h1]]
    ·simp only[zw.l3,zaj,ye,if_false,h4]
   have h2:zvt (zw.l2 n m) n 0=O (m.constraints.all (λc=>Z<|c.row.zvr.length<=20)&&(m.zvs.all opF&&m.zvq.all actF)):=by
    have:=zal (body:=zw.l2 n m) (l:=m.constraints) (n:=n) (st:=λi=>(i:Int)) (λc=>Z<|c.row.zvr.length<=20) (O M) (O<|m.zvs.all opF&&m.zvq.all actF) (λrec i hi=>?_) (λrec=>?_)<|by omega
    ·simp only[we]at this;rw[this];cases m.constraints.all λc=>Z<|c.row.zvr.length<=20<;>rfl
    ·simp only[zw.l2,zy hi,if_true,za hi,ya,zd (i:=i)<|by omega];by_cases h:m.constraints[i].row.zvr.length<=20;·rw[if_neg<|by simp;omega,if_pos<|by simp[h]]
     ·rw[if_pos<|by simp;omega,if_neg<|by simp[h]]
    ·simp only[zw.l2,zaj,ye,if_false,h3]
   have:=zal (body:=zw.l1 n m) (l:=m.zvC) (n:=n) (st:=λi=>(i:Int)) (λs=>Z<|s.length<=40) (O M) (O<|m.constraints.all (λc=>Z<|c.row.zvr.length<=20)&&(m.zvs.all opF&&m.zvq.all actF)) (λrec i hi=>?_) (λrec=>?_)<|by omega
   ·simp only[we]at this;rw[this];cases m.zvC.all λs=>Z<|s.length<=40<;>rfl
   ·simp only[zw.l1,zy hi,if_true,za hi,ya,zd (i:=i)<|by omega];by_cases h:m.zvC[i].length<=40;·rw[if_neg<|by simp;omega,if_pos<|by simp[h]]
    ·rw[if_pos<|by simp;omega,if_neg<|by simp[h]]
   ·simp only[zw.l1,zaj,ye,if_false,h2]
theorem zhq {m}(h:zg9 m=U):zvS m:=by simp only[zg9,zz4,tabF,opF,actF,yc,yD,uc,yK,yo,yf]at h;obtain⟨⟨⟨⟨⟨⟨⟨j,k⟩,l⟩,n⟩,g⟩,b6⟩,i⟩,c,d,b,e,o⟩:=h;exact⟨by omega,by omega,c,by omega,d,by omega,b,by omega,e,by omega,λa f=>by grind,by omega⟩
def zzi:Int->List Range->Bool|_,[]=>U|p,r::l=>!decide (4096<zvA p (zvp (zvz r.hi r.lo) 1))&&zzi (zvA p<|zvp (zvz r.hi r.lo) 1) l
def zdC (m:Model):List Range:=if za3 m.zvu m.tables=U then zI m.zvu U m.tables else[]
def fewP (m:Model):Bool:=zg9 m&&Z (m.zvq.length<=12)&&Z (m.constraints.length<=40)&&(m.zvq.all (λa=>Z<|a.effect.hold.length<=4)&&(Z ((zdC m).length<=12)&&zzi 1 (zdC m)))
theorem zkZ {n}{m}(hn:1000000<=n)(hS:zvS m):zcC n m=O (zdC m):=by have b:=hS.zvu;have a:=hS.tables;unfold zcC;rw[ze6 hn (by omega) (by omega) λt h=>by have:=hS.tab t h;omega];rfl
theorem znQ {n}{m}(hn:1000000<=n):zb1 n m=O (fewP m):=by unfold zb1 fewP;rw[zjW hn,ya];have f:Z (12<(m.zvq.length:Int))=!decide (m.zvq.length<=12):=znJ (a:=12);have j:Z (40<(m.constraints.length:Int))=!decide (m.constraints.length<=40):=znJ (a:=40);rw[f,j,<-Bool.not_and,<-Bool.not_and];cases d:zg9 m&&Z (m.zvq.length<=12)&&Z (m.constraints.length<=40)with
 |false=>simp|true=>
  simp only[yc,yf]at d;have e:=zhq d.1.1;have T:(if Z (12<((zdC m).length:Int))=U then O M else zvt (zb1.l2 n<|zdC m) n (1,0))=O (Z ((zdC m).length<=12)&&zzi 1 (zdC m)):=by
   by_cases h:(zdC m).length<=12
   ·rw[if_neg<|by grind,decide_eq_true h,yz];refine za4 (body:=zb1.l2 n<|zdC m) (len:=(zdC m).length) (st:=λp i=>(p,i)) (g:=λi p=>O<|zzi p<|(zdC m).drop i) (λ_ _=>True) (λb i p c _ k=>?_) (λb p _=>?_) n 0 1 (yn _) (by omega) trivial
    ·simp only[zb1.l2,za c,zd (i:=i)<|by omega];grind[zj,zzi]
    ·simp[zb1.l2,zzi]
   grind
  have:=zal (body:=zb1.l1 n m) (l:=m.zvq) (n:=n) (st:=λi=>i) (λa=>Z<|a.effect.hold.length<=4) (O M) (O<|Z ((zdC m).length<=12)&&zzi 1 (zdC m)) (λb i c=>?_) (λb=>?_)<|by omega
  ·grind
  ·simp only[zb1.l1,za c,zd (i:=i)<|by omega];grind
  ·simp only[zb1.l1,zaj,ye,if_false,zkZ hn e,ya,T]
theorem zi7 {m}(h:fewP m=U):zvS m:=by
 simp only[fewP]at h;grind[zhq]
structure zwn (m:Model):Prop where
 lay:za3 m.zvu m.tables=U
 fams:m.zvC.length<=24/\zxq [] m.zvC=U
 cons:zyY m (zI m.zvu U m.tables)=U
 ops:opsP m=U
 acts:zyV m (zI m.zvu U m.tables).length=U
 hid:zlL m=U
theorem zdg {m}:zd2 m=U↔zwn m:=by simp only[zd2,yc,yf];exact⟨λ⟨⟨a,b,c⟩,d,e,f,g⟩=>⟨a,⟨b,c⟩,d,e,f,g⟩,λ⟨a,⟨b,c⟩,d,e,f,g⟩=>⟨⟨a,b,c⟩,d,e,f,g⟩⟩
def stepT (s:Nat)(L:List<|List Int):List<|List Int:=L.flatMap λl=>(xm s).map λe:Nat=>l++[(e:Int)]
def zfJ (sizes:List Int):List Int->List (List Int)->List (List Int)|[],L=>L|c::cols,L=>zfJ sizes cols<|stepT (zdi sizes c).toNat L
def zeF (sizes cols:List Int):List<|List Int:=zfJ sizes cols [[]]
theorem zhF (sizes):∀(a b)(L),zfJ sizes (a++b) L=zfJ sizes b (zfJ sizes a L)|[],_,_=>rfl|_::a,b,L=>by exact zhF sizes a b _
theorem zod {s L}:(stepT s L).length=L.length*s:=by induction L with|nil=>simp[stepT]|cons l L ih=>grind[stepT]
theorem zsf {s L k}(h:∀l∈L,l.length=k):∀l∈stepT s L,l.length=k+1:=λl a=>by
 simp only[stepT]at a;grind
theorem zqH {s}{L:List<|List Int}{i}(hi):stepT s (L.take<|i+1)=stepT s (L.take i)++(xm s).map λe:Nat=>L[i]++[(e:Int)]:=by grind[wj,stepT]
def zev (i:Nat)(L:List<|List Int):List Place:=L.map λl=>⟨(i:Int),l⟩
def zc3 (sizes:List Int)(s:Bool):List Table->Nat->List Place|[],_=>[]|t::l,i=>(if Z (t.kind<=1)=s then zev i<|zeF sizes t.zvo else[])++zc3 sizes s l (i+1)
theorem zhw (sizes s):∀(a b)(i),zc3 sizes s (a++b) i=zc3 sizes s a i++zc3 sizes s b (i+a.length)
 |[],b,i=>by simp[zc3]|t::a,b,i=>by
  simp only[uv,zc3,zhw sizes s a b];grind
theorem zjL {sizes}{s}{l:List Table}{i}(hi):zc3 sizes s (l.take<|i+1) 0=zc3 sizes s (l.take i) 0++if Z (l[i].kind<=1)=s then zev i<|zeF sizes l[i].zvo else[]:=by
 rw[yu hi,zhw];simp only[zc3];grind
theorem zuf {n}{x40}{rec}{l}{s:Nat}{b}{k:Nat}(hk:zvp x40 1=(k:Int))(hs:s<=6)(hl:l.length<=100)(hb:b.length<=100000)(hn:1000000<=n):zvt (zp.l4 n x40 rec l (s:Int)) n (b,0)=rec (b++(xm s).map λe:Nat=>l++[(e:Int)],(k:Int)):=by
 have:=zA (body:=zp.l4 n x40 rec l s) (len:=s) (st:=λi=>(b++(xm i).map λe:Nat=>l++[(e:Int)],i)) (g:=λ_=>rec (b++(xm s).map λe:Nat=>l++[(e:Int)],k)) (λa i d c=>?_) (λa=>?_) n 0 (yn _)<|by omega
 ·grind
 ·rw[uw,ur,<-yJ]at c;simp only[zp.l4,zd (i:=i)<|by omega];grind[zk]
 ·simp only[zp.l4,zgH<|ym s,ye,if_false,hk]
theorem zue {n}{m}{L}{x34 x36}{rec}{s k:Nat}(hk:zvp x34 1=(k:Int))(hx:idx m.zvu x36=O (s:Int))(hs:s<=6)(hl:∀l∈L,l.length<=100)(hL:L.length<=1000)(hn:1000000<=n):zvt (zp.l3 n m L x34 rec x36) n ([],0)=rec (stepT s L,(k:Int)):=by
 have:=zA (body:=zp.l3 n m L x34 rec x36) (len:=L.length) (st:=λi=>(stepT s<|L.take i,i)) (g:=λ_=>rec (stepT s L,k)) (λb i c d=>?_) (λb=>?_) n 0 (yn _)<|by omega
 ·grind[stepT]
 ·rw[zqH c]at d;simp only[zp.l3,zy c,za c,ya,hx];have a:(stepT s<|L.take i).length<=100000:=by rw[zod,ug];have:min i L.length*s<=1000*6:=y8 (by omega) hs;omega
  rw[zuf (k:=i+1) (zd<|by omega) hs (hl _<|yh c) a hn];exact d
 ·simp only[zp.l3,zaj,ye,if_false,hk,wo]
theorem zug {n}{i:Nat}{rec}{t}{L}{b1 b2}(hi:i<1000000)(hL:L.length<=1000)(h1:b1.length<=100000)(h2:b2.length<=100000)(hn:1000000<=n):zvt (zp.l5 n (i:Int) rec t L) n (b1,b2,0)=rec (b1++if Z (t.kind<=1)=U then zev i L else[],b2++if Z (t.kind<=1)=M then zev i L else[],((i+1:Nat):Int)):=by cases hk:Z<|t.kind<=1 with
 |true=>
  have:=zA (body:=zp.l5 n (i:Int) rec t L) (len:=L.length) (st:=λk=>(b1++zev i (L.take k),b2,(k:Int))) (g:=λ_=>rec (b1++zev i L,b2,((i+1:Nat):Int))) (λrec' k hk' hr=>?_) (λrec'=>?_) n 0 (yn _)<|by omega
  ·grind[zev]
  ·simp only[zev]at hr|-;rw[<-zeK hk',<-yJ]at hr;simp only[zp.l5,jn,za hk',zd (i:=k)<|by omega];grind[zk]
  ·simp only[zp.l5,zaj,ye,if_false,wo,zd (i:=i)<|by omega]|false=>
  have:=zA (body:=zp.l5 n (i:Int) rec t L) (len:=L.length) (st:=λk=>(b1,b2++zev i (L.take k),(k:Int))) (g:=λ_=>rec (b1,b2++zev i L,((i+1:Nat):Int))) (λrec' k hk' hr=>?_) (λrec'=>?_) n 0 (yn _)<|by omega
  ·grind[zev]
  ·simp only[zev]at hr|-;rw[<-zeK hk',<-yJ]at hr;simp only[zp.l5,jn,zy hk',if_true,za hk',ya,hk,ye,if_false,zd (i:=k)<|by omega];grind[zk]
  ·simp only[zp.l5,zaj,ye,if_false,wo,zd (i:=i)<|by omega]
theorem ziQ {sizes}(hs:sizes.all zbW=U):∀(cols)(L)(A k),cols.all (zv6 sizes)=U->L.length<=A->(∀l∈L,l.length=k)->(zfJ sizes cols L).length<=A*6^cols.length/\∀l∈zfJ sizes cols L,l.length=k+cols.length
 |[],L,A,k,_,h1,h2=>by grind[zfJ]|c::cols,L,A,k,hc,h1,h2=>by
  simp only[um,yc]at hc;have hz:=ziL hs hc.1;have hlen:(stepT (zdi sizes c).toNat L).length<=A*6:=by rw[zod];exact y8 h1<|by omega
  obtain⟨p1,p2⟩:=ziQ hs cols (stepT (zdi sizes c).toNat L) (A*6) (k+1) hc.2 hlen<|zsf h2;grind[zfJ,List.length_cons,Nat.pow_succ,vv,Nat.mul_assoc]
theorem zgo {sizes cols}(hs:sizes.all zbW=U)(hc:cols.all (zv6 sizes)=U)(h3:cols.length<=3):(zeF sizes cols).length<=216/\∀l∈zeF sizes cols,l.length=cols.length:=by obtain⟨b,c⟩:=ziQ hs cols [[]] 1 0 hc (by simp) (by simp);refine⟨yG b ?_,λl a=>by simpa using c l a⟩;have:6^cols.length<=6^3:=ul (by decide) h3;omega
theorem zud {n}{m}{b1 b2}{i:Nat}{rec}{t}(hs:m.zvu.all zbW=U)(hc:t.zvo.all (zv6 m.zvu)=U)(h3:t.zvo.length<=3)(hi:i<1000000)(h1:b1.length<=100000)(h2:b2.length<=100000)(hn:1000000<=n):zvt (zp.l2 n m b1 b2 (i:Int) rec t) n ([[]],0)=rec (b1++if Z (t.kind<=1)=U then zev i<|zeF m.zvu t.zvo else[],b2++if Z (t.kind<=1)=M then zev i<|zeF m.zvu t.zvo else[],((i+1:Nat):Int)):=by
 have hpre:∀k,(t.zvo.take k).all (zv6 m.zvu)=true:=λk=>yo.2 λc hm=>yo.1 hc c<|wr hm;have:=zA (body:=zp.l2 n m b1 b2 (i:Int) rec t) (len:=t.zvo.length) (st:=λk=>(zeF m.zvu<|t.zvo.take k,(k:Int))) (g:=λ_=>rec (b1++if Z (t.kind<=1)=U then zev i<|zeF m.zvu t.zvo else[],b2++if Z (t.kind<=1)=M then zev i<|zeF m.zvu t.zvo else[],((i+1:Nat):Int))) (λrec' k hk hr=>?_) (λrec'=>?_) n 0 (yn _)<|by omega
 ·grind[zeF,zfJ]
 ·have hcol:=yo.1 hc _<|yh hk;have hz:=ziL hs hcol;obtain⟨p1,p2⟩:=zgo hs (hpre k) (by grind);have hsz:idx m.zvu t.zvo[k]=O (((zdi m.zvu t.zvo[k]).toNat:Nat):Int):=by grind[zd8,zdi]
  simp only[zp.l2,zy hk,if_true,za hk,ya];rw[zue (k:=k+1) (zd<|by omega) hsz (by omega) (λl hl=>by grind) (by omega) hn,<-hr];unfold zeF;rw[yu hk,zhF];rfl
 ·obtain⟨p1,-⟩:=zgo hs hc h3;simp only[zp.l2,zaj,ye,if_false,wo];exact zug hi (by omega) h1 h2 hn
theorem zhU {sizes s}:∀{l}{i},(∀t∈l,(zeF sizes t.zvo).length<=216)->(zc3 sizes s l i).length<=l.length*216
 |[],_,_=>by simp[zc3]|t::l,i,h=>by
  have b:=zhU (s:=s) (l:=l) (i:=i+1) λx a=>h x<|by simp[a]
  grind[zc3,zev]
def zmH (m:Model):zxl:=⟨m,zc3 m.zvu U m.tables 0,zc3 m.zvu M m.tables 0⟩
theorem zj0 {n}{m}(hF:Fuel n)(hS:zvS m):zp n m=O (if zd2 m=U then(O<|zmH m,U)else(Y,M)):=by have v:=hF.big;unfold zp;rw[zhu hF hS,ya];cases p:zd2 m with
 |false=>simp|true=>
  have q:=zdg.1 p;obtain⟨w,x,h,e⟩:=zbK q.lay;have f:=λt a=>(zgo h (e t a).2.2.2.1 (e t a).2.2.1).1;have:=zA (body:=zp.l1 n m) (len:=m.tables.length) (st:=λi=>(zc3 m.zvu U (m.tables.take i) 0,zc3 m.zvu M (m.tables.take i) 0,i)) (g:=λ_=>O (O<|zmH m,U)) (λd i b j=>?_) (λd=>?_) n 0 (yn _)<|by omega
  ·grind[zc3]
  ·have c:=yh b;obtain⟨-,-,o,r,-⟩:=e _ c;have u:=zhU (s:=U) (l:=m.tables.take i) (i:=0) λt a=>f t<|wr a;have k:=zhU (s:=M) (l:=m.tables.take i) (i:=0) λt a=>f t<|wr a;simp only[ug]at u k;rw[zjL b,zjL b]at j;simp only[zp.l1,zy b,za b,ya];rw[zud h r o (by omega) (by omega) (by omega)<|by omega];exact j
  ·simp[zp.l1,zmH]
def zdh (m:Model)(q:Question):Bool:=Z (0<=q.e)&&Z (q.e<(m.zvq.length:Int))&&(Z (0<=q.f)&&Z (q.f<(m.zvq.length:Int)))&&Z (0<=q.target.index)&&if q.target.hold=U then Z<|q.target.index<(((idx m.zvq q.e).getD J).effect.hold.length:Int)else Z (q.e<=q.f)&&Z (q.target.index<(m.constraints.length:Int))
theorem zyB {m q}:(if(Z (q.e<0)||Z (q.f<0)||Z ((m.zvq.length:Int)<=q.e)||Z ((m.zvq.length:Int)<=q.f)||Z (q.target.index<0))=U then O M else if q.target.hold=U then(idx m.zvq q.e).bind λx=>O<|Z<|q.target.index<(x.effect.hold.length:Int)else O<|Z (q.e<=q.f)&&Z (q.target.index<(m.constraints.length:Int)))=O (zdh m q):=by
 unfold zdh;by_cases h:((0<=q.e/\q.e<m.zvq.length)/\0<=q.f/\q.f<m.zvq.length)/\0<=q.target.index
 ·obtain⟨a,b⟩:=zaD h.1.1.1 h.1.1.2;grind
 grind
theorem zf3 {n m q}(hF:Fuel n)(hS:zvS m):zdp n m q=O (zd2 m&&zdh m q):=by unfold zdp;rw[zj0 hF hS,ya];cases zd2 m with
 |false=>simp[grd]|true=>
  have:zbE n (zmH m) q=O (zdh m q):=zyB;grind[grd]
theorem zej {n m q}(hn:4294967296<=n)(hS:zvS m):zee n m q=O (zd2 m&&zdh m q):=by unfold zee;rw[zhz hn hS,ya];cases zd2 m with|false=>simp|true=>exact zyB
theorem zqi:zhN 18446744073709551616=O true:=by decide+kernel
theorem zmD:(zbU 18446744073709551616).map (λm=>m.es.map λe=>e.2)=O (kwL.map λk=>(k,U)):=by decide+kernel
theorem zu2:Fuel 18446744073709551616:=by refine⟨by decide,?_⟩;have h:=zmD;cases b:zbU 18446744073709551616 with
 |none=>simp_all|some m=>
  rw[b]at h;simp only[yV,yp]at h;refine⟨m,rfl,λe c=>?_,λk=>?_⟩;·grind[List.mem_map_of_mem]
  ·have:m.es.map (λe=>e.2.1)=kwL:=by
    have a:m.es.map (λe=>e.2.1)=(m.es.map λe=>e.2).map (·.1):=by simp
    rw[a,h,uS];exact List.map_id kwL
   grind
theorem zf9 {K}:∀(l)(last),zhs K last l=U->(∀d∈l,last<d.cell/\d.cell<(K:Int)/\d.add≠0/\-1000000000<=d.add/\d.add<=1000000000)/\(l.map (·.cell)).Nodup
 |[],_,_=>by simp|d::l,last,h=>by
  simp only[zhs,za6,yc]at h;obtain⟨⟨⟨⟨i,c⟩,e⟩,f,g⟩,a⟩:=h;obtain⟨j,b⟩:=zf9 l d.cell a;grind
theorem zle {m}(hV:zwn m){a}(ha:a∈m.zvq):effP m (zI m.zvu U m.tables).length a.effect=U/\0<=a.operation/\a.operation<(m.zvs.length:Int):=by have h:=hV.acts;simp only[zyV,yc]at h;obtain⟨i,b,rfl⟩:=List.mem_iff_getElem.1 ha;have:=zgy.1 h.2 i b;simp only[za b,actP]at this;simp_all
theorem zg6 {m}(hV:zwn m){c}(hc:c∈m.constraints):zeG (zI m.zvu U m.tables).length c=U\/acyP m c=true:=by have h:=hV.cons;simp only[zyY,yc]at h;obtain⟨i,a,rfl⟩:=List.mem_iff_getElem.1 hc;have:=zgy.1 h.2 i a;simp only[za a,conP]at this;simp_all
theorem zmd {m}(hV:zwn m){c}(h:acyP m c=U):c.kind=1/\1<=c.size/\c.size<=6:=by obtain⟨p,j,i,f⟩:=zbK hV.lay;simp only[acyP,zgr,yc,uo,beq_iff_eq]at h;obtain⟨l,-,t,e,d⟩:=h;simp only[zht,yc,beq_iff_eq]at d;obtain⟨⟨k,g⟩,⟨n,o⟩,b⟩:=d;obtain⟨⟨x,q⟩,-,z,a⟩:=zja (f t e).2.2.2.1 g;rw[a]at b;simp only[yi]at b;have:=yo.1 i z<|zam a;simp only[zbW,yc,yf]at this;omega
theorem zmu {n m}(hn:4294967296<=n)(hS:zvS m)(hV:zwn m):Good n m:=by
 refine⟨λa d=>?_,λc e=>?_⟩;·obtain⟨i,l,p,j,k⟩:=hS.act a d;have f:=(zle hV d).1;simp only[effP]at f;grind[zf9,zkh]
 ·have o:=hS.con c e;rcases zg6 hV e with h|h;·simp only[zeG,yc,beq_iff_eq]at h;refine⟨.inl h.1.1.1,by omega,by omega,0,?_,by decide,by omega⟩;rw[h.1.2];rfl
  ·obtain⟨g,q,b⟩:=zmd hV h;refine⟨.inr g,by omega,by omega,c.size.toNat*c.size.toNat,?_,?_,?_⟩
   ·have:=tx b b (by omega)<|by omega
    grind[zvA,zau]
   ·have:c.size.toNat*c.size.toNat<=6*6:=y8 (by omega) (by omega);omega
   ·have:c.size.toNat*c.size.toNat<=6*6:=y8 (by omega) (by omega);omega
theorem zed {m q}(h:zdh m q=U):(0<=q.e/\q.e<(m.zvq.length:Int))/\(0<=q.f/\q.f<(m.zvq.length:Int))/\0<=q.target.index/\(q.target.hold=U->∀a,idx m.zvq q.e=O a->q.target.index<(a.effect.hold.length:Int))/\(q.target.hold=M->q.e<=q.f/\q.target.index<(m.constraints.length:Int)):=by
 simp only[zdh]at h;grind
def nextL:List Range->List Int->Option (List Int)
 |r::rs,x::xs=>match nextL rs xs with
  |some ys=>O<|x::ys|none=>if x<r.hi then O<|(x+1)::rs.map (·.lo)else Y
 |_,_=>Y
def zxA:List Range->List Int->Bool|r::rs,x::xs=>Z (r.lo<=x)&&Z (x<=r.hi)&&zxA rs xs|[],[]=>U|_,_=>M
def zyK (box:List Range):Bool:=box.all λr=>Z (r.lo<=r.hi)&&(Z (-9999<=r.lo)&&Z (r.hi<=9999))
theorem zgK:∀{box}{s},zxA box s=U->s.length=box.length|[],[],_=>rfl|[],_::_,h=>by grind[zxA]|_::_,[],h=>by grind[zxA]|_::b,_::a,h=>by simp only[zxA,yc]at h;simp[zgK h.2]
theorem zgJ:∀{box}{s}(h:zxA box s=U)(i)(hi)(hs:i<s.length),box[i].lo<=s[i]/\s[i]<=box[i].hi
 |[],_,_,i,hi,_=>by grind|_::_,[],h,_,_,_=>by grind|r::b,x::a,h,0,_,_=>by
  simp only[zxA]at h;grind|r::b,x::a,h,i+1,hi,hs=>by simp only[zxA,yc]at h;simpa using zgJ h.2 i (by simp_all)<|by simp_all
def sumP (s:List Int):List Term->Int|[]=>0|t::l=>t.zvy*s.getD t.cell.toNat 0+sumP s l
def zfe (k:Nat)(t:Term):Prop:=0<=t.cell/\t.cell<(k:Int)/\-1000<=t.zvy/\t.zvy<=1000
def zvn (s:List Int):Prop:=∀x∈s,-4000000000<=x/\x<=4000000000
theorem zjK {f x B:Int}(h1:-1000<=f)(h2:f<=1000)(h3:-B<=x)(h4:x<=B):-(1000*B)<=f*x/\f*x<=1000*B:=by
 have hB:0<=B:=by omega
 have a1:f.natAbs<=1000:=by omega
 have a2:x.natAbs<=B.toNat:=by omega
 have a3:(f*x).natAbs<=1000*B.toNat:=by rw[Int.natAbs_mul];exact y8 a1 a2
 omega
theorem zmr {s:List Int}{c:Int}(h0:0<=c)(h1:c<(s.length:Int)):idx s c=O (s.getD c.toNat 0):=by
 obtain⟨k,rfl⟩:=yS h0;have:k<s.length:=by omega
 rw[za this];simp[vD,this]
def anyR (p:Nat->Bool)(i:Nat):Nat->Bool|0=>M|k+1=>p i||anyR p (i+1) k
theorem zng {p q}:∀{k i},(∀j,i<=j->j<i+k->p j=U->q j=U)->anyR p i k=U->anyR q i k=U
 |0,_,_,h=>by grind[anyR]|k+1,i,a,h=>by
  simp only[anyR,yH]at h|-;rcases h with h|h;·simp_all
  ·exact .inr<|zng (λj c b=>a j (by omega)<|by omega) h
def neP (E:Nat->Nat->Bool)(size:Nat):Nat->List Int->Nat->Nat->Bool|0,_,first,last=>E last first|d+1,path,first,last=>anyR (λx=>!(Z ((x:Int)∈path)||!E last x)&&neP E size d (path++[(x:Int)]) first x) (first+1)<|size-(first+1)
theorem zpF {E F size}(h:∀a b,a<size->b<size->E a b=U->F a b=U):∀(d)(path)(first last),first<size->last<size->neP E size d path first last=U->neP F size d path first last=U|0,_,first,last,e,f,g=>h _ _ f e g|d+1,path,first,last,e,f,g=>by refine zng (λj i k c=>?_) g;simp only[yc,yD,uc,vM]at c|-;exact⟨⟨c.1.1,h _ _ f (by omega) c.1.2⟩,zpF h d _ first j e (by omega) c.2⟩
def zwO (s:List Int)(c:Constraint)(a b:Nat):Bool:=Z<|1<=s.getD (c.first+(a:Int)*c.size+(b:Int)).toNat 0
structure zy8 (c:Constraint)(s:List Int)(size:Nat):Prop where
 sz:c.size=(size:Int)pos:1<=size
 six:size<=6
 first:0<=c.first
 fits:c.first+(size*size:Nat)<=(s.length:Int)len:s.length<=1000
theorem zq9 {n c s size a b}(h:zy8 c s size)(ha:a<size)(hb:b<size):zfY n c s a b=O (zwO s c a b):=by
 have e:a*size+b<size*size:=by
  have:=yO size<|show a+1<=size by omega
  grind
 have f:=h.fits;have g:=h.len;have i:=h.first;have j:a*c.size=(a*size:Nat):=by rw[h.sz,uj]
 unfold zfY zwO;have k:zvA a c.size=a*size:=by grind[zvA,zau]
 have l:zvp c.first (a*size)=c.first+a*size:=by grind[zvp,zau]
 have d:zvp (c.first+a*size) b=c.first+a*size+b:=by grind[zvp,zau]
 grind[zmr]
theorem znP {n l x}(hl:l.length<1000000)(hn:1000000<=n):zew n l x=O (Z<|x∈l):=by
 have:=zA (body:=zew.l1 n l x) (len:=l.length) (st:=λi=>i) (g:=λi=>O<|Z<|x∈l.drop i) (λa i b c=>?_) (λa=>?_) n 0 (yn _)<|by omega
 ·grind[zew]
 ·simp only[zew.l1,za b,zd (i:=i)<|by omega];rw[zj b];grind
 ·simp[zew.l1]
theorem zsZ {c s size}(hG:zy8 c s size):∀(d m:Nat)(path:List Int)(first last:Nat),d<=6->1000000+d<m->1<=path.length->path.length+d<=10->idx path 0=O (first:Int)->idx path ((path.length-1:Nat):Int)=O (last:Int)->first<size->last<size->∃L,zbp m c s path ((path.length+d:Nat):Int)=O L/\(L≠[]↔neP (zwO s c) size d path first last=U)/\L.length<=6^d/\∀p∈L,p≠[]
 |d,0,_,_,_,_,h,_,_,_,_,_,_=>by omega|0,m+1,path,first,last,_,hm,hp,hp2,h0,hl,hf,hla=>by simp only[zbp,zbp.body];rw[zfd (by omega)<|by omega,hl,h0];simp only[ya,uy,beq_self_eq_true,if_true,zq9 hG hla hf,neP];cases zwO s c last first with|true=>exact⟨[path],rfl,by simp,by simp,λp hp'=>by simp only[yN]at hp';subst hp';intro e;rw[e]at hp;simp at hp⟩|false=>exact⟨[],rfl,by simp,by simp,λp hp'=>by simp at hp'⟩
 |d+1,m+1,path,first,last,hd6,hm,hp,hp2,h0,hl,hf,hla=>by
  have h6:=hG.six;simp only[zbp,zbp.body];rw[zfd (by omega)<|by omega,hl,h0];simp only[ya];rw[if_neg<|by simp;omega,zd<|by omega,neP];have hpow:1<=6^d:=uU _ _ (by decide);have hpow2:6^d<=46656:=yG (ul (by decide)<|show d<=6 by omega) (by decide);have main:=zdz (body:=zbp.l1 m (zbp m) c s path ((path.length+(d+1):Nat):Int) (last:Int)) (λst=>size-st.2.toNat) (λst=>∃i:Nat,st.2=(i:Int)/\i<=size/\st.1.length<=i*6^d) (λst o=>∃L,o=O (st.1++L)/\(L≠[]↔anyR (λx=>!(Z ((x:Int)∈path)||!zwO s c last x)&&neP (zwO s c) size d (path++[(x:Int)]) first x) st.2.toNat (size-st.2.toNat)=U)/\L.length<=(size-st.2.toNat)*6^d/\∀p∈L,p≠[]) (λrec st hI hr=>by
    obtain⟨b,x⟩:=st;obtain⟨i,rfl,hi,hb⟩:=hI;simp only[]at hb hr;simp only[zbp.l1,jn,yr];by_cases hlt:i<size
    ·have hsz:Z ((i:Int)<c.size)=true:=by rw[hG.sz];exact zjI hlt
     have hb2:b.length<=300000:=by have:i*6^d<=6*46656:=y8 (by omega) hpow2;omega
     simp only[hsz,if_true,znP (show path.length<1000000 by omega)<|show 1000000<=m by omega,zq9 hG hla hlt,ya,yq,yw,grd,yi,zd (i:=i)<|by omega];rw[show size-i=size-(i+1)+1 by omega,anyR];have hnx:∀b':List<|List Int,b'.length<=(i+1)*6^d->∃L,rec (b',((i+1:Nat):Int))=O (b'++L)/\(L≠[]↔anyR (λx=>!(Z ((x:Int)∈path)||!zwO s c last x)&&neP (zwO s c) size d (path++[(x:Int)]) first x) (i+1) (size-(i+1))=U)/\L.length<=(size-(i+1))*6^d/\∀p∈L,p≠[]:=λb' hb'=>by have:=hr (b',((i+1:Nat):Int)) ⟨i+1,rfl,by omega,hb'⟩ (by simp only[yr];omega);simpa only[yr]using this
     by_cases hsk:(Z ((i:Int)∈path)||!zwO s c last i)=U;·rw[if_pos hsk,hsk];obtain⟨L,l1,l2,l3,l4⟩:=hnx b (by rw[uB];omega);refine⟨L,l1,by simpa using l2,by rw[uB];omega,l4⟩
     ·rw[if_neg hsk];simp only[yP]at hsk;rw[hsk,zk<|by simp;omega,ya,zk<|by simp;omega,ya];simp only[yR];obtain⟨L',p1,p2,p3,p4⟩:=zsZ hG d m (path++[(i:Int)]) first i (by omega) (by omega) (by simp) (by simp;omega) (by
       obtain⟨y,hy⟩:∃y,y=path:=⟨_,rfl⟩;cases path with
       |nil=>simp at hp|cons z zs=>simpa[idx]using h0) (by
       have:(path++[(i:Int)]).length-1=path.length:=by simp
       rw[this,za<|by simp];simp) hf hlt;have e:((path++[(i:Int)]).length+d:Nat)=path.length+(d+1):=by simp;omega
      rw[e]at p1;rw[p1,ya,zk<|by omega,ya];obtain⟨L,l1,l2,l3,l4⟩:=hnx (b++L') (by grind);refine⟨L'++L,by rw[l1,yJ],?_,by rw[yT,uB];omega,λp hp'=>?_⟩
      ·simp only[ut,yz,yH,<-p2,<-l2,ne_eq,List.append_eq_nil_iff];constructor
       ·intro h;by_cases hx:L'=[];·exact .inr λhy=>h ⟨hx,hy⟩
        ·exact .inl hx
       ·rintro(h|h)⟨h1,h2⟩;·exact h h1
        ·exact h h2
      ·rcases yv.1 hp' with h|h;·exact p4 p h
       ·exact l4 p h
    ·have hie:i=size:=by omega
     have hsz:Z ((i:Int)<c.size)=false:=by rw[hG.sz];simp_all
     simp only[hsz,ye,if_false];exact⟨[],by simp,by simp[hie,anyR],by simp,λp hp'=>by simp at hp'⟩) m ([],((first+1:Nat):Int)) ⟨first+1,rfl,by omega,by simp⟩<|by grind
  grind[vu,Nat.pow_succ,vv,Nat.le_trans,Nat.mul_le_mul_right]
def zxz (E:Nat->Nat->Bool)(size:Nat):Bool:=allR (λlen=>allR (λa=>!neP E size (len-1) [(a:Int)] a a) 0 size) 1 size
theorem ziU {E F size}(h:∀a b,a<size->b<size->E a b=U->F a b=U)(hF:zxz F size=U):zxz E size=true:=by unfold zxz at hF|-;rw[zj2]at hF|-;intro len h1 h2;have:=hF len h1 h2;rw[zgy]at this|-;intro a ha;have hn:=this a ha;cases hx:neP E size (len-1) [(a:Int)] a a with|false=>rfl|true=>rw[zpF h _ _ _ _ ha ha hx]at hn;exact hn
inductive ConIn (c:Constraint)(k:Nat):Prop|row:c.kind=0->(∀t∈c.row.zvr,zfe k t)->c.row.zvr.length<=1000->-4000000000<=c.row.bound/\c.row.bound<=4000000000->ConIn c k|graph(size:Nat):c.kind=1->c.size=(size:Int)->1<=size->size<=6->0<=c.first->c.first+(size*size:Nat)<=(k:Int)->ConIn c k
def z9 (c:Constraint)(s:List Int):Bool:=if c.kind=1 then zxz (zwO s c) c.size.toNat else Z<|sumP s c.row.zvr<=c.row.bound
theorem zji {β:Type}(g:Nat->List β)(k:Nat):(xm<|k+1).flatMap g=(xm k).flatMap g++g k:=by rw[uw,List.flatMap_append];simp
theorem zpt {α:Type}(p):∀(l:List α)(i:Nat),(ixP p l i=-1/\∀x∈l,p x=M)\/∃k,∃h:k<l.length,ixP p l i=((i+k:Nat):Int)/\p l[k]=U/\∀x∈l.take k,p x=M
 |[],i=>.inl ⟨rfl,λx hx=>by simp at hx⟩|x::l,i=>by
  rw[ixP];by_cases h:p x=U;·rw[if_pos h];exact .inr ⟨0,by simp,rfl,h,λy hy=>by simp at hy⟩
  ·rw[if_neg h];rcases zpt p l<|i+1 with⟨h1,h2⟩|⟨k,hk,h1,h2,h3⟩
   ·refine .inl ⟨h1,λy hy=>?_⟩;simp only[yE]at hy;rcases hy with rfl|hy;·simpa using h
    ·exact h2 y hy
   ·refine .inr ⟨k+1,by simpa using hk,by rw[h1];omega,by simpa using h2,λy hy=>?_⟩;simp only[List.take_succ_cons,yE]at hy;rcases hy with rfl|hy;·simpa using h
    ·exact h3 y hy
def boxM (m:Model):List Range:=zI m.zvu U m.tables
theorem zhW {sizes s}:∀{l}{r},r∈zI sizes s l->∃t∈l,r=t.range
 |[],r,h=>by grind[zI]|t::l,r,h=>by
  rw[zI]at h;split at h
  ·rcases yv.1 h with h|h;·simp_all
   ·obtain⟨u,a,e⟩:=zhW h;grind
  ·obtain⟨u,a,e⟩:=zhW h;grind
theorem zha {m}(hL:za3 m.zvu m.tables=U):zyK (boxM m)=true:=by
 unfold zyK;rw[yo];intro r c;obtain⟨t,d,rfl⟩:=zhW c;have a:=hL;simp only[za3,yc]at a;have:=zdP a.2 t d;simp only[tabP,yc]at this;have b:=this.2;unfold zgZ at b;split at b;·simp_all
 simp_all
theorem zoK {sizes}(hs:sizes.all zbW=U):∀{l}{seen}{a b},layP sizes seen a b l=U->0<=a->a+216*(l.length:Int)<=1000000->∀t∈l,zaL t.kind=U->a<=t.first/\t.first+zae sizes t.zvo 1<=a+((zI sizes U l).length:Int)
 |[],_,_,_,_,_,_,t,e,_=>by grind|x::l,seen,a,b,h,n,o,t,e,g=>by
  have c:=zdP h x (by simp);simp only[tabP,yc,yf]at c;have p:=zfx hs c.1.2.2 c.1.2.1;simp only[layP,yc]at h;have f:=h.2;simp only[yQ]at o;have j:=by omega
  by_cases k:zaL x.kind=U
  ·rw[if_pos k]at f;simp only[yc,beq_iff_eq]at f;have m:zvp a (zae sizes x.zvo 1)=a+zae sizes x.zvo 1:=by exact zau (by omega)<|by omega
   have d:(zI sizes U<|x::l).length=zae sizes x.zvo 1+(zI sizes U l).length:=by rw[zI,k,if_pos<|by rfl,yT,ux];omega
   rcases yE.1 e with rfl|e;·omega
   ·have:=zoK hs f.2 (by omega) (by omega) t e g;omega
  ·rw[if_neg k]at f;simp only[yc]at f;have i:zaL x.kind=false:=by simp_all
   have d:zI sizes U (x::l)=zI sizes U l:=by rw[zI,i,if_neg<|by decide]
   rw[d];rcases yE.1 e with rfl|e;·simp_all
   ·exact zoK hs f.2 n (by omega) t e g
theorem zhi {K}:∀{l}{last},rowP K last l=U->-1<=last->∀t∈l,zfe K t
 |[],_,_,_,t,a=>by grind|x::l,last,h,b,t,a=>by
  simp only[rowP,za6,yc,yf]at h;rcases yE.1 a with rfl|a;·exact⟨by omega,h.1.1.1.2,by omega,by omega⟩
  ·exact zhi h.2 (by omega) t a
theorem ztp {m}(hS:zvS m)(hV:zwn m){c}(hc:c∈m.constraints):ConIn c (boxM m).length:=by
 have z:=hS.con c hc;rcases zg6 hV hc with h|h;·simp only[zeG,yc,beq_iff_eq]at h;have l:=h.2;simp only[zwc,za6,yc,yf]at l;exact .row h.1.1.1 (zhi l.1<|by decide) (by omega)<|by omega
 ·obtain⟨C,G,u,w⟩:=zbK hV.lay;obtain⟨y,F,o⟩:=zmd hV h;have r:=hV.lay;simp only[za3,yc]at r;simp only[acyP,zgr,yc,uo]at h;obtain⟨-,-,t,s,n⟩:=h;simp only[zht,yc,beq_iff_eq]at n;obtain⟨⟨A,B⟩,⟨f,E⟩,d⟩:=n;have k:=zoK u r.2 (wT _) (by omega) t s (by grind[zaL]);have a:=(w t s).2.2.2.1;obtain⟨p,q,b⟩:∃p q,t.zvo=[p,q]:=by match v:t.zvo with
   |[]=>simp_all|[_]=>simp_all|[p,q]=>simp_all|_::_::_::_=>grind
  have e:idx t.zvo 0=O p:=by rw[b];rfl
  have g:idx t.zvo 1=O q:=by rw[b];rfl
  rw[e,g]at f;rw[e]at d;simp only[yi]at f d;subst f;have j:=yo.1 a p (by simp_all);rw[zd8 j]at d;simp only[yi]at d;have H:zae m.zvu t.zvo 1=c.size*c.size:=by rw[b];simp only[zae,d];have:=tx o o (by omega) (by omega);have I:0<=c.size*c.size:=Int.mul_nonneg (by omega) (by omega);unfold zvA;rw[Int.one_mul,zau (x:=c.size) (by omega)<|by omega,zau (by omega)<|by omega]
  have i:c.size=c.size.toNat:=by omega
  refine .graph c.size.toNat y i (by omega) (by omega) (by omega) ?_;grind[boxM]
def zvH (s:List Int)(d:List Change):List Int:=(xm s.length).map λi=>s.getD i 0+zx d (i:Int)
theorem zdT (s d):(zvH s d).length=s.length:=by simp[zvH]
theorem zfp {s d c}(h0:0<=c)(h1:c<(s.length:Int)):(zvH s d).getD c.toNat 0=s.getD c.toNat 0+zx d c:=by grind[zvH]
def zf2 (d:List Change):Prop:=∀x∈d,-1000000000<=x.add/\x.add<=1000000000
theorem zcU {d}(h:zf2 d)(c):-1000000000<=zx d c/\zx d c<=1000000000:=by induction d with
 |nil=>simp[zx]|cons x l ih=>
  simp only[zx];split;·exact h x<|by simp
  ·exact ih λy a=>h y<|by grind
def chgP (d:List Change):List Term->Int|[]=>0|t::l=>t.zvy*zx d t.cell+chgP d l
theorem zgn {s d}:∀{l},(∀t∈l,zfe s.length t)->sumP (zvH s d) l=sumP s l+chgP d l
 |[],_=>rfl|t::l,h=>by
  obtain⟨t1,t2,-⟩:=h t (by simp);have ih:=zgn (s:=s) (d:=d) (l:=l) λx hx=>h x<|by grind
  grind[sumP,chgP,zfp,Int.mul_add]
set_option maxRecDepth 20000 in
theorem zjA {d}(hd:zf2 d):∀{l}{s},(∀t∈l,-1000<=t.zvy/\t.zvy<=1000)->(l.length:Int)<=1000->-(1000000000000*(1000-(l.length:Int)))<=s/\s<=1000000000000*(1000-(l.length:Int))->zcP (zx d) l s=s+chgP d l
 |[],s,_,_,_=>by simp[zcP,chgP]|t::l,s,c,e,g=>by
  have b:=c t (by simp);have a:=zcU hd t.cell;have j:=zjK b.1 b.2 a.1 a.2;simp only[yQ]at e g;have k:=by omega
  have f:zvA t.zvy (zx d t.cell)=t.zvy*zx d t.cell:=by grind[zvA,zau]
  have h:zvp s (t.zvy*zx d t.cell)=s+t.zvy*zx d t.cell:=by grind[zvp,zau]
  rw[zcP,f,h,zjA hd (λx i=>c x<|by grind) (by omega)<|by omega,chgP];omega
theorem zkq {d}(hd:zf2 d){l}(ht:∀t∈l,-1000<=t.zvy/\t.zvy<=1000)(hl:l.length<=1000):zcP (zx d) l 0=chgP d l:=by grind[zjA]
theorem zfE {n m t}(hc:t.zvo.all (zv6 m.zvu)=U)(hl:t.zvo.length<=1000)(hn:1000000<=n):zbM n m t=O (zae m.zvu t.zvo 1):=by
 have:=zA (body:=zbM.l1 n m t) (len:=t.zvo.length) (st:=λi=>(zae m.zvu (t.zvo.take i) 1,i)) (g:=λ_=>O<|zae m.zvu t.zvo 1) (λc i a b=>?_) (λc=>?_) n 0 (yn _)<|by omega
 ·grind[zbM,zae]
 ·rw[yu a,zd3]at b;simp only[zae]at b;simp only[zbM.l1,zy a,if_true,za a,ya,zd8<|yo.1 hc _<|yh a,zd (i:=i)<|by omega,b]
 ·simp[zbM.l1]
theorem znS {n m}(hS:zvS m)(hL:za3 m.zvu m.tables=U)(hn:1000000<=n):zcy n m=O (boxM m):=by
 obtain⟨l1,l2,l3,l4⟩:=zbK hL;unfold zcy;have:=zA (body:=zcy.l1 n m) (len:=m.tables.length) (st:=λi=>(zI m.zvu U<|m.tables.take i,(i:Int))) (g:=λ_=>O<|boxM m) (λrec i hi hr=>?_) (λrec=>?_) n 0 (yn _)<|by omega
 ·simpa[zI]using this
 ·obtain⟨-,-,c1,c2,c3,c4⟩:=l4 _<|yh hi;have hlen:=zc4 (sizes:=m.zvu) (s:=U) (l:=m.tables.take i) λx hx=>(l4 x<|wr hx).2.2.2.2;rw[zfq hi]at hr;obtain⟨W,hW⟩:=yS (show 0<=zae m.zvu m.tables[i].zvo 1 by omega);have hcell:=zfE (n:=n) (m:=m) (t:=m.tables[i]) c2 (by omega) hn;rw[hW]at hcell hr;simp only[zcy.l1,jn,zy hi,za hi,ya,zc6,zd (i:=i)<|by omega];by_cases hst:(m.tables[i].kind==0||m.tables[i].kind==1)=U
  ·have hst':(zaL m.tables[i].kind==U)=true:=by grind[zaL]
   rw[if_pos hst];have inner:=zA (body:=zcy.l2 n m (i:Int) λv=>rec (v,((i+1:Nat):Int))) (len:=W) (st:=λk=>(zI m.zvu U (m.tables.take i)++xw k m.tables[i].range,(k:Int))) (g:=λ_=>O<|boxM m) (λrec' k hk hr'=>?_) (λrec'=>?_) n 0 (yn _)<|by omega
   ·simpa using inner
   ·simp only[zcy.l2,za hi,hcell,if_true,zd (i:=k)<|by omega];grind[zk,tg]
   ·simp only[zcy.l2,za hi];simp_all
  ·have hst':¬(zaL m.tables[i].kind==U)=true:=by grind[zaL]
   simp_all
 ·simp[zcy.l1,boxM]
theorem zhA {n m}(hL:za3 m.zvu m.tables=U)(hn:1000000<=n):zb2 n m=O ((boxM m).length:Int):=by
 obtain⟨q,w,u,f⟩:=zbK hL;unfold zb2;have:=zA (body:=zb2.l1 n m) (len:=m.tables.length) (st:=λi=>((zI m.zvu U<|m.tables.take i).length,i)) (g:=λ_=>O (boxM m).length) (λd i b k=>?_) (λd=>?_) n 0 (yn _)<|by omega
 ·grind[zI]
 ·obtain⟨-,-,v,j,y,r⟩:=f _<|yh b;have h:=zc4 (sizes:=m.zvu) (s:=U) (l:=m.tables.take i) λx o=>(f x<|wr o).2.2.2.2;rw[zfq b]at k;have c:=zfE (n:=n) (m:=m) (t:=m.tables[i]) j (by omega) hn;simp only[zb2.l1,jn,za b,zc6,zd (i:=i)<|by omega];by_cases p:(m.tables[i].kind==0||m.tables[i].kind==1)=U
  ·have a:(zaL m.tables[i].kind==U)=true:=by grind[zaL]
   have e:zvp (zI m.zvu U<|m.tables.take i).length (zae m.zvu m.tables[i].zvo 1)=(zI m.zvu U (m.tables.take i)++xw (zae m.zvu m.tables[i].zvo 1).toNat m.tables[i].range).length:=by grind[zvp,zau]
   simp_all
  ·have a:¬(zaL m.tables[i].kind==U)=true:=by grind[zaL]
   simp_all
 ·simp[zb2.l1,boxM]
def zyM (m:Model)(e:zwf)(s:List Int):Bool:=m.constraints.all (λc=>z9 c s&&z9 c (zvH s e.delta))&&e.hold.all λr=>z9 ⟨0,0,r,0,0⟩ s
structure zzN (m:Model)(s:List Int):Prop where
 len:s.length=(boxM m).length
 small:∀x∈s,-9999<=x/\x<=9999
theorem ztb {m}(hL:za3 m.zvu m.tables=U){s}(h:zxA (boxM m) s=U):zzN m s:=by
 have a:=zgK h;refine⟨a,λx d=>?_⟩;obtain⟨i,c,rfl⟩:=List.mem_iff_getElem.1 d;have b:i<(boxM m).length:=by omega
 have f:=zgJ h i b c;have e:=yo.1 (zha hL) _<|yh b;grind
theorem zkg {m}(hV:zwn m){a}(ha:a∈m.zvq):zf2 a.effect.delta/\∀r∈a.effect.hold,zwc (boxM m).length r=true:=by have h:=(zle hV ha).1;simp only[effP,yc,yo]at h;obtain⟨c,-⟩:=zf9 _ _ h.1;exact⟨λx b=>by simp_all,h.2.2.2⟩
theorem zoI {c s d size}(hk:c.kind=1)(hG:zy8 c s size)(hch:∀k,k<size*size->zx d (c.first+(k:Int))<=0)(h:z9 c s=U):z9 c (zvH s d)=true:=by
 unfold z9 at h|-;rw[if_pos hk]at h|-;have f:=by have:=hG.sz;omega
 refine ziU (λa b g i e=>?_) h;have l:a*size+b<size*size:=by
  have:=yO size<|show a+1<=size by omega
  grind
 have m:=hG.fits;have n:=hG.first;have j:a*c.size=a*size:=by grind
 unfold zwO at e|-;rw[zfp (by omega)<|by omega]at e;grind
theorem zlT {p}:∀{k i},¬0<(zcm p i k).length->∀j,i<=j->j<i+k->p (j:Int)=M
 |0,i,_,j,b,c=>by omega|k+1,i,h,j,b,c=>by
  rw[zcm]at h;by_cases a:p i=U;·simp_all
  ·rw[if_neg a]at h;by_cases e:j=i;·simp_all
   ·exact zlT h j (by omega)<|by omega
theorem zcw {γ S R:Type}{body}{k n}{st:List γ->Nat->S}(g)(fin:List γ->Option R)(B)(b0)(hB:∀i,i<k->(g i).length<=B)(step:∀rec(b)i,i<k->b.length<=b0.length+i*B->body rec (st b i)=rec (st (b++g i)<|i+1))(done:∀rec(b),b.length<=b0.length+k*B->body rec (st b k)=fin b)(hn:k<n):zvt body n (st b0 0)=fin (b0++(xm k).flatMap g):=by
 have:=za4 (σ:=List γ) (body:=body) (len:=k) (st:=st) (g:=λi b=>fin<|b++(ws i<|k-i).flatMap g) (λi b=>b.length<=b0.length+i*B) (λrec i b d a c=>?_) (λrec b a=>?_) n 0 b0 (yn _) (by omega)<|by simp
 ·grind[List.range_eq_range']
 ·have:ws i (k-i)=i::ws (i+1) (k-(i+1)):=by rw[show k-i=k-(i+1)+1 by omega,List.range'_succ]
  grind
 grind
theorem zet {α γ S R:Type}{body}{l:List α}{n}{st:List γ->Nat->S}(h)(fin:List γ->Option R)(b0)(step:∀rec(b)i(hi),b.length=b0.length+i->body rec (st b i)=rec (st (b++[h l[i]])<|i+1))(done:∀rec(b),b.length=b0.length+l.length->body rec (st b l.length)=fin b)(hn:l.length<n):zvt body n (st b0 0)=fin (b0++l.map h):=by
 have:=zA (body:=body) (len:=l.length) (st:=λi=>st (b0++(l.take i).map h) i) (g:=λ_=>fin<|b0++l.map h) (λrec i hi a=>?_) (λrec=>?_) n 0 (yn _)<|by omega
 ·grind
 ·grind[wj]
 grind
theorem zdn {σ S R:Type}{body}{k n}{st:σ->Nat->S}(I:Nat->σ->Prop)(Q:R->Prop)(hb:∀rec i s,i<k->I i s->(∀s',I (i+1) s'->∃r,rec (st s'<|i+1)=O r/\Q r)->∃r,body rec (st s i)=O r/\Q r)(he:∀rec s,I k s->∃r,body rec (st s k)=O r/\Q r)(hn:k<n)(s0)(h0:I 0 s0):∃r,zvt body n (st s0 0)=O r/\Q r:=by
 have b:∀m i s,i<=k->k-i<m->I i s->∃r,zvt body m (st s i)=O r/\Q r:=by
  intro m;induction m with
  |zero=>grind|succ m ih=>
   intro i s d f c;simp only[zvt];by_cases e:i=k;·simp_all
   ·exact hb _ i s (by omega) c λs' a=>ih (i+1) s' (by omega) (by omega) a
 simp_all
theorem zmb {n l x}(hl:l.length<1000000)(hn:1000000<=n):∃k,zaB n l x=O k/\Z (0<=k)=Z (x∈l):=by
 have:=zA (body:=zaB.l1 n l x) (len:=l.length) (st:=λi=>i) (g:=λi=>O<|ixP (λy=>Z<|x=y) (l.drop i) i) (λa i b c=>?_) (λa=>?_) n 0 (yn _)<|by omega
 ·refine⟨_,this,?_⟩;rw[wG,zgM];grind
 ·simp only[zaB.l1,za b];grind[zd,zj,ixP]
 ·simp only[zaB.l1];simp[ixP]
theorem zeA {n l x}(hl:l.length<1000000)(hn:1000000<=n):zaR n l x=O (Z<|x∈l):=by
 obtain⟨k,b,a⟩:=zmb (x:=x) hl hn;grind[zaR]
structure zwN (g:zwR)(K:Nat):Prop where
 size:g.size=(K:Int)le:K<=6
 len:g.zvI.length=K*K
def hasP (g:zwR)(a b:Nat):Bool:=g.zvI.getD (a*g.size.toNat+b) M
theorem zeb {K a b:Nat}(ha:a<K)(hb:b<K):a*K+b<K*K:=by
 have:(a+1)*K<=K*K:=yO _ ha;grind
theorem zlK {n}{g}{K a b}(hg:zwN g K)(ha:a<K)(hb:b<K):za2 n g (a:Int) (b:Int)=O (hasP g a b):=by
 have d:=zeb ha hb;have f:=y8 hg.le hg.le;have e:zvp (zvA a g.size) b=(a*K+b:Nat):=by
  rw[hg.size];have c:zvA a K=(a*K:Nat):=by grind[zvA,zau]
  rw[c,zcT<|by omega]
 unfold za2;rw[e,za<|by rw[hg.len];exact d,ya];simp only[hasP,hg.size];grind
def zxG (K:Nat)(l:List Int):Prop:=1<=l.length/\l.length<=K/\∀x∈l,0<=x/\x<(K:Int)
theorem zxG.get {K l}(h:zxG K l){i}(hi:i<l.length):∃a:Nat,l[i]=(a:Int)/\a<K:=by obtain⟨c,b⟩:=h.2.2 _<|yh hi;exact⟨l[i].toNat,by omega,by omega⟩
theorem zit:∀{K:Nat}{l:List Int},l.Nodup->(∀x∈l,0<=x/\x<(K:Int))->l.length<=K
 |0,l,_,h=>by cases l with|nil=>simp|cons x l=>have:=h x (by simp);omega
 |K+1,l,a,h=>by
  by_cases c:(K:Int)∈l
  ·have d:=zit (K:=K) (a.erase (K:Int)) λx b=>by grind
   grind
  ·have:=zit (K:=K) a λx b=>by grind
   omega
theorem zss {n}{g}{K}(hg:zwN g K)(hn:1000000<=n):∀(d k)(l)(out),l.Nodup->zxG K l->K-l.length=d->d<k->out.length<=1000000-7^(d+1)->d<=5->(∀c∈out,zxG K c)->∃r,zE n g k l out=O r/\r.length<=out.length+7^(d+1)/\∀c∈r,zxG K c:=by
 intro d;induction d using Nat.strongRecOn with|ind d ih=>
  intro k l out hnd hv hd hk ho hd5 hc;obtain⟨k,rfl⟩:∃k',k=k'+1:=⟨k-1,by omega⟩;have hK:=hg.le;have hl1:=hv.1;have hl2:=hv.2.1;have hp:7<=7^(d+1):=by grind
  have hp2:7^(d+1)<=117649:=by
   have:7^(d+1)<=7^6:=ul (by omega)<|by omega
   grind
  obtain⟨last,hlast,hlK⟩:=hv.get (i:=l.length-1) (by omega);obtain⟨first,hfirst,hfK⟩:=hv.get (i:=0) (by omega);have e1:idx l (zvz (l.length:Int) 1)=O (last:Int):=by rw[zfd (by omega)<|by omega,za<|by omega,hlast]
  have e2:idx l 0=O (first:Int):=by
   have:=za (l:=l) (i:=0)<|by omega
   grind
  simp only[zE,e1,e2,ya,zlK hg hlK hfK];have loop:∀out1:List<|List Int,out1.length<=out.length+1->(∀c∈out1,zxG K c)->∃r,zvt (zE.l1 n g (zE n g k) l (last:Int)) n (zvp (first:Int) 1,out1)=O r/\r.length<=out.length+7^(d+1)/\∀c∈r,zxG K c:=by
   intro out1 ho1 hc1;rw[zd<|by omega];have:=zdn (body:=zE.l1 n g (zE n g k) l (last:Int)) (k:=K-(first+1)) (n:=n) (st:=λ(o:List<|List Int)i=>(((first+1+i:Nat):Int),o)) (λi o=>o.length<=out.length+1+i*7^d/\∀c∈o,zxG K c) (λr=>r.length<=out.length+7^(d+1)/\∀c∈r,zxG K c) (λrec i o hi hI hr=>?_) (λrec o hI=>?_) (by omega) out1 ⟨by simpa using ho1,hc1⟩;·simpa using this
   ·have hb:first+1+i<K:=by omega
    have hlt:Z (((first+1+i:Nat):Int)<g.size)=true:=by rw[hg.size];simp;omega
    have hnx:zvp ((first+1+i:Nat):Int) 1=((first+1+(i+1):Nat):Int):=by rw[zd<|by omega];rfl
    simp only[zE.l1,hlt,if_true,zlK hg hlK hb,ya,hnx];have keep:∃r,rec (((first+1+(i+1):Nat):Int),o)=O r/\r.length<=out.length+7^(d+1)/\∀c∈r,zxG K c:=hr o ⟨by have:=hI.1;rw[uB];omega,hI.2⟩;by_cases hh:hasP g last (first+1+i)=U
    ·rw[if_pos hh,zeA (by omega) hn,ya];by_cases hm:((first+1+i:Nat):Int)∈l;·rw[if_pos<|by simpa using hm];exact keep
     ·rw[if_neg<|by simpa using hm,zk<|by simp;omega,ya,yR,zk<|by simp;omega,ya];have hnd2:(l++[((first+1+i:Nat):Int)]).Nodup:=by rw[uT];exact⟨hnd,by simp,λa ha b hb e=>by simp at hb;subst hb;subst e;exact hm ha⟩
      have hall:∀x∈l++[((first+1+i:Nat):Int)],0<=x/\x<(K:Int):=λx hx=>by
       rcases yv.1 hx with hx|hx;·exact hv.2.2 x hx
       ·simp at hx;subst hx;omega
      have hlen:=zit hnd2 hall;simp only[yT,yQ,uq]at hlen;have hd1:1<=d:=by omega
      have hpow:7^d<=7^(d+1):=ul (by omega) (by omega);have h6:i*7^d<=5*7^d:=yO _ (by omega);have h7:7^(d+1)=7*7^d:=by rw[uV];omega
      have hone:1<=7^d:=uU _ _ (by omega);obtain⟨r,hr1,hr2,hr3⟩:=ih (d-1) (by omega) k (l++[((first+1+i:Nat):Int)]) o hnd2 ⟨by simp,by simpa using hlen,hall⟩ (by simp;omega) (by omega) (by rw[show d-1+1=d by omega];have:=hI.1;omega) (by omega) hI.2;rw[show d-1+1=d by omega]at hr2;rw[hr1,ya];exact hr r ⟨by have:=hI.1;rw[uB];omega,hr3⟩
    ·rw[if_neg hh];exact keep
   ·have hge:Z (((first+1+(K-(first+1)):Nat):Int)<g.size)=false:=by rw[hg.size];simp;omega
    simp only[zE.l1,hge,ye,if_false];have hone:1<=7^d:=uU _ _ (by omega);have h7:7^(d+1)=7*7^d:=by rw[uV];omega
    have h5:(K-(first+1))*7^d<=5*7^d:=yO _ (by omega);exact⟨o,rfl,by have:=hI.1;omega,hI.2⟩
  by_cases hh:hasP g last first=U
  ·rw[if_pos hh,zk<|by simp;omega,ya,yR,zk<|by simp;omega,ya];exact loop _ (by simp) λc hc'=>by
    rcases yv.1 hc' with h|h;·exact hc c h
    ·simp at h;subst h;exact hv
  grind
theorem zqo {n}{g}{K}(hg:zwN g K)(hn:1000000<=n):∃r,zvt (zvT.l1 n g) n (0,[])=O r/\r.length<=900000/\∀c∈r,zxG K c:=by
 have p:=hg.le;have:=zdn (body:=zvT.l1 n g) (k:=K) (n:=n) (st:=λo i=>(i,o)) (λi o=>o.length<=i*117649/\∀c∈o,zxG K c) (λr=>r.length<=900000/\∀c∈r,zxG K c) (λa i o l b m=>?_) (λa o b=>?_) (by omega) [] ⟨by simp,by simp⟩;·grind
 ·have f:Z (i<g.size)=true:=by rw[hg.size];grind
  have q:7^(K-1+1)<=117649:=by
   have:7^(K-1+1)<=7^6:=ul (by omega)<|by omega
   grind
  obtain⟨r,h,e,j⟩:=zss hg hn (K-1) n [i] o (by simp) ⟨by simp,by grind,by grind⟩ (by simp) (by omega) (by grind) (by omega) b.2;simp only[zvT.l1];rw[zd<|by omega];grind
 ·have d:Z (K<g.size)=false:=by rw[hg.size];simp
  simp only[zvT.l1];grind
def lexP:List Int->List Int->Int|[],[]=>0|[],_::_=>-1|_::_,[]=>1|a::l,b::m=>if a<b then-1 else if b<a then 1 else lexP l m
theorem zru:∀(a b:List Int),lexP b a=-lexP a b|[],[]=>rfl|[],_::_=>rfl|_::_,[]=>rfl|a::l,b::m=>by have:=zru l m;simp only[lexP];split<;>split<;>omega
theorem zpz:∀{a b:List Int},lexP a b=0->a=b
 |[],[],_=>rfl|[],_::_,h=>by simp[lexP]at h|_::_,[],h=>by simp[lexP]at h|a::l,b::m,h=>by
  simp only[lexP]at h;split at h;·omega
  ·split at h;·omega
   ·rw[zpz h,show a=b by omega]
theorem znD:∀{a b c:List Int},lexP a b<0->lexP b c<0->lexP a c<0
 |[],[],c,h,_=>by simp[lexP]at h|[],_::_,[],_,h=>by simp[lexP]at h|[],_::_,_::_,_,_=>by simp[lexP]|_::_,[],_,h,_=>by simp[lexP]at h|_::_,_::_,[],_,h=>by simp[lexP]at h|a::l,b::m,c::k,h1,h2=>by
  simp only[lexP]at*;have ih:=@znD l m k;by_cases e1:a<b
  ·by_cases e2:b<c;·rw[if_pos<|by omega];omega
   ·by_cases e3:c<b;·rw[if_neg e2,if_pos e3]at h2;omega
    ·rw[if_pos<|by omega];omega
  ·by_cases e1':b<a;·rw[if_neg e1,if_pos e1']at h1;omega
   ·rw[if_neg e1,if_neg e1']at h1;by_cases e2:b<c;·rw[if_pos<|by omega];omega
    ·by_cases e3:c<b;·rw[if_neg e2,if_pos e3]at h2;omega
     ·rw[if_neg e2,if_neg e3]at h2;rw[if_neg<|by omega,if_neg<|by omega];exact ih h1 h2
def cmpI (a b:Int):Int:=if a<b then-1 else if b<a then 1 else 0
def cmpC (a b:List Int):Int:=if cmpI a.length b.length≠0 then cmpI a.length b.length else lexP a b
theorem zf8 (a b):cmpC b a=-cmpC a b:=by have:=zru a b;unfold cmpC cmpI;split<;>split<;>(try split)<;>(try split)<;>simp_all<;>omega
theorem zks {a b}(h:cmpC a b=0):a=b:=by
 unfold cmpC at h;split at h;·rename_i hne;exact absurd h hne
 ·exact zpz h
theorem ziY {a b c}(h1:cmpC a b<0)(h2:cmpC b c<0):cmpC a c<0:=by
 have k:∀(x y:List Int),cmpC x y<0↔x.length<y.length\/x.length=y.length/\lexP x y<0:=by
  intro x y;unfold cmpC cmpI;by_cases e:(x.length:Int)<y.length;·simp[e];omega
  ·by_cases e2:(y.length:Int)<x.length;·simp[e,e2];omega
   ·simp[e,e2];omega
 rw[k]at*;rcases h1 with h1|⟨h1,h1'⟩<;>rcases h2 with h2|⟨h2,h2'⟩;·left;omega
 ·left;omega
 ·left;omega
 ·exact .inr ⟨by omega,znD h1' h2'⟩
theorem zkr {a b c}(h1:¬cmpC a b<0)(h2:¬cmpC b c<0):¬cmpC a c<0:=by
 intro h;have n1:=zf8 a b;have n2:=zf8 b c;by_cases e1:cmpC a b=0;·rw[zks e1]at h;exact h2 h
 ·by_cases e2:cmpC b c=0;·rw[<-zks e2]at h;exact h1 h
  ·have:=ziY (a:=c) (b:=b) (c:=a) (by omega) (by omega);have n3:=zf8 a c;omega
theorem zho {n}(a b):zct n a b=O (cmpI a b):=by unfold zct zdL cmpI;simp;split<;>(try split)<;>rfl
theorem zm8 {n a b}(ha:a.length<1000000)(hn:1000000<=n):zq n a b=O (lexP a b):=by
 unfold zq;have:=za4 (σ:=Unit) (body:=zq.l1 n a b) (len:=a.length) (st:=λ_ i=>(i:Int)) (g:=λi _=>O<|lexP (a.drop i)<|b.drop i) (λi _=>i<=b.length) (λrec i s hi hI hr=>?_) (λrec s hI=>?_) n 0 () (yn _) (by omega)<|yn _;·simpa using this
 ·simp only[zq.l1,zy hi,if_true,za hi,ya];by_cases hb:b.length<=i;·have e:b.drop i=[]:=wt hb;rw[if_pos<|by simp;omega,e,zj hi];rfl
  ·rw[if_neg<|by simp;omega,za<|show i<b.length by omega,ya,zho,ya,zd<|by omega,hr ()<|by omega,zj hi,zj<|show i<b.length by omega];simp only[lexP,cmpI];split;·simp
   ·split;·simp
    ·simp
 ·simp only[zq.l1,zaj,ye,if_false];rw[xV];by_cases hb:a.length<b.length;·rw[if_pos<|by simp;omega,zj hb];rfl
  ·rw[if_neg<|by simp;omega,wt<|by omega];rfl
theorem Or_eq {n}(x y)(hn:1000000<=n):zc8 n [x,y]=O (if x≠0 then x else y):=by
 unfold zc8;rw[ze2<|by omega];have e0:idx [x,y] 0=O x:=rfl;have e1:idx [x,y] 1=O y:=rfl;simp only[zc8.l1,e0,ya,yQ,uq];rw[if_pos<|by simp];by_cases hx:x=0
 ·rw[if_neg<|by simp[hx],show zvp 0 1=1 from rfl,ze2<|by omega];simp only[zc8.l1,e1,ya,yQ,uq];rw[if_pos<|by simp];by_cases hy:y=0;·rw[if_neg<|by simp[hy],show zvp 1 1=2 from rfl,ze2<|by omega];simp[zc8.l1,hx,hy]
  ·rw[if_pos<|by simp[hy]];simp[hx]
 ·rw[if_pos<|by simp[hx]];simp[hx]
theorem ziZ {n a b}(ha:a.length<1000000)(hn:1000000<=n):zcu n a b=O (cmpC a b):=by unfold zcu;rw[zho,ya,zm8 ha hn,ya,Or_eq _ _ hn];rfl
theorem zpY {α:Type}{f:α->α->Option Int}{c:α->α->Int}{l:List α}(h1:∀x∈l,∀y∈l,f x y=O (c x y))(irr:∀x,¬c x x<0)(tr:∀x y z,c x y<0->c y z<0->c x z<0)(nt:∀x y z,¬c x y<0->¬c y z<0->¬c x z<0)(hl:l.length<4611686018427387904):zzn f l=O (zyq (λx y=>(f x y).getD 0) l)/\swoB (λx y=>(f x y).getD 0) l=true:=by
 have hs:swoB (λx y=>(f x y).getD 0) l=true:=by
  unfold swoB;rw[yo];intro x hx;rw[yc,yo];refine⟨by simpa[h1 x hx x hx]using irr x,λy hy=>?_⟩;rw[yo];intro z hz;simp only[h1 x hx y hy,h1 y hy z hz,h1 x hx z hz,yi,yc,yH,yD,uF,yf,yK];have a1:=tr x y z;have a2:=nt x y z;constructor
  ·by_cases p:c x y<0
   ·by_cases q:c y z<0;·exact .inr<|a1 p q
    ·exact .inl<|.inr q
   ·exact .inl<|.inl p
  ·by_cases p:c x y<0;·exact .inl<|.inl p
   ·by_cases q:c y z<0;·exact .inl<|.inr q
    ·exact .inr<|a2 p q
 refine⟨?_,hs⟩;unfold zzn;rw[if_pos];simp only[yc,yo,yf];exact⟨⟨λx hx y hy=>by rw[h1 x hx y hy];rfl,hs⟩,hl⟩
theorem zly {n:Nat}{size:Int}{zvI:List Bool}{K:Nat}(hs:size=(K:Int))(h1:1<=K)(h6:K<=6)(hl:zvI.length=K*K)(hn:1000000<=n):∃r,zbx n size zvI=O r/\r.length<=900000/\∀c∈r,zxG K c:=by
 have hg:zwN ⟨size,zvI⟩ K:=⟨hs,h6,hl⟩;obtain⟨out,ho,hol,hov⟩:=zqo hg hn;have h4:K*K<=36:=y8 h6 h6;have e:zvA size size=((K*K:Nat):Int):=by rw[hs];unfold zvA;rw[zau (by rw[<-uj];omega)<|by rw[<-uj];omega];simp
 have hopen:zca n size zvI=O (⟨size,zvI⟩,U):=by unfold zca;rw[e,hl];simp[hs];omega
 unfold zbx;rw[hopen,ya,if_neg<|by simp,ho,ya];obtain⟨s1,s2⟩:=zpY (f:=zcu n) (c:=cmpC) (l:=out) (λx hx y _=>ziZ (by have:=(hov x hx).2.1;omega) hn) (λx=>by have:=zf8 x x;omega) (λ_ _ _=>ziY) (λ_ _ _=>zkr) (by omega);have hp:=zjk s2;exact⟨_,s1,by rw[hp.length_eq];exact hol,λc hc=>hov c<|hp.mem_iff.1 hc⟩
theorem zbi {x y}(h1:-9223372036854775808<=x+y)(h2:x+y<=9223372036854775807):zvp x y=x+y:=zau h1 h2
theorem zeM {x y}(h1:-9223372036854775808<=x*y)(h2:x*y<=9223372036854775807):zvA x y=x*y:=zau h1 h2
theorem zgm {x y}(h1:-9223372036854775808<=x-y)(h2:x-y<=9223372036854775807):zvz x y=x-y:=zau h1 h2
def zgv (r:List<|List Row):Prop:=r.length<=900000/\∀rows∈r,rows.length<=6/\∀row∈rows,row.zvr.length<=1
theorem zkn {n c e f}(k)(he:e.effect.delta.length<=20)(hf:f.effect.delta.length<=20)(hn:1000000<=n):∃r,za0 n k e c f=O r:=by unfold za0;rw[zao _ (by omega)<|by omega,ya,zao _ (by omega)<|by omega,ya];simp_all
theorem zqj {n c e f K cyc b1 k}{Q:List (List Row)->Prop}(hv:zxG K cyc)(h6:K<=6)(he:e.effect.delta.length<=20)(hf:f.effect.delta.length<=20)(hn:1000000<=n)(hb:b1.length<=900000)(hk:∀b,b.length<=b1.length+1->(∀rows∈b,rows∈b1\/rows.length<=6/\∀row∈rows,row.zvr.length<=1)->∃r,k b=O r/\Q r):∃r,zvt (zm.l3 n c e f b1 k cyc) n (([]:List Row),M,M,0)=O r/\Q r:=by
 have u:=hv.2.1;have:=zdn (body:=zm.l3 n c e f b1 k cyc) (k:=cyc.length) (n:=n) (st:=λs i=>(s.1,s.2.1,s.2.2,i)) (λi s=>s.1.length<=i/\∀row∈s.1,row.zvr.length<=1) Q (λg i s l t p=>?_) (λg s t=>?_) (by omega) ([],M,M) ⟨by simp,by simp⟩;·simp_all
 ·obtain⟨o,x,y⟩:=s;have a:∃r:Nat,zwy (zvp i 1) cyc.length=O (r:Int)/\r<cyc.length:=by
   rw[zd<|by omega];refine⟨(i+1)%cyc.length,?_,wE _<|by omega⟩;unfold zwy;grind
  obtain⟨r,h,j⟩:=a;simp only[zm.l3,zy l,za l,ya,h,za j];rw[zao _ (by omega)<|by omega,zao _ (by omega)<|by omega];simp only[yq,yw];obtain⟨z,q⟩:=zkn (n:=n) (c:=c) (e:=e) (f:=f) (zvp (zvA cyc[i] c.size) cyc[r]) he hf hn;rw[q,ya,zk<|by grind,ya,zd<|by omega];exact p (_,_,_) ⟨by simp_all,λrow m=>by grind⟩
 ·obtain⟨o,x,y⟩:=s;simp only[zm.l3,zaj,ye,if_false];split;·rw[zk<|by grind,ya];exact hk _ (by simp) λrows d=>by grind
  simp_all
theorem zus {α}{l}{i:Nat}{x:α}(h:i<l.length):∃r,sto l (i:Int) x=O r/\r.length=l.length:=by grind[sto]
theorem zni {n}{box}{c e f}{K:Nat}(hs:c.size=(K:Int))(h1:1<=K)(h6:K<=6)(h0:0<=c.first)(hbx:c.first+((K*K:Nat):Int)<=(box.length:Int))(hbl:box.length<=1000)(he:e.effect.delta.length<=20)(hf:f.effect.delta.length<=20)(hn:1000000<=n):∃r,zm n box c e f=O r/\zgv r:=by
 have em:zvA c.size c.size=(K*K:Nat):=by grind[zeM]
 have hmk:mkl 1 (zvA c.size c.size) M=O (xw (K*K) M):=by rw[em];unfold mkl;rw[if_pos<|by omega,yr]
 unfold zm;have:=zdn (body:=zm.l1 n box c e f<|xw (K*K) M) (k:=K*K) (n:=n) (st:=λs i=>(s,i)) (λi s=>s.length=K*K) zgv (λrec i s hi hI hr=>?_) (λrec s hI=>?_) (by omega) (xw (K*K) M)<|by simp
 ·simp_all
 ·have hlt:Z (i<(xw (K*K) M).length)=true:=by grind
  obtain⟨z,hz⟩:=zkn (n:=n) (c:=c) (e:=e) (f:=f) i he hf hn;obtain⟨w,hw⟩:=zaD (l:=box) (i:=zvp c.first i) (by grind[zbi]) (by grind[zbi]);obtain⟨s',hs1,hs2⟩:=zus (l:=s) (i:=i) (x:=Z<|1<=zvp w.hi z) (by omega);simp only[zm.l1,za<|show i<s.length by omega];grind[zd]
 ·have hge:Z ((K*K:Nat)<((xw (K*K) M).length:Int))=false:=by simp
  simp only[zm.l1];obtain⟨cyc,hc1,hc2,hc3⟩:=zly (n:=n) (size:=c.size) (zvI:=s) hs h1 h6 hI hn;have:=zdn (body:=zm.l2 n c e f cyc) (k:=cyc.length) (n:=n) (st:=λ(s:List<|List Row)i=>(s,(i:Int))) (λi s=>s.length<=i/\∀rows∈s,rows.length<=6/\∀row∈rows,row.zvr.length<=1) zgv (λrec i s hi hI hr=>?_) (λrec s hI=>?_) (by omega) [] ⟨by simp,by simp⟩;·simp_all
  ·simp only[zm.l2,zy hi,za hi];refine zqj (K:=K) (hc3 _<|yh hi) h6 he hf hn (by grind) λb hb hbr=>?_;grind[zd]
  ·simp only[zm.l2,zaj];exact⟨s,rfl,by grind,hI.2⟩
theorem zrb {n K:Nat}{r}(hl:r.zvr.length<1000000)(hn:1000000<=n):zaN n (K:Int) r=O (zwc K r):=by
 have:=za4 (body:=zaN.l1 n K r) (len:=r.zvr.length) (st:=λs i=>(s,i)) (g:=λi s=>O<|rowP K s (r.zvr.drop i)&&za6 r.bound 1000000000) (λ_ _=>True) (λb i s a _ c=>?_) (λb s _=>?_) n 0 (-1) (yn _) (by omega) trivial;·grind[zaN,zwc]
 ·simp only[zaN.l1,zy a,if_true,za a,ya,zd (i:=i)<|by omega];rw[zj a,rowP];by_cases h:(Z (s<r.zvr[i].cell)&&Z (r.zvr[i].cell<K)&&r.zvr[i].zvy !=0&&za6 r.zvr[i].zvy 1000)=U;·rw[h,yz];simp only[za6]at h;grind
  ·rw[if_pos<|by
    simp only[za6]at h;grind];grind
 ·simp[zaN.l1,za6,rowP]
theorem znR {n K:Nat}{r}(hl:r.zvr.length<1000000)(hn:1000000<=n):zey n r (K:Int)=O (zwc K r):=by
 have:=za4 (body:=zey.l1 n r K) (len:=r.zvr.length) (st:=λs i=>(s,i)) (g:=λi s=>O<|rowP K s (r.zvr.drop i)&&za6 r.bound 1000000000) (λ_ _=>True) (λb i s a _ c=>?_) (λb s _=>?_) n 0 (-1) (yn _) (by omega) trivial;·grind[zey,zwc]
 ·simp only[zey.l1,zy a,if_true,za a,ya,zcg,yq,yw,grd,zd (i:=i)<|by omega];rw[zj a,rowP];by_cases h:(Z (s<r.zvr[i].cell)&&Z (r.zvr[i].cell<K)&&r.zvr[i].zvy !=0&&za6 r.zvr[i].zvy 1000)=U;·rw[h,yz];simp only[za6]at h;grind
  ·rw[if_pos<|by
    simp only[za6]at h;grind];grind
 ·simp[zey.l1,zcg,za6,rowP]
def zoa (R:List Row):Prop:=R.length<1000000/\∀r∈R,r.zvr.length<1000000
theorem zhB {n}{box}{R}(hg:zyK box=U)(hl:box.length<=100)(hR:zoa R)(hn:1000000<=n):zaW n box R=O (R.all<|zwc box.length):=by
 unfold zaW;have:=zA (body:=zaW.l1 n box R) (len:=box.length) (st:=λi=>i) (g:=λ_=>O<|R.all<|zwc box.length) (λa i hi c=>?_) (λa=>?_) n 0 (yn _)<|by omega
 ·grind
 ·have:=yo.1 hg _<|yh hi;have d:(Z (-1000000<=box[i].lo)&&Z (box[i].lo<=1000000))=true:=by grind
  have e:(Z (-1000000<=box[i].hi)&&Z (box[i].hi<=1000000))=true:=by grind
  simp only[zaW.l1,zy hi,if_true,za hi,ya,zcg,d,e,yq,yw,grd,yi,uk,Bool.or_self,ye,if_false,zd (i:=i)<|by omega,c]
 ·simp only[zaW.l1];have b:=hR.1;have:=zal (body:=zaW.l2 n box R) (l:=R) (n:=n) (st:=λi=>i) (zwc box.length) (O M) (O U) (λa i hi=>?_) (λa=>?_)<|by omega
  ·grind
  ·simp only[zaW.l2,za hi,ya,znR (hR.2 _<|yh hi) hn,zd (i:=i)<|by omega];grind
  ·simp[zaW.l2]
theorem zlu {n box}(hg:zyK box=U)(hl:box.length<=100)(hn:1000000<=n):zcI n box=O false:=by
 unfold zcI;have:=zA (body:=zcI.l1 n box) (len:=box.length) (st:=λi=>i) (g:=λ_=>O M) (λb i a c=>?_) (λb=>?_) n 0 (yn _)<|by omega
 ·grind
 ·have:=yo.1 hg _<|yh a;simp only[zcI.l1,zy a,if_true,za a,ya];rw[if_neg<|by grind,zd<|by omega,c]
 ·simp[zcI.l1]
theorem zhG {n l f p}(hf:∀x∈l,f x=O (p x))(hl:l.length<1000000)(hn:1000000<=n):zay n l f=O (l.any p):=by
 unfold zay zi;have:=zA (body:=zi.l1 n l f) (len:=l.length) (st:=λi=>i) (g:=λi=>O<|ixP p (l.drop i) i) (λa i b c=>?_) (λa=>?_) n 0 (yn _)<|by omega
 ·rw[show 0=0 from rfl]at this;grind[zgM]
 ·simp only[zi.l1,if_true,za b,zd (i:=i)<|by omega];grind[zj,ixP]
 ·simp[zi.l1,ixP]
theorem zgw {n l f p}(hf:∀x∈l,f x=O (p x))(hl:l.length<1000000)(hn:1000000<=n):zba n l f=O (l.any p):=by
 unfold zba zab;have:=zA (body:=zab.l1 n l f) (len:=l.length) (st:=λi=>i) (g:=λi=>O<|ixP p (l.drop i) i) (λa i b c=>?_) (λa=>?_) n 0 (yn _)<|by omega
 ·grind[zgM]
 ·simp only[zab.l1,za b,zd (i:=i)<|by omega];grind[zj,ixP]
 ·simp[zab.l1,ixP]
theorem zfQ {n box R}(hg:zyK box=U)(hl:box.length<=100)(hR:zoa R)(hn:1000000<=n):zbj n box R=O (R.all<|zwc box.length):=by
 have f:zaS n box=O true:=by
  unfold zaS;have:=zA (body:=zaS.l1 n box) (len:=box.length) (st:=λi=>i) (g:=λ_=>O U) (λb i a e=>?_) (λb=>?_) n 0 (yn _)<|by omega
  ·grind
  ·have:=yo.1 hg _<|yh a;simp only[zaS.l1,zy a,if_true,za a,ya];rw[if_neg<|by grind,zd<|by omega,e]
  grind[zaS.l1]
 have h:zo n R (λd=>zbJ n d box)=O (R.any λr=>!zwc box.length r):=zcR (λx c=>by unfold zbJ;rw[zrb (hR.2 x c) hn];rfl) hR.1 hn;grind[zbj,grd]
theorem zjc {n box}(hg:zyK box=U)(hl:box.length<=100)(hn:1000000<=n):zck n box=O false:=by
 unfold zck;rw[zhG (f:=λb=>zdm n b) (p:=λr=>Z<|r.hi<r.lo) (λx _=>rfl) (by omega) hn,ya];congr 1;rw[vS];intro r a;have:=yo.1 hg _ a;grind
def zgN (x:Int):Bool:=Z (x< -4000000)||decide (4000000<x)
def zjD (K:Nat)(g:zvP):Bool:=Z (g.size<1)||decide (6<g.size)||decide (g.first<0)||decide (zvz (K:Int) (zvA g.size g.size)<g.first)||(g.least.length:Int)!=zvA g.size g.size
def zfk (K:Nat)(g:zvP):Bool:=!zjD K g&&!g.least.any zgN
def zyG (K:Nat)(rows:List Row):Bool:=Z (rows.length<=64)&&rows.all (zwc K)
def sysP (K:Nat)(R:List Row)(G:List zvP)(cs:List<|List Row):Bool:=Z (R.length<=1024)&&R.all (zwc K)&&Z (G.length<=64)&&Z (cs.length<=1024)&&(G.all (zfk K)&&cs.all (zyG K))
structure zzO (R:List Row)(G:List zvP)(cs:List<|List Row):Prop where
 rows:zoa R
 zvv:G.length<1000000/\∀g∈G,g.least.length<1000000
 cases:cs.length<1000000/\∀rows∈cs,zoa rows
theorem zlc {n K:Nat}{g}(hl:g.least.length<1000000)(hn:1000000<=n):zfw n (K:Int) g=O (zfk K g):=by
 unfold zfw zfk;by_cases h:zjD K g=U;·grind[zjD]
 ·have a:=h;unfold zjD at a;rw[if_neg a,zbs (f:=λb=>zfI n b) (p:=zgN) (λx _=>rfl) (by omega)<|by omega,ya];grind
theorem zd0 {n}{box}{R}{G}{cs}(hg:zyK box=U)(hl:box.length<=100)(hS:zzO R G cs)(hn:1000000<=n):zar n ⟨box,R,G,cs⟩=O (sysP box.length R G cs):=by
 unfold zar;have hrows:∀(rows:List Row)(k:Int),zoa rows->zeg n ⟨box,R,G,cs⟩ rows k=O (Z (rows.length<=k)&&rows.all (zwc box.length)):=λrows k hr=>by unfold zeg;simp only[zfQ hg hl hr hn,yq,yw,grd,if_true,yi]
 have hbox:zbj n box []=O true:=by rw[zfQ hg hl ⟨by simp,by simp⟩ hn];rfl
 simp only[zjc hg hl hn,hrows R 1024 hS.rows,grd];have hloop:zvt (zar.l1 n ⟨box,R,G,cs⟩) n 0=O (G.all (zfk box.length)&&cs.all (zyG box.length)):=by
  have:=zal (body:=zar.l1 n ⟨box,R,G,cs⟩) (l:=G) (n:=n) (st:=λi=>i) (zfk box.length) (O M) (O<|cs.all<|zyG box.length) (λrec i hi=>?_) (λrec=>?_)<|by have:=hS.zvv.1;omega
  ·grind
  ·simp only[zar.l1,za hi,ya,zlc (hS.zvv.2 _<|yh hi) hn,zd<|show i<4611686018427387904 by have:=hS.zvv.1;omega];grind
  ·simp only[zar.l1];rw[zgw (p:=λrows=>!zyG box.length rows) (λx hx=>by
    unfold zfH;rw[hrows x 64<|hS.cases.2 x hx,ya];congr 2;unfold zyG;grind) hS.cases.1 hn,ya];grind
 have e1:Z (R.length<=1024)=Z (R.length<=1024):=decide_eq_decide.2 (by omega);have e2:Z (64<(G.length:Int))=!decide (G.length<=64):=by grind
 have e3:Z (1024<(cs.length:Int))=!decide (cs.length<=1024):=by grind
 unfold sysP;grind
theorem zhC {n box R G cs}(hg:zyK box=U)(hl:box.length<=100)(hS:zzO R G cs)(hn:1000000<=n):zak n ⟨box,R,G,cs⟩=O (sysP box.length R G cs):=by
 unfold zak;simp only[zhB hg hl hS.rows hn,zlu hg hl hn,grd];have hgr:∀i(rec:Int->Option Bool)(hi:i<G.length),zak.l2 n ⟨box,R,G,cs⟩ rec (i:Int)=if zfk box.length G[i]=U then rec ((i+1:Nat):Int)else O false:=λi rec hi=>by
  have hgl:=hS.zvv.2 _<|yh hi;have h3:=zal (body:=zak.l3 n (i:Int) rec G[i]) (l:=G[i].least) (n:=n) (st:=λj=>(j:Int)) (λx=>!zgN x) (O M) (rec<|zvp (i:Int) 1) (λrec' j hj=>?_) (λrec'=>?_)<|by omega
  ·rw[show((0:Nat):Int)=0 from rfl]at h3;simp only[zak.l2,zy hi,if_true,za hi,ya,h3,zd<|show i<4611686018427387904 by have:=hS.zvv.1;omega];by_cases h:zjD box.length G[i]=U;·have h':=h;unfold zjD at h';rw[if_pos h',if_neg<|by grind[zfk]]
   ·have h':=h;unfold zjD at h';rw[if_neg h'];have e:zfk box.length G[i]=G[i].least.all λx=>!zgN x:=by
     unfold zfk;grind
    rw[e]
  ·simp only[zak.l3,za hj,grd,zd (i:=j)<|by omega];by_cases h:zgN G[i].least[j]=U;·have h':=h;unfold zgN at h';simp_all
   ·have h':=h;unfold zgN at h';grind
  ·simp[zak.l3]
 have hloop:zvt (zak.l1 n ⟨box,R,G,cs⟩) n 0=O (G.all (zfk box.length)&&cs.all (zyG box.length)):=by
  have:=zal (body:=zak.l1 n ⟨box,R,G,cs⟩) (l:=cs) (n:=n) (st:=λi=>(i:Int)) (zyG box.length) (O M) (O<|G.all<|zfk box.length) (λrec i hi=>?_) (λrec=>?_)<|by have:=hS.cases.1;omega
  ·grind
  ·simp only[zak.l1,za hi,zhB hg hl (hS.cases.2 _<|yh hi) hn,grd,yi,zd<|show i<4611686018427387904 by have:=hS.cases.1;omega];unfold zyG;grind
  ·simp only[zak.l1,zaj,ye,if_false];have:=zal (body:=zak.l2 n ⟨box,R,G,cs⟩) (l:=G) (n:=n) (st:=λi=>(i:Int)) (zfk box.length) (O M) (O U) (λrec i hi=>hgr i rec hi) (λrec=>?_)<|by have:=hS.zvv.1;omega
   ·grind
   ·simp[zak.l2]
 grind[sysP,decide,zwc]
theorem zeR {n}{r}{f g}{fP:Int->Int}{B}(hf:∀x,f x=O (fP x))(hg:g r.bound=O B)(hl:r.zvr.length<=1000)(hn:1000000<=n):zV n r f g=O ⟨r.zvr.map λt=>⟨t.cell,fP t.zvy⟩,B⟩:=by
 unfold zV;have:=zet (body:=zV.l1 n r f B) (l:=r.zvr) (n:=n) (st:=λb i=>(b,i)) (λt=>⟨t.cell,fP t.zvy⟩) (λb=>O ⟨b,B⟩) [] (λa b i d c=>?_) (λa b c=>?_)<|by omega
 ·grind
 ·simp only[zV.l1,za d];grind[zk,zd]
 ·simp[zV.l1]
theorem zr9 {n}{r}(hl:r.zvr.length<=1000)(hn:1000000<=n):zV n r (λq0=>zbw n q0) (λq0=>zbw n q0)=O r:=by rw[zeR (f:=λq0=>zbw n q0) (g:=λq0=>zbw n q0) (fP:=id) (B:=r.bound) (λ_=>rfl) rfl hl hn];simp
theorem zrk {n K:Nat}{c}{f}(hK:zvA c.size c.size=(K:Int))(hK2:K<=36)(hf:∀x,∃y,f x=O y)(hn:1000000<=n):∃g,zH n c f=O g/\g.least.length<=36:=by
 unfold zH;have:=zdn (body:=zH.l1 n c f) (k:=K) (n:=n) (st:=λb i=>(b,i)) (λi b=>b.length<=i) (λg=>g.least.length<=36) (λa i b h e j=>?_) (λa b e=>?_) (by omega) []<|by simp
 ·grind
 ·obtain⟨y,d⟩:=hf<|zvp c.first i;simp only[zH.l1,d,ya];rw[zk<|by grind,ya,zd<|by omega];simp_all
 ·simp only[zH.l1,hK];grind
structure zwZ (K:Nat)(c:Constraint):Prop where
 kind:c.kind=0\/c.kind=1
 len:c.row.zvr.length<=1000
 sz:c.kind=1->∃s:Nat,c.size=(s:Int)/\1<=s/\s<=6/\0<=c.first/\c.first+((s*s:Nat):Int)<=(K:Int)
theorem zwZ.mul {K c}(h:zwZ K c)(hk:c.kind=1):∃k:Nat,zvA c.size c.size=(k:Int)/\k<=36:=by
 obtain⟨s,d,e,a,-⟩:=h.sz hk;have b:=y8 a a;refine⟨s*s,?_,b⟩;grind[zeM]
structure zwu (a:Action):Prop where
 delta:a.effect.delta.length<=20
 hold:a.effect.hold.length<=10
 zvr:∀r∈a.effect.hold,r.zvr.length<=1000
theorem zhf {n K a c}(ha:zwu a)(hc:zwZ K c)(hk:c.kind=1)(hn:1000000<=n):∃l,zD n a c=O l:=by obtain⟨k,b,d⟩:=hc.mul hk;have:=ha.delta;exact⟨_,zdx b (by omega) (by omega) (by omega)<|by omega⟩
theorem zhb {n a r}(ha:zwu a)(hr:r.zvr.length<=1000)(hn:1000000<=n):∃x,zJ n a r=O x:=by have:=ha.delta;exact⟨_,zcF (by omega) (by omega) (by omega)<|by omega⟩
noncomputable def gr (n:Nat)(c:Constraint)(f:Int->Option Int):zvP:=(zH n c f).getD J
noncomputable def gS (n:Nat)(ef:Bool)(a b:Action)(c:Constraint):List zvP:=if(c.kind !=1)=U then[]else[gr n c λq0=>za7 n q0]++((if Z (0<(((zD n a c).getD []).length:Int))=U then[gr n c λq0=>zR n q0 a]else[])++if(ef&&Z (0<(((zD n b c).getD J).length:Int)))=U then[gr n c λq0=>zai n q0 b]else[])
noncomputable def finS (n:Nat)(box:List Range)(a b:Action)(R:List Row)(c:Constraint)(G:List zvP):Option<|System×Int:=jn (λ(v:List Row×List (List Row))=>let b6_150:=v.1;let c3_3_151:=v.2;(zar n (⟨box,b6_150,G,c3_3_151⟩:System)).bind λx267_155=>if(!x267_155)=U then O ((⟨[],[],[],[]⟩:System),8)else O ((⟨box,b6_150,G,c3_3_151⟩:System),0)) λk_152=>if(c.kind==1)=U then(zm n box c a b).bind λx254_153=>if((x254_153.length:Int)==0)=U then(app 32 R [(⟨[],-1⟩:Row)]).bind λx264_154=>k_152 (x264_154,x254_153)else k_152 (R,x254_153)else k_152 (R,[])
theorem zeq {n K}{c}{f}(hc:zwZ K c)(hk:c.kind=1)(hf:∀x,∃y,f x=O y)(hn:1000000<=n):zH n c f=O (gr n c f)/\(gr n c f).least.length<=36:=by
 obtain⟨k,b,a⟩:=hc.mul hk;obtain⟨g,e,d⟩:=zrk b a hf hn;unfold gr;grind
theorem zpm {n K ef a b c}(ha:zwu a)(hb:zwu b)(hc:zwZ K c)(hn:1000000<=n):(gS n ef a b c).length<=3/\∀g∈gS n ef a b c,g.least.length<=36:=by
 unfold gS;split;·simp
 ·rename_i hk;have hk:c.kind=1:=by simpa using hk
  have f3:∀x,∃y,zR n x a=O y:=λx=>by unfold zR;have:=ha.delta;rw[zao _ (by omega)<|by omega];exact⟨_,rfl⟩
  have f4:∀x,∃y,zai n x b=O y:=λx=>by unfold zai;have:=hb.delta;rw[zao _ (by omega)<|by omega];exact⟨_,rfl⟩
  have g2:=(zeq (f:=λq0=>za7 n q0) hc hk (λx=>⟨_,rfl⟩) hn).2;have g3:=(zeq (f:=λq0=>zR n q0 a) hc hk f3 hn).2;have g4:=(zeq (f:=λq0=>zai n q0 b) hc hk f4 hn).2;constructor;·split<;>split<;>simp
  grind[List.mem_singleton]
theorem zj6 {n K m q a b box R c}(ha:zwu a)(hb:zwu b)(hc:∀c∈m.constraints,zwZ K c)(hl:m.constraints.length<=1000)(hn:1000000<=n):zvt (zf.l4 n m q a b box R c.kind c.family c.row.zvr c.row.bound c.first c.size) n ([],0)=finS n box a b R c ((xm m.constraints.length).flatMap λi=>gS n (q.e !=q.f) a b<|m.constraints.getD i J):=by
 have:=zcw (body:=zf.l4 n m q a b box R c.kind c.family c.row.zvr c.row.bound c.first c.size) (k:=m.constraints.length) (n:=n) (st:=λb i=>(b,(i:Int))) (λi=>gS n (q.e !=q.f) a b<|m.constraints.getD i J) (finS n box a b R c) 3 [] (λi hi=>?_) (λrec b7 i hi hI=>?_) (λrec b7 hI=>?_)<|by omega
 ·grind
 ·grind[J,vD,zpm,List.getElem_mem]
 ·have e:m.constraints.getD i J=m.constraints[i]:=by grind
  have hci:=hc _<|yh hi;have hI':b7.length<=3000:=by grind
  simp only[zf.l4,zy hi,if_true,jn,za hi,ya,e,zd (i:=i)<|by omega];unfold gS;by_cases hk:(m.constraints[i].kind !=1)=U;·grind
  ·rw[if_neg hk,if_neg hk];have hk:m.constraints[i].kind=1:=by grind
   have f3:∀x,∃y,zR n x a=O y:=λx=>by unfold zR;have:=ha.delta;rw[zao _ (by omega)<|by omega];exact⟨_,rfl⟩
   have f4:∀x,∃y,zai n x b=O y:=λx=>by unfold zai;have:=hb.delta;rw[zao _ (by omega)<|by omega];exact⟨_,rfl⟩
   obtain⟨ra,hra⟩:=zhf ha hci hk hn;obtain⟨rb,hrb⟩:=zhf hb hci hk hn;rw[(zeq (f:=λq0=>za7 n q0) hci hk (λx=>⟨_,rfl⟩) hn).1,(zeq (f:=λq0=>zR n q0 a) hci hk f3 hn).1,(zeq (f:=λq0=>zai n q0 b) hci hk f4 hn).1,hra,hrb];simp only[ya,yi,yq,yw,grd,if_true];rw[zk<|by simp;omega,ya];by_cases h3:Z (0<(ra.length:Int))=U
   ·rw[if_pos h3,if_pos h3,zk<|by simp;omega,ya];by_cases h4:(q.e !=q.f&&Z (0<(rb.length:Int)))=U;·rw[if_pos h4,if_pos h4,zk<|by simp;omega,ya];simp only[yJ]
    ·rw[if_neg h4,if_neg h4];simp only[yJ,ud]
   ·rw[if_neg h3,if_neg h3];by_cases h4:(q.e !=q.f&&Z (0<(rb.length:Int)))=U;·rw[if_pos h4,if_pos h4,zk<|by simp;omega,ya];simp only[yJ,yR]
    ·rw[if_neg h4,if_neg h4];simp only[ud]
 ·simp only[zf.l4,zaj,ye,if_false];rfl
noncomputable def zdK (n:Nat)(m:Model)(q:Question)(a b:Action)(box:List Range)(R:List Row):Option<|System×Int:=jn (λ(v:List Row×Int×Int×List Term×Int×Int×Int)=>let b6_84:=v.1;let c9_0_85:=v.2.1;let c9_1_86:=v.2.2.1;let c9_2_87:=v.2.2.2.1;let c9_3_88:=v.2.2.2.2.1;let c9_4_89:=v.2.2.2.2.2.1;let c9_5_90:=v.2.2.2.2.2.2;zvt (zf.l4 n m q a b box b6_84 c9_0_85 c9_1_86 c9_2_87 c9_3_88 c9_4_89 c9_5_90) n (([]:List zvP),0)) λk_91=>if q.target.hold=U then(idx a.effect.hold q.target.index).bind λx164_92=>(zJ n b x164_92).bind λx170_93=>(zV n x164_92 (λq0=>za1 n q0) λq0=>zav n q0 x170_93).bind λx9_94=>(app 32 R [x9_94]).bind λx11_95=>k_91 (x11_95,0,0,[],0,0,0)else(idx m.constraints q.target.index).bind λx177_96=>if(x177_96.kind==0)=U then(zJ n a x177_96.row).bind λx188_97=>(zJ n b x177_96.row).bind λx192_98=>(zV n x177_96.row (λq0=>za1 n q0) λq0=>zav n q0<|zvp x188_97 x192_98).bind λx9_99=>(app 32 R [x9_99]).bind λx11_100=>k_91 (x11_100,x177_96.kind,x177_96.family,x177_96.row.zvr,x177_96.row.bound,x177_96.first,x177_96.size)else k_91 (R,x177_96.kind,x177_96.family,x177_96.row.zvr,x177_96.row.bound,x177_96.first,x177_96.size)
noncomputable def zyw (n:Nat)(m:Model)(q:Question)(a b:Action)(box:List Range)(R:List Row):Option<|System×Int:=(app 32 [] a.effect.hold).bind λx128_64=>jn (λ(v:List Row)=>let b8_65:=v;zvt (zf.l3 n m q a b box b8_65) n (R,0)) λk_66=>if(q.e !=q.f)=U then(app 32 x128_64 b.effect.hold).bind λx138_67=>k_66 x138_67 else k_66 x128_64
def endS (n:Nat)(S:System)(v:Option Bool):Option<|System×Int:=v.bind λv=>if(!v)=U then O ((⟨[],[],[],[]⟩:System),8)else O (S,0)
noncomputable def chgN (n:Nat)(a:Action)(r:Row):Int:=(zJ n a r).getD 0
noncomputable def kS (n:Nat)(q:Question)(rows:List Int)(a b:Action)(i:Nat)(c:Constraint):Int:=if(Z ((i:Int)∈rows)&&(q.target.hold||q.target.index !=(i:Int)))=U then gmax (gmax (gmax 0<|chgN n a c.row)<|chgN n b c.row)<|zvp (chgN n a c.row)<|chgN n b c.row else gmax (gmax 0<|chgN n a c.row)<|chgN n b c.row
noncomputable def rowS (n:Nat)(q:Question)(rows:List Int)(a b:Action)(i:Nat)(c:Constraint):List Row:=if(c.kind !=0)=U then[]else[⟨c.row.zvr,zvz c.row.bound<|kS n q rows a b i c⟩]
noncomputable def zw3 (n:Nat)(m:Model)(q:Question)(rows:List Int)(a b:Action):List Row:=(xm m.constraints.length).flatMap λi=>rowS n q rows a b i<|m.constraints.getD i J
theorem zeQ {n a r}(ha:zwu a)(hr:r.zvr.length<=1000)(hn:1000000<=n):zJ n a r=O (chgN n a r):=by grind[zhb,chgN]
theorem zr3 {n m q rows a b box}(ha:zwu a)(hb:zwu b)(hc:∀c∈m.constraints,zwZ box.length c)(hl:m.constraints.length<=1000)(hr:rows.length<=1000)(hn:1000000<=n):zvt (zf.l2 n m q rows a b box) n ([],0)=zyw n m q a b box (zw3 n m q rows a b):=by
 have:=zcw (body:=zf.l2 n m q rows a b box) (k:=m.constraints.length) (n:=n) (st:=λb i=>(b,i)) (λi=>rowS n q rows a b i<|m.constraints.getD i J) (zyw n m q a b box) 1 [] (λi j=>?_) (λo b6 i j u=>?_) (λo b6 u=>?_)<|by omega
 ·grind[zw3]
 ·grind[rowS]
 ·have e:m.constraints.getD i J=m.constraints[i]:=by simp_all
  have d:=hc _<|yh j;rw[e];simp only[zf.l2,zy j,if_true,jn,za j,ya,zeQ ha d.len hn,zeQ hb d.len hn,zeA (show rows.length<1000000 by omega) hn];unfold rowS;by_cases l:(m.constraints[i].kind !=0)=U;·rw[if_pos l,if_pos l,ud,zd<|by omega]
  ·rw[if_neg l,if_neg l];have h:=λk=>zeR (n:=n) (r:=m.constraints[i].row) (f:=λs=>zbw n s) (g:=λs=>zeC n s k) (fP:=id) (B:=zvz m.constraints[i].row.bound k) (λ_=>rfl) rfl d.len hn;have p:(m.constraints[i].row.zvr.map λt=>⟨t.cell,id t.zvy⟩)=m.constraints[i].row.zvr:=by simp
   simp only[p]at h;unfold kS;split<;>(rw[h,ya,zk<|by grind,ya,zd<|by omega])
 ·simp only[zf.l2,zaj];rfl
def badR (m:Model)(x:Int):Bool:=Z (x<0)||decide ((m.constraints.length:Int)<=x)||((idx m.constraints x).getD J).kind !=0
theorem zh7 {n m q rows a b}(hF:Fuel n)(hS:zvS m)(hV:zwn m)(hq:zdh m q=U)(ha:idx m.zvq q.e=O a)(hb:idx m.zvq q.f=O b)(hA:zwu a)(hB:zwu b)(hc:∀c∈m.constraints,zwZ (boxM m).length c)(hr:rows.length<=1000):zf n m q rows=if(rows.all λx=>!badR m x)=U then zyw n m q a b (boxM m)<|zw3 n m q rows a b else O (⟨[],[],[],[]⟩,2):=by
 have r:=hF.big;have k:=hS.constraints;have o:zfm n m=O (boxM m):=by unfold zfm zgU;rw[zhu hF hS,zdg.2 hV,ya,if_neg<|by simp,zgz hF (by have:=hS.zvu;omega) (by have:=hS.tables;omega) λt p=>by have:=(hS.tab t p).2;omega,if_pos hV.lay];rfl
 unfold zf;rw[zf3 hF hS,zdg.2 hV,hq,ya,if_neg<|by simp];have:=zal (body:=zf.l1 n m q rows) (l:=rows) (n:=n) (st:=λi=>i) (λx=>!badR m x) (O (⟨[],[],[],[]⟩,2)) (zyw n m q a b (boxM m)<|zw3 n m q rows a b) (λg i h=>?_) (λg=>?_)<|by omega
 ·simp_all
 ·simp only[zf.l1,zy h,za h,ya];by_cases e:(Z (rows[i]<0)||decide (m.constraints.length<=rows[i]))=U
  ·have d:badR m rows[i]=true:=by grind[badR]
   rw[d];simp only[e,uE,grd,if_true,uk,ye,if_false]
  ·have f:=e;simp only[yH,yf,not_or,Int.not_le,Int.not_lt]at f;obtain⟨c,j⟩:=zaD f.1 f.2;unfold badR;simp only[e,grd,zd (i:=i)<|by omega];simp_all
 ·simp only[zf.l1];grind[zr3]
def zy9 (x:Int):Prop:=-4611686018427387904<=x/\x<=4611686018427387904
theorem zso {a b:Int}(ha:zy9 a):zy9<|a.tdiv b:=by
 have c:=Int.natAbs_tdiv_le_natAbs a b;grind[zy9]
theorem zum {a b}(hb:0<b)(ha:zy9 a):zwx a b=O (a.tdiv b):=by
 have h:=zso (b:=b) ha;unfold zwx;rw[if_neg<|by omega,zau (by have:=h.1;omega)<|by have:=h.2;omega]
theorem zuo {a b}(hb:0<b):zwy a b=O (a.tmod b):=by
 unfold zwy;grind
theorem zra {a b:Int}(hb:0<b):a/b=if a.tmod b<0 then a.tdiv b-1 else a.tdiv b:=by
 have d:=Int.mul_tdiv_add_tmod a b;have e:=Int.tmod_lt_of_pos a hb;have c:=Int.lt_tmod_of_pos a hb;generalize a.tdiv b=q at*;generalize a.tmod b=r at*;split;·exact(Int.ediv_emod_unique hb (r:=r+b) (q:=q-1).2 ⟨by grind,by omega,by omega⟩).1
 grind[Int.ediv_emod_unique]
theorem zmq {n}{a b}(hb:0<b)(ha:zy9 a):zcL n a b=O (a/b):=by
 have h:=zso (b:=b) ha;unfold zcL;rw[zum hb ha,ya,zuo hb];simp only[jn];rw[zra hb];have f:zvz (a.tdiv b) 1=a.tdiv b-1:=zau (by have:=h.1;omega)<|by have:=h.2;omega
 have g:(a.tmod b !=0&&Z (a<0)!=Z (b<0))=Z (a.tmod b<0):=by
  have d:Z (b<0)=false:=by grind
  by_cases c:a<0
  ·have e:a.tmod b<=0:=by
    have:=Int.tmod_nonneg (a:=-a) b<|by omega
    simp_all
   grind
  grind[Int.tmod_nonneg]
 grind
def boxS (b:List Range):Prop:=∀r∈b,-1000000<=r.lo/\r.lo<=1000000/\-1000000<=r.hi/\r.hi<=1000000
def rgP (b:List Range)(c:Int):Range:=b.getD c.toNat J
def endP (b:List Range)(t:Term):Int:=if 0<t.zvy then t.zvy*(rgP b t.cell).lo else t.zvy*(rgP b t.cell).hi
def zxa (b:List Range)(c:Int):List Term->Int|[]=>0|t::l=>(if t.cell=c then 0 else endP b t)+zxa b c l
theorem zjP (b c):∀l m,zxa b c (l++m)=zxa b c l+zxa b c m|[],m=>by simp[zxa]|t::l,m=>by simp only[uv,zxa,zjP b c l m];omega
theorem zij {b}{c}(h0:0<=c)(h1:c<(b.length:Int)):idx b c=O (rgP b c):=by
 unfold idx rgP;simp_all
theorem ziF {b}{c}(h0:0<=c)(h1:c<(b.length:Int)):rgP b c∈b:=by grind[rgP]
theorem ztZ {b}{t}(hb:boxS b)(ht:zfe b.length t):-1000000000<=endP b t/\endP b t<=1000000000:=by
 obtain⟨f,e,a,c⟩:=ht;obtain⟨g,h,i,d⟩:=hb _<|ziF f e;unfold endP;split;·exact zjK a c g h
 ·exact zjK a c i d
theorem zmY {b}{c}(hb:boxS b):∀{l},(∀t∈l,zfe b.length t)->-(1000000000*(l.length:Int))<=zxa b c l/\zxa b c l<=1000000000*(l.length:Int)
 |[],_=>by simp[zxa]|t::l,a=>by
  have e:=ztZ hb<|a t<|by simp
  have f:=zmY (c:=c) hb λx d=>a x<|yZ _ d;grind[zxa]
theorem zsB {n}{r}{b}{c}(hb:boxS b)(ht:∀t∈r.zvr,zfe b.length t)(hl:r.zvr.length<=1000)(hn:1000000<=n):zby n r b c 1=O (zxa b c r.zvr):=by
 have:=zA (body:=zby.l1 n r b c 1) (len:=r.zvr.length) (st:=λi=>(zxa b c<|r.zvr.take i,i)) (g:=λ_=>O<|zxa b c r.zvr) (λd i hi a=>?_) (λd=>?_) n 0 (yn _)<|by omega
 ·grind[zby,zxa]
 ·rw[yu hi,zjP]at a;obtain⟨f,e,j,k⟩:=ht _<|yh hi;obtain⟨o,q,m,p⟩:=hb _<|ziF f e;have u:=zmY (c:=c) hb (l:=r.zvr.take i) λt h=>ht t<|wr h;have v:=zjK j k o q;have w:=zjK j k m p;have x:zvA r.zvr[i].zvy 1=r.zvr[i].zvy:=by grind[zvA,zau]
  have y:zvA r.zvr[i].zvy (rgP b r.zvr[i].cell).lo=r.zvr[i].zvy*(rgP b r.zvr[i].cell).lo:=zau (by omega)<|by omega
  have z:zvA r.zvr[i].zvy (rgP b r.zvr[i].cell).hi=r.zvr[i].zvy*(rgP b r.zvr[i].cell).hi:=zau (by omega)<|by omega
  simp only[zxa,endP]at a;simp only[zby.l1,za hi,zij f e,ya,jn,zd (i:=i)<|by omega];split at a<;>rename_i h;·simp_all
  ·split at a<;>rename_i s;·grind[zvp,zau]
   ·grind[zvp,zau]
 ·simp[zby.l1]
def facP (c:Int):List Term->Int->Int|[],f=>f|t::l,f=>facP c l<|if t.cell=c then t.zvy else f
def zhE (o:Range)(rest f:Int):Range:=if f=0 then o else let lo:=if f<0 then max o.lo<|-(rest/ -f)else o.lo;let hi:=if 0<f then min o.hi<|rest/f else o.hi;if hi<lo then⟨1,0⟩else⟨lo,hi⟩
def zcq (r:Row)(b:List Range)(c:Int):Range:=zhE (rgP b c) (r.bound-zxa b c r.zvr)<|facP c r.zvr 0
theorem zt2 (x y):gmin x y=min x y:=by grind[gmin]
theorem zt1 (x y):gmax x y=max x y:=by grind[gmax]
theorem zgF {c}:∀{l}{f},(∀t∈l,t.cell≠c)->facP c l f=f
 |[],_,_=>rfl|t::l,f,h=>by
  simp only[facP];rw[if_neg<|h t<|by simp];exact zgF λx a=>h x<|yZ _ a
theorem zmo {c}:∀{l}{f}{t},(l.map (·.cell)).Nodup->t∈l->t.cell=c->facP c l f=t.zvy
 |[],_,_,_,h,_=>by grind|x::l,f,t,a,h,b=>by
  simp only[yU,List.nodup_cons]at a;simp only[facP];rcases yE.1 h with rfl|h
  ·rw[if_pos b];exact zgF λy d e=>a.1<|by simp_all
  ·exact zmo a.2 h b
def ixT (c:Int):List Term->Nat->Int|[],_=>-1|t::l,i=>if t.cell=c then(i:Int)else ixT c l<|i+1
theorem znb {n}{l}{c}(hl:l.length<=1000)(hn:1000000<=n):zG n l (λq0=>zcd n q0 c)=O (ixT c l 0):=by
 have:=zA (body:=zG.l1 n l λq0=>zcd n q0 c) (len:=l.length) (st:=λi=>i) (g:=λi=>O<|ixT c (l.drop i) i) (λa i b d=>?_) (λa=>?_) n 0 (yn _)<|by omega
 ·grind[zG]
 ·rw[zj b];simp only[zG.l1,za b,zcd,zd (i:=i)<|by omega,ixT];grind
 ·simp[zG.l1,ixT]
theorem znA {c}:∀(l)(k),(∀t∈l,t.cell≠c)/\ixT c l k=-1\/∃i,∃hi:i<l.length,l[i].cell=c/\ixT c l k=((k+i:Nat):Int)
 |[],k=>.inl ⟨by simp,rfl⟩|t::l,k=>by
  simp only[ixT];by_cases h:t.cell=c;·grind
  ·rcases znA (c:=c) l<|k+1 with⟨b,a⟩|⟨i,hi,b,a⟩;·simp_all
   ·exact .inr ⟨i+1,by simp_all,by simp_all,by grind⟩
theorem zqL {n}{r}{b}{c}(hb:boxS b)(ht:∀t∈r.zvr,zfe b.length t)(hf0:∀t∈r.zvr,t.zvy≠0)(hnd:(r.zvr.map (·.cell)).Nodup)(hl:r.zvr.length<=1000)(hB:-1000000000<=r.bound/\r.bound<=1000000000)(h0:0<=c)(h1:c<(b.length:Int))(hn:1000000<=n):zdr n r b c=O (zcq r b c):=by
 unfold zdr;rw[zij h0 h1,ya,znb hl hn,ya];rcases znA (c:=c) r.zvr 0 with⟨k,m⟩|⟨i,j,k,m⟩;·grind[zcq,zgF,zhE]
 ·rw[m];have e:=yh j;have g:=zmo (f:=0) hnd e k;have v:=zmY (c:=c) hb ht;obtain⟨-,-,w,x⟩:=ht _ e;have s:=hf0 _ e;simp only[uh];rw[if_neg<|by simp,za j,ya,zsB hb ht hl hn,ya];unfold zcq zhE;generalize r.zvr[i].zvy=f at*;generalize zxa b c r.zvr=R at*;have d:zy9<|r.bound-R:=⟨by omega,by omega⟩;have u:zvz r.bound R=r.bound-R:=zau (by omega)<|by omega
  simp only[jn,zdm,zt2,zt1];by_cases h:0<f
  ·have q:=zmq (n:=n) (a:=r.bound-R) (b:=f) h d;grind
  ·have l:zwb f=-f:=zau (by omega)<|by omega
   have q:=zmq (n:=n) (a:=r.bound-R) (b:=-f) (by omega) d;have o:zy9<|(r.bound-R)/ -f:=⟨Int.le_trans (by omega)<|(vb<|by omega).2<|show-4611686018427387904*-f<=r.bound-R by omega,Int.ediv_le_of_le_mul (by omega)<|by omega⟩;have p:zwb ((r.bound-R)/ -f)=-((r.bound-R)/ -f):=zau (by have:=o.2;omega)<|by have:=o.1;omega
   grind
def zzc (k last:Int):List Term->Bool|[]=>U|t::l=>!(Z (t.cell<=last)||decide (k<=t.cell)||t.zvy==0||decide (t.zvy< -1000)||decide (1000<t.zvy))&&zzc k t.cell l
def zym (k:Int)(r:Row):Bool:=zzc k (-1) r.zvr&&(Z (-1000000000<=r.bound)&&Z (r.bound<=1000000000))
def zz3 (l:List Term)(i:Nat):Int:=match i with|0=>-1|i+1=>(l.getD i J).cell
theorem zqu {l}{i}(h):zz3 l (i+1)=l[i].cell:=by simp[zz3,h]
theorem zpk {n}{k}{r}(hl:r.zvr.length<=1000)(hn:1000000<=n):zaN n k r=O (zym k r):=by
 have:=zA (body:=zaN.l1 n k r) (len:=r.zvr.length) (st:=λi=>(zz3 r.zvr i,i)) (g:=λi=>O<|zzc k (zz3 r.zvr i) (r.zvr.drop i)&&(Z (-1000000000<=r.bound)&&Z (r.bound<=1000000000))) (λb i a c=>?_) (λb=>?_) n 0 (yn _)<|by omega
 ·grind[zaN,zz3,zym]
 ·rw[zj a];rw[zqu a]at c;simp only[zaN.l1,za a,zd (i:=i)<|by omega,zzc];grind
 ·simp[zaN.l1,zzc]
def boxP (b:List Range):Bool:=b.all (λr=>!(Z (r.lo< -1000000)||decide (1000000<r.lo)||decide (r.hi< -1000000)||decide (1000000<r.hi)))&&Z ((b.length:Int)<=128)
theorem zqX {b}(h:boxP b=U):boxS b:=λr a=>by
 simp only[boxP]at h;simp_all
theorem zto {n}{b}(hl:b.length<=1000)(hn:1000000<=n):zaS n b=O (boxP b):=by
 have:=zA (body:=zaS.l1 n b) (len:=b.length) (st:=λi=>i) (g:=λi=>O<|(b.drop i).all (λr=>!(Z (r.lo< -1000000)||decide (1000000<r.lo)||decide (r.hi< -1000000)||decide (1000000<r.hi)))&&Z ((b.length:Int)<=128)) (λa i c d=>?_) (λa=>?_) n 0 (yn _)<|by omega
 ·grind[zaS,boxP]
 ·rw[zj c];simp only[zaS.l1,za c,zd (i:=i)<|by omega];grind
 ·simp[zaS.l1]
def ixA {α:Type}(p:α->Bool):List α->Nat->Int|[],_=>-1|t::l,i=>if p t=U then(i:Int)else ixA p l<|i+1
theorem zro {α}(p):∀(l:List α)(k),0<=ixA p l k↔l.any p=U
 |[],k=>by simp[ixA]|t::l,k=>by
  simp only[ixA];by_cases h:p t=U;·simp_all
  ·rw[if_neg h,zro p l<|k+1];grind
theorem zhp {n}{l}{f}{p}(hp:∀x∈l,f x=O (p x))(hl:l.length<=100000)(hn:1000000<=n):zo n l f=O (l.any p):=by
 have:=zA (body:=zn.l1 n l f) (len:=l.length) (st:=λi=>i) (g:=λi=>O<|ixA p (l.drop i) i) (λa i b d=>?_) (λa=>?_) n 0 (yn _)<|by omega
 ·unfold zo zn;have c:zvt (zn.l1 n l f) n 0=O (ixA p l 0):=by simp_all
  rw[c,ya];congr 1;grind[zro]
 ·rw[zj b];simp only[zn.l1,za b,zd (i:=i)<|by omega,ixA];grind
 ·simp[zn.l1,ixA]
theorem zqg {n}{b}{rows}(hb:b.length<=1000)(hr:∀r∈rows,r.zvr.length<=1000)(hl:rows.length<=100000)(hn:1000000<=n):zbj n b rows=O (boxP b&&rows.all (zym (b.length:Int))):=by
 unfold zbj;rw[zto hb hn,ya];have d:=zhp (n:=n) (l:=rows) (f:=λa=>zbJ n a b) (p:=λr=>!zym b.length r) (λx c=>by grind[zbJ,zpk]) hl hn;grind[grd]
theorem zd7 {k}:∀{l}{last},-1<=last->zzc k last l=U->(∀t∈l,last<t.cell/\0<=t.cell/\t.cell<k/\t.zvy≠0/\-1000<=t.zvy/\t.zvy<=1000)/\(l.map (·.cell)).Nodup
 |[],_,_,_=>by simp|t::l,last,a,h=>by
  simp only[zzc,yc]at h;obtain⟨c,b⟩:=h;simp at c;obtain⟨e,d⟩:=zd7 (l:=l) (last:=t.cell) (by omega) b;grind
theorem zqf {n}{r}{b}{c}(hb:boxP b=U)(hf:zym (b.length:Int) r=U)(hl:r.zvr.length<=1000)(h0:0<=c)(h1:c<(b.length:Int))(hn:1000000<=n):zcJ n r b c=O (zcq r b c):=by
 have d:=by
  simp only[boxP,yc,yf]at hb;omega
 unfold zcJ;rw[zqg (by omega) (λx i=>by simp_all) (by simp) hn,ya];rw[if_neg<|by simp_all];simp only[zym,yc,yf]at hf;obtain⟨f,g⟩:=hf;obtain⟨a,e⟩:=zd7 (by omega) f;rw[zqL (zqX hb) (λt h=>⟨(a t h).2.1,(a t h).2.2.1,(a t h).2.2.2.2.1,(a t h).2.2.2.2.2⟩) (λt h=>(a t h).2.2.2.1) e hl g h0 h1 hn];rfl
def midP (r:Range):Int:=(r.lo+r.hi)/2
theorem box1 {b}{r}(hb:boxP b=U)(hr:r∈b):boxP [r]=true:=by grind[boxP]
theorem zqQ {n}{r}(hr:boxP [r]=U)(hn:1000000<=n):zcZ n r=O (midP r):=by
 have h:=zqX hr r<|by simp
 unfold zcZ;rw[zto (by simp) hn,ya,hr];have a:zvp r.lo r.hi=r.lo+r.hi:=zau (by omega)<|by omega
 simp only[a];rw[zmq (by omega) ⟨by omega,by omega⟩,ya];rfl
theorem app1 {α}{k}{l}{x:α}(h:(l.length+1)*k<=140737488355328):Go.Proofs.YtipkniadbkndfaaGreatDoor.app k l [x]=O (l++[x]):=by
 unfold Go.Proofs.YtipkniadbkndfaaGreatDoor.app;simp_all
def zwz (b:List Range)(c:Int)(r:Range):List Range:=if 0<=c then b.set c.toNat r else b
theorem zcA (b c r):(zwz b c r).length=b.length:=by grind[zwz]
inductive zzP:List Row->List Row->Prop|nil:zzP [] []|cons{r s:Row}{R S:List Row}:r.zvr=s.zvr->r.bound<=s.bound->zzP R S->zzP (r::R) (s::S)
theorem zq1 {d}(hd:zf2 d):∀{l},(∀t∈l,-1000<=t.zvy/\t.zvy<=1000)->-(1000000000000*(l.length:Int))<=chgP d l/\chgP d l<=1000000000000*(l.length:Int)
 |[],_=>by simp[chgP]|t::l,h=>by
  have f:=zq1 hd (l:=l) λt g=>h t<|by grind
  obtain⟨b,e⟩:=h t (by simp);obtain⟨c,a⟩:=zcU hd t.cell;have:=zjK b e c a;grind[chgP]
theorem zoy {n a r}(ha:zwu a)(hd:zf2 a.effect.delta)(ht:∀t∈r.zvr,-1000<=t.zvy/\t.zvy<=1000)(hl:r.zvr.length<=1000)(hn:1000000<=n):-1000000000000000<=chgN n a r/\chgN n a r<=1000000000000000:=by
 have b:=ha.delta;unfold chgN;rw[zcF (by omega) (by omega) (by omega)<|by omega,zkq hd ht hl];have:=zq1 hd ht;grind
theorem zms (x y):x<=gmax x y/\y<=gmax x y:=by grind[gmax]
theorem zmt {x y B}(h1:x<=B)(h2:y<=B):gmax x y<=B:=by grind[gmax]
theorem zsQ {n}{q}{rows less}{a b}{i:Nat}{c}(hx:-1000000000000000<=chgN n a c.row/\chgN n a c.row<=1000000000000000)(hy:-1000000000000000<=chgN n b c.row/\chgN n b c.row<=1000000000000000)(hsub:(i:Int)∈less->(i:Int)∈rows):0<=kS n q less a b i c/\kS n q less a b i c<=kS n q rows a b i c/\kS n q rows a b i c<=2000000000000000:=by
 have j:zvp (chgN n a c.row) (chgN n b c.row)=chgN n a c.row+chgN n b c.row:=zbi (by omega) (by omega);unfold kS;generalize chgN n a c.row=x at*;generalize chgN n b c.row=y at*;have f:=zms 0 x;have g:=zms (gmax 0 x) y;have h:=zms (gmax (gmax 0 x) y)<|x+y;have d:gmax 0 x<=1000000000000000:=zmt (by omega) (by omega);have k:gmax (gmax 0 x) y<=1000000000000000:=zmt d (by omega);have e:gmax (gmax (gmax 0 x) y) (x+y)<=2000000000000000:=zmt (by omega)<|by omega
 grind
theorem zk4 {n m q rows a b}(hl:m.constraints.length<=60)(hc:∀c∈m.constraints,c.row.zvr.length<=1000):(zw3 n m q rows a b).length<=60/\∀r∈zw3 n m q rows a b,r.zvr.length<=1000:=by
 unfold zw3;constructor
 ·have:∀k,((xm k).flatMap λi=>rowS n q rows a b i<|m.constraints.getD i J).length<=k:=by
   intro k;induction k with
   |zero=>simp|succ k ih=>
    rw[zji,yT];grind[rowS]
  grind
 grind[rowS]
