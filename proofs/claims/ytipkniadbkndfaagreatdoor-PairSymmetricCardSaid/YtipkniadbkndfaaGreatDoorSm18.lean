/- Part of the proof of one law of the seat. -/
import Derived.Test.YtipkniadbkndfaaGreatDoorSm17
set_option linter.all false
set_option maxRecDepth 100000
set_option maxHeartbeats 40000000
namespace Go.Proofs.YtipkniadbkndfaaGreatDoor
open Go Go.RowKit
open Option renaming some->O,none->Y
open Bool renaming true->U,false->M,eq_iff_iff->xP,not_eq_false'->vM
open Decidable renaming decide->Z
open Inhabited renaming default->J
open List renaming length->xh,range->xm,replicate->xw,drop_length->xV,take_of_length_le->wb,getElem_of_mem->wd,mem_append_left->wi,take_length->wo,range'->ws,all_nil->wD,mem_append_right->wF,set_cons_zero->wV,count_le_length->vw,replicate_succ->vA,getD->vD,any_eq_false->vS,isEmpty_eq_false_iff->vX,range_succ_eq_map->u3,pairwise_flatMap->u5,flatMap_map->u9,isEmpty_nil->ta,all_append->th,getElem?_range->tl
open Classical renaming byContradiction->xF
open Nat renaming mod_eq_of_lt->xU,mod_lt->wE,le_mul_of_pos_right->wO,mul_comm->vv,mul_le_mul_left->tn,mod_self->tw
open List.Pairwise renaming imp_of_mem->wv
open Int renaming le_refl->wT,le_ediv_iff_mul_le->vb,toNat_natCast->vu
open Option.some renaming inj->vP
open Function renaming comp_apply->vY
abbrev yL:=@_root_.List.getD_eq_getElem?_getD
abbrev uf:=@_root_.List.mem_flatMap
abbrev uL:=@_root_.List.set_append_right
abbrev uR:=@_root_.Bool.eq_false_iff
theorem zju {m}(hS:zvS m){a}(ha:a∈m.zvq):zwu a:=by obtain⟨-,c,b,-,e⟩:=hS.act a ha;exact⟨c,b,λr d=>by grind⟩
theorem znl {m}(hS:zvS m)(hV:zwn m){c}(hc:c∈m.constraints):zwZ (boxM m).length c:=by
 have i:=hS.con c hc;rcases ztp hS hV hc with⟨a,-,-,-⟩|⟨s,a,e,d,f,g,b⟩;·exact⟨.inl a,by omega,λh=>by omega⟩
 ·exact⟨.inr a,by omega,λ_=>⟨s,e,d,f,g,b⟩⟩
theorem znk {m}(hV:zwn m){c}(hc:c∈m.constraints)(hk:c.kind=0):zwc (zI m.zvu U m.tables).length c.row=true:=by
 rcases zg6 hV hc with h|h
 ·simp only[zeG]at h;grind
 grind[zmd]
theorem zm4 {R X G cs}(hR:R.length<=60/\∀r∈R,r.zvr.length<=1000)(hX:X.length<=30/\∀r∈X,r.zvr.length<=1000)(hG:G.length<=3000/\∀g∈G,g.least.length<=36)(hc:zgv cs):zzO (R++X) G cs:=by
 refine⟨⟨by grind,λr c=>?_⟩,⟨by omega,λg e=>by grind⟩,⟨by have:=hc.1;omega,λb a=>?_⟩⟩;·grind
 ·obtain⟨f,d⟩:=hc.2 b a;exact⟨by omega,λr c=>by grind⟩
section
variable(E:Nat->Nat->Bool)(K:Nat)
def fstN (l:List Int):Nat:=(l.headD 0).toNat
def lstN (l:List Int):Nat:=(l.getLastD 0).toNat
def zeo (l:List Int):Bool:=E (lstN l)<|fstN l
def ext1 (l:List Int)(i:Nat):List<|List Int:=if(E (lstN l) (fstN l+1+i)&&!decide (((fstN l+1+i:Nat):Int)∈l))=U then[l++[((fstN l+1+i:Nat):Int)]]else[]
def ext (l:List Int):List<|List Int:=(xm<|K-(fstN l+1)).flatMap<|ext1 E l
def dfs:Nat->List Int->List (List Int)|0,_=>[]|d+1,l=>(if zeo E l=U then[l]else[])++(ext E K l).flatMap (dfs d)
def lev:Nat->List (List Int)->List (List Int)|0,ls=>ls|r+1,ls=>lev r<|ls.flatMap<|ext E K
theorem zin:∀(r)(ls),lev E K (r+1) ls=(lev E K r ls).flatMap (ext E K)|0,_=>rfl|r+1,ls=>zin r<|ls.flatMap<|ext E K
theorem zgq {α β:Type}(f g:α->List β):∀l:List α,(l.flatMap λx=>f x++g x).Perm<|l.flatMap f++l.flatMap g|[]=>by simp|x::l=>by simp only[uG,yJ];refine .append_left _ ?_;exact((zgq f g l).append_left _).trans<|List.perm_append_comm_assoc _ _ _
theorem zi8 {α:Type}(p):∀l:List α,(l.flatMap λx=>if p x=U then[x]else[])=l.filter p|[]=>rfl|x::l=>by rw[uG,zi8 p l,List.filter_cons];grind
theorem zo9:∀(d:Nat)(ls:List<|List Int),(ls.flatMap<|dfs E K d).Perm<|(xm d).flatMap λr=>(lev E K r ls).filter<|zeo E
 |0,ls=>by
  have:ls.flatMap (dfs E K 0)=[]:=List.flatMap_eq_nil_iff.2 λ_ _=>rfl;rw[this];exact .refl _|d+1,ls=>by
  have e:ls.flatMap (dfs E K<|d+1)=ls.flatMap λl=>(if zeo E l=U then[l]else[])++(ext E K l).flatMap (dfs E K d):=rfl;rw[e,u3,uG,u9];refine(zgq _ _ ls).trans ?_;rw[zi8];refine .append_left _ ?_;have:=zo9 d<|ls.flatMap<|ext E K;rw[List.flatMap_assoc]at this;exact this
theorem zjH:∀(l x y),lexP (l++x) (l++y)=lexP x y|[],_,_=>rfl|a::l,x,y=>by simp only[uv,lexP];rw[if_neg<|by omega,if_neg<|by omega];exact zjH l x y
theorem zlM:∀{l m}(x y),l.length=m.length->lexP l m<0->lexP (l++x) (m++y)<0
 |[],[],_,_,_,h=>by grind[lexP]|[],_::_,_,_,h,_=>by grind|_::_,[],_,_,h,_=>by grind|a::l,b::m,x,y,e,h=>by
  simp only[uv,lexP]at h|-;split;·omega
  ·rename_i d;rw[if_neg d]at h;split;·simp_all
   ·rename_i c;rw[if_neg c]at h;exact zlM x y (by simp_all) h
theorem zmM {l x i}(h:x∈ext1 E l i):E (lstN l) (fstN l+1+i)=U/\((fstN l+1+i:Nat):Int)∉l/\x=l++[((fstN l+1+i:Nat):Int)]:=by unfold ext1 at h;simp_all
theorem zjg {l x}(h:x∈ext E K l):∃i,i<K-(fstN l+1)/\E (lstN l) (fstN l+1+i)=U/\((fstN l+1+i:Nat):Int)∉l/\x=l++[((fstN l+1+i:Nat):Int)]:=by
 obtain⟨i,b,a⟩:=uf.1 h;grind[zmM]
theorem zu1 (l):(ext E K l).Pairwise λx y=>lexP x y<0:=by
 unfold ext;rw[u5];refine⟨λi _=>?_,List.pairwise_lt_range.imp λ{i j}b x c y a=>?_⟩;·unfold ext1;split<;>simp
 ·obtain⟨-,-,rfl⟩:=zmM E c;obtain⟨-,-,rfl⟩:=zmM E a;rw[zjH];simp only[lexP];simp_all
theorem zpx:∀(r c)(ls),(∀l∈ls,l.length=c)->(ls.Pairwise λx y=>lexP x y<0)->(∀l∈lev E K r ls,l.length=c+r)/\(lev E K r ls).Pairwise λx y=>lexP x y<0
 |0,c,ls,h,e=>⟨h,e⟩|r+1,c,ls,h,e=>by
  have:=zpx r (c+1) (ls.flatMap<|ext E K) (λx d=>?_) ?_;·exact⟨λl g=>by rw[this.1 l g];omega,this.2⟩
  ·obtain⟨l,g,d⟩:=uf.1 d;obtain⟨i,-,-,-,rfl⟩:=zjg E K d;simp_all
  ·rw[u5];refine⟨λl _=>zu1 E K l,?_⟩;refine wv (λ{a b}m n f x d y k=>?_) e;obtain⟨i,-,-,-,rfl⟩:=zjg E K d;obtain⟨j,-,-,-,rfl⟩:=zjg E K k;exact zlM _ _ (by simp_all) f
theorem zq3 (x y):cmpC x y<0↔x.length<y.length\/x.length=y.length/\lexP x y<0:=by grind[cmpC,cmpI]
theorem zuO (d c ls)(h1:∀l∈ls,l.length=c)(h2:ls.Pairwise λx y=>lexP x y<0):((xm d).flatMap λr=>(lev E K r ls).filter<|zeo E).Pairwise λx y=>cmpC x y<0:=by
 rw[u5];refine⟨λr _=>?_,List.pairwise_lt_range.imp λ{i j}b x e y a=>?_⟩
 ·have:=zpx E K r c ls h1 h2;grind[wv,zq3]
 ·have g:=(zpx E K i c ls h1 h2).1 x (List.mem_filter.1 e).1;have f:=(zpx E K j c ls h1 h2).1 y (List.mem_filter.1 a).1;rw[zq3];simp_all
end
theorem zkW {α:Type}{R}(hanti:∀a b,R a b->R b a->a=b):∀{l m:List α},l.Perm m->l.Pairwise R->m.Pairwise R->l=m
 |[],m,h,_,_=>by simp_all|a::l,[],h,_,_=>by simp_all|a::l,b::m,h,d,c=>by
  have e:a=b:=by grind[List.pairwise_cons,List.mem_cons_self]
  subst e;rw[zkW hanti ((List.perm_cons a).1 h) (uA.1 d).2 (uA.1 c).2]
def ones (K:Nat):List<|List Int:=(xm K).map λ(i:Nat)=>[(i:Int)]
theorem zrG (K):(∀l∈ones K,l.length=1)/\(ones K).Pairwise λx y=>lexP x y<0:=by
 unfold ones;refine⟨λl b=>?_,?_⟩;·grind
 ·rw[List.pairwise_map];refine List.pairwise_lt_range.imp λ{i j}a=>?_;simp only[lexP];simp_all
def cycP (E:Nat->Nat->Bool)(K:Nat):List<|List Int:=(xm K).flatMap λr=>(lev E K r<|ones K).filter<|zeo E
theorem zcW {α β:Type}{f:α->List β}{B}:∀{l:List α},(∀x∈l,(f x).length<=B)->(l.flatMap f).length<=l.length*B
 |[],_=>by simp|x::l,h=>by
  have b:=zcW (l:=l) λy a=>h y<|by simp[a]
  grind[Nat.succ_mul]
theorem zoF {E}{K}(hK:K<=6)(l):(ext E K l).length<=6:=by
 have:=zcW (f:=ext1 E l) (B:=1) (l:=xm<|K-(fstN l+1)) λi _=>by grind[ext1]
 unfold ext;grind
theorem zmn {E}{K}(hK:K<=6):∀(d)(l),(dfs E K d l).length<=7^d
 |0,_=>by simp[dfs]|d+1,l=>by
  have a:=zoF (E:=E) hK l;have c:=zcW (f:=dfs E K d) (B:=7^d) (l:=ext E K l) λx _=>zmn hK d x;have b:(ext E K l).length*7^d<=6*7^d:=yO _ a;simp only[dfs];grind
structure zwv (K:Nat)(l:List Int):Prop where
 nd:l.Nodup
 pos:1<=l.length
 mem:∀x∈l,0<=x/\x<(K:Int)
theorem zwv.len {K l}(h:zwv K l):l.length<=K:=zit h.nd h.mem
theorem zwv.snoc {K l}(h:zwv K l){b}(hb:b<K)(hm:(b:Int)∉l):zwv K<|l++[(b:Int)]:=by
 refine⟨?_,by simp,λx c=>?_⟩;·rw[uT];exact⟨h.nd,by simp,λa f g d e=>by grind⟩
 ·rcases yv.1 c with c|c;·exact h.mem x c
  grind
theorem zwv.fst {K l}(h:zwv K l):idx l 0=O ((fstN l:Nat):Int)/\fstN l<K:=by cases l with
 |nil=>have:=h.pos;grind|cons x t=>
  have:=h.mem x (by simp);have e:fstN (x::t)=x.toNat:=rfl;have:idx (x::t) 0=O x:=rfl;grind
theorem zwv.lst {K l}(h:zwv K l)(h6:K<=6):idx l (zvz (l.length:Int) 1)=O ((lstN l:Nat):Int)/\lstN l<K:=by
 have d:=h.pos;have c:=h.len;have a:l.length-1<l.length:=by omega
 have e:=h.mem _<|yh a;have b:lstN l=l[l.length-1].toNat:=by grind[lstN]
 rw[zfd (by omega)<|by omega,za a,b];grind
theorem ztf {n}{g}{K}(hg:zwN g K)(hn:1000000<=n):∀(d k)(l)(out),zwv K l->K-l.length=d->d<k->out.length<=1000000-7^(d+1)->d<=5->zE n g k l out=O (out++dfs (hasP g) K (d+1) l):=by
 intro d;induction d using Nat.strongRecOn with|ind d ih=>
  intro k l out hp hd hk ho hd5;obtain⟨k,rfl⟩:∃k',k=k'+1:=⟨k-1,by omega⟩;have hK:=hg.le;have hl1:=hp.pos;have hl2:=hp.len;have hp7:7<=7^(d+1):=Nat.le_self_pow (by omega) 7;obtain⟨e2,hfK⟩:=hp.fst;obtain⟨e1,hlK⟩:=hp.lst hK;have h7:7^(d+1)=7*7^d:=by grind
  have hone:1<=7^d:=uU _ _ (by omega);have h77:7^(d+1)<=117649:=by
   have:7^(d+1)<=7^6:=ul (by omega)<|by omega
   grind
  simp only[zE,e1,e2,ya,zlK hg hlK hfK];have loop:∀out1:List<|List Int,out1.length<=out.length+1->zvt (zE.l1 n g (zE n g k) l ((lstN l:Nat):Int)) n (zvp ((fstN l:Nat):Int) 1,out1)=O (out1++(ext (hasP g) K l).flatMap (dfs (hasP g) K d)):=by
   intro out1 ho1;rw[zd<|by omega];have:=zcw (body:=zE.l1 n g (zE n g k) l ((lstN l:Nat):Int)) (k:=K-(fstN l+1)) (n:=n) (st:=λ(o:List<|List Int)i=>(((fstN l+1+i:Nat):Int),o)) (λi=>(ext1 (hasP g) l i).flatMap<|dfs (hasP g) K d) O (7^d) out1 (λi hi=>?_) (λrec o i hi hI=>?_) (λrec o hI=>?_)<|by omega
   ·simp only[uy]at this;rw[this];unfold ext;rw[List.flatMap_assoc]
   ·have h1:=zcW (f:=dfs (hasP g) K d) (B:=7^d) (l:=ext1 (hasP g) l i) λx _=>zmn hK d x;have h2:(ext1 (hasP g) l i).length<=1:=by unfold ext1;split<;>simp
    have h3:(ext1 (hasP g) l i).length*7^d<=1*7^d:=yO _ h2;omega
   ·have hb:fstN l+1+i<K:=by omega
    have hlt:Z (((fstN l+1+i:Nat):Int)<g.size)=true:=by rw[hg.size];simp;omega
    have hnx:zvp ((fstN l+1+i:Nat):Int) 1=((fstN l+1+(i+1):Nat):Int):=by rw[zd<|by omega];rfl
    simp only[zE.l1,hlt,if_true,zlK hg hlK hb,ya,hnx];unfold ext1;by_cases hh:hasP g (lstN l) (fstN l+1+i)=U
    ·rw[if_pos hh,zeA (by omega) hn,ya];by_cases hm:((fstN l+1+i:Nat):Int)∈l;·rw[if_pos<|by simpa using hm,if_neg<|by simp only[hm,decide_true,uk,Bool.and_false];simp];simp
     ·rw[if_neg<|by simpa using hm,zk<|by simp;omega,ya,yR,zk<|by simp;omega,ya,if_pos<|by simp only[hh,hm,decide_false,ut,uW]];have hp2:=hp.snoc hb hm;have hlen:=hp2.len;simp only[yT,yQ,uq]at hlen;have hd1:1<=d:=by omega
      have h6:i*7^d<=5*7^d:=yO _ (by omega);have:=ih (d-1) (by omega) k (l++[((fstN l+1+i:Nat):Int)]) o hp2 (by simp;omega) (by omega) (by rw[show d-1+1=d by omega];omega) (by omega);rw[show d-1+1=d by omega]at this;rw[this,ya];simp
    ·rw[if_neg hh,if_neg<|by simp only[yP]at hh;simp[hh]];simp
   ·have hge:Z (((fstN l+1+(K-(fstN l+1)):Nat):Int)<g.size)=false:=by rw[hg.size];simp;omega
    simp only[zE.l1,hge,ye,if_false]
  have hcl:zeo (hasP g) l=hasP g (lstN l) (fstN l):=rfl;simp only[dfs,hcl];by_cases hh:hasP g (lstN l) (fstN l)=U;·rw[if_pos hh,if_pos hh,zk<|by simp;omega,ya,yR,zk<|by simp;omega,ya,loop _<|by simp,yJ]
  grind
theorem zq7 {n g K}(hg:zwN g K)(hn:1000000<=n):zvt (zvT.l1 n g) n (0,[])=O ((ones K).flatMap<|dfs (hasP g) K K):=by
 have e:=hg.le;have c:7^K<=117649:=by
  have:7^K<=7^6:=ul (by omega)<|by omega
  grind
 have:=zcw (body:=zvT.l1 n g) (k:=K) (n:=n) (st:=λo i=>(i,o)) (λi=>dfs (hasP g) K K [i]) O 117649 [] (λi d=>yG (zmn e K _) c) (λb o i d f=>?_) (λb o f=>?_)<|by omega
 ·grind[ones,u9]
 ·have h:Z (i<g.size)=true:=by rw[hg.size];grind
  have j:=ztf hg hn (K-1) n [i] o ⟨by simp,by simp,by grind⟩ (by simp) (by omega) (by grind) (by omega);simp only[zvT.l1];grind[zd]
 ·have a:Z (K<g.size)=false:=by rw[hg.size];simp
  simp only[zvT.l1,a,ye,if_false]
theorem zrx {E K}:∀(d){l x},zwv K l->x∈dfs E K d l->zwv K x
 |0,_,_,_,h=>by grind[dfs]|d+1,l,x,b,h=>by
  simp only[dfs,yv,uf]at h;rcases h with h|⟨y,c,e⟩;·grind
  ·obtain⟨i,f,-,a,rfl⟩:=zjg E K c;exact zrx d (b.snoc (by omega) a) e
theorem zmR {K i}(hi:i<K):zwv K [(i:Int)]:=⟨by simp,by simp,by grind⟩
theorem zi3 {n}{zvI}{K:Nat}(h1:1<=K)(h6:K<=6)(hl:zvI.length=K*K)(hn:1000000<=n):zbx n (K:Int) zvI=O (cycP (hasP ⟨(K:Int),zvI⟩) K):=by
 have hg:zwN ⟨(K:Int),zvI⟩ K:=⟨rfl,h6,hl⟩;have h4:K*K<=36:=y8 h6 h6;have e:zvA (K:Int) (K:Int)=((K*K:Nat):Int):=by grind[zvA,zau,Int.natCast_mul]
 have hopen:zca n (K:Int) zvI=O (⟨(K:Int),zvI⟩,U):=by
  unfold zca;rw[e,hl];grind
 have hd:7^K<=117649:=by
  have:7^K<=7^6:=ul (by omega)<|by omega
  grind
 unfold zbx;rw[hopen,ya,if_neg<|by simp,zq7 hg hn,ya];have hmem:∀x∈(ones K).flatMap<|dfs (hasP ⟨(K:Int),zvI⟩) K K,zwv K x:=λx hx=>by obtain⟨l,hl,hx⟩:=uf.1 hx;obtain⟨i,hi,rfl⟩:=yY.1 hl;exact zrx K (zmR<|yX.1 hi) hx
 have hlen:((ones K).flatMap<|dfs (hasP ⟨(K:Int),zvI⟩) K K).length<=6*117649:=by
  have:=zcW (f:=dfs (hasP ⟨(K:Int),zvI⟩) K K) (B:=117649) (l:=ones K) λx _=>yG (zmn h6 K x) hd;grind[ones,Nat.le_trans,Nat.mul_le_mul_right]
 obtain⟨s1,s2⟩:=zpY (f:=zcu n) (c:=cmpC) (l:=(ones K).flatMap<|dfs (hasP ⟨(K:Int),zvI⟩) K K) (λx hx y _=>ziZ (by have:=(hmem x hx).len;omega) hn) (λx=>by grind[zf8]) (λ_ _ _=>ziY) (λ_ _ _=>zkr) (by omega);rw[s1];refine congrArg O ?_;have hp:=zjk s2;have hs:=zob s2;refine zkW (R:=λx y=>¬cmpC y x<0) (λa b h1 h2=>?_) (hp.trans<|zo9 _ K K<|ones K) ?_ ?_;·grind[zf8,zks]
 ·refine wv (λ{a b}ha hb hab=>?_) hs;have ha':=hmem a<|hp.mem_iff.1 ha;have hb':=hmem b<|hp.mem_iff.1 hb;rw[ziZ (by have:=hb'.len;omega) hn]at hab;exact hab
 ·refine(zuO _ K K 1 (ones K) (zrG K).1 (zrG K).2).imp λ{a b}h=>?_;have:=zf8 a b;omega
theorem zqw {γ δ S R:Type}{body}{k n}{st:List γ->List δ->Nat->S}(g)(h)(fin:List γ->List δ->Option R)(B)(b0)(c0)(hB:∀i,i<k->(g i).length<=B)(hC:∀i,i<k->(h i).length<=B)(step:∀rec(b)(c)i,i<k->b.length<=b0.length+i*B->c.length<=c0.length+i*B->body rec (st b c i)=rec (st (b++g i) (c++h i)<|i+1))(done:∀rec(b)(c),b.length<=b0.length+k*B->c.length<=c0.length+k*B->body rec (st b c k)=fin b c)(hn:k<n):zvt body n (st b0 c0 0)=fin (b0++(xm k).flatMap g) (c0++(xm k).flatMap h):=by
 have:=za4 (σ:=List γ×List δ) (body:=body) (len:=k) (st:=λs i=>st s.1 s.2 i) (g:=λi s=>fin (s.1++(ws i<|k-i).flatMap g)<|s.2++(ws i<|k-i).flatMap h) (λi s=>s.1.length<=b0.length+i*B/\s.2.length<=c0.length+i*B) (λrec i s e a d=>?_) (λrec s a=>?_) n 0 (b0,c0) (yn _) (by omega)<|by simp
 ·grind[List.range_eq_range']
 ·rw[step rec s.1 s.2 i e a.1 a.2,d (s.1++g i,s.2++h i) ⟨by grind,by grind⟩];have:ws i (k-i)=i::ws (i+1) (k-(i+1)):=by rw[show k-i=k-(i+1)+1 by omega,List.range'_succ]
  grind
 grind
theorem zjN {n l v}(hl:l.length<1000000)(hn:1000000<=n):zdV n l v=O (Z<|v∈l):=by
 unfold zdV;have:=zal (body:=zdV.l1 n l v) (l:=l) (n:=n) (st:=λi=>i) (λx=>! x==v) (O U) (O M) (λa i b=>?_) (λa=>?_)<|by omega
 ·grind
 ·simp only[zdV.l1,za b];grind[zd]
 ·simp only[zdV.l1,zaj,ye,if_false]
theorem zmT {n l v}(hl:l.length<1000000)(hn:1000000<=n):zdH n l v=O (l++[v]):=by
 unfold zdH;have:=zet (body:=zdH.l1 n l v) (l:=l) (n:=n) (st:=λb i=>(b,i)) (λx=>x) (λb=>O<|b++[v]) [] (λa b i d c=>?_) (λa b c=>?_)<|by omega
 ·simp_all
 ·simp only[zdH.l1,za d];grind[zk,zd]
 ·simp only[zdH.l1];grind[zk]
theorem zpc {zvI}{K a b:Nat}(hg:zwN ⟨(K:Int),zvI⟩ K)(ha:a<K)(hb:b<K):idx zvI (zvp (zvA (a:Int) (K:Int)) (b:Int))=O (hasP ⟨(K:Int),zvI⟩ a b):=by
 have:=zlK (n:=0) hg ha hb;grind[za2]
theorem zhd {E K}:∀(r){ls},(∀l∈ls,zwv K l)->∀l∈lev E K r ls,zwv K l|0,_,h=>h|r+1,ls,h=>zhd r λx a=>by obtain⟨l,c,a⟩:=uf.1 a;obtain⟨i,d,-,b,rfl⟩:=zjg E K a;exact(h l c).snoc (by omega) b
theorem zrt {E K}(h6:K<=6):∀(r)(ls),(lev E K r ls).length<=ls.length*7^r
 |0,ls=>by simp[lev]|r+1,ls=>by
  have b:=zrt (E:=E) h6 r<|ls.flatMap<|ext E K;have c:=zcW (f:=ext E K) (B:=6) (l:=ls) λx _=>zoF h6 x;have a:(ls.flatMap<|ext E K).length*7^r<=ls.length*7*7^r:=yO _ (by omega);rw[uV,vv (7^r) 7,<-Nat.mul_assoc];exact yG b a
theorem zgW {K}:∀l∈ones K,zwv K l:=λl a=>by
 obtain⟨i,b,rfl⟩:=yY.1 a;grind[zmR]
theorem znr {α:Type}(p)(l:List α)(d):(xm l.length).flatMap (λi=>if p (l.getD i d)=U then[l.getD i d]else[])=l.filter p:=by
 rw[<-zi8 p l];have e:l=(xm l.length).map λi=>l.getD i d:=by
  refine uO (by simp) λi b a=>?_;grind
 grind[u9]
theorem zi9 {α β:Type}(f:α->List β)(l:List α)(d):(xm l.length).flatMap (λi=>f<|l.getD i d)=l.flatMap f:=by
 have e:l=(xm l.length).map λi=>l.getD i d:=by
  refine uO (by simp) λi b a=>?_;grind
 grind[u9]
theorem zoR {n}{zvI}{K}(h6:K<=6)(hl:zvI.length=K*K)(hn:1000000<=n){ls out}{r}{rec}(hp:∀l∈ls,zwv K l)(hlen:ls.length<=800000)(ho:out.length<=100000000):zvt (zL.l3 n (K:Int) zvI ls r rec) n (out,([]:List<|List Int),0)=rec (out++ls.filter (zeo<|hasP ⟨(K:Int),zvI⟩),ls.flatMap<|ext (hasP ⟨(K:Int),zvI⟩) K,zvp r 1):=by
 have hg:zwN ⟨(K:Int),zvI⟩ K:=⟨rfl,h6,hl⟩;have:=zqw (body:=zL.l3 n (K:Int) zvI ls r rec) (k:=ls.length) (n:=n) (st:=λb c i=>(b,c,(i:Int))) (λi=>if zeo (hasP ⟨(K:Int),zvI⟩) (ls.getD i [])=U then[ls.getD i []]else[]) (λi=>ext (hasP ⟨(K:Int),zvI⟩) K<|ls.getD i []) (λb c=>rec (b,c,zvp r 1)) 6 out [] (λi _=>by grind) (λi _=>zoF h6 _) (λrec2 b c i hi hb hc=>?_) (λrec2 b c hb hc=>?_)<|by omega
 ·rw[znr,zi9]at this;grind
 ·have e:ls.getD i []=ls[i]:=by grind
  have hpl:=hp _<|yh hi;obtain⟨e2,hfK⟩:=hpl.fst;obtain⟨e1,hlK⟩:=hpl.lst h6;have hlK6:=hpl.len;rw[e];have inner:∀b1:List<|List Int,zvt (zL.l4 n (K:Int) zvI ls (i:Int) rec2 ((lstN ls[i]:Nat):Int) b1) n (c,zvp ((fstN ls[i]:Nat):Int) 1)=rec2 (b1,c++ext (hasP ⟨(K:Int),zvI⟩) K ls[i],((i+1:Nat):Int)):=by
   intro b1;rw[zd<|by omega];have:=zcw (body:=zL.l4 n (K:Int) zvI ls (i:Int) rec2 ((lstN ls[i]:Nat):Int) b1) (k:=K-(fstN ls[i]+1)) (n:=n) (st:=λ(o:List<|List Int)j=>(o,((fstN ls[i]+1+j:Nat):Int))) (λj=>ext1 (hasP ⟨(K:Int),zvI⟩) ls[i] j) (λo=>rec2 (b1,o,zvp (i:Int) 1)) 1 c (λj _=>by unfold ext1;split<;>simp) (λrec3 o j hj hI=>?_) (λrec3 o hI=>?_)<|by omega
   ·simp only[uy]at this;rw[this,zd (i:=i)<|by omega];rfl
   ·have hb:fstN ls[i]+1+j<K:=by omega
    have hlt:Z (((fstN ls[i]+1+j:Nat):Int)<(K:Int))=true:=by simp;omega
    have hnx:zvp ((fstN ls[i]+1+j:Nat):Int) 1=((fstN ls[i]+1+(j+1):Nat):Int):=by rw[zd<|by omega];rfl
    simp only[zL.l4,hlt,if_true,jn,zpc hg hlK hb,za hi,ya,yq,yi,zjN (show ls[i].length<1000000 by omega) hn,zmT (show ls[i].length<1000000 by omega) hn,yw,grd,hnx];unfold ext1;split;·rw[zk<|by simp at hI hc;simp;omega,ya]
    ·simp
   ·have hge:Z (((fstN ls[i]+1+(K-(fstN ls[i]+1)):Nat):Int)<(K:Int))=false:=by simp;omega
    simp only[zL.l4,hge,ye,if_false]
  have hcl:zeo (hasP ⟨(K:Int),zvI⟩) ls[i]=hasP ⟨(K:Int),zvI⟩ (lstN ls[i]) (fstN ls[i]):=rfl;simp only[zL.l3,zy hi,if_true,jn,za hi,ya,e1,e2,zpc hg hlK hfK,hcl];grind[zk]
 ·simp only[zL.l3,zaj,ye,if_false]
theorem zk0 {n}{zvI}{K:Nat}(h1:1<=K)(h6:K<=6)(hl:zvI.length=K*K)(hn:1000000<=n):zL n (K:Int) zvI=O (cycP (hasP ⟨(K:Int),zvI⟩) K):=by
 have h4:K*K<=36:=y8 h6 h6;have e:zvA (K:Int) (K:Int)=((K*K:Nat):Int):=by grind[zvA,zau,Int.natCast_mul]
 have hv:zhY n (K:Int) zvI=O true:=by
  unfold zhY;rw[e,hl];grind
 unfold zL;rw[hv,ya,if_neg<|by simp];have hones:(ones K).length=K:=by simp[ones]
 have rounds:zvt (zL.l2 n (K:Int) zvI) n (([]:List<|List Int),ones K,0)=O (cycP (hasP ⟨(K:Int),zvI⟩) K):=by
  have:=za4 (σ:=List (List Int)×List (List Int)) (body:=zL.l2 n (K:Int) zvI) (len:=K) (st:=λs i=>(s.1,s.2,(i:Int))) (g:=λ_ _=>O<|cycP (hasP ⟨(K:Int),zvI⟩) K) (λi s=>s.1=(xm i).flatMap (λr=>(lev (hasP ⟨(K:Int),zvI⟩) K r<|ones K).filter<|zeo<|hasP ⟨(K:Int),zvI⟩)/\s.2=lev (hasP ⟨(K:Int),zvI⟩) K i (ones K)/\s.1.length<=i*800000) (λrec i s hi hI hr=>?_) (λrec s hI=>?_) n 0 ([],ones K) (yn _) (by omega) ⟨rfl,rfl,by simp⟩;·exact this
  ·obtain⟨s1,s2⟩:=s;obtain⟨i1,i2,i3⟩:=hI;simp only at i1 i2 i3;have hlen:s2.length<=800000:=by have:=zrt (E:=hasP ⟨(K:Int),zvI⟩) h6 i<|ones K;rw[hones]at this;have h7:7^i<=7^5:=ul (by omega) (by omega);have h8:K*7^i<=6*7^5:=y8 h6 h7;rw[i2];simp only[Nat.reducePow,Nat.reduceMul]at h8;omega
   have hpath:∀l∈s2,zwv K l:=by rw[i2];exact zhd i zgW
   simp only[zL.l2,zjI hi,if_true];rw[zoR h6 hl hn hpath hlen<|by omega,zd<|by omega];refine hr (_,_) ⟨?_,?_,?_⟩;·simp only;rw[uw,List.flatMap_append,<-i1,i2];simp
   ·rw[zin,<-i2];rfl
   ·simp only[yT];have:=List.length_filter_le (zeo<|hasP ⟨(K:Int),zvI⟩) s2;rw[uB];omega
  ·obtain⟨s1,s2⟩:=s;obtain⟨i1,-,-⟩:=hI;simp only at i1;simp only[zL.l2,zgH<|ym K,ye,if_false];rw[i1];rfl
 have:=zcw (body:=zL.l1 n (K:Int) zvI) (k:=K) (n:=n) (st:=λ(b:List<|List Int)i=>(b,(i:Int))) (λi=>[[(i:Int)]]) (λb=>zvt (zL.l2 n (K:Int) zvI) n (([]:List<|List Int),b,0)) 1 [] (λi _=>by simp) (λrec b i hi hb=>?_) (λrec b hb=>?_)<|by omega
 ·have eo:(xm K).flatMap (λi:Nat=>[[(i:Int)]])=ones K:=by unfold ones;rw[List.map_eq_flatMap]
  rw[eo,yR,rounds]at this;exact this
 ·simp only[zL.l1,zjI hi,if_true];rw[zk<|by simp at hb;simp;omega,ya,zd<|by omega]
 ·simp only[zL.l1,zgH<|ym K,ye,if_false]
theorem zhH (a b c):zvp (zvp a b) c=zvp a (zvp b c):=by grind[zvp,w64,IntKind.wrap_i64]
theorem zrv (x y):zvp (zvp (-1) x) y=zvz (zvp x y) 1:=by grind[zvp,zvz,w64,IntKind.wrap_i64]
structure zwA (a:Action):Prop where
 add:∀c,addP c a.effect.delta 0=zx a.effect.delta c
 len:a.effect.delta.length<=20
theorem zwA.Add {n a}(h:zwA a)(hn:1000000<=n)(c):zbd n a.effect c=O (zx a.effect.delta c):=by have:=h.len;rw[zfr c (by omega)<|by omega,h.add]
theorem zwA.added {n a}(h:zwA a)(hn:1000000<=n)(c):zS n a c=O (zx a.effect.delta c):=by
 have:=h.len;grind[zao]
theorem znE {S R}{body}{k n}{st:List Row->Bool->Bool->Nat->S}(Rr)(p q)(fin:List Row->Bool->Bool->Option R)(step:∀rec rows x y i,i<k->rows.length<=i->body rec (st rows x y i)=rec (st (rows++[Rr i]) (x||p i) (y||q i)<|i+1))(done:∀rec rows x y,rows.length<=k->body rec (st rows x y k)=fin rows x y)(hn:k<n):zvt body n (st [] M M 0)=fin ((xm k).map Rr) ((xm k).any p) ((xm k).any q):=by
 have:=za4 (σ:=List Row×Bool×Bool) (body:=body) (len:=k) (st:=λs i=>st s.1 s.2.1 s.2.2 i) (g:=λ_ _=>fin ((xm k).map Rr) ((xm k).any p)<|(xm k).any q) (λi s=>s=((xm i).map Rr,(xm i).any p,(xm i).any q)) (λrec i s c a b=>?_) (λrec s a=>?_) n 0 ([],M,M) (yn _) (by omega) rfl;·grind
 ·subst a;rw[step rec _ _ _ i c<|by simp];refine b (_,_,_) ?_;simp only[uw,List.any_append,uX];grind
 grind
def zcQ (c:Constraint)(cyc:List Int)(i:Nat):Int:=zvp c.first<|zvp (zvA (cyc.getD i 0) c.size)<|cyc.getD ((i+1)%cyc.length) 0
def zi5 (A B:Int->Int)(c:Constraint)(cyc:List Int)(i:Nat):Row:=⟨[⟨zcQ c cyc i,-1⟩],zvz (zvp (A<|zcQ c cyc i)<|B<|zcQ c cyc i) 1⟩
def zd6 (A B:Int->Int)(c:Constraint)(cyc:List Int):List<|List Row:=if((xm cyc.length).any (λi=>Z<|0<A (zcQ c cyc i))&&(xm cyc.length).any λi=>Z<|0<B (zcQ c cyc i))=U then[(xm cyc.length).map<|zi5 A B c cyc]else[]
def zia (A B:Int->Int)(box:List Range)(c:Constraint)(K:Nat):List<|List Row:=(cycP (hasP ⟨(K:Int),(xm<|K*K).map λi:Nat=>Z<|1<=zvp ((idx box<|zvp c.first (i:Int)).getD J).hi (zvp (A<|zvp c.first (i:Int))<|B<|zvp c.first (i:Int))⟩) K).flatMap<|zd6 A B c
theorem zo8 {K cyc}(hp:zwv K cyc)(h6:K<=6){i}(hi:i<cyc.length):∃r:Nat,zwy (zvp (i:Int) 1) (cyc.length:Int)=O (r:Int)/\r<cyc.length/\r=(i+1)%cyc.length:=by
 have:=hp.len;rw[zd<|by omega];refine⟨(i+1)%cyc.length,?_,wE _<|by omega,rfl⟩;unfold zwy;grind
theorem zrh {l:List Int}{i}(hi):l.getD i 0=l[i]:=by grind
section
variable{n:Nat}{c:Constraint}{a b:Action}{K:Nat}(ha:zwA a)(hb:zwA b)(h6:K<=6)(hn:1000000<=n)
include ha hb h6 hn
theorem zqZ {cyc}{b1}{k}(hp:zwv K cyc)(hb1:b1.length<=1000000):zvt (zm.l3 n c a b b1 k cyc) n (([]:List Row),M,M,0)=k (b1++zd6 (zx a.effect.delta) (zx b.effect.delta) c cyc):=by
 have m:=hp.len;have:=znE (body:=zm.l3 n c a b b1 k cyc) (k:=cyc.length) (n:=n) (st:=λd x y i=>(d,x,y,i)) (zi5 (zx a.effect.delta) (zx b.effect.delta) c cyc) (λi=>Z<|0<zx a.effect.delta (zcQ c cyc i)) (λi=>Z<|0<zx b.effect.delta (zcQ c cyc i)) (λd x y=>if(x&&y)=U then k<|b1++[d]else k b1) (λg d x y i f q=>?_) (λg d x y q=>?_)<|by omega
 ·unfold zd6;grind
 ·obtain⟨r,j,h,o⟩:=zo8 hp h6 f;have e:zvp c.first (zvp (zvA cyc[i] c.size) cyc[r])=zcQ c cyc i:=by grind[zcQ]
  have p:za0 n (zvp (zvA cyc[i] c.size) cyc[r]) a c b=O (zvp (zx a.effect.delta<|zcQ c cyc i)<|zx b.effect.delta<|zcQ c cyc i):=by unfold za0;rw[e,ha.added hn,ya,hb.added hn,ya]
  simp only[zm.l3,zy f,za f,ya,j,za h,e,ha.added hn,hb.added hn,p,yq,yw];rw[zk<|by grind,ya,zd<|by omega];rfl
 ·simp only[zm.l3];grind[zk]
theorem zqB {cs}{j:Nat}(hj){b1}{k}(hp:zwv K cs[j])(hb1:b1.length<=1000000):zvt (zan.l3 n c a.effect b.effect cs b1 (j:Int) k) n (([]:List Row),M,M,0)=k (b1++zd6 (zx a.effect.delta) (zx b.effect.delta) c cs[j]):=by
 have hlen:=hp.len;have:=znE (body:=zan.l3 n c a.effect b.effect cs b1 (j:Int) k) (k:=cs[j].length) (n:=n) (st:=λrows x y i=>(rows,x,y,(i:Int))) (zi5 (zx a.effect.delta) (zx b.effect.delta) c cs[j]) (λi=>Z<|0<zx a.effect.delta (zcQ c cs[j] i)) (λi=>Z<|0<zx b.effect.delta (zcQ c cs[j] i)) (λrows x y=>if(x&&y)=U then k<|b1++[rows]else k b1) (λrec rows x y i hi hr=>?_) (λrec rows x y hr=>?_)<|by omega
 ·grind[zd6]
 ·obtain⟨r,hr1,hr2,hr3⟩:=zo8 hp h6 hi;have hcell:zvp (zvp c.first<|zvA cs[j][i] c.size) cs[j][r]=zcQ c cs[j] i:=by rw[zhH];unfold zcQ;rw[zrh hi,<-hr3,zrh hr2]
  simp only[zan.l3,za hj,zy hi,if_true,za hi,ya,hr1,za hr2,hcell,ha.Add hn,hb.Add hn,yq,yi,yw,grd,zrv];rw[zk<|by simp;omega,ya,zd<|by omega];rfl
 ·simp only[zan.l3,za hj,ya,zaj,ye,if_false];split;·grind[zk]
  ·rfl
theorem zlG {box}(hs:c.size=(K:Int))(h1:1<=K)(h0:0<=c.first)(hbx:c.first+((K*K:Nat):Int)<=(box.length:Int))(hbl:box.length<=1000):zm n box c a b=O (zia (zx a.effect.delta) (zx b.effect.delta) box c K)/\zan n box c a.effect b.effect=O (zia (zx a.effect.delta) (zx b.effect.delta) box c K):=by
 have h4:K*K<=36:=y8 h6 h6;have em:zvA c.size c.size=((K*K:Nat):Int):=by grind[zeM,Int.natCast_mul]
 have hmk:mkl 1 (zvA c.size c.size) M=O (xw (K*K) M):=by rw[em];unfold mkl;rw[if_pos<|by omega,yr]
 obtain⟨V,hV⟩:∃V:Nat->Bool,V=λi:Nat=>Z<|1<=zvp ((idx box<|zvp c.first (i:Int)).getD J).hi (zvp (zx a.effect.delta<|zvp c.first (i:Int))<|zx b.effect.delta<|zvp c.first (i:Int)):=⟨_,rfl⟩;obtain⟨zvI,hE⟩:∃zvI,zvI=(xm<|K*K).map V:=⟨_,rfl⟩;have hEl:zvI.length=K*K:=by grind
 have hbox:∀i,i<K*K->∃w,idx box (zvp c.first (i:Int))=O w:=λi hi=>zaD (by grind[zbi])<|by grind[zbi]
 have hcyc:zbx n (K:Int) zvI=O (cycP (hasP ⟨(K:Int),zvI⟩) K):=zi3 h1 h6 hEl hn;have hrcyc:zL n (K:Int) zvI=O (cycP (hasP ⟨(K:Int),zvI⟩) K):=zk0 h1 h6 hEl hn;obtain⟨cyc,hcy⟩:∃cyc,cyc=cycP (hasP ⟨(K:Int),zvI⟩) K:=⟨_,rfl⟩;have hcl:cyc.length<=900000:=by
  obtain⟨r,r1,r2,-⟩:=zly (n:=n) (size:=(K:Int)) (zvI:=zvI) rfl h1 h6 hEl hn;grind
 have hcp:∀l∈cyc,zwv K l:=λl hl=>by
  rw[hcy]at hl;obtain⟨r,-,hl⟩:=uf.1 hl;grind[zhd,zgW]
 have hres:zia (zx a.effect.delta) (zx b.effect.delta) box c K=cyc.flatMap (zd6 (zx a.effect.delta) (zx b.effect.delta) c):=by grind[zia]
 rw[<-hcy]at hcyc hrcyc;rw[hres];have hgl:∀x:List Int,(zd6 (zx a.effect.delta) (zx b.effect.delta) c x).length<=1:=λx=>by grind[zd6]
 constructor
 ·unfold zm;rw[hmk,ya];have:=zA (body:=zm.l1 n box c a b<|xw (K*K) M) (len:=K*K) (st:=λi=>((xm i).map V++xw (K*K-i) M,(i:Int))) (g:=λ_=>O<|cyc.flatMap<|zd6 (zx a.effect.delta) (zx b.effect.delta) c) (λrec i hi hr=>?_) (λrec=>?_) n 0 (yn _)<|by omega
  ·simpa using this
  ·have hlt:Z ((i:Int)<((xw (K*K) M).length:Int))=true:=by simp;omega
   obtain⟨w,hw⟩:=hbox i hi;have hz:za0 n (i:Int) a c b=O (zvp (zx a.effect.delta<|zvp c.first (i:Int))<|zx b.effect.delta<|zvp c.first (i:Int)):=by unfold za0;rw[ha.added hn,ya,hb.added hn,ya]
   have hvi:V i=Z (1<=zvp w.hi (zvp (zx a.effect.delta<|zvp c.first (i:Int))<|zx b.effect.delta<|zvp c.first (i:Int))):=by rw[hV];simp only[hw,yi]
   have hin:i<((xm i).map V++xw (K*K-i) M).length:=by simp;omega
   have hst:sto ((xm i).map V++xw (K*K-i) M) (i:Int) (V i)=O ((xm<|i+1).map V++xw (K*K-(i+1)) M):=by unfold sto;rw[if_pos ⟨by omega,by omega⟩,yr];congr 1;rw[uL _ _<|by simp,show K*K-i=K*K-(i+1)+1 by omega,vA];simp[uw]
   simp only[zm.l1,hlt,if_true,hw,ya,hz,za hin];rw[<-hvi,hst,ya,zd<|by omega];exact hr
  ·have hge:Z (((K*K:Nat):Int)<((xw (K*K) M).length:Int))=false:=by simp
   have e0:(xm<|K*K).map V++xw (K*K-K*K) M=zvI:=by rw[hE];simp
   simp only[zm.l1,hge,ye,if_false,e0];rw[hs,hcyc,ya];have:=zcw (body:=zm.l2 n c a b cyc) (k:=cyc.length) (n:=n) (st:=λ(s:List<|List Row)i=>(s,(i:Int))) (λi=>zd6 (zx a.effect.delta) (zx b.effect.delta) c<|cyc.getD i []) O 1 [] (λi _=>hgl _) (λrec s i hi hI=>?_) (λrec s hI=>?_)<|by omega
   ·rw[zi9]at this;simpa using this
   ·have e:cyc.getD i []=cyc[i]:=by simp[yL,hi]
    rw[e];simp only[zm.l2,zy hi,if_true,jn,za hi,ya];rw[zqZ ha hb h6 hn (hcp _<|yh hi)<|by simp at hI;omega,zd<|by omega]
   ·simp only[zm.l2,zaj,ye,if_false]
 ·unfold zan;have:=zcw (body:=zan.l1 n box c a.effect b.effect) (k:=K*K) (n:=n) (st:=λ(s:List Bool)i=>(s,(i:Int))) (λi=>[V i]) (λs=>(zL n c.size s).bind λx59_21=>zvt (zan.l2 n c a.effect b.effect x59_21) n (([]:List<|List Row),0)) 1 [] (λi _=>by simp) (λrec s i hi hI=>?_) (λrec s hI=>?_)<|by omega
  ·have e0:(xm<|K*K).flatMap (λi=>[V i])=zvI:=by rw[hE,List.map_eq_flatMap]
   rw[e0,yR,hs,hrcyc,ya]at this;refine this.trans ?_;have:=zcw (body:=zan.l2 n c a.effect b.effect cyc) (k:=cyc.length) (n:=n) (st:=λ(s:List<|List Row)i=>(s,(i:Int))) (λi=>zd6 (zx a.effect.delta) (zx b.effect.delta) c<|cyc.getD i []) O 1 [] (λi _=>hgl _) (λrec s i hi hI=>?_) (λrec s hI=>?_)<|by omega
   ·rw[zi9]at this;simpa using this
   ·have e:cyc.getD i []=cyc[i]:=by simp[yL,hi]
    rw[e];simp only[zan.l2,zy hi,if_true,jn];rw[zqB ha hb h6 hn hi (hcp _<|yh hi)<|by simp at hI;omega,zd<|by omega]
   ·simp only[zan.l2,zaj,ye,if_false]
  ·have hlt:Z ((i:Int)<zvA c.size c.size)=true:=by rw[em];simp;omega
   obtain⟨w,hw⟩:=hbox i hi;have hvi:V i=Z (1<=zvp (zvp w.hi<|zx a.effect.delta<|zvp c.first (i:Int)) (zx b.effect.delta<|zvp c.first (i:Int))):=by rw[hV,zhH];simp only[hw,yi]
   simp only[zan.l1,hlt,if_true,hw,ya,ha.Add hn,hb.Add hn];rw[<-hvi,zk<|by simp at hI;simp;omega,ya,zd<|by omega]
  ·have hge:Z (((K*K:Nat):Int)<zvA c.size c.size)=false:=by rw[em];simp
   simp only[zan.l1,hge,ye,if_false]
end
theorem zwA.zzp {n a r x}(h:zwA a)(ha:zwu a)(hr:r.zvr.length<=1000)(hx:zJ n a r=O x)(hn:1000000<=n):zbD n a.effect r=O x:=by have:=ha.delta;rw[<-hx,znU (by omega) (by omega) (by omega)<|by omega,zcF (by omega) (by omega) (by omega)<|by omega,zib h.add]
theorem zwA.Sum {n a r}(h:zwA a)(ha:zwu a)(hr:r.zvr.length<=1000)(hn:1000000<=n):zbD n a.effect r=O (chgN n a r):=h.zzp ha hr (zeQ ha hr hn) hn
theorem zn1 {n c e f}(h:∀x,zbd n e x=f x):zbO n c e=zH n c f:=by
 have:zbO.l1 n c e=zH.l1 n c f:=by grind[zbO.l1,zH.l1]
 grind[zbO,zH]
theorem rgraph0 {n K c}(hc:zwZ K c)(hk:c.kind=1)(hn:1000000<=n):zbO n c ⟨[],[],[]⟩=O (gr n c λq0=>za7 n q0):=by
 rw[zn1 (f:=λq0=>za7 n q0) λx=>?_];·exact(zeq hc hk (λx=>⟨_,rfl⟩) hn).1
 ·rw[zfr x (by simp)<|by grind];rfl
theorem zAd {n K a c}(sa:zwA a)(hc:zwZ K c)(hk:c.kind=1)(hn:1000000<=n):zbO n c a.effect=O (gr n c λq0=>zR n q0 a):=by
 rw[zn1 (f:=λq0=>zR n q0 a) λx=>?_];·exact(zeq hc hk (λx=>⟨zx a.effect.delta x,by unfold zR;rw[sa.added hn];rfl⟩) hn).1
 ·unfold zR;rw[sa.Add hn,sa.added hn];rfl
theorem rgraph4 {n K a c}(sa:zwA a)(hc:zwZ K c)(hk:c.kind=1)(hn:1000000<=n):zbO n c a.effect=O (gr n c λq0=>zai n q0 a):=zAd sa hc hk hn
theorem zl3 {n K a c}(sa:zwA a)(hc:zwZ K c)(hk:c.kind=1)(hn:1000000<=n):zbV n a.effect c=O (Z<|0<(((zD n a c).getD []).length:Int)):=by obtain⟨k,b,d⟩:=hc.mul hk;have:=sa.len;rw[zk1 b (by omega) (by omega) (by omega) (by omega) sa.add,zdx b (by omega) (by omega) (by omega)<|by omega];simp
theorem zoD {n r}(hl:r.zvr.length<=1000)(hn:1000000<=n):zcO n r=O r:=by
 unfold zcO;have:=zet (body:=zcO.l1 n r) (l:=r.zvr) (n:=n) (st:=λb i=>(b,i)) (λt=>t) (λb=>O ⟨b,r.bound⟩) [] (λa b i d c=>?_) (λa b c=>?_)<|by omega
 ·simp_all
 ·grind[zcO.l1,za,zk,zd]
 ·simp[zcO.l1]
theorem zrW {n r B}(hl:r.zvr.length<=1000)(hn:1000000<=n):zbr n r B=O ⟨r.zvr.map λt=>⟨t.cell,zwb t.zvy⟩,B⟩:=by
 unfold zbr;have:=zet (body:=zbr.l1 n r B) (l:=r.zvr) (n:=n) (st:=λb i=>(b,i)) (λt=>⟨t.cell,zwb t.zvy⟩) (λb=>O ⟨b,B⟩) [] (λa b i d c=>?_) (λa b c=>?_)<|by omega
 ·grind
 ·grind[zbr.l1,za,zk,zd]
 ·simp[zbr.l1]
theorem znV {n l v}(hl:l.length<1000000)(hn:1000000<=n):ziC n l v=O (Z<|v∈l):=by exact zjN hl hn
noncomputable def zyO (n:Nat)(m:Model)(q:Question)(a b:Action)(box:List Range)(R:List Row)(G:List zvP):Option<|System×Int:=jn (λ(v:List Row×List (List Row))=>let b4_154:=v.1;let c1_3_155:=v.2;(zak n (⟨box,b4_154,G,c1_3_155⟩:System)).bind λx311_168=>if(!x311_168)=U then O ((⟨[],[],[],[]⟩:System),8)else O ((⟨box,b4_154,G,c1_3_155⟩:System),0)) λk_156=>if q.target.hold=U then(idx a.effect.hold q.target.index).bind λx243_157=>(zbD n b.effect x243_157).bind λx253_158=>(zbr n x243_157<|zvz (zvp (zwb x243_157.bound) x253_158) 1).bind λx256_159=>(app 32 R [x256_159]).bind λx258_160=>k_156 (x258_160,[])else(idx m.constraints q.target.index).bind λx265_161=>if(x265_161.kind==0)=U then(zbD n a.effect x265_161.row).bind λx281_162=>(zbD n b.effect x265_161.row).bind λx286_163=>(zbr n x265_161.row<|zvz (zvp (zvp (zwb x265_161.row.bound) x281_162) x286_163) 1).bind λx289_164=>(app 32 R [x289_164]).bind λx291_165=>k_156 (x291_165,[])else(zan n box x265_161 a.effect b.effect).bind λx298_166=>if((x298_166.length:Int)==0)=U then(app 32 R [(⟨[],-1⟩:Row)]).bind λx308_167=>k_156 (x308_167,x298_166)else k_156 (R,x298_166)
noncomputable def zjS (n:Nat)(m:Model)(q:Question)(a b:Action)(box:List Range)(R:List Row):Option<|System×Int:=zvt (zu.l3 n m q a b box) n (R,0)
theorem zn0 {n K m q a b box R}(ha:zwu a)(hb:zwu b)(hc:∀c∈m.constraints,zwZ K c)(sa:zwA a)(sb:zwA b)(hl:m.constraints.length<=1000)(hn:1000000<=n):zvt (zu.l5 n m q a b box R) n ([],0)=zyO n m q a b box R ((xm m.constraints.length).flatMap λi=>gS n (q.e !=q.f) a b<|m.constraints.getD i J):=by
 have:=zcw (body:=zu.l5 n m q a b box R) (k:=m.constraints.length) (n:=n) (st:=λb i=>(b,i)) (λi=>gS n (q.e !=q.f) a b<|m.constraints.getD i J) (zyO n m q a b box R) 3 [] (λi o=>?_) (λl s i o t=>?_) (λl s t=>?_)<|by omega
 ·grind
 ·grind[zpm,List.getElem_mem]
 ·have e:m.constraints.getD i J=m.constraints[i]:=by grind
  have d:=hc _<|yh o;simp only[zu.l5,jn,za o,ya,e,zd (i:=i)<|by omega];unfold gS;by_cases f:(m.constraints[i].kind !=1)=U;·grind
  ·have f:m.constraints[i].kind=1:=by grind
   obtain⟨u,r⟩:=zhf ha d f hn;obtain⟨j,p⟩:=zhf hb d f hn;rw[rgraph0 d f hn,zl3 sa d f hn,zl3 sb d f hn,zAd sa d f hn,rgraph4 sb d f hn,r,p];simp only[ya,yi];rw[zk<|by grind,ya,Bool.and_comm (Z<|0<(j.length:Int))<|q.e !=q.f];by_cases h:Z (0<(u.length:Int))=U
   ·rw[if_pos h,if_pos h,zk<|by grind,ya];by_cases g:(q.e !=q.f&&Z (0<(j.length:Int)))=U
    ·rw[if_pos g,if_pos g,zk<|by grind,ya];grind
    grind
   ·rw[if_neg h,if_neg h];by_cases g:(q.e !=q.f&&Z (0<(j.length:Int)))=U;·rw[if_pos g,if_pos g,zk<|by grind,ya];simp_all
    grind
 ·simp only[zu.l5,zaj];rfl
theorem zs6 {n K m q a b box R}(ha:zwu a)(hb:zwu b)(hc:∀c∈m.constraints,zwZ K c)(sa:zwA a)(sb:zwA b)(hl:m.constraints.length<=1000)(hR:R.length<=1000)(hn:1000000<=n):zjS n m q a b box R=zyO n m q a b box (R++(a.effect.hold++if(q.e !=q.f)=U then b.effect.hold else[])) ((xm m.constraints.length).flatMap λi=>gS n (q.e !=q.f) a b<|m.constraints.getD i J):=by
 have p:=ha.hold;have s:=hb.hold;have h:∀d,d.length<=2000->zvt (zu.l4 n m q a b box) n (d,0)=zyO n m q a b box (d++if(q.e !=q.f)=U then b.effect.hold else[]) ((xm m.constraints.length).flatMap λi=>gS n (q.e !=q.f) a b<|m.constraints.getD i J):=λd k=>by
  by_cases j:(q.e !=q.f)=U
  ·rw[if_pos j,<-zn0 ha hb hc sa sb hl hn];have:=zet (body:=zu.l4 n m q a b box) (l:=b.effect.hold) (n:=n) (st:=λb i=>(b,i)) (λr=>r) (λo=>zvt (zu.l5 n m q a b box o) n ([],0)) d (λf b6 i g e=>?_) (λf b6 e=>?_)<|by omega
   ·simp_all
   ·simp only[zu.l4,za g,ya,zoD (hb.zvr _<|yh g) hn];grind[zk,zd]
   ·simp only[zu.l4,zaj,ue,ye,if_false]
  ·rw[if_neg j,ud,<-zn0 ha hb hc sa sb hl hn,ze2<|by omega];simp only[zu.l4,j,Bool.and_false,ye,if_false]
 unfold zjS;have:=zet (body:=zu.l3 n m q a b box) (l:=a.effect.hold) (n:=n) (st:=λb i=>(b,i)) (λr=>r) (λd=>zvt (zu.l4 n m q a b box) n (d,0)) R (λf b6 i g e=>?_) (λf b6 e=>?_)<|by omega
 ·grind[List.map_id']
 ·simp only[zu.l3,za g,ya,zoD (ha.zvr _<|yh g) hn];grind[zk,zd]
 ·simp only[zu.l3,zaj,ye,if_false]
theorem ztd {n m q a b box}(ha:zwu a)(hb:zwu b)(hc:∀c∈m.constraints,zwZ box.length c)(hl:m.constraints.length<=1000)(hbx:box.length<=1000)(sa:zwA a)(sb:zwA b)(hh:q.target.hold=U->0<=q.target.index/\q.target.index<(a.effect.hold.length:Int))(hh2:q.target.hold=M->0<=q.target.index/\q.target.index<(m.constraints.length:Int))(hn:1000000<=n):∃(X:List Row)(G:List zvP)(cs:List<|List Row),(X.length<=30/\∀r∈X,r.zvr.length<=1000)/\(G.length<=3000/\∀g∈G,g.least.length<=36)/\zgv cs/\∀R,R.length<=1000->zyw n m q a b box R=endS n ⟨box,R++X,G,cs⟩ (zar n ⟨box,R++X,G,cs⟩)/\zjS n m q a b box R=endS n ⟨box,R++X,G,cs⟩ (zak n ⟨box,R++X,G,cs⟩):=by
 obtain⟨H,hH⟩:∃H:List Row,H=a.effect.hold++if(q.e !=q.f)=U then b.effect.hold else[]:=⟨_,rfl⟩;have hHl:H.length<=20/\∀r∈H,r.zvr.length<=1000:=by
  have h1:=ha.hold;have h2:=hb.hold;rw[hH];constructor;·grind
  ·intro r hr;rcases yv.1 hr with hr|hr;·exact ha.zvr r hr
   ·split at hr;·exact hb.zvr r hr
    ·simp at hr
 have hstep:∀R:List Row,R.length<=1000->zyw n m q a b box R=zdK n m q a b box (R++H):=λR hR=>by
  have h1:=ha.hold;have h2:=hb.hold;have hloop:zvt (zf.l3 n m q a b box H) n (R,0)=zdK n m q a b box (R++H):=by
   have:=zet (body:=zf.l3 n m q a b box H) (l:=H) (n:=n) (st:=λb i=>(b,(i:Int))) (λr:Row=>r) (zdK n m q a b box) R (λrec b6 i hi hb6=>?_) (λrec b6 hb6=>?_)<|by omega
   ·simpa using this
   ·simp only[zf.l3,zy hi,if_true,za hi,ya,zr9 (hHl.2 _<|yh hi) hn];rw[zk<|by first|omega|(simp;omega),ya,zd<|by omega]
   ·simp only[zf.l3,zaj,ye,if_false];rfl
  unfold zyw;simp only[jn];rw[zk<|by first|omega|(simp;omega),ya,yR];by_cases he:(q.e !=q.f)=U;·rw[if_pos he,zk<|by first|omega|(simp;omega),ya,<-hloop,hH,if_pos he]
  ·rw[if_neg he,<-hloop,hH,if_neg he,ud]
 obtain⟨G,hG⟩:∃G,G=(xm m.constraints.length).flatMap λi=>gS n (q.e !=q.f) a b<|m.constraints.getD i J:=⟨_,rfl⟩;have hGl:G.length<=3000/\∀g∈G,g.least.length<=36:=by
  have key:∀k,k<=m.constraints.length->((xm k).flatMap λi=>gS n (q.e !=q.f) a b<|m.constraints.getD i J).length<=3*k/\∀g∈(xm k).flatMap λi=>gS n (q.e !=q.f) a b<|m.constraints.getD i J,g.least.length<=36:=by
   intro k;induction k with|zero=>intro _;simp|succ k ih=>
    intro hk;obtain⟨i1,i2⟩:=ih (by omega);have e:m.constraints.getD k J=m.constraints[k]'(by omega):=by simp[vD,show k<m.constraints.length by omega]
    obtain⟨g1,g2⟩:=zpm (n:=n) (ef:=q.e !=q.f) ha hb (hc _<|yh<|show k<m.constraints.length by omega) hn;rw[zji,e];constructor;·rw[yT];omega
    ·intro g hg;rcases yv.1 hg with hg|hg;·exact i2 g hg
     ·exact g2 g hg
  rw[hG];obtain⟨k1,k2⟩:=key _<|ym _;exact⟨by omega,k2⟩
 have h0:∀(c:Constraint)(R:List Row),(c.kind==1)=M->finS n box a b R c G=endS n ⟨box,R,G,[]⟩ (zar n ⟨box,R,G,[]⟩):=λc R hk=>by unfold finS;simp only[jn,hk,ye,if_false];rfl
 have c0:zgv []:=⟨by simp,by simp⟩;have rstep:∀R:List Row,R.length<=1000->zjS n m q a b box R=zyO n m q a b box (R++H) G:=λR hR=>by rw[zs6 ha hb hc sa sb hl hR hn,hG,hH]
 cases hhold:q.target.hold with
 |true=>
  obtain⟨i1,i2⟩:=hh hhold;obtain⟨r,hr⟩:=zaD i1 i2;have hrl:=ha.zvr r<|zam hr;obtain⟨x,hx⟩:=zhb hb hrl hn;have hsx:=sb.zzp hb hrl hx hn;have hnr:=zeR (n:=n) (r:=r) (f:=λq0=>za1 n q0) (g:=λq0=>zav n q0 x) (fP:=zwb) (B:=zvz (zvp (zwb r.bound) x) 1) (λ_=>rfl) rfl hrl hn;refine⟨H++[⟨r.zvr.map λt=>⟨t.cell,zwb t.zvy⟩,zvz (zvp (zwb r.bound) x) 1⟩],G,[],⟨by first|omega|(simp;omega),λs hs=>?_⟩,hGl,c0,λR hR=>?_⟩
  ·rcases yv.1 hs with hs|hs;·exact hHl.2 s hs
   ·simp at hs;subst hs;simpa using hrl
  ·refine⟨?_,?_⟩;rotate_left;·rw[rstep R hR];unfold zyO;simp only[jn,hhold,if_true,hr,ya,hsx,zrW hrl hn];rw[zk<|by first|omega|(simp;omega),ya,yJ];rfl
   rw[hstep R hR];unfold zdK;simp only[jn,hhold,if_true,hr,ya,hx,hnr];rw[zk<|by first|omega|(simp;omega),ya];have:=zj6 (q:=q) (a:=a) (b:=b) (box:=box) (R:=R++H++[⟨r.zvr.map λt=>⟨t.cell,zwb t.zvy⟩,zvz (zvp (zwb r.bound) x) 1⟩]) (c:=⟨0,0,⟨[],0⟩,0,0⟩) ha hb hc hl hn;rw[<-hG]at this;rw[yJ]at this|-;exact this.trans<|h0 _ _ rfl|false=>
  obtain⟨i1,i2⟩:=hh2 hhold;obtain⟨c,hcx⟩:=zaD i1 i2;have hco:=hc c<|zam hcx;have hgl:=λR:List Row=>zj6 (q:=q) (a:=a) (b:=b) (box:=box) (R:=R) (c:=c) ha hb hc hl hn;rw[<-hG]at hgl;rcases hco.kind with hk|hk
  ·obtain⟨x,hx⟩:=zhb ha hco.len hn;obtain⟨y,hy⟩:=zhb hb hco.len hn;have hsx:=sa.zzp ha hco.len hx hn;have hsy:=sb.zzp hb hco.len hy hn;have hnr:=zeR (n:=n) (r:=c.row) (f:=λq0=>za1 n q0) (g:=λq0=>zav n q0<|zvp x y) (fP:=zwb) (B:=zvz (zvp (zwb c.row.bound)<|zvp x y) 1) (λ_=>rfl) rfl hco.len hn;refine⟨H++[⟨c.row.zvr.map λt=>⟨t.cell,zwb t.zvy⟩,zvz (zvp (zwb c.row.bound)<|zvp x y) 1⟩],G,[],⟨by first|omega|(simp;omega),λs hs=>?_⟩,hGl,c0,λR hR=>?_⟩
   ·rcases yv.1 hs with hs|hs;·exact hHl.2 s hs
    ·simp at hs;subst hs;simpa using hco.len
   ·have hk':(c.kind==0)=true:=by simp[hk]
    refine⟨?_,?_⟩;rotate_left;·rw[rstep R hR];unfold zyO;simp only[jn,hhold,ye,if_false,hcx,ya,hk',if_true,hsx,hsy,zrW hco.len hn,zhH];rw[zk<|by first|omega|(simp;omega),ya,yJ];rfl
    rw[hstep R hR];unfold zdK;simp only[jn,hhold,ye,if_false,hcx,ya,hk',if_true,hx,hy,hnr];rw[zk<|by first|omega|(simp;omega),ya,yJ];exact(hgl _).trans<|h0 _ _<|by simp[hk]
  ·obtain⟨s,s1,s2,s3,s4,s5⟩:=hco.sz hk;obtain⟨cs,hcs,hcsO⟩:=zni (n:=n) (box:=box) (e:=a) (f:=b) s1 s2 s3 s4 s5 hbx ha.delta hb.delta hn;have hrc:zan n box c a.effect b.effect=O cs:=by have:=zlG (n:=n) (c:=c) sa sb s3 hn (box:=box) s1 s2 s4 s5 hbx;rw[this.2,<-this.1,hcs]
   have hk0:(c.kind==0)=false:=by simp[hk]
   have hk1:(c.kind==1)=true:=by simp[hk]
   by_cases he:((cs.length:Int)==0)=U
   ·refine⟨H++[⟨[],-1⟩],G,cs,⟨by first|omega|(simp;omega),λs hs=>?_⟩,hGl,hcsO,λR hR=>?_⟩
    ·rcases yv.1 hs with hs|hs;·exact hHl.2 s hs
     ·simp at hs;subst hs;simp
    ·refine⟨?_,?_⟩;rotate_left;·rw[rstep R hR];unfold zyO;simp only[jn,hhold,ye,if_false,hcx,ya,hk0,hrc,he,if_true];rw[zk<|by first|omega|(simp;omega),ya,yJ];rfl
     rw[hstep R hR];unfold zdK;simp only[jn,hhold,ye,if_false,hcx,ya,hk0];refine(hgl _).trans ?_;unfold finS;simp only[jn,hk1,if_true,hcs,ya,he];rw[zk<|by first|omega|(simp;omega),ya,yJ];rfl
   ·refine⟨H,G,cs,⟨by omega,hHl.2⟩,hGl,hcsO,λR hR=>?_⟩;refine⟨?_,?_⟩;rotate_left;·rw[rstep R hR];unfold zyO;simp only[jn,hhold,ye,if_false,hcx,ya,hk0,hrc];rw[if_neg he];rfl
    rw[hstep R hR];unfold zdK;simp only[jn,hhold,ye,if_false,hcx,ya,hk0];refine(hgl _).trans ?_;unfold finS;simp only[jn,hk1,if_true,hcs,ya];rw[if_neg he];rfl
theorem zqD {n m q rows a b box}(ha:zwu a)(hb:zwu b)(hc:∀c∈m.constraints,zwZ box.length c)(sa:zwA a)(sb:zwA b)(hl:m.constraints.length<=1000)(hr:rows.length<=1000)(hn:1000000<=n):zvt (zu.l2 n m q rows a b box) n ([],0)=zjS n m q a b box (zw3 n m q rows a b):=by
 have:=zcw (body:=zu.l2 n m q rows a b box) (k:=m.constraints.length) (n:=n) (st:=λb i=>(b,i)) (λi=>rowS n q rows a b i<|m.constraints.getD i J) (zjS n m q a b box) 1 [] (λi f=>?_) (λg b6 i f j=>?_) (λg b6 j=>?_)<|by omega
 ·grind[zw3]
 ·grind[rowS]
 ·have e:m.constraints.getD i J=m.constraints[i]:=by simp_all
  have d:=hc _<|yh f;rw[e];simp only[zu.l2,zy f,if_true,jn,za f,ya,sa.Sum ha d.len hn,sb.Sum hb d.len hn,znV (show rows.length<1000000 by omega) hn,zoD d.len hn];unfold rowS;by_cases h:(m.constraints[i].kind !=0)=U;·rw[if_pos h,if_pos h,ud,zd<|by omega]
  ·grind[kS,zk,zd]
 ·simp only[zu.l2,zaj];rfl
theorem zlr {n m q rows a b}(hF:Fuel n)(hS:zvS m)(hV:zwn m)(hq:zdh m q=U)(ha:idx m.zvq q.e=O a)(hb:idx m.zvq q.f=O b)(hA:zwu a)(hB:zwu b)(hc:∀c∈m.constraints,zwZ (boxM m).length c)(sa:zwA a)(sb:zwA b)(hr:rows.length<=1000):zu n m q rows=if(rows.all λx=>!badR m x)=U then zjS n m q a b (boxM m)<|zw3 n m q rows a b else O (⟨[],[],[],[]⟩,2):=by
 have o:=hF.big;have e:1000000<=n:=by omega
 have k:=hS.constraints;unfold zu;rw[zej o hS,zdg.2 hV,hq,ya,if_neg<|by simp];have:=zal (body:=zu.l1 n m q rows) (l:=rows) (n:=n) (st:=λi=>i) (λx=>!badR m x) (O (⟨[],[],[],[]⟩,2)) (zjS n m q a b (boxM m)<|zw3 n m q rows a b) (λd i p=>?_) (λd=>?_)<|by omega
 ·simp_all
 ·simp only[zu.l1,za p,ya,grd];by_cases g:(Z (rows[i]<0)||decide (m.constraints.length<=rows[i]))=U
  ·have h:badR m rows[i]=true:=by grind[badR]
   simp_all
  ·have f:=g;simp only[yH,yf,not_or,Int.not_le,Int.not_lt]at f;obtain⟨c,j⟩:=zaD f.1 f.2;unfold badR;simp only[g,yi,zd (i:=i)<|by omega];simp_all
 ·simp only[zu.l1,znS hS hV.lay e];grind[zqD]
theorem zhj {n m}(hn:4294967296<=n)(hS:zvS m)(hV:zwn m){a}(ha:a∈m.zvq):zwA a:=⟨((zmu hn hS hV).acts a ha).2.2.1,by have:=(zju hS ha).delta;omega⟩
section
variable{E:Nat->Nat->Bool}{K:Nat}
theorem zo3 {p}:∀{k i},anyR p i k=U↔∃j,i<=j/\j<i+k/\p j=U
 |0,i=>by grind[anyR]|k+1,i=>by
  simp only[anyR,yH,zo3 (k:=k) (i:=i+1)];grind
theorem zim:∀(r)(ls),lev E K r ls=ls.flatMap λl=>lev E K r [l]
 |0,ls=>by simp[lev]|r+1,ls=>by
  have e:∀l,lev E K (r+1) [l]=(ext E K l).flatMap λx=>lev E K r [x]:=λl=>by
   have:lev E K (r+1) [l]=lev E K r (ext E K l):=by simp[lev]
   rw[this,zim r]
  simp only[e];rw[lev,zim r,List.flatMap_assoc]
theorem znw {l x}(h:l≠[]):fstN (l++[x])=fstN l:=by cases l with|nil=>simp_all|cons a t=>rfl
theorem zdQ {l}{x:Nat}:lstN (l++[(x:Int)])=x:=by simp[lstN]
theorem zd9 {l x}:x∈ext E K l↔∃j,fstN l+1<=j/\j<K/\E (lstN l) j=U/\(j:Int)∉l/\x=l++[(j:Int)]:=by
 constructor;·grind[zjg]
 ·rintro⟨j,b,c,d,a,rfl⟩;refine uf.2 ⟨j-(fstN l+1),yX.2<|by omega,?_⟩;unfold ext1;simp_all
theorem zmP:∀(d)(path)(first last),path≠[]->fstN path=first->lstN path=last->(neP E K d path first last=U↔∃x∈lev E K d [path],zeo E x=U)
 |0,path,first,last,_,b,c=>by subst b c;simp[neP,lev,zeo]|d+1,path,first,last,i,b,c=>by
  subst b c;have e:lev E K (d+1) [path]=lev E K d (ext E K path):=by simp[lev]
  rw[e,zim,neP,zo3];simp only[uf];constructor;·rintro⟨j,h,k,a⟩;simp only[yc,yD,uc,yK,vM]at a;obtain⟨⟨a,f⟩,l⟩:=a;obtain⟨x,m,g⟩:=(zmP d (path++[(j:Int)]) (fstN path) j (by simp) (znw i) zdQ).1 l;exact⟨x,⟨_,zd9.2 ⟨j,h,by omega,f,a,rfl⟩,m⟩,g⟩
  ·rintro⟨x,⟨y,o,n⟩,g⟩;obtain⟨j,h,k,a,f,rfl⟩:=zd9.1 o;refine⟨j,h,by omega,?_⟩;simp only[yc,yD,uc,yK,vM];exact⟨⟨f,a⟩,(zmP d (path++[(j:Int)]) (fstN path) j (by simp) (znw i) zdQ).2 ⟨x,n,g⟩⟩
theorem zgf {x}:x∈cycP E K↔∃r,r<K/\x∈lev E K r (ones K)/\zeo E x=true:=by grind[cycP]
theorem zeZ:zxz E K=U↔∀x,x∉cycP E K:=by
 unfold zxz;rw[zj2];constructor;·intro h x f;obtain⟨r,p,c,m⟩:=zgf.1 f;rw[zim]at c;obtain⟨l,g,o⟩:=uf.1 c;obtain⟨a,i,rfl⟩:=yY.1 g;have:=zgy.1 (h (r+1) (by omega)<|by omega) a<|yX.1 i;grind[zmP,fstN,lstN]
 ·intro h b q n;refine zgy.2 λa e=>?_;cases j:neP E K (b-1) [a] a a with
  |false=>rfl|true=>obtain⟨x,k,d⟩:=(zmP (b-1) [a] a a (by simp) (by simp[fstN])<|by simp[lstN]).1 j;refine absurd (zgf.2 ⟨b-1,by omega,?_,d⟩)<|h x;rw[zim];exact uf.2 ⟨_,yY.2 ⟨a,yX.2 e,rfl⟩,k⟩
def vtx (l:List Int)(i:Nat):Nat:=(l.getD i 0).toNat
def Chn (E:Nat->Nat->Bool)(l:List Int):Prop:=∀j,j+1<l.length->E (vtx l j) (vtx l<|j+1)=U
theorem ziS {l x i}(h:i<l.length):vtx (l++[x]) i=vtx l i:=by grind[vtx]
theorem zoj {l}{x:Nat}:vtx (l++[(x:Int)]) l.length=x:=by grind[vtx]
theorem zmL {l}:lstN l=vtx l (l.length-1):=by grind[lstN,vtx]
theorem zsK {l}:fstN l=vtx l 0:=by cases l<;>rfl
theorem Chn.snoc {l}{b:Nat}(h0:l≠[]):Chn E (l++[(b:Int)])↔Chn E l/\E (lstN l) b=true:=by
 have f:=List.length_pos_iff.2 h0;constructor
 ·intro h;refine⟨λj c=>?_,?_⟩
  ·have:=h j<|by grind
   grind[ziS]
  ·have:=h (l.length-1)<|by grind
   grind[ziS,zoj,zmL]
 ·rintro⟨a,d⟩j c;by_cases e:j+1<l.length;·rw[ziS<|by omega,ziS<|by omega];exact a j e
  grind[ziS,zoj,zmL]
theorem zpw:∀{r}{x},x∈lev E K r (ones K)->x≠[]:=λ{r x}h e=>by have:=(zhd r zgW x h).pos;simp_all
theorem zrs:∀{r}{x},x∈lev E K r (ones K)->Chn E x|0,x,h=>by obtain⟨a,-,rfl⟩:=yY.1 h;intro j e;grind|r+1,x,h=>by rw[zin]at h;obtain⟨y,b,d⟩:=uf.1 h;obtain⟨j,-,-,c,-,rfl⟩:=zd9.1 d;exact(Chn.snoc<|zpw b).2 ⟨zrs b,c⟩
theorem zpy {F}:∀{r}{x},x∈lev F K r (ones K)->Chn E x->x∈lev E K r (ones K)|0,x,h,_=>h|r+1,x,h,c=>by rw[zin]at h|-;obtain⟨y,a,d⟩:=uf.1 h;obtain⟨j,e,f,-,g,rfl⟩:=zd9.1 d;obtain⟨i,b⟩:=(Chn.snoc<|zpw a).1 c;exact uf.2 ⟨y,zpy a i,zd9.2 ⟨j,e,f,b,g,rfl⟩⟩
def zyC (E:Nat->Nat->Bool)(l:List Int):Prop:=∀i,i<l.length->E (vtx l i) (vtx l<|(i+1)%l.length)=U
theorem znn {l}(h0:l≠[]):zyC E l↔Chn E l/\zeo E l=true:=by
 have d:=List.length_pos_iff.2 h0;unfold zeo;rw[zmL,zsK];constructor
 ·intro h;refine⟨λj c=>?_,?_⟩
  ·have:=h j<|by omega
   grind[xU]
  ·have:=h (l.length-1)<|by omega
   grind[tw]
 ·rintro⟨a,f⟩i b;by_cases e:i+1<l.length;·rw[xU e];exact a i e
  grind[tw]
theorem zku {x}(h:x∈cycP E K):zyC E x:=by grind[zgf,znn,zpw,zrs]
theorem zkv {F x}(h:x∈cycP F K)(hc:zyC E x):x∈cycP E K:=by obtain⟨r,c,a,-⟩:=zgf.1 h;obtain⟨d,b⟩:=(znn<|zpw a).1 hc;exact zgf.2 ⟨r,c,zpy a d,b⟩
theorem zfN {x}(h:x∈cycP E K):zwv K x:=by grind[zgf,zhd,zgW]
theorem zyC.mono {F x}(hp:zwv K x)(h:∀a b,a<K->b<K->E a b=U->F a b=U)(hc:zyC E x):zyC F x:=λi d=>by
 have c:∀j,j<x.length->vtx x j<K:=λj e=>by
  have:=hp.mem x[j]<|yh e;grind[vtx]
 exact h _ _ (c i d) (c _<|wE _<|by omega)<|hc i d
structure Walk (E:Nat->Nat->Bool)(K p:Nat)(f:Nat->Nat):Prop where
 per:∀i,f (i+p)=f i
 lt:∀i,f i<K
 edge:∀i,E (f i) (f<|i+1)=U
theorem argmin (f:Nat->Nat):∀p,0<p->∃t,t<p/\∀j,j<p->f t<=f j
 |0,h=>by omega|1,_=>⟨0,by omega,λj a=>by simp_all⟩|p+2,_=>by
  obtain⟨t,c,b⟩:=argmin f (p+1) (by omega);by_cases h:f t<=f (p+1);·exact⟨t,by omega,λj a=>by grind⟩
  ·exact⟨p+1,by omega,λj a=>by grind⟩
theorem zuk {f:Nat->Nat}{p}(h:∀i,f (i+p)=f i):∀i,f i=f (i%p):=λi=>by
 have:∀k i,f (i+k*p)=f i:=λk=>by induction k with|zero=>simp_all|succ k ih=>grind
 have e:=this (i/p)<|i%p;grind[Nat.mod_add_div]
theorem zsu {p:Nat}{f:Nat->Nat}(hp:0<p)(hw:Walk E K p f)(hinj:∀i j,i<p->j<p->f i=f j->i=j):∃t,t<p/\((xm p).map λi=>((f<|t+i:Nat):Int))∈cycP E K:=by
 obtain⟨t,t1,t2⟩:=argmin f p hp;have gmod:=zuk hw.per;have ginj:∀i j,i<p->j<p->f (t+i)=f (t+j)->i=j:=λi j hi hj e=>by
  rw[gmod<|t+i,gmod<|t+j]at e;have:=hinj _ _ (wE _ hp) (wE _ hp) e;have h1:(t+i)%p=if t+i<p then t+i else t+i-p:=by
   split;·rw[xU ‹_›]
   ·rw[Nat.mod_eq_sub_mod<|by omega,xU<|by omega]
  have h2:(t+j)%p=if t+j<p then t+j else t+j-p:=by
   split;·rw[xU ‹_›]
   ·rw[Nat.mod_eq_sub_mod<|by omega,xU<|by omega]
  rw[h1,h2]at this;split at this<;>split at this<;>omega
 have gmin:∀j,0<j->j<p->f t+1<=f (t+j):=λj h0 hj=>by
  have h1:f t<=f (t+j):=by rw[gmod<|t+j];exact t2 _<|wE _ hp
  have h2:f t≠f (t+j):=λe=>by have:=ginj 0 j (by omega) hj (by simpa using e);omega
  omega
 have hlev:∀r,r<p->((xm<|r+1).map λi=>((f<|t+i:Nat):Int))∈lev E K r (ones K):=λr=>by induction r with
  |zero=>intro _;exact yY.2 ⟨f t,yX.2<|hw.lt t,by simp[uw]⟩|succ r ih2=>
   intro hr;have hy:=ih2 (by omega);rw[zin];refine uf.2 ⟨_,hy,zd9.2 ⟨f<|t+(r+1),?_,hw.lt _,?_,?_,?_⟩⟩
   ·have:fstN ((xm<|r+1).map λi=>((f<|t+i:Nat):Int))=f t:=by rw[u3];simp[fstN]
    rw[this];exact gmin _ (by omega) hr
   ·have:lstN ((xm<|r+1).map λi=>((f<|t+i:Nat):Int))=f (t+r):=by rw[uw,ur];exact zdQ
    rw[this];exact hw.edge<|t+r
   ·intro hm;obtain⟨i,i1,i2⟩:=yY.1 hm;have:=ginj i (r+1) (by have:=yX.1 i1;omega) hr (by omega);have:=yX.1 i1;omega
   ·rw[uw (n:=r+1),ur];rfl
 have hl:=hlev (p-1) (by omega);rw[show p-1+1=p by omega]at hl;have hpl:=(zhd (p-1) zgW _ hl).len;simp only[yI,uI]at hpl;refine⟨t,t1,zgf.2 ⟨p-1,by omega,hl,?_⟩⟩;unfold zeo;have h1:lstN ((xm p).map λi=>((f<|t+i:Nat):Int))=f (t+(p-1)):=by
  obtain⟨k,rfl⟩:∃k,p=k+1:=⟨p-1,by omega⟩;rw[uw,ur];exact zdQ
 have h2:fstN ((xm p).map λi=>((f<|t+i:Nat):Int))=f t:=by
  obtain⟨k,rfl⟩:∃k,p=k+1:=⟨p-1,by omega⟩;rw[u3];simp[fstN]
 rw[h1,h2];have:=hw.edge<|t+(p-1);rwa[show t+(p-1)+1=t+p by omega,hw.per]at this
theorem zp8:∀(p),0<p->∀f,Walk E K p f->∃x,x∈cycP E K:=by
 intro p;induction p using Nat.strongRecOn with|ind p ih=>
  intro u f c;by_cases d:∃i j,i<j/\j<p/\f i=f j
  ·obtain⟨i,j,q,r,t⟩:=d;have b:0<j-i:=by omega
   refine ih (j-i) (by omega) b (λn=>f<|i+n%(j-i)) ⟨λn=>by simp,λn=>c.lt _,λn=>?_⟩;have k:=wE n b;by_cases e:n%(j-i)+1<j-i
   ·have:(n+1)%(j-i)=n%(j-i)+1:=by grind[Nat.add_mod,xU]
    rw[this];exact c.edge _
   ·have l:n%(j-i)+1=j-i:=by omega
    have:(n+1)%(j-i)=0:=by
     by_cases s:j-i=1;·simp_all
     ·rw[Nat.add_mod,xU (a:=1)<|by omega,l,tw]
    have:=c.edge<|i+n%(j-i);grind
  ·have g:∀i j,i<p->j<p->f i=f j->i=j:=λi j m o e=>by
    rcases Nat.lt_trichotomy i j with h|h|h;·simp_all
    ·exact h
    ·exact absurd ⟨j,i,h,m,e.symm⟩ d
   grind[zsu]
def zzK (E:Nat->Nat->Bool)(K:Nat)(S:Nat->Prop):Prop:=∀a,a<K->S a->∃b,b<K/\S b/\E b a=U
theorem zlF {S}(hS:zzK E K S){s}(hs:s<K)(hs2:S s):∃x,x∈cycP E K:=by
 have hch:∀a:{a:Nat//a<K/\S a},∃b:{a:Nat//a<K/\S a},E b.1 a.1=true:=λa=>by obtain⟨b,b1,b2,b3⟩:=hS a.1 a.2.1 a.2.2;exact⟨⟨b,b1,b2⟩,b3⟩
 let pred:=λa=>Classical.choose<|hch a;have hpred:∀a,E (pred a).1 a.1=true:=λa=>Classical.choose_spec<|hch a;let u:Nat->{a:Nat//a<K/\S a}:=λn=>Nat.rec ⟨s,hs,hs2⟩ (λ_ a=>pred a) n;have hu:∀n,E (u<|n+1).1 (u n).1=true:=λn=>hpred<|u n;have hrep:∃i j,i<j/\j<=K/\(u i).1=(u j).1:=by
  refine xF λhno=>?_;have hnd:((xm<|K+1).map λi=>((u i).1:Int)).Nodup:=by unfold List.Nodup;rw[List.pairwise_map];refine wv (λ{a b}ha hb hab e=>?_) List.pairwise_lt_range;exact hno ⟨a,b,hab,by have:=yX.1 hb;omega,by omega⟩
  have:=zit (K:=K) hnd λx hx=>by obtain⟨i,-,rfl⟩:=yY.1 hx;have:=(u i).2.1;omega
  simp only[yI,uI]at this;omega
 obtain⟨i,j,h1,h2,h3⟩:=hrep;have hd0:0<j-i:=by omega
 refine zp8 (j-i) hd0 (λn=>(u<|j-n%(j-i)).1) ⟨λn=>by simp,λn=>(u _).2.1,λn=>?_⟩;have hlt:=wE n hd0;by_cases e:n%(j-i)+1<j-i
 ·have:(n+1)%(j-i)=n%(j-i)+1:=by rw[Nat.add_mod,xU (a:=1)<|by omega,xU e]
  simp only[this];have:=hu<|j-(n%(j-i)+1);rwa[show j-(n%(j-i)+1)+1=j-n%(j-i)by omega]at this
 ·have e2:n%(j-i)+1=j-i:=by omega
  have:(n+1)%(j-i)=0:=by
   by_cases e1:j-i=1;·rw[e1,Nat.mod_one]
   ·rw[Nat.add_mod,xU (a:=1)<|by omega,e2,tw]
  simp only[this,Nat.sub_zero];rw[<-h3];have:=hu i;rwa[show i+1=j-n%(j-i)by omega]at this
theorem zqn {x}(h:x∈cycP E K):zzK E K (λa=>(a:Int)∈x)/\∃a,a<K/\(a:Int)∈x:=by
 have g:=zfN h;have k:=zku h;have f:=g.pos;have d:∀j,j<x.length->vtx x j<K/\(vtx x j:Int)∈x/\x[j]?=O (vtx x j:Int):=λj b=>by
  have c:=g.mem x[j]<|yh b;grind[vtx]
 refine⟨λa p c=>?_,vtx x 0,(d 0<|by omega).1,(d 0<|by omega).2.1⟩;obtain⟨i,n,e⟩:=wd c;have b:∃j,j<x.length/\(j+1)%x.length=i:=by
  by_cases o:i=0;·exact⟨x.length-1,by omega,by simp_all⟩
  ·exact⟨i-1,by omega,by grind[xU]⟩
 obtain⟨j,l,m⟩:=b;have:=k j l;grind
end
theorem zk9 {α:Type}{l:List α}{i:Nat}{x:α}(h:i<l.length):sto l (i:Int) x=O (l.set i x):=by unfold sto;simp[h]
def Rch (E:Nat->Nat->Bool)(K a t:Nat):Prop:=∀S:Nat->Prop,S a->(∀b c,S b->c<K->E b c=U->S c)->S t
theorem Rch.refl {E K a}:Rch E K a a:=λ_ h _=>h
theorem Rch.step {E K a b c}(h:Rch E K a b)(hc:c<K)(he:E b c=U):Rch E K a c:=λS e d=>d b c (h S e d) hc he
theorem zrw {l}{j:Nat}(h:l.length<1000000):idx (l++[(j:Int)]) (zvz ((l++[(j:Int)]).length:Int) 1)=O (j:Int):=by
 have a:(l++[(j:Int)]).length=l.length+1:=by simp
 grind[zfd,za]
theorem zj5 {s:List Bool}{j}(hj:j<s.length)(h:s.getD j M=M):(s.set j U).count U=s.count U+1:=by grind
theorem zgI {s:List Bool}{j v}(hj:j<s.length):(s.set j U).getD v M=if v=j then U else s.getD v false:=by grind
structure BInv (E:Nat->Nat->Bool)(K a t:Nat)(s:List Bool)(ls:List<|List Int):Prop where
 len:s.length=K
 cnt:ls.length<=s.count U
 pl:∀l∈ls,1<=l.length/\l.length<=s.count U/\idx l (zvz (l.length:Int) 1)=O ((lstN l:Nat):Int)/\lstN l<K/\s.getD (lstN l) M=U
 rch:∀v,v<K->s.getD v M=U->Rch E K a v
 fro:s.getD a M=U
 don:∀v,v<K->s.getD v M=U->(∃l∈ls,lstN l=v)\/v≠t/\∀c,c<K->E v c=U->s.getD c M=U
theorem BInv.mark {E K a t s l r j}(h6:K<=6)(h:BInv E K a t s<|l::r)(hj:j<K)(he:E (lstN l) j=U)(hs:s.getD j M=M):BInv E K a t (s.set j U)<|l::(r++[l++[(j:Int)]]):=by
 have hjl:j<s.length:=by rw[h.len];exact hj
 have hc:=zj5 hjl hs;obtain⟨p1,p2,p3,p4,p5⟩:=h.pl l<|by simp
 have hcl:s.count U<=s.length:=vw;have hlen:=h.len;have hsn:∀v,s.getD v M=U->(s.set j U).getD v M=true:=λv hv=>by grind
 refine⟨by grind,?_,λx hx=>?_,λv hv hv2=>?_,hsn _ h.fro,λv hv hv2=>?_⟩
 ·have:=h.cnt;grind
 ·have hold:∀y∈l::r,1<=y.length/\y.length<=(s.set j U).count U/\idx y (zvz (y.length:Int) 1)=O ((lstN y:Nat):Int)/\lstN y<K/\(s.set j U).getD (lstN y) M=true:=λy hy=>by
   obtain⟨q1,q2,q3,q4,q5⟩:=h.pl y hy;exact⟨q1,by omega,q3,q4,hsn _ q5⟩
  rcases yE.1 hx with rfl|hx;·exact hold _<|by simp
  ·rcases yv.1 hx with hx|hx;·grind
   ·simp only[yN]at hx;subst hx;rw[zrw<|by omega,zdQ];exact⟨by simp,by simp;omega,rfl,hj,by rw[zgI hjl];simp⟩
 ·rw[zgI hjl]at hv2;by_cases e:v=j;·subst e;exact(h.rch _ p4 p5).step hj he
  ·rw[if_neg e]at hv2;exact h.rch v hv hv2
 ·rw[zgI hjl]at hv2;by_cases e:v=j;·subst e;exact .inl ⟨l++[(v:Int)],by simp,zdQ⟩
  ·rw[if_neg e]at hv2;rcases h.don v hv hv2 with⟨x,hx,e⟩|⟨q1,q2⟩;·exact .inl ⟨x,by rcases yE.1 hx with rfl|hx<;>simp[*],e⟩
   ·exact .inr ⟨q1,λc hc he=>hsn c<|q2 c hc he⟩
theorem BInv.pop {E K a t s l r}(h:BInv E K a t s<|l::r)(hne:lstN l≠t)(hall:∀c,c<K->E (lstN l) c=U->s.getD c M=U):BInv E K a t s r:=by
 refine⟨h.len,by have:=h.cnt;grind,λx b=>h.pl x<|by simp[b],h.rch,h.fro,λv f d=>?_⟩;rcases h.don v f d with⟨x,b,e⟩|q;·grind
 grind
def BQ (E:Nat->Nat->Bool)(K a t:Nat)(r:Option<|List Int):Prop:=∃l,r=O l/\(l≠[]↔Rch E K a t)
theorem zuj {n}{g}{K a t}(hg:zwN g K)(hn:1000000<=n){l}{rec117}{xd}(hrec:∀s ls m,BInv (hasP g) K a t s ls->K-s.count U+ls.length<xd->BQ (hasP g) K a t (rec117 (s,ls,m)))(hne:lstN l≠t){s r m}(hB:BInv (hasP g) K a t s<|l::r)(hM:K-s.count U+(r.length+1)<=xd):BQ (hasP g) K a t<|zvt (zO.l2 n g rec117 l ((lstN l:Nat):Int)) n (s,l::r,m,0):=by
 have h6:=hg.le;refine zdz (body:=zO.l2 n g rec117 l ((lstN l:Nat):Int)) (λs=>K-s.2.2.2.toNat) (λs=>∃(j:Nat)(r:List<|List Int),s.2.2.2=(j:Int)/\j<=K/\s.2.1=l::r/\BInv (hasP g) K a t s.1 (l::r)/\K-s.1.count U+(r.length+1)<=xd/\∀c,c<j->hasP g (lstN l) c=U->s.1.getD c M=U) (λ_ r=>BQ (hasP g) K a t r) (λrec s hI hr=>?_) n _ ⟨0,r,rfl,yn _,rfl,hB,hM,by simp⟩<|by grind
 obtain⟨s1,s2,s3,s4⟩:=s;obtain⟨j,r,e4,hj,e2,hB,hM,hd⟩:=hI;simp only at e4 e2 hB hM hd;subst e4 e2;obtain⟨p1,p2,p3,p4,p5⟩:=hB.pl l<|by simp
 have hcl:s1.count U<=s1.length:=vw;have hlen:=hB.len;by_cases h:j<K
 ·have hlt:Z ((j:Int)<g.size)=true:=by rw[hg.size];grind
  have hjl:j<s1.length:=by omega
  have hx:idx s1 (j:Int)=O (s1.getD j M):=by grind[za]
  have hcnt:=hB.cnt;simp only[yQ]at hcnt;simp only[zO.l2,hlt,if_true,jn,zlK hg p4 h,ya,hx,yq,yi,yw,grd,zd (i:=j)<|by omega];split<;>rename_i hc
  ·simp only[yc,yD]at hc;rw[zk9 hjl,ya,zk<|by simp;omega,ya,zk<|by simp;omega,ya,zk<|by simp;omega,ya];have hB':=hB.mark h6 h hc.1 hc.2;have hcc:=zj5 hjl hc.2;refine hr (s1.set j U,l::(r++[l++[(j:Int)]]),s3+1,((j+1:Nat):Int)) ⟨j+1,r++[l++[(j:Int)]],rfl,by omega,rfl,hB',?_,λc hcj he=>?_⟩<|by simp only[yr];omega
   ·have:(s1.set j U).count U<=K:=by have:=vw (a:=U) (l:=s1.set j U);simp at this;omega
    simp only[yT,yQ,uq];omega
   ·rw[zgI hjl];by_cases e:c=j;·rw[if_pos e]
    ·rw[if_neg e];exact hd c (by omega) he
  ·refine hr (s1,l::r,s3,((j+1:Nat):Int)) ⟨j+1,r,rfl,by omega,rfl,hB,hM,λc hcj he=>?_⟩<|by simp only[yr];omega
   by_cases e:c=j
   ·subst e;cases hs:s1.getD c M with|true=>rfl|false=>simp only[yc,yD]at hc;exact absurd ⟨he,hs⟩ hc
   ·exact hd c (by omega) he
 ·have hjK:j=K:=by omega
  subst hjK;have hge:Z ((j:Int)<g.size)=false:=by rw[hg.size];simp
  have hcut:cut (l::r) 1 ((l::r).length:Int)=O r:=zi2 (l:=l::r) (a:=1)<|by simp
  simp only[zO.l2,hge,ye,if_false,hcut,ya];exact hrec _ _ _ (hB.pop hne hd)<|by omega
theorem zmw {n}{g}{K a t}(hg:zwN g K)(hn:1000000<=n)(ha:a<K)(ht:t<K):BQ (hasP g) K a t<|zO n g (a:Int) (t:Int):=by
 have h6:=hg.le;have hrep:a<(xw K M).length:=by grind
 have hmk:mkl 1 g.size (M:Bool)=O (xw K M):=by rw[hg.size];unfold mkl;grind
 have hf:(xw K M).getD a M=false:=by grind
 have hcnt:=zj5 hrep hf;rw[List.count_replicate]at hcnt;simp only[beq_iff_eq,ye,if_false,uh]at hcnt;have hget:∀v,((xw K M).set a U).getD v M=U->v=a:=λv hv=>by grind
 have hl1:lstN [(a:Int)]=a:=by simp[lstN]
 have h0:BInv (hasP g) K a t ((xw K M).set a U) [[(a:Int)]]:=by
  refine⟨by simp,by grind,λl hl=>?_,λv _ hv=>by grind[Rch.refl],by grind,λv _ hv=>.inl ⟨[(a:Int)],by simp,by grind⟩⟩;simp only[yN]at hl;subst hl;rw[hl1];exact⟨by simp,by grind,zrw (l:=[])<|by simp,ha,by grind⟩
 unfold zO;rw[hmk,ya,za hrep,ya,zk9 hrep,ya];refine zdz (body:=zO.l1 n g (t:Int)) (λs=>K-s.1.count U+s.2.1.length) (λs=>BInv (hasP g) K a t s.1 s.2.1) (λ_ r=>BQ (hasP g) K a t r) (λrec s hI hr=>?_) n _ h0<|by grind
 obtain⟨s1,s2,s3⟩:=s;simp only at hI;cases s2 with
 |nil=>
  simp only[zO.l1,uq,Int.ofNat_zero,Int.lt_irrefl,decide_false,ye,if_false];refine⟨[],by simp,?_⟩;simp only[ne_eq,not_true_eq_false,false_iff];intro hR;have hd:∀v,v<K->s1.getD v M=U->v≠t/\∀c,c<K->hasP g v c=U->s1.getD c M=true:=λv hv hs=>by
   rcases hI.don v hv hs with⟨x,hx,_⟩|q;·simp at hx
   ·exact q
  have:=hR (λv=>v<K/\s1.getD v M=U) ⟨ha,hI.fro⟩ λb c hb hc he=>⟨hc,(hd b hb.1 hb.2).2 c hc he⟩;exact(hd t this.1 this.2).1 rfl|cons l r=>
  obtain⟨p1,p2,p3,p4,p5⟩:=hI.pl l<|by simp
  have hpos:Z ((0:Int)<((l::r).length:Int))=true:=decide_eq_true<|by simp only[yQ];omega
  have hi0:idx (l::r) 0=O l:=rfl;simp only[zO.l1,hpos,if_true,hi0,ya,p3];split<;>rename_i hc
  ·refine⟨l,rfl,?_⟩;have e:lstN l=t:=by
    have:((lstN l:Nat):Int)=(t:Int):=by simpa using hc
    omega
   rw[e]at p4 p5;exact⟨λ_=>hI.rch t p4 p5,λ_ e=>by subst e;simp at p1⟩
  ·exact zuj hg hn (xd:=K-s1.count U+(r.length+1)) (λs ls m hB hM=>hr (s,ls,m) hB<|by simpa using hM) (λe=>hc<|by rw[e];simp) hI<|ym _
theorem zkw {n}{zvI}{K a t:Nat}(h6:K<=6)(hl:zvI.length=K*K)(hn:1000000<=n)(ha:a<K)(ht:t<K):BQ (hasP ⟨(K:Int),zvI⟩) K a t<|zep n (K:Int) zvI (a:Int) (t:Int):=by
 have c:zwN ⟨K,zvI⟩ K:=⟨rfl,h6,hl⟩;have d:=y8 h6 h6;have e:zvA K K=K*K:=by grind[zvA,zau]
 have b:zca n K zvI=O (⟨K,zvI⟩,U):=by
  unfold zca;simp;omega
 unfold zep;grind[zmw]
section
variable(E:Nat->Nat->Bool)(K a t:Nat)
def extR (l:List Int):List<|List Int:=(xm K).flatMap λj=>if(E (lstN l) j&&!decide ((j:Int)∈l))=U then[l++[(j:Int)]]else[]
def levA:Nat->List (List Int)|0=>[[(a:Int)]]|r+1=>(levA r).flatMap<|extR E K
def zzF:Nat->Nat->List Int|0,_=>[]|d+1,i=>match(levA E K a i).find? λl=>lstN l==t with|some l=>l|none=>zzF d<|i+1
def pathR:List Int:=zzF E K a t K 0
theorem zsS {l x}:x∈extR E K l↔∃b,b<K/\E (lstN l) b=U/\(b:Int)∉l/\x=l++[(b:Int)]:=by
 simp only[extR];grind
theorem zmN {r x}:x∈levA E K a (r+1)↔∃l,l∈levA E K a r/\∃b,b<K/\E (lstN l) b=U/\(b:Int)∉l/\x=l++[(b:Int)]:=by grind[levA,zsS]
end
theorem zil {E K a}(ha:a<K):∀{r x},x∈levA E K a r->zwv K x/\x.length=r+1/\lstN x<K/\Rch E K a (lstN x)
 |0,x,h=>by
  simp only[levA,yN]at h;subst h;have d:lstN [a]=a:=by simp[lstN]
  exact⟨zmR ha,rfl,by simp_all,by grind[Rch.refl]⟩|r+1,x,h=>by
  obtain⟨l,d,b,c,f,g,rfl⟩:=(zmN E K a).1 h;obtain⟨i,j,k,e⟩:=zil ha d;rw[zdQ];exact⟨i.snoc c g,by grind,c,e.step c f⟩
theorem zpv {E K a}:∀{r x}{c:Nat},x∈levA E K a r->(c:Int)∈x->∃r',r'<=r/\∃y,y∈levA E K a r'/\lstN y=c
 |0,x,c,h,d=>by
  simp only[levA,yN]at h;subst h;exact⟨0,ym _,[a],by simp[levA],by grind[lstN]⟩|r+1,x,c,h,d=>by
  obtain⟨l,f,b,i,g,e,rfl⟩:=(zmN E K a).1 h;rcases yv.1 d with d|d
  ·obtain⟨r',g,e⟩:=zpv f d;grind
  ·exact⟨r+1,ym _,_,h,by grind[zdQ]⟩
theorem zlR {E K a t}(ha:a<K):∀{d i},zzF E K a t d i≠[]->Rch E K a t
 |0,_,h=>absurd rfl h|d+1,i,h=>by
  simp only[zzF]at h;split at h<;>rename_i b
  ·have e:=List.find?_some b;have c:=(zil ha<|List.mem_of_find?_eq_some b).2.2.2;simp_all
  ·exact zlR ha h
theorem zlQ {E K a t}(ha:a<K):∀{d i},zzF E K a t d i=[]->∀j,i<=j->j<i+d->∀l∈levA E K a j,lstN l≠t
 |0,_,_=>λj c f=>by omega|d+1,i,h=>λj c f l b=>by
  simp only[zzF]at h;split at h<;>rename_i g;·have k:=(zil ha<|List.mem_of_find?_eq_some g).1.pos;simp_all
  ·by_cases e:j=i;·simp_all
   ·exact zlQ ha h j (by omega) (by omega) l b
theorem zkV {E K a t}(ha:a<K):pathR E K a t≠[]↔Rch E K a t:=by
 constructor;·exact zlR ha
 ·intro k g;have o:=zlQ ha g;obtain⟨j,i,l,f,e⟩:=k (λv=>∃j,j<K/\∃l,l∈levA E K a j/\lstN l=v) ⟨0,by omega,[a],by simp[levA],by simp[lstN]⟩ λb c⟨j,i,l,f,e⟩h g=>by
   by_cases n:(c:Int)∈l;·grind[zpv]
   ·have d:=(zmN E K a).2 ⟨l,f,c,h,by simp_all,n,rfl⟩;obtain⟨m,q,r,p⟩:=zil ha d;have:=m.len;grind[zdQ]
  grind
theorem rem_n {r k:Nat}(h0:0<k):zwy (r:Int) (k:Int)=O ((r%k:Nat):Int):=by
 unfold zwy;grind
theorem quo_n {r k:Nat}(h0:0<k)(hr:r<=1000000):zwx (r:Int) (k:Int)=O ((r/k:Nat):Int):=by
 have b:r/k<=r:=Nat.div_le_self _ _;have a:(r:Int).tdiv k=r/k:=by simp_all
 unfold zwx;grind[zau]
theorem zu0 {r k:Nat}(h:r<k*k):r/k<k:=by
 rcases Nat.eq_zero_or_pos k with e|e;·simp_all
 ·exact(Nat.div_lt_iff_lt_mul e).2 h
structure GrOK (L:Nat)(g:zvP)(K:Nat):Prop where
 size:g.size=(K:Int)pos:1<=K
 le:K<=6
 len:g.least.length=K*K
 fst:0<=g.first/\g.first+((K*K:Nat):Int)<=(L:Int)num:∀x∈g.least,-4000000<=x/\x<=4000000
theorem GrOK.sq {L g K}(h:GrOK L g K):K*K<=36:=y8 h.le h.le
theorem GrOK.cell {L g K}(h:GrOK L g K)(hL:L<=1000000){k}(hk:k<K*K):zvp g.first (k:Int)=g.first+(k:Int)/\0<=g.first+(k:Int)/\g.first+(k:Int)<(L:Int):=by
 have a:=h.fst;exact⟨zau (by omega)<|by omega,by omega,by omega⟩
def lstG (g:zvP)(k:Nat):Int:=g.least.getD k 0
def zxY (g:zvP)(b:List Range):List Bool:=(xm g.least.length).map λj=>Z<|lstG g j<=(rgP b<|g.first+(j:Int)).lo
def ze0 (g:zvP)(b:List Range)(k:Nat):Bool:=!(pathR (hasP ⟨g.size,zxY g b⟩) g.size.toNat (k%g.size.toNat)<|k/g.size.toNat).isEmpty
def cutP (g:zvP)(b:List Range)(k:Nat):Range:=if(Z (lstG g k<=(rgP b<|g.first+(k:Int)).hi)&&ze0 g b k)=U then⟨(rgP b<|g.first+(k:Int)).lo,lstG g k-1⟩else rgP b<|g.first+(k:Int)
theorem zmK {g}{k:Nat}(h:k<g.least.length):idx g.least (k:Int)=O (lstG g k):=by grind[za,lstG]
theorem ziy (g b):(zxY g b).length=g.least.length:=by simp[zxY]
theorem zjZ {n L K:Nat}{g:zvP}{b}{k}(hg:GrOK L g K)(hb:b.length=L)(hL:L<=1000)(hk:k<K*K)(hn:1000000<=n):zbA n g b (k:Int)=O (ze0 g b k):=by
 have hsq:=hg.sq;have h6:=hg.le;have h1:=hg.pos;have hlen:=hg.len;have hmk:mkl 1 (g.least.length:Int) (M:Bool)=O (xw g.least.length M):=by unfold mkl;grind
 unfold zbA;rw[hmk,ya];have:=za4 (body:=zbA.l1 n g b (k:Int)) (len:=g.least.length) (st:=λ(s:List Bool)i=>(s,(i:Int))) (g:=λ_ _=>O<|ze0 g b k) (λi s=>s=(zxY g b).take i++xw (g.least.length-i) M) (λrec i s hi hI hr=>?_) (λrec s hI=>?_) n 0 (xw g.least.length M) (yn _) (by omega)<|by simp
 ·grind
 ·have hc:=hg.cell (show L<=1000000 by omega) (k:=i)<|by omega
  have hil:((zxY g b).take i).length=i:=by grind[ziy]
  have his:i<s.length:=by grind
  simp only[zbA.l1,zy hi,if_true,zmK hi,ya,hc.1];rw[zij hc.2.1<|by simp_all,ya,za his,ya,zk9 his,ya,zd (i:=i)<|by omega];refine hr _ ?_;have hp:i<(zxY g b).length:=by grind[ziy]
  rw[hI,yu hp,show g.least.length-i=g.least.length-(i+1)+1 by omega,vA,uL _ _<|by omega,hil,uz,wV,yJ];grind[zxY]
 ·have hs:s=zxY g b:=by
   rw[hI,uz,List.replicate_zero,ud];exact wb<|by rw[ziy];simp_all
  have hm:k%K<K:=wE _ h1;have hd:=zu0 hk;obtain⟨l,e1,e2⟩:=zkw (n:=n) (zvI:=zxY g b) h6 (by grind[ziy]) hn hm hd;simp only[zbA.l1,zaj,hg.size,rem_n h1,quo_n (r:=k) h1<|by omega,ya];rw[<-zkV hm]at e2;unfold ze0;rw[hg.size,yr];congr 1;grind[List.length_pos_iff]
structure PR where
 k:Nat
 st:List Step
 b:List Range
def PR.bind (p:PR)(f:List Step->List Range->PR):PR:=if p.k=0 then f p.st p.b else p
theorem PR.zxH {st b f}:(PR.mk 0 st b).bind f=f st b:=rfl
theorem PR.zyj {p:PR}{f}(h:p.k≠0):p.bind f=p:=if_neg h
def zwF (bud:Nat)(kind index cell:Int)(r:Range)(st:List Step)(b:List Range):PR:=if r=rgP b cell then⟨0,st,b⟩else if bud<=st.length then⟨2,st,b⟩else if r.hi<r.lo then⟨1,st++[⟨kind,index,cell⟩],b⟩else⟨0,st++[⟨kind,index,cell⟩],zwz b cell r⟩
theorem zqF {bud kind index cell r st b}(h:r=rgP b cell):zwF bud kind index cell r st b=⟨0,st,b⟩:=if_pos h
theorem zo0 {bud kind index cell r st b}(h:¬r=rgP b cell)(h2:bud<=st.length):zwF bud kind index cell r st b=⟨2,st,b⟩:=by unfold zwF;grind
theorem zqG {bud kind index cell r st b}(h:¬r=rgP b cell)(h2:¬bud<=st.length)(h3:r.hi<r.lo):zwF bud kind index cell r st b=⟨1,st++[⟨kind,index,cell⟩],b⟩:=by unfold zwF;grind
theorem zta {bud kind index cell r st b}(h:¬r=rgP b cell)(h2:¬bud<=st.length)(h3:¬r.hi<r.lo):zwF bud kind index cell r st b=⟨0,st++[⟨kind,index,cell⟩],zwz b cell r⟩:=by unfold zwF;grind
def rowT (bud i:Nat)(row:Row):List Term->PR->PR|[],p=>p|t::l,p=>rowT bud i row l<|p.bind λst b=>zwF bud 0 i t.cell (zcq row b t.cell) st b
def zxg (row:Row):Bool:=row.zvr.isEmpty&&Z (row.bound<0)
def zdl (bud i:Nat)(row:Row)(p:PR):PR:=p.bind λst b=>if zxg row=U then if bud<=st.length then⟨2,st,b⟩else⟨1,st++[⟨0,(i:Int),-1⟩],b⟩else rowT bud i row row.zvr ⟨0,st,b⟩
def zwX (bud:Nat):Nat->List Row->PR->PR|_,[],p=>p|i,r::l,p=>zwX bud (i+1) l<|zdl bud i r p
def grT (bud i:Nat)(g:zvP):Nat->Nat->PR->PR|0,_,p=>p|d+1,k,p=>grT bud i g d (k+1)<|p.bind λst b=>zwF bud 1 i (g.first+(k:Int)) (cutP g b k) st b
def zcj (bud:Nat):Nat->List zvP->PR->PR|_,[],p=>p|i,g::l,p=>zcj bud (i+1) l<|grT bud i g g.least.length 0 p
def zwK (bud:Nat)(R:List Row)(G:List zvP)(st:List Step)(b:List Range):PR:=zcj bud 0 G<|zwX bud 0 R ⟨0,st,b⟩
def runU (bud:Nat)(R:List Row)(G:List zvP):Nat->List Step->List Range->PR|0,st,b=>⟨0,st,b⟩|f+1,st,b=>if(zwK bud R G st b).k=0/\st.length<(zwK bud R G st b).st.length then runU bud R G f (zwK bud R G st b).st (zwK bud R G st b).b else zwK bud R G st b
theorem ziH {bud i row}:∀{l}{p},p.k≠0->rowT bud i row l p=p|[],_,_=>rfl|t::l,p,h=>by rw[rowT,PR.zyj h];exact ziH h
theorem zjQ {bud i row}{p}(h:p.k≠0):zdl bud i row p=p:=PR.zyj h
theorem zeX {bud}:∀{i}{l}{p},p.k≠0->zwX bud i l p=p|_,[],_,_=>rfl|i,r::l,p,h=>by rw[zwX,zjQ h];exact zeX h
theorem zii {bud i g}:∀{d k}{p},p.k≠0->grT bud i g d k p=p|0,_,_,_=>rfl|d+1,k,p,h=>by rw[grT,PR.zyj h];exact zii h
theorem zdE {bud}:∀{i}{l}{p},p.k≠0->zcj bud i l p=p|_,[],_,_=>rfl|i,g::l,p,h=>by rw[zcj,zii h];exact zdE h
structure PI (bud L m:Nat)(st:List Step)(b:List Range):Prop where
 box:boxP b=U
 len:b.length=L
 ne:∀r∈b,r.lo<=r.hi
 ge:m<=st.length
 le:st.length<=bud
def PG (bud L m:Nat)(p:PR):Prop:=p.k=0->PI bud L m p.st p.b
def SubR (r o:Range):Prop:=r.lo<=r.hi->o.lo<=r.lo/\r.hi<=o.hi
theorem zqK {o rest f}:SubR (zhE o rest f) o:=by
 unfold SubR zhE;grind
theorem zjo {r b c}:SubR (zcq r b c)<|rgP b c:=zqK
theorem zml {g b k}:SubR (cutP g b k)<|rgP b<|g.first+(k:Int):=by
 unfold SubR cutP;grind
theorem zt9 {α:Type}{l:List α}{i}{x y}(h:y∈l.set i x):y∈l\/y=x:=uP h
theorem zmg {b}(h:boxP b=U):∀r∈b,-1000000<=r.lo/\r.lo<=1000000/\-1000000<=r.hi/\r.hi<=1000000:=zqX h
theorem zqY {b}(h:∀r∈b,-1000000<=r.lo/\r.lo<=1000000/\-1000000<=r.hi/\r.hi<=1000000)(hl:b.length<=128):boxP b=true:=by
 simp only[boxP];grind
theorem zmf {b}(h:boxP b=U):b.length<=128:=by simp only[boxP,yc,yf]at h;omega
theorem zo4 {b}(h:boxP b=U)(hne:∀r∈b,r.lo<=r.hi){c}{r}(h0:0<=c)(h1:c<(b.length:Int))(hs:SubR r<|rgP b c)(hr:r.lo<=r.hi):boxP (zwz b c r)=U/\∀x∈zwz b c r,x.lo<=x.hi:=by
 have d:=zmg h _<|ziF h0 h1;have:=hs hr;unfold zwz;rw[if_pos h0];refine⟨zqY (λx a=>?_)<|by grind[zmf],λx a=>?_⟩
 ·rcases zt9 a with a|rfl;·exact zmg h x a
  ·omega
 grind
theorem ziM {bud L m kind index cell r st b}(h:PI bud L m st b)(h0:0<=cell)(h1:cell<(L:Int))(hs:SubR r<|rgP b cell):PG bud L m<|zwF bud kind index cell r st b:=by
 unfold zwF;split;·exactλ_=>h
 ·split;·intro d;grind
  ·split;·intro d;grind
   ·intro _;have a:=zo4 h.box h.ne h0 (by rw[h.len];exact h1) hs<|by omega
    have c:=h.ge;exact⟨a.1,by rw[zcA,h.len],a.2,by grind,by grind⟩
theorem PG.bind {bud L m p f}(h:PG bud L m p)(hf:∀st b,PI bud L m st b->PG bud L m (f st b)):PG bud L m<|p.bind f:=by
 unfold PR.bind;split<;>rename_i a;·exact hf _ _<|h a
 grind
theorem zm0 {bud L m i:Nat}{row}:∀{l}{p},(∀t∈l,0<=t.cell/\t.cell<(L:Int))->PG bud L m p->PG bud L m (rowT bud i row l p)|[],_,_,h=>h|t::l,p,a,h=>by exact zm0 (l:=l) (λx d=>a x<|yZ _ d)<|h.bind λe b c=>ziM c (a t<|by simp).1 (a t<|by simp).2 zjo
structure RwOK (L:Nat)(r:Row):Prop where
 fits:zym (L:Int) r=U
 few:r.zvr.length<=1000
theorem RwOK.cells {L r}(h:RwOK L r):∀t∈r.zvr,0<=t.cell/\t.cell<(L:Int):=λt a=>by
 have:=h.fits;simp only[zym,yc]at this;have:=(zd7 (by omega) this.1).1 t a;grind
theorem zoW {bud L m i row p}(hr:RwOK L row)(h:PG bud L m p):PG bud L m<|zdl bud i row p:=h.bind λd b a=>by
 split;·split<;>(intro c;grind)
 ·exact zm0 hr.cells λ_=>a
theorem zk5 {bud L m}:∀{i}{l}{p},(∀r∈l,RwOK L r)->PG bud L m p->PG bud L m (zwX bud i l p)|_,[],_,_,h=>h|i,r::l,p,a,h=>by exact zk5 (l:=l) (λx b=>a x<|yZ _ b)<|zoW (a r<|by simp) h
theorem zoH {bud L m i g K}(hg:GrOK L g K)(hL:L<=1000):∀{d k}{p},k+d<=K*K->PG bud L m p->PG bud L m (grT bud i g d k p)
 |0,_,_,_,h=>h|d+1,k,p,c,h=>by
  exact zoH hg hL (d:=d) (k:=k+1) (by omega)<|h.bind λe b f=>by
   have a:=hg.cell (show L<=1000000 by omega) (k:=k)<|by omega
   grind[ziM,zml]
theorem zkA {bud L m}(hL:L<=1000):∀{i}{l}{p},(∀g∈l,∃K,GrOK L g K)->PG bud L m p->PG bud L m (zcj bud i l p)
 |_,[],_,_,h=>h|i,g::l,p,b,h=>by
  obtain⟨K,a⟩:=b g<|by simp
  exact zkA (l:=l) hL (λx c=>b x<|yZ _ c)<|zoH (d:=g.least.length) (k:=0) a hL (by rw[a.len];omega) h
theorem znK {bud L R G st b m}(hL:L<=1000)(hR:∀r∈R,RwOK L r)(hG:∀g∈G,∃K,GrOK L g K)(h:PI bud L m st b):PG bud L m<|zwK bud R G st b:=zkA hL hG<|zk5 hR λ_=>h
theorem zka {bud L R G m}(hL:L<=1000)(hR:∀r∈R,RwOK L r)(hG:∀g∈G,∃K,GrOK L g K):∀{f st b},PI bud L m st b->PG bud L m (runU bud R G f st b)
 |0,_,_,h=>λ_=>h|f+1,st,b,h=>by
  have c:=znK hL hR hG h;unfold runU;split<;>rename_i a;·exact zka hL hR hG<|c a.1
  grind
def zwi (t0:zwa)(st:List Step):Int:=t0.cost+1+(st.length:Int)
def finW (t0:zwa)(p:PR)(K:List Step->List Range->Option (Option<|Found×zwa)):Option<|Option<|Found×zwa:=if p.k=0 then K p.st p.b else if p.k=2 then O Y else O<|O (⟨[],0,⟨0,p.st,0,0,[]⟩⟩,⟨t0.s,t0.rows,t0.zvQ,zwi t0 p.st⟩)
structure SW (t0:zwa)(bud:Nat):Prop where
 c0:0<=t0.cost
 e:t0.zvQ=t0.cost+1+(bud:Int)le:t0.zvQ<=65536
theorem SW.bud {t0 bud}(h:SW t0 bud):bud<=65536:=by have:=h.c0;have:=h.e;have:=h.le;omega
theorem SW.full {t0 bud}(h:SW t0 bud){st}(hl:st.length<=bud):zwi t0 st=t0.zvQ↔bud<=st.length:=by
 have:=h.e;grind[zwi]
theorem SW.next {t0 bud}(h:SW t0 bud){st}(hl:st.length<=bud)(x):zvp (zwi t0 st) 1=zwi t0 (st++[x]):=by
 have:=h.c0;have:=h.e;have:=h.le;grind[zwi,zvp,zau]
theorem zmp {t0}{p}{K1 K2}{F:PR->PR}(h0:p.k=0->K1 p.st p.b=finW t0 (F p) K2)(h1:p.k≠0->F p=p):finW t0 p K1=finW t0 (F p) K2:=by
 by_cases h:p.k=0;·rw[<-h0 h];exact if_pos h
 ·unfold finW;grind
theorem zm2 {b}{c}(h0:0<=c)(h1:c<(b.length:Int))(r):sto b c r=O (zwz b c r):=by
 unfold sto zwz;grind
theorem zuc {n bud L m i:Nat}{t0}{t1 b1}{rec7}{rec8}{row}(hw:SW t0 bud)(ht1:t1.length=L)(hb1:b1.length=L)(hi:i<1000000)(hr:RwOK L row){st}{b}(hI:PI bud L m st b)(hn:1000000<=n):zvt (zb.l9 n t0 t1 b1 rec7 (i:Int) rec8 row) n (b,st,zwi t0 st,Z<|m<st.length,0)=finW t0 (rowT bud i row row.zvr ⟨0,st,b⟩) λst b=>rec8 (b,st,zwi t0 st,Z<|m<st.length,((i+1:Nat):Int)):=by
 have hfew:=hr.few;have hbud:=hw.bud;have:=za4 (σ:=List Step×List Range) (body:=zb.l9 n t0 t1 b1 rec7 (i:Int) rec8 row) (len:=row.zvr.length) (st:=λs j=>(s.2,s.1,zwi t0 s.1,Z<|m<s.1.length,(j:Int))) (g:=λj s=>finW t0 (rowT bud i row (row.zvr.drop j) ⟨0,s.1,s.2⟩) λst b=>rec8 (b,st,zwi t0 st,Z<|m<st.length,((i+1:Nat):Int))) (λ_ s=>PI bud L m s.1 s.2) (λrec2 j s hj hI hrr=>?_) (λrec2 s hI=>?_) n 0 (st,b) (yn _) (by omega) hI;·grind
 ·obtain⟨st,b⟩:=s;simp only at hI hrr;have hc:=hr.cells _<|yh hj;have hc1:row.zvr[j].cell<(b.length:Int):=by rw[hI.len];grind
  have hT:=zqf (n:=n) (r:=row) (b:=b) (c:=row.zvr[j].cell) hI.box (by rw[hI.len];exact hr.fits) hr.few hc.1 hc1 hn;have hx:=zij hc.1 hc1;have hst:=hI.le;have hge:=hI.ge;have ha:∀x:Step,Go.Proofs.YtipkniadbkndfaaGreatDoor.app 24 st [x]=O (st++[x]):=λx=>app1<|by omega
  have hinv:=ziM (kind:=0) (index:=(i:Int)) hI hc.1 hc.2<|zjo (r:=row) (b:=b) (c:=row.zvr[j].cell);rw[zj hj,rowT,PR.zxH];simp only[zb.l9,zy hj,if_true,jn,za hj,ya,hT,hx,zm2 hc.1 hc1,ha,zd (i:=j)<|by omega,uE,hI.len,hb1,ht1,zcA,decide_true,grd,yf,beq_iff_eq];revert hinv;unfold zwF;by_cases h1:zcq row b row.zvr[j].cell=rgP b row.zvr[j].cell;·simp_all
  ·rw[if_neg h1,if_neg h1];by_cases h2:bud<=st.length;·rw[if_pos h2,if_pos<|(hw.full hst).2 h2,ziH<|by simp];exactλ_=>rfl
   ·rw[if_neg h2,if_neg λh=>h2<|(hw.full hst).1 h];by_cases h3:(zcq row b row.zvr[j].cell).hi<(zcq row b row.zvr[j].cell).lo
    ·rw[if_pos h3,if_pos h3,ziH<|by simp,hw.next hst ⟨0,(i:Int),row.zvr[j].cell⟩];exactλ_=>rfl
    ·rw[if_neg h3,if_neg h3,hw.next hst ⟨0,(i:Int),row.zvr[j].cell⟩];intro hinv;have:=hrr (st++[⟨0,(i:Int),row.zvr[j].cell⟩],zwz b row.zvr[j].cell<|zcq row b row.zvr[j].cell)<|hinv rfl;have e:Z (m<(st++[(⟨0,(i:Int),row.zvr[j].cell⟩:Step)]).length)=true:=by simp;omega
     simp only[e]at this;exact this
 ·simp only[zb.l9,zaj,ye,if_false,xV,rowT,zd (i:=i)<|by omega];rfl
theorem zub {n bud L m}{self}{t0}{t1 b1}{t2}{rec7}(hw:SW t0 bud)(ht1:t1.length=L)(hb1:b1.length=L)(hR:∀r∈t0.rows,RwOK L r)(hRl:t0.rows.length<1000000){st}{b}(hI:PI bud L m st b)(hn:1000000<=n):zvt (zb.l8 n self t0 t1 t2 b1 rec7) n (b,st,zwi t0 st,Z<|m<st.length,0)=finW t0 (zwX bud 0 t0.rows ⟨0,st,b⟩) λst b=>zvt (zb.l10 n self t0 t1 t2 b1 rec7) n (b,st,zwi t0 st,Z<|m<st.length,0):=by
 have hbud:=hw.bud;have:=za4 (σ:=List Step×List Range) (body:=zb.l8 n self t0 t1 t2 b1 rec7) (len:=t0.rows.length) (st:=λs j=>(s.2,s.1,zwi t0 s.1,Z<|m<s.1.length,(j:Int))) (g:=λj s=>finW t0 (zwX bud j (t0.rows.drop j) ⟨0,s.1,s.2⟩) λst b=>zvt (zb.l10 n self t0 t1 t2 b1 rec7) n (b,st,zwi t0 st,Z<|m<st.length,0)) (λ_ s=>PI bud L m s.1 s.2) (λrec2 i s hi hI hrr=>?_) (λrec2 s hI=>?_) n 0 (st,b) (yn _) (by omega) hI;·grind
 ·obtain⟨st,b⟩:=s;simp only at hI hrr;have hr:=hR _<|yh hi;have hst:=hI.le;have ha:∀x:Step,Go.Proofs.YtipkniadbkndfaaGreatDoor.app 24 st [x]=O (st++[x]):=λx=>app1<|by omega
  rw[zj hi,zwX];have hv:((t0.rows[i].zvr.length:Int)==0&&Z (t0.rows[i].bound<0))=zxg t0.rows[i]:=by
   unfold zxg;have:((t0.rows[i].zvr.length:Int)==0)=t0.rows[i].zvr.isEmpty:=by rw[xP];simp
   rw[this]
  simp only[zb.l8,zy hi,if_true,za hi,ya,hv];by_cases h1:zxg t0.rows[i]=U
  ·have es:zdl bud i t0.rows[i] ⟨0,st,b⟩=if bud<=st.length then⟨2,st,b⟩else⟨1,st++[⟨0,(i:Int),-1⟩],b⟩:=by unfold zdl;rw[PR.zxH,if_pos h1]
   rw[if_pos h1,es];simp only[ha,ya,hI.len,hb1,ht1,decide_true,grd,if_true,uE,beq_iff_eq];by_cases h2:bud<=st.length
   ·rw[if_pos h2,if_pos<|(hw.full hst).2 h2,zeX<|by simp];rfl
   ·rw[if_neg h2,if_neg λh=>h2<|(hw.full hst).1 h,zeX<|by simp,hw.next hst ⟨0,(i:Int),-1⟩];rfl
  ·have es:zdl bud i t0.rows[i] ⟨0,st,b⟩=rowT bud i t0.rows[i] t0.rows[i].zvr ⟨0,st,b⟩:=by unfold zdl;rw[PR.zxH,if_neg h1]
   rw[if_neg h1,es,zuc hw ht1 hb1 (by omega) hr hI hn];exact zmp (F:=zwX bud (i+1)<|t0.rows.drop<|i+1) (λhk=>by
    have hinv:=zm0 (bud:=bud) (m:=m) (i:=i) (row:=t0.rows[i]) (p:=⟨0,st,b⟩) hr.cells (λ_=>hI) hk;have:=hrr ((rowT bud i t0.rows[i] t0.rows[i].zvr ⟨0,st,b⟩).st,(rowT bud i t0.rows[i] t0.rows[i].zvr ⟨0,st,b⟩).b) hinv;refine this.trans ?_;congr 1;congr 1;generalize rowT bud i t0.rows[i] t0.rows[i].zvr ⟨0,st,b⟩=q at hk;cases q;grind) λhk=>zeX hk
 ·simp only[zb.l8,zaj,ye,if_false,xV,zwX];rfl
theorem zsW {n bud L m i K:Nat}{t0}{t1 b1}{rec7}{rec10}{g}(hw:SW t0 bud)(ht1:t1.length=L)(hb1:b1.length=L)(hi:i<1000000)(hL:L<=1000)(hg:GrOK L g K){st}{b}(hI:PI bud L m st b)(hn:1000000<=n):zvt (zb.l11 n t0 t1 b1 rec7 (i:Int) rec10 g) n (b,st,zwi t0 st,Z<|m<st.length,0)=finW t0 (grT bud i g g.least.length 0 ⟨0,st,b⟩) λst b=>rec10 (b,st,zwi t0 st,Z<|m<st.length,((i+1:Nat):Int)):=by
 have hsq:=hg.sq;have hlen:=hg.len;have hbud:=hw.bud;have:=za4 (σ:=List Step×List Range) (body:=zb.l11 n t0 t1 b1 rec7 (i:Int) rec10 g) (len:=g.least.length) (st:=λs j=>(s.2,s.1,zwi t0 s.1,Z<|m<s.1.length,(j:Int))) (g:=λj s=>finW t0 (grT bud i g (g.least.length-j) j ⟨0,s.1,s.2⟩) λst b=>rec10 (b,st,zwi t0 st,Z<|m<st.length,((i+1:Nat):Int))) (λ_ s=>PI bud L m s.1 s.2) (λrec2 j s hj hI hrr=>?_) (λrec2 s hI=>?_) n 0 (st,b) (yn _) (by omega) hI;·grind
 ·obtain⟨st,b⟩:=s;simp only at hI hrr;have hjK:j<K*K:=by omega
  have hc:=hg.cell (show L<=1000000 by omega) hjK;have hc1:g.first+(j:Int)<(b.length:Int):=by rw[hI.len];omega
  have hx:=zij hc.2.1 hc1;have hst:=hI.le;have hge:=hI.ge;have ha:∀x:Step,Go.Proofs.YtipkniadbkndfaaGreatDoor.app 24 st [x]=O (st++[x]):=λx=>app1<|by omega
  have hcl:=zjZ (n:=n) hg hI.len hL hjK hn;have hinv:=ziM (kind:=1) (index:=(i:Int)) hI hc.2.1 hc.2.2<|zml (g:=g) (b:=b) (k:=j);have hnum:=hg.num (lstG g j)<|by grind[lstG]
  have hs:zvz (lstG g j) 1=lstG g j-1:=zau (by omega)<|by omega
  have hrr':∀st' b',PI bud L m st' b'->rec2 (b',st',zwi t0 st',Z<|m<st'.length,((j+1:Nat):Int))=finW t0 (grT bud i g (g.least.length-(j+1)) (j+1) ⟨0,st',b'⟩) λst b=>rec10 (b,st,zwi t0 st,Z<|m<st.length,((i+1:Nat):Int)):=λst' b' h=>hrr (st',b') h;rw[show g.least.length-j=g.least.length-(j+1)+1 by omega,grT,PR.zxH];simp only[zb.l11,zy hj,if_true,jn,zmK hj,ya,hc.1,hx,hcl,hs,yq,yi,yw,zm2 hc.2.1 hc1,ha,zd (i:=j)<|by omega,uE,hI.len,hb1,ht1,zcA,decide_true,grd];by_cases h0:(Z (lstG g j<=(rgP b<|g.first+(j:Int)).hi)&&ze0 g b j)=U
  ·have hcut:cutP g b j=⟨(rgP b<|g.first+(j:Int)).lo,lstG g j-1⟩:=if_pos h0;have h0':(Z ((rgP b<|g.first+(j:Int)).hi<lstG g j)||!ze0 g b j)=false:=by
    simp only[yc,yf]at h0;rw[h0.2];simp;omega
   rw[h0'];simp only[ye,if_false,yf,beq_iff_eq,<-hcut];have h3e:lstG g j-1<(rgP b<|g.first+(j:Int)).lo↔(cutP g b j).hi<(cutP g b j).lo:=by rw[hcut]
   revert hinv;unfold zwF;by_cases h1:cutP g b j=rgP b (g.first+(j:Int))
   ·rw[if_pos h1,if_pos h1];exactλ_=>hrr' st b hI
   ·rw[if_neg h1,if_neg h1];by_cases h2:bud<=st.length
    ·rw[if_pos h2,if_pos<|(hw.full hst).2 h2,zii<|by simp];exactλ_=>rfl
    ·rw[if_neg h2,if_neg λh=>h2<|(hw.full hst).1 h];by_cases h3:(cutP g b j).hi<(cutP g b j).lo;·rw[if_pos h3,if_pos<|h3e.2 h3,zii<|by simp,hw.next hst ⟨1,(i:Int),g.first+(j:Int)⟩];exactλ_=>rfl
     ·rw[if_neg h3,if_neg λh=>h3<|h3e.1 h,hw.next hst ⟨1,(i:Int),g.first+(j:Int)⟩];intro hinv;have:=hrr' (st++[⟨1,(i:Int),g.first+(j:Int)⟩]) (zwz b (g.first+(j:Int))<|cutP g b j)<|hinv rfl;have e:Z (m<(st++[(⟨1,(i:Int),g.first+(j:Int)⟩:Step)]).length)=true:=by simp;omega
      simp only[e]at this;exact this
  ·have hcut:cutP g b j=rgP b (g.first+(j:Int)):=if_neg h0;have h0':(Z ((rgP b<|g.first+(j:Int)).hi<lstG g j)||!ze0 g b j)=true:=by
    simp only[yc,yf]at h0;simp only[yH,yf,yD];by_cases h:(rgP b<|g.first+(j:Int)).hi<lstG g j;·exact .inl h
    ·right;cases hh:ze0 g b j with|false=>rfl|true=>exact absurd ⟨by omega,hh⟩ h0
   rw[h0',if_pos rfl,show zwF bud 1 (i:Int) (g.first+(j:Int)) (cutP g b j) st b=⟨0,st,b⟩from if_pos hcut];exact hrr' st b hI
 ·simp only[zb.l11,zaj,ye,if_false,uz,grT,zd (i:=i)<|by omega];rfl
noncomputable def ziW (n:Nat)(self:zwa->List Range->Int->Option (Option<|Found×zwa))(t0:zwa)(t1:List Range)(t2:Int)(st:List Step)(b:List Range):Option<|Option<|Found×zwa:=if(Z (0<(t0.s.cases.length:Int))&&Z (t2<0))=U then zvt (zb.l12 n self t0 t1 b st) n (([]:List Tree),t0.s.box,t0.s.rows,t0.s.zvv,t0.s.cases,t0.rows,t0.zvQ,zwi t0 st,0)else(zi n b λq0=>zbG n q0).bind λc=>if Z (c<0)=U then(mkl 8 (b.length:Int) (0:Int)).bind λv=>zvt (zb.l13 n t0 t1 t2 b<|zwi t0 st) n (v,0)else(idx b c).bind λx1=>(zcZ n x1).bind λat_=>(idx b c).bind λx2=>(idx b c).bind λx3=>zvt (zb.l14 n self t1 t2 b st c at_ x2 x3) n (([]:List Tree),t0.s.box,t0.s.rows,t0.s.zvv,t0.s.cases,t0.rows,t0.zvQ,zwi t0 st,0)
theorem zsV {n bud L m}{self}{t0}{t1 b1}{t2}{rec7}(hw:SW t0 bud)(ht1:t1.length=L)(hb1:b1.length=L)(hL:L<=1000)(hG:∀g∈t0.s.zvv,∃K,GrOK L g K)(hGl:t0.s.zvv.length<1000000){st}{b}(hI:PI bud L m st b)(hn:1000000<=n):zvt (zb.l10 n self t0 t1 t2 b1 rec7) n (b,st,zwi t0 st,Z<|m<st.length,0)=finW t0 (zcj bud 0 t0.s.zvv ⟨0,st,b⟩) λst b=>if m<st.length then rec7 (b,st,zwi t0 st)else ziW n self t0 t1 t2 st b:=by
 have:=za4 (σ:=List Step×List Range) (body:=zb.l10 n self t0 t1 t2 b1 rec7) (len:=t0.s.zvv.length) (st:=λs j=>(s.2,s.1,zwi t0 s.1,Z<|m<s.1.length,(j:Int))) (g:=λj s=>finW t0 (zcj bud j (t0.s.zvv.drop j) ⟨0,s.1,s.2⟩) λst b=>if m<st.length then rec7 (b,st,zwi t0 st)else ziW n self t0 t1 t2 st b) (λ_ s=>PI bud L m s.1 s.2) (λrec2 i s hi hI hrr=>?_) (λrec2 s hI=>?_) n 0 (st,b) (yn _) (by omega) hI;·grind
 ·obtain⟨st,b⟩:=s;simp only at hI hrr;obtain⟨K,hK⟩:=hG _<|yh hi;rw[zj hi,zcj];simp only[zb.l10,zy hi,if_true,za hi,ya];rw[zsW hw ht1 hb1 (by omega) hL hK hI hn];exact zmp (F:=zcj bud (i+1)<|t0.s.zvv.drop<|i+1) (λhk=>by
   have hinv:=zoH (bud:=bud) (m:=m) (i:=i) (d:=t0.s.zvv[i].least.length) (k:=0) (p:=⟨0,st,b⟩) hK hL (by rw[hK.len];omega) (λ_=>hI) hk;have:=hrr ((grT bud i t0.s.zvv[i] t0.s.zvv[i].least.length 0 ⟨0,st,b⟩).st,(grT bud i t0.s.zvv[i] t0.s.zvv[i].least.length 0 ⟨0,st,b⟩).b) hinv;refine this.trans ?_;congr 1;congr 1;generalize grT bud i t0.s.zvv[i] t0.s.zvv[i].least.length 0 ⟨0,st,b⟩=q at hk;cases q;grind) λhk=>zdE hk
 ·obtain⟨st,b⟩:=s;simp only at hI;have e1:Z (b1.length=b.length)=true:=by rw[hb1,hI.len];simp
  have e2:Z (t1.length=b.length)=true:=by grind
  simp only[zb.l10,zaj,ye,if_false,xV,zcj,e1,e2,grd,if_true,uD];show _=if m<st.length then _ else _;by_cases h:m<st.length;·grind
  ·rw[if_pos<|by simp[h],if_neg h];rfl
theorem zsX {n bud L}{self}{t0}{t1 b}{t2}(hw:SW t0 bud)(ht1:t1.length=L)(hL:L<=1000)(hR:∀r∈t0.rows,RwOK L r)(hRl:t0.rows.length<1000000)(hG:∀g∈t0.s.zvv,∃K,GrOK L g K)(hGl:t0.s.zvv.length<1000000)(hb:PI bud L 0 [] b)(hn:1000000<=n):zvt (zb.l7 n self t0 t1 t2) n (b,([]:List Step),zwi t0 [])=finW t0 (runU bud t0.rows t0.s.zvv (bud+1) [] b) (ziW n self t0 t1 t2):=by
 have hbud:=hw.bud;have:=zdz (body:=zb.l7 n self t0 t1 t2) (λs=>bud-s.2.1.length) (λs=>s.2.2=zwi t0 s.2.1/\PI bud L 0 s.2.1 s.1) (λs r=>∀f,bud<f+s.2.1.length->r=finW t0 (runU bud t0.rows t0.s.zvv f s.2.1 s.1) (ziW n self t0 t1 t2)) (λrec s hI hr=>?_) n (b,[],zwi t0 []) ⟨rfl,hb⟩ (by grind) (bud+1)<|by simp
 ·grind
 ·obtain⟨b,st,c⟩:=s;obtain⟨e,hI⟩:=hI;simp only at e hI;subst e;intro f hf;simp only at hf hr;have hle:=hI.le;obtain⟨f,rfl⟩:∃f',f=f'+1:=⟨f-1,by omega⟩;have hI2:PI bud L st.length st b:=⟨hI.box,hI.len,hI.ne,ym _,hI.le⟩;have hp:=znK hL hR hG hI2;have e1:=zub (n:=n) (self:=self) (t2:=t2) (rec7:=rec) hw ht1 hI.len hR hRl hI2 hn;rw[show Z (st.length<st.length)=M by simp]at e1;simp only[zb.l7];rw[e1];have e2:finW t0 (zwX bud 0 t0.rows ⟨0,st,b⟩) (λst' b'=>zvt (zb.l10 n self t0 t1 t2 b rec) n (b',st',zwi t0 st',Z<|st.length<st'.length,0))=finW t0 (zwK bud t0.rows t0.s.zvv st b) λst' b'=>if st.length<st'.length then rec (b',st',zwi t0 st')else ziW n self t0 t1 t2 st' b':=by
   refine zmp (F:=zcj bud 0 t0.s.zvv) (λhk=>?_) λhk=>zdE hk;have hinv:=zk5 (i:=0) (m:=st.length) hR (p:=⟨0,st,b⟩) (λ_=>hI2) hk;refine(zsV hw ht1 hI.len hL hG hGl hinv hn).trans ?_;congr 1;congr 1;generalize zwX bud 0 t0.rows ⟨0,st,b⟩=q at hk;cases q;grind
  rw[e2];unfold runU;by_cases hc:(zwK bud t0.rows t0.s.zvv st b).k=0/\st.length<(zwK bud t0.rows t0.s.zvv st b).st.length
  ·have hp:=hp hc.1;have hple:=hp.le;rw[if_pos hc];unfold finW;rw[if_pos hc.1];refine(if_pos hc.2).trans ?_;exact hr ((zwK bud t0.rows t0.s.zvv st b).b,(zwK bud t0.rows t0.s.zvv st b).st,zwi t0 (zwK bud t0.rows t0.s.zvv st b).st) ⟨rfl,⟨hp.box,hp.len,hp.ne,yn _,hp.le⟩⟩ (by grind) f<|by grind
  ·rw[if_neg hc];unfold finW;by_cases hk:(zwK bud t0.rows t0.s.zvv st b).k=0
   ·rw[if_pos hk,if_pos hk];exact if_neg λh=>hc ⟨hk,h⟩
   ·rw[if_neg hk,if_neg hk]
structure NR where
 k:Nat
 ix:Nat
 v:List Int
 t:Tree
 c:Nat
def zws:Tree:=⟨0,[],0,0,[]⟩
def zgu:NR:=⟨2,0,[],zws,0⟩
def zwJ {α:Type}(self:α->Nat->NR)(tr:List Tree->Tree)(ix:Nat->Nat)(d:Nat):Nat->List α->List Tree->Nat->NR|_,[],kids,c=>⟨1,0,[],tr kids,c⟩|i,x::l,kids,c=>if(self x<|d-c).k=2 then zgu else if(self x<|d-c).k=0 then⟨0,ix i,(self x<|d-c).v,zws,c+(self x<|d-c).c⟩else zwJ self tr ix d (i+1) l (kids++[(self x<|d-c).t])<|c+(self x<|d-c).c
def zyy (r:Range):Bool:=Z<|r.lo<r.hi
def zv4 (b:List Range):Int:=ixA zyy b 0
def zwS (r:Range):List Range:=[⟨r.lo,midP r⟩,⟨midP r+1,r.hi⟩]
def zww (G:List zvP)(cases_:List<|List Row):Nat->Bool->List Row->List Range->Nat->NR|0,_,_,_,_=>zgu|f+1,root,R,b,d=>if d=0 then zgu else let p:=runU (d-1) R G d [] b;if p.k=2 then zgu else if p.k≠0 then⟨1,0,[],⟨0,p.st,0,0,[]⟩,1+p.st.length⟩else if(root&&!cases_.isEmpty)=U then zwJ (λcs d=>zww G cases_ f M (R++cs) p.b d) (λkids=>⟨2,p.st,0,0,kids⟩) id d 0 cases_ []<|1+p.st.length else if zv4 p.b<0 then⟨0,0,p.b.map (·.lo),zws,1+p.st.length⟩else zwJ (λr d=>zww G cases_ f M R (zwz p.b (zv4 p.b) r) d) (λkids=>⟨1,p.st,zv4 p.b,midP<|rgP p.b<|zv4 p.b,kids⟩) (λ_=>0) d 0 (zwS<|rgP p.b<|zv4 p.b) []<|1+p.st.length
theorem zjd {α}{self}{tr ix d}:∀{i}{l:List α}{kids}{c},(∀x∈l,∀d',(self x d').k≠2->(self x d').c<=d')->c<=d->(zwJ self tr ix d i l kids c).k≠2->c<=(zwJ self tr ix d i l kids c).c/\(zwJ self tr ix d i l kids c).c<=d
 |_,[],_,_,_,e,_=>⟨ym _,e⟩|i,x::l,kids,c,b,e,a=>by
  have j:=b x (by simp)<|d-c;unfold zwJ at a|-;split at a<;>rename_i h;·exact absurd rfl a
  ·rw[if_neg h];split at a<;>rename_i g;·grind
   ·rw[if_neg g];have:=zjd (i:=i+1) (λy f=>b y<|by simp[f]) (show c+(self x<|d-c).c<=d by omega) a;omega
theorem zhM {α}{self}{tr ix d}:∀{i}{l:List α}{kids}{c},((zwJ self tr ix d i l kids c).k=0->(zwJ self tr ix d i l kids c).t=zws)/\((zwJ self tr ix d i l kids c).k≠0->(zwJ self tr ix d i l kids c).v=[])
 |_,[],_,_=>⟨λh=>absurd h<|by simp[zwJ],λ_=>rfl⟩|i,x::l,kids,c=>by
  unfold zwJ;split;·exact⟨λh=>absurd h<|by simp[zgu],λ_=>rfl⟩
  ·split;·grind
   ·exact zhM
theorem zhS {G cs}:∀{f}{root R b d},((zww G cs f root R b d).k=0->(zww G cs f root R b d).t=zws)/\((zww G cs f root R b d).k≠0->(zww G cs f root R b d).v=[])
 |0,_,_,_,_=>⟨λh=>absurd h<|by simp[zww,zgu],λ_=>rfl⟩|f+1,root,R,b,d=>by
  unfold zww;split;·exact⟨λh=>absurd h<|by simp[zgu],λ_=>rfl⟩
  ·dsimp only;split;·exact⟨λh=>absurd h<|by simp[zgu],λ_=>rfl⟩
   ·split;·grind
    ·split;·exact zhM
     ·split;·grind
      ·exact zhM
theorem zpW {bud kind index cell r st b}(h:st.length<=bud):(zwF bud kind index cell r st b).st.length<=bud:=by grind[zwF]
theorem zov {bud}{p:PR}{f}(h:p.st.length<=bud)(hf:∀st b,st.length<=bud->(f st b).st.length<=bud):(p.bind f).st.length<=bud:=by grind[PR.bind]
theorem zrX {bud i row}:∀{l}{p},p.st.length<=bud->(rowT bud i row l p).st.length<=bud|[],_,h=>h|t::l,p,h=>by exact zrX (l:=l)<|zov h λ_ _ h=>zpW h
theorem zqC {bud i row p}(h:p.st.length<=bud):(zdl bud i row p).st.length<=bud:=zov h λst b h=>by grind[zrX]
theorem zm1 {bud}:∀{i}{l}{p},p.st.length<=bud->(zwX bud i l p).st.length<=bud|_,[],_,h=>h|i,r::l,p,h=>by exact zm1 (l:=l)<|zqC h
theorem zts {bud i g}:∀{d k}{p},p.st.length<=bud->(grT bud i g d k p).st.length<=bud|0,_,_,h=>h|d+1,k,p,h=>by exact zts (d:=d)<|zov h λ_ _ h=>zpW h
theorem zjb {bud}:∀{i}{l}{p},p.st.length<=bud->(zcj bud i l p).st.length<=bud|_,[],_,h=>h|i,g::l,p,h=>by exact zjb (l:=l)<|zts h
theorem zoZ {bud R G}:∀{f}{st b},st.length<=bud->(runU bud R G f st b).st.length<=bud
 |0,_,_,h=>h|f+1,st,b,h=>by
  have a:(zwK bud R G st b).st.length<=bud:=zjb<|zm1 h;unfold runU;split;·exact zoZ a
  grind
theorem zfW {G cs}:∀{f}{root R b d},(zww G cs f root R b d).k≠2->1<=(zww G cs f root R b d).c/\(zww G cs f root R b d).c<=d
 |0,_,_,_,_,h=>absurd rfl h|f+1,root,R,b,d,h=>by
  unfold zww at h|-;split at h<;>rename_i hd;·exact absurd rfl h
  ·rw[if_neg hd];dsimp only at h|-;have hle:=zoZ (bud:=d-1) (R:=R) (G:=G) (f:=d) (st:=[]) (b:=b)<|by simp
   split at h<;>rename_i h2;·exact absurd rfl h
   ·rw[if_neg h2];split at h<;>rename_i h1;·grind
    ·rw[if_neg h1];split at h<;>rename_i hr;·rw[if_pos hr];have:=zjd (λx _ d' hk=>(zfW hk).2) (by omega) h;omega
     ·rw[if_neg hr];split at h<;>rename_i hc;·grind
      ·rw[if_neg hc];have:=zjd (λx _ d' hk=>(zfW hk).2) (by omega) h;omega
structure SysG (L:Nat)(G:List zvP)(cs:List<|List Row):Prop where
 gr:∀g∈G,∃K,GrOK L g K
 gl:G.length<=64
 ca:∀l∈cs,l.length<=64/\∀r∈l,RwOK L r
 cl:cs.length<=1024
 le:L<=128
theorem zsD {b}:∀{k},ixA zyy b k<0\/∃i,∃hi:i<b.length,ixA zyy b k=((k+i:Nat):Int)/\b[i].lo<b[i].hi:=by induction b with
 |nil=>grind[ixA]|cons r b ih=>
  intro k;unfold ixA;by_cases h:zyy r=U
  ·rw[if_pos h];exact .inr ⟨0,by simp,rfl,by grind[zyy]⟩
  ·rcases ih (k:=k+1)with c|⟨i,hi,e,a⟩;·grind
   ·exact .inr ⟨i+1,by grind,by grind,by grind⟩
theorem zj4 {b}(h:¬zv4 b<0):0<=zv4 b/\zv4 b<(b.length:Int)/\(rgP b<|zv4 b).lo<(rgP b<|zv4 b).hi:=by grind[zsD,zv4,rgP]
theorem zpq {r x}(h:x∈zwS r)(hw:r.lo<r.hi):x.lo<=x.hi/\r.lo<=x.lo/\x.hi<=r.hi:=by
 simp only[zwS]at h;unfold midP at h;grind
theorem zop {bud d L st b x}(h:PI bud L 0 st b)(hc:¬zv4 b<0)(hx:x∈zwS (rgP b<|zv4 b)):PI d L 0 []<|zwz b (zv4 b) x:=by
 obtain⟨e,g,f⟩:=zj4 hc;have a:=zpq hx f;have c:=zo4 h.box h.ne e g (λ_=>a.2) a.1;exact⟨c.1,by rw[zcA,h.len],c.2,yn _,yn _⟩
theorem zlz {bud d L st b}(h:PI bud L 0 st b):PI d L 0 [] b:=⟨h.box,h.len,h.ne,yn _,yn _⟩
theorem zqN {n}{A B}(hA:A.length<=2000)(hB:B.length<=2000)(hn:1000000<=n):zg n [A,B]=O (A++B):=by
 have a0:zvp 0 1=1:=by grind[zvp,zau]
 have a1:zvp 1 1=2:=by grind[zvp,zau]
 have h1:=zA (body:=zg.l1 n [A,B]) (len:=2) (st:=λi=>((((([A,B]:List<|List Row).take i).map xh).sum:Nat),((i:Nat):Int))) (g:=λ_=>zvt (zg.l2 n [A,B]) n (([]:List Row),0)) (λrec i hi hr=>?_) (λrec=>?_) n 0 (yn _)<|by omega
 ·unfold zg;refine(show zvt (zg.l1 n [A,B]) n (0,0)=_ from h1).trans ?_;have h2:=zA (body:=zg.l2 n [A,B]) (len:=2) (st:=λi=>((([A,B]:List<|List Row).take i).flatten,((i:Nat):Int))) (g:=λ_=>O<|A++B) (λrec i hi hr=>?_) (λrec=>?_) n 0 (yn _)<|by omega
  ·exact h2
  ·rcases show i=0\/i=1 by omega with rfl|rfl
   ·simp only[zg.l2];rw[if_pos<|by simp,show idx [A,B] ((0:Nat):Int)=O A from rfl,ya,zk<|by grind,ya];grind
   ·simp only[zg.l2];rw[if_pos<|by simp,show idx [A,B] ((1:Nat):Int)=O B from rfl,ya,zk<|by grind,ya];grind
  ·simp[zg.l2]
 ·rcases show i=0\/i=1 by omega with rfl|rfl
  ·have e:zvp 0 (A.length:Int)=(A.length:Int):=by grind[zvp,zau]
   simp only[zg.l1];rw[if_pos<|by simp,show idx [A,B] ((0:Nat):Int)=O A from rfl,ya];grind
  ·have e:zvp (A.length:Int) (B.length:Int)=((A.length+B.length:Nat):Int):=zcT<|by omega
   simp only[zg.l1];rw[if_pos<|by simp,show idx [A,B] ((1:Nat):Int)=O B from rfl,ya];grind
 ·simp only[zg.l1];rw[if_neg<|by simp];simp only[grd];rw[if_pos<|by simp;omega]
theorem zuy {n}{t0}{t1}{t2}{b}{c}(h1:1<=b.length)(hl:b.length<=1000)(ht:b.length=t1.length)(hn:1000000<=n):((mkl 8 (b.length:Int) (0:Int)).bind λv=>zvt (zb.l13 n t0 t1 t2 b c) n (v,0))=O (O (⟨b.map (·.lo),gmax t2 0,zws⟩,⟨t0.s,t0.rows,t0.zvQ,c⟩)):=by
 rw[mkl_0<|by omega,ya];have:=za4 (body:=zb.l13 n t0 t1 t2 b c) (len:=b.length) (st:=λs i=>(s,i)) (g:=λ_ _=>O<|O (⟨b.map (·.lo),gmax t2 0,zws⟩,⟨t0.s,t0.rows,t0.zvQ,c⟩)) (λi s=>s=(b.map (·.lo)).take i++xw (b.length-i) 0) (λe i s h f k=>?_) (λe s f=>?_) n 0 (xw b.length 0) (yn _) (by omega)<|by simp
 ·grind
 ·have d:((b.map (·.lo)).take i).length=i:=by grind
  have a:i<s.length:=by grind
  simp only[zb.l13,zy h,za h];rw[za a,ya,zk9 a,ya,zd (i:=i)<|by omega];refine k _ ?_;have l:i<(b.map (·.lo)).length:=by grind
  rw[f,yu l,show b.length-i=b.length-(i+1)+1 by omega,vA,uL _ _<|by omega,d,uz,wV,yJ];grind
 ·have j:s=b.map (·.lo):=by grind[wb]
  simp only[zb.l13,zaj,ye,if_false,j,ht,decide_true,grd];rw[if_pos];·rfl
  grind
theorem ztO {n}{b}(hl:b.length<=1000)(hn:1000000<=n):zi n b (λq0=>zbG n q0)=O (zv4 b):=by
 have:=zA (body:=zi.l1 n b λq0=>zbG n q0) (len:=b.length) (st:=λi=>i) (g:=λi=>O<|ixA zyy (b.drop i) i) (λa i c d=>?_) (λa=>?_) n 0 (yn _)<|by omega
 ·grind[zi,zv4]
 ·rw[zj c];simp only[zi.l1,za c,zbG,zd (i:=i)<|by omega,ixA];unfold zyy at d|-;grind
 ·simp[zi.l1,ixA]
def OutW (t0:zwa)(L:Nat)(base:Int)(strict:Bool)(xe:NR)(w:Option<|Found×zwa):Prop:=xe.k=2/\w=Y\/xe.k≠2/\(xe.k=0->xe.v.length=L/\xe.v≠[])/\∃ix rows,w=O (⟨xe.v,ix,xe.t⟩,⟨t0.s,rows,t0.zvQ,base+(xe.c:Int)⟩)/\(strict=U->rows=t0.rows)
def Out (t0:zwa)(L:Nat)(strict:Bool)(xe:NR)(r:Option<|Option<|Found×zwa):Prop:=∃w,r=O w/\OutW t0 L t0.cost strict xe w
theorem znM {α}{n d c0 L}{l:List α}{self}{tr}{ix}{t0}{strict}{body}(hs:∀x∈l,∀d',(self x d').k≠2->(self x d').c<=d')(hsh:∀x∈l,∀d',((self x d').k=0->(self x d').t=zws)/\((self x d').k≠0->(self x d').v=[]))(hc0:c0<=d)(hd:d<=65536)(hl:l.length<=1024)(hb:∀rec kids rows(c:Nat)i(hi),c0<=c->c<=d->kids.length=i->(strict=U->rows=t0.rows)->∃w,body rec (kids,t0.s.box,t0.s.rows,t0.s.zvv,t0.s.cases,rows,t0.zvQ,t0.cost+(c:Int),(i:Int))=pnk w (λx=>(Go.Proofs.YtipkniadbkndfaaGreatDoor.app 72 kids [zws]).bind λx10=>(idx x10 (kids.length:Int)).bind λ_=>(sto x10 (kids.length:Int) x.1.tree).bind λb10=>if(!x.1.values.isEmpty)=U then O<|O (x.1,x.2)else rec (b10,x.2.s.box,x.2.s.rows,x.2.s.zvv,x.2.s.cases,x.2.rows,x.2.zvQ,x.2.cost,zvp (i:Int) 1))/\OutW t0 L (t0.cost+(c:Int)) strict (self l[i]<|d-c) w)(he:∀rec kids rows(c:Nat),body rec (kids,t0.s.box,t0.s.rows,t0.s.zvv,t0.s.cases,rows,t0.zvQ,t0.cost+(c:Int),(l.length:Int))=O (O (⟨[],0,tr kids⟩,⟨t0.s,rows,t0.zvQ,t0.cost+(c:Int)⟩)))(hn:1000000<=n):Out t0 L strict (zwJ self tr ix d 0 l [] c0)<|zvt body n (([]:List Tree),t0.s.box,t0.s.rows,t0.s.zvv,t0.s.cases,t0.rows,t0.zvQ,t0.cost+(c0:Int),0):=by
 generalize hY:zwJ self tr ix d 0 l [] c0=xe;refine zdn (σ:=List Tree×List Row×Nat) (body:=body) (k:=l.length) (st:=λs i=>(s.1,t0.s.box,t0.s.rows,t0.s.zvv,t0.s.cases,s.2.1,t0.zvQ,t0.cost+(s.2.2:Int),(i:Int))) (λi s=>c0<=s.2.2/\s.2.2<=d/\s.1.length=i/\(strict=U->s.2.1=t0.rows)/\zwJ self tr ix d i (l.drop i) s.1 s.2.2=xe) (λw=>OutW t0 L t0.cost strict xe w) (λrec i s hi hI hr=>?_) (λrec s hI=>?_) (by omega) ([],t0.rows,c0) ⟨ym _,hc0,rfl,λ_=>rfl,hY⟩
 ·obtain⟨kids,rows,c⟩:=s;obtain⟨i1,i2,i3,i4,i5⟩:=hI;simp only at i1 i2 i3 i4 i5;obtain⟨w,e,hw⟩:=hb rec kids rows c i hi i1 i2 i3 i4;simp only;rw[e,<-i5,zj hi];have hx:=hs _ (yh hi)<|d-c;have hy:=hsh _ (yh hi)<|d-c;rw[zj hi]at i5;unfold zwJ at i5|-;generalize self l[i] (d-c)=y at*;rcases hw with⟨h2,rfl⟩|⟨h2,hsol,ix',rows',rfl,hst⟩;·rw[if_pos h2];exact⟨Y,rfl,.inl ⟨rfl,rfl⟩⟩
  ·rw[if_neg h2]at i5|-;have hx:=hx h2;have hkl:kids.length<(kids++[zws]).length:=by simp
   simp only[pnk];rw[app1<|by omega,ya,za hkl,ya,zk9 hkl,ya];have hset:(kids++[zws]).set kids.length y.t=kids++[y.t]:=by rw[uL _ _<|ym _,uz];rfl
   rw[hset];by_cases h0:y.k=0
   ·obtain⟨hv1,hv2⟩:=hsol h0;rw[if_pos h0];rw[if_pos<|by cases hv:y.v with|nil=>exact absurd hv hv2|cons a l=>rfl];refine⟨_,rfl,.inr ⟨by simp,λ_=>⟨hv1,hv2⟩,ix',rows',?_,hst⟩⟩;rw[hy.1 h0];simp only[Int.natCast_add,Int.add_assoc]
   ·rw[if_neg h0]at i5|-;rw[if_neg<|by rw[hy.2 h0];simp];rw[zd (i:=i)<|by omega];obtain⟨r,e1,e2⟩:=hr (kids++[y.t],rows',c+y.c) ⟨by simp only;omega,by simp only;omega,by simp;omega,hst,i5⟩;refine⟨r,?_,by rw[i5];exact e2⟩;rw[<-e1];simp only[Int.natCast_add,Int.add_assoc]
 ·obtain⟨kids,rows,c⟩:=s;obtain⟨i1,i2,i3,i4,i5⟩:=hI;simp only[xV]at i1 i2 i3 i4 i5;simp only;rw[he,<-i5];exact⟨_,rfl,.inr ⟨by simp[zwJ],λh=>absurd h<|by simp[zwJ],0,rows,rfl,i4⟩⟩
theorem zqx {G cs f root R b d}(h:cs=[]):zww G cs f root R b d=zww G cs f M R b d:=by cases f with|zero=>rfl|succ f=>grind[zww]
theorem zoi {bud}:∀{i}{l}{p},(∃r∈l,zxg r=U)->(zwX bud i l p).k≠0
 |_,[],_,h=>by grind|i,r::l,p,h=>by
  unfold zwX;by_cases c:zxg r=U
  ·have e:(zdl bud i r p).k≠0:=by
    by_cases d:p.k=0
    ·unfold zdl PR.bind;grind
    grind[zjQ]
   grind[zeX]
  ·obtain⟨x,a,b⟩:=h;rcases yE.1 a with rfl|a;·grind
   ·exact zoi ⟨x,a,b⟩
theorem ztg {bud R G f st b}(h:∃r∈R,zxg r=U):(runU bud R G (f+1) st b).k≠0:=by
 have a:(zwK bud R G st b).k≠0:=by grind[zwK,zdE,zoi]
 unfold runU;grind
theorem zfG {L}{S}(hS:SysG L S.zvv S.cases):∀(f n d:Nat)(t0)(b)(t2),1000000+f<=n->d<f->t0.s=S->0<=t0.cost->t0.zvQ=t0.cost+(d:Int)->t0.zvQ<=65536->(∀r∈t0.rows,RwOK L r)->t0.rows.length<=1024+(if t2<0 then 0 else 64)->(t2<0->t0.rows=S.rows)->(L=0->∃r∈t0.rows,zxg r=U)->PI 0 L 0 [] b->Out t0 L (!(Z (t2<0)&&!S.cases.isEmpty)) (zww S.zvv S.cases f (Z<|t2<0) t0.rows b d) (zb n t0 b t2)
 |0,_,_,_,_,_,_,h,_,_,_,_,_,_,_,_,_=>by omega|f+1,n,d,t0,b,t2,hn,hd,hs,hc0,hbd,hle,hR,hRl,hroot,hE,hb=>by
  obtain⟨n,rfl⟩:∃m,n=m+1:=⟨n-1,by omega⟩;have hn1:1000000<=n:=by omega
  have hL:=hS.le;have hd6:d<=65536:=by omega
  have hR2:t0.rows.length<=1088:=by grind
  unfold zb zb.body zww;by_cases hd0:d=0
  ·have hcb:(t0.cost==t0.zvQ)=true:=by grind
   rw[if_pos hd0,if_pos hcb];simp only[decide_true,grd,if_true];exact⟨Y,rfl,.inl ⟨rfl,rfl⟩⟩
  ·have hcb:¬(t0.cost==t0.zvQ)=true:=by grind
   rw[if_neg hd0,if_neg hcb];have hw:SW t0<|d-1:=⟨hc0,by omega,hle⟩;have hb1:PI (d-1) L 0 [] b:=zlz hb;have hrun:=zsX (n:=n) (self:=zb n) (t1:=b) (t2:=t2) hw hb.len (by omega) hR (by omega) (by rw[hs];exact hS.gr) (by rw[hs];have:=hS.gl;omega) hb1 hn1;have ec:zwi t0 []=zvp t0.cost 1:=by grind[zwi,zvp,zau]
   rw[show d-1+1=d by omega,ec]at hrun;have hp:=zka (bud:=d-1) (f:=d) (show L<=1000 by omega) hR (show∀g∈t0.s.zvv,∃K,GrOK L g K by rw[hs];exact hS.gr) hb1;have hple:=zoZ (bud:=d-1) (R:=t0.rows) (G:=t0.s.zvv) (f:=d) (st:=[]) (b:=b)<|by simp
   have hvoid:L=0->(runU (d-1) t0.rows t0.s.zvv d [] b).k≠0:=λh=>by
    have:=ztg (bud:=d-1) (R:=t0.rows) (G:=t0.s.zvv) (f:=d-1) (st:=[]) (b:=b)<|hE h;rwa[show d-1+1=d by omega]at this
   rw[hrun];rw[hs]at hp hple hvoid|-;generalize runU (d-1) t0.rows S.zvv d [] b=p at*;unfold finW;by_cases h2:p.k=2
   ·rw[if_pos h2,if_neg<|by omega,if_pos h2];exact⟨Y,rfl,.inl ⟨rfl,rfl⟩⟩
   ·rw[if_neg h2];have hcc:zwi t0 p.st=t0.cost+((1+p.st.length:Nat):Int):=by unfold zwi;omega
    by_cases h1:p.k≠0
    ·rw[if_pos h1,if_neg h1,if_neg h2];refine⟨_,rfl,.inr ⟨by simp,λh=>absurd h<|by simp,0,t0.rows,?_,λ_=>rfl⟩⟩;rw[hcc]
    ·have hk:p.k=0:=by omega
     have hI:=hp hk;have hbl:=hI.len;rw[if_neg h1,if_pos hk];unfold ziW;have hcases:(Z (0<(t0.s.cases.length:Int))&&Z (t2<0))=(Z (t2<0)&&!S.cases.isEmpty):=by
      rw[hs,Bool.and_comm];congr 1;rw[xP];simp only[yf,yD,vX];rw[<-List.length_pos_iff];omega
     rw[hcases];by_cases hr:(Z (t2<0)&&!S.cases.isEmpty)=U
     ·rw[if_pos hr,if_pos hr,hcc,hr];simp only[yc,yf]at hr;have hrow:=hroot hr.1;rw[if_pos hr.1]at hRl;refine znM (ix:=id) (tr:=λkids=>⟨2,p.st,0,0,kids⟩) (self:=λcs d=>zww S.zvv S.cases f M (t0.rows++cs) p.b d) (l:=S.cases) (λx _ d' hk=>(zfW hk).2) (λx _ d'=>zhS) (by omega) hd6 hS.cl (λrec kids rows c i hi hcc hcd hkl hst=>?_) (λrec kids rows c=>?_) hn1
      ·have hcs:=hS.ca _<|yh hi;have hi':i<t0.s.cases.length:=by rw[hs];exact hi
       have ei:t0.s.cases[i]=S.cases[i]:=by simp only[hs]
       have hsr:t0.s.rows=t0.rows:=by rw[hs];exact hrow.symm
       obtain⟨w,e,hw⟩:=zfG hS f n (d-c) ⟨t0.s,t0.rows++S.cases[i],t0.zvQ,t0.cost+(c:Int)⟩ p.b (i:Int) (by omega) (by omega) hs (by simp only;omega) (by simp only;omega) hle (λr hr=>(yv.1 hr).elim (hR r)<|hcs.2 r) (by rw[if_neg<|show¬(i:Int)<0 by omega,yT];omega) (λh=>by omega) (λh=>by
        obtain⟨r,hr,hr2⟩:=hE h;exact⟨r,wi _ hr,hr2⟩)<|zlz hI;rw[show Z ((i:Int)<0)=M by simp]at hw;refine⟨w,?_,?_⟩
       ·simp only[zb.l12,zy hi',if_true,za hi',ya,ei,hsr];rw[zqN (by omega) (by omega) hn1,ya,zk<|by simp;omega,ya];simp only[hbl,hb.len,decide_true,grd,if_true,yR];rw[show(⟨⟨t0.s.box,t0.rows,t0.s.zvv,t0.s.cases⟩,t0.rows++S.cases[i],t0.zvQ,t0.cost+(c:Int)⟩:zwa)=⟨t0.s,t0.rows++S.cases[i],t0.zvQ,t0.cost+(c:Int)⟩by rw[<-hsr],e,ya];rfl
       ·rcases hw with h|⟨h1,h2,ix',rows',h3,h4⟩;·exact .inl h
        ·exact .inr ⟨h1,h2,ix',rows',h3,λh=>absurd h<|by simp⟩
      ·have e1:t0.s.cases.length=S.cases.length:=by rw[hs]
       rw[<-e1];simp only[zb.l12,zaj,ye,if_false,hbl,hb.len,decide_true,grd,if_true]
     ·rw[if_neg hr,if_neg hr,ztO (by omega) hn1,ya];have hstrict:(!(Z (t2<0)&&!S.cases.isEmpty))=true:=by cases hx:Z (t2<0)&&!S.cases.isEmpty with
       |false=>rfl|true=>exact absurd hx hr
      rw[hstrict];by_cases hc:zv4 p.b<0
      ·have hL1:1<=L:=by
        rcases Nat.eq_zero_or_pos L with h|h;·exact absurd hk<|hvoid h
        ·exact h
       rw[if_pos<|show Z (zv4 p.b<0)=U by simpa using hc,if_pos hc,zuy (by omega) (by omega) (by rw[hbl,hb.len]) hn1];refine⟨_,rfl,.inr ⟨by simp,λ_=>⟨by simp[hbl],λh=>?_⟩,gmax t2 0,t0.rows,?_,λ_=>rfl⟩⟩
       ·have:=congrArg xh h;rw[yI,hbl,uq]at this;omega
       ·rw[hcc]
      ·obtain⟨c0,c1,c2⟩:=zj4 hc;have hmem:=zmg hI.box _<|ziF c0 c1;have hmid:zvp (midP<|rgP p.b<|zv4 p.b) 1=midP (rgP p.b<|zv4 p.b)+1:=by unfold midP zvp;rw[zau (by omega)<|by omega]
       rw[if_neg<|show¬Z (zv4 p.b<0)=U by simpa using hc,if_neg hc,zij c0 c1,ya,zqQ (box1 hI.box<|ziF c0 c1) hn1,ya,ya,ya,hcc];refine znM (ix:=λ_=>0) (tr:=λkids=>⟨1,p.st,zv4 p.b,midP<|rgP p.b<|zv4 p.b,kids⟩) (self:=λr d=>zww S.zvv S.cases f M t0.rows (zwz p.b (zv4 p.b) r) d) (l:=zwS<|rgP p.b<|zv4 p.b) (λx _ d' hk=>(zfW hk).2) (λx _ d'=>zhS) (by omega) hd6 (by simp[zwS]) (λrec kids rows c i hi hcc hcd hkl hst=>?_) (λrec kids rows c=>?_) hn1
       ·have hx:=zop (d:=0) hI hc<|yh hi;have hrows:=hst rfl;obtain⟨w,e,hw⟩:=zfG hS f n (d-c) ⟨t0.s,t0.rows,t0.zvQ,t0.cost+(c:Int)⟩ (zwz p.b (zv4 p.b) (zwS<|rgP p.b<|zv4 p.b)[i]) t2 (by omega) (by omega) hs (by simp only;omega) (by simp only;omega) hle hR hRl hroot hE hx;rw[hstrict]at hw;have hnr:zww S.zvv S.cases f (Z<|t2<0) t0.rows (zwz p.b (zv4 p.b) (zwS<|rgP p.b<|zv4 p.b)[i]) (d-c)=zww S.zvv S.cases f M t0.rows (zwz p.b (zv4 p.b) (zwS<|rgP p.b<|zv4 p.b)[i]) (d-c):=by
         by_cases h:t2<0;·refine zqx ?_;simp only[h,decide_true,yz,yD,vX]at hr;exact Classical.not_not.1 hr
         ·rw[show Z (t2<0)=M by simpa using h]
        simp only at hw;rw[hnr]at hw;refine⟨w,?_,hw⟩;have hi2:i<2:=by simpa[zwS]using hi
        have hsto:∀r,sto p.b (zv4 p.b) r=O (zwz p.b (zv4 p.b) r):=zm2 c0 c1;subst hrows;rcases show i=0\/i=1 by omega with rfl|rfl
        ·simp only[zb.l14,hmid];rw[if_pos<|by simp,show idx [(⟨(rgP p.b<|zv4 p.b).lo,midP<|rgP p.b<|zv4 p.b⟩:Range),⟨midP (rgP p.b<|zv4 p.b)+1,(rgP p.b<|zv4 p.b).hi⟩] ((0:Nat):Int)=O ⟨(rgP p.b<|zv4 p.b).lo,midP<|rgP p.b<|zv4 p.b⟩from rfl,ya,zk<|by simp;omega,ya,yR,zij c0 c1,ya,hsto,ya];simp only[hbl,hb.len,decide_true,grd,if_true];simp only[zwS,List.getElem_cons_zero]at e;rw[e,ya];rfl
        ·simp only[zb.l14,hmid];rw[if_pos<|by simp,show idx [(⟨(rgP p.b<|zv4 p.b).lo,midP<|rgP p.b<|zv4 p.b⟩:Range),⟨midP (rgP p.b<|zv4 p.b)+1,(rgP p.b<|zv4 p.b).hi⟩] ((1:Nat):Int)=O ⟨midP (rgP p.b<|zv4 p.b)+1,(rgP p.b<|zv4 p.b).hi⟩from rfl,ya,zk<|by simp;omega,ya,yR,zij c0 c1,ya,hsto,ya];simp only[hbl,hb.len,decide_true,grd,if_true];simp only[zwS,List.getElem_cons_succ,List.getElem_cons_zero]at e;rw[e,ya];rfl
       ·simp only[zb.l14];rw[if_neg<|by simp[zwS]];simp only[hbl,hb.len,decide_true,grd,if_true]
def rowH (x:List Int)(r:Row):Bool:=Z<|sumP x r.zvr<=r.bound
def zzb (x:List Int)(g:zvP)(a b:Nat):Bool:=Z<|g.least.getD (a*g.size.toNat+b) 0<=x.getD (g.first+((a*g.size.toNat+b:Nat):Int)).toNat 0
def zcc (x:List Int)(g:zvP):Bool:=zxz (zzb x g) g.size.toNat
theorem zor {E F K}(h:∀a b,a<K->b<K->E a b=F a b):zxz E K=zxz F K:=by rw[xP];exact⟨ziU λa b ha hb hF=>by rw[h a b ha hb];exact hF,ziU λa b ha hb hE=>by rw[<-h a b ha hb];exact hE⟩
theorem zoz {n a r}(ha:zwu a)(hd:zf2 a.effect.delta)(ht:∀t∈r.zvr,-1000<=t.zvy/\t.zvy<=1000)(hl:r.zvr.length<=1000)(hn:1000000<=n):chgN n a r=chgP a.effect.delta r.zvr:=by
 have:=ha.delta;grind[chgN,zcF,zkq]
def zd5 (q:Question)(a b:Action):List Row:=a.effect.hold++if(q.e !=q.f)=U then b.effect.hold else[]
noncomputable def zcG (n:Nat)(m:Model)(q:Question)(a b:Action):List zvP:=(xm m.constraints.length).flatMap λi=>gS n (q.e !=q.f) a b<|m.constraints.getD i J
def zkR (r:Row)(x:Int):Row:=⟨r.zvr.map λt=>⟨t.cell,zwb t.zvy⟩,zvz (zvp (zwb r.bound) x) 1⟩
inductive Tgt (n:Nat)(m:Model)(q:Question)(a b:Action)(box:List Range):List Row->List (List Row)->Prop|hold(r:Row):q.target.hold=U->idx a.effect.hold q.target.index=O r->Tgt n m q a b box [zkR r<|chgN n b r] []|row(c:Constraint):q.target.hold=M->idx m.constraints q.target.index=O c->c.kind=0->Tgt n m q a b box [zkR c.row<|zvp (chgN n a c.row)<|chgN n b c.row] []|none(c:Constraint)(s:Nat):q.target.hold=M->idx m.constraints q.target.index=O c->c.kind=1->c.size=(s:Int)->zia (zx a.effect.delta) (zx b.effect.delta) box c s=[]->Tgt n m q a b box [⟨[],-1⟩] []|graph(c:Constraint)(s:Nat):q.target.hold=M->idx m.constraints q.target.index=O c->c.kind=1->c.size=(s:Int)->zia (zx a.effect.delta) (zx b.effect.delta) box c s≠[]->Tgt n m q a b box [] (zia (zx a.effect.delta) (zx b.effect.delta) box c s)
theorem zp1 {n m q a b box}(ha:zwu a)(hb:zwu b)(hc:∀c∈m.constraints,zwZ box.length c)(sa:zwA a)(sb:zwA b)(hl:m.constraints.length<=1000)(hbx:box.length<=1000)(hh:q.target.hold=U->0<=q.target.index/\q.target.index<(a.effect.hold.length:Int))(hh2:q.target.hold=M->0<=q.target.index/\q.target.index<(m.constraints.length:Int))(hn:1000000<=n):∃(xe:List Row)(cs:List<|List Row),Tgt n m q a b box xe cs/\((zd5 q a b++xe).length<=30/\∀r∈zd5 q a b++xe,r.zvr.length<=1000)/\((zcG n m q a b).length<=3000/\∀g∈zcG n m q a b,g.least.length<=36)/\zgv cs/\∀R,R.length<=1000->zyw n m q a b box R=endS n ⟨box,R++(zd5 q a b++xe),zcG n m q a b,cs⟩ (zar n ⟨box,R++(zd5 q a b++xe),zcG n m q a b,cs⟩):=by
 obtain⟨H,hH⟩:∃H:List Row,H=zd5 q a b:=⟨_,rfl⟩;have hHl:H.length<=20/\∀r∈H,r.zvr.length<=1000:=by
  have h1:=ha.hold;have h2:=hb.hold;rw[hH];unfold zd5;constructor;·grind
  ·intro r hr;rcases yv.1 hr with hr|hr;·exact ha.zvr r hr
   ·split at hr;·exact hb.zvr r hr
    ·simp at hr
 have hstep:∀R:List Row,R.length<=1000->zyw n m q a b box R=zdK n m q a b box (R++H):=λR hR=>by
  have h1:=ha.hold;have h2:=hb.hold;have hloop:zvt (zf.l3 n m q a b box H) n (R,0)=zdK n m q a b box (R++H):=by
   have:=zet (body:=zf.l3 n m q a b box H) (l:=H) (n:=n) (st:=λb i=>(b,(i:Int))) (λr:Row=>r) (zdK n m q a b box) R (λrec b6 i hi hb6=>?_) (λrec b6 hb6=>?_)<|by omega
   ·simpa using this
   ·simp only[zf.l3,zy hi,if_true,za hi,ya,zr9 (hHl.2 _<|yh hi) hn];rw[zk<|by first|omega|(simp;omega),ya,zd<|by omega]
   ·simp only[zf.l3,zaj,ye,if_false];rfl
  unfold zyw;simp only[jn];rw[zk<|by first|omega|(simp;omega),ya,yR];by_cases he:(q.e !=q.f)=U;·rw[if_pos he,zk<|by first|omega|(simp;omega),ya,<-hloop,hH,zd5,if_pos he]
  ·rw[if_neg he,<-hloop,hH,zd5,if_neg he,ud]
 obtain⟨G,hG⟩:∃G,G=zcG n m q a b:=⟨_,rfl⟩;have hGl:G.length<=3000/\∀g∈G,g.least.length<=36:=by
  have key:∀k,k<=m.constraints.length->((xm k).flatMap λi=>gS n (q.e !=q.f) a b<|m.constraints.getD i J).length<=3*k/\∀g∈(xm k).flatMap λi=>gS n (q.e !=q.f) a b<|m.constraints.getD i J,g.least.length<=36:=by
   intro k;induction k with|zero=>intro _;simp|succ k ih=>
    intro hk;obtain⟨i1,i2⟩:=ih (by omega);have e:m.constraints.getD k J=m.constraints[k]'(by omega):=by simp[vD,show k<m.constraints.length by omega]
    obtain⟨g1,g2⟩:=zpm (n:=n) (ef:=q.e !=q.f) ha hb (hc _<|yh<|show k<m.constraints.length by omega) hn;rw[zji,e];constructor;·rw[yT];omega
    ·intro g hg;rcases yv.1 hg with hg|hg;·exact i2 g hg
     ·exact g2 g hg
  rw[hG];obtain⟨k1,k2⟩:=key _<|ym _;unfold zcG;exact⟨by omega,k2⟩
 have h0:∀(c:Constraint)(R:List Row),(c.kind==1)=M->finS n box a b R c G=endS n ⟨box,R,G,[]⟩ (zar n ⟨box,R,G,[]⟩):=λc R hk=>by unfold finS;simp only[jn,hk,ye,if_false];rfl
 have c0:zgv []:=⟨by simp,by simp⟩;rw[<-hG,<-hH];cases hhold:q.target.hold with
 |true=>
  obtain⟨i1,i2⟩:=hh hhold;obtain⟨r,hr⟩:=zaD i1 i2;have hrl:=ha.zvr r<|zam hr;have hx:=zeQ hb hrl hn;have hnr:=zeR (n:=n) (r:=r) (f:=λq0=>za1 n q0) (g:=λq0=>zav n q0<|chgN n b r) (fP:=zwb) (B:=zvz (zvp (zwb r.bound)<|chgN n b r) 1) (λ_=>rfl) rfl hrl hn;refine⟨_,_,.hold r hhold hr,⟨by first|omega|(simp;omega),λs hs=>?_⟩,hGl,c0,λR hR=>?_⟩
  ·rcases yv.1 hs with hs|hs;·exact hHl.2 s hs
   ·simp at hs;subst hs;simpa[zkR]using hrl
  ·rw[hstep R hR];unfold zdK;simp only[jn,hhold,if_true,hr,ya,hx,hnr];rw[zk<|by first|omega|(simp;omega),ya];have:=zj6 (q:=q) (a:=a) (b:=b) (box:=box) (R:=R++H++[zkR r<|chgN n b r]) (c:=⟨0,0,⟨[],0⟩,0,0⟩) ha hb hc hl hn;rw[<-zcG,<-hG]at this;rw[yJ]at this|-;exact this.trans<|h0 _ _ rfl|false=>
  obtain⟨i1,i2⟩:=hh2 hhold;obtain⟨c,hcx⟩:=zaD i1 i2;have hco:=hc c<|zam hcx;have hgl:=λR:List Row=>zj6 (q:=q) (a:=a) (b:=b) (box:=box) (R:=R) (c:=c) ha hb hc hl hn;rw[<-zcG,<-hG]at hgl;rcases hco.kind with hk|hk
  ·have hx:=zeQ ha hco.len hn;have hy:=zeQ hb hco.len hn;have hnr:=zeR (n:=n) (r:=c.row) (f:=λq0=>za1 n q0) (g:=λq0=>zav n q0<|zvp (chgN n a c.row)<|chgN n b c.row) (fP:=zwb) (B:=zvz (zvp (zwb c.row.bound)<|zvp (chgN n a c.row)<|chgN n b c.row) 1) (λ_=>rfl) rfl hco.len hn;refine⟨_,_,.row c hhold hcx hk,⟨by first|omega|(simp;omega),λs hs=>?_⟩,hGl,c0,λR hR=>?_⟩
   ·rcases yv.1 hs with hs|hs;·exact hHl.2 s hs
    ·simp at hs;subst hs;simpa[zkR]using hco.len
   ·rw[hstep R hR];unfold zdK;have hk':(c.kind==0)=true:=by simp[hk]
    simp only[jn,hhold,ye,if_false,hcx,ya,hk',if_true,hx,hy,hnr];rw[zk<|by first|omega|(simp;omega),ya,yJ];exact(hgl _).trans<|h0 _ _<|by simp[hk]
  ·obtain⟨s,s1,s2,s3,s4,s5⟩:=hco.sz hk;obtain⟨cs,hcs,hcsO⟩:=zni (n:=n) (box:=box) (e:=a) (f:=b) s1 s2 s3 s4 s5 hbx ha.delta hb.delta hn;have hcq:cs=zia (zx a.effect.delta) (zx b.effect.delta) box c s:=by have:=(zlG (n:=n) (c:=c) sa sb s3 hn (box:=box) s1 s2 s4 s5 hbx).1;rw[hcs]at this;exact vP this
   have hk0:(c.kind==0)=false:=by simp[hk]
   have hk1:(c.kind==1)=true:=by simp[hk]
   by_cases he:cs=[]
   ·have he':((cs.length:Int)==0)=true:=by simp[he]
    refine⟨_,_,.none c s hhold hcx hk s1<|hcq▸he,⟨by first|omega|(simp;omega),λs hs=>?_⟩,hGl,c0,λR hR=>?_⟩
    ·rcases yv.1 hs with hs|hs;·exact hHl.2 s hs
     ·simp at hs;subst hs;simp
    ·rw[hstep R hR];unfold zdK;simp only[jn,hhold,ye,if_false,hcx,ya,hk0];refine(hgl _).trans ?_;unfold finS;simp only[jn,hk1,if_true,hcs,ya,he'];rw[zk<|by first|omega|(simp;omega),ya,yJ,he];rfl
   ·have he':¬((cs.length:Int)==0)=true:=by simp[he]
    refine⟨_,_,.graph c s hhold hcx hk s1<|hcq▸he,⟨by simpa using(by omega:H.length<=30),by simpa using hHl.2⟩,hGl,hcq▸hcsO,λR hR=>?_⟩;rw[hstep R hR];unfold zdK;simp only[jn,hhold,ye,if_false,hcx,ya,hk0];refine(hgl _).trans ?_;unfold finS;simp only[jn,hk1,if_true,hcs,ya];rw[if_neg he',<-hcq,ud];rfl
theorem gr_eq {n K:Nat}{c}{s:Nat}{f}{fP:Int->Int}(hs:c.size=(s:Int))(h6:s<=6)(hf:∀x,f x=O (fP x))(hn:1000000<=n):gr n c f=⟨c.first,c.size,(xm<|s*s).map λi:Nat=>zvz 1<|fP<|zvp c.first (i:Int)⟩:=by
 have e:=y8 h6 h6;have b:zvA c.size c.size=(s*s:Nat):=by grind[zeM]
 have:zH n c f=O ⟨c.first,c.size,(xm<|s*s).map λi:Nat=>zvz 1<|fP<|zvp c.first i⟩:=by
  unfold zH;have:=zA (body:=zH.l1 n c f) (len:=s*s) (st:=λi=>((xm i).map λi:Nat=>zvz 1<|fP<|zvp c.first i,i)) (g:=λ_=>O ⟨c.first,c.size,(xm<|s*s).map λi:Nat=>zvz 1<|fP<|zvp c.first i⟩) (λa i h d=>?_) (λa=>?_) n 0 (yn _)<|by omega
  ·grind
  ·simp only[zH.l1];grind[zk,zd,List.range_succ]
  ·simp only[zH.l1,b,zgH<|ym _,ye,if_false]
 grind[gr]
theorem zmv {n K}{c}{x y}{f}{fP:Int->Int}(hc:zwZ K c)(hk:c.kind=1)(hx:x.length=K)(hK:K<=1000)(hf:∀z,f z=O (fP z))(hsm:∀z,-4000000000<=fP z/\fP z<=4000000000)(hy:∀i,0<=i->i<(K:Int)->y.getD i.toNat 0=x.getD i.toNat 0+fP i)(hn:1000000<=n):zcc x (gr n c f)=z9 c y:=by
 obtain⟨s,e,p,h,o,m⟩:=hc.sz hk;rw[gr_eq (K:=K) e h hf hn];unfold zcc z9;rw[if_pos hk];simp only[e,yr];refine zor λa b j k=>?_;have l:=zeb j k;have d:c.first+a*s+b=c.first+(a*s+b:Nat):=by grind
 have g:=hsm<|c.first+(a*s+b:Nat);unfold zzb zwO;rw[xP];simp only[yf,e,yr,d];rw[hy _ (by omega)<|by omega,yL,y7,tl l];simp only[yV,yi];rw[zbi (by omega)<|by omega,zgm (by omega)<|by omega];omega
theorem zlf {K x}(hp:zwv K x){j}(hj:j<x.length):vtx x j<K/\x.getD j 0=((vtx x j:Nat):Int):=by
 have a:=hp.mem x[j]<|yh hj;grind[vtx]
section
variable{c:Constraint}{K:Nat}{box:List Range}{s:List Int}{da db:List Change}
theorem zo7 (hs:c.size=(K:Int))(h6:K<=6)(h0:0<=c.first)(h1:c.first<=1000000){x}(hp:zwv K x){i}(hi:i<x.length):zcQ c x i=c.first+((vtx x i*K+vtx x ((i+1)%x.length):Nat):Int):=by
 obtain⟨d,f⟩:=zlf hp hi;obtain⟨b,g⟩:=zlf hp<|wE (i+1) (show 0<x.length by omega);have e:=zeb d b;have a:=y8 h6 h6;grind[zcQ,zeM,zbi]
theorem znp (hs:c.size=(K:Int))(h0:0<=c.first)(hf:c.first+((K*K:Nat):Int)<=(s.length:Int)){a b}(ha:a<K)(hb:b<K):zwO (zvH s da) c a b=Z (1<=s.getD (c.first+((a*K+b:Nat):Int)).toNat 0+zx da (c.first+((a*K+b:Nat):Int))):=by
 have d:=zeb ha hb;grind[zwO,zfp]
theorem zi6 (hs:c.size=(K:Int))(h0:0<=c.first)(hf:c.first+((K*K:Nat):Int)<=(s.length:Int)){a b}(ha:a<K)(hb:b<K):zwO (zvH (zvH s da) db) c a b=Z (1<=s.getD (c.first+((a*K+b:Nat):Int)).toNat 0+zx da (c.first+((a*K+b:Nat):Int))+zx db (c.first+((a*K+b:Nat):Int))):=by have hp:=zeb ha hb;rw[znp hs h0 (by rw[zdT];exact hf) ha hb,zfp (by omega)<|by omega]
theorem zpd (hs:c.size=(K:Int))(h6:K<=6)(h0:0<=c.first)(hf:c.first+((K*K:Nat):Int)<=(s.length:Int))(hl:s.length<=1000)(hA:zf2 da)(hB:zf2 db){x}(hp:zwv K x){i}(hi:i<x.length):rowH s (zi5 (zx da) (zx db) c x i)=zwO (zvH (zvH s da) db) c (vtx x i) (vtx x<|(i+1)%x.length):=by
 have b:=(zlf hp hi).1;have a:=(zlf hp<|wE (i+1)<|show 0<x.length by omega).1;rw[zi6 hs h0 hf b a];unfold rowH zi5;rw[zo7 hs h6 h0 (by omega) hp hi];have e:=zcU hA<|c.first+(vtx x i*K+vtx x ((i+1)%x.length));have d:=zcU hB<|c.first+(vtx x i*K+vtx x ((i+1)%x.length));grind[sumP,zbi,zgm]
theorem znh (hk:c.kind=1)(hs:c.size=(K:Int))(h6:K<=6)(h0:0<=c.first)(hf:c.first+((K*K:Nat):Int)<=(box.length:Int))(hg:zyK box=U)(hx:zxA box s=U)(hl:box.length<=1000)(hA:zf2 da)(hB:zf2 db)(ha:z9 c (zvH s da)=U)(hb:z9 c (zvH s db)=U):(zia (zx da) (zx db) box c K).any (λrows=>rows.all<|rowH s)=!z9 c (zvH (zvH s da) db):=by
 have hxl:=zgK hx;have hK:c.size.toNat=K:=by omega
 have h36:K*K<=36:=y8 h6 h6;have hfs:c.first+((K*K:Nat):Int)<=(s.length:Int):=by omega
 have hbig:∀a b,a<K->b<K->zwO (zvH (zvH s da) db) c a b=U->hasP ⟨(K:Int),(xm<|K*K).map λi:Nat=>Z<|1<=zvp ((idx box<|zvp c.first (i:Int)).getD J).hi (zvp (zx da<|zvp c.first (i:Int))<|zx db<|zvp c.first (i:Int))⟩ a b=true:=by
  intro a b h1 h2 he;have hp:=zeb h1 h2;rw[zi6 hs h0 hfs h1 h2]at he;have e1:zvp c.first ((a*K+b:Nat):Int)=c.first+((a*K+b:Nat):Int):=zbi (by omega)<|by omega
  obtain⟨z,hz⟩:=yS (show 0<=c.first+((a*K+b:Nat):Int)by omega);have hzl:z<box.length:=by omega
  have hin:=zgJ hx z hzl (by omega);have hgz:=yo.1 hg _<|yh hzl;simp only[yc,yf]at hgz;have a1:=zcU hA (z:Int);have b1:=zcU hB (z:Int);unfold hasP;simp only[yr];rw[yL,y7,tl hp];simp only[yV,yi,e1];rw[hz,yr]at he;rw[hz,za hzl,yi,zbi (x:=zx da (z:Int)) (by omega)<|by omega,zbi (by omega)<|by omega];grind
 have hrows:∀x,zwv K x->(((xm x.length).map<|zi5 (zx da) (zx db) c x).all (rowH s)=U↔zyC (zwO (zvH (zvH s da) db) c) x):=λx hp=>by
  rw[List.all_map,yo];unfold zyC;constructor
  ·intro h i hi;have:=h i<|yX.2 hi;rwa[vY,zpd hs h6 h0 hfs (by omega) hA hB hp hi]at this
  ·intro h i hi;rw[vY,zpd hs h6 h0 hfs (by omega) hA hB hp<|yX.1 hi];exact h i<|yX.1 hi
 have hup:∀(d e:List Change)x,x∈cycP (zwO (zvH (zvH s da) db) c) K->z9 c (zvH s e)=U->(∀z,zx da z+zx db z=zx d z+zx e z)->(xm x.length).any (λi=>Z<|0<zx d (zcQ c x i))=true:=by
  intro d e x hxc hh hsum;have hp:=zfN hxc;refine xF λhno=>?_;simp only[yP,vS,yX,yf]at hno;have hin:zyC (zwO (zvH s e) c) x:=λi hi=>by have v1:=(zlf hp hi).1;have w1:=(zlf hp<|wE (i+1)<|show 0<x.length by omega).1;have h1:=zku hxc i hi;have h2:=hno i hi;rw[zo7 hs h6 h0 (by omega) hp hi]at h2;rw[zi6 hs h0 hfs v1 w1]at h1;rw[znp hs h0 hfs v1 w1];have h3:=hsum<|c.first+((vtx x i*K+vtx x ((i+1)%x.length):Nat):Int);simp only[yf]at h1|-;omega
  unfold z9 at hh;rw[if_pos hk,hK]at hh;exact zeZ.1 hh x<|zkv hxc hin
 have hab:z9 c (zvH (zvH s da) db)=zxz (zwO (zvH (zvH s da) db) c) K:=by unfold z9;rw[if_pos hk,hK]
 rw[hab,xP,yD,<-yP,zeZ,uo];constructor
 ·rintro⟨rows,hr,hall⟩hno;obtain⟨x,hx1,hx2⟩:=uf.1 hr;have hp:=zfN hx1;unfold zd6 at hx2;split at hx2;·simp only[yN]at hx2;subst hx2;exact hno x<|zkv hx1<|(hrows x hp).1 hall
  ·simp at hx2
 ·intro hex;obtain⟨x,hxc⟩:∃x,x∈cycP (zwO (zvH (zvH s da) db) c) K:=xF λh=>hex λx hx=>h ⟨x,hx⟩;have hp:=zfN hxc;have hin:=zku hxc;refine⟨_,uf.2 ⟨x,zkv hxc<|hin.mono hp hbig,?_⟩,(hrows x hp).2 hin⟩;unfold zd6;rw[if_pos];·exact yN.2 rfl
  ·rw[hup da db x hxc hb λ_=>rfl,hup db da x hxc ha λz=>Int.add_comm _ _];rfl
theorem znH {x}(h1:-1000000000000000000<=x)(h2:x<=1000000000000000000):zwb x=-x:=by grind[zwb,zau]
theorem zsi {K}:∀{l},(∀t∈l,zfe K t)->sumP s (l.map λt=>⟨t.cell,zwb t.zvy⟩)=-sumP s l|[],_=>rfl|t::l,h=>by obtain⟨-,-,b,c⟩:=h t (by simp);simp only[yU,sumP];rw[zsi λu a=>h u<|by simp[a],znH (by omega)<|by omega,Int.neg_mul];omega
theorem zpG {K r x}(ht:∀t∈r.zvr,zfe K t)(hb:-1000000000<=r.bound/\r.bound<=1000000000)(hx:-1000000000000000000<=x/\x<=1000000000000000000):rowH s (zkR r x)=!decide (sumP s r.zvr+x<=r.bound):=by
 unfold rowH zkR;rw[zsi ht,znH (by omega)<|by omega,zbi (by omega)<|by omega,zgm (by omega)<|by omega,xP];grind
end
theorem zkz {x y B}:gmax x y<=B↔x<=B/\y<=B:=⟨λh=>by have:=zms x y;omega,λh=>zmt h.1 h.2⟩
def relQ (q:Question)(i:Int):Bool:=q.target.hold||q.target.index !=i
def zhK (m:Model)(q:Question)(a b:Action)(s:List Int):Bool:=if q.target.hold=U then !z9 ⟨0,0,(idx a.effect.hold q.target.index).getD J,0,0⟩ (zvH s b.effect.delta)else !z9 ((idx m.constraints q.target.index).getD J) (zvH (zvH s a.effect.delta) b.effect.delta)
def zdX (m:Model)(q:Question)(rows:List Int)(a b:Action)(s:List Int):Bool:=zyM m a.effect s&&zyM m b.effect s&&(rows.all (λi=>!(relQ q i&&!z9 ((idx m.constraints i).getD J) (zvH (zvH s a.effect.delta) b.effect.delta)))&&zhK m q a b s)
structure zwq (n:Nat)(m:Model)(q:Question)(a b:Action)(s:List Int):Prop where
 small:zvS m
 valid:zwn m
 quest:zdh m q=U
 ha:idx m.zvq q.e=O a
 hb:idx m.zvq q.f=O b
 box:zxA (boxM m) s=U
 len:(boxM m).length<=100
 fuel:4294967296<=n
section
variable{n:Nat}{m:Model}{q:Question}{rows:List Int}{a b:Action}{s:List Int}
theorem zwq.state (h:zwq n m q a b s):zzN m s:=ztb h.valid.lay h.box
theorem zwq.conIn (h:zwq n m q a b s){c}(hc:c∈m.constraints):ConIn c s.length:=by rw[h.state.len];exact ztp h.small h.valid hc
theorem zwq.zyX (h:zwq n m q a b s){c}(hc:c∈m.constraints):zwZ (boxM m).length c:=znl h.small h.valid hc
theorem zwq.dA (h:zwq n m q a b s):zf2 a.effect.delta/\∀r∈a.effect.hold,zwc (boxM m).length r=true:=zkg h.valid<|zam h.ha
theorem zwq.dB (h:zwq n m q a b s):zf2 b.effect.delta/\∀r∈b.effect.hold,zwc (boxM m).length r=true:=zkg h.valid<|zam h.hb
theorem zwq.oA (h:zwq n m q a b s):zwu a:=zju h.small<|zam h.ha
theorem zwq.oB (h:zwq n m q a b s):zwu b:=zju h.small<|zam h.hb
theorem zwq.sA (h:zwq n m q a b s):zwA a:=zhj h.fuel h.small h.valid<|zam h.ha
theorem zwq.sB (h:zwq n m q a b s):zwA b:=zhj h.fuel h.small h.valid<|zam h.hb
theorem zwq.same (h:zwq n m q a b s)(he:(q.e !=q.f)=M):a=b:=by
 have e:q.e=q.f:=by grind
 have c:=h.ha;rw[e,h.hb]at c;grind
theorem zwq.row (h:zwq n m q a b s){c}(hc:c∈m.constraints)(hk:c.kind=0):(∀t∈c.row.zvr,zfe s.length t)/\c.row.zvr.length<=1000/\(-1000000000<=c.row.bound/\c.row.bound<=1000000000)/\chgN n a c.row=chgP a.effect.delta c.row.zvr/\chgN n b c.row=chgP b.effect.delta c.row.zvr/\(-1000000000000000<=chgN n a c.row/\chgN n a c.row<=1000000000000000)/\-1000000000000000<=chgN n b c.row/\chgN n b c.row<=1000000000000000:=by
 have f:1000000<=n:=by have:=h.fuel;omega
 have g:=znk h.valid hc hk;have i:-1000000000<=c.row.bound/\c.row.bound<=1000000000:=by simp only[zwc,za6,yc,yf]at g;omega
 have d:=(h.zyX hc).len;have ht:=by cases h.conIn hc with|row _ ht _ _=>exact ht|graph _ hk1=>omega
 have e:=λt h=>(ht t h).2.2;exact⟨ht,d,i,zoz h.oA h.dA.1 e d f,zoz h.oB h.dB.1 e d f,zoy h.oA h.dA.1 e d f,zoy h.oB h.dB.1 e d f⟩
theorem zcY {c}(hk:c.kind=0)(x):z9 c x=Z (sumP x c.row.zvr<=c.row.bound):=by unfold z9;grind
theorem zr1 (h:zwq n m q a b s):(zw3 n m q rows a b).all (rowH s)=U↔∀i(hi:i<m.constraints.length),m.constraints[i].kind=0->((z9 m.constraints[i] s=U/\z9 m.constraints[i] (zvH s a.effect.delta)=U)/\z9 m.constraints[i] (zvH s b.effect.delta)=U)/\((i:Int)∈rows->relQ q (i:Int)=U->z9 m.constraints[i] (zvH (zvH s a.effect.delta) b.effect.delta)=U):=by
 unfold zw3;rw[List.all_flatMap,yo];have key:∀i(hi:i<m.constraints.length),(rowS n q rows a b i<|m.constraints.getD i J).all (rowH s)=U↔m.constraints[i].kind=0->((z9 m.constraints[i] s=U/\z9 m.constraints[i] (zvH s a.effect.delta)=U)/\z9 m.constraints[i] (zvH s b.effect.delta)=U)/\((i:Int)∈rows->relQ q (i:Int)=U->z9 m.constraints[i] (zvH (zvH s a.effect.delta) b.effect.delta)=U):=λi hi=>by
  have e:m.constraints.getD i J=m.constraints[i]:=by grind[vD]
  rw[e];unfold rowS;by_cases hk:m.constraints[i].kind=0
  ·obtain⟨ht,hlen,hbd,ea,eb,ba,bb⟩:=h.row (yh hi) hk;rw[if_neg<|by simp[hk],zcY hk,zcY hk,zcY hk,zcY hk];have e1:=zgn (s:=s) (d:=a.effect.delta) ht;have e2:=zgn (s:=s) (d:=b.effect.delta) ht;have e3:=zgn (s:=zvH s a.effect.delta) (d:=b.effect.delta) (l:=m.constraints[i].row.zvr) (by grind[zdT]);rw[e3,e1,e2];rw[<-ea,<-eb];have hs:zvp (chgN n a m.constraints[i].row) (chgN n b m.constraints[i].row)=chgN n a m.constraints[i].row+chgN n b m.constraints[i].row:=zbi (by omega) (by omega);obtain⟨k1,-,k3⟩:=zsQ (q:=q) (rows:=rows) (less:=rows) (i:=i) ba bb id;simp only[um,wD,ui,rowH];rw[zgm (by omega)<|by omega];simp only[yf,hk,true_imp_iff];have hle:sumP s m.constraints[i].row.zvr<=m.constraints[i].row.bound-kS n q rows a b i m.constraints[i]↔kS n q rows a b i m.constraints[i]<=m.constraints[i].row.bound-sumP s m.constraints[i].row.zvr:=by omega
   rw[hle];unfold kS;rw[hs];by_cases hr:(i:Int)∈rows/\relQ q (i:Int)=U;·obtain⟨r1,r2⟩:=hr;have r2':=r2;unfold relQ at r2';simp only[r1,r2',decide_true,uW,if_true,zkz,true_imp_iff,r2];omega
   ·have:(Z ((i:Int)∈rows)&&(q.target.hold||q.target.index !=(i:Int)))=false:=by rw[uR];intro hh;rw[yc,yf]at hh;exact hr hh
    rw[this];simp only[ye,if_false,zkz];constructor;·intro h;exact⟨by omega,λh1 h2=>absurd ⟨h1,h2⟩ hr⟩
    ·intro h;omega
  ·rw[if_pos<|by simpa using hk];simp[hk]
 simp_all
theorem zwq.lenP (h:zwq n m q a b s):s.length=(boxM m).length:=h.state.len
theorem zkX (h:zwq n m q a b s){x}(hx:x∈m.zvq){c}(hc:c∈m.constraints)(hk:c.kind=1)(hno:¬0<(((zD n x c).getD []).length:Int))(hs:z9 c s=U):z9 c (zvH s x.effect.delta)=true:=by
 have w:=h.fuel;have y:=h.len;obtain⟨k,f,z⟩:=(h.zyX hc).mul hk;have g:=(zju h.small hx).delta;rw[zdx f (by omega) (by omega) (by omega)<|by omega,yi]at hno;obtain⟨d,l,e,r,o,t⟩:=(h.zyX hc).sz hk;have u:k=d*d:=by grind[zeM]
 refine zoI hk ⟨l,e,r,o,by rw[h.lenP];exact t,by rw[h.lenP];omega⟩ (λj v=>?_) hs;have:=zlT (p:=zeH x.effect.delta c) (k:=k) (i:=0) (by omega) j (by omega)<|by omega
 grind[zeH,zbi]
theorem zoJ (h:zwq n m q a b s):(zcG n m q a b).all (zcc s)=U↔∀i(hi:i<m.constraints.length),m.constraints[i].kind=1->(z9 m.constraints[i] s=U/\z9 m.constraints[i] (zvH s a.effect.delta)=U)/\z9 m.constraints[i] (zvH s b.effect.delta)=true:=by
 have hn:1000000<=n:=by have:=h.fuel;omega
 have hL:=h.len;unfold zcG;rw[List.all_flatMap,yo];have key:∀i(hi:i<m.constraints.length),(gS n (q.e !=q.f) a b<|m.constraints.getD i J).all (zcc s)=U↔m.constraints[i].kind=1->(z9 m.constraints[i] s=U/\z9 m.constraints[i] (zvH s a.effect.delta)=U)/\z9 m.constraints[i] (zvH s b.effect.delta)=U:=λi hi=>by
  have e:m.constraints.getD i J=m.constraints[i]:=by grind
  rw[e];have hc:=yh hi;unfold gS;by_cases hk:m.constraints[i].kind=1
  ·rw[if_neg<|by simp[hk],show(zD n b m.constraints[i]).getD J=(zD n b m.constraints[i]).getD []from rfl];have hco:=h.zyX hc;have g2:zcc s (gr n m.constraints[i] λq0=>za7 n q0)=z9 m.constraints[i] s:=zmv (fP:=λ_=>0) hco hk h.lenP (by omega) (λ_=>rfl) (λ_=>by omega) (λi _ _=>by omega) hn;have g3:zcc s (gr n m.constraints[i] λq0=>zR n q0 a)=z9 m.constraints[i] (zvH s a.effect.delta):=zmv (fP:=zx a.effect.delta) hco hk h.lenP (by omega) (λz=>by unfold zR;rw[h.sA.added hn];rfl) (λz=>by have:=zcU h.dA.1 z;omega) (λi h0 h1=>zfp h0<|by rw[h.lenP];exact h1) hn;have g4:zcc s (gr n m.constraints[i] λq0=>zai n q0 b)=z9 m.constraints[i] (zvH s b.effect.delta):=zmv (fP:=zx b.effect.delta) hco hk h.lenP (by omega) (λz=>by unfold zai;rw[h.sB.added hn];rfl) (λz=>by have:=zcU h.dB.1 z;omega) (λi h0 h1=>zfp h0<|by rw[h.lenP];exact h1) hn;have k3:=λhno=>zkX h (zam h.ha) hc hk hno;have k4:=λhno=>zkX h (zam h.hb) hc hk hno;rw[th,th];simp only[um,wD,ui,g2,hk,true_imp_iff];by_cases h3:0<(((zD n a m.constraints[i]).getD []).length:Int);·rw[if_pos<|by simpa using h3];simp only[um,wD,ui,g3];cases hef:q.e !=q.f with
    |false=>have hab:=h.same hef;subst hab;simp only[ue,ye,if_false,wD,ui,yc];exact⟨λh=>⟨h,h.2⟩,λh=>h.1⟩|true=>
     by_cases h4:0<(((zD n b m.constraints[i]).getD []).length:Int);·rw[if_pos<|by simpa using h4];simp only[um,wD,ui,g4,yc,and_assoc]
     ·rw[if_neg<|by simpa using h4];simp only[wD,ui,yc];exact⟨λh=>⟨h,k4 h4 h.1⟩,λh=>h.1⟩
   ·rw[if_neg<|by simpa using h3];simp only[wD,yz];cases hef:q.e !=q.f with
    |false=>have hab:=h.same hef;subst hab;simp only[ue,ye,if_false,wD,ui];exact⟨λh=>⟨⟨h,k3 h3 h⟩,k3 h3 h⟩,λh=>h.1.1⟩|true=>
     by_cases h4:0<(((zD n b m.constraints[i]).getD []).length:Int);·rw[if_pos<|by simpa using h4];simp only[um,wD,ui,g4,yc];exact⟨λh=>⟨⟨h.1,k3 h3 h.1⟩,h.2⟩,λh=>⟨h.1.1,h.2⟩⟩
     ·rw[if_neg<|by simpa using h4];simp only[wD,ui];exact⟨λh=>⟨⟨h,k3 h3 h⟩,k4 h4 h⟩,λh=>h.1.1⟩
  grind
 simp_all
theorem zqt (h:zwq n m q a b s):(zd5 q a b).all (rowH s)=(a.effect.hold.all (λr=>z9 ⟨0,0,r,0,0⟩ s)&&b.effect.hold.all λr=>z9 ⟨0,0,r,0,0⟩ s):=by
 have e:(λr=>z9 ⟨0,0,r,0,0⟩ s)=rowH s:=by funext r;exact zcY rfl s
 rw[e];unfold zd5;cases c:q.e !=q.f with
 |false=>
  have d:=h.same c;grind|true=>simp
theorem zqI {xe cs}(h:zwq n m q a b s)(hT:Tgt n m q a b (boxM m) xe cs)(hg:∀c∈m.constraints,c.kind=1->z9 c (zvH s a.effect.delta)=U/\z9 c (zvH s b.effect.delta)=U):(xe.all (rowH s)&&(cs.isEmpty||cs.any λrows=>rows.all<|rowH s))=zhK m q a b s:=by
 have hn:1000000<=n:=by have:=h.fuel;omega
 have hgood:=zha h.valid.lay;unfold zhK;cases hT with
 |hold r h1 h2=>
  rw[if_pos h1,h2,yi,zcY rfl];have hro:=h.dA.2 r<|zam h2;have hlen:=h.oA.zvr r<|zam h2;have hbd:-1000000000<=r.bound/\r.bound<=1000000000:=by simp only[zwc,za6,yc,yf]at hro;omega
  have ht:∀t∈r.zvr,zfe (boxM m).length t:=by
   simp only[zwc,yc]at hro;grind[zhi]
  have hf:∀t∈r.zvr,-1000<=t.zvy/\t.zvy<=1000:=λt h=>(ht t h).2.2;have hb:=zoy h.oB h.dB.1 hf hlen hn;simp only[um,wD,ui,ta,uE];rw[zpG ht hbd<|by omega,zoz h.oB h.dB.1 hf hlen hn,zgn<|by rw[h.lenP];exact ht]|row c h1 h2 hk=>rw[if_neg<|by simp[h1],h2,yi,zcY hk];obtain⟨ht,hlen,hbd,ea,eb,ba,bb⟩:=h.row (zam h2) hk;simp only[um,wD,ui,ta,uE];rw[zbi (by omega)<|by omega,zpG ht hbd<|by omega,zgn<|by grind[zdT],zgn ht,ea,eb,Int.add_assoc]|none c k h1 h2 hk hz he=>
  rw[if_neg<|by simp[h1],h2,yi];obtain⟨size,z1,z2,z3,z4,z5⟩:=(h.zyX<|zam h2).sz hk;have hks:k=size:=by omega
  subst hks;obtain⟨ga,gb⟩:=hg c (zam h2) hk;rw[<-znh hk z1 z3 z4 z5 hgood h.box (by have:=h.len;omega) h.dA.1 h.dB.1 ga gb,he];rfl|graph c k h1 h2 hk hz he=>
  rw[if_neg<|by simp[h1],h2,yi];obtain⟨size,z1,z2,z3,z4,z5⟩:=(h.zyX<|zam h2).sz hk;have hks:k=size:=by omega
  subst hks;obtain⟨ga,gb⟩:=hg c (zam h2) hk;rw[<-znh hk z1 z3 z4 z5 hgood h.box (by have:=h.len;omega) h.dA.1 h.dB.1 ga gb];grind
theorem znG {xe cs}(h:zwq n m q a b s)(hT:Tgt n m q a b (boxM m) xe cs)(hrows:∀i∈rows,∃(k:Nat)(hk:k<m.constraints.length),i=(k:Int)/\m.constraints[k].kind=0):((zw3 n m q rows a b++(zd5 q a b++xe)).all (rowH s)&&(zcG n m q a b).all (zcc s)&&(cs.isEmpty||cs.any λrows=>rows.all<|rowH s))=zdX m q rows a b s:=by
 rw[th,th,zqt h];have h1:=zr1 (rows:=rows) h;have h2:=zoJ h;have kinds:∀c∈m.constraints,c.kind=0\/c.kind=1:=λc hc=>(h.zyX hc).kind;have base:((zw3 n m q rows a b).all (rowH s)=U/\a.effect.hold.all (λr=>z9 ⟨0,0,r,0,0⟩ s)=U/\b.effect.hold.all (λr=>z9 ⟨0,0,r,0,0⟩ s)=U)/\(zcG n m q a b).all (zcc s)=U↔(zyM m a.effect s=U/\zyM m b.effect s=U)/\rows.all (λi=>!(relQ q i&&!z9 ((idx m.constraints i).getD J) (zvH (zvH s a.effect.delta) b.effect.delta)))=true:=by
  rw[h1,h2];unfold zyM;simp only[yc,yo];constructor
  ·rintro⟨⟨r1,r2,r3⟩,g1⟩;have hall:∀c∈m.constraints,(z9 c s=U/\z9 c (zvH s a.effect.delta)=U)/\z9 c (zvH s b.effect.delta)=true:=λc hc=>by
    obtain⟨i,hi,rfl⟩:=wd hc;rcases kinds _ hc with hk|hk;·exact(r1 i hi hk).1
    ·exact g1 i hi hk
   refine⟨⟨⟨λc hc=>(hall c hc).1,r2⟩,λc hc=>⟨(hall c hc).1.1,(hall c hc).2⟩,r3⟩,λi hi=>?_⟩;obtain⟨k,hk,rfl,hk0⟩:=hrows i hi;rw[za hk,yi];cases hr:relQ q (k:Int)with
   |false=>rfl|true=>rw[(r1 k hk hk0).2 hi hr];rfl
  ·rintro⟨⟨⟨a1,a2⟩,b1,b2⟩,r1⟩;refine⟨⟨λi hi hk=>⟨⟨a1 _<|yh hi,(b1 _<|yh hi).2⟩,λhm hr=>?_⟩,a2,b2⟩,λi hi hk=>⟨a1 _<|yh hi,(b1 _<|yh hi).2⟩⟩;have:=r1 _ hm;rw[za hi,yi,hr]at this;simpa using this
 rw[xP];unfold zdX;have tgt:((zw3 n m q rows a b).all (rowH s)=U/\a.effect.hold.all (λr=>z9 ⟨0,0,r,0,0⟩ s)=U/\b.effect.hold.all (λr=>z9 ⟨0,0,r,0,0⟩ s)=U)/\(zcG n m q a b).all (zcc s)=U->((xe.all (rowH s)&&(cs.isEmpty||cs.any λrows=>rows.all<|rowH s))=U↔zhK m q a b s=U):=λhb=>by rw[zqI h hT λc hc hk=>?_];obtain⟨i,hi,rfl⟩:=wd hc;have:=h2.1 hb.2 i hi hk;exact⟨this.1.2,this.2⟩
 grind
end
theorem zqW {m}{rows:List Int}(h:(rows.all λx=>!badR m x)=U):∀i∈rows,∃(k:Nat)(hk:k<m.constraints.length),i=(k:Int)/\m.constraints[k].kind=0:=λi b=>by
 have:=yo.1 h i b;unfold badR at this;simp only[yD,uc,yK,Int.not_lt]at this;obtain⟨⟨c,d⟩,a⟩:=this;obtain⟨k,rfl⟩:=yS c;have hk:k<m.constraints.length:=by omega
 rw[za hk,yi]at a;grind
theorem zpR {K}:∀{l}{last},-1<=last->rowP K last l=U->l=[]\/(l.length:Int)<=(K:Int)-1-last
 |[],_,_,_=>.inl rfl|t::l,last,a,h=>by
  simp only[rowP,yc,yf]at h;rcases zpR (by omega) h.2 with e|e;·grind
  grind
theorem zpQ {L}{r}(hL:L<=100)(h:zwc L r=U):RwOK L r:=by
 have b:r.zvr.length<=100:=by
  have a:=h;simp only[zwc,yc]at a;rcases zpR (by omega) a.1 with e|e;·simp[e]
  ·omega
 have d:=zrb (n:=1000000) (K:=L) (r:=r) (by omega)<|ym _;have c:=zpk (n:=1000000) (k:=L) (r:=r) (by omega)<|ym _;exact⟨by grind,by omega⟩
theorem zri {L}{g}(hL:L<=100)(h:zfk L g=U):∃K,GrOK L g K:=by
 simp only[zfk,zjD,yc,yD,uc,yK,bne_eq_false_iff_eq,vS]at h;obtain⟨⟨⟨⟨⟨l,k⟩,m⟩,f⟩,c⟩,i⟩:=h;obtain⟨K,d⟩:∃K:Nat,g.size=K:=⟨g.size.toNat,by omega⟩;have a:K<=6:=by omega
 have j:=y8 a a;have e:zvA g.size g.size=(K*K:Nat):=by grind[zvA,zau]
 rw[e]at f c;have n:zvz L ((K*K:Nat))=L-K*K:=zau (by omega)<|by omega
 refine⟨K,d,by omega,a,by omega,⟨by omega,by omega⟩,λx b=>?_⟩;have:=i x b;simp only[zgN,yH,yf]at this;omega
theorem zve {L}{R G cs}(hL:L<=100)(h:sysP L R G cs=U):SysG L G cs/\(∀r∈R,RwOK L r)/\R.length<=1024:=by
 simp only[sysP,yc,yf,yo]at h;obtain⟨⟨⟨⟨b,c⟩,d⟩,e⟩,f,i⟩:=h;refine⟨⟨λg j=>zri hL<|f g j,d,λl k=>?_,e,by omega⟩,λr a=>zpQ hL<|c r a,b⟩;have:=i l k;simp only[zyG]at this;grind[zpQ]
structure SysD (n:Nat)(m:Model)(q:Question)(rows:List Int)(a b:Action)(S:System):Prop where
 valid:zwn m
 quest:zdh m q=U
 ha:idx m.zvq q.e=O a
 hb:idx m.zvq q.f=O b
 bad:(rows.all λx=>!badR m x)=U
 len:(boxM m).length<=12
 box:S.box=boxM m
 tgt:∃xe,Tgt n m q a b (boxM m) xe S.cases/\S.rows=zw3 n m q rows a b++(zd5 q a b++xe)zvv:S.zvv=zcG n m q a b
 ok:zzO S.rows S.zvv S.cases
 sys:sysP (boxM m).length S.rows S.zvv S.cases=U
theorem zoq {n m q rows}(hF:Fuel n)(hf:fewP m=U)(hrl:rows.length<=50):zf n m q rows=zu n m q rows/\((∃e,zf n m q rows=O (⟨[],[],[],[]⟩,e)/\(e=1\/e=2\/e=8))\/∃a b S,SysD n m q rows a b S/\zf n m q rows=O (S,0)):=by
 have hn:=hF.big;have hn1:1000000<=n:=by omega
 have hS:=zi7 hf;by_cases hvq:(zd2 m&&zdh m q)=U;case neg=>
  simp only[yP]at hvq;have h1:zf n m q rows=O (⟨[],[],[],[]⟩,1):=by
   unfold zf;rw[zf3 hF hS,hvq,ya,if_pos<|by simp]
  have h2:zu n m q rows=O (⟨[],[],[],[]⟩,1):=by
   unfold zu;rw[zej hn hS,hvq,ya,if_pos<|by simp]
  grind
 simp only[yc]at hvq;have hV:=zdg.1 hvq.1;obtain⟨q1,q2,q3,q4,q5⟩:=zed hvq.2;obtain⟨a,ha⟩:=zaD q1.1 q1.2;obtain⟨b,hb⟩:=zaD q2.1 q2.2;have hA:=zju hS<|zam ha;have hB:=zju hS<|zam hb;have sA:=zhj hn hS hV<|zam ha;have sB:=zhj hn hS hV<|zam hb;have hC:∀c∈m.constraints,zwZ (boxM m).length c:=λc hc=>znl hS hV hc;have hfp:=hf;simp only[fewP,zdC,hV.lay,if_true,yc,yf]at hfp;have hK:(boxM m).length<=12:=hfp.2.2.1;have hgood:=zha hV.lay;have hcl:=hS.constraints;have hct:∀c∈m.constraints,c.row.zvr.length<=1000:=λc hc=>(hC c hc).len;have hshort:=zk4 (n:=n) (q:=q) (rows:=rows) (a:=a) (b:=b) hcl hct;have e1:=zh7 (rows:=rows) hF hS hV hvq.2 ha hb hA hB hC<|by omega
 have e2:=zlr (rows:=rows) hF hS hV hvq.2 ha hb hA hB hC sA sB<|by omega
 by_cases hbad:(rows.all λx=>!badR m x)=U;case neg=>grind
 rw[if_pos hbad]at e1 e2;constructor
 ·obtain⟨X,G,cs,hX,hG,hcs,htail⟩:=ztd (n:=n) (m:=m) (q:=q) (box:=boxM m) hA hB hC (by omega) (by omega) sA sB (λh=>⟨q3,q4 h a ha⟩) (λh=>⟨q3,(q5 h).2⟩) hn1;grind[zm4,zd0,zhC]
 ·obtain⟨xe,cs,hT,hX,hG,hcs,htail⟩:=zp1 (n:=n) (m:=m) (q:=q) (box:=boxM m) hA hB hC sA sB (by omega) (by omega) (λh=>⟨q3,q4 h a ha⟩) (λh=>⟨q3,(q5 h).2⟩) hn1;have hso:=zm4 hshort hX hG hcs;rw[e1,htail _<|by grind,zd0 hgood (by omega) hso hn1];cases hP:sysP (boxM m).length (zw3 n m q rows a b++(zd5 q a b++xe)) (zcG n m q a b) cs with|false=>exact .inl ⟨8,by simp[endS],.inr<|.inr rfl⟩|true=>exact .inr ⟨a,b,⟨boxM m,zw3 n m q rows a b++(zd5 q a b++xe),zcG n m q a b,cs⟩,⟨hV,hvq.2,ha,hb,hbad,hK,rfl,⟨xe,hT,rfl⟩,rfl,hso,hP⟩,by simp[endS]⟩
theorem SysD.g {n m q rows a b S}(h:SysD n m q rows a b S):SysG (boxM m).length S.zvv S.cases/\(∀r∈S.rows,RwOK (boxM m).length r)/\S.rows.length<=1024:=zve (by have:=h.len;omega) h.sys
theorem SysD.valid1 {n m q rows a b S}(h:SysD n m q rows a b S)(hn:1000000<=n):zar n S=O U/\zak n S=O true:=by
 have c:=zha h.valid.lay;have j:=h.len;obtain⟨f,R,G,g⟩:=S;have i:=h.box;have d:=h.ok;have e:=h.sys;grind[zd0,zhC]
theorem SysD.pi {n m q rows a b S}(h:SysD n m q rows a b S):PI 0 (boxM m).length 0 [] S.box:=by
 have c:=zha h.valid.lay;have f:=h.len;rw[h.box];have e:∀r∈boxM m,r.lo<=r.hi/\-9999<=r.lo/\r.hi<=9999:=λr d=>by
  have:=yo.1 c r d;grind
 exact⟨zqY (λr d=>by grind)<|by omega,rfl,λr d=>(e r d).1,yn _,yn _⟩
theorem SysD.void {n m q rows a b S}(h:SysD n m q rows a b S)(hn:4294967296<=n)(hS:zvS m)(h0:(boxM m).length=0):∃r∈S.rows,zxg r=true:=by
 have hbox:boxM m=[]:=List.length_eq_zero_iff.1 h0;obtain⟨hg,hr,-⟩:=h.g;have hsc:zwq n m q a b []:=⟨hS,h.valid,h.quest,h.ha,h.hb,by rw[hbox];rfl,by omega,hn⟩;obtain⟨xe,hT,hrows⟩:=h.tgt;have hmeans:=znG (rows:=rows) hsc hT<|zqW h.bad;have hshow:zdX m q rows a b []=false:=by
  have hp:∀d,zvH [] d=[]:=λd=>List.length_eq_zero_iff.1<|by rw[zdT];rfl
  cases hh:zdX m q rows a b []with|false=>rfl|true=>
   exfalso;simp only[zdX,yc,zyM,yo]at hh;obtain⟨⟨⟨p1,p2⟩,-⟩,-,hb⟩:=hh;obtain⟨q1,q2,q3,q4,q5⟩:=zed h.quest;unfold zhK at hb;simp only[hp]at hb;split at hb<;>rename_i ht
   ·obtain⟨r,hr⟩:=zaD q3<|q4 ht a h.ha;grind[zam]
   ·obtain⟨c,hc⟩:=zaD q3 (q5<|by grind).2;grind[zam]
 by_cases hv:∃r∈S.rows,zxg r=U;·exact hv
 exfalso;have hrow:∀r∈S.rows,rowH [] r=true:=λr hr'=>by
  have ht:r.zvr=[]:=by cases hterms:r.zvr with
   |nil=>rfl|cons t l=>
    have:=(hr r hr').cells t<|by rw[hterms];simp
    omega
  have:¬zxg r=true:=λe=>hv ⟨r,hr',e⟩;simp only[zxg,ht,ta,yz,yf]at this;simp only[rowH,ht,yf];show(0:Int)<=r.bound;omega
 have hnog:∀g∈S.zvv,False:=λg hgm=>by
  obtain⟨K,hK⟩:=hg.gr g hgm;have h1:=hK.fst;have h2:=hK.pos;have h3:1*1<=K*K:=y8 h2 h2;omega
 have hcs:S.cases.isEmpty=true:=by
  generalize S.cases=cs at hT;cases hT with
  |hold r h1 h2=>rfl|row c h1 h2 hk=>rfl|none c k h1 h2 hk hz he=>rfl|graph c k h1 h2 hk hz he=>
   obtain⟨size,z1,z2,z3,z4,z5⟩:=(hsc.zyX<|zam h2).sz hk;have h3:1*1<=size*size:=y8 z2 z2;omega
 rw[hshow,<-hrows,<-h.zvv]at hmeans;grind
def zy5 (d:Nat)(y:NR):zv5:=if y.k=2 then⟨2,[],zws,(d:Int)⟩else if y.k=0 then⟨0,y.v,zws,(y.c:Int)⟩else⟨1,[],y.t,(y.c:Int)⟩
def zwj (S:System)(d:Nat):NR:=zww S.zvv S.cases (d+1) U S.rows S.box d
theorem zqc {n m q rows a b S}{d:Nat}(h:SysD n m q rows a b S)(hn:4294967296<=n)(hS:zvS m)(hd:d<=65536)(hc:zf n m q rows=O (S,0)):zbn n m q (d:Int) rows=O (zy5 d<|zwj S d,0):=by
 obtain⟨hg,hr,hrl⟩:=h.g;have hpi:=h.pi;have hbl:S.box.length=(boxM m).length:=hpi.len;have hlen:=h.len;obtain⟨w,e,hw⟩:=zfG hg (d+1) n d ⟨S,S.rows,(d:Int),0⟩ S.box (-1) (by omega) (by omega) rfl (by grind) (by grind) (by grind) hr (by grind) (λ_=>rfl) (λh0=>h.void hn hS h0) hpi;rw[show Z ((-1:Int)<0)=U from rfl]at hw;have hsh:=zhS (G:=S.zvv) (cs:=S.cases) (f:=d+1) (root:=U) (R:=S.rows) (b:=S.box) (d:=d);have hrange:(Z ((d:Int)<0)||decide (65536<(d:Int)))=false:=by grind
 have hfind:zgk n S (d:Int)=O (if(zwj S d).k=2 then⟨2,0,[],zws,(d:Int)⟩else if(zwj S d).k=0 then⟨0,(w.getD J).1.index,(zwj S d).v,zws,((zwj S d).c:Int)⟩else⟨1,0,[],(zwj S d).t,((zwj S d).c:Int)⟩,0):=by
  unfold zgk;rw[(h.valid1<|by omega).1,ya,if_neg<|by simp,hrange,if_neg<|by simp,zk<|by grind,ya,yR,e,ya];change OutW _ _ _ _ (zwj S d) w at hw;change((zwj S d).k=0->(zwj S d).t=zws)/\((zwj S d).k≠0->(zwj S d).v=[])at hsh;generalize zwj S d=xe at*;rcases hw with⟨h2,rfl⟩|⟨h2,hsol,ix,rows',rfl,-⟩;·rw[if_pos h2];rfl
  ·rw[if_neg h2];simp only[ppk];by_cases h0:xe.k=0;·obtain⟨hv1,hv2⟩:=hsol h0;rw[if_pos h0];rw[if_pos<|by cases hv:xe.v with|nil=>exact absurd hv hv2|cons x l=>rfl];simp[zws]
   grind
 unfold zbn;rw[hc,ya];simp only[show((0:Int)==1)=M from rfl,show((0:Int)==2)=M from rfl,show((0:Int)!=0)=M from rfl,hrange,Bool.or_self,ye,if_false,hfind,ya];unfold zy5;generalize zwj S d=xe;by_cases h2:xe.k=2;·simp only[if_pos h2];rfl
 ·by_cases h0:xe.k=0
  ·simp only[if_neg h2,if_pos h0];rfl
  ·simp only[if_neg h2,if_neg h0];rfl
theorem zkc {bud kind index cell r st b}:st.length<=(zwF bud kind index cell r st b).st.length:=by
 unfold zwF;grind
theorem zou {p:PR}{f}(hf:∀st b,st.length<=(f st b).st.length):p.st.length<=(p.bind f).st.length:=by
 unfold PR.bind;grind
theorem zoX {bud i row}:∀{l}{p},p.st.length<=(rowT bud i row l p).st.length|[],_=>ym _|t::l,p=>by exact yG (zou λ_ _=>zkc)<|zoX (l:=l)
theorem zlZ {bud i row p}:p.st.length<=(zdl bud i row p).st.length:=zou λst b=>by
 split;·grind
 ·exact zoX (p:=⟨0,st,b⟩)
theorem zj9 {bud}:∀{i}{l}{p},p.st.length<=(zwX bud i l p).st.length|_,[],_=>ym _|i,r::l,p=>by exact yG zlZ<|zj9 (l:=l)
theorem zpn {bud i g}:∀{d k}{p},p.st.length<=(grT bud i g d k p).st.length|0,_,_=>ym _|d+1,k,p=>by exact yG (zou λ_ _=>zkc)<|zpn (d:=d)
theorem zhc {bud}:∀{i}{l}{p},p.st.length<=(zcj bud i l p).st.length|_,[],_=>ym _|i,g::l,p=>by exact yG zpn<|zhc (l:=l)
theorem zoo {n m q rows e}{zvQ}(hc:zf n m q rows=O (⟨[],[],[],[]⟩,e))(he:e=1\/e=2\/e=8)(hb:0<=zvQ/\zvQ<=65536):zbn n m q zvQ rows=O (if e=8 then(⟨2,[],zws,0⟩,0)else(⟨0,[],zws,0⟩,e)):=by
 have a:(Z (zvQ<0)||decide (65536<zvQ))=false:=by grind
 unfold zbn;rw[hc,ya];rcases he with rfl|rfl|rfl;·rfl
 ·rfl
 ·simp only[a];rfl
def valC (x:List Int)(c:Int):Int:=x.getD c.toNat 0
structure InB (b:List Range)(x:List Int):Prop where
 len:x.length=b.length
 mem:∀c:Int,0<=c->c<(b.length:Int)->(rgP b c).lo<=valC x c/\valC x c<=(rgP b c).hi
def zy3 (x:List Int)(c:Int):List Term->Int|[]=>0|t::l=>(if t.cell=c then 0 else t.zvy*valC x t.cell)+zy3 x c l
theorem zu5 {f a b:Int}(h0:f<=0)(h:a<=b):f*b<=f*a:=Int.mul_le_mul_of_nonpos_left h0 h
theorem zrU {b}{x}(hx:InB b x)(c):∀{l},(∀t∈l,0<=t.cell/\t.cell<(b.length:Int))->zxa b c l<=zy3 x c l
 |[],_=>wT _|t::l,h=>by
  have f:=zrU hx c (l:=l) λy g=>h y<|by grind
  have a:=h t<|by simp
  have d:=hx.mem t.cell a.1 a.2;simp only[zxa,zy3];by_cases e:t.cell=c;·simp_all
  ·have:endP b t<=t.zvy*valC x t.cell:=by
    unfold endP;split;·simp_all
    ·exact zu5 (by omega) d.2
   omega
theorem zrT {b}{x}(hx:InB b x)(hs:∀r∈b,r.lo=r.hi)(c):∀{l},(∀t∈l,0<=t.cell/\t.cell<(b.length:Int))->zxa b c l=zy3 x c l
 |[],_=>rfl|t::l,h=>by
  have f:=zrT hx hs c (l:=l) λy e=>h y<|by grind
  have a:=h t<|by simp
  have g:=hx.mem t.cell a.1 a.2;simp only[zxa,zy3];by_cases d:t.cell=c;·simp_all
  ·grind[rgP,endP]
theorem zm3 {x}{c}:∀{l},(l.map (·.cell)).Nodup->sumP x l=zy3 x c l+facP c l 0*valC x c
 |[],_=>by simp[sumP,zy3,facP]|t::l,h=>by
  simp only[yU,List.nodup_cons]at h;have d:=zm3 (x:=x) (c:=c) h.2;simp only[sumP,zy3,facP];by_cases b:t.cell=c
  ·have a:∀y∈l,y.cell≠c:=λy f e=>h.1<|by simp_all
   rw[if_pos b,if_pos b,zgF a,d,zgF a];grind[valC]
  ·grind[valC]
theorem zsp {o}{R f v}(h1:o.lo<=v)(h2:v<=o.hi)(h:f*v<=R):(zhE o R f).lo<=v/\v<=(zhE o R f).hi:=by
 unfold zhE;split;·simp_all
 ·have c:(if f<0 then max o.lo<|-(R/ -f)else o.lo)<=v:=by
   split<;>rename_i a
   ·have:-v<=R/ -f:=(vb<|by omega).2<|by grind
    omega
   simp_all
  have b:v<=if 0<f then min o.hi<|R/f else o.hi:=by
   split<;>rename_i a
   ·have:v<=R/f:=(vb a).2<|by grind
    omega
   simp_all
  grind
theorem zqJ {o}{R f v}(h1:o.lo=v)(h2:o.hi=v)(hf0:f≠0)(h:zhE o R f=o):f*v<=R:=by
 unfold zhE at h;rw[if_neg hf0]at h;by_cases a:(if 0<f then min o.hi<|R/f else o.hi)<if f<0 then max o.lo<|-(R/ -f)else o.lo;·grind
 ·rw[if_neg a]at h;have c:=congrArg Range.lo h;have d:=congrArg Range.hi h;by_cases b:0<f;·grind[vb]
  ·have:-v<=R/ -f:=by omega
   grind[vb]
theorem RwOK.nd {L r}(h:RwOK L r):(r.zvr.map (·.cell)).Nodup:=by
 have:=h.fits;simp only[zym,yc]at this;exact(zd7 (by omega) this.1).2
theorem RwOK.nz {L r}(h:RwOK L r):∀t∈r.zvr,t.zvy≠0:=λt a=>by
 have:=h.fits;simp only[zym,yc]at this;exact((zd7 (by omega) this.1).1 t a).2.2.2.1
theorem zsq {r}{b}{x}{c}(hr:RwOK b.length r)(hx:InB b x)(h:rowH x r=U)(h0:0<=c)(h1:c<(b.length:Int)):(zcq r b c).lo<=valC x c/\valC x c<=(zcq r b c).hi:=by
 have a:=hx.mem c h0 h1;refine zsp a.1 a.2 ?_;have e:=zm3 (x:=x) (c:=c) hr.nd;have d:=zrU hx c (l:=r.zvr) hr.cells;simp only[rowH,yf]at h;omega
theorem zup {r}{b}{x}(hr:RwOK b.length r)(hx:InB b x)(hs:∀r∈b,r.lo=r.hi)(hv:¬zxg r=U)(hf:∀t∈r.zvr,zcq r b t.cell=rgP b t.cell):rowH x r=true:=by
 simp only[rowH,yf];cases i:r.zvr with
 |nil=>
  simp only[zxg,i,ta,yz,yf]at hv;show 0<=r.bound;omega|cons t l=>
  have a:t∈r.zvr:=by simp_all
  have e:=hr.cells t a;have k:=hx.mem t.cell e.1 e.2;have j:=hs _<|ziF e.1 e.2;have d:=zmo (f:=0) hr.nd a rfl;have h:=zm3 (x:=x) (c:=t.cell) hr.nd;have g:=zrT hx hs t.cell (l:=r.zvr) hr.cells;have:=zqJ (v:=valC x t.cell) (by omega) (by omega) (by rw[d];exact hr.nz t a)<|hf t a;grind
theorem zie {g}{K}{L}(hg:GrOK L g K){x}{a b}:zzb x g a b=Z (lstG g (a*K+b)<=valC x (g.first+((a*K+b:Nat):Int))):=by
 unfold zzb lstG valC;rw[hg.size,yr]
theorem Rch.cases {E}{K a v}(h:Rch E K a v):v=a\/∃u,Rch E K a u/\v<K/\E u v=true:=by refine(h (λv=>Rch E K a v/\(v=a\/∃u,Rch E K a u/\v<K/\E u v=U)) ⟨Rch.refl,.inl rfl⟩ λb c e f d=>⟨e.1.step f d,.inr ⟨b,e.1,f,d⟩⟩).2
theorem Rch.lt {E}{K a v}(ha:a<K)(h:Rch E K a v):v<K:=h (λv=>v<K) ha λ_ _ _ b _=>b
theorem Rch.mono {E F}{K a v}(ha:a<K)(hEF:∀u w,u<K->w<K->E u w=U->F u w=U)(h:Rch E K a v):Rch F K a v:=(h (λv=>v<K/\Rch F K a v) ⟨ha,Rch.refl⟩ λb c e d f=>⟨d,e.2.step d<|hEF b c e.1 d f⟩).2
theorem zun {E}{K a b}(hb:b<K)(h:Rch E K b a)(he:E a b=U):zxz E K=false:=by
 have f:=h.lt hb;obtain⟨x,g⟩:=zlF (E:=E) (K:=K) (S:=λv=>Rch E K b v) (λv i c=>by
  rcases c.cases with rfl|⟨u,d,_,e⟩;·grind
  ·exact⟨u,d.lt hb,d,e⟩) hb Rch.refl;grind[zeZ]
theorem ztR {E}{K}(h:zxz E K=M):∃a b,a<K/\b<K/\Rch E K b a/\E a b=true:=by
 have:∃x,x∈cycP E K:=by grind[zeZ]
 obtain⟨l,f⟩:=this;have j:=zfN f;have k:=zku f;have g:=j.pos;have d:∀i,i<l.length->vtx l i<K:=λi c=>by
  have:=j.mem (l[i])<|yh c;grind[vtx]
 have m:∀i,i<l.length->Rch E K (vtx l 0) (vtx l i):=by
  intro i;induction i with
  |zero=>grind[Rch.refl]|succ i ih=>
   intro c;have:=k i<|by omega
   rw[xU c]at this;exact(ih<|by omega).step (d _ c) this
 have e:=k (l.length-1)<|by omega
 grind[tw]
theorem znL {L K}{g}{b}(hg:GrOK L g K){u w}(hu:u<K)(hw:w<K):hasP ⟨g.size,zxY g b⟩ u w=Z (lstG g (u*K+w)<=(rgP b<|g.first+((u*K+w:Nat):Int)).lo):=by
 have a:=zeb hu hw;unfold hasP zxY;simp only[hg.size,yr,yL,y7,tl<|show u*K+w<g.least.length by rw[hg.len];grind,yV,yi]
theorem zsO {K a b:Nat}(hb:b<K):(a*K+b)/K=a/\(a*K+b)%K=b:=by
 have c:0<K:=by omega
 constructor;·rw[Nat.add_comm,Nat.add_mul_div_right _ _ c,Nat.div_eq_of_lt hb,uh]
 grind[Nat.add_mul_mod_self_right,xU]
theorem ztP {K}{g}{b}{x}{k}(hg:GrOK b.length g K)(hx:InB b x)(hL:b.length<=1000)(h:zcc x g=U)(hk:k<K*K):(cutP g b k).lo<=valC x (g.first+(k:Int))/\valC x (g.first+(k:Int))<=(cutP g b k).hi:=by
 have m:=hg.cell (show b.length<=1000000 by omega) hk;have q:=hx.mem _ m.2.1 m.2.2;unfold cutP;split<;>rename_i a
 ·simp only[yc]at a;refine⟨q.1,?_⟩;show valC x (g.first+k)<=lstG g k-1;refine xF λr=>?_;have o:=hg.pos;have c:k%K<K:=wE _ o;have d:=a.2;unfold ze0 at d;rw[hg.size,yr]at d;have p:Rch (hasP ⟨K,zxY g b⟩) K (k%K)<|k/K:=(zkV c).1<|by simp_all
  have j:Rch (zzb x g) K (k%K)<|k/K:=p.mono c λu w l n i=>by
   rw[<-hg.size,znL hg l n,yf]at i;rw[zie hg,yf];have e:=hg.cell (show b.length<=1000000 by omega)<|zeb l n;have:=(hx.mem _ e.2.1 e.2.2).1;omega
  have f:k/K*K+k%K=k:=by grind[Nat.div_add_mod]
  have i:zzb x g (k/K) (k%K)=true:=by rw[zie hg,f,yf];omega
  have:=zun c j i;unfold zcc at h;rw[hg.size,yr,this]at h;cases h
 simp_all
theorem zrj {K}{g}{b}{x}(hg:GrOK b.length g K)(hx:InB b x)(hL:b.length<=1000)(hs:∀r∈b,r.lo=r.hi)(hf:∀k,k<K*K->cutP g b k=rgP b (g.first+(k:Int))):zcc x g=true:=by
 refine xF λf=>?_;rw[yP]at f;unfold zcc at f;rw[hg.size,yr]at f;obtain⟨a,c,q,i,o,h⟩:=ztR f;have l:∀k,k<K*K->(rgP b<|g.first+k).lo=valC x (g.first+k)/\(rgP b<|g.first+k).hi=valC x (g.first+k):=λk m=>by
  have e:=hg.cell (show b.length<=1000000 by omega) m;have j:=hx.mem _ e.2.1 e.2.2;grind[ziF]
 have p:=zeb q i;have d:=zsO (a:=a) i;have s:Rch (hasP ⟨K,zxY g b⟩) K c a:=o.mono i λu w t v h=>by
  rw[zie hg,yf]at h;rw[<-hg.size,znL hg t v,yf];grind[zeb]
 rw[zie hg,yf]at h;have n:ze0 g b (a*K+c)=true:=by
  unfold ze0;rw[hg.size,yr,d.1,d.2];grind[zkV]
 have j:=hf _ p;unfold cutP at j;grind
theorem zoV {b}{c d}{r}(hc0:0<=c)(hc:c<(b.length:Int))(hd0:0<=d):rgP (zwz b c r) d=if d=c then r else rgP b d:=by grind[zwz,rgP]
theorem InB.with_ {b}{x}{c}{r}(h:InB b x)(h0:0<=c)(h1:c<(b.length:Int))(hr:r.lo<=valC x c/\valC x c<=r.hi):InB (zwz b c r) x:=by
 refine⟨by rw[zcA];exact h.len,λd f a=>?_⟩;rw[zcA]at a;rw[zoV h0 h1 f];split<;>rename_i e;·grind
 ·exact h.mem d f a
def zxF (L:Nat)(x:List Int)(p:PR):Prop:=(p.k=0->InB p.b x/\p.b.length=L)/\(p.k=0\/p.k=2)
theorem zxF.bind {L x p f}(h:zxF L x p)(hf:∀st b,InB b x->b.length=L->zxF L x (f st b)):zxF L x<|p.bind f:=by
 unfold PR.bind;split<;>rename_i a;·exact hf _ _ (h.1 a).1 (h.1 a).2
 grind
theorem zl4 {L bud kind index cell r st b x}(hx:InB b x)(hl:b.length=L)(h0:0<=cell)(h1:cell<(L:Int))(hr:r.lo<=valC x cell/\valC x cell<=r.hi):zxF L x<|zwF bud kind index cell r st b:=by
 unfold zwF;split;·exact⟨λ_=>⟨hx,hl⟩,.inl rfl⟩
 ·split;·exact⟨λh=>absurd h<|by simp,.inr rfl⟩
  ·rw[if_neg<|by omega];exact⟨λ_=>⟨hx.with_ h0 (by omega) hr,by grind[zcA]⟩,.inl rfl⟩
theorem zn5 {L bud i}{row}{x}(hr:RwOK L row)(hrow:rowH x row=U):∀{l}{p},(∀t∈l,0<=t.cell/\t.cell<(L:Int))->zxF L x p->zxF L x (rowT bud i row l p)
 |[],_,_,h=>h|t::l,p,a,h=>by
  refine zn5 hr hrow (l:=l) (λy d=>a y<|by grind)<|h.bind λe b f c=>?_;grind[zl4,zsq]
theorem zvl {x}{row}(h:rowH x row=U):¬zxg row=true:=λe=>by
 simp only[zxg,yc,List.isEmpty_iff,yf]at e;simp only[rowH,e.1,yf,sumP]at h;omega
theorem zl0 {L bud}{x}:∀{i}{l}{p},(∀r∈l,RwOK L r/\rowH x r=U)->zxF L x p->zxF L x (zwX bud i l p)
 |_,[],_,_,h=>h|i,r::l,p,c,h=>by
  have a:=c r<|by simp
  refine zl0 (l:=l) (λy f=>c y<|by grind) ?_;refine h.bind λg b e d=>?_;rw[if_neg<|zvl a.2];exact zn5 a.1 a.2 a.1.cells ⟨λ_=>⟨e,d⟩,.inl rfl⟩
theorem zpo {L bud i K}{g}{x}(hg:GrOK L g K)(hL:L<=1000)(hgr:zcc x g=U):∀{d k}{p},k+d<=K*K->zxF L x p->zxF L x (grT bud i g d k p)
 |0,_,_,_,h=>h|d+1,k,p,c,h=>by
  refine zpo hg hL hgr (d:=d) (k:=k+1) (by omega)<|h.bind λe b f j=>?_;have a:=hg.cell (show L<=1000000 by omega) (k:=k)<|by omega
  grind[zl4,ztP]
theorem zjE {L bud}{x}(hL:L<=1000):∀{i}{l}{p},(∀g∈l,(∃K,GrOK L g K)/\zcc x g=U)->zxF L x p->zxF L x (zcj bud i l p)
 |_,[],_,_,h=>h|i,g::l,p,b,h=>by
  obtain⟨⟨K,a⟩,c⟩:=b g<|by simp
  exact zjE (l:=l) hL (λy d=>b y<|by grind)<|zpo a hL c (by rw[a.len];omega) h
theorem zqz {L bud R G st b x}(hL:L<=1000)(hR:∀r∈R,RwOK L r/\rowH x r=U)(hG:∀g∈G,(∃K,GrOK L g K)/\zcc x g=U)(hx:InB b x)(hl:b.length=L):zxF L x<|zwK bud R G st b:=zjE hL hG<|zl0 hR ⟨λ_=>⟨hx,hl⟩,.inl rfl⟩
theorem zn7 {L bud R G x}(hL:L<=1000)(hR:∀r∈R,RwOK L r/\rowH x r=U)(hG:∀g∈G,(∃K,GrOK L g K)/\zcc x g=U):∀{f}{st b},InB b x->b.length=L->zxF L x (runU bud R G f st b)
 |0,_,_,c,a=>⟨λ_=>⟨c,a⟩,.inl rfl⟩|f+1,st,b,c,a=>by
  have e:=zqz (bud:=bud) (st:=st) hL hR hG c a;unfold runU;split<;>rename_i d;·exact zn7 hL hR hG (e.1 d.1).1 (e.1 d.1).2
  grind
theorem zl5 {bud kind index cell r st b}(hk:(zwF bud kind index cell r st b).k=0)(hl:(zwF bud kind index cell r st b).st.length=st.length):r=rgP b cell/\zwF bud kind index cell r st b=⟨0,st,b⟩:=by grind[zqF,zo0,zqG,zta]
theorem zAh {F:PR->PR}(hs:∀p,p.k≠0->F p=p){p}(h:(F p).k=0):p.k=0:=xF λe=>e<|by grind
theorem zn6 {bud i row st b}:∀{l},(rowT bud i row l ⟨0,st,b⟩).k=0->(rowT bud i row l ⟨0,st,b⟩).st.length=st.length->(∀t∈l,zcq row b t.cell=rgP b t.cell)/\rowT bud i row l ⟨0,st,b⟩=⟨0,st,b⟩
 |[],_,_=>⟨by simp,rfl⟩|t::l,a,c=>by
  unfold rowT at a c|-;rw[PR.zxH]at a c|-;have d:=zAh (F:=rowT bud i row l) (λp h=>ziH h) a;have m:=zoX (bud:=bud) (i:=i) (row:=row) (l:=l) (p:=zwF bud 0 i t.cell (zcq row b t.cell) st b);have g:=zkc (bud:=bud) (kind:=0) (index:=i) (cell:=t.cell) (r:=zcq row b t.cell) (st:=st) (b:=b);obtain⟨j,e⟩:=zl5 d<|by omega
  rw[e]at a c|-;obtain⟨n,f⟩:=zn6 (l:=l) a c;grind
theorem zn4 {bud i row st b}(hk:(zdl bud i row ⟨0,st,b⟩).k=0)(hl:(zdl bud i row ⟨0,st,b⟩).st.length=st.length):(¬zxg row=U/\∀t∈row.zvr,zcq row b t.cell=rgP b t.cell)/\zdl bud i row ⟨0,st,b⟩=⟨0,st,b⟩:=by
 unfold zdl at hk hl|-;rw[PR.zxH]at hk hl|-;by_cases a:zxg row=U;·grind
 grind[zn6]
theorem zl2 {bud st b}:∀{i}{l},(zwX bud i l ⟨0,st,b⟩).k=0->(zwX bud i l ⟨0,st,b⟩).st.length=st.length->(∀r∈l,¬zxg r=U/\∀t∈r.zvr,zcq r b t.cell=rgP b t.cell)/\zwX bud i l ⟨0,st,b⟩=⟨0,st,b⟩
 |_,[],_,_=>⟨by simp,rfl⟩|i,r::l,a,c=>by
  unfold zwX at a c|-;have d:=zAh (F:=zwX bud (i+1) l) (λp h=>zeX h) a;have m:=zj9 (bud:=bud) (i:=i+1) (l:=l) (p:=zdl bud i r ⟨0,st,b⟩);have g:=zlZ (bud:=bud) (i:=i) (row:=r) (p:=⟨0,st,b⟩);obtain⟨j,e⟩:=zn4 d<|by grind
  rw[e]at a c|-;obtain⟨n,f⟩:=zl2 (l:=l) a c;grind
theorem zpp {bud i g st b}:∀{d k},(grT bud i g d k ⟨0,st,b⟩).k=0->(grT bud i g d k ⟨0,st,b⟩).st.length=st.length->(∀j,k<=j->j<k+d->cutP g b j=rgP b (g.first+(j:Int)))/\grT bud i g d k ⟨0,st,b⟩=⟨0,st,b⟩
 |0,_,_,_=>⟨λj f l=>by omega,rfl⟩|d+1,k,a,c=>by
  unfold grT at a c|-;rw[PR.zxH]at a c|-;have e:=zAh (F:=grT bud i g d<|k+1) (λp h=>zii h) a;have f:=zpn (bud:=bud) (i:=i) (g:=g) (d:=d) (k:=k+1) (p:=zwF bud 1 i (g.first+k) (cutP g b k) st b);have l:=zkc (bud:=bud) (kind:=1) (index:=i) (cell:=g.first+k) (r:=cutP g b k) (st:=st) (b:=b);obtain⟨n,m⟩:=zl5 e<|by omega
  rw[m]at a c|-;obtain⟨q,o⟩:=zpp (d:=d) a c;grind
theorem zjF {bud st b}:∀{i}{l},(zcj bud i l ⟨0,st,b⟩).k=0->(zcj bud i l ⟨0,st,b⟩).st.length=st.length->(∀g∈l,∀j,j<g.least.length->cutP g b j=rgP b (g.first+(j:Int)))/\zcj bud i l ⟨0,st,b⟩=⟨0,st,b⟩
 |_,[],_,_=>⟨by simp,rfl⟩|i,g::l,a,c=>by
  unfold zcj at a c|-;have e:=zAh (F:=zcj bud (i+1) l) (λp h=>zdE h) a;have q:=zhc (bud:=bud) (i:=i+1) (l:=l) (p:=grT bud i g g.least.length 0 ⟨0,st,b⟩);have n:=zpn (bud:=bud) (i:=i) (g:=g) (d:=g.least.length) (k:=0) (p:=⟨0,st,b⟩);obtain⟨o,f⟩:=zpp e<|by grind
  rw[f]at a c|-;obtain⟨r,m⟩:=zjF (l:=l) a c;grind
structure RestB (R:List Row)(G:List zvP)(b:List Range):Prop where
 rows:∀r∈R,¬zxg r=U/\∀t∈r.zvr,zcq r b t.cell=rgP b t.cell
 zvv:∀g∈G,∀j,j<g.least.length->cutP g b j=rgP b (g.first+(j:Int))
theorem zqA {bud R G st b}(hk:(zwK bud R G st b).k=0)(hl:(zwK bud R G st b).st.length=st.length):RestB R G b/\(zwK bud R G st b).b=b:=by
 unfold zwK at hk hl|-;have c:=zAh (F:=zcj bud 0 G) (λp h=>zdE h) hk;have g:=zhc (bud:=bud) (i:=0) (l:=G) (p:=zwX bud 0 R ⟨0,st,b⟩);have j:=zj9 (bud:=bud) (i:=0) (l:=R) (p:=⟨0,st,b⟩);obtain⟨d,f⟩:=zl2 c<|by grind
 rw[f]at hk hl|-;obtain⟨e,a⟩:=zjF hk hl;exact⟨⟨d,e⟩,by rw[a]⟩
theorem zn8 {bud R G}:∀{f}{st b},st.length<=bud->bud<f+st.length->(runU bud R G f st b).k=0->RestB R G (runU bud R G f st b).b
 |0,st,b,d,g,_=>by omega|f+1,st,b,d,g,a=>by
  have c:(zwK bud R G st b).st.length<=bud:=zjb<|zm1 d;have h:st.length<=(zwK bud R G st b).st.length:=yG (zj9 (bud:=bud) (i:=0) (l:=R) (p:=⟨0,st,b⟩)) zhc;unfold runU at a|-;by_cases e:(zwK bud R G st b).k=0/\st.length<(zwK bud R G st b).st.length
  ·rw[if_pos e]at a|-;exact zn8 c (by omega) a
  ·rw[if_neg e]at a|-;obtain⟨m,j⟩:=zqA a<|by omega
   grind
def PJ (xf:List Range->Prop)(p:PR):Prop:=p.k=0->xf p.b
theorem PJ.bind {xf p f}(h:PJ xf p)(hf:∀st b,xf b->PJ xf (f st b)):PJ xf<|p.bind f:=by
 unfold PR.bind;split<;>rename_i a;·exact hf _ _<|h a
 grind
theorem zsb {xf}{bud kind index cell r st b}(h:xf b)(hw:¬r.hi<r.lo->xf (zwz b cell r)):PJ xf<|zwF bud kind index cell r st b:=by
 unfold zwF;split;·exactλ_=>h
 ·split;·exactλa=>absurd a<|by simp
  ·split<;>rename_i c;·exactλa=>absurd a<|by simp
   ·exactλ_=>hw c
theorem ztD {xf}{bud i}{row}:∀{l}{p},(∀t∈l,∀b,xf b->¬(zcq row b t.cell).hi<(zcq row b t.cell).lo->xf (zwz b t.cell<|zcq row b t.cell))->PJ xf p->PJ xf (rowT bud i row l p)|[],_,_,h=>h|t::l,p,c,h=>by exact ztD (l:=l) (λy d=>c y<|by grind)<|h.bind λe b a=>zsb a<|c t (by simp) b a
theorem zr2 {xf}{bud}:∀{i}{l}{p},(∀r∈l,∀t∈r.zvr,∀b,xf b->¬(zcq r b t.cell).hi<(zcq r b t.cell).lo->xf (zwz b t.cell<|zcq r b t.cell))->PJ xf p->PJ xf (zwX bud i l p)
 |_,[],_,_,h=>h|i,r::l,p,a,h=>by
  refine zr2 (l:=l) (λy e=>a y<|by grind)<|h.bind λf b d=>?_;split;·split<;>exactλc=>absurd c<|by simp
  ·exact ztD (a r<|by simp) λ_=>d
theorem grT_J {xf}{bud i}{g}:∀{d k}{p},(∀j,k<=j->j<k+d->∀b,xf b->¬(cutP g b j).hi<(cutP g b j).lo->xf (zwz b (g.first+(j:Int))<|cutP g b j))->PJ xf p->PJ xf (grT bud i g d k p)|0,_,_,_,h=>h|d+1,k,p,c,h=>by exact grT_J (d:=d) (k:=k+1) (λj e f=>c j (by omega)<|by omega)<|h.bind λl b a=>zsb a<|c k (ym _) (by omega) b a
theorem zny {xf}{bud}:∀{i}{l}{p},(∀g∈l,∀j,j<g.least.length->∀b,xf b->¬(cutP g b j).hi<(cutP g b j).lo->xf (zwz b (g.first+(j:Int))<|cutP g b j))->PJ xf p->PJ xf (zcj bud i l p)|_,[],_,_,h=>h|i,g::l,p,a,h=>by exact zny (l:=l) (λy d=>a y<|by grind)<|grT_J (λj _ c=>a g (by simp) j<|by omega) h
theorem ztE {xf}{bud R G}(hR:∀r∈R,∀t∈r.zvr,∀b,xf b->¬(zcq r b t.cell).hi<(zcq r b t.cell).lo->xf (zwz b t.cell<|zcq r b t.cell))(hG:∀g∈G,∀j,j<g.least.length->∀b,xf b->¬(cutP g b j).hi<(cutP g b j).lo->xf (zwz b (g.first+(j:Int))<|cutP g b j)):∀{f}{st b},xf b->PJ xf (runU bud R G f st b)
 |0,_,_,h=>λ_=>h|f+1,st,b,h=>by
  have c:PJ xf<|zwK bud R G st b:=zny hG<|zr2 hR λ_=>h;unfold runU;split<;>rename_i a;·exact ztE hR hG<|c a.1
  grind
theorem InB.zAb {b}{x}{c}{r}(h:InB (zwz b c r) x)(h0:0<=c)(h1:c<(b.length:Int))(hr:(rgP b c).lo<=r.lo/\r.hi<=(rgP b c).hi):InB b x:=by
 refine⟨by have:=h.len;grind[zcA],λd a e=>?_⟩;have f:=h.mem d a<|by grind[zcA]
 grind[zoV]
theorem zs7 {L bud R G f st b}(hL:L<=1000)(hR:∀r∈R,RwOK L r)(hG:∀g∈G,∃K,GrOK L g K)(hb:b.length=L)(hk:(runU bud R G f st b).k=0):∀x,InB (runU bud R G f st b).b x->InB b x:=by
 refine(ztE (xf:=λc=>c.length=L/\∀x,InB c x->InB b x) (λr m t l c⟨o,a⟩d=>⟨by grind[zcA],λx h=>a x ?_⟩) (λg n j p c⟨o,a⟩d=>⟨by grind[zcA],λx h=>a x ?_⟩) ⟨hb,λx h=>h⟩ hk).2;·have e:=(hR r m).cells t l;exact h.zAb e.1 (by omega)<|zjo<|by omega
 ·obtain⟨K,i⟩:=hG g n;have e:=i.cell (show L<=1000000 by omega) (k:=j)<|by rw[<-i.len];grind
  exact h.zAb e.2.1 (by omega)<|zml<|by omega
structure SolN (G:List zvP)(cs:List<|List Row)(root:Bool)(R:List Row)(b:List Range)(x:List Int):Prop where
 box:InB b x
 rows:∀r∈R,rowH x r=U
 zvv:∀g∈G,zcc x g=U
 case_:root=U->cs≠[]->∃l∈cs,∀r∈l,rowH x r=U
theorem zmE {α}{self}{tr ix d}:∀{i}{l:List α}{kids}{c},(zwJ self tr ix d i l kids c).k=0->∃x∈l,∃e,(self x e).k=0/\(zwJ self tr ix d i l kids c).v=(self x e).v
 |_,[],_,_,h=>absurd h<|by simp[zwJ]|i,x::l,kids,c,h=>by
  unfold zwJ at h|-;split at h<;>rename_i b;·grind[zgu]
  ·split at h<;>rename_i f;·grind
   ·obtain⟨y,g,e,j,a⟩:=zmE (l:=l) h;grind
theorem zmF {α}{self}{tr ix d}:∀{i}{l:List α}{kids}{c},(zwJ self tr ix d i l kids c).k≠0->(zwJ self tr ix d i l kids c).k≠2->∀x∈l,∃e,(self x e).k≠0/\(self x e).k≠2
 |_,[],_,_,_,_=>by simp|i,x::l,kids,c,b,a=>by
  unfold zwJ at b a;split at a<;>rename_i g;·exact absurd rfl a
  ·rw[if_neg g]at b;split at a<;>rename_i h;·grind
   ·rw[if_neg h]at b;intro y f;rcases yE.1 f with rfl|f;·grind
    ·exact zmF (l:=l) b a y f
theorem zt7 {b}(hne:∀r∈b,r.lo<=r.hi):InB b<|b.map (·.lo):=by
 refine⟨by simp,λc d a=>?_⟩;have e:valC (b.map (·.lo)) c=(rgP b c).lo:=by grind[valC,rgP]
 rw[e];exact⟨wT _,hne _<|ziF d a⟩
theorem zql {b}(hne:∀r∈b,r.lo<=r.hi)(h:zv4 b<0):∀r∈b,r.lo=r.hi:=by
 have c:∀(l:List Range)(k:Nat),ixA zyy l k<0->∀r∈l,¬r.lo<r.hi:=by
  intro l;induction l with
  |nil=>grind|cons x l ih=>
   intro k d r a;unfold ixA at d;by_cases e:zyy x=U;·grind
   ·rcases yE.1 a with rfl|a;·grind[zyy]
    grind
 intro r a;have:=c b 0 h r a;grind
theorem zt3 {r}{v}(h1:r.lo<=v)(h2:v<=r.hi):∃x∈zwS r,x.lo<=v/\v<=x.hi:=by
 by_cases h:v<=midP r;·exact⟨⟨r.lo,midP r⟩,by simp[zwS],h1,h⟩
 ·exact⟨⟨midP r+1,r.hi⟩,by simp[zwS],by grind,h2⟩
theorem zhT {L G cs}(hG:SysG L G cs):∀{f}{root R b d},(∀r∈R,RwOK L r)->PI 0 L 0 [] b->(zww G cs f root R b d).k≠0->(zww G cs f root R b d).k≠2->∀x,¬SolN G cs root R b x
 |0,_,_,_,_,_,_,_,h=>absurd rfl h|f+1,root,R,b,d,q,B,j,c=>by
  intro x m;have xf:=hG.le;unfold zww at j c;split at c<;>rename_i u;·exact absurd rfl c
  ·rw[if_neg u]at j;dsimp only at j c;have s:=zka (bud:=d-1) (f:=d) (show L<=1000 by omega) q hG.gr<|zlz (d:=d-1) B;have i:=zn7 (bud:=d-1) (f:=d) (st:=[]) (show L<=1000 by omega) (λr a=>⟨q r a,m.rows r a⟩) (λg A=>⟨hG.gr g A,m.zvv g A⟩) m.box B.len;split at c<;>rename_i o;·exact absurd rfl c
   ·rw[if_neg o]at j;have E:=i.2.elim id λh=>absurd h o;rw[if_neg<|by omega]at j c;have s:=s E;have n:=(i.1 E).1;split at c<;>rename_i a
    ·rw[if_pos a]at j;simp only[yc,yD,vX]at a;obtain⟨l,H,t⟩:=m.case_ a.1 a.2;obtain⟨e,v,y⟩:=zmF j c l H;exact zhT hG (λr a=>(yv.1 a).elim (q r)<|(hG.ca l H).2 r) (zlz s) v y x ⟨n,λr a=>(yv.1 a).elim (m.rows r)<|t r,m.zvv,λh=>by cases h⟩
    ·rw[if_neg a]at j;split at c<;>rename_i z;·grind
     ·rw[if_neg z]at j;obtain⟨C,F,K⟩:=zj4 z;have I:=n.mem _ C F;obtain⟨r,a,w⟩:=zt3 I.1 I.2;obtain⟨e,v,y⟩:=zmF j c r a;exact zhT hG q (zop s z a) v y x ⟨n.with_ C F w,m.rows,m.zvv,λh=>by cases h⟩
theorem zhR {L G cs}(hG:SysG L G cs):∀{f}{root R b d},(∀r∈R,RwOK L r)->PI 0 L 0 [] b->(zww G cs f root R b d).k=0->SolN G cs root R b (zww G cs f root R b d).v
 |0,_,_,_,_,_,_,h=>absurd h<|by simp[zww,zgu]|f+1,root,R,b,d,w,H,h=>by
  have Q:=hG.le;unfold zww at h|-;split at h<;>rename_i A;·grind[zgu]
  ·rw[if_neg A];dsimp only at h|-;have n:=zka (bud:=d-1) (f:=d) (show L<=1000 by omega) w hG.gr<|zlz (d:=d-1) H;have a:=zn8 (bud:=d-1) (R:=R) (G:=G) (f:=d) (st:=[]) (b:=b) (by simp)<|by grind
   have i:∀x,(runU (d-1) R G d [] b).k=0->InB (runU (d-1) R G d [] b).b x->InB b x:=λx s=>zs7 (show L<=1000 by omega) w hG.gr H.len s x;generalize runU (d-1) R G d [] b=p at*;split at h<;>rename_i B;·grind[zgu]
   ·rw[if_neg B];split at h<;>rename_i q;·grind
    ·have s:p.k=0:=by omega
     have n:=n s;have a:=a s;have i:=λx=>i x s;rw[if_neg q];split at h<;>rename_i j
     ·rw[if_pos j];obtain⟨l,I,e,z,ev⟩:=zmE h;rw[ev];have:=zhR hG (λr j=>(yv.1 j).elim (w r)<|(hG.ca l I).2 r) (zlz n) z;exact⟨i _ this.box,λr j=>this.rows r<|wi _ j,this.zvv,λ_ _=>⟨l,I,λr j=>this.rows r<|wF _ j⟩⟩
     ·rw[if_neg j];have m:root=U->cs≠[]->False:=λq y=>j<|by grind
      split at h<;>rename_i t
      ·rw[if_pos t];have F:=zql n.ne t;have o:=zt7 n.ne;refine⟨i _ o,λr j=>zup (by rw[n.len];grind) o F (a.rows r j).1 (a.rows r j).2,λg E=>?_,λq y=>(m q y).elim⟩;obtain⟨K,xd⟩:=hG.gr g E;exact zrj (K:=K) (by rw[n.len];grind) o (by rw[n.len];omega) F λk s=>a.zvv g E k<|by rw[xd.len];grind
      ·rw[if_neg t];obtain⟨r,j,e,z,ev⟩:=zmE h;rw[ev];obtain⟨xf,N,xa⟩:=zj4 t;have:=zhR hG w (zop n t j) z;refine⟨i _ ⟨by have:=this.box.len;grind[zcA],λc u P=>?_⟩,this.rows,this.zvv,λq y=>(m q y).elim⟩;have C:=this.box.mem c u<|by grind[zcA]
       rw[zoV xf N u]at C;split at C<;>rename_i e
       ·subst e;have:=zpq j xa;omega
       grind
theorem zpZ (x):∀l m,sumP x (l++m)=sumP x l+sumP x m|[],_=>by simp[sumP]|t::l,m=>by simp only[uv,sumP,zpZ x l m];omega
theorem znz {α}{p}:∀(l:List α)(k),(ixP p l k=-1/\∀x∈l,p x=M)\/∃i,∃hi:i<l.length,p l[i]=U/\ixP p l k=((k+i:Nat):Int)
 |[],k=>.inl ⟨rfl,by simp⟩|x::l,k=>by
  simp only[ixP];cases h:p x with
  |true=>grind|false=>
   rcases znz (p:=p) l<|k+1 with⟨b,a⟩|⟨i,hi,b,a⟩;·simp_all
   ·exact .inr ⟨i+1,by simp_all,by simp_all,by grind⟩
structure StB (b:List Range)(x:List Int):Prop where
 inb:InB b x
 box:boxP b=U
theorem StB.val {b x}(h:StB b x){c}(h0:0<=c)(h1:c<(b.length:Int)):-1000000<=valC x c/\valC x c<=1000000/\idx x c=O (valC x c):=by
 have d:=h.inb.mem c h0 h1;have e:=zmg h.box _<|ziF h0 h1;refine⟨by omega,by omega,?_⟩;have a:=h.inb.len;exact zmr h0<|by omega
theorem zg4 {n}{b}{x}{r}(h:StB b x)(hr:RwOK b.length r)(hn:1000000<=n):zez n r x=O (rowH x r):=by
 have p:=hr.few;have a:∀t∈r.zvr,-1000<=t.zvy/\t.zvy<=1000:=λt e=>by
  have:=hr.fits;simp only[zym,yc]at this;have:=(zd7 (by omega) this.1).1 t e;simp_all
 have s:∀(l:List Term),(∀t∈l,t∈r.zvr)->-(1000000000*l.length)<=sumP x l/\sumP x l<=1000000000*l.length:=by
  intro l;induction l with
  |nil=>grind[sumP]|cons t l ih=>
   intro o;have c:=hr.cells t<|o t<|by simp
   have k:=h.val c.1 c.2;have d:=a t<|o t<|by simp
   have q:=zjK (B:=1000000) d.1 d.2 (by omega) k.2.1;grind[sumP,valC]
 have:=zA (body:=zch.l1 n r x) (len:=r.zvr.length) (st:=λi=>(sumP x<|r.zvr.take i,i)) (g:=λ_=>O<|sumP x r.zvr) (λj i m f=>?_) (λj=>?_) n 0 (yn _)<|by omega
 ·unfold zez zch;rw[show zvt (zch.l1 n r x) n (0,0)=_ from this];rfl
 ·have e:=yh m;have c:=hr.cells _ e;have k:=h.val c.1 c.2;have d:=a _ e;have q:=zjK (B:=1000000) d.1 d.2 (by omega) k.2.1;rw[yu m,zpZ]at f;simp only[zch.l1,za m];grind[zvA,valC,zau,zvp,sumP]
 ·simp[zch.l1]
theorem zon {n}{b}{x}(h:StB b x)(hn:1000000<=n):zaG n b x=O true:=by
 have j:=h.inb.len;have e:=zmf h.box;unfold zaG;have:=zA (body:=zaG.l1 n b x) (len:=b.length) (st:=λi=>i) (g:=λ_=>O U) (λa i f k=>?_) (λa=>?_) n 0 (yn _)<|by omega
 ·grind
 ·have l:=h.inb.mem i (by omega)<|by omega
  have d:=h.val (c:=i) (by omega)<|by omega
  simp only[zaG.l1,zy f,if_true,d.2.2,ya,yq,yw,grd,zd (i:=i)<|by omega];rw[zij (by omega)<|by omega,ya,if_neg<|by simp_all];grind
 ·simp[zaG.l1]
def numU (K:Nat):List Int:=(xm K).map λ(i:Nat)=>(i:Int)
theorem zhe (K):(numU K).length=K:=by simp[numU]
theorem zir {K}{y}:y∈numU K↔∃u:Nat,u<K/\(u:Int)=y:=by simp[numU]
theorem zpI {K i}(h:i<(numU K).length):(numU K)[i]=(i:Int):=by simp[numU]
theorem zqy {n K:Nat}(hK:K<=6)(hn:1000000<=n):zaZ n (K:Int)=O (numU K):=by
 have e:=zhe K;unfold zaZ;rw[mkl_0<|by omega,ya];have:=za4 (body:=zaZ.l1 n<|xw K 0) (len:=K) (st:=λs i=>(s,i)) (g:=λ_ _=>O<|numU K) (λi s=>s=(numU K).take i++xw (K-i) 0) (λc i s l f j=>?_) (λc s f=>?_) n 0 (xw K 0) (yn _) (by omega)<|by simp
 ·grind
 ·have d:Z (i<((xw K (0:Int)).length:Int))=true:=by simp_all
  have b:((numU K).take i).length=i:=by grind
  have a:i<s.length:=by grind
  simp only[zaZ.l1,d];rw[za a,ya,zk9 a,ya,zd (i:=i)<|by omega];refine j _ ?_;have k:i<(numU K).length:=by omega
  rw[f,yu k,show K-i=K-(i+1)+1 by omega,vA,uL _ _<|by omega,b,uz,wV,yJ];grind[zpI]
 ·have h:Z (K<(xw K 0).length)=false:=by simp
  simp only[zaZ.l1];grind
theorem zqh {n K:Nat}{b:List Range}{x:List Int}{g:zvP}(h:StB b x)(hg:GrOK b.length g K)(hn:1000000<=n):zbk n g x=O (zcc x g):=by
 have hK:=hg.le;have hsq:=hg.sq;have hbl:=zmf h.box;obtain⟨E,hE⟩:∃E,E=zzb x g:=⟨_,rfl⟩;have hgH:zcc x g=zxz E K:=by unfold zcc;rw[hg.size,yr,hE]
 have hedge:∀(s:List Bool)(u v:Nat),s.length=K->u<K->v<K->zbH n (u:Int) s x g (v:Int)=O (!s.getD u M&&E u v):=λs u v hs hu hv=>by
  have hp:=zeb hu hv;have hc:=hg.cell (show b.length<=1000000 by omega) hp;have e1:zvA (u:Int) g.size=((u*K:Nat):Int):=by
   rw[hg.size];unfold zvA;rw[zau (by rw[<-uj];omega)<|by rw[<-uj];omega];simp
  have e2:zvp ((u*K:Nat):Int) (v:Int)=((u*K+v:Nat):Int):=zcT<|by omega
  have e3:zvp (zvp g.first ((u*K:Nat):Int)) (v:Int)=g.first+((u*K+v:Nat):Int):=by
   have hf:=hg.fst;have:zvp g.first ((u*K:Nat):Int)=g.first+((u*K:Nat):Int):=zau (by omega)<|by omega
   rw[this];unfold zvp;rw[zau (by omega)<|by omega];omega
  have hv2:=h.val hc.2.1 hc.2.2;have hs1:idx s (u:Int)=O (s.getD u M):=by rw[za<|by omega];simp[yL,show u<s.length by omega]
  unfold zbH;simp only[hs1,ya,e1,e2,e3,hv2.2.2,zmK<|show u*K+v<g.least.length by rw[hg.len];exact hp,yq,yw,grd,if_true,yi];rw[hE,zie hg]
 have hnum:=zqy (n:=n) hK hn;have hfree:∀(s:List Bool)(v:Nat),s.length=K->v<K->zdv n (v:Int) s g x=O (!s.getD v M&&!(numU K).any λu=>!s.getD u.toNat M&&E u.toNat v):=λs v hs hv=>by
  have hs1:idx s (v:Int)=O (s.getD v M):=by rw[za<|by omega];simp[yL,show v<s.length by omega]
  have hany:=zbs (n:=n) (l:=numU K) (f:=λq0=>zbH n q0 s x g (v:Int)) (p:=λu=>!s.getD u.toNat M&&E u.toNat v) (λy hy=>by
   obtain⟨u,hu,rfl⟩:=zir.1 hy;exact hedge s u v hs hu hv) (by rw[zhe];omega)<|by rw[zhe];omega
  unfold zdv;simp only[hs1,ya,hg.size,hnum,hany,yq,yw,grd,if_true,yi]
 have hmk:mkl 1 g.size (M:Bool)=O (xw K M):=by rw[hg.size];unfold mkl;rw[if_pos<|by omega];simp
 unfold zbk;rw[hmk,ya,hgH];have:=zdn (body:=zbk.l1 n g x) (k:=K) (n:=n) (st:=λ(s:List Bool)i=>(s,(i:Int))) (λi s=>s.length=K/\s.count U=i/\∀S,zzK E K S->∀a,a<K->S a->s.getD a M=M) (λv:Bool=>v=zxz E K) (λrec i s hi hI hr=>?_) (λrec s hI=>?_) (by omega) (xw K M) ⟨by simp,by rw[List.count_replicate];simp,λS _ a ha _=>by simp[yL,List.getElem?_replicate,ha]⟩
 ·obtain⟨r,h1,h2⟩:=this;rw[<-h2];exact h1
 ·obtain⟨I1,I2,I3⟩:=hI;have hlt:Z ((i:Int)<(K:Int))=true:=by simp;omega
  simp only[zbk.l1,hg.size,hlt,if_true,hnum,ya];rw[zfK (p:=λv=>!s.getD v.toNat M&&!(numU K).any λu=>!s.getD u.toNat M&&E u.toNat v.toNat) (λy hy=>by
   obtain⟨v,hv,rfl⟩:=zir.1 hy;exact hfree s v I1 hv) (by rw[zhe];omega)<|by rw[zhe];omega,ya];rcases znz (p:=λv:Int=>!s.getD v.toNat M&&!(numU K).any λu=>!s.getD u.toNat M&&E u.toNat v.toNat) (numU K) 0 with⟨e,hall⟩|⟨v,hv,hp,e⟩
  ·rw[e,if_pos<|by decide];refine⟨M,rfl,?_⟩;have hex:∃a,a<K/\s.getD a M=false:=by
    refine xF λhn=>?_;have:s.count U=s.length:=by
     rw[List.count_eq_length];intro y hy;obtain⟨j,hj,rfl⟩:=wd hy;have hjK:j<K:=by rw[<-I1];exact hj
     have:¬s.getD j M=false:=λh=>hn ⟨j,hjK,h⟩;simp only[yL,yA hj,yi,Bool.not_eq_false]at this;exact this.symm
    omega
   obtain⟨a,ha,hsa⟩:=hex;obtain⟨y,hy⟩:=zlF (E:=E) (K:=K) (S:=λv=>s.getD v M=M) (λv hv hv2=>by
    have:=hall (v:Int)<|zir.2 ⟨v,hv,rfl⟩;simp only[yr,hv2,ut,yz,vM,uo,yc,yD]at this;obtain⟨z,hz,h1,h2⟩:=this;obtain⟨u,hu,rfl⟩:=zir.1 hz;simp only[yr]at h1 h2;exact⟨u,hu,h1,h2⟩) ha hsa;symm;rw[uR];exactλe=>zeZ.1 e y hy
  ·have hvK:v<K:=by rw[zhe]at hv;exact hv
   rw[zpI]at hp;simp only[yr,yc,yD,vS]at hp;rw[e,uh,if_neg<|by simp,za<|show v<s.length by omega,ya,zk9<|show v<s.length by omega,ya,zd (i:=i)<|by omega];refine hr _ ⟨by grind,by rw[zj5 (by omega) hp.1,I2],λS hS a ha hSa=>?_⟩;rw[zgI<|by omega];have h1:=I3 S hS a ha hSa;split<;>rename_i e
   ·exfalso;subst e;obtain⟨u,hu,hSu,hEu⟩:=hS a ha hSa;have h2:=hp.2 (u:Int)<|zir.2 ⟨u,hu,rfl⟩;grind[vu]
   simp_all
 ·obtain⟨I1,I2,I3⟩:=hI;have hge:Z ((K:Int)<g.size)=false:=by rw[hg.size];simp
  simp only[zbk.l1,hge,ye,if_false];refine⟨U,rfl,?_⟩;symm;rw[zeZ];intro y hy;obtain⟨hB,a,ha,haS⟩:=zqn hy;have h1:=I3 _ hB a ha haS;have h2:s.count U=s.length:=by omega
  grind[List.count_eq_length,List.getElem_mem,List.getElem?_eq_getElem]
def zyu (s:Swap)(x:Int):Int:=if x=s.a then s.b else if x=s.b then s.a else x
theorem zlI {n s x}:zde n s x=O (zyu s x):=by
 unfold zde zyu;grind
structure zxo (sizes:List Int)(s:Swap):Prop where
 sort:zv6 sizes s.sort=U
 a:0<=s.a
 ab:s.a<s.b
 b:s.b<sizes.getD s.sort.toNat 0
def nK (sizes:List Int)(c:Int):Nat:=(sizes.getD c.toNat 0).toNat
def colS (s:Swap)(c:Int)(x:Nat):Nat:=if c=s.sort then(zyu s (x:Int)).toNat else x
theorem nK_ok {sizes}(hs:sizes.all zbW=U){c}(hc:zv6 sizes c=U):((nK sizes c:Nat):Int)=sizes.getD c.toNat 0/\1<=nK sizes c/\nK sizes c<=6:=by
 have:=yo.1 hs _<|zam<|zd8 hc;simp only[zbW]at this;grind[nK]
section
variable{sizes:List Int}{s:Swap}(h:zxo sizes s)
include h
theorem zpf (x:Nat):((zyu s (x:Int)).toNat:Int)=zyu s (x:Int):=by
 have b:=h.a;have a:=h.ab;grind[zyu]
theorem zoB {c}{x}(hx:x<nK sizes c):colS s c x<nK sizes c:=by
 have b:=h.ab;have a:=h.b;unfold colS;by_cases e:c=s.sort;·grind[nK,zyu]
 simp_all
theorem zo6 {c}{x}:colS s c (colS s c x)=x:=by
 unfold colS;by_cases e:c=s.sort
 ·rw[if_pos e,if_pos e,zpf h];unfold zyu;grind
 simp_all
end
def digP (sizes:List Int)(s:Swap):List Int->Nat->Nat|[],_=>0|c::cs,r=>colS s c (r%nK sizes c)+nK sizes c*digP sizes s cs (r/nK sizes c)
def wN (sizes:List Int):List Int->Nat|[]=>1|c::cs=>nK sizes c*wN sizes cs
theorem zok (sizes):∀l m,wN sizes (l++m)=wN sizes l*wN sizes m|[],m=>by simp[wN]|c::l,m=>by simp only[uv,wN,zok sizes l m,Nat.mul_assoc]
theorem zoE {sizes}{c}{cs}{r}(hr:r<wN sizes (c::cs)):0<nK sizes c/\r/nK sizes c<wN sizes cs:=by
 have a:0<nK sizes c:=by grind[wN]
 exact⟨a,Nat.div_lt_of_lt_mul hr⟩
theorem zpa {sizes}{s}(h:zxo sizes s):∀(cs)(r),r<wN sizes cs->digP sizes s cs r<wN sizes cs
 |[],r,a=>by simp[digP,wN]|c::cs,r,a=>by
  obtain⟨d,b⟩:=zoE a;have f:=zoB h<|wE r d;have e:=tn (nK sizes c)<|zpa h cs _ b;grind[digP,wN]
theorem zq8 {sizes}{s}(h:zxo sizes s):∀(cs)(r),r<wN sizes cs->digP sizes s cs (digP sizes s cs r)=r|[],r,b=>by grind[digP,wN]|c::cs,r,b=>by obtain⟨d,e⟩:=zoE b;have a:=zoB h<|wE r d;simp only[digP];rw[Nat.add_mul_mod_self_left,xU a,Nat.add_mul_div_left _ _ d,Nat.div_eq_of_lt a,uh,zo6 h,zq8 h cs _ e];exact Nat.mod_add_div r _
theorem zsv {sizes}(hs:sizes.all zbW=U):∀(cols)(x:Nat),cols.all (zv6 sizes)=U->x*6^cols.length<=1000000->zae sizes cols (x:Int)=((x*wN sizes cols.reverse:Nat):Int)
 |[],x,_,_=>by simp[zae,wN]|c::cols,x,a,f=>by
  simp only[um,yc]at a;obtain⟨j,i,d⟩:=nK_ok hs a.1;have g:1<=6^cols.length:=uU _ _ (by decide);have b:x*nK sizes c*6^cols.length<=1000000:=by refine yG ?_ f;rw[Nat.mul_assoc];refine tn _ ?_;rw[vv];exact tn _ d
  have h:=yG (wO _ g) b;have e:zvA x (sizes.getD c.toNat 0)=(x*nK sizes c:Nat):=by grind[zeM]
  rw[zae,e,zsv hs cols _ a.2 b,List.reverse_cons,zok];simp only[wN];grind
theorem zjq {sizes}(hs:sizes.all zbW=U){cols}(hc:cols.all (zv6 sizes)=U)(h3:cols.length<=3):zae sizes cols 1=((wN sizes cols.reverse:Nat):Int)/\1<=wN sizes cols.reverse/\wN sizes cols.reverse<=216:=by
 have a:6^cols.length<=6^3:=ul (by decide) h3;have e:=zsv hs cols 1 hc (by omega);have:=zfx hs hc h3;grind
theorem zrP {r k:Nat}(h0:0<k)(hr:r<=1000000):zwy (r:Int) (k:Int)=O ((r%k:Nat):Int):=by
 unfold zwy;grind
theorem zrL {r k:Nat}(h0:0<k)(hr:r<=1000000):zwx (r:Int) (k:Int)=O ((r/k:Nat):Int):=by
 have:=Nat.div_le_self r k;have e:r/k=r/k:=by simp
 unfold zwx;grind[zau]
theorem zsT {n m s t}{rest}(h:zxo m.zvu s)(hs:m.zvu.all zbW=U)(hc:t.zvo.all (zv6 m.zvu)=U)(h3:t.zvo.length<=3)(hr:rest<wN m.zvu t.zvo.reverse)(hn:1000000<=n):zvt (zaQ.l2 n m s t) n ((rest:Int),0,1,zvz (t.zvo.length:Int) 1)=O (zvp t.first ((digP m.zvu s t.zvo.reverse rest:Nat):Int)):=by
 have hw:=(zjq hs hc h3).2.2;have hd:=zpa h _ _ hr;have hlen:t.zvo.reverse.length=t.zvo.length:=List.length_reverse;have:=za4 (body:=zaQ.l2 n m s t) (len:=t.zvo.length) (st:=λ(x:Nat×Nat×Nat)i=>((x.1:Int),(x.2.1:Int),(x.2.2:Int),(t.zvo.length:Int)-1-(i:Int))) (g:=λ_ _=>O<|zvp t.first ((digP m.zvu s t.zvo.reverse rest:Nat):Int)) (λi x=>x.2.1+x.2.2*digP m.zvu s (t.zvo.reverse.drop i) x.1=digP m.zvu s t.zvo.reverse rest/\x.1<wN m.zvu (t.zvo.reverse.drop i)/\x.1<=216/\x.2.2<=6^i) (λrec i x hi hI hrec=>?_) (λrec x hI=>?_) n 0 (rest,0,1) (yn _) (by omega) ⟨by simp,hr,by omega,by simp⟩
 ·have e:zvz (t.zvo.length:Int) 1=(t.zvo.length:Int)-1-((0:Nat):Int):=by rw[zgm (by omega)<|by omega];omega
  rw[e];exact this
 ·obtain⟨r,out,unit⟩:=x;obtain⟨I1,I2,I3,I4⟩:=hI;simp only at I1 I2 I3 I4;have hi':i<t.zvo.reverse.length:=by omega
  rw[zj hi']at I1 I2;obtain⟨c,hcdef⟩:∃c,c=t.zvo.reverse[i]:=⟨_,rfl⟩;rw[<-hcdef]at I1 I2;have hidx:idx t.zvo ((t.zvo.length:Int)-1-(i:Int))=O c:=by
   have e:(t.zvo.length:Int)-1-(i:Int)=((t.zvo.length-1-i:Nat):Int):=by omega
   rw[e,za<|by omega,hcdef,List.getElem_reverse]
  have hcol:=yo.1 hc c<|zam hidx;obtain⟨k1,k2,k3⟩:=nK_ok hs hcol;obtain⟨p0,p1⟩:=zoE I2;simp only[digP]at I1;have hp6:6^i<=6^2:=ul (by decide) (by omega);have hge:Z ((0:Int)<=(t.zvo.length:Int)-1-(i:Int))=true:=by simp;omega
  have hm1:unit*colS s c (r%nK m.zvu c)<=216:=by rw[Nat.mul_add]at I1;omega
  have hm2:unit*nK m.zvu c<=36*6:=y8 (by omega) k3;have hlast:zvz ((t.zvo.length:Int)-1-(i:Int)) 1=(t.zvo.length:Int)-1-((i+1:Nat):Int):=by rw[zgm (by omega)<|by omega];omega
  have ecol:(if(c==s.sort)=U then zde n s ((r%nK m.zvu c:Nat):Int)else O ((r%nK m.zvu c:Nat):Int))=O ((colS s c<|r%nK m.zvu c:Nat):Int):=by
   unfold colS;by_cases e:c=s.sort;·rw[if_pos<|by simpa using e,if_pos e,zlI,zpf h]
   ·rw[if_neg<|by simpa using e,if_neg e]
  have hnext:=hrec (r/nK m.zvu c,out+unit*colS s c (r%nK m.zvu c),unit*nK m.zvu c) ⟨by rw[<-I1];simp only[];rw[Nat.mul_add,Nat.mul_assoc,Nat.add_assoc],p1,by have:=Nat.div_le_self r<|nK m.zvu c;simp only[];omega,by rw[uV];exact y8 I4 k3⟩;simp only[zaQ.l2,hge,if_true,hidx,ya,zd8 hcol,<-k1,zrP p0<|show r<=1000000 by omega,jn,zrL p0<|show r<=1000000 by omega,hlast];have hfin:∀y:Nat,y=colS s c (r%nK m.zvu c)->rec (((r/nK m.zvu c:Nat):Int),zvp (out:Int)<|zvA (y:Int) (unit:Int),zvA (unit:Int) (nK m.zvu c:Int),(t.zvo.length:Int)-1-((i+1:Nat):Int))=O (zvp t.first ((digP m.zvu s t.zvo.reverse rest:Nat):Int)):=λy hy=>by
   subst hy;have e1:zvA ((colS s c<|r%nK m.zvu c:Nat):Int) (unit:Int)=((unit*colS s c (r%nK m.zvu c):Nat):Int):=by rw[zeM (by rw[<-uj,vv];omega)<|by rw[<-uj,vv];omega,<-uj,vv]
   have e2:zvA (unit:Int) (nK m.zvu c:Int)=((unit*nK m.zvu c:Nat):Int):=by rw[zeM (by rw[<-uj];omega)<|by rw[<-uj];omega,<-uj]
   rw[e1,e2,zcT<|by omega];simp_all
  grind
 ·obtain⟨r,out,unit⟩:=x;obtain⟨I1,-⟩:=hI;simp only[zaQ.l2];rw[if_neg<|by grind];rw[<-hlen,xV]at I1;simp only[digP,Nat.mul_zero,uy]at I1;rw[I1]
def mvT (sizes:List Int)(s:Swap)(strict:Bool):List Table->Int->Int|[],_=>-1|t::l,c=>if(zaL t.kind==strict&&(Z (t.first<=c)&&Z (c<t.first+zae sizes t.zvo 1)))=U then t.first+((digP sizes s t.zvo.reverse (c-t.first).toNat:Nat):Int)else mvT sizes s strict l c
theorem zl7 {sizes}{t}(h:tabP sizes t=U):t.zvo.length<=3/\t.zvo.all (zv6 sizes)=true:=by simp only[tabP]at h;simp_all
theorem zfR {sizes}(hs:sizes.all zbW=U):∀{l}{seen}{a b},layP sizes seen a b l=U->0<=a->0<=b->a+216*(l.length:Int)<=1000000->b+216*(l.length:Int)<=1000000->∀t∈l,0<=t.first/\t.first<=1000000/\(if zaL t.kind=U then a else b)<=t.first
 |[],_,_,_,_,_,_,_,_,t,d=>by grind|x::l,seen,a,b,h,k,i,j,m,t,d=>by
  have n:=zjq hs (zl7<|zdP h x<|by simp).2 (zl7<|zdP h x<|by simp).1;simp only[layP,yc]at h;have c:=h.2;simp only[yQ]at j m;have f:=by omega
  by_cases g:zaL x.kind=U
  ·rw[if_pos g]at c;simp only[yc]at c;rw[zbi (by omega)<|by omega]at c;rcases yE.1 d with rfl|d;·grind
   ·have:=zfR hs c.2 (by omega) i (by omega) (by omega) t d;by_cases e:zaL t.kind=U;·rw[if_pos e]at this|-;omega
    ·rw[if_neg e]at this|-;omega
  ·rw[if_neg g]at c;simp only[yc]at c;rw[zbi (by omega)<|by omega]at c;rcases yE.1 d with rfl|d;·grind
   ·have:=zfR hs c.2 k (by omega) (by omega) (by omega) t d;by_cases e:zaL t.kind=U;·rw[if_pos e]at this|-;omega
    ·rw[if_neg e]at this|-;omega
theorem zmG {m:Model}(hL:za3 m.zvu m.tables=U):m.zvu.all zbW=U/\layP m.zvu [] 0 0 m.tables=U/\m.tables.length<=12:=by simp only[za3]at hL;simp_all
def mvS (sizes:List Int)(s:Swap)(strict:Bool):List Table->Int->Int|[],_=>-1|t::l,c=>if(zaL t.kind==strict&&(Z (0<=zvz c t.first)&&Z (zvz c t.first<zae sizes t.zvo 1)))=U then t.first+((digP sizes s t.zvo.reverse (zvz c t.first).toNat:Nat):Int)else mvS sizes s strict l c
theorem ztz {sizes}{s}{strict}{c}(hc:-1000000<=c/\c<=1000000):∀{l},(∀t∈l,0<=t.first/\t.first<=1000000)->mvS sizes s strict l c=mvT sizes s strict l c
 |[],_=>rfl|t::l,h=>by
  have d:=h t (by simp);have e:zvz c t.first=c-t.first:=zgm (by omega)<|by omega
  have a:(Z (0<=c-t.first)&&Z (c-t.first<zae sizes t.zvo 1))=(Z (t.first<=c)&&Z (c<t.first+zae sizes t.zvo 1)):=by grind
  rw[mvS,mvT,e,a,ztz hc λu b=>h u<|by grind]
theorem zpE {m s n c strict}(h:zxo m.zvu s)(hL:za3 m.zvu m.tables=U)(hn:1000000<=n):zaQ n m s c strict=O (mvS m.zvu s strict m.tables c):=by
 obtain⟨l,b,z⟩:=zmG hL;have:=zA (body:=zaQ.l1 n m s c strict) (len:=m.tables.length) (st:=λi=>i) (g:=λi=>O<|mvS m.zvu s strict (m.tables.drop i) c) (λj i f E=>?_) (λj=>?_) n 0 (yn _)<|by omega
 ·grind[zaQ]
 ·have p:=yh f;obtain⟨x,y,-⟩:=zfR l b (wT _) (wT _) (by omega) (by omega) _ p;obtain⟨r,o⟩:=zl7<|zdP b _ p;obtain⟨v,B,w⟩:=zjq l o r;have q:zc6 n m.tables[i].kind=O (zaL m.tables[i].kind):=rfl;rw[zj f,mvS];simp only[zaQ.l1,za f,ya,zfE o (by omega) hn,grd,zd (i:=i)<|by omega];generalize u:zvz c m.tables[i].first=d;by_cases a:(zaL m.tables[i].kind==strict&&(Z (0<=d)&&Z (d<zae m.zvu m.tables[i].zvo 1)))=U
  ·simp only[yc,yf]at a;obtain⟨A,t,C⟩:=a;obtain⟨e,rfl⟩:=yS t;have k:e<wN m.zvu m.tables[i].zvo.reverse:=by omega
   have u:=zpa h _ _ k;grind[zsT,zbi]
  grind
 ·simp[zaQ.l1,mvS]
theorem zua {m s n c strict}(h:zxo m.zvu s)(hL:za3 m.zvu m.tables=U)(hc:-1000000<=c/\c<=1000000)(hn:1000000<=n):zaQ n m s c strict=O (mvT m.zvu s strict m.tables c):=by obtain⟨d,a,e⟩:=zmG hL;rw[zpE h hL hn,ztz hc λt b=>by have:=zfR d a (wT _) (wT _) (by omega) (by omega) t b;simp_all]
section
variable{sizes:List Int}{s:Swap}(h:zxo sizes s)(hs:sizes.all zbW=U)
include h hs
theorem zmO (strict:Bool):∀{l:List Table}{seen:List<|List UInt8}{a b:Int},layP sizes seen a b l=U->0<=a->0<=b->a+216*(l.length:Int)<=1000000->b+216*(l.length:Int)<=1000000->∀c,(if strict=U then a else b)<=c->c<(if strict=U then a else b)+((zI sizes strict l).length:Int)->((if strict=U then a else b)<=mvT sizes s strict l c/\mvT sizes s strict l c<(if strict=U then a else b)+((zI sizes strict l).length:Int))/\mvT sizes s strict l (mvT sizes s strict l c)=c/\(zI sizes strict l)[(mvT sizes s strict l c-if strict=U then a else b).toNat]?=(zI sizes strict l)[(c-if strict=U then a else b).toNat]?
 |[],_,_,_,_,_,_,_,_,c,h1,h2=>by simp[zI]at h2;omega|t::l,seen,a,b,hl,ha,hb,la,lb,c,h1,h2=>by
  obtain⟨t1,t2⟩:=zl7<|zdP hl t (by simp);obtain⟨w1,w2,w3⟩:=zjq hs t2 t1;simp only[layP,yc]at hl;have h3:=hl.2;simp only[yQ]at la lb;have hcast:((l.length+1:Nat):Int)=(l.length:Int)+1:=by omega
  rw[hcast]at la lb;obtain⟨w,hw⟩:∃w,w=wN sizes t.zvo.reverse:=⟨_,rfl⟩;by_cases hk:zaL t.kind=strict
  ·have hfirst:t.first=if strict=U then a else b:=by
    rw[<-hk];split at h3<;>rename_i e;·simp only[yc,beq_iff_eq]at h3;rw[if_pos e];exact h3.1
    ·simp only[yc,beq_iff_eq]at h3;rw[if_neg e];exact h3.1
   have hnext:∃seen' a' b',layP sizes seen' a' b' l=U/\(if strict=U then a' else b')=t.first+(w:Int)/\0<=a'/\0<=b'/\a'+216*(l.length:Int)<=1000000/\b'+216*(l.length:Int)<=1000000:=by
    rw[hfirst];split at h3<;>rename_i e;·simp only[yc,beq_iff_eq]at h3;rw[w1,zbi (by omega)<|by omega]at h3;rw[<-hk,if_pos e];exact⟨_,_,_,h3.2,by rw[if_pos e,hw],by omega,hb,by omega,by omega⟩
    ·simp only[yc,beq_iff_eq]at h3;rw[w1,zbi (by omega)<|by omega]at h3;rw[<-hk,if_neg e];exact⟨_,_,_,h3.2,by rw[if_neg e,hw],ha,by omega,by omega,by omega⟩
   obtain⟨seen',a',b',n1,n2,n3,n4,n5,n6⟩:=hnext;have hr:zI sizes strict (t::l)=xw w t.range++zI sizes strict l:=by rw[zI,if_pos<|by simp[hk],w1,hw,yr]
   rw[<-hfirst]at h1 h2|-;rw[hr,yT,ux]at h2;rw[hr];have hcond:∀x,(zaL t.kind==strict&&(Z (t.first<=x)&&Z (x<t.first+zae sizes t.zvo 1)))=Z (t.first<=x/\x<t.first+(w:Int)):=λx=>by rw[hk,w1,<-hw,xP];simp
   by_cases hc:c<t.first+(w:Int)
   ·obtain⟨r,hrr⟩:=yS (show 0<=c-t.first by omega);have hrw:r<wN sizes t.zvo.reverse:=by omega
    have hd:=zpa h _ _ hrw;have hm:mvT sizes s strict (t::l) c=t.first+((digP sizes s t.zvo.reverse r:Nat):Int):=by rw[mvT,hcond,if_pos<|by simp only[yf];omega,hrr,yr]
    have hm2:mvT sizes s strict (t::l) (t.first+((digP sizes s t.zvo.reverse r:Nat):Int))=c:=by
     rw[mvT,hcond,if_pos<|by simp only[yf];omega];have e:(t.first+((digP sizes s t.zvo.reverse r:Nat):Int)-t.first).toNat=digP sizes s t.zvo.reverse r:=by omega
     grind[zq8]
    grind
   ·have hskip:∀x,t.first+(w:Int)<=x->mvT sizes s strict (t::l) x=mvT sizes s strict l x:=λx hx=>by rw[mvT,hcond,if_neg<|by simp_all]
    obtain⟨i1,i2,i3⟩:=zmO strict n1 n3 n4 n5 n6 c (by simp_all) (by grind);rw[n2]at i1 i3;rw[hskip c<|by omega,hskip _ i1.1];refine⟨⟨by omega,by grind⟩,i2,?_⟩;rw[yM<|by grind,yM<|by grind,ux];have e1:(mvT sizes s strict l c-t.first).toNat-w=(mvT sizes s strict l c-(t.first+(w:Int))).toNat:=by omega
    have e2:(c-t.first).toNat-w=(c-(t.first+(w:Int))).toNat:=by omega
    rw[e1,e2,i3]
  ·have hnext:∃seen' a' b',layP sizes seen' a' b' l=U/\(if strict=U then a' else b')=(if strict=U then a else b)/\0<=a'/\0<=b'/\a'+216*(l.length:Int)<=1000000/\b'+216*(l.length:Int)<=1000000:=by
    split at h3<;>rename_i e
    ·simp only[yc,beq_iff_eq]at h3;rw[w1,zbi (by omega)<|by omega]at h3;have hf:strict=false:=by cases strict<;>simp_all
     subst hf;exact⟨_,_,_,h3.2,by simp,by omega,hb,by omega,by omega⟩
    ·simp only[yc,beq_iff_eq]at h3;rw[w1,zbi (by omega)<|by omega]at h3;have hf:strict=true:=by cases strict<;>simp_all
     subst hf;exact⟨_,_,_,h3.2,by simp,ha,by omega,by omega,by omega⟩
   obtain⟨seen',a',b',n1,n2,n3,n4,n5,n6⟩:=hnext;have hr:zI sizes strict (t::l)=zI sizes strict l:=by rw[zI,if_neg<|by simp_all]
   have hskip:∀x,mvT sizes s strict (t::l) x=mvT sizes s strict l x:=λx=>by rw[mvT,if_neg<|by grind]
   rw[hr,<-n2]at h2|-;rw[<-n2]at h1;rw[hskip,hskip];exact zmO strict n1 n3 n4 n5 n6 c h1 h2
theorem zrz (strict):∀{l}{seen}{a b},layP sizes seen a b l=U->0<=a->0<=b->a+216*(l.length:Int)<=1000000->b+216*(l.length:Int)<=1000000->∀t∈l,zaL t.kind=strict->∀c,t.first<=c->c<t.first+zae sizes t.zvo 1->mvT sizes s strict l c=t.first+((digP sizes s t.zvo.reverse (c-t.first).toNat:Nat):Int)
 |[],_,_,_,_,_,_,_,_,t,i,_,c,_,_=>by grind|x::l,seen,a,b,h,j,q,r,u,t,i,k,c,m,n=>by
  rw[mvT];rcases yE.1 i with rfl|f;·simp_all
  ·obtain⟨w,v⟩:=zl7<|zdP h x (by simp);obtain⟨p,z,y⟩:=zjq hs v w;simp only[layP,yc]at h;have d:=h.2;simp only[yQ]at r u;have g:=by omega
   split at d<;>rename_i e
   ·simp only[yc]at d;rw[p,zbi (by omega)<|by omega]at d;have:=(zfR hs d.2 (by omega) q (by omega) (by omega) t f).2.2;rw[if_neg];·exact zrz strict d.2 (by omega) q (by omega) (by omega) t f k c m n
    grind
   ·simp only[yc]at d;rw[p,zbi (by omega)<|by omega]at d;have:=(zfR hs d.2 j (by omega) (by omega) (by omega) t f).2.2;rw[if_neg];·exact zrz strict d.2 j (by omega) (by omega) (by omega) t f k c m n
    grind
end
def mvC (m:Model)(s:Swap)(c:Int):Int:=mvT m.zvu s U m.tables c
theorem zu6 {m s}(h:zxo m.zvu s)(hL:za3 m.zvu m.tables=U){c}(h0:0<=c)(h1:c<((boxM m).length:Int)):(0<=mvC m s c/\mvC m s c<((boxM m).length:Int))/\mvC m s (mvC m s c)=c/\(boxM m)[(mvC m s c).toNat]?=(boxM m)[c.toNat]?:=by
 obtain⟨b,a,d⟩:=zmG hL;have:=zmO h b U a (wT _) (wT _) (by omega) (by omega) c (by simp_all)<|by grind[boxM]
 grind[mvC,boxM]
structure Swp (m:Model)(s:Swap):Prop where
 ok:zxo m.zvu s
 lay:za3 m.zvu m.tables=U
theorem Swp.cell {m s}(h:Swp m s){c}(h0:0<=c)(h1:c<((boxM m).length:Int)):(0<=mvC m s c/\mvC m s c<((boxM m).length:Int))/\mvC m s (mvC m s c)=c/\(boxM m)[(mvC m s c).toNat]?=(boxM m)[c.toNat]?:=zu6 h.ok h.lay h0 h1
theorem Swp.move {m s n}(h:Swp m s){c}(hc:-1000000<=c/\c<=1000000)(hn:1000000<=n):zaQ n m s c U=O (mvC m s c):=zua h.ok h.lay hc hn
def stP (m:Model)(s:Swap)(x:List Int):List Int:=(xm x.length).map λi:Nat=>x.getD (mvC m s (i:Int)).toNat 0
theorem zh2 {m s x}:(stP m s x).length=x.length:=by simp[stP]
theorem zk8 {m s x}{c}(h0:0<=c)(h1:c<(x.length:Int)):(stP m s x).getD c.toNat 0=x.getD (mvC m s c).toNat 0:=by grind[stP]
theorem zpA {a b:List Int}(hl:a.length=b.length)(h:∀i,i<a.length->a.getD i 0=b.getD i 0):a=b:=by grind[List.ext_getElem]
theorem zse {m s}{x}(h:Swp m s)(hx:x.length=(boxM m).length):stP m s (stP m s x)=x:=by
 refine zpA (by simp[zh2]) λi a=>?_;simp only[zh2]at a;obtain⟨⟨d,e⟩,b,-⟩:=h.cell (c:=i) (by omega)<|by omega
 grind[stP,vu]
theorem zmA:∀{box}{x},x.length=box.length->(∀(i)(h1)(h2:i<x.length),box[i].lo<=x[i]/\x[i]<=box[i].hi)->zxA box x=U
 |[],[],_,_=>rfl|[],_::_,h,_=>by grind|_::_,[],h,_=>by grind|r::box,v::x,h,hi=>by
  have b:=hi 0 (by simp) (by simp);have a:=zmA (box:=box) (x:=x) (by simp_all) λi h1 h2=>by have:=hi (i+1) (by simp_all) (by simp_all);simp_all
  grind[zxA]
theorem zsd {m s}{x}(h:Swp m s)(hx:zxA (boxM m) x=U):zxA (boxM m) (stP m s x)=true:=by
 have b:=zgK hx;refine zmA (by rw[zh2,b]) λi l f=>?_;obtain⟨⟨g,j⟩,-,k⟩:=h.cell (c:=i) (by omega) (by omega);have e:=zk8 (m:=m) (s:=s) (x:=x) (c:=i) (by omega) (by omega);have a:(mvC m s i).toNat<(boxM m).length:=by omega
 have d:=zgJ hx (mvC m s i).toNat a (by omega);simp_all
def insT (t:Term):List Term->List Term|[]=>[t]|u::l=>if t.cell<u.cell then t::u::l else u::insT t l
def mvt (m:Model)(s:Swap)(t:Term):Term:=⟨mvC m s t.cell,t.zvy⟩
def rowL (m:Model)(s:Swap)(l:List Term)(acc:List Term):List Term:=l.foldl (λacc t=>insT (mvt m s t) acc) acc
def rowM (m:Model)(s:Swap)(r:Row):Row:=⟨rowL m s r.zvr [],r.bound⟩
theorem zgL (t):∀l,(insT t l).Perm<|t::l
 |[]=>.refl _|u::l=>by
  rw[insT];split;·simp_all
  ·exact((zgL t l).cons u).trans<|.swap t u l
theorem zn3 (m s):∀l acc,(rowL m s l acc).Perm<|l.map (mvt m s)++acc
 |[],acc=>.refl _|t::l,acc=>by
  have a:=zn3 m s l<|insT (mvt m s t) acc;refine a.trans ?_;grind[zgL]
theorem ziG (m s r):(rowM m s r).zvr.Perm<|r.zvr.map<|mvt m s:=by
 have:=zn3 m s r.zvr [];rwa[ud]at this
theorem zsh {x}{l k}(h:l.Perm k):sumP x l=sumP x k:=by induction h with|nil=>rfl|cons t _ ih=>grind[sumP]|swap a b l=>grind[sumP]|trans _ _ i1 i2=>simp_all
theorem ztF {m s}{x}(h:Swp m s)(hx:x.length=(boxM m).length):∀{l},(∀t∈l,zfe (boxM m).length t)->sumP (stP m s x) (l.map<|mvt m s)=sumP x l
 |[],_=>rfl|t::l,a=>by
  obtain⟨b,c,-⟩:=a t (by simp);obtain⟨⟨e,f⟩,g,-⟩:=h.cell b c;simp only[yU,sumP];rw[ztF h hx (l:=l) λu d=>a u<|by grind];show t.zvy*(stP m s x).getD (mvC m s t.cell).toNat 0+_=_;grind[zk8]
theorem zsj {m s}{x}{r}(h:Swp m s)(hx:x.length=(boxM m).length)(ht:∀t∈r.zvr,zfe (boxM m).length t):sumP (stP m s x) (rowM m s r).zvr=sumP x r.zvr:=by rw[zsh<|ziG m s r,ztF h hx ht]
theorem zrn {n:Nat}{acc:List Term}{j:Int}{rec:List Term×Int->Option Row}{c:Int}{u:Term}(hl:acc.length<=1000)(hn:1000000<=n):zvt (zbQ.l2 n acc j rec c u) n (([]:List Term),M,0)=rec (insT ⟨c,u.zvy⟩ acc,zvp j 1):=by
 have:=za4 (body:=zbQ.l2 n acc j rec c u) (len:=acc.length) (st:=λ(x:List Term×Bool)i=>(x.1,x.2,(i:Int))) (g:=λ_ _=>rec (insT ⟨c,u.zvy⟩ acc,zvp j 1)) (λi x=>x.1.length<=i+1/\if x.2=U then x.1++acc.drop i=insT ⟨c,u.zvy⟩ acc else x.1=acc.take i/\insT ⟨c,u.zvy⟩ acc=acc.take i++insT ⟨c,u.zvy⟩ (acc.drop i)) (λrec2 i x hi hI hr=>?_) (λrec2 x hI=>?_) n 0 ([],M) (yn _) (by omega) ⟨by simp,by simp⟩;·exact this
 ·obtain⟨b,p⟩:=x;obtain⟨I1,I2⟩:=hI;simp only at I1 I2;have htk:acc.take (i+1)=acc.take i++[acc[i]]:=yu hi;have hnext:∀(b':List Term)(p':Bool),b'.length<=i+1+1->(if p'=U then b'++acc.drop (i+1)=insT ⟨c,u.zvy⟩ acc else b'=acc.take (i+1)/\insT ⟨c,u.zvy⟩ acc=acc.take (i+1)++insT ⟨c,u.zvy⟩ (acc.drop<|i+1))->rec2 (b',p',((i+1:Nat):Int))=rec (insT ⟨c,u.zvy⟩ acc,zvp j 1):=λb' p' h1 h2=>hr (b',p') ⟨h1,h2⟩;simp only[zbQ.l2,zy hi,if_true,jn,za hi,yq,yw,grd,yi,ya,zd (i:=i)<|by omega];cases p with|true=>simp only[uk,ue,ye,if_false];rw[zk<|by simp;omega,ya];refine hnext _ U (by simp;omega) ?_;rw[if_pos rfl]at I2|-;rw[<-I2,zj hi,yJ];rfl|false=>
   obtain⟨rfl,I3⟩:=I2;rw[zj hi,insT]at I3;simp only[ut,yz];have hlt:(acc.take i).length<=i:=by grind
   by_cases hc:c<acc[i].cell;·rw[if_pos<|by grind];rw[if_pos<|show(⟨c,u.zvy⟩:Term).cell<acc[i].cell from hc]at I3;rw[zk<|by grind,ya,zk<|by grind,ya];grind
   ·rw[if_neg<|by grind];rw[zk<|by grind,ya];grind
 ·obtain⟨b,p⟩:=x;obtain⟨I1,I2⟩:=hI;simp only at I1 I2;simp only[zbQ.l2,zaj,ye,if_false,jn];cases p with
  |true=>simp_all|false=>rw[if_neg<|by simp,xV,wo]at I2;simp only[ut,if_true];rw[zk<|by grind,ya,I2.2,I2.1];rfl
theorem zrY {m s n}{r}(h:Swp m s)(ht:∀t∈r.zvr,-1000000<=t.cell/\t.cell<=1000000)(hl:r.zvr.length<=500)(hn:1000000<=n):zbQ n m s r=O (rowM m s r):=by
 have:=za4 (body:=zbQ.l1 n m s r) (len:=r.zvr.length) (st:=λx i=>(x,i)) (g:=λ_ _=>O<|rowM m s r) (λi x=>rowL m s (r.zvr.drop i) x=rowL m s r.zvr []/\x.length<=i) (λd i x b c e=>?_) (λd x c=>?_) n 0 [] (yn _) (by omega) ⟨by simp,by simp⟩;·exact this
 ·obtain⟨a,f⟩:=c;simp only[zbQ.l1,zy b,za b,ya,h.move (ht _<|yh b) hn];rw[zrn (by omega) hn,zd<|by omega];refine e _ ⟨?_,?_⟩;·rw[<-a,zj b];rfl
  ·have:=(zgL ⟨mvC m s r.zvr[i].cell,r.zvr[i].zvy⟩ x).length_eq;simp_all
 ·obtain⟨a,-⟩:=c;simp only[zbQ.l1,zaj];rw[xV]at a;rw[rowM,<-a];rfl
theorem zsE {E}{K}{x}(hx:x∈cycP E K):∃p f,0<p/\Walk E K p f:=by have c:=zfN hx;have a:=zku hx;have b:=c.pos;refine⟨x.length,λi=>vtx x<|i%x.length,by omega,λi=>by simp,λi=>(zlf c<|wE _<|by omega).1,λi=>?_⟩;have:=a (i%x.length)<|wE _ (by omega);simp_all
theorem zne {E F}{K}{τ:Nat->Nat}(hτ:∀a,a<K->τ a<K)(hE:∀a b,a<K->b<K->E a b=U->F (τ a) (τ b)=U)(hF:zxz F K=U):zxz E K=true:=by rw[zeZ]at hF|-;intro x e;obtain⟨p,f,d,c⟩:=zsE e;obtain⟨y,g⟩:=zp8 p d (λi=>τ<|f i) ⟨λi=>by simp only[c.per],λi=>hτ _<|c.lt i,λi=>hE _ _ (c.lt _) (c.lt _)<|c.edge i⟩;simp_all
def solB (S:System)(x:List Int):Bool:=S.rows.all (rowH x)&&S.zvv.all (zcc x)&&(S.cases.isEmpty||S.cases.any λl=>l.all<|rowH x)
theorem zsc {n:Nat}{L:Nat}{S:System}{x:List Int}(hG:SysG L S.zvv S.cases)(hR:∀r∈S.rows,RwOK L r)(hRl:S.rows.length<=1024)(h:StB S.box x)(hL:S.box.length=L)(hn:1000000<=n):zeP n S x=O (solB S x):=by
 subst hL;obtain⟨bad,hbad⟩:∃bad:List Int,bad=(xm S.rows.length).flatMap λi=>if rowH x (S.rows.getD i J)=U then[]else[(i:Int)]:=⟨_,rfl⟩;obtain⟨badG,hbadG⟩:∃bad:List Int,bad=(xm S.zvv.length).flatMap λi=>if zcc x (S.zvv.getD i J)=U then[]else[(i:Int)]:=⟨_,rfl⟩;have hgl:=hG.gl;have hcl:=hG.cl;have hbl:bad.length<=1024:=by
  have:=zcW (f:=λi=>if rowH x (S.rows.getD i J)=U then([]:List Int)else[(i:Int)]) (B:=1) (l:=xm S.rows.length) λi _=>by split<;>simp
  rw[hbad];simp only[uI]at this;omega
 have hbgl:badG.length<=64:=by
  have:=zcW (f:=λi=>if zcc x (S.zvv.getD i J)=U then([]:List Int)else[(i:Int)]) (B:=1) (l:=xm S.zvv.length) λi _=>by split<;>simp
  rw[hbadG];simp only[uI]at this;omega
 have hfails:zaC n S x=O (bad,badG):=by
  unfold zaC;have h1:=zcw (body:=zaC.l1 n S x) (k:=S.rows.length) (n:=n) (st:=λ(o:List Int)i=>(o,(i:Int))) (λi=>if rowH x (S.rows.getD i J)=U then([]:List Int)else[(i:Int)]) (λo=>zvt (zaC.l2 n S x o) n (([]:List Int),0)) 1 [] (λi _=>by split<;>simp) (λrec o i hi hI=>?_) (λrec o hI=>?_)<|by omega
  ·refine(show zvt (zaC.l1 n S x) n (([]:List Int),0)=_ from h1).trans ?_;rw[yR,<-hbad];have h2:=zcw (body:=zaC.l2 n S x bad) (k:=S.zvv.length) (n:=n) (st:=λ(o:List Int)i=>(o,(i:Int))) (λi=>if zcc x (S.zvv.getD i J)=U then([]:List Int)else[(i:Int)]) (λo=>O (bad,o)) 1 [] (λi _=>by split<;>simp) (λrec o i hi hI=>?_) (λrec o hI=>?_)<|by omega
   ·refine(show zvt (zaC.l2 n S x bad) n (([]:List Int),0)=_ from h2).trans ?_;rw[yR,<-hbadG]
   ·obtain⟨K,hK⟩:=hG.gr _<|yh hi;have e:S.zvv.getD i J=S.zvv[i]:=by simp[yL,hi]
    simp only[zaC.l2,zy hi,if_true,jn,za hi,ya,zqh h hK hn,zd (i:=i)<|by omega,e];cases zcc x S.zvv[i]with|true=>simp|false=>simp only[ut,if_true,ye,if_false];rw[zk<|by simp at hI;simp;omega,ya]
   ·simp only[zaC.l2,zaj,ye,if_false]
  ·have e:S.rows.getD i J=S.rows[i]:=by simp[yL,hi]
   simp only[zaC.l1,zy hi,if_true,jn,za hi,ya,zg4 h (hR _<|yh hi) hn,zd (i:=i)<|by omega,e];cases rowH x S.rows[i]with|true=>simp|false=>simp only[ut,if_true,ye,if_false];rw[zk<|by simp at hI;simp;omega,ya]
  ·simp only[zaC.l1,zaj,ye,if_false]
 have hrows:bad=[]↔S.rows.all (rowH x)=true:=by
  rw[hbad,List.flatMap_eq_nil_iff,yo];constructor
  ·intro hh r hr;obtain⟨i,hi,rfl⟩:=wd hr;have:=hh i<|yX.2 hi;rw[show S.rows.getD i J=S.rows[i]by simp[yL,hi]]at this;split at this;·assumption
   ·simp at this
  ·intro hh i hi;have hi:=yX.1 hi;rw[show S.rows.getD i J=S.rows[i]by simp[yL,hi],if_pos<|hh _<|yh hi]
 have hgraphs:badG=[]↔S.zvv.all (zcc x)=true:=by
  rw[hbadG,List.flatMap_eq_nil_iff,yo];constructor
  ·intro hh r hr;obtain⟨i,hi,rfl⟩:=wd hr;have:=hh i<|yX.2 hi;rw[show S.zvv.getD i J=S.zvv[i]by simp[yL,hi]]at this;split at this;·assumption
   ·simp at this
  ·intro hh i hi;have hi:=yX.1 hi;rw[show S.zvv.getD i J=S.zvv[i]by simp[yL,hi],if_pos<|hh _<|yh hi]
 have halt:∃k,zaP n S x=O (k,S.cases.any λl=>l.all<|rowH x):=by
  unfold zaP;have:=zdn (body:=zaP.l1 n S x) (k:=S.cases.length) (n:=n) (st:=λ(_:Unit)i=>(i:Int)) (λi _=>(S.cases.drop i).any (λl=>l.all<|rowH x)=S.cases.any λl=>l.all<|rowH x) (λr:Int×Bool=>r.2=S.cases.any λl=>l.all<|rowH x) (λrec i _ hi hI hr=>?_) (λrec _ hI=>?_) (by omega) ()<|by simp
  ·obtain⟨⟨k,v⟩,h1,h2⟩:=this;simp only at h2;exact⟨k,by rw[<-h2];exact h1⟩
  ·have hl:=hG.ca _<|yh hi;have hc:=zhp (n:=n) (l:=S.cases[i]) (f:=λq0=>zcs n q0 x) (p:=λr=>!rowH x r) (λr hr=>by simp only[zcs,zg4 h (hl.2 r hr) hn,ya]) (by omega) hn;rw[zj hi,uX]at hI;simp only[zaP.l1,zy hi,if_true,za hi,ya,hc,zd (i:=i)<|by omega];have e:(!S.cases[i].any λr=>!rowH x r)=S.cases[i].all (rowH x):=by rw[List.all_eq_not_any_not]
   rw[e];cases ha:S.cases[i].all<|rowH x with
   |true=>rw[if_pos rfl];exact⟨_,rfl,by rw[ha]at hI;simpa using hI⟩|false=>rw[if_neg<|by simp];exact hr ()<|by rw[ha]at hI;simpa using hI
  ·simp only[zaP.l1,zaj,ye,if_false];exact⟨_,rfl,by simpa using hI⟩
 obtain⟨k,halt⟩:=halt;have hadd:zvp (bad.length:Int) (badG.length:Int)=((bad.length+badG.length:Nat):Int):=zcT<|by omega
 unfold zeP;rw[hfails,ya];simp only[hadd,halt,ya];unfold solB;have hce:((S.cases.length:Int)==0)=S.cases.isEmpty:=by rw[xP];simp
 rw[hce];by_cases hz:bad=[]/\badG=[];·rw[if_neg<|by rw[hz.1,hz.2];simp,hrows.1 hz.1,hgraphs.1 hz.2,yz,yz,Bool.or_comm]
 ·rw[if_pos<|by
   simp only[yf];have:0<bad.length+badG.length:=by refine xF λhn=>hz ⟨List.length_eq_zero_iff.1<|by omega,List.length_eq_zero_iff.1<|by omega⟩
   omega];have:(S.rows.all (rowH x)&&S.zvv.all (zcc x))=false:=by
   rw[uR];intro e;simp only[yc]at e;exact hz ⟨hrows.2 e.1,hgraphs.2 e.2⟩
  rw[this,ue]
theorem zqO {n m q rows a b S}{x}(hD:SysD n m q rows a b S)(hx:InB S.box x)(hn:1000000<=n):zfv n S x=O (solB S x):=by
 obtain⟨r,t,h⟩:=hD.g;have g:=hD.pi;have e:StB S.box x:=⟨hx,g.box⟩;have j:=g.len;have k:=hD.len;have s:=hx.len;have d:zeO n S x=O true:=by
  have u:=zbs (n:=n) (l:=x) (f:=λv=>zd1 n v) (p:=λy=>Z (y< -4000000)||decide (4000000<y)) (λy _=>rfl) (by omega)<|by omega
  have o:(x.any λy=>Z (y< -4000000)||decide (4000000<y))=false:=by
   rw[vS];intro y w;obtain⟨i,z,rfl⟩:=wd w;have:=e.val (c:=i) (by omega)<|by omega
   grind[za]
  unfold zeO;rw[(hD.valid1 hn).1,ya,u];simp only[grd];simp_all
 unfold zfv;rw[d,ya];simp only[zon e hn,yq,yw,grd,if_true,yi,uk,Bool.or_self,ye,if_false,zsc r t h e j hn,ya]
theorem zqe {n}(hn:1000000<=n):zaq n zws zws=O true:=by
 obtain⟨n,rfl⟩:∃m,n=m+1:=⟨n-1,by omega⟩;have b:zN n [] []=O true:=by
  unfold zN;rw[if_neg<|by simp,ze2<|by omega];simp[zN.l1]
 have a:∀f,zl n [] [] f=O true:=λf=>by
  unfold zl;rw[if_neg<|by simp,ze2<|by omega];simp[zl.l1]
 grind[zaq,zaq.body,zws,grd]
theorem zjU {n m q rows a b S}{x}{c:Nat}(hD:SysD n m q rows a b S)(hc:zf n m q rows=O (S,0))(hx:InB S.box x)(hcb:c<=65536)(hn:1000000<=n):zaz n m q ⟨0,x,zws,(c:Int)⟩ rows=O (solB S x):=by
 have d:=zqe hn;unfold zaz;rw[hc,ya];rw[if_neg<|by grind,if_pos<|by simp,zqO hD hx hn,ya];change grd (!solB S x||(zaq n zws zws).isSome) (O<|solB S x&&(zaq n zws zws).getD J)=_;grind[grd]
theorem zkB {b}{x}:zxA b x=U↔InB b x:=by
 constructor
 ·intro h;have e:=zgK h;refine⟨e,λc f a=>?_⟩;have d:c.toNat<b.length:=by omega
  have:=zgJ h c.toNat d<|by omega
  grind[rgP,valC]
 ·intro h;refine zmA h.len λi a g=>?_;have:=h.mem i (by omega)<|by omega
  grind[rgP,valC]
theorem zk7 {n m q rows a b S}{x}(hD:SysD n m q rows a b S)(hn:4294967296<=n)(hS:zvS m)(hx:InB (boxM m) x):solB S x=zdX m q rows a b x:=by
 have f:=hD.len;have d:zwq n m q a b x:=⟨hS,hD.valid,hD.quest,hD.ha,hD.hb,zkB.2 hx,by omega,hn⟩;obtain⟨xe,e,c⟩:=hD.tgt;rw[<-znG d e<|zqW hD.bad,<-c,<-hD.zvv];rfl
theorem zpX {S}{x}{b}(hx:InB b x):SolN S.zvv S.cases U S.rows b x↔solB S x=true:=by
 unfold solB;simp only[yc,yH,yo,uo,List.isEmpty_iff];constructor
 ·intro h;refine⟨⟨h.rows,h.zvv⟩,?_⟩;by_cases a:S.cases=[];·simp_all
  ·exact .inr<|h.case_ rfl a
 ·rintro⟨⟨d,e⟩,c⟩;exact⟨hx,d,e,λ_ a=>c.elim (λh=>absurd h a) id⟩
theorem zig {n m q rows a b S}{d}(hD:SysD n m q rows a b S)(hn:4294967296<=n)(hS:zvS m)(hk:(zwj S d).k=0):InB (boxM m) (zwj S d).v/\zdX m q rows a b (zwj S d).v=true:=by
 obtain⟨i,g,e⟩:=hD.g;have h:=zhR i (f:=d+1) (root:=U) (d:=d) g hD.pi hk;change SolN S.zvv S.cases U S.rows S.box (zwj S d).v at h;have c:=h.box;have j:=(zpX c).1 h;rw[hD.box]at c;grind[zk7]
theorem zns {n m q rows a b S}{d}(hD:SysD n m q rows a b S)(hn:4294967296<=n)(hS:zvS m)(h0:(zwj S d).k≠0)(h2:(zwj S d).k≠2){x}(hx:InB (boxM m) x):zdX m q rows a b x=false:=by
 obtain⟨g,i,c⟩:=hD.g;have h:=zhT g (f:=d+1) (root:=U) (d:=d) i hD.pi h0 h2 x;rw[<-zk7 hD hn hS hx,uR];exactλe=>h<|(zpX<|by rw[hD.box];grind).2 e
theorem ztJ {d y}(h:y.k=2):zy5 d y=⟨2,[],zws,(d:Int)⟩:=if_pos h
theorem ztH {d y}(h:y.k=0):zy5 d y=⟨0,y.v,zws,(y.c:Int)⟩:=by unfold zy5;simp_all
theorem ztI {d y}(h2:y.k≠2)(h0:y.k≠0):zy5 d y=⟨1,[],y.t,(y.c:Int)⟩:=by unfold zy5;simp_all
