/- The law holds for every input. No condition. -/
import Derived.Test.YtipkniadbkndfaaGreatDoorGm16
import Derived.Test.YtipkniadbkndfaaGreatDoorGm17
import Derived.Test.YtipkniadbkndfaaGreatDoorCards
import Derived.Test.YtipkniadbkndfaaGreatDoorTie
import Derived.JoinedCond
import Derived.Deep.DeepWitnessRowRef
import Derived.Lay
import Derived.ProofKit
set_option linter.all false
set_option maxRecDepth 100000
set_option maxHeartbeats 40000000
namespace Go.Proofs.YtipkniadbkndfaaGreatDoor
open Go Go.RowKit
open Option renaming some->O,none->Y
open Bool renaming true->U,false->M,eq_iff_iff->wb
open Decidable renaming decide->Z
open Inhabited renaming default->J
open List renaming length->xh,range->xr,replicate->xA,drop_length->xN,take_of_length_le->xS,take_succ_eq_append_getElem->wi,take_length->wn,range'->wr,mem_append_left->ws,all_nil->wy,set_cons_zero->wX,isEmpty_eq_false_iff->w9,getD->vo,getElem_cons_zero->vB,pairwise_flatMap->vW,flatMap_map->vZ,count_le_length->uS,all_append->uT
open D renaming reps->xv,rep->xC
open Classical renaming byContradiction->xV
open Nat renaming eq_of_beq_eq_true->ww,beq->wR,mod_lt->vQ
open List.Pairwise renaming imp_of_mem->vl
open Option.some renaming inj->vE
open Go.OpenSpec renaming ofChange->vV
open Go.Proofs.Tryz renaming prog->xg
abbrev ue:=@_root_.List.mem_flatMap
abbrev uF:=@_root_.List.getD_eq_getElem?_getD
abbrev uL:=@_root_.List.set_append_right
theorem zmy {n}{b}{rows}(hr:∀r∈rows,r.ztf.length<=1000)(hl:rows.length<=100000)(hn:1000000<=n):ztg (zT.l2 n b rows) n 0=O (rows.all (zvk (b.length:Int))):=by
 have:=zw (body:=zT.l2 n b rows) (len:=rows.length) (st:=λi=>i) (g:=λi=>O ((rows.drop i).all (zvk b.length))) (λc i a h=>?_) (λc=>?_) n 0 (yj _) (by omega);·simp_all
 ·rw[zj a];simp only[zT.l2,zb a,ya,zqQ (hr _ (yi a)) hn,zd (i:=i) (by omega)];grind
 ·simp[zT.l2]
theorem zjH {n}{b}{rows}(hb:b.length<=1000)(hr:∀r∈rows,r.ztf.length<=1000)(hl:rows.length<=100000)(hn:1000000<=n):zT n b rows=O (boxP b&&rows.all (zvk (b.length:Int))):=by
 unfold zT;by_cases h128:128<(b.length:Int);·grind[boxP]
 ·have hd:Z ((b.length:Int)<=128)=true:=by simp_all
  have:=zw (body:=zT.l1 n b rows) (len:=b.length) (st:=λi=>(i:Int)) (g:=λi=>O ((b.drop i).all (λr=>!(Z (r.lo< -1000000)||decide (1000000<r.lo)||decide (r.hi< -1000000)||decide (1000000<r.hi)))&&rows.all (zvk (b.length:Int)))) (λrec i hi h=>?_) (λrec=>?_) n 0 (yj _) (by omega)
  ·simp only[boxP];grind
  ·rw[zj hi];simp only[zT.l1,zb hi,za7,grd,zd (i:=i) (by omega)];have e:(!(Z (-1000000<=b[i].lo)&&Z (b[i].lo<=1000000))||!(Z (-1000000<=b[i].hi)&&Z (b[i].hi<=1000000)))=(Z (b[i].lo< -1000000)||decide (1000000<b[i].lo)||decide (b[i].hi< -1000000)||decide (1000000<b[i].hi)):=by grind
   grind
  ·simp only[zT.l1,zan,ye,if_false,zmy hr hl hn,xN,wy,yC]
theorem zjm {n}{r}{b}{c}(hb:boxP b=U)(hf:zvk (b.length:Int) r=U)(hl:r.ztf.length<=1000)(h0:0<=c)(h1:c<(b.length:Int))(hn:1000000<=n):zbq n r b c=O (ze2 r b c):=by
 have d:=by
  simp only[boxP,yd,yg]at hb;omega
 unfold zbq;rw[zjH (by omega) (λx i=>by simp_all) (by simp) hn,ya];rw[if_neg (by simp_all),zdW h0 h1,ya];simp only[zvk,yd,yg]at hf;obtain⟨e,f⟩:=hf;obtain⟨a,g⟩:=zfJ (by omega) e;exact zkL (zmD hb) (λt h=>⟨(a t h).2.1,(a t h).2.2.1,(a t h).2.2.2.2.1,(a t h).2.2.2.2.2⟩) hl f hn
def midP (r:Range):Int:=(r.lo+r.hi)/2
theorem box1 {b}{r}(hb:boxP b=U)(hr:r∈b):boxP [r]=true:=by grind[boxP]
theorem zpz {n}{r}(hr:boxP [r]=U)(hn:1000000<=n):zcO n r=O (midP r):=by
 have h:=zmD hr r (by simp);unfold zcO;rw[zrz (by simp) hn,ya,hr];have a:ztc r.lo r.hi=r.lo+r.hi:=zaf (by omega) (by omega);simp only[a];rw[zlT (by omega) ⟨by omega,by omega⟩,ya];rfl
theorem znz {n}{r}(hr:boxP [r]=U)(hn:1000000<=n):zdp n r=O (midP r):=by
 have h:=zmD hr r (by simp);unfold zdp;rw[zjH (by simp) (by simp) (by simp) hn,ya,hr];have a:ztc r.lo r.hi=r.lo+r.hi:=zaf (by omega) (by omega);simp only[a];rw[zny (by omega) ⟨by omega,by omega⟩,ya];rfl
theorem app1 {α}{k}{l}{x:α}(h:(l.length+1)*k<=140737488355328):Go.Proofs.YtipkniadbkndfaaGreatDoor.app k l [x]=O (l++[x]):=by
 unfold Go.Proofs.YtipkniadbkndfaaGreatDoor.app;simp_all
def zup (b:List Range)(c:Int)(r:Range):List Range:=if 0<=c then b.set c.toNat r else b
theorem zfB (b c r):(zup b c r).length=b.length:=by grind[zup]
theorem zjI {n}{b}{c}{r}(hl:b.length<=1000)(hn:1000000<=n):zbI n b c r=O (zup b c r):=by
 have:=zw (body:=zbI.l1 n b c r) (len:=b.length) (st:=λi=>((zup b c r).take i,i)) (g:=λ_=>O (zup b c r)) (λd i e h=>?_) (λd=>?_) n 0 (yj _) (by omega);·grind[zbI]
 ·have a:i<(zup b c r).length:=by grind[zfB]
  rw[yt a]at h;simp only[zbI.l1,zC e,jn,zd (i:=i) (by omega),beq_iff_eq];by_cases f:i=c
  ·have j:(zup b c r)[i]=r:=by grind[zup]
   rw[if_pos f,app1 (by grind),ya];simp_all
  ·have j:(zup b c r)[i]=b[i]:=by grind[zup]
   rw[if_neg f,zb e,ya,app1 (by grind),ya];simp_all
 grind[zfB,zbI.l1]
theorem zqP {n}{b}(hl:b.length<=1000)(hn:1000000<=n):zbP n b=O (b.map (·.lo)):=by
 have:=zw (body:=zbP.l1 n b) (len:=b.length) (st:=λi=>((b.map (·.lo)).take i,i)) (g:=λ_=>O (b.map (·.lo))) (λc i d h=>?_) (λc=>?_) n 0 (yj _) (by omega);·grind[zbP]
 ·have a:i<(b.map (·.lo)).length:=by simp_all
  rw[yt a]at h;simp only[zbP.l1,zb d,zd (i:=i) (by omega)];grind[app1]
 grind[xS,zbP.l1]
inductive zxu:List Row->List Row->Prop|nil:zxu [] []|cons{r s:Row}{R S:List Row}:r.ztf=s.ztf->r.bound<=s.bound->zxu R S->zxu (r::R) (s::S)
theorem zpy {n l}(hl:l.length<1000000)(hn:1000000<=n):zcn n l l=O true:=by
 unfold zcn;have:=zw (body:=zcn.l1 n l l) (len:=l.length) (st:=λi=>i) (g:=λ_=>O U) (λa i b c=>?_) (λa=>?_) n 0 (yj _) (by omega);·simp_all
 ·simp only[zcn.l1,zC b,if_true,zb b,ya,bne_self_eq_false,ye,if_false,zd (i:=i) (by omega),c]
 ·simp[zcn.l1]
theorem zpF {d}(hd:zfx d):∀{l},(∀t∈l,-1000<=t.ztl/\t.ztl<=1000)->-(1000000000000*(l.length:Int))<=chgP d l/\chgP d l<=1000000000000*(l.length:Int)
 |[],_=>by simp[chgP]|t::l,h=>by
  have f:=zpF hd (l:=l) λt g=>h t (by grind);obtain⟨b,e⟩:=h t (by simp);obtain⟨c,a⟩:=zcL hd t.cell;have:=zi9 b e c a;grind[chgP]
theorem znI {n a r}(ha:zuk a)(hd:zfx a.effect.delta)(ht:∀t∈r.ztf,-1000<=t.ztl/\t.ztl<=1000)(hl:r.ztf.length<=1000)(hn:1000000<=n):-1000000000000000<=chgN n a r/\chgN n a r<=1000000000000000:=by
 have b:=ha.delta;unfold chgN;rw[zcv (by omega) (by omega) (by omega) (by omega),zjR hd ht hl];have:=zpF hd ht;grind
theorem zlU (x y):x<=gmax x y/\y<=gmax x y:=by grind[gmax]
theorem zlV {x y B}(h1:x<=B)(h2:y<=B):gmax x y<=B:=by grind[gmax]
theorem zq3 {n}{q}{rows less}{a b}{i:Nat}{c}(hx:-1000000000000000<=chgN n a c.row/\chgN n a c.row<=1000000000000000)(hy:-1000000000000000<=chgN n b c.row/\chgN n b c.row<=1000000000000000)(hsub:(i:Int)∈less->(i:Int)∈rows):0<=kS n q less a b i c/\kS n q less a b i c<=kS n q rows a b i c/\kS n q rows a b i c<=2000000000000000:=by
 have j:ztc (chgN n a c.row) (chgN n b c.row)=chgN n a c.row+chgN n b c.row:=zcu (by omega) (by omega);unfold kS;generalize chgN n a c.row=x at*;generalize chgN n b c.row=y at*;have f:=zlU 0 x;have g:=zlU (gmax 0 x) y;have h:=zlU (gmax (gmax 0 x) y) (x+y);have d:gmax 0 x<=1000000000000000:=zlV (by omega) (by omega);have k:gmax (gmax 0 x) y<=1000000000000000:=zlV d (by omega);have e:gmax (gmax (gmax 0 x) y) (x+y)<=2000000000000000:=zlV (by omega) (by omega);grind
theorem zn5 {n m q rows a b}(hl:m.constraints.length<=60)(hc:∀c∈m.constraints,c.row.ztf.length<=1000):(zu5 n m q rows a b).length<=60/\∀r∈zu5 n m q rows a b,r.ztf.length<=1000:=by
 unfold zu5;constructor
 ·have:∀k,((xr k).flatMap λi=>rowS n q rows a b i (m.constraints.getD i J)).length<=k:=by
   intro k;induction k with
   |zero=>simp|succ k ih=>
    rw[ziJ,yR];grind[rowS]
  grind
 grind[rowS]
theorem zk5 {m}(hS:ztW m){a}(ha:a∈m.zte):zuk a:=by obtain⟨-,c,b,-,e⟩:=hS.act a ha;exact⟨c,b,λr d=>by grind⟩
theorem zrB {m}(hS:ztW m)(hV:zuS m){c}(hc:c∈m.constraints):zuO (boxM m).length c:=by
 have i:=hS.con c hc;rcases zrA hS hV hc with⟨a,-,-,-⟩|⟨s,a,e,d,f,g,b⟩;·exact⟨.inl a,by omega,λh=>by omega⟩
 ·exact⟨.inr a,by omega,λ_=>⟨s,e,d,f,g,b⟩⟩
theorem zpI {m}(hV:zuS m){c}(hc:c∈m.constraints)(hk:c.kind=0):zt1 (zY m.ztj U m.tables).length c.row=true:=by
 rcases zkH hV hc with h|h
 ·simp only[zeU]at h;grind
 grind[zlE]
theorem zoW {R X G cs}(hR:R.length<=60/\∀r∈R,r.ztf.length<=1000)(hX:X.length<=30/\∀r∈X,r.ztf.length<=1000)(hG:G.length<=3000/\∀g∈G,g.least.length<=36)(hc:zf5 cs):SysOK (R++X) G cs:=by
 refine⟨⟨by grind,λr c=>?_⟩,⟨by omega,λg e=>by grind⟩,⟨by have:=hc.1;omega,λb a=>?_⟩⟩;·grind
 ·obtain⟨f,d⟩:=hc.2 b a;exact⟨by omega,λr c=>by grind⟩
section
variable(E:Nat->Nat->Bool)(K:Nat)
def fstN (l:List Int):Nat:=(l.headD 0).toNat
def lstN (l:List Int):Nat:=(l.getLastD 0).toNat
def zeb (l:List Int):Bool:=E (lstN l) (fstN l)
def ext1 (l:List Int)(i:Nat):List (List Int):=if(E (lstN l) (fstN l+1+i)&&!decide (((fstN l+1+i:Nat):Int)∈l))=U then[l++[((fstN l+1+i:Nat):Int)]]else[]
def ext (l:List Int):List (List Int):=(xr (K-(fstN l+1))).flatMap (ext1 E l)
def dfs:Nat->List Int->List (List Int)|0,_=>[]|d+1,l=>(if zeb E l=U then[l]else[])++(ext E K l).flatMap (dfs d)
def lev:Nat->List (List Int)->List (List Int)|0,ls=>ls|r+1,ls=>lev r (ls.flatMap (ext E K))
theorem zjv:∀(r)(ls),lev E K (r+1) ls=(lev E K r ls).flatMap (ext E K)|0,_=>rfl|r+1,ls=>zjv r (ls.flatMap (ext E K))
theorem zfZ {α β:Type}(f g:α->List β):∀l:List α,(l.flatMap λx=>f x++g x).Perm (l.flatMap f++l.flatMap g)|[]=>by simp|x::l=>by simp only[uB,yJ];refine .append_left _ ?_;exact((zfZ f g l).append_left _).trans (List.perm_append_comm_assoc _ _ _)
theorem zix {α:Type}(p):∀l:List α,(l.flatMap λx=>if p x=U then[x]else[])=l.filter p|[]=>rfl|x::l=>by rw[uB,zix p l,List.filter_cons];grind
theorem zoe:∀(d:Nat)(ls:List (List Int)),(ls.flatMap (dfs E K d)).Perm ((xr d).flatMap λr=>(lev E K r ls).filter (zeb E))
 |0,ls=>by
  have:ls.flatMap (dfs E K 0)=[]:=List.flatMap_eq_nil_iff.2 λ_ _=>rfl;rw[this];exact .refl _|d+1,ls=>by
  have e:ls.flatMap (dfs E K (d+1))=ls.flatMap λl=>(if zeb E l=U then[l]else[])++(ext E K l).flatMap (dfs E K d):=rfl;rw[e,List.range_succ_eq_map,uB,vZ];refine(zfZ _ _ ls).trans ?_;rw[zix];refine .append_left _ ?_;have:=zoe d (ls.flatMap (ext E K));rw[List.flatMap_assoc]at this;exact this
theorem zi7:∀(l x y),lexP (l++x) (l++y)=lexP x y|[],_,_=>rfl|a::l,x,y=>by simp only[ur,lexP];rw[if_neg (by omega),if_neg (by omega)];exact zi7 l x y
theorem zlh:∀{l m}(x y),l.length=m.length->lexP l m<0->lexP (l++x) (m++y)<0
 |[],[],_,_,_,h=>by grind[lexP]|[],_::_,_,_,h,_=>by grind|_::_,[],_,_,h,_=>by grind|a::l,b::m,x,y,e,h=>by
  simp only[ur,lexP]at h|-;split;·omega
  ·rename_i d;rw[if_neg d]at h;split;·simp_all
   ·rename_i c;rw[if_neg c]at h;exact zlh x y (by simp_all) h
theorem zma {l x i}(h:x∈ext1 E l i):E (lstN l) (fstN l+1+i)=U/\((fstN l+1+i:Nat):Int)∉l/\x=l++[((fstN l+1+i:Nat):Int)]:=by unfold ext1 at h;simp_all
theorem ziF {l x}(h:x∈ext E K l):∃i,i<K-(fstN l+1)/\E (lstN l) (fstN l+1+i)=U/\((fstN l+1+i:Nat):Int)∉l/\x=l++[((fstN l+1+i:Nat):Int)]:=by
 obtain⟨i,b,a⟩:=ue.1 h;grind[zma]
theorem zsU (l):(ext E K l).Pairwise λx y=>lexP x y<0:=by
 unfold ext;rw[vW];refine⟨λi _=>?_,List.pairwise_lt_range.imp λ{i j}b x c y a=>?_⟩;·unfold ext1;split<;>simp
 ·obtain⟨-,-,rfl⟩:=zma E c;obtain⟨-,-,rfl⟩:=zma E a;rw[zi7];simp only[lexP];simp_all
theorem zox:∀(r c)(ls),(∀l∈ls,l.length=c)->(ls.Pairwise λx y=>lexP x y<0)->(∀l∈lev E K r ls,l.length=c+r)/\(lev E K r ls).Pairwise λx y=>lexP x y<0
 |0,c,ls,h,e=>⟨h,e⟩|r+1,c,ls,h,e=>by
  have:=zox r (c+1) (ls.flatMap (ext E K)) (λx d=>?_) ?_;·exact⟨λl g=>by rw[this.1 l g];omega,this.2⟩
  ·obtain⟨l,g,d⟩:=ue.1 d;obtain⟨i,-,-,-,rfl⟩:=ziF E K d;simp_all
  ·rw[vW];refine⟨λl _=>zsU E K l,?_⟩;refine vl (λ{a b}m n f x d y k=>?_) e;obtain⟨i,-,-,-,rfl⟩:=ziF E K d;obtain⟨j,-,-,-,rfl⟩:=ziF E K k;exact zlh _ _ (by simp_all) f
theorem zpH (x y):cmpC x y<0↔x.length<y.length\/x.length=y.length/\lexP x y<0:=by grind[cmpC,cmpI]
theorem zsI (d c ls)(h1:∀l∈ls,l.length=c)(h2:ls.Pairwise λx y=>lexP x y<0):((xr d).flatMap λr=>(lev E K r ls).filter (zeb E)).Pairwise λx y=>cmpC x y<0:=by
 rw[vW];refine⟨λr _=>?_,List.pairwise_lt_range.imp λ{i j}b x e y a=>?_⟩
 ·have:=zox E K r c ls h1 h2;grind[vl,zpH]
 ·have g:=(zox E K i c ls h1 h2).1 x (List.mem_filter.1 e).1;have f:=(zox E K j c ls h1 h2).1 y (List.mem_filter.1 a).1;rw[zpH];simp_all
end
theorem zmY {α:Type}{R}(hanti:∀a b,R a b->R b a->a=b):∀{l m:List α},l.Perm m->l.Pairwise R->m.Pairwise R->l=m
 |[],m,h,_,_=>by simp_all|a::l,[],h,_,_=>by simp_all|a::l,b::m,h,d,c=>by
  have e:a=b:=by grind[List.pairwise_cons,List.mem_cons_self]
  subst e;rw[zmY hanti ((List.perm_cons a).1 h) (uP.1 d).2 (uP.1 c).2]
def ones (K:Nat):List (List Int):=(xr K).map λ(i:Nat)=>[(i:Int)]
theorem zqg (K):(∀l∈ones K,l.length=1)/\(ones K).Pairwise λx y=>lexP x y<0:=by
 unfold ones;refine⟨λl b=>?_,?_⟩;·grind
 ·rw[List.pairwise_map];refine List.pairwise_lt_range.imp λ{i j}a=>?_;simp only[lexP];simp_all
def cycP (E:Nat->Nat->Bool)(K:Nat):List (List Int):=(xr K).flatMap λr=>(lev E K r (ones K)).filter (zeb E)
theorem zcw {α β:Type}{f:α->List β}{B}:∀{l:List α},(∀x∈l,(f x).length<=B)->(l.flatMap f).length<=l.length*B
 |[],_=>by simp|x::l,h=>by
  have b:=zcw (l:=l) λy a=>h y (by simp[a]);grind[Nat.succ_mul]
theorem znM {E}{K}(hK:K<=6)(l):(ext E K l).length<=6:=by
 have:=zcw (f:=ext1 E l) (B:=1) (l:=xr (K-(fstN l+1))) λi _=>by grind[ext1]
 unfold ext;grind
theorem zlQ {E}{K}(hK:K<=6):∀(d)(l),(dfs E K d l).length<=7^d
 |0,_=>by simp[dfs]|d+1,l=>by
  have a:=znM (E:=E) hK l;have c:=zcw (f:=dfs E K d) (B:=7^d) (l:=ext E K l) λx _=>zlQ hK d x;have b:(ext E K l).length*7^d<=6*7^d:=yM _ a;simp only[dfs];grind
structure zuh (K:Nat)(l:List Int):Prop where
 nd:l.Nodup
 pos:1<=l.length
 mem:∀x∈l,0<=x/\x<(K:Int)
theorem zuh.len {K l}(h:zuh K l):l.length<=K:=zjx h.nd h.mem
theorem zuh.snoc {K l}(h:zuh K l){b}(hb:b<K)(hm:(b:Int)∉l):zuh K (l++[(b:Int)]):=by
 refine⟨?_,by simp,λx c=>?_⟩;·rw[uQ];exact⟨h.nd,by simp,λa f g d e=>by grind⟩
 ·rcases yu.1 c with c|c;·exact h.mem x c
  grind
theorem zuh.fst {K l}(h:zuh K l):idx l 0=O ((fstN l:Nat):Int)/\fstN l<K:=by cases l with
 |nil=>have:=h.pos;grind|cons x t=>
  have:=h.mem x (by simp);have e:fstN (x::t)=x.toNat:=rfl;have:idx (x::t) 0=O x:=rfl;grind
theorem zuh.lst {K l}(h:zuh K l)(h6:K<=6):idx l (ztn (l.length:Int) 1)=O ((lstN l:Nat):Int)/\lstN l<K:=by
 have d:=h.pos;have c:=h.len;have a:l.length-1<l.length:=by omega
 have e:=h.mem _ (yi a);have b:lstN l=l[l.length-1].toNat:=by grind[lstN]
 rw[zd9 (by omega) (by omega),zb a,b];grind
theorem zrq {n}{g}{K}(hg:zur g K)(hn:1000000<=n):∀(d k)(l)(out),zuh K l->K-l.length=d->d<k->out.length<=1000000-7^(d+1)->d<=5->zE n g k l out=O (out++dfs (hasP g) K (d+1) l):=by
 intro d;induction d using Nat.strongRecOn with|ind d ih=>
  intro k l out hp hd hk ho hd5;obtain⟨k,rfl⟩:∃k',k=k'+1:=⟨k-1,by omega⟩;have hK:=hg.le;have hl1:=hp.pos;have hl2:=hp.len;have hp7:7<=7^(d+1):=Nat.le_self_pow (by omega) 7;obtain⟨e2,hfK⟩:=hp.fst;obtain⟨e1,hlK⟩:=hp.lst hK;have h7:7^(d+1)=7*7^d:=by grind
  have hone:1<=7^d:=Nat.one_le_pow _ _ (by omega);have h77:7^(d+1)<=117649:=by
   have:7^(d+1)<=7^6:=uj (by omega) (by omega);grind
  simp only[zE,e1,e2,ya,zle hg hlK hfK];have loop:∀out1:List (List Int),out1.length<=out.length+1->ztg (zE.l1 n g (zE n g k) l ((lstN l:Nat):Int)) n (ztc ((fstN l:Nat):Int) 1,out1)=O (out1++(ext (hasP g) K l).flatMap (dfs (hasP g) K d)):=by
   intro out1 ho1;rw[zd (by omega)];have:=zcz (body:=zE.l1 n g (zE n g k) l ((lstN l:Nat):Int)) (k:=K-(fstN l+1)) (n:=n) (st:=λ(o:List (List Int))i=>(((fstN l+1+i:Nat):Int),o)) (λi=>(ext1 (hasP g) l i).flatMap (dfs (hasP g) K d)) O (7^d) out1 (λi hi=>?_) (λrec o i hi hI=>?_) (λrec o hI=>?_) (by omega);·simp only[ut]at this;rw[this];unfold ext;rw[List.flatMap_assoc]
   ·have h1:=zcw (f:=dfs (hasP g) K d) (B:=7^d) (l:=ext1 (hasP g) l i) λx _=>zlQ hK d x;have h2:(ext1 (hasP g) l i).length<=1:=by unfold ext1;split<;>simp
    have h3:(ext1 (hasP g) l i).length*7^d<=1*7^d:=yM _ h2;omega
   ·have hb:fstN l+1+i<K:=by omega
    have hlt:Z (((fstN l+1+i:Nat):Int)<g.size)=true:=by rw[hg.size];simp;omega
    have hnx:ztc ((fstN l+1+i:Nat):Int) 1=((fstN l+1+(i+1):Nat):Int):=by rw[zd (by omega)];rfl
    simp only[zE.l1,hlt,if_true,zle hg hlK hb,ya,hnx];unfold ext1;by_cases hh:hasP g (lstN l) (fstN l+1+i)=U
    ·rw[if_pos hh,zd4 (by omega) hn,ya];by_cases hm:((fstN l+1+i:Nat):Int)∈l;·rw[if_pos (by simpa using hm),if_neg (by simp only[hm,decide_true,ul,Bool.and_false];simp)];simp
     ·rw[if_neg (by simpa using hm),zl (by simp;omega),ya,yP,zl (by simp;omega),ya,if_pos (by simp only[hh,hm,decide_false,ux,uN])];have hp2:=hp.snoc hb hm;have hlen:=hp2.len;simp only[yR,yU,ui]at hlen;have hd1:1<=d:=by omega
      have h6:i*7^d<=5*7^d:=yM _ (by omega);have:=ih (d-1) (by omega) k (l++[((fstN l+1+i:Nat):Int)]) o hp2 (by simp;omega) (by omega) (by rw[show d-1+1=d by omega];omega) (by omega);rw[show d-1+1=d by omega]at this;rw[this,ya];simp
    ·rw[if_neg hh,if_neg (by simp only[yT]at hh;simp[hh])];simp
   ·have hge:Z (((fstN l+1+(K-(fstN l+1)):Nat):Int)<g.size)=false:=by rw[hg.size];simp;omega
    simp only[zE.l1,hge,ye,if_false]
  have hcl:zeb (hasP g) l=hasP g (lstN l) (fstN l):=rfl;simp only[dfs,hcl];by_cases hh:hasP g (lstN l) (fstN l)=U;·rw[if_pos hh,if_pos hh,zl (by simp;omega),ya,yP,zl (by simp;omega),ya,loop _ (by simp),yJ]
  grind
theorem zpM {n g K}(hg:zur g K)(hn:1000000<=n):ztg (ztI.l1 n g) n (0,[])=O ((ones K).flatMap (dfs (hasP g) K K)):=by
 have e:=hg.le;have c:7^K<=117649:=by
  have:7^K<=7^6:=uj (by omega) (by omega);grind
 have:=zcz (body:=ztI.l1 n g) (k:=K) (n:=n) (st:=λo i=>(i,o)) (λi=>dfs (hasP g) K K [i]) O 117649 [] (λi d=>yI (zlQ e K _) c) (λb o i d f=>?_) (λb o f=>?_) (by omega);·grind[ones,vZ]
 ·have h:Z (i<g.size)=true:=by rw[hg.size];grind
  have j:=zrq hg hn (K-1) n [i] o ⟨by simp,by simp,by grind⟩ (by simp) (by omega) (by grind) (by omega);simp only[ztI.l1];grind[zd]
 ·have a:Z (K<g.size)=false:=by rw[hg.size];simp
  simp only[ztI.l1,a,ye,if_false]
theorem zqa {E K}:∀(d){l x},zuh K l->x∈dfs E K d l->zuh K x
 |0,_,_,_,h=>by grind[dfs]|d+1,l,x,b,h=>by
  simp only[dfs,yu,ue]at h;rcases h with h|⟨y,c,e⟩;·grind
  ·obtain⟨i,f,-,a,rfl⟩:=ziF E K c;exact zqa d (b.snoc (by omega) a) e
theorem zme {K i}(hi:i<K):zuh K [(i:Int)]:=⟨by simp,by simp,by grind⟩
theorem zit {n}{ztr}{K:Nat}(h1:1<=K)(h6:K<=6)(hl:ztr.length=K*K)(hn:1000000<=n):zbo n (K:Int) ztr=O (cycP (hasP ⟨(K:Int),ztr⟩) K):=by
 have hg:zur ⟨(K:Int),ztr⟩ K:=⟨rfl,h6,hl⟩;have h4:K*K<=36:=y8 h6 h6;have e:zto (K:Int) (K:Int)=((K*K:Nat):Int):=by grind[zto,zaf,Int.natCast_mul]
 have hopen:zbW n (K:Int) ztr=O (⟨(K:Int),ztr⟩,U):=by
  unfold zbW;rw[e,hl];grind
 have hd:7^K<=117649:=by
  have:7^K<=7^6:=uj (by omega) (by omega);grind
 unfold zbo;rw[hopen,ya,if_neg (by simp),zpM hg hn,ya];have hmem:∀x∈(ones K).flatMap (dfs (hasP ⟨(K:Int),ztr⟩) K K),zuh K x:=λx hx=>by obtain⟨l,hl,hx⟩:=ue.1 hx;obtain⟨i,hi,rfl⟩:=y9.1 hl;exact zqa K (zme (ub.1 hi)) hx
 have hlen:((ones K).flatMap (dfs (hasP ⟨(K:Int),ztr⟩) K K)).length<=6*117649:=by
  have:=zcw (f:=dfs (hasP ⟨(K:Int),ztr⟩) K K) (B:=117649) (l:=ones K) λx _=>yI (zlQ h6 K x) hd;grind[ones,Nat.le_trans,Nat.mul_le_mul_right]
 obtain⟨s1,s2⟩:=zoV (f:=zcj n) (c:=cmpC) (l:=(ones K).flatMap (dfs (hasP ⟨(K:Int),ztr⟩) K K)) (λx hx y _=>zip (by have:=(hmem x hx).len;omega) hn) (λx=>by grind[zfG]) (λ_ _ _=>zio) (λ_ _ _=>zjS) (by omega);rw[s1];refine congrArg O ?_;have hp:=ziM s2;have hs:=znl s2;refine zmY (R:=λx y=>¬cmpC y x<0) (λa b h1 h2=>?_) (hp.trans (zoe _ K K (ones K))) ?_ ?_;·grind[zfG,zjT]
 ·refine vl (λ{a b}ha hb hab=>?_) hs;have ha':=hmem a (hp.mem_iff.1 ha);have hb':=hmem b (hp.mem_iff.1 hb);rw[zip (by have:=hb'.len;omega) hn]at hab;exact hab
 ·refine(zsI _ K K 1 (ones K) (zqg K).1 (zqg K).2).imp λ{a b}h=>?_;have:=zfG a b;omega
theorem zpn {γ δ S R:Type}{body}{k n}{st:List γ->List δ->Nat->S}(g)(h)(fin:List γ->List δ->Option R)(B)(b0)(c0)(hB:∀i,i<k->(g i).length<=B)(hC:∀i,i<k->(h i).length<=B)(step:∀rec(b)(c)i,i<k->b.length<=b0.length+i*B->c.length<=c0.length+i*B->body rec (st b c i)=rec (st (b++g i) (c++h i) (i+1)))(done:∀rec(b)(c),b.length<=b0.length+k*B->c.length<=c0.length+k*B->body rec (st b c k)=fin b c)(hn:k<n):ztg body n (st b0 c0 0)=fin (b0++(xr k).flatMap g) (c0++(xr k).flatMap h):=by
 have:=zaS (σ:=List γ×List δ) (body:=body) (len:=k) (st:=λs i=>st s.1 s.2 i) (g:=λi s=>fin (s.1++(wr i (k-i)).flatMap g) (s.2++(wr i (k-i)).flatMap h)) (λi s=>s.1.length<=b0.length+i*B/\s.2.length<=c0.length+i*B) (λrec i s e a d=>?_) (λrec s a=>?_) n 0 (b0,c0) (yj _) (by omega) (by simp);·grind[List.range_eq_range']
 ·rw[step rec s.1 s.2 i e a.1 a.2,d (s.1++g i,s.2++h i) ⟨by grind,by grind⟩];have:wr i (k-i)=i::wr (i+1) (k-(i+1)):=by rw[show k-i=k-(i+1)+1 by omega,List.range'_succ]
  grind
 grind
theorem zgw {n l v}(hl:l.length<1000000)(hn:1000000<=n):zcB n l v=O (Z (v∈l)):=by
 unfold zcB;have:=zav (body:=zcB.l1 n l v) (l:=l) (n:=n) (st:=λi=>i) (λx=>! x==v) (O U) (O M) (λa i b=>?_) (λa=>?_) (by omega);·grind
 ·simp only[zcB.l1,zb b];grind[zd]
 ·simp only[zcB.l1,zan,ye,if_false]
theorem zh2 {n l v}(hl:l.length<1000000)(hn:1000000<=n):zcE n l v=O (l++[v]):=by
 unfold zcE;have:=zdZ (body:=zcE.l1 n l v) (l:=l) (n:=n) (st:=λb i=>(b,i)) (λx=>x) (λb=>O (b++[v])) [] (λa b i d c=>?_) (λa b c=>?_) (by omega);·simp_all
 ·simp only[zcE.l1,zb d];grind[zl,zd]
 ·simp only[zcE.l1];grind[zl]
theorem zlR {ztr}{K a b:Nat}(hg:zur ⟨(K:Int),ztr⟩ K)(ha:a<K)(hb:b<K):idx ztr (ztc (zto (a:Int) (K:Int)) (b:Int))=O (hasP ⟨(K:Int),ztr⟩ a b):=by
 have:=zle (n:=0) hg ha hb;grind[zaQ]
theorem zhP {E K}:∀(r){ls},(∀l∈ls,zuh K l)->∀l∈lev E K r ls,zuh K l|0,_,h=>h|r+1,ls,h=>zhP r λx a=>by obtain⟨l,c,a⟩:=ue.1 a;obtain⟨i,d,-,b,rfl⟩:=ziF E K a;exact(h l c).snoc (by omega) b
theorem zp5 {E K}(h6:K<=6):∀(r)(ls),(lev E K r ls).length<=ls.length*7^r
 |0,ls=>by simp[lev]|r+1,ls=>by
  have b:=zp5 (E:=E) h6 r (ls.flatMap (ext E K));have c:=zcw (f:=ext E K) (B:=6) (l:=ls) λx _=>znM h6 x;have a:(ls.flatMap (ext E K)).length*7^r<=ls.length*7*7^r:=yM _ (by omega);rw[Nat.pow_succ,Nat.mul_comm (7^r) 7,<-Nat.mul_assoc];exact yI b a
theorem zhV {K}:∀l∈ones K,zuh K l:=λl a=>by
 obtain⟨i,b,rfl⟩:=y9.1 a;grind[zme]
theorem zmK {α:Type}(p)(l:List α)(d):(xr l.length).flatMap (λi=>if p (l.getD i d)=U then[l.getD i d]else[])=l.filter p:=by
 rw[<-zix p l];have e:l=(xr l.length).map λi=>l.getD i d:=by
  refine List.ext_getElem (by simp) λi b a=>?_;grind
 grind[vZ]
theorem ziy {α β:Type}(f:α->List β)(l:List α)(d):(xr l.length).flatMap (λi=>f (l.getD i d))=l.flatMap f:=by
 have e:l=(xr l.length).map λi=>l.getD i d:=by
  refine List.ext_getElem (by simp) λi b a=>?_;grind
 grind[vZ]
theorem zn1 {n}{ztr}{K}(h6:K<=6)(hl:ztr.length=K*K)(hn:1000000<=n){ls out}{r}{rec}(hp:∀l∈ls,zuh K l)(hlen:ls.length<=800000)(ho:out.length<=100000000):ztg (zH.l3 n (K:Int) ztr ls r rec) n (out,([]:List (List Int)),0)=rec (out++ls.filter (zeb (hasP ⟨(K:Int),ztr⟩)),ls.flatMap (ext (hasP ⟨(K:Int),ztr⟩) K),ztc r 1):=by
 have hg:zur ⟨(K:Int),ztr⟩ K:=⟨rfl,h6,hl⟩;have:=zpn (body:=zH.l3 n (K:Int) ztr ls r rec) (k:=ls.length) (n:=n) (st:=λb c i=>(b,c,(i:Int))) (λi=>if zeb (hasP ⟨(K:Int),ztr⟩) (ls.getD i [])=U then[ls.getD i []]else[]) (λi=>ext (hasP ⟨(K:Int),ztr⟩) K (ls.getD i [])) (λb c=>rec (b,c,ztc r 1)) 6 out [] (λi _=>by grind) (λi _=>znM h6 _) (λrec2 b c i hi hb hc=>?_) (λrec2 b c hb hc=>?_) (by omega)
 ·rw[zmK,ziy]at this;grind
 ·have e:ls.getD i []=ls[i]:=by grind
  have hpl:=hp _ (yi hi);obtain⟨e2,hfK⟩:=hpl.fst;obtain⟨e1,hlK⟩:=hpl.lst h6;have hlK6:=hpl.len;rw[e];have inner:∀b1:List (List Int),ztg (zH.l4 n (K:Int) ztr ls (i:Int) rec2 ((lstN ls[i]:Nat):Int) b1) n (c,ztc ((fstN ls[i]:Nat):Int) 1)=rec2 (b1,c++ext (hasP ⟨(K:Int),ztr⟩) K ls[i],((i+1:Nat):Int)):=by
   intro b1;rw[zd (by omega)];have:=zcz (body:=zH.l4 n (K:Int) ztr ls (i:Int) rec2 ((lstN ls[i]:Nat):Int) b1) (k:=K-(fstN ls[i]+1)) (n:=n) (st:=λ(o:List (List Int))j=>(o,((fstN ls[i]+1+j:Nat):Int))) (λj=>ext1 (hasP ⟨(K:Int),ztr⟩) ls[i] j) (λo=>rec2 (b1,o,ztc (i:Int) 1)) 1 c (λj _=>by unfold ext1;split<;>simp) (λrec3 o j hj hI=>?_) (λrec3 o hI=>?_) (by omega);·simp only[ut]at this;rw[this,zd (i:=i) (by omega)];rfl
   ·have hb:fstN ls[i]+1+j<K:=by omega
    have hlt:Z (((fstN ls[i]+1+j:Nat):Int)<(K:Int))=true:=by simp;omega
    have hnx:ztc ((fstN ls[i]+1+j:Nat):Int) 1=((fstN ls[i]+1+(j+1):Nat):Int):=by rw[zd (by omega)];rfl
    simp only[zH.l4,hlt,if_true,jn,zlR hg hlK hb,zb hi,ya,yp,ym,zgw (show ls[i].length<1000000 by omega) hn,zh2 (show ls[i].length<1000000 by omega) hn,yy,grd,hnx];unfold ext1;split;·rw[zl (by simp at hI hc;simp;omega),ya]
    ·simp
   ·have hge:Z (((fstN ls[i]+1+(K-(fstN ls[i]+1)):Nat):Int)<(K:Int))=false:=by simp;omega
    simp only[zH.l4,hge,ye,if_false]
  have hcl:zeb (hasP ⟨(K:Int),ztr⟩) ls[i]=hasP ⟨(K:Int),ztr⟩ (lstN ls[i]) (fstN ls[i]):=rfl;simp only[zH.l3,zC hi,if_true,jn,zb hi,ya,e1,e2,zlR hg hlK hfK,hcl];grind[zl]
 ·simp only[zH.l3,zan,ye,if_false]
theorem zkw {n}{ztr}{K:Nat}(h1:1<=K)(h6:K<=6)(hl:ztr.length=K*K)(hn:1000000<=n):zH n (K:Int) ztr=O (cycP (hasP ⟨(K:Int),ztr⟩) K):=by
 have h4:K*K<=36:=y8 h6 h6;have e:zto (K:Int) (K:Int)=((K*K:Nat):Int):=by grind[zto,zaf,Int.natCast_mul]
 have hv:zdk n (K:Int) ztr=O true:=by
  unfold zdk;rw[e,hl];grind
 unfold zH;rw[hv,ya,if_neg (by simp)];have hones:(ones K).length=K:=by simp[ones]
 have rounds:ztg (zH.l2 n (K:Int) ztr) n (([]:List (List Int)),ones K,0)=O (cycP (hasP ⟨(K:Int),ztr⟩) K):=by
  have:=zaS (σ:=List (List Int)×List (List Int)) (body:=zH.l2 n (K:Int) ztr) (len:=K) (st:=λs i=>(s.1,s.2,(i:Int))) (g:=λ_ _=>O (cycP (hasP ⟨(K:Int),ztr⟩) K)) (λi s=>s.1=(xr i).flatMap (λr=>(lev (hasP ⟨(K:Int),ztr⟩) K r (ones K)).filter (zeb (hasP ⟨(K:Int),ztr⟩)))/\s.2=lev (hasP ⟨(K:Int),ztr⟩) K i (ones K)/\s.1.length<=i*800000) (λrec i s hi hI hr=>?_) (λrec s hI=>?_) n 0 ([],ones K) (yj _) (by omega) ⟨rfl,rfl,by simp⟩;·exact this
  ·obtain⟨s1,s2⟩:=s;obtain⟨i1,i2,i3⟩:=hI;simp only at i1 i2 i3;have hlen:s2.length<=800000:=by have:=zp5 (E:=hasP ⟨(K:Int),ztr⟩) h6 i (ones K);rw[hones]at this;have h7:7^i<=7^5:=uj (by omega) (by omega);have h8:K*7^i<=6*7^5:=y8 h6 h7;rw[i2];simp only[Nat.reducePow,Nat.reduceMul]at h8;omega
   have hpath:∀l∈s2,zuh K l:=by rw[i2];exact zhP i zhV
   simp only[zH.l2,zkf hi,if_true];rw[zn1 h6 hl hn hpath hlen (by omega),zd (by omega)];refine hr (_,_) ⟨?_,?_,?_⟩;·simp only;rw[uG,List.flatMap_append,<-i1,i2];simp
   ·rw[zjv,<-i2];rfl
   ·simp only[yR];have:=List.length_filter_le (zeb (hasP ⟨(K:Int),ztr⟩)) s2;rw[uu];omega
  ·obtain⟨s1,s2⟩:=s;obtain⟨i1,-,-⟩:=hI;simp only at i1;simp only[zH.l2,zhJ (yo K),ye,if_false];rw[i1];rfl
 have:=zcz (body:=zH.l1 n (K:Int) ztr) (k:=K) (n:=n) (st:=λ(b:List (List Int))i=>(b,(i:Int))) (λi=>[[(i:Int)]]) (λb=>ztg (zH.l2 n (K:Int) ztr) n (([]:List (List Int)),b,0)) 1 [] (λi _=>by simp) (λrec b i hi hb=>?_) (λrec b hb=>?_) (by omega)
 ·have eo:(xr K).flatMap (λi:Nat=>[[(i:Int)]])=ones K:=by unfold ones;rw[List.map_eq_flatMap]
  rw[eo,yP,rounds]at this;exact this
 ·simp only[zH.l1,zkf hi,if_true];rw[zl (by simp at hb;simp;omega),ya,zd (by omega)]
 ·simp only[zH.l1,zhJ (yo K),ye,if_false]
theorem zhe (a b c):ztc (ztc a b) c=ztc a (ztc b c):=by grind[ztc,w64,IntKind.wrap_i64]
theorem zp7 (x y):ztc (ztc (-1) x) y=ztn (ztc x y) 1:=by grind[ztc,ztn,w64,IntKind.wrap_i64]
structure zum (a:Action):Prop where
 add:∀c,addP c a.effect.delta 0=zA a.effect.delta c
 len:a.effect.delta.length<=20
theorem zum.Add {n a}(h:zum a)(hn:1000000<=n)(c):zaU n a.effect c=O (zA a.effect.delta c):=by have:=h.len;rw[zeW c (by omega) (by omega),h.add]
theorem zum.added {n a}(h:zum a)(hn:1000000<=n)(c):zR n a c=O (zA a.effect.delta c):=by
 have:=h.len;grind[zaj]
theorem zmT {S R}{body}{k n}{st:List Row->Bool->Bool->Nat->S}(Rr)(p q)(fin:List Row->Bool->Bool->Option R)(step:∀rec rows x y i,i<k->rows.length<=i->body rec (st rows x y i)=rec (st (rows++[Rr i]) (x||p i) (y||q i) (i+1)))(done:∀rec rows x y,rows.length<=k->body rec (st rows x y k)=fin rows x y)(hn:k<n):ztg body n (st [] M M 0)=fin ((xr k).map Rr) ((xr k).any p) ((xr k).any q):=by
 have:=zaS (σ:=List Row×Bool×Bool) (body:=body) (len:=k) (st:=λs i=>st s.1 s.2.1 s.2.2 i) (g:=λ_ _=>fin ((xr k).map Rr) ((xr k).any p) ((xr k).any q)) (λi s=>s=((xr i).map Rr,(xr i).any p,(xr i).any q)) (λrec i s c a b=>?_) (λrec s a=>?_) n 0 ([],M,M) (yj _) (by omega) rfl;·grind
 ·subst a;rw[step rec _ _ _ i c (by simp)];refine b (_,_,_) ?_;simp only[uG,List.any_append,List.any_cons];grind
 grind
def zcG (c:Constraint)(cyc:List Int)(i:Nat):Int:=ztc c.first (ztc (zto (cyc.getD i 0) c.size) (cyc.getD ((i+1)%cyc.length) 0))
def ziv (A B:Int->Int)(c:Constraint)(cyc:List Int)(i:Nat):Row:=⟨[⟨zcG c cyc i,-1⟩],ztn (ztc (A (zcG c cyc i)) (B (zcG c cyc i))) 1⟩
def zdI (A B:Int->Int)(c:Constraint)(cyc:List Int):List (List Row):=if((xr cyc.length).any (λi=>Z (0<A (zcG c cyc i)))&&(xr cyc.length).any λi=>Z (0<B (zcG c cyc i)))=U then[(xr cyc.length).map (ziv A B c cyc)]else[]
def zhD (A B:Int->Int)(box:List Range)(c:Constraint)(K:Nat):List (List Row):=(cycP (hasP ⟨(K:Int),(xr (K*K)).map λi:Nat=>Z (1<=ztc ((idx box (ztc c.first (i:Int))).getD J).hi (ztc (A (ztc c.first (i:Int))) (B (ztc c.first (i:Int)))))⟩) K).flatMap (zdI A B c)
theorem zod {K cyc}(hp:zuh K cyc)(h6:K<=6){i}(hi:i<cyc.length):∃r:Nat,zuo (ztc (i:Int) 1) (cyc.length:Int)=O (r:Int)/\r<cyc.length/\r=(i+1)%cyc.length:=by
 have:=hp.len;rw[zd (by omega)];refine⟨(i+1)%cyc.length,?_,vQ _ (by omega),rfl⟩;unfold zuo;grind
theorem zpU {l:List Int}{i}(hi):l.getD i 0=l[i]:=by grind
section
variable{n:Nat}{c:Constraint}{a b:Action}{K:Nat}(ha:zum a)(hb:zum b)(h6:K<=6)(hn:1000000<=n)
include ha hb h6 hn
theorem zpD {cyc}{b1}{k}(hp:zuh K cyc)(hb1:b1.length<=1000000):ztg (zk.l3 n c a b b1 k cyc) n (([]:List Row),M,M,0)=k (b1++zdI (zA a.effect.delta) (zA b.effect.delta) c cyc):=by
 have m:=hp.len;have:=zmT (body:=zk.l3 n c a b b1 k cyc) (k:=cyc.length) (n:=n) (st:=λd x y i=>(d,x,y,i)) (ziv (zA a.effect.delta) (zA b.effect.delta) c cyc) (λi=>Z (0<zA a.effect.delta (zcG c cyc i))) (λi=>Z (0<zA b.effect.delta (zcG c cyc i))) (λd x y=>if(x&&y)=U then k (b1++[d])else k b1) (λg d x y i f q=>?_) (λg d x y q=>?_) (by omega)
 ·unfold zdI;grind
 ·obtain⟨r,j,h,o⟩:=zod hp h6 f;have e:ztc c.first (ztc (zto cyc[i] c.size) cyc[r])=zcG c cyc i:=by grind[zcG]
  have p:zaO n (ztc (zto cyc[i] c.size) cyc[r]) a c b=O (ztc (zA a.effect.delta (zcG c cyc i)) (zA b.effect.delta (zcG c cyc i))):=by unfold zaO;rw[e,ha.added hn,ya,hb.added hn,ya]
  simp only[zk.l3,zC f,zb f,ya,j,zb h,e,ha.added hn,hb.added hn,p,yp,yy];rw[zl (by grind),ya,zd (by omega)];rfl
 ·simp only[zk.l3];grind[zl]
theorem zpp {cs}{j:Nat}(hj){b1}{k}(hp:zuh K cs[j])(hb1:b1.length<=1000000):ztg (zah.l3 n c a.effect b.effect cs b1 (j:Int) k) n (([]:List Row),M,M,0)=k (b1++zdI (zA a.effect.delta) (zA b.effect.delta) c cs[j]):=by
 have hlen:=hp.len;have:=zmT (body:=zah.l3 n c a.effect b.effect cs b1 (j:Int) k) (k:=cs[j].length) (n:=n) (st:=λrows x y i=>(rows,x,y,(i:Int))) (ziv (zA a.effect.delta) (zA b.effect.delta) c cs[j]) (λi=>Z (0<zA a.effect.delta (zcG c cs[j] i))) (λi=>Z (0<zA b.effect.delta (zcG c cs[j] i))) (λrows x y=>if(x&&y)=U then k (b1++[rows])else k b1) (λrec rows x y i hi hr=>?_) (λrec rows x y hr=>?_) (by omega);·grind[zdI]
 ·obtain⟨r,hr1,hr2,hr3⟩:=zod hp h6 hi;have hcell:ztc (ztc c.first (zto cs[j][i] c.size)) cs[j][r]=zcG c cs[j] i:=by rw[zhe];unfold zcG;rw[zpU hi,<-hr3,zpU hr2]
  simp only[zah.l3,zb hj,zC hi,if_true,zb hi,ya,hr1,zb hr2,hcell,ha.Add hn,hb.Add hn,yp,ym,yy,grd,zp7];rw[zl (by simp;omega),ya,zd (by omega)];rfl
 ·simp only[zah.l3,zb hj,ya,zan,ye,if_false];split;·grind[zl]
  ·rfl
theorem zla {box}(hs:c.size=(K:Int))(h1:1<=K)(h0:0<=c.first)(hbx:c.first+((K*K:Nat):Int)<=(box.length:Int))(hbl:box.length<=1000):zk n box c a b=O (zhD (zA a.effect.delta) (zA b.effect.delta) box c K)/\zah n box c a.effect b.effect=O (zhD (zA a.effect.delta) (zA b.effect.delta) box c K):=by
 have h4:K*K<=36:=y8 h6 h6;have em:zto c.size c.size=((K*K:Nat):Int):=by grind[zgM,Int.natCast_mul]
 have hmk:mkl 1 (zto c.size c.size) M=O (xA (K*K) M):=by rw[em];unfold mkl;rw[if_pos (by omega),yv]
 obtain⟨V,hV⟩:∃V:Nat->Bool,V=λi:Nat=>Z (1<=ztc ((idx box (ztc c.first (i:Int))).getD J).hi (ztc (zA a.effect.delta (ztc c.first (i:Int))) (zA b.effect.delta (ztc c.first (i:Int))))):=⟨_,rfl⟩;obtain⟨ztr,hE⟩:∃ztr,ztr=(xr (K*K)).map V:=⟨_,rfl⟩;have hEl:ztr.length=K*K:=by grind
 have hbox:∀i,i<K*K->∃w,idx box (ztc c.first (i:Int))=O w:=λi hi=>za8 (by grind[zcu]) (by grind[zcu]);have hcyc:zbo n (K:Int) ztr=O (cycP (hasP ⟨(K:Int),ztr⟩) K):=zit h1 h6 hEl hn;have hrcyc:zH n (K:Int) ztr=O (cycP (hasP ⟨(K:Int),ztr⟩) K):=zkw h1 h6 hEl hn;obtain⟨cyc,hcy⟩:∃cyc,cyc=cycP (hasP ⟨(K:Int),ztr⟩) K:=⟨_,rfl⟩;have hcl:cyc.length<=900000:=by
  obtain⟨r,r1,r2,-⟩:=zk2 (n:=n) (size:=(K:Int)) (ztr:=ztr) rfl h1 h6 hEl hn;grind
 have hcp:∀l∈cyc,zuh K l:=λl hl=>by
  rw[hcy]at hl;obtain⟨r,-,hl⟩:=ue.1 hl;grind[zhP,zhV]
 have hres:zhD (zA a.effect.delta) (zA b.effect.delta) box c K=cyc.flatMap (zdI (zA a.effect.delta) (zA b.effect.delta) c):=by grind[zhD]
 rw[<-hcy]at hcyc hrcyc;rw[hres];have hgl:∀x:List Int,(zdI (zA a.effect.delta) (zA b.effect.delta) c x).length<=1:=λx=>by grind[zdI]
 constructor
 ·unfold zk;rw[hmk,ya];have:=zw (body:=zk.l1 n box c a b (xA (K*K) M)) (len:=K*K) (st:=λi=>((xr i).map V++xA (K*K-i) M,(i:Int))) (g:=λ_=>O (cyc.flatMap (zdI (zA a.effect.delta) (zA b.effect.delta) c))) (λrec i hi hr=>?_) (λrec=>?_) n 0 (yj _) (by omega);·simpa using this
  ·have hlt:Z ((i:Int)<((xA (K*K) M).length:Int))=true:=by simp;omega
   obtain⟨w,hw⟩:=hbox i hi;have hz:zaO n (i:Int) a c b=O (ztc (zA a.effect.delta (ztc c.first (i:Int))) (zA b.effect.delta (ztc c.first (i:Int)))):=by unfold zaO;rw[ha.added hn,ya,hb.added hn,ya]
   have hvi:V i=Z (1<=ztc w.hi (ztc (zA a.effect.delta (ztc c.first (i:Int))) (zA b.effect.delta (ztc c.first (i:Int))))):=by rw[hV];simp only[hw,ym]
   have hin:i<((xr i).map V++xA (K*K-i) M).length:=by simp;omega
   have hst:sto ((xr i).map V++xA (K*K-i) M) (i:Int) (V i)=O ((xr (i+1)).map V++xA (K*K-(i+1)) M):=by unfold sto;rw[if_pos ⟨by omega,by omega⟩,yv];congr 1;rw[uL _ _ (by simp),show K*K-i=K*K-(i+1)+1 by omega,List.replicate_succ];simp[uG]
   simp only[zk.l1,hlt,if_true,hw,ya,hz,zb hin];rw[<-hvi,hst,ya,zd (by omega)];exact hr
  ·have hge:Z (((K*K:Nat):Int)<((xA (K*K) M).length:Int))=false:=by simp
   have e0:(xr (K*K)).map V++xA (K*K-K*K) M=ztr:=by rw[hE];simp
   simp only[zk.l1,hge,ye,if_false,e0];rw[hs,hcyc,ya];have:=zcz (body:=zk.l2 n c a b cyc) (k:=cyc.length) (n:=n) (st:=λ(s:List (List Row))i=>(s,(i:Int))) (λi=>zdI (zA a.effect.delta) (zA b.effect.delta) c (cyc.getD i [])) O 1 [] (λi _=>hgl _) (λrec s i hi hI=>?_) (λrec s hI=>?_) (by omega);·rw[ziy]at this;simpa using this
   ·have e:cyc.getD i []=cyc[i]:=by simp[uF,hi]
    rw[e];simp only[zk.l2,zC hi,if_true,jn,zb hi,ya];rw[zpD ha hb h6 hn (hcp _ (yi hi)) (by simp at hI;omega),zd (by omega)]
   ·simp only[zk.l2,zan,ye,if_false]
 ·unfold zah;have:=zcz (body:=zah.l1 n box c a.effect b.effect) (k:=K*K) (n:=n) (st:=λ(s:List Bool)i=>(s,(i:Int))) (λi=>[V i]) (λs=>(zH n c.size s).bind λx59_21=>ztg (zah.l2 n c a.effect b.effect x59_21) n (([]:List (List Row)),0)) 1 [] (λi _=>by simp) (λrec s i hi hI=>?_) (λrec s hI=>?_) (by omega)
  ·have e0:(xr (K*K)).flatMap (λi=>[V i])=ztr:=by rw[hE,List.map_eq_flatMap]
   rw[e0,yP,hs,hrcyc,ya]at this;refine this.trans ?_;have:=zcz (body:=zah.l2 n c a.effect b.effect cyc) (k:=cyc.length) (n:=n) (st:=λ(s:List (List Row))i=>(s,(i:Int))) (λi=>zdI (zA a.effect.delta) (zA b.effect.delta) c (cyc.getD i [])) O 1 [] (λi _=>hgl _) (λrec s i hi hI=>?_) (λrec s hI=>?_) (by omega);·rw[ziy]at this;simpa using this
   ·have e:cyc.getD i []=cyc[i]:=by simp[uF,hi]
    rw[e];simp only[zah.l2,zC hi,if_true,jn];rw[zpp ha hb h6 hn hi (hcp _ (yi hi)) (by simp at hI;omega),zd (by omega)]
   ·simp only[zah.l2,zan,ye,if_false]
  ·have hlt:Z ((i:Int)<zto c.size c.size)=true:=by rw[em];simp;omega
   obtain⟨w,hw⟩:=hbox i hi;have hvi:V i=Z (1<=ztc (ztc w.hi (zA a.effect.delta (ztc c.first (i:Int)))) (zA b.effect.delta (ztc c.first (i:Int)))):=by rw[hV,zhe];simp only[hw,ym]
   simp only[zah.l1,hlt,if_true,hw,ya,ha.Add hn,hb.Add hn];rw[<-hvi,zl (by simp at hI;simp;omega),ya,zd (by omega)]
  ·have hge:Z (((K*K:Nat):Int)<zto c.size c.size)=false:=by rw[em];simp
   simp only[zah.l1,hge,ye,if_false]
end
theorem zum.zw4 {n a r x}(h:zum a)(ha:zuk a)(hr:r.ztf.length<=1000)(hx:zJ n a r=O x)(hn:1000000<=n):zbj n a.effect r=O x:=by have:=ha.delta;rw[<-hx,zm9 (by omega) (by omega) (by omega) (by omega),zcv (by omega) (by omega) (by omega) (by omega),zhE h.add]
theorem zum.Sum {n a r}(h:zum a)(ha:zuk a)(hr:r.ztf.length<=1000)(hn:1000000<=n):zbj n a.effect r=O (chgN n a r):=h.zw4 ha hr (zej ha hr hn) hn
theorem zng {n c e f}(h:∀x,zaU n e x=f x):zbm n c e=zI n c f:=by
 have:zbm.l1 n c e=zI.l1 n c f:=by grind[zbm.l1,zI.l1]
 grind[zbm,zI]
theorem rgraph0 {n K c}(hc:zuO K c)(hk:c.kind=1)(hn:1000000<=n):zbm n c ⟨[],[],[]⟩=O (gr n c λq0=>zaW n q0):=by
 rw[zng (f:=λq0=>zaW n q0) λx=>?_];·exact(zdV hc hk (λx=>⟨_,rfl⟩) hn).1
 ·rw[zeW x (by simp) (by grind)];rfl
theorem zxR {n K a c}(sa:zum a)(hc:zuO K c)(hk:c.kind=1)(hn:1000000<=n):zbm n c a.effect=O (gr n c λq0=>zQ n q0 a):=by
 rw[zng (f:=λq0=>zQ n q0 a) λx=>?_];·exact(zdV hc hk (λx=>⟨zA a.effect.delta x,by unfold zQ;rw[sa.added hn];rfl⟩) hn).1
 ·unfold zQ;rw[sa.Add hn,sa.added hn];rfl
theorem rgraph4 {n K a c}(sa:zum a)(hc:zuO K c)(hk:c.kind=1)(hn:1000000<=n):zbm n c a.effect=O (gr n c λq0=>zag n q0 a):=zxR sa hc hk hn
theorem zlv {n K a c}(sa:zum a)(hc:zuO K c)(hk:c.kind=1)(hn:1000000<=n):zbw n a.effect c=O (Z (0<(((zD n a c).getD []).length:Int))):=by obtain⟨k,b,d⟩:=hc.mul hk;have:=sa.len;rw[zkx b (by omega) (by omega) (by omega) (by omega) sa.add,zdi b (by omega) (by omega) (by omega) (by omega)];simp
theorem znL {n r}(hl:r.ztf.length<=1000)(hn:1000000<=n):zco n r=O r:=by
 unfold zco;have:=zdZ (body:=zco.l1 n r) (l:=r.ztf) (n:=n) (st:=λb i=>(b,i)) (λt=>t) (λb=>O ⟨b,r.bound⟩) [] (λa b i d c=>?_) (λa b c=>?_) (by omega);·simp_all
 ·grind[zco.l1,zb,zl,zd]
 ·simp[zco.l1]
theorem zqs {n r B}(hl:r.ztf.length<=1000)(hn:1000000<=n):za3 n r B=O ⟨r.ztf.map λt=>⟨t.cell,ztU t.ztl⟩,B⟩:=by
 unfold za3;have:=zdZ (body:=za3.l1 n r B) (l:=r.ztf) (n:=n) (st:=λb i=>(b,i)) (λt=>⟨t.cell,ztU t.ztl⟩) (λb=>O ⟨b,B⟩) [] (λa b i d c=>?_) (λa b c=>?_) (by omega);·grind
 ·grind[za3.l1,zb,zl,zd]
 ·simp[za3.l1]
theorem zna {n l v}(hl:l.length<1000000)(hn:1000000<=n):zgx n l v=O (Z (v∈l)):=by exact zgw hl hn
noncomputable def zwx (n:Nat)(m:Model)(q:Question)(a b:Action)(box:List Range)(R:List Row)(G:List ztv):Option (System×Int):=jn (λ(v:List Row×List (List Row))=>let b4_154:=v.1;let c1_3_155:=v.2;(z9 n (⟨box,b4_154,G,c1_3_155⟩:System)).bind λx311_168=>if(!x311_168)=U then O ((⟨[],[],[],[]⟩:System),8)else O ((⟨box,b4_154,G,c1_3_155⟩:System),0)) λk_156=>if q.target.hold=U then(idx a.effect.hold q.target.index).bind λx243_157=>(zbj n b.effect x243_157).bind λx253_158=>(za3 n x243_157 (ztn (ztc (ztU x243_157.bound) x253_158) 1)).bind λx256_159=>(app 32 R [x256_159]).bind λx258_160=>k_156 (x258_160,[])else(idx m.constraints q.target.index).bind λx265_161=>if(x265_161.kind==0)=U then(zbj n a.effect x265_161.row).bind λx281_162=>(zbj n b.effect x265_161.row).bind λx286_163=>(za3 n x265_161.row (ztn (ztc (ztc (ztU x265_161.row.bound) x281_162) x286_163) 1)).bind λx289_164=>(app 32 R [x289_164]).bind λx291_165=>k_156 (x291_165,[])else(zah n box x265_161 a.effect b.effect).bind λx298_166=>if((x298_166.length:Int)==0)=U then(app 32 R [(⟨[],-1⟩:Row)]).bind λx308_167=>k_156 (x308_167,x298_166)else k_156 (R,x298_166)
noncomputable def zjf (n:Nat)(m:Model)(q:Question)(a b:Action)(box:List Range)(R:List Row):Option (System×Int):=ztg (zp.l3 n m q a b box) n (R,0)
theorem znf {n K m q a b box R}(ha:zuk a)(hb:zuk b)(hc:∀c∈m.constraints,zuO K c)(sa:zum a)(sb:zum b)(hl:m.constraints.length<=1000)(hn:1000000<=n):ztg (zp.l5 n m q a b box R) n ([],0)=zwx n m q a b box R ((xr m.constraints.length).flatMap λi=>gS n (q.e !=q.f) a b (m.constraints.getD i J)):=by
 have:=zcz (body:=zp.l5 n m q a b box R) (k:=m.constraints.length) (n:=n) (st:=λb i=>(b,i)) (λi=>gS n (q.e !=q.f) a b (m.constraints.getD i J)) (zwx n m q a b box R) 3 [] (λi o=>?_) (λl s i o t=>?_) (λl s t=>?_) (by omega);·grind
 ·grind[zoq,List.getElem_mem]
 ·have e:m.constraints.getD i J=m.constraints[i]:=by grind
  have d:=hc _ (yi o);simp only[zp.l5,jn,zb o,ya,e,zd (i:=i) (by omega)];unfold gS;by_cases f:(m.constraints[i].kind !=1)=U;·grind
  ·have f:m.constraints[i].kind=1:=by grind
   obtain⟨u,r⟩:=zgO ha d f hn;obtain⟨j,p⟩:=zgO hb d f hn;rw[rgraph0 d f hn,zlv sa d f hn,zlv sb d f hn,zxR sa d f hn,rgraph4 sb d f hn,r,p];simp only[ya,ym];rw[zl (by grind),ya,Bool.and_comm (Z (0<(j.length:Int))) (q.e !=q.f)];by_cases h:Z (0<(u.length:Int))=U
   ·rw[if_pos h,if_pos h,zl (by grind),ya];by_cases g:(q.e !=q.f&&Z (0<(j.length:Int)))=U
    ·rw[if_pos g,if_pos g,zl (by grind),ya];grind
    grind
   ·rw[if_neg h,if_neg h];by_cases g:(q.e !=q.f&&Z (0<(j.length:Int)))=U;·rw[if_pos g,if_pos g,zl (by grind),ya];simp_all
    grind
 ·simp only[zp.l5,zan];rfl
theorem zrj {n K m q a b box R}(ha:zuk a)(hb:zuk b)(hc:∀c∈m.constraints,zuO K c)(sa:zum a)(sb:zum b)(hl:m.constraints.length<=1000)(hR:R.length<=1000)(hn:1000000<=n):zjf n m q a b box R=zwx n m q a b box (R++(a.effect.hold++if(q.e !=q.f)=U then b.effect.hold else[])) ((xr m.constraints.length).flatMap λi=>gS n (q.e !=q.f) a b (m.constraints.getD i J)):=by
 have p:=ha.hold;have s:=hb.hold;have h:∀d,d.length<=2000->ztg (zp.l4 n m q a b box) n (d,0)=zwx n m q a b box (d++if(q.e !=q.f)=U then b.effect.hold else[]) ((xr m.constraints.length).flatMap λi=>gS n (q.e !=q.f) a b (m.constraints.getD i J)):=λd k=>by
  by_cases j:(q.e !=q.f)=U
  ·rw[if_pos j,<-znf ha hb hc sa sb hl hn];have:=zdZ (body:=zp.l4 n m q a b box) (l:=b.effect.hold) (n:=n) (st:=λb i=>(b,i)) (λr=>r) (λo=>ztg (zp.l5 n m q a b box o) n ([],0)) d (λf b6 i g e=>?_) (λf b6 e=>?_) (by omega);·simp_all
   ·simp only[zp.l4,zb g,ya,znL (hb.ztf _ (yi g)) hn];grind[zl,zd]
   ·simp only[zp.l4,zan,uf,ye,if_false]
  ·rw[if_neg j,uc,<-znf ha hb hc sa sb hl hn,zgk (by omega)];simp only[zp.l4,j,Bool.and_false,ye,if_false]
 unfold zjf;have:=zdZ (body:=zp.l3 n m q a b box) (l:=a.effect.hold) (n:=n) (st:=λb i=>(b,i)) (λr=>r) (λd=>ztg (zp.l4 n m q a b box) n (d,0)) R (λf b6 i g e=>?_) (λf b6 e=>?_) (by omega);·grind[List.map_id']
 ·simp only[zp.l3,zb g,ya,znL (ha.ztf _ (yi g)) hn];grind[zl,zd]
 ·simp only[zp.l3,zan,ye,if_false]
theorem zrn {n m q a b box}(ha:zuk a)(hb:zuk b)(hc:∀c∈m.constraints,zuO box.length c)(hl:m.constraints.length<=1000)(hbx:box.length<=1000)(sa:zum a)(sb:zum b)(hh:q.target.hold=U->0<=q.target.index/\q.target.index<(a.effect.hold.length:Int))(hh2:q.target.hold=M->0<=q.target.index/\q.target.index<(m.constraints.length:Int))(hn:1000000<=n):∃(X:List Row)(G:List ztv)(cs:List (List Row)),(X.length<=30/\∀r∈X,r.ztf.length<=1000)/\(G.length<=3000/\∀g∈G,g.least.length<=36)/\zf5 cs/\∀R,R.length<=1000->zwh n m q a b box R=endS n ⟨box,R++X,G,cs⟩ (zal n ⟨box,R++X,G,cs⟩)/\zjf n m q a b box R=endS n ⟨box,R++X,G,cs⟩ (z9 n ⟨box,R++X,G,cs⟩):=by
 obtain⟨H,hH⟩:∃H:List Row,H=a.effect.hold++if(q.e !=q.f)=U then b.effect.hold else[]:=⟨_,rfl⟩;have hHl:H.length<=20/\∀r∈H,r.ztf.length<=1000:=by
  have h1:=ha.hold;have h2:=hb.hold;rw[hH];constructor;·grind
  ·intro r hr;rcases yu.1 hr with hr|hr;·exact ha.ztf r hr
   ·split at hr;·exact hb.ztf r hr
    ·simp at hr
 have hstep:∀R:List Row,R.length<=1000->zwh n m q a b box R=zdt n m q a b box (R++H):=λR hR=>by
  have h1:=ha.hold;have h2:=hb.hold;have hloop:ztg (zf.l3 n m q a b box H) n (R,0)=zdt n m q a b box (R++H):=by
   have:=zdZ (body:=zf.l3 n m q a b box H) (l:=H) (n:=n) (st:=λb i=>(b,(i:Int))) (λr:Row=>r) (zdt n m q a b box) R (λrec b6 i hi hb6=>?_) (λrec b6 hb6=>?_) (by omega);·simpa using this
   ·simp only[zf.l3,zC hi,if_true,zb hi,ya,zqB (hHl.2 _ (yi hi)) hn];rw[zl (by first|omega|(simp;omega)),ya,zd (by omega)]
   ·simp only[zf.l3,zan,ye,if_false];rfl
  unfold zwh;simp only[jn];rw[zl (by first|omega|(simp;omega)),ya,yP];by_cases he:(q.e !=q.f)=U;·rw[if_pos he,zl (by first|omega|(simp;omega)),ya,<-hloop,hH,if_pos he]
  ·rw[if_neg he,<-hloop,hH,if_neg he,uc]
 obtain⟨G,hG⟩:∃G,G=(xr m.constraints.length).flatMap λi=>gS n (q.e !=q.f) a b (m.constraints.getD i J):=⟨_,rfl⟩;have hGl:G.length<=3000/\∀g∈G,g.least.length<=36:=by
  have key:∀k,k<=m.constraints.length->((xr k).flatMap λi=>gS n (q.e !=q.f) a b (m.constraints.getD i J)).length<=3*k/\∀g∈(xr k).flatMap λi=>gS n (q.e !=q.f) a b (m.constraints.getD i J),g.least.length<=36:=by
   intro k;induction k with|zero=>intro _;simp|succ k ih=>
    intro hk;obtain⟨i1,i2⟩:=ih (by omega);have e:m.constraints.getD k J=m.constraints[k]'(by omega):=by simp[vo,show k<m.constraints.length by omega]
    obtain⟨g1,g2⟩:=zoq (n:=n) (ef:=q.e !=q.f) ha hb (hc _ (yi (show k<m.constraints.length by omega))) hn;rw[ziJ,e];constructor;·rw[yR];omega
    ·intro g hg;rcases yu.1 hg with hg|hg;·exact i2 g hg
     ·exact g2 g hg
  rw[hG];obtain⟨k1,k2⟩:=key _ (yo _);exact⟨by omega,k2⟩
 have h0:∀(c:Constraint)(R:List Row),(c.kind==1)=M->finS n box a b R c G=endS n ⟨box,R,G,[]⟩ (zal n ⟨box,R,G,[]⟩):=λc R hk=>by unfold finS;simp only[jn,hk,ye,if_false];rfl
 have c0:zf5 []:=⟨by simp,by simp⟩;have rstep:∀R:List Row,R.length<=1000->zjf n m q a b box R=zwx n m q a b box (R++H) G:=λR hR=>by rw[zrj ha hb hc sa sb hl hR hn,hG,hH]
 cases hhold:q.target.hold with
 |true=>
  obtain⟨i1,i2⟩:=hh hhold;obtain⟨r,hr⟩:=za8 i1 i2;have hrl:=ha.ztf r (zbb hr);obtain⟨x,hx⟩:=zgJ hb hrl hn;have hsx:=sb.zw4 hb hrl hx hn;have hnr:=zek (n:=n) (r:=r) (f:=λq0=>zaP n q0) (g:=λq0=>zap n q0 x) (fP:=ztU) (B:=ztn (ztc (ztU r.bound) x) 1) (λ_=>rfl) rfl hrl hn;refine⟨H++[⟨r.ztf.map λt=>⟨t.cell,ztU t.ztl⟩,ztn (ztc (ztU r.bound) x) 1⟩],G,[],⟨by first|omega|(simp;omega),λs hs=>?_⟩,hGl,c0,λR hR=>?_⟩
  ·rcases yu.1 hs with hs|hs;·exact hHl.2 s hs
   ·simp at hs;subst hs;simpa using hrl
  ·refine⟨?_,?_⟩;rotate_left;·rw[rstep R hR];unfold zwx;simp only[jn,hhold,if_true,hr,ya,hsx,zqs hrl hn];rw[zl (by first|omega|(simp;omega)),ya,yJ];rfl
   rw[hstep R hR];unfold zdt;simp only[jn,hhold,if_true,hr,ya,hx,hnr];rw[zl (by first|omega|(simp;omega)),ya];have:=zju (q:=q) (a:=a) (b:=b) (box:=box) (R:=R++H++[⟨r.ztf.map λt=>⟨t.cell,ztU t.ztl⟩,ztn (ztc (ztU r.bound) x) 1⟩]) (c:=⟨0,0,⟨[],0⟩,0,0⟩) ha hb hc hl hn;rw[<-hG]at this;rw[yJ]at this|-;exact this.trans (h0 _ _ rfl)|false=>
  obtain⟨i1,i2⟩:=hh2 hhold;obtain⟨c,hcx⟩:=za8 i1 i2;have hco:=hc c (zbb hcx);have hgl:=λR:List Row=>zju (q:=q) (a:=a) (b:=b) (box:=box) (R:=R) (c:=c) ha hb hc hl hn;rw[<-hG]at hgl;rcases hco.kind with hk|hk
  ·obtain⟨x,hx⟩:=zgJ ha hco.len hn;obtain⟨y,hy⟩:=zgJ hb hco.len hn;have hsx:=sa.zw4 ha hco.len hx hn;have hsy:=sb.zw4 hb hco.len hy hn;have hnr:=zek (n:=n) (r:=c.row) (f:=λq0=>zaP n q0) (g:=λq0=>zap n q0 (ztc x y)) (fP:=ztU) (B:=ztn (ztc (ztU c.row.bound) (ztc x y)) 1) (λ_=>rfl) rfl hco.len hn;refine⟨H++[⟨c.row.ztf.map λt=>⟨t.cell,ztU t.ztl⟩,ztn (ztc (ztU c.row.bound) (ztc x y)) 1⟩],G,[],⟨by first|omega|(simp;omega),λs hs=>?_⟩,hGl,c0,λR hR=>?_⟩
   ·rcases yu.1 hs with hs|hs;·exact hHl.2 s hs
    ·simp at hs;subst hs;simpa using hco.len
   ·have hk':(c.kind==0)=true:=by simp[hk]
    refine⟨?_,?_⟩;rotate_left;·rw[rstep R hR];unfold zwx;simp only[jn,hhold,ye,if_false,hcx,ya,hk',if_true,hsx,hsy,zqs hco.len hn,zhe];rw[zl (by first|omega|(simp;omega)),ya,yJ];rfl
    rw[hstep R hR];unfold zdt;simp only[jn,hhold,ye,if_false,hcx,ya,hk',if_true,hx,hy,hnr];rw[zl (by first|omega|(simp;omega)),ya,yJ];exact(hgl _).trans (h0 _ _ (by simp[hk]))
  ·obtain⟨s,s1,s2,s3,s4,s5⟩:=hco.sz hk;obtain⟨cs,hcs,hcsO⟩:=zmF (n:=n) (box:=box) (e:=a) (f:=b) s1 s2 s3 s4 s5 hbx ha.delta hb.delta hn;have hrc:zah n box c a.effect b.effect=O cs:=by have:=zla (n:=n) (c:=c) sa sb s3 hn (box:=box) s1 s2 s4 s5 hbx;rw[this.2,<-this.1,hcs]
   have hk0:(c.kind==0)=false:=by simp[hk]
   have hk1:(c.kind==1)=true:=by simp[hk]
   by_cases he:((cs.length:Int)==0)=U
   ·refine⟨H++[⟨[],-1⟩],G,cs,⟨by first|omega|(simp;omega),λs hs=>?_⟩,hGl,hcsO,λR hR=>?_⟩
    ·rcases yu.1 hs with hs|hs;·exact hHl.2 s hs
     ·simp at hs;subst hs;simp
    ·refine⟨?_,?_⟩;rotate_left;·rw[rstep R hR];unfold zwx;simp only[jn,hhold,ye,if_false,hcx,ya,hk0,hrc,he,if_true];rw[zl (by first|omega|(simp;omega)),ya,yJ];rfl
     rw[hstep R hR];unfold zdt;simp only[jn,hhold,ye,if_false,hcx,ya,hk0];refine(hgl _).trans ?_;unfold finS;simp only[jn,hk1,if_true,hcs,ya,he];rw[zl (by first|omega|(simp;omega)),ya,yJ];rfl
   ·refine⟨H,G,cs,⟨by omega,hHl.2⟩,hGl,hcsO,λR hR=>?_⟩;refine⟨?_,?_⟩;rotate_left;·rw[rstep R hR];unfold zwx;simp only[jn,hhold,ye,if_false,hcx,ya,hk0,hrc];rw[if_neg he];rfl
    rw[hstep R hR];unfold zdt;simp only[jn,hhold,ye,if_false,hcx,ya,hk0];refine(hgl _).trans ?_;unfold finS;simp only[jn,hk1,if_true,hcs,ya];rw[if_neg he];rfl
theorem zpr {n m q rows a b box}(ha:zuk a)(hb:zuk b)(hc:∀c∈m.constraints,zuO box.length c)(sa:zum a)(sb:zum b)(hl:m.constraints.length<=1000)(hr:rows.length<=1000)(hn:1000000<=n):ztg (zp.l2 n m q rows a b box) n ([],0)=zjf n m q a b box (zu5 n m q rows a b):=by
 have:=zcz (body:=zp.l2 n m q rows a b box) (k:=m.constraints.length) (n:=n) (st:=λb i=>(b,i)) (λi=>rowS n q rows a b i (m.constraints.getD i J)) (zjf n m q a b box) 1 [] (λi f=>?_) (λg b6 i f j=>?_) (λg b6 j=>?_) (by omega);·grind[zu5]
 ·grind[rowS]
 ·have e:m.constraints.getD i J=m.constraints[i]:=by simp_all
  have d:=hc _ (yi f);rw[e];simp only[zp.l2,zC f,if_true,jn,zb f,ya,sa.Sum ha d.len hn,sb.Sum hb d.len hn,zna (show rows.length<1000000 by omega) hn,znL d.len hn];unfold rowS;by_cases h:(m.constraints[i].kind !=0)=U;·rw[if_pos h,if_pos h,uc,zd (by omega)]
  ·grind[kS,zl,zd]
 ·simp only[zp.l2,zan];rfl
theorem zkU {n m q rows a b}(hF:Fuel n)(hS:ztW m)(hV:zuS m)(hq:zf0 m q=U)(ha:idx m.zte q.e=O a)(hb:idx m.zte q.f=O b)(hA:zuk a)(hB:zuk b)(hc:∀c∈m.constraints,zuO (boxM m).length c)(sa:zum a)(sb:zum b)(hr:rows.length<=1000):zp n m q rows=if(rows.all λx=>!badR m x)=U then zjf n m q a b (boxM m) (zu5 n m q rows a b)else O (⟨[],[],[],[]⟩,2):=by
 have o:=hF.big;have e:1000000<=n:=by omega
 have k:=hS.constraints;unfold zp;rw[zg7 o hS,zfA.2 hV,hq,ya,if_neg (by simp)];have:=zav (body:=zp.l1 n m q rows) (l:=rows) (n:=n) (st:=λi=>i) (λx=>!badR m x) (O (⟨[],[],[],[]⟩,2)) (zjf n m q a b (boxM m) (zu5 n m q rows a b)) (λd i p=>?_) (λd=>?_) (by omega);·simp_all
 ·simp only[zp.l1,zb p,ya,grd];by_cases g:(Z (rows[i]<0)||decide (m.constraints.length<=rows[i]))=U
  ·have h:badR m rows[i]=true:=by grind[badR]
   simp_all
  ·have f:=g;simp only[yF,yg,not_or,Int.not_le,Int.not_lt]at f;obtain⟨c,j⟩:=za8 f.1 f.2;unfold badR;simp only[g,ym,zd (i:=i) (by omega)];simp_all
 ·simp only[zp.l1,zm7 hS hV.lay e];grind[zpr]
theorem zjD {n m}(hn:4294967296<=n)(hS:ztW m)(hV:zuS m){a}(ha:a∈m.zte):zum a:=⟨((zlW hn hS hV).acts a ha).2.2.1,by have:=(zk5 hS ha).delta;omega⟩
section
variable{E:Nat->Nat->Bool}{K:Nat}
theorem zn9 {p}:∀{k i},anyR p i k=U↔∃j,i<=j/\j<i+k/\p j=U
 |0,i=>by grind[anyR]|k+1,i=>by
  simp only[anyR,yF,zn9 (k:=k) (i:=i+1)];grind
theorem zhO:∀(r)(ls),lev E K r ls=ls.flatMap λl=>lev E K r [l]
 |0,ls=>by simp[lev]|r+1,ls=>by
  have e:∀l,lev E K (r+1) [l]=(ext E K l).flatMap λx=>lev E K r [x]:=λl=>by
   have:lev E K (r+1) [l]=lev E K r (ext E K l):=by simp[lev]
   rw[this,zhO r]
  simp only[e];rw[lev,zhO r,List.flatMap_assoc]
theorem zmO {l x}(h:l≠[]):fstN (l++[x])=fstN l:=by cases l with|nil=>simp_all|cons a t=>rfl
theorem zev {l}{x:Nat}:lstN (l++[(x:Int)])=x:=by simp[lstN]
theorem zex {l x}:x∈ext E K l↔∃j,fstN l+1<=j/\j<K/\E (lstN l) j=U/\(j:Int)∉l/\x=l++[(j:Int)]:=by
 constructor;·grind[ziF]
 ·rintro⟨j,b,c,d,a,rfl⟩;refine ue.2 ⟨j-(fstN l+1),ub.2 (by omega),?_⟩;unfold ext1;simp_all
theorem zmc:∀(d)(path)(first last),path≠[]->fstN path=first->lstN path=last->(neP E K d path first last=U↔∃x∈lev E K d [path],zeb E x=U)
 |0,path,first,last,_,b,c=>by subst b c;simp[neP,lev,zeb]|d+1,path,first,last,i,b,c=>by
  subst b c;have e:lev E K (d+1) [path]=lev E K d (ext E K path):=by simp[lev]
  rw[e,zhO,neP,zn9];simp only[ue];constructor;·rintro⟨j,h,k,a⟩;simp only[yd,yB,ua,yH,Bool.not_eq_false']at a;obtain⟨⟨a,f⟩,l⟩:=a;obtain⟨x,m,g⟩:=(zmc d (path++[(j:Int)]) (fstN path) j (by simp) (zmO i) zev).1 l;exact⟨x,⟨_,zex.2 ⟨j,h,by omega,f,a,rfl⟩,m⟩,g⟩
  ·rintro⟨x,⟨y,o,n⟩,g⟩;obtain⟨j,h,k,a,f,rfl⟩:=zex.1 o;refine⟨j,h,by omega,?_⟩;simp only[yd,yB,ua,yH,Bool.not_eq_false'];exact⟨⟨f,a⟩,(zmc d (path++[(j:Int)]) (fstN path) j (by simp) (zmO i) zev).2 ⟨x,n,g⟩⟩
theorem zgL {x}:x∈cycP E K↔∃r,r<K/\x∈lev E K r (ones K)/\zeb E x=true:=by grind[cycP]
theorem zmA:zwd E K=U↔∀x,x∉cycP E K:=by
 unfold zwd;rw[zjs];constructor;·intro h x f;obtain⟨r,p,c,m⟩:=zgL.1 f;rw[zhO]at c;obtain⟨l,g,o⟩:=ue.1 c;obtain⟨a,i,rfl⟩:=y9.1 g;have:=ziW.1 (h (r+1) (by omega) (by omega)) a (ub.1 i);grind[zmc,fstN,lstN]
 ·intro h b q n;refine ziW.2 λa e=>?_;cases j:neP E K (b-1) [a] a a with
  |false=>rfl|true=>obtain⟨x,k,d⟩:=(zmc (b-1) [a] a a (by simp) (by simp[fstN]) (by simp[lstN])).1 j;refine absurd (zgL.2 ⟨b-1,by omega,?_,d⟩) (h x);rw[zhO];exact ue.2 ⟨_,y9.2 ⟨a,ub.2 e,rfl⟩,k⟩
def vtx (l:List Int)(i:Nat):Nat:=(l.getD i 0).toNat
def Chn (E:Nat->Nat->Bool)(l:List Int):Prop:=∀j,j+1<l.length->E (vtx l j) (vtx l (j+1))=U
theorem zii {l x i}(h:i<l.length):vtx (l++[x]) i=vtx l i:=by grind[vtx]
theorem znu {l}{x:Nat}:vtx (l++[(x:Int)]) l.length=x:=by grind[vtx]
theorem zl9 {l}:lstN l=vtx l (l.length-1):=by grind[lstN,vtx]
theorem zqY {l}:fstN l=vtx l 0:=by cases l<;>rfl
theorem Chn.snoc {l}{b:Nat}(h0:l≠[]):Chn E (l++[(b:Int)])↔Chn E l/\E (lstN l) b=true:=by
 have f:=List.length_pos_iff.2 h0;constructor
 ·intro h;refine⟨λj c=>?_,?_⟩
  ·have:=h j (by grind);grind[zii]
  ·have:=h (l.length-1) (by grind);grind[zii,znu,zl9]
 ·rintro⟨a,d⟩j c;by_cases e:j+1<l.length;·rw[zii (by omega),zii (by omega)];exact a j e
  grind[zii,znu,zl9]
theorem zow:∀{r}{x},x∈lev E K r (ones K)->x≠[]:=λ{r x}h e=>by have:=(zhP r zhV x h).pos;simp_all
theorem zp4:∀{r}{x},x∈lev E K r (ones K)->Chn E x|0,x,h=>by obtain⟨a,-,rfl⟩:=y9.1 h;intro j e;grind|r+1,x,h=>by rw[zjv]at h;obtain⟨y,b,d⟩:=ue.1 h;obtain⟨j,-,-,c,-,rfl⟩:=zex.1 d;exact(Chn.snoc (zow b)).2 ⟨zp4 b,c⟩
theorem zoy {F}:∀{r}{x},x∈lev F K r (ones K)->Chn E x->x∈lev E K r (ones K)|0,x,h,_=>h|r+1,x,h,c=>by rw[zjv]at h|-;obtain⟨y,a,d⟩:=ue.1 h;obtain⟨j,e,f,-,g,rfl⟩:=zex.1 d;obtain⟨i,b⟩:=(Chn.snoc (zow a)).1 c;exact ue.2 ⟨y,zoy a i,zex.2 ⟨j,e,f,b,g,rfl⟩⟩
def zwl (E:Nat->Nat->Bool)(l:List Int):Prop:=∀i,i<l.length->E (vtx l i) (vtx l ((i+1)%l.length))=U
theorem zmH {l}(h0:l≠[]):zwl E l↔Chn E l/\zeb E l=true:=by
 have d:=List.length_pos_iff.2 h0;unfold zeb;rw[zl9,zqY];constructor
 ·intro h;refine⟨λj c=>?_,?_⟩
  ·have:=h j (by omega);grind[Nat.mod_eq_of_lt]
  ·have:=h (l.length-1) (by omega);grind[Nat.mod_self]
 ·rintro⟨a,f⟩i b;by_cases e:i+1<l.length;·rw[Nat.mod_eq_of_lt e];exact a i e
  grind[Nat.mod_self]
theorem zpL {x}(h:x∈cycP E K):zwl E x:=by grind[zgL,zmH,zow,zp4]
theorem zjW {F x}(h:x∈cycP F K)(hc:zwl E x):x∈cycP E K:=by obtain⟨r,c,a,-⟩:=zgL.1 h;obtain⟨d,b⟩:=(zmH (zow a)).1 hc;exact zgL.2 ⟨r,c,zoy a d,b⟩
theorem zjV {x}(h:x∈cycP E K):zuh K x:=by grind[zgL,zhP,zhV]
theorem zwl.mono {F x}(hp:zuh K x)(h:∀a b,a<K->b<K->E a b=U->F a b=U)(hc:zwl E x):zwl F x:=λi d=>by
 have c:∀j,j<x.length->vtx x j<K:=λj e=>by
  have:=hp.mem x[j] (yi e);grind[vtx]
 exact h _ _ (c i d) (c _ (vQ _ (by omega))) (hc i d)
structure Walk (E:Nat->Nat->Bool)(K p:Nat)(f:Nat->Nat):Prop where
 per:∀i,f (i+p)=f i
 lt:∀i,f i<K
 edge:∀i,E (f i) (f (i+1))=U
end
theorem zno {α:Type}{l:List α}{i:Nat}{x:α}(h:i<l.length):sto l (i:Int) x=O (l.set i x):=by unfold sto;simp[h]
def Rch (E:Nat->Nat->Bool)(K a t:Nat):Prop:=∀S:Nat->Prop,S a->(∀b c,S b->c<K->E b c=U->S c)->S t
theorem Rch.refl {E K a}:Rch E K a a:=λ_ h _=>h
theorem Rch.step {E K a b c}(h:Rch E K a b)(hc:c<K)(he:E b c=U):Rch E K a c:=λS e d=>d b c (h S e d) hc he
theorem zp8 {l}{j:Nat}(h:l.length<1000000):idx (l++[(j:Int)]) (ztn ((l++[(j:Int)]).length:Int) 1)=O (j:Int):=by
 have a:(l++[(j:Int)]).length=l.length+1:=by simp
 grind[zd9,zb]
theorem zlN {s:List Bool}{j}(hj:j<s.length)(h:s.getD j M=M):(s.set j U).count U=s.count U+1:=by grind
theorem zhK {s:List Bool}{j v}(hj:j<s.length):(s.set j U).getD v M=if v=j then U else s.getD v false:=by grind
structure BInv (E:Nat->Nat->Bool)(K a t:Nat)(s:List Bool)(ls:List (List Int)):Prop where
 len:s.length=K
 cnt:ls.length<=s.count U
 pl:∀l∈ls,1<=l.length/\l.length<=s.count U/\idx l (ztn (l.length:Int) 1)=O ((lstN l:Nat):Int)/\lstN l<K/\s.getD (lstN l) M=U
 rch:∀v,v<K->s.getD v M=U->Rch E K a v
 fro:s.getD a M=U
 don:∀v,v<K->s.getD v M=U->(∃l∈ls,lstN l=v)\/v≠t/\∀c,c<K->E v c=U->s.getD c M=U
theorem BInv.mark {E K a t s l r j}(h6:K<=6)(h:BInv E K a t s (l::r))(hj:j<K)(he:E (lstN l) j=U)(hs:s.getD j M=M):BInv E K a t (s.set j U) (l::(r++[l++[(j:Int)]])):=by
 have hjl:j<s.length:=by rw[h.len];exact hj
 have hc:=zlN hjl hs;obtain⟨p1,p2,p3,p4,p5⟩:=h.pl l (by simp);have hcl:s.count U<=s.length:=uS;have hlen:=h.len;have hsn:∀v,s.getD v M=U->(s.set j U).getD v M=true:=λv hv=>by grind
 refine⟨by grind,?_,λx hx=>?_,λv hv hv2=>?_,hsn _ h.fro,λv hv hv2=>?_⟩
 ·have:=h.cnt;grind
 ·have hold:∀y∈l::r,1<=y.length/\y.length<=(s.set j U).count U/\idx y (ztn (y.length:Int) 1)=O ((lstN y:Nat):Int)/\lstN y<K/\(s.set j U).getD (lstN y) M=true:=λy hy=>by
   obtain⟨q1,q2,q3,q4,q5⟩:=h.pl y hy;exact⟨q1,by omega,q3,q4,hsn _ q5⟩
  rcases yG.1 hx with rfl|hx;·exact hold _ (by simp)
  ·rcases yu.1 hx with hx|hx;·grind
   ·simp only[yL]at hx;subst hx;rw[zp8 (by omega),zev];exact⟨by simp,by simp;omega,rfl,hj,by rw[zhK hjl];simp⟩
 ·rw[zhK hjl]at hv2;by_cases e:v=j;·subst e;exact(h.rch _ p4 p5).step hj he
  ·rw[if_neg e]at hv2;exact h.rch v hv hv2
 ·rw[zhK hjl]at hv2;by_cases e:v=j;·subst e;exact .inl ⟨l++[(v:Int)],by simp,zev⟩
  ·rw[if_neg e]at hv2;rcases h.don v hv hv2 with⟨x,hx,e⟩|⟨q1,q2⟩;·exact .inl ⟨x,by rcases yG.1 hx with rfl|hx<;>simp[*],e⟩
   ·exact .inr ⟨q1,λc hc he=>hsn c (q2 c hc he)⟩
theorem BInv.pop {E K a t s l r}(h:BInv E K a t s (l::r))(hne:lstN l≠t)(hall:∀c,c<K->E (lstN l) c=U->s.getD c M=U):BInv E K a t s r:=by
 refine⟨h.len,by have:=h.cnt;grind,λx b=>h.pl x (by simp[b]),h.rch,h.fro,λv f d=>?_⟩;rcases h.don v f d with⟨x,b,e⟩|q;·grind
 grind
def BQ (E:Nat->Nat->Bool)(K a t:Nat)(r:Option (List Int)):Prop:=∃l,r=O l/\(l≠[]↔Rch E K a t)
theorem zsi {n}{g}{K a t}(hg:zur g K)(hn:1000000<=n){l}{rec117}{xd}(hrec:∀s ls m,BInv (hasP g) K a t s ls->K-s.count U+ls.length<xd->BQ (hasP g) K a t (rec117 (s,ls,m)))(hne:lstN l≠t){s r m}(hB:BInv (hasP g) K a t s (l::r))(hM:K-s.count U+(r.length+1)<=xd):BQ (hasP g) K a t (ztg (zN.l2 n g rec117 l ((lstN l:Nat):Int)) n (s,l::r,m,0)):=by
 have h6:=hg.le;refine zc5 (body:=zN.l2 n g rec117 l ((lstN l:Nat):Int)) (λs=>K-s.2.2.2.toNat) (λs=>∃(j:Nat)(r:List (List Int)),s.2.2.2=(j:Int)/\j<=K/\s.2.1=l::r/\BInv (hasP g) K a t s.1 (l::r)/\K-s.1.count U+(r.length+1)<=xd/\∀c,c<j->hasP g (lstN l) c=U->s.1.getD c M=U) (λ_ r=>BQ (hasP g) K a t r) (λrec s hI hr=>?_) n _ ⟨0,r,rfl,yj _,rfl,hB,hM,by simp⟩ (by grind);obtain⟨s1,s2,s3,s4⟩:=s;obtain⟨j,r,e4,hj,e2,hB,hM,hd⟩:=hI;simp only at e4 e2 hB hM hd;subst e4 e2;obtain⟨p1,p2,p3,p4,p5⟩:=hB.pl l (by simp);have hcl:s1.count U<=s1.length:=uS;have hlen:=hB.len;by_cases h:j<K
 ·have hlt:Z ((j:Int)<g.size)=true:=by rw[hg.size];grind
  have hjl:j<s1.length:=by omega
  have hx:idx s1 (j:Int)=O (s1.getD j M):=by grind[zb]
  have hcnt:=hB.cnt;simp only[yU]at hcnt;simp only[zN.l2,hlt,if_true,jn,zle hg p4 h,ya,hx,yp,ym,yy,grd,zd (i:=j) (by omega)];split<;>rename_i hc
  ·simp only[yd,yB]at hc;rw[zno hjl,ya,zl (by simp;omega),ya,zl (by simp;omega),ya,zl (by simp;omega),ya];have hB':=hB.mark h6 h hc.1 hc.2;have hcc:=zlN hjl hc.2;refine hr (s1.set j U,l::(r++[l++[(j:Int)]]),s3+1,((j+1:Nat):Int)) ⟨j+1,r++[l++[(j:Int)]],rfl,by omega,rfl,hB',?_,λc hcj he=>?_⟩ (by simp only[yv];omega)
   ·have:(s1.set j U).count U<=K:=by have:=uS (a:=U) (l:=s1.set j U);simp at this;omega
    simp only[yR,yU,ui];omega
   ·rw[zhK hjl];by_cases e:c=j;·rw[if_pos e]
    ·rw[if_neg e];exact hd c (by omega) he
  ·refine hr (s1,l::r,s3,((j+1:Nat):Int)) ⟨j+1,r,rfl,by omega,rfl,hB,hM,λc hcj he=>?_⟩ (by simp only[yv];omega);by_cases e:c=j
   ·subst e;cases hs:s1.getD c M with|true=>rfl|false=>simp only[yd,yB]at hc;exact absurd ⟨he,hs⟩ hc
   ·exact hd c (by omega) he
 ·have hjK:j=K:=by omega
  subst hjK;have hge:Z ((j:Int)<g.size)=false:=by rw[hg.size];simp
  have hcut:cut (l::r) 1 ((l::r).length:Int)=O r:=zis (l:=l::r) (a:=1) (by simp);simp only[zN.l2,hge,ye,if_false,hcut,ya];exact hrec _ _ _ (hB.pop hne hd) (by omega)
theorem zlZ {n}{g}{K a t}(hg:zur g K)(hn:1000000<=n)(ha:a<K)(ht:t<K):BQ (hasP g) K a t (zN n g (a:Int) (t:Int)):=by
 have h6:=hg.le;have hrep:a<(xA K M).length:=by grind
 have hmk:mkl 1 g.size (M:Bool)=O (xA K M):=by rw[hg.size];unfold mkl;grind
 have hf:(xA K M).getD a M=false:=by grind
 have hcnt:=zlN hrep hf;rw[List.count_replicate]at hcnt;simp only[beq_iff_eq,ye,if_false,uk]at hcnt;have hget:∀v,((xA K M).set a U).getD v M=U->v=a:=λv hv=>by grind
 have hl1:lstN [(a:Int)]=a:=by simp[lstN]
 have h0:BInv (hasP g) K a t ((xA K M).set a U) [[(a:Int)]]:=by
  refine⟨by simp,by grind,λl hl=>?_,λv _ hv=>by grind[Rch.refl],by grind,λv _ hv=>.inl ⟨[(a:Int)],by simp,by grind⟩⟩;simp only[yL]at hl;subst hl;rw[hl1];exact⟨by simp,by grind,zp8 (l:=[]) (by simp),ha,by grind⟩
 unfold zN;rw[hmk,ya,zb hrep,ya,zno hrep,ya];refine zc5 (body:=zN.l1 n g (t:Int)) (λs=>K-s.1.count U+s.2.1.length) (λs=>BInv (hasP g) K a t s.1 s.2.1) (λ_ r=>BQ (hasP g) K a t r) (λrec s hI hr=>?_) n _ h0 (by grind);obtain⟨s1,s2,s3⟩:=s;simp only at hI;cases s2 with
 |nil=>
  simp only[zN.l1,ui,Int.ofNat_zero,Int.lt_irrefl,decide_false,ye,if_false];refine⟨[],by simp,?_⟩;simp only[ne_eq,not_true_eq_false,false_iff];intro hR;have hd:∀v,v<K->s1.getD v M=U->v≠t/\∀c,c<K->hasP g v c=U->s1.getD c M=true:=λv hv hs=>by
   rcases hI.don v hv hs with⟨x,hx,_⟩|q;·simp at hx
   ·exact q
  have:=hR (λv=>v<K/\s1.getD v M=U) ⟨ha,hI.fro⟩ λb c hb hc he=>⟨hc,(hd b hb.1 hb.2).2 c hc he⟩;exact(hd t this.1 this.2).1 rfl|cons l r=>
  obtain⟨p1,p2,p3,p4,p5⟩:=hI.pl l (by simp);have hpos:Z ((0:Int)<((l::r).length:Int))=true:=decide_eq_true (by simp only[yU];omega);have hi0:idx (l::r) 0=O l:=rfl;simp only[zN.l1,hpos,if_true,hi0,ya,p3];split<;>rename_i hc
  ·refine⟨l,rfl,?_⟩;have e:lstN l=t:=by
    have:((lstN l:Nat):Int)=(t:Int):=by simpa using hc
    omega
   rw[e]at p4 p5;exact⟨λ_=>hI.rch t p4 p5,λ_ e=>by subst e;simp at p1⟩
  ·exact zsi hg hn (xd:=K-s1.count U+(r.length+1)) (λs ls m hB hM=>hr (s,ls,m) hB (by simpa using hM)) (λe=>hc (by rw[e];simp)) hI (yo _)
theorem zjX {n}{ztr}{K a t:Nat}(h6:K<=6)(hl:ztr.length=K*K)(hn:1000000<=n)(ha:a<K)(ht:t<K):BQ (hasP ⟨(K:Int),ztr⟩) K a t (zdU n (K:Int) ztr (a:Int) (t:Int)):=by
 have c:zur ⟨K,ztr⟩ K:=⟨rfl,h6,hl⟩;have d:=y8 h6 h6;have e:zto K K=K*K:=by grind[zto,zaf]
 have b:zbW n K ztr=O (⟨K,ztr⟩,U):=by
  unfold zbW;simp;omega
 unfold zdU;grind[zlZ]
section
variable(E:Nat->Nat->Bool)(K a t:Nat)
def extR (l:List Int):List (List Int):=(xr K).flatMap λj=>if(E (lstN l) j&&!decide ((j:Int)∈l))=U then[l++[(j:Int)]]else[]
def levA:Nat->List (List Int)|0=>[[(a:Int)]]|r+1=>(levA r).flatMap (extR E K)
def zwu:Nat->Nat->List Int|0,_=>[]|d+1,i=>match(levA E K a i).find? λl=>lstN l==t with|some l=>l|none=>zwu d (i+1)
def pathR:List Int:=zwu E K a t K 0
theorem zq5 {l x}:x∈extR E K l↔∃b,b<K/\E (lstN l) b=U/\(b:Int)∉l/\x=l++[(b:Int)]:=by
 simp only[extR];grind
theorem zmb {r x}:x∈levA E K a (r+1)↔∃l,l∈levA E K a r/\∃b,b<K/\E (lstN l) b=U/\(b:Int)∉l/\x=l++[(b:Int)]:=by grind[levA,zq5]
theorem zoi (hK:K<=6)(l):(extR E K l).length<=6:=by
 have:=zcw (f:=λj=>if(E (lstN l) j&&!decide ((j:Int)∈l))=U then[l++[(j:Int)]]else[]) (B:=1) (l:=xr K) λx _=>by grind
 grind[extR]
theorem zou (hK:K<=6):∀r,(levA E K a r).length<=6^r
 |0=>by simp[levA]|r+1=>by
  have c:=zou hK r;have b:=zcw (f:=extR E K) (B:=6) (l:=levA E K a r) λx _=>zoi E K hK x;grind[levA]
end
theorem zgg {E K a}(ha:a<K):∀{r x},x∈levA E K a r->zuh K x/\x.length=r+1/\lstN x<K/\Rch E K a (lstN x)
 |0,x,h=>by
  simp only[levA,yL]at h;subst h;have d:lstN [a]=a:=by simp[lstN]
  exact⟨zme ha,rfl,by simp_all,by grind[Rch.refl]⟩|r+1,x,h=>by
  obtain⟨l,d,b,c,f,g,rfl⟩:=(zmb E K a).1 h;obtain⟨i,j,k,e⟩:=zgg ha d;rw[zev];exact⟨i.snoc c g,by grind,c,e.step c f⟩
theorem zov {E K a}:∀{r x}{c:Nat},x∈levA E K a r->(c:Int)∈x->∃r',r'<=r/\∃y,y∈levA E K a r'/\lstN y=c
 |0,x,c,h,d=>by
  simp only[levA,yL]at h;subst h;exact⟨0,yo _,[a],by simp[levA],by grind[lstN]⟩|r+1,x,c,h,d=>by
  obtain⟨l,f,b,i,g,e,rfl⟩:=(zmb E K a).1 h;rcases yu.1 d with d|d
  ·obtain⟨r',g,e⟩:=zov f d;grind
  ·exact⟨r+1,yo _,_,h,by grind[zev]⟩
theorem zlm {E K a t}(ha:a<K):∀{d i},zwu E K a t d i≠[]->Rch E K a t
 |0,_,h=>absurd rfl h|d+1,i,h=>by
  simp only[zwu]at h;split at h<;>rename_i b
  ·have e:=List.find?_some b;have c:=(zgg ha (List.mem_of_find?_eq_some b)).2.2.2;simp_all
  ·exact zlm ha h
theorem zll {E K a t}(ha:a<K):∀{d i},zwu E K a t d i=[]->∀j,i<=j->j<i+d->∀l∈levA E K a j,lstN l≠t
 |0,_,_=>λj c f=>by omega|d+1,i,h=>λj c f l b=>by
  simp only[zwu]at h;split at h<;>rename_i g;·have k:=(zgg ha (List.mem_of_find?_eq_some g)).1.pos;simp_all
  ·by_cases e:j=i;·simp_all
   ·exact zll ha h j (by omega) (by omega) l b
theorem zmX {E K a t}(ha:a<K):pathR E K a t≠[]↔Rch E K a t:=by
 constructor;·exact zlm ha
 ·intro k g;have o:=zll ha g;obtain⟨j,i,l,f,e⟩:=k (λv=>∃j,j<K/\∃l,l∈levA E K a j/\lstN l=v) ⟨0,by omega,[a],by simp[levA],by simp[lstN]⟩ λb c⟨j,i,l,f,e⟩h g=>by
   by_cases n:(c:Int)∈l;·grind[zov]
   ·have d:=(zmb E K a).2 ⟨l,f,c,h,by simp_all,n,rfl⟩;obtain⟨m,q,r,p⟩:=zgg ha d;have:=m.len;grind[zev]
  grind
theorem zn0 {n}{ztr}{K t:Nat}(h6:K<=6)(hl:ztr.length=K*K)(hn:1000000<=n){ls}{r}{rec}(hp:∀l∈ls,zuh K l)(hlen:ls.length<=800000):ztg (zaw.l2 n (K:Int) ztr (t:Int) ls r rec) n (([]:List (List Int)),0)=match ls.find? λl=>lstN l==t with
   |some l=>O l|none=>rec (ls.flatMap (extR (hasP ⟨(K:Int),ztr⟩) K),ztc r 1):=by
 have hg:zur ⟨(K:Int),ztr⟩ K:=⟨rfl,h6,hl⟩;have:=zaS (body:=zaw.l2 n (K:Int) ztr (t:Int) ls r rec) (len:=ls.length) (st:=λ(b:List (List Int))i=>(b,(i:Int))) (g:=λi _=>match(ls.drop i).find? λl=>lstN l==t with|some l=>O l|none=>rec (ls.flatMap (extR (hasP ⟨(K:Int),ztr⟩) K),ztc r 1)) (λi b=>b=(ls.take i).flatMap (extR (hasP ⟨(K:Int),ztr⟩) K)) (λrec2 i b hi hI hr=>?_) (λrec2 b hI=>?_) n 0 [] (yj _) (by omega) (by simp);·simp_all
 ·have hpl:=hp _ (yi hi);obtain⟨e1,hlK⟩:=hpl.lst h6;have hpl6:=hpl.len;have hbl:b.length<=4800000:=by
   have:=zcw (f:=extR (hasP ⟨(K:Int),ztr⟩) K) (B:=6) (l:=ls.take i) λx _=>zoi _ K h6 x;grind
  have inner:ztg (zaw.l3 n (K:Int) ztr ls (i:Int) rec2 ((lstN ls[i]:Nat):Int)) n (b,0)=rec2 (b++extR (hasP ⟨(K:Int),ztr⟩) K ls[i],((i+1:Nat):Int)):=by
   have:=zcz (body:=zaw.l3 n (K:Int) ztr ls (i:Int) rec2 ((lstN ls[i]:Nat):Int)) (k:=K) (n:=n) (st:=λ(o:List (List Int))j=>(o,((j:Nat):Int))) (λj=>if(hasP ⟨(K:Int),ztr⟩ (lstN ls[i]) j&&!decide ((j:Int)∈ls[i]))=U then[ls[i]++[(j:Int)]]else[]) (λo=>rec2 (o,ztc (i:Int) 1)) 1 b (λj _=>by grind) (λrec3 o j hj hI3=>?_) (λrec3 o hI3=>?_) (by omega)
   ·rw[zd (i:=i) (by omega)]at this;exact this
   ·have hlt:Z ((j:Int)<(K:Int))=true:=by simp_all
    simp only[zaw.l3,hlt,if_true,jn,zlR hg hlK hj,zb hi,ya,yp,ym,zgw (show ls[i].length<1000000 by omega) hn,zh2 (show ls[i].length<1000000 by omega) hn,yy,grd,zd (i:=j) (by omega)];grind[zl]
   ·have hge:Z ((K:Int)<(K:Int))=false:=by simp
    simp only[zaw.l3,hge,ye,if_false]
  simp only[zaw.l2,zC hi,if_true,zb hi,ya,e1];rw[zj hi,List.find?_cons];by_cases hc:lstN ls[i]=t;·grind
  ·have hc1:(((lstN ls[i]:Nat):Int)==(t:Int))=false:=by grind
   have hc2:(lstN ls[i]==t)=false:=by simp_all
   simp only[hc1,hc2,ye,if_false];grind[wi]
 ·simp only[zaw.l2,zan,ye,if_false,xN,List.find?_nil];simp_all
theorem zmg {n}{ztr}{K a t:Nat}(h6:K<=6)(hl:ztr.length=K*K)(hn:1000000<=n)(ha:a<K)(ht:t<K):zaw n (K:Int) ztr (a:Int) (t:Int)=O (pathR (hasP ⟨(K:Int),ztr⟩) K a t):=by
 have k:=y8 h6 h6;have e:zto K K=K*K:=by grind[zto,zaf]
 have h:zdk n K ztr=O true:=by
  unfold zdk;simp;omega
 unfold zaw;rw[h,ya,if_neg (by simp_all)];have:=zw (body:=zaw.l1 n K ztr t) (len:=K) (st:=λi=>(levA (hasP ⟨K,ztr⟩) K a i,i)) (g:=λi=>O (zwu (hasP ⟨K,ztr⟩) K a t (K-i) i)) (λf i m j=>?_) (λf=>?_) n 0 (yj _) (by omega);·exact this
 ·have d:Z (i<(K:Int))=true:=by simp_all
  have b:(levA (hasP ⟨K,ztr⟩) K a i).length<=800000:=by
   have o:=zou (hasP ⟨K,ztr⟩) K a h6 i;have p:6^i<=6^5:=uj (by omega) (by omega);grind
  simp only[zaw.l1,d,if_true];rw[zn0 h6 hl hn (λl hl=>(zgg ha hl).1) b,show K-i=K-(i+1)+1 by omega,zwu,zd (i:=i) (by omega)];split<;>rename_i q;·rfl
  ·exact j
 ·have c:Z (K<(K:Int))=false:=by simp
  simp only[zaw.l1,c,ye,if_false,un,zwu]
theorem rem_n {r k:Nat}(h0:0<k):zuo (r:Int) (k:Int)=O ((r%k:Nat):Int):=by
 unfold zuo;grind
theorem quo_n {r k:Nat}(h0:0<k)(hr:r<=1000000):zul (r:Int) (k:Int)=O ((r/k:Nat):Int):=by
 have b:r/k<=r:=Nat.div_le_self _ _;have a:(r:Int).tdiv k=r/k:=by simp_all
 unfold zul;grind[zaf]
theorem zrC {r k:Nat}(h:r<k*k):r/k<k:=by
 rcases Nat.eq_zero_or_pos k with e|e;·simp_all
 ·exact(Nat.div_lt_iff_lt_mul e).2 h
structure GrOK (L:Nat)(g:ztv)(K:Nat):Prop where
 size:g.size=(K:Int)pos:1<=K
 le:K<=6
 len:g.least.length=K*K
 fst:0<=g.first/\g.first+((K*K:Nat):Int)<=(L:Int)num:∀x∈g.least,-4000000<=x/\x<=4000000
theorem GrOK.sq {L g K}(h:GrOK L g K):K*K<=36:=y8 h.le h.le
theorem GrOK.mul {L g K}(h:GrOK L g K):zto g.size g.size=((K*K:Nat):Int):=by
 have:=h.sq;rw[h.size];grind[zto,zaf]
theorem GrOK.cell {L g K}(h:GrOK L g K)(hL:L<=1000000){k}(hk:k<K*K):ztc g.first (k:Int)=g.first+(k:Int)/\0<=g.first+(k:Int)/\g.first+(k:Int)<(L:Int):=by
 have a:=h.fst;exact⟨zaf (by omega) (by omega),by omega,by omega⟩
def lstG (g:ztv)(k:Nat):Int:=g.least.getD k 0
def zvm (g:ztv)(b:List Range):List Bool:=(xr g.least.length).map λj=>Z (lstG g j<=(rgP b (g.first+(j:Int))).lo)
def ze6 (g:ztv)(b:List Range)(k:Nat):Bool:=!(pathR (hasP ⟨g.size,zvm g b⟩) g.size.toNat (k%g.size.toNat) (k/g.size.toNat)).isEmpty
def cutP (g:ztv)(b:List Range)(k:Nat):Range:=if(Z (lstG g k<=(rgP b (g.first+(k:Int))).hi)&&ze6 g b k)=U then⟨(rgP b (g.first+(k:Int))).lo,lstG g k-1⟩else rgP b (g.first+(k:Int))
theorem zjw {g}{k:Nat}(h:k<g.least.length):idx g.least (k:Int)=O (lstG g k):=by grind[zb,lstG]
theorem zfn (g b):(zvm g b).length=g.least.length:=by simp[zvm]
theorem zjp {n L K:Nat}{g:ztv}{b}{k}(hg:GrOK L g K)(hb:b.length=L)(hL:L<=1000)(hk:k<K*K)(hn:1000000<=n):zbr n g b (k:Int)=O (ze6 g b k):=by
 have hsq:=hg.sq;have h6:=hg.le;have h1:=hg.pos;have hlen:=hg.len;have hmk:mkl 1 (g.least.length:Int) (M:Bool)=O (xA g.least.length M):=by unfold mkl;grind
 unfold zbr;rw[hmk,ya];have:=zaS (body:=zbr.l1 n g b (k:Int)) (len:=g.least.length) (st:=λ(s:List Bool)i=>(s,(i:Int))) (g:=λ_ _=>O (ze6 g b k)) (λi s=>s=(zvm g b).take i++xA (g.least.length-i) M) (λrec i s hi hI hr=>?_) (λrec s hI=>?_) n 0 (xA g.least.length M) (yj _) (by omega) (by simp);·grind
 ·have hc:=hg.cell (show L<=1000000 by omega) (k:=i) (by omega);have hil:((zvm g b).take i).length=i:=by grind[zfn]
  have his:i<s.length:=by grind
  simp only[zbr.l1,zC hi,if_true,zjw hi,ya,hc.1];rw[zdW hc.2.1 (by simp_all),ya,zb his,ya,zno his,ya,zd (i:=i) (by omega)];refine hr _ ?_;have hp:i<(zvm g b).length:=by grind[zfn]
  rw[hI,yt hp,show g.least.length-i=g.least.length-(i+1)+1 by omega,List.replicate_succ,uL _ _ (by omega),hil,un,wX,yJ];grind[zvm]
 ·have hs:s=zvm g b:=by
   rw[hI,un,List.replicate_zero,uc];exact xS (by rw[zfn];simp_all)
  have hm:k%K<K:=vQ _ h1;have hd:=zrC hk;obtain⟨l,e1,e2⟩:=zjX (n:=n) (ztr:=zvm g b) h6 (by grind[zfn]) hn hm hd;simp only[zbr.l1,zan,hg.size,rem_n h1,quo_n (r:=k) h1 (by omega),ya];rw[<-zmX hm]at e2;unfold ze6;rw[hg.size,yv];congr 1;grind[List.length_pos_iff]
theorem zjn {n L K}{g}{b}(hg:GrOK L g K)(hb:b.length=L)(hL:L<=1000)(hn:1000000<=n):zbf n g b=O (zvm g b):=by
 have f:=hg.sq;have c:=hg.len;have e:=zfn g b;have:=zw (body:=zbf.l1 n g b) (len:=K*K) (st:=λi=>((zvm g b).take i,i)) (g:=λ_=>O (zvm g b)) (λa i h j=>?_) (λa=>?_) n 0 (yj _) (by omega);·grind[zbf]
 ·have o:=hg.cell (show L<=1000000 by omega) (k:=i) h;have l:Z (i<K*K)=true:=by grind
  have m:i<(zvm g b).length:=by omega
  rw[yt m]at j;simp only[zbf.l1,hg.mul,zjw (show i<g.least.length by omega)];grind[zdW,app1,zd,zvm]
 ·have d:Z (K*K<K*K)=false:=by simp
  simp only[zbf.l1,hg.mul];grind
theorem zm5 {n L K}{g}{b}{k}(hg:GrOK L g K)(hb:b.length=L)(hL:L<=1000)(hk:k<K*K)(hn:1000000<=n):zh3 n g b (k:Int)=O (cutP g b k):=by
 have m:=hg.sq;have e:=hg.pos;have j:=hg.len;have i:=hg.cell (show L<=1000000 by omega) (k:=k) hk;have p:k%K<K:=vQ _ e;have o:=zrC hk;have c:=zmg (n:=n) (ztr:=zvm g b) (K:=K) (a:=k%K) (t:=k/K) hg.le (by grind[zfn]) hn p o;have f:k<g.least.length:=by omega
 have l:=hg.num (lstG g k) (by grind[lstG]);unfold zh3;rw[i.1,zdW i.2.1 (by simp_all),ya,hg.size,quo_n (r:=k) e (by omega),ya,rem_n e,ya];simp only[jn,zjw f,ya,zjn hg hb hL hn,yp,ym,c,yy,grd,if_true];have d:((k/K:Nat)==((k%K:Nat):Int)||decide (0<((pathR (hasP ⟨K,zvm g b⟩) K (k%K) (k/K)).length:Int)))=ze6 g b k:=by
  unfold ze6;rw[hg.size,yv,wb];simp only[yF,beq_iff_eq];constructor
  ·rintro(h|h)
   ·have:k/K=k%K:=by omega
    grind[zmX,Rch.refl]
   grind
  grind[List.length_pos_iff]
 rw[d];unfold cutP;split<;>rename_i h;·grind[ztn,zaf,znP]
 ·rfl
structure PR where
 k:Nat
 st:List Step
 b:List Range
def PR.bind (p:PR)(f:List Step->List Range->PR):PR:=if p.k=0 then f p.st p.b else p
theorem PR.zvs {st b f}:(PR.mk 0 st b).bind f=f st b:=rfl
theorem PR.zu9 {p:PR}{f}(h:p.k≠0):p.bind f=p:=if_neg h
def zvn (bud:Nat)(kind index cell:Int)(r:Range)(st:List Step)(b:List Range):PR:=if r=rgP b cell then⟨0,st,b⟩else if bud<=st.length then⟨2,st,b⟩else if r.hi<r.lo then⟨1,st++[⟨kind,index,cell⟩],b⟩else⟨0,st++[⟨kind,index,cell⟩],zup b cell r⟩
theorem zlw {bud kind index cell r st b}(h:r=rgP b cell):zvn bud kind index cell r st b=⟨0,st,b⟩:=if_pos h
theorem zkC {bud kind index cell r st b}(h:¬r=rgP b cell)(h2:bud<=st.length):zvn bud kind index cell r st b=⟨2,st,b⟩:=by unfold zvn;grind
theorem zlx {bud kind index cell r st b}(h:¬r=rgP b cell)(h2:¬bud<=st.length)(h3:r.hi<r.lo):zvn bud kind index cell r st b=⟨1,st++[⟨kind,index,cell⟩],b⟩:=by unfold zvn;grind
theorem zoT {bud kind index cell r st b}(h:¬r=rgP b cell)(h2:¬bud<=st.length)(h3:¬r.hi<r.lo):zvn bud kind index cell r st b=⟨0,st++[⟨kind,index,cell⟩],zup b cell r⟩:=by unfold zvn;grind
def rowT (bud i:Nat)(row:Row):List Term->PR->PR|[],p=>p|t::l,p=>rowT bud i row l (p.bind λst b=>zvn bud 0 i t.cell (ze2 row b t.cell) st b)
def zvE (row:Row):Bool:=row.ztf.isEmpty&&Z (row.bound<0)
def zeD (bud i:Nat)(row:Row)(p:PR):PR:=p.bind λst b=>if zvE row=U then if bud<=st.length then⟨2,st,b⟩else⟨1,st++[⟨0,(i:Int),-1⟩],b⟩else rowT bud i row row.ztf ⟨0,st,b⟩
def zuC (bud:Nat):Nat->List Row->PR->PR|_,[],p=>p|i,r::l,p=>zuC bud (i+1) l (zeD bud i r p)
def grT (bud i:Nat)(g:ztv):Nat->Nat->PR->PR|0,_,p=>p|d+1,k,p=>grT bud i g d (k+1) (p.bind λst b=>zvn bud 1 i (g.first+(k:Int)) (cutP g b k) st b)
def zaR (bud:Nat):Nat->List ztv->PR->PR|_,[],p=>p|i,g::l,p=>zaR bud (i+1) l (grT bud i g g.least.length 0 p)
def zug (bud:Nat)(R:List Row)(G:List ztv)(st:List Step)(b:List Range):PR:=zaR bud 0 G (zuC bud 0 R ⟨0,st,b⟩)
def runU (bud:Nat)(R:List Row)(G:List ztv):Nat->List Step->List Range->PR|0,st,b=>⟨0,st,b⟩|f+1,st,b=>if(zug bud R G st b).k=0/\st.length<(zug bud R G st b).st.length then runU bud R G f (zug bud R G st b).st (zug bud R G st b).b else zug bud R G st b
theorem zfs {bud i row}:∀{l}{p},p.k≠0->rowT bud i row l p=p|[],_,_=>rfl|t::l,p,h=>by rw[rowT,PR.zu9 h];exact zfs h
theorem zgA {bud i row}{p}(h:p.k≠0):zeD bud i row p=p:=PR.zu9 h
theorem zft {bud}:∀{i}{l}{p},p.k≠0->zuC bud i l p=p|_,[],_,_=>rfl|i,r::l,p,h=>by rw[zuC,zgA h];exact zft h
theorem zgK {bud i g}:∀{d k}{p},p.k≠0->grT bud i g d k p=p|0,_,_,_=>rfl|d+1,k,p,h=>by rw[grT,PR.zu9 h];exact zgK h
theorem zeO {bud}:∀{i}{l}{p},p.k≠0->zaR bud i l p=p|_,[],_,_=>rfl|i,g::l,p,h=>by rw[zaR,zgK h];exact zeO h
structure PI (bud L m:Nat)(st:List Step)(b:List Range):Prop where
 box:boxP b=U
 len:b.length=L
 ne:∀r∈b,r.lo<=r.hi
 ge:m<=st.length
 le:st.length<=bud
def PG (bud L m:Nat)(p:PR):Prop:=p.k=0->PI bud L m p.st p.b
def SubR (r o:Range):Prop:=r.lo<=r.hi->o.lo<=r.lo/\r.hi<=o.hi
theorem zpu {o rest f}:SubR (zjh o rest f) o:=by
 unfold SubR zjh;grind
theorem ziR {r b c}:SubR (ze2 r b c) (rgP b c):=zpu
theorem zlO {g b k}:SubR (cutP g b k) (rgP b (g.first+(k:Int))):=by
 unfold SubR cutP;grind
theorem zr9 {α:Type}{l:List α}{i}{x y}(h:y∈l.set i x):y∈l\/y=x:=uM h
theorem zlH {b}(h:boxP b=U):∀r∈b,-1000000<=r.lo/\r.lo<=1000000/\-1000000<=r.hi/\r.hi<=1000000:=zmD h
theorem zpC {b}(h:∀r∈b,-1000000<=r.lo/\r.lo<=1000000/\-1000000<=r.hi/\r.hi<=1000000)(hl:b.length<=128):boxP b=true:=by
 simp only[boxP];grind
theorem zlG {b}(h:boxP b=U):b.length<=128:=by simp only[boxP,yd,yg]at h;omega
theorem zoa {b}(h:boxP b=U)(hne:∀r∈b,r.lo<=r.hi){c}{r}(h0:0<=c)(h1:c<(b.length:Int))(hs:SubR r (rgP b c))(hr:r.lo<=r.hi):boxP (zup b c r)=U/\∀x∈zup b c r,x.lo<=x.hi:=by
 have d:=zlH h _ (zjd h0 h1);have:=hs hr;unfold zup;rw[if_pos h0];refine⟨zpC (λx a=>?_) (by grind[zlG]),λx a=>?_⟩
 ·rcases zr9 a with a|rfl;·exact zlH h x a
  ·omega
 grind
theorem zfw {bud L m kind index cell r st b}(h:PI bud L m st b)(h0:0<=cell)(h1:cell<(L:Int))(hs:SubR r (rgP b cell)):PG bud L m (zvn bud kind index cell r st b):=by
 unfold zvn;split;·exactλ_=>h
 ·split;·intro d;grind
  ·split;·intro d;grind
   ·intro _;have a:=zoa h.box h.ne h0 (by rw[h.len];exact h1) hs (by omega);have c:=h.ge;exact⟨a.1,by rw[zfB,h.len],a.2,by grind,by grind⟩
theorem PG.bind {bud L m p f}(h:PG bud L m p)(hf:∀st b,PI bud L m st b->PG bud L m (f st b)):PG bud L m (p.bind f):=by
 unfold PR.bind;split<;>rename_i a;·exact hf _ _ (h a)
 grind
theorem zml {bud L m i:Nat}{row}:∀{l}{p},(∀t∈l,0<=t.cell/\t.cell<(L:Int))->PG bud L m p->PG bud L m (rowT bud i row l p)|[],_,_,h=>h|t::l,p,a,h=>by exact zml (l:=l) (λx d=>a x (yO _ d)) (h.bind λe b c=>zfw c (a t (by simp)).1 (a t (by simp)).2 ziR)
structure RwOK (L:Nat)(r:Row):Prop where
 fits:zvk (L:Int) r=U
 few:r.ztf.length<=1000
theorem RwOK.cells {L r}(h:RwOK L r):∀t∈r.ztf,0<=t.cell/\t.cell<(L:Int):=λt a=>by
 have:=h.fits;simp only[zvk,yd]at this;have:=(zfJ (by omega) this.1).1 t a;grind
theorem zkz {bud L m i row p}(hr:RwOK L row)(h:PG bud L m p):PG bud L m (zeD bud i row p):=h.bind λd b a=>by
 split;·split<;>(intro c;grind)
 ·exact zml hr.cells λ_=>a
theorem zh7 {bud L m}:∀{i}{l}{p},(∀r∈l,RwOK L r)->PG bud L m p->PG bud L m (zuC bud i l p)|_,[],_,_,h=>h|i,r::l,p,a,h=>by exact zh7 (l:=l) (λx b=>a x (yO _ b)) (zkz (a r (by simp)) h)
theorem zlX {bud L m i g K}(hg:GrOK L g K)(hL:L<=1000):∀{d k}{p},k+d<=K*K->PG bud L m p->PG bud L m (grT bud i g d k p)
 |0,_,_,_,h=>h|d+1,k,p,c,h=>by exact zlX hg hL (d:=d) (k:=k+1) (by omega) (h.bind λe b f=>by
   have a:=hg.cell (show L<=1000000 by omega) (k:=k) (by omega);grind[zfw,zlO])
theorem zj3 {bud L m}(hL:L<=1000):∀{i}{l}{p},(∀g∈l,∃K,GrOK L g K)->PG bud L m p->PG bud L m (zaR bud i l p)
 |_,[],_,_,h=>h|i,g::l,p,b,h=>by
  obtain⟨K,a⟩:=b g (by simp);exact zj3 (l:=l) hL (λx c=>b x (yO _ c)) (zlX (d:=g.least.length) (k:=0) a hL (by rw[a.len];omega) h)
theorem zkq {bud L R G st b m}(hL:L<=1000)(hR:∀r∈R,RwOK L r)(hG:∀g∈G,∃K,GrOK L g K)(h:PI bud L m st b):PG bud L m (zug bud R G st b):=zj3 hL hG (zh7 hR λ_=>h)
theorem zjC {bud L R G m}(hL:L<=1000)(hR:∀r∈R,RwOK L r)(hG:∀g∈G,∃K,GrOK L g K):∀{f st b},PI bud L m st b->PG bud L m (runU bud R G f st b)
 |0,_,_,h=>λ_=>h|f+1,st,b,h=>by
  have c:=zkq hL hR hG h;unfold runU;split<;>rename_i a;·exact zjC hL hR hG (c a.1)
  grind
def PR.o (p:PR):Bool:=wR p.k 0
def PR.f (p:PR):Bool:=!Nat.beq p.k 2
theorem PR.zxQ {p:PR}(h:p.k≠0):p.o=false:=by
 unfold PR.o;cases a:wR p.k 0 with|false=>rfl|true=>simp_all
theorem PR.o_iff {p:PR}:p.o=U↔p.k=0:=by
 constructor;·exact ww
 ·unfold PR.o;simp_all
theorem zjz {n bud L m i}{R}{rec}{p}(hi)(hiR:i<1000000)(hr:RwOK L R[i])(hp:PG bud L m p)(hbud:bud<=65536)(hn:1000000<=n):ztg (zab.l3 n R (bud:Int) (i:Int) rec) n (p.st,p.b,p.o,p.f,0)=rec ((rowT bud i R[i] R[i].ztf p).st,(rowT bud i R[i] R[i].ztf p).b,(rowT bud i R[i] R[i].ztf p).o,(rowT bud i R[i] R[i].ztf p).f,((i+1:Nat):Int)):=by
 have hfew:=hr.few;have:=zaS (body:=zab.l3 n R (bud:Int) (i:Int) rec) (len:=R[i].ztf.length) (st:=λ(p:PR)j=>(p.st,p.b,p.o,p.f,(j:Int))) (g:=λj p=>rec ((rowT bud i R[i] (R[i].ztf.drop j) p).st,(rowT bud i R[i] (R[i].ztf.drop j) p).b,(rowT bud i R[i] (R[i].ztf.drop j) p).o,(rowT bud i R[i] (R[i].ztf.drop j) p).f,((i+1:Nat):Int))) (λ_ p=>PG bud L m p) (λrec2 j p hj hI hrr=>?_) (λrec2 p hI=>?_) n 0 p (yj _) (by omega) hp;·grind
 ·rw[zj hj,rowT];simp only[zab.l3,zb hi,ya,zC hj,if_true,jn,zb hj,zd (i:=j) (by omega)];by_cases hk:p.k=0
  ·obtain⟨k,st,b⟩:=p;subst hk;have hI':=hI rfl;simp only at hI';have hc:=hr.cells _ (yi hj);have hT:=zjm (n:=n) (r:=R[i]) (b:=b) (c:=R[i].ztf[j].cell) hI'.box (by rw[hI'.len];exact hr.fits) hr.few hc.1 (by rw[hI'.len];grind) hn;have hinv:=zfw (kind:=0) (index:=(i:Int)) hI' hc.1 hc.2 (ziR (r:=R[i]) (b:=b) (c:=R[i].ztf[j].cell));rw[PR.zvs];simp only[show(PR.mk 0 st b).o=U from rfl,show(PR.mk 0 st b).f=U from rfl,if_true,hT,ya];rw[zdW hc.1 (by rw[hI'.len];grind),ya];have hrr:=hrr _ hinv;by_cases h1:ze2 R[i] b R[i].ztf[j].cell=rgP b R[i].ztf[j].cell
   ·rw[zlw h1]at hrr|-;rw[if_neg (by grind)];exact hrr
   ·by_cases h2:bud<=st.length;·rw[zkC h1 h2]at hrr|-;rw[if_pos (by grind),if_pos (by simp_all)];exact hrr
    ·rw[if_pos (by grind),if_neg (by simp_all),app1 (by omega),ya];by_cases h3:(ze2 R[i] b R[i].ztf[j].cell).hi<(ze2 R[i] b R[i].ztf[j].cell).lo;·rw[zlx h1 h2 h3]at hrr|-;rw[if_pos (by grind)];exact hrr
     ·rw[zoT h1 h2 h3]at hrr|-;rw[if_neg (by simp_all),zjI (by have:=zlG hI'.box;omega) hn,ya];exact hrr
  ·have ho:=PR.zxQ hk;rw[PR.zu9 hk,zfs hk];have:=hrr p hI;rw[zfs hk,ho]at this;simp_all
 ·have hge:Z ((R[i].ztf.length:Int)<(R[i].ztf.length:Int))=false:=by simp
  simp only[zab.l3,zb hi,ya,hge,ye,if_false,xN,rowT,zd (i:=i) (by omega)]
theorem zrd {n bud L m i K}{G}{rec}{p}(hi)(hiG:i<1000000)(hL:L<=1000)(hg:GrOK L G[i] K)(hp:PG bud L m p)(hbud:bud<=65536)(hn:1000000<=n):ztg (zab.l5 n G (bud:Int) (i:Int) rec) n (p.st,p.b,p.o,p.f,0)=rec ((grT bud i G[i] G[i].least.length 0 p).st,(grT bud i G[i] G[i].least.length 0 p).b,(grT bud i G[i] G[i].least.length 0 p).o,(grT bud i G[i] G[i].least.length 0 p).f,((i+1:Nat):Int)):=by
 have hsq:=hg.sq;have hlen:=hg.len;have:=zaS (body:=zab.l5 n G (bud:Int) (i:Int) rec) (len:=K*K) (st:=λ(p:PR)j=>(p.st,p.b,p.o,p.f,(j:Int))) (g:=λj p=>rec ((grT bud i G[i] (K*K-j) j p).st,(grT bud i G[i] (K*K-j) j p).b,(grT bud i G[i] (K*K-j) j p).o,(grT bud i G[i] (K*K-j) j p).f,((i+1:Nat):Int))) (λ_ p=>PG bud L m p) (λrec2 j p hj hI hrr=>?_) (λrec2 p hI=>?_) n 0 p (yj _) (by omega) hp;·simp_all
 ·have hlt:Z ((j:Int)<((K*K:Nat):Int))=true:=by grind
  have hc:=hg.cell (show L<=1000000 by omega) (k:=j) hj;rw[show K*K-j=K*K-(j+1)+1 by omega,grT];simp only[zab.l5,zb hi,ya,hg.mul,hlt,if_true,jn,hc.1,zd (i:=j) (by omega)];by_cases hk:p.k=0
  ·obtain⟨k,st,b⟩:=p;subst hk;have hI':=hI rfl;simp only at hI';have hT:=zm5 (n:=n) hg hI'.len hL hj hn;have hinv:=zfw (kind:=1) (index:=(i:Int)) hI' hc.2.1 hc.2.2 (zlO (g:=G[i]) (b:=b) (k:=j));rw[PR.zvs];simp only[show(PR.mk 0 st b).o=U from rfl,show(PR.mk 0 st b).f=U from rfl,if_true,hT,ya];rw[zdW hc.2.1 (by rw[hI'.len];simp_all),ya];have hrr:=hrr _ hinv;by_cases h1:cutP G[i] b j=rgP b (G[i].first+(j:Int))
   ·rw[zlw h1]at hrr|-;rw[if_neg (by grind)];exact hrr
   ·by_cases h2:bud<=st.length;·rw[zkC h1 h2]at hrr|-;rw[if_pos (by grind),if_pos (by simp_all)];exact hrr
    ·rw[if_pos (by grind),if_neg (by simp_all),app1 (by omega),ya];have hc2:=hc.2.1;by_cases h3:(cutP G[i] b j).hi<(cutP G[i] b j).lo
     ·rw[zlx h1 h2 h3]at hrr|-;rw[if_pos (by grind)];exact hrr
     ·rw[zoT h1 h2 h3]at hrr|-;rw[if_neg (by simp_all),zjI (by have:=zlG hI'.box;omega) hn,ya];exact hrr
  ·have ho:=PR.zxQ hk;rw[PR.zu9 hk,zgK hk];have:=hrr p hI;rw[zgK hk,ho]at this;simp_all
 ·have hge:Z (((K*K:Nat):Int)<((K*K:Nat):Int))=false:=by simp
  simp only[zab.l5,zb hi,ya,hg.mul,hge,ye,if_false,un,grT,zd (i:=i) (by omega)]
theorem zrc {n bud L m}{G}{st0}{rec}{p}(hG:∀g∈G,∃K,GrOK L g K)(hGl:G.length<1000000)(hL:L<=1000)(hp:PG bud L m p)(hbud:bud<=65536)(hn:1000000<=n):ztg (zab.l4 n G (bud:Int) st0 rec) n (p.st,p.b,p.o,p.f,0)=if(!(zaR bud 0 G p).o||((zaR bud 0 G p).st.length:Int)==(st0.length:Int))=U then O ⟨(zaR bud 0 G p).st,(zaR bud 0 G p).b,(zaR bud 0 G p).o,(zaR bud 0 G p).f⟩else rec ((zaR bud 0 G p).st,(zaR bud 0 G p).b,(zaR bud 0 G p).o,(zaR bud 0 G p).f):=by
 have:=zaS (body:=zab.l4 n G bud st0 rec) (len:=G.length) (st:=λp j=>(p.st,p.b,p.o,p.f,j)) (g:=λj p=>if(!(zaR bud j (G.drop j) p).o||(zaR bud j (G.drop j) p).st.length==(st0.length:Int))=U then O ⟨(zaR bud j (G.drop j) p).st,(zaR bud j (G.drop j) p).b,(zaR bud j (G.drop j) p).o,(zaR bud j (G.drop j) p).f⟩else rec ((zaR bud j (G.drop j) p).st,(zaR bud j (G.drop j) p).b,(zaR bud j (G.drop j) p).o,(zaR bud j (G.drop j) p).f)) (λ_ p=>PG bud L m p) (λa j p c e h=>?_) (λa p e=>?_) n 0 p (yj _) (by omega) hp;·grind
 ·obtain⟨K,d⟩:=hG _ (yi c);rw[zj c,zaR];simp only[zab.l4,zC c];rw[zrd c (by omega) hL d e hbud hn];exact h _ (zlX d hL (by rw[d.len];omega) e)
 ·simp only[zab.l4,zan,ye,if_false,xN,zaR]
theorem zrb {n bud L m}{R}{G}{st0}{rec}{p}(hR:∀r∈R,RwOK L r)(hRl:R.length<1000000)(hp:PG bud L m p)(hbud:bud<=65536)(hn:1000000<=n):ztg (zab.l2 n R G (bud:Int) st0 rec) n (p.st,p.b,p.o,p.f,0)=ztg (zab.l4 n G (bud:Int) st0 rec) n ((zuC bud 0 R p).st,(zuC bud 0 R p).b,(zuC bud 0 R p).o,(zuC bud 0 R p).f,0):=by
 have:=zaS (body:=zab.l2 n R G bud st0 rec) (len:=R.length) (st:=λp j=>(p.st,p.b,p.o,p.f,j)) (g:=λj p=>ztg (zab.l4 n G bud st0 rec) n ((zuC bud j (R.drop j) p).st,(zuC bud j (R.drop j) p).b,(zuC bud j (R.drop j) p).o,(zuC bud j (R.drop j) p).f,0)) (λ_ p=>PG bud L m p) (λc i p e s a=>?_) (λc p s=>?_) n 0 p (yj _) (by omega) hp;·grind
 ·have l:=hR _ (yi e);rw[zj e,zuC];simp only[zab.l2,zC e,if_true,jn,zb e,yp,yy,grd,ym];by_cases d:p.k=0
  ·obtain⟨k,st,b⟩:=p;subst d;have v:=s rfl;dsimp only;have h:=zkz (i:=i) l s;have a:=a _ h;revert a;have w:((PR.mk 0 st b).o&&(R[i].ztf.length:Int)==0&&Z (R[i].bound<0))=zvE R[i]:=by
    have:((R[i].ztf.length:Int)==0)=R[i].ztf.isEmpty:=by rw[wb];simp
    rw[this];rfl
   rw[w];unfold zeD;rw[PR.zvs];by_cases q:zvE R[i]=U
   ·have t:R[i].ztf=[]:=by simp_all
    rw[if_pos q,if_pos q];by_cases u:bud<=st.length
    ·rw[if_pos u,if_pos (by simp_all)];have:=zjz (rec:=c) (p:=⟨2,st,b⟩) e (by omega) l (m:=m) (λd=>absurd d (by simp)) hbud hn;rw[t]at this;intro a;exact this.trans a
    ·rw[if_neg u,if_neg (by simp_all),app1 (by omega),ya,if_pos (by simp)];have:=zjz (rec:=c) (p:=⟨1,st++[⟨0,i,-1⟩],b⟩) e (by omega) l (m:=m) (λd=>absurd d (by simp)) hbud hn;rw[t]at this;intro a;exact this.trans a
   ·rw[if_neg q,if_neg q];intro a;exact(zjz (p:=⟨0,st,b⟩) e (by omega) l s hbud hn).trans a
  ·have x:=PR.zxQ d;rw[zgA d];grind[zjz,zfs]
 ·simp only[zab.l2,zan,ye,if_false,xN,zuC]
theorem zm6 {n bud L}{R}{G}{b}(hR:∀r∈R,RwOK L r)(hRl:R.length<1000000)(hG:∀g∈G,∃K,GrOK L g K)(hGl:G.length<1000000)(hL:L<=1000)(hb:PI bud L 0 [] b)(hbud:bud<=65536)(hn:1000000<=n):zab n b R G (bud:Int)=O ⟨(runU bud R G (bud+1) [] b).st,(runU bud R G (bud+1) [] b).b,(runU bud R G (bud+1) [] b).o,(runU bud R G (bud+1) [] b).f⟩:=by
 unfold zab;rw[zjI (by have:=hb.len;omega) hn,ya];have:=zc5 (body:=zab.l1 n R G bud) (λs=>bud-s.1.length) (λs=>s.2.2=(U,U)/\PI bud L 0 s.1 s.2.1) (λs r=>∀f,bud<f+s.1.length->r=O ⟨(runU bud R G f s.1 s.2.1).st,(runU bud R G f s.1 s.2.1).b,(runU bud R G f s.1 s.2.1).o,(runU bud R G f s.1 s.2.1).f⟩) (λrec s h q=>?_) n ([],b,U,U) ⟨rfl,hb⟩ (by grind) (bud+1) (by simp);·exact this
 ·obtain⟨st,b,c,d⟩:=s;obtain⟨e,h⟩:=h;simp only[]at e h;obtain⟨rfl,rfl⟩:=e;intro f u;simp only at u q;have x:=h.le;obtain⟨f,rfl⟩:∃z,f=z+1:=⟨f-1,by omega⟩;have j:PI bud L st.length st b:=⟨h.box,h.len,h.ne,yo _,h.le⟩;have a:=zkq hL hR hG j;have v:=zrb (n:=n) (G:=G) (st0:=st) (rec:=rec) (p:=⟨0,st,b⟩) hR hRl (λ_=>j) hbud hn;have w:=zrc (n:=n) (st0:=st) (rec:=rec) hG hGl hL (zh7 (i:=0) hR (p:=⟨0,st,b⟩) λ_=>j) hbud hn;refine(v.trans w).trans ?_;show(if(!(zug bud R G st b).o||(zug bud R G st b).st.length==(st.length:Int))=U then O (Box.mk (zug bud R G st b).st (zug bud R G st b).b (zug bud R G st b).o (zug bud R G st b).f)else rec ((zug bud R G st b).st,(zug bud R G st b).b,(zug bud R G st b).o,(zug bud R G st b).f))=_;unfold runU;by_cases l:(zug bud R G st b).k=0/\st.length<(zug bud R G st b).st.length
  ·have y:=PR.o_iff.2 l.1;have m:(zug bud R G st b).f=true:=by unfold PR.f;rw[l.1];rfl
   have a:=a l.1;have t:=a.le;rw[if_pos l,if_neg (by grind),y,m];exact q ((zug bud R G st b).st,(zug bud R G st b).b,U,U) ⟨rfl,⟨a.box,a.len,a.ne,yj _,a.le⟩⟩ (by grind) f (by grind)
  ·by_cases A:(zug bud R G st b).k=0
   ·have:=(a A).ge;grind
   grind[PR.zxQ]
def zt5 (t0:ztJ)(st:List Step):Int:=t0.cost+1+(st.length:Int)
def finW (t0:ztJ)(p:PR)(K:List Step->List Range->Option (Option (Found×ztJ))):Option (Option (Found×ztJ)):=if p.k=0 then K p.st p.b else if p.k=2 then O Y else O (O (⟨[],0,⟨0,p.st,0,0,[]⟩⟩,⟨t0.s,t0.rows,t0.ztx,zt5 t0 p.st⟩))
structure SW (t0:ztJ)(bud:Nat):Prop where
 c0:0<=t0.cost
 e:t0.ztx=t0.cost+1+(bud:Int)le:t0.ztx<=65536
theorem SW.bud {t0 bud}(h:SW t0 bud):bud<=65536:=by have:=h.c0;have:=h.e;have:=h.le;omega
theorem SW.full {t0 bud}(h:SW t0 bud){st}(hl:st.length<=bud):zt5 t0 st=t0.ztx↔bud<=st.length:=by
 have:=h.e;grind[zt5]
theorem SW.next {t0 bud}(h:SW t0 bud){st}(hl:st.length<=bud)(x):ztc (zt5 t0 st) 1=zt5 t0 (st++[x]):=by
 have:=h.c0;have:=h.e;have:=h.le;grind[zt5,ztc,zaf]
theorem zlS {t0}{p}{K1 K2}{F:PR->PR}(h0:p.k=0->K1 p.st p.b=finW t0 (F p) K2)(h1:p.k≠0->F p=p):finW t0 p K1=finW t0 (F p) K2:=by
 by_cases h:p.k=0;·rw[<-h0 h];exact if_pos h
 ·unfold finW;grind
theorem zmm {b}{c}(h0:0<=c)(h1:c<(b.length:Int))(r):sto b c r=O (zup b c r):=by
 unfold sto zup;grind
theorem zsb {n bud L m i:Nat}{t0}{t1 b1}{rec7}{rec8}{row}(hw:SW t0 bud)(ht1:t1.length=L)(hb1:b1.length=L)(hi:i<1000000)(hr:RwOK L row){st}{b}(hI:PI bud L m st b)(hn:1000000<=n):ztg (za.l9 n t0 t1 b1 rec7 (i:Int) rec8 row) n (b,st,zt5 t0 st,Z (m<st.length),0)=finW t0 (rowT bud i row row.ztf ⟨0,st,b⟩) λst b=>rec8 (b,st,zt5 t0 st,Z (m<st.length),((i+1:Nat):Int)):=by
 have hfew:=hr.few;have hbud:=hw.bud;have:=zaS (σ:=List Step×List Range) (body:=za.l9 n t0 t1 b1 rec7 (i:Int) rec8 row) (len:=row.ztf.length) (st:=λs j=>(s.2,s.1,zt5 t0 s.1,Z (m<s.1.length),(j:Int))) (g:=λj s=>finW t0 (rowT bud i row (row.ztf.drop j) ⟨0,s.1,s.2⟩) λst b=>rec8 (b,st,zt5 t0 st,Z (m<st.length),((i+1:Nat):Int))) (λ_ s=>PI bud L m s.1 s.2) (λrec2 j s hj hI hrr=>?_) (λrec2 s hI=>?_) n 0 (st,b) (yj _) (by omega) hI;·grind
 ·obtain⟨st,b⟩:=s;simp only at hI hrr;have hc:=hr.cells _ (yi hj);have hc1:row.ztf[j].cell<(b.length:Int):=by rw[hI.len];grind
  have hT:=zo9 (n:=n) (r:=row) (b:=b) (c:=row.ztf[j].cell) hI.box (by rw[hI.len];exact hr.fits) hr.few hc.1 hc1 hn;have hx:=zdW hc.1 hc1;have hst:=hI.le;have hge:=hI.ge;have ha:∀x:Step,Go.Proofs.YtipkniadbkndfaaGreatDoor.app 24 st [x]=O (st++[x]):=λx=>app1 (by omega);have hinv:=zfw (kind:=0) (index:=(i:Int)) hI hc.1 hc.2 (ziR (r:=row) (b:=b) (c:=row.ztf[j].cell));rw[zj hj,rowT,PR.zvs];simp only[za.l9,zC hj,if_true,jn,zb hj,ya,hT,hx,zmm hc.1 hc1,ha,zd (i:=j) (by omega),uy,hI.len,hb1,ht1,zfB,decide_true,grd,yg,beq_iff_eq];revert hinv;unfold zvn;by_cases h1:ze2 row b row.ztf[j].cell=rgP b row.ztf[j].cell;·simp_all
  ·rw[if_neg h1,if_neg h1];by_cases h2:bud<=st.length;·rw[if_pos h2,if_pos ((hw.full hst).2 h2),zfs (by simp)];exactλ_=>rfl
   ·rw[if_neg h2,if_neg λh=>h2 ((hw.full hst).1 h)];by_cases h3:(ze2 row b row.ztf[j].cell).hi<(ze2 row b row.ztf[j].cell).lo
    ·rw[if_pos h3,if_pos h3,zfs (by simp),hw.next hst ⟨0,(i:Int),row.ztf[j].cell⟩];exactλ_=>rfl
    ·rw[if_neg h3,if_neg h3,hw.next hst ⟨0,(i:Int),row.ztf[j].cell⟩];intro hinv;have:=hrr (st++[⟨0,(i:Int),row.ztf[j].cell⟩],zup b row.ztf[j].cell (ze2 row b row.ztf[j].cell)) (hinv rfl);have e:Z (m<(st++[(⟨0,(i:Int),row.ztf[j].cell⟩:Step)]).length)=true:=by simp;omega
     simp only[e]at this;exact this
 ·simp only[za.l9,zan,ye,if_false,xN,rowT,zd (i:=i) (by omega)];rfl
theorem zsa {n bud L m}{self}{t0}{t1 b1}{t2}{rec7}(hw:SW t0 bud)(ht1:t1.length=L)(hb1:b1.length=L)(hR:∀r∈t0.rows,RwOK L r)(hRl:t0.rows.length<1000000){st}{b}(hI:PI bud L m st b)(hn:1000000<=n):ztg (za.l8 n self t0 t1 t2 b1 rec7) n (b,st,zt5 t0 st,Z (m<st.length),0)=finW t0 (zuC bud 0 t0.rows ⟨0,st,b⟩) λst b=>ztg (za.l10 n self t0 t1 t2 b1 rec7) n (b,st,zt5 t0 st,Z (m<st.length),0):=by
 have hbud:=hw.bud;have:=zaS (σ:=List Step×List Range) (body:=za.l8 n self t0 t1 t2 b1 rec7) (len:=t0.rows.length) (st:=λs j=>(s.2,s.1,zt5 t0 s.1,Z (m<s.1.length),(j:Int))) (g:=λj s=>finW t0 (zuC bud j (t0.rows.drop j) ⟨0,s.1,s.2⟩) λst b=>ztg (za.l10 n self t0 t1 t2 b1 rec7) n (b,st,zt5 t0 st,Z (m<st.length),0)) (λ_ s=>PI bud L m s.1 s.2) (λrec2 i s hi hI hrr=>?_) (λrec2 s hI=>?_) n 0 (st,b) (yj _) (by omega) hI;·grind
 ·obtain⟨st,b⟩:=s;simp only at hI hrr;have hr:=hR _ (yi hi);have hst:=hI.le;have ha:∀x:Step,Go.Proofs.YtipkniadbkndfaaGreatDoor.app 24 st [x]=O (st++[x]):=λx=>app1 (by omega);rw[zj hi,zuC];have hv:((t0.rows[i].ztf.length:Int)==0&&Z (t0.rows[i].bound<0))=zvE t0.rows[i]:=by
   unfold zvE;have:((t0.rows[i].ztf.length:Int)==0)=t0.rows[i].ztf.isEmpty:=by rw[wb];simp
   rw[this]
  simp only[za.l8,zC hi,if_true,zb hi,ya,hv];by_cases h1:zvE t0.rows[i]=U
  ·have es:zeD bud i t0.rows[i] ⟨0,st,b⟩=if bud<=st.length then⟨2,st,b⟩else⟨1,st++[⟨0,(i:Int),-1⟩],b⟩:=by unfold zeD;rw[PR.zvs,if_pos h1]
   rw[if_pos h1,es];simp only[ha,ya,hI.len,hb1,ht1,decide_true,grd,if_true,uy,beq_iff_eq];by_cases h2:bud<=st.length
   ·rw[if_pos h2,if_pos ((hw.full hst).2 h2),zft (by simp)];rfl
   ·rw[if_neg h2,if_neg λh=>h2 ((hw.full hst).1 h),zft (by simp),hw.next hst ⟨0,(i:Int),-1⟩];rfl
  ·have es:zeD bud i t0.rows[i] ⟨0,st,b⟩=rowT bud i t0.rows[i] t0.rows[i].ztf ⟨0,st,b⟩:=by unfold zeD;rw[PR.zvs,if_neg h1]
   rw[if_neg h1,es,zsb hw ht1 hb1 (by omega) hr hI hn];exact zlS (F:=zuC bud (i+1) (t0.rows.drop (i+1))) (λhk=>by
    have hinv:=zml (bud:=bud) (m:=m) (i:=i) (row:=t0.rows[i]) (p:=⟨0,st,b⟩) hr.cells (λ_=>hI) hk;have:=hrr ((rowT bud i t0.rows[i] t0.rows[i].ztf ⟨0,st,b⟩).st,(rowT bud i t0.rows[i] t0.rows[i].ztf ⟨0,st,b⟩).b) hinv;refine this.trans ?_;congr 1;congr 1;generalize rowT bud i t0.rows[i] t0.rows[i].ztf ⟨0,st,b⟩=q at hk;cases q;grind) λhk=>zft hk
 ·simp only[za.l8,zan,ye,if_false,xN,zuC];rfl
theorem zq7 {n bud L m i K:Nat}{t0}{t1 b1}{rec7}{rec10}{g}(hw:SW t0 bud)(ht1:t1.length=L)(hb1:b1.length=L)(hi:i<1000000)(hL:L<=1000)(hg:GrOK L g K){st}{b}(hI:PI bud L m st b)(hn:1000000<=n):ztg (za.l11 n t0 t1 b1 rec7 (i:Int) rec10 g) n (b,st,zt5 t0 st,Z (m<st.length),0)=finW t0 (grT bud i g g.least.length 0 ⟨0,st,b⟩) λst b=>rec10 (b,st,zt5 t0 st,Z (m<st.length),((i+1:Nat):Int)):=by
 have hsq:=hg.sq;have hlen:=hg.len;have hbud:=hw.bud;have:=zaS (σ:=List Step×List Range) (body:=za.l11 n t0 t1 b1 rec7 (i:Int) rec10 g) (len:=g.least.length) (st:=λs j=>(s.2,s.1,zt5 t0 s.1,Z (m<s.1.length),(j:Int))) (g:=λj s=>finW t0 (grT bud i g (g.least.length-j) j ⟨0,s.1,s.2⟩) λst b=>rec10 (b,st,zt5 t0 st,Z (m<st.length),((i+1:Nat):Int))) (λ_ s=>PI bud L m s.1 s.2) (λrec2 j s hj hI hrr=>?_) (λrec2 s hI=>?_) n 0 (st,b) (yj _) (by omega) hI;·grind
 ·obtain⟨st,b⟩:=s;simp only at hI hrr;have hjK:j<K*K:=by omega
  have hc:=hg.cell (show L<=1000000 by omega) hjK;have hc1:g.first+(j:Int)<(b.length:Int):=by rw[hI.len];omega
  have hx:=zdW hc.2.1 hc1;have hst:=hI.le;have hge:=hI.ge;have ha:∀x:Step,Go.Proofs.YtipkniadbkndfaaGreatDoor.app 24 st [x]=O (st++[x]):=λx=>app1 (by omega);have hcl:=zjp (n:=n) hg hI.len hL hjK hn;have hinv:=zfw (kind:=1) (index:=(i:Int)) hI hc.2.1 hc.2.2 (zlO (g:=g) (b:=b) (k:=j));have hnum:=hg.num (lstG g j) (by grind[lstG]);have hs:ztn (lstG g j) 1=lstG g j-1:=zaf (by omega) (by omega);have hrr':∀st' b',PI bud L m st' b'->rec2 (b',st',zt5 t0 st',Z (m<st'.length),((j+1:Nat):Int))=finW t0 (grT bud i g (g.least.length-(j+1)) (j+1) ⟨0,st',b'⟩) λst b=>rec10 (b,st,zt5 t0 st,Z (m<st.length),((i+1:Nat):Int)):=λst' b' h=>hrr (st',b') h;rw[show g.least.length-j=g.least.length-(j+1)+1 by omega,grT,PR.zvs];simp only[za.l11,zC hj,if_true,jn,zjw hj,ya,hc.1,hx,hcl,hs,yp,ym,yy,zmm hc.2.1 hc1,ha,zd (i:=j) (by omega),uy,hI.len,hb1,ht1,zfB,decide_true,grd];by_cases h0:(Z (lstG g j<=(rgP b (g.first+(j:Int))).hi)&&ze6 g b j)=U
  ·have hcut:cutP g b j=⟨(rgP b (g.first+(j:Int))).lo,lstG g j-1⟩:=if_pos h0;have h0':(Z ((rgP b (g.first+(j:Int))).hi<lstG g j)||!ze6 g b j)=false:=by
    simp only[yd,yg]at h0;rw[h0.2];simp;omega
   rw[h0'];simp only[ye,if_false,yg,beq_iff_eq,<-hcut];have h3e:lstG g j-1<(rgP b (g.first+(j:Int))).lo↔(cutP g b j).hi<(cutP g b j).lo:=by rw[hcut]
   revert hinv;unfold zvn;by_cases h1:cutP g b j=rgP b (g.first+(j:Int))
   ·rw[if_pos h1,if_pos h1];exactλ_=>hrr' st b hI
   ·rw[if_neg h1,if_neg h1];by_cases h2:bud<=st.length
    ·rw[if_pos h2,if_pos ((hw.full hst).2 h2),zgK (by simp)];exactλ_=>rfl
    ·rw[if_neg h2,if_neg λh=>h2 ((hw.full hst).1 h)];by_cases h3:(cutP g b j).hi<(cutP g b j).lo;·rw[if_pos h3,if_pos (h3e.2 h3),zgK (by simp),hw.next hst ⟨1,(i:Int),g.first+(j:Int)⟩];exactλ_=>rfl
     ·rw[if_neg h3,if_neg λh=>h3 (h3e.1 h),hw.next hst ⟨1,(i:Int),g.first+(j:Int)⟩];intro hinv;have:=hrr' (st++[⟨1,(i:Int),g.first+(j:Int)⟩]) (zup b (g.first+(j:Int)) (cutP g b j)) (hinv rfl);have e:Z (m<(st++[(⟨1,(i:Int),g.first+(j:Int)⟩:Step)]).length)=true:=by simp;omega
      simp only[e]at this;exact this
  ·have hcut:cutP g b j=rgP b (g.first+(j:Int)):=if_neg h0;have h0':(Z ((rgP b (g.first+(j:Int))).hi<lstG g j)||!ze6 g b j)=true:=by
    simp only[yd,yg]at h0;simp only[yF,yg,yB];by_cases h:(rgP b (g.first+(j:Int))).hi<lstG g j;·exact .inl h
    ·right;cases hh:ze6 g b j with|false=>rfl|true=>exact absurd ⟨by omega,hh⟩ h0
   rw[h0',if_pos rfl,show zvn bud 1 (i:Int) (g.first+(j:Int)) (cutP g b j) st b=⟨0,st,b⟩from if_pos hcut];exact hrr' st b hI
 ·simp only[za.l11,zan,ye,if_false,un,grT,zd (i:=i) (by omega)];rfl
noncomputable def zim (n:Nat)(self:ztJ->List Range->Int->Option (Option (Found×ztJ)))(t0:ztJ)(t1:List Range)(t2:Int)(st:List Step)(b:List Range):Option (Option (Found×ztJ)):=if(Z (0<(t0.s.cases.length:Int))&&Z (t2<0))=U then ztg (za.l12 n self t0 t1 b st) n (([]:List Tree),t0.s.box,t0.s.rows,t0.s.zti,t0.s.cases,t0.rows,t0.ztx,zt5 t0 st,0)else(zi n b λq0=>zbz n q0).bind λc=>if Z (c<0)=U then(mkl 8 (b.length:Int) (0:Int)).bind λv=>ztg (za.l13 n t0 t1 t2 b (zt5 t0 st)) n (v,0)else(idx b c).bind λx1=>(zcO n x1).bind λat_=>(idx b c).bind λx2=>(idx b c).bind λx3=>ztg (za.l14 n self t1 t2 b st c at_ x2 x3) n (([]:List Tree),t0.s.box,t0.s.rows,t0.s.zti,t0.s.cases,t0.rows,t0.ztx,zt5 t0 st,0)
theorem zq6 {n bud L m}{self}{t0}{t1 b1}{t2}{rec7}(hw:SW t0 bud)(ht1:t1.length=L)(hb1:b1.length=L)(hL:L<=1000)(hG:∀g∈t0.s.zti,∃K,GrOK L g K)(hGl:t0.s.zti.length<1000000){st}{b}(hI:PI bud L m st b)(hn:1000000<=n):ztg (za.l10 n self t0 t1 t2 b1 rec7) n (b,st,zt5 t0 st,Z (m<st.length),0)=finW t0 (zaR bud 0 t0.s.zti ⟨0,st,b⟩) λst b=>if m<st.length then rec7 (b,st,zt5 t0 st)else zim n self t0 t1 t2 st b:=by
 have:=zaS (σ:=List Step×List Range) (body:=za.l10 n self t0 t1 t2 b1 rec7) (len:=t0.s.zti.length) (st:=λs j=>(s.2,s.1,zt5 t0 s.1,Z (m<s.1.length),(j:Int))) (g:=λj s=>finW t0 (zaR bud j (t0.s.zti.drop j) ⟨0,s.1,s.2⟩) λst b=>if m<st.length then rec7 (b,st,zt5 t0 st)else zim n self t0 t1 t2 st b) (λ_ s=>PI bud L m s.1 s.2) (λrec2 i s hi hI hrr=>?_) (λrec2 s hI=>?_) n 0 (st,b) (yj _) (by omega) hI;·grind
 ·obtain⟨st,b⟩:=s;simp only at hI hrr;obtain⟨K,hK⟩:=hG _ (yi hi);rw[zj hi,zaR];simp only[za.l10,zC hi,if_true,zb hi,ya];rw[zq7 hw ht1 hb1 (by omega) hL hK hI hn];exact zlS (F:=zaR bud (i+1) (t0.s.zti.drop (i+1))) (λhk=>by
   have hinv:=zlX (bud:=bud) (m:=m) (i:=i) (d:=t0.s.zti[i].least.length) (k:=0) (p:=⟨0,st,b⟩) hK hL (by rw[hK.len];omega) (λ_=>hI) hk;have:=hrr ((grT bud i t0.s.zti[i] t0.s.zti[i].least.length 0 ⟨0,st,b⟩).st,(grT bud i t0.s.zti[i] t0.s.zti[i].least.length 0 ⟨0,st,b⟩).b) hinv;refine this.trans ?_;congr 1;congr 1;generalize grT bud i t0.s.zti[i] t0.s.zti[i].least.length 0 ⟨0,st,b⟩=q at hk;cases q;grind) λhk=>zeO hk
 ·obtain⟨st,b⟩:=s;simp only at hI;have e1:Z (b1.length=b.length)=true:=by rw[hb1,hI.len];simp
  have e2:Z (t1.length=b.length)=true:=by grind
  simp only[za.l10,zan,ye,if_false,xN,zaR,e1,e2,grd,if_true,uI];show _=if m<st.length then _ else _;by_cases h:m<st.length;·grind
  ·rw[if_pos (by simp[h]),if_neg h];rfl
theorem zq8 {n bud L}{self}{t0}{t1 b}{t2}(hw:SW t0 bud)(ht1:t1.length=L)(hL:L<=1000)(hR:∀r∈t0.rows,RwOK L r)(hRl:t0.rows.length<1000000)(hG:∀g∈t0.s.zti,∃K,GrOK L g K)(hGl:t0.s.zti.length<1000000)(hb:PI bud L 0 [] b)(hn:1000000<=n):ztg (za.l7 n self t0 t1 t2) n (b,([]:List Step),zt5 t0 [])=finW t0 (runU bud t0.rows t0.s.zti (bud+1) [] b) (zim n self t0 t1 t2):=by
 have hbud:=hw.bud;have:=zc5 (body:=za.l7 n self t0 t1 t2) (λs=>bud-s.2.1.length) (λs=>s.2.2=zt5 t0 s.2.1/\PI bud L 0 s.2.1 s.1) (λs r=>∀f,bud<f+s.2.1.length->r=finW t0 (runU bud t0.rows t0.s.zti f s.2.1 s.1) (zim n self t0 t1 t2)) (λrec s hI hr=>?_) n (b,[],zt5 t0 []) ⟨rfl,hb⟩ (by grind) (bud+1) (by simp);·grind
 ·obtain⟨b,st,c⟩:=s;obtain⟨e,hI⟩:=hI;simp only at e hI;subst e;intro f hf;simp only at hf hr;have hle:=hI.le;obtain⟨f,rfl⟩:∃f',f=f'+1:=⟨f-1,by omega⟩;have hI2:PI bud L st.length st b:=⟨hI.box,hI.len,hI.ne,yo _,hI.le⟩;have hp:=zkq hL hR hG hI2;have e1:=zsa (n:=n) (self:=self) (t2:=t2) (rec7:=rec) hw ht1 hI.len hR hRl hI2 hn;rw[show Z (st.length<st.length)=M by simp]at e1;simp only[za.l7];rw[e1];have e2:finW t0 (zuC bud 0 t0.rows ⟨0,st,b⟩) (λst' b'=>ztg (za.l10 n self t0 t1 t2 b rec) n (b',st',zt5 t0 st',Z (st.length<st'.length),0))=finW t0 (zug bud t0.rows t0.s.zti st b) λst' b'=>if st.length<st'.length then rec (b',st',zt5 t0 st')else zim n self t0 t1 t2 st' b':=by
   refine zlS (F:=zaR bud 0 t0.s.zti) (λhk=>?_) λhk=>zeO hk;have hinv:=zh7 (i:=0) (m:=st.length) hR (p:=⟨0,st,b⟩) (λ_=>hI2) hk;refine(zq6 hw ht1 hI.len hL hG hGl hinv hn).trans ?_;congr 1;congr 1;generalize zuC bud 0 t0.rows ⟨0,st,b⟩=q at hk;cases q;grind
  rw[e2];unfold runU;by_cases hc:(zug bud t0.rows t0.s.zti st b).k=0/\st.length<(zug bud t0.rows t0.s.zti st b).st.length
  ·have hp:=hp hc.1;have hple:=hp.le;rw[if_pos hc];unfold finW;rw[if_pos hc.1];refine(if_pos hc.2).trans ?_;exact hr ((zug bud t0.rows t0.s.zti st b).b,(zug bud t0.rows t0.s.zti st b).st,zt5 t0 (zug bud t0.rows t0.s.zti st b).st) ⟨rfl,⟨hp.box,hp.len,hp.ne,yj _,hp.le⟩⟩ (by grind) f (by grind)
  ·rw[if_neg hc];unfold finW;by_cases hk:(zug bud t0.rows t0.s.zti st b).k=0
   ·rw[if_pos hk,if_pos hk];exact if_neg λh=>hc ⟨hk,h⟩
   ·rw[if_neg hk,if_neg hk]
structure NR where
 k:Nat
 ix:Nat
 v:List Int
 t:Tree
 c:Nat
def zua:Tree:=⟨0,[],0,0,[]⟩
def zhb:NR:=⟨2,0,[],zua,0⟩
def zun {α:Type}(self:α->Nat->NR)(tr:List Tree->Tree)(ix:Nat->Nat)(d:Nat):Nat->List α->List Tree->Nat->NR|_,[],kids,c=>⟨1,0,[],tr kids,c⟩|i,x::l,kids,c=>if(self x (d-c)).k=2 then zhb else if(self x (d-c)).k=0 then⟨0,ix i,(self x (d-c)).v,zua,c+(self x (d-c)).c⟩else zun self tr ix d (i+1) l (kids++[(self x (d-c)).t]) (c+(self x (d-c)).c)
def zwA (r:Range):Bool:=Z (r.lo<r.hi)
def ztH (b:List Range):Int:=ixA zwA b 0
def zuf (r:Range):List Range:=[⟨r.lo,midP r⟩,⟨midP r+1,r.hi⟩]
def zuc (G:List ztv)(cases_:List (List Row)):Nat->Bool->List Row->List Range->Nat->NR|0,_,_,_,_=>zhb|f+1,root,R,b,d=>if d=0 then zhb else let p:=runU (d-1) R G d [] b;if p.k=2 then zhb else if p.k≠0 then⟨1,0,[],⟨0,p.st,0,0,[]⟩,1+p.st.length⟩else if(root&&!cases_.isEmpty)=U then zun (λcs d=>zuc G cases_ f M (R++cs) p.b d) (λkids=>⟨2,p.st,0,0,kids⟩) id d 0 cases_ [] (1+p.st.length)else if ztH p.b<0 then⟨0,0,p.b.map (·.lo),zua,1+p.st.length⟩else zun (λr d=>zuc G cases_ f M R (zup p.b (ztH p.b) r) d) (λkids=>⟨1,p.st,ztH p.b,midP (rgP p.b (ztH p.b)),kids⟩) (λ_=>0) d 0 (zuf (rgP p.b (ztH p.b))) [] (1+p.st.length)
theorem ziB {α}{self}{tr ix d}:∀{i}{l:List α}{kids}{c},(∀x∈l,∀d',(self x d').k≠2->(self x d').c<=d')->c<=d->(zun self tr ix d i l kids c).k≠2->c<=(zun self tr ix d i l kids c).c/\(zun self tr ix d i l kids c).c<=d
 |_,[],_,_,_,e,_=>⟨yo _,e⟩|i,x::l,kids,c,b,e,a=>by
  have j:=b x (by simp) (d-c);unfold zun at a|-;split at a<;>rename_i h;·exact absurd rfl a
  ·rw[if_neg h];split at a<;>rename_i g;·grind
   ·rw[if_neg g];have:=ziB (i:=i+1) (λy f=>b y (by simp[f])) (show c+(self x (d-c)).c<=d by omega) a;omega
theorem zhj {α}{self}{tr ix d}:∀{i}{l:List α}{kids}{c},((zun self tr ix d i l kids c).k=0->(zun self tr ix d i l kids c).t=zua)/\((zun self tr ix d i l kids c).k≠0->(zun self tr ix d i l kids c).v=[])
 |_,[],_,_=>⟨λh=>absurd h (by simp[zun]),λ_=>rfl⟩|i,x::l,kids,c=>by
  unfold zun;split;·exact⟨λh=>absurd h (by simp[zhb]),λ_=>rfl⟩
  ·split;·grind
   ·exact zhj
theorem zho {G cs}:∀{f}{root R b d},((zuc G cs f root R b d).k=0->(zuc G cs f root R b d).t=zua)/\((zuc G cs f root R b d).k≠0->(zuc G cs f root R b d).v=[])
 |0,_,_,_,_=>⟨λh=>absurd h (by simp[zuc,zhb]),λ_=>rfl⟩|f+1,root,R,b,d=>by
  unfold zuc;split;·exact⟨λh=>absurd h (by simp[zhb]),λ_=>rfl⟩
  ·dsimp only;split;·exact⟨λh=>absurd h (by simp[zhb]),λ_=>rfl⟩
   ·split;·grind
    ·split;·exact zhj
     ·split;·grind
      ·exact zhj
theorem zoU {bud kind index cell r st b}(h:st.length<=bud):(zvn bud kind index cell r st b).st.length<=bud:=by grind[zvn]
theorem znG {bud}{p:PR}{f}(h:p.st.length<=bud)(hf:∀st b,st.length<=bud->(f st b).st.length<=bud):(p.bind f).st.length<=bud:=by grind[PR.bind]
theorem zqt {bud i row}:∀{l}{p},p.st.length<=bud->(rowT bud i row l p).st.length<=bud|[],_,h=>h|t::l,p,h=>by exact zqt (l:=l) (znG h λ_ _ h=>zoU h)
theorem zpq {bud i row p}(h:p.st.length<=bud):(zeD bud i row p).st.length<=bud:=znG h λst b h=>by grind[zqt]
theorem zoP {bud}:∀{i}{l}{p},p.st.length<=bud->(zuC bud i l p).st.length<=bud|_,[],_,h=>h|i,r::l,p,h=>by exact zoP (l:=l) (zpq h)
theorem zrF {bud i g}:∀{d k}{p},p.st.length<=bud->(grT bud i g d k p).st.length<=bud|0,_,_,h=>h|d+1,k,p,h=>by exact zrF (d:=d) (znG h λ_ _ h=>zoU h)
theorem zld {bud}:∀{i}{l}{p},p.st.length<=bud->(zaR bud i l p).st.length<=bud|_,[],_,h=>h|i,g::l,p,h=>by exact zld (l:=l) (zrF h)
theorem zkB {bud R G}:∀{f}{st b},st.length<=bud->(runU bud R G f st b).st.length<=bud
 |0,_,_,h=>h|f+1,st,b,h=>by
  have a:(zug bud R G st b).st.length<=bud:=zld (zoP h);unfold runU;split;·exact zkB a
  grind
theorem zen {G cs}:∀{f}{root R b d},(zuc G cs f root R b d).k≠2->1<=(zuc G cs f root R b d).c/\(zuc G cs f root R b d).c<=d
 |0,_,_,_,_,h=>absurd rfl h|f+1,root,R,b,d,h=>by
  unfold zuc at h|-;split at h<;>rename_i hd;·exact absurd rfl h
  ·rw[if_neg hd];dsimp only at h|-;have hle:=zkB (bud:=d-1) (R:=R) (G:=G) (f:=d) (st:=[]) (b:=b) (by simp);split at h<;>rename_i h2;·exact absurd rfl h
   ·rw[if_neg h2];split at h<;>rename_i h1;·grind
    ·rw[if_neg h1];split at h<;>rename_i hr;·rw[if_pos hr];have:=ziB (λx _ d' hk=>(zen hk).2) (by omega) h;omega
     ·rw[if_neg hr];split at h<;>rename_i hc;·grind
      ·rw[if_neg hc];have:=ziB (λx _ d' hk=>(zen hk).2) (by omega) h;omega
structure SysG (L:Nat)(G:List ztv)(cs:List (List Row)):Prop where
 gr:∀g∈G,∃K,GrOK L g K
 gl:G.length<=64
 ca:∀l∈cs,l.length<=64/\∀r∈l,RwOK L r
 cl:cs.length<=1024
 le:L<=128
theorem zqT {b}:∀{k},ixA zwA b k<0\/∃i,∃hi:i<b.length,ixA zwA b k=((k+i:Nat):Int)/\b[i].lo<b[i].hi:=by induction b with
 |nil=>grind[ixA]|cons r b ih=>
  intro k;unfold ixA;by_cases h:zwA r=U
  ·rw[if_pos h];exact .inr ⟨0,by simp,rfl,by grind[zwA]⟩
  ·rcases ih (k:=k+1)with c|⟨i,hi,e,a⟩;·grind
   ·exact .inr ⟨i+1,by grind,by grind,by grind⟩
theorem zlJ {b}(h:¬ztH b<0):0<=ztH b/\ztH b<(b.length:Int)/\(rgP b (ztH b)).lo<(rgP b (ztH b)).hi:=by grind[zqT,ztH,rgP]
theorem zq1 {r x}(h:x∈zuf r)(hw:r.lo<r.hi):x.lo<=x.hi/\r.lo<=x.lo/\x.hi<=r.hi:=by
 simp only[zuf]at h;unfold midP at h;grind
theorem znA {bud d L st b x}(h:PI bud L 0 st b)(hc:¬ztH b<0)(hx:x∈zuf (rgP b (ztH b))):PI d L 0 [] (zup b (ztH b) x):=by
 obtain⟨e,g,f⟩:=zlJ hc;have a:=zq1 hx f;have c:=zoa h.box h.ne e g (λ_=>a.2) a.1;exact⟨c.1,by rw[zfB,h.len],c.2,yj _,yj _⟩
theorem zk3 {bud d L st b}(h:PI bud L 0 st b):PI d L 0 [] b:=⟨h.box,h.len,h.ne,yj _,yj _⟩
def zuP (y:NR):Answer:=if y.k=2 then⟨2,0,[],zua,0⟩else if y.k=0 then⟨0,(y.ix:Int),y.v,zua,(y.c:Int)⟩else⟨1,0,[],y.t,(y.c:Int)⟩
theorem ans_2 {y}(h:y.k=2):zuP y=⟨2,0,[],zua,0⟩:=if_pos h
theorem ans_0 {y}(h:y.k=0):zuP y=⟨0,(y.ix:Int),y.v,zua,(y.c:Int)⟩:=by unfold zuP;simp_all
theorem ans_1 {y}(h:y.k≠2)(h0:y.k≠0):zuP y=⟨1,0,[],y.t,(y.c:Int)⟩:=by unfold zuP;simp_all
theorem zrf {n}{R cs}{self}{t0}{t4}{x}{kids}{c}{i:Nat}{rec}(hi)(hcs:t0.cases[i]=cs)(hR:R.length<=2000)(hc:cs.length<=64)(hn:1000000<=n):ztg (zM.l2 n self t0 R t4 x kids c (i:Int) rec) n (([]:List Row),0)=(self t0 (R++cs) x.box M (ztn t4 c)).bind λy=>if(y.kind==2)=U then O y else if(y.kind==0)=U then O ⟨0,(i:Int),y.values,zua,ztc c y.steps⟩else(Go.Proofs.YtipkniadbkndfaaGreatDoor.app 72 kids [y.tree]).bind λk=>rec (k,ztc c y.steps,ztc (i:Int) 1):=by
 have f:=zw (body:=zM.l2 n self t0 R t4 x kids c i rec) (len:=R.length) (st:=λj=>(R.take j,j)) (g:=λ_=>ztg (zM.l3 n self t0 t4 x kids c i rec) n (R,0)) (λa j b d=>?_) (λa=>?_) n 0 (yj _) (by omega)
 ·have e:=zw (body:=zM.l3 n self t0 t4 x kids c i rec) (len:=cs.length) (st:=λj=>(R++cs.take j,j)) (g:=λ_=>(self t0 (R++cs) x.box M (ztn t4 c)).bind λy=>if(y.kind==2)=U then O y else if(y.kind==0)=U then O ⟨0,i,y.values,zua,ztc c y.steps⟩else(Go.Proofs.YtipkniadbkndfaaGreatDoor.app 72 kids [y.tree]).bind λk=>rec (k,ztc c y.steps,ztc i 1)) (λa j b d=>?_) (λa=>?_) n 0 (yj _) (by omega);·simp_all
  ·rw[yt b,<-yJ]at d;simp only[zM.l3,zb hi,hcs,ya,zb b,zd (i:=j) (by omega)];grind[app1]
  ·simp only[zM.l3,zb hi,hcs,ya,zan,wn];rfl
 ·rw[yt b]at d;simp only[zM.l2,zb b,zd (i:=j) (by omega)];grind[app1]
 ·simp only[zM.l2,zan,ye,if_false,wn]
theorem zoI {α}{n d c0}{l:List α}{self}{tr}{ix}{body}(hs:∀x∈l,∀d',(self x d').k≠2->(self x d').c<=d')(hc0:c0<=d)(hd:d<=65536)(hl:l.length<=1024)(hb:∀rec kids(c:Nat)i(hi),c0<=c->c<=d->kids.length=i->body rec (kids,(c:Int),(i:Int))=if((zuP (self l[i] (d-c))).kind==2)=U then O (zuP (self l[i] (d-c)))else if((zuP (self l[i] (d-c))).kind==0)=U then O ⟨0,(ix i:Int),(zuP (self l[i] (d-c))).values,zua,ztc (c:Int) (zuP (self l[i] (d-c))).steps⟩else(Go.Proofs.YtipkniadbkndfaaGreatDoor.app 72 kids [(zuP (self l[i] (d-c))).tree]).bind λk=>rec (k,ztc (c:Int) (zuP (self l[i] (d-c))).steps,ztc (i:Int) 1))(he:∀rec kids(c:Nat),body rec (kids,(c:Int),(l.length:Int))=O ⟨1,0,[],tr kids,(c:Int)⟩)(hn:1000000<=n):ztg body n (([]:List Tree),(c0:Int),0)=O (zuP (zun self tr ix d 0 l [] c0)):=by
 have:=zaS (σ:=List Tree×Nat) (body:=body) (len:=l.length) (st:=λs i=>(s.1,s.2,i)) (g:=λi s=>O (zuP (zun self tr ix d i (l.drop i) s.1 s.2))) (λi s=>c0<=s.2/\s.2<=d/\s.1.length=i) (λrec i s hi a f=>?_) (λrec s a=>?_) n 0 ([],c0) (yj _) (by omega) ⟨yo _,hc0,rfl⟩;·grind
 ·obtain⟨kids,c⟩:=s;simp only at a f;rw[hb rec kids c i hi a.1 a.2.1 a.2.2,zj hi];unfold zun;have j:=hs _ (yi hi) (d-c);generalize self l[i] (d-c)=y at*;by_cases e:y.k=2;·rw[if_pos e,ans_2 e,if_pos (by rfl)];rfl
  ·rw[if_neg e];have h:ztc c y.c=c+y.c:=zc7 (by omega);by_cases b:y.k=0;·rw[if_pos b,ans_0 b,if_neg (by simp),if_pos (by rfl)];simp only[h];rfl
   ·rw[if_neg b,ans_1 e b,if_neg (by simp),if_neg (by simp)];simp only[h];rw[app1 (by omega),ya,zd (i:=i) (by omega)];exact f (kids++[y.t],c+y.c) ⟨by grind,by grind,by simp_all⟩
 ·rw[he,xN];rfl
theorem zre {n}{self}{t0}{R}{t4}{x}(hl:x.box.length<=1000)(hn:1000000<=n):ztg (zM.l4 n self t0 R t4 x) n (-1,ztn (x.box.length:Int) 1)=if Z (ztH x.box<0)=U then(zbP n x.box).bind λv=>O ⟨0,0,v,zua,ztc 1 (x.steps.length:Int)⟩else(idx x.box (ztH x.box)).bind λr=>(zdp n r).bind λat_=>ztg (zM.l5 n self t0 R t4 x (ztH x.box) at_) n (([]:List Tree),ztc 1 (x.steps.length:Int),0):=by
 have h:ztn x.box.length 1=x.box.length-1:=zaf (by omega) (by omega);have:=zw (body:=zM.l4 n self t0 R t4 x) (len:=x.box.length) (st:=λi=>(ixA zwA (x.box.drop (x.box.length-i)) (x.box.length-i),x.box.length-1-i)) (g:=λ_=>if Z (ztH x.box<0)=U then(zbP n x.box).bind λv=>O ⟨0,0,v,zua,ztc 1 x.steps.length⟩else(idx x.box (ztH x.box)).bind λr=>(zdp n r).bind λat_=>ztg (zM.l5 n self t0 R t4 x (ztH x.box) at_) n ([],ztc 1 x.steps.length,0)) (λa i f c=>?_) (λa=>?_) n 0 (yj _) (by omega);·grind[ixA]
 ·have b:x.box.length-(i+1)<x.box.length:=by omega
  have d:x.box.length-1-i=((x.box.length-(i+1):Nat):Int):=by omega
  have e:ztn (x.box.length-(i+1)) 1=x.box.length-1-(i+1):=by grind[ztn,zaf]
  rw[zj b]at c;simp only[ixA]at c;simp only[zM.l4,d,zb b,jn];grind[zwA]
 ·simp only[un];simp only[zM.l4];rw[if_neg (by grind)];rfl
theorem zfR {L:Nat}{S:System}(hS:SysG L S.zti S.cases):∀(f n d:Nat)(root:Bool)(R:List Row)(b:List Range),1000000+f<=n->d<f->d<=65536->(∀r∈R,RwOK L r)->R.length<=1024+(if root=U then 0 else 64)->PI 0 L 0 [] b->zM n S R b root (d:Int)=O (zuP (zuc S.zti S.cases f root R b d))
 |0,_,_,_,_,_,_,h,_,_,_,_=>by omega|f+1,n,d,root,R,b,hn,hd,hd6,hR,hRl,hb=>by
  obtain⟨n,rfl⟩:∃m,n=m+1:=⟨n-1,by omega⟩;have hn1:1000000<=n:=by omega
  have hL:=hS.le;have hR2:R.length<=1088:=by split at hRl<;>omega
  unfold zM zM.body;by_cases hd0:d=0
  ·subst hd0;rw[if_pos (by simp)];simp[zuc,zuP,zhb,zua]
  ·rw[if_neg (by simp;omega)];have e1:ztn (d:Int) 1=((d-1:Nat):Int):=zd9 (by omega) (by omega);have hb1:PI (d-1) L 0 [] b:=zk3 hb;have hrun:=zm6 (n:=n) (bud:=d-1) (L:=L) (R:=R) (G:=S.zti) hR (by omega) hS.gr (by have:=hS.gl;omega) (by omega) hb1 (by omega) hn1;rw[show d-1+1=d by omega]at hrun;have hp:=zjC (bud:=d-1) (f:=d) (show L<=1000 by omega) hR hS.gr hb1;have hle:=zkB (bud:=d-1) (R:=R) (G:=S.zti) (f:=d) (st:=[]) (b:=b) (by simp);rw[e1,hrun,ya];unfold zuc;rw[if_neg hd0];dsimp only;generalize runU (d-1) R S.zti d [] b=p at*;by_cases h2:p.k=2;·rw[if_pos h2,if_pos (by unfold PR.f;rw[h2];rfl)];simp[zuP,zhb,zua]
   ·have hf:p.f=true:=by
     unfold PR.f;cases hb:wR p.k 2 with|false=>rfl|true=>exact absurd (ww hb) h2
    rw[if_neg h2,if_neg (by rw[hf];simp)];have hc:ztc 1 (p.st.length:Int)=((1+p.st.length:Nat):Int):=zc7 (a:=1) (by omega);by_cases h1:p.k≠0
    ·rw[if_pos h1,if_pos (by rw[PR.zxQ h1];rfl),hc];simp[zuP]
    ·have hk:p.k=0:=by omega
     rw[if_neg h1];have hI:=hp hk;have hbl:=hI.len;rw[if_neg (by rw[PR.o_iff.2 hk];simp)];simp only[hc];have hsub:∀c:Nat,c<=d->ztn (d:Int) (c:Int)=((d-c:Nat):Int):=λc h=>by unfold ztn;rw[zaf (by omega) (by omega)];omega
     by_cases hr:(root&&!S.cases.isEmpty)=U
     ·have hr':(root&&Z (0<(S.cases.length:Int)))=true:=by
       simp only[yd,yB,w9,yg]at hr|-;exact⟨hr.1,by have:=List.length_pos_iff.2 hr.2;omega⟩
      rw[if_pos hr,if_pos hr'];simp only[yd]at hr;rw[hr.1]at hRl;simp only[if_true,ut]at hRl;refine zoI (ix:=id) (tr:=λkids=>⟨2,p.st,0,0,kids⟩) (self:=λcs d=>zuc S.zti S.cases f M (R++cs) p.b d) (l:=S.cases) (λx _ d' hk=>(zen hk).2) (by omega) hd6 hS.cl (λrec kids c i hi hcc hcd hkl=>?_) (λrec kids c=>?_) hn1
      ·have hcs:=hS.ca _ (yi hi);have hc24:kids.length<=1024:=by have:=hS.cl;omega
       have hnode:=zfR hS f n (d-c) M (R++S.cases[i]) p.b (by omega);simp only[zM.l1,zC hi,if_true];rw[zrf hi rfl (by omega) hcs.1 hn1,hsub c hcd];by_cases hdc:d-c<f
       ·rw[hnode hdc (by omega) (λr hr=>(yu.1 hr).elim (hR r) (hcs.2 r)) (by simp;omega) (zk3 hI),ya];rfl
       ·omega
      ·simp only[zM.l1,zan,ye,if_false]
     ·have hr':¬(root&&Z (0<(S.cases.length:Int)))=true:=by
       simp only[yd,yB,w9,yg]at hr|-;exactλh=>hr ⟨h.1,List.length_pos_iff.1 (by omega)⟩
      rw[if_neg hr,if_neg hr',zre (by simp only;omega) hn1];simp only;by_cases hc0:ztH p.b<0
      ·rw[if_pos (by simpa using hc0),if_pos hc0,zqP (by omega) hn1,ya,hc];simp[zuP]
      ·obtain⟨c0,c1,c2⟩:=zlJ hc0;rw[if_neg (by simpa using hc0),if_neg hc0,zdW c0 c1,ya,znz (box1 hI.box (zjd c0 c1)) hn1,ya,hc];have hmem:=zlH hI.box _ (zjd c0 c1);refine zoI (ix:=λ_=>0) (tr:=λkids=>⟨1,p.st,ztH p.b,midP (rgP p.b (ztH p.b)),kids⟩) (self:=λr d=>zuc S.zti S.cases f M R (zup p.b (ztH p.b) r) d) (l:=zuf (rgP p.b (ztH p.b))) (λx _ d' hk=>(zen hk).2) (by omega) hd6 (by simp[zuf]) (λrec kids c i hi hcc hcd hkl=>?_) (λrec kids c=>?_) hn1
       ·have hx:=znA (d:=0) hI hc0 (yi hi);have hnode:=zfR hS f n (d-c) M R (zup p.b (ztH p.b) (zuf (rgP p.b (ztH p.b)))[i]) (by omega);by_cases hdc:d-c<f
        ·have hnode:=hnode hdc (by omega) hR (by simp_all) hx;have hi2:i<2:=by grind[zuf]
         have hmid:ztc (midP (rgP p.b (ztH p.b))) 1=midP (rgP p.b (ztH p.b))+1:=by unfold midP ztc;rw[zaf (by omega) (by omega)]
         rcases show i=0\/i=1 by omega with rfl|rfl
         ·simp only[zuf,vB]at hnode|-;simp only[zM.l5,jn,zdW c0 c1,ya,zjI (show p.b.length<=1000 by omega) hn1,hsub c hcd];rw[if_pos (by simp),if_neg (by simp),hnode,ya];rfl
         ·simp only[zuf,List.getElem_cons_succ,vB]at hnode|-;simp only[zM.l5,jn,zdW c0 c1,ya,zjI (show p.b.length<=1000 by omega) hn1,hsub c hcd,hmid];rw[if_pos (by simp),if_pos (by simp),hnode,ya];rfl
        grind
       ·simp only[zM.l5];rw[if_neg (by simp[zuf])]
theorem zpw {n}{A B}(hA:A.length<=2000)(hB:B.length<=2000)(hn:1000000<=n):zg n [A,B]=O (A++B):=by
 have a0:ztc 0 1=1:=by grind[ztc,zaf]
 have a1:ztc 1 1=2:=by grind[ztc,zaf]
 have h1:=zw (body:=zg.l1 n [A,B]) (len:=2) (st:=λi=>((((([A,B]:List (List Row)).take i).map xh).sum:Nat),((i:Nat):Int))) (g:=λ_=>ztg (zg.l2 n [A,B]) n (([]:List Row),0)) (λrec i hi hr=>?_) (λrec=>?_) n 0 (yj _) (by omega)
 ·unfold zg;refine(show ztg (zg.l1 n [A,B]) n (0,0)=_ from h1).trans ?_;have h2:=zw (body:=zg.l2 n [A,B]) (len:=2) (st:=λi=>((([A,B]:List (List Row)).take i).flatten,((i:Nat):Int))) (g:=λ_=>O (A++B)) (λrec i hi hr=>?_) (λrec=>?_) n 0 (yj _) (by omega);·exact h2
  ·rcases show i=0\/i=1 by omega with rfl|rfl
   ·simp only[zg.l2];rw[if_pos (by simp),show idx [A,B] ((0:Nat):Int)=O A from rfl,ya,zl (by grind),ya];grind
   ·simp only[zg.l2];rw[if_pos (by simp),show idx [A,B] ((1:Nat):Int)=O B from rfl,ya,zl (by grind),ya];grind
  ·simp[zg.l2]
 ·rcases show i=0\/i=1 by omega with rfl|rfl
  ·have e:ztc 0 (A.length:Int)=(A.length:Int):=by grind[ztc,zaf]
   simp only[zg.l1];rw[if_pos (by simp),show idx [A,B] ((0:Nat):Int)=O A from rfl,ya];grind
  ·have e:ztc (A.length:Int) (B.length:Int)=((A.length+B.length:Nat):Int):=zc7 (by omega);simp only[zg.l1];rw[if_pos (by simp),show idx [A,B] ((1:Nat):Int)=O B from rfl,ya];grind
 ·simp only[zg.l1];rw[if_neg (by simp)];simp only[grd];rw[if_pos (by simp;omega)]
theorem zss {n}{t0}{t1}{t2}{b}{c}(h1:1<=b.length)(hl:b.length<=1000)(ht:b.length=t1.length)(hn:1000000<=n):((mkl 8 (b.length:Int) (0:Int)).bind λv=>ztg (za.l13 n t0 t1 t2 b c) n (v,0))=O (O (⟨b.map (·.lo),gmax t2 0,zua⟩,⟨t0.s,t0.rows,t0.ztx,c⟩)):=by
 rw[mkl_0 (by omega),ya];have:=zaS (body:=za.l13 n t0 t1 t2 b c) (len:=b.length) (st:=λs i=>(s,i)) (g:=λ_ _=>O (O (⟨b.map (·.lo),gmax t2 0,zua⟩,⟨t0.s,t0.rows,t0.ztx,c⟩))) (λi s=>s=(b.map (·.lo)).take i++xA (b.length-i) 0) (λe i s h f k=>?_) (λe s f=>?_) n 0 (xA b.length 0) (yj _) (by omega) (by simp);·grind
 ·have d:((b.map (·.lo)).take i).length=i:=by grind
  have a:i<s.length:=by grind
  simp only[za.l13,zC h,zb h];rw[zb a,ya,zno a,ya,zd (i:=i) (by omega)];refine k _ ?_;have l:i<(b.map (·.lo)).length:=by grind
  rw[f,yt l,show b.length-i=b.length-(i+1)+1 by omega,List.replicate_succ,uL _ _ (by omega),d,un,wX,yJ];grind
 ·have j:s=b.map (·.lo):=by grind[xS]
  simp only[za.l13,zan,ye,if_false,j,ht,decide_true,grd];rw[if_pos];·rfl
  grind
theorem zrV {n}{b}(hl:b.length<=1000)(hn:1000000<=n):zi n b (λq0=>zbz n q0)=O (ztH b):=by
 have:=zw (body:=zi.l1 n b λq0=>zbz n q0) (len:=b.length) (st:=λi=>i) (g:=λi=>O (ixA zwA (b.drop i) i)) (λa i c d=>?_) (λa=>?_) n 0 (yj _) (by omega);·grind[zi,ztH]
 ·rw[zj c];simp only[zi.l1,zb c,zbz,zd (i:=i) (by omega),ixA];unfold zwA at d|-;grind
 ·simp[zi.l1,ixA]
def OutW (t0:ztJ)(L:Nat)(base:Int)(strict:Bool)(xe:NR)(w:Option (Found×ztJ)):Prop:=xe.k=2/\w=Y\/xe.k≠2/\(xe.k=0->xe.v.length=L/\xe.v≠[])/\∃ix rows,w=O (⟨xe.v,ix,xe.t⟩,⟨t0.s,rows,t0.ztx,base+(xe.c:Int)⟩)/\(strict=U->rows=t0.rows)
def Out (t0:ztJ)(L:Nat)(strict:Bool)(xe:NR)(r:Option (Option (Found×ztJ))):Prop:=∃w,r=O w/\OutW t0 L t0.cost strict xe w
theorem zmZ {α}{n d c0 L}{l:List α}{self}{tr}{ix}{t0}{strict}{body}(hs:∀x∈l,∀d',(self x d').k≠2->(self x d').c<=d')(hsh:∀x∈l,∀d',((self x d').k=0->(self x d').t=zua)/\((self x d').k≠0->(self x d').v=[]))(hc0:c0<=d)(hd:d<=65536)(hl:l.length<=1024)(hb:∀rec kids rows(c:Nat)i(hi),c0<=c->c<=d->kids.length=i->(strict=U->rows=t0.rows)->∃w,body rec (kids,t0.s.box,t0.s.rows,t0.s.zti,t0.s.cases,rows,t0.ztx,t0.cost+(c:Int),(i:Int))=pnk w (λx=>(Go.Proofs.YtipkniadbkndfaaGreatDoor.app 72 kids [zua]).bind λx10=>(idx x10 (kids.length:Int)).bind λ_=>(sto x10 (kids.length:Int) x.1.tree).bind λb10=>if(!x.1.values.isEmpty)=U then O (O (x.1,x.2))else rec (b10,x.2.s.box,x.2.s.rows,x.2.s.zti,x.2.s.cases,x.2.rows,x.2.ztx,x.2.cost,ztc (i:Int) 1))/\OutW t0 L (t0.cost+(c:Int)) strict (self l[i] (d-c)) w)(he:∀rec kids rows(c:Nat),body rec (kids,t0.s.box,t0.s.rows,t0.s.zti,t0.s.cases,rows,t0.ztx,t0.cost+(c:Int),(l.length:Int))=O (O (⟨[],0,tr kids⟩,⟨t0.s,rows,t0.ztx,t0.cost+(c:Int)⟩)))(hn:1000000<=n):Out t0 L strict (zun self tr ix d 0 l [] c0) (ztg body n (([]:List Tree),t0.s.box,t0.s.rows,t0.s.zti,t0.s.cases,t0.rows,t0.ztx,t0.cost+(c0:Int),0)):=by
 generalize hY:zun self tr ix d 0 l [] c0=xe;refine zeu (σ:=List Tree×List Row×Nat) (body:=body) (k:=l.length) (st:=λs i=>(s.1,t0.s.box,t0.s.rows,t0.s.zti,t0.s.cases,s.2.1,t0.ztx,t0.cost+(s.2.2:Int),(i:Int))) (λi s=>c0<=s.2.2/\s.2.2<=d/\s.1.length=i/\(strict=U->s.2.1=t0.rows)/\zun self tr ix d i (l.drop i) s.1 s.2.2=xe) (λw=>OutW t0 L t0.cost strict xe w) (λrec i s hi hI hr=>?_) (λrec s hI=>?_) (by omega) ([],t0.rows,c0) ⟨yo _,hc0,rfl,λ_=>rfl,hY⟩
 ·obtain⟨kids,rows,c⟩:=s;obtain⟨i1,i2,i3,i4,i5⟩:=hI;simp only at i1 i2 i3 i4 i5;obtain⟨w,e,hw⟩:=hb rec kids rows c i hi i1 i2 i3 i4;simp only;rw[e,<-i5,zj hi];have hx:=hs _ (yi hi) (d-c);have hy:=hsh _ (yi hi) (d-c);rw[zj hi]at i5;unfold zun at i5|-;generalize self l[i] (d-c)=y at*;rcases hw with⟨h2,rfl⟩|⟨h2,hsol,ix',rows',rfl,hst⟩;·rw[if_pos h2];exact⟨Y,rfl,.inl ⟨rfl,rfl⟩⟩
  ·rw[if_neg h2]at i5|-;have hx:=hx h2;have hkl:kids.length<(kids++[zua]).length:=by simp
   simp only[pnk];rw[app1 (by omega),ya,zb hkl,ya,zno hkl,ya];have hset:(kids++[zua]).set kids.length y.t=kids++[y.t]:=by rw[uL _ _ (yo _),un];rfl
   rw[hset];by_cases h0:y.k=0
   ·obtain⟨hv1,hv2⟩:=hsol h0;rw[if_pos h0];rw[if_pos (by cases hv:y.v with|nil=>exact absurd hv hv2|cons a l=>rfl)];refine⟨_,rfl,.inr ⟨by simp,λ_=>⟨hv1,hv2⟩,ix',rows',?_,hst⟩⟩;rw[hy.1 h0];simp only[Int.natCast_add,Int.add_assoc]
   ·rw[if_neg h0]at i5|-;rw[if_neg (by rw[hy.2 h0];simp)];rw[zd (i:=i) (by omega)];obtain⟨r,e1,e2⟩:=hr (kids++[y.t],rows',c+y.c) ⟨by simp only;omega,by simp only;omega,by simp;omega,hst,i5⟩;refine⟨r,?_,by rw[i5];exact e2⟩;rw[<-e1];simp only[Int.natCast_add,Int.add_assoc]
 ·obtain⟨kids,rows,c⟩:=s;obtain⟨i1,i2,i3,i4,i5⟩:=hI;simp only[xN]at i1 i2 i3 i4 i5;simp only;rw[he,<-i5];exact⟨_,rfl,.inr ⟨by simp[zun],λh=>absurd h (by simp[zun]),0,rows,rfl,i4⟩⟩
theorem zpo {G cs f root R b d}(h:cs=[]):zuc G cs f root R b d=zuc G cs f M R b d:=by cases f with|zero=>rfl|succ f=>grind[zuc]
theorem znt {bud}:∀{i}{l}{p},(∃r∈l,zvE r=U)->(zuC bud i l p).k≠0
 |_,[],_,h=>by grind|i,r::l,p,h=>by
  unfold zuC;by_cases c:zvE r=U
  ·have e:(zeD bud i r p).k≠0:=by
    by_cases d:p.k=0
    ·unfold zeD PR.bind;grind
    grind[zgA]
   grind[zft]
  ·obtain⟨x,a,b⟩:=h;rcases yG.1 a with rfl|a;·grind
   ·exact znt ⟨x,a,b⟩
theorem zrr {bud R G f st b}(h:∃r∈R,zvE r=U):(runU bud R G (f+1) st b).k≠0:=by
 have a:(zug bud R G st b).k≠0:=by grind[zug,zeO,znt]
 unfold runU;grind
theorem zfb {L}{S}(hS:SysG L S.zti S.cases):∀(f n d:Nat)(t0)(b)(t2),1000000+f<=n->d<f->t0.s=S->0<=t0.cost->t0.ztx=t0.cost+(d:Int)->t0.ztx<=65536->(∀r∈t0.rows,RwOK L r)->t0.rows.length<=1024+(if t2<0 then 0 else 64)->(t2<0->t0.rows=S.rows)->(L=0->∃r∈t0.rows,zvE r=U)->PI 0 L 0 [] b->Out t0 L (!(Z (t2<0)&&!S.cases.isEmpty)) (zuc S.zti S.cases f (Z (t2<0)) t0.rows b d) (za n t0 b t2)
 |0,_,_,_,_,_,_,h,_,_,_,_,_,_,_,_,_=>by omega|f+1,n,d,t0,b,t2,hn,hd,hs,hc0,hbd,hle,hR,hRl,hroot,hE,hb=>by
  obtain⟨n,rfl⟩:∃m,n=m+1:=⟨n-1,by omega⟩;have hn1:1000000<=n:=by omega
  have hL:=hS.le;have hd6:d<=65536:=by omega
  have hR2:t0.rows.length<=1088:=by grind
  unfold za za.body zuc;by_cases hd0:d=0
  ·have hcb:(t0.cost==t0.ztx)=true:=by grind
   rw[if_pos hd0,if_pos hcb];simp only[decide_true,grd,if_true];exact⟨Y,rfl,.inl ⟨rfl,rfl⟩⟩
  ·have hcb:¬(t0.cost==t0.ztx)=true:=by grind
   rw[if_neg hd0,if_neg hcb];have hw:SW t0 (d-1):=⟨hc0,by omega,hle⟩;have hb1:PI (d-1) L 0 [] b:=zk3 hb;have hrun:=zq8 (n:=n) (self:=za n) (t1:=b) (t2:=t2) hw hb.len (by omega) hR (by omega) (by rw[hs];exact hS.gr) (by rw[hs];have:=hS.gl;omega) hb1 hn1;have ec:zt5 t0 []=ztc t0.cost 1:=by grind[zt5,ztc,zaf]
   rw[show d-1+1=d by omega,ec]at hrun;have hp:=zjC (bud:=d-1) (f:=d) (show L<=1000 by omega) hR (show∀g∈t0.s.zti,∃K,GrOK L g K by rw[hs];exact hS.gr) hb1;have hple:=zkB (bud:=d-1) (R:=t0.rows) (G:=t0.s.zti) (f:=d) (st:=[]) (b:=b) (by simp);have hvoid:L=0->(runU (d-1) t0.rows t0.s.zti d [] b).k≠0:=λh=>by
    have:=zrr (bud:=d-1) (R:=t0.rows) (G:=t0.s.zti) (f:=d-1) (st:=[]) (b:=b) (hE h);rwa[show d-1+1=d by omega]at this
   rw[hrun];rw[hs]at hp hple hvoid|-;generalize runU (d-1) t0.rows S.zti d [] b=p at*;unfold finW;by_cases h2:p.k=2
   ·rw[if_pos h2,if_neg (by omega),if_pos h2];exact⟨Y,rfl,.inl ⟨rfl,rfl⟩⟩
   ·rw[if_neg h2];have hcc:zt5 t0 p.st=t0.cost+((1+p.st.length:Nat):Int):=by unfold zt5;omega
    by_cases h1:p.k≠0
    ·rw[if_pos h1,if_neg h1,if_neg h2];refine⟨_,rfl,.inr ⟨by simp,λh=>absurd h (by simp),0,t0.rows,?_,λ_=>rfl⟩⟩;rw[hcc]
    ·have hk:p.k=0:=by omega
     have hI:=hp hk;have hbl:=hI.len;rw[if_neg h1,if_pos hk];unfold zim;have hcases:(Z (0<(t0.s.cases.length:Int))&&Z (t2<0))=(Z (t2<0)&&!S.cases.isEmpty):=by
      rw[hs,Bool.and_comm];congr 1;rw[wb];simp only[yg,yB,w9];rw[<-List.length_pos_iff];omega
     rw[hcases];by_cases hr:(Z (t2<0)&&!S.cases.isEmpty)=U
     ·rw[if_pos hr,if_pos hr,hcc,hr];simp only[yd,yg]at hr;have hrow:=hroot hr.1;rw[if_pos hr.1]at hRl;refine zmZ (ix:=id) (tr:=λkids=>⟨2,p.st,0,0,kids⟩) (self:=λcs d=>zuc S.zti S.cases f M (t0.rows++cs) p.b d) (l:=S.cases) (λx _ d' hk=>(zen hk).2) (λx _ d'=>zho) (by omega) hd6 hS.cl (λrec kids rows c i hi hcc hcd hkl hst=>?_) (λrec kids rows c=>?_) hn1
      ·have hcs:=hS.ca _ (yi hi);have hi':i<t0.s.cases.length:=by rw[hs];exact hi
       have ei:t0.s.cases[i]=S.cases[i]:=by simp only[hs]
       have hsr:t0.s.rows=t0.rows:=by rw[hs];exact hrow.symm
       obtain⟨w,e,hw⟩:=zfb hS f n (d-c) ⟨t0.s,t0.rows++S.cases[i],t0.ztx,t0.cost+(c:Int)⟩ p.b (i:Int) (by omega) (by omega) hs (by simp only;omega) (by simp only;omega) hle (λr hr=>(yu.1 hr).elim (hR r) (hcs.2 r)) (by rw[if_neg (show¬(i:Int)<0 by omega),yR];omega) (λh=>by omega) (λh=>by
        obtain⟨r,hr,hr2⟩:=hE h;exact⟨r,ws _ hr,hr2⟩) (zk3 hI);rw[show Z ((i:Int)<0)=M by simp]at hw;refine⟨w,?_,?_⟩
       ·simp only[za.l12,zC hi',if_true,zb hi',ya,ei,hsr];rw[zpw (by omega) (by omega) hn1,ya,zl (by simp;omega),ya];simp only[hbl,hb.len,decide_true,grd,if_true,yP];rw[show(⟨⟨t0.s.box,t0.rows,t0.s.zti,t0.s.cases⟩,t0.rows++S.cases[i],t0.ztx,t0.cost+(c:Int)⟩:ztJ)=⟨t0.s,t0.rows++S.cases[i],t0.ztx,t0.cost+(c:Int)⟩by rw[<-hsr],e,ya];rfl
       ·rcases hw with h|⟨h1,h2,ix',rows',h3,h4⟩;·exact .inl h
        ·exact .inr ⟨h1,h2,ix',rows',h3,λh=>absurd h (by simp)⟩
      ·have e1:t0.s.cases.length=S.cases.length:=by rw[hs]
       rw[<-e1];simp only[za.l12,zan,ye,if_false,hbl,hb.len,decide_true,grd,if_true]
     ·rw[if_neg hr,if_neg hr,zrV (by omega) hn1,ya];have hstrict:(!(Z (t2<0)&&!S.cases.isEmpty))=true:=by cases hx:Z (t2<0)&&!S.cases.isEmpty with
       |false=>rfl|true=>exact absurd hx hr
      rw[hstrict];by_cases hc:ztH p.b<0
      ·have hL1:1<=L:=by
        rcases Nat.eq_zero_or_pos L with h|h;·exact absurd hk (hvoid h)
        ·exact h
       rw[if_pos (show Z (ztH p.b<0)=U by simpa using hc),if_pos hc,zss (by omega) (by omega) (by rw[hbl,hb.len]) hn1];refine⟨_,rfl,.inr ⟨by simp,λ_=>⟨by simp[hbl],λh=>?_⟩,gmax t2 0,t0.rows,?_,λ_=>rfl⟩⟩
       ·have:=congrArg xh h;rw[yK,hbl,ui]at this;omega
       ·rw[hcc]
      ·obtain⟨c0,c1,c2⟩:=zlJ hc;have hmem:=zlH hI.box _ (zjd c0 c1);have hmid:ztc (midP (rgP p.b (ztH p.b))) 1=midP (rgP p.b (ztH p.b))+1:=by unfold midP ztc;rw[zaf (by omega) (by omega)]
       rw[if_neg (show¬Z (ztH p.b<0)=U by simpa using hc),if_neg hc,zdW c0 c1,ya,zpz (box1 hI.box (zjd c0 c1)) hn1,ya,ya,ya,hcc];refine zmZ (ix:=λ_=>0) (tr:=λkids=>⟨1,p.st,ztH p.b,midP (rgP p.b (ztH p.b)),kids⟩) (self:=λr d=>zuc S.zti S.cases f M t0.rows (zup p.b (ztH p.b) r) d) (l:=zuf (rgP p.b (ztH p.b))) (λx _ d' hk=>(zen hk).2) (λx _ d'=>zho) (by omega) hd6 (by simp[zuf]) (λrec kids rows c i hi hcc hcd hkl hst=>?_) (λrec kids rows c=>?_) hn1
       ·have hx:=znA (d:=0) hI hc (yi hi);have hrows:=hst rfl;obtain⟨w,e,hw⟩:=zfb hS f n (d-c) ⟨t0.s,t0.rows,t0.ztx,t0.cost+(c:Int)⟩ (zup p.b (ztH p.b) (zuf (rgP p.b (ztH p.b)))[i]) t2 (by omega) (by omega) hs (by simp only;omega) (by simp only;omega) hle hR hRl hroot hE hx;rw[hstrict]at hw;have hnr:zuc S.zti S.cases f (Z (t2<0)) t0.rows (zup p.b (ztH p.b) (zuf (rgP p.b (ztH p.b)))[i]) (d-c)=zuc S.zti S.cases f M t0.rows (zup p.b (ztH p.b) (zuf (rgP p.b (ztH p.b)))[i]) (d-c):=by
         by_cases h:t2<0;·refine zpo ?_;simp only[h,decide_true,yC,yB,w9]at hr;exact Classical.not_not.1 hr
         ·rw[show Z (t2<0)=M by simpa using h]
        simp only at hw;rw[hnr]at hw;refine⟨w,?_,hw⟩;have hi2:i<2:=by simpa[zuf]using hi
        have hsto:∀r,sto p.b (ztH p.b) r=O (zup p.b (ztH p.b) r):=zmm c0 c1;subst hrows;rcases show i=0\/i=1 by omega with rfl|rfl
        ·simp only[za.l14,hmid];rw[if_pos (by simp),show idx [(⟨(rgP p.b (ztH p.b)).lo,midP (rgP p.b (ztH p.b))⟩:Range),⟨midP (rgP p.b (ztH p.b))+1,(rgP p.b (ztH p.b)).hi⟩] ((0:Nat):Int)=O ⟨(rgP p.b (ztH p.b)).lo,midP (rgP p.b (ztH p.b))⟩from rfl,ya,zl (by simp;omega),ya,yP,zdW c0 c1,ya,hsto,ya];simp only[hbl,hb.len,decide_true,grd,if_true];simp only[zuf,vB]at e;rw[e,ya];rfl
        ·simp only[za.l14,hmid];rw[if_pos (by simp),show idx [(⟨(rgP p.b (ztH p.b)).lo,midP (rgP p.b (ztH p.b))⟩:Range),⟨midP (rgP p.b (ztH p.b))+1,(rgP p.b (ztH p.b)).hi⟩] ((1:Nat):Int)=O ⟨midP (rgP p.b (ztH p.b))+1,(rgP p.b (ztH p.b)).hi⟩from rfl,ya,zl (by simp;omega),ya,yP,zdW c0 c1,ya,hsto,ya];simp only[hbl,hb.len,decide_true,grd,if_true];simp only[zuf,List.getElem_cons_succ,vB]at e;rw[e,ya];rfl
       ·simp only[za.l14];rw[if_neg (by simp[zuf])];simp only[hbl,hb.len,decide_true,grd,if_true]
def rowH (x:List Int)(r:Row):Bool:=Z (sumP x r.ztf<=r.bound)
def edgeG (x:List Int)(g:ztv)(a b:Nat):Bool:=Z (g.least.getD (a*g.size.toNat+b) 0<=x.getD (g.first+((a*g.size.toNat+b:Nat):Int)).toNat 0)
def zg0 (x:List Int)(g:ztv):Bool:=zwd (edgeG x g) g.size.toNat
theorem znD {E F K}(h:∀a b,a<K->b<K->E a b=F a b):zwd E K=zwd F K:=by rw[wb];exact⟨zil λa b ha hb hF=>by rw[h a b ha hb];exact hF,zil λa b ha hb hE=>by rw[<-h a b ha hb];exact hE⟩
theorem znJ {n a r}(ha:zuk a)(hd:zfx a.effect.delta)(ht:∀t∈r.ztf,-1000<=t.ztl/\t.ztl<=1000)(hl:r.ztf.length<=1000)(hn:1000000<=n):chgN n a r=chgP a.effect.delta r.ztf:=by
 have:=ha.delta;grind[chgN,zcv,zjR]
def zeP (q:Question)(a b:Action):List Row:=a.effect.hold++if(q.e !=q.f)=U then b.effect.hold else[]
noncomputable def zc4 (n:Nat)(m:Model)(q:Question)(a b:Action):List ztv:=(xr m.constraints.length).flatMap λi=>gS n (q.e !=q.f) a b (m.constraints.getD i J)
def zkm (r:Row)(x:Int):Row:=⟨r.ztf.map λt=>⟨t.cell,ztU t.ztl⟩,ztn (ztc (ztU r.bound) x) 1⟩
inductive Tgt (n:Nat)(m:Model)(q:Question)(a b:Action)(box:List Range):List Row->List (List Row)->Prop|hold(r:Row):q.target.hold=U->idx a.effect.hold q.target.index=O r->Tgt n m q a b box [zkm r (chgN n b r)] []|row(c:Constraint):q.target.hold=M->idx m.constraints q.target.index=O c->c.kind=0->Tgt n m q a b box [zkm c.row (ztc (chgN n a c.row) (chgN n b c.row))] []|none(c:Constraint)(s:Nat):q.target.hold=M->idx m.constraints q.target.index=O c->c.kind=1->c.size=(s:Int)->zhD (zA a.effect.delta) (zA b.effect.delta) box c s=[]->Tgt n m q a b box [⟨[],-1⟩] []|graph(c:Constraint)(s:Nat):q.target.hold=M->idx m.constraints q.target.index=O c->c.kind=1->c.size=(s:Int)->zhD (zA a.effect.delta) (zA b.effect.delta) box c s≠[]->Tgt n m q a b box [] (zhD (zA a.effect.delta) (zA b.effect.delta) box c s)
theorem zro {n m q a b box}(ha:zuk a)(hb:zuk b)(hc:∀c∈m.constraints,zuO box.length c)(sa:zum a)(sb:zum b)(hl:m.constraints.length<=1000)(hbx:box.length<=1000)(hh:q.target.hold=U->0<=q.target.index/\q.target.index<(a.effect.hold.length:Int))(hh2:q.target.hold=M->0<=q.target.index/\q.target.index<(m.constraints.length:Int))(hn:1000000<=n):∃(xe:List Row)(cs:List (List Row)),Tgt n m q a b box xe cs/\((zeP q a b++xe).length<=30/\∀r∈zeP q a b++xe,r.ztf.length<=1000)/\((zc4 n m q a b).length<=3000/\∀g∈zc4 n m q a b,g.least.length<=36)/\zf5 cs/\∀R,R.length<=1000->zwh n m q a b box R=endS n ⟨box,R++(zeP q a b++xe),zc4 n m q a b,cs⟩ (zal n ⟨box,R++(zeP q a b++xe),zc4 n m q a b,cs⟩):=by
 obtain⟨H,hH⟩:∃H:List Row,H=zeP q a b:=⟨_,rfl⟩;have hHl:H.length<=20/\∀r∈H,r.ztf.length<=1000:=by
  have h1:=ha.hold;have h2:=hb.hold;rw[hH];unfold zeP;constructor;·grind
  ·intro r hr;rcases yu.1 hr with hr|hr;·exact ha.ztf r hr
   ·split at hr;·exact hb.ztf r hr
    ·simp at hr
 have hstep:∀R:List Row,R.length<=1000->zwh n m q a b box R=zdt n m q a b box (R++H):=λR hR=>by
  have h1:=ha.hold;have h2:=hb.hold;have hloop:ztg (zf.l3 n m q a b box H) n (R,0)=zdt n m q a b box (R++H):=by
   have:=zdZ (body:=zf.l3 n m q a b box H) (l:=H) (n:=n) (st:=λb i=>(b,(i:Int))) (λr:Row=>r) (zdt n m q a b box) R (λrec b6 i hi hb6=>?_) (λrec b6 hb6=>?_) (by omega);·simpa using this
   ·simp only[zf.l3,zC hi,if_true,zb hi,ya,zqB (hHl.2 _ (yi hi)) hn];rw[zl (by first|omega|(simp;omega)),ya,zd (by omega)]
   ·simp only[zf.l3,zan,ye,if_false];rfl
  unfold zwh;simp only[jn];rw[zl (by first|omega|(simp;omega)),ya,yP];by_cases he:(q.e !=q.f)=U;·rw[if_pos he,zl (by first|omega|(simp;omega)),ya,<-hloop,hH,zeP,if_pos he]
  ·rw[if_neg he,<-hloop,hH,zeP,if_neg he,uc]
 obtain⟨G,hG⟩:∃G,G=zc4 n m q a b:=⟨_,rfl⟩;have hGl:G.length<=3000/\∀g∈G,g.least.length<=36:=by
  have key:∀k,k<=m.constraints.length->((xr k).flatMap λi=>gS n (q.e !=q.f) a b (m.constraints.getD i J)).length<=3*k/\∀g∈(xr k).flatMap λi=>gS n (q.e !=q.f) a b (m.constraints.getD i J),g.least.length<=36:=by
   intro k;induction k with|zero=>intro _;simp|succ k ih=>
    intro hk;obtain⟨i1,i2⟩:=ih (by omega);have e:m.constraints.getD k J=m.constraints[k]'(by omega):=by simp[vo,show k<m.constraints.length by omega]
    obtain⟨g1,g2⟩:=zoq (n:=n) (ef:=q.e !=q.f) ha hb (hc _ (yi (show k<m.constraints.length by omega))) hn;rw[ziJ,e];constructor;·rw[yR];omega
    ·intro g hg;rcases yu.1 hg with hg|hg;·exact i2 g hg
     ·exact g2 g hg
  rw[hG];obtain⟨k1,k2⟩:=key _ (yo _);unfold zc4;exact⟨by omega,k2⟩
 have h0:∀(c:Constraint)(R:List Row),(c.kind==1)=M->finS n box a b R c G=endS n ⟨box,R,G,[]⟩ (zal n ⟨box,R,G,[]⟩):=λc R hk=>by unfold finS;simp only[jn,hk,ye,if_false];rfl
 have c0:zf5 []:=⟨by simp,by simp⟩;rw[<-hG,<-hH];cases hhold:q.target.hold with
 |true=>
  obtain⟨i1,i2⟩:=hh hhold;obtain⟨r,hr⟩:=za8 i1 i2;have hrl:=ha.ztf r (zbb hr);have hx:=zej hb hrl hn;have hnr:=zek (n:=n) (r:=r) (f:=λq0=>zaP n q0) (g:=λq0=>zap n q0 (chgN n b r)) (fP:=ztU) (B:=ztn (ztc (ztU r.bound) (chgN n b r)) 1) (λ_=>rfl) rfl hrl hn;refine⟨_,_,.hold r hhold hr,⟨by first|omega|(simp;omega),λs hs=>?_⟩,hGl,c0,λR hR=>?_⟩
  ·rcases yu.1 hs with hs|hs;·exact hHl.2 s hs
   ·simp at hs;subst hs;simpa[zkm]using hrl
  ·rw[hstep R hR];unfold zdt;simp only[jn,hhold,if_true,hr,ya,hx,hnr];rw[zl (by first|omega|(simp;omega)),ya];have:=zju (q:=q) (a:=a) (b:=b) (box:=box) (R:=R++H++[zkm r (chgN n b r)]) (c:=⟨0,0,⟨[],0⟩,0,0⟩) ha hb hc hl hn;rw[<-zc4,<-hG]at this;rw[yJ]at this|-;exact this.trans (h0 _ _ rfl)|false=>
  obtain⟨i1,i2⟩:=hh2 hhold;obtain⟨c,hcx⟩:=za8 i1 i2;have hco:=hc c (zbb hcx);have hgl:=λR:List Row=>zju (q:=q) (a:=a) (b:=b) (box:=box) (R:=R) (c:=c) ha hb hc hl hn;rw[<-zc4,<-hG]at hgl;rcases hco.kind with hk|hk
  ·have hx:=zej ha hco.len hn;have hy:=zej hb hco.len hn;have hnr:=zek (n:=n) (r:=c.row) (f:=λq0=>zaP n q0) (g:=λq0=>zap n q0 (ztc (chgN n a c.row) (chgN n b c.row))) (fP:=ztU) (B:=ztn (ztc (ztU c.row.bound) (ztc (chgN n a c.row) (chgN n b c.row))) 1) (λ_=>rfl) rfl hco.len hn;refine⟨_,_,.row c hhold hcx hk,⟨by first|omega|(simp;omega),λs hs=>?_⟩,hGl,c0,λR hR=>?_⟩
   ·rcases yu.1 hs with hs|hs;·exact hHl.2 s hs
    ·simp at hs;subst hs;simpa[zkm]using hco.len
   ·rw[hstep R hR];unfold zdt;have hk':(c.kind==0)=true:=by simp[hk]
    simp only[jn,hhold,ye,if_false,hcx,ya,hk',if_true,hx,hy,hnr];rw[zl (by first|omega|(simp;omega)),ya,yJ];exact(hgl _).trans (h0 _ _ (by simp[hk]))
  ·obtain⟨s,s1,s2,s3,s4,s5⟩:=hco.sz hk;obtain⟨cs,hcs,hcsO⟩:=zmF (n:=n) (box:=box) (e:=a) (f:=b) s1 s2 s3 s4 s5 hbx ha.delta hb.delta hn;have hcq:cs=zhD (zA a.effect.delta) (zA b.effect.delta) box c s:=by have:=(zla (n:=n) (c:=c) sa sb s3 hn (box:=box) s1 s2 s4 s5 hbx).1;rw[hcs]at this;exact vE this
   have hk0:(c.kind==0)=false:=by simp[hk]
   have hk1:(c.kind==1)=true:=by simp[hk]
   by_cases he:cs=[]
   ·have he':((cs.length:Int)==0)=true:=by simp[he]
    refine⟨_,_,.none c s hhold hcx hk s1 (hcq▸he),⟨by first|omega|(simp;omega),λs hs=>?_⟩,hGl,c0,λR hR=>?_⟩
    ·rcases yu.1 hs with hs|hs;·exact hHl.2 s hs
     ·simp at hs;subst hs;simp
    ·rw[hstep R hR];unfold zdt;simp only[jn,hhold,ye,if_false,hcx,ya,hk0];refine(hgl _).trans ?_;unfold finS;simp only[jn,hk1,if_true,hcs,ya,he'];rw[zl (by first|omega|(simp;omega)),ya,yJ,he];rfl
   ·have he':¬((cs.length:Int)==0)=true:=by simp[he]
    refine⟨_,_,.graph c s hhold hcx hk s1 (hcq▸he),⟨by simpa using(by omega:H.length<=30),by simpa using hHl.2⟩,hGl,hcq▸hcsO,λR hR=>?_⟩;rw[hstep R hR];unfold zdt;simp only[jn,hhold,ye,if_false,hcx,ya,hk0];refine(hgl _).trans ?_;unfold finS;simp only[jn,hk1,if_true,hcs,ya];rw[if_neg he',<-hcq,uc];rfl
theorem gr_eq {n K:Nat}{c}{s:Nat}{f}{fP:Int->Int}(hs:c.size=(s:Int))(h6:s<=6)(hf:∀x,f x=O (fP x))(hn:1000000<=n):gr n c f=⟨c.first,c.size,(xr (s*s)).map λi:Nat=>ztn 1 (fP (ztc c.first (i:Int)))⟩:=by
 have e:=y8 h6 h6;have b:zto c.size c.size=(s*s:Nat):=by grind[zgM]
 have:zI n c f=O ⟨c.first,c.size,(xr (s*s)).map λi:Nat=>ztn 1 (fP (ztc c.first i))⟩:=by
  unfold zI;have:=zw (body:=zI.l1 n c f) (len:=s*s) (st:=λi=>((xr i).map λi:Nat=>ztn 1 (fP (ztc c.first i)),i)) (g:=λ_=>O ⟨c.first,c.size,(xr (s*s)).map λi:Nat=>ztn 1 (fP (ztc c.first i))⟩) (λa i h d=>?_) (λa=>?_) n 0 (yj _) (by omega);·grind
  ·simp only[zI.l1];grind[zl,zd,List.range_succ]
  ·simp only[zI.l1,b,zhJ (yo _),ye,if_false]
 grind[gr]
theorem zlY {n K}{c}{x y}{f}{fP:Int->Int}(hc:zuO K c)(hk:c.kind=1)(hx:x.length=K)(hK:K<=1000)(hf:∀z,f z=O (fP z))(hsm:∀z,-4000000000<=fP z/\fP z<=4000000000)(hy:∀i,0<=i->i<(K:Int)->y.getD i.toNat 0=x.getD i.toNat 0+fP i)(hn:1000000<=n):zg0 x (gr n c f)=zay c y:=by
 obtain⟨s,e,p,h,o,m⟩:=hc.sz hk;rw[gr_eq (K:=K) e h hf hn];unfold zg0 zay;rw[if_pos hk];simp only[e,yv];refine znD λa b j k=>?_;have l:=ziI j k;have d:c.first+a*s+b=c.first+(a*s+b:Nat):=by grind
 have g:=hsm (c.first+(a*s+b:Nat));unfold edgeG zuQ;rw[wb];simp only[yg,e,yv,d];rw[hy _ (by omega) (by omega),uF,y6,List.getElem?_range l];simp only[yS,ym];rw[zcu (by omega) (by omega),zjF (by omega) (by omega)];omega
theorem zlA {K x}(hp:zuh K x){j}(hj:j<x.length):vtx x j<K/\x.getD j 0=((vtx x j:Nat):Int):=by
 have a:=hp.mem x[j] (yi hj);grind[vtx]
section
variable{c:Constraint}{K:Nat}{box:List Range}{s:List Int}{da db:List Change}
theorem zoc (hs:c.size=(K:Int))(h6:K<=6)(h0:0<=c.first)(h1:c.first<=1000000){x}(hp:zuh K x){i}(hi:i<x.length):zcG c x i=c.first+((vtx x i*K+vtx x ((i+1)%x.length):Nat):Int):=by
 obtain⟨d,f⟩:=zlA hp hi;obtain⟨b,g⟩:=zlA hp (vQ (i+1) (show 0<x.length by omega));have e:=ziI d b;have a:=y8 h6 h6;grind[zcG,zgM,zcu]
theorem zmI (hs:c.size=(K:Int))(h0:0<=c.first)(hf:c.first+((K*K:Nat):Int)<=(s.length:Int)){a b}(ha:a<K)(hb:b<K):zuQ (ztL s da) c a b=Z (1<=s.getD (c.first+((a*K+b:Nat):Int)).toNat 0+zA da (c.first+((a*K+b:Nat):Int))):=by
 have d:=ziI ha hb;grind[zuQ,zgN]
theorem ziw (hs:c.size=(K:Int))(h0:0<=c.first)(hf:c.first+((K*K:Nat):Int)<=(s.length:Int)){a b}(ha:a<K)(hb:b<K):zuQ (ztL (ztL s da) db) c a b=Z (1<=s.getD (c.first+((a*K+b:Nat):Int)).toNat 0+zA da (c.first+((a*K+b:Nat):Int))+zA db (c.first+((a*K+b:Nat):Int))):=by have hp:=ziI ha hb;rw[zmI hs h0 (by rw[zjy];exact hf) ha hb,zgN (by omega) (by omega)]
theorem zog (hs:c.size=(K:Int))(h6:K<=6)(h0:0<=c.first)(hf:c.first+((K*K:Nat):Int)<=(s.length:Int))(hl:s.length<=1000)(hA:zfx da)(hB:zfx db){x}(hp:zuh K x){i}(hi:i<x.length):rowH s (ziv (zA da) (zA db) c x i)=zuQ (ztL (ztL s da) db) c (vtx x i) (vtx x ((i+1)%x.length)):=by
 have b:=(zlA hp hi).1;have a:=(zlA hp (vQ (i+1) (show 0<x.length by omega))).1;rw[ziw hs h0 hf b a];unfold rowH ziv;rw[zoc hs h6 h0 (by omega) hp hi];have e:=zcL hA (c.first+(vtx x i*K+vtx x ((i+1)%x.length)));have d:=zcL hB (c.first+(vtx x i*K+vtx x ((i+1)%x.length)));grind[sumP,zcu,zjF]
theorem zmE (hk:c.kind=1)(hs:c.size=(K:Int))(h6:K<=6)(h0:0<=c.first)(hf:c.first+((K*K:Nat):Int)<=(box.length:Int))(hg:zws box=U)(hx:zv6 box s=U)(hl:box.length<=1000)(hA:zfx da)(hB:zfx db)(ha:zay c (ztL s da)=U)(hb:zay c (ztL s db)=U):(zhD (zA da) (zA db) box c K).any (λrows=>rows.all (rowH s))=!zay c (ztL (ztL s da) db):=by
 have hxl:=zj5 hx;have hK:c.size.toNat=K:=by omega
 have h36:K*K<=36:=y8 h6 h6;have hfs:c.first+((K*K:Nat):Int)<=(s.length:Int):=by omega
 have hbig:∀a b,a<K->b<K->zuQ (ztL (ztL s da) db) c a b=U->hasP ⟨(K:Int),(xr (K*K)).map λi:Nat=>Z (1<=ztc ((idx box (ztc c.first (i:Int))).getD J).hi (ztc (zA da (ztc c.first (i:Int))) (zA db (ztc c.first (i:Int)))))⟩ a b=true:=by
  intro a b h1 h2 he;have hp:=ziI h1 h2;rw[ziw hs h0 hfs h1 h2]at he;have e1:ztc c.first ((a*K+b:Nat):Int)=c.first+((a*K+b:Nat):Int):=zcu (by omega) (by omega);obtain⟨z,hz⟩:=yX (show 0<=c.first+((a*K+b:Nat):Int)by omega);have hzl:z<box.length:=by omega
  have hin:=zj4 hx z hzl (by omega);have hgz:=yq.1 hg _ (yi hzl);simp only[yd,yg]at hgz;have a1:=zcL hA (z:Int);have b1:=zcL hB (z:Int);unfold hasP;simp only[yv];rw[uF,y6,List.getElem?_range hp];simp only[yS,ym,e1];rw[hz,yv]at he;rw[hz,zb hzl,ym,zcu (x:=zA da (z:Int)) (by omega) (by omega),zcu (by omega) (by omega)];grind
 have hrows:∀x,zuh K x->(((xr x.length).map (ziv (zA da) (zA db) c x)).all (rowH s)=U↔zwl (zuQ (ztL (ztL s da) db) c) x):=λx hp=>by
  rw[List.all_map,yq];unfold zwl;constructor
  ·intro h i hi;have:=h i (ub.2 hi);rwa[Function.comp_apply,zog hs h6 h0 hfs (by omega) hA hB hp hi]at this
  ·intro h i hi;rw[Function.comp_apply,zog hs h6 h0 hfs (by omega) hA hB hp (ub.1 hi)];exact h i (ub.1 hi)
 have hup:∀(d e:List Change)x,x∈cycP (zuQ (ztL (ztL s da) db) c) K->zay c (ztL s e)=U->(∀z,zA da z+zA db z=zA d z+zA e z)->(xr x.length).any (λi=>Z (0<zA d (zcG c x i)))=true:=by
  intro d e x hxc hh hsum;have hp:=zjV hxc;refine xV λhno=>?_;simp only[yT,List.any_eq_false,ub,yg]at hno;have hin:zwl (zuQ (ztL s e) c) x:=λi hi=>by have v1:=(zlA hp hi).1;have w1:=(zlA hp (vQ (i+1) (show 0<x.length by omega))).1;have h1:=zpL hxc i hi;have h2:=hno i hi;rw[zoc hs h6 h0 (by omega) hp hi]at h2;rw[ziw hs h0 hfs v1 w1]at h1;rw[zmI hs h0 hfs v1 w1];have h3:=hsum (c.first+((vtx x i*K+vtx x ((i+1)%x.length):Nat):Int));simp only[yg]at h1|-;omega
  unfold zay at hh;rw[if_pos hk,hK]at hh;exact zmA.1 hh x (zjW hxc hin)
 have hab:zay c (ztL (ztL s da) db)=zwd (zuQ (ztL (ztL s da) db) c) K:=by unfold zay;rw[if_pos hk,hK]
 rw[hab,wb,yB,<-yT,zmA,uw];constructor
 ·rintro⟨rows,hr,hall⟩hno;obtain⟨x,hx1,hx2⟩:=ue.1 hr;have hp:=zjV hx1;unfold zdI at hx2;split at hx2;·simp only[yL]at hx2;subst hx2;exact hno x (zjW hx1 ((hrows x hp).1 hall))
  ·simp at hx2
 ·intro hex;obtain⟨x,hxc⟩:∃x,x∈cycP (zuQ (ztL (ztL s da) db) c) K:=xV λh=>hex λx hx=>h ⟨x,hx⟩;have hp:=zjV hxc;have hin:=zpL hxc;refine⟨_,ue.2 ⟨x,zjW hxc (hin.mono hp hbig),?_⟩,(hrows x hp).2 hin⟩;unfold zdI;rw[if_pos];·exact yL.2 rfl
  ·rw[hup da db x hxc hb λ_=>rfl,hup db da x hxc ha λz=>Int.add_comm _ _];rfl
theorem zmV {x}(h1:-1000000000000000000<=x)(h2:x<=1000000000000000000):ztU x=-x:=by grind[ztU,zaf]
theorem zqF {K}:∀{l},(∀t∈l,zf4 K t)->sumP s (l.map λt=>⟨t.cell,ztU t.ztl⟩)=-sumP s l|[],_=>rfl|t::l,h=>by obtain⟨-,-,b,c⟩:=h t (by simp);simp only[yW,sumP];rw[zqF λu a=>h u (by simp[a]),zmV (by omega) (by omega),Int.neg_mul];omega
theorem zoE {K r x}(ht:∀t∈r.ztf,zf4 K t)(hb:-1000000000<=r.bound/\r.bound<=1000000000)(hx:-1000000000000000000<=x/\x<=1000000000000000000):rowH s (zkm r x)=!decide (sumP s r.ztf+x<=r.bound):=by
 unfold rowH zkm;rw[zqF ht,zmV (by omega) (by omega),zcu (by omega) (by omega),zjF (by omega) (by omega),wb];grind
end
theorem zj2 {x y B}:gmax x y<=B↔x<=B/\y<=B:=⟨λh=>by have:=zlU x y;omega,λh=>zlV h.1 h.2⟩
def relQ (q:Question)(i:Int):Bool:=q.target.hold||q.target.index !=i
def zjN (m:Model)(q:Question)(a b:Action)(s:List Int):Bool:=if q.target.hold=U then !zay ⟨0,0,(idx a.effect.hold q.target.index).getD J,0,0⟩ (ztL s b.effect.delta)else !zay ((idx m.constraints q.target.index).getD J) (ztL (ztL s a.effect.delta) b.effect.delta)
def znk (m:Model)(q:Question)(rows:List Int)(a b:Action)(s:List Int):Bool:=zxm m a.effect s&&zxm m b.effect s&&(rows.all (λi=>!(relQ q i&&!zay ((idx m.constraints i).getD J) (ztL (ztL s a.effect.delta) b.effect.delta)))&&zjN m q a b s)
structure zui (n:Nat)(m:Model)(q:Question)(a b:Action)(s:List Int):Prop where
 small:ztW m
 valid:zuS m
 quest:zf0 m q=U
 ha:idx m.zte q.e=O a
 hb:idx m.zte q.f=O b
 box:zv6 (boxM m) s=U
 len:(boxM m).length<=100
 fuel:4294967296<=n
section
variable{n:Nat}{m:Model}{q:Question}{rows:List Int}{a b:Action}{s:List Int}
theorem zui.state (h:zui n m q a b s):zxt m s:=zrl h.valid.lay h.box
theorem zui.conIn (h:zui n m q a b s){c}(hc:c∈m.constraints):ConIn c s.length:=by rw[h.state.len];exact zrA h.small h.valid hc
theorem zui.zwG (h:zui n m q a b s){c}(hc:c∈m.constraints):zuO (boxM m).length c:=zrB h.small h.valid hc
theorem zui.dA (h:zui n m q a b s):zfx a.effect.delta/\∀r∈a.effect.hold,zt1 (boxM m).length r=true:=zmz h.valid (zbb h.ha)
theorem zui.dB (h:zui n m q a b s):zfx b.effect.delta/\∀r∈b.effect.hold,zt1 (boxM m).length r=true:=zmz h.valid (zbb h.hb)
theorem zui.oA (h:zui n m q a b s):zuk a:=zk5 h.small (zbb h.ha)
theorem zui.oB (h:zui n m q a b s):zuk b:=zk5 h.small (zbb h.hb)
theorem zui.sA (h:zui n m q a b s):zum a:=zjD h.fuel h.small h.valid (zbb h.ha)
theorem zui.sB (h:zui n m q a b s):zum b:=zjD h.fuel h.small h.valid (zbb h.hb)
theorem zui.same (h:zui n m q a b s)(he:(q.e !=q.f)=M):a=b:=by
 have e:q.e=q.f:=by grind
 have c:=h.ha;rw[e,h.hb]at c;grind
theorem zui.row (h:zui n m q a b s){c}(hc:c∈m.constraints)(hk:c.kind=0):(∀t∈c.row.ztf,zf4 s.length t)/\c.row.ztf.length<=1000/\(-1000000000<=c.row.bound/\c.row.bound<=1000000000)/\chgN n a c.row=chgP a.effect.delta c.row.ztf/\chgN n b c.row=chgP b.effect.delta c.row.ztf/\(-1000000000000000<=chgN n a c.row/\chgN n a c.row<=1000000000000000)/\-1000000000000000<=chgN n b c.row/\chgN n b c.row<=1000000000000000:=by
 have f:1000000<=n:=by have:=h.fuel;omega
 have g:=zpI h.valid hc hk;have i:-1000000000<=c.row.bound/\c.row.bound<=1000000000:=by simp only[zt1,zaV,yd,yg]at g;omega
 have d:=(h.zwG hc).len;have ht:=by cases h.conIn hc with|row _ ht _ _=>exact ht|graph _ hk1=>omega
 have e:=λt h=>(ht t h).2.2;exact⟨ht,d,i,znJ h.oA h.dA.1 e d f,znJ h.oB h.dB.1 e d f,znI h.oA h.dA.1 e d f,znI h.oB h.dB.1 e d f⟩
theorem zes {c}(hk:c.kind=0)(x):zay c x=Z (sumP x c.row.ztf<=c.row.bound):=by unfold zay;grind
theorem zqu (h:zui n m q a b s):(zu5 n m q rows a b).all (rowH s)=U↔∀i(hi:i<m.constraints.length),m.constraints[i].kind=0->((zay m.constraints[i] s=U/\zay m.constraints[i] (ztL s a.effect.delta)=U)/\zay m.constraints[i] (ztL s b.effect.delta)=U)/\((i:Int)∈rows->relQ q (i:Int)=U->zay m.constraints[i] (ztL (ztL s a.effect.delta) b.effect.delta)=U):=by
 unfold zu5;rw[List.all_flatMap,yq];have key:∀i(hi:i<m.constraints.length),(rowS n q rows a b i (m.constraints.getD i J)).all (rowH s)=U↔m.constraints[i].kind=0->((zay m.constraints[i] s=U/\zay m.constraints[i] (ztL s a.effect.delta)=U)/\zay m.constraints[i] (ztL s b.effect.delta)=U)/\((i:Int)∈rows->relQ q (i:Int)=U->zay m.constraints[i] (ztL (ztL s a.effect.delta) b.effect.delta)=U):=λi hi=>by
  have e:m.constraints.getD i J=m.constraints[i]:=by grind[vo]
  rw[e];unfold rowS;by_cases hk:m.constraints[i].kind=0
  ·obtain⟨ht,hlen,hbd,ea,eb,ba,bb⟩:=h.row (yi hi) hk;rw[if_neg (by simp[hk]),zes hk,zes hk,zes hk,zes hk];have e1:=zfW (s:=s) (d:=a.effect.delta) ht;have e2:=zfW (s:=s) (d:=b.effect.delta) ht;have e3:=zfW (s:=ztL s a.effect.delta) (d:=b.effect.delta) (l:=m.constraints[i].row.ztf) (by grind[zjy]);rw[e3,e1,e2];rw[<-ea,<-eb];have hs:ztc (chgN n a m.constraints[i].row) (chgN n b m.constraints[i].row)=chgN n a m.constraints[i].row+chgN n b m.constraints[i].row:=zcu (by omega) (by omega);obtain⟨k1,-,k3⟩:=zq3 (q:=q) (rows:=rows) (less:=rows) (i:=i) ba bb id;simp only[um,wy,ug,rowH];rw[zjF (by omega) (by omega)];simp only[yg,hk,true_imp_iff];have hle:sumP s m.constraints[i].row.ztf<=m.constraints[i].row.bound-kS n q rows a b i m.constraints[i]↔kS n q rows a b i m.constraints[i]<=m.constraints[i].row.bound-sumP s m.constraints[i].row.ztf:=by omega
   rw[hle];unfold kS;rw[hs];by_cases hr:(i:Int)∈rows/\relQ q (i:Int)=U;·obtain⟨r1,r2⟩:=hr;have r2':=r2;unfold relQ at r2';simp only[r1,r2',decide_true,uN,if_true,zj2,true_imp_iff,r2];omega
   ·have:(Z ((i:Int)∈rows)&&(q.target.hold||q.target.index !=(i:Int)))=false:=by rw[Bool.eq_false_iff];intro hh;rw[yd,yg]at hh;exact hr hh
    rw[this];simp only[ye,if_false,zj2];constructor;·intro h;exact⟨by omega,λh1 h2=>absurd ⟨h1,h2⟩ hr⟩
    ·intro h;omega
  ·rw[if_pos (by simpa using hk)];simp[hk]
 simp_all
theorem zui.lenP (h:zui n m q a b s):s.length=(boxM m).length:=h.state.len
theorem zks (h:zui n m q a b s){x}(hx:x∈m.zte){c}(hc:c∈m.constraints)(hk:c.kind=1)(hno:¬0<(((zD n x c).getD []).length:Int))(hs:zay c s=U):zay c (ztL s x.effect.delta)=true:=by
 have w:=h.fuel;have y:=h.len;obtain⟨k,f,z⟩:=(h.zwG hc).mul hk;have g:=(zk5 h.small hx).delta;rw[zdi f (by omega) (by omega) (by omega) (by omega),ym]at hno;obtain⟨d,l,e,r,o,t⟩:=(h.zwG hc).sz hk;have u:k=d*d:=by grind[zgM]
 refine znQ hk ⟨l,e,r,o,by rw[h.lenP];exact t,by rw[h.lenP];omega⟩ (λj v=>?_) hs;have:=zln (p:=zec x.effect.delta c) (k:=k) (i:=0) (by omega) j (by omega) (by omega);grind[zec,zcu]
theorem znR (h:zui n m q a b s):(zc4 n m q a b).all (zg0 s)=U↔∀i(hi:i<m.constraints.length),m.constraints[i].kind=1->(zay m.constraints[i] s=U/\zay m.constraints[i] (ztL s a.effect.delta)=U)/\zay m.constraints[i] (ztL s b.effect.delta)=true:=by
 have hn:1000000<=n:=by have:=h.fuel;omega
 have hL:=h.len;unfold zc4;rw[List.all_flatMap,yq];have key:∀i(hi:i<m.constraints.length),(gS n (q.e !=q.f) a b (m.constraints.getD i J)).all (zg0 s)=U↔m.constraints[i].kind=1->(zay m.constraints[i] s=U/\zay m.constraints[i] (ztL s a.effect.delta)=U)/\zay m.constraints[i] (ztL s b.effect.delta)=U:=λi hi=>by
  have e:m.constraints.getD i J=m.constraints[i]:=by grind
  rw[e];have hc:=yi hi;unfold gS;by_cases hk:m.constraints[i].kind=1
  ·rw[if_neg (by simp[hk]),show(zD n b m.constraints[i]).getD J=(zD n b m.constraints[i]).getD []from rfl];have hco:=h.zwG hc;have g2:zg0 s (gr n m.constraints[i] λq0=>zaW n q0)=zay m.constraints[i] s:=zlY (fP:=λ_=>0) hco hk h.lenP (by omega) (λ_=>rfl) (λ_=>by omega) (λi _ _=>by omega) hn;have g3:zg0 s (gr n m.constraints[i] λq0=>zQ n q0 a)=zay m.constraints[i] (ztL s a.effect.delta):=zlY (fP:=zA a.effect.delta) hco hk h.lenP (by omega) (λz=>by unfold zQ;rw[h.sA.added hn];rfl) (λz=>by have:=zcL h.dA.1 z;omega) (λi h0 h1=>zgN h0 (by rw[h.lenP];exact h1)) hn;have g4:zg0 s (gr n m.constraints[i] λq0=>zag n q0 b)=zay m.constraints[i] (ztL s b.effect.delta):=zlY (fP:=zA b.effect.delta) hco hk h.lenP (by omega) (λz=>by unfold zag;rw[h.sB.added hn];rfl) (λz=>by have:=zcL h.dB.1 z;omega) (λi h0 h1=>zgN h0 (by rw[h.lenP];exact h1)) hn;have k3:=λhno=>zks h (zbb h.ha) hc hk hno;have k4:=λhno=>zks h (zbb h.hb) hc hk hno;rw[uT,uT];simp only[um,wy,ug,g2,hk,true_imp_iff];by_cases h3:0<(((zD n a m.constraints[i]).getD []).length:Int);·rw[if_pos (by simpa using h3)];simp only[um,wy,ug,g3];cases hef:q.e !=q.f with
    |false=>have hab:=h.same hef;subst hab;simp only[uf,ye,if_false,wy,ug,yd];exact⟨λh=>⟨h,h.2⟩,λh=>h.1⟩|true=>
     by_cases h4:0<(((zD n b m.constraints[i]).getD []).length:Int);·rw[if_pos (by simpa using h4)];simp only[um,wy,ug,g4,yd,and_assoc]
     ·rw[if_neg (by simpa using h4)];simp only[wy,ug,yd];exact⟨λh=>⟨h,k4 h4 h.1⟩,λh=>h.1⟩
   ·rw[if_neg (by simpa using h3)];simp only[wy,yC];cases hef:q.e !=q.f with
    |false=>have hab:=h.same hef;subst hab;simp only[uf,ye,if_false,wy,ug];exact⟨λh=>⟨⟨h,k3 h3 h⟩,k3 h3 h⟩,λh=>h.1.1⟩|true=>
     by_cases h4:0<(((zD n b m.constraints[i]).getD []).length:Int);·rw[if_pos (by simpa using h4)];simp only[um,wy,ug,g4,yd];exact⟨λh=>⟨⟨h.1,k3 h3 h.1⟩,h.2⟩,λh=>⟨h.1.1,h.2⟩⟩
     ·rw[if_neg (by simpa using h4)];simp only[wy,ug];exact⟨λh=>⟨⟨h,k3 h3 h⟩,k4 h4 h⟩,λh=>h.1.1⟩
  grind
 simp_all
theorem zpl (h:zui n m q a b s):(zeP q a b).all (rowH s)=(a.effect.hold.all (λr=>zay ⟨0,0,r,0,0⟩ s)&&b.effect.hold.all λr=>zay ⟨0,0,r,0,0⟩ s):=by
 have e:(λr=>zay ⟨0,0,r,0,0⟩ s)=rowH s:=by funext r;exact zes rfl s
 rw[e];unfold zeP;cases c:q.e !=q.f with
 |false=>
  have d:=h.same c;grind|true=>simp
theorem zpt {xe cs}(h:zui n m q a b s)(hT:Tgt n m q a b (boxM m) xe cs)(hg:∀c∈m.constraints,c.kind=1->zay c (ztL s a.effect.delta)=U/\zay c (ztL s b.effect.delta)=U):(xe.all (rowH s)&&(cs.isEmpty||cs.any λrows=>rows.all (rowH s)))=zjN m q a b s:=by
 have hn:1000000<=n:=by have:=h.fuel;omega
 have hgood:=zhC h.valid.lay;unfold zjN;cases hT with
 |hold r h1 h2=>
  rw[if_pos h1,h2,ym,zes rfl];have hro:=h.dA.2 r (zbb h2);have hlen:=h.oA.ztf r (zbb h2);have hbd:-1000000000<=r.bound/\r.bound<=1000000000:=by simp only[zt1,zaV,yd,yg]at hro;omega
  have ht:∀t∈r.ztf,zf4 (boxM m).length t:=by
   simp only[zt1,yd]at hro;grind[ziL]
  have hf:∀t∈r.ztf,-1000<=t.ztl/\t.ztl<=1000:=λt h=>(ht t h).2.2;have hb:=znI h.oB h.dB.1 hf hlen hn;simp only[um,wy,ug,List.isEmpty_nil,uy];rw[zoE ht hbd (by omega),znJ h.oB h.dB.1 hf hlen hn,zfW (by rw[h.lenP];exact ht)]|row c h1 h2 hk=>rw[if_neg (by simp[h1]),h2,ym,zes hk];obtain⟨ht,hlen,hbd,ea,eb,ba,bb⟩:=h.row (zbb h2) hk;simp only[um,wy,ug,List.isEmpty_nil,uy];rw[zcu (by omega) (by omega),zoE ht hbd (by omega),zfW (by grind[zjy]),zfW ht,ea,eb,Int.add_assoc]|none c k h1 h2 hk hz he=>
  rw[if_neg (by simp[h1]),h2,ym];obtain⟨size,z1,z2,z3,z4,z5⟩:=(h.zwG (zbb h2)).sz hk;have hks:k=size:=by omega
  subst hks;obtain⟨ga,gb⟩:=hg c (zbb h2) hk;rw[<-zmE hk z1 z3 z4 z5 hgood h.box (by have:=h.len;omega) h.dA.1 h.dB.1 ga gb,he];rfl|graph c k h1 h2 hk hz he=>
  rw[if_neg (by simp[h1]),h2,ym];obtain⟨size,z1,z2,z3,z4,z5⟩:=(h.zwG (zbb h2)).sz hk;have hks:k=size:=by omega
  subst hks;obtain⟨ga,gb⟩:=hg c (zbb h2) hk;rw[<-zmE hk z1 z3 z4 z5 hgood h.box (by have:=h.len;omega) h.dA.1 h.dB.1 ga gb];grind
theorem zp9 {xe cs}(h:zui n m q a b s)(hT:Tgt n m q a b (boxM m) xe cs)(hrows:∀i∈rows,∃(k:Nat)(hk:k<m.constraints.length),i=(k:Int)/\m.constraints[k].kind=0):((zu5 n m q rows a b++(zeP q a b++xe)).all (rowH s)&&(zc4 n m q a b).all (zg0 s)&&(cs.isEmpty||cs.any λrows=>rows.all (rowH s)))=znk m q rows a b s:=by
 rw[uT,uT,zpl h];have h1:=zqu (rows:=rows) h;have h2:=znR h;have kinds:∀c∈m.constraints,c.kind=0\/c.kind=1:=λc hc=>(h.zwG hc).kind;have base:((zu5 n m q rows a b).all (rowH s)=U/\a.effect.hold.all (λr=>zay ⟨0,0,r,0,0⟩ s)=U/\b.effect.hold.all (λr=>zay ⟨0,0,r,0,0⟩ s)=U)/\(zc4 n m q a b).all (zg0 s)=U↔(zxm m a.effect s=U/\zxm m b.effect s=U)/\rows.all (λi=>!(relQ q i&&!zay ((idx m.constraints i).getD J) (ztL (ztL s a.effect.delta) b.effect.delta)))=true:=by
  rw[h1,h2];unfold zxm;simp only[yd,yq];constructor
  ·rintro⟨⟨r1,r2,r3⟩,g1⟩;have hall:∀c∈m.constraints,(zay c s=U/\zay c (ztL s a.effect.delta)=U)/\zay c (ztL s b.effect.delta)=true:=λc hc=>by
    obtain⟨i,hi,rfl⟩:=List.getElem_of_mem hc;rcases kinds _ hc with hk|hk;·exact(r1 i hi hk).1
    ·exact g1 i hi hk
   refine⟨⟨⟨λc hc=>(hall c hc).1,r2⟩,λc hc=>⟨(hall c hc).1.1,(hall c hc).2⟩,r3⟩,λi hi=>?_⟩;obtain⟨k,hk,rfl,hk0⟩:=hrows i hi;rw[zb hk,ym];cases hr:relQ q (k:Int)with
   |false=>rfl|true=>rw[(r1 k hk hk0).2 hi hr];rfl
  ·rintro⟨⟨⟨a1,a2⟩,b1,b2⟩,r1⟩;refine⟨⟨λi hi hk=>⟨⟨a1 _ (yi hi),(b1 _ (yi hi)).2⟩,λhm hr=>?_⟩,a2,b2⟩,λi hi hk=>⟨a1 _ (yi hi),(b1 _ (yi hi)).2⟩⟩;have:=r1 _ hm;rw[zb hi,ym,hr]at this;simpa using this
 rw[wb];unfold znk;have tgt:((zu5 n m q rows a b).all (rowH s)=U/\a.effect.hold.all (λr=>zay ⟨0,0,r,0,0⟩ s)=U/\b.effect.hold.all (λr=>zay ⟨0,0,r,0,0⟩ s)=U)/\(zc4 n m q a b).all (zg0 s)=U->((xe.all (rowH s)&&(cs.isEmpty||cs.any λrows=>rows.all (rowH s)))=U↔zjN m q a b s=U):=λhb=>by rw[zpt h hT λc hc hk=>?_];obtain⟨i,hi,rfl⟩:=List.getElem_of_mem hc;have:=h2.1 hb.2 i hi hk;exact⟨this.1.2,this.2⟩
 grind
end
theorem zrU {m}{rows:List Int}(h:(rows.all λx=>!badR m x)=U):∀i∈rows,∃(k:Nat)(hk:k<m.constraints.length),i=(k:Int)/\m.constraints[k].kind=0:=λi b=>by
 have:=yq.1 h i b;unfold badR at this;simp only[yB,ua,yH,Int.not_lt]at this;obtain⟨⟨c,d⟩,a⟩:=this;obtain⟨k,rfl⟩:=yX c;have hk:k<m.constraints.length:=by omega
 rw[zb hk,ym]at a;grind
theorem zoO {K}:∀{l}{last},-1<=last->rowP K last l=U->l=[]\/(l.length:Int)<=(K:Int)-1-last
 |[],_,_,_=>.inl rfl|t::l,last,a,h=>by
  simp only[rowP,yd,yg]at h;rcases zoO (by omega) h.2 with e|e;·grind
  grind
theorem zoN {L}{r}(hL:L<=100)(h:zt1 L r=U):RwOK L r:=by
 have b:r.ztf.length<=100:=by
  have a:=h;simp only[zt1,yd]at a;rcases zoO (by omega) a.1 with e|e;·simp[e]
  ·omega
 have d:=zpO (n:=1000000) (K:=L) (r:=r) (by omega) (yo _);have c:=zoo (n:=1000000) (k:=L) (r:=r) (by omega) (yo _);exact⟨by grind,by omega⟩
theorem zpW {L}{g}(hL:L<=100)(h:zeN L g=U):∃K,GrOK L g K:=by
 simp only[zeN,zi5,yd,yB,ua,yH,bne_eq_false_iff_eq,List.any_eq_false]at h;obtain⟨⟨⟨⟨⟨l,k⟩,m⟩,f⟩,c⟩,i⟩:=h;obtain⟨K,d⟩:∃K:Nat,g.size=K:=⟨g.size.toNat,by omega⟩;have a:K<=6:=by omega
 have j:=y8 a a;have e:zto g.size g.size=(K*K:Nat):=by grind[zto,zaf]
 rw[e]at f c;have n:ztn L ((K*K:Nat))=L-K*K:=zaf (by omega) (by omega);refine⟨K,d,by omega,a,by omega,⟨by omega,by omega⟩,λx b=>?_⟩;have:=i x b;simp only[zgf,yF,yg]at this;omega
theorem zs3 {L}{R G cs}(hL:L<=100)(h:sysP L R G cs=U):SysG L G cs/\(∀r∈R,RwOK L r)/\R.length<=1024:=by
 simp only[sysP,yd,yg,yq]at h;obtain⟨⟨⟨⟨b,c⟩,d⟩,e⟩,f,i⟩:=h;refine⟨⟨λg j=>zpW hL (f g j),d,λl k=>?_,e,by omega⟩,λr a=>zoN hL (c r a),b⟩;have:=i l k;simp only[zwo]at this;grind[zoN]
structure SysD (n:Nat)(m:Model)(q:Question)(rows:List Int)(a b:Action)(S:System):Prop where
 valid:zuS m
 quest:zf0 m q=U
 ha:idx m.zte q.e=O a
 hb:idx m.zte q.f=O b
 bad:(rows.all λx=>!badR m x)=U
 len:(boxM m).length<=12
 box:S.box=boxM m
 tgt:∃xe,Tgt n m q a b (boxM m) xe S.cases/\S.rows=zu5 n m q rows a b++(zeP q a b++xe)zti:S.zti=zc4 n m q a b
 ok:SysOK S.rows S.zti S.cases
 sys:sysP (boxM m).length S.rows S.zti S.cases=U
theorem znC {n m q rows}(hF:Fuel n)(hf:fewP m=U)(hrl:rows.length<=50):zf n m q rows=zp n m q rows/\((∃e,zf n m q rows=O (⟨[],[],[],[]⟩,e)/\(e=1\/e=2\/e=8))\/∃a b S,SysD n m q rows a b S/\zf n m q rows=O (S,0)):=by
 have hn:=hF.big;have hn1:1000000<=n:=by omega
 have hS:=zlc hf;by_cases hvq:(zfz m&&zf0 m q)=U;case neg=>
  simp only[yT]at hvq;have h1:zf n m q rows=O (⟨[],[],[],[]⟩,1):=by
   unfold zf;rw[zfy hF hS,hvq,ya,if_pos (by simp)]
  have h2:zp n m q rows=O (⟨[],[],[],[]⟩,1):=by
   unfold zp;rw[zg7 hn hS,hvq,ya,if_pos (by simp)]
  grind
 simp only[yd]at hvq;have hV:=zfA.1 hvq.1;obtain⟨q1,q2,q3,q4,q5⟩:=zkr hvq.2;obtain⟨a,ha⟩:=za8 q1.1 q1.2;obtain⟨b,hb⟩:=za8 q2.1 q2.2;have hA:=zk5 hS (zbb ha);have hB:=zk5 hS (zbb hb);have sA:=zjD hn hS hV (zbb ha);have sB:=zjD hn hS hV (zbb hb);have hC:∀c∈m.constraints,zuO (boxM m).length c:=λc hc=>zrB hS hV hc;have hfp:=hf;simp only[fewP,zdD,hV.lay,if_true,yd,yg]at hfp;have hK:(boxM m).length<=12:=hfp.2.2.1;have hgood:=zhC hV.lay;have hcl:=hS.constraints;have hct:∀c∈m.constraints,c.row.ztf.length<=1000:=λc hc=>(hC c hc).len;have hshort:=zn5 (n:=n) (q:=q) (rows:=rows) (a:=a) (b:=b) hcl hct;have e1:=zlD (rows:=rows) hF hS hV hvq.2 ha hb hA hB hC (by omega);have e2:=zkU (rows:=rows) hF hS hV hvq.2 ha hb hA hB hC sA sB (by omega);by_cases hbad:(rows.all λx=>!badR m x)=U;case neg=>grind
 rw[if_pos hbad]at e1 e2;constructor
 ·obtain⟨X,G,cs,hX,hG,hcs,htail⟩:=zrn (n:=n) (m:=m) (q:=q) (box:=boxM m) hA hB hC (by omega) (by omega) sA sB (λh=>⟨q3,q4 h a ha⟩) (λh=>⟨q3,(q5 h).2⟩) hn1;grind[zoW,zeG,zg9]
 ·obtain⟨xe,cs,hT,hX,hG,hcs,htail⟩:=zro (n:=n) (m:=m) (q:=q) (box:=boxM m) hA hB hC sA sB (by omega) (by omega) (λh=>⟨q3,q4 h a ha⟩) (λh=>⟨q3,(q5 h).2⟩) hn1;have hso:=zoW hshort hX hG hcs;rw[e1,htail _ (by grind),zeG hgood (by omega) hso hn1];cases hP:sysP (boxM m).length (zu5 n m q rows a b++(zeP q a b++xe)) (zc4 n m q a b) cs with|false=>exact .inl ⟨8,by simp[endS],.inr (.inr rfl)⟩|true=>exact .inr ⟨a,b,⟨boxM m,zu5 n m q rows a b++(zeP q a b++xe),zc4 n m q a b,cs⟩,⟨hV,hvq.2,ha,hb,hbad,hK,rfl,⟨xe,hT,rfl⟩,rfl,hso,hP⟩,by simp[endS]⟩
theorem SysD.g {n m q rows a b S}(h:SysD n m q rows a b S):SysG (boxM m).length S.zti S.cases/\(∀r∈S.rows,RwOK (boxM m).length r)/\S.rows.length<=1024:=zs3 (by have:=h.len;omega) h.sys
theorem SysD.valid1 {n m q rows a b S}(h:SysD n m q rows a b S)(hn:1000000<=n):zal n S=O U/\z9 n S=O true:=by
 have c:=zhC h.valid.lay;have j:=h.len;obtain⟨f,R,G,g⟩:=S;have i:=h.box;have d:=h.ok;have e:=h.sys;grind[zeG,zg9]
theorem SysD.pi {n m q rows a b S}(h:SysD n m q rows a b S):PI 0 (boxM m).length 0 [] S.box:=by
 have c:=zhC h.valid.lay;have f:=h.len;rw[h.box];have e:∀r∈boxM m,r.lo<=r.hi/\-9999<=r.lo/\r.hi<=9999:=λr d=>by
  have:=yq.1 c r d;grind
 exact⟨zpC (λr d=>by grind) (by omega),rfl,λr d=>(e r d).1,yj _,yj _⟩
theorem SysD.void {n m q rows a b S}(h:SysD n m q rows a b S)(hn:4294967296<=n)(hS:ztW m)(h0:(boxM m).length=0):∃r∈S.rows,zvE r=true:=by
 have hbox:boxM m=[]:=List.length_eq_zero_iff.1 h0;obtain⟨hg,hr,-⟩:=h.g;have hsc:zui n m q a b []:=⟨hS,h.valid,h.quest,h.ha,h.hb,by rw[hbox];rfl,by omega,hn⟩;obtain⟨xe,hT,hrows⟩:=h.tgt;have hmeans:=zp9 (rows:=rows) hsc hT (zrU h.bad);have hshow:znk m q rows a b []=false:=by
  have hp:∀d,ztL [] d=[]:=λd=>List.length_eq_zero_iff.1 (by rw[zjy];rfl);cases hh:znk m q rows a b []with|false=>rfl|true=>
   exfalso;simp only[znk,yd,zxm,yq]at hh;obtain⟨⟨⟨p1,p2⟩,-⟩,-,hb⟩:=hh;obtain⟨q1,q2,q3,q4,q5⟩:=zkr h.quest;unfold zjN at hb;simp only[hp]at hb;split at hb<;>rename_i ht
   ·obtain⟨r,hr⟩:=za8 q3 (q4 ht a h.ha);grind[zbb]
   ·obtain⟨c,hc⟩:=za8 q3 (q5 (by grind)).2;grind[zbb]
 by_cases hv:∃r∈S.rows,zvE r=U;·exact hv
 exfalso;have hrow:∀r∈S.rows,rowH [] r=true:=λr hr'=>by
  have ht:r.ztf=[]:=by cases hterms:r.ztf with
   |nil=>rfl|cons t l=>
    have:=(hr r hr').cells t (by rw[hterms];simp);omega
  have:¬zvE r=true:=λe=>hv ⟨r,hr',e⟩;simp only[zvE,ht,List.isEmpty_nil,yC,yg]at this;simp only[rowH,ht,yg];show(0:Int)<=r.bound;omega
 have hnog:∀g∈S.zti,False:=λg hgm=>by
  obtain⟨K,hK⟩:=hg.gr g hgm;have h1:=hK.fst;have h2:=hK.pos;have h3:1*1<=K*K:=y8 h2 h2;omega
 have hcs:S.cases.isEmpty=true:=by
  generalize S.cases=cs at hT;cases hT with
  |hold r h1 h2=>rfl|row c h1 h2 hk=>rfl|none c k h1 h2 hk hz he=>rfl|graph c k h1 h2 hk hz he=>
   obtain⟨size,z1,z2,z3,z4,z5⟩:=(hsc.zwG (zbb h2)).sz hk;have h3:1*1<=size*size:=y8 z2 z2;omega
 rw[hshow,<-hrows,<-h.zti]at hmeans;grind
def zw3 (d:Nat)(y:NR):ztM:=if y.k=2 then⟨2,[],zua,(d:Int)⟩else if y.k=0 then⟨0,y.v,zua,(y.c:Int)⟩else⟨1,[],y.t,(y.c:Int)⟩
def zut (S:System)(d:Nat):NR:=zuc S.zti S.cases (d+1) U S.rows S.box d
theorem zo7 {n m q rows a b S}{d:Nat}(h:SysD n m q rows a b S)(hn:4294967296<=n)(hS:ztW m)(hd:d<=65536)(hc:zf n m q rows=O (S,0)):zbM n m q (d:Int) rows=O (zw3 d (zut S d),0):=by
 obtain⟨hg,hr,hrl⟩:=h.g;have hpi:=h.pi;have hbl:S.box.length=(boxM m).length:=hpi.len;have hlen:=h.len;obtain⟨w,e,hw⟩:=zfb hg (d+1) n d ⟨S,S.rows,(d:Int),0⟩ S.box (-1) (by omega) (by omega) rfl (by grind) (by grind) (by grind) hr (by grind) (λ_=>rfl) (λh0=>h.void hn hS h0) hpi;rw[show Z ((-1:Int)<0)=U from rfl]at hw;have hsh:=zho (G:=S.zti) (cs:=S.cases) (f:=d+1) (root:=U) (R:=S.rows) (b:=S.box) (d:=d);have hrange:(Z ((d:Int)<0)||decide (65536<(d:Int)))=false:=by grind
 have hfind:zfU n S (d:Int)=O (if(zut S d).k=2 then⟨2,0,[],zua,(d:Int)⟩else if(zut S d).k=0 then⟨0,(w.getD J).1.index,(zut S d).v,zua,((zut S d).c:Int)⟩else⟨1,0,[],(zut S d).t,((zut S d).c:Int)⟩,0):=by
  unfold zfU;rw[(h.valid1 (by omega)).1,ya,if_neg (by simp),hrange,if_neg (by simp),zl (by grind),ya,yP,e,ya];change OutW _ _ _ _ (zut S d) w at hw;change((zut S d).k=0->(zut S d).t=zua)/\((zut S d).k≠0->(zut S d).v=[])at hsh;generalize zut S d=xe at*;rcases hw with⟨h2,rfl⟩|⟨h2,hsol,ix,rows',rfl,-⟩;·rw[if_pos h2];rfl
  ·rw[if_neg h2];simp only[ppk];by_cases h0:xe.k=0;·obtain⟨hv1,hv2⟩:=hsol h0;rw[if_pos h0];rw[if_pos (by cases hv:xe.v with|nil=>exact absurd hv hv2|cons x l=>rfl)];simp[zua]
   grind
 unfold zbM;rw[hc,ya];simp only[show((0:Int)==1)=M from rfl,show((0:Int)==2)=M from rfl,show((0:Int)!=0)=M from rfl,hrange,Bool.or_self,ye,if_false,hfind,ya];unfold zw3;generalize zut S d=xe;by_cases h2:xe.k=2;·simp only[if_pos h2];rfl
 ·by_cases h0:xe.k=0
  ·simp only[if_neg h2,if_pos h0];rfl
  ·simp only[if_neg h2,if_neg h0];rfl
theorem znY {n m q rows a b S}{d:Nat}(h:SysD n m q rows a b S)(hn:4294967296<=n)(hd:d<=65536)(hc:zp n m q rows=O (S,0)):zcU n m q (d:Int) rows=O (zw3 d (zut S d),0):=by
 obtain⟨o,j,l⟩:=h.g;have f:=zfR o (d+1) n d U S.rows S.box (by omega) (by omega) hd j (by grind) h.pi;have c:zdl n d=O true:=by unfold zdl;simp;omega
 have e:zgQ n S d=O (if(zut S d).k=2 then⟨2,0,[],zua,d⟩else zuP (zut S d),0):=by
  unfold zgQ;rw[(h.valid1 (by omega)).2,ya,if_neg (by simp),c,ya,if_neg (by simp),f,ya];change(if((zuP (zut S d)).kind==2)=U then _ else O (zuP (zut S d),0))=_;generalize zut S d=xe;by_cases g:xe.k=2;·rw[if_pos g,ans_2 g];rfl
  ·grind[ans_0,ans_1]
 unfold zcU;rw[hc,ya];simp only[c,e];unfold zw3;generalize zut S d=xe;by_cases g:xe.k=2
 ·simp only[if_pos g];rfl
 ·by_cases i:xe.k=0
  ·simp only[if_neg g,if_pos i,ans_0 i];rfl
  ·simp only[if_neg g,if_neg i,ans_1 g i];rfl
def zfh:Nat->Tree->Prop|0,_=>False|f+1,t=>t.steps.length<=65536/\t.kids.length<=1024/\∀k∈t.kids,zfh f k
theorem ziC {α}{self}{tr ix d}{P:Tree->Prop}:∀{i}{l:List α}{kids}{c},(∀x∈l,∀d',d'<=d->(self x d').k≠2->(self x d').k≠0->P (self x d').t)->(∀t∈kids,P t)->(zun self tr ix d i l kids c).k≠2->(zun self tr ix d i l kids c).k≠0->∃ks,(zun self tr ix d i l kids c).t=tr ks/\(∀t∈ks,P t)/\ks.length=kids.length+l.length
 |_,[],kids,_,_,e,_,_=>⟨kids,rfl,e,by simp⟩|i,x::l,kids,c,g,e,a,b=>by
  unfold zun at a b|-;split at a<;>rename_i j;·exact absurd rfl a
  ·rw[if_neg j]at b|-;split at a<;>rename_i f;·grind
   ·rw[if_neg f]at b|-;obtain⟨ks,p,n,o⟩:=ziC (i:=i+1) (λy h=>g y (by simp[h])) (λt m=>by grind) a b;grind
theorem ziH {G cs}(hcl:cs.length<=1024):∀{f}{root R b d},d<=65536->(zuc G cs f root R b d).k≠2->(zuc G cs f root R b d).k≠0->zfh f (zuc G cs f root R b d).t
 |0,_,_,_,_,_,h,_=>absurd rfl h|f+1,root,R,b,d,hd,h,h0=>by
  unfold zuc at h h0|-;split at h<;>rename_i hd0;·exact absurd rfl h
  ·rw[if_neg hd0]at h0|-;dsimp only at h h0|-;have hle:=zkB (bud:=d-1) (R:=R) (G:=G) (f:=d) (st:=[]) (b:=b) (by simp);split at h<;>rename_i h2;·exact absurd rfl h
   ·rw[if_neg h2]at h0|-;split at h<;>rename_i h1
    ·rw[if_pos h1];exact⟨by grind,by simp,by simp⟩
    ·rw[if_neg h1]at h0|-;split at h<;>rename_i hr
     ·rw[if_pos hr]at h0|-;obtain⟨ks,k1,k2,k3⟩:=ziC (P:=zfh f) (λx _ d' hd'=>ziH hcl (by omega)) (by simp) h h0;rw[k1];exact⟨by grind,by grind,k2⟩
     ·rw[if_neg hr]at h0|-;split at h<;>rename_i hc;·rw[if_pos hc]at h0;exact absurd rfl h0
      ·rw[if_neg hc]at h0|-;obtain⟨ks,k1,k2,k3⟩:=ziC (P:=zfh f) (λx _ d' hd'=>ziH hcl (by omega)) (by simp) h h0;rw[k1];exact⟨by dsimp only;omega,by dsimp only;simp[zuf]at k3;omega,k2⟩
theorem zo8 {n}{l}(hl:l.length<1000000)(hn:1000000<=n):zcb n l l=O true:=by
 unfold zcb;have:=zw (body:=zcb.l1 n l l) (len:=l.length) (st:=λi=>i) (g:=λ_=>O U) (λa i b c=>?_) (λa=>?_) n 0 (yj _) (by omega);·grind
 ·simp only[zcb.l1,zC b,if_true,zb b,ya,decide_true,ul,ye,if_false,zd (i:=i) (by omega),c]
 ·simp[zcb.l1]
theorem zmx:∀{f n}{t},zfh f t->1000000+f<=n->zbl n t t=O U
 |0,_,_,h,_=>h.elim|f+1,n,t,h,k=>by
  obtain⟨n,rfl⟩:∃m,n=m+1:=⟨n-1,by omega⟩;obtain⟨l,e,d⟩:=h;unfold zbl zbl.body;have j:∀x:Int,(x !=x)=false:=λx=>by simp
  simp only[zo8 (n:=n) (show t.steps.length<1000000 by omega) (by omega),grd];have:=zw (body:=zbl.l1 n (zbl n) t t) (len:=t.kids.length) (st:=λi=>i) (g:=λ_=>O U) (λb i a c=>?_) (λb=>?_) n 0 (yj _) (by omega);·grind
  ·simp only[zbl.l1,zC a,if_true,zb a,ya,zmx (n:=n) (d _ (yi a)) (by omega),ul,ye,if_false,zd (i:=i) (by omega),c]
  ·simp[zbl.l1]
theorem zmn {f}:zfh (f+1) zua:=⟨by simp[zua],by simp[zua],by simp[zua]⟩
theorem znB {n}{v}{f}(hv:v.state.length<1000000)(ht:zfh f v.tree)(hn:1000000+f<=n):zfr n v v=O true:=by
 unfold zfr;simp only[zpy (n:=n) hv (by omega),zmx ht hn,yp,ym,yy,grd,if_true,beq_self_eq_true,uN]
theorem znW {L G cs}(hG:SysG L G cs):∀{f}{root R b d},(∀r∈R,RwOK L r)->PI 0 L 0 [] b->(zuc G cs f root R b d).v.length<=L
 |0,_,_,_,_,_,_=>yj _|f+1,root,R,b,d,hR,hb=>by
  have kv:∀{α:Type}{self:α->Nat->NR}{tr ix}{d:Nat}{l:List α}{i:Nat}{kids:List Tree}{c:Nat},(∀x∈l,∀d',(self x d').v.length<=L)->(zun self tr ix d i l kids c).v.length<=L:=by
   intro α self tr ix d l;induction l with
   |nil=>intro i kids c _;exact yj _|cons x l ih=>
    intro i kids c hs;unfold zun;split;·exact yj _
    grind
  unfold zuc;split;·exact yj _
  ·dsimp only;have hL:=hG.le;have hp:=zjC (bud:=d-1) (f:=d) (show L<=1000 by omega) hR hG.gr (zk3 (d:=d-1) hb);generalize runU (d-1) R G d [] b=p at*;split;·exact yj _
   ·split;·grind
    ·rename_i h1;have hI:=hp (by omega);split;·exact kv λx hx d'=>znW hG (λr hr=>(yu.1 hr).elim (hR r) ((hG.ca x hx).2 r)) (zk3 hI)
     ·split;·simp only[yK,hI.len];exact yo _
      ·rename_i hc;exact kv λx hx d'=>znW hG hR (znA hI hc hx)
theorem zph {n m q rows a b S}{d}(h:SysD n m q rows a b S)(hd:d<=65536):zfh (d+1) (zw3 d (zut S d)).tree/\(zw3 d (zut S d)).state.length<=12:=by
 obtain⟨c,g,e⟩:=h.g;have i:=ziH (G:=S.zti) c.cl (f:=d+1) (root:=U) (R:=S.rows) (b:=S.box) hd;have j:=znW c (f:=d+1) (root:=U) (d:=d) g h.pi;have l:=h.len;change(zut S d).k≠2->(zut S d).k≠0->zfh (d+1) (zut S d).t at i;change(zut S d).v.length<=_ at j;unfold zw3;split;·exact⟨zmn,yj _⟩
 ·split;·grind[zmn]
  grind
theorem znx {m}{q}{ztx}{rows}:zdJ 18446744073709551616 m q ztx rows=O true:=by
 unfold zdJ;have hF:=zsV;have hn:=hF.big;have hn1:1000000<=18446744073709551616:=by omega
 rw[zpb,zm3 (by omega)];simp only[ya,ul,ye,if_false];by_cases hfew:(!fewP m||decide (50<(rows.length:Int)))=U;·grind
 rw[if_neg hfew];simp only[yF,yB,yg,not_or,Bool.not_eq_false]at hfew;obtain⟨hf,hrl⟩:=hfew;have hS:=zlc hf;obtain⟨hsame,hres⟩:=znC (q:=q) (rows:=rows) hF hf (by omega);have key:∃v e,zbM 18446744073709551616 m q ztx rows=O (v,e)/\zcU 18446744073709551616 m q ztx rows=O (v,e)/\v.state.length<1000000/\zfh 65537 v.tree:=by
  have h00:zfh 65537 zua:=zmn;rcases hres with⟨e,hc,he⟩|⟨a,b,S,hD,hc⟩
  ·rw[hc]at hsame;unfold zbM zcU zdl;rw[hc,<-hsame];simp only[ya];have e2:(Z (0<=ztx)&&Z (ztx<=65536))=!(Z (ztx<0)||decide (65536<ztx)):=by grind
   rw[e2];cases hbd:Z (ztx<0)||decide (65536<ztx)with
   |true=>
    rcases he with rfl|rfl|rfl;·exact⟨_,_,rfl,rfl,by simp,h00⟩
    ·exact⟨_,_,rfl,rfl,by simp,h00⟩
    ·exact⟨_,_,rfl,rfl,by simp,h00⟩|false=>
    rcases he with rfl|rfl|rfl;·exact⟨_,_,rfl,rfl,by simp,h00⟩
    ·exact⟨_,_,rfl,rfl,by simp,h00⟩
    ·exact⟨_,_,rfl,rfl,by simp,h00⟩
  ·by_cases hb:0<=ztx/\ztx<=65536
   ·obtain⟨d,rfl⟩:=yX hb.1;have hd:d<=65536:=by omega
    obtain⟨t1,t2⟩:=zph hD hd;refine⟨_,_,zo7 hD (by omega) hS hd hc,znY hD (by omega) hd (by rw[<-hsame];exact hc),by omega,?_⟩;have mono:∀(f g:Nat)(t:Tree),f<=g->zfh f t->zfh g t:=by
     intro f;induction f with
     |zero=>intro g t _ h;exact h.elim|succ f ih=>
      intro g t hfg h;obtain⟨g,rfl⟩:∃g',g=g'+1:=⟨g-1,by omega⟩;exact⟨h.1,h.2.1,λk hk=>ih g k (by omega) (h.2.2 k hk)⟩
    exact mono _ _ _ (by omega) t1
   ·have hbd:(Z (ztx<0)||decide (65536<ztx))=true:=by simp;omega
    have e2:(Z (0<=ztx)&&Z (ztx<=65536))=false:=by simp;omega
    rw[hc]at hsame;unfold zbM zcU zdl;rw[hc,<-hsame];simp only[ya,hbd,e2];exact⟨_,_,rfl,rfl,by simp,h00⟩
 obtain⟨v,e,h1,h2,h3,h4⟩:=key;rw[h1,h2];simp only[ya,znB h3 h4 (show 1000000+65537<=18446744073709551616 by omega),beq_self_eq_true,yp,ym,yy,grd,if_true,uN]
theorem closed21:joinedFacts Tryz.pinned.checked.prog 3 Tryz.f3 (vV Rows.pairDecidesSpec).bare Rows.pairDecidesRow=true:=by
 unfold joinedFacts;simp only[yd];repeat' apply And.intro
 all_goals as_aux_lemma=>kernel_rfl
section
open Go.ChangeShapes Go.WideShapes Go.ChangeAt Go.RowKit
theorem own:ownKnob xg.godebug=none:=by kernel_rfl
theorem zr7:laidOutB xg=true:=by kernel_rfl
set_option maxRecDepth 100000 in
theorem zxj (H:Type)(enc:TypeId×Value->H)(W:World)(base:Nat)(args:Array Value)(ds gs:List (DataW H))(before:List MemPlace)(hval:∀(j:Nat)t v,Tryz.f3.params[j]?=O t->args[j]?=O v->Value.okWide xg W .any base t v)(hW:DataW.Whole enc xg Tryz.f3.params.toList Rows.pairDecidesSpec.vars M W args.toList ds gs before)(hL:laidMetH xg Rows.pairDecidesRow.laid W)(hS:W.ShapedOpen xg):Calls xg 3 args W λe W'=>∃v,e=.returned v/\Rows.pairDecidesSpec.post enc xg Tryz.f3 M U M M W args v W':=by
 have hW':=hW;obtain⟨p,q,hA0,hV,rfl,hfz,hnd⟩:=hW;have hA:DataW.TrodAll enc xg W 0 (λ_=>U) U Tryz.f3.params.toList args.toList ds p:=hA0;rw[Tryz.params3]at hA hval;obtain⟨v0,vs0,d0,ds0,p0,q0,hargs,rfl,rfl,h0,r0⟩:=trodAll_cons hA;obtain⟨v1,vs1,d1,ds1,p1,q1,rfl,rfl,rfl,h1,r1⟩:=trodAll_cons r0;obtain⟨v2,vs2,d2,ds2,p2,q2,rfl,rfl,rfl,h2,r2⟩:=trodAll_cons r1;obtain⟨v3,vs3,d3,ds3,p3,q3,rfl,rfl,rfl,h3,r3⟩:=trodAll_cons r2;obtain⟨rfl,rfl,rfl⟩:=trodAll_nil r3;obtain rfl:args=#[v0,v1,v2,v3]:=by cases args;simp_all
 obtain⟨rfl,rfl⟩:=trodVars_none hV;obtain⟨a0,k0⟩:=zsM.zxb (hval 0 _ v0 rfl rfl) h0;obtain⟨a1,k1⟩:=zsO.zxb (hval 1 _ v1 rfl rfl) h1;obtain⟨a2,k2⟩:=dInt.zxb (hval 2 _ v2 rfl rfl) h2;obtain⟨a3,k3⟩:=zxB.zxb (hval 3 _ v3 rfl rfl) h3;have hrun:=(law23_PairDecides_ok _ a0 a1 a2 a3 U znx).run zvo W #[v0,v1,v2,v3] (λ_ h=>h.elim) (zr5 hL hS) (by
  simp only[xv];exact⟨v0,_,rfl,k0,v1,_,rfl,k1,v2,_,rfl,k2,v3,_,rfl,k3,rfl⟩);refine hrun.mono λe W'⟨u,he,hf,hu⟩=>?_;simp only[xC]at hu;subst hu;subst he;refine⟨_,rfl,zqi hW' rfl rfl rfl zr7 (λt ht=>?_) hf λ_ _ _=>trodAll_cons_mk (shut_bool Tryz.underlying4 _) trodAll_mk0⟩;rw[Tryz.params3]at ht;have hall:([30,34,3,22].all λt=>xg.readableRec t&&Z (t<xg.types.size))=true:=by kernel_rfl
 have:=yq.1 hall t (by simpa using ht);simpa using this
theorem reads21 (os:Os){H:Type}(enc:TypeId×Value->H):∃places,DataW.whole enc xg ((World.laidAll xg os Rows.pairDecidesRow.laid).forCall (λ_ _=>0) ⟨#[],#[.agg #[.slice Y 0 0,.slice Y 0 0,.slice Y 0 0,.slice Y 0 0,.slice Y 0 0,.slice Y 0 0,.slice Y 0 0],.agg #[.int .i64 0,.int .i64 0,.bool M,.int .i64 0],.int .i64 0,.slice Y 0 0],[]⟩).memory Tryz.f3.params.toList Rows.pairDecidesSpec.vars M (#[.agg #[.slice Y 0 0,.slice Y 0 0,.slice Y 0 0,.slice Y 0 0,.slice Y 0 0,.slice Y 0 0,.slice Y 0 0],.agg #[.int .i64 0,.int .i64 0,.bool M,.int .i64 0],.int .i64 0,.slice Y 0 0]:Array Value).toList 8=O ([.agg [.nil,.nil,.nil,.nil,.nil,.nil,.nil],.agg [.lit (.int .i64 0),.lit (.int .i64 0),.agg [.lit (.bool M),.lit (.int .i64 0)]],.lit (.int .i64 0),.nil],[],places):=⟨[],by kernel_rfl⟩
set_option maxRecDepth 100000 in
theorem lifted21 (os:Os) (started:os.Started) (H:Type) (enc:TypeId×Value->H) (F:Stop.Interp) :
  ReturnsInHanded {} Tryz.checked os 3 .any ((vV Rows.pairDecidesSpec).preRow enc xg Tryz.f3 Rows.pairDecidesRow.domain M Rows.pairDecidesRow.laid) (((vV Rows.pairDecidesSpec).at F).post enc xg Tryz.f3 M U M M):=by
 obtain ⟨places,hx⟩:=reads21 os enc
 refine returnsInHanded_of_row (C:=Tryz.checked) (s:=vV Rows.pairDecidesSpec) own started (by kernel_rfl) Tryz.func3
  (witness_row_atRef (enc:=enc) (C:=Tryz.checked) M (World.laidAll xg os Rows.pairDecidesRow.laid) _ (World.laidAll_os _ _ _) (by kernel_rfl) (by kernel_rfl) (by kernel_rfl)
   (OpenSpec.preRow_of_cond 8 hx (by kernel_rfl) (λk hk=>by cases hk) (by kernel_rfl) (laidMet_laidAll _ (by kernel_rfl) (by kernel_rfl)))) ?_
 intro W base args ds gs before hval hW _ _ _ hL hS _
 exact zxj H enc W base args ds gs before hval hW hL hS
theorem said21:Rows.PairDecidesSaid:=OpenClaim.holds_of_cond 3 Tryz.f3 rfl rfl rfl rfl rfl rfl rfl ⟨rfl,rfl,rfl,rfl,rfl⟩ rfl rfl rfl rfl rfl (by kernel_rfl) Tryz.func3 closed21 (of_decide_eq_true (by kernel_rfl)) (by unfold Func.isWrapper;first|(rw[if_pos (by decide+kernel)];kernel_rfl)|(rw[if_neg (by decide+kernel)];exact⟨rfl,rfl⟩)) λos started H enc _ F=>by rw[OpenClaim.pre_eq_preRow];exact lifted21 os started H enc F
theorem plain21 (f:FuncId)(fn:Func)(hf:Tryz.pinned.checked.prog.funcNamed Rows.pairDecidesRow.func=O f)(hfn:Tryz.pinned.checked.prog.funcs[f]?=O fn):U=Tryz.pinned.checked.prog.looks []/\∀(j:Nat)t,fn.params[j]?=O t->Tryz.pinned.checked.prog.wantsStandIn t=false:=by
 obtain rfl:f=3:=vE ((show xg.funcNamed Rows.pairDecidesRow.func=O 3 by kernel_rfl).symm.trans hf)|>.symm;obtain rfl:fn=Tryz.f3:=(vE (Tryz.func3.symm.trans hfn)).symm;refine⟨by kernel_rfl,λj t ht=>?_⟩;rw[Tryz.params3]at ht;have hall:([30,34,3,22].all λu=>!Tryz.prog.wantsStandIn u)=true:=by kernel_rfl
 have:=yq.1 hall t (by simpa using Array.mem_of_getElem? ht);exact show xg.wantsStandIn t=M by simpa using this
theorem pairDecides_holds:Rows.PairDecidesCardSaid:=Claim7.holds_tied_plain_at .later [] _ _ _ _ said21 (λ_ h=>by cases h) (by kernel_rfl) (λ_ h=>by cases h) pairDecides_row_tie rfl ⟨rfl,rfl⟩ (by kernel_rfl) rfl plain21 (by kernel_rfl)
end
