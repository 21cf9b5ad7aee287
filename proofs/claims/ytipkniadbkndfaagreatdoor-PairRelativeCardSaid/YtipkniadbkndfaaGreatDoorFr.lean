/- The law holds for every input. No condition. -/
import Derived.Test.YtipkniadbkndfaaGreatDoorFr16
import Derived.Test.YtipkniadbkndfaaGreatDoorFr17
import Derived.Test.YtipkniadbkndfaaGreatDoorCards
import Derived.Test.YtipkniadbkndfaaGreatDoorTie
import Derived.JoinedCond
import Derived.Deep.DeepWitnessRowRef
import Derived.Lay
import Derived.ProofKit
set_option linter.unusedVariables false
set_option linter.unusedSectionVars false
set_option linter.unusedSimpArgs false
set_option maxRecDepth 100000
set_option maxHeartbeats 40000000
namespace Go.Proofs.YtipkniadbkndfaaGreatDoor
open Go Go.RowKit
abbrev yE:=@_root_.List.getD_eq_getElem?_getD
abbrev uc:=@_root_.List.mem_flatMap
abbrev uI:=@_root_.List.set_append_right
abbrev uQ:=@_root_.Bool.eq_false_iff
section
variable (E:Nat→Nat→Bool) (K:Nat)
def fstN (l:List Int):Nat:=(l.headD 0).toNat
def lstN (l:List Int):Nat:=(l.getLastD 0).toNat
def zdT (l:List Int):Bool:=E (lstN l) (fstN l)
def ext1 (l:List Int) (i:Nat):List (List Int):=if (E (lstN l) (fstN l+1+i)&&!decide (((fstN l+1+i:Nat):Int)∈l))=true then [l++[((fstN l+1+i:Nat):Int)]] else []
def ext (l:List Int):List (List Int):=(List.range (K - (fstN l+1))).flatMap (ext1 E l)
def dfs:Nat→List Int→List (List Int)
 | 0,_=>[]
 | d+1,l=>(if zdT E l=true then [l] else [])++(ext E K l).flatMap (dfs d)
def lev:Nat→List (List Int)→List (List Int)
 | 0,ls=>ls
 | r+1,ls=>lev r (ls.flatMap (ext E K))
theorem zhM:∀ (r) (ls),lev E K (r+1) ls=(lev E K r ls).flatMap (ext E K)
 | 0,_=>rfl
 | r+1,ls=>zhM r (ls.flatMap (ext E K))
theorem zfL {α β:Type} (f g:α→List β):∀ l:List α,(l.flatMap λx=>f x++g x).Perm (l.flatMap f++l.flatMap g)
 | []=>by simp
 | x::l=>by
  simp only [uD,yJ];refine .append_left _ ?_;exact ((zfL f g l).append_left _).trans (List.perm_append_comm_assoc _ _ _)
theorem zir {α:Type} (p):∀ l:List α,(l.flatMap λx=>if p x=true then [x] else [])=l.filter p
 | []=>rfl
 | x::l=>by rw [uD,zir p l,List.filter_cons];grind
theorem zn2:∀ (d:Nat) (ls:List (List Int)),(ls.flatMap (dfs E K d)).Perm ((List.range d).flatMap λr=>(lev E K r ls).filter (zdT E))
 | 0,ls=>by
  have:(ls.flatMap (dfs E K 0))=[]:=List.flatMap_eq_nil_iff.2 λ_ _=>rfl
  rw [this];exact .refl _
 | d+1,ls=>by
  have e:ls.flatMap (dfs E K (d+1))=ls.flatMap λl=>(if zdT E l=true then [l] else [])++(ext E K l).flatMap (dfs E K d):=rfl
  rw [e,List.range_succ_eq_map,uD,List.flatMap_map];refine (zfL _ _ ls).trans ?_;rw [zir];refine .append_left _ ?_;have:=zn2 d (ls.flatMap (ext E K));rw [List.flatMap_assoc] at this;exact this
theorem zi1:∀ (l x y),lexP (l++x) (l++y)=lexP x y
 | [],_,_=>rfl
 | a::l,x,y=>by simp only [uu,lexP];rw [if_neg (by omega),if_neg (by omega)];exact zi1 l x y
theorem zkZ:∀ {l m} (x y),l.length=m.length→lexP l m<0→lexP (l++x) (m++y)<0
 | [],[],_,_,_,h=>by grind [lexP]
 | [],_::_,_,_,h,_=>by grind
 | _::_,[],_,_,h,_=>by grind
 | a::l,b::m,x,y,e,h=>by
  simp only [uu,lexP] at h ⊢;split
  ·omega
  ·rename_i d;rw [if_neg d] at h;split
   ·simp_all
   ·rename_i c;rw [if_neg c] at h;exact zkZ x y (by simp_all) h
theorem zlW {l x i} (h:x∈ext1 E l i):E (lstN l) (fstN l+1+i)=true∧((fstN l+1+i:Nat):Int)∉l∧x=l++[((fstN l+1+i:Nat):Int)]:=by
 unfold ext1 at h;simp_all
theorem ziz {l x} (h:x∈ext E K l):∃ i,i<K - (fstN l+1)∧E (lstN l) (fstN l+1+i)=true∧((fstN l+1+i:Nat):Int)∉l∧x=l++[((fstN l+1+i:Nat):Int)]:=by
 obtain ⟨i,b,a⟩:=uc.1 h
 grind [zlW]
theorem zs9 (l):(ext E K l).Pairwise λx y=>lexP x y<0:=by
 unfold ext;rw [List.pairwise_flatMap];refine ⟨λi _=>?_,List.pairwise_lt_range.imp λ{i j} b x c y a=>?_⟩
 ·unfold ext1;split <;> simp
 ·obtain ⟨-,-,rfl⟩:=zlW E c;obtain ⟨-,-,rfl⟩:=zlW E a;rw [zi1];simp only [lexP];simp_all
theorem zoo:∀ (r c) (ls),(∀ l∈ls,l.length=c)→(ls.Pairwise λx y=>lexP x y<0)→(∀ l∈lev E K r ls,l.length=c+r)∧(lev E K r ls).Pairwise λx y=>lexP x y<0
 | 0,c,ls,h,e=>⟨h,e⟩
 | r+1,c,ls,h,e=>by
  have:=zoo r (c+1) (ls.flatMap (ext E K)) (λx d=>?_) ?_
  ·exact ⟨λl g=>by rw [this.1 l g];omega,this.2⟩
  ·obtain ⟨l,g,d⟩:=uc.1 d;obtain ⟨i,-,-,-,rfl⟩:=ziz E K d;simp_all
  ·rw [List.pairwise_flatMap];refine ⟨λl _=>zs9 E K l,?_⟩;refine List.Pairwise.imp_of_mem (λ{a b} m n f x d y k=>?_) e;obtain ⟨i,-,-,-,rfl⟩:=ziz E K d;obtain ⟨j,-,-,-,rfl⟩:=ziz E K k;exact zkZ _ _ (by simp_all) f
theorem zpJ (x y):cmpC x y<0↔(x.length<y.length∨(x.length=y.length∧lexP x y<0)):=by
 grind [cmpC,cmpI]
theorem zsW (d c ls) (h1:∀ l∈ls,l.length=c) (h2:ls.Pairwise λx y=>lexP x y<0):((List.range d).flatMap λr=>(lev E K r ls).filter (zdT E)).Pairwise λx y=>cmpC x y<0:=by
 rw [List.pairwise_flatMap];refine ⟨λr _=>?_,List.pairwise_lt_range.imp λ{i j} b x e y a=>?_⟩
 ·have:=zoo E K r c ls h1 h2
  grind [List.Pairwise.imp_of_mem,zpJ]
 ·have g:=(zoo E K i c ls h1 h2).1 x (List.mem_filter.1 e).1;have f:=(zoo E K j c ls h1 h2).1 y (List.mem_filter.1 a).1;rw [zpJ];simp_all
end
theorem zmK {α:Type} {R} (hanti:∀ a b,R a b→R b a→a=b):∀ {l m:List α},l.Perm m→l.Pairwise R→m.Pairwise R→l=m
 | [],m,h,_,_=>by simp_all
 | a::l,[],h,_,_=>by simp_all
 | a::l,b::m,h,d,c=>by
  have e:a=b:=by
   grind [List.pairwise_cons,List.mem_cons_self]
  subst e;rw [zmK hanti ((List.perm_cons a).1 h) (uP.1 d).2 (uP.1 c).2]
def ones (K:Nat):List (List Int):=(List.range K).map λ(i:Nat)=>[(i:Int)]
theorem zqg (K):(∀ l∈ones K,l.length=1)∧(ones K).Pairwise λx y=>lexP x y<0:=by
 unfold ones;refine ⟨λl b=>?_,?_⟩
 ·grind
 ·rw [List.pairwise_map];refine List.pairwise_lt_range.imp λ{i j} a=>?_
  simp only [lexP];simp_all
def cycP (E:Nat→Nat→Bool) (K:Nat):List (List Int):=(List.range K).flatMap λr=>(lev E K r (ones K)).filter (zdT E)
theorem zcG {α β:Type} {f:α→List β} {B}:∀ {l:List α},(∀ x∈l,(f x).length≤B)→(l.flatMap f).length≤l.length*B
 | [],_=>by simp
 | x::l,h=>by
  have b:=zcG (l:=l) λy a=>h y (by simp [a])
  grind [Nat.succ_mul]
theorem zny {E} {K} (hK:K≤6) (l):(ext E K l).length≤6:=by
 have:=zcG (f:=ext1 E l) (B:=1) (l:=List.range (K - (fstN l+1))) λi _=>by grind [ext1]
 unfold ext
 grind
theorem zlA {E} {K} (hK:K≤6):∀ (d) (l),(dfs E K d l).length≤7 ^ d
 | 0,_=>by simp [dfs]
 | d+1,l=>by
  have a:=zny (E:=E) hK l;have c:=zcG (f:=dfs E K d) (B:=7 ^ d) (l:=ext E K l) λx _=>zlA hK d x
  have b:(ext E K l).length*7 ^ d≤6*7 ^ d:=yN _ a;simp only [dfs]
  grind
structure zuD (K:Nat) (l:List Int):Prop where
 nd:l.Nodup
 pos:1≤l.length
 mem:∀ x∈l,0≤x∧x<(K:Int)
theorem zuD.len {K l} (h:zuD K l):l.length≤K:=zhS h.nd h.mem
theorem zuD.snoc {K l} (h:zuD K l) {b} (hb:b<K) (hm:(b:Int)∉l):zuD K (l++[(b:Int)]):=by
 refine ⟨?_,by simp,λx c=>?_⟩
 ·rw [uR];exact ⟨h.nd,by simp,λa f g d e=>by grind⟩
 ·rcases yu.1 c with c | c
  ·exact h.mem x c
  grind
theorem zuD.fst {K l} (h:zuD K l):idx l 0=some ((fstN l:Nat):Int)∧fstN l<K:=by
 cases l with
 | nil=>have:=h.pos;grind
 | cons x t=>
  have:=h.mem x (by simp);have e:fstN (x::t)=x.toNat:=rfl;have:idx (x::t) 0=some x:=rfl
  grind
theorem zuD.lst {K l} (h:zuD K l) (h6:K≤6):idx l (ztH (l.length:Int) 1)=some ((lstN l:Nat):Int)∧lstN l<K:=by
 have d:=h.pos;have c:=h.len;have a:l.length - 1<l.length:=by omega
 have e:=h.mem _ (yi a);have b:lstN l=l[l.length - 1].toNat:=by grind [lstN]
 rw [zeD (by omega) (by omega),zb a,b];grind
theorem zrp {n} {g} {K} (hg:zuZ g K) (hn:1000000≤n):∀ (d k) (l) (out),zuD K l→K - l.length=d→d<k→out.length≤1000000 - 7 ^ (d+1)→d≤5 →
  zC n g k l out=some (out++dfs (hasP g) K (d+1) l):=by
 intro d
 induction d using Nat.strongRecOn with
 | ind d ih=>
  intro k l out hp hd hk ho hd5;obtain ⟨k,rfl⟩:∃ k',k=k'+1:=⟨k - 1,by omega⟩
  have hK:=hg.le;have hl1:=hp.pos;have hl2:=hp.len;have hp7:7≤7 ^ (d+1):=Nat.le_self_pow (by omega) 7;obtain ⟨e2,hfK⟩:=hp.fst;obtain ⟨e1,hlK⟩:=hp.lst hK;have h7:7 ^ (d+1)=7*7 ^ d:=by grind
  have hone:1≤7 ^ d:=Nat.one_le_pow _ _ (by omega);have h77:7 ^ (d+1)≤117649:=by
   have:7 ^ (d+1)≤7 ^ 6:=uq (by omega) (by omega)
   grind
  simp only [zC,e1,e2,ya,zkX hg hlK hfK];have loop:∀ out1:List (List Int),out1.length≤out.length+1→ztz (zC.l1 n g (zC n g k) l ((lstN l:Nat):Int)) n (ztu ((fstN l:Nat):Int) 1,out1)=some (out1++(ext (hasP g) K l).flatMap (dfs (hasP g) K d)):=by
   intro out1 ho1;rw [zd (by omega)];have:=zcg (body:=zC.l1 n g (zC n g k) l ((lstN l:Nat):Int)) (k:=K - (fstN l+1)) (n:=n) (st:=λ(o:List (List Int)) i=>(((fstN l+1+i:Nat):Int),o)) (λi=>(ext1 (hasP g) l i).flatMap (dfs (hasP g) K d)) some (7 ^ d) out1
    (λi hi=>?_) (λrec o i hi hI=>?_) (λrec o hI=>?_) (by omega)
   ·simp only [uy] at this;rw [this];unfold ext;rw [List.flatMap_assoc]
   ·have h1:=zcG (f:=dfs (hasP g) K d) (B:=7 ^ d) (l:=ext1 (hasP g) l i) λx _=>zlA hK d x
    have h2:(ext1 (hasP g) l i).length≤1:=by unfold ext1;split <;> simp
    have h3:(ext1 (hasP g) l i).length*7 ^ d≤1*7 ^ d:=yN _ h2;omega
   ·have hb:fstN l+1+i<K:=by omega
    have hlt:decide (((fstN l+1+i:Nat):Int)<g.size)=true:=by rw [hg.size];simp;omega
    have hnx:ztu ((fstN l+1+i:Nat):Int) 1=((fstN l+1+(i+1):Nat):Int):=by rw [zd (by omega)];rfl
    simp only [zC.l1,hlt,if_true,zkX hg hlK hb,ya,hnx];unfold ext1;by_cases hh:hasP g (lstN l) (fstN l+1+i)=true
    ·rw [if_pos hh,zd5 (by omega) hn,ya];by_cases hm:((fstN l+1+i:Nat):Int)∈l
     ·rw [if_pos (by simpa using hm),if_neg (by simp only [hm,decide_true,uo,Bool.and_false];simp)];simp
     ·rw [if_neg (by simpa using hm),zl (by simp;omega),ya,yO,zl (by simp;omega),ya,if_pos (by simp only [hh,hm,decide_false,ur,uS])];have hp2:=hp.snoc hb hm;have hlen:=hp2.len;simp only [yQ,yU,uj] at hlen;have hd1:1≤d:=by omega
      have h6:i*7 ^ d≤5*7 ^ d:=yN _ (by omega);have:=ih (d - 1) (by omega) k (l++[((fstN l+1+i:Nat):Int)]) o hp2 (by simp;omega) (by omega) (by rw [show d - 1+1=d by omega];omega) (by omega);rw [show d - 1+1=d by omega] at this;rw [this,ya];simp
    ·rw [if_neg hh,if_neg (by simp only [yS] at hh;simp [hh])];simp
   ·have hge:decide (((fstN l+1+(K - (fstN l+1)):Nat):Int)<g.size)=false:=by rw [hg.size];simp;omega
    simp only [zC.l1,hge,ye,if_false]
  have hcl:zdT (hasP g) l=hasP g (lstN l) (fstN l):=rfl;simp only [dfs,hcl];by_cases hh:hasP g (lstN l) (fstN l)=true
  ·rw [if_pos hh,if_pos hh,zl (by simp;omega),ya,yO,zl (by simp;omega),ya,loop _ (by simp),yJ]
  grind
theorem zpN {n g K} (hg:zuZ g K) (hn:1000000≤n):ztz (ztZ.l1 n g) n (0,[])=some ((ones K).flatMap (dfs (hasP g) K K)):=by
 have e:=hg.le;have c:7 ^ K≤117649:=by
  have:7 ^ K≤7 ^ 6:=uq (by omega) (by omega)
  grind
 have:=zcg (body:=ztZ.l1 n g) (k:=K) (n:=n) (st:=λo i=>(i,o)) (λi=>dfs (hasP g) K K [i]) some 117649 []
  (λi d=>yH (zlA e K _) c) (λb o i d f=>?_) (λb o f=>?_) (by omega)
 ·grind [ones,List.flatMap_map]
 ·have h:decide (i<g.size)=true:=by rw [hg.size];grind
  have j:=zrp hg hn (K - 1) n [i] o ⟨by simp,by simp,by grind⟩ (by simp) (by omega) (by grind) (by omega);simp only [ztZ.l1]
  grind [zd]
 ·have a:decide (K<g.size)=false:=by rw [hg.size];simp
  simp only [ztZ.l1,a,ye,if_false]
theorem zqc {E K}:∀ (d) {l x},zuD K l→x∈dfs E K d l→zuD K x
 | 0,_,_,_,h=>by grind [dfs]
 | d+1,l,x,b,h=>by
  simp only [dfs,yu,uc] at h;rcases h with h | ⟨y,c,e⟩
  ·grind
  ·obtain ⟨i,f,-,a,rfl⟩:=ziz E K c;exact zqc d (b.snoc (by omega) a) e
theorem zlZ {K i} (hi:i<K):zuD K [(i:Int)]:=⟨by simp,by simp,by grind⟩
theorem zin {n} {ztP} {K:Nat} (h1:1≤K) (h6:K≤6) (hl:ztP.length=K*K) (hn:1000000≤n):zbp n (K:Int) ztP=some (cycP (hasP ⟨(K:Int),ztP⟩) K):=by
 have hg:zuZ ⟨(K:Int),ztP⟩ K:=⟨rfl,h6,hl⟩
 have h4:K*K≤36:=ub h6 h6;have e:ztG (K:Int) (K:Int)=((K*K:Nat):Int):=by
  grind [ztG,zao,Int.natCast_mul]
 have hopen:zbV n (K:Int) ztP=some (⟨(K:Int),ztP⟩,true):=by
  unfold zbV;rw [e,hl]
  grind
 have hd:7 ^ K≤117649:=by
  have:7 ^ K≤7 ^ 6:=uq (by omega) (by omega)
  grind
 unfold zbp;rw [hopen,ya,if_neg (by simp),zpN hg hn,ya];have hmem:∀ x∈(ones K).flatMap (dfs (hasP ⟨(K:Int),ztP⟩) K K),zuD K x:=λx hx=>by
  obtain ⟨l,hl,hx⟩:=uc.1 hx;obtain ⟨i,hi,rfl⟩:=y9.1 hl;exact zqc K (zlZ (yV.1 hi)) hx
 have hlen:((ones K).flatMap (dfs (hasP ⟨(K:Int),ztP⟩) K K)).length≤6*117649:=by
  have:=zcG (f:=dfs (hasP ⟨(K:Int),ztP⟩) K K) (B:=117649) (l:=ones K) λx _=>yH (zlA h6 K x) hd
  grind [ones,Nat.le_trans,Nat.mul_le_mul_right]
 obtain ⟨s1,s2⟩:=zoK (f:=zce n) (c:=cmpC) (l:=(ones K).flatMap (dfs (hasP ⟨(K:Int),ztP⟩) K K)) (λx hx y _=>zij (by have:=(hmem x hx).len;omega) hn) (λx=>by grind [zfu]) (λ_ _ _=>zii) (λ_ _ _=>zjK) (by omega);rw [s1];refine congrArg some ?_;have hp:=ziE s2;have hs:=zna s2;refine zmK (R:=λx y=>¬ cmpC y x<0) (λa b h1 h2=>?_) (hp.trans (zn2 _ K K (ones K))) ?_ ?_
 ·grind [zfu,zjL]
 ·refine List.Pairwise.imp_of_mem (λ{a b} ha hb hab=>?_) hs;have ha':=hmem a (hp.mem_iff.1 ha);have hb':=hmem b (hp.mem_iff.1 hb);rw [zij (by have:=hb'.len;omega) hn] at hab;exact hab
 ·refine (zsW _ K K 1 (ones K) (zqg K).1 (zqg K).2).imp λ{a b} h=>?_
  have:=zfu a b;omega
theorem zpg {γ δ S R:Type} {body} {k n} {st:List γ→List δ→Nat→S} (g) (h) (fin:List γ→List δ→Option R) (B) (b0) (c0) (hB:∀ i,i<k→(g i).length≤B) (hC:∀ i,i<k→(h i).length≤B)
  (step:∀ rec (b) (c) i,i<k→b.length≤b0.length+i*B→c.length≤c0.length+i*B→body rec (st b c i)=rec (st (b++g i) (c++h i) (i+1))) (done:∀ rec (b) (c),b.length≤b0.length+k*B→c.length≤c0.length+k*B→body rec (st b c k)=fin b c) (hn:k<n) :
  ztz body n (st b0 c0 0)=fin (b0++(List.range k).flatMap g) (c0++(List.range k).flatMap h):=by
 have:=zbd (σ:=List γ×List δ) (body:=body) (len:=k) (st:=λs i=>st s.1 s.2 i) (g:=λi s=>fin (s.1++(List.range' i (k - i)).flatMap g) (s.2++(List.range' i (k - i)).flatMap h)) (λi s=>s.1.length≤b0.length+i*B∧s.2.length≤c0.length+i*B) (λrec i s e a d=>?_) (λrec s a=>?_) n 0 (b0,c0) (yo _) (by omega) (by simp)
 ·grind [List.range_eq_range']
 ·rw [step rec s.1 s.2 i e a.1 a.2,d (s.1++g i,s.2++h i) ⟨by grind,by grind⟩];have:List.range' i (k - i)=i::List.range' (i+1) (k - (i+1)):=by rw [show k - i=(k - (i+1))+1 by omega,List.range'_succ]
  grind
 grind
theorem zi6 {n l v} (hl:l.length<1000000) (hn:1000000≤n):zc5 n l v=some (decide (v∈l)):=by
 unfold zc5;have:=zat (body:=zc5.l1 n l v) (l:=l) (n:=n) (st:=λi=>i) (λx=>!(x==v)) (some true) (some false) (λa i b=>?_) (λa=>?_) (by omega)
 ·grind
 ·simp only [zc5.l1,zb b]
  grind [zd]
 ·simp only [zc5.l1,zaw,ye,if_false]
theorem zl2 {n l v} (hl:l.length<1000000) (hn:1000000≤n):zdl n l v=some (l++[v]):=by
 unfold zdl;have:=zdY (body:=zdl.l1 n l v) (l:=l) (n:=n) (st:=λb i=>(b,i)) (λx =>x) (λb=>some (b++[v])) [] (λa b i d c=>?_) (λa b c=>?_) (by omega)
 ·simp_all
 ·simp only [zdl.l1,zb d]
  grind [zl,zd]
 ·simp only [zdl.l1]
  grind [zl]
theorem zn3 {ztP} {K a b:Nat} (hg:zuZ ⟨(K:Int),ztP⟩ K) (ha:a<K) (hb:b<K):idx ztP (ztu (ztG (a:Int) (K:Int)) (b:Int))=some (hasP ⟨(K:Int),ztP⟩ a b):=by
 have:=zkX (n:=0) hg ha hb
 grind [zaQ]
theorem zgw {E K}:∀ (r) {ls},(∀ l∈ls,zuD K l)→∀ l∈lev E K r ls,zuD K l
 | 0,_,h=>h
 | r+1,ls,h=>zgw r λx a=>by
  obtain ⟨l,c,a⟩:=uc.1 a;obtain ⟨i,d,-,b,rfl⟩:=ziz E K a;exact (h l c).snoc (by omega) b
theorem zp8 {E K} (h6:K≤6):∀ (r) (ls),(lev E K r ls).length≤ls.length*7 ^ r
 | 0,ls=>by simp [lev]
 | r+1,ls=>by
  have b:=zp8 (E:=E) h6 r (ls.flatMap (ext E K));have c:=zcG (f:=ext E K) (B:=6) (l:=ls) λx _=>zny h6 x
  have a:(ls.flatMap (ext E K)).length*7 ^ r≤ls.length*7*7 ^ r:=yN _ (by omega);rw [Nat.pow_succ,Nat.mul_comm (7 ^ r) 7,← Nat.mul_assoc];exact yH b a
theorem zgd {K}:∀ l∈ones K,zuD K l:=λl a=>by
 obtain ⟨i,b,rfl⟩:=y9.1 a
 grind [zlZ]
theorem zmt {α:Type} (p) (l:List α) (d):(List.range l.length).flatMap (λi=>if p (l.getD i d)=true then [l.getD i d] else [])=l.filter p:=by
 rw [← zir p l];have e:l=(List.range l.length).map λi=>l.getD i d:=by
  refine List.ext_getElem (by simp) λi b a=>?_
  grind
 grind [List.flatMap_map]
theorem zis {α β:Type} (f:α→List β) (l:List α) (d):(List.range l.length).flatMap (λi=>f (l.getD i d))=l.flatMap f:=by
 have e:l=(List.range l.length).map λi=>l.getD i d:=by
  refine List.ext_getElem (by simp) λi b a=>?_
  grind
 grind [List.flatMap_map]
theorem znJ {n} {ztP} {K} (h6:K≤6) (hl:ztP.length=K*K) (hn:1000000≤n) {ls out} {r} {rec} (hp:∀ l∈ls,zuD K l) (hlen:ls.length≤800000) (ho:out.length≤100000000) :
  ztz (zJ.l3 n (K:Int) ztP ls r rec) n (out,([]:List (List Int)),0)=rec (out++ls.filter (zdT (hasP ⟨(K:Int),ztP⟩)),ls.flatMap (ext (hasP ⟨(K:Int),ztP⟩) K),ztu r 1):=by
 have hg:zuZ ⟨(K:Int),ztP⟩ K:=⟨rfl,h6,hl⟩
 have:=zpg (body:=zJ.l3 n (K:Int) ztP ls r rec) (k:=ls.length) (n:=n) (st:=λb c i=>(b,c,(i:Int))) (λi=>if zdT (hasP ⟨(K:Int),ztP⟩) (ls.getD i [])=true then [ls.getD i []] else []) (λi=>ext (hasP ⟨(K:Int),ztP⟩) K (ls.getD i []))
  (λb c=>rec (b,c,ztu r 1)) 6 out [] (λi _=>by grind) (λi _=>zny h6 _) (λrec2 b c i hi hb hc=>?_) (λrec2 b c hb hc=>?_) (by omega)
 ·rw [zmt,zis] at this
  grind
 ·have e:ls.getD i []=ls[i]:=by grind
  have hpl:=hp _ (yi hi);obtain ⟨e2,hfK⟩:=hpl.fst;obtain ⟨e1,hlK⟩:=hpl.lst h6;have hlK6:=hpl.len;rw [e];have inner:∀ b1:List (List Int),ztz (zJ.l4 n (K:Int) ztP ls (i:Int) rec2 ((lstN ls[i]:Nat):Int) b1) n (c,ztu ((fstN ls[i]:Nat):Int) 1)=rec2 (b1,c++ext (hasP ⟨(K:Int),ztP⟩) K ls[i],((i+1:Nat):Int)):=by
   intro b1;rw [zd (by omega)];have:=zcg (body:=zJ.l4 n (K:Int) ztP ls (i:Int) rec2 ((lstN ls[i]:Nat):Int) b1) (k:=K - (fstN ls[i]+1)) (n:=n) (st:=λ(o:List (List Int)) j=>(o,((fstN ls[i]+1+j:Nat):Int))) (λj=>ext1 (hasP ⟨(K:Int),ztP⟩) ls[i] j) (λo=>rec2 (b1,o,ztu (i:Int) 1)) 1 c
    (λj _=>by unfold ext1;split <;> simp) (λrec3 o j hj hI=>?_) (λrec3 o hI=>?_) (by omega)
   ·simp only [uy] at this;rw [this,zd (i:=i) (by omega)];rfl
   ·have hb:fstN ls[i]+1+j<K:=by omega
    have hlt:decide (((fstN ls[i]+1+j:Nat):Int)<(K:Int))=true:=by simp;omega
    have hnx:ztu ((fstN ls[i]+1+j:Nat):Int) 1=((fstN ls[i]+1+(j+1):Nat):Int):=by rw [zd (by omega)];rfl
    simp only [zJ.l4,hlt,if_true,jn,zn3 hg hlK hb,zb hi,ya,yr,yj,zi6 (show ls[i].length<1000000 by omega) hn,zl2 (show ls[i].length<1000000 by omega) hn,yB,grd,hnx];unfold ext1;split
    ·rw [zl (by simp at hI hc;simp;omega),ya]
    ·simp
   ·have hge:decide (((fstN ls[i]+1+(K - (fstN ls[i]+1)):Nat):Int)<(K:Int))=false:=by simp;omega
    simp only [zJ.l4,hge,ye,if_false]
  have hcl:zdT (hasP ⟨(K:Int),ztP⟩) ls[i]=hasP ⟨(K:Int),ztP⟩ (lstN ls[i]) (fstN ls[i]):=rfl;simp only [zJ.l3,zB hi,if_true,jn,zb hi,ya,e1,e2,zn3 hg hlK hfK,hcl]
  grind [zl]
 ·simp only [zJ.l3,zaw,ye,if_false]
theorem zkh {n} {ztP} {K:Nat} (h1:1≤K) (h6:K≤6) (hl:ztP.length=K*K) (hn:1000000≤n):zJ n (K:Int) ztP=some (cycP (hasP ⟨(K:Int),ztP⟩) K):=by
 have h4:K*K≤36:=ub h6 h6;have e:ztG (K:Int) (K:Int)=((K*K:Nat):Int):=by
  grind [ztG,zao,Int.natCast_mul]
 have hv:zhl n (K:Int) ztP=some true:=by
  unfold zhl;rw [e,hl]
  grind
 unfold zJ;rw [hv,ya,if_neg (by simp)];have hones:(ones K).length=K:=by simp [ones]
 have rounds:ztz (zJ.l2 n (K:Int) ztP) n (([]:List (List Int)),ones K,0)=some (cycP (hasP ⟨(K:Int),ztP⟩) K):=by
  have:=zbd (σ:=List (List Int)×List (List Int)) (body:=zJ.l2 n (K:Int) ztP) (len:=K) (st:=λs i=>(s.1,s.2,(i:Int))) (g:=λ_ _=>some (cycP (hasP ⟨(K:Int),ztP⟩) K))
   (λi s=>s.1=(List.range i).flatMap (λr=>(lev (hasP ⟨(K:Int),ztP⟩) K r (ones K)).filter (zdT (hasP ⟨(K:Int),ztP⟩)))∧s.2=lev (hasP ⟨(K:Int),ztP⟩) K i (ones K)∧s.1.length≤i*800000) (λrec i s hi hI hr=>?_) (λrec s hI=>?_) n 0 ([],ones K) (yo _) (by omega) ⟨rfl,rfl,by simp⟩
  ·exact this
  ·obtain ⟨s1,s2⟩:=s;obtain ⟨i1,i2,i3⟩:=hI;simp only at i1 i2 i3;have hlen:s2.length≤800000:=by
    have:=zp8 (E:=hasP ⟨(K:Int),ztP⟩) h6 i (ones K);rw [hones] at this;have h7:7 ^ i≤7 ^ 5:=uq (by omega) (by omega);have h8:K*7 ^ i≤6*7 ^ 5:=ub h6 h7;rw [i2];simp only [Nat.reducePow,Nat.reduceMul] at h8;omega
   have hpath:∀ l∈s2,zuD K l:=by rw [i2];exact zgw i zgd
   simp only [zJ.l2,zj1 hi,if_true];rw [znJ h6 hl hn hpath hlen (by omega),zd (by omega)];refine hr (_,_) ⟨?_,?_,?_⟩
   ·simp only;rw [ux,List.flatMap_append,← i1,i2];simp
   ·rw [zhM,← i2];rfl
   ·simp only [yQ];have:=List.length_filter_le (zdT (hasP ⟨(K:Int),ztP⟩)) s2;rw [uw];omega
  ·obtain ⟨s1,s2⟩:=s;obtain ⟨i1,-,-⟩:=hI;simp only at i1;simp only [zJ.l2,zhC (ym K),ye,if_false];rw [i1];rfl
 have:=zcg (body:=zJ.l1 n (K:Int) ztP) (k:=K) (n:=n) (st:=λ(b:List (List Int)) i=>(b,(i:Int))) (λi=>[[(i:Int)]]) (λb=>ztz (zJ.l2 n (K:Int) ztP) n (([]:List (List Int)),b,0)) 1 []
  (λi _=>by simp) (λrec b i hi hb=>?_) (λrec b hb=>?_) (by omega)
 ·have eo:(List.range K).flatMap (λi:Nat=>[[(i:Int)]])=ones K:=by
   unfold ones;rw [List.map_eq_flatMap]
  rw [eo,yO,rounds] at this;exact this
 ·simp only [zJ.l1,zj1 hi,if_true];rw [zl (by simp at hb;simp;omega),ya,zd (by omega)]
 ·simp only [zJ.l1,zhC (ym K),ye,if_false]
theorem zg1 (a b c):ztu (ztu a b) c=ztu a (ztu b c):=by
 grind [ztu,w64,IntKind.wrap_i64]
theorem zqa (x y):ztu (ztu (-1) x) y=ztH (ztu x y) 1:=by
 grind [ztu,ztH,w64,IntKind.wrap_i64]
structure zuI (a:Action):Prop where
 add:∀ c,addP c a.effect.delta 0=zz a.effect.delta c
 len:a.effect.delta.length≤20
theorem zuI.Add {n a} (h:zuI a) (hn:1000000≤n) (c):za1 n a.effect c=some (zz a.effect.delta c):=by
 have:=h.len;rw [zeQ c (by omega) (by omega),h.add]
theorem zuI.added {n a} (h:zuI a) (hn:1000000≤n) (c):zR n a c=some (zz a.effect.delta c):=by
 have:=h.len
 grind [zag]
theorem zmE {S R} {body} {k n} {st:List Row→Bool→Bool→Nat→S} (Rr) (p q) (fin:List Row→Bool→Bool→Option R)
  (step:∀ rec rows x y i,i<k→rows.length≤i→body rec (st rows x y i)=rec (st (rows++[Rr i]) (x||p i) (y||q i) (i+1))) (done:∀ rec rows x y,rows.length≤k→body rec (st rows x y k)=fin rows x y) (hn:k<n) :
  ztz body n (st [] false false 0)=fin ((List.range k).map Rr) ((List.range k).any p) ((List.range k).any q):=by
 have:=zbd (σ:=List Row×Bool×Bool) (body:=body) (len:=k) (st:=λs i=>st s.1 s.2.1 s.2.2 i) (g:=λ_ _=>fin ((List.range k).map Rr) ((List.range k).any p) ((List.range k).any q)) (λi s=>s=((List.range i).map Rr,(List.range i).any p,(List.range i).any q)) (λrec i s c a b=>?_) (λrec s a=>?_) n 0 ([],false,false) (yo _) (by omega) rfl
 ·grind
 ·subst a;rw [step rec _ _ _ i c (by simp)];refine b (_,_,_) ?_;simp only [ux,List.any_append,List.any_cons]
  grind
 grind
def zcB (c:Constraint) (cyc:List Int) (i:Nat):Int:=ztu c.first (ztu (ztG (cyc.getD i 0) c.size) (cyc.getD ((i+1) % cyc.length) 0))
def zip (A B:Int→Int) (c:Constraint) (cyc:List Int) (i:Nat):Row:=⟨[⟨zcB c cyc i,-1⟩],ztH (ztu (A (zcB c cyc i)) (B (zcB c cyc i))) 1⟩
def zdG (A B:Int→Int) (c:Constraint) (cyc:List Int):List (List Row):=
 if ((List.range cyc.length).any (λi=>decide (0<A (zcB c cyc i)))&&(List.range cyc.length).any (λi=>decide (0<B (zcB c cyc i))))=true then [(List.range cyc.length).map (zip A B c cyc)] else []
def zhv (A B:Int→Int) (box:List Range) (c:Constraint) (K:Nat):List (List Row):=
 (cycP (hasP ⟨(K:Int),(List.range (K*K)).map λi:Nat=>decide (1≤ztu ((idx box (ztu c.first (i:Int))).getD default).hi (ztu (A (ztu c.first (i:Int))) (B (ztu c.first (i:Int)))))⟩) K).flatMap (zdG A B c)
theorem zn1 {K cyc} (hp:zuD K cyc) (h6:K≤6) {i} (hi:i<cyc.length):∃ r:Nat,zuV (ztu (i:Int) 1) (cyc.length:Int)=some (r:Int)∧r<cyc.length∧r=(i+1) % cyc.length:=by
 have:=hp.len;rw [zd (by omega)];refine ⟨(i+1) % cyc.length,?_,Nat.mod_lt _ (by omega),rfl⟩;unfold zuV
 grind
theorem zpX {l:List Int} {i} (hi):l.getD i 0=l[i]:=by grind
section
variable {n:Nat} {c:Constraint} {a b:Action} {K:Nat} (ha:zuI a) (hb:zuI b) (h6:K≤6) (hn:1000000≤n)
include ha hb h6 hn
theorem zpF {cyc} {b1} {k} (hp:zuD K cyc) (hb1:b1.length≤1000000) :
  ztz (zk.l3 n c a b b1 k cyc) n (([]:List Row),false,false,0)=k (b1++zdG (zz a.effect.delta) (zz b.effect.delta) c cyc):=by
 have m:=hp.len;have:=zmE (body:=zk.l3 n c a b b1 k cyc) (k:=cyc.length) (n:=n) (st:=λd x y i=>(d,x,y,i)) (zip (zz a.effect.delta) (zz b.effect.delta) c cyc) (λi=>decide (0<zz a.effect.delta (zcB c cyc i))) (λi=>decide (0<zz b.effect.delta (zcB c cyc i)))
  (λd x y=>if (x&&y)=true then k (b1++[d]) else k b1) (λg d x y i f q=>?_) (λg d x y q=>?_) (by omega)
 ·unfold zdG
  grind
 ·obtain ⟨r,j,h,o⟩:=zn1 hp h6 f;have e:ztu c.first (ztu (ztG cyc[i] c.size) cyc[r])=zcB c cyc i:=by
   grind [zcB]
  have p:zaO n (ztu (ztG cyc[i] c.size) cyc[r]) a c b=some (ztu (zz a.effect.delta (zcB c cyc i)) (zz b.effect.delta (zcB c cyc i))):=by
   unfold zaO;rw [e,ha.added hn,ya,hb.added hn,ya]
  simp only [zk.l3,zB f,zb f,ya,j,zb h,e,ha.added hn,hb.added hn,p,yr,yB];rw [zl (by grind),ya,zd (by omega)];rfl
 ·simp only [zk.l3]
  grind [zl]
theorem zpl {cs} {j:Nat} (hj) {b1} {k} (hp:zuD K cs[j]) (hb1:b1.length≤1000000) :
  ztz (zaf.l3 n c a.effect b.effect cs b1 (j:Int) k) n (([]:List Row),false,false,0)=k (b1++zdG (zz a.effect.delta) (zz b.effect.delta) c cs[j]):=by
 have hlen:=hp.len;have:=zmE (body:=zaf.l3 n c a.effect b.effect cs b1 (j:Int) k) (k:=cs[j].length) (n:=n) (st:=λrows x y i=>(rows,x,y,(i:Int))) (zip (zz a.effect.delta) (zz b.effect.delta) c cs[j]) (λi=>decide (0<zz a.effect.delta (zcB c cs[j] i))) (λi=>decide (0<zz b.effect.delta (zcB c cs[j] i)))
  (λrows x y=>if (x&&y)=true then k (b1++[rows]) else k b1) (λrec rows x y i hi hr=>?_) (λrec rows x y hr=>?_) (by omega)
 ·grind [zdG]
 ·obtain ⟨r,hr1,hr2,hr3⟩:=zn1 hp h6 hi;have hcell:ztu (ztu c.first (ztG cs[j][i] c.size)) cs[j][r]=zcB c cs[j] i:=by
   rw [zg1];unfold zcB;rw [zpX hi,← hr3,zpX hr2]
  simp only [zaf.l3,zb hj,zB hi,if_true,zb hi,ya,hr1,zb hr2,hcell,ha.Add hn,hb.Add hn,yr,yj,yB,grd,zqa];rw [zl (by simp;omega),ya,zd (by omega)];rfl
 ·simp only [zaf.l3,zb hj,ya,zaw,ye,if_false];split
  ·grind [zl]
  ·rfl
theorem zkU {box} (hs:c.size=(K:Int)) (h1:1≤K) (h0:0≤c.first) (hbx:c.first+((K*K:Nat):Int)≤(box.length:Int)) (hbl:box.length≤1000) :
  zk n box c a b=some (zhv (zz a.effect.delta) (zz b.effect.delta) box c K)∧zaf n box c a.effect b.effect=some (zhv (zz a.effect.delta) (zz b.effect.delta) box c K):=by
 have h4:K*K≤36:=ub h6 h6;have em:ztG c.size c.size=((K*K:Nat):Int):=by
  grind [zgx,Int.natCast_mul]
 have hmk:mkl 1 (ztG c.size c.size) false=some (List.replicate (K*K) false):=by
  rw [em];unfold mkl;rw [if_pos (by omega),yt]
 obtain ⟨V,hV⟩:∃ V:Nat→Bool,V=λi:Nat=>decide (1≤ztu ((idx box (ztu c.first (i:Int))).getD default).hi (ztu (zz a.effect.delta (ztu c.first (i:Int))) (zz b.effect.delta (ztu c.first (i:Int))))):=⟨_,rfl⟩
 obtain ⟨ztP,hE⟩:∃ ztP,ztP=(List.range (K*K)).map V:=⟨_,rfl⟩
 have hEl:ztP.length=K*K:=by grind
 have hbox:∀ i,i<K*K→∃ w,idx box (ztu c.first (i:Int))=some w:=λi hi=>za6 (by grind [zcp]) (by grind [zcp])
 have hcyc:zbp n (K:Int) ztP=some (cycP (hasP ⟨(K:Int),ztP⟩) K):=zin h1 h6 hEl hn;have hrcyc:zJ n (K:Int) ztP=some (cycP (hasP ⟨(K:Int),ztP⟩) K):=zkh h1 h6 hEl hn;obtain ⟨cyc,hcy⟩:∃ cyc,cyc=cycP (hasP ⟨(K:Int),ztP⟩) K:=⟨_,rfl⟩
 have hcl:cyc.length≤900000:=by
  obtain ⟨r,r1,r2,-⟩:=zkL (n:=n) (size:=(K:Int)) (ztP:=ztP) rfl h1 h6 hEl hn
  grind
 have hcp:∀ l∈cyc,zuD K l:=λl hl=>by
  rw [hcy] at hl;obtain ⟨r,-,hl⟩:=uc.1 hl
  grind [zgw,zgd]
 have hres:zhv (zz a.effect.delta) (zz b.effect.delta) box c K=cyc.flatMap (zdG (zz a.effect.delta) (zz b.effect.delta) c):=by
  grind [zhv]
 rw [← hcy] at hcyc hrcyc;rw [hres];have hgl:∀ x:List Int,(zdG (zz a.effect.delta) (zz b.effect.delta) c x).length≤1:=λx=>by grind [zdG]
 constructor
 ·unfold zk;rw [hmk,ya];have:=zM (body:=zk.l1 n box c a b (List.replicate (K*K) false)) (len:=K*K) (st:=λi=>((List.range i).map V++List.replicate (K*K - i) false,(i:Int))) (g:=λ_=>some (cyc.flatMap (zdG (zz a.effect.delta) (zz b.effect.delta) c))) (λrec i hi hr=>?_) (λrec=>?_) n 0 (yo _) (by omega)
  ·simpa using this
  ·have hlt:decide ((i:Int)<((List.replicate (K*K) false).length:Int))=true:=by simp;omega
   obtain ⟨w,hw⟩:=hbox i hi;have hz:zaO n (i:Int) a c b=some (ztu (zz a.effect.delta (ztu c.first (i:Int))) (zz b.effect.delta (ztu c.first (i:Int)))):=by
    unfold zaO;rw [ha.added hn,ya,hb.added hn,ya]
   have hvi:V i=decide (1≤ztu w.hi (ztu (zz a.effect.delta (ztu c.first (i:Int))) (zz b.effect.delta (ztu c.first (i:Int))))):=by rw [hV];simp only [hw,yj]
   have hin:i<((List.range i).map V++List.replicate (K*K - i) false).length:=by simp;omega
   have hst:sto ((List.range i).map V++List.replicate (K*K - i) false) (i:Int) (V i)=some ((List.range (i+1)).map V++List.replicate (K*K - (i+1)) false):=by
    unfold sto;rw [if_pos ⟨by omega,by omega⟩,yt];congr 1;rw [uI _ _ (by simp),show K*K - i=(K*K - (i+1))+1 by omega,List.replicate_succ];simp [ux]
   simp only [zk.l1,hlt,if_true,hw,ya,hz,zb hin];rw [← hvi,hst,ya,zd (by omega)];exact hr
  ·have hge:decide (((K*K:Nat):Int)<((List.replicate (K*K) false).length:Int))=false:=by simp
   have e0:(List.range (K*K)).map V++List.replicate (K*K - K*K) false=ztP:=by rw [hE];simp
   simp only [zk.l1,hge,ye,if_false,e0];rw [hs,hcyc,ya];have:=zcg (body:=zk.l2 n c a b cyc) (k:=cyc.length) (n:=n) (st:=λ(s:List (List Row)) i=>(s,(i:Int))) (λi=>zdG (zz a.effect.delta) (zz b.effect.delta) c (cyc.getD i [])) some 1 [] (λi _=>hgl _) (λrec s i hi hI=>?_) (λrec s hI=>?_) (by omega)
   ·rw [zis] at this;simpa using this
   ·have e:cyc.getD i []=cyc[i]:=by simp [yE,hi]
    rw [e];simp only [zk.l2,zB hi,if_true,jn,zb hi,ya];rw [zpF ha hb h6 hn (hcp _ (yi hi)) (by simp at hI;omega),zd (by omega)]
   ·simp only [zk.l2,zaw,ye,if_false]
 ·unfold zaf;have:=zcg (body:=zaf.l1 n box c a.effect b.effect) (k:=K*K) (n:=n) (st:=λ(s:List Bool) i=>(s,(i:Int))) (λi=>[V i]) (λs=>(zJ n c.size s).bind λx59_21=>ztz (zaf.l2 n c a.effect b.effect x59_21) n (([]:List (List Row)),0)) 1 [] (λi _=>by simp) (λrec s i hi hI=>?_) (λrec s hI=>?_) (by omega)
  ·have e0:(List.range (K*K)).flatMap (λi=>[V i])=ztP:=by rw [hE,List.map_eq_flatMap]
   rw [e0,yO,hs,hrcyc,ya] at this;refine this.trans ?_;have:=zcg (body:=zaf.l2 n c a.effect b.effect cyc) (k:=cyc.length) (n:=n) (st:=λ(s:List (List Row)) i=>(s,(i:Int))) (λi=>zdG (zz a.effect.delta) (zz b.effect.delta) c (cyc.getD i [])) some 1 [] (λi _=>hgl _) (λrec s i hi hI=>?_) (λrec s hI=>?_) (by omega)
   ·rw [zis] at this;simpa using this
   ·have e:cyc.getD i []=cyc[i]:=by simp [yE,hi]
    rw [e];simp only [zaf.l2,zB hi,if_true,jn];rw [zpl ha hb h6 hn hi (hcp _ (yi hi)) (by simp at hI;omega),zd (by omega)]
   ·simp only [zaf.l2,zaw,ye,if_false]
  ·have hlt:decide ((i:Int)<ztG c.size c.size)=true:=by rw [em];simp;omega
   obtain ⟨w,hw⟩:=hbox i hi;have hvi:V i=decide (1≤ztu (ztu w.hi (zz a.effect.delta (ztu c.first (i:Int)))) (zz b.effect.delta (ztu c.first (i:Int)))):=by rw [hV,zg1];simp only [hw,yj]
   simp only [zaf.l1,hlt,if_true,hw,ya,ha.Add hn,hb.Add hn];rw [← hvi,zl (by simp at hI;simp;omega),ya,zd (by omega)]
  ·have hge:decide (((K*K:Nat):Int)<ztG c.size c.size)=false:=by rw [em];simp
   simp only [zaf.l1,hge,ye,if_false]
end
theorem zuI.zxs {n a r x} (h:zuI a) (ha:zuC a) (hr:r.zty.length≤1000) (hx:zH n a r=some x) (hn:1000000≤n):zbt n a.effect r=some x:=by
 have:=ha.delta;rw [← hx,zmU (by omega) (by omega) (by omega) (by omega),zcq (by omega) (by omega) (by omega) (by omega),zhw h.add]
theorem zuI.Sum {n a r} (h:zuI a) (ha:zuC a) (hr:r.zty.length≤1000) (hn:1000000≤n):zbt n a.effect r=some (chgN n a r):=h.zxs ha hr (zei ha hr hn) hn
theorem zm1 {n c e f} (h:∀ x,za1 n e x=f x):zbB n c e=zG n c f:=by
 have:zbB.l1 n c e=zG.l1 n c f:=by
  grind [zbB.l1,zG.l1]
 grind [zbB,zG]
theorem rgraph0 {n K c} (hc:zve K c) (hk:c.kind=1) (hn:1000000≤n):zbB n c ⟨[],[],[]⟩=some (gr n c λq0=>zaV n q0):=by
 rw [zm1 (f:=λq0=>zaV n q0) λx=>?_]
 ·exact (zdV hc hk (λx=>⟨_,rfl⟩) hn).1
 ·rw [zeQ x (by simp) (by grind)];rfl
theorem zyg {n K a c} (sa:zuI a) (hc:zve K c) (hk:c.kind=1) (hn:1000000≤n):zbB n c a.effect=some (gr n c λq0=>zQ n q0 a):=by
 rw [zm1 (f:=λq0=>zQ n q0 a) λx=>?_]
 ·exact (zdV hc hk (λx=>⟨zz a.effect.delta x,by unfold zQ;rw [sa.added hn];rfl⟩) hn).1
 ·unfold zQ;rw [sa.Add hn,sa.added hn];rfl
theorem rgraph4 {n K a c} (sa:zuI a) (hc:zve K c) (hk:c.kind=1) (hn:1000000≤n):zbB n c a.effect=some (gr n c λq0=>zac n q0 a):=zyg sa hc hk hn
theorem zle {n K a c} (sa:zuI a) (hc:zve K c) (hk:c.kind=1) (hn:1000000≤n):zbI n a.effect c=some (decide (0<(((zA n a c).getD []).length:Int))):=by
 obtain ⟨k,b,d⟩:=hc.mul hk;have:=sa.len;rw [zki b (by omega) (by omega) (by omega) (by omega) sa.add,zdd b (by omega) (by omega) (by omega) (by omega)];simp
theorem znx {n r} (hl:r.zty.length≤1000) (hn:1000000≤n):zcz n r=some r:=by
 unfold zcz;have:=zdY (body:=zcz.l1 n r) (l:=r.zty) (n:=n) (st:=λb i=>(b,i)) (λt =>t) (λb=>some (⟨b,r.bound⟩)) [] (λa b i d c=>?_) (λa b c=>?_) (by omega)
 ·simp_all
 ·simp only [zcz.l1,zb d]
  grind [zl,zd]
 ·simp [zcz.l1]
theorem zqr {n r B} (hl:r.zty.length≤1000) (hn:1000000≤n):zbh n r B=some ⟨r.zty.map λt=>⟨t.cell,zuj t.ztE⟩,B⟩:=by
 unfold zbh;have:=zdY (body:=zbh.l1 n r B) (l:=r.zty) (n:=n) (st:=λb i=>(b,i)) (λt =>(⟨t.cell,zuj t.ztE⟩)) (λb=>some (⟨b,B⟩)) [] (λa b i d c=>?_) (λa b c=>?_) (by omega)
 ·grind
 ·simp only [zbh.l1,zb d]
  grind [zl,zd]
 ·simp [zbh.l1]
theorem zmV {n l v} (hl:l.length<1000000) (hn:1000000≤n):zfj n l v=some (decide (v∈l)):=by
 have:zfj.l1 n l v=zc5.l1 n l v:=rfl;unfold zfj;exact zi6 hl hn
noncomputable def zwQ (n:Nat) (m:Model) (q:Question) (a b:Action) (box:List Range) (R:List Row) (G:List ztR):Option (System×Int):=
  jn (λ(v:(List Row)×(List (List Row)))=>
   let b4_154:=v.1
   let c1_3_155:=v.2
   (zad n (⟨box,b4_154,G,c1_3_155⟩:System)).bind λx311_168=>
   if (!x311_168)=true then
    some ((⟨[],[],[],[]⟩:System),8)
   else
    some ((⟨box,b4_154,G,c1_3_155⟩:System),0)) λk_156=>
  if q.target.hold=true then
   (idx a.effect.hold q.target.index).bind λx243_157=>
   (zbt n b.effect x243_157).bind λx253_158=>
   (zbh n x243_157 (ztH (ztu (zuj x243_157.bound) x253_158) 1)).bind λx256_159=>
   (app 32 R [x256_159]).bind λx258_160=>
   k_156 (x258_160,[])
  else
   (idx m.constraints q.target.index).bind λx265_161=>
   if (x265_161.kind==0)=true then
    (zbt n a.effect x265_161.row).bind λx281_162=>
    (zbt n b.effect x265_161.row).bind λx286_163=>
    (zbh n x265_161.row (ztH (ztu (ztu (zuj x265_161.row.bound) x281_162) x286_163) 1)).bind λx289_164=>
    (app 32 R [x289_164]).bind λx291_165=>
    k_156 (x291_165,[])
   else
    (zaf n box x265_161 a.effect b.effect).bind λx298_166=>
    if ((x298_166.length:Int)==0)=true then
     (app 32 R [(⟨[],(-1)⟩:Row)]).bind λx308_167=>
     k_156 (x308_167,x298_166)
    else
     k_156 (R,x298_166)
noncomputable def zjb (n:Nat) (m:Model) (q:Question) (a b:Action) (box:List Range) (R:List Row):Option (System×Int):=ztz (zu.l3 n m q a b box) n (R,0)
theorem zm0 {n K m q a b box R} (ha:zuC a) (hb:zuC b) (hc:∀ c∈m.constraints,zve K c) (sa:zuI a) (sb:zuI b) (hl:m.constraints.length≤1000) (hn:1000000≤n) :
  ztz (zu.l5 n m q a b box R) n ([],0)=zwQ n m q a b box R ((List.range m.constraints.length).flatMap λi=>gS n (q.e != q.f) a b (m.constraints.getD i default)):=by
 have:=zcg (body:=zu.l5 n m q a b box R) (k:=m.constraints.length) (n:=n) (st:=λb i=>(b,(i:Int))) (λi=>gS n (q.e != q.f) a b (m.constraints.getD i default)) (zwQ n m q a b box R) 3 []
  (λi hi=>?_) (λrec b7 i hi hI=>?_) (λrec b7 hI=>?_) (by omega)
 ·grind
 ·grind [default,List.getD,zoc,List.getElem_mem]
 ·have e:m.constraints.getD i default=m.constraints[i]:=by grind
  have hci:=hc _ (yi hi);have hI':b7.length≤3000:=by grind
  simp only [zu.l5,zB hi,if_true,jn,zb hi,ya,e,zd (i:=i) (by omega)];unfold gS;by_cases hk:(m.constraints[i].kind != 1)=true
  ·grind
  ·rw [if_neg hk,if_neg hk];have hk:m.constraints[i].kind=1:=by grind
   obtain ⟨ra,hra⟩:=zgB ha hci hk hn;obtain ⟨rb,hrb⟩:=zgB hb hci hk hn;rw [rgraph0 hci hk hn,zle sa hci hk hn,zle sb hci hk hn,zyg sa hci hk hn,rgraph4 sb hci hk hn,hra,hrb];simp only [ya,yj];rw [zl (by grind),ya,Bool.and_comm (decide (0<(rb.length:Int))) (q.e != q.f)];by_cases h3:(decide (0<(ra.length:Int)))=true
   ·rw [if_pos h3,if_pos h3,zl (by grind),ya];by_cases h4:((q.e != q.f)&&decide (0<(rb.length:Int)))=true
    ·rw [if_pos h4,if_pos h4,zl (by grind),ya]
     grind
    grind
   ·rw [if_neg h3,if_neg h3];by_cases h4:((q.e != q.f)&&decide (0<(rb.length:Int)))=true
    ·rw [if_pos h4,if_pos h4,zl (by simp;omega),ya];simp only [yJ,yO]
    ·rw [if_neg h4,if_neg h4];simp only [ue]
 ·simp only [zu.l5,zaw,ye,if_false];rfl
theorem zrg {n K m q a b box R} (ha:zuC a) (hb:zuC b) (hc:∀ c∈m.constraints,zve K c) (sa:zuI a) (sb:zuI b) (hl:m.constraints.length≤1000) (hR:R.length≤1000) (hn:1000000≤n) :
  zjb n m q a b box R=zwQ n m q a b box (R++(a.effect.hold++(if (q.e != q.f)=true then b.effect.hold else []))) ((List.range m.constraints.length).flatMap λi=>gS n (q.e != q.f) a b (m.constraints.getD i default)):=by
 have h1:=ha.hold;have h2:=hb.hold;have second:∀ R2:List Row,R2.length≤2000→ztz (zu.l4 n m q a b box) n (R2,0)=zwQ n m q a b box (R2++(if (q.e != q.f)=true then b.effect.hold else [])) ((List.range m.constraints.length).flatMap λi=>gS n (q.e != q.f) a b (m.constraints.getD i default)):=λR2 hR2=>by
  by_cases he:(q.e != q.f)=true
  ·rw [if_pos he,← zm0 ha hb hc sa sb hl hn];have:=zdY (body:=zu.l4 n m q a b box) (l:=b.effect.hold) (n:=n) (st:=λb i=>(b,(i:Int))) (λr:Row=>r) (λR3=>ztz (zu.l5 n m q a b box R3) n (([]:List ztR),0)) R2 (λrec b6 i hi hb6=>?_) (λrec b6 hb6=>?_) (by omega)
   ·simp_all
   ·simp only [zu.l4,zB hi,he,uS,if_true,zb hi,ya,znx (hb.zty _ (yi hi)) hn]
    grind [zl,zd]
   ·simp only [zu.l4,zaw,uf,ye,if_false]
  ·rw [if_neg he,ue,← zm0 ha hb hc sa sb hl hn,zeZ (by omega)];simp only [zu.l4,he,Bool.and_false,ye,if_false]
 unfold zjb;have:=zdY (body:=zu.l3 n m q a b box) (l:=a.effect.hold) (n:=n) (st:=λb i=>(b,(i:Int))) (λr:Row=>r) (λR2=>ztz (zu.l4 n m q a b box) n (R2,0)) R (λrec b6 i hi hb6=>?_) (λrec b6 hb6=>?_) (by omega)
 ·grind [List.map_id',List.append_assoc]
 ·simp only [zu.l3,zB hi,if_true,zb hi,ya,znx (ha.zty _ (yi hi)) hn]
  grind [zl,zd]
 ·simp only [zu.l3,zaw,ye,if_false]
theorem zrm {n m q a b box} (ha:zuC a) (hb:zuC b) (hc:∀ c∈m.constraints,zve box.length c) (hl:m.constraints.length≤1000) (hbx:box.length≤1000)
  (sa:zuI a) (sb:zuI b)
  (hh:q.target.hold=true→0≤q.target.index∧q.target.index<(a.effect.hold.length:Int)) (hh2:q.target.hold=false→0≤q.target.index∧q.target.index<(m.constraints.length:Int)) (hn:1000000≤n) :
  ∃ (X:List Row) (G:List ztR) (cs:List (List Row)),(X.length≤30∧∀ r∈X,r.zty.length≤1000)∧(G.length≤3000∧∀ g∈G,g.least.length≤36)∧zfQ cs ∧
   ∀ R ,R.length≤1000→zwA n m q a b box R=endS n ⟨box,R++X,G,cs⟩ (zaj n ⟨box,R++X,G,cs⟩)∧zjb n m q a b box R=endS n ⟨box,R++X,G,cs⟩ (zad n ⟨box,R++X,G,cs⟩):=by
 obtain ⟨H,hH⟩:∃ H:List Row,H=a.effect.hold++(if (q.e != q.f)=true then b.effect.hold else []):=⟨_,rfl⟩
 have hHl:H.length≤20∧∀ r∈H,r.zty.length≤1000:=by
  have h1:=ha.hold;have h2:=hb.hold;rw [hH];constructor
  ·grind
  ·intro r hr;rcases yu.1 hr with hr | hr
   ·exact ha.zty r hr
   ·split at hr
    ·exact hb.zty r hr
    ·simp at hr
 have hstep:∀ R:List Row,R.length≤1000→zwA n m q a b box R=zdo n m q a b box (R++H):=λR hR=>by
  have h1:=ha.hold;have h2:=hb.hold;have hloop:ztz (zf.l3 n m q a b box H) n (R,0)=zdo n m q a b box (R++H):=by
   have:=zdY (body:=zf.l3 n m q a b box H) (l:=H) (n:=n) (st:=λb i=>(b,(i:Int))) (λr:Row=>r) (zdo n m q a b box) R (λrec b6 i hi hb6=>?_) (λrec b6 hb6=>?_) (by omega)
   ·simpa using this
   ·simp only [zf.l3,zB hi,if_true,zb hi,ya,zqB (hHl.2 _ (yi hi)) hn];rw [zl (by first | omega | (simp;omega)),ya,zd (by omega)]
   ·simp only [zf.l3,zaw,ye,if_false];rfl
  unfold zwA;simp only [jn];rw [zl (by first | omega | (simp;omega)),ya,yO];by_cases he:(q.e != q.f)=true
  ·rw [if_pos he,zl (by first | omega | (simp;omega)),ya,← hloop,hH,if_pos he]
  ·rw [if_neg he,← hloop,hH,if_neg he,ue]
 obtain ⟨G,hG⟩:∃ G,G=(List.range m.constraints.length).flatMap λi=>gS n (q.e != q.f) a b (m.constraints.getD i default):=⟨_,rfl⟩
 have hGl:G.length≤3000∧∀ g∈G,g.least.length≤36:=by
  have key:∀ k,k≤m.constraints.length→((List.range k).flatMap λi=>gS n (q.e != q.f) a b (m.constraints.getD i default)).length≤3*k∧∀ g∈((List.range k).flatMap λi=>gS n (q.e != q.f) a b (m.constraints.getD i default)),g.least.length≤36:=by
   intro k
   induction k with
   | zero=>intro _;simp
   | succ k ih=>
    intro hk;obtain ⟨i1,i2⟩:=ih (by omega);have e:m.constraints.getD k default=m.constraints[k]'(by omega):=by simp [List.getD,show k<m.constraints.length by omega]
    obtain ⟨g1,g2⟩:=zoc (n:=n) (ef:=(q.e != q.f)) ha hb (hc _ (yi (show k<m.constraints.length by omega))) hn;rw [ziB,e];constructor
    ·rw [yQ];omega
    ·intro g hg;rcases yu.1 hg with hg | hg
     ·exact i2 g hg
     ·exact g2 g hg
  rw [hG];obtain ⟨k1,k2⟩:=key _ (ym _);exact ⟨by omega,k2⟩
 have h0:∀ (c:Constraint) (R:List Row),(c.kind==1)=false→finS n box a b R c G=endS n ⟨box,R,G,[]⟩ (zaj n ⟨box,R,G,[]⟩):=λc R hk=>by
  unfold finS;simp only [jn,hk,ye,if_false];rfl
 have c0:zfQ []:=⟨by simp,by simp⟩
 have rstep:∀ R:List Row,R.length≤1000→zjb n m q a b box R=zwQ n m q a b box (R++H) G:=λR hR=>by
  rw [zrg ha hb hc sa sb hl hR hn,hG,hH]
 cases hhold:q.target.hold with
 | true=>
  obtain ⟨i1,i2⟩:=hh hhold;obtain ⟨r,hr⟩:=za6 i1 i2;have hrl:=ha.zty r (zbb hr);obtain ⟨x,hx⟩:=zgu hb hrl hn;have hsx:=sb.zxs hb hrl hx hn;have hnr:=zej (n:=n) (r:=r) (f:=λq0=>zaP n q0) (g:=λq0=>zal n q0 x) (fP:=zuj) (B:=ztH (ztu (zuj r.bound) x) 1) (λ_=>rfl) rfl hrl hn;refine ⟨H++[⟨r.zty.map λt=>⟨t.cell,zuj t.ztE⟩,ztH (ztu (zuj r.bound) x) 1⟩],G,[],⟨by first | omega | (simp;omega),λs hs=>?_⟩,hGl,c0,λR hR=>?_⟩
  ·rcases yu.1 hs with hs | hs
   ·exact hHl.2 s hs
   ·simp at hs;subst hs;simpa using hrl
  ·refine ⟨?_,?_⟩
   rotate_left
   ·rw [rstep R hR];unfold zwQ;simp only [jn,hhold,if_true,hr,ya,hsx,zqr hrl hn];rw [zl (by first | omega | (simp;omega)),ya,yJ];rfl
   rw [hstep R hR];unfold zdo;simp only [jn,hhold,if_true,hr,ya,hx,hnr];rw [zl (by first | omega | (simp;omega)),ya];have:=zjp (q:=q) (a:=a) (b:=b) (box:=box) (R:=R++H++[⟨r.zty.map λt=>⟨t.cell,zuj t.ztE⟩,ztH (ztu (zuj r.bound) x) 1⟩]) (c:=⟨0,0,⟨[],0⟩,0,0⟩) ha hb hc hl hn;rw [← hG] at this;rw [yJ] at this ⊢;exact this.trans (h0 _ _ rfl)
 | false=>
  obtain ⟨i1,i2⟩:=hh2 hhold;obtain ⟨c,hcx⟩:=za6 i1 i2;have hco:=hc c (zbb hcx);have hgl:=λR:List Row=>(zjp (q:=q) (a:=a) (b:=b) (box:=box) (R:=R) (c:=c) ha hb hc hl hn)
  rw [← hG] at hgl;rcases hco.kind with hk | hk
  ·obtain ⟨x,hx⟩:=zgu ha hco.len hn;obtain ⟨y,hy⟩:=zgu hb hco.len hn;have hsx:=sa.zxs ha hco.len hx hn;have hsy:=sb.zxs hb hco.len hy hn;have hnr:=zej (n:=n) (r:=c.row) (f:=λq0=>zaP n q0) (g:=λq0=>zal n q0 (ztu x y)) (fP:=zuj) (B:=ztH (ztu (zuj c.row.bound) (ztu x y)) 1) (λ_=>rfl) rfl hco.len hn;refine ⟨H++[⟨c.row.zty.map λt=>⟨t.cell,zuj t.ztE⟩,ztH (ztu (zuj c.row.bound) (ztu x y)) 1⟩],G,[],⟨by first | omega | (simp;omega),λs hs=>?_⟩,hGl,c0,λR hR=>?_⟩
   ·rcases yu.1 hs with hs | hs
    ·exact hHl.2 s hs
    ·simp at hs;subst hs;simpa using hco.len
   ·have hk':(c.kind==0)=true:=by simp [hk]
    refine ⟨?_,?_⟩
    rotate_left
    ·rw [rstep R hR];unfold zwQ;simp only [jn,hhold,ye,if_false,hcx,ya,hk',if_true,hsx,hsy,zqr hco.len hn,zg1];rw [zl (by first | omega | (simp;omega)),ya,yJ];rfl
    rw [hstep R hR];unfold zdo;simp only [jn,hhold,ye,if_false,hcx,ya,hk',if_true,hx,hy,hnr];rw [zl (by first | omega | (simp;omega)),ya,yJ];exact (hgl _).trans (h0 _ _ (by simp [hk]))
  ·obtain ⟨s,s1,s2,s3,s4,s5⟩:=hco.sz hk;obtain ⟨cs,hcs,hcsO⟩:=zmp (n:=n) (box:=box) (e:=a) (f:=b) s1 s2 s3 s4 s5 hbx ha.delta hb.delta hn;have hrc:zaf n box c a.effect b.effect=some cs:=by
    have:=zkU (n:=n) (c:=c) sa sb s3 hn (box:=box) s1 s2 s4 s5 hbx;rw [this.2,← this.1,hcs]
   have hk0:(c.kind==0)=false:=by simp [hk]
   have hk1:(c.kind==1)=true:=by simp [hk]
   by_cases he:((cs.length:Int)==0)=true
   ·refine ⟨H++[⟨[],-1⟩],G,cs,⟨by first | omega | (simp;omega),λs hs=>?_⟩,hGl,hcsO,λR hR=>?_⟩
    ·rcases yu.1 hs with hs | hs
     ·exact hHl.2 s hs
     ·simp at hs;subst hs;simp
    ·refine ⟨?_,?_⟩
     rotate_left
     ·rw [rstep R hR];unfold zwQ;simp only [jn,hhold,ye,if_false,hcx,ya,hk0,hrc,he,if_true];rw [zl (by first | omega | (simp;omega)),ya,yJ];rfl
     rw [hstep R hR];unfold zdo;simp only [jn,hhold,ye,if_false,hcx,ya,hk0];refine (hgl _).trans ?_;unfold finS;simp only [jn,hk1,if_true,hcs,ya,he];rw [zl (by first | omega | (simp;omega)),ya,yJ];rfl
   ·refine ⟨H,G,cs,⟨by omega,hHl.2⟩,hGl,hcsO,λR hR=>?_⟩;refine ⟨?_,?_⟩
    rotate_left
    ·rw [rstep R hR];unfold zwQ;simp only [jn,hhold,ye,if_false,hcx,ya,hk0,hrc];rw [if_neg he];rfl
    rw [hstep R hR];unfold zdo;simp only [jn,hhold,ye,if_false,hcx,ya,hk0];refine (hgl _).trans ?_;unfold finS;simp only [jn,hk1,if_true,hcs,ya];rw [if_neg he];rfl
theorem zpn {n m q rows a b box} (ha:zuC a) (hb:zuC b) (hc:∀ c∈m.constraints,zve box.length c) (sa:zuI a) (sb:zuI b) (hl:m.constraints.length≤1000) (hr:rows.length≤1000) (hn:1000000≤n) :
  ztz (zu.l2 n m q rows a b box) n ([],0)=zjb n m q a b box (zvr n m q rows a b):=by
 have:=zcg (body:=zu.l2 n m q rows a b box) (k:=m.constraints.length) (n:=n) (st:=λb i=>(b,i)) (λi=>rowS n q rows a b i (m.constraints.getD i default)) (zjb n m q a b box) 1 []
  (λi f=>?_) (λg b6 i f j=>?_) (λg b6 j=>?_) (by omega)
 ·grind [zvr]
 ·grind [rowS]
 ·have e:m.constraints.getD i default=m.constraints[i]:=by simp_all
  have d:=hc _ (yi f);rw [e];simp only [zu.l2,zB f,if_true,jn,zb f,ya,sa.Sum ha d.len hn,sb.Sum hb d.len hn,zmV (show rows.length<1000000 by omega) hn,znx d.len hn];unfold rowS;by_cases h:(m.constraints[i].kind != 0)=true
  ·rw [if_pos h,if_pos h,ue,zd (by omega)]
  ·grind [kS,zl,zd]
 ·simp only [zu.l2,zaw];rfl
theorem zkD {n m q rows a b} (hF:Fuel n) (hS:zt9 m) (hV:zvh m) (hq:zfM m q=true) (ha:idx m.ztw q.e=some a) (hb:idx m.ztw q.f=some b) (hA:zuC a) (hB:zuC b) (hc:∀ c∈m.constraints,zve (boxM m).length c) (sa:zuI a) (sb:zuI b) (hr:rows.length≤1000) :
  zu n m q rows=if (rows.all λx=>!badR m x)=true then zjb n m q a b (boxM m) (zvr n m q rows a b) else some (⟨[],[],[],[]⟩,2):=by
 have o:=hF.big;have e:1000000≤n:=by omega
 have k:=hS.constraints;unfold zu;rw [zgU o hS,zfp.2 hV,hq,ya,if_neg (by simp)];have:=zat (body:=zu.l1 n m q rows) (l:=rows) (n:=n) (st:=λi=>i) (λx=>!badR m x) (some (⟨[],[],[],[]⟩,2)) (zjb n m q a b (boxM m) (zvr n m q rows a b)) (λd i p=>?_) (λd=>?_) (by omega)
 ·simp_all
 ·simp only [zu.l1,zb p,ya,grd];by_cases g:(decide (rows[i]<0)||decide (m.constraints.length≤rows[i]))=true
  ·have h:badR m rows[i]=true:=by grind [badR]
   simp_all
  ·have f:=g;simp only [yI,yf,not_or,Int.not_le,Int.not_lt] at f;obtain ⟨c,j⟩:=za6 f.1 f.2;unfold badR;simp only [g,yj,zd (i:=i) (by omega)];simp_all
 ·simp only [zu.l1,zmS hS hV.lay e]
  grind [zpn]
theorem zjv {n m} (hn:4294967296≤n) (hS:zt9 m) (hV:zvh m) {a} (ha:a∈m.ztw):zuI a:=
 ⟨((zlH hn hS hV).acts a ha).2.2.1,by have:=(zkO hS ha).delta;omega⟩
section
variable {E:Nat→Nat→Bool} {K:Nat}
theorem znX {p}:∀ {k i:Nat},anyR p i k=true↔∃ j,i≤j∧j<i+k∧p j=true
 | 0,i=>by simp [anyR];omega
 | k+1,i=>by
  simp only [anyR,yI,znX (k:=k) (i:=i+1)];constructor
  ·rintro (h | ⟨j,h1,h2,h3⟩)
   ·exact ⟨i,ym _,by omega,h⟩
   ·exact ⟨j,by omega,by omega,h3⟩
  ·rintro ⟨j,h1,h2,h3⟩;by_cases e:i=j
   ·subst e;exact .inl h3
   ·exact .inr ⟨j,by omega,by omega,h3⟩
theorem zhL:∀ (r:Nat) (ls:List (List Int)),lev E K r ls=ls.flatMap λl=>lev E K r [l]
 | 0,ls=>by simp [lev]
 | r+1,ls=>by
  have e:∀ l,lev E K (r+1) [l]=(ext E K l).flatMap λx=>lev E K r [x]:=λl=>by
   have:lev E K (r+1) [l]=lev E K r (ext E K l):=by simp [lev]
   rw [this,zhL r]
  simp only [e];rw [lev,zhL r,List.flatMap_assoc]
theorem zmx {l x} (h:l≠[]):fstN (l++[x])=fstN l:=by
 cases l with
 | nil=>exact absurd rfl h
 | cons a t=>rfl
theorem zdu {l:List Int} {x:Nat}:lstN (l++[(x:Int)])=x:=by simp [lstN]
theorem zdI {l x}:x∈ext E K l↔∃ j,fstN l+1≤j∧j<K∧E (lstN l) j=true∧(j:Int)∉l∧x=l++[(j:Int)]:=by
 constructor
 ·intro h;obtain ⟨i,h1,h2,h3,h4⟩:=ziz E K h;exact ⟨fstN l+1+i,by omega,by omega,h2,h3,h4⟩
 ·rintro ⟨j,h1,h2,h3,h4,rfl⟩;refine uc.2 ⟨j - (fstN l+1),yV.2 (by omega),?_⟩;have e:fstN l+1+(j - (fstN l+1))=j:=by omega
  unfold ext1;rw [e,if_pos (by simp [h3,h4])];simp
theorem zlY:∀ (d:Nat) (path:List Int) (first last:Nat),path≠[]→fstN path=first→lstN path=last →
  (neP E K d path first last=true↔∃ x∈lev E K d [path],zdT E x=true)
 | 0,path,first,last,_,h1,h2=>by
  subst h1 h2;simp [neP,lev,zdT]
 | d+1,path,first,last,h0,h1,h2=>by
  subst h1 h2;have e:lev E K (d+1) [path]=lev E K d (ext E K path):=by simp [lev]
  rw [e,zhL,neP,znX];simp only [uc];constructor
  ·rintro ⟨j,j1,j2,j3⟩;simp only [yd,yC,ud,yL,Bool.not_eq_false'] at j3;obtain ⟨⟨j3,j4⟩,j5⟩:=j3;obtain ⟨x,x1,x2⟩:=(zlY d (path++[(j:Int)]) (fstN path) j (by simp) (zmx h0) zdu).1 j5;exact ⟨x,⟨_,zdI.2 ⟨j,j1,by omega,j4,j3,rfl⟩,x1⟩,x2⟩
  ·rintro ⟨x,⟨y,y1,y2⟩,x2⟩;obtain ⟨j,j1,j2,j3,j4,rfl⟩:=zdI.1 y1;refine ⟨j,j1,by omega,?_⟩;simp only [yd,yC,ud,yL,Bool.not_eq_false'];exact ⟨⟨j4,j3⟩,(zlY d (path++[(j:Int)]) (fstN path) j (by simp) (zmx h0) zdu).2 ⟨x,y2,x2⟩⟩
theorem zfC {x}:x∈cycP E K↔∃ r,r<K∧x∈lev E K r (ones K)∧zdT E x=true:=by
 simp only [cycP,uc,yV,List.mem_filter]
theorem zfb:zvU E K=true↔∀ x,x∉cycP E K:=by
 unfold zvU;rw [zjl];constructor
 ·intro h x hx;obtain ⟨r,r1,r2,r3⟩:=zfC.1 hx;rw [zhL] at r2;obtain ⟨l,l1,l2⟩:=uc.1 r2;obtain ⟨a,a1,rfl⟩:=y9.1 l1;have:=ziO.1 (h (r+1) (by omega) (by omega)) a (yV.1 a1);rw [Nat.add_sub_cancel,(zlY r [(a:Int)] a a (by simp) (by simp [fstN]) (by simp [lstN])).2 ⟨x,l2,r3⟩] at this;cases this
 ·intro h len h1 h2;refine ziO.2 λa ha=>?_
  cases hn:neP E K (len - 1) [(a:Int)] a a with
  | false=>rfl
  | true=>
   obtain ⟨x,x1,x2⟩:=(zlY (len - 1) [(a:Int)] a a (by simp) (by simp [fstN]) (by simp [lstN])).1 hn;refine absurd (zfC.2 ⟨len - 1,by omega,?_,x2⟩) (h x);rw [zhL];exact uc.2 ⟨_,y9.2 ⟨a,yV.2 ha,rfl⟩,x1⟩
def vtx (l:List Int) (i:Nat):Nat:=(l.getD i 0).toNat
def Chn (E:Nat→Nat→Bool) (l:List Int):Prop:=∀ j,j+1<l.length→E (vtx l j) (vtx l (j+1))=true
theorem zgE {l x i} (h:i<l.length):vtx (l++[x]) i=vtx l i:=by
 unfold vtx;rw [yE,yE,yh h]
theorem zni {l:List Int} {x:Nat}:vtx (l++[(x:Int)]) l.length=x:=by
 unfold vtx;rw [yE];simp
theorem zlV {l}:lstN l=vtx l (l.length - 1):=by
 unfold lstN vtx;rw [List.getLastD_eq_getLast?,List.getLast?_eq_getElem?,yE]
theorem zq1 {l}:fstN l=vtx l 0:=by
 cases l <;> rfl
theorem Chn.snoc {l:List Int} {b:Nat} (h0:l≠[]):Chn E (l++[(b:Int)])↔Chn E l∧E (lstN l) b=true:=by
 have hp:0<l.length:=List.length_pos_iff.2 h0;constructor
 ·intro h;refine ⟨λj hj=>?_,?_⟩
  ·have:=h j (by simp;omega)
   rwa [zgE (by omega),zgE (by omega)] at this
  ·have:=h (l.length - 1) (by simp;omega)
   rwa [zgE (by omega),show l.length - 1+1=l.length by omega,zni,← zlV] at this
 ·rintro ⟨h1,h2⟩ j hj;simp only [yQ,yU,uj] at hj;by_cases e:j+1<l.length
  ·rw [zgE (by omega),zgE (by omega)];exact h1 j e
  ·have e2:j+1=l.length:=by omega
   rw [zgE (by omega),e2,zni,show j=l.length - 1 by omega,← zlV];exact h2
theorem zon:∀ {r:Nat} {x:List Int},x∈lev E K r (ones K)→x≠[]:=λ{r x} h e=>by
 have:=(zgw r zgd x h).pos;rw [e] at this;simp at this
theorem zp7:∀ {r:Nat} {x:List Int},x∈lev E K r (ones K)→Chn E x
 | 0,x,h=>by
  obtain ⟨a,-,rfl⟩:=y9.1 h;intro j hj;simp at hj
 | r+1,x,h=>by
  rw [zhM] at h;obtain ⟨y,y1,y2⟩:=uc.1 h;obtain ⟨j,-,-,j3,-,rfl⟩:=zdI.1 y2;exact (Chn.snoc (zon y1)).2 ⟨zp7 y1,j3⟩
theorem zop {F}:∀ {r:Nat} {x:List Int},x∈lev F K r (ones K)→Chn E x→x∈lev E K r (ones K)
 | 0,x,h,_=>h
 | r+1,x,h,hc=>by
  rw [zhM] at h ⊢;obtain ⟨y,y1,y2⟩:=uc.1 h;obtain ⟨j,j1,j2,-,j4,rfl⟩:=zdI.1 y2;obtain ⟨c1,c2⟩:=(Chn.snoc (zon y1)).1 hc;exact uc.2 ⟨y,zop y1 c1,zdI.2 ⟨j,j1,j2,c2,j4,rfl⟩⟩
def zwF (E:Nat→Nat→Bool) (l:List Int):Prop:=∀ i,i<l.length→E (vtx l i) (vtx l ((i+1) % l.length))=true
theorem zmr {l} (h0:l≠[]):zwF E l↔Chn E l∧zdT E l=true:=by
 have hp:0<l.length:=List.length_pos_iff.2 h0;unfold zdT;rw [zlV,zq1];constructor
 ·intro h;refine ⟨λj hj=>?_,?_⟩
  ·have:=h j (by omega)
   rwa [Nat.mod_eq_of_lt hj] at this
  ·have:=h (l.length - 1) (by omega)
   rwa [show l.length - 1+1=l.length by omega,Nat.mod_self] at this
 ·rintro ⟨h1,h2⟩ i hi;by_cases e:i+1<l.length
  ·rw [Nat.mod_eq_of_lt e];exact h1 i e
  ·have e2:i+1=l.length:=by omega
   rw [e2,Nat.mod_self,show i=l.length - 1 by omega];exact h2
theorem zly {x} (h:x∈cycP E K):zwF E x:=by
 obtain ⟨r,-,r2,r3⟩:=zfC.1 h;exact (zmr (zon r2)).2 ⟨zp7 r2,r3⟩
theorem zjN {F x} (h:x∈cycP F K) (hc:zwF E x):x∈cycP E K:=by
 obtain ⟨r,r1,r2,-⟩:=zfC.1 h;obtain ⟨c1,c2⟩:=(zmr (zon r2)).1 hc;exact zfC.2 ⟨r,r1,zop r2 c1,c2⟩
theorem zfX {x} (h:x∈cycP E K):zuD K x:=by
 obtain ⟨r,-,r2,-⟩:=zfC.1 h;exact zgw r zgd x r2
theorem zwF.mono {F x} (hp:zuD K x) (h:∀ a b,a<K→b<K→E a b=true→F a b=true) (hc:zwF E x):zwF F x:=λi hi=>by
 have hm:∀ j,j<x.length→vtx x j<K:=λj hj=>by
  have:=hp.mem x[j] (yi hj);unfold vtx;rw [yE,yw hj];simp only [yj];omega
 exact h _ _ (hm i hi) (hm _ (Nat.mod_lt _ (by omega))) (hc i hi)
structure Walk (E:Nat→Nat→Bool) (K p:Nat) (f:Nat→Nat):Prop where
 per:∀ i,f (i+p)=f i
 lt:∀ i,f i<K
 edge:∀ i,E (f i) (f (i+1))=true
theorem argmin (f:Nat→Nat):∀ p,0<p→∃ t,t<p∧∀ j,j<p→f t≤f j
  | 0,h=>by omega
  | 1, _ => ⟨0, by omega, fun j hj => by have : j = 0 := by omega
                                         subst this;exact ym _⟩
  | p+2,_=>by
    obtain ⟨t,t1,t2⟩:=argmin f (p+1) (by omega);by_cases h:f t≤f (p+1)
    · exact ⟨t,by omega,λj hj=>by
        by_cases e:j=p+1
        · subst e;exact h
        · exact t2 j (by omega)⟩
    · exact ⟨p+1,by omega,λj hj=>by
        by_cases e:j=p+1
        · subst e;exact ym _
        · have:=t2 j (by omega);omega⟩
theorem zsu {f:Nat→Nat} {p:Nat} (h:∀ i,f (i+p)=f i):∀ i,f i=f (i % p):=λi=>by
 have:∀ k i,f (i+k*p)=f i:=λk=>by
  induction k with
  | zero=>intro i;simp
  | succ k ih=>intro i;rw [uw,← Nat.add_assoc,h,ih]
 have e:=this (i / p) (i % p);rw [Nat.mul_comm,Nat.mod_add_div] at e;exact e
theorem zqR {p:Nat} {f:Nat→Nat} (hp:0<p) (hw:Walk E K p f) (hinj:∀ i j,i<p→j<p→f i=f j→i=j):∃ t,t<p∧((List.range p).map λi=>((f (t+i):Nat):Int))∈cycP E K:=by
 obtain ⟨t,t1,t2⟩:=argmin f p hp;have gmod:=zsu hw.per;have ginj:∀ i j,i<p→j<p→f (t+i)=f (t+j)→i=j:=λi j hi hj e=>by
  rw [gmod (t+i),gmod (t+j)] at e;have:=hinj _ _ (Nat.mod_lt _ hp) (Nat.mod_lt _ hp) e;have h1:(t+i) % p=if t+i<p then t+i else t+i - p:=by
   split
   ·rw [Nat.mod_eq_of_lt ‹_›]
   ·rw [Nat.mod_eq_sub_mod (by omega),Nat.mod_eq_of_lt (by omega)]
  have h2:(t+j) % p=if t+j<p then t+j else t+j - p:=by
   split
   ·rw [Nat.mod_eq_of_lt ‹_›]
   ·rw [Nat.mod_eq_sub_mod (by omega),Nat.mod_eq_of_lt (by omega)]
  rw [h1,h2] at this;split at this <;> split at this <;> omega
 have gmin:∀ j,0<j→j<p→f t+1≤f (t+j):=λj h0 hj=>by
  have h1:f t≤f (t+j):=by rw [gmod (t+j)];exact t2 _ (Nat.mod_lt _ hp)
  have h2:f t≠f (t+j):=λe=>by
   have:=ginj 0 j (by omega) hj (by simpa using e);omega
  omega
 have hlev:∀ r,r<p→((List.range (r+1)).map λi=>((f (t+i):Nat):Int))∈lev E K r (ones K):=λr=>by
  induction r with
  | zero=>
   intro _;exact y9.2 ⟨f t,yV.2 (hw.lt t),by simp [ux]⟩
  | succ r ih2=>
   intro hr;have hy:=ih2 (by omega);rw [zhM];refine uc.2 ⟨_,hy,zdI.2 ⟨f (t+(r+1)),?_,hw.lt _,?_,?_,?_⟩⟩
   ·have:fstN ((List.range (r+1)).map λi=>((f (t+i):Nat):Int))=f t:=by
     rw [List.range_succ_eq_map];simp [fstN]
    rw [this];exact gmin _ (by omega) hr
   ·have:lstN ((List.range (r+1)).map λi=>((f (t+i):Nat):Int))=f (t+r):=by
     rw [ux,ul];exact zdu
    rw [this];exact hw.edge (t+r)
   ·intro hm;obtain ⟨i,i1,i2⟩:=y9.1 hm;have:=ginj i (r+1) (by have:=yV.1 i1;omega) hr (by omega);have:=yV.1 i1;omega
   ·rw [ux (n:=r+1),ul];rfl
 have hl:=hlev (p - 1) (by omega);rw [show p - 1+1=p by omega] at hl;have hpl:=(zgw (p - 1) zgd _ hl).len;simp only [yK,uM] at hpl;refine ⟨t,t1,zfC.2 ⟨p - 1,by omega,hl,?_⟩⟩;unfold zdT;have h1:lstN ((List.range p).map λi=>((f (t+i):Nat):Int))=f (t+(p - 1)):=by
  obtain ⟨k,rfl⟩:∃ k,p=k+1:=⟨p - 1,by omega⟩
  rw [ux,ul];exact zdu
 have h2:fstN ((List.range p).map λi=>((f (t+i):Nat):Int))=f t:=by
  obtain ⟨k,rfl⟩:∃ k,p=k+1:=⟨p - 1,by omega⟩
  rw [List.range_succ_eq_map];simp [fstN]
 rw [h1,h2];have:=hw.edge (t+(p - 1))
 rwa [show t+(p - 1)+1=t+p by omega,hw.per] at this
theorem zru:∀ (p:Nat),0<p→∀ f,Walk E K p f→∃ x,x∈cycP E K:=by
 intro p
 induction p using Nat.strongRecOn with
 | ind p ih=>
  intro hp f hw;by_cases hd:∃ i j,i<j∧j<p∧f i=f j
  ·obtain ⟨i,j,h1,h2,h3⟩:=hd;have hd0:0<j - i:=by omega
   refine ih (j - i) (by omega) hd0 (λn=>f (i+n % (j - i))) ⟨λn=>by simp,λn=>hw.lt _,λn=>?_⟩;have hlt:=Nat.mod_lt n hd0;by_cases e:n % (j - i)+1<j - i
   ·have:(n+1) % (j - i)=n % (j - i)+1:=by
     rw [Nat.add_mod,Nat.mod_eq_of_lt (a:=1) (by omega),Nat.mod_eq_of_lt e]
    rw [this];exact hw.edge _
   ·have e2:n % (j - i)+1=j - i:=by omega
    have:(n+1) % (j - i)=0:=by
     by_cases e1:j - i=1
     ·rw [e1,Nat.mod_one]
     ·rw [Nat.add_mod,Nat.mod_eq_of_lt (a:=1) (by omega),e2,Nat.mod_self]
    rw [this,uy,h3];have:=hw.edge (i+n % (j - i))
    rwa [show i+n % (j - i)+1=j by omega] at this
  ·have hinj:∀ i j,i<p→j<p→f i=f j→i=j:=λi j hi hj e=>by
    rcases Nat.lt_trichotomy i j with h | h | h
    ·exact absurd ⟨i,j,h,hj,e⟩ hd
    ·exact h
    ·exact absurd ⟨j,i,h,hi,e.symm⟩ hd
   obtain ⟨t,-,ht⟩:=zqR hp hw hinj;exact ⟨_,ht⟩
def zxN (E:Nat→Nat→Bool) (K:Nat) (S:Nat→Prop):Prop:=∀ a,a<K→S a→∃ b,b<K∧S b∧E b a=true
theorem zkT {S} (hS:zxN E K S) {s} (hs:s<K) (hs2:S s):∃ x,x∈cycP E K:=by
 have hch:∀ a:{a:Nat // a<K∧S a},∃ b:{a:Nat // a<K∧S a},E b.1 a.1=true:=λa=>by
  obtain ⟨b,b1,b2,b3⟩:=hS a.1 a.2.1 a.2.2;exact ⟨⟨b,b1,b2⟩,b3⟩
 let pred:=λa=>Classical.choose (hch a)
 have hpred:∀ a,E (pred a).1 a.1=true:=λa=>Classical.choose_spec (hch a)
 let u:Nat→{a:Nat // a<K∧S a}:=λn=>Nat.rec ⟨s,hs,hs2⟩ (λ_ a=>pred a) n
 have hu:∀ n,E (u (n+1)).1 (u n).1=true:=λn=>hpred (u n)
 have hrep:∃ i j,i<j∧j≤K∧(u i).1=(u j).1:=by
  refine Classical.byContradiction λhno=>?_
  have hnd:((List.range (K+1)).map λi=>((u i).1:Int)).Nodup:=by
   unfold List.Nodup;rw [List.pairwise_map];refine List.Pairwise.imp_of_mem (λ{a b} ha hb hab e=>?_) List.pairwise_lt_range;exact hno ⟨a,b,hab,by have:=yV.1 hb;omega,by omega⟩
  have:=zhS (K:=K) hnd λx hx=>by
   obtain ⟨i,-,rfl⟩:=y9.1 hx;have:=(u i).2.1;omega
  simp only [yK,uM] at this;omega
 obtain ⟨i,j,h1,h2,h3⟩:=hrep;have hd0:0<j - i:=by omega
 refine zru (j - i) hd0 (λn=>(u (j - n % (j - i))).1) ⟨λn=>by simp,λn=>(u _).2.1,λn=>?_⟩;have hlt:=Nat.mod_lt n hd0;by_cases e:n % (j - i)+1<j - i
 ·have:(n+1) % (j - i)=n % (j - i)+1:=by
   rw [Nat.add_mod,Nat.mod_eq_of_lt (a:=1) (by omega),Nat.mod_eq_of_lt e]
  simp only [this];have:=hu (j - (n % (j - i)+1))
  rwa [show j - (n % (j - i)+1)+1=j - n % (j - i) by omega] at this
 ·have e2:n % (j - i)+1=j - i:=by omega
  have:(n+1) % (j - i)=0:=by
   by_cases e1:j - i=1
   ·rw [e1,Nat.mod_one]
   ·rw [Nat.add_mod,Nat.mod_eq_of_lt (a:=1) (by omega),e2,Nat.mod_self]
  simp only [this,Nat.sub_zero];rw [← h3];have:=hu i
  rwa [show i+1=j - n % (j - i) by omega] at this
theorem zo7 {x} (h:x∈cycP E K):zxN E K (λa=>(a:Int)∈x)∧∃ a,a<K∧(a:Int)∈x:=by
 have hp:=zfX h;have hc:=zly h;have hpos:=hp.pos;have hv:∀ j,j<x.length→vtx x j<K∧((vtx x j:Nat):Int)∈x∧x[j]? = some ((vtx x j:Nat):Int):=λj hj=>by
  have hm:=hp.mem x[j] (yi hj);have e:((vtx x j:Nat):Int)=x[j]:=by
   unfold vtx;rw [yE,yw hj];simp only [yj];omega
  rw [e];exact ⟨by omega,yi hj,yw hj⟩
 refine ⟨λa ha hm=>?_,vtx x 0,(hv 0 (by omega)).1,(hv 0 (by omega)).2.1⟩;obtain ⟨i,hi,e⟩:=List.getElem_of_mem hm;have hj:∃ j,j<x.length∧(j+1) % x.length=i:=by
  by_cases e0:i=0
  ·exact ⟨x.length - 1,by omega,by rw [show x.length - 1+1=x.length by omega,Nat.mod_self,e0]⟩
  ·exact ⟨i - 1,by omega,by rw [show i - 1+1=i by omega,Nat.mod_eq_of_lt hi]⟩
 obtain ⟨j,j1,j2⟩:=hj;have:=hc j j1;rw [j2] at this;have ei:vtx x i=a:=by
  unfold vtx;rw [yE,yw hi,e];simp
 rw [ei] at this;exact ⟨vtx x j,(hv j j1).1,(hv j j1).2.1,this⟩
end
theorem zkn {α:Type} {l:List α} {i:Nat} {x:α} (h:i<l.length):sto l (i:Int) x=some (l.set i x):=by
 unfold sto;simp [h]
def Rch (E:Nat→Nat→Bool) (K a t:Nat):Prop:=∀ S:Nat→Prop,S a→(∀ b c,S b→c<K→E b c=true→S c)→S t
theorem Rch.refl {E K a}:Rch E K a a:=λ_ h _=>h
theorem Rch.step {E K a b c} (h:Rch E K a b) (hc:c<K) (he:E b c=true):Rch E K a c:=λS e d=>d b c (h S e d) hc he
theorem zqb {l} {j:Nat} (h:l.length<1000000):idx (l++[(j:Int)]) (ztH ((l++[(j:Int)]).length:Int) 1)=some (j:Int):=by
 have a:(l++[(j:Int)]).length=l.length+1:=by simp
 grind [zeD,zb]
theorem zjo {s:List Bool} {j} (hj:j<s.length) (h:s.getD j false=false):(s.set j true).count true=s.count true+1:=by
 grind
theorem zf1 {s:List Bool} {j v} (hj:j<s.length):(s.set j true).getD v false=if v=j then true else s.getD v false:=by
 grind
structure BInv (E:Nat→Nat→Bool) (K a t:Nat) (s:List Bool) (ls:List (List Int)):Prop where
 len:s.length=K
 cnt:ls.length≤s.count true
 pl:∀ l∈ls,1≤l.length∧l.length≤s.count true∧idx l (ztH (l.length:Int) 1)=some ((lstN l:Nat):Int)∧lstN l<K∧s.getD (lstN l) false=true
 rch:∀ v,v<K→s.getD v false=true→Rch E K a v
 fro:s.getD a false=true
 don:∀ v,v<K→s.getD v false=true→(∃ l∈ls,lstN l=v)∨(v≠t∧∀ c,c<K→E v c=true→s.getD c false=true)
theorem BInv.mark {E K a t s l r j} (h6:K≤6) (h:BInv E K a t s (l::r)) (hj:j<K) (he:E (lstN l) j=true) (hs:s.getD j false=false):BInv E K a t (s.set j true) (l::(r++[l++[(j:Int)]])):=by
 have hjl:j<s.length:=by rw [h.len];exact hj
 have hc:=zjo hjl hs
 obtain ⟨p1,p2,p3,p4,p5⟩:=h.pl l (by simp)
 have hcl:s.count true≤s.length:=List.count_le_length
 have hlen:=h.len
 have hsn:∀ v,s.getD v false=true→(s.set j true).getD v false=true:=λv hv=>by
  grind
 refine ⟨by grind,?_,λx hx=>?_,λv hv hv2=>?_,hsn _ h.fro,λv hv hv2=>?_⟩
 ·have:=h.cnt
  grind
 ·have hold:∀ y∈l::r,1≤y.length∧y.length≤(s.set j true).count true∧idx y (ztH (y.length:Int) 1)=some ((lstN y:Nat):Int)∧lstN y<K∧(s.set j true).getD (lstN y) false=true:=λy hy=>by
   obtain ⟨q1,q2,q3,q4,q5⟩:=h.pl y hy
   exact ⟨q1,by omega,q3,q4,hsn _ q5⟩
  rcases yG.1 hx with rfl | hx
  ·exact hold _ (by simp)
  ·rcases yu.1 hx with hx | hx
   ·grind
   ·simp only [yM] at hx
    subst hx
    rw [zqb (by omega),zdu]
    exact ⟨by simp,by simp;omega,rfl,hj,by rw [zf1 hjl];simp⟩
 ·rw [zf1 hjl] at hv2
  by_cases e:v=j
  ·subst e;exact (h.rch _ p4 p5).step hj he
  ·rw [if_neg e] at hv2;exact h.rch v hv hv2
 ·rw [zf1 hjl] at hv2
  by_cases e:v=j
  ·subst e;exact .inl ⟨l++[(v:Int)],by simp,zdu⟩
  ·rw [if_neg e] at hv2
   rcases h.don v hv hv2 with ⟨x,hx,e⟩ | ⟨q1,q2⟩
   ·exact .inl ⟨x,by rcases yG.1 hx with rfl | hx <;> simp [*],e⟩
   ·exact .inr ⟨q1,λc hc he=>hsn c (q2 c hc he)⟩
theorem BInv.pop {E K a t s l r} (h:BInv E K a t s (l::r)) (hne:lstN l≠t) (hall:∀ c,c<K→E (lstN l) c=true→s.getD c false=true):BInv E K a t s r:=by
 refine ⟨h.len,by have:=h.cnt;grind,λx b=>h.pl x (by simp [b]),h.rch,h.fro,λv f d=>?_⟩
 rcases h.don v f d with ⟨x,b,e⟩ | q
 ·grind
 grind
def BQ (E:Nat→Nat→Bool) (K a t:Nat) (r:Option (List Int)):Prop:=∃ l,r=some l∧(l≠[]↔Rch E K a t)
theorem zst {n} {g} {K a t} (hg:zuZ g K) (hn:1000000≤n) {l} {rec117} {M} (hrec:∀ s ls m,BInv (hasP g) K a t s ls→(K - s.count true)+ls.length<M→BQ (hasP g) K a t (rec117 (s,ls,m))) (hne:lstN l≠t)
  {s r m} (hB:BInv (hasP g) K a t s (l::r)) (hM:(K - s.count true)+(r.length+1)≤M):BQ (hasP g) K a t (ztz (zN.l2 n g rec117 l ((lstN l:Nat):Int)) n (s,l::r,m,0)):=by
 have h6:=hg.le
 refine zde (body:=zN.l2 n g rec117 l ((lstN l:Nat):Int)) (λs=>K - s.2.2.2.toNat) (λs=>∃ (j:Nat) (r:List (List Int)),s.2.2.2=(j:Int)∧j≤K∧s.2.1=l::r∧BInv (hasP g) K a t s.1 (l::r)∧(K - s.1.count true)+(r.length+1)≤M∧∀ c,c<j→hasP g (lstN l) c=true→s.1.getD c false=true) (λ_ r=>BQ (hasP g) K a t r) (λrec s hI hr=>?_) n _ ⟨0,r,rfl,yo _,rfl,hB,hM,by simp⟩ (by grind)
 obtain ⟨s1,s2,s3,s4⟩:=s
 obtain ⟨j,r,e4,hj,e2,hB,hM,hd⟩:=hI
 simp only at e4 e2 hB hM hd
 subst e4 e2
 obtain ⟨p1,p2,p3,p4,p5⟩:=hB.pl l (by simp)
 have hcl:s1.count true≤s1.length:=List.count_le_length
 have hlen:=hB.len
 by_cases h:j<K
 ·have hlt:decide ((j:Int)<g.size)=true:=by rw [hg.size];grind
  have hjl:j<s1.length:=by omega
  have hx:idx s1 (j:Int)=some (s1.getD j false):=by grind [zb]
  have hcnt:=hB.cnt
  simp only [yU] at hcnt
  simp only [zN.l2,hlt,if_true,jn,zkX hg p4 h,ya,hx,yr,yj,yB,grd,zd (i:=j) (by omega)]
  split <;> rename_i hc
  ·simp only [yd,yC] at hc
   rw [zkn hjl,ya,zl (by simp;omega),ya,zl (by simp;omega),ya,zl (by simp;omega),ya]
   have hB':=hB.mark h6 h hc.1 hc.2
   have hcc:=zjo hjl hc.2
   refine hr (s1.set j true,l::(r++[l++[(j:Int)]]),s3+1,((j+1:Nat):Int)) ⟨j+1,r++[l++[(j:Int)]],rfl,by omega,rfl,hB',?_,λc hcj he=>?_⟩ (by simp only [yt];omega)
   ·have:(s1.set j true).count true≤K:=by have:=List.count_le_length (a:=true) (l:=s1.set j true);simp at this;omega
    simp only [yQ,yU,uj];omega
   ·rw [zf1 hjl]
    by_cases e:c=j
    ·rw [if_pos e]
    ·rw [if_neg e];exact hd c (by omega) he
  ·refine hr (s1,l::r,s3,((j+1:Nat):Int)) ⟨j+1,r,rfl,by omega,rfl,hB,hM,λc hcj he=>?_⟩ (by simp only [yt];omega)
   by_cases e:c=j
   ·subst e
    cases hs:s1.getD c false with
    | true=>rfl
    | false=>simp only [yd,yC] at hc;exact absurd ⟨he,hs⟩ hc
   ·exact hd c (by omega) he
 ·have hjK:j=K:=by omega
  subst hjK
  have hge:decide ((j:Int)<g.size)=false:=by rw [hg.size];simp
  have hcut:cut (l::r) 1 ((l::r).length:Int)=some r:=zim (l:=l::r) (a:=1) (by simp)
  simp only [zN.l2,hge,ye,if_false,hcut,ya]
  exact hrec _ _ _ (hB.pop hne hd) (by omega)
theorem zlJ {n} {g} {K a t} (hg:zuZ g K) (hn:1000000≤n) (ha:a<K) (ht:t<K):BQ (hasP g) K a t (zN n g (a:Int) (t:Int)):=by
 have h6:=hg.le
 have hrep:a<(List.replicate K false).length:=by grind
 have hmk:mkl 1 g.size (false:Bool)=some (List.replicate K false):=by
  rw [hg.size];unfold mkl;grind
 have hf:(List.replicate K false).getD a false=false:=by grind
 have hcnt:=zjo hrep hf
 rw [List.count_replicate] at hcnt
 simp only [beq_iff_eq,ye,if_false,uh] at hcnt
 have hget:∀ v,((List.replicate K false).set a true).getD v false=true→v=a:=λv hv=>by
  grind
 have hl1:lstN [(a:Int)]=a:=by simp [lstN]
 have h0:BInv (hasP g) K a t ((List.replicate K false).set a true) [[(a:Int)]]:=by
  refine ⟨by simp,by grind,λl hl=>?_,λv _ hv=>by grind [Rch.refl],by grind,λv _ hv=>.inl ⟨[(a:Int)],by simp,by grind⟩⟩
  simp only [yM] at hl
  subst hl
  rw [hl1]
  exact ⟨by simp,by grind,zqb (l:=[]) (by simp),ha,by grind⟩
 unfold zN
 rw [hmk,ya,zb hrep,ya,zkn hrep,ya]
 refine zde (body:=zN.l1 n g (t:Int)) (λs=>(K - s.1.count true)+s.2.1.length) (λs=>BInv (hasP g) K a t s.1 s.2.1) (λ_ r=>BQ (hasP g) K a t r) (λrec s hI hr=>?_) n _ h0 (by grind)
 obtain ⟨s1,s2,s3⟩:=s
 simp only at hI
 cases s2 with
 | nil=>
  simp only [zN.l1,uj,Int.ofNat_zero,Int.lt_irrefl,decide_false,ye,if_false]
  refine ⟨[],by simp,?_⟩
  simp only [ne_eq,not_true_eq_false,false_iff]
  intro hR
  have hd:∀ v,v<K→s1.getD v false=true→v≠t∧∀ c,c<K→hasP g v c=true→s1.getD c false=true:=λv hv hs=>by
   rcases hI.don v hv hs with ⟨x,hx,_⟩ | q
   ·simp at hx
   ·exact q
  have:=hR (λv=>v<K∧s1.getD v false=true) ⟨ha,hI.fro⟩ λb c hb hc he=>⟨hc,(hd b hb.1 hb.2).2 c hc he⟩
  exact (hd t this.1 this.2).1 rfl
 | cons l r=>
  obtain ⟨p1,p2,p3,p4,p5⟩:=hI.pl l (by simp)
  have hpos:decide ((0:Int)<((l::r).length:Int))=true:=decide_eq_true (by simp only [yU];omega)
  have hi0:idx (l::r) 0=some l:=rfl
  simp only [zN.l1,hpos,if_true,hi0,ya,p3]
  split <;> rename_i hc
  ·refine ⟨l,rfl,?_⟩
   have e:lstN l=t:=by
    have:((lstN l:Nat):Int)=(t:Int):=by simpa using hc
    omega
   rw [e] at p4 p5
   exact ⟨λ_=>hI.rch t p4 p5,λ_ e=>by subst e;simp at p1⟩
  ·exact zst hg hn (M:=(K - s1.count true)+(r.length+1)) (λs ls m hB hM=>hr (s,ls,m) hB (by simpa using hM)) (λe=>hc (by rw [e];simp)) hI (ym _)
theorem zjO {n} {ztP} {K a t:Nat} (h6:K≤6) (hl:ztP.length=K*K) (hn:1000000≤n) (ha:a<K) (ht:t<K):BQ (hasP ⟨(K:Int),ztP⟩) K a t (zdU n (K:Int) ztP (a:Int) (t:Int)):=by
 have c:zuZ ⟨K,ztP⟩ K:=⟨rfl,h6,hl⟩
 have d :=ub h6 h6
 have e:ztG K K=((K*K)):=by
  grind [ztG,zao]
 have b:zbV n K ztP=some (⟨K,ztP⟩,true):=by
  unfold zbV
  simp;omega
 unfold zdU
 grind [zlJ]
section
variable (E:Nat→Nat→Bool) (K a t:Nat)
def extR (l:List Int):List (List Int):=(List.range K).flatMap λj=>if (E (lstN l) j&&!decide ((j:Int)∈l))=true then [l++[(j:Int)]] else []
def levA:Nat→List (List Int)
 | 0=>[[(a:Int)]]
 | r+1=>(levA r).flatMap (extR E K)
def zxI:Nat→Nat→List Int
 | 0,_=>[]
 | d+1,i=>match (levA E K a i).find? (λl=>lstN l==t) with
  | some l=>l
  | none=>zxI d (i+1)
def pathR:List Int:=zxI E K a t K 0
theorem zq7 {l x}:x∈extR E K l↔∃ b,b<K∧E (lstN l) b=true∧(b:Int)∉l∧x=l++[(b:Int)]:=by
 simp only [extR]
 grind
theorem zlX {r x}:x∈levA E K a (r+1)↔∃ l,l∈levA E K a r∧∃ b,b<K∧E (lstN l) b=true∧(b:Int)∉l∧x=l++[(b:Int)]:=by
 grind [levA,zq7]
end
theorem zhK {E K a} (ha:a<K):∀ {r x},x∈levA E K a r→zuD K x∧x.length=r+1∧lstN x<K∧Rch E K a (lstN x)
 | 0,x,h=>by
  simp only [levA,yM] at h
  subst h
  have d:lstN [a]=a:=by simp [lstN]
  exact ⟨zlZ ha,rfl,by simp_all,by grind [Rch.refl]⟩
 | r+1,x,h=>by
  obtain ⟨l,d,b,c,f,g,rfl⟩:=(zlX E K a).1 h
  obtain ⟨i,j,k,e⟩:=zhK ha d
  rw [zdu]
  exact ⟨i.snoc c g,by grind,c,e.step c f⟩
theorem zom {E K a}:∀ {r x} {c:Nat},x∈levA E K a r→(c:Int)∈x→∃ r',r'≤r∧∃ y,y∈levA E K a r'∧lstN y=c
 | 0,x,c,h,d=>by
  simp only [levA,yM] at h
  subst h
  exact ⟨0,ym _,[a],by simp [levA],by grind [lstN]⟩
 | r+1,x,c,h,d=>by
  obtain ⟨l,f,b,i,g,e,rfl⟩:=(zlX E K a).1 h
  rcases yu.1 d with d | d
  ·obtain ⟨r',g,e⟩:=zom f d
   grind
  ·exact ⟨r+1,ym _,_,h,by grind [zdu]⟩
theorem zk4 {E K a t} (ha:a<K):∀ {d i},zxI E K a t d i≠[]→Rch E K a t
 | 0,_,h=>absurd rfl h
 | d+1,i,h=>by
  simp only [zxI] at h
  split at h <;> rename_i b
  ·have e:=List.find?_some b
   have c:=(zhK ha (List.mem_of_find?_eq_some b)).2.2.2
   simp_all
  ·exact zk4 ha h
theorem zk3 {E K a t} (ha:a<K):∀ {d i},zxI E K a t d i=[]→∀ j,i≤j→j<i+d→∀ l∈levA E K a j,lstN l≠t
 | 0,_,_=>λj c f=>by omega
 | d+1,i,h=>λj c f l b=>by
  simp only [zxI] at h
  split at h <;> rename_i g
  ·have k:=(zhK ha (List.mem_of_find?_eq_some g)).1.pos
   simp_all
  ·by_cases e:j=i
   ·simp_all
   ·exact zk3 ha h j (by omega) (by omega) l b
theorem zkb {E K a t} (ha:a<K):pathR E K a t≠[]↔Rch E K a t:=by
 constructor
 ·exact zk4 ha
 ·intro k g
  have o:=zk3 ha g
  obtain ⟨j,i,l,f,e⟩:=k (λv=>∃ j,j<K∧∃ l,l∈levA E K a j∧lstN l=v) ⟨0,by omega,[a],by simp [levA],by simp [lstN]⟩ (λb c ⟨j,i,l,f,e⟩ h g=>by
   by_cases n:(c:Int)∈l
   ·grind [zom]
   ·have d :=(zlX E K a).2 ⟨l,f,c,h,by simp_all,n,rfl⟩
    obtain ⟨m,q,r,p⟩:=zhK ha d
    have:=m.len
    grind [zdu])
  grind
theorem rem_n {r k:Nat} (h0:0<k):zuV (r:Int) (k:Int)=some ((r % k:Nat):Int):=by
 unfold zuV
 grind
theorem quo_n {r k:Nat} (h0:0<k) (hr:r≤1000000):zuU (r:Int) (k:Int)=some ((r / k:Nat):Int):=by
 have b:r / k≤r:=Nat.div_le_self _ _
 have a:(r:Int).tdiv k=((r / k)):=by simp_all
 unfold zuU
 grind [zao]
theorem zs8 {r k:Nat} (h:r<k*k):r / k<k:=by
 rcases Nat.eq_zero_or_pos k with e | e
 ·simp_all
 ·exact (Nat.div_lt_iff_lt_mul e).2 h
structure GrOK (L:Nat) (g:ztR) (K:Nat):Prop where
 size:g.size=(K:Int)
 pos:1≤K
 le:K≤6
 len:g.least.length=K*K
 fst:0≤g.first∧g.first+((K*K:Nat):Int)≤(L:Int)
 num:∀ x∈g.least,-4000000≤x∧x≤4000000
theorem GrOK.sq {L g K} (h:GrOK L g K):K*K≤36:=ub h.le h.le
theorem GrOK.cell {L g K} (h:GrOK L g K) (hL:L≤1000000) {k} (hk:k<K*K):ztu g.first (k:Int)=g.first+(k:Int)∧0≤g.first+(k:Int)∧g.first+(k:Int)<(L:Int):=by
 have a:=h.fst
 exact ⟨zao (by omega) (by omega),by omega,by omega⟩
def lstG (g:ztR) (k:Nat):Int:=g.least.getD k 0
def zv2 (g:ztR) (b:List Range):List Bool:=(List.range g.least.length).map λj=>decide (lstG g j≤(rgP b (g.first+(j:Int))).lo)
def zer (g:ztR) (b:List Range) (k:Nat):Bool:=!(pathR (hasP ⟨g.size,zv2 g b⟩) g.size.toNat (k % g.size.toNat) (k / g.size.toNat)).isEmpty
def cutP (g:ztR) (b:List Range) (k:Nat):Range:=if (decide (lstG g k≤(rgP b (g.first+(k:Int))).hi)&&zer g b k)=true then ⟨(rgP b (g.first+(k:Int))).lo,lstG g k - 1⟩ else rgP b (g.first+(k:Int))
theorem zlU {g} {k:Nat} (h:k<g.least.length):idx g.least (k:Int)=some (lstG g k):=by
 grind [zb,lstG]
theorem zhY (g b):(zv2 g b).length=g.least.length:=by simp [zv2]
theorem zji {n L K:Nat} {g:ztR} {b} {k} (hg:GrOK L g K) (hb:b.length=L) (hL:L≤1000) (hk:k<K*K) (hn:1000000≤n):zbi n g b (k:Int)=some (zer g b k):=by
 have hsq:=hg.sq
 have h6:=hg.le
 have h1:=hg.pos
 have hlen:=hg.len
 have hmk:mkl 1 (g.least.length:Int) (false:Bool)=some (List.replicate g.least.length false):=by
  unfold mkl;grind
 unfold zbi
 rw [hmk,ya]
 have:=zbd (body:=zbi.l1 n g b (k:Int)) (len:=g.least.length) (st:=λ(s:List Bool) i=>(s,(i:Int))) (g:=λ_ _=>some (zer g b k)) (λi s=>s=(zv2 g b).take i++List.replicate (g.least.length - i) false) (λrec i s hi hI hr=>?_) (λrec s hI=>?_) n 0 (List.replicate g.least.length false) (yo _) (by omega) (by simp)
 ·grind
 ·have hc:=hg.cell (show L≤1000000 by omega) (k:=i) (by omega)
  have hil:((zv2 g b).take i).length=i:=by grind [zhY]
  have his:i<s.length:=by grind
  simp only [zbi.l1,zB hi,if_true,zlU hi,ya,hc.1]
  rw [zhF hc.2.1 (by simp_all),ya,zb his,ya,zkn his,ya,zd (i:=i) (by omega)]
  refine hr _ ?_
  have hp:i<(zv2 g b).length:=by grind [zhY]
  rw [hI,yv hp,show g.least.length - i=(g.least.length - (i+1))+1 by omega,List.replicate_succ,uI _ _ (by omega),hil,uv,List.set_cons_zero,yJ]
  grind [zv2]
 ·have hs:s=zv2 g b:=by
   rw [hI,uv,List.replicate_zero,ue]
   exact List.take_of_length_le (by rw [zhY];simp_all)
  have hm:k % K<K:=Nat.mod_lt _ h1
  have hd :=zs8 hk
  obtain ⟨l,e1,e2⟩:=zjO (n:=n) (ztP:=zv2 g b) h6 (by grind [zhY]) hn hm hd
  simp only [zbi.l1,zaw,hg.size,rem_n h1,quo_n (r:=k) h1 (by omega),ya]
  rw [← zkb hm] at e2
  unfold zer
  rw [hg.size,yt]
  congr 1
  grind [List.length_pos_iff]
structure PR where
 k:Nat
 st:List Step
 b:List Range
def PR.bind (p:PR) (f:List Step→List Range→PR):PR:=if p.k=0 then f p.st p.b else p
theorem PR.zvM {st b f}:(PR.mk 0 st b).bind f=f st b:=rfl
theorem PR.zwl {p:PR} {f} (h:p.k≠0):p.bind f=p:=if_neg h
def zuM (bud:Nat) (kind index cell:Int) (r:Range) (st:List Step) (b:List Range):PR:=
 if r=rgP b cell then ⟨0,st,b⟩ else if bud≤st.length then ⟨2,st,b⟩ else if r.hi<r.lo then ⟨1,st++[⟨kind,index,cell⟩],b⟩ else ⟨0,st++[⟨kind,index,cell⟩],zuH b cell r⟩
theorem zpp {bud kind index cell r st b} (h:r=rgP b cell):zuM bud kind index cell r st b=⟨0,st,b⟩:=if_pos h
theorem znU {bud kind index cell r st b} (h:¬ r=rgP b cell) (h2:bud≤st.length):zuM bud kind index cell r st b=⟨2,st,b⟩:=by unfold zuM;grind
theorem zpq {bud kind index cell r st b} (h:¬ r=rgP b cell) (h2:¬ bud≤st.length) (h3:r.hi<r.lo):zuM bud kind index cell r st b=⟨1,st++[⟨kind,index,cell⟩],b⟩:=by unfold zuM;grind
theorem zrj {bud kind index cell r st b} (h:¬ r=rgP b cell) (h2:¬ bud≤st.length) (h3:¬ r.hi<r.lo):zuM bud kind index cell r st b=⟨0,st++[⟨kind,index,cell⟩],zuH b cell r⟩:=by unfold zuM;grind
def rowT (bud i:Nat) (row:Row):List Term→PR→PR
 | [],p=>p
 | t::l,p=>rowT bud i row l (p.bind λst b=>zuM bud 0 i t.cell (zca row b t.cell) st b)
def zvp (row:Row):Bool:=row.zty.isEmpty&&decide (row.bound<0)
def zc1 (bud i:Nat) (row:Row) (p:PR):PR:=p.bind λst b=>if zvp row=true then (if bud≤st.length then ⟨2,st,b⟩ else ⟨1,st++[⟨0,(i:Int),-1⟩],b⟩) else rowT bud i row row.zty ⟨0,st,b⟩
def zu8 (bud:Nat):Nat→List Row→PR→PR
 | _,[],p=>p
 | i,r::l,p=>zu8 bud (i+1) l (zc1 bud i r p)
def grT (bud i:Nat) (g:ztR):Nat→Nat→PR→PR
 | 0,_,p=>p
 | d+1,k,p=>grT bud i g d (k+1) (p.bind λst b=>zuM bud 1 i (g.first+(k:Int)) (cutP g b k) st b)
def zb3 (bud:Nat):Nat→List ztR→PR→PR
 | _,[],p=>p
 | i,g::l,p=>zb3 bud (i+1) l (grT bud i g g.least.length 0 p)
def zuT (bud:Nat) (R:List Row) (G:List ztR) (st:List Step) (b:List Range):PR:=zb3 bud 0 G (zu8 bud 0 R ⟨0,st,b⟩)
def runU (bud:Nat) (R:List Row) (G:List ztR):Nat→List Step→List Range→PR
 | 0,st,b=>⟨0,st,b⟩
 | f+1,st,b=>if (zuT bud R G st b).k=0∧st.length<(zuT bud R G st b).st.length then runU bud R G f (zuT bud R G st b).st (zuT bud R G st b).b else zuT bud R G st b
theorem zh4 {bud i row}:∀ {l} {p},p.k≠0→rowT bud i row l p=p
 | [],_,_=>rfl
 | t::l,p,h=>by rw [rowT,PR.zwl h];exact zh4 h
theorem zi9 {bud i row} {p} (h:p.k≠0):zc1 bud i row p=p:=PR.zwl h
theorem zep {bud}:∀ {i} {l} {p},p.k≠0→zu8 bud i l p=p
 | _,[],_,_=>rfl
 | i,r::l,p,h=>by rw [zu8,zi9 h];exact zep h
theorem zhD {bud i g}:∀ {d k} {p},p.k≠0→grT bud i g d k p=p
 | 0,_,_,_=>rfl
 | d+1,k,p,h=>by rw [grT,PR.zwl h];exact zhD h
theorem zdi {bud}:∀ {i} {l} {p},p.k≠0→zb3 bud i l p=p
 | _,[],_,_=>rfl
 | i,g::l,p,h=>by rw [zb3,zhD h];exact zdi h
structure PI (bud L m:Nat) (st:List Step) (b:List Range):Prop where
 box:boxP b=true
 len:b.length=L
 ne:∀ r∈b,r.lo≤r.hi
 ge:m≤st.length
 le:st.length≤bud
def PG (bud L m:Nat) (p:PR):Prop:=p.k=0→PI bud L m p.st p.b
def SubR (r o:Range):Prop:=r.lo≤r.hi→o.lo≤r.lo∧r.hi≤o.hi
theorem zpu {o rest f}:SubR (zgY o rest f) o:=by
 unfold SubR zgY
 grind
theorem ziJ {r b c}:SubR (zca r b c) (rgP b c):=zpu
theorem zlx {g b k}:SubR (cutP g b k) (rgP b (g.first+(k:Int))):=by
 unfold SubR cutP
 grind
theorem zsk {α:Type} {l:List α} {i} {x y} (h:y∈l.set i x):y∈l∨y=x:=uN h
theorem zlr {b} (h:boxP b=true):∀ r∈b,-1000000≤r.lo∧r.lo≤1000000∧-1000000≤r.hi∧r.hi≤1000000:=zpD h
theorem zpE {b} (h:∀ r∈b,-1000000≤r.lo∧r.lo≤1000000∧-1000000≤r.hi∧r.hi≤1000000) (hl:b.length≤128):boxP b=true:=by
 simp only [boxP]
 grind
theorem zlq {b} (h:boxP b=true):b.length≤128:=by
 simp only [boxP,yd,yf] at h;omega
theorem znY {b} (h:boxP b=true) (hne:∀ r∈b,r.lo≤r.hi) {c} {r} (h0:0≤c) (h1:c<(b.length:Int)) (hs:SubR r (rgP b c)) (hr:r.lo≤r.hi):boxP (zuH b c r)=true∧∀ x∈zuH b c r,x.lo≤x.hi:=by
 have d:=zlr h _ (zh3 h0 h1)
 have:=hs hr
 unfold zuH
 rw [if_pos h0]
 refine ⟨zpE (λx a=>?_) (by grind [zlq]),λx a=>?_⟩
 ·rcases zsk a with a | rfl
  ·exact zlr h x a
  ·omega
 grind
theorem zh8 {bud L m kind index cell r st b} (h:PI bud L m st b) (h0:0≤cell) (h1:cell<(L:Int)) (hs:SubR r (rgP b cell)):PG bud L m (zuM bud kind index cell r st b):=by
 unfold zuM
 split
 ·exact λ_=>h
 ·split
  ·intro d;grind
  ·split
   ·intro d;grind
   ·intro _
    have a:=znY h.box h.ne h0 (by rw [h.len];exact h1) hs (by omega)
    have c:=h.ge
    exact ⟨a.1,by rw [zck,h.len],a.2,by grind,by grind⟩
theorem PG.bind {bud L m p f} (h:PG bud L m p) (hf:∀ st b,PI bud L m st b→PG bud L m (f st b)):PG bud L m (p.bind f):=by
 unfold PR.bind
 split <;> rename_i a
 ·exact hf _ _ (h a)
 grind
theorem zl7 {bud L m i:Nat} {row}:∀ {l} {p},(∀ t∈l,0≤t.cell∧t.cell<(L:Int))→PG bud L m p→PG bud L m (rowT bud i row l p)
 | [],_,_,h=>h
 | t::l,p,a,h=>by
  exact zl7 (l:=l) (λx d=>a x (yW _ d)) (h.bind λe b c=>zh8 c (a t (by simp)).1 (a t (by simp)).2 ziJ)
structure RwOK (L:Nat) (r:Row):Prop where
 fits:zwo (L:Int) r=true
 few:r.zty.length≤1000
theorem RwOK.cells {L r} (h:RwOK L r):∀ t∈r.zty,0≤t.cell∧t.cell<(L:Int):=λt a=>by
 have:=h.fits
 simp only [zwo,yd] at this
 have:=(zdH (by omega) this.1).1 t a
 grind
theorem znP {bud L m i row p} (hr:RwOK L row) (h:PG bud L m p):PG bud L m (zc1 bud i row p):=h.bind λd b a=>by
 split
 ·split <;> (intro c;grind)
 ·exact zl7 hr.cells λ_=>a
theorem zkk {bud L m}:∀ {i} {l} {p},(∀ r∈l,RwOK L r)→PG bud L m p→PG bud L m (zu8 bud i l p)
 | _,[],_,_,h=>h
 | i,r::l,p,a,h=>by
  exact zkk (l:=l) (λx b=>a x (yW _ b)) (znP (a r (by simp)) h)
theorem znA {bud L m i g K} (hg:GrOK L g K) (hL:L≤1000):∀ {d k} {p},k+d≤K*K→PG bud L m p→PG bud L m (grT bud i g d k p)
 | 0,_,_,_,h=>h
 | d+1,k,p,c,h=>by
  exact znA hg hL (d:=d) (k:=k+1) (by omega) (h.bind λe b f=>by
   have a:=hg.cell (show L≤1000000 by omega) (k:=k) (by omega)
   grind [zh8,zlx])
theorem zjS {bud L m} (hL:L≤1000):∀ {i} {l} {p},(∀ g∈l,∃ K,GrOK L g K)→PG bud L m p→PG bud L m (zb3 bud i l p)
 | _,[],_,_,h=>h
 | i,g::l,p,b,h=>by
  obtain ⟨K,a⟩:=b g (by simp)
  exact zjS (l:=l) hL (λx c=>b x (yW _ c)) (znA (d:=g.least.length) (k:=0) a hL (by rw [a.len];omega) h)
theorem zmJ {bud L R G st b m} (hL:L≤1000) (hR:∀ r∈R,RwOK L r) (hG:∀ g∈G,∃ K,GrOK L g K) (h:PI bud L m st b):PG bud L m (zuT bud R G st b):=
 zjS hL hG (zkk hR λ_=>h)
theorem zju {bud L R G m} (hL:L≤1000) (hR:∀ r∈R,RwOK L r) (hG:∀ g∈G,∃ K,GrOK L g K):∀ {f st b},PI bud L m st b→PG bud L m (runU bud R G f st b)
 | 0,_,_,h=>λ_=>h
 | f+1,st,b,h=>by
  have c:=zmJ hL hR hG h
  unfold runU
  split <;> rename_i a
  ·exact zju hL hR hG (c a.1)
  grind

def zuo (t0:ztY) (st:List Step):Int:=t0.cost+1+(st.length:Int)
def finW (t0:ztY) (p:PR) (K:List Step→List Range→Option (Option (Found×ztY))):Option (Option (Found×ztY)):=
 if p.k=0 then K p.st p.b else if p.k=2 then some none else some (some (⟨[],0,⟨0,p.st,0,0,[]⟩⟩,⟨t0.s,t0.rows,t0.ztO,zuo t0 p.st⟩))
structure SW (t0:ztY) (bud:Nat):Prop where
 c0:0≤t0.cost
 e:t0.ztO=t0.cost+1+(bud:Int)
 le:t0.ztO≤65536
theorem SW.bud {t0 bud} (h:SW t0 bud):bud≤65536:=by have:=h.c0;have:=h.e;have:=h.le;omega
theorem SW.full {t0 bud} (h:SW t0 bud) {st} (hl:st.length≤bud):zuo t0 st=t0.ztO↔bud≤st.length:=by
 have:=h.e
 grind [zuo]
theorem SW.next {t0 bud} (h:SW t0 bud) {st} (hl:st.length≤bud) (x):ztu (zuo t0 st) 1=zuo t0 (st++[x]):=by
 have:=h.c0;have:=h.e;have:=h.le
 grind [zuo,ztu,zao]
theorem zlC {t0} {p} {K1 K2} {F:PR→PR} (h0:p.k=0→K1 p.st p.b=finW t0 (F p) K2) (h1:p.k≠0→F p=p):finW t0 p K1=finW t0 (F p) K2:=by
 by_cases h:p.k=0
 ·rw [← h0 h];exact if_pos h
 ·unfold finW;grind
theorem zl9 {b} {c} (h0:0≤c) (h1:c<(b.length:Int)) (r):sto b c r=some (zuH b c r):=by
 unfold sto zuH
 grind
theorem zsm {n bud L m i:Nat} {t0} {t1 b1} {rec7} {rec8} {row} (hw:SW t0 bud) (ht1:t1.length=L) (hb1:b1.length=L) (hi:i<1000000) (hr:RwOK L row) {st} {b} (hI:PI bud L m st b) (hn:1000000≤n) :
  ztz (za.l9 n t0 t1 b1 rec7 (i:Int) rec8 row) n (b,st,zuo t0 st,decide (m<st.length),0)=finW t0 (rowT bud i row row.zty ⟨0,st,b⟩) λst b=>rec8 (b,st,zuo t0 st,decide (m<st.length),((i+1:Nat):Int)):=by
 have hfew:=hr.few
 have hbud:=hw.bud
 have:=zbd (σ:=List Step×List Range) (body:=za.l9 n t0 t1 b1 rec7 (i:Int) rec8 row) (len:=row.zty.length) (st:=λs j=>(s.2,s.1,zuo t0 s.1,decide (m<s.1.length),(j:Int))) (g:=λj s=>finW t0 (rowT bud i row (row.zty.drop j) ⟨0,s.1,s.2⟩) λst b=>rec8 (b,st,zuo t0 st,decide (m<st.length),((i+1:Nat):Int))) (λ_ s=>PI bud L m s.1 s.2) (λrec2 j s hj hI hrr=>?_) (λrec2 s hI=>?_) n 0 (st,b) (yo _) (by omega) hI
 ·grind
 ·obtain ⟨st,b⟩:=s
  simp only at hI hrr
  have hc:=hr.cells _ (yi hj)
  have hc1:row.zty[j].cell<(b.length:Int):=by rw [hI.len];grind
  have hT:=zoZ (n:=n) (r:=row) (b:=b) (c:=row.zty[j].cell) hI.box (by rw [hI.len];exact hr.fits) hr.few hc.1 hc1 hn
  have hx:=zhF hc.1 hc1
  have hst:=hI.le
  have hge:=hI.ge
  have ha:∀ x:Step,Go.Proofs.YtipkniadbkndfaaGreatDoor.app 24 st [x]=some (st++[x]):=λx=>app1 (by omega)
  have hinv:=zh8 (kind:=0) (index:=(i:Int)) hI hc.1 hc.2 (ziJ (r:=row) (b:=b) (c:=row.zty[j].cell))
  rw [zm hj,rowT,PR.zvM]
  simp only [za.l9,zB hj,if_true,jn,zb hj,ya,hT,hx,zl9 hc.1 hc1,ha,zd (i:=j) (by omega),uA,hI.len,hb1,ht1,zck,decide_true,grd,yf,beq_iff_eq]
  revert hinv
  unfold zuM
  by_cases h1:zca row b row.zty[j].cell=rgP b row.zty[j].cell
  ·simp_all
  ·rw [if_neg h1,if_neg h1]
   by_cases h2:bud≤st.length
   ·rw [if_pos h2,if_pos ((hw.full hst).2 h2),zh4 (by simp)]
    exact λ_=>rfl
   ·rw [if_neg h2,if_neg (λh=>h2 ((hw.full hst).1 h))]
    by_cases h3:(zca row b row.zty[j].cell).hi<(zca row b row.zty[j].cell).lo
    ·rw [if_pos h3,if_pos h3,zh4 (by simp),hw.next hst ⟨0,(i:Int),row.zty[j].cell⟩]
     exact λ_=>rfl
    ·rw [if_neg h3,if_neg h3,hw.next hst ⟨0,(i:Int),row.zty[j].cell⟩]
     intro hinv
     have:=hrr (st++[⟨0,(i:Int),row.zty[j].cell⟩],zuH b row.zty[j].cell (zca row b row.zty[j].cell)) (hinv rfl)
     have e:decide (m<(st++[(⟨0,(i:Int),row.zty[j].cell⟩:Step)]).length)=true:=by simp;omega
     simp only [e] at this
     exact this
 ·simp only [za.l9,zaw,ye,if_false,List.drop_length,rowT,zd (i:=i) (by omega)]
  rfl
theorem zsl {n bud L m} {self} {t0} {t1 b1} {t2} {rec7} (hw:SW t0 bud) (ht1:t1.length=L) (hb1:b1.length=L) (hR:∀ r∈t0.rows,RwOK L r) (hRl:t0.rows.length<1000000) {st} {b} (hI:PI bud L m st b) (hn:1000000≤n) :
  ztz (za.l8 n self t0 t1 t2 b1 rec7) n (b,st,zuo t0 st,decide (m<st.length),0)=finW t0 (zu8 bud 0 t0.rows ⟨0,st,b⟩) λst b=>ztz (za.l10 n self t0 t1 t2 b1 rec7) n (b,st,zuo t0 st,decide (m<st.length),0):=by
 have hbud:=hw.bud
 have:=zbd (σ:=List Step×List Range) (body:=za.l8 n self t0 t1 t2 b1 rec7) (len:=t0.rows.length) (st:=λs j=>(s.2,s.1,zuo t0 s.1,decide (m<s.1.length),(j:Int))) (g:=λj s=>finW t0 (zu8 bud j (t0.rows.drop j) ⟨0,s.1,s.2⟩) λst b=>ztz (za.l10 n self t0 t1 t2 b1 rec7) n (b,st,zuo t0 st,decide (m<st.length),0)) (λ_ s=>PI bud L m s.1 s.2) (λrec2 i s hi hI hrr=>?_) (λrec2 s hI=>?_) n 0 (st,b) (yo _) (by omega) hI
 ·grind
 ·obtain ⟨st,b⟩:=s
  simp only at hI hrr
  have hr:=hR _ (yi hi)
  have hst:=hI.le
  have ha:∀ x:Step,Go.Proofs.YtipkniadbkndfaaGreatDoor.app 24 st [x]=some (st++[x]):=λx=>app1 (by omega)
  rw [zm hi,zu8]
  have hv:((t0.rows[i].zty.length:Int)==0&&decide (t0.rows[i].bound<0))=zvp t0.rows[i]:=by
   unfold zvp
   have:((t0.rows[i].zty.length:Int)==0)=t0.rows[i].zty.isEmpty:=by
    rw [Bool.eq_iff_iff];simp
   rw [this]
  simp only [za.l8,zB hi,if_true,zb hi,ya,hv]
  by_cases h1:zvp t0.rows[i]=true
  ·have es:zc1 bud i t0.rows[i] ⟨0,st,b⟩=if bud≤st.length then ⟨2,st,b⟩ else ⟨1,st++[⟨0,(i:Int),-1⟩],b⟩:=by
    unfold zc1;rw [PR.zvM,if_pos h1]
   rw [if_pos h1,es]
   simp only [ha,ya,hI.len,hb1,ht1,decide_true,grd,if_true,uA,beq_iff_eq]
   by_cases h2:bud≤st.length
   ·rw [if_pos h2,if_pos ((hw.full hst).2 h2),zep (by simp)]
    rfl
   ·rw [if_neg h2,if_neg (λh=>h2 ((hw.full hst).1 h)),zep (by simp),hw.next hst ⟨0,(i:Int),-1⟩]
    rfl
  ·have es:zc1 bud i t0.rows[i] ⟨0,st,b⟩=rowT bud i t0.rows[i] t0.rows[i].zty ⟨0,st,b⟩:=by
    unfold zc1;rw [PR.zvM,if_neg h1]
   rw [if_neg h1,es,zsm hw ht1 hb1 (by omega) hr hI hn]
   exact zlC (F:=zu8 bud (i+1) (t0.rows.drop (i+1))) (λhk=>by
    have hinv:=zl7 (bud:=bud) (m:=m) (i:=i) (row:=t0.rows[i]) (p:=⟨0,st,b⟩) hr.cells (λ_=>hI) hk
    have:=hrr ((rowT bud i t0.rows[i] t0.rows[i].zty ⟨0,st,b⟩).st,(rowT bud i t0.rows[i] t0.rows[i].zty ⟨0,st,b⟩).b) hinv
    refine this.trans ?_
    congr 1
    congr 1
    generalize rowT bud i t0.rows[i] t0.rows[i].zty ⟨0,st,b⟩=q at hk
    cases q;grind) (λhk=>zep hk)
 ·simp only [za.l8,zaw,ye,if_false,List.drop_length,zu8]
  rfl
theorem zq9 {n bud L m i K:Nat} {t0} {t1 b1} {rec7} {rec10} {g} (hw:SW t0 bud) (ht1:t1.length=L) (hb1:b1.length=L) (hi:i<1000000) (hL:L≤1000) (hg:GrOK L g K) {st} {b} (hI:PI bud L m st b) (hn:1000000≤n) :
  ztz (za.l11 n t0 t1 b1 rec7 (i:Int) rec10 g) n (b,st,zuo t0 st,decide (m<st.length),0)=finW t0 (grT bud i g g.least.length 0 ⟨0,st,b⟩) λst b=>rec10 (b,st,zuo t0 st,decide (m<st.length),((i+1:Nat):Int)):=by
 have hsq:=hg.sq
 have hlen:=hg.len
 have hbud:=hw.bud
 have:=zbd (σ:=List Step×List Range) (body:=za.l11 n t0 t1 b1 rec7 (i:Int) rec10 g) (len:=g.least.length) (st:=λs j=>(s.2,s.1,zuo t0 s.1,decide (m<s.1.length),(j:Int))) (g:=λj s=>finW t0 (grT bud i g (g.least.length - j) j ⟨0,s.1,s.2⟩) λst b=>rec10 (b,st,zuo t0 st,decide (m<st.length),((i+1:Nat):Int))) (λ_ s=>PI bud L m s.1 s.2) (λrec2 j s hj hI hrr=>?_) (λrec2 s hI=>?_) n 0 (st,b) (yo _) (by omega) hI
 ·grind
 ·obtain ⟨st,b⟩:=s
  simp only at hI hrr
  have hjK:j<K*K:=by omega
  have hc:=hg.cell (show L≤1000000 by omega) hjK
  have hc1:g.first+(j:Int)<(b.length:Int):=by rw [hI.len];omega
  have hx:=zhF hc.2.1 hc1
  have hst:=hI.le
  have hge:=hI.ge
  have ha:∀ x:Step,Go.Proofs.YtipkniadbkndfaaGreatDoor.app 24 st [x]=some (st++[x]):=λx=>app1 (by omega)
  have hcl:=zji (n:=n) hg hI.len hL hjK hn
  have hinv:=zh8 (kind:=1) (index:=(i:Int)) hI hc.2.1 hc.2.2 (zlx (g:=g) (b:=b) (k:=j))
  have hnum:=hg.num (lstG g j) (by grind [lstG])
  have hs:ztH (lstG g j) 1=lstG g j - 1:=zao (by omega) (by omega)
  have hrr':∀ st' b',PI bud L m st' b'→rec2 (b',st',zuo t0 st',decide (m<st'.length),((j+1:Nat):Int))=finW t0 (grT bud i g (g.least.length - (j+1)) (j+1) ⟨0,st',b'⟩) λst b=>rec10 (b,st,zuo t0 st,decide (m<st.length),((i+1:Nat):Int)):=λst' b' h=>hrr (st',b') h
  rw [show g.least.length - j=(g.least.length - (j+1))+1 by omega,grT,PR.zvM]
  simp only [za.l11,zB hj,if_true,jn,zlU hj,ya,hc.1,hx,hcl,hs,yr,yj,yB,zl9 hc.2.1 hc1,ha,zd (i:=j) (by omega),uA,hI.len,hb1,ht1,zck,decide_true,grd]
  by_cases h0:(decide (lstG g j≤(rgP b (g.first+(j:Int))).hi)&&zer g b j)=true
  ·have hcut:cutP g b j=⟨(rgP b (g.first+(j:Int))).lo,lstG g j - 1⟩:=if_pos h0
   have h0':(decide ((rgP b (g.first+(j:Int))).hi<lstG g j)||!zer g b j)=false:=by
    simp only [yd,yf] at h0
    rw [h0.2];simp;omega
   rw [h0']
   simp only [ye,if_false,yf,beq_iff_eq,← hcut]
   have h3e:lstG g j - 1<(rgP b (g.first+(j:Int))).lo↔(cutP g b j).hi<(cutP g b j).lo:=by rw [hcut]
   revert hinv
   unfold zuM
   by_cases h1:cutP g b j=rgP b (g.first+(j:Int))
   ·rw [if_pos h1,if_pos h1]
    exact λ_=>hrr' st b hI
   ·rw [if_neg h1,if_neg h1]
    by_cases h2:bud≤st.length
    ·rw [if_pos h2,if_pos ((hw.full hst).2 h2),zhD (by simp)]
     exact λ_=>rfl
    ·rw [if_neg h2,if_neg (λh=>h2 ((hw.full hst).1 h))]
     by_cases h3:(cutP g b j).hi<(cutP g b j).lo
     ·rw [if_pos h3,if_pos (h3e.2 h3),zhD (by simp),hw.next hst ⟨1,(i:Int),g.first+(j:Int)⟩]
      exact λ_=>rfl
     ·rw [if_neg h3,if_neg (λh=>h3 (h3e.1 h)),hw.next hst ⟨1,(i:Int),g.first+(j:Int)⟩]
      intro hinv
      have:=hrr' (st++[⟨1,(i:Int),g.first+(j:Int)⟩]) (zuH b (g.first+(j:Int)) (cutP g b j)) (hinv rfl)
      have e:decide (m<(st++[(⟨1,(i:Int),g.first+(j:Int)⟩:Step)]).length)=true:=by simp;omega
      simp only [e] at this
      exact this
  ·have hcut:cutP g b j=rgP b (g.first+(j:Int)):=if_neg h0
   have h0':(decide ((rgP b (g.first+(j:Int))).hi<lstG g j)||!zer g b j)=true:=by
    simp only [yd,yf] at h0
    simp only [yI,yf,yC]
    by_cases h:(rgP b (g.first+(j:Int))).hi<lstG g j
    ·exact .inl h
    ·right
     cases hh:zer g b j with
     | false=>rfl
     | true=>exact absurd ⟨by omega,hh⟩ h0
   rw [h0',if_pos rfl,show zuM bud 1 (i:Int) (g.first+(j:Int)) (cutP g b j) st b=⟨0,st,b⟩ from if_pos hcut]
   exact hrr' st b hI
 ·simp only [za.l11,zaw,ye,if_false,uv,grT,zd (i:=i) (by omega)]
  rfl
noncomputable def zig (n:Nat) (self:ztY→List Range→Int→Option (Option (Found×ztY))) (t0:ztY) (t1:List Range) (t2:Int) (st:List Step) (b:List Range):Option (Option (Found×ztY)):=
 if ((decide (0<(t0.s.cases.length:Int)))&&(decide (t2<0)))=true then
  ztz (za.l12 n self t0 t1 b st) n (([]:List Tree),t0.s.box,t0.s.rows,t0.s.ztA,t0.s.cases,t0.rows,t0.ztO,zuo t0 st,0)
 else
  (zi n b (λq0=>zbw n q0)).bind λc=>
  if (decide (c<0))=true then
   (mkl 8 (b.length:Int) (0:Int)).bind λv=>
   ztz (za.l13 n t0 t1 t2 b (zuo t0 st)) n (v,0)
  else
   (idx b c).bind λx1=>
   (zcI n x1).bind λat_=>
   (idx b c).bind λx2=>
   (idx b c).bind λx3=>
   ztz (za.l14 n self t1 t2 b st c at_ x2 x3) n (([]:List Tree),t0.s.box,t0.s.rows,t0.s.ztA,t0.s.cases,t0.rows,t0.ztO,zuo t0 st,0)
theorem zq8 {n bud L m} {self} {t0} {t1 b1} {t2} {rec7} (hw:SW t0 bud) (ht1:t1.length=L) (hb1:b1.length=L) (hL:L≤1000) (hG:∀ g∈t0.s.ztA,∃ K,GrOK L g K) (hGl:t0.s.ztA.length<1000000) {st} {b} (hI:PI bud L m st b) (hn:1000000≤n) :
  ztz (za.l10 n self t0 t1 t2 b1 rec7) n (b,st,zuo t0 st,decide (m<st.length),0)=finW t0 (zb3 bud 0 t0.s.ztA ⟨0,st,b⟩) λst b=>if m<st.length then rec7 (b,st,zuo t0 st) else zig n self t0 t1 t2 st b:=by
 have:=zbd (σ:=List Step×List Range) (body:=za.l10 n self t0 t1 t2 b1 rec7) (len:=t0.s.ztA.length) (st:=λs j=>(s.2,s.1,zuo t0 s.1,decide (m<s.1.length),(j:Int))) (g:=λj s=>finW t0 (zb3 bud j (t0.s.ztA.drop j) ⟨0,s.1,s.2⟩) λst b=>if m<st.length then rec7 (b,st,zuo t0 st) else zig n self t0 t1 t2 st b) (λ_ s=>PI bud L m s.1 s.2) (λrec2 i s hi hI hrr=>?_) (λrec2 s hI=>?_) n 0 (st,b) (yo _) (by omega) hI
 ·grind
 ·obtain ⟨st,b⟩:=s
  simp only at hI hrr
  obtain ⟨K,hK⟩:=hG _ (yi hi)
  rw [zm hi,zb3]
  simp only [za.l10,zB hi,if_true,zb hi,ya]
  rw [zq9 hw ht1 hb1 (by omega) hL hK hI hn]
  exact zlC (F:=zb3 bud (i+1) (t0.s.ztA.drop (i+1))) (λhk=>by
   have hinv:=znA (bud:=bud) (m:=m) (i:=i) (d:=t0.s.ztA[i].least.length) (k:=0) (p:=⟨0,st,b⟩) hK hL (by rw [hK.len];omega) (λ_=>hI) hk
   have:=hrr ((grT bud i t0.s.ztA[i] t0.s.ztA[i].least.length 0 ⟨0,st,b⟩).st,(grT bud i t0.s.ztA[i] t0.s.ztA[i].least.length 0 ⟨0,st,b⟩).b) hinv
   refine this.trans ?_
   congr 1
   congr 1
   generalize grT bud i t0.s.ztA[i] t0.s.ztA[i].least.length 0 ⟨0,st,b⟩=q at hk
   cases q;grind) (λhk=>zdi hk)
 ·obtain ⟨st,b⟩:=s
  simp only at hI
  have e1:decide (b1.length=b.length)=true:=by rw [hb1,hI.len];simp
  have e2:decide (t1.length=b.length)=true:=by grind
  simp only [za.l10,zaw,ye,if_false,List.drop_length,zb3,e1,e2,grd,if_true,uK]
  show _=(if m<st.length then _ else _)
  by_cases h:m<st.length
  ·grind
  ·rw [if_pos (by simp [h]),if_neg h]
   rfl
theorem zra {n bud L} {self} {t0} {t1 b} {t2} (hw:SW t0 bud) (ht1:t1.length=L) (hL:L≤1000) (hR:∀ r∈t0.rows,RwOK L r) (hRl:t0.rows.length<1000000) (hG:∀ g∈t0.s.ztA,∃ K,GrOK L g K) (hGl:t0.s.ztA.length<1000000) (hb:PI bud L 0 [] b) (hn:1000000≤n) :
  ztz (za.l7 n self t0 t1 t2) n (b,([]:List Step),zuo t0 [])=finW t0 (runU bud t0.rows t0.s.ztA (bud+1) [] b) (zig n self t0 t1 t2):=by
 have hbud:=hw.bud
 have:=zde (body:=za.l7 n self t0 t1 t2) (λs=>bud - s.2.1.length) (λs=>s.2.2=zuo t0 s.2.1∧PI bud L 0 s.2.1 s.1) (λs r=>∀ f,bud<f+s.2.1.length→r=finW t0 (runU bud t0.rows t0.s.ztA f s.2.1 s.1) (zig n self t0 t1 t2)) (λrec s hI hr=>?_) n (b,[],zuo t0 []) ⟨rfl,hb⟩ (by grind) (bud+1) (by simp)
 ·grind
 ·obtain ⟨b,st,c⟩:=s
  obtain ⟨e,hI⟩:=hI
  simp only at e hI
  subst e
  intro f hf
  simp only at hf hr
  have hle:=hI.le
  obtain ⟨f,rfl⟩:∃ f',f=f'+1:=⟨f - 1,by omega⟩
  have hI2:PI bud L st.length st b:=⟨hI.box,hI.len,hI.ne,ym _,hI.le⟩
  have hp:=zmJ hL hR hG hI2
  have e1:=zsl (n:=n) (self:=self) (t2:=t2) (rec7:=rec) hw ht1 hI.len hR hRl hI2 hn
  rw [show decide (st.length<st.length)=false by simp] at e1
  simp only [za.l7]
  rw [e1]
  have e2:finW t0 (zu8 bud 0 t0.rows ⟨0,st,b⟩) (λst' b'=>ztz (za.l10 n self t0 t1 t2 b rec) n (b',st',zuo t0 st',decide (st.length<st'.length),0))=finW t0 (zuT bud t0.rows t0.s.ztA st b) (λst' b'=>if st.length<st'.length then rec (b',st',zuo t0 st') else zig n self t0 t1 t2 st' b'):=by
   refine zlC (F:=zb3 bud 0 t0.s.ztA) (λhk=>?_) (λhk=>zdi hk)
   have hinv:=zkk (i:=0) (m:=st.length) hR (p:=⟨0,st,b⟩) (λ_=>hI2) hk
   refine (zq8 hw ht1 hI.len hL hG hGl hinv hn).trans ?_
   congr 1
   congr 1
   generalize zu8 bud 0 t0.rows ⟨0,st,b⟩=q at hk
   cases q;grind
  rw [e2]
  unfold runU
  by_cases hc:(zuT bud t0.rows t0.s.ztA st b).k=0∧st.length<(zuT bud t0.rows t0.s.ztA st b).st.length
  ·have hp:=hp hc.1
   have hple:=hp.le
   rw [if_pos hc]
   unfold finW
   rw [if_pos hc.1]
   refine (if_pos hc.2).trans ?_
   exact hr ((zuT bud t0.rows t0.s.ztA st b).b,(zuT bud t0.rows t0.s.ztA st b).st,zuo t0 (zuT bud t0.rows t0.s.ztA st b).st) ⟨rfl,⟨hp.box,hp.len,hp.ne,yo _,hp.le⟩⟩ (by grind) f (by grind)
  ·rw [if_neg hc]
   unfold finW
   by_cases hk:(zuT bud t0.rows t0.s.ztA st b).k=0
   ·rw [if_pos hk,if_pos hk]
    exact if_neg (λh=>hc ⟨hk,h⟩)
   ·rw [if_neg hk,if_neg hk]
structure NR where
 k:Nat
 ix:Nat
 v:List Int
 t:Tree
 c:Nat
def zuE:Tree:=⟨0,[],0,0,[]⟩
def zfP:NR:=⟨2,0,[],zuE,0⟩
def zuR {α:Type} (self:α→Nat→NR) (tr:List Tree→Tree) (ix:Nat→Nat) (d:Nat):Nat→List α→List Tree→Nat→NR
 | _,[],kids,c=>⟨1,0,[],tr kids,c⟩
 | i,x::l,kids,c=>if (self x (d - c)).k=2 then zfP else if (self x (d - c)).k=0 then ⟨0,ix i,(self x (d - c)).v,zuE,c+(self x (d - c)).c⟩ else zuR self tr ix d (i+1) l (kids++[(self x (d - c)).t]) (c+(self x (d - c)).c)
def zwC (r:Range):Bool:=decide (r.lo<r.hi)
def zub (b:List Range):Int:=ixA zwC b 0
def zu4 (r:Range):List Range:=[⟨r.lo,midP r⟩,⟨midP r+1,r.hi⟩]
def zuG (G:List ztR) (cases_:List (List Row)):Nat→Bool→List Row→List Range→Nat→NR
 | 0,_,_,_,_=>zfP
 | f+1,root,R,b,d=>if d=0 then zfP else
  let p:=runU (d - 1) R G d [] b
  if p.k=2 then zfP else if p.k≠0 then ⟨1,0,[],⟨0,p.st,0,0,[]⟩,1+p.st.length⟩
  else if (root&&!cases_.isEmpty)=true then zuR (λcs d=>zuG G cases_ f false (R++cs) p.b d) (λkids=>⟨2,p.st,0,0,kids⟩) id d 0 cases_ [] (1+p.st.length)
  else if zub p.b<0 then ⟨0,0,p.b.map (·.lo),zuE,1+p.st.length⟩
  else zuR (λr d=>zuG G cases_ f false R (zuH p.b (zub p.b) r) d) (λkids=>⟨1,p.st,zub p.b,midP (rgP p.b (zub p.b)),kids⟩) (λ_=>0) d 0 (zu4 (rgP p.b (zub p.b))) [] (1+p.st.length)
theorem ziw {α} {self} {tr ix d}:∀ {i} {l:List α} {kids} {c},(∀ x∈l,∀ d',(self x d').k≠2→(self x d').c≤d')→c≤d→(zuR self tr ix d i l kids c).k≠2→c≤(zuR self tr ix d i l kids c).c∧(zuR self tr ix d i l kids c).c≤d
 | _,[],_,_,_,e,_=>⟨ym _,e⟩
 | i,x::l,kids,c,b,e,a=>by
  have j:=b x (by simp) (d - c)
  unfold zuR at a ⊢
  split at a <;> rename_i h
  ·exact absurd rfl a
  ·rw [if_neg h]
   split at a <;> rename_i g
   ·grind
   ·rw [if_neg g]
    have:=ziw (i:=i+1) (λy f=>b y (by simp [f])) (show c+(self x (d - c)).c≤d by omega) a
    omega
theorem zg6 {α} {self} {tr ix d}:∀ {i} {l:List α} {kids} {c},((zuR self tr ix d i l kids c).k=0→(zuR self tr ix d i l kids c).t=zuE)∧((zuR self tr ix d i l kids c).k≠0→(zuR self tr ix d i l kids c).v=[])
 | _,[],_,_=>⟨λh=>absurd h (by simp [zuR]),λ_=>rfl⟩
 | i,x::l,kids,c=>by
  unfold zuR
  split
  ·exact ⟨λh=>absurd h (by simp [zfP]),λ_=>rfl⟩
  ·split
   ·grind
   ·exact zg6
theorem zhc {G cs}:∀ {f} {root R b d},((zuG G cs f root R b d).k=0→(zuG G cs f root R b d).t=zuE)∧((zuG G cs f root R b d).k≠0→(zuG G cs f root R b d).v=[])
 | 0,_,_,_,_=>⟨λh=>absurd h (by simp [zuG,zfP]),λ_=>rfl⟩
 | f+1,root,R,b,d=>by
  unfold zuG
  split
  ·exact ⟨λh=>absurd h (by simp [zfP]),λ_=>rfl⟩
  ·dsimp only
   split
   ·exact ⟨λh=>absurd h (by simp [zfP]),λ_=>rfl⟩
   ·split
    ·grind
    ·split
     ·exact zg6
     ·split
      ·grind
      ·exact zg6
theorem zoI {bud kind index cell r st b} (h:st.length≤bud):(zuM bud kind index cell r st b).st.length≤bud:=by
 grind [zuM]
theorem zns {bud} {p:PR} {f} (h:p.st.length≤bud) (hf:∀ st b,st.length≤bud→(f st b).st.length≤bud):(p.bind f).st.length≤bud:=by
 grind [PR.bind]
theorem zqs {bud i row}:∀ {l} {p},p.st.length≤bud→(rowT bud i row l p).st.length≤bud
 | [],_,h=>h
 | t::l,p,h=>by
  exact zqs (l:=l) (zns h λ_ _ h=>zoI h)
theorem zpm {bud i row p} (h:p.st.length≤bud):(zc1 bud i row p).st.length≤bud:=zns h λst b h=>by
 grind [zqs]
theorem zl8 {bud}:∀ {i} {l} {p},p.st.length≤bud→(zu8 bud i l p).st.length≤bud
 | _,[],_,h=>h
 | i,r::l,p,h=>by
  exact zl8 (l:=l) (zpm h)
theorem zrD {bud i g}:∀ {d k} {p},p.st.length≤bud→(grT bud i g d k p).st.length≤bud
 | 0,_,_,h=>h
 | d+1,k,p,h=>by
  exact zrD (d:=d) (zns h λ_ _ h=>zoI h)
theorem ziu {bud}:∀ {i} {l} {p},p.st.length≤bud→(zb3 bud i l p).st.length≤bud
 | _,[],_,h=>h
 | i,g::l,p,h=>by
  exact ziu (l:=l) (zrD h)
theorem znT {bud R G}:∀ {f} {st b},st.length≤bud→(runU bud R G f st b).st.length≤bud
 | 0,_,_,h=>h
 | f+1,st,b,h=>by
  have a:(zuT bud R G st b).st.length≤bud:=ziu (zl8 h)
  unfold runU
  split
  ·exact znT a
  grind
theorem zgy {G cs}:∀ {f} {root R b d},(zuG G cs f root R b d).k≠2→1≤(zuG G cs f root R b d).c∧(zuG G cs f root R b d).c≤d
 | 0,_,_,_,_,h=>absurd rfl h
 | f+1,root,R,b,d,h=>by
  unfold zuG at h ⊢
  split at h <;> rename_i hd
  ·exact absurd rfl h
  ·rw [if_neg hd]
   dsimp only at h ⊢
   have hle:=znT (bud:=d - 1) (R:=R) (G:=G) (f:=d) (st:=[]) (b:=b) (by simp)
   split at h <;> rename_i h2
   ·exact absurd rfl h
   ·rw [if_neg h2]
    split at h <;> rename_i h1
    ·grind
    ·rw [if_neg h1]
     split at h <;> rename_i hr
     ·rw [if_pos hr]
      have:=ziw (λx _ d' hk=>(zgy hk).2) (by omega) h
      omega
     ·rw [if_neg hr]
      split at h <;> rename_i hc
      ·grind
      ·rw [if_neg hc]
       have:=ziw (λx _ d' hk=>(zgy hk).2) (by omega) h
       omega
structure SysG (L:Nat) (G:List ztR) (cs:List (List Row)):Prop where
 gr:∀ g∈G,∃ K,GrOK L g K
 gl:G.length≤64
 ca:∀ l∈cs,l.length≤64∧∀ r∈l,RwOK L r
 cl:cs.length≤1024
 le:L≤128
theorem zqW {b}:∀ {k},ixA zwC b k<0∨∃ i,∃ hi:i<b.length,ixA zwC b k=((k+i:Nat):Int)∧b[i].lo<b[i].hi:=by
 induction b with
 | nil=>grind [ixA]
 | cons r b ih=>
  intro k
  unfold ixA
  by_cases h:zwC r=true
  ·rw [if_pos h]
   exact .inr ⟨0,by simp,rfl,by grind [zwC]⟩
  ·rcases ih (k:=k+1) with c | ⟨i,hi,e,a⟩
   ·grind
   ·exact .inr ⟨i+1,by grind,by grind,by grind⟩
theorem zjn {b} (h:¬ zub b<0):0≤zub b∧zub b<(b.length:Int)∧(rgP b (zub b)).lo<(rgP b (zub b)).hi:=by
 grind [zqW,zub,rgP]
theorem zoh {r x} (h:x∈zu4 r) (hw:r.lo<r.hi):x.lo≤x.hi∧r.lo≤x.lo∧x.hi≤r.hi:=by
 simp only [zu4] at h
 unfold midP at h
 grind
theorem znn {bud d L st b x} (h:PI bud L 0 st b) (hc:¬ zub b<0) (hx:x∈zu4 (rgP b (zub b))):PI d L 0 [] (zuH b (zub b) x):=by
 obtain ⟨e,g,f⟩:=zjn hc
 have a:=zoh hx f
 have c:=znY h.box h.ne e g (λ_=>a.2) a.1
 exact ⟨c.1,by rw [zck,h.len],c.2,yo _,yo _⟩
theorem zkM {bud d L st b} (h:PI bud L 0 st b):PI d L 0 [] b:=⟨h.box,h.len,h.ne,yo _,yo _⟩

theorem zpw {n} {A B} (hA:A.length≤2000) (hB:B.length≤2000) (hn:1000000≤n):zg n [A,B]=some (A++B):=by
 have a0:ztu 0 1=1:=by grind [ztu,zao]
 have a1:ztu 1 1=2:=by grind [ztu,zao]
 have h1:=zM (body:=zg.l1 n [A,B]) (len:=2) (st:=λi=>((((([A,B]:List (List Row)).take i).map List.length).sum:Nat),((i:Nat):Int))) (g:=λ_=>ztz (zg.l2 n [A,B]) n (([]:List Row),0)) (λrec i hi hr=>?_) (λrec=>?_) n 0 (yo _) (by omega)
 ·unfold zg
  refine (show ztz (zg.l1 n [A,B]) n (0,0)=_ from h1).trans ?_
  have h2:=zM (body:=zg.l2 n [A,B]) (len:=2) (st:=λi=>((([A,B]:List (List Row)).take i).flatten,((i:Nat):Int))) (g:=λ_=>some (A++B)) (λrec i hi hr=>?_) (λrec=>?_) n 0 (yo _) (by omega)
  ·exact h2
  ·rcases (show i=0∨i=1 by omega) with rfl | rfl
   ·simp only [zg.l2]
    rw [if_pos (by simp),show idx [A,B] ((0:Nat):Int)=some A from rfl,ya,zl (by grind),ya]
    grind
   ·simp only [zg.l2]
    rw [if_pos (by simp),show idx [A,B] ((1:Nat):Int)=some B from rfl,ya,zl (by grind),ya]
    grind
  ·simp [zg.l2]
 ·rcases (show i=0∨i=1 by omega) with rfl | rfl
  ·have e:ztu 0 (A.length:Int)=(A.length:Int):=by grind [ztu,zao]
   simp only [zg.l1]
   rw [if_pos (by simp),show idx [A,B] ((0:Nat):Int)=some A from rfl,ya]
   grind
  ·have e:ztu (A.length:Int) (B.length:Int)=((A.length+B.length:Nat):Int):=zc2 (by omega)
   simp only [zg.l1]
   rw [if_pos (by simp),show idx [A,B] ((1:Nat):Int)=some B from rfl,ya]
   grind
 ·simp only [zg.l1]
  rw [if_neg (by simp)]
  simp only [grd]
  rw [if_pos (by simp;omega)]
theorem zsH {n} {t0} {t1} {t2} {b} {c} (h1:1≤b.length) (hl:b.length≤1000) (ht:b.length=t1.length) (hn:1000000≤n) :
  ((mkl 8 (b.length:Int) (0:Int)).bind λv=>ztz (za.l13 n t0 t1 t2 b c) n (v,0))=some (some (⟨b.map (·.lo),gmax t2 0,zuE⟩,⟨t0.s,t0.rows,t0.ztO,c⟩)):=by
 rw [mkl_0 (by omega),ya]
 have:=zbd (body:=za.l13 n t0 t1 t2 b c) (len:=b.length) (st:=λs i=>(s,i)) (g:=λ_ _=>some (some (⟨b.map (·.lo),gmax t2 0,zuE⟩,⟨t0.s,t0.rows,t0.ztO,c⟩))) (λi s=>s=(b.map (·.lo)).take i++List.replicate (b.length - i) 0) (λe i s h f k=>?_) (λe s f=>?_) n 0 (List.replicate b.length 0) (yo _) (by omega) (by simp)
 ·grind
 ·have d:((b.map (·.lo)).take i).length=i:=by grind
  have a:i<s.length:=by grind
  simp only [za.l13,zB h,zb h]
  rw [zb a,ya,zkn a,ya,zd (i:=i) (by omega)]
  refine k _ ?_
  have l:i<(b.map (·.lo)).length:=by grind
  rw [f,yv l,show b.length - i=(b.length - (i+1))+1 by omega,List.replicate_succ,uI _ _ (by omega),d,uv,List.set_cons_zero,yJ]
  grind
 ·have j:s=b.map (·.lo):=by
   grind [List.take_of_length_le]
  simp only [za.l13,zaw,ye,if_false,j,ht,decide_true,grd]
  rw [if_pos]
  ·rfl
  grind
theorem zrY {n} {b} (hl:b.length≤1000) (hn:1000000≤n):zi n b (λq0=>zbw n q0)=some (zub b):=by
 have:=zM (body:=zi.l1 n b (λq0=>zbw n q0)) (len:=b.length) (st:=λi=>i) (g:=λi=>some (ixA zwC (b.drop i) i)) (λa i c d=>?_) (λa=>?_) n 0 (yo _) (by omega)
 ·grind [zi,zub]
 ·rw [zm c]
  simp only [zi.l1,zb c,zbw,zd (i:=i) (by omega),ixA]
  unfold zwC at d ⊢
  grind
 ·simp [zi.l1,ixA]
def OutW (t0:ztY) (L:Nat) (base:Int) (strict:Bool) (Y:NR) (w:Option (Found×ztY)):Prop:=
 (Y.k=2∧w=none)∨(Y.k≠2∧(Y.k=0→Y.v.length=L∧Y.v≠[])∧∃ ix rows,w=some (⟨Y.v,ix,Y.t⟩,⟨t0.s,rows,t0.ztO,base+(Y.c:Int)⟩)∧(strict=true→rows=t0.rows))
def Out (t0:ztY) (L:Nat) (strict:Bool) (Y:NR) (r:Option (Option (Found×ztY))):Prop:=∃ w,r=some w∧OutW t0 L t0.cost strict Y w
theorem zmM {α} {n d c0 L} {l:List α} {self} {tr} {ix} {t0} {strict}
  {body}
  (hs:∀ x∈l,∀ d',(self x d').k≠2→(self x d').c≤d') (hsh:∀ x∈l,∀ d',((self x d').k=0→(self x d').t=zuE)∧((self x d').k≠0→(self x d').v=[])) (hc0:c0≤d) (hd:d≤65536) (hl:l.length≤1024)
  (hb:∀ rec kids rows (c:Nat) i (hi),c0≤c→c≤d→kids.length=i→(strict=true→rows=t0.rows)→∃ w,body rec (kids,t0.s.box,t0.s.rows,t0.s.ztA,t0.s.cases,rows,t0.ztO,t0.cost+(c:Int),(i:Int))=pnk w (λx=>(Go.Proofs.YtipkniadbkndfaaGreatDoor.app 72 kids [zuE]).bind λx10=>(idx x10 (kids.length:Int)).bind λ_=>(sto x10 (kids.length:Int) x.1.tree).bind λb10=>if (!x.1.values.isEmpty)=true then some (some (x.1,x.2)) else rec (b10,x.2.s.box,x.2.s.rows,x.2.s.ztA,x.2.s.cases,x.2.rows,x.2.ztO,x.2.cost,ztu (i:Int) 1))∧OutW t0 L (t0.cost+(c:Int)) strict (self l[i] (d - c)) w)
  (he:∀ rec kids rows (c:Nat),body rec (kids,t0.s.box,t0.s.rows,t0.s.ztA,t0.s.cases,rows,t0.ztO,t0.cost+(c:Int),(l.length:Int))=some (some (⟨[],0,tr kids⟩,⟨t0.s,rows,t0.ztO,t0.cost+(c:Int)⟩))) (hn:1000000≤n) :
  Out t0 L strict (zuR self tr ix d 0 l [] c0) (ztz body n (([]:List Tree),t0.s.box,t0.s.rows,t0.s.ztA,t0.s.cases,t0.rows,t0.ztO,t0.cost+(c0:Int),0)):=by
 generalize hY:zuR self tr ix d 0 l [] c0=Y
 refine zdt (σ:=List Tree×List Row×Nat) (body:=body) (k:=l.length) (st:=λs i=>(s.1,t0.s.box,t0.s.rows,t0.s.ztA,t0.s.cases,s.2.1,t0.ztO,t0.cost+(s.2.2:Int),(i:Int))) (λi s=>c0≤s.2.2∧s.2.2≤d∧s.1.length=i∧(strict=true→s.2.1=t0.rows)∧zuR self tr ix d i (l.drop i) s.1 s.2.2=Y) (λw=>OutW t0 L t0.cost strict Y w) (λrec i s hi hI hr=>?_) (λrec s hI=>?_) (by omega) ([],t0.rows,c0) ⟨ym _,hc0,rfl,λ_=>rfl,hY⟩
 ·obtain ⟨kids,rows,c⟩:=s
  obtain ⟨i1,i2,i3,i4,i5⟩:=hI
  simp only at i1 i2 i3 i4 i5
  obtain ⟨w,e,hw⟩:=hb rec kids rows c i hi i1 i2 i3 i4
  simp only
  rw [e,← i5,zm hi]
  have hx:=hs _ (yi hi) (d - c)
  have hy:=hsh _ (yi hi) (d - c)
  rw [zm hi] at i5
  unfold zuR at i5 ⊢
  generalize self l[i] (d - c)=y at *
  rcases hw with ⟨h2,rfl⟩ | ⟨h2,hsol,ix',rows',rfl,hst⟩
  ·rw [if_pos h2]
   exact ⟨none,rfl,.inl ⟨rfl,rfl⟩⟩
  ·rw [if_neg h2] at i5 ⊢
   have hx:=hx h2
   have hkl:kids.length<(kids++[zuE]).length:=by simp
   simp only [pnk]
   rw [app1 (by omega),ya,zb hkl,ya,zkn hkl,ya]
   have hset:(kids++[zuE]).set kids.length y.t=kids++[y.t]:=by
    rw [uI _ _ (ym _),uv];rfl
   rw [hset]
   by_cases h0:y.k=0
   ·obtain ⟨hv1,hv2⟩:=hsol h0
    rw [if_pos h0]
    rw [if_pos (by cases hv:y.v with | nil=>exact absurd hv hv2 | cons a l=>rfl)]
    refine ⟨_,rfl,.inr ⟨by simp,λ_=>⟨hv1,hv2⟩,ix',rows',?_,hst⟩⟩
    rw [hy.1 h0]
    simp only [Int.natCast_add,Int.add_assoc]
   ·rw [if_neg h0] at i5 ⊢
    rw [if_neg (by rw [hy.2 h0];simp)]
    rw [zd (i:=i) (by omega)]
    obtain ⟨r,e1,e2⟩:=hr (kids++[y.t],rows',c+y.c) ⟨by simp only;omega,by simp only;omega,by simp;omega,hst,i5⟩
    refine ⟨r,?_,by rw [i5];exact e2⟩
    rw [← e1]
    simp only [Int.natCast_add,Int.add_assoc]
 ·obtain ⟨kids,rows,c⟩:=s
  obtain ⟨i1,i2,i3,i4,i5⟩:=hI
  simp only [List.drop_length] at i1 i2 i3 i4 i5
  simp only
  rw [he,← i5]
  exact ⟨_,rfl,.inr ⟨by simp [zuR],λh=>absurd h (by simp [zuR]),0,rows,rfl,i4⟩⟩
theorem zph {G cs f root R b d} (h:cs=[]):zuG G cs f root R b d=zuG G cs f false R b d:=by
 cases f with
 | zero=>rfl
 | succ f=>grind [zuG]
theorem znh {bud}:∀ {i} {l} {p},(∃ r∈l,zvp r=true)→(zu8 bud i l p).k≠0
 | _,[],_,h=>by grind
 | i,r::l,p,h=>by
  unfold zu8
  by_cases c:zvp r=true
  ·have e:(zc1 bud i r p).k≠0:=by
    by_cases d:p.k=0
    ·unfold zc1 PR.bind
     grind
    grind [zi9]
   grind [zep]
  ·obtain ⟨x,a,b⟩:=h
   rcases yG.1 a with rfl | a
   ·grind
   ·exact znh ⟨x,a,b⟩
theorem zrq {bud R G f st b} (h:∃ r∈R,zvp r=true):(runU bud R G (f+1) st b).k≠0:=by
 have a:(zuT bud R G st b).k≠0:=by
  grind [zuT,zdi,znh]
 unfold runU
 grind
theorem ze4 {L} {S} (hS:SysG L S.ztA S.cases):∀ (f n d:Nat) (t0) (b) (t2),1000000+f≤n→d<f→t0.s=S→0≤t0.cost→t0.ztO=t0.cost+(d:Int)→t0.ztO≤65536→(∀ r∈t0.rows,RwOK L r)→t0.rows.length≤1024+(if t2<0 then 0 else 64)→(t2<0→t0.rows=S.rows)→(L=0→∃ r∈t0.rows,zvp r=true)→PI 0 L 0 [] b →
  Out t0 L (!(decide (t2<0)&&!S.cases.isEmpty)) (zuG S.ztA S.cases f (decide (t2<0)) t0.rows b d) (za n t0 b t2)
 | 0,_,_,_,_,_,_,h,_,_,_,_,_,_,_,_,_=>by omega
 | f+1,n,d,t0,b,t2,hn,hd,hs,hc0,hbd,hle,hR,hRl,hroot,hE,hb=>by
  obtain ⟨n,rfl⟩:∃ m,n=m+1:=⟨n - 1,by omega⟩
  have hn1:1000000≤n:=by omega
  have hL:=hS.le
  have hd6:d≤65536:=by omega
  have hR2:t0.rows.length≤1088:=by grind
  unfold za za.body zuG
  by_cases hd0:d=0
  ·have hcb:(t0.cost==t0.ztO)=true:=by grind
   rw [if_pos hd0,if_pos hcb]
   simp only [decide_true,grd,if_true]
   exact ⟨none,rfl,.inl ⟨rfl,rfl⟩⟩
  ·have hcb:¬ (t0.cost==t0.ztO)=true:=by grind
   rw [if_neg hd0,if_neg hcb]
   have hw:SW t0 (d - 1):=⟨hc0,by omega,hle⟩
   have hb1:PI (d - 1) L 0 [] b:=zkM hb
   have hrun:=zra (n:=n) (self:=za n) (t1:=b) (t2:=t2) hw hb.len (by omega) hR (by omega) (by rw [hs];exact hS.gr) (by rw [hs];have:=hS.gl;omega) hb1 hn1
   have ec:zuo t0 []=ztu t0.cost 1:=by
    grind [zuo,ztu,zao]
   rw [show d - 1+1=d by omega,ec] at hrun
   have hp:=zju (bud:=d - 1) (f:=d) (show L≤1000 by omega) hR (show ∀ g∈t0.s.ztA,∃ K,GrOK L g K by rw [hs];exact hS.gr) hb1
   have hple:=znT (bud:=d - 1) (R:=t0.rows) (G:=t0.s.ztA) (f:=d) (st:=[]) (b:=b) (by simp)
   have hvoid:L=0→(runU (d - 1) t0.rows t0.s.ztA d [] b).k≠0:=λh=>by
    have:=zrq (bud:=d - 1) (R:=t0.rows) (G:=t0.s.ztA) (f:=d - 1) (st:=[]) (b:=b) (hE h)
    rwa [show d - 1+1=d by omega] at this
   rw [hrun]
   rw [hs] at hp hple hvoid ⊢
   generalize runU (d - 1) t0.rows S.ztA d [] b=p at *
   unfold finW
   by_cases h2:p.k=2
   ·rw [if_pos h2,if_neg (by omega),if_pos h2]
    exact ⟨none,rfl,.inl ⟨rfl,rfl⟩⟩
   ·rw [if_neg h2]
    have hcc:zuo t0 p.st=t0.cost+((1+p.st.length:Nat):Int):=by unfold zuo;omega
    by_cases h1:p.k≠0
    ·rw [if_pos h1,if_neg h1,if_neg h2]
     refine ⟨_,rfl,.inr ⟨by simp,λh=>absurd h (by simp),0,t0.rows,?_,λ_=>rfl⟩⟩
     rw [hcc]
    ·have hk:p.k=0:=by omega
     have hI:=hp hk
     have hbl:=hI.len
     rw [if_neg h1,if_pos hk]
     unfold zig
     have hcases:((decide (0<(t0.s.cases.length:Int)))&&(decide (t2<0)))=(decide (t2<0)&&!S.cases.isEmpty):=by
      rw [hs,Bool.and_comm]
      congr 1
      rw [Bool.eq_iff_iff]
      simp only [yf,yC,List.isEmpty_eq_false_iff]
      rw [← List.length_pos_iff];omega
     rw [hcases]
     by_cases hr:(decide (t2<0)&&!S.cases.isEmpty)=true
     ·rw [if_pos hr,if_pos hr,hcc,hr]
      simp only [yd,yf] at hr
      have hrow:=hroot hr.1
      rw [if_pos hr.1] at hRl
      refine zmM (ix:=id) (tr:=λkids=>⟨2,p.st,0,0,kids⟩) (self:=λcs d=>zuG S.ztA S.cases f false (t0.rows++cs) p.b d) (l:=S.cases) (λx _ d' hk=>(zgy hk).2) (λx _ d'=>zhc) (by omega) hd6 hS.cl (λrec kids rows c i hi hcc hcd hkl hst=>?_) (λrec kids rows c=>?_) hn1
      ·have hcs:=hS.ca _ (yi hi)
       have hi':i<t0.s.cases.length:=by rw [hs];exact hi
       have ei:t0.s.cases[i]=S.cases[i]:=by simp only [hs]
       have hsr:t0.s.rows=t0.rows:=by rw [hs];exact hrow.symm
       obtain ⟨w,e,hw⟩:=ze4 hS f n (d - c) ⟨t0.s,t0.rows++S.cases[i],t0.ztO,t0.cost+(c:Int)⟩ p.b (i:Int) (by omega) (by omega) hs (by simp only;omega) (by simp only;omega) hle (λr hr=>(yu.1 hr).elim (hR r) (hcs.2 r)) (by rw [if_neg (show ¬ (i:Int)<0 by omega),yQ];omega) (λh=>by omega) (λh=>by
        obtain ⟨r,hr,hr2⟩:=hE h
        exact ⟨r,List.mem_append_left _ hr,hr2⟩) (zkM hI)
       rw [show decide ((i:Int)<0)=false by simp] at hw
       refine ⟨w,?_,?_⟩
       ·simp only [za.l12,zB hi',if_true,zb hi',ya,ei,hsr]
        rw [zpw (by omega) (by omega) hn1,ya,zl (by simp;omega),ya]
        simp only [hbl,hb.len,decide_true,grd,if_true,yO]
        rw [show (⟨⟨t0.s.box,t0.rows,t0.s.ztA,t0.s.cases⟩,t0.rows++S.cases[i],t0.ztO,t0.cost+(c:Int)⟩:ztY)=⟨t0.s,t0.rows++S.cases[i],t0.ztO,t0.cost+(c:Int)⟩ by rw [← hsr],e,ya]
        rfl
       ·rcases hw with h | ⟨h1,h2,ix',rows',h3,h4⟩
        ·exact .inl h
        ·exact .inr ⟨h1,h2,ix',rows',h3,λh=>absurd h (by simp)⟩
      ·have e1:t0.s.cases.length=S.cases.length:=by rw [hs]
       rw [← e1]
       simp only [za.l12,zaw,ye,if_false,hbl,hb.len,decide_true,grd,if_true]
     ·rw [if_neg hr,if_neg hr,zrY (by omega) hn1,ya]
      have hstrict:(!(decide (t2<0)&&!S.cases.isEmpty))=true:=by
       cases hx:(decide (t2<0)&&!S.cases.isEmpty) with
       | false=>rfl
       | true=>exact absurd hx hr
      rw [hstrict]
      by_cases hc:zub p.b<0
      ·have hL1:1≤L:=by
        rcases Nat.eq_zero_or_pos L with h | h
        ·exact absurd hk (hvoid h)
        ·exact h
       rw [if_pos (show decide (zub p.b<0)=true by simpa using hc),if_pos hc,zsH (by omega) (by omega) (by rw [hbl,hb.len]) hn1]
       refine ⟨_,rfl,.inr ⟨by simp,λ_=>⟨by simp [hbl],λh=>?_⟩,gmax t2 0,t0.rows,?_,λ_=>rfl⟩⟩
       ·have:=congrArg List.length h
        rw [yK,hbl,uj] at this
        omega
       ·rw [hcc]
      ·obtain ⟨c0,c1,c2⟩:=zjn hc
       have hmem:=zlr hI.box _ (zh3 c0 c1)
       have hmid:ztu (midP (rgP p.b (zub p.b))) 1=midP (rgP p.b (zub p.b))+1:=by
        unfold midP ztu;rw [zao (by omega) (by omega)]
       rw [if_neg (show ¬ decide (zub p.b<0)=true by simpa using hc),if_neg hc,zhF c0 c1,ya,zpz (box1 hI.box (zh3 c0 c1)) hn1,ya,ya,ya,hcc]
       refine zmM (ix:=λ_=>0) (tr:=λkids=>⟨1,p.st,zub p.b,midP (rgP p.b (zub p.b)),kids⟩) (self:=λr d=>zuG S.ztA S.cases f false t0.rows (zuH p.b (zub p.b) r) d) (l:=zu4 (rgP p.b (zub p.b))) (λx _ d' hk=>(zgy hk).2) (λx _ d'=>zhc) (by omega) hd6 (by simp [zu4]) (λrec kids rows c i hi hcc hcd hkl hst=>?_) (λrec kids rows c=>?_) hn1
       ·have hx:=znn (d:=0) hI hc (yi hi)
        have hrows:=hst rfl
        obtain ⟨w,e,hw⟩:=ze4 hS f n (d - c) ⟨t0.s,t0.rows,t0.ztO,t0.cost+(c:Int)⟩ (zuH p.b (zub p.b) (zu4 (rgP p.b (zub p.b)))[i]) t2 (by omega) (by omega) hs (by simp only;omega) (by simp only;omega) hle hR hRl hroot hE hx
        rw [hstrict] at hw
        have hnr:zuG S.ztA S.cases f (decide (t2<0)) t0.rows (zuH p.b (zub p.b) (zu4 (rgP p.b (zub p.b)))[i]) (d - c)=zuG S.ztA S.cases f false t0.rows (zuH p.b (zub p.b) (zu4 (rgP p.b (zub p.b)))[i]) (d - c):=by
         by_cases h:t2<0
         ·refine zph ?_
          simp only [h,decide_true,yD,yC,List.isEmpty_eq_false_iff] at hr
          exact Classical.not_not.1 hr
         ·rw [show decide (t2<0)=false by simpa using h]
        simp only at hw
        rw [hnr] at hw
        refine ⟨w,?_,hw⟩
        have hi2:i<2:=by simpa [zu4] using hi
        have hsto:∀ r,sto p.b (zub p.b) r=some (zuH p.b (zub p.b) r):=zl9 c0 c1
        subst hrows
        rcases (show i=0∨i=1 by omega) with rfl | rfl
        ·simp only [za.l14,hmid]
         rw [if_pos (by simp),show idx [(⟨(rgP p.b (zub p.b)).lo,midP (rgP p.b (zub p.b))⟩:Range),⟨midP (rgP p.b (zub p.b))+1,(rgP p.b (zub p.b)).hi⟩] ((0:Nat):Int)=some ⟨(rgP p.b (zub p.b)).lo,midP (rgP p.b (zub p.b))⟩ from rfl,ya,zl (by simp;omega),ya,yO,zhF c0 c1,ya,hsto,ya]
         simp only [hbl,hb.len,decide_true,grd,if_true]
         simp only [zu4,List.getElem_cons_zero] at e
         rw [e,ya]
         rfl
        ·simp only [za.l14,hmid]
         rw [if_pos (by simp),show idx [(⟨(rgP p.b (zub p.b)).lo,midP (rgP p.b (zub p.b))⟩:Range),⟨midP (rgP p.b (zub p.b))+1,(rgP p.b (zub p.b)).hi⟩] ((1:Nat):Int)=some ⟨midP (rgP p.b (zub p.b))+1,(rgP p.b (zub p.b)).hi⟩ from rfl,ya,zl (by simp;omega),ya,yO,zhF c0 c1,ya,hsto,ya]
         simp only [hbl,hb.len,decide_true,grd,if_true]
         simp only [zu4,List.getElem_cons_succ,List.getElem_cons_zero] at e
         rw [e,ya]
         rfl
       ·simp only [za.l14]
        rw [if_neg (by simp [zu4])]
        simp only [hbl,hb.len,decide_true,grd,if_true]
def rowH (x:List Int) (r:Row):Bool:=decide (sumP x r.zty≤r.bound)
def zxe (x:List Int) (g:ztR) (a b:Nat):Bool:=decide (g.least.getD (a*g.size.toNat+b) 0≤x.getD (g.first+((a*g.size.toNat+b:Nat):Int)).toNat 0)
def zbW (x:List Int) (g:ztR):Bool:=zvU (zxe x g) g.size.toNat
theorem zno {E F K} (h:∀ a b,a<K→b<K→E a b=F a b):zvU E K=zvU F K:=by
 rw [Bool.eq_iff_iff];exact ⟨zif λa b ha hb hF=>by rw [h a b ha hb];exact hF,zif λa b ha hb hE=>by rw [← h a b ha hb];exact hE⟩
theorem znv {n a r} (ha:zuC a) (hd:zfm a.effect.delta) (ht:∀ t∈r.zty,-1000≤t.ztE∧t.ztE≤1000) (hl:r.zty.length≤1000) (hn:1000000≤n):chgN n a r=chgP a.effect.delta r.zty:=by
 have:=ha.delta
 grind [chgN,zcq,zjJ]
def zeL (q:Question) (a b:Action):List Row:=a.effect.hold++(if (q.e != q.f)=true then b.effect.hold else [])
noncomputable def zcZ (n:Nat) (m:Model) (q:Question) (a b:Action):List ztR:=(List.range m.constraints.length).flatMap λi=>gS n (q.e != q.f) a b (m.constraints.getD i default)
def zj8 (r:Row) (x:Int):Row:=⟨r.zty.map λt=>⟨t.cell,zuj t.ztE⟩,ztH (ztu (zuj r.bound) x) 1⟩
inductive Tgt (n:Nat) (m:Model) (q:Question) (a b:Action) (box:List Range):List Row→List (List Row)→Prop
 | hold (r:Row):q.target.hold=true→idx a.effect.hold q.target.index=some r→Tgt n m q a b box [zj8 r (chgN n b r)] []
 | row (c:Constraint):q.target.hold=false→idx m.constraints q.target.index=some c→c.kind=0→Tgt n m q a b box [zj8 c.row (ztu (chgN n a c.row) (chgN n b c.row))] []
 | none (c:Constraint) (s:Nat):q.target.hold=false→idx m.constraints q.target.index=some c→c.kind=1→c.size=(s:Int)→zhv (zz a.effect.delta) (zz b.effect.delta) box c s=[]→Tgt n m q a b box [⟨[],-1⟩] []
 | graph (c:Constraint) (s:Nat):q.target.hold=false→idx m.constraints q.target.index=some c→c.kind=1→c.size=(s:Int)→zhv (zz a.effect.delta) (zz b.effect.delta) box c s≠[]→Tgt n m q a b box [] (zhv (zz a.effect.delta) (zz b.effect.delta) box c s)
theorem zrn {n m q a b box} (ha:zuC a) (hb:zuC b) (hc:∀ c∈m.constraints,zve box.length c) (sa:zuI a) (sb:zuI b) (hl:m.constraints.length≤1000) (hbx:box.length≤1000)
  (hh:q.target.hold=true→0≤q.target.index∧q.target.index<(a.effect.hold.length:Int)) (hh2:q.target.hold=false→0≤q.target.index∧q.target.index<(m.constraints.length:Int)) (hn:1000000≤n) :
  ∃ (Y:List Row) (cs:List (List Row)),Tgt n m q a b box Y cs∧((zeL q a b++Y).length≤30∧∀ r∈zeL q a b++Y,r.zty.length≤1000)∧((zcZ n m q a b).length≤3000∧∀ g∈zcZ n m q a b,g.least.length≤36)∧zfQ cs ∧
   ∀ R ,R.length≤1000→zwA n m q a b box R=endS n ⟨box,R++(zeL q a b++Y),zcZ n m q a b,cs⟩ (zaj n ⟨box,R++(zeL q a b++Y),zcZ n m q a b,cs⟩):=by
 obtain ⟨H,hH⟩:∃ H:List Row,H=zeL q a b:=⟨_,rfl⟩
 have hHl:H.length≤20∧∀ r∈H,r.zty.length≤1000:=by
  have h1:=ha.hold;have h2:=hb.hold;rw [hH];unfold zeL;constructor
  ·grind
  ·intro r hr;rcases yu.1 hr with hr | hr
   ·exact ha.zty r hr
   ·split at hr
    ·exact hb.zty r hr
    ·simp at hr
 have hstep:∀ R:List Row,R.length≤1000→zwA n m q a b box R=zdo n m q a b box (R++H):=λR hR=>by
  have h1:=ha.hold;have h2:=hb.hold;have hloop:ztz (zf.l3 n m q a b box H) n (R,0)=zdo n m q a b box (R++H):=by
   have:=zdY (body:=zf.l3 n m q a b box H) (l:=H) (n:=n) (st:=λb i=>(b,(i:Int))) (λr:Row=>r) (zdo n m q a b box) R (λrec b6 i hi hb6=>?_) (λrec b6 hb6=>?_) (by omega)
   ·simpa using this
   ·simp only [zf.l3,zB hi,if_true,zb hi,ya,zqB (hHl.2 _ (yi hi)) hn];rw [zl (by first | omega | (simp;omega)),ya,zd (by omega)]
   ·simp only [zf.l3,zaw,ye,if_false];rfl
  unfold zwA;simp only [jn];rw [zl (by first | omega | (simp;omega)),ya,yO];by_cases he:(q.e != q.f)=true
  ·rw [if_pos he,zl (by first | omega | (simp;omega)),ya,← hloop,hH,zeL,if_pos he]
  ·rw [if_neg he,← hloop,hH,zeL,if_neg he,ue]
 obtain ⟨G,hG⟩:∃ G,G=zcZ n m q a b:=⟨_,rfl⟩
 have hGl:G.length≤3000∧∀ g∈G,g.least.length≤36:=by
  have key:∀ k,k≤m.constraints.length→((List.range k).flatMap λi=>gS n (q.e != q.f) a b (m.constraints.getD i default)).length≤3*k∧∀ g∈((List.range k).flatMap λi=>gS n (q.e != q.f) a b (m.constraints.getD i default)),g.least.length≤36:=by
   intro k
   induction k with
   | zero=>intro _;simp
   | succ k ih=>
    intro hk;obtain ⟨i1,i2⟩:=ih (by omega);have e:m.constraints.getD k default=m.constraints[k]'(by omega):=by simp [List.getD,show k<m.constraints.length by omega]
    obtain ⟨g1,g2⟩:=zoc (n:=n) (ef:=(q.e != q.f)) ha hb (hc _ (yi (show k<m.constraints.length by omega))) hn;rw [ziB,e];constructor
    ·rw [yQ];omega
    ·intro g hg;rcases yu.1 hg with hg | hg
     ·exact i2 g hg
     ·exact g2 g hg
  rw [hG];obtain ⟨k1,k2⟩:=key _ (ym _);unfold zcZ;exact ⟨by omega,k2⟩
 have h0:∀ (c:Constraint) (R:List Row),(c.kind==1)=false→finS n box a b R c G=endS n ⟨box,R,G,[]⟩ (zaj n ⟨box,R,G,[]⟩):=λc R hk=>by
  unfold finS;simp only [jn,hk,ye,if_false];rfl
 have c0:zfQ []:=⟨by simp,by simp⟩
 rw [← hG,← hH];cases hhold:q.target.hold with
 | true=>
  obtain ⟨i1,i2⟩:=hh hhold;obtain ⟨r,hr⟩:=za6 i1 i2;have hrl:=ha.zty r (zbb hr);have hx:=zei hb hrl hn;have hnr:=zej (n:=n) (r:=r) (f:=λq0=>zaP n q0) (g:=λq0=>zal n q0 (chgN n b r)) (fP:=zuj) (B:=ztH (ztu (zuj r.bound) (chgN n b r)) 1) (λ_=>rfl) rfl hrl hn;refine ⟨_,_,.hold r hhold hr,⟨by first | omega | (simp;omega),λs hs=>?_⟩,hGl,c0,λR hR=>?_⟩
  ·rcases yu.1 hs with hs | hs
   ·exact hHl.2 s hs
   ·simp at hs;subst hs;simpa [zj8] using hrl
  ·rw [hstep R hR];unfold zdo;simp only [jn,hhold,if_true,hr,ya,hx,hnr];rw [zl (by first | omega | (simp;omega)),ya];have:=zjp (q:=q) (a:=a) (b:=b) (box:=box) (R:=R++H++[zj8 r (chgN n b r)]) (c:=⟨0,0,⟨[],0⟩,0,0⟩) ha hb hc hl hn;rw [← zcZ,← hG] at this;rw [yJ] at this ⊢;exact this.trans (h0 _ _ rfl)
 | false=>
  obtain ⟨i1,i2⟩:=hh2 hhold;obtain ⟨c,hcx⟩:=za6 i1 i2;have hco:=hc c (zbb hcx);have hgl:=λR:List Row=>(zjp (q:=q) (a:=a) (b:=b) (box:=box) (R:=R) (c:=c) ha hb hc hl hn)
  rw [← zcZ,← hG] at hgl;rcases hco.kind with hk | hk
  ·have hx:=zei ha hco.len hn;have hy:=zei hb hco.len hn;have hnr:=zej (n:=n) (r:=c.row) (f:=λq0=>zaP n q0) (g:=λq0=>zal n q0 (ztu (chgN n a c.row) (chgN n b c.row))) (fP:=zuj) (B:=ztH (ztu (zuj c.row.bound) (ztu (chgN n a c.row) (chgN n b c.row))) 1) (λ_=>rfl) rfl hco.len hn;refine ⟨_,_,.row c hhold hcx hk,⟨by first | omega | (simp;omega),λs hs=>?_⟩,hGl,c0,λR hR=>?_⟩
   ·rcases yu.1 hs with hs | hs
    ·exact hHl.2 s hs
    ·simp at hs;subst hs;simpa [zj8] using hco.len
   ·rw [hstep R hR];unfold zdo;have hk':(c.kind==0)=true:=by simp [hk]
    simp only [jn,hhold,ye,if_false,hcx,ya,hk',if_true,hx,hy,hnr];rw [zl (by first | omega | (simp;omega)),ya,yJ];exact (hgl _).trans (h0 _ _ (by simp [hk]))
  ·obtain ⟨s,s1,s2,s3,s4,s5⟩:=hco.sz hk;obtain ⟨cs,hcs,hcsO⟩:=zmp (n:=n) (box:=box) (e:=a) (f:=b) s1 s2 s3 s4 s5 hbx ha.delta hb.delta hn;have hcq:cs=zhv (zz a.effect.delta) (zz b.effect.delta) box c s:=by
    have:=(zkU (n:=n) (c:=c) sa sb s3 hn (box:=box) s1 s2 s4 s5 hbx).1;rw [hcs] at this;exact Option.some.inj this
   have hk0:(c.kind==0)=false:=by simp [hk]
   have hk1:(c.kind==1)=true:=by simp [hk]
   by_cases he:cs=[]
   ·have he':((cs.length:Int)==0)=true:=by simp [he]
    refine ⟨_,_,.none c s hhold hcx hk s1 (hcq▸he),⟨by first | omega | (simp;omega),λs hs=>?_⟩,hGl,c0,λR hR=>?_⟩
    ·rcases yu.1 hs with hs | hs
     ·exact hHl.2 s hs
     ·simp at hs;subst hs;simp
    ·rw [hstep R hR];unfold zdo;simp only [jn,hhold,ye,if_false,hcx,ya,hk0];refine (hgl _).trans ?_;unfold finS;simp only [jn,hk1,if_true,hcs,ya,he'];rw [zl (by first | omega | (simp;omega)),ya,yJ,he];rfl
   ·have he':¬ ((cs.length:Int)==0)=true:=by simp [he]
    refine ⟨_,_,.graph c s hhold hcx hk s1 (hcq▸he),⟨by simpa using (by omega:H.length≤30),by simpa using hHl.2⟩,hGl,hcq▸hcsO,λR hR=>?_⟩;rw [hstep R hR];unfold zdo;simp only [jn,hhold,ye,if_false,hcx,ya,hk0];refine (hgl _).trans ?_;unfold finS;simp only [jn,hk1,if_true,hcs,ya];rw [if_neg he',← hcq,ue];rfl
theorem gr_eq {n K:Nat} {c} {s:Nat} {f} {fP:Int→Int} (hs:c.size=(s:Int)) (h6:s≤6) (hf:∀ x,f x=some (fP x)) (hn:1000000≤n):gr n c f=⟨c.first,c.size,(List.range (s*s)).map λi:Nat=>ztH 1 (fP (ztu c.first (i:Int)))⟩:=by
 have e :=ub h6 h6;have b:ztG c.size c.size=((s*s:Nat)):=by
  grind [zgx]
 have:zG n c f=some ⟨c.first,c.size,(List.range (s*s)).map λi:Nat=>ztH 1 (fP (ztu c.first i))⟩:=by
  unfold zG;have:=zM (body:=zG.l1 n c f) (len:=s*s) (st:=λi=>(((List.range i).map λi:Nat=>ztH 1 (fP (ztu c.first i))),i)) (g:=λ_=>some (⟨c.first,c.size,(List.range (s*s)).map λi:Nat=>ztH 1 (fP (ztu c.first i))⟩)) (λa i h d=>?_) (λa=>?_) n 0 (yo _) (by omega)
  ·grind
  ·simp only [zG.l1]
   grind [zl,zd,List.range_succ]
  ·simp only [zG.l1,b,zhC (ym _),ye,if_false]
 grind [gr]
theorem zlI {n K} {c} {x y} {f} {fP:Int→Int} (hc:zve K c) (hk:c.kind=1) (hx:x.length=K) (hK:K≤1000) (hf:∀ z,f z=some (fP z)) (hsm:∀ z,-4000000000≤fP z∧fP z≤4000000000)
  (hy:∀ i ,0≤i→i<(K:Int)→y.getD i.toNat 0=x.getD i.toNat 0+fP i) (hn:1000000≤n):zbW x (gr n c f)=zav c y:=by
 obtain ⟨s,e,p,h,o,m⟩:=hc.sz hk;rw [gr_eq (K:=K) e h hf hn];unfold zbW zav;rw [if_pos hk];simp only [e,yt];refine zno λa b j k=>?_
 have l:=zex j k;have d:c.first+a*s+b=c.first+((a*s+b:Nat)):=by grind
 have g:=hsm (c.first+((a*s+b:Nat)));unfold zxe zvf;rw [Bool.eq_iff_iff];simp only [yf,e,yt,d];rw [hy _ (by omega) (by omega),yE,y0,List.getElem?_range l];simp only [yR,yj];rw [zcp (by omega) (by omega),zjy (by omega) (by omega)];omega
theorem zlj {K x} (hp:zuD K x) {j} (hj:j<x.length):vtx x j<K∧x.getD j 0=((vtx x j:Nat):Int):=by
 have a:=hp.mem x[j] (yi hj)
 grind [vtx]
section
variable {c:Constraint} {K:Nat} {box:List Range} {s:List Int} {da db:List Change}
theorem zn0 (hs:c.size=(K:Int)) (h6:K≤6) (h0:0≤c.first) (h1:c.first≤1000000) {x} (hp:zuD K x) {i} (hi:i<x.length) :
  zcB c x i=c.first+((vtx x i*K+vtx x ((i+1) % x.length):Nat):Int):=by
 obtain ⟨d,f⟩:=zlj hp hi;obtain ⟨b,g⟩:=zlj hp (Nat.mod_lt (i+1) (show 0<x.length by omega));have e:=zex d b;have a :=ub h6 h6
 grind [zcB,zgx,zcp]
theorem zms (hs:c.size=(K:Int)) (h0:0≤c.first) (hf:c.first+((K*K:Nat):Int)≤(s.length:Int)) {a b} (ha:a<K) (hb:b<K):zvf (zt0 s da) c a b=decide (1≤s.getD (c.first+((a*K+b:Nat):Int)).toNat 0+zz da (c.first+((a*K+b:Nat):Int))):=by
 have d:=zex ha hb
 grind [zvf,zgA]
theorem ziq (hs:c.size=(K:Int)) (h0:0≤c.first) (hf:c.first+((K*K:Nat):Int)≤(s.length:Int)) {a b} (ha:a<K) (hb:b<K):zvf (zt0 (zt0 s da) db) c a b=decide (1≤s.getD (c.first+((a*K+b:Nat):Int)).toNat 0+zz da (c.first+((a*K+b:Nat):Int))+zz db (c.first+((a*K+b:Nat):Int))):=by
 have hp:=zex ha hb;rw [zms hs h0 (by rw [zjq];exact hf) ha hb,zgA (by omega) (by omega)]
theorem zn4 (hs:c.size=(K:Int)) (h6:K≤6) (h0:0≤c.first) (hf:c.first+((K*K:Nat):Int)≤(s.length:Int)) (hl:s.length≤1000) (hA:zfm da) (hB:zfm db) {x} (hp:zuD K x) {i} (hi:i<x.length) :
  rowH s (zip (zz da) (zz db) c x i)=zvf (zt0 (zt0 s da) db) c (vtx x i) (vtx x ((i+1) % x.length)):=by
 have b:=(zlj hp hi).1;have a:=(zlj hp (Nat.mod_lt (i+1) (show 0<x.length by omega))).1;rw [ziq hs h0 hf b a];unfold rowH zip;rw [zn0 hs h6 h0 (by omega) hp hi];have e:=zcE hA (c.first+((vtx x i*K+vtx x ((i+1) % x.length))));have d:=zcE hB (c.first+((vtx x i*K+vtx x ((i+1) % x.length))))
 grind [sumP,zcp,zjy]
theorem zmo (hk:c.kind=1) (hs:c.size=(K:Int)) (h6:K≤6) (h0:0≤c.first) (hf:c.first+((K*K:Nat):Int)≤(box.length:Int)) (hg:zwM box=true) (hx:zvV box s=true) (hl:box.length≤1000) (hA:zfm da) (hB:zfm db)
  (ha:zav c (zt0 s da)=true) (hb:zav c (zt0 s db)=true):(zhv (zz da) (zz db) box c K).any (λrows=>rows.all (rowH s)) = !zav c (zt0 (zt0 s da) db):=by
 have hxl:=zhH hx;have hK:c.size.toNat=K:=by omega
 have h36:K*K≤36:=ub h6 h6;have hfs:c.first+((K*K:Nat):Int)≤(s.length:Int):=by omega
 have hbig:∀ a b,a<K→b<K→zvf (zt0 (zt0 s da) db) c a b=true→hasP ⟨(K:Int),(List.range (K*K)).map λi:Nat=>decide (1≤ztu ((idx box (ztu c.first (i:Int))).getD default).hi (ztu (zz da (ztu c.first (i:Int))) (zz db (ztu c.first (i:Int)))))⟩ a b=true:=by
  intro a b h1 h2 he;have hp:=zex h1 h2;rw [ziq hs h0 hfs h1 h2] at he;have e1:ztu c.first ((a*K+b:Nat):Int)=c.first+((a*K+b:Nat):Int):=zcp (by omega) (by omega)
  obtain ⟨z,hz⟩:=y7 (show 0≤c.first+((a*K+b:Nat):Int) by omega);have hzl:z<box.length:=by omega
  have hin:=zhG hx z hzl (by omega);have hgz:=yp.1 hg _ (yi hzl);simp only [yd,yf] at hgz;have a1:=zcE hA (z:Int);have b1:=zcE hB (z:Int);unfold hasP;simp only [yt];rw [yE,y0,List.getElem?_range hp];simp only [yR,yj,e1];rw [hz,yt] at he;rw [hz,zb hzl,yj,zcp (x:=zz da (z:Int)) (by omega) (by omega),zcp (by omega) (by omega)]
  grind
 have hrows:∀ x,zuD K x→(((List.range x.length).map (zip (zz da) (zz db) c x)).all (rowH s)=true↔zwF (zvf (zt0 (zt0 s da) db) c) x):=λx hp=>by
  rw [List.all_map,yp];unfold zwF;constructor
  ·intro h i hi;have:=h i (yV.2 hi)
   rwa [Function.comp_apply,zn4 hs h6 h0 hfs (by omega) hA hB hp hi] at this
  ·intro h i hi;rw [Function.comp_apply,zn4 hs h6 h0 hfs (by omega) hA hB hp (yV.1 hi)];exact h i (yV.1 hi)
 have hup:∀ (d e:List Change) x,x∈cycP (zvf (zt0 (zt0 s da) db) c) K→zav c (zt0 s e)=true→(∀ z,zz da z+zz db z=zz d z+zz e z)→(List.range x.length).any (λi=>decide (0<zz d (zcB c x i)))=true:=by
  intro d e x hxc hh hsum;have hp:=zfX hxc;refine Classical.byContradiction λhno=>?_
  simp only [yS,List.any_eq_false,yV,yf] at hno;have hin:zwF (zvf (zt0 s e) c) x:=λi hi=>by
   have v1:=(zlj hp hi).1;have w1:=(zlj hp (Nat.mod_lt (i+1) (show 0<x.length by omega))).1;have h1:=zly hxc i hi;have h2:=hno i hi;rw [zn0 hs h6 h0 (by omega) hp hi] at h2;rw [ziq hs h0 hfs v1 w1] at h1;rw [zms hs h0 hfs v1 w1];have h3:=hsum (c.first+((vtx x i*K+vtx x ((i+1) % x.length):Nat):Int));simp only [yf] at h1 ⊢;omega
  unfold zav at hh;rw [if_pos hk,hK] at hh;exact zfb.1 hh x (zjN hxc hin)
 have hab:zav c (zt0 (zt0 s da) db)=zvU (zvf (zt0 (zt0 s da) db) c) K:=by unfold zav;rw [if_pos hk,hK]
 rw [hab,Bool.eq_iff_iff,yC,← yS,zfb,ut];constructor
 ·rintro ⟨rows,hr,hall⟩ hno;obtain ⟨x,hx1,hx2⟩:=uc.1 hr;have hp:=zfX hx1;unfold zdG at hx2;split at hx2
  ·simp only [yM] at hx2;subst hx2;exact hno x (zjN hx1 ((hrows x hp).1 hall))
  ·simp at hx2
 ·intro hex;obtain ⟨x,hxc⟩:∃ x,x∈cycP (zvf (zt0 (zt0 s da) db) c) K:=Classical.byContradiction λh=>hex λx hx=>h ⟨x,hx⟩
  have hp:=zfX hxc;have hin:=zly hxc;refine ⟨_,uc.2 ⟨x,zjN hxc (hin.mono hp hbig),?_⟩,(hrows x hp).2 hin⟩;unfold zdG;rw [if_pos]
  ·exact yM.2 rfl
  ·rw [hup da db x hxc hb (λ_=>rfl),hup db da x hxc ha (λz=>Int.add_comm _ _)];rfl
theorem zmH {x} (h1 : -1000000000000000000≤x) (h2:x≤1000000000000000000):zuj x = -x:=by
 grind [zuj,zao]
theorem zqH {K}:∀ {l},(∀ t∈l,zgo K t)→sumP s (l.map λt=>⟨t.cell,zuj t.ztE⟩) = -sumP s l
 | [],_=>rfl
 | t::l,h=>by
  obtain ⟨-,-,b,c⟩:=h t (by simp);simp only [yY,sumP];rw [zqH (λu a=>h u (by simp [a])),zmH (by omega) (by omega),Int.neg_mul];omega
theorem zou {K r x} (ht:∀ t∈r.zty,zgo K t) (hb : -1000000000≤r.bound∧r.bound≤1000000000) (hx : -1000000000000000000≤x∧x≤1000000000000000000):rowH s (zj8 r x) = !decide (sumP s r.zty+x≤r.bound):=by
 unfold rowH zj8;rw [zqH ht,zmH (by omega) (by omega),zcp (by omega) (by omega),zjy (by omega) (by omega),Bool.eq_iff_iff]
 grind
end
theorem zjR {x y B}:gmax x y≤B↔x≤B∧y≤B:=
 ⟨λh=>by have:=zlF x y;omega,λh=>zlG h.1 h.2⟩
def relQ (q:Question) (i:Int):Bool:=q.target.hold||(q.target.index != i)
def zjF (m:Model) (q:Question) (a b:Action) (s:List Int):Bool:=
 if q.target.hold=true then !zav ⟨0,0,(idx a.effect.hold q.target.index).getD default,0,0⟩ (zt0 s b.effect.delta)
 else !zav ((idx m.constraints q.target.index).getD default) (zt0 (zt0 s a.effect.delta) b.effect.delta)
def zgl (m:Model) (q:Question) (rows:List Int) (a b:Action) (s:List Int):Bool:=
 (zxJ m a.effect s&&zxJ m b.effect s)&&(rows.all (λi=>!(relQ q i&&!zav ((idx m.constraints i).getD default) (zt0 (zt0 s a.effect.delta) b.effect.delta)))&&zjF m q a b s)
structure zuz (n:Nat) (m:Model) (q:Question) (a b:Action) (s:List Int):Prop where
 small:zt9 m
 valid:zvh m
 quest:zfM m q=true
 ha:idx m.ztw q.e=some a
 hb:idx m.ztw q.f=some b
 box:zvV (boxM m) s=true
 len:(boxM m).length≤100
 fuel:4294967296≤n
section
variable {n:Nat} {m:Model} {q:Question} {rows:List Int} {a b:Action} {s:List Int}
theorem zuz.state (h:zuz n m q a b s):zxQ m s:=zrk h.valid.lay h.box
theorem zuz.conIn (h:zuz n m q a b s) {c} (hc:c∈m.constraints):ConIn c s.length:=by
 rw [h.state.len];exact zrz h.small h.valid hc
theorem zuz.zwZ (h:zuz n m q a b s) {c} (hc:c∈m.constraints):zve (boxM m).length c:=zrA h.small h.valid hc
theorem zuz.dA (h:zuz n m q a b s):zfm a.effect.delta∧∀ r∈a.effect.hold,zul (boxM m).length r=true:=zml h.valid (zbb h.ha)
theorem zuz.dB (h:zuz n m q a b s):zfm b.effect.delta∧∀ r∈b.effect.hold,zul (boxM m).length r=true:=zml h.valid (zbb h.hb)
theorem zuz.oA (h:zuz n m q a b s):zuC a:=zkO h.small (zbb h.ha)
theorem zuz.oB (h:zuz n m q a b s):zuC b:=zkO h.small (zbb h.hb)
theorem zuz.sA (h:zuz n m q a b s):zuI a:=zjv h.fuel h.small h.valid (zbb h.ha)
theorem zuz.sB (h:zuz n m q a b s):zuI b:=zjv h.fuel h.small h.valid (zbb h.hb)
theorem zuz.same (h:zuz n m q a b s) (he:(q.e != q.f)=false):a=b:=by
 have e:q.e=q.f:=by grind
 have c:=h.ha;rw [e,h.hb] at c
 grind
theorem zuz.row (h:zuz n m q a b s) {c} (hc:c∈m.constraints) (hk:c.kind=0) :
  (∀ t∈c.row.zty,zgo s.length t)∧c.row.zty.length≤1000∧(-1000000000≤c.row.bound∧c.row.bound≤1000000000)∧chgN n a c.row=chgP a.effect.delta c.row.zty∧chgN n b c.row=chgP b.effect.delta c.row.zty ∧
   (-1000000000000000≤chgN n a c.row∧chgN n a c.row≤1000000000000000)∧(-1000000000000000≤chgN n b c.row∧chgN n b c.row≤1000000000000000):=by
 have f:1000000≤n:=by have:=h.fuel;omega
 have g:=zpK h.valid hc hk;have i : -1000000000≤c.row.bound∧c.row.bound≤1000000000:=by
  simp only [zul,zaT,yd,yf] at g;omega
 have d:=(h.zwZ hc).len;have ht :=by
  cases h.conIn hc with
  | row _ ht _ _=>exact ht
  | graph _ hk1=>omega
 have e :=λt h=>(ht t h).2.2
 exact ⟨ht,d,i,znv h.oA h.dA.1 e d f,znv h.oB h.dB.1 e d f,znu h.oA h.dA.1 e d f,znu h.oB h.dB.1 e d f⟩
theorem zes {c} (hk:c.kind=0) (x):zav c x=decide (sumP x c.row.zty≤c.row.bound):=by
 unfold zav;grind
theorem zqt (h:zuz n m q a b s):(zvr n m q rows a b).all (rowH s)=true↔∀ i (hi:i<m.constraints.length),m.constraints[i].kind=0 →
  ((zav m.constraints[i] s=true∧zav m.constraints[i] (zt0 s a.effect.delta)=true)∧zav m.constraints[i] (zt0 s b.effect.delta)=true)∧((i:Int)∈rows→relQ q (i:Int)=true→zav m.constraints[i] (zt0 (zt0 s a.effect.delta) b.effect.delta)=true):=by
 unfold zvr;rw [List.all_flatMap,yp];have key:∀ i (hi:i<m.constraints.length),((rowS n q rows a b i (m.constraints.getD i default)).all (rowH s)=true↔(m.constraints[i].kind=0 →
   ((zav m.constraints[i] s=true∧zav m.constraints[i] (zt0 s a.effect.delta)=true)∧zav m.constraints[i] (zt0 s b.effect.delta)=true)∧((i:Int)∈rows→relQ q (i:Int)=true→zav m.constraints[i] (zt0 (zt0 s a.effect.delta) b.effect.delta)=true))):=λi hi=>by
  have e:m.constraints.getD i default=m.constraints[i]:=by grind [List.getD]
  rw [e];unfold rowS;by_cases hk:m.constraints[i].kind=0
  ·obtain ⟨ht,hlen,hbd,ea,eb,ba,bb⟩:=h.row (yi hi) hk;rw [if_neg (by simp [hk]),zes hk,zes hk,zes hk,zes hk];have e1:=zfI (s:=s) (d:=a.effect.delta) ht;have e2:=zfI (s:=s) (d:=b.effect.delta) ht;have e3:=zfI (s:=zt0 s a.effect.delta) (d:=b.effect.delta) (l:=m.constraints[i].row.zty) (by grind [zjq]);rw [e3,e1,e2];rw [← ea,← eb];have hs:ztu (chgN n a m.constraints[i].row) (chgN n b m.constraints[i].row)=chgN n a m.constraints[i].row+chgN n b m.constraints[i].row:=zcp (by omega) (by omega);obtain ⟨k1,-,k3⟩:=zq5 (q:=q) (rows:=rows) (less:=rows) (i:=i) ba bb id;simp only [um,List.all_nil,ui,rowH];rw [zjy (by omega) (by omega)];simp only [yf,hk,true_imp_iff];have hle:sumP s m.constraints[i].row.zty≤m.constraints[i].row.bound - kS n q rows a b i m.constraints[i]↔kS n q rows a b i m.constraints[i]≤m.constraints[i].row.bound - sumP s m.constraints[i].row.zty:=by omega
   rw [hle];unfold kS;rw [hs];by_cases hr:(i:Int)∈rows∧relQ q (i:Int)=true
   ·obtain ⟨r1,r2⟩:=hr;have r2':=r2;unfold relQ at r2';simp only [r1,r2',decide_true,uS,if_true,zjR,true_imp_iff,r2];omega
   ·have:(decide ((i:Int)∈rows)&&(q.target.hold||(q.target.index != (i:Int))))=false:=by
     rw [uQ];intro hh;rw [yd,yf] at hh;exact hr hh
    rw [this];simp only [ye,if_false,zjR];constructor
    ·intro h;exact ⟨by omega,λh1 h2=>absurd ⟨h1,h2⟩ hr⟩
    ·intro h;omega
  ·rw [if_pos (by simpa using hk)];simp [hk]
 simp_all
theorem zuz.lenP (h:zuz n m q a b s):s.length=(boxM m).length:=h.state.len
theorem zkd (h:zuz n m q a b s) {x} (hx:x∈m.ztw) {c} (hc:c∈m.constraints) (hk:c.kind=1) (hno:¬ 0<(((zA n x c).getD []).length:Int)) (hs:zav c s=true):zav c (zt0 s x.effect.delta)=true:=by
 have w:=h.fuel;have y:=h.len;obtain ⟨k,f,z⟩:=(h.zwZ hc).mul hk;have g:=(zkO h.small hx).delta;rw [zdd f (by omega) (by omega) (by omega) (by omega),yj] at hno;obtain ⟨d,l,e,r,o,t⟩:=(h.zwZ hc).sz hk;have u:k=d*d:=by
  grind [zgx]
 refine znB hk ⟨l,e,r,o,by rw [h.lenP];exact t,by rw [h.lenP];omega⟩ (λj v=>?_) hs;have:=zk5 (p:=zea x.effect.delta c) (k:=k) (i:=0) (by omega) j (by omega) (by omega)
 grind [zea,zcp]
theorem znC (h:zuz n m q a b s):(zcZ n m q a b).all (zbW s)=true↔∀ i (hi:i<m.constraints.length),m.constraints[i].kind=1 →
  (zav m.constraints[i] s=true∧zav m.constraints[i] (zt0 s a.effect.delta)=true)∧zav m.constraints[i] (zt0 s b.effect.delta)=true:=by
 have hn:1000000≤n:=by have:=h.fuel;omega
 have hL:=h.len;unfold zcZ;rw [List.all_flatMap,yp];have key:∀ i (hi:i<m.constraints.length),((gS n (q.e != q.f) a b (m.constraints.getD i default)).all (zbW s)=true↔(m.constraints[i].kind=1 →
   (zav m.constraints[i] s=true∧zav m.constraints[i] (zt0 s a.effect.delta)=true)∧zav m.constraints[i] (zt0 s b.effect.delta)=true)):=λi hi=>by
  have e:m.constraints.getD i default=m.constraints[i]:=by grind
  rw [e];have hc:=yi hi;unfold gS;by_cases hk:m.constraints[i].kind=1
  ·rw [if_neg (by simp [hk]),show (zA n b m.constraints[i]).getD default=(zA n b m.constraints[i]).getD [] from rfl];have hco:=h.zwZ hc;have g2:zbW s (gr n m.constraints[i] λq0=>zaV n q0)=zav m.constraints[i] s:=
    zlI (fP:=λ_=>0) hco hk h.lenP (by omega) (λ_=>rfl) (λ_=>by omega) (λi _ _=>by omega) hn
   have g3:zbW s (gr n m.constraints[i] λq0=>zQ n q0 a)=zav m.constraints[i] (zt0 s a.effect.delta):=
    zlI (fP:=zz a.effect.delta) hco hk h.lenP (by omega) (λz=>by unfold zQ;rw [h.sA.added hn];rfl) (λz=>by have:=zcE h.dA.1 z;omega) (λi h0 h1=>zgA h0 (by rw [h.lenP];exact h1)) hn
   have g4:zbW s (gr n m.constraints[i] λq0=>zac n q0 b)=zav m.constraints[i] (zt0 s b.effect.delta):=
    zlI (fP:=zz b.effect.delta) hco hk h.lenP (by omega) (λz=>by unfold zac;rw [h.sB.added hn];rfl) (λz=>by have:=zcE h.dB.1 z;omega) (λi h0 h1=>zgA h0 (by rw [h.lenP];exact h1)) hn
   have k3:=λhno=>zkd h (zbb h.ha) hc hk hno
   have k4:=λhno=>zkd h (zbb h.hb) hc hk hno
   rw [List.all_append,List.all_append];simp only [um,List.all_nil,ui,g2,hk,true_imp_iff];by_cases h3:0<(((zA n a m.constraints[i]).getD []).length:Int)
   ·rw [if_pos (by simpa using h3)];simp only [um,List.all_nil,ui,g3];cases hef:(q.e != q.f) with
    | false=>
     have hab:=h.same hef;subst hab;simp only [uf,ye,if_false,List.all_nil,ui,yd];exact ⟨λh=>⟨h,h.2⟩,λh=>h.1⟩
    | true=>
     by_cases h4:0<(((zA n b m.constraints[i]).getD []).length:Int)
     ·rw [if_pos (by simpa using h4)];simp only [um,List.all_nil,ui,g4,yd,and_assoc]
     ·rw [if_neg (by simpa using h4)];simp only [List.all_nil,ui,yd];exact ⟨λh=>⟨h,k4 h4 h.1⟩,λh=>h.1⟩
   ·rw [if_neg (by simpa using h3)];simp only [List.all_nil,yD];cases hef:(q.e != q.f) with
    | false=>
     have hab:=h.same hef;subst hab;simp only [uf,ye,if_false,List.all_nil,ui];exact ⟨λh=>⟨⟨h,k3 h3 h⟩,k3 h3 h⟩,λh=>h.1.1⟩
    | true=>
     by_cases h4:0<(((zA n b m.constraints[i]).getD []).length:Int)
     ·rw [if_pos (by simpa using h4)];simp only [um,List.all_nil,ui,g4,yd];exact ⟨λh=>⟨⟨h.1,k3 h3 h.1⟩,h.2⟩,λh=>⟨h.1.1,h.2⟩⟩
     ·rw [if_neg (by simpa using h4)];simp only [List.all_nil,ui];exact ⟨λh=>⟨⟨h,k3 h3 h⟩,k4 h4 h⟩,λh=>h.1.1⟩
  grind
 simp_all
theorem zpd (h:zuz n m q a b s):(zeL q a b).all (rowH s)=(a.effect.hold.all (λr=>zav ⟨0,0,r,0,0⟩ s)&&b.effect.hold.all (λr=>zav ⟨0,0,r,0,0⟩ s)):=by
 have e:(λr=>zav ⟨0,0,r,0,0⟩ s)=rowH s:=by
  funext r;exact zes rfl s
 rw [e];unfold zeL;cases c:(q.e != q.f) with
 | false=>
  have d:=h.same c
  grind
 | true=>simp
theorem zps {Y cs} (h:zuz n m q a b s) (hT:Tgt n m q a b (boxM m) Y cs)
  (hg:∀ c∈m.constraints,c.kind=1→zav c (zt0 s a.effect.delta)=true∧zav c (zt0 s b.effect.delta)=true) :
  (Y.all (rowH s)&&(cs.isEmpty||cs.any (λrows=>rows.all (rowH s))))=zjF m q a b s:=by
 have hn:1000000≤n:=by have:=h.fuel;omega
 have hgood:=zhu h.valid.lay;unfold zjF;cases hT with
 | hold r h1 h2=>
  rw [if_pos h1,h2,yj,zes rfl];have hro:=h.dA.2 r (zbb h2);have hlen:=h.oA.zty r (zbb h2);have hbd : -1000000000≤r.bound∧r.bound≤1000000000:=by
   simp only [zul,zaT,yd,yf] at hro;omega
  have ht:∀ t∈r.zty,zgo (boxM m).length t:=by
   simp only [zul,yd] at hro
   grind [ziD]
  have hf:∀ t∈r.zty,-1000≤t.ztE∧t.ztE≤1000:=λt h=>(ht t h).2.2
  have hb:=znu h.oB h.dB.1 hf hlen hn;simp only [um,List.all_nil,ui,List.isEmpty_nil,uA];rw [zou ht hbd (by omega),znv h.oB h.dB.1 hf hlen hn,zfI (by rw [h.lenP];exact ht)]
 | row c h1 h2 hk=>
  rw [if_neg (by simp [h1]),h2,yj,zes hk];obtain ⟨ht,hlen,hbd,ea,eb,ba,bb⟩:=h.row (zbb h2) hk;simp only [um,List.all_nil,ui,List.isEmpty_nil,uA];rw [zcp (by omega) (by omega),zou ht hbd (by omega),zfI (by grind [zjq]),zfI ht,ea,eb,Int.add_assoc]
 | none c k h1 h2 hk hz he=>
  rw [if_neg (by simp [h1]),h2,yj];obtain ⟨size,z1,z2,z3,z4,z5⟩:=(h.zwZ (zbb h2)).sz hk;have hks:k=size:=by omega
  subst hks;obtain ⟨ga,gb⟩:=hg c (zbb h2) hk;rw [← zmo hk z1 z3 z4 z5 hgood h.box (by have:=h.len;omega) h.dA.1 h.dB.1 ga gb,he];rfl
 | graph c k h1 h2 hk hz he=>
  rw [if_neg (by simp [h1]),h2,yj];obtain ⟨size,z1,z2,z3,z4,z5⟩:=(h.zwZ (zbb h2)).sz hk;have hks:k=size:=by omega
  subst hks;obtain ⟨ga,gb⟩:=hg c (zbb h2) hk;rw [← zmo hk z1 z3 z4 z5 hgood h.box (by have:=h.len;omega) h.dA.1 h.dB.1 ga gb]
  grind
theorem zmG {Y cs} (h:zuz n m q a b s) (hT:Tgt n m q a b (boxM m) Y cs) (hrows:∀ i∈rows,∃ (k:Nat) (hk:k<m.constraints.length),i=(k:Int)∧m.constraints[k].kind=0) :
  (((zvr n m q rows a b++(zeL q a b++Y)).all (rowH s)&&(zcZ n m q a b).all (zbW s))&&(cs.isEmpty||cs.any (λrows=>rows.all (rowH s))))=zgl m q rows a b s:=by
 rw [List.all_append,List.all_append,zpd h];have h1:=zqt (rows:=rows) h;have h2:=znC h;have kinds:∀ c∈m.constraints,c.kind=0∨c.kind=1:=λc hc=>(h.zwZ hc).kind
 have base:((zvr n m q rows a b).all (rowH s)=true∧(a.effect.hold.all (λr=>zav ⟨0,0,r,0,0⟩ s)=true∧b.effect.hold.all (λr=>zav ⟨0,0,r,0,0⟩ s)=true))∧(zcZ n m q a b).all (zbW s)=true ↔
   (zxJ m a.effect s=true∧zxJ m b.effect s=true)∧rows.all (λi=>!(relQ q i&&!zav ((idx m.constraints i).getD default) (zt0 (zt0 s a.effect.delta) b.effect.delta)))=true:=by
  rw [h1,h2];unfold zxJ;simp only [yd,yp];constructor
  ·rintro ⟨⟨r1,r2,r3⟩,g1⟩;have hall:∀ c∈m.constraints,(zav c s=true∧zav c (zt0 s a.effect.delta)=true)∧zav c (zt0 s b.effect.delta)=true:=λc hc=>by
    obtain ⟨i,hi,rfl⟩:=List.getElem_of_mem hc;rcases kinds _ hc with hk | hk
    ·exact (r1 i hi hk).1
    ·exact g1 i hi hk
   refine ⟨⟨⟨λc hc=>(hall c hc).1,r2⟩,λc hc=>⟨(hall c hc).1.1,(hall c hc).2⟩,r3⟩,λi hi=>?_⟩;obtain ⟨k,hk,rfl,hk0⟩:=hrows i hi;rw [zb hk,yj];cases hr:relQ q (k:Int) with
   | false=>rfl
   | true=>rw [(r1 k hk hk0).2 hi hr];rfl
  ·rintro ⟨⟨⟨a1,a2⟩,b1,b2⟩,r1⟩;refine ⟨⟨λi hi hk=>⟨⟨a1 _ (yi hi),(b1 _ (yi hi)).2⟩,λhm hr=>?_⟩,a2,b2⟩,λi hi hk=>⟨a1 _ (yi hi),(b1 _ (yi hi)).2⟩⟩;have:=r1 _ hm;rw [zb hi,yj,hr] at this;simpa using this
 rw [Bool.eq_iff_iff];unfold zgl;have tgt:((zvr n m q rows a b).all (rowH s)=true∧(a.effect.hold.all (λr=>zav ⟨0,0,r,0,0⟩ s)=true∧b.effect.hold.all (λr=>zav ⟨0,0,r,0,0⟩ s)=true))∧(zcZ n m q a b).all (zbW s)=true →
   ((Y.all (rowH s)&&(cs.isEmpty||cs.any (λrows=>rows.all (rowH s))))=true↔zjF m q a b s=true):=λhb=>by
  rw [zps h hT λc hc hk=>?_];obtain ⟨i,hi,rfl⟩:=List.getElem_of_mem hc;have:=h2.1 hb.2 i hi hk;exact ⟨this.1.2,this.2⟩
 grind
end
theorem zpC {m} {rows:List Int} (h:(rows.all λx=>!badR m x)=true):∀ i∈rows,∃ (k:Nat) (hk:k<m.constraints.length),i=(k:Int)∧m.constraints[k].kind=0:=λi b=>by
 have:=yp.1 h i b;unfold badR at this;simp only [yC,ud,yL,Int.not_lt] at this;obtain ⟨⟨c,d⟩,a⟩:=this;obtain ⟨k,rfl⟩:=y7 c;have hk:k<m.constraints.length:=by omega
 rw [zb hk,yj] at a
 grind
theorem zoE {K}:∀ {l} {last},-1≤last→rowP K last l=true→l=[]∨(l.length:Int)≤(K:Int) - 1 - last
 | [],_,_,_=>.inl rfl
 | t::l,last,a,h=>by
  simp only [rowP,yd,yf] at h
  rcases zoE (by omega) h.2 with e | e
  ·grind
  grind
theorem zoD {L} {r} (hL:L≤100) (h:zul L r=true):RwOK L r:=by
 have b:r.zty.length≤100:=by
  have a:=h
  simp only [zul,yd] at a
  rcases zoE (by omega) a.1 with e | e
  ·simp [e]
  ·omega
 have d:=zpR (n:=1000000) (K:=L) (r:=r) (by omega) (ym _)
 have c:=zoa (n:=1000000) (k:=L) (r:=r) (by omega) (ym _)
 exact ⟨by grind,by omega⟩
theorem zpY {L} {g} (hL:L≤100) (h:zeK L g=true):∃ K,GrOK L g K:=by
 simp only [zeK,ziX,yd,yC,ud,yL,bne_eq_false_iff_eq,List.any_eq_false] at h
 obtain ⟨⟨⟨⟨⟨l,k⟩,m⟩,f⟩,c⟩,i⟩:=h
 obtain ⟨K,d⟩:∃ K:Nat,g.size=K:=⟨g.size.toNat,by omega⟩
 have a:K≤6:=by omega
 have j :=ub a a
 have e:ztG g.size g.size=((K*K:Nat)):=by
  grind [ztG,zao]
 rw [e] at f c
 have n:ztH L ((K*K:Nat))=L - ((K*K)):=zao (by omega) (by omega)
 refine ⟨K,d,by omega,a,by omega,⟨by omega,by omega⟩,λx b=>?_⟩
 have:=i x b
 simp only [zf3,yI,yf] at this
 omega
theorem ztj {L} {R G cs} (hL:L≤100) (h:sysP L R G cs=true):SysG L G cs∧(∀ r∈R,RwOK L r)∧R.length≤1024:=by
 simp only [sysP,yd,yf,yp] at h
 obtain ⟨⟨⟨⟨b,c⟩,d⟩,e⟩,f,i⟩:=h
 refine ⟨⟨λg j=>zpY hL (f g j),d,λl k=>?_,e,by omega⟩,λr a=>zoD hL (c r a),b⟩
 have:=i l k
 simp only [zwI] at this
 grind [zoD]
structure SysD (n:Nat) (m:Model) (q:Question) (rows:List Int) (a b:Action) (S:System):Prop where
 valid:zvh m
 quest:zfM m q=true
 ha:idx m.ztw q.e=some a
 hb:idx m.ztw q.f=some b
 bad:(rows.all λx=>!badR m x)=true
 len:(boxM m).length≤12
 box:S.box=boxM m
 tgt:∃ Y,Tgt n m q a b (boxM m) Y S.cases∧S.rows=zvr n m q rows a b++(zeL q a b++Y)
 ztA:S.ztA=zcZ n m q a b
 ok:SysOK S.rows S.ztA S.cases
 sys:sysP (boxM m).length S.rows S.ztA S.cases=true
theorem zjA {n m q rows} (hF:Fuel n) (hf:fewP m=true) (hrl:rows.length≤50) :
  zf n m q rows=zu n m q rows∧((∃ e,zf n m q rows=some (⟨[],[],[],[]⟩,e)∧(e=1∨e=2∨e=8))∨∃ a b S,SysD n m q rows a b S∧zf n m q rows=some (S,0)):=by
 have hn:=hF.big
 have hn1:1000000≤n:=by omega
 have hS:=zkW hf
 by_cases hvq:(zfo m&&zfM m q)=true
 case neg=>
  simp only [yS] at hvq
  have h1:zf n m q rows=some (⟨[],[],[],[]⟩,1):=by
   unfold zf
   rw [zfn hF hS,hvq,ya,if_pos (by simp)]
  have h2:zu n m q rows=some (⟨[],[],[],[]⟩,1):=by
   unfold zu
   rw [zgU hn hS,hvq,ya,if_pos (by simp)]
  grind
 simp only [yd] at hvq
 have hV:=zfp.1 hvq.1
 obtain ⟨q1,q2,q3,q4,q5⟩:=zkc hvq.2
 obtain ⟨a,ha⟩:=za6 q1.1 q1.2
 obtain ⟨b,hb⟩:=za6 q2.1 q2.2
 have hA:=zkO hS (zbb ha)
 have hB:=zkO hS (zbb hb)
 have sA:=zjv hn hS hV (zbb ha)
 have sB:=zjv hn hS hV (zbb hb)
 have hC:∀ c∈m.constraints,zve (boxM m).length c:=λc hc=>zrA hS hV hc
 have hfp:=hf
 simp only [fewP,zdA,hV.lay,if_true,yd,yf] at hfp
 have hK:(boxM m).length≤12:=hfp.2.2.1
 have hgood:=zhu hV.lay
 have hcl:=hS.constraints
 have hct:∀ c∈m.constraints,c.row.zty.length≤1000:=λc hc=>(hC c hc).len
 have hshort:=znR (n:=n) (q:=q) (rows:=rows) (a:=a) (b:=b) hcl hct
 have e1:=zlm (rows:=rows) hF hS hV hvq.2 ha hb hA hB hC (by omega)
 have e2:=zkD (rows:=rows) hF hS hV hvq.2 ha hb hA hB hC sA sB (by omega)
 by_cases hbad:(rows.all λx=>!badR m x)=true
 case neg=>
  grind
 rw [if_pos hbad] at e1 e2
 constructor
 ·obtain ⟨X,G,cs,hX,hG,hcs,htail⟩:=zrm (n:=n) (m:=m) (q:=q) (box:=boxM m) hA hB hC (by omega) (by omega) sA sB (λh=>⟨q3,q4 h a ha⟩) (λh=>⟨q3,(q5 h).2⟩) hn1
  grind [zoM,zeE,zgW]
 ·obtain ⟨Y,cs,hT,hX,hG,hcs,htail⟩:=zrn (n:=n) (m:=m) (q:=q) (box:=boxM m) hA hB hC sA sB (by omega) (by omega) (λh=>⟨q3,q4 h a ha⟩) (λh=>⟨q3,(q5 h).2⟩) hn1
  have hso:=zoM hshort hX hG hcs
  rw [e1,htail _ (by grind),zeE hgood (by omega) hso hn1]
  cases hP:sysP (boxM m).length (zvr n m q rows a b++(zeL q a b++Y)) (zcZ n m q a b) cs with
  | false=>exact .inl ⟨8,by simp [endS],.inr (.inr rfl)⟩
  | true=>exact .inr ⟨a,b,⟨boxM m,zvr n m q rows a b++(zeL q a b++Y),zcZ n m q a b,cs⟩,⟨hV,hvq.2,ha,hb,hbad,hK,rfl,⟨Y,hT,rfl⟩,rfl,hso,hP⟩,by simp [endS]⟩
theorem SysD.g {n m q rows a b S} (h:SysD n m q rows a b S):SysG (boxM m).length S.ztA S.cases∧(∀ r∈S.rows,RwOK (boxM m).length r)∧S.rows.length≤1024:=ztj (by have:=h.len;omega) h.sys
theorem SysD.valid1 {n m q rows a b S} (h:SysD n m q rows a b S) (hn:1000000≤n):zaj n S=some true∧zad n S=some true:=by
 have c:=zhu h.valid.lay
 have j:=h.len
 obtain ⟨f,R,G,g⟩:=S
 have i:=h.box
 have d:=h.ok
 have e:=h.sys
 grind [zeE,zgW]
theorem SysD.pi {n m q rows a b S} (h:SysD n m q rows a b S):PI 0 (boxM m).length 0 [] S.box:=by
 have c:=zhu h.valid.lay
 have f:=h.len
 rw [h.box]
 have e:∀ r∈boxM m,r.lo≤r.hi∧-9999≤r.lo∧r.hi≤9999:=λr d=>by
  have:=yp.1 c r d
  grind
 exact ⟨zpE (λr d=>by grind) (by omega),rfl,λr d=>(e r d).1,yo _,yo _⟩
theorem SysD.void {n m q rows a b S} (h:SysD n m q rows a b S) (hn:4294967296≤n) (hS:zt9 m) (h0:(boxM m).length=0):∃ r∈S.rows,zvp r=true:=by
 have hbox:boxM m=[]:=List.length_eq_zero_iff.1 h0
 obtain ⟨hg,hr,-⟩:=h.g
 have hsc:zuz n m q a b []:=⟨hS,h.valid,h.quest,h.ha,h.hb,by rw [hbox];rfl,by omega,hn⟩
 obtain ⟨Y,hT,hrows⟩:=h.tgt
 have hmeans:=zmG (rows:=rows) hsc hT (zpC h.bad)
 have hshow:zgl m q rows a b []=false:=by
  have hp:∀ d,zt0 [] d=[]:=λd=>List.length_eq_zero_iff.1 (by rw [zjq];rfl)
  cases hh:zgl m q rows a b [] with
  | false=>rfl
  | true=>
   exfalso
   simp only [zgl,yd,zxJ,yp] at hh
   obtain ⟨⟨⟨p1,p2⟩,-⟩,-,hb⟩:=hh
   obtain ⟨q1,q2,q3,q4,q5⟩:=zkc h.quest
   unfold zjF at hb
   simp only [hp] at hb
   split at hb <;> rename_i ht
   ·obtain ⟨r,hr⟩:=za6 q3 (q4 ht a h.ha)
    grind [zbb]
   ·obtain ⟨c,hc⟩:=za6 q3 (q5 (by grind)).2
    grind [zbb]
 by_cases hv:∃ r∈S.rows,zvp r=true
 ·exact hv
 exfalso
 have hrow:∀ r∈S.rows,rowH [] r=true:=λr hr'=>by
  have ht:r.zty=[]:=by
   cases hterms:r.zty with
   | nil=>rfl
   | cons t l=>
    have:=(hr r hr').cells t (by rw [hterms];simp)
    omega
  have:¬ zvp r=true:=λe=>hv ⟨r,hr',e⟩
  simp only [zvp,ht,List.isEmpty_nil,yD,yf] at this
  simp only [rowH,ht,yf]
  show (0:Int)≤r.bound
  omega
 have hnog:∀ g∈S.ztA,False:=λg hgm=>by
  obtain ⟨K,hK⟩:=hg.gr g hgm
  have h1:=hK.fst
  have h2:=hK.pos
  have h3:1*1≤K*K:=ub h2 h2
  omega
 have hcs:S.cases.isEmpty=true:=by
  generalize S.cases=cs at hT
  cases hT with
  | hold r h1 h2=>rfl
  | row c h1 h2 hk=>rfl
  | none c k h1 h2 hk hz he=>rfl
  | graph c k h1 h2 hk hz he=>
   obtain ⟨size,z1,z2,z3,z4,z5⟩:=(hsc.zwZ (zbb h2)).sz hk
   have h3:1*1≤size*size:=ub z2 z2
   omega
 rw [hshow,← hrows,← h.ztA] at hmeans
 grind
def zw7 (d:Nat) (y:NR):zuc:=if y.k=2 then ⟨2,[],zuE,(d:Int)⟩ else if y.k=0 then ⟨0,y.v,zuE,(y.c:Int)⟩ else ⟨1,[],y.t,(y.c:Int)⟩
def zuQ (S:System) (d:Nat):NR:=zuG S.ztA S.cases (d+1) true S.rows S.box d
theorem zoX {n m q rows a b S} {d:Nat} (h:SysD n m q rows a b S) (hn:4294967296≤n) (hS:zt9 m) (hd:d≤65536) (hc:zf n m q rows=some (S,0)):zbn n m q (d:Int) rows=some (zw7 d (zuQ S d),0):=by
 obtain ⟨hg,hr,hrl⟩:=h.g
 have hpi:=h.pi
 have hbl:S.box.length=(boxM m).length:=hpi.len
 have hlen:=h.len
 obtain ⟨w,e,hw⟩:=ze4 hg (d+1) n d ⟨S,S.rows,(d:Int),0⟩ S.box (-1) (by omega) (by omega) rfl (by grind) (by grind) (by grind) hr (by grind) (λ_=>rfl) (λh0=>h.void hn hS h0) hpi
 rw [show decide ((-1:Int)<0)=true from rfl] at hw
 have hsh:=zhc (G:=S.ztA) (cs:=S.cases) (f:=d+1) (root:=true) (R:=S.rows) (b:=S.box) (d:=d)
 have hrange:(decide ((d:Int)<0)||decide (65536<(d:Int)))=false:=by grind
 have hfind:zfG n S (d:Int)=some (if (zuQ S d).k=2 then ⟨2,0,[],zuE,(d:Int)⟩ else if (zuQ S d).k=0 then ⟨0,((w.getD default).1.index),(zuQ S d).v,zuE,((zuQ S d).c:Int)⟩ else ⟨1,0,[],(zuQ S d).t,((zuQ S d).c:Int)⟩,0):=by
  unfold zfG
  rw [(h.valid1 (by omega)).1,ya,if_neg (by simp),hrange,if_neg (by simp),zl (by grind),ya,yO,e,ya]
  change OutW _ _ _ _ (zuQ S d) w at hw
  change ((zuQ S d).k=0→(zuQ S d).t=zuE)∧((zuQ S d).k≠0→(zuQ S d).v=[]) at hsh
  generalize zuQ S d=Y at *
  rcases hw with ⟨h2,rfl⟩ | ⟨h2,hsol,ix,rows',rfl,-⟩
  ·rw [if_pos h2];rfl
  ·rw [if_neg h2]
   simp only [ppk]
   by_cases h0:Y.k=0
   ·obtain ⟨hv1,hv2⟩:=hsol h0
    rw [if_pos h0]
    rw [if_pos (by cases hv:Y.v with | nil=>exact absurd hv hv2 | cons x l=>rfl)]
    simp [zuE]
   grind
 unfold zbn
 rw [hc,ya]
 simp only [show ((0:Int)==1)=false from rfl,show ((0:Int)==2)=false from rfl,show ((0:Int) != 0)=false from rfl,hrange,Bool.or_self,ye,if_false,hfind,ya]
 unfold zw7
 generalize zuQ S d=Y
 by_cases h2:Y.k=2
 ·simp only [if_pos h2]
  rfl
 ·by_cases h0:Y.k=0
  ·simp only [if_neg h2,if_pos h0]
   rfl
  ·simp only [if_neg h2,if_neg h0]
   rfl
theorem zjx {bud kind index cell r st b}:st.length≤(zuM bud kind index cell r st b).st.length:=by
 unfold zuM
 grind
theorem znr {p:PR} {f} (hf:∀ st b,st.length≤(f st b).st.length):p.st.length≤(p.bind f).st.length:=by
 unfold PR.bind
 grind
theorem znQ {bud i row}:∀ {l} {p},p.st.length≤(rowT bud i row l p).st.length
 | [],_=>ym _
 | t::l,p=>by
  exact yH (znr λ_ _=>zjx) (znQ (l:=l))
theorem zlb {bud i row p}:p.st.length≤(zc1 bud i row p).st.length:=znr λst b=>by
 split
 ·grind
 ·exact znQ (p:=⟨0,st,b⟩)
theorem zjt {bud}:∀ {i} {l} {p},p.st.length≤(zu8 bud i l p).st.length
 | _,[],_=>ym _
 | i,r::l,p=>by
  exact yH zlb (zjt (l:=l))
theorem zoe {bud i g}:∀ {d k} {p},p.st.length≤(grT bud i g d k p).st.length
 | 0,_,_=>ym _
 | d+1,k,p=>by
  exact yH (znr λ_ _=>zjx) (zoe (d:=d))
theorem zgv {bud}:∀ {i} {l} {p},p.st.length≤(zb3 bud i l p).st.length
 | _,[],_=>ym _
 | i,g::l,p=>by
  exact yH zoe (zgv (l:=l))
theorem znm {n m q rows e} {ztO} (hc:zf n m q rows=some (⟨[],[],[],[]⟩,e)) (he:e=1∨e=2∨e=8) (hb:0≤ztO∧ztO≤65536):zbn n m q ztO rows=some (if e=8 then (⟨2,[],zuE,0⟩,0) else (⟨0,[],zuE,0⟩,e)):=by
 have a:(decide (ztO<0)||decide (65536<ztO))=false:=by grind
 unfold zbn
 rw [hc,ya]
 rcases he with rfl | rfl | rfl
 ·rfl
 ·rfl
 ·simp only [a];rfl
def valC (x:List Int) (c:Int):Int:=x.getD c.toNat 0
structure InB (b:List Range) (x:List Int):Prop where
 len:x.length=b.length
 mem:∀ c:Int,0≤c→c<(b.length:Int)→(rgP b c).lo≤valC x c∧valC x c≤(rgP b c).hi
def zw6 (x:List Int) (c:Int):List Term→Int
 | []=>0
 | t::l=>(if t.cell=c then 0 else t.ztE*valC x t.cell)+zw6 x c l
theorem ztd {f a b:Int} (h0:f≤0) (h:a≤b):f*b≤f*a:=Int.mul_le_mul_of_nonpos_left h0 h
theorem zqp {b} {x} (hx:InB b x) (c):∀ {l},(∀ t∈l,0≤t.cell∧t.cell<(b.length:Int))→zvl b c l≤zw6 x c l
 | [],_=>Int.le_refl _
 | t::l,h=>by
  have f:=zqp hx c (l:=l) λy g=>h y (by grind)
  have a:=h t (by simp)
  have d:=hx.mem t.cell a.1 a.2
  simp only [zvl,zw6]
  by_cases e:t.cell=c
  ·simp_all
  ·have:endP b t≤t.ztE*valC x t.cell:=by
    unfold endP
    split
    ·simp_all
    ·exact ztd (by omega) d.2
   omega
theorem zqo {b} {x} (hx:InB b x) (hs:∀ r∈b,r.lo=r.hi) (c):∀ {l},(∀ t∈l,0≤t.cell∧t.cell<(b.length:Int))→zvl b c l=zw6 x c l
 | [],_=>rfl
 | t::l,h=>by
  have f:=zqo hx hs c (l:=l) λy e=>h y (by grind)
  have a:=h t (by simp)
  have g:=hx.mem t.cell a.1 a.2
  simp only [zvl,zw6]
  by_cases d:t.cell=c
  ·simp_all
  ·grind [rgP,endP]
theorem zma {x} {c}:∀ {l},(l.map (·.cell)).Nodup→sumP x l=zw6 x c l+facP c l 0*valC x c
 | [],_=>by simp [sumP,zw6,facP]
 | t::l,h=>by
  simp only [yY,List.nodup_cons] at h
  have d:=zma (x:=x) (c:=c) h.2
  simp only [sumP,zw6,facP]
  by_cases b:t.cell=c
  ·have a:∀ y∈l,y.cell≠c:=λy f e=>h.1 (by simp_all)
   rw [if_pos b,if_pos b,zfZ a,d,zfZ a]
   grind [valC]
  ·grind [valC]
theorem zqM {o} {R f v} (h1:o.lo≤v) (h2:v≤o.hi) (h:f*v≤R):(zgY o R f).lo≤v∧v≤(zgY o R f).hi:=by
 unfold zgY
 split
 ·simp_all
 ·have c:(if f<0 then max o.lo (-(R / (-f))) else o.lo)≤v:=by
   split <;> rename_i a
   ·have : -v≤R / (-f):=(Int.le_ediv_iff_mul_le (by omega)).2 (by grind)
    omega
   simp_all
  have b:v≤(if 0<f then min o.hi (R / f) else o.hi):=by
   split <;> rename_i a
   ·have:v≤R / f:=(Int.le_ediv_iff_mul_le a).2 (by grind)
    omega
   simp_all
  grind
theorem zpt {o} {R f v} (h1:o.lo=v) (h2:o.hi=v) (hf0:f≠0) (h:zgY o R f=o):f*v≤R:=by
 unfold zgY at h
 rw [if_neg hf0] at h
 by_cases a:(if 0<f then min o.hi (R / f) else o.hi)<(if f<0 then max o.lo (-(R / (-f))) else o.lo)
 ·grind
 ·rw [if_neg a] at h
  have c :=congrArg Range.lo h
  have d :=congrArg Range.hi h
  by_cases b:0<f
  ·grind [Int.le_ediv_iff_mul_le]
  ·have : -v≤R / (-f):=by omega
   grind [Int.le_ediv_iff_mul_le]
theorem RwOK.nd {L r} (h:RwOK L r):(r.zty.map (·.cell)).Nodup:=by
 have:=h.fits
 simp only [zwo,yd] at this
 exact (zdH (by omega) this.1).2
theorem RwOK.nz {L r} (h:RwOK L r):∀ t∈r.zty,t.ztE≠0:=λt a=>by
 have:=h.fits
 simp only [zwo,yd] at this
 exact ((zdH (by omega) this.1).1 t a).2.2.2.1
theorem zqN {r} {b} {x} {c} (hr:RwOK b.length r) (hx:InB b x) (h:rowH x r=true) (h0:0≤c) (h1:c<(b.length:Int)):(zca r b c).lo≤valC x c∧valC x c≤(zca r b c).hi:=by
 have a:=hx.mem c h0 h1
 refine zqM a.1 a.2 ?_
 have e:=zma (x:=x) (c:=c) hr.nd
 have d:=zqp hx c (l:=r.zty) hr.cells
 simp only [rowH,yf] at h
 omega
theorem zsy {r} {b} {x} (hr:RwOK b.length r) (hx:InB b x) (hs:∀ r∈b,r.lo=r.hi) (hv:¬ zvp r=true) (hf:∀ t∈r.zty,zca r b t.cell=rgP b t.cell):rowH x r=true:=by
 simp only [rowH,yf]
 cases i:r.zty with
 | nil=>
  simp only [zvp,i,List.isEmpty_nil,yD,yf] at hv
  show (0)≤r.bound
  omega
 | cons t l=>
  have a:t∈r.zty:=by simp_all
  have e:=hr.cells t a
  have k:=hx.mem t.cell e.1 e.2
  have j:=hs _ (zh3 e.1 e.2)
  have d:=zlB (f:=0) hr.nd a rfl
  have h:=zma (x:=x) (c:=t.cell) hr.nd
  have g:=zqo hx hs t.cell (l:=r.zty) hr.cells
  have:=zpt (v:=valC x t.cell) (by omega) (by omega) (by rw [d];exact hr.nz t a) (hf t a)
  grind
theorem zhz {g} {K} {L} (hg:GrOK L g K) {x} {a b}:zxe x g a b=decide (lstG g (a*K+b)≤valC x (g.first+((a*K+b:Nat):Int))):=by
 unfold zxe lstG valC
 rw [hg.size,yt]
theorem Rch.cases {E} {K a v} (h:Rch E K a v):v=a∨∃ u,Rch E K a u∧v<K∧E u v=true:=by
 refine (h (λv=>Rch E K a v∧(v=a∨∃ u,Rch E K a u∧v<K∧E u v=true)) ⟨Rch.refl,.inl rfl⟩ λb c e f d=>⟨e.1.step f d,.inr ⟨b,e.1,f,d⟩⟩).2
theorem Rch.lt {E} {K a v} (ha:a<K) (h:Rch E K a v):v<K:=h (λv=>v<K) ha λ_ _ _ b _=>b
theorem Rch.mono {E F} {K a v} (ha:a<K) (hEF:∀ u w,u<K→w<K→E u w=true→F u w=true) (h:Rch E K a v):Rch F K a v:=
 (h (λv=>v<K∧Rch F K a v) ⟨ha,Rch.refl⟩ λb c e d f=>⟨d,e.2.step d (hEF b c e.1 d f)⟩).2
theorem zsw {E} {K a b} (hb:b<K) (h:Rch E K b a) (he:E a b=true):zvU E K=false:=by
 have f:=h.lt hb
 obtain ⟨x,g⟩:=zkT (E:=E) (K:=K) (S:=λv=>Rch E K b v) (λv i c=>by
  rcases c.cases with rfl | ⟨u,d,_,e⟩
  ·grind
  ·exact ⟨u,d.lt hb,d,e⟩) hb Rch.refl
 grind [zfb]
theorem zr1 {E} {K} (h:zvU E K=false):∃ a b,a<K∧b<K∧Rch E K b a∧E a b=true:=by
 have:∃ x,x∈cycP E K:=by
  grind [zfb]
 obtain ⟨l,f⟩:=this
 have j:=zfX f
 have k:=zly f
 have g:=j.pos
 have d:∀ i,i<l.length→vtx l i<K:=λi c=>by
  have:=j.mem (l[i]) (yi c)
  grind [vtx]
 have m:∀ i,i<l.length→Rch E K (vtx l 0) (vtx l i):=by
  intro i
  induction i with
  | zero=>grind [Rch.refl]
  | succ i ih=>
   intro c
   have:=k i (by omega)
   rw [Nat.mod_eq_of_lt c] at this
   exact (ih (by omega)).step (d _ c) this
 have e:=k (l.length - 1) (by omega)
 grind [Nat.mod_self]
theorem zmL {L K} {g} {b} (hg:GrOK L g K) {u w} (hu:u<K) (hw:w<K):hasP ⟨g.size,zv2 g b⟩ u w=decide (lstG g (u*K+w)≤(rgP b (g.first+((u*K+w:Nat):Int))).lo):=by
 have a:=zex hu hw
 unfold hasP zv2
 simp only [hg.size,yt,yE,y0,List.getElem?_range (show u*K+w<g.least.length by rw [hg.len];grind),yR,yj]
theorem zq3 {K a b:Nat} (hb:b<K):(a*K+b) / K=a∧(a*K+b) % K=b:=by
 have c:0<K:=by omega
 constructor
 ·rw [Nat.add_comm,Nat.add_mul_div_right _ _ c,Nat.div_eq_of_lt hb,uh]
 grind [Nat.add_mul_mod_self_right,Nat.mod_eq_of_lt]
theorem zrZ {K} {g} {b} {x} {k} (hg:GrOK b.length g K) (hx:InB b x) (hL:b.length≤1000) (h:zbW x g=true) (hk:k<K*K):(cutP g b k).lo≤valC x (g.first+(k:Int))∧valC x (g.first+(k:Int))≤(cutP g b k).hi:=by
 have m:=hg.cell (show b.length≤1000000 by omega) hk
 have q:=hx.mem _ m.2.1 m.2.2
 unfold cutP
 split <;> rename_i a
 ·simp only [yd] at a
  refine ⟨q.1,?_⟩
  show valC x (g.first+k)≤lstG g k - 1
  refine Classical.byContradiction λr=>?_
  have o:=hg.pos
  have c:k % K<K:=Nat.mod_lt _ o
  have d:=a.2
  unfold zer at d
  rw [hg.size,yt] at d
  have p:Rch (hasP ⟨K,zv2 g b⟩) K (k % K) (k / K):=(zkb c).1 (by simp_all)
  have j:Rch (zxe x g) K (k % K) (k / K):=p.mono c λu w l n i=>by
   rw [← hg.size,zmL hg l n,yf] at i
   rw [zhz hg,yf]
   have e:=hg.cell (show b.length≤1000000 by omega) (zex l n)
   have:=(hx.mem _ e.2.1 e.2.2).1
   omega
  have f:k / K*K+k % K=k:=by grind [Nat.div_add_mod]
  have i:zxe x g (k / K) (k % K)=true:=by
   rw [zhz hg,f,yf];omega
  have:=zsw c j i
  unfold zbW at h
  rw [hg.size,yt,this] at h
  cases h
 simp_all
theorem zpZ {K} {g} {b} {x} (hg:GrOK b.length g K) (hx:InB b x) (hL:b.length≤1000) (hs:∀ r∈b,r.lo=r.hi) (hf:∀ k,k<K*K→cutP g b k=rgP b (g.first+(k:Int))):zbW x g=true:=by
 refine Classical.byContradiction λf=>?_
 rw [yS] at f
 unfold zbW at f
 rw [hg.size,yt] at f
 obtain ⟨a,c,q,i,o,h⟩:=zr1 f
 have l:∀ k,k<K*K→(rgP b (g.first+k)).lo=valC x (g.first+k)∧(rgP b (g.first+k)).hi=valC x (g.first+k):=λk m=>by
  have e:=hg.cell (show b.length≤1000000 by omega) m
  have j:=hx.mem _ e.2.1 e.2.2
  grind [zh3]
 have p:=zex q i
 have d:=zq3 (a:=a) i
 have s:Rch (hasP ⟨K,zv2 g b⟩) K c a:=o.mono i λu w t v h=>by
  rw [zhz hg,yf] at h
  rw [← hg.size,zmL hg t v,yf]
  grind [zex]
 rw [zhz hg,yf] at h
 have n:zer g b (a*K+c)=true:=by
  unfold zer
  rw [hg.size,yt,d.1,d.2]
  grind [zkb]
 have j:=hf _ p
 unfold cutP at j
 grind
theorem znO {b} {c d} {r} (hc0:0≤c) (hc:c<(b.length:Int)) (hd0:0≤d):rgP (zuH b c r) d=if d=c then r else rgP b d:=by
 unfold zuH rgP
 grind
theorem InB.with_ {b} {x} {c} {r} (h:InB b x) (h0:0≤c) (h1:c<(b.length:Int)) (hr:r.lo≤valC x c∧valC x c≤r.hi):InB (zuH b c r) x:=by
 refine ⟨by rw [zck];exact h.len,λd f a=>?_⟩
 rw [zck] at a
 rw [znO h0 h1 f]
 split <;> rename_i e
 ·simp_all
 ·exact h.mem d f a
def zvK (L:Nat) (x:List Int) (p:PR):Prop:=(p.k=0→InB p.b x∧p.b.length=L)∧(p.k=0∨p.k=2)
theorem zvK.bind {L x p f} (h:zvK L x p) (hf:∀ st b,InB b x→b.length=L→zvK L x (f st b)):zvK L x (p.bind f):=by
 unfold PR.bind
 split <;> rename_i a
 ·exact hf _ _ (h.1 a).1 (h.1 a).2
 grind
theorem zlf {L bud kind index cell r st b x} (hx:InB b x) (hl:b.length=L) (h0:0≤cell) (h1:cell<(L:Int)) (hr:r.lo≤valC x cell∧valC x cell≤r.hi):zvK L x (zuM bud kind index cell r st b):=by
 unfold zuM
 split
 ·exact ⟨λ_=>⟨hx,hl⟩,.inl rfl⟩
 ·split
  ·exact ⟨λh=>absurd h (by simp),.inr rfl⟩
  ·rw [if_neg (by omega)]
   exact ⟨λ_=>⟨hx.with_ h0 (by omega) hr,by grind [zck]⟩,.inl rfl⟩
theorem zm4 {L bud i} {row} {x} (hr:RwOK L row) (hrow:rowH x row=true):∀ {l} {p},(∀ t∈l,0≤t.cell∧t.cell<(L:Int))→zvK L x p→zvK L x (rowT bud i row l p)
 | [],_,_,h=>h
 | t::l,p,a,h=>by
  refine zm4 hr hrow (l:=l) (λy d=>a y (by grind)) (h.bind λe b f c=>?_)
  grind [zlf,zqN]
theorem ztr {x} {row} (h:rowH x row=true):¬ zvp row=true:=λe=>by
 simp only [zvp,yd,List.isEmpty_iff,yf] at e
 simp only [rowH,e.1,yf,sumP] at h
 omega
theorem zlc {L bud} {x}:∀ {i} {l} {p},(∀ r∈l,RwOK L r∧rowH x r=true)→zvK L x p→zvK L x (zu8 bud i l p)
 | _,[],_,_,h=>h
 | i,r::l,p,c,h=>by
  have a:=c r (by simp)
  refine zlc (l:=l) (λy f=>c y (by grind)) ?_
  refine h.bind λg b e d=>?_
  rw [if_neg (ztr a.2)]
  exact zm4 a.1 a.2 a.1.cells ⟨λ_=>⟨e,d⟩,.inl rfl⟩
theorem zof {L bud i K} {g} {x} (hg:GrOK L g K) (hL:L≤1000) (hgr:zbW x g=true):∀ {d k} {p},k+d≤K*K→zvK L x p→zvK L x (grT bud i g d k p)
 | 0,_,_,_,h=>h
 | d+1,k,p,c,h=>by
  refine zof hg hL hgr (d:=d) (k:=k+1) (by omega) (h.bind λe b f j=>?_)
  have a:=hg.cell (show L≤1000000 by omega) (k:=k) (by omega)
  grind [zlf,zrZ]
theorem ziY {L bud} {x} (hL:L≤1000):∀ {i} {l} {p},(∀ g∈l,(∃ K,GrOK L g K)∧zbW x g=true)→zvK L x p→zvK L x (zb3 bud i l p)
 | _,[],_,_,h=>h
 | i,g::l,p,b,h=>by
  obtain ⟨⟨K,a⟩,c⟩:=b g (by simp)
  exact ziY (l:=l) hL (λy d=>b y (by grind)) (zof a hL c (by rw [a.len];omega) h)
theorem zpj {L bud R G st b x} (hL:L≤1000) (hR:∀ r∈R,RwOK L r∧rowH x r=true) (hG:∀ g∈G,(∃ K,GrOK L g K)∧zbW x g=true) (hx:InB b x) (hl:b.length=L):zvK L x (zuT bud R G st b):=
 ziY hL hG (zlc hR ⟨λ_=>⟨hx,hl⟩,.inl rfl⟩)
theorem zm6 {L bud R G x} (hL:L≤1000) (hR:∀ r∈R,RwOK L r∧rowH x r=true) (hG:∀ g∈G,(∃ K,GrOK L g K)∧zbW x g=true):∀ {f} {st b},InB b x→b.length=L→zvK L x (runU bud R G f st b)
 | 0,_,_,c,a=>⟨λ_=>⟨c,a⟩,.inl rfl⟩
 | f+1,st,b,c,a=>by
  have e:=zpj (bud:=bud) (st:=st) hL hR hG c a
  unfold runU
  split <;> rename_i d
  ·exact zm6 hL hR hG (e.1 d.1).1 (e.1 d.1).2
  simp_all
theorem zlg {bud kind index cell r st b} (hk:(zuM bud kind index cell r st b).k=0) (hl:(zuM bud kind index cell r st b).st.length=st.length):r=rgP b cell∧zuM bud kind index cell r st b=⟨0,st,b⟩:=by
 grind [zpp,znU,zpq,zrj]
theorem zyk {F:PR→PR} (hs:∀ p,p.k≠0→F p=p) {p} (h:(F p).k=0):p.k=0:=Classical.byContradiction λe=>e (by simp_all)
theorem zm5 {bud i row st b}:∀ {l},(rowT bud i row l ⟨0,st,b⟩).k=0→(rowT bud i row l ⟨0,st,b⟩).st.length=st.length→(∀ t∈l,zca row b t.cell=rgP b t.cell)∧rowT bud i row l ⟨0,st,b⟩=⟨0,st,b⟩
 | [],_,_=>⟨by simp,rfl⟩
 | t::l,a,c=>by
  unfold rowT at a c ⊢
  rw [PR.zvM] at a c ⊢
  have d:=zyk (F:=rowT bud i row l) (λp h=>zh4 h) a
  have m:=znQ (bud:=bud) (i:=i) (row:=row) (l:=l) (p:=zuM bud 0 i t.cell (zca row b t.cell) st b)
  have g:=zjx (bud:=bud) (kind:=0) (index:=i) (cell:=t.cell) (r:=zca row b t.cell) (st:=st) (b:=b)
  obtain ⟨j,e⟩:=zlg d (by omega)
  rw [e] at a c ⊢
  obtain ⟨n,f⟩:=zm5 (l:=l) a c
  simp_all
theorem zm3 {bud i row st b} (hk:(zc1 bud i row ⟨0,st,b⟩).k=0) (hl:(zc1 bud i row ⟨0,st,b⟩).st.length=st.length):(¬ zvp row=true∧∀ t∈row.zty,zca row b t.cell=rgP b t.cell)∧zc1 bud i row ⟨0,st,b⟩=⟨0,st,b⟩:=by
 unfold zc1 at hk hl ⊢
 rw [PR.zvM] at hk hl ⊢
 by_cases a:zvp row=true
 ·grind
 ·grind [zm5]
theorem zld {bud st b}:∀ {i} {l},(zu8 bud i l ⟨0,st,b⟩).k=0→(zu8 bud i l ⟨0,st,b⟩).st.length=st.length→(∀ r∈l,¬ zvp r=true∧∀ t∈r.zty,zca r b t.cell=rgP b t.cell)∧zu8 bud i l ⟨0,st,b⟩=⟨0,st,b⟩
 | _,[],_,_=>⟨by simp,rfl⟩
 | i,r::l,a,c=>by
  unfold zu8 at a c ⊢
  have d:=zyk (F:=zu8 bud (i+1) l) (λp h=>zep h) a
  have m:=zjt (bud:=bud) (i:=i+1) (l:=l) (p:=zc1 bud i r ⟨0,st,b⟩)
  have g:=zlb (bud:=bud) (i:=i) (row:=r) (p:=⟨0,st,b⟩)
  obtain ⟨j,e⟩:=zm3 d (by grind)
  rw [e] at a c ⊢
  obtain ⟨n,f⟩:=zld (l:=l) a c
  simp_all
theorem zog {bud i g st b}:∀ {d k},(grT bud i g d k ⟨0,st,b⟩).k=0→(grT bud i g d k ⟨0,st,b⟩).st.length=st.length→(∀ j,k≤j→j<k+d→cutP g b j=rgP b (g.first+(j:Int)))∧grT bud i g d k ⟨0,st,b⟩=⟨0,st,b⟩
 | 0,_,_,_=>⟨λj f l=>by omega,rfl⟩
 | d+1,k,a,c=>by
  unfold grT at a c ⊢
  rw [PR.zvM] at a c ⊢
  have e:=zyk (F:=grT bud i g d (k+1)) (λp h=>zhD h) a
  have f:=zoe (bud:=bud) (i:=i) (g:=g) (d:=d) (k:=k+1) (p:=zuM bud 1 i (g.first+k) (cutP g b k) st b)
  have l:=zjx (bud:=bud) (kind:=1) (index:=i) (cell:=g.first+k) (r:=cutP g b k) (st:=st) (b:=b)
  obtain ⟨n,m⟩:=zlg e (by omega)
  rw [m] at a c ⊢
  obtain ⟨q,o⟩:=zog (d:=d) a c
  grind
theorem ziZ {bud st b}:∀ {i} {l},(zb3 bud i l ⟨0,st,b⟩).k=0→(zb3 bud i l ⟨0,st,b⟩).st.length=st.length→(∀ g∈l,∀ j,j<g.least.length→cutP g b j=rgP b (g.first+(j:Int)))∧zb3 bud i l ⟨0,st,b⟩=⟨0,st,b⟩
 | _,[],_,_=>⟨by simp,rfl⟩
 | i,g::l,a,c=>by
  unfold zb3 at a c ⊢
  have e:=zyk (F:=zb3 bud (i+1) l) (λp h=>zdi h) a
  have q:=zgv (bud:=bud) (i:=i+1) (l:=l) (p:=grT bud i g g.least.length 0 ⟨0,st,b⟩)
  have n:=zoe (bud:=bud) (i:=i) (g:=g) (d:=g.least.length) (k:=0) (p:=⟨0,st,b⟩)
  obtain ⟨o,f⟩:=zog e (by grind)
  rw [f] at a c ⊢
  obtain ⟨r,m⟩:=ziZ (l:=l) a c
  simp_all
structure RestB (R:List Row) (G:List ztR) (b:List Range):Prop where
 rows:∀ r∈R,¬ zvp r=true∧∀ t∈r.zty,zca r b t.cell=rgP b t.cell
 ztA:∀ g∈G,∀ j,j<g.least.length→cutP g b j=rgP b (g.first+(j:Int))
theorem zpk {bud R G st b} (hk:(zuT bud R G st b).k=0) (hl:(zuT bud R G st b).st.length=st.length):RestB R G b∧(zuT bud R G st b).b=b:=by
 unfold zuT at hk hl ⊢
 have c:=zyk (F:=zb3 bud 0 G) (λp h=>zdi h) hk
 have g:=zgv (bud:=bud) (i:=0) (l:=G) (p:=zu8 bud 0 R ⟨0,st,b⟩)
 have j:=zjt (bud:=bud) (i:=0) (l:=R) (p:=⟨0,st,b⟩)
 obtain ⟨d,f⟩:=zld c (by grind)
 rw [f] at hk hl ⊢
 obtain ⟨e,a⟩:=ziZ hk hl
 exact ⟨⟨d,e⟩,by rw [a]⟩
theorem zm7 {bud R G}:∀ {f} {st b},st.length≤bud→bud<f+st.length→(runU bud R G f st b).k=0→RestB R G (runU bud R G f st b).b
 | 0,st,b,d,g,_=>by omega
 | f+1,st,b,d,g,a=>by
  have c:(zuT bud R G st b).st.length≤bud:=ziu (zl8 d)
  have h:st.length≤(zuT bud R G st b).st.length:=yH (zjt (bud:=bud) (i:=0) (l:=R) (p:=⟨0,st,b⟩)) zgv
  unfold runU at a ⊢
  by_cases e:(zuT bud R G st b).k=0∧st.length<(zuT bud R G st b).st.length
  ·rw [if_pos e] at a ⊢
   exact zm7 c (by omega) a
  ·rw [if_neg e] at a ⊢
   obtain ⟨m,j⟩:=zpk a (by omega)
   simp_all
def PJ (J:List Range→Prop) (p:PR):Prop:=p.k=0→J p.b
theorem PJ.bind {J p f} (h:PJ J p) (hf:∀ st b,J b→PJ J (f st b)):PJ J (p.bind f):=by
 unfold PR.bind
 split <;> rename_i a
 ·exact hf _ _ (h a)
 grind
theorem zqD {J} {bud kind index cell r st b} (h:J b) (hw:¬ r.hi<r.lo→J (zuH b cell r)):PJ J (zuM bud kind index cell r st b):=by
 unfold zuM
 split
 ·exact λ_=>h
 ·split
  ·exact λa=>absurd a (by simp)
  ·split <;> rename_i c
   ·exact λa=>absurd a (by simp)
   ·exact λ_=>hw c
theorem zrP {J} {bud i} {row}:∀ {l} {p},(∀ t∈l,∀ b,J b→¬ (zca row b t.cell).hi<(zca row b t.cell).lo→J (zuH b t.cell (zca row b t.cell)))→PJ J p→PJ J (rowT bud i row l p)
 | [],_,_,h=>h
 | t::l,p,c,h=>by
  exact zrP (l:=l) (λy d=>c y (by grind)) (h.bind λe b a=>zqD a (c t (by simp) b a))
theorem zqu {J} {bud}:∀ {i} {l} {p},(∀ r∈l,∀ t∈r.zty,∀ b,J b→¬ (zca r b t.cell).hi<(zca r b t.cell).lo→J (zuH b t.cell (zca r b t.cell)))→PJ J p→PJ J (zu8 bud i l p)
 | _,[],_,_,h=>h
 | i,r::l,p,a,h=>by
  refine zqu (l:=l) (λy e=>a y (by grind)) (h.bind λf b d=>?_)
  split
  ·split <;> exact λc=>absurd c (by simp)
  ·exact zrP (a r (by simp)) λ_=>d
theorem grT_J {J} {bud i} {g}:∀ {d k} {p},(∀ j,k≤j→j<k+d→∀ b,J b→¬ (cutP g b j).hi<(cutP g b j).lo→J (zuH b (g.first+(j:Int)) (cutP g b j)))→PJ J p→PJ J (grT bud i g d k p)
 | 0,_,_,_,h=>h
 | d+1,k,p,c,h=>by
  exact grT_J (d:=d) (k:=k+1) (λj e f=>c j (by omega) (by omega)) (h.bind λl b a=>zqD a (c k (ym _) (by omega) b a))
theorem zmy {J} {bud}:∀ {i} {l} {p},(∀ g∈l,∀ j,j<g.least.length→∀ b,J b→¬ (cutP g b j).hi<(cutP g b j).lo→J (zuH b (g.first+(j:Int)) (cutP g b j)))→PJ J p→PJ J (zb3 bud i l p)
 | _,[],_,_,h=>h
 | i,g::l,p,a,h=>by
  exact zmy (l:=l) (λy d=>a y (by grind)) (grT_J (λj _ c=>a g (by simp) j (by omega)) h)
theorem zrQ {J} {bud R G} (hR:∀ r∈R,∀ t∈r.zty,∀ b,J b→¬ (zca r b t.cell).hi<(zca r b t.cell).lo→J (zuH b t.cell (zca r b t.cell))) (hG:∀ g∈G,∀ j,j<g.least.length→∀ b,J b→¬ (cutP g b j).hi<(cutP g b j).lo→J (zuH b (g.first+(j:Int)) (cutP g b j))):∀ {f} {st b},J b→PJ J (runU bud R G f st b)
 | 0,_,_,h=>λ_=>h
 | f+1,st,b,h=>by
  have c:PJ J (zuT bud R G st b):=zmy hG (zqu hR λ_=>h)
  unfold runU
  split <;> rename_i a
  ·exact zrQ hR hG (c a.1)
  simp_all
theorem InB.zyd {b} {x} {c} {r} (h:InB (zuH b c r) x) (h0:0≤c) (h1:c<(b.length:Int)) (hr:(rgP b c).lo≤r.lo∧r.hi≤(rgP b c).hi):InB b x:=by
 refine ⟨by have:=h.len;grind [zck],λd a e=>?_⟩
 have f:=h.mem d a (by grind [zck])
 grind [znO]
theorem zrh {L bud R G f st b} (hL:L≤1000) (hR:∀ r∈R,RwOK L r) (hG:∀ g∈G,∃ K,GrOK L g K) (hb:b.length=L) (hk:(runU bud R G f st b).k=0):∀ x,InB (runU bud R G f st b).b x→InB b x:=by
 refine (zrQ (J:=λc=>c.length=L∧∀ x,InB c x→InB b x) (λr m t l c ⟨o,a⟩ d=>⟨by grind [zck],λx h=>a x ?_⟩) (λg n j p c ⟨o,a⟩ d=>⟨by grind [zck],λx h=>a x ?_⟩) ⟨hb,λx h=>h⟩ hk).2
 ·have e:=(hR r m).cells t l
  exact h.zyd e.1 (by omega) (ziJ (by omega))
 ·obtain ⟨K,i⟩:=hG g n
  have e:=i.cell (show L≤1000000 by omega) (k:=j) (by rw [← i.len];grind)
  exact h.zyd e.2.1 (by omega) (zlx (by omega))
structure SolN (G:List ztR) (cs:List (List Row)) (root:Bool) (R:List Row) (b:List Range) (x:List Int):Prop where
 box:InB b x
 rows:∀ r∈R,rowH x r=true
 ztA:∀ g∈G,zbW x g=true
 case_:root=true→cs≠[]→∃ l∈cs,∀ r∈l,rowH x r=true
theorem zlO {α} {self} {tr ix d}:∀ {i} {l:List α} {kids} {c},(zuR self tr ix d i l kids c).k=0→∃ x∈l,∃ e,(self x e).k=0∧(zuR self tr ix d i l kids c).v=(self x e).v
 | _,[],_,_,h=>absurd h (by simp [zuR])
 | i,x::l,kids,c,h=>by
  unfold zuR at h ⊢
  split at h <;> rename_i b
  ·grind [zfP]
  ·split at h <;> rename_i f
   ·grind
   ·obtain ⟨y,g,e,j,a⟩:=zlO (l:=l) h
    grind
theorem zlP {α} {self} {tr ix d}:∀ {i} {l:List α} {kids} {c},(zuR self tr ix d i l kids c).k≠0→(zuR self tr ix d i l kids c).k≠2→∀ x∈l,∃ e,(self x e).k≠0∧(self x e).k≠2
 | _,[],_,_,_,_=>by simp
 | i,x::l,kids,c,b,a=>by
  unfold zuR at b a
  split at a <;> rename_i g
  ·exact absurd rfl a
  ·rw [if_neg g] at b
   split at a <;> rename_i h
   ·simp_all
   ·rw [if_neg h] at b
    intro y f
    rcases yG.1 f with rfl | f
    ·grind
    ·exact zlP (l:=l) b a y f
theorem zsi {b} (hne:∀ r∈b,r.lo≤r.hi):InB b (b.map (·.lo)):=by
 refine ⟨by simp,λc d a=>?_⟩
 have e:valC (b.map (·.lo)) c=(rgP b c).lo:=by
  grind [valC,rgP]
 rw [e]
 exact ⟨Int.le_refl _,hne _ (zh3 d a)⟩
theorem zo5 {b} (hne:∀ r∈b,r.lo≤r.hi) (h:zub b<0):∀ r∈b,r.lo=r.hi:=by
 have c:∀ (l:List Range) (k:Nat),ixA zwC l k<0→∀ r∈l,¬ r.lo<r.hi:=by
  intro l
  induction l with
  | nil=>simp_all
  | cons x l ih=>
   intro k d r a
   unfold ixA at d
   by_cases e:zwC x=true
   ·grind
   ·rcases yG.1 a with rfl | a
    ·grind [zwC]
    grind
 intro r a
 have:=c b 0 h r a
 grind
theorem zsd {r} {v} (h1:r.lo≤v) (h2:v≤r.hi):∃ x∈zu4 r,x.lo≤v∧v≤x.hi:=by
 by_cases h:v≤midP r
 ·exact ⟨⟨r.lo,midP r⟩,by simp [zu4],h1,h⟩
 ·exact ⟨⟨midP r+1,r.hi⟩,by simp [zu4],by grind,h2⟩
theorem zhd {L G cs} (hG:SysG L G cs):∀ {f} {root R b d},(∀ r∈R,RwOK L r)→PI 0 L 0 [] b→(zuG G cs f root R b d).k≠0→(zuG G cs f root R b d).k≠2→∀ x,¬ SolN G cs root R b x
 | 0,_,_,_,_,_,_,_,h=>absurd rfl h
 | f+1,root,R,b,d,q,B,j,c=>by
  intro x m
  have J:=hG.le
  unfold zuG at j c
  split at c <;> rename_i u
  ·exact absurd rfl c
  ·rw [if_neg u] at j
   dsimp only at j c
   have s:=zju (bud:=d - 1) (f:=d) (show L≤1000 by omega) q hG.gr (zkM (d:=d - 1) B)
   have i:=zm6 (bud:=d - 1) (f:=d) (st:=[]) (show L≤1000 by omega) (λr a=>⟨q r a,m.rows r a⟩) (λg A=>⟨hG.gr g A,m.ztA g A⟩) m.box B.len
   generalize runU (d - 1) R G d [] b=p at *
   split at c <;> rename_i o
   ·exact absurd rfl c
   ·rw [if_neg o] at j
    have E :=i.2.elim id λh=>absurd h o
    rw [if_neg (by omega)] at j c
    have s:=s E
    have n:=(i.1 E).1
    split at c <;> rename_i a
    ·rw [if_pos a] at j
     simp only [yd,yC,List.isEmpty_eq_false_iff] at a
     obtain ⟨l,H,t⟩:=m.case_ a.1 a.2
     obtain ⟨e,v,y⟩:=zlP j c l H
     exact zhd hG (λr a=>(yu.1 a).elim (q r) ((hG.ca l H).2 r)) (zkM s) v y x ⟨n,λr a=>(yu.1 a).elim (m.rows r) (t r),m.ztA,λh=>by cases h⟩
    ·rw [if_neg a] at j
     split at c <;> rename_i z
     ·simp_all
     ·rw [if_neg z] at j
      obtain ⟨C,F,K⟩:=zjn z
      have I:=n.mem _ C F
      obtain ⟨r,a,w⟩:=zsd I.1 I.2
      obtain ⟨e,v,y⟩:=zlP j c r a
      exact zhd hG q (znn s z a) v y x ⟨n.with_ C F w,m.rows,m.ztA,λh=>by cases h⟩
theorem zhb {L G cs} (hG:SysG L G cs):∀ {f} {root R b d},(∀ r∈R,RwOK L r)→PI 0 L 0 [] b→(zuG G cs f root R b d).k=0→SolN G cs root R b (zuG G cs f root R b d).v
 | 0,_,_,_,_,_,_,h=>absurd h (by simp [zuG,zfP])
 | f+1,root,R,b,d,w,H,h=>by
  have Q:=hG.le
  unfold zuG at h ⊢
  split at h <;> rename_i A
  ·grind [zfP]
  ·rw [if_neg A]
   dsimp only at h ⊢
   have n:=zju (bud:=d - 1) (f:=d) (show L≤1000 by omega) w hG.gr (zkM (d:=d - 1) H)
   have a:=zm7 (bud:=d - 1) (R:=R) (G:=G) (f:=d) (st:=[]) (b:=b) (by simp) (by grind)
   have i:∀ x,(runU (d - 1) R G d [] b).k=0→InB (runU (d - 1) R G d [] b).b x→InB b x:=λx s=>zrh (show L≤1000 by omega) w hG.gr H.len s x
   generalize runU (d - 1) R G d [] b=p at *
   split at h <;> rename_i B
   ·grind [zfP]
   ·rw [if_neg B]
    split at h <;> rename_i q
    ·simp_all
    ·have s:p.k=0:=by omega
     have n:=n s
     have a:=a s
     have i:=λx=>i x s
     rw [if_neg q]
     split at h <;> rename_i j
     ·rw [if_pos j]
      obtain ⟨l,I,e,z,ev⟩:=zlO h
      rw [ev]
      have:=zhb hG (λr j=>(yu.1 j).elim (w r) ((hG.ca l I).2 r)) (zkM n) z
      exact ⟨i _ this.box,λr j=>this.rows r (List.mem_append_left _ j),this.ztA,λ_ _=>⟨l,I,λr j=>this.rows r (List.mem_append_right _ j)⟩⟩
     ·rw [if_neg j]
      have m:root=true→cs≠[]→False:=λq y=>j (by simp_all)
      split at h <;> rename_i t
      ·rw [if_pos t]
       have F:=zo5 n.ne t
       have o:=zsi n.ne
       refine ⟨i _ o,λr j=>zsy (by rw [n.len];simp_all) o F (a.rows r j).1 (a.rows r j).2,λg E=>?_,λq y=>(m q y).elim⟩
       obtain ⟨K,M⟩:=hG.gr g E
       exact zpZ (K:=K) (by rw [n.len];grind) o (by rw [n.len];omega) F λk s=>a.ztA g E k (by rw [M.len];grind)
      ·rw [if_neg t]
       obtain ⟨r,j,e,z,ev⟩:=zlO h
       rw [ev]
       obtain ⟨J,N,O⟩:=zjn t
       have:=zhb hG w (znn n t j) z
       refine ⟨i _ ⟨by have:=this.box.len;grind [zck],λc u P=>?_⟩,this.rows,this.ztA,λq y=>(m q y).elim⟩
       have C:=this.box.mem c u (by grind [zck])
       rw [znO J N u] at C
       split at C <;> rename_i e
       ·subst e
        have:=zoh j O
        omega
       simp_all
theorem zoL (x):∀ l m ,sumP x (l++m)=sumP x l+sumP x m
 | [],_=>by simp [sumP]
 | t::l,m=>by simp only [uu,sumP,zoL x l m];omega
theorem zmz {α} {p}:∀ (l:List α) (k),(ixP p l k = -1∧∀ x∈l,p x=false)∨∃ i,∃ hi:i<l.length,p l[i]=true∧ixP p l k=((k+i:Nat):Int)
 | [],k=>.inl ⟨rfl,by simp⟩
 | x::l,k=>by
  simp only [ixP]
  cases h:p x with
  | true=>grind
  | false=>
   rcases zmz (p:=p) l (k+1) with ⟨b,a⟩ | ⟨i,hi,b,a⟩
   ·simp_all
   ·exact .inr ⟨i+1,by simp_all,by simp_all,by grind⟩
structure StB (b:List Range) (x:List Int):Prop where
 inb:InB b x
 box:boxP b=true
theorem StB.val {b x} (h:StB b x) {c} (h0:0≤c) (h1:c<(b.length:Int)) : -1000000≤valC x c∧valC x c≤1000000∧idx x c=some (valC x c):=by
 have d:=h.inb.mem c h0 h1
 have e:=zlr h.box _ (zh3 h0 h1)
 refine ⟨by omega,by omega,?_⟩
 have a:=h.inb.len
 exact zod h0 (by omega)
theorem zgn {n} {b} {x} {r} (h:StB b x) (hr:RwOK b.length r) (hn:1000000≤n):zd4 n r x=some (rowH x r):=by
 have p:=hr.few
 have a:∀ t∈r.zty,-1000≤t.ztE∧t.ztE≤1000:=λt e=>by
  have:=hr.fits
  simp only [zwo,yd] at this
  have:=(zdH (by omega) this.1).1 t e
  simp_all
 have s:∀ (l:List Term),(∀ t∈l,t∈r.zty)→-(1000000000*l.length)≤sumP x l∧sumP x l≤1000000000*l.length:=by
  intro l
  induction l with
  | nil=>grind [sumP]
  | cons t l ih=>
   intro o
   have c:=hr.cells t (o t (by simp))
   have k:=h.val c.1 c.2
   have d:=a t (o t (by simp))
   have q:=zi3 (B:=1000000) d.1 d.2 (by omega) k.2.1
   grind [sumP,valC]
 have:=zM (body:=zb1.l1 n r x) (len:=r.zty.length) (st:=λi=>(sumP x (r.zty.take i),i)) (g:=λ_=>some (sumP x r.zty)) (λj i m f=>?_) (λj=>?_) n 0 (yo _) (by omega)
 ·unfold zd4 zb1
  rw [show ztz (zb1.l1 n r x) n (0,0)=_ from this]
  rfl
 ·have e:=yi m
  have c:=hr.cells _ e
  have k:=h.val c.1 c.2
  have d:=a _ e
  have q:=zi3 (B:=1000000) d.1 d.2 (by omega) k.2.1
  rw [yv m,zoL] at f
  simp only [zb1.l1,zb m]
  grind [ztG,valC,zao,ztu,sumP]
 ·simp [zb1.l1]
theorem znl {n} {b} {x} (h:StB b x) (hn:1000000≤n):zay n b x=some true:=by
 have j:=h.inb.len
 have e:=zlq h.box
 unfold zay
 have:=zM (body:=zay.l1 n b x) (len:=b.length) (st:=λi=>i) (g:=λ_=>some true) (λa i f k=>?_) (λa=>?_) n 0 (yo _) (by omega)
 ·grind
 ·have l:=h.inb.mem i (by omega) (by omega)
  have d:=h.val (c:=i) (by omega) (by omega)
  simp only [zay.l1,zB f,if_true,d.2.2,ya,yr,yB,grd,zd (i:=i) (by omega)]
  rw [zhF (by omega) (by omega),ya,if_neg (by simp_all)]
  grind
 ·simp [zay.l1]
def nums (K:Nat):List Int:=(List.range K).map λ(i:Nat)=>(i:Int)
theorem zgz (K):(nums K).length=K:=by simp [nums]
theorem zhQ {K} {y}:y∈nums K↔∃ u:Nat,u<K∧(u:Int)=y:=by simp [nums]
theorem zow {K i} (h:i<(nums K).length):(nums K)[i]=(i:Int):=by simp [nums]
theorem zpi {n K:Nat} (hK:K≤6) (hn:1000000≤n):zaN n (K:Int)=some (nums K):=by
 have e:=zgz K
 unfold zaN
 rw [mkl_0 (by omega),ya]
 have:=zbd (body:=zaN.l1 n (List.replicate K 0)) (len:=K) (st:=λs i=>(s,i)) (g:=λ_ _=>some (nums K)) (λi s=>s=(nums K).take i++List.replicate (K - i) 0) (λc i s l f j=>?_) (λc s f=>?_) n 0 (List.replicate K 0) (yo _) (by omega) (by simp)
 ·grind
 ·have d:decide (i<((List.replicate K (0:Int)).length:Int))=true:=by simp_all
  have b:((nums K).take i).length=i:=by grind
  have a:i<s.length:=by grind
  simp only [zaN.l1,d]
  rw [zb a,ya,zkn a,ya,zd (i:=i) (by omega)]
  refine j _ ?_
  have k:i<(nums K).length:=by omega
  rw [f,yv k,show K - i=(K - (i+1))+1 by omega,List.replicate_succ,uI _ _ (by omega),b,uv,List.set_cons_zero,yJ]
  grind [zow]
 ·have h:decide (K<((List.replicate K (0)).length))=false:=by simp
  simp only [zaN.l1]
  grind
theorem zo1 {n K:Nat} {b:List Range} {x:List Int} {g:ztR} (h:StB b x) (hg:GrOK b.length g K) (hn:1000000≤n):za9 n g x=some (zbW x g):=by
 have hK:=hg.le
 have hsq:=hg.sq
 have hbl:=zlq h.box
 obtain ⟨E,hE⟩:∃ E,E=zxe x g:=⟨_,rfl⟩
 have hgH:zbW x g=zvU E K:=by unfold zbW;rw [hg.size,yt,hE]
 have hedge:∀ (s:List Bool) (u v:Nat),s.length=K→u<K→v<K→zbx n (u:Int) s x g (v:Int)=some (!s.getD u false&&E u v):=λs u v hs hu hv=>by
  have hp:=zex hu hv
  have hc:=hg.cell (show b.length≤1000000 by omega) hp
  have e1:ztG (u:Int) g.size=((u*K:Nat):Int):=by
   rw [hg.size];unfold ztG
   rw [zao (by rw [← uF];omega) (by rw [← uF];omega)];simp
  have e2:ztu ((u*K:Nat):Int) (v:Int)=((u*K+v:Nat):Int):=zc2 (by omega)
  have e3:ztu (ztu g.first ((u*K:Nat):Int)) (v:Int)=g.first+((u*K+v:Nat):Int):=by
   have hf:=hg.fst
   have:ztu g.first ((u*K:Nat):Int)=g.first+((u*K:Nat):Int):=zao (by omega) (by omega)
   rw [this];unfold ztu;rw [zao (by omega) (by omega)];omega
  have hv2:=h.val hc.2.1 hc.2.2
  have hs1:idx s (u:Int)=some (s.getD u false):=by rw [zb (by omega)];simp [yE,show u<s.length by omega]
  unfold zbx
  simp only [hs1,ya,e1,e2,e3,hv2.2.2,zlU (show u*K+v<g.least.length by rw [hg.len];exact hp),yr,yB,grd,if_true,yj]
  rw [hE,zhz hg]
 have hnum:=zpi (n:=n) hK hn
 have hfree:∀ (s:List Bool) (v:Nat),s.length=K→v<K→zdb n (v:Int) s g x=some (!s.getD v false&&!(nums K).any λu=>(!s.getD u.toNat false&&E u.toNat v)):=λs v hs hv=>by
  have hs1:idx s (v:Int)=some (s.getD v false):=by rw [zb (by omega)];simp [yE,show v<s.length by omega]
  have hany:=zbj (n:=n) (l:=nums K) (f:=λq0=>zbx n q0 s x g (v:Int)) (p:=λu=>!s.getD u.toNat false&&E u.toNat v) (λy hy=>by
   obtain ⟨u,hu,rfl⟩:=zhQ.1 hy
   exact hedge s u v hs hu hv) (by rw [zgz];omega) (by rw [zgz];omega)
  unfold zdb
  simp only [hs1,ya,hg.size,hnum,hany,yr,yB,grd,if_true,yj]
 have hmk:mkl 1 g.size (false:Bool)=some (List.replicate K false):=by
  rw [hg.size];unfold mkl;rw [if_pos (by omega)];simp
 unfold za9
 rw [hmk,ya,hgH]
 have:=zdt (body:=za9.l1 n g x) (k:=K) (n:=n) (st:=λ(s:List Bool) i=>(s,(i:Int))) (λi s=>s.length=K∧s.count true=i∧∀ S,zxN E K S→∀ a,a<K→S a→s.getD a false=false) (λv:Bool=>v=zvU E K) (λrec i s hi hI hr=>?_) (λrec s hI=>?_) (by omega) (List.replicate K false) ⟨by simp,by rw [List.count_replicate];simp,λS _ a ha _=>by simp [yE,List.getElem?_replicate,ha]⟩
 ·obtain ⟨r,h1,h2⟩:=this
  rw [← h2];exact h1
 ·obtain ⟨I1,I2,I3⟩:=hI
  have hlt:decide ((i:Int)<(K:Int))=true:=by simp;omega
  simp only [za9.l1,hg.size,hlt,if_true,hnum,ya]
  rw [ze8 (p:=λv=>!s.getD v.toNat false&&!(nums K).any λu=>(!s.getD u.toNat false&&E u.toNat v.toNat)) (λy hy=>by
   obtain ⟨v,hv,rfl⟩:=zhQ.1 hy
   exact hfree s v I1 hv) (by rw [zgz];omega) (by rw [zgz];omega),ya]
  rcases zmz (p:=λv:Int=>!s.getD v.toNat false&&!(nums K).any λu=>(!s.getD u.toNat false&&E u.toNat v.toNat)) (nums K) 0 with ⟨e,hall⟩ | ⟨v,hv,hp,e⟩
  ·rw [e,if_pos (by decide)]
   refine ⟨false,rfl,?_⟩
   have hex:∃ a,a<K∧s.getD a false=false:=by
    refine Classical.byContradiction λhn=>?_
    have:s.count true=s.length:=by
     rw [List.count_eq_length]
     intro y hy
     obtain ⟨j,hj,rfl⟩:=List.getElem_of_mem hy
     have hjK:j<K:=by rw [← I1];exact hj
     have:¬ s.getD j false=false:=λh=>hn ⟨j,hjK,h⟩
     simp only [yE,yw hj,yj,Bool.not_eq_false] at this
     exact this.symm
    omega
   obtain ⟨a,ha,hsa⟩:=hex
   obtain ⟨y,hy⟩:=zkT (E:=E) (K:=K) (S:=λv=>s.getD v false=false) (λv hv hv2=>by
    have:=hall (v:Int) (zhQ.2 ⟨v,hv,rfl⟩)
    simp only [yt,hv2,ur,yD,Bool.not_eq_false',ut,yd,yC] at this
    obtain ⟨z,hz,h1,h2⟩:=this
    obtain ⟨u,hu,rfl⟩:=zhQ.1 hz
    simp only [yt] at h1 h2
    exact ⟨u,hu,h1,h2⟩) ha hsa
   symm
   rw [uQ]
   exact λe=>zfb.1 e y hy
  ·have hvK:v<K:=by rw [zgz] at hv;exact hv
   rw [zow] at hp
   simp only [yt,yd,yC,List.any_eq_false] at hp
   rw [e,uh,if_neg (by simp),zb (show v<s.length by omega),ya,zkn (show v<s.length by omega),ya,zd (i:=i) (by omega)]
   refine hr _ ⟨by grind,by rw [zjo (by omega) hp.1,I2],λS hS a ha hSa=>?_⟩
   rw [zf1 (by omega)]
   have h1:=I3 S hS a ha hSa
   split <;> rename_i e
   ·exfalso
    subst e
    obtain ⟨u,hu,hSu,hEu⟩:=hS a ha hSa
    have h2:=hp.2 (u:Int) (zhQ.2 ⟨u,hu,rfl⟩)
    grind [Int.toNat_natCast]
   simp_all
 ·obtain ⟨I1,I2,I3⟩:=hI
  have hge:decide ((K:Int)<g.size)=false:=by rw [hg.size];simp
  simp only [za9.l1,hge,ye,if_false]
  refine ⟨true,rfl,?_⟩
  symm
  rw [zfb]
  intro y hy
  obtain ⟨hB,a,ha,haS⟩:=zo7 hy
  have h1:=I3 _ hB a ha haS
  have h2:s.count true=s.length:=by omega
  grind [List.count_eq_length,List.getElem_mem,List.getElem?_eq_getElem]
structure zxR (sizes:List Int) (s:Swap):Prop where
 sort:zum sizes s.sort=true
 a:0≤s.a
 ab:s.a<s.b
 b:s.b<sizes.getD s.sort.toNat 0
section
variable {sizes:List Int} {s:Swap} (h:zxR sizes s)
include h
end
section
variable {sizes:List Int} {s:Swap} (h:zxR sizes s) (hs:sizes.all zcw=true)
include h hs
end
structure Swp (m:Model) (s:Swap):Prop where
 ok:zxR m.ztB s
 lay:zbm m.ztB m.tables=true
theorem zoj:∀ {box} {x},x.length=box.length→(∀ (i) (h1) (h2:i<x.length),box[i].lo≤x[i]∧x[i]≤box[i].hi)→zvV box x=true
 | [],[],_,_=>rfl
 | [],_::_,h,_=>by grind
 | _::_,[],h,_=>by grind
 | r::box,v::x,h,hi=>by
  have b:=hi 0 (by simp) (by simp);have a:=zoj (box:=box) (x:=x) (by simp_all) λi h1 h2=>by
   have:=hi (i+1) (by simp_all) (by simp_all);simp_all
  grind [zvV]
def solB (S:System) (x:List Int):Bool:=(S.rows.all (rowH x)&&S.ztA.all (zbW x))&&(S.cases.isEmpty||S.cases.any λl=>l.all (rowH x))
theorem zqE {n:Nat} {L:Nat} {S:System} {x:List Int} (hG:SysG L S.ztA S.cases) (hR:∀ r∈S.rows,RwOK L r) (hRl:S.rows.length≤1024) (h:StB S.box x) (hL:S.box.length=L) (hn:1000000≤n):zeh n S x=some (solB S x):=by
 subst hL
 obtain ⟨bad,hbad⟩:∃ bad:List Int,bad=(List.range S.rows.length).flatMap λi=>if rowH x (S.rows.getD i default)=true then [] else [(i:Int)]:=⟨_,rfl⟩
 obtain ⟨badG,hbadG⟩:∃ bad:List Int,bad=(List.range S.ztA.length).flatMap λi=>if zbW x (S.ztA.getD i default)=true then [] else [(i:Int)]:=⟨_,rfl⟩
 have hgl:=hG.gl
 have hcl:=hG.cl
 have hbl:bad.length≤1024:=by
  have:=zcG (f:=λi=>if rowH x (S.rows.getD i default)=true then ([]:List Int) else [(i:Int)]) (B:=1) (l:=List.range S.rows.length) λi _=>by split <;> simp
  rw [hbad];simp only [uM] at this;omega
 have hbgl:badG.length≤64:=by
  have:=zcG (f:=λi=>if zbW x (S.ztA.getD i default)=true then ([]:List Int) else [(i:Int)]) (B:=1) (l:=List.range S.ztA.length) λi _=>by split <;> simp
  rw [hbadG];simp only [uM] at this;omega
 have hfails:zar n S x=some (bad,badG):=by
  unfold zar
  have h1:=zcg (body:=zar.l1 n S x) (k:=S.rows.length) (n:=n) (st:=λ(o:List Int) i=>(o,(i:Int))) (λi=>if rowH x (S.rows.getD i default)=true then ([]:List Int) else [(i:Int)]) (λo=>ztz (zar.l2 n S x o) n (([]:List Int),0)) 1 [] (λi _=>by split <;> simp) (λrec o i hi hI=>?_) (λrec o hI=>?_) (by omega)
  ·refine (show ztz (zar.l1 n S x) n (([]:List Int),0)=_ from h1).trans ?_
   rw [yO,← hbad]
   have h2:=zcg (body:=zar.l2 n S x bad) (k:=S.ztA.length) (n:=n) (st:=λ(o:List Int) i=>(o,(i:Int))) (λi=>if zbW x (S.ztA.getD i default)=true then ([]:List Int) else [(i:Int)]) (λo=>some (bad,o)) 1 [] (λi _=>by split <;> simp) (λrec o i hi hI=>?_) (λrec o hI=>?_) (by omega)
   ·refine (show ztz (zar.l2 n S x bad) n (([]:List Int),0)=_ from h2).trans ?_
    rw [yO,← hbadG]
   ·obtain ⟨K,hK⟩:=hG.gr _ (yi hi)
    have e:S.ztA.getD i default=S.ztA[i]:=by simp [yE,hi]
    simp only [zar.l2,zB hi,if_true,jn,zb hi,ya,zo1 h hK hn,zd (i:=i) (by omega),e]
    cases zbW x S.ztA[i] with
    | true=>simp
    | false=>simp only [ur,if_true,ye,if_false];rw [zl (by simp at hI;simp;omega),ya]
   ·simp only [zar.l2,zaw,ye,if_false]
  ·have e:S.rows.getD i default=S.rows[i]:=by simp [yE,hi]
   simp only [zar.l1,zB hi,if_true,jn,zb hi,ya,zgn h (hR _ (yi hi)) hn,zd (i:=i) (by omega),e]
   cases rowH x S.rows[i] with
   | true=>simp
   | false=>simp only [ur,if_true,ye,if_false];rw [zl (by simp at hI;simp;omega),ya]
  ·simp only [zar.l1,zaw,ye,if_false]
 have hrows:bad=[]↔S.rows.all (rowH x)=true:=by
  rw [hbad,List.flatMap_eq_nil_iff,yp]
  constructor
  ·intro hh r hr
   obtain ⟨i,hi,rfl⟩:=List.getElem_of_mem hr
   have:=hh i (yV.2 hi)
   rw [show S.rows.getD i default=S.rows[i] by simp [yE,hi]] at this
   split at this
   ·assumption
   ·simp at this
  ·intro hh i hi
   have hi:=yV.1 hi
   rw [show S.rows.getD i default=S.rows[i] by simp [yE,hi],if_pos (hh _ (yi hi))]
 have hgraphs:badG=[]↔S.ztA.all (zbW x)=true:=by
  rw [hbadG,List.flatMap_eq_nil_iff,yp]
  constructor
  ·intro hh r hr
   obtain ⟨i,hi,rfl⟩:=List.getElem_of_mem hr
   have:=hh i (yV.2 hi)
   rw [show S.ztA.getD i default=S.ztA[i] by simp [yE,hi]] at this
   split at this
   ·assumption
   ·simp at this
  ·intro hh i hi
   have hi:=yV.1 hi
   rw [show S.ztA.getD i default=S.ztA[i] by simp [yE,hi],if_pos (hh _ (yi hi))]
 have halt:∃ k,zaE n S x=some (k,S.cases.any λl=>l.all (rowH x)):=by
  unfold zaE
  have:=zdt (body:=zaE.l1 n S x) (k:=S.cases.length) (n:=n) (st:=λ(_:Unit) i=>(i:Int)) (λi _=>(S.cases.drop i).any (λl=>l.all (rowH x))=S.cases.any λl=>l.all (rowH x)) (λr:Int×Bool=>r.2=S.cases.any λl=>l.all (rowH x)) (λrec i _ hi hI hr=>?_) (λrec _ hI=>?_) (by omega) () (by simp)
  ·obtain ⟨⟨k,v⟩,h1,h2⟩:=this
   simp only at h2
   exact ⟨k,by rw [← h2];exact h1⟩
  ·have hl:=hG.ca _ (yi hi)
   have hc:=zgK (n:=n) (l:=S.cases[i]) (f:=λq0=>zcc n q0 x) (p:=λr=>!rowH x r) (λr hr=>by simp only [zcc,zgn h (hl.2 r hr) hn,ya]) (by omega) hn
   rw [zm hi,List.any_cons] at hI
   simp only [zaE.l1,zB hi,if_true,zb hi,ya,hc,zd (i:=i) (by omega)]
   have e:(!S.cases[i].any λr=>!rowH x r)=S.cases[i].all (rowH x):=by rw [List.all_eq_not_any_not]
   rw [e]
   cases ha:S.cases[i].all (rowH x) with
   | true=>rw [if_pos rfl];exact ⟨_,rfl,by rw [ha] at hI;simpa using hI⟩
   | false=>rw [if_neg (by simp)];exact hr () (by rw [ha] at hI;simpa using hI)
  ·simp only [zaE.l1,zaw,ye,if_false]
   exact ⟨_,rfl,by simpa using hI⟩
 obtain ⟨k,halt⟩:=halt
 have hadd:ztu (bad.length:Int) (badG.length:Int)=((bad.length+badG.length:Nat):Int):=zc2 (by omega)
 unfold zeh
 rw [hfails,ya]
 simp only [hadd,halt,ya]
 unfold solB
 have hce:((S.cases.length:Int)==0)=S.cases.isEmpty:=by rw [Bool.eq_iff_iff];simp
 rw [hce]
 by_cases hz:bad=[]∧badG=[]
 ·rw [if_neg (by rw [hz.1,hz.2];simp),hrows.1 hz.1,hgraphs.1 hz.2,yD,yD,Bool.or_comm]
 ·rw [if_pos (by
   simp only [yf]
   have:0<bad.length+badG.length:=by
    refine Classical.byContradiction λhn=>hz ⟨List.length_eq_zero_iff.1 (by omega),List.length_eq_zero_iff.1 (by omega)⟩
   omega)]
  have:(S.rows.all (rowH x)&&S.ztA.all (zbW x))=false:=by
   rw [uQ]
   intro e
   simp only [yd] at e
   exact hz ⟨hrows.2 e.1,hgraphs.2 e.2⟩
  rw [this,uf]
theorem zpx {n m q rows a b S} {x} (hD:SysD n m q rows a b S) (hx:InB S.box x) (hn:1000000≤n):zeU n S x=some (solB S x):=by
 obtain ⟨r,t,h⟩:=hD.g
 have g:=hD.pi
 have e:StB S.box x:=⟨hx,g.box⟩
 have j:=g.len
 have k:=hD.len
 have s:=hx.len
 have d:zeg n S x=some true:=by
  have u:=zbj (n:=n) (l:=x) (f:=λv=>zdD n v) (p:=λy=>decide (y < -4000000)||decide (4000000<y)) (λy _=>rfl) (by omega) (by omega)
  have o:(x.any λy=>decide (y < -4000000)||decide (4000000<y))=false:=by
   rw [List.any_eq_false]
   intro y w
   obtain ⟨i,z,rfl⟩:=List.getElem_of_mem w
   have:=e.val (c:=i) (by omega) (by omega)
   grind [zb]
  unfold zeg
  rw [(hD.valid1 hn).1,ya,u]
  simp only [grd]
  simp_all
 unfold zeU
 rw [d,ya]
 simp only [znl e hn,yr,yB,grd,if_true,yj,uo,Bool.or_self,ye,if_false,zqE r t h e j hn,ya]
theorem zoY {n} (hn:1000000≤n):zai n zuE zuE=some true:=by
 obtain ⟨n,rfl⟩:∃ m,n=m+1:=⟨n - 1,by omega⟩
 have b:zL n [] []=some true:=by
  unfold zL
  rw [if_neg (by simp),zeZ (by omega)]
  simp [zL.l1]
 have a:∀ f,zj n [] [] f=some true:=λf=>by
  unfold zj
  rw [if_neg (by simp),zeZ (by omega)]
  simp [zj.l1]
 grind [zai,zai.body,zuE,grd]
theorem zjd {n m q rows a b S} {x} {c:Nat} (hD:SysD n m q rows a b S) (hc:zf n m q rows=some (S,0)) (hx:InB S.box x) (hcb:c≤65536) (hn:1000000≤n):zaI n m q ⟨0,x,zuE,(c:Int)⟩ rows=some (solB S x):=by
 have d:=zoY hn
 unfold zaI
 rw [hc,ya]
 rw [if_neg (by grind),if_pos (by simp),zpx hD hx hn,ya]
 change grd (!solB S x||(zai n zuE zuE).isSome) (some (solB S x&&(zai n zuE zuE).getD default))=_
 grind [grd]
theorem zsf {b} {x}:zvV b x=true↔InB b x:=by
 constructor
 ·intro h
  have e:=zhH h
  refine ⟨e,λc f a=>?_⟩
  have d:c.toNat<b.length:=by omega
  have:=zhG h c.toNat d (by omega)
  grind [rgP,valC]
 ·intro h
  refine zoj h.len λi a g=>?_
  have:=h.mem i (by omega) (by omega)
  grind [rgP,valC]
theorem zkm {n m q rows a b S} {x} (hD:SysD n m q rows a b S) (hn:4294967296≤n) (hS:zt9 m) (hx:InB (boxM m) x):solB S x=zgl m q rows a b x:=by
 have f:=hD.len
 have d:zuz n m q a b x:=⟨hS,hD.valid,hD.quest,hD.ha,hD.hb,zsf.2 hx,by omega,hn⟩
 obtain ⟨Y,e,c⟩:=hD.tgt
 rw [← zmG d e (zpC hD.bad),← c,← hD.ztA]
 rfl
theorem zoJ {S} {x} {b} (hx:InB b x):SolN S.ztA S.cases true S.rows b x↔solB S x=true:=by
 unfold solB
 simp only [yd,yI,yp,ut,List.isEmpty_iff]
 constructor
 ·intro h
  refine ⟨⟨h.rows,h.ztA⟩,?_⟩
  by_cases a:S.cases=[]
  ·simp_all
  ·exact .inr (h.case_ rfl a)
 ·rintro ⟨⟨d,e⟩,c⟩
  exact ⟨hx,d,e,λ_ a=>c.elim (λh=>absurd h a) id⟩
theorem zlD {n m q rows a b S} {d} (hD:SysD n m q rows a b S) (hn:4294967296≤n) (hS:zt9 m) (hk:(zuQ S d).k=0):InB (boxM m) (zuQ S d).v∧zgl m q rows a b (zuQ S d).v=true:=by
 obtain ⟨i,g,e⟩:=hD.g
 have h:=zhb i (f:=d+1) (root:=true) (d:=d) g hD.pi hk
 change SolN S.ztA S.cases true S.rows S.box (zuQ S d).v at h
 have c:=h.box
 have j:=(zoJ c).1 h
 rw [hD.box] at c
 grind [zkm]
theorem zpQ {n m q rows a b S} {d} (hD:SysD n m q rows a b S) (hn:4294967296≤n) (hS:zt9 m) (h0:(zuQ S d).k≠0) (h2:(zuQ S d).k≠2) {x} (hx:InB (boxM m) x):zgl m q rows a b x=false:=by
 obtain ⟨g,i,c⟩:=hD.g
 have h:=zhd g (f:=d+1) (root:=true) (d:=d) i hD.pi h0 h2 x
 rw [← zkm hD hn hS hx,uQ]
 exact λe=>h ((zoJ (by rw [hD.box];grind)).2 e)
theorem zpo {m q rows a b x} (h:zgl m q rows a b x=true):zgl m q [] a b x=true:=by
 unfold zgl at h ⊢
 simp_all
theorem SysD.acts {n m q rows rows' a b a' b' S S'} (h:SysD n m q rows a b S) (h':SysD n m q rows' a' b' S'):a'=a∧b'=b:=by
 have d:=h.ha
 rw [h'.ha] at d
 have c:=h.hb
 rw [h'.hb] at c
 simp_all
theorem zrT {d y} (h:y.k=2):zw7 d y=⟨2,[],zuE,(d:Int)⟩:=if_pos h
theorem zrS {d y} (h:y.k=0):zw7 d y=⟨0,y.v,zuE,(y.c:Int)⟩:=by unfold zw7;simp_all
theorem ztq {d y} (h2:y.k≠2) (h0:y.k≠0):zw7 d y=⟨1,[],y.t,(y.c:Int)⟩:=by unfold zw7;simp_all
theorem zmj {m} {q} {rows}:zds 18446744073709551616 m q rows=some true:=by
 unfold zds
 have C:=zta
 have x:1000000≤18446744073709551616:=by omega
 rw [zo2,zmQ (by omega)]
 simp only [ya,uo,ye,if_false]
 by_cases g:(!fewP m||decide (20<(rows.length:Int)))=true
 ·simp_all
 rw [if_neg g]
 simp only [yI,yC,yf,not_or,Bool.not_eq_false] at g
 obtain ⟨B,J⟩:=g
 have w:=zkW B
 obtain ⟨-,r⟩:=zjA (q:=q) (rows:=rows) C B (by omega)
 obtain ⟨-,l⟩:=zjA (q:=q) (rows:=[]) C B (by simp)
 have E:∀ {p e},zf 18446744073709551616 m q p=some (⟨[],[],[],[]⟩,e)→(e=1∨e=2∨e=8)→∃ v F,zbn 18446744073709551616 m q 65536 p=some (v,F)∧(F≠0∨v.kind=2):=λo u=>by
  rw [znm o u (by omega)]
  grind
 have i:∀ {p L M S},SysD 18446744073709551616 m q p L M S→zf 18446744073709551616 m q p=some (S,0)→zbn 18446744073709551616 m q 65536 p=some (zw7 65536 (zuQ S 65536),0):=λs o=>zoX (d:=65536) s (by omega) w (ym _) o
 rcases r with ⟨e,o,u⟩ | ⟨a,b,S,s,o⟩
 ·grind
 rcases l with ⟨e,n,u⟩ | ⟨N,O,y,f,n⟩
 ·grind
 obtain ⟨rfl,rfl⟩:=s.acts f
 rw [i s o,i f n,ya,ya]
 by_cases G:(zuQ S 65536).k=2
 ·rw [zrT G,if_pos (by simp)]
 by_cases I:(zuQ y 65536).k=2
 ·rw [zrT I,if_pos (by simp)]
 by_cases A:(zuQ S 65536).k=0
 ·obtain ⟨K,z⟩:=zlD s (by omega) w A
  have t:=zpo z
  have H:(zuQ y 65536).k=0:=Classical.byContradiction λh=>by
   grind [zpQ]
  have j:=zjd (c:=0) f n (by rw [f.box];omega) (by omega) x
  rw [zkm f (by omega) w K,t] at j
  rw [zrS A,zrS H,if_neg (by simp)]
  grind [grd,zuE]
 ·rw [ztq G A]
  by_cases H:(zuQ y 65536).k=0
  ·simp [grd]
  ·simp [grd]
theorem closed23:joinedFacts Tryz.pinned.checked.prog 6 Tryz.f6 (OpenSpec.ofChange Rows.pairRelativeSpec).bare Rows.pairRelativeRow=true:=by
 unfold joinedFacts
 simp only [yd]
 repeat' apply And.intro
 all_goals as_aux_lemma=>kernel_rfl
section
open Go.ChangeShapes Go.WideShapes Go.ChangeAt Go.RowKit
theorem own:ownKnob Tryz.prog.godebug=none:=by kernel_rfl
theorem zsh:laidOutB Tryz.prog=true:=by kernel_rfl
set_option maxRecDepth 100000 in
theorem zxG (H:Type) (enc:TypeId×Value→H) (W:World) (base:Nat) (args:Array Value) (ds gs:List (DataW H)) (before:List MemPlace)
  (hval:∀ (j:Nat) t v,Tryz.f6.params[j]? = some t→args[j]? = some v→Value.okWide Tryz.prog W .any base t v)
  (hW:DataW.Whole enc Tryz.prog Tryz.f6.params.toList Rows.pairRelativeSpec.vars false W args.toList ds gs before) (hL:laidMetH Tryz.prog Rows.pairRelativeRow.laid W) (hS:W.ShapedOpen Tryz.prog) :
  Calls Tryz.prog 6 args W λe W'=>∃ v,e = .returned v∧Rows.pairRelativeSpec.post enc Tryz.prog Tryz.f6 false true false false W args v W':=by
 have hW':=hW
 obtain ⟨p,q,hA0,hV,rfl,hfz,hnd⟩:=hW
 have hA:DataW.TrodAll enc Tryz.prog W 0 (λ_=>true) true Tryz.f6.params.toList args.toList ds p:=hA0
 rw [Tryz.params6] at hA hval
 obtain ⟨v0,vs0,d0,ds0,p0,q0,hargs,rfl,rfl,h0,r0⟩:=trodAll_cons hA
 obtain ⟨v1,vs1,d1,ds1,p1,q1,rfl,rfl,rfl,h1,r1⟩:=trodAll_cons r0
 obtain ⟨v2,vs2,d2,ds2,p2,q2,rfl,rfl,rfl,h2,r2⟩:=trodAll_cons r1
 obtain ⟨rfl,rfl,rfl⟩:=trodAll_nil r2
 obtain rfl:args = #[v0,v1,v2]:=by cases args;simp_all
 obtain ⟨rfl,rfl⟩:=trodVars_none hV
 obtain ⟨a0,k0⟩:=zs0.zyc (hval 0 _ v0 rfl rfl) h0
 obtain ⟨a1,k1⟩:=zs2.zyc (hval 1 _ v1 rfl rfl) h1
 obtain ⟨a2,k2⟩:=zxY.zyc (hval 2 _ v2 rfl rfl) h2
 have hrun:=(law23_PairRelative_ok _ a0 a1 a2 true zmj).run zvF W #[v0,v1,v2] (λ_ h=>h.elim) (zsa hL hS) (by
  simp only [D.reps]
  exact ⟨v0,_,rfl,k0,v1,_,rfl,k1,v2,_,rfl,k2,rfl⟩)
 refine hrun.mono λe W' ⟨u,he,hf,hu⟩=>?_
 simp only [D.rep] at hu
 subst hu
 subst he
 refine ⟨_,rfl,zqi hW' rfl rfl rfl zsh (λt ht=>?_) hf (λ_ _ _=>trodAll_cons_mk (shut_bool Tryz.underlying4 _) trodAll_mk0)⟩
 rw [Tryz.params6] at ht
 have hall:([30,34,22].all λt=>Tryz.prog.readableRec t&&decide (t<Tryz.prog.types.size))=true:=by kernel_rfl
 have:=yp.1 hall t (by simpa using ht)
 simpa using this
theorem reads23 (os:Os) {H:Type} (enc:TypeId×Value→H):∃ places,DataW.whole enc Tryz.prog ((World.laidAll Tryz.prog os Rows.pairRelativeRow.laid).forCall (λ_ _=>0) ⟨#[],#[.agg #[.slice none 0 0,.slice none 0 0,.slice none 0 0,.slice none 0 0,.slice none 0 0,.slice none 0 0,.slice none 0 0],.agg #[.int .i64 0,.int .i64 0,.bool false,.int .i64 0],.slice none 0 0],[]⟩).memory Tryz.f6.params.toList Rows.pairRelativeSpec.vars false
  (#[.agg #[.slice none 0 0,.slice none 0 0,.slice none 0 0,.slice none 0 0,.slice none 0 0,.slice none 0 0,.slice none 0 0],.agg #[.int .i64 0,.int .i64 0,.bool false,.int .i64 0],.slice none 0 0]:Array Value).toList 8 =
  some ([.agg [.nil,.nil,.nil,.nil,.nil,.nil,.nil],.agg [.lit (.int .i64 0),.lit (.int .i64 0),.agg [.lit (.bool false),.lit (.int .i64 0)]],.nil],[],places):=
 ⟨[],by kernel_rfl⟩
set_option maxRecDepth 100000 in
theorem lifted23 (os:Os) (started:os.Started) (H:Type) (enc:TypeId×Value→H) (F:Stop.Interp) :
  ReturnsInHanded {} Tryz.checked os 6 .any ((OpenSpec.ofChange Rows.pairRelativeSpec).preRow enc Tryz.prog Tryz.f6 Rows.pairRelativeRow.domain false Rows.pairRelativeRow.laid) (((OpenSpec.ofChange Rows.pairRelativeSpec).at F).post enc Tryz.prog Tryz.f6 false true false false):=by
 obtain ⟨places,hx⟩:=reads23 os enc
 refine returnsInHanded_of_row (C:=Tryz.checked) (s:=OpenSpec.ofChange Rows.pairRelativeSpec) own started (by kernel_rfl) Tryz.func6
  (witness_row_atRef (enc:=enc) (C:=Tryz.checked) false (World.laidAll Tryz.prog os Rows.pairRelativeRow.laid) _ (World.laidAll_os _ _ _) (by kernel_rfl) (by kernel_rfl) (by kernel_rfl)
   (OpenSpec.preRow_of_cond 8 hx (by kernel_rfl) (λk hk=>by cases hk) (by kernel_rfl) (laidMet_laidAll _ (by kernel_rfl) (by kernel_rfl)))) ?_
 intro W base args ds gs before hval hW _ _ _ hL hS _
 exact zxG H enc W base args ds gs before hval hW hL hS
theorem said23:Rows.PairRelativeSaid:=
 OpenClaim.holds_of_cond 6 Tryz.f6 rfl rfl rfl rfl rfl rfl rfl ⟨rfl,rfl,rfl,rfl,rfl⟩ rfl rfl rfl rfl rfl (by kernel_rfl) Tryz.func6 closed23
  (of_decide_eq_true (by kernel_rfl)) (by unfold Func.isWrapper;first | (rw [if_pos (by decide +kernel)];kernel_rfl) | (rw [if_neg (by decide +kernel)];exact ⟨rfl,rfl⟩))
  (λos started H enc _ F=>by rw [OpenClaim.pre_eq_preRow];exact lifted23 os started H enc F)
theorem plain23 (f:FuncId) (fn:Func) (hf:Tryz.pinned.checked.prog.funcNamed Rows.pairRelativeRow.func=some f) (hfn:Tryz.pinned.checked.prog.funcs[f]? = some fn) :
  true=Tryz.pinned.checked.prog.looks []∧∀ (j:Nat) t,fn.params[j]? = some t→Tryz.pinned.checked.prog.wantsStandIn t=false:=by
 obtain rfl:f=6:=Option.some.inj ((show Tryz.prog.funcNamed Rows.pairRelativeRow.func=some 6 by kernel_rfl).symm.trans hf) |>.symm
 obtain rfl:fn=Tryz.f6:=(Option.some.inj (Tryz.func6.symm.trans hfn)).symm
 refine ⟨by kernel_rfl,λj t ht=>?_⟩
 rw [Tryz.params6] at ht
 have hall:([30,34,22].all λu=>!Tryz.prog.wantsStandIn u)=true:=by kernel_rfl
 have:=yp.1 hall t (by simpa using Array.mem_of_getElem? ht)
 exact (show Tryz.prog.wantsStandIn t=false by simpa using this)
theorem pairRelative_holds:Rows.PairRelativeCardSaid:=
 Claim7.holds_tied_plain_at .later [] _ _ _ _ said23 (λ_ h=>by cases h) (by kernel_rfl) (λ_ h=>by cases h) pairRelative_row_tie rfl ⟨rfl,rfl⟩ (by kernel_rfl) rfl plain23 (by kernel_rfl)
end
end Go.Proofs.YtipkniadbkndfaaGreatDoor
