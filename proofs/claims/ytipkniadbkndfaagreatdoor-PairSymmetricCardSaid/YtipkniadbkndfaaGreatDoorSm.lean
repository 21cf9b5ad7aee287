/- The law holds for every input. No condition. -/
import Derived.Test.YtipkniadbkndfaaGreatDoorSm17
import Derived.Test.YtipkniadbkndfaaGreatDoorSm18
import Derived.Test.YtipkniadbkndfaaGreatDoorCards
import Derived.Test.YtipkniadbkndfaaGreatDoorTie
import Derived.JoinedCond
import Derived.Deep.DeepWitnessRowRef
import Derived.Lay
import Derived.ProofKit
set_option linter.all false
set_option maxRecDepth 100000
set_option maxHeartbeats 40000000
namespace Go.Proofs.YtipkniadbkndfaaGreatDoor
open Go Go.RowKit
open Option renaming some->O,none->Y
open Bool renaming true->U,false->M,eq_iff_iff->xP
open Decidable renaming decide->Z
open Inhabited renaming default->J
open List renaming range->xm,getElem_of_mem->wd,take_succ_eq_append_getElem->wj,take_length->wo,drop_zero->wG,count_le_length->vw
open D renaming reps->xu,rep->xC
open Classical renaming byContradiction->xF
open Nat renaming mod_eq_of_lt->xU,mul_comm->vv
open List.Pairwise renaming imp_of_mem->wv
open List.cons renaming injEq->wI
open Int renaming le_refl->wT
open Option.some renaming inj->vP
open Function renaming comp_apply->vY
open Go.OpenSpec renaming ofChange->u4
open Go.Proofs.Tryz renaming prog->xg
theorem ziK {n}{r t}(hl:r.zvr.length<=100000)(hn:1000000<=n):zaw n r t=O (Z<|r=t):=by
 unfold zaw;have c:r=t↔r.bound=t.bound/\r.zvr=t.zvr:=by cases r;cases t;grind
 by_cases h:(r.bound !=t.bound||r.zvr.length !=t.zvr.length)=U;·grind
 ·simp only[yH,bne_iff_ne]at h;have d:r.zvr.length=t.zvr.length:=by omega
  have:=zA (body:=zaw.l1 n r t) (len:=r.zvr.length) (st:=λi=>i) (g:=λi=>O<|Z<|r.zvr.drop i=t.zvr.drop i) (λb i e f=>?_) (λb=>?_) n 0 (yn _)<|by omega
  ·simp_all
  ·have a:i<t.zvr.length:=by omega
   simp only[zaw.l1,za e,za a,zd (i:=i)<|by omega];have j:r.zvr.drop i=t.zvr.drop i↔r.zvr[i]=t.zvr[i]/\r.zvr.drop (i+1)=t.zvr.drop (i+1):=by grind[zj]
   grind
  ·simp only[zaw.l1];simp_all
theorem zlH {α:Type}[DecidableEq α]{l:List α}{i}(hi)(x):(l.take<|i+1).count x=(l.take i).count x+if l[i]=x then 1 else 0:=by grind[wj]
theorem zke {n}{l}{k:Nat}{r}(hk:k<=l.length)(hl:l.length<=100000)(ht:∀x∈l,x.zvr.length<=100000)(hn:1000000<=n):zbq n l (k:Int) r=O (((l.take k).count r:Nat):Int):=by
 have:=zA (body:=zbq.l1 n l k r) (len:=k) (st:=λi=>((l.take i).count r,i)) (g:=λ_=>O<|(l.take k).count r) (λb i e d=>?_) (λb=>?_) n 0 (yn _)<|by omega
 ·grind[zbq]
 ·have a:i<l.length:=by omega
  have c:(l.take i).count r<=i:=yG vw (by grind);rw[zlH a]at d;simp only[zbq.l1,jn,za a,ya,ziK (ht _<|yh a) hn,zd (i:=i)<|by omega,zd<|show(l.take i).count r<4611686018427387904 by omega];grind
 ·simp only[zbq.l1,zgH<|ym k,ye,if_false]
theorem zl9 {n}{l}{u}(hl:l.length<=100000)(hn:1000000<=n):zbz n l u=O ((l.count u:Nat):Int):=by
 have:=zA (body:=zbz.l1 n l u) (len:=l.length) (st:=λi=>((l.take i).count u,i)) (g:=λ_=>O<|l.count u) (λa i b d=>?_) (λa=>?_) n 0 (yn _)<|by omega
 ·grind[zbz]
 ·have c:(l.take i).count u<=i:=yG vw (by grind);rw[zlH b]at d;simp only[zbz.l1,jn,za b,zd (i:=i)<|by omega,zd<|show(l.take i).count u<4611686018427387904 by omega];grind
 ·simp only[zbz.l1,zaj,ye,if_false,wo]
def zno (m:Model)(s:Swap)(e f:zwf):Bool:=e.delta.all λd=>f.delta.any λg=>g.cell==mvC m s d.cell&&g.add==d.add
def zze (m:Model)(s:Swap)(e f:zwf):Bool:=e.hold.all λr=>Z<|e.hold.count r=f.hold.count (rowM m s r)
def updB (m:Model)(s:Swap)(e f:zwf):Bool:=e.zvw.all λu=>Z<|e.zvw.count u=f.zvw.count ⟨u.kind,mvS m.zvu s M m.tables u.cell,u.value⟩
def zkk (m:Model)(s:Swap)(e f:zwf):Bool:=Z (e.delta.length=f.delta.length)&&(Z (e.hold.length=f.hold.length)&&Z (e.zvw.length=f.zvw.length))&&(zno m s e f&&(zze m s e f&&updB m s e f))
structure EffS (e:zwf):Prop where
 delta:e.delta.length<=1000/\∀d∈e.delta,-1000000<=d.cell/\d.cell<=1000000
 hold:e.hold.length<=1000/\∀r∈e.hold,r.zvr.length<=500/\∀t∈r.zvr,-1000000<=t.cell/\t.cell<=1000000
 upd:e.zvw.length<=1000
theorem zo2 {m s n}{e f:zwf}(h:Swp m s)(he:EffS e)(hf:EffS f)(hn:1000000<=n):zW n m s e f=O (zkk m s e f):=by
 obtain⟨d1,d2⟩:=he.delta;obtain⟨h1,h2⟩:=he.hold;have u1:=he.upd;obtain⟨fd1,fd2⟩:=hf.delta;obtain⟨fh1,fh2⟩:=hf.hold;have fu1:=hf.upd;have l4:zvt (zW.l4 n m s e f) n 0=O (updB m s e f):=by
  have:=zal (body:=zW.l4 n m s e f) (l:=e.zvw) (n:=n) (st:=λi=>(i:Int)) (λu=>Z<|e.zvw.count u=f.zvw.count ⟨u.kind,mvS m.zvu s M m.tables u.cell,u.value⟩) (O M) (O U) (λrec i hi=>?_) (λrec=>?_)<|by omega
  ·rw[show((0:Nat):Int)=0 from rfl]at this;rw[this];unfold updB;cases e.zvw.all λu=>Z<|e.zvw.count u=f.zvw.count ⟨u.kind,mvS m.zvu s M m.tables u.cell,u.value⟩<;>simp
  ·simp only[zW.l4,zy hi,if_true,za hi,ya,zpE h.ok h.lay hn,zl9 (show e.zvw.length<=100000 by omega) hn,zl9 (show f.zvw.length<=100000 by omega) hn,zd (i:=i)<|by omega];by_cases hc:e.zvw.count e.zvw[i]=f.zvw.count ⟨e.zvw[i].kind,mvS m.zvu s M m.tables e.zvw[i].cell,e.zvw[i].value⟩;·rw[if_neg<|by simp[hc],if_pos<|by simpa using hc]
   ·rw[if_pos<|by simp;omega,if_neg<|by simpa using hc]
  ·simp only[zW.l4,zaj,ye,if_false]
 have l3:zvt (zW.l3 n m s e f) n 0=O (zze m s e f&&updB m s e f):=by
  have:=zal (body:=zW.l3 n m s e f) (l:=e.hold) (n:=n) (st:=λi=>(i:Int)) (λr=>Z<|e.hold.count r=f.hold.count (rowM m s r)) (O M) (O<|updB m s e f) (λrec i hi=>?_) (λrec=>?_)<|by omega
  ·rw[show((0:Nat):Int)=0 from rfl]at this;rw[this];unfold zze;cases e.hold.all λr=>Z<|e.hold.count r=f.hold.count (rowM m s r)<;>simp
  ·obtain⟨r1,r2⟩:=h2 _<|yh hi;have t1:=zke (n:=n) (l:=e.hold) (k:=e.hold.length) (r:=e.hold[i]) (ym _) (by omega) (λx hx=>by have:=(h2 x hx).1;omega) hn;have t2:=zke (n:=n) (l:=f.hold) (k:=f.hold.length) (r:=rowM m s e.hold[i]) (ym _) (by omega) (λx hx=>by have:=(fh2 x hx).1;omega) hn;rw[wo]at t1 t2;simp only[zW.l3,zy hi,if_true,za hi,ya,zrY h r2 r1 hn,t1,t2,zd (i:=i)<|by omega];by_cases hc:e.hold.count e.hold[i]=f.hold.count (rowM m s e.hold[i]);·rw[if_neg<|by simp[hc],if_pos<|by simpa using hc]
   ·rw[if_pos<|by simp;omega,if_neg<|by simpa using hc]
  ·simp only[zW.l3,zaj,ye,if_false];exact l4
 have l1:zvt (zW.l1 n m s e f) n 0=O (zno m s e f&&(zze m s e f&&updB m s e f)):=by
  have:=zal (body:=zW.l1 n m s e f) (l:=e.delta) (n:=n) (st:=λi=>(i:Int)) (λd=>f.delta.any λg=>g.cell==mvC m s d.cell&&g.add==d.add) (O M) (O<|zze m s e f&&updB m s e f) (λrec i hi=>?_) (λrec=>?_)<|by omega
  ·rw[show((0:Nat):Int)=0 from rfl]at this;grind[zno,mvC]
  ·simp only[zW.l1,zy hi,if_true];have inner:=za4 (body:=zW.l2 n m s e f (i:Int) rec) (len:=f.delta.length) (st:=λ(b:Bool)k=>(b,(k:Int))) (g:=λk b=>if(b||(f.delta.drop k).any λg=>g.cell==mvC m s e.delta[i].cell&&g.add==e.delta[i].add)=U then rec ((i+1:Nat):Int)else O M) (λ_ _=>True) (λrec2 k b hk _ hr=>?_) (λrec2 b _=>?_) n 0 M (yn _) (by omega) trivial;·simp_all
   ·simp only[zW.l2,zy hk,if_true,jn,za hk,za hi,ya,h.move (d2 _<|yh hi) hn,yq,yw,grd,yi,zd (i:=k)<|by omega];rw[zj hk,uX];grind
   ·simp only[zW.l2,zaj,ye,if_false,zd (i:=i)<|by omega];grind
  ·simp only[zW.l1,zaj,ye,if_false];grind
 unfold zW zkk;by_cases hc:((e.delta.length:Int)!=(f.delta.length:Int)||(e.hold.length:Int)!=(f.hold.length:Int)||(e.zvw.length:Int)!=(f.zvw.length:Int))=U;·rw[if_pos hc];congr 1;grind
 ·rw[if_neg hc,l1];congr 1;grind
def argM (s:Swap)(zvu args:List Int):List Int:=(xm args.length).map λi:Nat=>if zvu.getD i 0=s.sort then zyu s<|args.getD i 0 else args.getD i 0
def actB (m:Model)(s:Swap)(a b:Action):Bool:=b.operation==a.operation&&Z (b.arguments=argM s (opAt m a).zvu a.arguments)&&zkk m s a.effect b.effect
structure ActS (m:Model):Prop where
 len:m.zvq.length<=1000
 act:∀a∈m.zvq,EffS a.effect/\(∃o,idx m.zvs a.operation=O o/\o.zvu.length=a.arguments.length)/\a.arguments.length<=100
theorem zgg {m s n}{k:Int}{a:Action}(h:Swp m s)(hA:ActS m)(ha:idx m.zvq k=O a)(hn:1000000<=n):zY n m s k=O (if 0<=ixP (actB m s a) m.zvq 0 then(ixP (actB m s a) m.zvq 0,U)else(0,M)):=by
 obtain⟨he,⟨o,ho,hol⟩,hal⟩:=hA.act a<|zam ha;have hml:=hA.len;have hop:opAt m a=o:=by unfold opAt;rw[ho];rfl
 unfold zY;have:=zA (body:=zY.l1 n m s a o) (len:=m.zvq.length) (st:=λi=>(i:Int)) (g:=λi=>O<|if 0<=ixP (actB m s a) (m.zvq.drop i) i then(ixP (actB m s a) (m.zvq.drop i) i,U)else(0,M)) (λrec i hi hr=>?_) (λrec=>?_) n 0 (yn _)<|by omega
 ·simp_all
 ·obtain⟨b,hb⟩:∃b,b=m.zvq[i]:=⟨_,rfl⟩;obtain⟨hbe,-,-⟩:=hA.act _<|yh hi;have hidx:idx m.zvq (i:Int)=O b:=by grind[za]
  rw[zj hi,<-hb,ixP];rw[<-hb]at hbe;simp only[zY.l1,zy hi,if_true,hidx,ya];have hargl:(argM s o.zvu a.arguments).length=a.arguments.length:=by simp[argM]
  have hget:∀j,(hj:j<a.arguments.length)->(argM s o.zvu a.arguments)[j]'(by omega)=if o.zvu.getD j 0=s.sort then zyu s<|a.arguments.getD j 0 else a.arguments.getD j 0:=λj hj=>by simp[argM]
  have inner:=za4 (body:=zY.l2 n m s a o (i:Int) rec b) (len:=a.arguments.length) (st:=λ(x:Bool)j=>(x,(j:Int))) (g:=λj x=>if(x&&(Z (b.arguments.drop j=(argM s o.zvu a.arguments).drop j)&&zkk m s a.effect b.effect))=U then O ((i:Int),U)else rec ((i+1:Nat):Int)) (λj x=>x=U->b.arguments.length=a.arguments.length) (λrec2 j x hj hI hr2=>?_) (λrec2 x hI=>?_) n 0 (b.operation==a.operation&&(b.arguments.length:Int)==(a.arguments.length:Int)) (yn _) (by omega) λhx=>by simp only[yc,beq_iff_eq]at hx;omega
  ·rw[show((0:Nat):Int)=0 from rfl]at inner;rw[inner,wG,wG,hr];have hact:(b.operation==a.operation&&(b.arguments.length:Int)==(a.arguments.length:Int)&&(Z (b.arguments=argM s o.zvu a.arguments)&&zkk m s a.effect b.effect))=actB m s a b:=by
    unfold actB;rw[hop,xP];simp only[yc,beq_iff_eq,yf];constructor;·rintro⟨⟨x1,x2⟩,x3,x4⟩;exact⟨⟨x1,x3⟩,x4⟩
    ·rintro⟨⟨x1,x3⟩,x4⟩;exact⟨⟨x1,by rw[x3,hargl]⟩,x3,x4⟩
   rw[hact];by_cases hc:actB m s a b=U;·rw[if_pos hc,if_pos hc,if_pos<|by omega]
   ·rw[if_neg hc,if_neg hc]
  ·simp only[zY.l2,zy hj,ui];cases x with|false=>simp[zo2 h he hbe hn,grd,zd (i:=i)<|by omega]|true=>
    have hbl:=hI rfl;have hj':j<b.arguments.length:=by omega
    have hjo:j<o.zvu.length:=by omega
    have hjm:j<(argM s o.zvu a.arguments).length:=by omega
    have eo:o.zvu.getD j 0=o.zvu[j]:=by simp[yL,hjo]
    have ea:a.arguments.getD j 0=a.arguments[j]:=by simp[yL,hj]
    have hg:=hget j hj;rw[eo,ea]at hg;have hstep:∀w:Int,w=(argM s o.zvu a.arguments)[j]->rec2 (b.arguments[j]==w,((j+1:Nat):Int))=if(U&&(Z (b.arguments.drop j=(argM s o.zvu a.arguments).drop j)&&zkk m s a.effect b.effect))=U then O ((i:Int),U)else rec ((i+1:Nat):Int):=λw hw=>by
     rw[hr2 _ λ_=>hbl,zj hj',zj hjm,hw];have hc:b.arguments[j]::b.arguments.drop (j+1)=(argM s o.zvu a.arguments)[j]::(argM s o.zvu a.arguments).drop (j+1)↔b.arguments[j]=(argM s o.zvu a.arguments)[j]/\b.arguments.drop (j+1)=(argM s o.zvu a.arguments).drop (j+1):=by rw[wI]
     have hb2:(b.arguments[j]==(argM s o.zvu a.arguments)[j])=Z (b.arguments[j]=(argM s o.zvu a.arguments)[j]):=by rw[xP];simp
     rw[decide_eq_decide.2 hc,hb2,Bool.decide_and,yz,Bool.and_assoc]
    simp only[if_true,za hj,za hj',za hjo,ya,jn,zd (i:=j)<|by omega];by_cases e:o.zvu[j]=s.sort;·rw[if_pos<|by simp_all,zlI,ya];simp_all
    simp_all
  ·simp only[zY.l2,zaj,Bool.and_false,ye,if_false,zo2 h he hbe hn,yq,yw,grd,if_true,yi,zd (i:=i)<|by omega];grind
 ·simp[zY.l1,ixP]
def fstP (p:Nat->Bool):Nat->Nat->Option Nat|_,0=>Y|i,k+1=>if p i=U then O i else fstP p (i+1) k
theorem znx {p}:∀{k i j},fstP p i k=O j->(i<=j/\j<i+k)/\p j=U/\∀x,i<=x->x<j->p x=M
 |0,i,j,h=>by grind[fstP]|k+1,i,j,h=>by
  rw[fstP]at h;by_cases a:p i=U;·grind
  ·rw[if_neg a]at h;obtain⟨c,d,b⟩:=znx h;grind
def zvY (m:Model)(i:Nat):Constraint:=m.constraints.getD i J
theorem zdM {m}{i}(hi):zvY m i=m.constraints[i]:=by grind[zvY]
def zxf (c d:Constraint):Bool:=d.kind==c.kind&&d.family==c.family&&Z (d.row=c.row)
def zx9 (m:Model)(i:Nat):Nat:=(m.constraints.take i).countP<|zxf<|zvY m i
def conB (m:Model)(s:Swap)(i j:Nat):Bool:=(zvY m j).kind==(zvY m i).kind&&(zvY m j).family==(zvY m i).family&&Z ((zvY m j).row=rowM m s (zvY m i).row)&&Z (zx9 m j=zx9 m i)
structure ConS (m:Model):Prop where
 len:m.constraints.length<=1000
 con:∀c∈m.constraints,c.row.zvr.length<=500/\∀t∈c.row.zvr,-1000000<=t.cell/\t.cell<=1000000
theorem zrM {m n}{i}(hC:ConS m)(hi:i<m.constraints.length)(hn:1000000<=n):zb7 n m (i:Int)=O ((zx9 m i:Nat):Int):=by
 have h:=hC.len;unfold zb7;rw[za hi,ya];have:=zA (body:=zb7.l1 n m i m.constraints[i]) (len:=i) (st:=λk=>((m.constraints.take k).countP<|zxf m.constraints[i],k)) (g:=λ_=>O<|zx9 m i) (λb k d f=>?_) (λb=>?_) n 0 (yn _)<|by omega
 ·simp_all
 ·have a:k<m.constraints.length:=by omega
  have c:(m.constraints.take k).countP (zxf m.constraints[i])<=k:=yG List.countP_le_length (by grind);rw[yu a,List.countP_append,List.countP_singleton]at f;simp only[zb7.l1,zjI d,if_true,jn,za a,ya,ziK (show m.constraints[k].row.zvr.length<=100000 by have:=(hC.con _<|yh a).1;omega) hn,yq,yw,grd,zd (i:=k)<|by omega,zd<|show(m.constraints.take k).countP (zxf m.constraints[i])<4611686018427387904 by omega];by_cases e:zxf m.constraints[i] m.constraints[k]=U
  ·rw[if_pos<|by grind[zxf]];grind
  ·rw[if_neg<|by grind[zxf]];grind
 ·simp only[zb7.l1,zgH<|ym i,ye,if_false];rw[zx9,zdM hi]
theorem zfV {m s n}{i}(h:Swp m s)(hC:ConS m)(hi:i<m.constraints.length)(hn:1000000<=n):zad n m s (i:Int)=O (if(zvY m i).kind=1 then((i:Int),U)else match fstP (conB m s i) 0 m.constraints.length with
  |some j=>((j:Int),U)|none=>(0,M)):=by
 have o:=hC.len;unfold zad;rw[za hi,ya,<-zdM hi];by_cases k:(zvY m i).kind=1;·simp_all
 ·obtain⟨e,d⟩:=hC.con _<|yh hi;rw[<-zdM hi]at e d;rw[zrY h d e hn,ya];have:=zA (body:=zad.l1 n m i (zvY m i)<|rowM m s (zvY m i).row) (len:=m.constraints.length) (st:=λj=>j) (g:=λj=>O<|match fstP (conB m s i) j<|m.constraints.length-j with
   |some j=>(j,U)|none=>(0,M)) (λb j a l=>?_) (λb=>?_) n 0 (yn _)<|by omega
  ·simp_all
  ·have c:=(hC.con _<|yh a).1;simp only[zad.l1,za a,ya];rw[<-zdM a]at c|-;simp only[ziK (show(zvY m j).row.zvr.length<=100000 by omega) hn,zrM hC a hn,zrM hC hi hn,grd,zd (i:=j)<|by omega];rw[show m.constraints.length-j=m.constraints.length-(j+1)+1 by omega,fstP];have f:((zvY m j).kind==(zvY m i).kind&&(zvY m j).family==(zvY m i).family&&Z ((zvY m j).row=rowM m s (zvY m i).row)&&zx9 m j==zx9 m i)=conB m s i j:=by
    unfold conB;grind
   grind
  ·simp[zad.l1,fstP]
def risT (l:List Term):Prop:=l.Pairwise λa b=>a.cell<b.cell
theorem zmB {t}:∀{l},risT l->(∀u∈l,u.cell≠t.cell)->risT (insT t l)
 |[],_,_=>by simp[insT,risT]|u::l,h,b=>by
  obtain⟨d,c⟩:=uA.1 h;rw[insT];split;·exact uA.2 ⟨λv a=>by grind,h⟩
  ·refine uA.2 ⟨λv a=>?_,zmB c λv a=>b v<|by grind⟩;rcases yE.1<|(zgL t l).mem_iff.1 a with rfl|a;·grind
   simp_all
theorem zpP {m s}:∀{l acc},risT acc->((acc++l.map (mvt m s)).Pairwise λa b=>a.cell≠b.cell)->risT (rowL m s l acc)
 |[],acc,h,_=>h|t::l,acc,h,e=>by
  rw[List.pairwise_append]at e;obtain⟨j,i,d⟩:=e;obtain⟨k,g⟩:=uA.1 i;refine zpP (l:=l) (acc:=insT (mvt m s t) acc) (zmB h λu c=>d u c _<|by simp) ?_;rw[List.pairwise_append];refine⟨?_,g,λu c v n=>?_⟩;·refine List.Pairwise.imp (λ{a b}f=>?_)<|zmB h λu c=>d u c _ (by simp);omega
  ·rcases yE.1<|(zgL _ _).mem_iff.1 c with rfl|c;·grind
   grind
theorem zs4 {l k}(hp:l.Perm k)(h1:risT l)(h2:risT k):l=k:=zkW (R:=λa b:Term=>a.cell<b.cell) (λa b x y=>by omega) hp h1 h2
structure zyi (m:Model)(r:Row):Prop where
 ris:risT r.zvr
 term:∀t∈r.zvr,zfe (boxM m).length t
section
variable{m:Model}{s:Swap}(h:Swp m s)
include h
theorem zrA {c d}(c0:0<=c)(c1:c<((boxM m).length:Int))(d0:0<=d)(d1:d<((boxM m).length:Int))(e:mvC m s c=mvC m s d):c=d:=by rw[<-(h.cell c0 c1).2.1,e,(h.cell d0 d1).2.1]
theorem zsU {l}(hr:risT l)(ht:∀t∈l,zfe (boxM m).length t):(l.map<|mvt m s).Pairwise λa b=>a.cell≠b.cell:=by rw[List.pairwise_map];refine wv (λ{a b}d f g e=>?_) hr;obtain⟨i,j,-⟩:=ht a d;obtain⟨k,c,-⟩:=ht b f;have:=zrA h i j k c e;omega
theorem zyi.mv {r}(hr:zyi m r):zyi m<|rowM m s r:=by refine⟨zpP (acc:=[]) (by simp[risT])<|by simpa using zsU h hr.ris hr.term,λt b=>?_⟩;obtain⟨u,d,rfl⟩:=yY.1<|(ziG m s r).mem_iff.1 b;obtain⟨e,f,g,a⟩:=hr.term u d;obtain⟨c,-⟩:=h.cell e f;exact⟨c.1,c.2,g,a⟩
theorem zr0 {r}(hr:zyi m r):rowM m s (rowM m s r)=r:=by
 have d:=hr.mv h;have f:=d.mv h;have g:(rowM m s<|rowM m s r).zvr.Perm r.zvr:=by
  refine(ziG m s _).trans ?_;refine((ziG m s r).map<|mvt m s).trans ?_;have:(r.zvr.map<|mvt m s).map (mvt m s)=r.zvr:=by rw[uS];refine(List.map_congr_left λt c=>?_).trans<|List.map_id _;obtain⟨j,i,-⟩:=hr.term t c;simp only[vY,mvt,id_eq,(h.cell j i).2.1]
  grind
 have e:=zs4 g f.ris hr.ris;have l:(rowM m s<|rowM m s r).bound=r.bound:=rfl;cases k:rowM m s<|rowM m s r with|mk a b=>simp_all
theorem zrZ {r t}(hr:zyi m r)(ht:zyi m t)(e:rowM m s r=rowM m s t):r=t:=by grind[zr0]
end
theorem zpS {K}:∀{l}{last},rowP K last l=U->risT l/\∀t∈l,last<t.cell
 |[],_,_=>⟨by simp[risT],by simp⟩|t::l,last,h=>by
  simp only[rowP,yc]at h;obtain⟨b,a⟩:=zpS h.2;refine⟨uA.2 ⟨a,b⟩,λu c=>?_⟩;grind
theorem zmZ {m}{r}(h:zwc (boxM m).length r=U):zyi m r:=by simp only[zwc,yc]at h;exact⟨(zpS h.1).1,zhi h.1<|by decide⟩
theorem znI {α:Type}[DecidableEq α]:∀{A B:List α},A.Nodup->(∀x∈A,x∈B)->A.length<=B.length
 |[],B,_,_=>by simp|x::A,B,b,c=>by
  obtain⟨a,d⟩:=List.nodup_cons.1 b;have:=znI (A:=A) (B:=B.erase x) d λy f=>(List.mem_erase_of_ne<|show y≠x fromλe=>a<|by simp_all).2<|c y<|by grind
  grind
theorem zrD {α:Type}[DecidableEq α]{A B:List α}(hn:A.Nodup)(hs:∀x∈A,x∈B)(hl:B.length<=A.length):∀y∈B,y∈A:=λy c=>by
 refine xF λa=>?_;have:=znI (A:=A) (B:=B.erase y) hn λx b=>(List.mem_erase_of_ne<|show x≠y fromλe=>a<|by simp_all).2<|hs x b;grind
theorem zlS {α:Type}[DecidableEq α]:∀{A B:List α},(∀x∈A,A.count x=B.count x)->A.length=B.length->A.Perm B
 |[],B,_,b=>by grind|x::A,B,c,b=>by
  have a:x∈B:=by
   have:=c x<|by simp
   grind
  have d:=List.perm_cons_erase a;refine(List.Perm.cons x<|zlS (A:=A) (B:=B.erase x) (λy e=>?_) ?_).trans d.symm;·grind
  grind
theorem znm {α:Type}[DecidableEq α]{f:α->α}{x}:∀{l:List α},(∀y∈l,f y=f x->y=x)->(l.map f).count (f x)=l.count x
 |[],_=>by simp|y::l,h=>by
  rw[yU,List.count_cons,List.count_cons,znm λz a=>h z<|by grind];grind
theorem zkj {c}{a}:∀{l},(l.map (·.cell)).Nodup->(⟨c,a⟩:Change)∈l->zx l c=a
 |[],_,h=>by grind|d::l,b,h=>by
  rw[yU,List.nodup_cons]at b;rw[zx];rcases yE.1 h with rfl|h;·simp_all
  ·rw[if_neg λe=>b.1<|by grind,zkj b.2 h]
theorem ziV {c}:∀{l},(∀d∈l,d.cell≠c)->zx l c=0|[],_=>rfl|d::l,h=>by rw[zx,if_neg<|h d<|by simp,ziV λe a=>h e<|by grind]
structure zyD (m:Model)(e:zwf):Prop where
 nd:(e.delta.map (·.cell)).Nodup
 cell:∀d∈e.delta,0<=d.cell/\d.cell<((boxM m).length:Int)hold:∀r∈e.hold,zyi m r
theorem znq {m}(hV:zwn m){a}(ha:a∈m.zvq):zyD m a.effect:=by have h:=(zle hV ha).1;simp only[effP,yc]at h;obtain⟨e,c⟩:=zf9 _ _ h.1;exact⟨c,λd f=>by grind[boxM],λr b=>zmZ<|(zkg hV ha).2 r b⟩
section
variable{m:Model}{s:Swap}(h:Swp m s)
include h
theorem zsI {e f}(he:zyD m e)(hf:zyD m f)(hl:e.delta.length=f.delta.length)(hd:zno m s e f=U){c}(c0:0<=c)(c1:c<((boxM m).length:Int)):zx f.delta (mvC m s c)=zx e.delta c:=by
 have o:∀d∈e.delta,⟨mvC m s d.cell,d.add⟩∈f.delta:=λd n=>by have:=yo.1 hd d n;obtain⟨g,q,F⟩:=uo.1 this;cases g;simp_all
 by_cases j:∃d∈e.delta,d.cell=c;·obtain⟨d,h,rfl⟩:=j;rw[zkj hf.nd<|o d h,zkj he.nd h]
 ·rw[ziV (l:=e.delta) λd h i=>j ⟨d,h,i⟩];refine ziV λg q i=>?_;have p:(e.delta.map λd=>mvC m s d.cell).Nodup:=by
   have:=he.nd;unfold List.Nodup at this|-;rw[List.pairwise_map]at this|-;refine wv (λ{a b}u r t w=>?_) this;obtain⟨y,z⟩:=he.cell a u;obtain⟨C,E⟩:=he.cell b r;grind[zrA]
  have k:=zrD (A:=e.delta.map λd=>mvC m s d.cell) (B:=f.delta.map (·.cell)) p (λx G=>by grind)<|by grind
  obtain⟨d,h,n⟩:=yY.1<|k _<|yY.2 ⟨g,q,i⟩;obtain⟨H,v⟩:=he.cell d h;grind[zrA]
theorem zul {e f}(he:zyD m e)(hf:zyD m f)(hl:e.delta.length=f.delta.length)(hd:zno m s e f=U){x}(hx:x.length=(boxM m).length):zvH (stP m s x) f.delta=stP m s (zvH x e.delta):=by
 refine zpA (by grind[zdT,zh2]) λi l=>?_;rw[zdT,zh2]at l;obtain⟨⟨g,n⟩,o,-⟩:=h.cell (c:=i) (by omega) (by omega);have b:=zfp (s:=stP m s x) (d:=f.delta) (c:=i) (by omega) (by grind[zh2]);have a:=zk8 (m:=m) (s:=s) (x:=x) (c:=i) (by omega) (by omega);have j:=zk8 (m:=m) (s:=s) (x:=zvH x e.delta) (c:=i) (by omega) (by rw[zdT];omega);have p:=zfp (s:=x) (d:=e.delta) g (by omega);have k:=zsI h he hf hl hd g n;rw[yr]at b a j;rw[b,a,j,p,<-k,o]
theorem zt4 {e f}(he:zyD m e)(hf:zyD m f)(hl:e.hold.length=f.hold.length)(hd:zze m s e f=U):(e.hold.map<|rowM m s).Perm f.hold:=by refine zlS (λy c=>?_) (by grind);obtain⟨r,a,rfl⟩:=yY.1 c;rw[znm λz d b=>zrZ h (he.hold z d) (he.hold r a) b];exact of_decide_eq_true<|yo.1 hd r a
theorem zk3 {x}(hx:x.length=(boxM m).length){r}(hr:zyi m r):z9 ⟨0,0,rowM m s r,0,0⟩ (stP m s x)=z9 ⟨0,0,r,0,0⟩ x:=by rw[zcY rfl,zcY rfl];show Z (sumP (stP m s x) (rowM m s r).zvr<=r.bound)=_;rw[zsj h hx hr.term]
theorem zsN {e f}(he:zyD m e)(hf:zyD m f)(hl:e.hold.length=f.hold.length)(hd:zze m s e f=U){x}(hx:x.length=(boxM m).length):f.hold.all (λr=>z9 ⟨0,0,r,0,0⟩<|stP m s x)=e.hold.all λr=>z9 ⟨0,0,r,0,0⟩ x:=by
 have d:=zt4 h he hf hl hd;rw[xP,yo,yo];constructor
 ·intro c r b;rw[<-zk3 h hx<|he.hold r b];grind
 ·intro c g a;obtain⟨r,b,rfl⟩:=yY.1<|d.mem_iff.2 a;rw[zk3 h hx<|he.hold r b];simp_all
end
theorem zsA {m}{s}(h:Swp m s){c}(hc:acyP m c=U){K:Nat}(hK:c.size=(K:Int))(hf:0<=c.first):∃τ:Nat->Nat,(∀a,a<K->τ a<K)/\(∀a,τ (τ a)=a)/\∀a b,a<K->b<K->mvC m s (c.first+((a*K+b:Nat):Int))=c.first+((τ a*K+τ b:Nat):Int):=by
 obtain⟨j,d,P⟩:=zmG h.lay;simp only[acyP,zgr,yc,uo]at hc;obtain⟨-,-,t,r,o⟩:=hc;simp only[zht,yc,beq_iff_eq]at o;obtain⟨⟨F,xa⟩,⟨u,C⟩,k⟩:=o;obtain⟨y,v⟩:=zl7<|zdP d t r;obtain⟨Q,G,H⟩:=zjq j v y;obtain⟨p,q,g⟩:∃p q,t.zvo=[p,q]:=by match z:t.zvo with
  |[]=>simp_all|[_]=>simp_all|[p,q]=>simp_all|_::_::_::_=>simp_all
 have f:idx t.zvo 0=O p:=by rw[g];rfl
 have l:idx t.zvo 1=O q:=by rw[g];rfl
 rw[f,l]at u;rw[f]at k;simp only[yi]at u k;have i:=yo.1 v p (by simp_all);obtain⟨A,I,xf⟩:=nK_ok j i;rw[zd8 i,yi,<-A,hK]at k;have L:nK m.zvu p=K:=by omega
 have xd:wN m.zvu t.zvo.reverse=K*K:=by grind[wN]
 refine⟨colS s p,λa w=>?_,λa=>zo6 h.ok,λa b w n=>?_⟩;·have:=zoB h.ok (c:=p) (x:=a) (by simp_all);simp_all
 ·have B:=zeb w n;have:=zrz h.ok j U d (wT _) (wT _) (by omega) (by omega) t r (by grind[zaL]) (c.first+(a*K+b:Nat)) (by grind) (by grind);unfold mvC;rw[this,C];have e:(c.first+(a*K+b:Nat)-c.first).toNat=a*K+b:=by omega
  have E:t.zvo.reverse=[p,p]:=by simp_all
  rw[e,E];simp only[digP];have S:(a*K+b)%K=b:=by rw[vv,Nat.mul_add_mod,xU n]
  have N:(a*K+b)/K=a:=by rw[vv,Nat.mul_add_div<|by omega,Nat.div_eq_of_lt n,uy]
  grind[xU]
theorem zsL {m:Model}{s:Swap}(h:Swp m s){c:Constraint}(hc:acyP m c=U)(hk:c.kind=1){K:Nat}(hK:c.size=(K:Int))(hf:0<=c.first)(hfit:c.first+((K*K:Nat):Int)<=((boxM m).length:Int)){x:List Int}(hx:x.length=(boxM m).length):z9 c (stP m s x)=z9 c x:=by
 obtain⟨τ,t1,t2,t3⟩:=zsA h hc hK hf;have hedge:∀a b,a<K->b<K->zwO (stP m s x) c a b=zwO x c (τ a) (τ b):=λa b ha hb=>by
  have hp:=zeb ha hb;have c1:c.first+(a:Int)*c.size+(b:Int)=c.first+((a*K+b:Nat):Int):=by rw[hK,Int.natCast_add,uj];omega
  have c2:c.first+(τ a:Int)*c.size+(τ b:Int)=c.first+((τ a*K+τ b:Nat):Int):=by rw[hK,Int.natCast_add,uj];omega
  unfold zwO;rw[c1,c2,zk8 (by omega)<|by omega,t3 a b ha hb]
 have hsz:c.size.toNat=K:=by omega
 unfold z9;rw[if_pos hk,if_pos hk,hsz,xP];constructor;·exact zne t1 λa b ha hb he=>by rw[hedge _ _ (t1 a ha)<|t1 b hb,t2,t2];exact he
 ·exact zne t1 λa b ha hb he=>by rw[hedge a b ha hb]at he;exact he
theorem zow {m}(hS:zvS m)(hL:za3 m.zvu m.tables=U):(boxM m).length<=2592:=by
 obtain⟨c,e,d,a⟩:=zbK hL;have:=zc4 (sizes:=m.zvu) (s:=U) (l:=m.tables) λt b=>(a t b).2.2.2.2;grind[boxM]
theorem zqM {m}(hV:zwn m){a}(ha:a∈m.zvq):a.arguments.length=(opAt m a).zvu.length/\0<=a.operation/\a.operation<(m.zvs.length:Int):=by have h:=hV.acts;simp only[zyV,yc]at h;obtain⟨i,b,rfl⟩:=List.mem_iff_getElem.1 ha;have:=zgy.1 h.2 i b;simp only[za b,actP]at this;simp_all
theorem zqU {m}(hS:zvS m)(hV:zwn m):ActS m:=by
 have j:=zow hS hV.lay;refine⟨by have:=hS.zvq;omega,λa b=>⟨?_,?_,?_⟩⟩;·obtain⟨-,d,i,u,k⟩:=hS.act a b;have e:=znq hV b;refine⟨⟨by omega,λd g=>by have:=e.cell d g;omega⟩,⟨by omega,λr h=>⟨by grind,λt c=>by obtain⟨l,n,-⟩:=(e.hold r h).term t c;omega⟩⟩,by omega⟩
 ·obtain⟨p,f⟩:=zqM hV b;obtain⟨o,i⟩:=zaD f.1 f.2;grind[opAt]
 ·have:=(hS.act a b).1;omega
theorem zq4 {m}(hV:zwn m){c}(hc:c∈m.constraints)(hk:c.kind=0):zyi m c.row:=zmZ<|znk hV hc hk
theorem zoC {m}(hS:zvS m)(hV:zwn m):ConS m:=by
 have e:=zow hS hV.lay;refine⟨by have:=hS.constraints;omega,λc a=>⟨by have:=hS.con c a;omega,λt b=>?_⟩⟩;rcases zg6 hV a with h|h;·simp only[zeG,yc]at h;obtain⟨f,d,-⟩:=(zmZ (m:=m) h.2).term t b;omega
 ·simp only[acyP,zgr]at h;simp_all
def rhoI (m:Model)(s:Swap)(a:Action):Int:=ixP (actB m s a) m.zvq 0
def sigI (m:Model)(s:Swap)(i:Nat):Nat:=if(zvY m i).kind=1 then i else(fstP (conB m s i) 0 m.constraints.length).getD 0
def symB (m:Model)(s:Swap):Bool:=(m.zvq.all λa=>Z<|0<=rhoI m s a)&&allR (λi=>Z ((zvY m i).kind=1)||(fstP (conB m s i) 0 m.constraints.length).isSome) 0 m.constraints.length
theorem zof {m s n}(h:Swp m s)(hA:ActS m)(hC:ConS m)(hn:1000000<=n):zaa n m s=O (symB m s):=by
 have d:=hA.len;have f:=hC.len;have g:zvt (zaa.l2 n m s) n 0=O (allR (λi=>Z ((zvY m i).kind=1)||(fstP (conB m s i) 0 m.constraints.length).isSome) 0 m.constraints.length):=by
  have:=zfT (body:=zaa.l2 n m s) (len:=m.constraints.length) (n:=n) (st:=λi=>i) (λi=>Z ((zvY m i).kind=1)||(fstP (conB m s i) 0 m.constraints.length).isSome) (O M) (O U) (λb i c=>?_) (λb=>?_)<|by omega
  ·grind
  ·simp only[zaa.l2,zfV h hC c hn,zd (i:=i)<|by omega];grind
  ·simp only[zaa.l2,zaj,ye,if_false]
 unfold zaa symB;have:=zal (body:=zaa.l1 n m s) (l:=m.zvq) (n:=n) (st:=λi=>i) (λa=>Z<|0<=rhoI m s a) (O M) (zvt (zaa.l2 n m s) n 0) (λb i c=>?_) (λb=>?_)<|by omega
 ·grind
 ·simp only[zaa.l1,zgg h hA (za c) hn,zd (i:=i)<|by omega];have e:ixP (actB m s m.zvq[i]) m.zvq 0=rhoI m s m.zvq[i]:=rfl;grind
 ·simp only[zaa.l1,zaj,ye,if_false]
structure Sym (m:Model)(s:Swap):Prop where
 small:zvS m
 valid:zwn m
 swap:zxo m.zvu s
 sym:symB m s=U
def swpB (m:Model)(s:Swap):Bool:=Z (0<=s.sort)&&Z (s.sort<(m.zvu.length:Int))&&Z (0<=s.a)&&Z (s.a<s.b)&&Z (s.b<(idx m.zvu s.sort).getD J)
theorem zsl {m s}(h:swpB m s=U):zxo m.zvu s:=by
 simp only[swpB,yc,yf]at h;obtain⟨⟨⟨⟨e,f⟩,c⟩,d⟩,a⟩:=h;have b:zv6 m.zvu s.sort=true:=by grind[zv6]
 rw[zd8 b,yi]at a;exact⟨b,c,d,a⟩
theorem zkf {m s n}(hn:4294967296<=n)(hS:zvS m):zeU n m s=O (zd2 m&&swpB m s):=by
 unfold zeU;rw[zhz hn hS,ya];unfold swpB;by_cases b:(zd2 m&&Z (0<=s.sort)&&Z (s.sort<m.zvu.length)&&Z (0<=s.a)&&Z (s.a<s.b))=U;·have a:=b;simp only[yc,yf]at a;obtain⟨⟨⟨⟨e,c⟩,d⟩,g⟩,h⟩:=a;obtain⟨k,f⟩:=zaD c d;grind[grd]
 ·simp only[yP]at b;simp only[grd];grind
theorem zqd {m s n}(hn:4294967296<=n)(hS:zvS m):zfa n m s=O (zd2 m&&swpB m s&&symB m s):=by unfold zfa;rw[zkf hn hS,ya];cases b:zd2 m&&swpB m s with|false=>simp[grd]|true=>simp only[yc]at b;have a:=zdg.1 b.1;rw[zof ⟨zsl b.2,a.lay⟩ (zqU hS a) (zoC hS a)<|by omega];simp[grd]
theorem zvd {m s}(hS:zvS m)(h:(zd2 m&&swpB m s&&symB m s)=U):Sym m s:=by simp only[yc]at h;exact⟨hS,zdg.1 h.1.1,zsl h.1.2,h.2⟩
section
variable{m:Model}{s:Swap}(h:Sym m s)
include h
theorem Sym.swp:Swp m s:=⟨h.swap,h.valid.lay⟩
theorem Sym.rho {a}(ha:a∈m.zvq):∃(k:Nat)(hk:k<m.zvq.length),rhoI m s a=(k:Int)/\actB m s a m.zvq[k]=true:=by
 have:=h.sym;simp only[symB]at this;grind[rhoI,zpt]
theorem Sym.sig {i}(hi:i<m.constraints.length):sigI m s i<m.constraints.length/\(zvY m<|sigI m s i).kind=(zvY m i).kind/\((zvY m i).kind=1/\sigI m s i=i\/(zvY m i).kind=0/\conB m s i (sigI m s i)=U/\∀x,x<sigI m s i->conB m s i x=M):=by
 have:=h.sym;simp only[symB,yc]at this;have c:=zgy.1 this.2 i hi;have a:=(znl h.small h.valid<|yh hi).kind;rw[<-zdM hi]at a;unfold sigI;by_cases d:(zvY m i).kind=1;·simp_all
 ·simp only[d]at c;obtain⟨j,e⟩:=Option.isSome_iff_exists.1 c;obtain⟨g,f,k⟩:=znx e;have b:=f;simp only[conB]at b;simp_all
theorem zs1 {i j}(hi:i<m.constraints.length)(hj:j<m.constraints.length)(hs:zxf (zvY m i) (zvY m j)=U)(hr:zx9 m i=zx9 m j):i=j:=by
 have h:∀{i j:Nat},i<j->j<m.constraints.length->zxf (zvY m i) (zvY m j)=U->zx9 m i<zx9 m j:=λ{i j}g hj hs=>by
  have d:=hs;have f:zxf (zvY m j)=zxf (zvY m i):=by grind[zxf]
  unfold zx9;rw[f];have a:i<m.constraints.length:=by omega
  have k:(m.constraints.take<|i+1).countP (zxf<|zvY m i)=(m.constraints.take i).countP (zxf<|zvY m i)+1:=by rw[yu a,List.countP_append,List.countP_singleton,<-zdM a];rw[if_pos<|by simp[zxf]]
  have l:(m.constraints.take<|i+1).countP (zxf<|zvY m i)<=(m.constraints.take j).countP (zxf<|zvY m i):=by
   have:m.constraints.take (i+1)=(m.constraints.take j).take (i+1):=by grind
   grind[List.take_sublist]
  omega
 rcases Nat.lt_trichotomy i j with b|e|b;·grind
 ·exact e
 ·have c:zxf (zvY m j) (zvY m i)=true:=by simp only[zxf]at hs|-;simp_all
  grind
theorem Sym.rowIn {i}(hi:i<m.constraints.length)(hk:(zvY m i).kind=0):zyi m (zvY m i).row:=by rw[zdM hi]at hk|-;exact zq4 h.valid (yh hi) hk
theorem Sym.sig_inj {i j}(hi:i<m.constraints.length)(hj:j<m.constraints.length)(e:sigI m s i=sigI m s j):i=j:=by
 obtain⟨k,o,g⟩:=h.sig hi;obtain⟨l,n,f⟩:=h.sig hj;rcases g with⟨b,a⟩|⟨b,a,-⟩;·simp_all
 ·rcases f with⟨c,-⟩|⟨c,d,-⟩;·simp_all
  ·rw[e]at a;simp only[conB,yc,beq_iff_eq,yf]at a d;refine zs1 h hi hj ?_ (by omega);simp only[zxf,yc,beq_iff_eq,yf];exact⟨⟨by omega,by omega⟩,zrZ h.swp (h.rowIn hj c) (h.rowIn hi b)<|by simp_all⟩
theorem Sym.con {x}(hx:x.length=(boxM m).length){i}(hi:i<m.constraints.length):z9 (zvY m<|sigI m s i) (stP m s x)=z9 (zvY m i) x:=by
 obtain⟨n,l,k⟩:=h.sig hi;rcases k with⟨b,c⟩|⟨b,c,-⟩
 ·rw[c];have d:=yh hi;rw[<-zdM hi]at d;obtain⟨K,f,o,p,j,g⟩:=(znl h.small h.valid d).sz b;have a:acyP m (zvY m i)=true:=by
   rcases zg6 h.valid d with e|e;·simp only[zeG,yc,beq_iff_eq]at e;omega
   simp_all
  exact zsL h.swp a b f j g hx
 ·simp only[conB,yc,yf]at c;rw[zcY<|by omega,zcY b,c.1.2];show Z (sumP (stP m s x) (rowM m s (zvY m i).row).zvr<=(zvY m i).row.bound)=_;rw[zsj h.swp hx (h.rowIn hi b).term]
theorem Sym.cons {x}(hx:x.length=(boxM m).length):(∀c∈m.constraints,z9 c (stP m s x)=U)↔∀c∈m.constraints,z9 c x=true:=by
 have a:∀{x:List Int},x.length=(boxM m).length->(∀c∈m.constraints,z9 c (stP m s x)=U)->∀c∈m.constraints,z9 c x=true:=λ{x}hx d c e=>by obtain⟨i,b,rfl⟩:=wd e;rw[<-zdM b,<-h.con hx b,zdM (h.sig b).1];simp_all
 refine⟨a hx,λd=>?_⟩;refine a (x:=stP m s x) (by rw[zh2,hx]) ?_;rw[zse h.swp hx];grind
theorem Sym.act {a b}(ha:a∈m.zvq)(hb:b∈m.zvq)(hab:actB m s a b=U){x}(hx:x.length=(boxM m).length):zvH (stP m s x) b.effect.delta=stP m s (zvH x a.effect.delta)/\zyM m b.effect (stP m s x)=zyM m a.effect x:=by
 simp only[actB,zkk,yc,yf]at hab;obtain⟨-,⟨e,j,-⟩,f,g,-⟩:=hab;have d:=znq h.valid ha;have c:=znq h.valid hb;have i:=zul h.swp d c e f hx;unfold zyM;rw[i,zsN h.swp d c j g hx];have l:=h.cons hx;have k:=h.cons (x:=zvH x a.effect.delta)<|by rw[zdT,hx]
 grind
end
theorem zrI (s)(d e):zvH (zvH s d) e=zvH (zvH s e) d:=by
 unfold zvH;rw[yI,uI,yI,uI];grind[List.map_congr_left]
structure TgtMv (m:Model)(s:Swap)(q p:Question)(a A:Action):Prop where
 hold:p.target.hold=q.target.hold
 con:q.target.hold=M->∃i:Nat,i<m.constraints.length/\q.target.index=(i:Int)/\p.target.index=((sigI m s i:Nat):Int)row:q.target.hold=U->∃r,idx a.effect.hold q.target.index=O r/\idx A.effect.hold p.target.index=O (rowM m s r)
section
variable{m:Model}{s:Swap}{q p:Question}{a b A B:Action}(h:Sym m s)
include h
theorem zvb (ht:TgtMv m s q p a A){i}(hi:i<m.constraints.length):relQ p ((sigI m s i:Nat):Int)=relQ q (i:Int):=by unfold relQ;rw[ht.hold];cases c:q.target.hold with
 |true=>rfl|false=>
  obtain⟨j,d,f,g⟩:=ht.con c;rw[f,g,uD,uD,xP];simp only[bne_iff_ne];constructor;·grind
  ·intro b e;exact b<|by rw[h.sig_inj d hi<|by omega]
theorem zs9 (ha:a∈m.zvq)(hb:b∈m.zvq)(hA:A∈m.zvq)(hB:B∈m.zvq)(haA:actB m s a A=U)(hbB:actB m s b B=U)(ht:TgtMv m s q p a A){rows:List Nat}(hr:∀i∈rows,i<m.constraints.length){x:List Int}(hx:x.length=(boxM m).length):zdX m p (rows.map λi=>((sigI m s i:Nat):Int)) A B (stP m s x)=zdX m q (rows.map λi:Nat=>(i:Int)) a b x:=by
 obtain⟨pa1,pa2⟩:=h.act ha hA haA hx;obtain⟨pb1,pb2⟩:=h.act hb hB hbB hx;have hxa:(zvH x a.effect.delta).length=(boxM m).length:=by rw[zdT,hx]
 obtain⟨pab,-⟩:=h.act hb hB hbB hxa;rw[<-pa1]at pab;have hcon:∀i,i<m.constraints.length->z9 (zvY m<|sigI m s i) (zvH (zvH (stP m s x) A.effect.delta) B.effect.delta)=z9 (zvY m i) (zvH (zvH x a.effect.delta) b.effect.delta):=λi hi=>by rw[pab,h.con (by rw[zdT,hxa]) hi]
 have hget:∀i,i<m.constraints.length->(idx m.constraints ((i:Nat):Int)).getD J=zvY m i:=λi hi=>by rw[za hi,zdM hi];rfl
 unfold zdX;rw[pa2,pb2];congr 1;have hrows:((rows.map λi=>((sigI m s i:Nat):Int)).all λi=>!(relQ p i&&!z9 ((idx m.constraints i).getD J) (zvH (zvH (stP m s x) A.effect.delta) B.effect.delta)))=(rows.map λi:Nat=>(i:Int)).all λi=>!(relQ q i&&!z9 ((idx m.constraints i).getD J) (zvH (zvH x a.effect.delta) b.effect.delta)):=by
  rw[List.all_map,List.all_map,xP,yo,yo];have e:∀i∈rows,((λi=>!(relQ p i&&!z9 ((idx m.constraints i).getD J) (zvH (zvH (stP m s x) A.effect.delta) B.effect.delta)))∘λi=>((sigI m s i:Nat):Int)) i=((λi=>!(relQ q i&&!z9 ((idx m.constraints i).getD J) (zvH (zvH x a.effect.delta) b.effect.delta)))∘λi:Nat=>(i:Int)) i:=λi hi=>by have hi':=hr i hi;simp only[vY];rw[zvb h ht hi',hget _ (h.sig hi').1,hget _ hi',hcon i hi']
  exact⟨λha i hi=>by rw[<-e i hi];exact ha i hi,λha i hi=>by rw[e i hi];exact ha i hi⟩
 rw[hrows];congr 1;unfold zhK;rw[ht.hold];cases hh:q.target.hold with|true=>obtain⟨r,r1,r2⟩:=ht.row hh;simp only[if_true];rw[r1,r2,yi,yi,pb1,zk3 h.swp (by rw[zdT,hx])<|(znq h.valid ha).hold r<|zam r1]|false=>obtain⟨j,j1,j2,j3⟩:=ht.con hh;simp only[ye,if_false];rw[j2,j3,hget _ (h.sig j1).1,hget _ j1,hcon j j1]
end
theorem zqE {m}{p}{rows}{A B}{x}(hh:p.target.hold=M):zdX m p rows A B x=zdX m p rows B A x:=by grind[zdX,zhK,zrI]
theorem zoN {m s n}(hn:1000000<=n)(h:Sym m s){i}(hi:i<m.constraints.length):zad n m s (i:Int)=O (((sigI m s i:Nat):Int),U):=by
 have a:=h.sym;simp only[symB,yc]at a;have b:=zgy.1 a.2 i hi;rw[zfV h.swp (zoC h.small h.valid) hi hn];unfold sigI;grind
structure QMv (m:Model)(s:Swap)(q p:Question)(a b:Action):Prop where out:∃(k l:Nat)(hk:k<m.zvq.length)(hl:l<m.zvq.length),actB m s a m.zvq[k]=U/\actB m s b m.zvq[l]=U/\(q.e=q.f->k=l)/\TgtMv m s q p a m.zvq[k]/\(q.target.hold=U->p.e=(k:Int)/\p.f=(l:Int))/\(q.target.hold=M->p.e<=p.f/\(p.e=(k:Int)/\p.f=(l:Int)\/p.e=(l:Int)/\p.f=(k:Int)))
theorem zqR {m s n}{q:Question}{a b:Action}(hn:4294967296<=n)(h:Sym m s)(hq:zdh m q=U)(ha:idx m.zvq q.e=O a)(hb:idx m.zvq q.f=O b):∃p ok,zdd n m s q=O (p,ok)/\(ok=U->QMv m s q p a b):=by
 obtain⟨q1,q2,q3,q4,q5⟩:=zed hq;have hA:=zqU h.small h.valid;have hC:=zoC h.small h.valid;have hn1:1000000<=n:=by omega
 obtain⟨k,hk,k1,k2⟩:=h.rho<|zam ha;obtain⟨l,hl,l1,l2⟩:=h.rho<|zam hb;have hkl:q.e=q.f->k=l:=λe=>by grind
 have m1:=zgg (n:=n) h.swp hA ha hn1;have m2:=zgg (n:=n) h.swp hA hb hn1;rw[show ixP (actB m s a) m.zvq 0=rhoI m s a from rfl,k1,if_pos<|by omega]at m1;rw[show ixP (actB m s b) m.zvq 0=rhoI m s b from rfl,l1,if_pos<|by omega]at m2;unfold zdd;rw[m1,ya,m2,ya,if_neg<|by simp];cases hh:q.target.hold with
 |false=>
  obtain⟨i,hi⟩:=yS q3;have hil:i<m.constraints.length:=by have:=(q5 hh).2;omega
  rw[hi,if_pos<|by simp,zoN hn1 h hil,ya,if_neg<|by simp];refine⟨_,_,rfl,λ_=>⟨k,l,hk,hl,k2,l2,hkl,⟨by simp[hh],λ_=>⟨i,hil,hi,rfl⟩,λe=>by rw[hh]at e;cases e⟩,λe=>(by rw[hh]at e;cases e),λ_=>?_⟩⟩;simp only[];unfold gmin gmax;grind|true=>
  obtain⟨r,hr⟩:=zaD q3<|q4 hh a ha;have hra:=(znq h.valid<|zam ha).hold r<|zam hr;have hrs:=(hA.act a<|zam ha).1.hold.2 r<|zam hr;have hka:idx m.zvq (k:Int)=O m.zvq[k]:=za hk;rw[if_neg<|by simp,ha,ya,hka,ya,hr,ya,zrY h.swp hrs.2 hrs.1 hn1,ya];have hoa:=(hA.act a<|zam ha).1.hold;have hob:=(hA.act _<|yh hk).1.hold;obtain⟨t0,ht0⟩:=yS q3;have htl:t0<=a.effect.hold.length:=by have:=q4 hh a ha;omega
  have tq:=zke (n:=n) (l:=a.effect.hold) (k:=t0) (r:=r) htl (by omega) (λx hx=>by have:=(hoa.2 x hx).1;omega) hn1;rw[<-ht0]at tq;have:=zdn (body:=zdd.l1 n q ((k:Int),U) ((l:Int),U) a m.zvq[k]<|rowM m s r) (k:=m.zvq[k].effect.hold.length) (n:=n) (st:=λ(_:Unit)i=>(i:Int)) (λ_ _=>True) (λres:Question×Bool=>res.2=U->QMv m s q res.1 a b) (λrec i _ hi _ hrec=>?_) (λrec _ _=>?_) (by omega) () trivial;·simp_all
  ·have ti:=zke (n:=n) (l:=m.zvq[k].effect.hold) (k:=i) (r:=rowM m s r) (by omega) (by omega) (λx hx=>by grind) hn1;have hsame:=ziK (n:=n) (r:=m.zvq[k].effect.hold[i]) (t:=rowM m s r) (by have:=(hob.2 _<|yh hi).1;omega) hn1;simp only[zdd.l1,zy hi,if_true,za hi,ya,hsame,ti,hr,yi,tq,yq,yw,grd,zd (i:=i)<|by omega];split
   ·rename_i hc;simp only[yc,yf]at hc;refine⟨_,rfl,λ_=>⟨k,l,hk,hl,k2,l2,hkl,⟨by grind,λe=>by simp_all,λ_=>⟨r,hr,?_⟩⟩,λ_=>⟨rfl,rfl⟩,λe=>by simp_all⟩⟩;grind[idx,Int,za]
   simp_all
  ·simp only[zdd.l1,zaj,ye,if_false];simp_all
structure Pair (m:Model)(s:Swap)(a b A B a' b':Action):Prop where
 ma:a∈m.zvq
 mb:b∈m.zvq
 mA:A∈m.zvq
 mB:B∈m.zvq
 aA:actB m s a A=U
 bB:actB m s b B=U
 or:a'=A/\b'=B\/a'=B/\b'=A
section
variable{n:Nat}{m:Model}{s:Swap}(h:Sym m s)(hn:4294967296<=n)
include h
include hn
end
section
variable{n:Nat}{m:Model}{s:Swap}(h:Sym m s)(hn:4294967296<=n){a b A B a' b':Action}(hp:Pair m s a b A B a' b')
include h hp
include hn
end
section
variable{n:Nat}{m:Model}{s:Swap}(h:Sym m s)(hn:4294967296<=n){a b A B a' b':Action}(hp:Pair m s a b A B a' b'){q p:Question}(ht:TgtMv m s q p a A)
include h hn hp
include ht in
end
theorem zqT {n}{m}{q}{rows}{a b}(hF:Fuel n)(hS:zvS m)(hV:zwn m)(hq:zdh m q=U)(ha:idx m.zvq q.e=O a)(hb:idx m.zvq q.f=O b)(hK:(boxM m).length<=12)(hl:rows.length<=1000)(hbad:(rows.all λx=>!badR m x)=U):∃xe cs,Tgt n m q a b (boxM m) xe cs/\(zd5 q a b++xe).length<=30/\(zw3 n m q rows a b).length<=60/\zzO (zw3 n m q rows a b++(zd5 q a b++xe)) (zcG n m q a b) cs/\zf n m q rows=if sysP (boxM m).length (zw3 n m q rows a b++(zd5 q a b++xe)) (zcG n m q a b) cs=U then O (⟨boxM m,zw3 n m q rows a b++(zd5 q a b++xe),zcG n m q a b,cs⟩,0)else O (⟨[],[],[],[]⟩,8):=by
 have o:=hF.big;have f:1000000<=n:=by omega
 obtain⟨E,z,p,w,u⟩:=zed hq;have s:=zju hS<|zam ha;have r:=zju hS<|zam hb;have t:=zhj o hS hV<|zam ha;have v:=zhj o hS hV<|zam hb;have g:∀c∈m.constraints,zwZ (boxM m).length c:=λc i=>znl hS hV i;have e:=zha hV.lay;have k:=hS.constraints;have j:=λc i=>(g c i).len;rw[zh7 (rows:=rows) hF hS hV hq ha hb s r g hl,if_pos hbad];obtain⟨xe,cs,C,A,B,y,l⟩:=zp1 (n:=n) (m:=m) (q:=q) (box:=boxM m) s r g t v (by omega) (by omega) (λh=>⟨p,w h a ha⟩) (λh=>⟨p,(u h).2⟩) f;have d:=zk4 (n:=n) (q:=q) (rows:=rows) (a:=a) (b:=b) k j;grind[zm4,zd0,endS]
theorem zsz {m s n}{x}(hn:4294967296<=n)(h:Sym m s)(hb:swpB m s=U)(hx:x.length=(boxM m).length):zbN n m s x=O (stP m s x,U):=by
 have d:=zow h.small h.valid.lay;unfold zbN;rw[zkf hn h.small,zdg.2 h.valid,hb,ya,zhA h.valid.lay<|by omega];simp only[grd];have:=zA (body:=zbN.l1 n m s x) (len:=x.length) (st:=λi=>((xm i).map λi:Nat=>x.getD (mvC m s i).toNat 0,i)) (g:=λ_=>O (stP m s x,U)) (λa i f j=>?_) (λa=>?_) n 0 (yn _)<|by omega
 ·simp_all
 ·obtain⟨⟨e,k⟩,-,-⟩:=h.swp.cell (c:=i) (by omega) (by omega);have b:=h.swp.move (n:=n) (c:=i) (by omega) (by omega);simp only[zbN.l1,b,ya,zmr e (by omega:mvC m s i<x.length)];grind[zk,zd,List.range_succ]
 ·simp only[zbN.l1,zaj];rfl
theorem zs0 {m}{s}{q p}{a b}(h:Sym m s)(hq:zdh m q=U)(ha:idx m.zvq q.e=O a)(hbq:idx m.zvq q.f=O b)(hQ:QMv m s q p a b):zdh m p=U/\∃a' b',idx m.zvq p.e=O a'/\idx m.zvq p.f=O b'/\∀x,x.length=(boxM m).length->zdX m p [] a' b' (stP m s x)=zdX m q [] a b x:=by
 obtain⟨k,l,A,e,y,u,G,c,z,B⟩:=hQ.out;have t:=zam ha;have o:=zam hbq;have v:=yh A;have w:=yh e;have g:∀x,x.length=(boxM m).length->zdX m p [] m.zvq[k] m.zvq[l] (stP m s x)=zdX m q [] a b x:=λx E=>by
  have:=zs9 h t o v w y u c (rows:=[]) (by simp) E;simp_all
 cases d:q.target.hold with
 |true=>
  obtain⟨n,j⟩:=z d;obtain⟨r,xf,K⟩:=c.row d;have f:p.target.hold=true:=by rw[c.hold,d]
  have F:0<=p.target.index/\p.target.index<m.zvq[k].effect.hold.length:=by grind[idxS]
  refine⟨?_,_,_,by grind[za],by grind[za],g⟩;unfold zdh;rw[f,n,j,za A];simp_all|false=>
  obtain⟨L,C⟩:=B d;obtain⟨i,I,xd,N⟩:=c.con d;have f:p.target.hold=false:=by rw[c.hold,d]
  have H:=(h.sig I).1;rcases C with⟨n,j⟩|⟨n,j⟩;·refine⟨?_,_,_,by grind[za],by grind[za],g⟩;unfold zdh;simp_all
  ·refine⟨?_,_,_,by rw[n];exact za e,by rw[j];exact za A,λx E=>by grind[zqE]⟩;unfold zdh;simp_all
theorem zgx {n m q}(hF:Fuel n)(hf:fewP m=U)(hV:zwn m)(hq:zdh m q=U):zf n m q []=O (⟨[],[],[],[]⟩,8)\/∃a b S,SysD n m q [] a b S/\zf n m q []=O (S,0):=by
 have i:=zi7 hf;rcases(zoq (q:=q) (rows:=[]) hF hf<|by simp).2 with⟨e,s,o⟩|h
 ·obtain⟨f,d,p,r,x⟩:=zed hq;obtain⟨a,k⟩:=zaD f.1 f.2;obtain⟨b,j⟩:=zaD d.1 d.2;have c:=hf;simp only[fewP,zdC,hV.lay,yc,yf]at c;obtain⟨xe,t,u,v,w,l,g⟩:=zqT (rows:=[]) hF i hV hq k j c.2.2.1 (by simp)<|by simp
  grind
 simp_all
theorem zmc {m:Model}{q:Question}{s:Swap}:zdy 18446744073709551616 m q s=O true:=by
 unfold zdy;have hF:=zu2;have hn:=hF.big;have hn1:1000000<=18446744073709551616:=by omega
 rw[zqi,znQ<|by omega];simp only[ya,uk,ye,if_false];by_cases hf:fewP m=U;case neg=>
  simp only[yP]at hf;rw[hf];simp[grd]
 have hS:=zi7 hf;rw[hf,zqd hn hS];simp only[yq,yw,grd,if_true,yi,uk,uD];by_cases hsy:(zd2 m&&swpB m s&&symB m s)=U;case neg=>
  simp only[yP]at hsy;rw[hsy];rfl
 rw[if_neg<|by simp[hsy]];have h:=zvd hS hsy;simp only[yc]at hsy;have hV:=h.valid;by_cases hvq:zdh m q=U;case neg=>
  simp only[yP]at hvq;have h2:zcN 18446744073709551616 m s q=O (⟨0,0,⟨M,0⟩⟩,M):=by
   unfold zcN;rw[zkf hn hS,hsy.1.1,hsy.1.2,ya,zej hn hS,hsy.1.1,hvq];simp[grd]
  rw[h2,ya,if_pos<|by simp]
 obtain⟨q1,q2,q3,q4,q5⟩:=zed hvq;obtain⟨a,ha⟩:=zaD q1.1 q1.2;obtain⟨b,hb⟩:=zaD q2.1 q2.2;obtain⟨p,ok,hM,hQ⟩:=zqR (n:=18446744073709551616) hn h hvq ha hb;have hQe:zcN 18446744073709551616 m s q=O (p,ok):=by
  unfold zcN;rw[zkf hn hS,hsy.1.1,hsy.1.2,ya,zej hn hS,hsy.1.1,hvq,hM];simp[grd]
 rw[hQe];cases ok with
 |false=>rw[ya,if_pos<|by simp]|true=>
  have hQm:=hQ rfl;obtain⟨hpq,a',b',ha',hb',hmv⟩:=zs0 h hvq ha hb hQm;rw[ya,if_neg<|by simp];have h8:∀{r},zf 18446744073709551616 m r []=O (⟨[],[],[],[]⟩,8)->zbn 18446744073709551616 m r 65536 []=O (⟨2,[],zws,0⟩,0):=λhc=>by rw[zoo hc (.inr<|.inr rfl)<|by omega];rfl
  have hsysd:∀{r aa bb S},SysD 18446744073709551616 m r [] aa bb S->zf 18446744073709551616 m r []=O (S,0)->zbn 18446744073709551616 m r 65536 []=O (zy5 65536<|zwj S 65536,0):=λhD hc=>zqc (d:=65536) hD (by omega) hS (ym _) hc;have hany:∀{r},zdh m r=U->∃v,zbn 18446744073709551616 m r 65536 []=O (v,0):=λhr=>by
   rcases zgx hF hf hV hr with hc|⟨aa,bb,S,hD,hc⟩;·exact⟨_,h8 hc⟩
   ·exact⟨_,hsysd hD hc⟩
  rcases zgx hF hf hV hvq with hc|⟨aa,bb,S,hD,hc⟩
  ·obtain⟨w,hw⟩:=hany hpq;rw[h8 hc,ya,hw,ya,if_neg<|by simp,if_pos<|by simp]
  rcases zgx hF hf hV hpq with hc'|⟨aa',bb',S',hD',hc'⟩;·rw[hsysd hD hc,ya,h8 hc',ya,if_neg<|by simp,if_pos<|by simp]
  obtain rfl:a=aa:=by have:=hD.ha;simp_all
  obtain rfl:b=bb:=by have:=hD.hb;simp_all
  obtain rfl:a'=aa':=by have:=hD'.ha;simp_all
  obtain rfl:b'=bb':=by have:=hD'.hb;simp_all
  rw[hsysd hD hc,hsysd hD' hc',ya,ya,if_neg<|by simp];by_cases k2:(zwj S 65536).k=2;·rw[ztJ k2,if_pos<|by simp]
  by_cases w2:(zwj S' 65536).k=2;·rw[ztJ w2,if_pos<|by simp]
  by_cases k0:(zwj S 65536).k=0
  ·obtain⟨hx,hsh⟩:=zig hD (by omega) hS k0;have hxl:(zwj S 65536).v.length=(boxM m).length:=hx.len;have hx':InB (boxM m)<|stP m s (zwj S 65536).v:=zkB.1<|zsd h.swp<|zkB.2 hx;have hsh':zdX m p [] a' b' (stP m s (zwj S 65536).v)=true:=by simp_all
   have w0:(zwj S' 65536).k=0:=xF λh=>by grind[zns]
   have hconf:=zjU (c:=0) hD' hc' (by rw[hD'.box];omega) (by omega) hn1;rw[zk7 hD' (by omega) hS hx',hsh']at hconf;have hcost:1<=(zwj S 65536).c/\(zwj S 65536).c<=65536:=zfW k2;have hsmall:zef 18446744073709551616 ((zwj S 65536).c:Int)=O true:=by grind[zef]
   rw[ztH k0,ztH w0,if_neg<|by simp,if_neg<|by simp,zsz hn h hsy.1.2 hxl,ya];simp only[hsmall,yq,yi];change grd _ (grd (_||(_||(zaz 18446744073709551616 m p ⟨0,stP m s (zwj S 65536).v,zws,((0:Nat):Int)⟩ []).isSome))<|O<|_||_&&(zaz 18446744073709551616 m p ⟨0,stP m s (zwj S 65536).v,zws,((0:Nat):Int)⟩ []).getD J)=_;rw[hconf];rfl
  ·have w0:¬(zwj S' 65536).k=0:=λw0=>by
    obtain⟨hy,hsh⟩:=zig hD' (by omega) hS w0;have hyl:(zwj S' 65536).v.length=(boxM m).length:=hy.len;have hy':InB (boxM m)<|stP m s (zwj S' 65536).v:=zkB.1<|zsd h.swp<|zkB.2 hy;have h1:=hmv (stP m s (zwj S' 65536).v) hy'.len;rw[zse h.swp hyl,hsh,zns hD (by omega) hS k0 k2 hy']at h1;grind
   have hlen0:∃r,zbN 18446744073709551616 m s ([]:List Int)=O r:=by
    unfold zbN;rw[zkf hn h.small,zdg.2 h.valid,hsy.1.2,ya,zhA h.valid.lay<|by omega];simp only[uW,uk,uD,yq,grd,if_true,yi];split;·simp_all
    ·refine⟨([],U),?_⟩;grind[ze2,zbN.l1]
   obtain⟨r,hr⟩:=hlen0;rw[ztI k2 k0,ztI w2 w0,if_neg<|by simp,if_neg<|by simp,hr,ya];rfl
theorem closed24:joinedFacts Tryz.pinned.checked.prog 7 Tryz.f7 (u4 Rows.pairSymmetricSpec).bare Rows.pairSymmetricRow=true:=by
 unfold joinedFacts;simp only[yc];repeat' apply And.intro
 all_goals as_aux_lemma=>kernel_rfl
section
open Go.ChangeShapes Go.WideShapes Go.ChangeAt Go.RowKit
theorem own:ownKnob xg.godebug=none:=by kernel_rfl
theorem zt6:laidOutB xg=true:=by kernel_rfl
set_option maxRecDepth 100000 in
theorem zzD (H:Type)(enc:TypeId×Value->H)(W:World)(base:Nat)(args:Array Value)(ds gs:List<|DataW H)(before:List MemPlace)(hval:∀(j:Nat)t v,Tryz.f7.params[j]?=O t->args[j]?=O v->Value.okWide xg W .any base t v)(hW:DataW.Whole enc xg Tryz.f7.params.toList Rows.pairSymmetricSpec.vars M W args.toList ds gs before)(hL:laidMetH xg Rows.pairSymmetricRow.laid W)(hS:W.ShapedOpen xg):Calls xg 7 args W λe W'=>∃v,e=.returned v/\Rows.pairSymmetricSpec.post enc xg Tryz.f7 M U M M W args v W':=by
 have hW':=hW;obtain⟨p,q,hA0,hV,rfl,hfz,hnd⟩:=hW;have hA:DataW.TrodAll enc xg W 0 (λ_=>U) U Tryz.f7.params.toList args.toList ds p:=hA0;rw[Tryz.params7]at hA hval;obtain⟨v0,vs0,d0,ds0,p0,q0,hargs,rfl,rfl,h0,r0⟩:=trodAll_cons hA;obtain⟨v1,vs1,d1,ds1,p1,q1,rfl,rfl,rfl,h1,r1⟩:=trodAll_cons r0;obtain⟨v2,vs2,d2,ds2,p2,q2,rfl,rfl,rfl,h2,r2⟩:=trodAll_cons r1;obtain⟨rfl,rfl,rfl⟩:=trodAll_nil r2;obtain rfl:args=#[v0,v1,v2]:=by cases args;simp_all
 obtain⟨rfl,rfl⟩:=trodVars_none hV;obtain⟨a0,k0⟩:=zuS.zAa (hval 0 _ v0 rfl rfl) h0;obtain⟨a1,k1⟩:=zuU.zAa (hval 1 _ v1 rfl rfl) h1;obtain⟨a2,k2⟩:=dSwap.zAa (hval 2 _ v2 rfl rfl) h2;have hrun:=(law23_PairSymmetric_ok _ a0 a1 a2 U zmc).run zxC W #[v0,v1,v2] (λ_ h=>h.elim) (zt0 hL hS)<|by
  simp only[xu];exact⟨v0,_,rfl,k0,v1,_,rfl,k1,v2,_,rfl,k2,rfl⟩
 refine hrun.mono λe W'⟨u,he,hf,hu⟩=>?_;simp only[xC]at hu;subst hu;subst he;refine⟨_,rfl,zrJ hW' rfl rfl rfl zt6 (λt ht=>?_) hf λ_ _ _=>trodAll_cons_mk (shut_bool Tryz.underlying4 _) trodAll_mk0⟩;rw[Tryz.params7]at ht;have hall:([30,34,64].all λt=>xg.readableRec t&&Z (t<xg.types.size))=true:=by kernel_rfl
 have:=yo.1 hall t<|by simpa using ht
 simpa using this
theorem reads24 (os:Os){H:Type}(enc:TypeId×Value->H):∃places,DataW.whole enc xg ((World.laidAll xg os Rows.pairSymmetricRow.laid).forCall (λ_ _=>0) ⟨#[],#[.agg #[.slice Y 0 0,.slice Y 0 0,.slice Y 0 0,.slice Y 0 0,.slice Y 0 0,.slice Y 0 0,.slice Y 0 0],.agg #[.int .i64 0,.int .i64 0,.bool M,.int .i64 0],.agg #[.int .i64 0,.int .i64 0,.int .i64 0]],[]⟩).memory Tryz.f7.params.toList Rows.pairSymmetricSpec.vars M (#[.agg #[.slice Y 0 0,.slice Y 0 0,.slice Y 0 0,.slice Y 0 0,.slice Y 0 0,.slice Y 0 0,.slice Y 0 0],.agg #[.int .i64 0,.int .i64 0,.bool M,.int .i64 0],.agg #[.int .i64 0,.int .i64 0,.int .i64 0]]:Array Value).toList 8=O ([.agg [.nil,.nil,.nil,.nil,.nil,.nil,.nil],.agg [.lit<|.int .i64 0,.lit<|.int .i64 0,.agg [.lit<|.bool M,.lit<|.int .i64 0]],.agg [.lit<|.int .i64 0,.lit<|.int .i64 0,.lit<|.int .i64 0]],[],places):=⟨[],by kernel_rfl⟩
set_option maxRecDepth 100000 in
theorem lifted24 (os:Os) (started:os.Started) (H:Type) (enc:TypeId×Value->H) (F:Stop.Interp) :
  ReturnsInHanded {} Tryz.checked os 7 .any ((u4 Rows.pairSymmetricSpec).preRow enc xg Tryz.f7 Rows.pairSymmetricRow.domain M Rows.pairSymmetricRow.laid)<|((u4 Rows.pairSymmetricSpec).at F).post enc xg Tryz.f7 M U M M:=by
 obtain ⟨places,hx⟩:=reads24 os enc
 refine returnsInHanded_of_row (C:=Tryz.checked) (s:=u4 Rows.pairSymmetricSpec) own started (by kernel_rfl) Tryz.func7
  (witness_row_atRef (enc:=enc) (C:=Tryz.checked) M (World.laidAll xg os Rows.pairSymmetricRow.laid) _ (World.laidAll_os _ _ _) (by kernel_rfl) (by kernel_rfl) (by kernel_rfl)<|OpenSpec.preRow_of_cond 8 hx (by kernel_rfl) (λk hk=>by cases hk) (by kernel_rfl)<|laidMet_laidAll _ (by kernel_rfl)<|by kernel_rfl) ?_
 intro W base args ds gs before hval hW _ _ _ hL hS _
 exact zzD H enc W base args ds gs before hval hW hL hS
theorem said24:Rows.PairSymmetricSaid:=OpenClaim.holds_of_cond 7 Tryz.f7 rfl rfl rfl rfl rfl rfl rfl ⟨rfl,rfl,rfl,rfl,rfl⟩ rfl rfl rfl rfl rfl (by kernel_rfl) Tryz.func7 closed24 (of_decide_eq_true<|by kernel_rfl) (by unfold Func.isWrapper;first|(rw[if_pos<|by decide+kernel];kernel_rfl)|(rw[if_neg<|by decide+kernel];exact⟨rfl,rfl⟩)) λos started H enc _ F=>by rw[OpenClaim.pre_eq_preRow];exact lifted24 os started H enc F
theorem plain24 (f:FuncId)(fn:Func)(hf:Tryz.pinned.checked.prog.funcNamed Rows.pairSymmetricRow.func=O f)(hfn:Tryz.pinned.checked.prog.funcs[f]?=O fn):U=Tryz.pinned.checked.prog.looks []/\∀(j:Nat)t,fn.params[j]?=O t->Tryz.pinned.checked.prog.wantsStandIn t=false:=by
 obtain rfl:f=7:=vP ((show xg.funcNamed Rows.pairSymmetricRow.func=O 7 by kernel_rfl).symm.trans hf)|>.symm;obtain rfl:fn=Tryz.f7:=(vP<|Tryz.func7.symm.trans hfn).symm;refine⟨by kernel_rfl,λj t ht=>?_⟩;rw[Tryz.params7]at ht;have hall:([30,34,64].all λu=>!Tryz.prog.wantsStandIn u)=true:=by kernel_rfl
 have:=yo.1 hall t<|by simpa using Array.mem_of_getElem? ht
 exact show xg.wantsStandIn t=M by simpa using this
theorem pairSymmetric_holds:Rows.PairSymmetricCardSaid:=Claim7.holds_tied_plain_at .later [] _ _ _ _ said24 (λ_ h=>by cases h) (by kernel_rfl) (λ_ h=>by cases h) pairSymmetric_row_tie rfl ⟨rfl,rfl⟩ (by kernel_rfl) rfl plain24<|by kernel_rfl
end
