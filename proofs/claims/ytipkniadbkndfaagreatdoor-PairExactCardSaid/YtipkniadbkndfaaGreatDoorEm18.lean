/- Part of the proof of one law of the seat. -/
import Derived.Test.YtipkniadbkndfaaGreatDoorEm17
set_option linter.all false
set_option maxRecDepth 100000
set_option maxHeartbeats 40000000
namespace Go.Proofs.YtipkniadbkndfaaGreatDoor
open Go Go.RowKit
open Option renaming some->O,none->Y
open Bool renaming true->U,false->M,eq_iff_iff->we,not_eq_false'->vH
open Decidable renaming decide->Z
open Inhabited renaming default->J
open List renaming length->xh,range->xn,replicate->xy,drop_length->xS,take_of_length_le->xV,getElem_of_mem->wh,mem_append_left->wm,mem_of_mem_take->ws,range'->wt,all_nil->wB,mem_append_right->wC,set_cons_zero->wP,isEmpty_eq_false_iff->vg,replicate_succ->vw,getD->vy,any_eq_false->vM,range_succ_eq_map->uV,pairwise_flatMap->uX,flatMap_map->u0,isEmpty_nil->u3,count_le_length->u7,all_append->u9,getElem?_range->td
open Classical renaming byContradiction->xG
open Nat renaming mod_eq_of_lt->wd,mod_lt->wX,mod_self->ti
open List.Pairwise renaming imp_of_mem->wS
open Int renaming le_ediv_iff_mul_le->w9
open Option.some renaming inj->vJ
abbrev yO:=@_root_.List.getD_eq_getElem?_getD
abbrev ud:=@_root_.List.mem_flatMap
abbrev uJ:=@_root_.List.set_append_right
abbrev uT:=@_root_.Bool.eq_false_iff
theorem zeM {n}{r}{f g}{fP:Int->Int}{B}(hf:∀x,f x=O (fP x))(hg:g r.bound=O B)(hl:r.zuQ.length<=1000)(hn:1000000<=n):zX n r f g=O ⟨r.zuQ.map λt=>⟨t.cell,fP t.zuW⟩,B⟩:=by
 unfold zX;have:=zel (body:=zX.l1 n r f B) (l:=r.zuQ) (n:=n) (st:=λb i=>(b,i)) (λt=>⟨t.cell,fP t.zuW⟩) (λb=>O ⟨b,B⟩) [] (λa b i d c=>?_) (λa b c=>?_)<|by omega
 ·grind
 ·simp only[zX.l1,zb d];grind[zl,ze]
 ·simp[zX.l1]
theorem zrK {n}{r}(hl:r.zuQ.length<=1000)(hn:1000000<=n):zX n r (λq0=>zbC n q0) (λq0=>zbC n q0)=O r:=by rw[zeM (f:=λq0=>zbC n q0) (g:=λq0=>zbC n q0) (fP:=id) (B:=r.bound) (λ_=>rfl) rfl hl hn];simp
theorem zq2 {n K:Nat}{c}{f}(hK:zuZ c.size c.size=(K:Int))(hK2:K<=36)(hf:∀x,∃y,f x=O y)(hn:1000000<=n):∃g,zI n c f=O g/\g.least.length<=36:=by
 unfold zI;have:=zdI (body:=zI.l1 n c f) (k:=K) (n:=n) (st:=λb i=>(b,i)) (λi b=>b.length<=i) (λg=>g.least.length<=36) (λa i b h e j=>?_) (λa b e=>?_) (by omega) []<|by simp
 ·grind
 ·obtain⟨y,d⟩:=hf<|zuN c.first i;simp only[zI.l1,d,ya];rw[zl<|by grind,ya,ze<|by omega];simp_all
 ·simp only[zI.l1,hK];grind
structure zwo (K:Nat)(c:Constraint):Prop where
 kind:c.kind=0\/c.kind=1
 len:c.row.zuQ.length<=1000
 sz:c.kind=1->∃s:Nat,c.size=(s:Int)/\1<=s/\s<=6/\0<=c.first/\c.first+((s*s:Nat):Int)<=(K:Int)
theorem zwo.mul {K c}(h:zwo K c)(hk:c.kind=1):∃k:Nat,zuZ c.size c.size=(k:Int)/\k<=36:=by
 obtain⟨s,d,e,a,-⟩:=h.sz hk;have b:=yZ a a;refine⟨s*s,?_,b⟩;grind[zg4]
structure zvV (a:Action):Prop where
 delta:a.effect.delta.length<=20
 hold:a.effect.hold.length<=10
 zuQ:∀r∈a.effect.hold,r.zuQ.length<=1000
theorem zg7 {n K a c}(ha:zvV a)(hc:zwo K c)(hk:c.kind=1)(hn:1000000<=n):∃l,zE n a c=O l:=by obtain⟨k,b,d⟩:=hc.mul hk;have:=ha.delta;exact⟨_,zds b (by omega) (by omega) (by omega)<|by omega⟩
theorem zg0 {n a r}(ha:zvV a)(hr:r.zuQ.length<=1000)(hn:1000000<=n):∃x,zJ n a r=O x:=by have:=ha.delta;exact⟨_,zcE (by omega) (by omega) (by omega)<|by omega⟩
noncomputable def gr (n:Nat)(c:Constraint)(f:Int->Option Int):zvg:=(zI n c f).getD J
noncomputable def gS (n:Nat)(ef:Bool)(a b:Action)(c:Constraint):List zvg:=if(c.kind !=1)=U then[]else[gr n c λq0=>za5 n q0]++((if Z (0<(((zE n a c).getD []).length:Int))=U then[gr n c λq0=>zS n q0 a]else[])++if(ef&&Z (0<(((zE n b c).getD J).length:Int)))=U then[gr n c λq0=>zak n q0 b]else[])
noncomputable def finS (n:Nat)(box:List Range)(a b:Action)(R:List Row)(c:Constraint)(G:List zvg):Option<|System×Int:=jn (λ(v:List Row×List (List Row))=>let b6_150:=v.1;let c3_3_151:=v.2;(zas n (⟨box,b6_150,G,c3_3_151⟩:System)).bind λx267_155=>if(!x267_155)=U then O ((⟨[],[],[],[]⟩:System),8)else O ((⟨box,b6_150,G,c3_3_151⟩:System),0)) λk_152=>if(c.kind==1)=U then(zn n box c a b).bind λx254_153=>if((x254_153.length:Int)==0)=U then(app 32 R [(⟨[],-1⟩:Row)]).bind λx264_154=>k_152 (x264_154,x254_153)else k_152 (R,x254_153)else k_152 (R,[])
theorem zei {n K}{c}{f}(hc:zwo K c)(hk:c.kind=1)(hf:∀x,∃y,f x=O y)(hn:1000000<=n):zI n c f=O (gr n c f)/\(gr n c f).least.length<=36:=by
 obtain⟨k,b,a⟩:=hc.mul hk;obtain⟨g,e,d⟩:=zq2 b a hf hn;unfold gr;grind
theorem zpb {n K ef a b c}(ha:zvV a)(hb:zvV b)(hc:zwo K c)(hn:1000000<=n):(gS n ef a b c).length<=3/\∀g∈gS n ef a b c,g.least.length<=36:=by
 unfold gS;split;·simp
 ·rename_i hk;have hk:c.kind=1:=by simpa using hk
  have f3:∀x,∃y,zS n x a=O y:=λx=>by unfold zS;have:=ha.delta;rw[zap _ (by omega)<|by omega];exact⟨_,rfl⟩
  have f4:∀x,∃y,zak n x b=O y:=λx=>by unfold zak;have:=hb.delta;rw[zap _ (by omega)<|by omega];exact⟨_,rfl⟩
  have g2:=(zei (f:=λq0=>za5 n q0) hc hk (λx=>⟨_,rfl⟩) hn).2;have g3:=(zei (f:=λq0=>zS n q0 a) hc hk f3 hn).2;have g4:=(zei (f:=λq0=>zak n q0 b) hc hk f4 hn).2;constructor;·split<;>split<;>simp
  grind[List.mem_singleton]
theorem zj5 {n K m q a b box R c}(ha:zvV a)(hb:zvV b)(hc:∀c∈m.constraints,zwo K c)(hl:m.constraints.length<=1000)(hn:1000000<=n):zuR (zh.l4 n m q a b box R c.kind c.family c.row.zuQ c.row.bound c.first c.size) n ([],0)=finS n box a b R c ((xn m.constraints.length).flatMap λi=>gS n (q.e !=q.f) a b<|m.constraints.getD i J):=by
 have:=zcw (body:=zh.l4 n m q a b box R c.kind c.family c.row.zuQ c.row.bound c.first c.size) (k:=m.constraints.length) (n:=n) (st:=λb i=>(b,(i:Int))) (λi=>gS n (q.e !=q.f) a b<|m.constraints.getD i J) (finS n box a b R c) 3 [] (λi hi=>?_) (λrec b7 i hi hI=>?_) (λrec b7 hI=>?_)<|by omega
 ·grind
 ·grind[J,vy,zpb,List.getElem_mem]
 ·have e:m.constraints.getD i J=m.constraints[i]:=by grind
  have hci:=hc _<|yg hi;have hI':b7.length<=3000:=by grind
  simp only[zh.l4,zB hi,if_true,jn,zb hi,ya,e,ze (i:=i)<|by omega];unfold gS;by_cases hk:(m.constraints[i].kind !=1)=U;·grind
  ·rw[if_neg hk,if_neg hk];have hk:m.constraints[i].kind=1:=by grind
   have f3:∀x,∃y,zS n x a=O y:=λx=>by unfold zS;have:=ha.delta;rw[zap _ (by omega)<|by omega];exact⟨_,rfl⟩
   have f4:∀x,∃y,zak n x b=O y:=λx=>by unfold zak;have:=hb.delta;rw[zap _ (by omega)<|by omega];exact⟨_,rfl⟩
   obtain⟨ra,hra⟩:=zg7 ha hci hk hn;obtain⟨rb,hrb⟩:=zg7 hb hci hk hn;rw[(zei (f:=λq0=>za5 n q0) hci hk (λx=>⟨_,rfl⟩) hn).1,(zei (f:=λq0=>zS n q0 a) hci hk f3 hn).1,(zei (f:=λq0=>zak n q0 b) hci hk f4 hn).1,hra,hrb];simp only[ya,yj,yp,yw,grd,if_true];rw[zl<|by simp;omega,ya];by_cases h3:Z (0<(ra.length:Int))=U
   ·rw[if_pos h3,if_pos h3,zl<|by simp;omega,ya];by_cases h4:(q.e !=q.f&&Z (0<(rb.length:Int)))=U;·rw[if_pos h4,if_pos h4,zl<|by simp;omega,ya];simp only[yM]
    ·rw[if_neg h4,if_neg h4];simp only[yM,ue]
   ·rw[if_neg h3,if_neg h3];by_cases h4:(q.e !=q.f&&Z (0<(rb.length:Int)))=U;·rw[if_pos h4,if_pos h4,zl<|by simp;omega,ya];simp only[yM,yN]
    ·rw[if_neg h4,if_neg h4];simp only[ue]
 ·simp only[zh.l4,zat,ye,if_false];rfl
noncomputable def zdE (n:Nat)(m:Model)(q:Question)(a b:Action)(box:List Range)(R:List Row):Option<|System×Int:=jn (λ(v:List Row×Int×Int×List Term×Int×Int×Int)=>let b6_84:=v.1;let c9_0_85:=v.2.1;let c9_1_86:=v.2.2.1;let c9_2_87:=v.2.2.2.1;let c9_3_88:=v.2.2.2.2.1;let c9_4_89:=v.2.2.2.2.2.1;let c9_5_90:=v.2.2.2.2.2.2;zuR (zh.l4 n m q a b box b6_84 c9_0_85 c9_1_86 c9_2_87 c9_3_88 c9_4_89 c9_5_90) n (([]:List zvg),0)) λk_91=>if q.target.hold=U then(idx a.effect.hold q.target.index).bind λx164_92=>(zJ n b x164_92).bind λx170_93=>(zX n x164_92 (λq0=>za1 n q0) λq0=>zaw n q0 x170_93).bind λx9_94=>(app 32 R [x9_94]).bind λx11_95=>k_91 (x11_95,0,0,[],0,0,0)else(idx m.constraints q.target.index).bind λx177_96=>if(x177_96.kind==0)=U then(zJ n a x177_96.row).bind λx188_97=>(zJ n b x177_96.row).bind λx192_98=>(zX n x177_96.row (λq0=>za1 n q0) λq0=>zaw n q0<|zuN x188_97 x192_98).bind λx9_99=>(app 32 R [x9_99]).bind λx11_100=>k_91 (x11_100,x177_96.kind,x177_96.family,x177_96.row.zuQ,x177_96.row.bound,x177_96.first,x177_96.size)else k_91 (R,x177_96.kind,x177_96.family,x177_96.row.zuQ,x177_96.row.bound,x177_96.first,x177_96.size)
noncomputable def zxV (n:Nat)(m:Model)(q:Question)(a b:Action)(box:List Range)(R:List Row):Option<|System×Int:=(app 32 [] a.effect.hold).bind λx128_64=>jn (λ(v:List Row)=>let b8_65:=v;zuR (zh.l3 n m q a b box b8_65) n (R,0)) λk_66=>if(q.e !=q.f)=U then(app 32 x128_64 b.effect.hold).bind λx138_67=>k_66 x138_67 else k_66 x128_64
def endS (n:Nat)(S:System)(v:Option Bool):Option<|System×Int:=v.bind λv=>if(!v)=U then O ((⟨[],[],[],[]⟩:System),8)else O (S,0)
noncomputable def chgN (n:Nat)(a:Action)(r:Row):Int:=(zJ n a r).getD 0
noncomputable def kS (n:Nat)(q:Question)(rows:List Int)(a b:Action)(i:Nat)(c:Constraint):Int:=if(Z ((i:Int)∈rows)&&(q.target.hold||q.target.index !=(i:Int)))=U then gmax (gmax (gmax 0<|chgN n a c.row)<|chgN n b c.row)<|zuN (chgN n a c.row)<|chgN n b c.row else gmax (gmax 0<|chgN n a c.row)<|chgN n b c.row
noncomputable def rowS (n:Nat)(q:Question)(rows:List Int)(a b:Action)(i:Nat)(c:Constraint):List Row:=if(c.kind !=0)=U then[]else[⟨c.row.zuQ,zuY c.row.bound<|kS n q rows a b i c⟩]
noncomputable def zwH (n:Nat)(m:Model)(q:Question)(rows:List Int)(a b:Action):List Row:=(xn m.constraints.length).flatMap λi=>rowS n q rows a b i<|m.constraints.getD i J
theorem zeL {n a r}(ha:zvV a)(hr:r.zuQ.length<=1000)(hn:1000000<=n):zJ n a r=O (chgN n a r):=by grind[zg0,chgN]
theorem zrD {n m q rows a b box}(ha:zvV a)(hb:zvV b)(hc:∀c∈m.constraints,zwo box.length c)(hl:m.constraints.length<=1000)(hr:rows.length<=1000)(hn:1000000<=n):zuR (zh.l2 n m q rows a b box) n ([],0)=zxV n m q a b box (zwH n m q rows a b):=by
 have:=zcw (body:=zh.l2 n m q rows a b box) (k:=m.constraints.length) (n:=n) (st:=λb i=>(b,i)) (λi=>rowS n q rows a b i<|m.constraints.getD i J) (zxV n m q a b box) 1 [] (λi j=>?_) (λo b6 i j u=>?_) (λo b6 u=>?_)<|by omega
 ·grind[zwH]
 ·grind[rowS]
 ·have e:m.constraints.getD i J=m.constraints[i]:=by simp_all
  have d:=hc _<|yg j;rw[e];simp only[zh.l2,zB j,if_true,jn,zb j,ya,zeL ha d.len hn,zeL hb d.len hn,zer (show rows.length<1000000 by omega) hn];unfold rowS;by_cases l:(m.constraints[i].kind !=0)=U;·rw[if_pos l,if_pos l,ue,ze<|by omega]
  ·rw[if_neg l,if_neg l];have h:=λk=>zeM (n:=n) (r:=m.constraints[i].row) (f:=λs=>zbC n s) (g:=λs=>zeu n s k) (fP:=id) (B:=zuY m.constraints[i].row.bound k) (λ_=>rfl) rfl d.len hn;have p:(m.constraints[i].row.zuQ.map λt=>⟨t.cell,id t.zuW⟩)=m.constraints[i].row.zuQ:=by simp
   simp only[p]at h;unfold kS;split<;>(rw[h,ya,zl<|by grind,ya,ze<|by omega])
 ·simp only[zh.l2,zat];rfl
def badR (m:Model)(x:Int):Bool:=Z (x<0)||decide ((m.constraints.length:Int)<=x)||((idx m.constraints x).getD J).kind !=0
theorem zh2 {n m q rows a b}(hF:Fuel n)(hS:zvn m)(hV:zwb m)(hq:zeA m q=U)(ha:idx m.zuP q.e=O a)(hb:idx m.zuP q.f=O b)(hA:zvV a)(hB:zvV b)(hc:∀c∈m.constraints,zwo (boxM m).length c)(hr:rows.length<=1000):zh n m q rows=if(rows.all λx=>!badR m x)=U then zxV n m q a b (boxM m)<|zwH n m q rows a b else O (⟨[],[],[],[]⟩,2):=by
 have r:=hF.big;have k:=hS.constraints;have o:zfi n m=O (boxM m):=by unfold zfi zgK;rw[zhn hF hS,zdA.2 hV,ya,if_neg<|by simp,zgr hF (by have:=hS.zuU;omega) (by have:=hS.tables;omega) λt p=>by have:=(hS.tab t p).2;omega,if_pos hV.lay];rfl
 unfold zh;rw[zfT hF hS,zdA.2 hV,hq,ya,if_neg<|by simp];have:=zao (body:=zh.l1 n m q rows) (l:=rows) (n:=n) (st:=λi=>i) (λx=>!badR m x) (O (⟨[],[],[],[]⟩,2)) (zxV n m q a b (boxM m)<|zwH n m q rows a b) (λg i h=>?_) (λg=>?_)<|by omega
 ·simp_all
 ·simp only[zh.l1,zB h,zb h,ya];by_cases e:(Z (rows[i]<0)||decide (m.constraints.length<=rows[i]))=U
  ·have d:badR m rows[i]=true:=by grind[badR]
   rw[d];simp only[e,uB,grd,if_true,uf,ye,if_false]
  ·have f:=e;simp only[yG,yf,not_or,Int.not_le,Int.not_lt]at f;obtain⟨c,j⟩:=zaM f.1 f.2;unfold badR;simp only[e,grd,ze (i:=i)<|by omega];simp_all
 ·simp only[zh.l1];grind[zrD]
def zyx (x:Int):Prop:=-4611686018427387904<=x/\x<=4611686018427387904
theorem zrW {a b:Int}(ha:zyx a):zyx<|a.tdiv b:=by
 have c:=Int.natAbs_tdiv_le_natAbs a b;grind[zyx]
theorem ztK {a b}(hb:0<b)(ha:zyx a):zv1 a b=O (a.tdiv b):=by
 have h:=zrW (b:=b) ha;unfold zv1;rw[if_neg<|by omega,z9 (by have:=h.1;omega)<|by have:=h.2;omega]
theorem ztM {a b}(hb:0<b):zv2 a b=O (a.tmod b):=by
 unfold zv2;grind
theorem zqR {a b:Int}(hb:0<b):a/b=if a.tmod b<0 then a.tdiv b-1 else a.tdiv b:=by
 have d:=Int.mul_tdiv_add_tmod a b;have e:=Int.tmod_lt_of_pos a hb;have c:=Int.lt_tmod_of_pos a hb;generalize a.tdiv b=q at*;generalize a.tmod b=r at*;split;·exact(Int.ediv_emod_unique hb (r:=r+b) (q:=q-1).2 ⟨by grind,by omega,by omega⟩).1
 grind[Int.ediv_emod_unique]
theorem zmv {n}{a b}(hb:0<b)(ha:zyx a):zcQ n a b=O (a/b):=by
 have h:=zrW (b:=b) ha;unfold zcQ;rw[ztK hb ha,ya,ztM hb];simp only[jn];rw[zqR hb];have f:zuY (a.tdiv b) 1=a.tdiv b-1:=z9 (by have:=h.1;omega)<|by have:=h.2;omega
 have g:(a.tmod b !=0&&Z (a<0)!=Z (b<0))=Z (a.tmod b<0):=by
  have d:Z (b<0)=false:=by grind
  by_cases c:a<0
  ·have e:a.tmod b<=0:=by
    have:=Int.tmod_nonneg (a:=-a) b<|by omega
    simp_all
   grind
  grind[Int.tmod_nonneg]
 grind
def boxS (b:List Range):Prop:=∀r∈b,-1000000<=r.lo/\r.lo<=1000000/\-1000000<=r.hi/\r.hi<=1000000
def rgP (b:List Range)(c:Int):Range:=b.getD c.toNat J
def endP (b:List Range)(t:Term):Int:=if 0<t.zuW then t.zuW*(rgP b t.cell).lo else t.zuW*(rgP b t.cell).hi
def zwB (b:List Range)(c:Int):List Term->Int|[]=>0|t::l=>(if t.cell=c then 0 else endP b t)+zwB b c l
theorem zjL (b c):∀l m,zwB b c (l++m)=zwB b c l+zwB b c m|[],m=>by simp[zwB]|t::l,m=>by simp only[uu,zwB,zjL b c l m];omega
theorem zfJ {b}{c}(h0:0<=c)(h1:c<(b.length:Int)):idx b c=O (rgP b c):=by
 unfold idx rgP;simp_all
theorem zhy {b}{c}(h0:0<=c)(h1:c<(b.length:Int)):rgP b c∈b:=by grind[rgP]
theorem zts {b}{t}(hb:boxS b)(ht:zfU b.length t):-1000000000<=endP b t/\endP b t<=1000000000:=by
 obtain⟨f,e,a,c⟩:=ht;obtain⟨g,h,i,d⟩:=hb _<|zhy f e;unfold endP;split;·exact zho a c g h
 ·exact zho a c i d
theorem zm0 {b}{c}(hb:boxS b):∀{l},(∀t∈l,zfU b.length t)->-(1000000000*(l.length:Int))<=zwB b c l/\zwB b c l<=1000000000*(l.length:Int)
 |[],_=>by simp[zwB]|t::l,a=>by
  have e:=zts hb<|a t<|by simp
  have f:=zm0 (c:=c) hb λx d=>a x<|yV _ d;grind[zwB]
theorem zsc {n}{r}{b}{c}(hb:boxS b)(ht:∀t∈r.zuQ,zfU b.length t)(hl:r.zuQ.length<=1000)(hn:1000000<=n):zbF n r b c 1=O (zwB b c r.zuQ):=by
 have:=zy (body:=zbF.l1 n r b c 1) (len:=r.zuQ.length) (st:=λi=>(zwB b c<|r.zuQ.take i,i)) (g:=λ_=>O<|zwB b c r.zuQ) (λd i hi a=>?_) (λd=>?_) n 0 (ym _)<|by omega
 ·grind[zbF,zwB]
 ·rw[yv hi,zjL]at a;obtain⟨f,e,j,k⟩:=ht _<|yg hi;obtain⟨o,q,m,p⟩:=hb _<|zhy f e;have u:=zm0 (c:=c) hb (l:=r.zuQ.take i) λt h=>ht t<|ws h;have v:=zho j k o q;have w:=zho j k m p;have x:zuZ r.zuQ[i].zuW 1=r.zuQ[i].zuW:=by grind[zuZ,z9]
  have y:zuZ r.zuQ[i].zuW (rgP b r.zuQ[i].cell).lo=r.zuQ[i].zuW*(rgP b r.zuQ[i].cell).lo:=z9 (by omega)<|by omega
  have z:zuZ r.zuQ[i].zuW (rgP b r.zuQ[i].cell).hi=r.zuQ[i].zuW*(rgP b r.zuQ[i].cell).hi:=z9 (by omega)<|by omega
  simp only[zwB,endP]at a;simp only[zbF.l1,zb hi,zfJ f e,ya,jn,ze (i:=i)<|by omega];split at a<;>rename_i h;·simp_all
  ·split at a<;>rename_i s;·grind[zuN,z9]
   ·grind[zuN,z9]
 ·simp[zbF.l1]
def facP (c:Int):List Term->Int->Int|[],f=>f|t::l,f=>facP c l<|if t.cell=c then t.zuW else f
def zhz (o:Range)(rest f:Int):Range:=if f=0 then o else let lo:=if f<0 then max o.lo<|-(rest/ -f)else o.lo;let hi:=if 0<f then min o.hi<|rest/f else o.hi;if hi<lo then⟨1,0⟩else⟨lo,hi⟩
def zbW (r:Row)(b:List Range)(c:Int):Range:=zhz (rgP b c) (r.bound-zwB b c r.zuQ)<|facP c r.zuQ 0
theorem zmy (x y):gmin x y=min x y:=by grind[gmin]
theorem zoB (x y):gmax x y=max x y:=by grind[gmax]
theorem zgy {c}:∀{l}{f},(∀t∈l,t.cell≠c)->facP c l f=f
 |[],_,_=>rfl|t::l,f,h=>by
  simp only[facP];rw[if_neg<|h t<|by simp];exact zgy λx a=>h x<|yV _ a
theorem zms {c}:∀{l}{f}{t},(l.map (·.cell)).Nodup->t∈l->t.cell=c->facP c l f=t.zuW
 |[],_,_,_,h,_=>by grind|x::l,f,t,a,h,b=>by
  simp only[yX,List.nodup_cons]at a;simp only[facP];rcases yF.1 h with rfl|h
  ·rw[if_pos b];exact zgy λy d e=>a.1<|by simp_all
  ·exact zms a.2 h b
def ixT (c:Int):List Term->Nat->Int|[],_=>-1|t::l,i=>if t.cell=c then(i:Int)else ixT c l<|i+1
theorem zng {n}{l}{c}(hl:l.length<=1000)(hn:1000000<=n):zH n l (λq0=>zce n q0 c)=O (ixT c l 0):=by
 have:=zy (body:=zH.l1 n l λq0=>zce n q0 c) (len:=l.length) (st:=λi=>i) (g:=λi=>O<|ixT c (l.drop i) i) (λa i b d=>?_) (λa=>?_) n 0 (ym _)<|by omega
 ·grind[zH]
 ·rw[zk b];simp only[zH.l1,zb b,zce,ze (i:=i)<|by omega,ixT];grind
 ·simp[zH.l1,ixT]
theorem znz {c}:∀(l)(k),(∀t∈l,t.cell≠c)/\ixT c l k=-1\/∃i,∃hi:i<l.length,l[i].cell=c/\ixT c l k=((k+i:Nat):Int)
 |[],k=>.inl ⟨by simp,rfl⟩|t::l,k=>by
  simp only[ixT];by_cases h:t.cell=c;·grind
  ·rcases znz (c:=c) l<|k+1 with⟨b,a⟩|⟨i,hi,b,a⟩;·simp_all
   ·exact .inr ⟨i+1,by simp_all,by simp_all,by grind⟩
theorem zqs {n}{r}{b}{c}(hb:boxS b)(ht:∀t∈r.zuQ,zfU b.length t)(hf0:∀t∈r.zuQ,t.zuW≠0)(hnd:(r.zuQ.map (·.cell)).Nodup)(hl:r.zuQ.length<=1000)(hB:-1000000000<=r.bound/\r.bound<=1000000000)(h0:0<=c)(h1:c<(b.length:Int))(hn:1000000<=n):zdn n r b c=O (zbW r b c):=by
 unfold zdn;rw[zfJ h0 h1,ya,zng hl hn,ya];rcases znz (c:=c) r.zuQ 0 with⟨k,m⟩|⟨i,j,k,m⟩;·grind[zbW,zgy,zhz]
 ·rw[m];have e:=yg j;have g:=zms (f:=0) hnd e k;have v:=zm0 (c:=c) hb ht;obtain⟨-,-,w,x⟩:=ht _ e;have s:=hf0 _ e;simp only[ug];rw[if_neg<|by simp,zb j,ya,zsc hb ht hl hn,ya];unfold zbW zhz;generalize r.zuQ[i].zuW=f at*;generalize zwB b c r.zuQ=R at*;have d:zyx<|r.bound-R:=⟨by omega,by omega⟩;have u:zuY r.bound R=r.bound-R:=z9 (by omega)<|by omega
  simp only[jn,zcP,zmy,zoB];by_cases h:0<f
  ·have q:=zmv (n:=n) (a:=r.bound-R) (b:=f) h d;grind
  ·have l:zvC f=-f:=z9 (by omega)<|by omega
   have q:=zmv (n:=n) (a:=r.bound-R) (b:=-f) (by omega) d;have o:zyx<|(r.bound-R)/ -f:=⟨Int.le_trans (by omega)<|(w9<|by omega).2<|show-4611686018427387904*-f<=r.bound-R by omega,Int.ediv_le_of_le_mul (by omega)<|by omega⟩;have p:zvC ((r.bound-R)/ -f)=-((r.bound-R)/ -f):=z9 (by have:=o.2;omega)<|by have:=o.1;omega
   grind
def zyA (k last:Int):List Term->Bool|[]=>U|t::l=>!(Z (t.cell<=last)||decide (k<=t.cell)||t.zuW==0||decide (t.zuW< -1000)||decide (1000<t.zuW))&&zyA k t.cell l
def zxL (k:Int)(r:Row):Bool:=zyA k (-1) r.zuQ&&(Z (-1000000000<=r.bound)&&Z (r.bound<=1000000000))
def zzt (l:List Term)(i:Nat):Int:=match i with|0=>-1|i+1=>(l.getD i J).cell
theorem zqc {l}{i}(h):zzt l (i+1)=l[i].cell:=by simp[zzt,h]
theorem zo9 {n}{k}{r}(hl:r.zuQ.length<=1000)(hn:1000000<=n):zaN n k r=O (zxL k r):=by
 have:=zy (body:=zaN.l1 n k r) (len:=r.zuQ.length) (st:=λi=>(zzt r.zuQ i,i)) (g:=λi=>O<|zyA k (zzt r.zuQ i) (r.zuQ.drop i)&&(Z (-1000000000<=r.bound)&&Z (r.bound<=1000000000))) (λb i a c=>?_) (λb=>?_) n 0 (ym _)<|by omega
 ·grind[zaN,zzt,zxL]
 ·rw[zk a];rw[zqc a]at c;simp only[zaN.l1,zb a,ze (i:=i)<|by omega,zyA];grind
 ·simp[zaN.l1,zyA]
def boxP (b:List Range):Bool:=b.all (λr=>!(Z (r.lo< -1000000)||decide (1000000<r.lo)||decide (r.hi< -1000000)||decide (1000000<r.hi)))&&Z ((b.length:Int)<=128)
theorem zqC {b}(h:boxP b=U):boxS b:=λr a=>by
 simp only[boxP]at h;simp_all
theorem zsS {n}{b}(hl:b.length<=1000)(hn:1000000<=n):zaR n b=O (boxP b):=by
 have:=zy (body:=zaR.l1 n b) (len:=b.length) (st:=λi=>i) (g:=λi=>O<|(b.drop i).all (λr=>!(Z (r.lo< -1000000)||decide (1000000<r.lo)||decide (r.hi< -1000000)||decide (1000000<r.hi)))&&Z ((b.length:Int)<=128)) (λa i c d=>?_) (λa=>?_) n 0 (ym _)<|by omega
 ·grind[zaR,boxP]
 ·rw[zk c];simp only[zaR.l1,zb c,ze (i:=i)<|by omega];grind
 ·simp[zaR.l1]
def ixA {α:Type}(p:α->Bool):List α->Nat->Int|[],_=>-1|t::l,i=>if p t=U then(i:Int)else ixA p l<|i+1
theorem zmG {α}(p):∀(l:List α)(k),0<=ixA p l k↔l.any p=U
 |[],k=>by simp[ixA]|t::l,k=>by
  simp only[ixA];by_cases h:p t=U;·simp_all
  ·rw[if_neg h,zmG p l<|k+1];grind
theorem zhh {n}{l}{f}{p}(hp:∀x∈l,f x=O (p x))(hl:l.length<=100000)(hn:1000000<=n):zp n l f=O (l.any p):=by
 have:=zy (body:=zo.l1 n l f) (len:=l.length) (st:=λi=>i) (g:=λi=>O<|ixA p (l.drop i) i) (λa i b d=>?_) (λa=>?_) n 0 (ym _)<|by omega
 ·unfold zp zo;have c:zuR (zo.l1 n l f) n 0=O (ixA p l 0):=by simp_all
  rw[c,ya];congr 1;grind[zmG]
 ·rw[zk b];simp only[zo.l1,zb b,ze (i:=i)<|by omega,ixA];grind
 ·simp[zo.l1,ixA]
theorem zpY {n}{b}{rows}(hb:b.length<=1000)(hr:∀r∈rows,r.zuQ.length<=1000)(hl:rows.length<=100000)(hn:1000000<=n):zbj n b rows=O (boxP b&&rows.all (zxL (b.length:Int))):=by
 unfold zbj;rw[zsS hb hn,ya];have d:=zhh (n:=n) (l:=rows) (f:=λa=>zbO n a b) (p:=λr=>!zxL b.length r) (λx c=>by grind[zbO,zo9]) hl hn;grind[grd]
theorem zd0 {k}:∀{l}{last},-1<=last->zyA k last l=U->(∀t∈l,last<t.cell/\0<=t.cell/\t.cell<k/\t.zuW≠0/\-1000<=t.zuW/\t.zuW<=1000)/\(l.map (·.cell)).Nodup
 |[],_,_,_=>by simp|t::l,last,a,h=>by
  simp only[zyA,yc]at h;obtain⟨c,b⟩:=h;simp at c;obtain⟨e,d⟩:=zd0 (l:=l) (last:=t.cell) (by omega) b;grind
theorem zlC {n}{r}{b}{c}(hb:boxP b=U)(hf:zxL (b.length:Int) r=U)(hl:r.zuQ.length<=1000)(h0:0<=c)(h1:c<(b.length:Int))(hn:1000000<=n):zcM n r b c=O (zbW r b c):=by
 have d:=by
  simp only[boxP,yc,yf]at hb;omega
 unfold zcM;rw[zpY (by omega) (λx i=>by simp_all) (by simp) hn,ya];rw[if_neg<|by simp_all];simp only[zxL,yc,yf]at hf;obtain⟨f,g⟩:=hf;obtain⟨a,e⟩:=zd0 (by omega) f;rw[zqs (zqC hb) (λt h=>⟨(a t h).2.1,(a t h).2.2.1,(a t h).2.2.2.2.1,(a t h).2.2.2.2.2⟩) (λt h=>(a t h).2.2.2.1) e hl g h0 h1 hn];rfl
def midP (r:Range):Int:=(r.lo+r.hi)/2
theorem box1 {b}{r}(hb:boxP b=U)(hr:r∈b):boxP [r]=true:=by grind[boxP]
theorem zqx {n}{r}(hr:boxP [r]=U)(hn:1000000<=n):zc2 n r=O (midP r):=by
 have h:=zqC hr r<|by simp
 unfold zc2;rw[zsS (by simp) hn,ya,hr];have a:zuN r.lo r.hi=r.lo+r.hi:=z9 (by omega)<|by omega
 simp only[a];rw[zmv (by omega) ⟨by omega,by omega⟩,ya];rfl
theorem app1 {α}{k}{l}{x:α}(h:(l.length+1)*k<=140737488355328):Go.Proofs.YtipkniadbkndfaaGreatDoor.app k l [x]=O (l++[x]):=by
 unfold Go.Proofs.YtipkniadbkndfaaGreatDoor.app;simp_all
def zvu (b:List Range)(c:Int)(r:Range):List Range:=if 0<=c then b.set c.toNat r else b
theorem zby (b c r):(zvu b c r).length=b.length:=by grind[zvu]
inductive zze:List Row->List Row->Prop|nil:zze [] []|cons{r s:Row}{R S:List Row}:r.zuQ=s.zuQ->r.bound<=s.bound->zze R S->zze (r::R) (s::S)
theorem zqG {d}(hd:ze6 d):∀{l},(∀t∈l,-1000<=t.zuW/\t.zuW<=1000)->-(1000000000000*(l.length:Int))<=chgP d l/\chgP d l<=1000000000000*(l.length:Int)
 |[],_=>by simp[chgP]|t::l,h=>by
  have f:=zqG hd (l:=l) λt g=>h t<|by grind
  obtain⟨b,e⟩:=h t (by simp);obtain⟨c,a⟩:=zcj hd t.cell;have:=zho b e c a;grind[chgP]
theorem zov {n a r}(ha:zvV a)(hd:ze6 a.effect.delta)(ht:∀t∈r.zuQ,-1000<=t.zuW/\t.zuW<=1000)(hl:r.zuQ.length<=1000)(hn:1000000<=n):-1000000000000000<=chgN n a r/\chgN n a r<=1000000000000000:=by
 have b:=ha.delta;unfold chgN;rw[zcE (by omega) (by omega) (by omega)<|by omega,zkp hd ht hl];have:=zqG hd ht;grind
theorem zmw (x y):x<=gmax x y/\y<=gmax x y:=by grind[gmax]
theorem zmx {x y B}(h1:x<=B)(h2:y<=B):gmax x y<=B:=by grind[gmax]
theorem zso {n}{q}{rows less}{a b}{i:Nat}{c}(hx:-1000000000000000<=chgN n a c.row/\chgN n a c.row<=1000000000000000)(hy:-1000000000000000<=chgN n b c.row/\chgN n b c.row<=1000000000000000)(hsub:(i:Int)∈less->(i:Int)∈rows):0<=kS n q less a b i c/\kS n q less a b i c<=kS n q rows a b i c/\kS n q rows a b i c<=2000000000000000:=by
 have j:zuN (chgN n a c.row) (chgN n b c.row)=chgN n a c.row+chgN n b c.row:=zcD (by omega) (by omega);unfold kS;generalize chgN n a c.row=x at*;generalize chgN n b c.row=y at*;have f:=zmw 0 x;have g:=zmw (gmax 0 x) y;have h:=zmw (gmax (gmax 0 x) y)<|x+y;have d:gmax 0 x<=1000000000000000:=zmx (by omega) (by omega);have k:gmax (gmax 0 x) y<=1000000000000000:=zmx d (by omega);have e:gmax (gmax (gmax 0 x) y) (x+y)<=2000000000000000:=zmx (by omega)<|by omega
 grind
theorem zk1 {n m q rows a b}(hl:m.constraints.length<=60)(hc:∀c∈m.constraints,c.row.zuQ.length<=1000):(zwH n m q rows a b).length<=60/\∀r∈zwH n m q rows a b,r.zuQ.length<=1000:=by
 unfold zwH;constructor
 ·have:∀k,((xn k).flatMap λi=>rowS n q rows a b i<|m.constraints.getD i J).length<=k:=by
   intro k;induction k with
   |zero=>simp|succ k ih=>
    rw[zjd,yT];grind[rowS]
  grind
 grind[rowS]
theorem zjp {m}(hS:zvn m){a}(ha:a∈m.zuP):zvV a:=by obtain⟨-,c,b,-,e⟩:=hS.act a ha;exact⟨c,b,λr d=>by grind⟩
theorem zqM {m}(hS:zvn m)(hV:zwb m){c}(hc:c∈m.constraints):zwo (boxM m).length c:=by
 have i:=hS.con c hc;rcases zqL hS hV hc with⟨a,-,-,-⟩|⟨s,a,e,d,f,g,b⟩;·exact⟨.inl a,by omega,λh=>by omega⟩
 ·exact⟨.inr a,by omega,λ_=>⟨s,e,d,f,g,b⟩⟩
theorem zqK {m}(hV:zwb m){c}(hc:c∈m.constraints)(hk:c.kind=0):zvE (zY m.zuU U m.tables).length c.row=true:=by
 rcases zlb hV hc with h|h
 ·simp only[zfl]at h;grind
 grind[zmi]
theorem zm7 {R X G cs}(hR:R.length<=60/\∀r∈R,r.zuQ.length<=1000)(hX:X.length<=30/\∀r∈X,r.zuQ.length<=1000)(hG:G.length<=3000/\∀g∈G,g.least.length<=36)(hc:zgo cs):SysOK (R++X) G cs:=by
 refine⟨⟨by grind,λr c=>?_⟩,⟨by omega,λg e=>by grind⟩,⟨by have:=hc.1;omega,λb a=>?_⟩⟩;·grind
 ·obtain⟨f,d⟩:=hc.2 b a;exact⟨by omega,λr c=>by grind⟩
section
variable(E:Nat->Nat->Bool)(K:Nat)
def fstN (l:List Int):Nat:=(l.headD 0).toNat
def lstN (l:List Int):Nat:=(l.getLastD 0).toNat
def zef (l:List Int):Bool:=E (lstN l)<|fstN l
def ext1 (l:List Int)(i:Nat):List<|List Int:=if(E (lstN l) (fstN l+1+i)&&!decide (((fstN l+1+i:Nat):Int)∈l))=U then[l++[((fstN l+1+i:Nat):Int)]]else[]
def ext (l:List Int):List<|List Int:=(xn<|K-(fstN l+1)).flatMap<|ext1 E l
def dfs:Nat->List Int->List (List Int)|0,_=>[]|d+1,l=>(if zef E l=U then[l]else[])++(ext E K l).flatMap (dfs d)
def lev:Nat->List (List Int)->List (List Int)|0,ls=>ls|r+1,ls=>lev r<|ls.flatMap<|ext E K
theorem zik:∀(r)(ls),lev E K (r+1) ls=(lev E K r ls).flatMap (ext E K)|0,_=>rfl|r+1,ls=>zik r<|ls.flatMap<|ext E K
theorem zgl {α β:Type}(f g:α->List β):∀l:List α,(l.flatMap λx=>f x++g x).Perm<|l.flatMap f++l.flatMap g|[]=>by simp|x::l=>by simp only[uE,yM];refine .append_left _ ?_;exact((zgl f g l).append_left _).trans<|List.perm_append_comm_assoc _ _ _
theorem zi2 {α:Type}(p):∀l:List α,(l.flatMap λx=>if p x=U then[x]else[])=l.filter p|[]=>rfl|x::l=>by rw[uE,zi2 p l,List.filter_cons];grind
theorem zo0:∀(d:Nat)(ls:List<|List Int),(ls.flatMap<|dfs E K d).Perm<|(xn d).flatMap λr=>(lev E K r ls).filter<|zef E
 |0,ls=>by
  have:ls.flatMap (dfs E K 0)=[]:=List.flatMap_eq_nil_iff.2 λ_ _=>rfl;rw[this];exact .refl _|d+1,ls=>by
  have e:ls.flatMap (dfs E K<|d+1)=ls.flatMap λl=>(if zef E l=U then[l]else[])++(ext E K l).flatMap (dfs E K d):=rfl;rw[e,uV,uE,u0];refine(zgl _ _ ls).trans ?_;rw[zi2];refine .append_left _ ?_;have:=zo0 d<|ls.flatMap<|ext E K;rw[List.flatMap_assoc]at this;exact this
theorem zjD:∀(l x y),lexP (l++x) (l++y)=lexP x y|[],_,_=>rfl|a::l,x,y=>by simp only[uu,lexP];rw[if_neg<|by omega,if_neg<|by omega];exact zjD l x y
theorem zlO:∀{l m}(x y),l.length=m.length->lexP l m<0->lexP (l++x) (m++y)<0
 |[],[],_,_,_,h=>by grind[lexP]|[],_::_,_,_,h,_=>by grind|_::_,[],_,_,h,_=>by grind|a::l,b::m,x,y,e,h=>by
  simp only[uu,lexP]at h|-;split;·omega
  ·rename_i d;rw[if_neg d]at h;split;·simp_all
   ·rename_i c;rw[if_neg c]at h;exact zlO x y (by simp_all) h
theorem zmO {l x i}(h:x∈ext1 E l i):E (lstN l) (fstN l+1+i)=U/\((fstN l+1+i:Nat):Int)∉l/\x=l++[((fstN l+1+i:Nat):Int)]:=by unfold ext1 at h;simp_all
theorem zja {l x}(h:x∈ext E K l):∃i,i<K-(fstN l+1)/\E (lstN l) (fstN l+1+i)=U/\((fstN l+1+i:Nat):Int)∉l/\x=l++[((fstN l+1+i:Nat):Int)]:=by
 obtain⟨i,b,a⟩:=ud.1 h;grind[zmO]
theorem zur (l):(ext E K l).Pairwise λx y=>lexP x y<0:=by
 unfold ext;rw[uX];refine⟨λi _=>?_,List.pairwise_lt_range.imp λ{i j}b x c y a=>?_⟩;·unfold ext1;split<;>simp
 ·obtain⟨-,-,rfl⟩:=zmO E c;obtain⟨-,-,rfl⟩:=zmO E a;rw[zjD];simp only[lexP];simp_all
theorem zpm:∀(r c)(ls),(∀l∈ls,l.length=c)->(ls.Pairwise λx y=>lexP x y<0)->(∀l∈lev E K r ls,l.length=c+r)/\(lev E K r ls).Pairwise λx y=>lexP x y<0
 |0,c,ls,h,e=>⟨h,e⟩|r+1,c,ls,h,e=>by
  have:=zpm r (c+1) (ls.flatMap<|ext E K) (λx d=>?_) ?_;·exact⟨λl g=>by rw[this.1 l g];omega,this.2⟩
  ·obtain⟨l,g,d⟩:=ud.1 d;obtain⟨i,-,-,-,rfl⟩:=zja E K d;simp_all
  ·rw[uX];refine⟨λl _=>zur E K l,?_⟩;refine wS (λ{a b}m n f x d y k=>?_) e;obtain⟨i,-,-,-,rfl⟩:=zja E K d;obtain⟨j,-,-,-,rfl⟩:=zja E K k;exact zlO _ _ (by simp_all) f
theorem zqJ (x y):cmpC x y<0↔x.length<y.length\/x.length=y.length/\lexP x y<0:=by grind[cmpC,cmpI]
theorem zud (d c ls)(h1:∀l∈ls,l.length=c)(h2:ls.Pairwise λx y=>lexP x y<0):((xn d).flatMap λr=>(lev E K r ls).filter<|zef E).Pairwise λx y=>cmpC x y<0:=by
 rw[uX];refine⟨λr _=>?_,List.pairwise_lt_range.imp λ{i j}b x e y a=>?_⟩
 ·have:=zpm E K r c ls h1 h2;grind[wS,zqJ]
 ·have g:=(zpm E K i c ls h1 h2).1 x (List.mem_filter.1 e).1;have f:=(zpm E K j c ls h1 h2).1 y (List.mem_filter.1 a).1;rw[zqJ];simp_all
end
theorem znL {α:Type}{R}(hanti:∀a b,R a b->R b a->a=b):∀{l m:List α},l.Perm m->l.Pairwise R->m.Pairwise R->l=m
 |[],m,h,_,_=>by simp_all|a::l,[],h,_,_=>by simp_all|a::l,b::m,h,d,c=>by
  have e:a=b:=by grind[List.pairwise_cons,List.mem_cons_self]
  subst e;rw[znL hanti ((List.perm_cons a).1 h) (uS.1 d).2 (uS.1 c).2]
def ones (K:Nat):List<|List Int:=(xn K).map λ(i:Nat)=>[(i:Int)]
theorem zrl (K):(∀l∈ones K,l.length=1)/\(ones K).Pairwise λx y=>lexP x y<0:=by
 unfold ones;refine⟨λl b=>?_,?_⟩;·grind
 ·rw[List.pairwise_map];refine List.pairwise_lt_range.imp λ{i j}a=>?_;simp only[lexP];simp_all
def cycP (E:Nat->Nat->Bool)(K:Nat):List<|List Int:=(xn K).flatMap λr=>(lev E K r<|ones K).filter<|zef E
theorem zcZ {α β:Type}{f:α->List β}{B}:∀{l:List α},(∀x∈l,(f x).length<=B)->(l.flatMap f).length<=l.length*B
 |[],_=>by simp|x::l,h=>by
  have b:=zcZ (l:=l) λy a=>h y<|by simp[a]
  grind[Nat.succ_mul]
theorem zoz {E}{K}(hK:K<=6)(l):(ext E K l).length<=6:=by
 have:=zcZ (f:=ext1 E l) (B:=1) (l:=xn<|K-(fstN l+1)) λi _=>by grind[ext1]
 unfold ext;grind
theorem zmr {E}{K}(hK:K<=6):∀(d)(l),(dfs E K d l).length<=7^d
 |0,_=>by simp[dfs]|d+1,l=>by
  have a:=zoz (E:=E) hK l;have c:=zcZ (f:=dfs E K d) (B:=7^d) (l:=ext E K l) λx _=>zmr hK d x;have b:(ext E K l).length*7^d<=6*7^d:=yH _ a;simp only[dfs];grind
structure zvW (K:Nat)(l:List Int):Prop where
 nd:l.Nodup
 pos:1<=l.length
 mem:∀x∈l,0<=x/\x<(K:Int)
theorem zvW.len {K l}(h:zvW K l):l.length<=K:=ziq h.nd h.mem
theorem zvW.snoc {K l}(h:zvW K l){b}(hb:b<K)(hm:(b:Int)∉l):zvW K<|l++[(b:Int)]:=by
 refine⟨?_,by simp,λx c=>?_⟩;·rw[uU];exact⟨h.nd,by simp,λa f g d e=>by grind⟩
 ·rcases yu.1 c with c|c;·exact h.mem x c
  grind
theorem zvW.fst {K l}(h:zvW K l):idx l 0=O ((fstN l:Nat):Int)/\fstN l<K:=by cases l with
 |nil=>have:=h.pos;grind|cons x t=>
  have:=h.mem x (by simp);have e:fstN (x::t)=x.toNat:=rfl;have:idx (x::t) 0=O x:=rfl;grind
theorem zvW.lst {K l}(h:zvW K l)(h6:K<=6):idx l (zuY (l.length:Int) 1)=O ((lstN l:Nat):Int)/\lstN l<K:=by
 have d:=h.pos;have c:=h.len;have a:l.length-1<l.length:=by omega
 have e:=h.mem _<|yg a;have b:lstN l=l[l.length-1].toNat:=by grind[lstN]
 rw[ze9 (by omega)<|by omega,zb a,b];grind
theorem zsI {n}{g}{K}(hg:zwe g K)(hn:1000000<=n):∀(d k)(l)(out),zvW K l->K-l.length=d->d<k->out.length<=1000000-7^(d+1)->d<=5->zF n g k l out=O (out++dfs (hasP g) K (d+1) l):=by
 intro d;induction d using Nat.strongRecOn with|ind d ih=>
  intro k l out hp hd hk ho hd5;obtain⟨k,rfl⟩:∃k',k=k'+1:=⟨k-1,by omega⟩;have hK:=hg.le;have hl1:=hp.pos;have hl2:=hp.len;have hp7:7<=7^(d+1):=Nat.le_self_pow (by omega) 7;obtain⟨e2,hfK⟩:=hp.fst;obtain⟨e1,hlK⟩:=hp.lst hK;have h7:7^(d+1)=7*7^d:=by grind
  have hone:1<=7^d:=Nat.one_le_pow _ _ (by omega);have h77:7^(d+1)<=117649:=by
   have:7^(d+1)<=7^6:=uq (by omega)<|by omega
   grind
  simp only[zF,e1,e2,ya,zlM hg hlK hfK];have loop:∀out1:List<|List Int,out1.length<=out.length+1->zuR (zF.l1 n g (zF n g k) l ((lstN l:Nat):Int)) n (zuN ((fstN l:Nat):Int) 1,out1)=O (out1++(ext (hasP g) K l).flatMap (dfs (hasP g) K d)):=by
   intro out1 ho1;rw[ze<|by omega];have:=zcw (body:=zF.l1 n g (zF n g k) l ((lstN l:Nat):Int)) (k:=K-(fstN l+1)) (n:=n) (st:=λ(o:List<|List Int)i=>(((fstN l+1+i:Nat):Int),o)) (λi=>(ext1 (hasP g) l i).flatMap<|dfs (hasP g) K d) O (7^d) out1 (λi hi=>?_) (λrec o i hi hI=>?_) (λrec o hI=>?_)<|by omega
   ·simp only[uv]at this;rw[this];unfold ext;rw[List.flatMap_assoc]
   ·have h1:=zcZ (f:=dfs (hasP g) K d) (B:=7^d) (l:=ext1 (hasP g) l i) λx _=>zmr hK d x;have h2:(ext1 (hasP g) l i).length<=1:=by unfold ext1;split<;>simp
    have h3:(ext1 (hasP g) l i).length*7^d<=1*7^d:=yH _ h2;omega
   ·have hb:fstN l+1+i<K:=by omega
    have hlt:Z (((fstN l+1+i:Nat):Int)<g.size)=true:=by rw[hg.size];simp;omega
    have hnx:zuN ((fstN l+1+i:Nat):Int) 1=((fstN l+1+(i+1):Nat):Int):=by rw[ze<|by omega];rfl
    simp only[zF.l1,hlt,if_true,zlM hg hlK hb,ya,hnx];unfold ext1;by_cases hh:hasP g (lstN l) (fstN l+1+i)=U
    ·rw[if_pos hh,zer (by omega) hn,ya];by_cases hm:((fstN l+1+i:Nat):Int)∈l;·rw[if_pos<|by simpa using hm,if_neg<|by simp only[hm,decide_true,uf,Bool.and_false];simp];simp
     ·rw[if_neg<|by simpa using hm,zl<|by simp;omega,ya,yN,zl<|by simp;omega,ya,if_pos<|by simp only[hh,hm,decide_false,ur,uQ]];have hp2:=hp.snoc hb hm;have hlen:=hp2.len;simp only[yT,yW,ul]at hlen;have hd1:1<=d:=by omega
      have h6:i*7^d<=5*7^d:=yH _ (by omega);have:=ih (d-1) (by omega) k (l++[((fstN l+1+i:Nat):Int)]) o hp2 (by simp;omega) (by omega) (by rw[show d-1+1=d by omega];omega) (by omega);rw[show d-1+1=d by omega]at this;rw[this,ya];simp
    ·rw[if_neg hh,if_neg<|by simp only[yR]at hh;simp[hh]];simp
   ·have hge:Z (((fstN l+1+(K-(fstN l+1)):Nat):Int)<g.size)=false:=by rw[hg.size];simp;omega
    simp only[zF.l1,hge,ye,if_false]
  have hcl:zef (hasP g) l=hasP g (lstN l) (fstN l):=rfl;simp only[dfs,hcl];by_cases hh:hasP g (lstN l) (fstN l)=U;·rw[if_pos hh,if_pos hh,zl<|by simp;omega,ya,yN,zl<|by simp;omega,ya,loop _<|by simp,yM]
  grind
theorem zqP {n g K}(hg:zwe g K)(hn:1000000<=n):zuR (zvj.l1 n g) n (0,[])=O ((ones K).flatMap<|dfs (hasP g) K K):=by
 have e:=hg.le;have c:7^K<=117649:=by
  have:7^K<=7^6:=uq (by omega)<|by omega
  grind
 have:=zcw (body:=zvj.l1 n g) (k:=K) (n:=n) (st:=λo i=>(i,o)) (λi=>dfs (hasP g) K K [i]) O 117649 [] (λi d=>yI (zmr e K _) c) (λb o i d f=>?_) (λb o f=>?_)<|by omega
 ·grind[ones,u0]
 ·have h:Z (i<g.size)=true:=by rw[hg.size];grind
  have j:=zsI hg hn (K-1) n [i] o ⟨by simp,by simp,by grind⟩ (by simp) (by omega) (by grind) (by omega);simp only[zvj.l1];grind[ze]
 ·have a:Z (K<g.size)=false:=by rw[hg.size];simp
  simp only[zvj.l1,a,ye,if_false]
theorem zrf {E K}:∀(d){l x},zvW K l->x∈dfs E K d l->zvW K x
 |0,_,_,_,h=>by grind[dfs]|d+1,l,x,b,h=>by
  simp only[dfs,yu,ud]at h;rcases h with h|⟨y,c,e⟩;·grind
  ·obtain⟨i,f,-,a,rfl⟩:=zja E K c;exact zrf d (b.snoc (by omega) a) e
theorem zmS {K i}(hi:i<K):zvW K [(i:Int)]:=⟨by simp,by simp,by grind⟩
theorem ziY {n}{zu9}{K:Nat}(h1:1<=K)(h6:K<=6)(hl:zu9.length=K*K)(hn:1000000<=n):zbD n (K:Int) zu9=O (cycP (hasP ⟨(K:Int),zu9⟩) K):=by
 have hg:zwe ⟨(K:Int),zu9⟩ K:=⟨rfl,h6,hl⟩;have h4:K*K<=36:=yZ h6 h6;have e:zuZ (K:Int) (K:Int)=((K*K:Nat):Int):=by grind[zuZ,z9,Int.natCast_mul]
 have hopen:zcb n (K:Int) zu9=O (⟨(K:Int),zu9⟩,U):=by
  unfold zcb;rw[e,hl];grind
 have hd:7^K<=117649:=by
  have:7^K<=7^6:=uq (by omega)<|by omega
  grind
 unfold zbD;rw[hopen,ya,if_neg<|by simp,zqP hg hn,ya];have hmem:∀x∈(ones K).flatMap<|dfs (hasP ⟨(K:Int),zu9⟩) K K,zvW K x:=λx hx=>by obtain⟨l,hl,hx⟩:=ud.1 hx;obtain⟨i,hi,rfl⟩:=y7.1 hl;exact zrf K (zmS<|yU.1 hi) hx
 have hlen:((ones K).flatMap<|dfs (hasP ⟨(K:Int),zu9⟩) K K).length<=6*117649:=by
  have:=zcZ (f:=dfs (hasP ⟨(K:Int),zu9⟩) K K) (B:=117649) (l:=ones K) λx _=>yI (zmr h6 K x) hd;grind[ones,Nat.le_trans,Nat.mul_le_mul_right]
 obtain⟨s1,s2⟩:=zpJ (f:=zcu n) (c:=cmpC) (l:=(ones K).flatMap<|dfs (hasP ⟨(K:Int),zu9⟩) K K) (λx hx y _=>ziU (by have:=(hmem x hx).len;omega) hn) (λx=>by grind[zf2]) (λ_ _ _=>ziT) (λ_ _ _=>zkq) (by omega);rw[s1];refine congrArg O ?_;have hp:=zjg s2;have hs:=zn9 s2;refine znL (R:=λx y=>¬cmpC y x<0) (λa b h1 h2=>?_) (hp.trans<|zo0 _ K K<|ones K) ?_ ?_;·grind[zf2,zkr]
 ·refine wS (λ{a b}ha hb hab=>?_) hs;have ha':=hmem a<|hp.mem_iff.1 ha;have hb':=hmem b<|hp.mem_iff.1 hb;rw[ziU (by have:=hb'.len;omega) hn]at hab;exact hab
 ·refine(zud _ K K 1 (ones K) (zrl K).1 (zrl K).2).imp λ{a b}h=>?_;have:=zf2 a b;omega
theorem zqe {γ δ S R:Type}{body}{k n}{st:List γ->List δ->Nat->S}(g)(h)(fin:List γ->List δ->Option R)(B)(b0)(c0)(hB:∀i,i<k->(g i).length<=B)(hC:∀i,i<k->(h i).length<=B)(step:∀rec(b)(c)i,i<k->b.length<=b0.length+i*B->c.length<=c0.length+i*B->body rec (st b c i)=rec (st (b++g i) (c++h i)<|i+1))(done:∀rec(b)(c),b.length<=b0.length+k*B->c.length<=c0.length+k*B->body rec (st b c k)=fin b c)(hn:k<n):zuR body n (st b0 c0 0)=fin (b0++(xn k).flatMap g) (c0++(xn k).flatMap h):=by
 have:=zbf (σ:=List γ×List δ) (body:=body) (len:=k) (st:=λs i=>st s.1 s.2 i) (g:=λi s=>fin (s.1++(wt i<|k-i).flatMap g)<|s.2++(wt i<|k-i).flatMap h) (λi s=>s.1.length<=b0.length+i*B/\s.2.length<=c0.length+i*B) (λrec i s e a d=>?_) (λrec s a=>?_) n 0 (b0,c0) (ym _) (by omega)<|by simp
 ·grind[List.range_eq_range']
 ·rw[step rec s.1 s.2 i e a.1 a.2,d (s.1++g i,s.2++h i) ⟨by grind,by grind⟩];have:wt i (k-i)=i::wt (i+1) (k-(i+1)):=by rw[show k-i=k-(i+1)+1 by omega,List.range'_succ]
  grind
 grind
theorem zjI {n l v}(hl:l.length<1000000)(hn:1000000<=n):zdQ n l v=O (Z<|v∈l):=by
 unfold zdQ;have:=zao (body:=zdQ.l1 n l v) (l:=l) (n:=n) (st:=λi=>i) (λx=>! x==v) (O U) (O M) (λa i b=>?_) (λa=>?_)<|by omega
 ·grind
 ·simp only[zdQ.l1,zb b];grind[ze]
 ·simp only[zdQ.l1,zat,ye,if_false]
theorem zmV {n l v}(hl:l.length<1000000)(hn:1000000<=n):zdz n l v=O (l++[v]):=by
 unfold zdz;have:=zel (body:=zdz.l1 n l v) (l:=l) (n:=n) (st:=λb i=>(b,i)) (λx=>x) (λb=>O<|b++[v]) [] (λa b i d c=>?_) (λa b c=>?_)<|by omega
 ·simp_all
 ·simp only[zdz.l1,zb d];grind[zl,ze]
 ·simp only[zdz.l1];grind[zl]
theorem zo2 {zu9}{K a b:Nat}(hg:zwe ⟨(K:Int),zu9⟩ K)(ha:a<K)(hb:b<K):idx zu9 (zuN (zuZ (a:Int) (K:Int)) (b:Int))=O (hasP ⟨(K:Int),zu9⟩ a b):=by
 have:=zlM (n:=0) hg ha hb;grind[za2]
theorem zg3 {E K}:∀(r){ls},(∀l∈ls,zvW K l)->∀l∈lev E K r ls,zvW K l|0,_,h=>h|r+1,ls,h=>zg3 r λx a=>by obtain⟨l,c,a⟩:=ud.1 a;obtain⟨i,d,-,b,rfl⟩:=zja E K a;exact(h l c).snoc (by omega) b
theorem zra {E K}(h6:K<=6):∀(r)(ls),(lev E K r ls).length<=ls.length*7^r
 |0,ls=>by simp[lev]|r+1,ls=>by
  have b:=zra (E:=E) h6 r<|ls.flatMap<|ext E K;have c:=zcZ (f:=ext E K) (B:=6) (l:=ls) λx _=>zoz h6 x;have a:(ls.flatMap<|ext E K).length*7^r<=ls.length*7*7^r:=yH _ (by omega);rw[Nat.pow_succ,Nat.mul_comm (7^r) 7,<-Nat.mul_assoc];exact yI b a
theorem zgM {K}:∀l∈ones K,zvW K l:=λl a=>by
 obtain⟨i,b,rfl⟩:=y7.1 a;grind[zmS]
theorem znr {α:Type}(p)(l:List α)(d):(xn l.length).flatMap (λi=>if p (l.getD i d)=U then[l.getD i d]else[])=l.filter p:=by
 rw[<-zi2 p l];have e:l=(xn l.length).map λi=>l.getD i d:=by
  refine uO (by simp) λi b a=>?_;grind
 grind[u0]
theorem zi3 {α β:Type}(f:α->List β)(l:List α)(d):(xn l.length).flatMap (λi=>f<|l.getD i d)=l.flatMap f:=by
 have e:l=(xn l.length).map λi=>l.getD i d:=by
  refine uO (by simp) λi b a=>?_;grind
 grind[u0]
theorem zoK {n}{zu9}{K}(h6:K<=6)(hl:zu9.length=K*K)(hn:1000000<=n){ls out}{r}{rec}(hp:∀l∈ls,zvW K l)(hlen:ls.length<=800000)(ho:out.length<=100000000):zuR (zL.l3 n (K:Int) zu9 ls r rec) n (out,([]:List<|List Int),0)=rec (out++ls.filter (zef<|hasP ⟨(K:Int),zu9⟩),ls.flatMap<|ext (hasP ⟨(K:Int),zu9⟩) K,zuN r 1):=by
 have hg:zwe ⟨(K:Int),zu9⟩ K:=⟨rfl,h6,hl⟩;have:=zqe (body:=zL.l3 n (K:Int) zu9 ls r rec) (k:=ls.length) (n:=n) (st:=λb c i=>(b,c,(i:Int))) (λi=>if zef (hasP ⟨(K:Int),zu9⟩) (ls.getD i [])=U then[ls.getD i []]else[]) (λi=>ext (hasP ⟨(K:Int),zu9⟩) K<|ls.getD i []) (λb c=>rec (b,c,zuN r 1)) 6 out [] (λi _=>by grind) (λi _=>zoz h6 _) (λrec2 b c i hi hb hc=>?_) (λrec2 b c hb hc=>?_)<|by omega
 ·rw[znr,zi3]at this;grind
 ·have e:ls.getD i []=ls[i]:=by grind
  have hpl:=hp _<|yg hi;obtain⟨e2,hfK⟩:=hpl.fst;obtain⟨e1,hlK⟩:=hpl.lst h6;have hlK6:=hpl.len;rw[e];have inner:∀b1:List<|List Int,zuR (zL.l4 n (K:Int) zu9 ls (i:Int) rec2 ((lstN ls[i]:Nat):Int) b1) n (c,zuN ((fstN ls[i]:Nat):Int) 1)=rec2 (b1,c++ext (hasP ⟨(K:Int),zu9⟩) K ls[i],((i+1:Nat):Int)):=by
   intro b1;rw[ze<|by omega];have:=zcw (body:=zL.l4 n (K:Int) zu9 ls (i:Int) rec2 ((lstN ls[i]:Nat):Int) b1) (k:=K-(fstN ls[i]+1)) (n:=n) (st:=λ(o:List<|List Int)j=>(o,((fstN ls[i]+1+j:Nat):Int))) (λj=>ext1 (hasP ⟨(K:Int),zu9⟩) ls[i] j) (λo=>rec2 (b1,o,zuN (i:Int) 1)) 1 c (λj _=>by unfold ext1;split<;>simp) (λrec3 o j hj hI=>?_) (λrec3 o hI=>?_)<|by omega
   ·simp only[uv]at this;rw[this,ze (i:=i)<|by omega];rfl
   ·have hb:fstN ls[i]+1+j<K:=by omega
    have hlt:Z (((fstN ls[i]+1+j:Nat):Int)<(K:Int))=true:=by simp;omega
    have hnx:zuN ((fstN ls[i]+1+j:Nat):Int) 1=((fstN ls[i]+1+(j+1):Nat):Int):=by rw[ze<|by omega];rfl
    simp only[zL.l4,hlt,if_true,jn,zo2 hg hlK hb,zb hi,ya,yp,yj,zjI (show ls[i].length<1000000 by omega) hn,zmV (show ls[i].length<1000000 by omega) hn,yw,grd,hnx];unfold ext1;split;·rw[zl<|by simp at hI hc;simp;omega,ya]
    ·simp
   ·have hge:Z (((fstN ls[i]+1+(K-(fstN ls[i]+1)):Nat):Int)<(K:Int))=false:=by simp;omega
    simp only[zL.l4,hge,ye,if_false]
  have hcl:zef (hasP ⟨(K:Int),zu9⟩) ls[i]=hasP ⟨(K:Int),zu9⟩ (lstN ls[i]) (fstN ls[i]):=rfl;simp only[zL.l3,zB hi,if_true,jn,zb hi,ya,e1,e2,zo2 hg hlK hfK,hcl];grind[zl]
 ·simp only[zL.l3,zat,ye,if_false]
theorem zkX {n}{zu9}{K:Nat}(h1:1<=K)(h6:K<=6)(hl:zu9.length=K*K)(hn:1000000<=n):zL n (K:Int) zu9=O (cycP (hasP ⟨(K:Int),zu9⟩) K):=by
 have h4:K*K<=36:=yZ h6 h6;have e:zuZ (K:Int) (K:Int)=((K*K:Nat):Int):=by grind[zuZ,z9,Int.natCast_mul]
 have hv:zhT n (K:Int) zu9=O true:=by
  unfold zhT;rw[e,hl];grind
 unfold zL;rw[hv,ya,if_neg<|by simp];have hones:(ones K).length=K:=by simp[ones]
 have rounds:zuR (zL.l2 n (K:Int) zu9) n (([]:List<|List Int),ones K,0)=O (cycP (hasP ⟨(K:Int),zu9⟩) K):=by
  have:=zbf (σ:=List (List Int)×List (List Int)) (body:=zL.l2 n (K:Int) zu9) (len:=K) (st:=λs i=>(s.1,s.2,(i:Int))) (g:=λ_ _=>O<|cycP (hasP ⟨(K:Int),zu9⟩) K) (λi s=>s.1=(xn i).flatMap (λr=>(lev (hasP ⟨(K:Int),zu9⟩) K r<|ones K).filter<|zef<|hasP ⟨(K:Int),zu9⟩)/\s.2=lev (hasP ⟨(K:Int),zu9⟩) K i (ones K)/\s.1.length<=i*800000) (λrec i s hi hI hr=>?_) (λrec s hI=>?_) n 0 ([],ones K) (ym _) (by omega) ⟨rfl,rfl,by simp⟩;·exact this
  ·obtain⟨s1,s2⟩:=s;obtain⟨i1,i2,i3⟩:=hI;simp only at i1 i2 i3;have hlen:s2.length<=800000:=by have:=zra (E:=hasP ⟨(K:Int),zu9⟩) h6 i<|ones K;rw[hones]at this;have h7:7^i<=7^5:=uq (by omega) (by omega);have h8:K*7^i<=6*7^5:=yZ h6 h7;rw[i2];simp only[Nat.reducePow,Nat.reduceMul]at h8;omega
   have hpath:∀l∈s2,zvW K l:=by rw[i2];exact zg3 i zgM
   simp only[zL.l2,zjE hi,if_true];rw[zoK h6 hl hn hpath hlen<|by omega,ze<|by omega];refine hr (_,_) ⟨?_,?_,?_⟩;·simp only;rw[uy,List.flatMap_append,<-i1,i2];simp
   ·rw[zik,<-i2];rfl
   ·simp only[yT];have:=List.length_filter_le (zef<|hasP ⟨(K:Int),zu9⟩) s2;rw[uz];omega
  ·obtain⟨s1,s2⟩:=s;obtain⟨i1,-,-⟩:=hI;simp only at i1;simp only[zL.l2,zhl<|yk K,ye,if_false];rw[i1];rfl
 have:=zcw (body:=zL.l1 n (K:Int) zu9) (k:=K) (n:=n) (st:=λ(b:List<|List Int)i=>(b,(i:Int))) (λi=>[[(i:Int)]]) (λb=>zuR (zL.l2 n (K:Int) zu9) n (([]:List<|List Int),b,0)) 1 [] (λi _=>by simp) (λrec b i hi hb=>?_) (λrec b hb=>?_)<|by omega
 ·have eo:(xn K).flatMap (λi:Nat=>[[(i:Int)]])=ones K:=by unfold ones;rw[List.map_eq_flatMap]
  rw[eo,yN,rounds]at this;exact this
 ·simp only[zL.l1,zjE hi,if_true];rw[zl<|by simp at hb;simp;omega,ya,ze<|by omega]
 ·simp only[zL.l1,zhl<|yk K,ye,if_false]
theorem zhC (a b c):zuN (zuN a b) c=zuN a (zuN b c):=by grind[zuN,w64,IntKind.wrap_i64]
theorem zrd (x y):zuN (zuN (-1) x) y=zuY (zuN x y) 1:=by grind[zuN,zuY,w64,IntKind.wrap_i64]
structure zv0 (a:Action):Prop where
 add:∀c,addP c a.effect.delta 0=zA a.effect.delta c
 len:a.effect.delta.length<=20
theorem zv0.Add {n a}(h:zv0 a)(hn:1000000<=n)(c):za4 n a.effect c=O (zA a.effect.delta c):=by have:=h.len;rw[zep c (by omega)<|by omega,h.add]
theorem zv0.added {n a}(h:zv0 a)(hn:1000000<=n)(c):zT n a c=O (zA a.effect.delta c):=by
 have:=h.len;grind[zap]
theorem znE {S R}{body}{k n}{st:List Row->Bool->Bool->Nat->S}(Rr)(p q)(fin:List Row->Bool->Bool->Option R)(step:∀rec rows x y i,i<k->rows.length<=i->body rec (st rows x y i)=rec (st (rows++[Rr i]) (x||p i) (y||q i)<|i+1))(done:∀rec rows x y,rows.length<=k->body rec (st rows x y k)=fin rows x y)(hn:k<n):zuR body n (st [] M M 0)=fin ((xn k).map Rr) ((xn k).any p) ((xn k).any q):=by
 have:=zbf (σ:=List Row×Bool×Bool) (body:=body) (len:=k) (st:=λs i=>st s.1 s.2.1 s.2.2 i) (g:=λ_ _=>fin ((xn k).map Rr) ((xn k).any p)<|(xn k).any q) (λi s=>s=((xn i).map Rr,(xn i).any p,(xn i).any q)) (λrec i s c a b=>?_) (λrec s a=>?_) n 0 ([],M,M) (ym _) (by omega) rfl;·grind
 ·subst a;rw[step rec _ _ _ i c<|by simp];refine b (_,_,_) ?_;simp only[uy,List.any_append,List.any_cons];grind
 grind
def zcU (c:Constraint)(cyc:List Int)(i:Nat):Int:=zuN c.first<|zuN (zuZ (cyc.getD i 0) c.size)<|cyc.getD ((i+1)%cyc.length) 0
def zi0 (A B:Int->Int)(c:Constraint)(cyc:List Int)(i:Nat):Row:=⟨[⟨zcU c cyc i,-1⟩],zuY (zuN (A<|zcU c cyc i)<|B<|zcU c cyc i) 1⟩
def zdZ (A B:Int->Int)(c:Constraint)(cyc:List Int):List<|List Row:=if((xn cyc.length).any (λi=>Z<|0<A (zcU c cyc i))&&(xn cyc.length).any λi=>Z<|0<B (zcU c cyc i))=U then[(xn cyc.length).map<|zi0 A B c cyc]else[]
def zh5 (A B:Int->Int)(box:List Range)(c:Constraint)(K:Nat):List<|List Row:=(cycP (hasP ⟨(K:Int),(xn<|K*K).map λi:Nat=>Z<|1<=zuN ((idx box<|zuN c.first (i:Int)).getD J).hi (zuN (A<|zuN c.first (i:Int))<|B<|zuN c.first (i:Int))⟩) K).flatMap<|zdZ A B c
theorem zoZ {K cyc}(hp:zvW K cyc)(h6:K<=6){i}(hi:i<cyc.length):∃r:Nat,zv2 (zuN (i:Int) 1) (cyc.length:Int)=O (r:Int)/\r<cyc.length/\r=(i+1)%cyc.length:=by
 have:=hp.len;rw[ze<|by omega];refine⟨(i+1)%cyc.length,?_,wX _<|by omega,rfl⟩;unfold zv2;grind
theorem zqZ {l:List Int}{i}(hi):l.getD i 0=l[i]:=by grind
section
variable{n:Nat}{c:Constraint}{a b:Action}{K:Nat}(ha:zv0 a)(hb:zv0 b)(h6:K<=6)(hn:1000000<=n)
include ha hb h6 hn
theorem zqE {cyc}{b1}{k}(hp:zvW K cyc)(hb1:b1.length<=1000000):zuR (zn.l3 n c a b b1 k cyc) n (([]:List Row),M,M,0)=k (b1++zdZ (zA a.effect.delta) (zA b.effect.delta) c cyc):=by
 have m:=hp.len;have:=znE (body:=zn.l3 n c a b b1 k cyc) (k:=cyc.length) (n:=n) (st:=λd x y i=>(d,x,y,i)) (zi0 (zA a.effect.delta) (zA b.effect.delta) c cyc) (λi=>Z<|0<zA a.effect.delta (zcU c cyc i)) (λi=>Z<|0<zA b.effect.delta (zcU c cyc i)) (λd x y=>if(x&&y)=U then k<|b1++[d]else k b1) (λg d x y i f q=>?_) (λg d x y q=>?_)<|by omega
 ·unfold zdZ;grind
 ·obtain⟨r,j,h,o⟩:=zoZ hp h6 f;have e:zuN c.first (zuN (zuZ cyc[i] c.size) cyc[r])=zcU c cyc i:=by grind[zcU]
  have p:za0 n (zuN (zuZ cyc[i] c.size) cyc[r]) a c b=O (zuN (zA a.effect.delta<|zcU c cyc i)<|zA b.effect.delta<|zcU c cyc i):=by unfold za0;rw[e,ha.added hn,ya,hb.added hn,ya]
  simp only[zn.l3,zB f,zb f,ya,j,zb h,e,ha.added hn,hb.added hn,p,yp,yw];rw[zl<|by grind,ya,ze<|by omega];rfl
 ·simp only[zn.l3];grind[zl]
theorem zqj {cs}{j:Nat}(hj){b1}{k}(hp:zvW K cs[j])(hb1:b1.length<=1000000):zuR (zam.l3 n c a.effect b.effect cs b1 (j:Int) k) n (([]:List Row),M,M,0)=k (b1++zdZ (zA a.effect.delta) (zA b.effect.delta) c cs[j]):=by
 have hlen:=hp.len;have:=znE (body:=zam.l3 n c a.effect b.effect cs b1 (j:Int) k) (k:=cs[j].length) (n:=n) (st:=λrows x y i=>(rows,x,y,(i:Int))) (zi0 (zA a.effect.delta) (zA b.effect.delta) c cs[j]) (λi=>Z<|0<zA a.effect.delta (zcU c cs[j] i)) (λi=>Z<|0<zA b.effect.delta (zcU c cs[j] i)) (λrows x y=>if(x&&y)=U then k<|b1++[rows]else k b1) (λrec rows x y i hi hr=>?_) (λrec rows x y hr=>?_)<|by omega
 ·grind[zdZ]
 ·obtain⟨r,hr1,hr2,hr3⟩:=zoZ hp h6 hi;have hcell:zuN (zuN c.first<|zuZ cs[j][i] c.size) cs[j][r]=zcU c cs[j] i:=by rw[zhC];unfold zcU;rw[zqZ hi,<-hr3,zqZ hr2]
  simp only[zam.l3,zb hj,zB hi,if_true,zb hi,ya,hr1,zb hr2,hcell,ha.Add hn,hb.Add hn,yp,yj,yw,grd,zrd];rw[zl<|by simp;omega,ya,ze<|by omega];rfl
 ·simp only[zam.l3,zb hj,ya,zat,ye,if_false];split;·grind[zl]
  ·rfl
theorem zlI {box}(hs:c.size=(K:Int))(h1:1<=K)(h0:0<=c.first)(hbx:c.first+((K*K:Nat):Int)<=(box.length:Int))(hbl:box.length<=1000):zn n box c a b=O (zh5 (zA a.effect.delta) (zA b.effect.delta) box c K)/\zam n box c a.effect b.effect=O (zh5 (zA a.effect.delta) (zA b.effect.delta) box c K):=by
 have h4:K*K<=36:=yZ h6 h6;have em:zuZ c.size c.size=((K*K:Nat):Int):=by grind[zg4,Int.natCast_mul]
 have hmk:mkl 1 (zuZ c.size c.size) M=O (xy (K*K) M):=by rw[em];unfold mkl;rw[if_pos<|by omega,yr]
 obtain⟨V,hV⟩:∃V:Nat->Bool,V=λi:Nat=>Z<|1<=zuN ((idx box<|zuN c.first (i:Int)).getD J).hi (zuN (zA a.effect.delta<|zuN c.first (i:Int))<|zA b.effect.delta<|zuN c.first (i:Int)):=⟨_,rfl⟩;obtain⟨zu9,hE⟩:∃zu9,zu9=(xn<|K*K).map V:=⟨_,rfl⟩;have hEl:zu9.length=K*K:=by grind
 have hbox:∀i,i<K*K->∃w,idx box (zuN c.first (i:Int))=O w:=λi hi=>zaM (by grind[zcD])<|by grind[zcD]
 have hcyc:zbD n (K:Int) zu9=O (cycP (hasP ⟨(K:Int),zu9⟩) K):=ziY h1 h6 hEl hn;have hrcyc:zL n (K:Int) zu9=O (cycP (hasP ⟨(K:Int),zu9⟩) K):=zkX h1 h6 hEl hn;obtain⟨cyc,hcy⟩:∃cyc,cyc=cycP (hasP ⟨(K:Int),zu9⟩) K:=⟨_,rfl⟩;have hcl:cyc.length<=900000:=by
  obtain⟨r,r1,r2,-⟩:=zly (n:=n) (size:=(K:Int)) (zu9:=zu9) rfl h1 h6 hEl hn;grind
 have hcp:∀l∈cyc,zvW K l:=λl hl=>by
  rw[hcy]at hl;obtain⟨r,-,hl⟩:=ud.1 hl;grind[zg3,zgM]
 have hres:zh5 (zA a.effect.delta) (zA b.effect.delta) box c K=cyc.flatMap (zdZ (zA a.effect.delta) (zA b.effect.delta) c):=by grind[zh5]
 rw[<-hcy]at hcyc hrcyc;rw[hres];have hgl:∀x:List Int,(zdZ (zA a.effect.delta) (zA b.effect.delta) c x).length<=1:=λx=>by grind[zdZ]
 constructor
 ·unfold zn;rw[hmk,ya];have:=zy (body:=zn.l1 n box c a b<|xy (K*K) M) (len:=K*K) (st:=λi=>((xn i).map V++xy (K*K-i) M,(i:Int))) (g:=λ_=>O<|cyc.flatMap<|zdZ (zA a.effect.delta) (zA b.effect.delta) c) (λrec i hi hr=>?_) (λrec=>?_) n 0 (ym _)<|by omega
  ·simpa using this
  ·have hlt:Z ((i:Int)<((xy (K*K) M).length:Int))=true:=by simp;omega
   obtain⟨w,hw⟩:=hbox i hi;have hz:za0 n (i:Int) a c b=O (zuN (zA a.effect.delta<|zuN c.first (i:Int))<|zA b.effect.delta<|zuN c.first (i:Int)):=by unfold za0;rw[ha.added hn,ya,hb.added hn,ya]
   have hvi:V i=Z (1<=zuN w.hi (zuN (zA a.effect.delta<|zuN c.first (i:Int))<|zA b.effect.delta<|zuN c.first (i:Int))):=by rw[hV];simp only[hw,yj]
   have hin:i<((xn i).map V++xy (K*K-i) M).length:=by simp;omega
   have hst:sto ((xn i).map V++xy (K*K-i) M) (i:Int) (V i)=O ((xn<|i+1).map V++xy (K*K-(i+1)) M):=by unfold sto;rw[if_pos ⟨by omega,by omega⟩,yr];congr 1;rw[uJ _ _<|by simp,show K*K-i=K*K-(i+1)+1 by omega,vw];simp[uy]
   simp only[zn.l1,hlt,if_true,hw,ya,hz,zb hin];rw[<-hvi,hst,ya,ze<|by omega];exact hr
  ·have hge:Z (((K*K:Nat):Int)<((xy (K*K) M).length:Int))=false:=by simp
   have e0:(xn<|K*K).map V++xy (K*K-K*K) M=zu9:=by rw[hE];simp
   simp only[zn.l1,hge,ye,if_false,e0];rw[hs,hcyc,ya];have:=zcw (body:=zn.l2 n c a b cyc) (k:=cyc.length) (n:=n) (st:=λ(s:List<|List Row)i=>(s,(i:Int))) (λi=>zdZ (zA a.effect.delta) (zA b.effect.delta) c<|cyc.getD i []) O 1 [] (λi _=>hgl _) (λrec s i hi hI=>?_) (λrec s hI=>?_)<|by omega
   ·rw[zi3]at this;simpa using this
   ·have e:cyc.getD i []=cyc[i]:=by simp[yO,hi]
    rw[e];simp only[zn.l2,zB hi,if_true,jn,zb hi,ya];rw[zqE ha hb h6 hn (hcp _<|yg hi)<|by simp at hI;omega,ze<|by omega]
   ·simp only[zn.l2,zat,ye,if_false]
 ·unfold zam;have:=zcw (body:=zam.l1 n box c a.effect b.effect) (k:=K*K) (n:=n) (st:=λ(s:List Bool)i=>(s,(i:Int))) (λi=>[V i]) (λs=>(zL n c.size s).bind λx59_21=>zuR (zam.l2 n c a.effect b.effect x59_21) n (([]:List<|List Row),0)) 1 [] (λi _=>by simp) (λrec s i hi hI=>?_) (λrec s hI=>?_)<|by omega
  ·have e0:(xn<|K*K).flatMap (λi=>[V i])=zu9:=by rw[hE,List.map_eq_flatMap]
   rw[e0,yN,hs,hrcyc,ya]at this;refine this.trans ?_;have:=zcw (body:=zam.l2 n c a.effect b.effect cyc) (k:=cyc.length) (n:=n) (st:=λ(s:List<|List Row)i=>(s,(i:Int))) (λi=>zdZ (zA a.effect.delta) (zA b.effect.delta) c<|cyc.getD i []) O 1 [] (λi _=>hgl _) (λrec s i hi hI=>?_) (λrec s hI=>?_)<|by omega
   ·rw[zi3]at this;simpa using this
   ·have e:cyc.getD i []=cyc[i]:=by simp[yO,hi]
    rw[e];simp only[zam.l2,zB hi,if_true,jn];rw[zqj ha hb h6 hn hi (hcp _<|yg hi)<|by simp at hI;omega,ze<|by omega]
   ·simp only[zam.l2,zat,ye,if_false]
  ·have hlt:Z ((i:Int)<zuZ c.size c.size)=true:=by rw[em];simp;omega
   obtain⟨w,hw⟩:=hbox i hi;have hvi:V i=Z (1<=zuN (zuN w.hi<|zA a.effect.delta<|zuN c.first (i:Int)) (zA b.effect.delta<|zuN c.first (i:Int))):=by rw[hV,zhC];simp only[hw,yj]
   simp only[zam.l1,hlt,if_true,hw,ya,ha.Add hn,hb.Add hn];rw[<-hvi,zl<|by simp at hI;simp;omega,ya,ze<|by omega]
  ·have hge:Z (((K*K:Nat):Int)<zuZ c.size c.size)=false:=by rw[em];simp
   simp only[zam.l1,hge,ye,if_false]
end
theorem zv0.zyM {n a r x}(h:zv0 a)(ha:zvV a)(hr:r.zuQ.length<=1000)(hx:zJ n a r=O x)(hn:1000000<=n):zbI n a.effect r=O x:=by have:=ha.delta;rw[<-hx,znT (by omega) (by omega) (by omega)<|by omega,zcE (by omega) (by omega) (by omega)<|by omega,zh6 h.add]
theorem zv0.Sum {n a r}(h:zv0 a)(ha:zvV a)(hr:r.zuQ.length<=1000)(hn:1000000<=n):zbI n a.effect r=O (chgN n a r):=h.zyM ha hr (zeL ha hr hn) hn
theorem zn0 {n c e f}(h:∀x,za4 n e x=f x):zbQ n c e=zI n c f:=by
 have:zbQ.l1 n c e=zI.l1 n c f:=by grind[zbQ.l1,zI.l1]
 grind[zbQ,zI]
theorem rgraph0 {n K c}(hc:zwo K c)(hk:c.kind=1)(hn:1000000<=n):zbQ n c ⟨[],[],[]⟩=O (gr n c λq0=>za5 n q0):=by
 rw[zn0 (f:=λq0=>za5 n q0) λx=>?_];·exact(zei hc hk (λx=>⟨_,rfl⟩) hn).1
 ·rw[zep x (by simp)<|by grind];rfl
theorem zzE {n K a c}(sa:zv0 a)(hc:zwo K c)(hk:c.kind=1)(hn:1000000<=n):zbQ n c a.effect=O (gr n c λq0=>zS n q0 a):=by
 rw[zn0 (f:=λq0=>zS n q0 a) λx=>?_];·exact(zei hc hk (λx=>⟨zA a.effect.delta x,by unfold zS;rw[sa.added hn];rfl⟩) hn).1
 ·unfold zS;rw[sa.Add hn,sa.added hn];rfl
theorem rgraph4 {n K a c}(sa:zv0 a)(hc:zwo K c)(hk:c.kind=1)(hn:1000000<=n):zbQ n c a.effect=O (gr n c λq0=>zak n q0 a):=zzE sa hc hk hn
theorem zl5 {n K a c}(sa:zv0 a)(hc:zwo K c)(hk:c.kind=1)(hn:1000000<=n):zbV n a.effect c=O (Z<|0<(((zE n a c).getD []).length:Int)):=by obtain⟨k,b,d⟩:=hc.mul hk;have:=sa.len;rw[zkY b (by omega) (by omega) (by omega) (by omega) sa.add,zds b (by omega) (by omega) (by omega)<|by omega];simp
theorem zoy {n r}(hl:r.zuQ.length<=1000)(hn:1000000<=n):zcS n r=O r:=by
 unfold zcS;have:=zel (body:=zcS.l1 n r) (l:=r.zuQ) (n:=n) (st:=λb i=>(b,i)) (λt=>t) (λb=>O ⟨b,r.bound⟩) [] (λa b i d c=>?_) (λa b c=>?_)<|by omega
 ·simp_all
 ·grind[zcS.l1,zb,zl,ze]
 ·simp[zcS.l1]
theorem zrx {n r B}(hl:r.zuQ.length<=1000)(hn:1000000<=n):zbq n r B=O ⟨r.zuQ.map λt=>⟨t.cell,zvC t.zuW⟩,B⟩:=by
 unfold zbq;have:=zel (body:=zbq.l1 n r B) (l:=r.zuQ) (n:=n) (st:=λb i=>(b,i)) (λt=>⟨t.cell,zvC t.zuW⟩) (λb=>O ⟨b,B⟩) [] (λa b i d c=>?_) (λa b c=>?_)<|by omega
 ·grind
 ·grind[zbq.l1,zb,zl,ze]
 ·simp[zbq.l1]
theorem znU {n l v}(hl:l.length<1000000)(hn:1000000<=n):ziz n l v=O (Z<|v∈l):=by exact zjI hl hn
noncomputable def zyc (n:Nat)(m:Model)(q:Question)(a b:Action)(box:List Range)(R:List Row)(G:List zvg):Option<|System×Int:=jn (λ(v:List Row×List (List Row))=>let b4_154:=v.1;let c1_3_155:=v.2;(zal n (⟨box,b4_154,G,c1_3_155⟩:System)).bind λx311_168=>if(!x311_168)=U then O ((⟨[],[],[],[]⟩:System),8)else O ((⟨box,b4_154,G,c1_3_155⟩:System),0)) λk_156=>if q.target.hold=U then(idx a.effect.hold q.target.index).bind λx243_157=>(zbI n b.effect x243_157).bind λx253_158=>(zbq n x243_157<|zuY (zuN (zvC x243_157.bound) x253_158) 1).bind λx256_159=>(app 32 R [x256_159]).bind λx258_160=>k_156 (x258_160,[])else(idx m.constraints q.target.index).bind λx265_161=>if(x265_161.kind==0)=U then(zbI n a.effect x265_161.row).bind λx281_162=>(zbI n b.effect x265_161.row).bind λx286_163=>(zbq n x265_161.row<|zuY (zuN (zuN (zvC x265_161.row.bound) x281_162) x286_163) 1).bind λx289_164=>(app 32 R [x289_164]).bind λx291_165=>k_156 (x291_165,[])else(zam n box x265_161 a.effect b.effect).bind λx298_166=>if((x298_166.length:Int)==0)=U then(app 32 R [(⟨[],-1⟩:Row)]).bind λx308_167=>k_156 (x308_167,x298_166)else k_156 (R,x298_166)
noncomputable def zjO (n:Nat)(m:Model)(q:Question)(a b:Action)(box:List Range)(R:List Row):Option<|System×Int:=zuR (zw.l3 n m q a b box) n (R,0)
theorem znZ {n K m q a b box R}(ha:zvV a)(hb:zvV b)(hc:∀c∈m.constraints,zwo K c)(sa:zv0 a)(sb:zv0 b)(hl:m.constraints.length<=1000)(hn:1000000<=n):zuR (zw.l5 n m q a b box R) n ([],0)=zyc n m q a b box R ((xn m.constraints.length).flatMap λi=>gS n (q.e !=q.f) a b<|m.constraints.getD i J):=by
 have:=zcw (body:=zw.l5 n m q a b box R) (k:=m.constraints.length) (n:=n) (st:=λb i=>(b,i)) (λi=>gS n (q.e !=q.f) a b<|m.constraints.getD i J) (zyc n m q a b box R) 3 [] (λi o=>?_) (λl s i o t=>?_) (λl s t=>?_)<|by omega
 ·grind
 ·grind[zpb,List.getElem_mem]
 ·have e:m.constraints.getD i J=m.constraints[i]:=by grind
  have d:=hc _<|yg o;simp only[zw.l5,jn,zb o,ya,e,ze (i:=i)<|by omega];unfold gS;by_cases f:(m.constraints[i].kind !=1)=U;·grind
  ·have f:m.constraints[i].kind=1:=by grind
   obtain⟨u,r⟩:=zg7 ha d f hn;obtain⟨j,p⟩:=zg7 hb d f hn;rw[rgraph0 d f hn,zl5 sa d f hn,zl5 sb d f hn,zzE sa d f hn,rgraph4 sb d f hn,r,p];simp only[ya,yj];rw[zl<|by grind,ya,Bool.and_comm (Z<|0<(j.length:Int))<|q.e !=q.f];by_cases h:Z (0<(u.length:Int))=U
   ·rw[if_pos h,if_pos h,zl<|by grind,ya];by_cases g:(q.e !=q.f&&Z (0<(j.length:Int)))=U
    ·rw[if_pos g,if_pos g,zl<|by grind,ya];grind
    grind
   ·rw[if_neg h,if_neg h];by_cases g:(q.e !=q.f&&Z (0<(j.length:Int)))=U;·rw[if_pos g,if_pos g,zl<|by grind,ya];simp_all
    grind
 ·simp only[zw.l5,zat];rfl
theorem zsz {n K m q a b box R}(ha:zvV a)(hb:zvV b)(hc:∀c∈m.constraints,zwo K c)(sa:zv0 a)(sb:zv0 b)(hl:m.constraints.length<=1000)(hR:R.length<=1000)(hn:1000000<=n):zjO n m q a b box R=zyc n m q a b box (R++(a.effect.hold++if(q.e !=q.f)=U then b.effect.hold else[])) ((xn m.constraints.length).flatMap λi=>gS n (q.e !=q.f) a b<|m.constraints.getD i J):=by
 have p:=ha.hold;have s:=hb.hold;have h:∀d,d.length<=2000->zuR (zw.l4 n m q a b box) n (d,0)=zyc n m q a b box (d++if(q.e !=q.f)=U then b.effect.hold else[]) ((xn m.constraints.length).flatMap λi=>gS n (q.e !=q.f) a b<|m.constraints.getD i J):=λd k=>by
  by_cases j:(q.e !=q.f)=U
  ·rw[if_pos j,<-znZ ha hb hc sa sb hl hn];have:=zel (body:=zw.l4 n m q a b box) (l:=b.effect.hold) (n:=n) (st:=λb i=>(b,i)) (λr=>r) (λo=>zuR (zw.l5 n m q a b box o) n ([],0)) d (λf b6 i g e=>?_) (λf b6 e=>?_)<|by omega
   ·simp_all
   ·simp only[zw.l4,zb g,ya,zoy (hb.zuQ _<|yg g) hn];grind[zl,ze]
   ·simp only[zw.l4,zat,uh,ye,if_false]
  ·rw[if_neg j,ue,<-znZ ha hb hc sa sb hl hn,zev<|by omega];simp only[zw.l4,j,Bool.and_false,ye,if_false]
 unfold zjO;have:=zel (body:=zw.l3 n m q a b box) (l:=a.effect.hold) (n:=n) (st:=λb i=>(b,i)) (λr=>r) (λd=>zuR (zw.l4 n m q a b box) n (d,0)) R (λf b6 i g e=>?_) (λf b6 e=>?_)<|by omega
 ·grind[List.map_id']
 ·simp only[zw.l3,zb g,ya,zoy (ha.zuQ _<|yg g) hn];grind[zl,ze]
 ·simp only[zw.l3,zat,ye,if_false]
theorem zsG {n m q a b box}(ha:zvV a)(hb:zvV b)(hc:∀c∈m.constraints,zwo box.length c)(hl:m.constraints.length<=1000)(hbx:box.length<=1000)(sa:zv0 a)(sb:zv0 b)(hh:q.target.hold=U->0<=q.target.index/\q.target.index<(a.effect.hold.length:Int))(hh2:q.target.hold=M->0<=q.target.index/\q.target.index<(m.constraints.length:Int))(hn:1000000<=n):∃(X:List Row)(G:List zvg)(cs:List<|List Row),(X.length<=30/\∀r∈X,r.zuQ.length<=1000)/\(G.length<=3000/\∀g∈G,g.least.length<=36)/\zgo cs/\∀R,R.length<=1000->zxV n m q a b box R=endS n ⟨box,R++X,G,cs⟩ (zas n ⟨box,R++X,G,cs⟩)/\zjO n m q a b box R=endS n ⟨box,R++X,G,cs⟩ (zal n ⟨box,R++X,G,cs⟩):=by
 obtain⟨H,hH⟩:∃H:List Row,H=a.effect.hold++if(q.e !=q.f)=U then b.effect.hold else[]:=⟨_,rfl⟩;have hHl:H.length<=20/\∀r∈H,r.zuQ.length<=1000:=by
  have h1:=ha.hold;have h2:=hb.hold;rw[hH];constructor;·grind
  ·intro r hr;rcases yu.1 hr with hr|hr;·exact ha.zuQ r hr
   ·split at hr;·exact hb.zuQ r hr
    ·simp at hr
 have hstep:∀R:List Row,R.length<=1000->zxV n m q a b box R=zdE n m q a b box (R++H):=λR hR=>by
  have h1:=ha.hold;have h2:=hb.hold;have hloop:zuR (zh.l3 n m q a b box H) n (R,0)=zdE n m q a b box (R++H):=by
   have:=zel (body:=zh.l3 n m q a b box H) (l:=H) (n:=n) (st:=λb i=>(b,(i:Int))) (λr:Row=>r) (zdE n m q a b box) R (λrec b6 i hi hb6=>?_) (λrec b6 hb6=>?_)<|by omega
   ·simpa using this
   ·simp only[zh.l3,zB hi,if_true,zb hi,ya,zrK (hHl.2 _<|yg hi) hn];rw[zl<|by first|omega|(simp;omega),ya,ze<|by omega]
   ·simp only[zh.l3,zat,ye,if_false];rfl
  unfold zxV;simp only[jn];rw[zl<|by first|omega|(simp;omega),ya,yN];by_cases he:(q.e !=q.f)=U;·rw[if_pos he,zl<|by first|omega|(simp;omega),ya,<-hloop,hH,if_pos he]
  ·rw[if_neg he,<-hloop,hH,if_neg he,ue]
 obtain⟨G,hG⟩:∃G,G=(xn m.constraints.length).flatMap λi=>gS n (q.e !=q.f) a b<|m.constraints.getD i J:=⟨_,rfl⟩;have hGl:G.length<=3000/\∀g∈G,g.least.length<=36:=by
  have key:∀k,k<=m.constraints.length->((xn k).flatMap λi=>gS n (q.e !=q.f) a b<|m.constraints.getD i J).length<=3*k/\∀g∈(xn k).flatMap λi=>gS n (q.e !=q.f) a b<|m.constraints.getD i J,g.least.length<=36:=by
   intro k;induction k with|zero=>intro _;simp|succ k ih=>
    intro hk;obtain⟨i1,i2⟩:=ih (by omega);have e:m.constraints.getD k J=m.constraints[k]'(by omega):=by simp[vy,show k<m.constraints.length by omega]
    obtain⟨g1,g2⟩:=zpb (n:=n) (ef:=q.e !=q.f) ha hb (hc _<|yg<|show k<m.constraints.length by omega) hn;rw[zjd,e];constructor;·rw[yT];omega
    ·intro g hg;rcases yu.1 hg with hg|hg;·exact i2 g hg
     ·exact g2 g hg
  rw[hG];obtain⟨k1,k2⟩:=key _<|yk _;exact⟨by omega,k2⟩
 have h0:∀(c:Constraint)(R:List Row),(c.kind==1)=M->finS n box a b R c G=endS n ⟨box,R,G,[]⟩ (zas n ⟨box,R,G,[]⟩):=λc R hk=>by unfold finS;simp only[jn,hk,ye,if_false];rfl
 have c0:zgo []:=⟨by simp,by simp⟩;have rstep:∀R:List Row,R.length<=1000->zjO n m q a b box R=zyc n m q a b box (R++H) G:=λR hR=>by rw[zsz ha hb hc sa sb hl hR hn,hG,hH]
 cases hhold:q.target.hold with
 |true=>
  obtain⟨i1,i2⟩:=hh hhold;obtain⟨r,hr⟩:=zaM i1 i2;have hrl:=ha.zuQ r<|zaA hr;obtain⟨x,hx⟩:=zg0 hb hrl hn;have hsx:=sb.zyM hb hrl hx hn;have hnr:=zeM (n:=n) (r:=r) (f:=λq0=>za1 n q0) (g:=λq0=>zaw n q0 x) (fP:=zvC) (B:=zuY (zuN (zvC r.bound) x) 1) (λ_=>rfl) rfl hrl hn;refine⟨H++[⟨r.zuQ.map λt=>⟨t.cell,zvC t.zuW⟩,zuY (zuN (zvC r.bound) x) 1⟩],G,[],⟨by first|omega|(simp;omega),λs hs=>?_⟩,hGl,c0,λR hR=>?_⟩
  ·rcases yu.1 hs with hs|hs;·exact hHl.2 s hs
   ·simp at hs;subst hs;simpa using hrl
  ·refine⟨?_,?_⟩;rotate_left;·rw[rstep R hR];unfold zyc;simp only[jn,hhold,if_true,hr,ya,hsx,zrx hrl hn];rw[zl<|by first|omega|(simp;omega),ya,yM];rfl
   rw[hstep R hR];unfold zdE;simp only[jn,hhold,if_true,hr,ya,hx,hnr];rw[zl<|by first|omega|(simp;omega),ya];have:=zj5 (q:=q) (a:=a) (b:=b) (box:=box) (R:=R++H++[⟨r.zuQ.map λt=>⟨t.cell,zvC t.zuW⟩,zuY (zuN (zvC r.bound) x) 1⟩]) (c:=⟨0,0,⟨[],0⟩,0,0⟩) ha hb hc hl hn;rw[<-hG]at this;rw[yM]at this|-;exact this.trans<|h0 _ _ rfl|false=>
  obtain⟨i1,i2⟩:=hh2 hhold;obtain⟨c,hcx⟩:=zaM i1 i2;have hco:=hc c<|zaA hcx;have hgl:=λR:List Row=>zj5 (q:=q) (a:=a) (b:=b) (box:=box) (R:=R) (c:=c) ha hb hc hl hn;rw[<-hG]at hgl;rcases hco.kind with hk|hk
  ·obtain⟨x,hx⟩:=zg0 ha hco.len hn;obtain⟨y,hy⟩:=zg0 hb hco.len hn;have hsx:=sa.zyM ha hco.len hx hn;have hsy:=sb.zyM hb hco.len hy hn;have hnr:=zeM (n:=n) (r:=c.row) (f:=λq0=>za1 n q0) (g:=λq0=>zaw n q0<|zuN x y) (fP:=zvC) (B:=zuY (zuN (zvC c.row.bound)<|zuN x y) 1) (λ_=>rfl) rfl hco.len hn;refine⟨H++[⟨c.row.zuQ.map λt=>⟨t.cell,zvC t.zuW⟩,zuY (zuN (zvC c.row.bound)<|zuN x y) 1⟩],G,[],⟨by first|omega|(simp;omega),λs hs=>?_⟩,hGl,c0,λR hR=>?_⟩
   ·rcases yu.1 hs with hs|hs;·exact hHl.2 s hs
    ·simp at hs;subst hs;simpa using hco.len
   ·have hk':(c.kind==0)=true:=by simp[hk]
    refine⟨?_,?_⟩;rotate_left;·rw[rstep R hR];unfold zyc;simp only[jn,hhold,ye,if_false,hcx,ya,hk',if_true,hsx,hsy,zrx hco.len hn,zhC];rw[zl<|by first|omega|(simp;omega),ya,yM];rfl
    rw[hstep R hR];unfold zdE;simp only[jn,hhold,ye,if_false,hcx,ya,hk',if_true,hx,hy,hnr];rw[zl<|by first|omega|(simp;omega),ya,yM];exact(hgl _).trans<|h0 _ _<|by simp[hk]
  ·obtain⟨s,s1,s2,s3,s4,s5⟩:=hco.sz hk;obtain⟨cs,hcs,hcsO⟩:=znn (n:=n) (box:=box) (e:=a) (f:=b) s1 s2 s3 s4 s5 hbx ha.delta hb.delta hn;have hrc:zam n box c a.effect b.effect=O cs:=by have:=zlI (n:=n) (c:=c) sa sb s3 hn (box:=box) s1 s2 s4 s5 hbx;rw[this.2,<-this.1,hcs]
   have hk0:(c.kind==0)=false:=by simp[hk]
   have hk1:(c.kind==1)=true:=by simp[hk]
   by_cases he:((cs.length:Int)==0)=U
   ·refine⟨H++[⟨[],-1⟩],G,cs,⟨by first|omega|(simp;omega),λs hs=>?_⟩,hGl,hcsO,λR hR=>?_⟩
    ·rcases yu.1 hs with hs|hs;·exact hHl.2 s hs
     ·simp at hs;subst hs;simp
    ·refine⟨?_,?_⟩;rotate_left;·rw[rstep R hR];unfold zyc;simp only[jn,hhold,ye,if_false,hcx,ya,hk0,hrc,he,if_true];rw[zl<|by first|omega|(simp;omega),ya,yM];rfl
     rw[hstep R hR];unfold zdE;simp only[jn,hhold,ye,if_false,hcx,ya,hk0];refine(hgl _).trans ?_;unfold finS;simp only[jn,hk1,if_true,hcs,ya,he];rw[zl<|by first|omega|(simp;omega),ya,yM];rfl
   ·refine⟨H,G,cs,⟨by omega,hHl.2⟩,hGl,hcsO,λR hR=>?_⟩;refine⟨?_,?_⟩;rotate_left;·rw[rstep R hR];unfold zyc;simp only[jn,hhold,ye,if_false,hcx,ya,hk0,hrc];rw[if_neg he];rfl
    rw[hstep R hR];unfold zdE;simp only[jn,hhold,ye,if_false,hcx,ya,hk0];refine(hgl _).trans ?_;unfold finS;simp only[jn,hk1,if_true,hcs,ya];rw[if_neg he];rfl
theorem zql {n m q rows a b box}(ha:zvV a)(hb:zvV b)(hc:∀c∈m.constraints,zwo box.length c)(sa:zv0 a)(sb:zv0 b)(hl:m.constraints.length<=1000)(hr:rows.length<=1000)(hn:1000000<=n):zuR (zw.l2 n m q rows a b box) n ([],0)=zjO n m q a b box (zwH n m q rows a b):=by
 have:=zcw (body:=zw.l2 n m q rows a b box) (k:=m.constraints.length) (n:=n) (st:=λb i=>(b,i)) (λi=>rowS n q rows a b i<|m.constraints.getD i J) (zjO n m q a b box) 1 [] (λi f=>?_) (λg b6 i f j=>?_) (λg b6 j=>?_)<|by omega
 ·grind[zwH]
 ·grind[rowS]
 ·have e:m.constraints.getD i J=m.constraints[i]:=by simp_all
  have d:=hc _<|yg f;rw[e];simp only[zw.l2,zB f,if_true,jn,zb f,ya,sa.Sum ha d.len hn,sb.Sum hb d.len hn,znU (show rows.length<1000000 by omega) hn,zoy d.len hn];unfold rowS;by_cases h:(m.constraints[i].kind !=0)=U;·rw[if_pos h,if_pos h,ue,ze<|by omega]
  ·grind[kS,zl,ze]
 ·simp only[zw.l2,zat];rfl
theorem zlm {n m q rows a b}(hF:Fuel n)(hS:zvn m)(hV:zwb m)(hq:zeA m q=U)(ha:idx m.zuP q.e=O a)(hb:idx m.zuP q.f=O b)(hA:zvV a)(hB:zvV b)(hc:∀c∈m.constraints,zwo (boxM m).length c)(sa:zv0 a)(sb:zv0 b)(hr:rows.length<=1000):zw n m q rows=if(rows.all λx=>!badR m x)=U then zjO n m q a b (boxM m)<|zwH n m q rows a b else O (⟨[],[],[],[]⟩,2):=by
 have o:=hF.big;have e:1000000<=n:=by omega
 have k:=hS.constraints;unfold zw;rw[zea o hS,zdA.2 hV,hq,ya,if_neg<|by simp];have:=zao (body:=zw.l1 n m q rows) (l:=rows) (n:=n) (st:=λi=>i) (λx=>!badR m x) (O (⟨[],[],[],[]⟩,2)) (zjO n m q a b (boxM m)<|zwH n m q rows a b) (λd i p=>?_) (λd=>?_)<|by omega
 ·simp_all
 ·simp only[zw.l1,zb p,ya,grd];by_cases g:(Z (rows[i]<0)||decide (m.constraints.length<=rows[i]))=U
  ·have h:badR m rows[i]=true:=by grind[badR]
   simp_all
  ·have f:=g;simp only[yG,yf,not_or,Int.not_le,Int.not_lt]at f;obtain⟨c,j⟩:=zaM f.1 f.2;unfold badR;simp only[g,yj,ze (i:=i)<|by omega];simp_all
 ·simp only[zw.l1,zjJ hS hV.lay e];grind[zql]
theorem zhb {n m}(hn:4294967296<=n)(hS:zvn m)(hV:zwb m){a}(ha:a∈m.zuP):zv0 a:=⟨((zf5 hn hS hV).acts a ha).2.2.1,by have:=(zjp hS ha).delta;omega⟩
section
variable{E:Nat->Nat->Bool}{K:Nat}
theorem zoT {p}:∀{k i},anyR p i k=U↔∃j,i<=j/\j<i+k/\p j=U
 |0,i=>by grind[anyR]|k+1,i=>by
  simp only[anyR,yG,zoT (k:=k) (i:=i+1)];grind
theorem zij:∀(r)(ls),lev E K r ls=ls.flatMap λl=>lev E K r [l]
 |0,ls=>by simp[lev]|r+1,ls=>by
  have e:∀l,lev E K (r+1) [l]=(ext E K l).flatMap λx=>lev E K r [x]:=λl=>by
   have:lev E K (r+1) [l]=lev E K r (ext E K l):=by simp[lev]
   rw[this,zij r]
  simp only[e];rw[lev,zij r,List.flatMap_assoc]
theorem znv {l x}(h:l≠[]):fstN (l++[x])=fstN l:=by cases l with|nil=>simp_all|cons a t=>rfl
theorem zdJ {l}{x:Nat}:lstN (l++[(x:Int)])=x:=by simp[lstN]
theorem zd2 {l x}:x∈ext E K l↔∃j,fstN l+1<=j/\j<K/\E (lstN l) j=U/\(j:Int)∉l/\x=l++[(j:Int)]:=by
 constructor;·grind[zja]
 ·rintro⟨j,b,c,d,a,rfl⟩;refine ud.2 ⟨j-(fstN l+1),yU.2<|by omega,?_⟩;unfold ext1;simp_all
theorem zmQ:∀(d)(path)(first last),path≠[]->fstN path=first->lstN path=last->(neP E K d path first last=U↔∃x∈lev E K d [path],zef E x=U)
 |0,path,first,last,_,b,c=>by subst b c;simp[neP,lev,zef]|d+1,path,first,last,i,b,c=>by
  subst b c;have e:lev E K (d+1) [path]=lev E K d (ext E K path):=by simp[lev]
  rw[e,zij,neP,zoT];simp only[ud];constructor;·rintro⟨j,h,k,a⟩;simp only[yc,yz,uc,yJ,vH]at a;obtain⟨⟨a,f⟩,l⟩:=a;obtain⟨x,m,g⟩:=(zmQ d (path++[(j:Int)]) (fstN path) j (by simp) (znv i) zdJ).1 l;exact⟨x,⟨_,zd2.2 ⟨j,h,by omega,f,a,rfl⟩,m⟩,g⟩
  ·rintro⟨x,⟨y,o,n⟩,g⟩;obtain⟨j,h,k,a,f,rfl⟩:=zd2.1 o;refine⟨j,h,by omega,?_⟩;simp only[yc,yz,uc,yJ,vH];exact⟨⟨f,a⟩,(zmQ d (path++[(j:Int)]) (fstN path) j (by simp) (znv i) zdJ).2 ⟨x,n,g⟩⟩
theorem zf9 {x}:x∈cycP E K↔∃r,r<K/\x∈lev E K r (ones K)/\zef E x=true:=by grind[cycP]
theorem zfG:zwZ E K=U↔∀x,x∉cycP E K:=by
 unfold zwZ;rw[zj1];constructor;·intro h x f;obtain⟨r,p,c,m⟩:=zf9.1 f;rw[zij]at c;obtain⟨l,g,o⟩:=ud.1 c;obtain⟨a,i,rfl⟩:=y7.1 g;have:=zjq.1 (h (r+1) (by omega)<|by omega) a<|yU.1 i;grind[zmQ,fstN,lstN]
 ·intro h b q n;refine zjq.2 λa e=>?_;cases j:neP E K (b-1) [a] a a with
  |false=>rfl|true=>obtain⟨x,k,d⟩:=(zmQ (b-1) [a] a a (by simp) (by simp[fstN])<|by simp[lstN]).1 j;refine absurd (zf9.2 ⟨b-1,by omega,?_,d⟩)<|h x;rw[zij];exact ud.2 ⟨_,y7.2 ⟨a,yU.2 e,rfl⟩,k⟩
def vtx (l:List Int)(i:Nat):Nat:=(l.getD i 0).toNat
def Chn (E:Nat->Nat->Bool)(l:List Int):Prop:=∀j,j+1<l.length->E (vtx l j) (vtx l<|j+1)=U
theorem ziO {l x i}(h:i<l.length):vtx (l++[x]) i=vtx l i:=by grind[vtx]
theorem zog {l}{x:Nat}:vtx (l++[(x:Int)]) l.length=x:=by grind[vtx]
theorem zmN {l}:lstN l=vtx l (l.length-1):=by grind[lstN,vtx]
theorem zsj {l}:fstN l=vtx l 0:=by cases l<;>rfl
theorem Chn.snoc {l}{b:Nat}(h0:l≠[]):Chn E (l++[(b:Int)])↔Chn E l/\E (lstN l) b=true:=by
 have f:=List.length_pos_iff.2 h0;constructor
 ·intro h;refine⟨λj c=>?_,?_⟩
  ·have:=h j<|by grind
   grind[ziO]
  ·have:=h (l.length-1)<|by grind
   grind[ziO,zog,zmN]
 ·rintro⟨a,d⟩j c;by_cases e:j+1<l.length;·rw[ziO<|by omega,ziO<|by omega];exact a j e
  grind[ziO,zog,zmN]
theorem zpl:∀{r}{x},x∈lev E K r (ones K)->x≠[]:=λ{r x}h e=>by have:=(zg3 r zgM x h).pos;simp_all
theorem zq9:∀{r}{x},x∈lev E K r (ones K)->Chn E x|0,x,h=>by obtain⟨a,-,rfl⟩:=y7.1 h;intro j e;grind|r+1,x,h=>by rw[zik]at h;obtain⟨y,b,d⟩:=ud.1 h;obtain⟨j,-,-,c,-,rfl⟩:=zd2.1 d;exact(Chn.snoc<|zpl b).2 ⟨zq9 b,c⟩
theorem zpn {F}:∀{r}{x},x∈lev F K r (ones K)->Chn E x->x∈lev E K r (ones K)|0,x,h,_=>h|r+1,x,h,c=>by rw[zik]at h|-;obtain⟨y,a,d⟩:=ud.1 h;obtain⟨j,e,f,-,g,rfl⟩:=zd2.1 d;obtain⟨i,b⟩:=(Chn.snoc<|zpl a).1 c;exact ud.2 ⟨y,zpn a i,zd2.2 ⟨j,e,f,b,g,rfl⟩⟩
def zx0 (E:Nat->Nat->Bool)(l:List Int):Prop:=∀i,i<l.length->E (vtx l i) (vtx l<|(i+1)%l.length)=U
theorem znp {l}(h0:l≠[]):zx0 E l↔Chn E l/\zef E l=true:=by
 have d:=List.length_pos_iff.2 h0;unfold zef;rw[zmN,zsj];constructor
 ·intro h;refine⟨λj c=>?_,?_⟩
  ·have:=h j<|by omega
   grind[wd]
  ·have:=h (l.length-1)<|by omega
   grind[ti]
 ·rintro⟨a,f⟩i b;by_cases e:i+1<l.length;·rw[wd e];exact a i e
  grind[ti]
theorem zmp {x}(h:x∈cycP E K):zx0 E x:=by grind[zf9,znp,zpl,zq9]
theorem zkt {F x}(h:x∈cycP F K)(hc:zx0 E x):x∈cycP E K:=by obtain⟨r,c,a,-⟩:=zf9.1 h;obtain⟨d,b⟩:=(znp<|zpl a).1 hc;exact zf9.2 ⟨r,c,zpn a d,b⟩
theorem zgw {x}(h:x∈cycP E K):zvW K x:=by grind[zf9,zg3,zgM]
theorem zx0.mono {F x}(hp:zvW K x)(h:∀a b,a<K->b<K->E a b=U->F a b=U)(hc:zx0 E x):zx0 F x:=λi d=>by
 have c:∀j,j<x.length->vtx x j<K:=λj e=>by
  have:=hp.mem x[j]<|yg e;grind[vtx]
 exact h _ _ (c i d) (c _<|wX _<|by omega)<|hc i d
structure Walk (E:Nat->Nat->Bool)(K p:Nat)(f:Nat->Nat):Prop where
 per:∀i,f (i+p)=f i
 lt:∀i,f i<K
 edge:∀i,E (f i) (f<|i+1)=U
theorem argmin (f:Nat->Nat):∀p,0<p->∃t,t<p/\∀j,j<p->f t<=f j
 |0,h=>by omega|1,_=>⟨0,by omega,λj a=>by simp_all⟩|p+2,_=>by
  obtain⟨t,c,b⟩:=argmin f (p+1) (by omega);by_cases h:f t<=f (p+1);·exact⟨t,by omega,λj a=>by grind⟩
  ·exact⟨p+1,by omega,λj a=>by grind⟩
theorem ztJ {f:Nat->Nat}{p}(h:∀i,f (i+p)=f i):∀i,f i=f (i%p):=λi=>by
 have:∀k i,f (i+k*p)=f i:=λk=>by induction k with|zero=>simp_all|succ k ih=>grind
 have e:=this (i/p)<|i%p;grind[Nat.mod_add_div]
theorem zr5 {p:Nat}{f:Nat->Nat}(hp:0<p)(hw:Walk E K p f)(hinj:∀i j,i<p->j<p->f i=f j->i=j):∃t,t<p/\((xn p).map λi=>((f<|t+i:Nat):Int))∈cycP E K:=by
 obtain⟨t,t1,t2⟩:=argmin f p hp;have gmod:=ztJ hw.per;have ginj:∀i j,i<p->j<p->f (t+i)=f (t+j)->i=j:=λi j hi hj e=>by
  rw[gmod<|t+i,gmod<|t+j]at e;have:=hinj _ _ (wX _ hp) (wX _ hp) e;have h1:(t+i)%p=if t+i<p then t+i else t+i-p:=by
   split;·rw[wd ‹_›]
   ·rw[Nat.mod_eq_sub_mod<|by omega,wd<|by omega]
  have h2:(t+j)%p=if t+j<p then t+j else t+j-p:=by
   split;·rw[wd ‹_›]
   ·rw[Nat.mod_eq_sub_mod<|by omega,wd<|by omega]
  rw[h1,h2]at this;split at this<;>split at this<;>omega
 have gmin:∀j,0<j->j<p->f t+1<=f (t+j):=λj h0 hj=>by
  have h1:f t<=f (t+j):=by rw[gmod<|t+j];exact t2 _<|wX _ hp
  have h2:f t≠f (t+j):=λe=>by have:=ginj 0 j (by omega) hj (by simpa using e);omega
  omega
 have hlev:∀r,r<p->((xn<|r+1).map λi=>((f<|t+i:Nat):Int))∈lev E K r (ones K):=λr=>by induction r with
  |zero=>intro _;exact y7.2 ⟨f t,yU.2<|hw.lt t,by simp[uy]⟩|succ r ih2=>
   intro hr;have hy:=ih2 (by omega);rw[zik];refine ud.2 ⟨_,hy,zd2.2 ⟨f<|t+(r+1),?_,hw.lt _,?_,?_,?_⟩⟩
   ·have:fstN ((xn<|r+1).map λi=>((f<|t+i:Nat):Int))=f t:=by rw[uV];simp[fstN]
    rw[this];exact gmin _ (by omega) hr
   ·have:lstN ((xn<|r+1).map λi=>((f<|t+i:Nat):Int))=f (t+r):=by rw[uy,un];exact zdJ
    rw[this];exact hw.edge<|t+r
   ·intro hm;obtain⟨i,i1,i2⟩:=y7.1 hm;have:=ginj i (r+1) (by have:=yU.1 i1;omega) hr (by omega);have:=yU.1 i1;omega
   ·rw[uy (n:=r+1),un];rfl
 have hl:=hlev (p-1) (by omega);rw[show p-1+1=p by omega]at hl;have hpl:=(zg3 (p-1) zgM _ hl).len;simp only[yL,uM]at hpl;refine⟨t,t1,zf9.2 ⟨p-1,by omega,hl,?_⟩⟩;unfold zef;have h1:lstN ((xn p).map λi=>((f<|t+i:Nat):Int))=f (t+(p-1)):=by
  obtain⟨k,rfl⟩:∃k,p=k+1:=⟨p-1,by omega⟩;rw[uy,un];exact zdJ
 have h2:fstN ((xn p).map λi=>((f<|t+i:Nat):Int))=f t:=by
  obtain⟨k,rfl⟩:∃k,p=k+1:=⟨p-1,by omega⟩;rw[uV];simp[fstN]
 rw[h1,h2];have:=hw.edge<|t+(p-1);rwa[show t+(p-1)+1=t+p by omega,hw.per]at this
theorem zsO:∀(p),0<p->∀f,Walk E K p f->∃x,x∈cycP E K:=by
 intro p;induction p using Nat.strongRecOn with|ind p ih=>
  intro u f c;by_cases d:∃i j,i<j/\j<p/\f i=f j
  ·obtain⟨i,j,q,r,t⟩:=d;have b:0<j-i:=by omega
   refine ih (j-i) (by omega) b (λn=>f<|i+n%(j-i)) ⟨λn=>by simp,λn=>c.lt _,λn=>?_⟩;have k:=wX n b;by_cases e:n%(j-i)+1<j-i
   ·have:(n+1)%(j-i)=n%(j-i)+1:=by grind[Nat.add_mod,wd]
    rw[this];exact c.edge _
   ·have l:n%(j-i)+1=j-i:=by omega
    have:(n+1)%(j-i)=0:=by
     by_cases s:j-i=1;·simp_all
     ·rw[Nat.add_mod,wd (a:=1)<|by omega,l,ti]
    have:=c.edge<|i+n%(j-i);grind
  ·have g:∀i j,i<p->j<p->f i=f j->i=j:=λi j m o e=>by
    rcases Nat.lt_trichotomy i j with h|h|h;·simp_all
    ·exact h
    ·exact absurd ⟨j,i,h,m,e.symm⟩ d
   grind[zr5]
def zza (E:Nat->Nat->Bool)(K:Nat)(S:Nat->Prop):Prop:=∀a,a<K->S a->∃b,b<K/\S b/\E b a=U
theorem zlH {S}(hS:zza E K S){s}(hs:s<K)(hs2:S s):∃x,x∈cycP E K:=by
 have hch:∀a:{a:Nat//a<K/\S a},∃b:{a:Nat//a<K/\S a},E b.1 a.1=true:=λa=>by obtain⟨b,b1,b2,b3⟩:=hS a.1 a.2.1 a.2.2;exact⟨⟨b,b1,b2⟩,b3⟩
 let pred:=λa=>Classical.choose<|hch a;have hpred:∀a,E (pred a).1 a.1=true:=λa=>Classical.choose_spec<|hch a;let u:Nat->{a:Nat//a<K/\S a}:=λn=>Nat.rec ⟨s,hs,hs2⟩ (λ_ a=>pred a) n;have hu:∀n,E (u<|n+1).1 (u n).1=true:=λn=>hpred<|u n;have hrep:∃i j,i<j/\j<=K/\(u i).1=(u j).1:=by
  refine xG λhno=>?_;have hnd:((xn<|K+1).map λi=>((u i).1:Int)).Nodup:=by unfold List.Nodup;rw[List.pairwise_map];refine wS (λ{a b}ha hb hab e=>?_) List.pairwise_lt_range;exact hno ⟨a,b,hab,by have:=yU.1 hb;omega,by omega⟩
  have:=ziq (K:=K) hnd λx hx=>by obtain⟨i,-,rfl⟩:=y7.1 hx;have:=(u i).2.1;omega
  simp only[yL,uM]at this;omega
 obtain⟨i,j,h1,h2,h3⟩:=hrep;have hd0:0<j-i:=by omega
 refine zsO (j-i) hd0 (λn=>(u<|j-n%(j-i)).1) ⟨λn=>by simp,λn=>(u _).2.1,λn=>?_⟩;have hlt:=wX n hd0;by_cases e:n%(j-i)+1<j-i
 ·have:(n+1)%(j-i)=n%(j-i)+1:=by rw[Nat.add_mod,wd (a:=1)<|by omega,wd e]
  simp only[this];have:=hu<|j-(n%(j-i)+1);rwa[show j-(n%(j-i)+1)+1=j-n%(j-i)by omega]at this
 ·have e2:n%(j-i)+1=j-i:=by omega
  have:(n+1)%(j-i)=0:=by
   by_cases e1:j-i=1;·rw[e1,Nat.mod_one]
   ·rw[Nat.add_mod,wd (a:=1)<|by omega,e2,ti]
  simp only[this,Nat.sub_zero];rw[<-h3];have:=hu i;rwa[show i+1=j-n%(j-i)by omega]at this
theorem zp4 {x}(h:x∈cycP E K):zza E K (λa=>(a:Int)∈x)/\∃a,a<K/\(a:Int)∈x:=by
 have g:=zgw h;have k:=zmp h;have f:=g.pos;have d:∀j,j<x.length->vtx x j<K/\(vtx x j:Int)∈x/\x[j]?=O (vtx x j:Int):=λj b=>by
  have c:=g.mem x[j]<|yg b;grind[vtx]
 refine⟨λa p c=>?_,vtx x 0,(d 0<|by omega).1,(d 0<|by omega).2.1⟩;obtain⟨i,n,e⟩:=wh c;have b:∃j,j<x.length/\(j+1)%x.length=i:=by
  by_cases o:i=0;·exact⟨x.length-1,by omega,by simp_all⟩
  ·exact⟨i-1,by omega,by grind[wd]⟩
 obtain⟨j,l,m⟩:=b;have:=k j l;grind
end
theorem zjP {α:Type}{l:List α}{i:Nat}{x:α}(h:i<l.length):sto l (i:Int) x=O (l.set i x):=by unfold sto;simp[h]
def Rch (E:Nat->Nat->Bool)(K a t:Nat):Prop:=∀S:Nat->Prop,S a->(∀b c,S b->c<K->E b c=U->S c)->S t
theorem Rch.refl {E K a}:Rch E K a a:=λ_ h _=>h
theorem Rch.step {E K a b c}(h:Rch E K a b)(hc:c<K)(he:E b c=U):Rch E K a c:=λS e d=>d b c (h S e d) hc he
theorem zre {l}{j:Nat}(h:l.length<1000000):idx (l++[(j:Int)]) (zuY ((l++[(j:Int)]).length:Int) 1)=O (j:Int):=by
 have a:(l++[(j:Int)]).length=l.length+1:=by simp
 grind[ze9,zb]
theorem zj3 {s:List Bool}{j}(hj:j<s.length)(h:s.getD j M=M):(s.set j U).count U=s.count U+1:=by grind
theorem zgA {s:List Bool}{j v}(hj:j<s.length):(s.set j U).getD v M=if v=j then U else s.getD v false:=by grind
structure BInv (E:Nat->Nat->Bool)(K a t:Nat)(s:List Bool)(ls:List<|List Int):Prop where
 len:s.length=K
 cnt:ls.length<=s.count U
 pl:∀l∈ls,1<=l.length/\l.length<=s.count U/\idx l (zuY (l.length:Int) 1)=O ((lstN l:Nat):Int)/\lstN l<K/\s.getD (lstN l) M=U
 rch:∀v,v<K->s.getD v M=U->Rch E K a v
 fro:s.getD a M=U
 don:∀v,v<K->s.getD v M=U->(∃l∈ls,lstN l=v)\/v≠t/\∀c,c<K->E v c=U->s.getD c M=U
theorem BInv.mark {E K a t s l r j}(h6:K<=6)(h:BInv E K a t s<|l::r)(hj:j<K)(he:E (lstN l) j=U)(hs:s.getD j M=M):BInv E K a t (s.set j U)<|l::(r++[l++[(j:Int)]]):=by
 have hjl:j<s.length:=by rw[h.len];exact hj
 have hc:=zj3 hjl hs;obtain⟨p1,p2,p3,p4,p5⟩:=h.pl l<|by simp
 have hcl:s.count U<=s.length:=u7;have hlen:=h.len;have hsn:∀v,s.getD v M=U->(s.set j U).getD v M=true:=λv hv=>by grind
 refine⟨by grind,?_,λx hx=>?_,λv hv hv2=>?_,hsn _ h.fro,λv hv hv2=>?_⟩
 ·have:=h.cnt;grind
 ·have hold:∀y∈l::r,1<=y.length/\y.length<=(s.set j U).count U/\idx y (zuY (y.length:Int) 1)=O ((lstN y:Nat):Int)/\lstN y<K/\(s.set j U).getD (lstN y) M=true:=λy hy=>by
   obtain⟨q1,q2,q3,q4,q5⟩:=h.pl y hy;exact⟨q1,by omega,q3,q4,hsn _ q5⟩
  rcases yF.1 hx with rfl|hx;·exact hold _<|by simp
  ·rcases yu.1 hx with hx|hx;·grind
   ·simp only[yK]at hx;subst hx;rw[zre<|by omega,zdJ];exact⟨by simp,by simp;omega,rfl,hj,by rw[zgA hjl];simp⟩
 ·rw[zgA hjl]at hv2;by_cases e:v=j;·subst e;exact(h.rch _ p4 p5).step hj he
  ·rw[if_neg e]at hv2;exact h.rch v hv hv2
 ·rw[zgA hjl]at hv2;by_cases e:v=j;·subst e;exact .inl ⟨l++[(v:Int)],by simp,zdJ⟩
  ·rw[if_neg e]at hv2;rcases h.don v hv hv2 with⟨x,hx,e⟩|⟨q1,q2⟩;·exact .inl ⟨x,by rcases yF.1 hx with rfl|hx<;>simp[*],e⟩
   ·exact .inr ⟨q1,λc hc he=>hsn c<|q2 c hc he⟩
theorem BInv.pop {E K a t s l r}(h:BInv E K a t s<|l::r)(hne:lstN l≠t)(hall:∀c,c<K->E (lstN l) c=U->s.getD c M=U):BInv E K a t s r:=by
 refine⟨h.len,by have:=h.cnt;grind,λx b=>h.pl x<|by simp[b],h.rch,h.fro,λv f d=>?_⟩;rcases h.don v f d with⟨x,b,e⟩|q;·grind
 grind
def BQ (E:Nat->Nat->Bool)(K a t:Nat)(r:Option<|List Int):Prop:=∃l,r=O l/\(l≠[]↔Rch E K a t)
theorem ztI {n}{g}{K a t}(hg:zwe g K)(hn:1000000<=n){l}{rec117}{xd}(hrec:∀s ls m,BInv (hasP g) K a t s ls->K-s.count U+ls.length<xd->BQ (hasP g) K a t (rec117 (s,ls,m)))(hne:lstN l≠t){s r m}(hB:BInv (hasP g) K a t s<|l::r)(hM:K-s.count U+(r.length+1)<=xd):BQ (hasP g) K a t<|zuR (zO.l2 n g rec117 l ((lstN l:Nat):Int)) n (s,l::r,m,0):=by
 have h6:=hg.le;refine zcV (body:=zO.l2 n g rec117 l ((lstN l:Nat):Int)) (λs=>K-s.2.2.2.toNat) (λs=>∃(j:Nat)(r:List<|List Int),s.2.2.2=(j:Int)/\j<=K/\s.2.1=l::r/\BInv (hasP g) K a t s.1 (l::r)/\K-s.1.count U+(r.length+1)<=xd/\∀c,c<j->hasP g (lstN l) c=U->s.1.getD c M=U) (λ_ r=>BQ (hasP g) K a t r) (λrec s hI hr=>?_) n _ ⟨0,r,rfl,ym _,rfl,hB,hM,by simp⟩<|by grind
 obtain⟨s1,s2,s3,s4⟩:=s;obtain⟨j,r,e4,hj,e2,hB,hM,hd⟩:=hI;simp only at e4 e2 hB hM hd;subst e4 e2;obtain⟨p1,p2,p3,p4,p5⟩:=hB.pl l<|by simp
 have hcl:s1.count U<=s1.length:=u7;have hlen:=hB.len;by_cases h:j<K
 ·have hlt:Z ((j:Int)<g.size)=true:=by rw[hg.size];grind
  have hjl:j<s1.length:=by omega
  have hx:idx s1 (j:Int)=O (s1.getD j M):=by grind[zb]
  have hcnt:=hB.cnt;simp only[yW]at hcnt;simp only[zO.l2,hlt,if_true,jn,zlM hg p4 h,ya,hx,yp,yj,yw,grd,ze (i:=j)<|by omega];split<;>rename_i hc
  ·simp only[yc,yz]at hc;rw[zjP hjl,ya,zl<|by simp;omega,ya,zl<|by simp;omega,ya,zl<|by simp;omega,ya];have hB':=hB.mark h6 h hc.1 hc.2;have hcc:=zj3 hjl hc.2;refine hr (s1.set j U,l::(r++[l++[(j:Int)]]),s3+1,((j+1:Nat):Int)) ⟨j+1,r++[l++[(j:Int)]],rfl,by omega,rfl,hB',?_,λc hcj he=>?_⟩<|by simp only[yr];omega
   ·have:(s1.set j U).count U<=K:=by have:=u7 (a:=U) (l:=s1.set j U);simp at this;omega
    simp only[yT,yW,ul];omega
   ·rw[zgA hjl];by_cases e:c=j;·rw[if_pos e]
    ·rw[if_neg e];exact hd c (by omega) he
  ·refine hr (s1,l::r,s3,((j+1:Nat):Int)) ⟨j+1,r,rfl,by omega,rfl,hB,hM,λc hcj he=>?_⟩<|by simp only[yr];omega
   by_cases e:c=j
   ·subst e;cases hs:s1.getD c M with|true=>rfl|false=>simp only[yc,yz]at hc;exact absurd ⟨he,hs⟩ hc
   ·exact hd c (by omega) he
 ·have hjK:j=K:=by omega
  subst hjK;have hge:Z ((j:Int)<g.size)=false:=by rw[hg.size];simp
  have hcut:cut (l::r) 1 ((l::r).length:Int)=O r:=ziX (l:=l::r) (a:=1)<|by simp
  simp only[zO.l2,hge,ye,if_false,hcut,ya];exact hrec _ _ _ (hB.pop hne hd)<|by omega
theorem zmA {n}{g}{K a t}(hg:zwe g K)(hn:1000000<=n)(ha:a<K)(ht:t<K):BQ (hasP g) K a t<|zO n g (a:Int) (t:Int):=by
 have h6:=hg.le;have hrep:a<(xy K M).length:=by grind
 have hmk:mkl 1 g.size (M:Bool)=O (xy K M):=by rw[hg.size];unfold mkl;grind
 have hf:(xy K M).getD a M=false:=by grind
 have hcnt:=zj3 hrep hf;rw[List.count_replicate]at hcnt;simp only[beq_iff_eq,ye,if_false,ug]at hcnt;have hget:∀v,((xy K M).set a U).getD v M=U->v=a:=λv hv=>by grind
 have hl1:lstN [(a:Int)]=a:=by simp[lstN]
 have h0:BInv (hasP g) K a t ((xy K M).set a U) [[(a:Int)]]:=by
  refine⟨by simp,by grind,λl hl=>?_,λv _ hv=>by grind[Rch.refl],by grind,λv _ hv=>.inl ⟨[(a:Int)],by simp,by grind⟩⟩;simp only[yK]at hl;subst hl;rw[hl1];exact⟨by simp,by grind,zre (l:=[])<|by simp,ha,by grind⟩
 unfold zO;rw[hmk,ya,zb hrep,ya,zjP hrep,ya];refine zcV (body:=zO.l1 n g (t:Int)) (λs=>K-s.1.count U+s.2.1.length) (λs=>BInv (hasP g) K a t s.1 s.2.1) (λ_ r=>BQ (hasP g) K a t r) (λrec s hI hr=>?_) n _ h0<|by grind
 obtain⟨s1,s2,s3⟩:=s;simp only at hI;cases s2 with
 |nil=>
  simp only[zO.l1,ul,Int.ofNat_zero,Int.lt_irrefl,decide_false,ye,if_false];refine⟨[],by simp,?_⟩;simp only[ne_eq,not_true_eq_false,false_iff];intro hR;have hd:∀v,v<K->s1.getD v M=U->v≠t/\∀c,c<K->hasP g v c=U->s1.getD c M=true:=λv hv hs=>by
   rcases hI.don v hv hs with⟨x,hx,_⟩|q;·simp at hx
   ·exact q
  have:=hR (λv=>v<K/\s1.getD v M=U) ⟨ha,hI.fro⟩ λb c hb hc he=>⟨hc,(hd b hb.1 hb.2).2 c hc he⟩;exact(hd t this.1 this.2).1 rfl|cons l r=>
  obtain⟨p1,p2,p3,p4,p5⟩:=hI.pl l<|by simp
  have hpos:Z ((0:Int)<((l::r).length:Int))=true:=decide_eq_true<|by simp only[yW];omega
  have hi0:idx (l::r) 0=O l:=rfl;simp only[zO.l1,hpos,if_true,hi0,ya,p3];split<;>rename_i hc
  ·refine⟨l,rfl,?_⟩;have e:lstN l=t:=by
    have:((lstN l:Nat):Int)=(t:Int):=by simpa using hc
    omega
   rw[e]at p4 p5;exact⟨λ_=>hI.rch t p4 p5,λ_ e=>by subst e;simp at p1⟩
  ·exact ztI hg hn (xd:=K-s1.count U+(r.length+1)) (λs ls m hB hM=>hr (s,ls,m) hB<|by simpa using hM) (λe=>hc<|by rw[e];simp) hI<|yk _
theorem zku {n}{zu9}{K a t:Nat}(h6:K<=6)(hl:zu9.length=K*K)(hn:1000000<=n)(ha:a<K)(ht:t<K):BQ (hasP ⟨(K:Int),zu9⟩) K a t<|zeh n (K:Int) zu9 (a:Int) (t:Int):=by
 have c:zwe ⟨K,zu9⟩ K:=⟨rfl,h6,hl⟩;have d:=yZ h6 h6;have e:zuZ K K=K*K:=by grind[zuZ,z9]
 have b:zcb n K zu9=O (⟨K,zu9⟩,U):=by
  unfold zcb;simp;omega
 unfold zeh;grind[zmA]
section
variable(E:Nat->Nat->Bool)(K a t:Nat)
def extR (l:List Int):List<|List Int:=(xn K).flatMap λj=>if(E (lstN l) j&&!decide ((j:Int)∈l))=U then[l++[(j:Int)]]else[]
def levA:Nat->List (List Int)|0=>[[(a:Int)]]|r+1=>(levA r).flatMap<|extR E K
def zy5:Nat->Nat->List Int|0,_=>[]|d+1,i=>match(levA E K a i).find? λl=>lstN l==t with|some l=>l|none=>zy5 d<|i+1
def pathR:List Int:=zy5 E K a t K 0
theorem zsq {l x}:x∈extR E K l↔∃b,b<K/\E (lstN l) b=U/\(b:Int)∉l/\x=l++[(b:Int)]:=by
 simp only[extR];grind
theorem zmP {r x}:x∈levA E K a (r+1)↔∃l,l∈levA E K a r/\∃b,b<K/\E (lstN l) b=U/\(b:Int)∉l/\x=l++[(b:Int)]:=by grind[levA,zsq]
end
theorem zii {E K a}(ha:a<K):∀{r x},x∈levA E K a r->zvW K x/\x.length=r+1/\lstN x<K/\Rch E K a (lstN x)
 |0,x,h=>by
  simp only[levA,yK]at h;subst h;have d:lstN [a]=a:=by simp[lstN]
  exact⟨zmS ha,rfl,by simp_all,by grind[Rch.refl]⟩|r+1,x,h=>by
  obtain⟨l,d,b,c,f,g,rfl⟩:=(zmP E K a).1 h;obtain⟨i,j,k,e⟩:=zii ha d;rw[zdJ];exact⟨i.snoc c g,by grind,c,e.step c f⟩
theorem zpk {E K a}:∀{r x}{c:Nat},x∈levA E K a r->(c:Int)∈x->∃r',r'<=r/\∃y,y∈levA E K a r'/\lstN y=c
 |0,x,c,h,d=>by
  simp only[levA,yK]at h;subst h;exact⟨0,yk _,[a],by simp[levA],by grind[lstN]⟩|r+1,x,c,h,d=>by
  obtain⟨l,f,b,i,g,e,rfl⟩:=(zmP E K a).1 h;rcases yu.1 d with d|d
  ·obtain⟨r',g,e⟩:=zpk f d;grind
  ·exact⟨r+1,yk _,_,h,by grind[zdJ]⟩
theorem zlU {E K a t}(ha:a<K):∀{d i},zy5 E K a t d i≠[]->Rch E K a t
 |0,_,h=>absurd rfl h|d+1,i,h=>by
  simp only[zy5]at h;split at h<;>rename_i b
  ·have e:=List.find?_some b;have c:=(zii ha<|List.mem_of_find?_eq_some b).2.2.2;simp_all
  ·exact zlU ha h
theorem zlT {E K a t}(ha:a<K):∀{d i},zy5 E K a t d i=[]->∀j,i<=j->j<i+d->∀l∈levA E K a j,lstN l≠t
 |0,_,_=>λj c f=>by omega|d+1,i,h=>λj c f l b=>by
  simp only[zy5]at h;split at h<;>rename_i g;·have k:=(zii ha<|List.mem_of_find?_eq_some g).1.pos;simp_all
  ·by_cases e:j=i;·simp_all
   ·exact zlT ha h j (by omega) (by omega) l b
theorem zkT {E K a t}(ha:a<K):pathR E K a t≠[]↔Rch E K a t:=by
 constructor;·exact zlU ha
 ·intro k g;have o:=zlT ha g;obtain⟨j,i,l,f,e⟩:=k (λv=>∃j,j<K/\∃l,l∈levA E K a j/\lstN l=v) ⟨0,by omega,[a],by simp[levA],by simp[lstN]⟩ λb c⟨j,i,l,f,e⟩h g=>by
   by_cases n:(c:Int)∈l;·grind[zpk]
   ·have d:=(zmP E K a).2 ⟨l,f,c,h,by simp_all,n,rfl⟩;obtain⟨m,q,r,p⟩:=zii ha d;have:=m.len;grind[zdJ]
  grind
theorem rem_n {r k:Nat}(h0:0<k):zv2 (r:Int) (k:Int)=O ((r%k:Nat):Int):=by
 unfold zv2;grind
theorem quo_n {r k:Nat}(h0:0<k)(hr:r<=1000000):zv1 (r:Int) (k:Int)=O ((r/k:Nat):Int):=by
 have b:r/k<=r:=Nat.div_le_self _ _;have a:(r:Int).tdiv k=r/k:=by simp_all
 unfold zv1;grind[z9]
theorem zuq {r k:Nat}(h:r<k*k):r/k<k:=by
 rcases Nat.eq_zero_or_pos k with e|e;·simp_all
 ·exact(Nat.div_lt_iff_lt_mul e).2 h
structure GrOK (L:Nat)(g:zvg)(K:Nat):Prop where
 size:g.size=(K:Int)pos:1<=K
 le:K<=6
 len:g.least.length=K*K
 fst:0<=g.first/\g.first+((K*K:Nat):Int)<=(L:Int)num:∀x∈g.least,-4000000<=x/\x<=4000000
theorem GrOK.sq {L g K}(h:GrOK L g K):K*K<=36:=yZ h.le h.le
theorem GrOK.cell {L g K}(h:GrOK L g K)(hL:L<=1000000){k}(hk:k<K*K):zuN g.first (k:Int)=g.first+(k:Int)/\0<=g.first+(k:Int)/\g.first+(k:Int)<(L:Int):=by
 have a:=h.fst;exact⟨z9 (by omega)<|by omega,by omega,by omega⟩
def lstG (g:zvg)(k:Nat):Int:=g.least.getD k 0
def zxp (g:zvg)(b:List Range):List Bool:=(xn g.least.length).map λj=>Z<|lstG g j<=(rgP b<|g.first+(j:Int)).lo
def zet (g:zvg)(b:List Range)(k:Nat):Bool:=!(pathR (hasP ⟨g.size,zxp g b⟩) g.size.toNat (k%g.size.toNat)<|k/g.size.toNat).isEmpty
def cutP (g:zvg)(b:List Range)(k:Nat):Range:=if(Z (lstG g k<=(rgP b<|g.first+(k:Int)).hi)&&zet g b k)=U then⟨(rgP b<|g.first+(k:Int)).lo,lstG g k-1⟩else rgP b<|g.first+(k:Int)
theorem zj7 {g}{k:Nat}(h:k<g.least.length):idx g.least (k:Int)=O (lstG g k):=by grind[zb,lstG]
theorem ziv (g b):(zxp g b).length=g.least.length:=by simp[zxp]
theorem zgn {n L K:Nat}{g:zvg}{b}{k}(hg:GrOK L g K)(hb:b.length=L)(hL:L<=1000)(hk:k<K*K)(hn:1000000<=n):zbs n g b (k:Int)=O (zet g b k):=by
 have hsq:=hg.sq;have h6:=hg.le;have h1:=hg.pos;have hlen:=hg.len;have hmk:mkl 1 (g.least.length:Int) (M:Bool)=O (xy g.least.length M):=by unfold mkl;grind
 unfold zbs;rw[hmk,ya];have:=zbf (body:=zbs.l1 n g b (k:Int)) (len:=g.least.length) (st:=λ(s:List Bool)i=>(s,(i:Int))) (g:=λ_ _=>O<|zet g b k) (λi s=>s=(zxp g b).take i++xy (g.least.length-i) M) (λrec i s hi hI hr=>?_) (λrec s hI=>?_) n 0 (xy g.least.length M) (ym _) (by omega)<|by simp
 ·grind
 ·have hc:=hg.cell (show L<=1000000 by omega) (k:=i)<|by omega
  have hil:((zxp g b).take i).length=i:=by grind[ziv]
  have his:i<s.length:=by grind
  simp only[zbs.l1,zB hi,if_true,zj7 hi,ya,hc.1];rw[zfJ hc.2.1<|by simp_all,ya,zb his,ya,zjP his,ya,ze (i:=i)<|by omega];refine hr _ ?_;have hp:i<(zxp g b).length:=by grind[ziv]
  rw[hI,yv hp,show g.least.length-i=g.least.length-(i+1)+1 by omega,vw,uJ _ _<|by omega,hil,uw,wP,yM];grind[zxp]
 ·have hs:s=zxp g b:=by
   rw[hI,uw,List.replicate_zero,ue];exact xV<|by rw[ziv];simp_all
  have hm:k%K<K:=wX _ h1;have hd:=zuq hk;obtain⟨l,e1,e2⟩:=zku (n:=n) (zu9:=zxp g b) h6 (by grind[ziv]) hn hm hd;simp only[zbs.l1,zat,hg.size,rem_n h1,quo_n (r:=k) h1<|by omega,ya];rw[<-zkT hm]at e2;unfold zet;rw[hg.size,yr];congr 1;grind[List.length_pos_iff]
structure PR where
 k:Nat
 st:List Step
 b:List Range
def PR.bind (p:PR)(f:List Step->List Range->PR):PR:=if p.k=0 then f p.st p.b else p
theorem PR.zw6 {st b f}:(PR.mk 0 st b).bind f=f st b:=rfl
theorem PR.zxI {p:PR}{f}(h:p.k≠0):p.bind f=p:=if_neg h
def zvY (bud:Nat)(kind index cell:Int)(r:Range)(st:List Step)(b:List Range):PR:=if r=rgP b cell then⟨0,st,b⟩else if bud<=st.length then⟨2,st,b⟩else if r.hi<r.lo then⟨1,st++[⟨kind,index,cell⟩],b⟩else⟨0,st++[⟨kind,index,cell⟩],zvu b cell r⟩
theorem zqm {bud kind index cell r st b}(h:r=rgP b cell):zvY bud kind index cell r st b=⟨0,st,b⟩:=if_pos h
theorem zoR {bud kind index cell r st b}(h:¬r=rgP b cell)(h2:bud<=st.length):zvY bud kind index cell r st b=⟨2,st,b⟩:=by unfold zvY;grind
theorem zqn {bud kind index cell r st b}(h:¬r=rgP b cell)(h2:¬bud<=st.length)(h3:r.hi<r.lo):zvY bud kind index cell r st b=⟨1,st++[⟨kind,index,cell⟩],b⟩:=by unfold zvY;grind
theorem zsD {bud kind index cell r st b}(h:¬r=rgP b cell)(h2:¬bud<=st.length)(h3:¬r.hi<r.lo):zvY bud kind index cell r st b=⟨0,st++[⟨kind,index,cell⟩],zvu b cell r⟩:=by unfold zvY;grind
def rowT (bud i:Nat)(row:Row):List Term->PR->PR|[],p=>p|t::l,p=>rowT bud i row l<|p.bind λst b=>zvY bud 0 i t.cell (zbW row b t.cell) st b
def zwu (row:Row):Bool:=row.zuQ.isEmpty&&Z (row.bound<0)
def zc9 (bud i:Nat)(row:Row)(p:PR):PR:=p.bind λst b=>if zwu row=U then if bud<=st.length then⟨2,st,b⟩else⟨1,st++[⟨0,(i:Int),-1⟩],b⟩else rowT bud i row row.zuQ ⟨0,st,b⟩
def zwg (bud:Nat):Nat->List Row->PR->PR|_,[],p=>p|i,r::l,p=>zwg bud (i+1) l<|zc9 bud i r p
def grT (bud i:Nat)(g:zvg):Nat->Nat->PR->PR|0,_,p=>p|d+1,k,p=>grT bud i g d (k+1)<|p.bind λst b=>zvY bud 1 i (g.first+(k:Int)) (cutP g b k) st b
def zb5 (bud:Nat):Nat->List zvg->PR->PR|_,[],p=>p|i,g::l,p=>zb5 bud (i+1) l<|grT bud i g g.least.length 0 p
def zv6 (bud:Nat)(R:List Row)(G:List zvg)(st:List Step)(b:List Range):PR:=zb5 bud 0 G<|zwg bud 0 R ⟨0,st,b⟩
def runU (bud:Nat)(R:List Row)(G:List zvg):Nat->List Step->List Range->PR|0,st,b=>⟨0,st,b⟩|f+1,st,b=>if(zv6 bud R G st b).k=0/\st.length<(zv6 bud R G st b).st.length then runU bud R G f (zv6 bud R G st b).st (zv6 bud R G st b).b else zv6 bud R G st b
theorem ziC {bud i row}:∀{l}{p},p.k≠0->rowT bud i row l p=p|[],_,_=>rfl|t::l,p,h=>by rw[rowT,PR.zxI h];exact ziC h
theorem zjM {bud i row}{p}(h:p.k≠0):zc9 bud i row p=p:=PR.zxI h
theorem zeR {bud}:∀{i}{l}{p},p.k≠0->zwg bud i l p=p|_,[],_,_=>rfl|i,r::l,p,h=>by rw[zwg,zjM h];exact zeR h
theorem zid {bud i g}:∀{d k}{p},p.k≠0->grT bud i g d k p=p|0,_,_,_=>rfl|d+1,k,p,h=>by rw[grT,PR.zxI h];exact zid h
theorem zdw {bud}:∀{i}{l}{p},p.k≠0->zb5 bud i l p=p|_,[],_,_=>rfl|i,g::l,p,h=>by rw[zb5,zid h];exact zdw h
structure PI (bud L m:Nat)(st:List Step)(b:List Range):Prop where
 box:boxP b=U
 len:b.length=L
 ne:∀r∈b,r.lo<=r.hi
 ge:m<=st.length
 le:st.length<=bud
def PG (bud L m:Nat)(p:PR):Prop:=p.k=0->PI bud L m p.st p.b
def SubR (r o:Range):Prop:=r.lo<=r.hi->o.lo<=r.lo/\r.hi<=o.hi
theorem zqr {o rest f}:SubR (zhz o rest f) o:=by
 unfold SubR zhz;grind
theorem zfV {r b c}:SubR (zbW r b c)<|rgP b c:=zqr
theorem zh7 {g b k}:SubR (cutP g b k)<|rgP b<|g.first+(k:Int):=by
 unfold SubR cutP;grind
theorem ztz {α:Type}{l:List α}{i}{x y}(h:y∈l.set i x):y∈l\/y=x:=uP h
theorem zkl {b}(h:boxP b=U):∀r∈b,-1000000<=r.lo/\r.lo<=1000000/\-1000000<=r.hi/\r.hi<=1000000:=zqC h
theorem zqD {b}(h:∀r∈b,-1000000<=r.lo/\r.lo<=1000000/\-1000000<=r.hi/\r.hi<=1000000)(hl:b.length<=128):boxP b=true:=by
 simp only[boxP];grind
theorem zmk {b}(h:boxP b=U):b.length<=128:=by simp only[boxP,yc,yf]at h;omega
theorem zoW {b}(h:boxP b=U)(hne:∀r∈b,r.lo<=r.hi){c}{r}(h0:0<=c)(h1:c<(b.length:Int))(hs:SubR r<|rgP b c)(hr:r.lo<=r.hi):boxP (zvu b c r)=U/\∀x∈zvu b c r,x.lo<=x.hi:=by
 have d:=zkl h _<|zhy h0 h1;have:=hs hr;unfold zvu;rw[if_pos h0];refine⟨zqD (λx a=>?_)<|by grind[zmk],λx a=>?_⟩
 ·rcases ztz a with a|rfl;·exact zkl h x a
  ·omega
 grind
theorem zgT {bud L m kind index cell r st b}(h:PI bud L m st b)(h0:0<=cell)(h1:cell<(L:Int))(hs:SubR r<|rgP b cell):PG bud L m<|zvY bud kind index cell r st b:=by
 unfold zvY;split;·exactλ_=>h
 ·split;·intro d;grind
  ·split;·intro d;grind
   ·intro _;have a:=zoW h.box h.ne h0 (by rw[h.len];exact h1) hs<|by omega
    have c:=h.ge;exact⟨a.1,by rw[zby,h.len],a.2,by grind,by grind⟩
theorem PG.bind {bud L m p f}(h:PG bud L m p)(hf:∀st b,PI bud L m st b->PG bud L m (f st b)):PG bud L m<|p.bind f:=by
 unfold PR.bind;split<;>rename_i a;·exact hf _ _<|h a
 grind
theorem zm1 {bud L m i:Nat}{row}:∀{l}{p},(∀t∈l,0<=t.cell/\t.cell<(L:Int))->PG bud L m p->PG bud L m (rowT bud i row l p)|[],_,_,h=>h|t::l,p,a,h=>by exact zm1 (l:=l) (λx d=>a x<|yV _ d)<|h.bind λe b c=>zgT c (a t<|by simp).1 (a t<|by simp).2 zfV
structure RwOK (L:Nat)(r:Row):Prop where
 fits:zxL (L:Int) r=U
 few:r.zuQ.length<=1000
theorem RwOK.cells {L r}(h:RwOK L r):∀t∈r.zuQ,0<=t.cell/\t.cell<(L:Int):=λt a=>by
 have:=h.fits;simp only[zxL,yc]at this;have:=(zd0 (by omega) this.1).1 t a;grind
theorem zoO {bud L m i row p}(hr:RwOK L row)(h:PG bud L m p):PG bud L m<|zc9 bud i row p:=h.bind λd b a=>by
 split;·split<;>(intro c;grind)
 ·exact zm1 hr.cells λ_=>a
theorem zk2 {bud L m}:∀{i}{l}{p},(∀r∈l,RwOK L r)->PG bud L m p->PG bud L m (zwg bud i l p)|_,[],_,_,h=>h|i,r::l,p,a,h=>by exact zk2 (l:=l) (λx b=>a x<|yV _ b)<|zoO (a r<|by simp) h
theorem zoC {bud L m i g K}(hg:GrOK L g K)(hL:L<=1000):∀{d k}{p},k+d<=K*K->PG bud L m p->PG bud L m (grT bud i g d k p)
 |0,_,_,_,h=>h|d+1,k,p,c,h=>by
  exact zoC hg hL (d:=d) (k:=k+1) (by omega)<|h.bind λe b f=>by
   have a:=hg.cell (show L<=1000000 by omega) (k:=k)<|by omega
   grind[zgT,zh7]
theorem zky {bud L m}(hL:L<=1000):∀{i}{l}{p},(∀g∈l,∃K,GrOK L g K)->PG bud L m p->PG bud L m (zb5 bud i l p)
 |_,[],_,_,h=>h|i,g::l,p,b,h=>by
  obtain⟨K,a⟩:=b g<|by simp
  exact zky (l:=l) hL (λx c=>b x<|yV _ c)<|zoC (d:=g.least.length) (k:=0) a hL (by rw[a.len];omega) h
theorem znK {bud L R G st b m}(hL:L<=1000)(hR:∀r∈R,RwOK L r)(hG:∀g∈G,∃K,GrOK L g K)(h:PI bud L m st b):PG bud L m<|zv6 bud R G st b:=zky hL hG<|zk2 hR λ_=>h
theorem ziD {bud L R G m}(hL:L<=1000)(hR:∀r∈R,RwOK L r)(hG:∀g∈G,∃K,GrOK L g K):∀{f st b},PI bud L m st b->PG bud L m (runU bud R G f st b)
 |0,_,_,h=>λ_=>h|f+1,st,b,h=>by
  have c:=znK hL hR hG h;unfold runU;split<;>rename_i a;·exact ziD hL hR hG<|c a.1
  grind
def zvK (t0:zvB)(st:List Step):Int:=t0.cost+1+(st.length:Int)
def finW (t0:zvB)(p:PR)(K:List Step->List Range->Option (Option<|Found×zvB)):Option<|Option<|Found×zvB:=if p.k=0 then K p.st p.b else if p.k=2 then O Y else O<|O (⟨[],0,⟨0,p.st,0,0,[]⟩⟩,⟨t0.s,t0.rows,t0.zvh,zvK t0 p.st⟩)
structure SW (t0:zvB)(bud:Nat):Prop where
 c0:0<=t0.cost
 e:t0.zvh=t0.cost+1+(bud:Int)le:t0.zvh<=65536
theorem SW.bud {t0 bud}(h:SW t0 bud):bud<=65536:=by have:=h.c0;have:=h.e;have:=h.le;omega
theorem SW.full {t0 bud}(h:SW t0 bud){st}(hl:st.length<=bud):zvK t0 st=t0.zvh↔bud<=st.length:=by
 have:=h.e;grind[zvK]
theorem SW.next {t0 bud}(h:SW t0 bud){st}(hl:st.length<=bud)(x):zuN (zvK t0 st) 1=zvK t0 (st++[x]):=by
 have:=h.c0;have:=h.e;have:=h.le;grind[zvK,zuN,z9]
theorem zmt {t0}{p}{K1 K2}{F:PR->PR}(h0:p.k=0->K1 p.st p.b=finW t0 (F p) K2)(h1:p.k≠0->F p=p):finW t0 p K1=finW t0 (F p) K2:=by
 by_cases h:p.k=0;·rw[<-h0 h];exact if_pos h
 ·unfold finW;grind
theorem zm5 {b}{c}(h0:0<=c)(h1:c<(b.length:Int))(r):sto b c r=O (zvu b c r):=by
 unfold sto zvu;grind
theorem ztB {n bud L m i:Nat}{t0}{t1 b1}{rec7}{rec8}{row}(hw:SW t0 bud)(ht1:t1.length=L)(hb1:b1.length=L)(hi:i<1000000)(hr:RwOK L row){st}{b}(hI:PI bud L m st b)(hn:1000000<=n):zuR (zd.l9 n t0 t1 b1 rec7 (i:Int) rec8 row) n (b,st,zvK t0 st,Z<|m<st.length,0)=finW t0 (rowT bud i row row.zuQ ⟨0,st,b⟩) λst b=>rec8 (b,st,zvK t0 st,Z<|m<st.length,((i+1:Nat):Int)):=by
 have hfew:=hr.few;have hbud:=hw.bud;have:=zbf (σ:=List Step×List Range) (body:=zd.l9 n t0 t1 b1 rec7 (i:Int) rec8 row) (len:=row.zuQ.length) (st:=λs j=>(s.2,s.1,zvK t0 s.1,Z<|m<s.1.length,(j:Int))) (g:=λj s=>finW t0 (rowT bud i row (row.zuQ.drop j) ⟨0,s.1,s.2⟩) λst b=>rec8 (b,st,zvK t0 st,Z<|m<st.length,((i+1:Nat):Int))) (λ_ s=>PI bud L m s.1 s.2) (λrec2 j s hj hI hrr=>?_) (λrec2 s hI=>?_) n 0 (st,b) (ym _) (by omega) hI;·grind
 ·obtain⟨st,b⟩:=s;simp only at hI hrr;have hc:=hr.cells _<|yg hj;have hc1:row.zuQ[j].cell<(b.length:Int):=by rw[hI.len];grind
  have hT:=zlC (n:=n) (r:=row) (b:=b) (c:=row.zuQ[j].cell) hI.box (by rw[hI.len];exact hr.fits) hr.few hc.1 hc1 hn;have hx:=zfJ hc.1 hc1;have hst:=hI.le;have hge:=hI.ge;have ha:∀x:Step,Go.Proofs.YtipkniadbkndfaaGreatDoor.app 24 st [x]=O (st++[x]):=λx=>app1<|by omega
  have hinv:=zgT (kind:=0) (index:=(i:Int)) hI hc.1 hc.2<|zfV (r:=row) (b:=b) (c:=row.zuQ[j].cell);rw[zk hj,rowT,PR.zw6];simp only[zd.l9,zB hj,if_true,jn,zb hj,ya,hT,hx,zm5 hc.1 hc1,ha,ze (i:=j)<|by omega,uB,hI.len,hb1,ht1,zby,decide_true,grd,yf,beq_iff_eq];revert hinv;unfold zvY;by_cases h1:zbW row b row.zuQ[j].cell=rgP b row.zuQ[j].cell;·simp_all
  ·rw[if_neg h1,if_neg h1];by_cases h2:bud<=st.length;·rw[if_pos h2,if_pos<|(hw.full hst).2 h2,ziC<|by simp];exactλ_=>rfl
   ·rw[if_neg h2,if_neg λh=>h2<|(hw.full hst).1 h];by_cases h3:(zbW row b row.zuQ[j].cell).hi<(zbW row b row.zuQ[j].cell).lo
    ·rw[if_pos h3,if_pos h3,ziC<|by simp,hw.next hst ⟨0,(i:Int),row.zuQ[j].cell⟩];exactλ_=>rfl
    ·rw[if_neg h3,if_neg h3,hw.next hst ⟨0,(i:Int),row.zuQ[j].cell⟩];intro hinv;have:=hrr (st++[⟨0,(i:Int),row.zuQ[j].cell⟩],zvu b row.zuQ[j].cell<|zbW row b row.zuQ[j].cell)<|hinv rfl;have e:Z (m<(st++[(⟨0,(i:Int),row.zuQ[j].cell⟩:Step)]).length)=true:=by simp;omega
     simp only[e]at this;exact this
 ·simp only[zd.l9,zat,ye,if_false,xS,rowT,ze (i:=i)<|by omega];rfl
theorem ztA {n bud L m}{self}{t0}{t1 b1}{t2}{rec7}(hw:SW t0 bud)(ht1:t1.length=L)(hb1:b1.length=L)(hR:∀r∈t0.rows,RwOK L r)(hRl:t0.rows.length<1000000){st}{b}(hI:PI bud L m st b)(hn:1000000<=n):zuR (zd.l8 n self t0 t1 t2 b1 rec7) n (b,st,zvK t0 st,Z<|m<st.length,0)=finW t0 (zwg bud 0 t0.rows ⟨0,st,b⟩) λst b=>zuR (zd.l10 n self t0 t1 t2 b1 rec7) n (b,st,zvK t0 st,Z<|m<st.length,0):=by
 have hbud:=hw.bud;have:=zbf (σ:=List Step×List Range) (body:=zd.l8 n self t0 t1 t2 b1 rec7) (len:=t0.rows.length) (st:=λs j=>(s.2,s.1,zvK t0 s.1,Z<|m<s.1.length,(j:Int))) (g:=λj s=>finW t0 (zwg bud j (t0.rows.drop j) ⟨0,s.1,s.2⟩) λst b=>zuR (zd.l10 n self t0 t1 t2 b1 rec7) n (b,st,zvK t0 st,Z<|m<st.length,0)) (λ_ s=>PI bud L m s.1 s.2) (λrec2 i s hi hI hrr=>?_) (λrec2 s hI=>?_) n 0 (st,b) (ym _) (by omega) hI;·grind
 ·obtain⟨st,b⟩:=s;simp only at hI hrr;have hr:=hR _<|yg hi;have hst:=hI.le;have ha:∀x:Step,Go.Proofs.YtipkniadbkndfaaGreatDoor.app 24 st [x]=O (st++[x]):=λx=>app1<|by omega
  rw[zk hi,zwg];have hv:((t0.rows[i].zuQ.length:Int)==0&&Z (t0.rows[i].bound<0))=zwu t0.rows[i]:=by
   unfold zwu;have:((t0.rows[i].zuQ.length:Int)==0)=t0.rows[i].zuQ.isEmpty:=by rw[we];simp
   rw[this]
  simp only[zd.l8,zB hi,if_true,zb hi,ya,hv];by_cases h1:zwu t0.rows[i]=U
  ·have es:zc9 bud i t0.rows[i] ⟨0,st,b⟩=if bud<=st.length then⟨2,st,b⟩else⟨1,st++[⟨0,(i:Int),-1⟩],b⟩:=by unfold zc9;rw[PR.zw6,if_pos h1]
   rw[if_pos h1,es];simp only[ha,ya,hI.len,hb1,ht1,decide_true,grd,if_true,uB,beq_iff_eq];by_cases h2:bud<=st.length
   ·rw[if_pos h2,if_pos<|(hw.full hst).2 h2,zeR<|by simp];rfl
   ·rw[if_neg h2,if_neg λh=>h2<|(hw.full hst).1 h,zeR<|by simp,hw.next hst ⟨0,(i:Int),-1⟩];rfl
  ·have es:zc9 bud i t0.rows[i] ⟨0,st,b⟩=rowT bud i t0.rows[i] t0.rows[i].zuQ ⟨0,st,b⟩:=by unfold zc9;rw[PR.zw6,if_neg h1]
   rw[if_neg h1,es,ztB hw ht1 hb1 (by omega) hr hI hn];exact zmt (F:=zwg bud (i+1)<|t0.rows.drop<|i+1) (λhk=>by
    have hinv:=zm1 (bud:=bud) (m:=m) (i:=i) (row:=t0.rows[i]) (p:=⟨0,st,b⟩) hr.cells (λ_=>hI) hk;have:=hrr ((rowT bud i t0.rows[i] t0.rows[i].zuQ ⟨0,st,b⟩).st,(rowT bud i t0.rows[i] t0.rows[i].zuQ ⟨0,st,b⟩).b) hinv;refine this.trans ?_;congr 1;congr 1;generalize rowT bud i t0.rows[i] t0.rows[i].zuQ ⟨0,st,b⟩=q at hk;cases q;grind) λhk=>zeR hk
 ·simp only[zd.l8,zat,ye,if_false,xS,zwg];rfl
theorem zss {n bud L m i K:Nat}{t0}{t1 b1}{rec7}{rec10}{g}(hw:SW t0 bud)(ht1:t1.length=L)(hb1:b1.length=L)(hi:i<1000000)(hL:L<=1000)(hg:GrOK L g K){st}{b}(hI:PI bud L m st b)(hn:1000000<=n):zuR (zd.l11 n t0 t1 b1 rec7 (i:Int) rec10 g) n (b,st,zvK t0 st,Z<|m<st.length,0)=finW t0 (grT bud i g g.least.length 0 ⟨0,st,b⟩) λst b=>rec10 (b,st,zvK t0 st,Z<|m<st.length,((i+1:Nat):Int)):=by
 have hsq:=hg.sq;have hlen:=hg.len;have hbud:=hw.bud;have:=zbf (σ:=List Step×List Range) (body:=zd.l11 n t0 t1 b1 rec7 (i:Int) rec10 g) (len:=g.least.length) (st:=λs j=>(s.2,s.1,zvK t0 s.1,Z<|m<s.1.length,(j:Int))) (g:=λj s=>finW t0 (grT bud i g (g.least.length-j) j ⟨0,s.1,s.2⟩) λst b=>rec10 (b,st,zvK t0 st,Z<|m<st.length,((i+1:Nat):Int))) (λ_ s=>PI bud L m s.1 s.2) (λrec2 j s hj hI hrr=>?_) (λrec2 s hI=>?_) n 0 (st,b) (ym _) (by omega) hI;·grind
 ·obtain⟨st,b⟩:=s;simp only at hI hrr;have hjK:j<K*K:=by omega
  have hc:=hg.cell (show L<=1000000 by omega) hjK;have hc1:g.first+(j:Int)<(b.length:Int):=by rw[hI.len];omega
  have hx:=zfJ hc.2.1 hc1;have hst:=hI.le;have hge:=hI.ge;have ha:∀x:Step,Go.Proofs.YtipkniadbkndfaaGreatDoor.app 24 st [x]=O (st++[x]):=λx=>app1<|by omega
  have hcl:=zgn (n:=n) hg hI.len hL hjK hn;have hinv:=zgT (kind:=1) (index:=(i:Int)) hI hc.2.1 hc.2.2<|zh7 (g:=g) (b:=b) (k:=j);have hnum:=hg.num (lstG g j)<|by grind[lstG]
  have hs:zuY (lstG g j) 1=lstG g j-1:=z9 (by omega)<|by omega
  have hrr':∀st' b',PI bud L m st' b'->rec2 (b',st',zvK t0 st',Z<|m<st'.length,((j+1:Nat):Int))=finW t0 (grT bud i g (g.least.length-(j+1)) (j+1) ⟨0,st',b'⟩) λst b=>rec10 (b,st,zvK t0 st,Z<|m<st.length,((i+1:Nat):Int)):=λst' b' h=>hrr (st',b') h;rw[show g.least.length-j=g.least.length-(j+1)+1 by omega,grT,PR.zw6];simp only[zd.l11,zB hj,if_true,jn,zj7 hj,ya,hc.1,hx,hcl,hs,yp,yj,yw,zm5 hc.2.1 hc1,ha,ze (i:=j)<|by omega,uB,hI.len,hb1,ht1,zby,decide_true,grd];by_cases h0:(Z (lstG g j<=(rgP b<|g.first+(j:Int)).hi)&&zet g b j)=U
  ·have hcut:cutP g b j=⟨(rgP b<|g.first+(j:Int)).lo,lstG g j-1⟩:=if_pos h0;have h0':(Z ((rgP b<|g.first+(j:Int)).hi<lstG g j)||!zet g b j)=false:=by
    simp only[yc,yf]at h0;rw[h0.2];simp;omega
   rw[h0'];simp only[ye,if_false,yf,beq_iff_eq,<-hcut];have h3e:lstG g j-1<(rgP b<|g.first+(j:Int)).lo↔(cutP g b j).hi<(cutP g b j).lo:=by rw[hcut]
   revert hinv;unfold zvY;by_cases h1:cutP g b j=rgP b (g.first+(j:Int))
   ·rw[if_pos h1,if_pos h1];exactλ_=>hrr' st b hI
   ·rw[if_neg h1,if_neg h1];by_cases h2:bud<=st.length
    ·rw[if_pos h2,if_pos<|(hw.full hst).2 h2,zid<|by simp];exactλ_=>rfl
    ·rw[if_neg h2,if_neg λh=>h2<|(hw.full hst).1 h];by_cases h3:(cutP g b j).hi<(cutP g b j).lo;·rw[if_pos h3,if_pos<|h3e.2 h3,zid<|by simp,hw.next hst ⟨1,(i:Int),g.first+(j:Int)⟩];exactλ_=>rfl
     ·rw[if_neg h3,if_neg λh=>h3<|h3e.1 h,hw.next hst ⟨1,(i:Int),g.first+(j:Int)⟩];intro hinv;have:=hrr' (st++[⟨1,(i:Int),g.first+(j:Int)⟩]) (zvu b (g.first+(j:Int))<|cutP g b j)<|hinv rfl;have e:Z (m<(st++[(⟨1,(i:Int),g.first+(j:Int)⟩:Step)]).length)=true:=by simp;omega
      simp only[e]at this;exact this
  ·have hcut:cutP g b j=rgP b (g.first+(j:Int)):=if_neg h0;have h0':(Z ((rgP b<|g.first+(j:Int)).hi<lstG g j)||!zet g b j)=true:=by
    simp only[yc,yf]at h0;simp only[yG,yf,yz];by_cases h:(rgP b<|g.first+(j:Int)).hi<lstG g j;·exact .inl h
    ·right;cases hh:zet g b j with|false=>rfl|true=>exact absurd ⟨by omega,hh⟩ h0
   rw[h0',if_pos rfl,show zvY bud 1 (i:Int) (g.first+(j:Int)) (cutP g b j) st b=⟨0,st,b⟩from if_pos hcut];exact hrr' st b hI
 ·simp only[zd.l11,zat,ye,if_false,uw,grT,ze (i:=i)<|by omega];rfl
noncomputable def ziR (n:Nat)(self:zvB->List Range->Int->Option (Option<|Found×zvB))(t0:zvB)(t1:List Range)(t2:Int)(st:List Step)(b:List Range):Option<|Option<|Found×zvB:=if(Z (0<(t0.s.cases.length:Int))&&Z (t2<0))=U then zuR (zd.l12 n self t0 t1 b st) n (([]:List Tree),t0.s.box,t0.s.rows,t0.s.zuT,t0.s.cases,t0.rows,t0.zvh,zvK t0 st,0)else(zf n b λq0=>zbL n q0).bind λc=>if Z (c<0)=U then(mkl 8 (b.length:Int) (0:Int)).bind λv=>zuR (zd.l13 n t0 t1 t2 b<|zvK t0 st) n (v,0)else(idx b c).bind λx1=>(zc2 n x1).bind λat_=>(idx b c).bind λx2=>(idx b c).bind λx3=>zuR (zd.l14 n self t1 t2 b st c at_ x2 x3) n (([]:List Tree),t0.s.box,t0.s.rows,t0.s.zuT,t0.s.cases,t0.rows,t0.zvh,zvK t0 st,0)
theorem zsr {n bud L m}{self}{t0}{t1 b1}{t2}{rec7}(hw:SW t0 bud)(ht1:t1.length=L)(hb1:b1.length=L)(hL:L<=1000)(hG:∀g∈t0.s.zuT,∃K,GrOK L g K)(hGl:t0.s.zuT.length<1000000){st}{b}(hI:PI bud L m st b)(hn:1000000<=n):zuR (zd.l10 n self t0 t1 t2 b1 rec7) n (b,st,zvK t0 st,Z<|m<st.length,0)=finW t0 (zb5 bud 0 t0.s.zuT ⟨0,st,b⟩) λst b=>if m<st.length then rec7 (b,st,zvK t0 st)else ziR n self t0 t1 t2 st b:=by
 have:=zbf (σ:=List Step×List Range) (body:=zd.l10 n self t0 t1 t2 b1 rec7) (len:=t0.s.zuT.length) (st:=λs j=>(s.2,s.1,zvK t0 s.1,Z<|m<s.1.length,(j:Int))) (g:=λj s=>finW t0 (zb5 bud j (t0.s.zuT.drop j) ⟨0,s.1,s.2⟩) λst b=>if m<st.length then rec7 (b,st,zvK t0 st)else ziR n self t0 t1 t2 st b) (λ_ s=>PI bud L m s.1 s.2) (λrec2 i s hi hI hrr=>?_) (λrec2 s hI=>?_) n 0 (st,b) (ym _) (by omega) hI;·grind
 ·obtain⟨st,b⟩:=s;simp only at hI hrr;obtain⟨K,hK⟩:=hG _<|yg hi;rw[zk hi,zb5];simp only[zd.l10,zB hi,if_true,zb hi,ya];rw[zss hw ht1 hb1 (by omega) hL hK hI hn];exact zmt (F:=zb5 bud (i+1)<|t0.s.zuT.drop<|i+1) (λhk=>by
   have hinv:=zoC (bud:=bud) (m:=m) (i:=i) (d:=t0.s.zuT[i].least.length) (k:=0) (p:=⟨0,st,b⟩) hK hL (by rw[hK.len];omega) (λ_=>hI) hk;have:=hrr ((grT bud i t0.s.zuT[i] t0.s.zuT[i].least.length 0 ⟨0,st,b⟩).st,(grT bud i t0.s.zuT[i] t0.s.zuT[i].least.length 0 ⟨0,st,b⟩).b) hinv;refine this.trans ?_;congr 1;congr 1;generalize grT bud i t0.s.zuT[i] t0.s.zuT[i].least.length 0 ⟨0,st,b⟩=q at hk;cases q;grind) λhk=>zdw hk
 ·obtain⟨st,b⟩:=s;simp only at hI;have e1:Z (b1.length=b.length)=true:=by rw[hb1,hI.len];simp
  have e2:Z (t1.length=b.length)=true:=by grind
  simp only[zd.l10,zat,ye,if_false,xS,zb5,e1,e2,grd,if_true,uI];show _=if m<st.length then _ else _;by_cases h:m<st.length;·grind
  ·rw[if_pos<|by simp[h],if_neg h];rfl
theorem zst {n bud L}{self}{t0}{t1 b}{t2}(hw:SW t0 bud)(ht1:t1.length=L)(hL:L<=1000)(hR:∀r∈t0.rows,RwOK L r)(hRl:t0.rows.length<1000000)(hG:∀g∈t0.s.zuT,∃K,GrOK L g K)(hGl:t0.s.zuT.length<1000000)(hb:PI bud L 0 [] b)(hn:1000000<=n):zuR (zd.l7 n self t0 t1 t2) n (b,([]:List Step),zvK t0 [])=finW t0 (runU bud t0.rows t0.s.zuT (bud+1) [] b) (ziR n self t0 t1 t2):=by
 have hbud:=hw.bud;have:=zcV (body:=zd.l7 n self t0 t1 t2) (λs=>bud-s.2.1.length) (λs=>s.2.2=zvK t0 s.2.1/\PI bud L 0 s.2.1 s.1) (λs r=>∀f,bud<f+s.2.1.length->r=finW t0 (runU bud t0.rows t0.s.zuT f s.2.1 s.1) (ziR n self t0 t1 t2)) (λrec s hI hr=>?_) n (b,[],zvK t0 []) ⟨rfl,hb⟩ (by grind) (bud+1)<|by simp
 ·grind
 ·obtain⟨b,st,c⟩:=s;obtain⟨e,hI⟩:=hI;simp only at e hI;subst e;intro f hf;simp only at hf hr;have hle:=hI.le;obtain⟨f,rfl⟩:∃f',f=f'+1:=⟨f-1,by omega⟩;have hI2:PI bud L st.length st b:=⟨hI.box,hI.len,hI.ne,yk _,hI.le⟩;have hp:=znK hL hR hG hI2;have e1:=ztA (n:=n) (self:=self) (t2:=t2) (rec7:=rec) hw ht1 hI.len hR hRl hI2 hn;rw[show Z (st.length<st.length)=M by simp]at e1;simp only[zd.l7];rw[e1];have e2:finW t0 (zwg bud 0 t0.rows ⟨0,st,b⟩) (λst' b'=>zuR (zd.l10 n self t0 t1 t2 b rec) n (b',st',zvK t0 st',Z<|st.length<st'.length,0))=finW t0 (zv6 bud t0.rows t0.s.zuT st b) λst' b'=>if st.length<st'.length then rec (b',st',zvK t0 st')else ziR n self t0 t1 t2 st' b':=by
   refine zmt (F:=zb5 bud 0 t0.s.zuT) (λhk=>?_) λhk=>zdw hk;have hinv:=zk2 (i:=0) (m:=st.length) hR (p:=⟨0,st,b⟩) (λ_=>hI2) hk;refine(zsr hw ht1 hI.len hL hG hGl hinv hn).trans ?_;congr 1;congr 1;generalize zwg bud 0 t0.rows ⟨0,st,b⟩=q at hk;cases q;grind
  rw[e2];unfold runU;by_cases hc:(zv6 bud t0.rows t0.s.zuT st b).k=0/\st.length<(zv6 bud t0.rows t0.s.zuT st b).st.length
  ·have hp:=hp hc.1;have hple:=hp.le;rw[if_pos hc];unfold finW;rw[if_pos hc.1];refine(if_pos hc.2).trans ?_;exact hr ((zv6 bud t0.rows t0.s.zuT st b).b,(zv6 bud t0.rows t0.s.zuT st b).st,zvK t0 (zv6 bud t0.rows t0.s.zuT st b).st) ⟨rfl,⟨hp.box,hp.len,hp.ne,ym _,hp.le⟩⟩ (by grind) f<|by grind
  ·rw[if_neg hc];unfold finW;by_cases hk:(zv6 bud t0.rows t0.s.zuT st b).k=0
   ·rw[if_pos hk,if_pos hk];exact if_neg λh=>hc ⟨hk,h⟩
   ·rw[if_neg hk,if_neg hk]
structure NR where
 k:Nat
 ix:Nat
 v:List Int
 t:Tree
 c:Nat
def zvZ:Tree:=⟨0,[],0,0,[]⟩
def zeD:NR:=⟨2,0,[],zvZ,0⟩
def zvH {α:Type}(self:α->Nat->NR)(tr:List Tree->Tree)(ix:Nat->Nat)(d:Nat):Nat->List α->List Tree->Nat->NR|_,[],kids,c=>⟨1,0,[],tr kids,c⟩|i,x::l,kids,c=>if(self x<|d-c).k=2 then zeD else if(self x<|d-c).k=0 then⟨0,ix i,(self x<|d-c).v,zvZ,c+(self x<|d-c).c⟩else zvH self tr ix d (i+1) l (kids++[(self x<|d-c).t])<|c+(self x<|d-c).c
def zxj (r:Range):Bool:=Z<|r.lo<r.hi
def zu3 (b:List Range):Int:=ixA zxj b 0
def zvM (r:Range):List Range:=[⟨r.lo,midP r⟩,⟨midP r+1,r.hi⟩]
def zvD (G:List zvg)(cases_:List<|List Row):Nat->Bool->List Row->List Range->Nat->NR|0,_,_,_,_=>zeD|f+1,root,R,b,d=>if d=0 then zeD else let p:=runU (d-1) R G d [] b;if p.k=2 then zeD else if p.k≠0 then⟨1,0,[],⟨0,p.st,0,0,[]⟩,1+p.st.length⟩else if(root&&!cases_.isEmpty)=U then zvH (λcs d=>zvD G cases_ f M (R++cs) p.b d) (λkids=>⟨2,p.st,0,0,kids⟩) id d 0 cases_ []<|1+p.st.length else if zu3 p.b<0 then⟨0,0,p.b.map (·.lo),zvZ,1+p.st.length⟩else zvH (λr d=>zvD G cases_ f M R (zvu p.b (zu3 p.b) r) d) (λkids=>⟨1,p.st,zu3 p.b,midP<|rgP p.b<|zu3 p.b,kids⟩) (λ_=>0) d 0 (zvM<|rgP p.b<|zu3 p.b) []<|1+p.st.length
theorem zi7 {α}{self}{tr ix d}:∀{i}{l:List α}{kids}{c},(∀x∈l,∀d',(self x d').k≠2->(self x d').c<=d')->c<=d->(zvH self tr ix d i l kids c).k≠2->c<=(zvH self tr ix d i l kids c).c/\(zvH self tr ix d i l kids c).c<=d
 |_,[],_,_,_,e,_=>⟨yk _,e⟩|i,x::l,kids,c,b,e,a=>by
  have j:=b x (by simp)<|d-c;unfold zvH at a|-;split at a<;>rename_i h;·exact absurd rfl a
  ·rw[if_neg h];split at a<;>rename_i g;·grind
   ·rw[if_neg g];have:=zi7 (i:=i+1) (λy f=>b y<|by simp[f]) (show c+(self x<|d-c).c<=d by omega) a;omega
theorem zhH {α}{self}{tr ix d}:∀{i}{l:List α}{kids}{c},((zvH self tr ix d i l kids c).k=0->(zvH self tr ix d i l kids c).t=zvZ)/\((zvH self tr ix d i l kids c).k≠0->(zvH self tr ix d i l kids c).v=[])
 |_,[],_,_=>⟨λh=>absurd h<|by simp[zvH],λ_=>rfl⟩|i,x::l,kids,c=>by
  unfold zvH;split;·exact⟨λh=>absurd h<|by simp[zeD],λ_=>rfl⟩
  ·split;·grind
   ·exact zhH
theorem zhO {G cs}:∀{f}{root R b d},((zvD G cs f root R b d).k=0->(zvD G cs f root R b d).t=zvZ)/\((zvD G cs f root R b d).k≠0->(zvD G cs f root R b d).v=[])
 |0,_,_,_,_=>⟨λh=>absurd h<|by simp[zvD,zeD],λ_=>rfl⟩|f+1,root,R,b,d=>by
  unfold zvD;split;·exact⟨λh=>absurd h<|by simp[zeD],λ_=>rfl⟩
  ·dsimp only;split;·exact⟨λh=>absurd h<|by simp[zeD],λ_=>rfl⟩
   ·split;·grind
    ·split;·exact zhH
     ·split;·grind
      ·exact zhH
theorem zpI {bud kind index cell r st b}(h:st.length<=bud):(zvY bud kind index cell r st b).st.length<=bud:=by grind[zvY]
theorem zos {bud}{p:PR}{f}(h:p.st.length<=bud)(hf:∀st b,st.length<=bud->(f st b).st.length<=bud):(p.bind f).st.length<=bud:=by grind[PR.bind]
theorem zrz {bud i row}:∀{l}{p},p.st.length<=bud->(rowT bud i row l p).st.length<=bud|[],_,h=>h|t::l,p,h=>by exact zrz (l:=l)<|zos h λ_ _ h=>zpI h
theorem zqk {bud i row p}(h:p.st.length<=bud):(zc9 bud i row p).st.length<=bud:=zos h λst b h=>by grind[zrz]
theorem zm2 {bud}:∀{i}{l}{p},p.st.length<=bud->(zwg bud i l p).st.length<=bud|_,[],_,h=>h|i,r::l,p,h=>by exact zm2 (l:=l)<|zqk h
theorem zsV {bud i g}:∀{d k}{p},p.st.length<=bud->(grT bud i g d k p).st.length<=bud|0,_,_,h=>h|d+1,k,p,h=>by exact zsV (d:=d)<|zos h λ_ _ h=>zpI h
theorem zi5 {bud}:∀{i}{l}{p},p.st.length<=bud->(zb5 bud i l p).st.length<=bud|_,[],_,h=>h|i,g::l,p,h=>by exact zi5 (l:=l)<|zsV h
theorem zm3 {bud R G}:∀{f}{st b},st.length<=bud->(runU bud R G f st b).st.length<=bud
 |0,_,_,h=>h|f+1,st,b,h=>by
  have a:(zv6 bud R G st b).st.length<=bud:=zi5<|zm2 h;unfold runU;split;·exact zm3 a
  grind
theorem zeP {G cs}:∀{f}{root R b d},(zvD G cs f root R b d).k≠2->1<=(zvD G cs f root R b d).c/\(zvD G cs f root R b d).c<=d
 |0,_,_,_,_,h=>absurd rfl h|f+1,root,R,b,d,h=>by
  unfold zvD at h|-;split at h<;>rename_i hd;·exact absurd rfl h
  ·rw[if_neg hd];dsimp only at h|-;have hle:=zm3 (bud:=d-1) (R:=R) (G:=G) (f:=d) (st:=[]) (b:=b)<|by simp
   split at h<;>rename_i h2;·exact absurd rfl h
   ·rw[if_neg h2];split at h<;>rename_i h1;·grind
    ·rw[if_neg h1];split at h<;>rename_i hr;·rw[if_pos hr];have:=zi7 (λx _ d' hk=>(zeP hk).2) (by omega) h;omega
     ·rw[if_neg hr];split at h<;>rename_i hc;·grind
      ·rw[if_neg hc];have:=zi7 (λx _ d' hk=>(zeP hk).2) (by omega) h;omega
structure SysG (L:Nat)(G:List zvg)(cs:List<|List Row):Prop where
 gr:∀g∈G,∃K,GrOK L g K
 gl:G.length<=64
 ca:∀l∈cs,l.length<=64/\∀r∈l,RwOK L r
 cl:cs.length<=1024
 le:L<=128
theorem zse {b}:∀{k},ixA zxj b k<0\/∃i,∃hi:i<b.length,ixA zxj b k=((k+i:Nat):Int)/\b[i].lo<b[i].hi:=by induction b with
 |nil=>grind[ixA]|cons r b ih=>
  intro k;unfold ixA;by_cases h:zxj r=U
  ·rw[if_pos h];exact .inr ⟨0,by simp,rfl,by grind[zxj]⟩
  ·rcases ih (k:=k+1)with c|⟨i,hi,e,a⟩;·grind
   ·exact .inr ⟨i+1,by grind,by grind,by grind⟩
theorem zfc {b}(h:¬zu3 b<0):0<=zu3 b/\zu3 b<(b.length:Int)/\(rgP b<|zu3 b).lo<(rgP b<|zu3 b).hi:=by grind[zse,zu3,rgP]
theorem zpf {r x}(h:x∈zvM r)(hw:r.lo<r.hi):x.lo<=x.hi/\r.lo<=x.lo/\x.hi<=r.hi:=by
 simp only[zvM]at h;unfold midP at h;grind
theorem zgq {bud d L st b x}(h:PI bud L 0 st b)(hc:¬zu3 b<0)(hx:x∈zvM (rgP b<|zu3 b)):PI d L 0 []<|zvu b (zu3 b) x:=by
 obtain⟨e,g,f⟩:=zfc hc;have a:=zpf hx f;have c:=zoW h.box h.ne e g (λ_=>a.2) a.1;exact⟨c.1,by rw[zby,h.len],c.2,ym _,ym _⟩
theorem zh1 {bud d L st b}(h:PI bud L 0 st b):PI d L 0 [] b:=⟨h.box,h.len,h.ne,ym _,ym _⟩
theorem znc {n}{A B}(hA:A.length<=2000)(hB:B.length<=2000)(hn:1000000<=n):zi n [A,B]=O (A++B):=by
 have a0:zuN 0 1=1:=by grind[zuN,z9]
 have a1:zuN 1 1=2:=by grind[zuN,z9]
 have h1:=zy (body:=zi.l1 n [A,B]) (len:=2) (st:=λi=>((((([A,B]:List<|List Row).take i).map xh).sum:Nat),((i:Nat):Int))) (g:=λ_=>zuR (zi.l2 n [A,B]) n (([]:List Row),0)) (λrec i hi hr=>?_) (λrec=>?_) n 0 (ym _)<|by omega
 ·unfold zi;refine(show zuR (zi.l1 n [A,B]) n (0,0)=_ from h1).trans ?_;have h2:=zy (body:=zi.l2 n [A,B]) (len:=2) (st:=λi=>((([A,B]:List<|List Row).take i).flatten,((i:Nat):Int))) (g:=λ_=>O<|A++B) (λrec i hi hr=>?_) (λrec=>?_) n 0 (ym _)<|by omega
  ·exact h2
  ·rcases show i=0\/i=1 by omega with rfl|rfl
   ·simp only[zi.l2];rw[if_pos<|by simp,show idx [A,B] ((0:Nat):Int)=O A from rfl,ya,zl<|by grind,ya];grind
   ·simp only[zi.l2];rw[if_pos<|by simp,show idx [A,B] ((1:Nat):Int)=O B from rfl,ya,zl<|by grind,ya];grind
  ·simp[zi.l2]
 ·rcases show i=0\/i=1 by omega with rfl|rfl
  ·have e:zuN 0 (A.length:Int)=(A.length:Int):=by grind[zuN,z9]
   simp only[zi.l1];rw[if_pos<|by simp,show idx [A,B] ((0:Nat):Int)=O A from rfl,ya];grind
  ·have e:zuN (A.length:Int) (B.length:Int)=((A.length+B.length:Nat):Int):=zcL<|by omega
   simp only[zi.l1];rw[if_pos<|by simp,show idx [A,B] ((1:Nat):Int)=O B from rfl,ya];grind
 ·simp only[zi.l1];rw[if_neg<|by simp];simp only[grd];rw[if_pos<|by simp;omega]
theorem ztW {n}{t0}{t1}{t2}{b}{c}(h1:1<=b.length)(hl:b.length<=1000)(ht:b.length=t1.length)(hn:1000000<=n):((mkl 8 (b.length:Int) (0:Int)).bind λv=>zuR (zd.l13 n t0 t1 t2 b c) n (v,0))=O (O (⟨b.map (·.lo),gmax t2 0,zvZ⟩,⟨t0.s,t0.rows,t0.zvh,c⟩)):=by
 rw[mkl_0<|by omega,ya];have:=zbf (body:=zd.l13 n t0 t1 t2 b c) (len:=b.length) (st:=λs i=>(s,i)) (g:=λ_ _=>O<|O (⟨b.map (·.lo),gmax t2 0,zvZ⟩,⟨t0.s,t0.rows,t0.zvh,c⟩)) (λi s=>s=(b.map (·.lo)).take i++xy (b.length-i) 0) (λe i s h f k=>?_) (λe s f=>?_) n 0 (xy b.length 0) (ym _) (by omega)<|by simp
 ·grind
 ·have d:((b.map (·.lo)).take i).length=i:=by grind
  have a:i<s.length:=by grind
  simp only[zd.l13,zB h,zb h];rw[zb a,ya,zjP a,ya,ze (i:=i)<|by omega];refine k _ ?_;have l:i<(b.map (·.lo)).length:=by grind
  rw[f,yv l,show b.length-i=b.length-(i+1)+1 by omega,vw,uJ _ _<|by omega,d,uw,wP,yM];grind
 ·have j:s=b.map (·.lo):=by grind[xV]
  simp only[zd.l13,zat,ye,if_false,j,ht,decide_true,grd];rw[if_pos];·rfl
  grind
theorem zth {n}{b}(hl:b.length<=1000)(hn:1000000<=n):zf n b (λq0=>zbL n q0)=O (zu3 b):=by
 have:=zy (body:=zf.l1 n b λq0=>zbL n q0) (len:=b.length) (st:=λi=>i) (g:=λi=>O<|ixA zxj (b.drop i) i) (λa i c d=>?_) (λa=>?_) n 0 (ym _)<|by omega
 ·grind[zf,zu3]
 ·rw[zk c];simp only[zf.l1,zb c,zbL,ze (i:=i)<|by omega,ixA];unfold zxj at d|-;grind
 ·simp[zf.l1,ixA]
def OutW (t0:zvB)(L:Nat)(base:Int)(strict:Bool)(xe:NR)(w:Option<|Found×zvB):Prop:=xe.k=2/\w=Y\/xe.k≠2/\(xe.k=0->xe.v.length=L/\xe.v≠[])/\∃ix rows,w=O (⟨xe.v,ix,xe.t⟩,⟨t0.s,rows,t0.zvh,base+(xe.c:Int)⟩)/\(strict=U->rows=t0.rows)
def Out (t0:zvB)(L:Nat)(strict:Bool)(xe:NR)(r:Option<|Option<|Found×zvB):Prop:=∃w,r=O w/\OutW t0 L t0.cost strict xe w
theorem znN {α}{n d c0 L}{l:List α}{self}{tr}{ix}{t0}{strict}{body}(hs:∀x∈l,∀d',(self x d').k≠2->(self x d').c<=d')(hsh:∀x∈l,∀d',((self x d').k=0->(self x d').t=zvZ)/\((self x d').k≠0->(self x d').v=[]))(hc0:c0<=d)(hd:d<=65536)(hl:l.length<=1024)(hb:∀rec kids rows(c:Nat)i(hi),c0<=c->c<=d->kids.length=i->(strict=U->rows=t0.rows)->∃w,body rec (kids,t0.s.box,t0.s.rows,t0.s.zuT,t0.s.cases,rows,t0.zvh,t0.cost+(c:Int),(i:Int))=pnk w (λx=>(Go.Proofs.YtipkniadbkndfaaGreatDoor.app 72 kids [zvZ]).bind λx10=>(idx x10 (kids.length:Int)).bind λ_=>(sto x10 (kids.length:Int) x.1.tree).bind λb10=>if(!x.1.values.isEmpty)=U then O<|O (x.1,x.2)else rec (b10,x.2.s.box,x.2.s.rows,x.2.s.zuT,x.2.s.cases,x.2.rows,x.2.zvh,x.2.cost,zuN (i:Int) 1))/\OutW t0 L (t0.cost+(c:Int)) strict (self l[i]<|d-c) w)(he:∀rec kids rows(c:Nat),body rec (kids,t0.s.box,t0.s.rows,t0.s.zuT,t0.s.cases,rows,t0.zvh,t0.cost+(c:Int),(l.length:Int))=O (O (⟨[],0,tr kids⟩,⟨t0.s,rows,t0.zvh,t0.cost+(c:Int)⟩)))(hn:1000000<=n):Out t0 L strict (zvH self tr ix d 0 l [] c0)<|zuR body n (([]:List Tree),t0.s.box,t0.s.rows,t0.s.zuT,t0.s.cases,t0.rows,t0.zvh,t0.cost+(c0:Int),0):=by
 generalize hY:zvH self tr ix d 0 l [] c0=xe;refine zdI (σ:=List Tree×List Row×Nat) (body:=body) (k:=l.length) (st:=λs i=>(s.1,t0.s.box,t0.s.rows,t0.s.zuT,t0.s.cases,s.2.1,t0.zvh,t0.cost+(s.2.2:Int),(i:Int))) (λi s=>c0<=s.2.2/\s.2.2<=d/\s.1.length=i/\(strict=U->s.2.1=t0.rows)/\zvH self tr ix d i (l.drop i) s.1 s.2.2=xe) (λw=>OutW t0 L t0.cost strict xe w) (λrec i s hi hI hr=>?_) (λrec s hI=>?_) (by omega) ([],t0.rows,c0) ⟨yk _,hc0,rfl,λ_=>rfl,hY⟩
 ·obtain⟨kids,rows,c⟩:=s;obtain⟨i1,i2,i3,i4,i5⟩:=hI;simp only at i1 i2 i3 i4 i5;obtain⟨w,e,hw⟩:=hb rec kids rows c i hi i1 i2 i3 i4;simp only;rw[e,<-i5,zk hi];have hx:=hs _ (yg hi)<|d-c;have hy:=hsh _ (yg hi)<|d-c;rw[zk hi]at i5;unfold zvH at i5|-;generalize self l[i] (d-c)=y at*;rcases hw with⟨h2,rfl⟩|⟨h2,hsol,ix',rows',rfl,hst⟩;·rw[if_pos h2];exact⟨Y,rfl,.inl ⟨rfl,rfl⟩⟩
  ·rw[if_neg h2]at i5|-;have hx:=hx h2;have hkl:kids.length<(kids++[zvZ]).length:=by simp
   simp only[pnk];rw[app1<|by omega,ya,zb hkl,ya,zjP hkl,ya];have hset:(kids++[zvZ]).set kids.length y.t=kids++[y.t]:=by rw[uJ _ _<|yk _,uw];rfl
   rw[hset];by_cases h0:y.k=0
   ·obtain⟨hv1,hv2⟩:=hsol h0;rw[if_pos h0];rw[if_pos<|by cases hv:y.v with|nil=>exact absurd hv hv2|cons a l=>rfl];refine⟨_,rfl,.inr ⟨by simp,λ_=>⟨hv1,hv2⟩,ix',rows',?_,hst⟩⟩;rw[hy.1 h0];simp only[Int.natCast_add,Int.add_assoc]
   ·rw[if_neg h0]at i5|-;rw[if_neg<|by rw[hy.2 h0];simp];rw[ze (i:=i)<|by omega];obtain⟨r,e1,e2⟩:=hr (kids++[y.t],rows',c+y.c) ⟨by simp only;omega,by simp only;omega,by simp;omega,hst,i5⟩;refine⟨r,?_,by rw[i5];exact e2⟩;rw[<-e1];simp only[Int.natCast_add,Int.add_assoc]
 ·obtain⟨kids,rows,c⟩:=s;obtain⟨i1,i2,i3,i4,i5⟩:=hI;simp only[xS]at i1 i2 i3 i4 i5;simp only;rw[he,<-i5];exact⟨_,rfl,.inr ⟨by simp[zvH],λh=>absurd h<|by simp[zvH],0,rows,rfl,i4⟩⟩
theorem zqf {G cs f root R b d}(h:cs=[]):zvD G cs f root R b d=zvD G cs f M R b d:=by cases f with|zero=>rfl|succ f=>grind[zvD]
theorem zof {bud}:∀{i}{l}{p},(∃r∈l,zwu r=U)->(zwg bud i l p).k≠0
 |_,[],_,h=>by grind|i,r::l,p,h=>by
  unfold zwg;by_cases c:zwu r=U
  ·have e:(zc9 bud i r p).k≠0:=by
    by_cases d:p.k=0
    ·unfold zc9 PR.bind;grind
    grind[zjM]
   grind[zeR]
  ·obtain⟨x,a,b⟩:=h;rcases yF.1 a with rfl|a;·grind
   ·exact zof ⟨x,a,b⟩
theorem zsJ {bud R G f st b}(h:∃r∈R,zwu r=U):(runU bud R G (f+1) st b).k≠0:=by
 have a:(zv6 bud R G st b).k≠0:=by grind[zv6,zdw,zof]
 unfold runU;grind
theorem zfz {L}{S}(hS:SysG L S.zuT S.cases):∀(f n d:Nat)(t0)(b)(t2),1000000+f<=n->d<f->t0.s=S->0<=t0.cost->t0.zvh=t0.cost+(d:Int)->t0.zvh<=65536->(∀r∈t0.rows,RwOK L r)->t0.rows.length<=1024+(if t2<0 then 0 else 64)->(t2<0->t0.rows=S.rows)->(L=0->∃r∈t0.rows,zwu r=U)->PI 0 L 0 [] b->Out t0 L (!(Z (t2<0)&&!S.cases.isEmpty)) (zvD S.zuT S.cases f (Z<|t2<0) t0.rows b d) (zd n t0 b t2)
 |0,_,_,_,_,_,_,h,_,_,_,_,_,_,_,_,_=>by omega|f+1,n,d,t0,b,t2,hn,hd,hs,hc0,hbd,hle,hR,hRl,hroot,hE,hb=>by
  obtain⟨n,rfl⟩:∃m,n=m+1:=⟨n-1,by omega⟩;have hn1:1000000<=n:=by omega
  have hL:=hS.le;have hd6:d<=65536:=by omega
  have hR2:t0.rows.length<=1088:=by grind
  unfold zd zd.body zvD;by_cases hd0:d=0
  ·have hcb:(t0.cost==t0.zvh)=true:=by grind
   rw[if_pos hd0,if_pos hcb];simp only[decide_true,grd,if_true];exact⟨Y,rfl,.inl ⟨rfl,rfl⟩⟩
  ·have hcb:¬(t0.cost==t0.zvh)=true:=by grind
   rw[if_neg hd0,if_neg hcb];have hw:SW t0<|d-1:=⟨hc0,by omega,hle⟩;have hb1:PI (d-1) L 0 [] b:=zh1 hb;have hrun:=zst (n:=n) (self:=zd n) (t1:=b) (t2:=t2) hw hb.len (by omega) hR (by omega) (by rw[hs];exact hS.gr) (by rw[hs];have:=hS.gl;omega) hb1 hn1;have ec:zvK t0 []=zuN t0.cost 1:=by grind[zvK,zuN,z9]
   rw[show d-1+1=d by omega,ec]at hrun;have hp:=ziD (bud:=d-1) (f:=d) (show L<=1000 by omega) hR (show∀g∈t0.s.zuT,∃K,GrOK L g K by rw[hs];exact hS.gr) hb1;have hple:=zm3 (bud:=d-1) (R:=t0.rows) (G:=t0.s.zuT) (f:=d) (st:=[]) (b:=b)<|by simp
   have hvoid:L=0->(runU (d-1) t0.rows t0.s.zuT d [] b).k≠0:=λh=>by
    have:=zsJ (bud:=d-1) (R:=t0.rows) (G:=t0.s.zuT) (f:=d-1) (st:=[]) (b:=b)<|hE h;rwa[show d-1+1=d by omega]at this
   rw[hrun];rw[hs]at hp hple hvoid|-;generalize runU (d-1) t0.rows S.zuT d [] b=p at*;unfold finW;by_cases h2:p.k=2
   ·rw[if_pos h2,if_neg<|by omega,if_pos h2];exact⟨Y,rfl,.inl ⟨rfl,rfl⟩⟩
   ·rw[if_neg h2];have hcc:zvK t0 p.st=t0.cost+((1+p.st.length:Nat):Int):=by unfold zvK;omega
    by_cases h1:p.k≠0
    ·rw[if_pos h1,if_neg h1,if_neg h2];refine⟨_,rfl,.inr ⟨by simp,λh=>absurd h<|by simp,0,t0.rows,?_,λ_=>rfl⟩⟩;rw[hcc]
    ·have hk:p.k=0:=by omega
     have hI:=hp hk;have hbl:=hI.len;rw[if_neg h1,if_pos hk];unfold ziR;have hcases:(Z (0<(t0.s.cases.length:Int))&&Z (t2<0))=(Z (t2<0)&&!S.cases.isEmpty):=by
      rw[hs,Bool.and_comm];congr 1;rw[we];simp only[yf,yz,vg];rw[<-List.length_pos_iff];omega
     rw[hcases];by_cases hr:(Z (t2<0)&&!S.cases.isEmpty)=U
     ·rw[if_pos hr,if_pos hr,hcc,hr];simp only[yc,yf]at hr;have hrow:=hroot hr.1;rw[if_pos hr.1]at hRl;refine znN (ix:=id) (tr:=λkids=>⟨2,p.st,0,0,kids⟩) (self:=λcs d=>zvD S.zuT S.cases f M (t0.rows++cs) p.b d) (l:=S.cases) (λx _ d' hk=>(zeP hk).2) (λx _ d'=>zhO) (by omega) hd6 hS.cl (λrec kids rows c i hi hcc hcd hkl hst=>?_) (λrec kids rows c=>?_) hn1
      ·have hcs:=hS.ca _<|yg hi;have hi':i<t0.s.cases.length:=by rw[hs];exact hi
       have ei:t0.s.cases[i]=S.cases[i]:=by simp only[hs]
       have hsr:t0.s.rows=t0.rows:=by rw[hs];exact hrow.symm
       obtain⟨w,e,hw⟩:=zfz hS f n (d-c) ⟨t0.s,t0.rows++S.cases[i],t0.zvh,t0.cost+(c:Int)⟩ p.b (i:Int) (by omega) (by omega) hs (by simp only;omega) (by simp only;omega) hle (λr hr=>(yu.1 hr).elim (hR r)<|hcs.2 r) (by rw[if_neg<|show¬(i:Int)<0 by omega,yT];omega) (λh=>by omega) (λh=>by
        obtain⟨r,hr,hr2⟩:=hE h;exact⟨r,wm _ hr,hr2⟩)<|zh1 hI;rw[show Z ((i:Int)<0)=M by simp]at hw;refine⟨w,?_,?_⟩
       ·simp only[zd.l12,zB hi',if_true,zb hi',ya,ei,hsr];rw[znc (by omega) (by omega) hn1,ya,zl<|by simp;omega,ya];simp only[hbl,hb.len,decide_true,grd,if_true,yN];rw[show(⟨⟨t0.s.box,t0.rows,t0.s.zuT,t0.s.cases⟩,t0.rows++S.cases[i],t0.zvh,t0.cost+(c:Int)⟩:zvB)=⟨t0.s,t0.rows++S.cases[i],t0.zvh,t0.cost+(c:Int)⟩by rw[<-hsr],e,ya];rfl
       ·rcases hw with h|⟨h1,h2,ix',rows',h3,h4⟩;·exact .inl h
        ·exact .inr ⟨h1,h2,ix',rows',h3,λh=>absurd h<|by simp⟩
      ·have e1:t0.s.cases.length=S.cases.length:=by rw[hs]
       rw[<-e1];simp only[zd.l12,zat,ye,if_false,hbl,hb.len,decide_true,grd,if_true]
     ·rw[if_neg hr,if_neg hr,zth (by omega) hn1,ya];have hstrict:(!(Z (t2<0)&&!S.cases.isEmpty))=true:=by cases hx:Z (t2<0)&&!S.cases.isEmpty with
       |false=>rfl|true=>exact absurd hx hr
      rw[hstrict];by_cases hc:zu3 p.b<0
      ·have hL1:1<=L:=by
        rcases Nat.eq_zero_or_pos L with h|h;·exact absurd hk<|hvoid h
        ·exact h
       rw[if_pos<|show Z (zu3 p.b<0)=U by simpa using hc,if_pos hc,ztW (by omega) (by omega) (by rw[hbl,hb.len]) hn1];refine⟨_,rfl,.inr ⟨by simp,λ_=>⟨by simp[hbl],λh=>?_⟩,gmax t2 0,t0.rows,?_,λ_=>rfl⟩⟩
       ·have:=congrArg xh h;rw[yL,hbl,ul]at this;omega
       ·rw[hcc]
      ·obtain⟨c0,c1,c2⟩:=zfc hc;have hmem:=zkl hI.box _<|zhy c0 c1;have hmid:zuN (midP<|rgP p.b<|zu3 p.b) 1=midP (rgP p.b<|zu3 p.b)+1:=by unfold midP zuN;rw[z9 (by omega)<|by omega]
       rw[if_neg<|show¬Z (zu3 p.b<0)=U by simpa using hc,if_neg hc,zfJ c0 c1,ya,zqx (box1 hI.box<|zhy c0 c1) hn1,ya,ya,ya,hcc];refine znN (ix:=λ_=>0) (tr:=λkids=>⟨1,p.st,zu3 p.b,midP<|rgP p.b<|zu3 p.b,kids⟩) (self:=λr d=>zvD S.zuT S.cases f M t0.rows (zvu p.b (zu3 p.b) r) d) (l:=zvM<|rgP p.b<|zu3 p.b) (λx _ d' hk=>(zeP hk).2) (λx _ d'=>zhO) (by omega) hd6 (by simp[zvM]) (λrec kids rows c i hi hcc hcd hkl hst=>?_) (λrec kids rows c=>?_) hn1
       ·have hx:=zgq (d:=0) hI hc<|yg hi;have hrows:=hst rfl;obtain⟨w,e,hw⟩:=zfz hS f n (d-c) ⟨t0.s,t0.rows,t0.zvh,t0.cost+(c:Int)⟩ (zvu p.b (zu3 p.b) (zvM<|rgP p.b<|zu3 p.b)[i]) t2 (by omega) (by omega) hs (by simp only;omega) (by simp only;omega) hle hR hRl hroot hE hx;rw[hstrict]at hw;have hnr:zvD S.zuT S.cases f (Z<|t2<0) t0.rows (zvu p.b (zu3 p.b) (zvM<|rgP p.b<|zu3 p.b)[i]) (d-c)=zvD S.zuT S.cases f M t0.rows (zvu p.b (zu3 p.b) (zvM<|rgP p.b<|zu3 p.b)[i]) (d-c):=by
         by_cases h:t2<0;·refine zqf ?_;simp only[h,decide_true,yA,yz,vg]at hr;exact Classical.not_not.1 hr
         ·rw[show Z (t2<0)=M by simpa using h]
        simp only at hw;rw[hnr]at hw;refine⟨w,?_,hw⟩;have hi2:i<2:=by simpa[zvM]using hi
        have hsto:∀r,sto p.b (zu3 p.b) r=O (zvu p.b (zu3 p.b) r):=zm5 c0 c1;subst hrows;rcases show i=0\/i=1 by omega with rfl|rfl
        ·simp only[zd.l14,hmid];rw[if_pos<|by simp,show idx [(⟨(rgP p.b<|zu3 p.b).lo,midP<|rgP p.b<|zu3 p.b⟩:Range),⟨midP (rgP p.b<|zu3 p.b)+1,(rgP p.b<|zu3 p.b).hi⟩] ((0:Nat):Int)=O ⟨(rgP p.b<|zu3 p.b).lo,midP<|rgP p.b<|zu3 p.b⟩from rfl,ya,zl<|by simp;omega,ya,yN,zfJ c0 c1,ya,hsto,ya];simp only[hbl,hb.len,decide_true,grd,if_true];simp only[zvM,List.getElem_cons_zero]at e;rw[e,ya];rfl
        ·simp only[zd.l14,hmid];rw[if_pos<|by simp,show idx [(⟨(rgP p.b<|zu3 p.b).lo,midP<|rgP p.b<|zu3 p.b⟩:Range),⟨midP (rgP p.b<|zu3 p.b)+1,(rgP p.b<|zu3 p.b).hi⟩] ((1:Nat):Int)=O ⟨midP (rgP p.b<|zu3 p.b)+1,(rgP p.b<|zu3 p.b).hi⟩from rfl,ya,zl<|by simp;omega,ya,yN,zfJ c0 c1,ya,hsto,ya];simp only[hbl,hb.len,decide_true,grd,if_true];simp only[zvM,List.getElem_cons_succ,List.getElem_cons_zero]at e;rw[e,ya];rfl
       ·simp only[zd.l14];rw[if_neg<|by simp[zvM]];simp only[hbl,hb.len,decide_true,grd,if_true]
def rowH (x:List Int)(r:Row):Bool:=Z<|sumP x r.zuQ<=r.bound
def zyz (x:List Int)(g:zvg)(a b:Nat):Bool:=Z<|g.least.getD (a*g.size.toNat+b) 0<=x.getD (g.first+((a*g.size.toNat+b:Nat):Int)).toNat 0
def zcd (x:List Int)(g:zvg):Bool:=zwZ (zyz x g) g.size.toNat
theorem zon {E F K}(h:∀a b,a<K->b<K->E a b=F a b):zwZ E K=zwZ F K:=by rw[we];exact⟨ziQ λa b ha hb hF=>by rw[h a b ha hb];exact hF,ziQ λa b ha hb hE=>by rw[<-h a b ha hb];exact hE⟩
theorem zow {n a r}(ha:zvV a)(hd:ze6 a.effect.delta)(ht:∀t∈r.zuQ,-1000<=t.zuW/\t.zuW<=1000)(hl:r.zuQ.length<=1000)(hn:1000000<=n):chgN n a r=chgP a.effect.delta r.zuQ:=by
 have:=ha.delta;grind[chgN,zcE,zkp]
def zeT (q:Question)(a b:Action):List Row:=a.effect.hold++if(q.e !=q.f)=U then b.effect.hold else[]
noncomputable def zc1 (n:Nat)(m:Model)(q:Question)(a b:Action):List zvg:=(xn m.constraints.length).flatMap λi=>gS n (q.e !=q.f) a b<|m.constraints.getD i J
def zkP (r:Row)(x:Int):Row:=⟨r.zuQ.map λt=>⟨t.cell,zvC t.zuW⟩,zuY (zuN (zvC r.bound) x) 1⟩
inductive Tgt (n:Nat)(m:Model)(q:Question)(a b:Action)(box:List Range):List Row->List (List Row)->Prop|hold(r:Row):q.target.hold=U->idx a.effect.hold q.target.index=O r->Tgt n m q a b box [zkP r<|chgN n b r] []|row(c:Constraint):q.target.hold=M->idx m.constraints q.target.index=O c->c.kind=0->Tgt n m q a b box [zkP c.row<|zuN (chgN n a c.row)<|chgN n b c.row] []|none(c:Constraint)(s:Nat):q.target.hold=M->idx m.constraints q.target.index=O c->c.kind=1->c.size=(s:Int)->zh5 (zA a.effect.delta) (zA b.effect.delta) box c s=[]->Tgt n m q a b box [⟨[],-1⟩] []|graph(c:Constraint)(s:Nat):q.target.hold=M->idx m.constraints q.target.index=O c->c.kind=1->c.size=(s:Int)->zh5 (zA a.effect.delta) (zA b.effect.delta) box c s≠[]->Tgt n m q a b box [] (zh5 (zA a.effect.delta) (zA b.effect.delta) box c s)
theorem zpM {n m q a b box}(ha:zvV a)(hb:zvV b)(hc:∀c∈m.constraints,zwo box.length c)(sa:zv0 a)(sb:zv0 b)(hl:m.constraints.length<=1000)(hbx:box.length<=1000)(hh:q.target.hold=U->0<=q.target.index/\q.target.index<(a.effect.hold.length:Int))(hh2:q.target.hold=M->0<=q.target.index/\q.target.index<(m.constraints.length:Int))(hn:1000000<=n):∃(xe:List Row)(cs:List<|List Row),Tgt n m q a b box xe cs/\((zeT q a b++xe).length<=30/\∀r∈zeT q a b++xe,r.zuQ.length<=1000)/\((zc1 n m q a b).length<=3000/\∀g∈zc1 n m q a b,g.least.length<=36)/\zgo cs/\∀R,R.length<=1000->zxV n m q a b box R=endS n ⟨box,R++(zeT q a b++xe),zc1 n m q a b,cs⟩ (zas n ⟨box,R++(zeT q a b++xe),zc1 n m q a b,cs⟩):=by
 obtain⟨H,hH⟩:∃H:List Row,H=zeT q a b:=⟨_,rfl⟩;have hHl:H.length<=20/\∀r∈H,r.zuQ.length<=1000:=by
  have h1:=ha.hold;have h2:=hb.hold;rw[hH];unfold zeT;constructor;·grind
  ·intro r hr;rcases yu.1 hr with hr|hr;·exact ha.zuQ r hr
   ·split at hr;·exact hb.zuQ r hr
    ·simp at hr
 have hstep:∀R:List Row,R.length<=1000->zxV n m q a b box R=zdE n m q a b box (R++H):=λR hR=>by
  have h1:=ha.hold;have h2:=hb.hold;have hloop:zuR (zh.l3 n m q a b box H) n (R,0)=zdE n m q a b box (R++H):=by
   have:=zel (body:=zh.l3 n m q a b box H) (l:=H) (n:=n) (st:=λb i=>(b,(i:Int))) (λr:Row=>r) (zdE n m q a b box) R (λrec b6 i hi hb6=>?_) (λrec b6 hb6=>?_)<|by omega
   ·simpa using this
   ·simp only[zh.l3,zB hi,if_true,zb hi,ya,zrK (hHl.2 _<|yg hi) hn];rw[zl<|by first|omega|(simp;omega),ya,ze<|by omega]
   ·simp only[zh.l3,zat,ye,if_false];rfl
  unfold zxV;simp only[jn];rw[zl<|by first|omega|(simp;omega),ya,yN];by_cases he:(q.e !=q.f)=U;·rw[if_pos he,zl<|by first|omega|(simp;omega),ya,<-hloop,hH,zeT,if_pos he]
  ·rw[if_neg he,<-hloop,hH,zeT,if_neg he,ue]
 obtain⟨G,hG⟩:∃G,G=zc1 n m q a b:=⟨_,rfl⟩;have hGl:G.length<=3000/\∀g∈G,g.least.length<=36:=by
  have key:∀k,k<=m.constraints.length->((xn k).flatMap λi=>gS n (q.e !=q.f) a b<|m.constraints.getD i J).length<=3*k/\∀g∈(xn k).flatMap λi=>gS n (q.e !=q.f) a b<|m.constraints.getD i J,g.least.length<=36:=by
   intro k;induction k with|zero=>intro _;simp|succ k ih=>
    intro hk;obtain⟨i1,i2⟩:=ih (by omega);have e:m.constraints.getD k J=m.constraints[k]'(by omega):=by simp[vy,show k<m.constraints.length by omega]
    obtain⟨g1,g2⟩:=zpb (n:=n) (ef:=q.e !=q.f) ha hb (hc _<|yg<|show k<m.constraints.length by omega) hn;rw[zjd,e];constructor;·rw[yT];omega
    ·intro g hg;rcases yu.1 hg with hg|hg;·exact i2 g hg
     ·exact g2 g hg
  rw[hG];obtain⟨k1,k2⟩:=key _<|yk _;unfold zc1;exact⟨by omega,k2⟩
 have h0:∀(c:Constraint)(R:List Row),(c.kind==1)=M->finS n box a b R c G=endS n ⟨box,R,G,[]⟩ (zas n ⟨box,R,G,[]⟩):=λc R hk=>by unfold finS;simp only[jn,hk,ye,if_false];rfl
 have c0:zgo []:=⟨by simp,by simp⟩;rw[<-hG,<-hH];cases hhold:q.target.hold with
 |true=>
  obtain⟨i1,i2⟩:=hh hhold;obtain⟨r,hr⟩:=zaM i1 i2;have hrl:=ha.zuQ r<|zaA hr;have hx:=zeL hb hrl hn;have hnr:=zeM (n:=n) (r:=r) (f:=λq0=>za1 n q0) (g:=λq0=>zaw n q0<|chgN n b r) (fP:=zvC) (B:=zuY (zuN (zvC r.bound)<|chgN n b r) 1) (λ_=>rfl) rfl hrl hn;refine⟨_,_,.hold r hhold hr,⟨by first|omega|(simp;omega),λs hs=>?_⟩,hGl,c0,λR hR=>?_⟩
  ·rcases yu.1 hs with hs|hs;·exact hHl.2 s hs
   ·simp at hs;subst hs;simpa[zkP]using hrl
  ·rw[hstep R hR];unfold zdE;simp only[jn,hhold,if_true,hr,ya,hx,hnr];rw[zl<|by first|omega|(simp;omega),ya];have:=zj5 (q:=q) (a:=a) (b:=b) (box:=box) (R:=R++H++[zkP r<|chgN n b r]) (c:=⟨0,0,⟨[],0⟩,0,0⟩) ha hb hc hl hn;rw[<-zc1,<-hG]at this;rw[yM]at this|-;exact this.trans<|h0 _ _ rfl|false=>
  obtain⟨i1,i2⟩:=hh2 hhold;obtain⟨c,hcx⟩:=zaM i1 i2;have hco:=hc c<|zaA hcx;have hgl:=λR:List Row=>zj5 (q:=q) (a:=a) (b:=b) (box:=box) (R:=R) (c:=c) ha hb hc hl hn;rw[<-zc1,<-hG]at hgl;rcases hco.kind with hk|hk
  ·have hx:=zeL ha hco.len hn;have hy:=zeL hb hco.len hn;have hnr:=zeM (n:=n) (r:=c.row) (f:=λq0=>za1 n q0) (g:=λq0=>zaw n q0<|zuN (chgN n a c.row)<|chgN n b c.row) (fP:=zvC) (B:=zuY (zuN (zvC c.row.bound)<|zuN (chgN n a c.row)<|chgN n b c.row) 1) (λ_=>rfl) rfl hco.len hn;refine⟨_,_,.row c hhold hcx hk,⟨by first|omega|(simp;omega),λs hs=>?_⟩,hGl,c0,λR hR=>?_⟩
   ·rcases yu.1 hs with hs|hs;·exact hHl.2 s hs
    ·simp at hs;subst hs;simpa[zkP]using hco.len
   ·rw[hstep R hR];unfold zdE;have hk':(c.kind==0)=true:=by simp[hk]
    simp only[jn,hhold,ye,if_false,hcx,ya,hk',if_true,hx,hy,hnr];rw[zl<|by first|omega|(simp;omega),ya,yM];exact(hgl _).trans<|h0 _ _<|by simp[hk]
  ·obtain⟨s,s1,s2,s3,s4,s5⟩:=hco.sz hk;obtain⟨cs,hcs,hcsO⟩:=znn (n:=n) (box:=box) (e:=a) (f:=b) s1 s2 s3 s4 s5 hbx ha.delta hb.delta hn;have hcq:cs=zh5 (zA a.effect.delta) (zA b.effect.delta) box c s:=by have:=(zlI (n:=n) (c:=c) sa sb s3 hn (box:=box) s1 s2 s4 s5 hbx).1;rw[hcs]at this;exact vJ this
   have hk0:(c.kind==0)=false:=by simp[hk]
   have hk1:(c.kind==1)=true:=by simp[hk]
   by_cases he:cs=[]
   ·have he':((cs.length:Int)==0)=true:=by simp[he]
    refine⟨_,_,.none c s hhold hcx hk s1<|hcq▸he,⟨by first|omega|(simp;omega),λs hs=>?_⟩,hGl,c0,λR hR=>?_⟩
    ·rcases yu.1 hs with hs|hs;·exact hHl.2 s hs
     ·simp at hs;subst hs;simp
    ·rw[hstep R hR];unfold zdE;simp only[jn,hhold,ye,if_false,hcx,ya,hk0];refine(hgl _).trans ?_;unfold finS;simp only[jn,hk1,if_true,hcs,ya,he'];rw[zl<|by first|omega|(simp;omega),ya,yM,he];rfl
   ·have he':¬((cs.length:Int)==0)=true:=by simp[he]
    refine⟨_,_,.graph c s hhold hcx hk s1<|hcq▸he,⟨by simpa using(by omega:H.length<=30),by simpa using hHl.2⟩,hGl,hcq▸hcsO,λR hR=>?_⟩;rw[hstep R hR];unfold zdE;simp only[jn,hhold,ye,if_false,hcx,ya,hk0];refine(hgl _).trans ?_;unfold finS;simp only[jn,hk1,if_true,hcs,ya];rw[if_neg he',<-hcq,ue];rfl
theorem gr_eq {n K:Nat}{c}{s:Nat}{f}{fP:Int->Int}(hs:c.size=(s:Int))(h6:s<=6)(hf:∀x,f x=O (fP x))(hn:1000000<=n):gr n c f=⟨c.first,c.size,(xn<|s*s).map λi:Nat=>zuY 1<|fP<|zuN c.first (i:Int)⟩:=by
 have e:=yZ h6 h6;have b:zuZ c.size c.size=(s*s:Nat):=by grind[zg4]
 have:zI n c f=O ⟨c.first,c.size,(xn<|s*s).map λi:Nat=>zuY 1<|fP<|zuN c.first i⟩:=by
  unfold zI;have:=zy (body:=zI.l1 n c f) (len:=s*s) (st:=λi=>((xn i).map λi:Nat=>zuY 1<|fP<|zuN c.first i,i)) (g:=λ_=>O ⟨c.first,c.size,(xn<|s*s).map λi:Nat=>zuY 1<|fP<|zuN c.first i⟩) (λa i h d=>?_) (λa=>?_) n 0 (ym _)<|by omega
  ·grind
  ·simp only[zI.l1];grind[zl,ze,List.range_succ]
  ·simp only[zI.l1,b,zhl<|yk _,ye,if_false]
 grind[gr]
theorem zmz {n K}{c}{x y}{f}{fP:Int->Int}(hc:zwo K c)(hk:c.kind=1)(hx:x.length=K)(hK:K<=1000)(hf:∀z,f z=O (fP z))(hsm:∀z,-4000000000<=fP z/\fP z<=4000000000)(hy:∀i,0<=i->i<(K:Int)->y.getD i.toNat 0=x.getD i.toNat 0+fP i)(hn:1000000<=n):zcd x (gr n c f)=zag c y:=by
 obtain⟨s,e,p,h,o,m⟩:=hc.sz hk;rw[gr_eq (K:=K) e h hf hn];unfold zcd zag;rw[if_pos hk];simp only[e,yr];refine zon λa b j k=>?_;have l:=ze1 j k;have d:c.first+a*s+b=c.first+(a*s+b:Nat):=by grind
 have g:=hsm<|c.first+(a*s+b:Nat);unfold zyz zvX;rw[we];simp only[yf,e,yr,d];rw[hy _ (by omega)<|by omega,yO,y6,td l];simp only[yQ,yj];rw[zcD (by omega)<|by omega,zkd (by omega)<|by omega];omega
theorem zmb {K x}(hp:zvW K x){j}(hj:j<x.length):vtx x j<K/\x.getD j 0=((vtx x j:Nat):Int):=by
 have a:=hp.mem x[j]<|yg hj;grind[vtx]
section
variable{c:Constraint}{K:Nat}{box:List Range}{s:List Int}{da db:List Change}
theorem zoY (hs:c.size=(K:Int))(h6:K<=6)(h0:0<=c.first)(h1:c.first<=1000000){x}(hp:zvW K x){i}(hi:i<x.length):zcU c x i=c.first+((vtx x i*K+vtx x ((i+1)%x.length):Nat):Int):=by
 obtain⟨d,f⟩:=zmb hp hi;obtain⟨b,g⟩:=zmb hp<|wX (i+1) (show 0<x.length by omega);have e:=ze1 d b;have a:=yZ h6 h6;grind[zcU,zg4,zcD]
theorem znq (hs:c.size=(K:Int))(h0:0<=c.first)(hf:c.first+((K*K:Nat):Int)<=(s.length:Int)){a b}(ha:a<K)(hb:b<K):zvX (zu4 s da) c a b=Z (1<=s.getD (c.first+((a*K+b:Nat):Int)).toNat 0+zA da (c.first+((a*K+b:Nat):Int))):=by
 have d:=ze1 ha hb;grind[zvX,zg6]
theorem zi1 (hs:c.size=(K:Int))(h0:0<=c.first)(hf:c.first+((K*K:Nat):Int)<=(s.length:Int)){a b}(ha:a<K)(hb:b<K):zvX (zu4 (zu4 s da) db) c a b=Z (1<=s.getD (c.first+((a*K+b:Nat):Int)).toNat 0+zA da (c.first+((a*K+b:Nat):Int))+zA db (c.first+((a*K+b:Nat):Int))):=by have hp:=ze1 ha hb;rw[znq hs h0 (by rw[zd9];exact hf) ha hb,zg6 (by omega)<|by omega]
theorem zo3 (hs:c.size=(K:Int))(h6:K<=6)(h0:0<=c.first)(hf:c.first+((K*K:Nat):Int)<=(s.length:Int))(hl:s.length<=1000)(hA:ze6 da)(hB:ze6 db){x}(hp:zvW K x){i}(hi:i<x.length):rowH s (zi0 (zA da) (zA db) c x i)=zvX (zu4 (zu4 s da) db) c (vtx x i) (vtx x<|(i+1)%x.length):=by
 have b:=(zmb hp hi).1;have a:=(zmb hp<|wX (i+1)<|show 0<x.length by omega).1;rw[zi1 hs h0 hf b a];unfold rowH zi0;rw[zoY hs h6 h0 (by omega) hp hi];have e:=zcj hA<|c.first+(vtx x i*K+vtx x ((i+1)%x.length));have d:=zcj hB<|c.first+(vtx x i*K+vtx x ((i+1)%x.length));grind[sumP,zcD,zkd]
theorem znm (hk:c.kind=1)(hs:c.size=(K:Int))(h6:K<=6)(h0:0<=c.first)(hf:c.first+((K*K:Nat):Int)<=(box.length:Int))(hg:zvT box=U)(hx:zvl box s=U)(hl:box.length<=1000)(hA:ze6 da)(hB:ze6 db)(ha:zag c (zu4 s da)=U)(hb:zag c (zu4 s db)=U):(zh5 (zA da) (zA db) box c K).any (λrows=>rows.all<|rowH s)=!zag c (zu4 (zu4 s da) db):=by
 have hxl:=zeV hx;have hK:c.size.toNat=K:=by omega
 have h36:K*K<=36:=yZ h6 h6;have hfs:c.first+((K*K:Nat):Int)<=(s.length:Int):=by omega
 have hbig:∀a b,a<K->b<K->zvX (zu4 (zu4 s da) db) c a b=U->hasP ⟨(K:Int),(xn<|K*K).map λi:Nat=>Z<|1<=zuN ((idx box<|zuN c.first (i:Int)).getD J).hi (zuN (zA da<|zuN c.first (i:Int))<|zA db<|zuN c.first (i:Int))⟩ a b=true:=by
  intro a b h1 h2 he;have hp:=ze1 h1 h2;rw[zi1 hs h0 hfs h1 h2]at he;have e1:zuN c.first ((a*K+b:Nat):Int)=c.first+((a*K+b:Nat):Int):=zcD (by omega)<|by omega
  obtain⟨z,hz⟩:=y9 (show 0<=c.first+((a*K+b:Nat):Int)by omega);have hzl:z<box.length:=by omega
  have hin:=zfK hx z hzl (by omega);have hgz:=yq.1 hg _<|yg hzl;simp only[yc,yf]at hgz;have a1:=zcj hA (z:Int);have b1:=zcj hB (z:Int);unfold hasP;simp only[yr];rw[yO,y6,td hp];simp only[yQ,yj,e1];rw[hz,yr]at he;rw[hz,zb hzl,yj,zcD (x:=zA da (z:Int)) (by omega)<|by omega,zcD (by omega)<|by omega];grind
 have hrows:∀x,zvW K x->(((xn x.length).map<|zi0 (zA da) (zA db) c x).all (rowH s)=U↔zx0 (zvX (zu4 (zu4 s da) db) c) x):=λx hp=>by
  rw[List.all_map,yq];unfold zx0;constructor
  ·intro h i hi;have:=h i<|yU.2 hi;rwa[Function.comp_apply,zo3 hs h6 h0 hfs (by omega) hA hB hp hi]at this
  ·intro h i hi;rw[Function.comp_apply,zo3 hs h6 h0 hfs (by omega) hA hB hp<|yU.1 hi];exact h i<|yU.1 hi
 have hup:∀(d e:List Change)x,x∈cycP (zvX (zu4 (zu4 s da) db) c) K->zag c (zu4 s e)=U->(∀z,zA da z+zA db z=zA d z+zA e z)->(xn x.length).any (λi=>Z<|0<zA d (zcU c x i))=true:=by
  intro d e x hxc hh hsum;have hp:=zgw hxc;refine xG λhno=>?_;simp only[yR,vM,yU,yf]at hno;have hin:zx0 (zvX (zu4 s e) c) x:=λi hi=>by have v1:=(zmb hp hi).1;have w1:=(zmb hp<|wX (i+1)<|show 0<x.length by omega).1;have h1:=zmp hxc i hi;have h2:=hno i hi;rw[zoY hs h6 h0 (by omega) hp hi]at h2;rw[zi1 hs h0 hfs v1 w1]at h1;rw[znq hs h0 hfs v1 w1];have h3:=hsum<|c.first+((vtx x i*K+vtx x ((i+1)%x.length):Nat):Int);simp only[yf]at h1|-;omega
  unfold zag at hh;rw[if_pos hk,hK]at hh;exact zfG.1 hh x<|zkt hxc hin
 have hab:zag c (zu4 (zu4 s da) db)=zwZ (zvX (zu4 (zu4 s da) db) c) K:=by unfold zag;rw[if_pos hk,hK]
 rw[hab,we,yz,<-yR,zfG,ut];constructor
 ·rintro⟨rows,hr,hall⟩hno;obtain⟨x,hx1,hx2⟩:=ud.1 hr;have hp:=zgw hx1;unfold zdZ at hx2;split at hx2;·simp only[yK]at hx2;subst hx2;exact hno x<|zkt hx1<|(hrows x hp).1 hall
  ·simp at hx2
 ·intro hex;obtain⟨x,hxc⟩:∃x,x∈cycP (zvX (zu4 (zu4 s da) db) c) K:=xG λh=>hex λx hx=>h ⟨x,hx⟩;have hp:=zgw hxc;have hin:=zmp hxc;refine⟨_,ud.2 ⟨x,zkt hxc<|hin.mono hp hbig,?_⟩,(hrows x hp).2 hin⟩;unfold zdZ;rw[if_pos];·exact yK.2 rfl
  ·rw[hup da db x hxc hb λ_=>rfl,hup db da x hxc ha λz=>Int.add_comm _ _];rfl
theorem znH {x}(h1:-1000000000000000000<=x)(h2:x<=1000000000000000000):zvC x=-x:=by grind[zvC,z9]
theorem zrS {K}:∀{l},(∀t∈l,zfU K t)->sumP s (l.map λt=>⟨t.cell,zvC t.zuW⟩)=-sumP s l|[],_=>rfl|t::l,h=>by obtain⟨-,-,b,c⟩:=h t (by simp);simp only[yX,sumP];rw[zrS λu a=>h u<|by simp[a],znH (by omega)<|by omega,Int.neg_mul];omega
theorem zpt {K r x}(ht:∀t∈r.zuQ,zfU K t)(hb:-1000000000<=r.bound/\r.bound<=1000000000)(hx:-1000000000000000000<=x/\x<=1000000000000000000):rowH s (zkP r x)=!decide (sumP s r.zuQ+x<=r.bound):=by
 unfold rowH zkP;rw[zrS ht,znH (by omega)<|by omega,zcD (by omega)<|by omega,zkd (by omega)<|by omega,we];grind
end
theorem zkx {x y B}:gmax x y<=B↔x<=B/\y<=B:=⟨λh=>by have:=zmw x y;omega,λh=>zmx h.1 h.2⟩
def relQ (q:Question)(i:Int):Bool:=q.target.hold||q.target.index !=i
def zfY (m:Model)(q:Question)(a b:Action)(s:List Int):Bool:=if q.target.hold=U then !zag ⟨0,0,(idx a.effect.hold q.target.index).getD J,0,0⟩ (zu4 s b.effect.delta)else !zag ((idx m.constraints q.target.index).getD J) (zu4 (zu4 s a.effect.delta) b.effect.delta)
def zdS (m:Model)(q:Question)(rows:List Int)(a b:Action)(s:List Int):Bool:=zx9 m a.effect s&&zx9 m b.effect s&&(rows.all (λi=>!(relQ q i&&!zag ((idx m.constraints i).getD J) (zu4 (zu4 s a.effect.delta) b.effect.delta)))&&zfY m q a b s)
structure zvQ (n:Nat)(m:Model)(q:Question)(a b:Action)(s:List Int):Prop where
 small:zvn m
 valid:zwb m
 zyq:zeA m q=U
 ha:idx m.zuP q.e=O a
 hb:idx m.zuP q.f=O b
 box:zvl (boxM m) s=U
 len:(boxM m).length<=100
 fuel:4294967296<=n
section
variable{n:Nat}{m:Model}{q:Question}{rows:List Int}{a b:Action}{s:List Int}
theorem zvQ.state (h:zvQ n m q a b s):zyv m s:=zsE h.valid.lay h.box
theorem zvQ.conIn (h:zvQ n m q a b s){c}(hc:c∈m.constraints):zyV c s.length:=by rw[h.state.len];exact zqL h.small h.valid hc
theorem zvQ.zyk (h:zvQ n m q a b s){c}(hc:c∈m.constraints):zwo (boxM m).length c:=zqM h.small h.valid hc
theorem zvQ.dA (h:zvQ n m q a b s):ze6 a.effect.delta/\∀r∈a.effect.hold,zvE (boxM m).length r=true:=zkg h.valid<|zaA h.ha
theorem zvQ.dB (h:zvQ n m q a b s):ze6 b.effect.delta/\∀r∈b.effect.hold,zvE (boxM m).length r=true:=zkg h.valid<|zaA h.hb
theorem zvQ.oA (h:zvQ n m q a b s):zvV a:=zjp h.small<|zaA h.ha
theorem zvQ.oB (h:zvQ n m q a b s):zvV b:=zjp h.small<|zaA h.hb
theorem zvQ.sA (h:zvQ n m q a b s):zv0 a:=zhb h.fuel h.small h.valid<|zaA h.ha
theorem zvQ.sB (h:zvQ n m q a b s):zv0 b:=zhb h.fuel h.small h.valid<|zaA h.hb
theorem zvQ.same (h:zvQ n m q a b s)(he:(q.e !=q.f)=M):a=b:=by
 have e:q.e=q.f:=by grind
 have c:=h.ha;rw[e,h.hb]at c;grind
theorem zvQ.row (h:zvQ n m q a b s){c}(hc:c∈m.constraints)(hk:c.kind=0):(∀t∈c.row.zuQ,zfU s.length t)/\c.row.zuQ.length<=1000/\(-1000000000<=c.row.bound/\c.row.bound<=1000000000)/\chgN n a c.row=chgP a.effect.delta c.row.zuQ/\chgN n b c.row=chgP b.effect.delta c.row.zuQ/\(-1000000000000000<=chgN n a c.row/\chgN n a c.row<=1000000000000000)/\-1000000000000000<=chgN n b c.row/\chgN n b c.row<=1000000000000000:=by
 have f:1000000<=n:=by have:=h.fuel;omega
 have g:=zqK h.valid hc hk;have i:-1000000000<=c.row.bound/\c.row.bound<=1000000000:=by simp only[zvE,zaZ,yc,yf]at g;omega
 have d:=(h.zyk hc).len;have ht:=by cases h.conIn hc with|row _ ht _ _=>exact ht|graph _ hk1=>omega
 have e:=λt h=>(ht t h).2.2;exact⟨ht,d,i,zow h.oA h.dA.1 e d f,zow h.oB h.dB.1 e d f,zov h.oA h.dA.1 e d f,zov h.oB h.dB.1 e d f⟩
theorem zeU {c}(hk:c.kind=0)(x):zag c x=Z (sumP x c.row.zuQ<=c.row.bound):=by unfold zag;grind
theorem zrA (h:zvQ n m q a b s):(zwH n m q rows a b).all (rowH s)=U↔∀i(hi:i<m.constraints.length),m.constraints[i].kind=0->((zag m.constraints[i] s=U/\zag m.constraints[i] (zu4 s a.effect.delta)=U)/\zag m.constraints[i] (zu4 s b.effect.delta)=U)/\((i:Int)∈rows->relQ q (i:Int)=U->zag m.constraints[i] (zu4 (zu4 s a.effect.delta) b.effect.delta)=U):=by
 unfold zwH;rw[List.all_flatMap,yq];have key:∀i(hi:i<m.constraints.length),(rowS n q rows a b i<|m.constraints.getD i J).all (rowH s)=U↔m.constraints[i].kind=0->((zag m.constraints[i] s=U/\zag m.constraints[i] (zu4 s a.effect.delta)=U)/\zag m.constraints[i] (zu4 s b.effect.delta)=U)/\((i:Int)∈rows->relQ q (i:Int)=U->zag m.constraints[i] (zu4 (zu4 s a.effect.delta) b.effect.delta)=U):=λi hi=>by
  have e:m.constraints.getD i J=m.constraints[i]:=by grind[vy]
  rw[e];unfold rowS;by_cases hk:m.constraints[i].kind=0
  ·obtain⟨ht,hlen,hbd,ea,eb,ba,bb⟩:=h.row (yg hi) hk;rw[if_neg<|by simp[hk],zeU hk,zeU hk,zeU hk,zeU hk];have e1:=zgi (s:=s) (d:=a.effect.delta) ht;have e2:=zgi (s:=s) (d:=b.effect.delta) ht;have e3:=zgi (s:=zu4 s a.effect.delta) (d:=b.effect.delta) (l:=m.constraints[i].row.zuQ) (by grind[zd9]);rw[e3,e1,e2];rw[<-ea,<-eb];have hs:zuN (chgN n a m.constraints[i].row) (chgN n b m.constraints[i].row)=chgN n a m.constraints[i].row+chgN n b m.constraints[i].row:=zcD (by omega) (by omega);obtain⟨k1,-,k3⟩:=zso (q:=q) (rows:=rows) (less:=rows) (i:=i) ba bb id;simp only[uk,wB,uj,rowH];rw[zkd (by omega)<|by omega];simp only[yf,hk,true_imp_iff];have hle:sumP s m.constraints[i].row.zuQ<=m.constraints[i].row.bound-kS n q rows a b i m.constraints[i]↔kS n q rows a b i m.constraints[i]<=m.constraints[i].row.bound-sumP s m.constraints[i].row.zuQ:=by omega
   rw[hle];unfold kS;rw[hs];by_cases hr:(i:Int)∈rows/\relQ q (i:Int)=U;·obtain⟨r1,r2⟩:=hr;have r2':=r2;unfold relQ at r2';simp only[r1,r2',decide_true,uQ,if_true,zkx,true_imp_iff,r2];omega
   ·have:(Z ((i:Int)∈rows)&&(q.target.hold||q.target.index !=(i:Int)))=false:=by rw[uT];intro hh;rw[yc,yf]at hh;exact hr hh
    rw[this];simp only[ye,if_false,zkx];constructor;·intro h;exact⟨by omega,λh1 h2=>absurd ⟨h1,h2⟩ hr⟩
    ·intro h;omega
  ·rw[if_pos<|by simpa using hk];simp[hk]
 simp_all
theorem zvQ.lenP (h:zvQ n m q a b s):s.length=(boxM m).length:=h.state.len
theorem zkU (h:zvQ n m q a b s){x}(hx:x∈m.zuP){c}(hc:c∈m.constraints)(hk:c.kind=1)(hno:¬0<(((zE n x c).getD []).length:Int))(hs:zag c s=U):zag c (zu4 s x.effect.delta)=true:=by
 have w:=h.fuel;have y:=h.len;obtain⟨k,f,z⟩:=(h.zyk hc).mul hk;have g:=(zjp h.small hx).delta;rw[zds f (by omega) (by omega) (by omega)<|by omega,yj]at hno;obtain⟨d,l,e,r,o,t⟩:=(h.zyk hc).sz hk;have u:k=d*d:=by grind[zg4]
 refine zoD hk ⟨l,e,r,o,by rw[h.lenP];exact t,by rw[h.lenP];omega⟩ (λj v=>?_) hs;have:=zlV (p:=zeB x.effect.delta c) (k:=k) (i:=0) (by omega) j (by omega)<|by omega
 grind[zeB,zcD]
theorem zoE (h:zvQ n m q a b s):(zc1 n m q a b).all (zcd s)=U↔∀i(hi:i<m.constraints.length),m.constraints[i].kind=1->(zag m.constraints[i] s=U/\zag m.constraints[i] (zu4 s a.effect.delta)=U)/\zag m.constraints[i] (zu4 s b.effect.delta)=true:=by
 have hn:1000000<=n:=by have:=h.fuel;omega
 have hL:=h.len;unfold zc1;rw[List.all_flatMap,yq];have key:∀i(hi:i<m.constraints.length),(gS n (q.e !=q.f) a b<|m.constraints.getD i J).all (zcd s)=U↔m.constraints[i].kind=1->(zag m.constraints[i] s=U/\zag m.constraints[i] (zu4 s a.effect.delta)=U)/\zag m.constraints[i] (zu4 s b.effect.delta)=U:=λi hi=>by
  have e:m.constraints.getD i J=m.constraints[i]:=by grind
  rw[e];have hc:=yg hi;unfold gS;by_cases hk:m.constraints[i].kind=1
  ·rw[if_neg<|by simp[hk],show(zE n b m.constraints[i]).getD J=(zE n b m.constraints[i]).getD []from rfl];have hco:=h.zyk hc;have g2:zcd s (gr n m.constraints[i] λq0=>za5 n q0)=zag m.constraints[i] s:=zmz (fP:=λ_=>0) hco hk h.lenP (by omega) (λ_=>rfl) (λ_=>by omega) (λi _ _=>by omega) hn;have g3:zcd s (gr n m.constraints[i] λq0=>zS n q0 a)=zag m.constraints[i] (zu4 s a.effect.delta):=zmz (fP:=zA a.effect.delta) hco hk h.lenP (by omega) (λz=>by unfold zS;rw[h.sA.added hn];rfl) (λz=>by have:=zcj h.dA.1 z;omega) (λi h0 h1=>zg6 h0<|by rw[h.lenP];exact h1) hn;have g4:zcd s (gr n m.constraints[i] λq0=>zak n q0 b)=zag m.constraints[i] (zu4 s b.effect.delta):=zmz (fP:=zA b.effect.delta) hco hk h.lenP (by omega) (λz=>by unfold zak;rw[h.sB.added hn];rfl) (λz=>by have:=zcj h.dB.1 z;omega) (λi h0 h1=>zg6 h0<|by rw[h.lenP];exact h1) hn;have k3:=λhno=>zkU h (zaA h.ha) hc hk hno;have k4:=λhno=>zkU h (zaA h.hb) hc hk hno;rw[u9,u9];simp only[uk,wB,uj,g2,hk,true_imp_iff];by_cases h3:0<(((zE n a m.constraints[i]).getD []).length:Int);·rw[if_pos<|by simpa using h3];simp only[uk,wB,uj,g3];cases hef:q.e !=q.f with
    |false=>have hab:=h.same hef;subst hab;simp only[uh,ye,if_false,wB,uj,yc];exact⟨λh=>⟨h,h.2⟩,λh=>h.1⟩|true=>
     by_cases h4:0<(((zE n b m.constraints[i]).getD []).length:Int);·rw[if_pos<|by simpa using h4];simp only[uk,wB,uj,g4,yc,and_assoc]
     ·rw[if_neg<|by simpa using h4];simp only[wB,uj,yc];exact⟨λh=>⟨h,k4 h4 h.1⟩,λh=>h.1⟩
   ·rw[if_neg<|by simpa using h3];simp only[wB,yA];cases hef:q.e !=q.f with
    |false=>have hab:=h.same hef;subst hab;simp only[uh,ye,if_false,wB,uj];exact⟨λh=>⟨⟨h,k3 h3 h⟩,k3 h3 h⟩,λh=>h.1.1⟩|true=>
     by_cases h4:0<(((zE n b m.constraints[i]).getD []).length:Int);·rw[if_pos<|by simpa using h4];simp only[uk,wB,uj,g4,yc];exact⟨λh=>⟨⟨h.1,k3 h3 h.1⟩,h.2⟩,λh=>⟨h.1.1,h.2⟩⟩
     ·rw[if_neg<|by simpa using h4];simp only[wB,uj];exact⟨λh=>⟨⟨h,k3 h3 h⟩,k4 h4 h⟩,λh=>h.1.1⟩
  grind
 simp_all
theorem zqb (h:zvQ n m q a b s):(zeT q a b).all (rowH s)=(a.effect.hold.all (λr=>zag ⟨0,0,r,0,0⟩ s)&&b.effect.hold.all λr=>zag ⟨0,0,r,0,0⟩ s):=by
 have e:(λr=>zag ⟨0,0,r,0,0⟩ s)=rowH s:=by funext r;exact zeU rfl s
 rw[e];unfold zeT;cases c:q.e !=q.f with
 |false=>
  have d:=h.same c;grind|true=>simp
theorem zqp {xe cs}(h:zvQ n m q a b s)(hT:Tgt n m q a b (boxM m) xe cs)(hg:∀c∈m.constraints,c.kind=1->zag c (zu4 s a.effect.delta)=U/\zag c (zu4 s b.effect.delta)=U):(xe.all (rowH s)&&(cs.isEmpty||cs.any λrows=>rows.all<|rowH s))=zfY m q a b s:=by
 have hn:1000000<=n:=by have:=h.fuel;omega
 have hgood:=zeG h.valid.lay;unfold zfY;cases hT with
 |hold r h1 h2=>
  rw[if_pos h1,h2,yj,zeU rfl];have hro:=h.dA.2 r<|zaA h2;have hlen:=h.oA.zuQ r<|zaA h2;have hbd:-1000000000<=r.bound/\r.bound<=1000000000:=by simp only[zvE,zaZ,yc,yf]at hro;omega
  have ht:∀t∈r.zuQ,zfU (boxM m).length t:=by
   simp only[zvE,yc]at hro;grind[zha]
  have hf:∀t∈r.zuQ,-1000<=t.zuW/\t.zuW<=1000:=λt h=>(ht t h).2.2;have hb:=zov h.oB h.dB.1 hf hlen hn;simp only[uk,wB,uj,u3,uB];rw[zpt ht hbd<|by omega,zow h.oB h.dB.1 hf hlen hn,zgi<|by rw[h.lenP];exact ht]|row c h1 h2 hk=>rw[if_neg<|by simp[h1],h2,yj,zeU hk];obtain⟨ht,hlen,hbd,ea,eb,ba,bb⟩:=h.row (zaA h2) hk;simp only[uk,wB,uj,u3,uB];rw[zcD (by omega)<|by omega,zpt ht hbd<|by omega,zgi<|by grind[zd9],zgi ht,ea,eb,Int.add_assoc]|none c k h1 h2 hk hz he=>
  rw[if_neg<|by simp[h1],h2,yj];obtain⟨size,z1,z2,z3,z4,z5⟩:=(h.zyk<|zaA h2).sz hk;have hks:k=size:=by omega
  subst hks;obtain⟨ga,gb⟩:=hg c (zaA h2) hk;rw[<-znm hk z1 z3 z4 z5 hgood h.box (by have:=h.len;omega) h.dA.1 h.dB.1 ga gb,he];rfl|graph c k h1 h2 hk hz he=>
  rw[if_neg<|by simp[h1],h2,yj];obtain⟨size,z1,z2,z3,z4,z5⟩:=(h.zyk<|zaA h2).sz hk;have hks:k=size:=by omega
  subst hks;obtain⟨ga,gb⟩:=hg c (zaA h2) hk;rw[<-znm hk z1 z3 z4 z5 hgood h.box (by have:=h.len;omega) h.dA.1 h.dB.1 ga gb];grind
theorem znG {xe cs}(h:zvQ n m q a b s)(hT:Tgt n m q a b (boxM m) xe cs)(hrows:∀i∈rows,∃(k:Nat)(hk:k<m.constraints.length),i=(k:Int)/\m.constraints[k].kind=0):((zwH n m q rows a b++(zeT q a b++xe)).all (rowH s)&&(zc1 n m q a b).all (zcd s)&&(cs.isEmpty||cs.any λrows=>rows.all<|rowH s))=zdS m q rows a b s:=by
 rw[u9,u9,zqb h];have h1:=zrA (rows:=rows) h;have h2:=zoE h;have kinds:∀c∈m.constraints,c.kind=0\/c.kind=1:=λc hc=>(h.zyk hc).kind;have base:((zwH n m q rows a b).all (rowH s)=U/\a.effect.hold.all (λr=>zag ⟨0,0,r,0,0⟩ s)=U/\b.effect.hold.all (λr=>zag ⟨0,0,r,0,0⟩ s)=U)/\(zc1 n m q a b).all (zcd s)=U↔(zx9 m a.effect s=U/\zx9 m b.effect s=U)/\rows.all (λi=>!(relQ q i&&!zag ((idx m.constraints i).getD J) (zu4 (zu4 s a.effect.delta) b.effect.delta)))=true:=by
  rw[h1,h2];unfold zx9;simp only[yc,yq];constructor
  ·rintro⟨⟨r1,r2,r3⟩,g1⟩;have hall:∀c∈m.constraints,(zag c s=U/\zag c (zu4 s a.effect.delta)=U)/\zag c (zu4 s b.effect.delta)=true:=λc hc=>by
    obtain⟨i,hi,rfl⟩:=wh hc;rcases kinds _ hc with hk|hk;·exact(r1 i hi hk).1
    ·exact g1 i hi hk
   refine⟨⟨⟨λc hc=>(hall c hc).1,r2⟩,λc hc=>⟨(hall c hc).1.1,(hall c hc).2⟩,r3⟩,λi hi=>?_⟩;obtain⟨k,hk,rfl,hk0⟩:=hrows i hi;rw[zb hk,yj];cases hr:relQ q (k:Int)with
   |false=>rfl|true=>rw[(r1 k hk hk0).2 hi hr];rfl
  ·rintro⟨⟨⟨a1,a2⟩,b1,b2⟩,r1⟩;refine⟨⟨λi hi hk=>⟨⟨a1 _<|yg hi,(b1 _<|yg hi).2⟩,λhm hr=>?_⟩,a2,b2⟩,λi hi hk=>⟨a1 _<|yg hi,(b1 _<|yg hi).2⟩⟩;have:=r1 _ hm;rw[zb hi,yj,hr]at this;simpa using this
 rw[we];unfold zdS;have tgt:((zwH n m q rows a b).all (rowH s)=U/\a.effect.hold.all (λr=>zag ⟨0,0,r,0,0⟩ s)=U/\b.effect.hold.all (λr=>zag ⟨0,0,r,0,0⟩ s)=U)/\(zc1 n m q a b).all (zcd s)=U->((xe.all (rowH s)&&(cs.isEmpty||cs.any λrows=>rows.all<|rowH s))=U↔zfY m q a b s=U):=λhb=>by rw[zqp h hT λc hc hk=>?_];obtain⟨i,hi,rfl⟩:=wh hc;have:=h2.1 hb.2 i hi hk;exact⟨this.1.2,this.2⟩
 grind
end
theorem zsa {n m q rows a b s}(h:zvQ n m q a b s)(hl:rows.length<=1000)(hrows:∀i∈rows,∃(k:Nat)(hk:k<m.constraints.length),i=(k:Int)/\m.constraints[k].kind=0):zaK n m q rows s=O (zdS m q rows a b s):=by
 have hn:=h.fuel;have hL:=h.len;have hG:=zf5 hn h.small h.valid;obtain⟨q1,q2,q3,q4,q5⟩:=ze2 h.zyq;have ham:=zaA h.ha;have hbm:=zaA h.hb;obtain⟨a1,a2,a3,a4⟩:=hG.acts a ham;obtain⟨b1,b2,b3,b4⟩:=hG.acts b hbm;obtain⟨da,ra⟩:=h.dA;obtain⟨db,rb⟩:=h.dB;have hs:=h.state;have hsl:=hs.len;have hss:ziH s:=λx hx=>by have:=hs.small x hx;omega
 have hpa:ziH<|zu4 s a.effect.delta:=λx hx=>by have:=zfO hs.small da x hx;omega
 have hpb:ziH<|zu4 s b.effect.delta:=λx hx=>by have:=zfO hs.small db x hx;omega
 have hpab:ziH<|zu4 (zu4 s a.effect.delta) b.effect.delta:=λx hx=>by have:=zfO (B:=1000009999) (λy hy=>by have:=zfO hs.small da y hy;omega) db x hx;omega
 have hla:=zd9 s a.effect.delta;have hlb:=zd9 s b.effect.delta;have hlab:=zd9 (zu4 s a.effect.delta) b.effect.delta;have hcons:∀c∈m.constraints,zbA n c (zu4 (zu4 s a.effect.delta) b.effect.delta)=O (zag c<|zu4 (zu4 s a.effect.delta) b.effect.delta):=λc hc=>zhZ (by rw[hlab,hla];exact h.conIn hc) hpab (by omega) hn;have hend:∀rec,zaK.l2 n m q rows s a b (zu4 (zu4 s a.effect.delta) b.effect.delta) rec (rows.length:Int)=O (zfY m q a b s):=λrec=>by simp only[zaK.l2,zat,ye,if_false];unfold zfY;cases hh:q.target.hold with
  |true=>
   simp only[if_true];obtain⟨r,hr⟩:=zaM q3<|q4 hh a h.ha;have hci:=zs8 (ra r<|zaA hr) (by have:=h.oA.zuQ r<|zaA hr;omega);have hrow:ze5 n r (zu4 s b.effect.delta)=O (zag ⟨0,0,r,0,0⟩<|zu4 s b.effect.delta):=by unfold ze5;rw[zhZ (by rw[hlb,hsl];exact hci) hpb (by omega) hn];rfl
   rw[hr,ya,zmf b1 b2 b3 db hss (by omega)<|by omega,ya,hrow];rfl|false=>simp only[ye,if_false];obtain⟨c,hc⟩:=zaM q3 (q5 hh).2;rw[hc,ya,hcons c<|zaA hc];rfl
 have hloop2:zuR (zaK.l2 n m q rows s a b<|zu4 (zu4 s a.effect.delta) b.effect.delta) n 0=if(rows.all λi=>!(relQ q i&&!zag ((idx m.constraints i).getD J) (zu4 (zu4 s a.effect.delta) b.effect.delta)))=U then O<|zfY m q a b s else O false:=by
  have:=zao (body:=zaK.l2 n m q rows s a b<|zu4 (zu4 s a.effect.delta) b.effect.delta) (l:=rows) (n:=n) (st:=λi=>(i:Int)) (λi=>!(relQ q i&&!zag ((idx m.constraints i).getD J) (zu4 (zu4 s a.effect.delta) b.effect.delta))) (O M) (O<|zfY m q a b s) (λrec i hi=>?_) (λrec=>hend rec)<|by omega
  ·simpa using this
  ·obtain⟨k,hk,e,-⟩:=hrows _<|yg hi;have hc:idx m.constraints rows[i]=O m.constraints[k]:=by grind[zb]
   simp only[zaK.l2,zB hi,if_true,zb hi,yp,yw,grd,yj,hc,hcons _<|yg hk,ze (i:=i)<|by omega];grind[relQ,zag,zu4]
 have hloop1:zuR (zaK.l1 n m q rows s) n 0=O (zdS m q rows a b s):=by
  have:=zy (body:=zaK.l1 n m q rows s) (len:=rows.length) (st:=λi=>(i:Int)) (g:=λ_=>O<|zdS m q rows a b s) (λrec i hi hr=>?_) (λrec=>?_) n 0 (ym _)<|by omega
  ·simp_all
  ·obtain⟨k,hk,e,-⟩:=hrows _<|yg hi;simp only[zaK.l1,zB hi,if_true,zb hi,ya,yp,yw,grd,yj,ze (i:=i)<|by omega,hr];grind
  ·simp only[zaK.l1,zat,ye,if_false,h.ha,h.hb,ya,zkf h.small h.valid ham hs (by omega) hn,zkf h.small h.valid hbm hs (by omega) hn,yp,yw,grd,if_true,yj];rw[zmf a1 a2 a3 da hss (by omega)<|by omega,ya,zmf b1 b2 b3 db hpa (by omega)<|by omega,ya,hloop2];grind[zdS,relQ,zag,idx,J,zu4,zx9]
 unfold zaK;rw[zlr h.valid.lay<|by omega,ya,if_neg<|by grind];simp_all
theorem zoq {m}{rows:List Int}(h:(rows.all λx=>!badR m x)=U):∀i∈rows,∃(k:Nat)(hk:k<m.constraints.length),i=(k:Int)/\m.constraints[k].kind=0:=λi b=>by
 have:=yq.1 h i b;unfold badR at this;simp only[yz,uc,yJ,Int.not_lt]at this;obtain⟨⟨c,d⟩,a⟩:=this;obtain⟨k,rfl⟩:=y9 c;have hk:k<m.constraints.length:=by omega
 rw[zb hk,yj]at a;grind
theorem zpE {K}:∀{l}{last},-1<=last->rowP K last l=U->l=[]\/(l.length:Int)<=(K:Int)-1-last
 |[],_,_,_=>.inl rfl|t::l,last,a,h=>by
  simp only[rowP,yc,yf]at h;rcases zpE (by omega) h.2 with e|e;·grind
  grind
theorem zpD {L}{r}(hL:L<=100)(h:zvE L r=U):RwOK L r:=by
 have b:r.zuQ.length<=100:=by
  have a:=h;simp only[zvE,yc]at a;rcases zpE (by omega) a.1 with e|e;·simp[e]
  ·omega
 have d:=zqT (n:=1000000) (K:=L) (r:=r) (by omega)<|yk _;have c:=zo9 (n:=1000000) (k:=L) (r:=r) (by omega)<|yk _;exact⟨by grind,by omega⟩
theorem zq0 {L}{g}(hL:L<=100)(h:zfg L g=U):∃K,GrOK L g K:=by
 simp only[zfg,zjz,yc,yz,uc,yJ,bne_eq_false_iff_eq,vM]at h;obtain⟨⟨⟨⟨⟨l,k⟩,m⟩,f⟩,c⟩,i⟩:=h;obtain⟨K,d⟩:∃K:Nat,g.size=K:=⟨g.size.toNat,by omega⟩;have a:K<=6:=by omega
 have j:=yZ a a;have e:zuZ g.size g.size=(K*K:Nat):=by grind[zuZ,z9]
 rw[e]at f c;have n:zuY L ((K*K:Nat))=L-K*K:=z9 (by omega)<|by omega
 refine⟨K,d,by omega,a,by omega,⟨by omega,by omega⟩,λx b=>?_⟩;have:=i x b;simp only[zgC,yG,yf]at this;omega
theorem zuB {L}{R G cs}(hL:L<=100)(h:sysP L R G cs=U):SysG L G cs/\(∀r∈R,RwOK L r)/\R.length<=1024:=by
 simp only[sysP,yc,yf,yq]at h;obtain⟨⟨⟨⟨b,c⟩,d⟩,e⟩,f,i⟩:=h;refine⟨⟨λg j=>zq0 hL<|f g j,d,λl k=>?_,e,by omega⟩,λr a=>zpD hL<|c r a,b⟩;have:=i l k;simp only[zx3]at this;grind[zpD]
structure SysD (n:Nat)(m:Model)(q:Question)(rows:List Int)(a b:Action)(S:System):Prop where
 valid:zwb m
 zyq:zeA m q=U
 ha:idx m.zuP q.e=O a
 hb:idx m.zuP q.f=O b
 bad:(rows.all λx=>!badR m x)=U
 len:(boxM m).length<=12
 box:S.box=boxM m
 tgt:∃xe,Tgt n m q a b (boxM m) xe S.cases/\S.rows=zwH n m q rows a b++(zeT q a b++xe)zuT:S.zuT=zc1 n m q a b
 ok:SysOK S.rows S.zuT S.cases
 sys:sysP (boxM m).length S.rows S.zuT S.cases=U
theorem zol {n m q rows}(hF:Fuel n)(hf:fewP m=U)(hrl:rows.length<=50):zh n m q rows=zw n m q rows/\((∃e,zh n m q rows=O (⟨[],[],[],[]⟩,e)/\(e=1\/e=2\/e=8))\/∃a b S,SysD n m q rows a b S/\zh n m q rows=O (S,0)):=by
 have hn:=hF.big;have hn1:1000000<=n:=by omega
 have hS:=zg1 hf;by_cases hvq:(zeE m&&zeA m q)=U;case neg=>
  simp only[yR]at hvq;have h1:zh n m q rows=O (⟨[],[],[],[]⟩,1):=by
   unfold zh;rw[zfT hF hS,hvq,ya,if_pos<|by simp]
  have h2:zw n m q rows=O (⟨[],[],[],[]⟩,1):=by
   unfold zw;rw[zea hn hS,hvq,ya,if_pos<|by simp]
  grind
 simp only[yc]at hvq;have hV:=zdA.1 hvq.1;obtain⟨q1,q2,q3,q4,q5⟩:=ze2 hvq.2;obtain⟨a,ha⟩:=zaM q1.1 q1.2;obtain⟨b,hb⟩:=zaM q2.1 q2.2;have hA:=zjp hS<|zaA ha;have hB:=zjp hS<|zaA hb;have sA:=zhb hn hS hV<|zaA ha;have sB:=zhb hn hS hV<|zaA hb;have hC:∀c∈m.constraints,zwo (boxM m).length c:=λc hc=>zqM hS hV hc;have hfp:=hf;simp only[fewP,zdj,hV.lay,if_true,yc,yf]at hfp;have hK:(boxM m).length<=12:=hfp.2.2.1;have hgood:=zeG hV.lay;have hcl:=hS.constraints;have hct:∀c∈m.constraints,c.row.zuQ.length<=1000:=λc hc=>(hC c hc).len;have hshort:=zk1 (n:=n) (q:=q) (rows:=rows) (a:=a) (b:=b) hcl hct;have e1:=zh2 (rows:=rows) hF hS hV hvq.2 ha hb hA hB hC<|by omega
 have e2:=zlm (rows:=rows) hF hS hV hvq.2 ha hb hA hB hC sA sB<|by omega
 by_cases hbad:(rows.all λx=>!badR m x)=U;case neg=>grind
 rw[if_pos hbad]at e1 e2;constructor
 ·obtain⟨X,G,cs,hX,hG,hcs,htail⟩:=zsG (n:=n) (m:=m) (q:=q) (box:=boxM m) hA hB hC (by omega) (by omega) sA sB (λh=>⟨q3,q4 h a ha⟩) (λh=>⟨q3,(q5 h).2⟩) hn1;grind[zm7,zdV,zhw]
 ·obtain⟨xe,cs,hT,hX,hG,hcs,htail⟩:=zpM (n:=n) (m:=m) (q:=q) (box:=boxM m) hA hB hC sA sB (by omega) (by omega) (λh=>⟨q3,q4 h a ha⟩) (λh=>⟨q3,(q5 h).2⟩) hn1;have hso:=zm7 hshort hX hG hcs;rw[e1,htail _<|by grind,zdV hgood (by omega) hso hn1];cases hP:sysP (boxM m).length (zwH n m q rows a b++(zeT q a b++xe)) (zc1 n m q a b) cs with|false=>exact .inl ⟨8,by simp[endS],.inr<|.inr rfl⟩|true=>exact .inr ⟨a,b,⟨boxM m,zwH n m q rows a b++(zeT q a b++xe),zc1 n m q a b,cs⟩,⟨hV,hvq.2,ha,hb,hbad,hK,rfl,⟨xe,hT,rfl⟩,rfl,hso,hP⟩,by simp[endS]⟩
theorem SysD.g {n m q rows a b S}(h:SysD n m q rows a b S):SysG (boxM m).length S.zuT S.cases/\(∀r∈S.rows,RwOK (boxM m).length r)/\S.rows.length<=1024:=zuB (by have:=h.len;omega) h.sys
theorem SysD.zzK {n m q rows a b S}(h:SysD n m q rows a b S)(hn:1000000<=n):zas n S=O U/\zal n S=O true:=by
 have c:=zeG h.valid.lay;have j:=h.len;obtain⟨f,R,G,g⟩:=S;have i:=h.box;have d:=h.ok;have e:=h.sys;grind[zdV,zhw]
theorem SysD.pi {n m q rows a b S}(h:SysD n m q rows a b S):PI 0 (boxM m).length 0 [] S.box:=by
 have c:=zeG h.valid.lay;have f:=h.len;rw[h.box];have e:∀r∈boxM m,r.lo<=r.hi/\-9999<=r.lo/\r.hi<=9999:=λr d=>by
  have:=yq.1 c r d;grind
 exact⟨zqD (λr d=>by grind)<|by omega,rfl,λr d=>(e r d).1,ym _,ym _⟩
theorem SysD.void {n m q rows a b S}(h:SysD n m q rows a b S)(hn:4294967296<=n)(hS:zvn m)(h0:(boxM m).length=0):∃r∈S.rows,zwu r=true:=by
 have hbox:boxM m=[]:=List.length_eq_zero_iff.1 h0;obtain⟨hg,hr,-⟩:=h.g;have hsc:zvQ n m q a b []:=⟨hS,h.valid,h.zyq,h.ha,h.hb,by rw[hbox];rfl,by omega,hn⟩;obtain⟨xe,hT,hrows⟩:=h.tgt;have hmeans:=znG (rows:=rows) hsc hT<|zoq h.bad;have hshow:zdS m q rows a b []=false:=by
  have hp:∀d,zu4 [] d=[]:=λd=>List.length_eq_zero_iff.1<|by rw[zd9];rfl
  cases hh:zdS m q rows a b []with|false=>rfl|true=>
   exfalso;simp only[zdS,yc,zx9,yq]at hh;obtain⟨⟨⟨p1,p2⟩,-⟩,-,hb⟩:=hh;obtain⟨q1,q2,q3,q4,q5⟩:=ze2 h.zyq;unfold zfY at hb;simp only[hp]at hb;split at hb<;>rename_i ht
   ·obtain⟨r,hr⟩:=zaM q3<|q4 ht a h.ha;grind[zaA]
   ·obtain⟨c,hc⟩:=zaM q3 (q5<|by grind).2;grind[zaA]
 by_cases hv:∃r∈S.rows,zwu r=U;·exact hv
 exfalso;have hrow:∀r∈S.rows,rowH [] r=true:=λr hr'=>by
  have ht:r.zuQ=[]:=by cases hterms:r.zuQ with
   |nil=>rfl|cons t l=>
    have:=(hr r hr').cells t<|by rw[hterms];simp
    omega
  have:¬zwu r=true:=λe=>hv ⟨r,hr',e⟩;simp only[zwu,ht,u3,yA,yf]at this;simp only[rowH,ht,yf];show(0:Int)<=r.bound;omega
 have hnog:∀g∈S.zuT,False:=λg hgm=>by
  obtain⟨K,hK⟩:=hg.gr g hgm;have h1:=hK.fst;have h2:=hK.pos;have h3:1*1<=K*K:=yZ h2 h2;omega
 have hcs:S.cases.isEmpty=true:=by
  generalize S.cases=cs at hT;cases hT with
  |hold r h1 h2=>rfl|row c h1 h2 hk=>rfl|none c k h1 h2 hk hz he=>rfl|graph c k h1 h2 hk hz he=>
   obtain⟨size,z1,z2,z3,z4,z5⟩:=(hsc.zyk<|zaA h2).sz hk;have h3:1*1<=size*size:=yZ z2 z2;omega
 rw[hshow,<-hrows,<-h.zuT]at hmeans;grind
def zyL (d:Nat)(y:NR):zvr:=if y.k=2 then⟨2,[],zvZ,(d:Int)⟩else if y.k=0 then⟨0,y.v,zvZ,(y.c:Int)⟩else⟨1,[],y.t,(y.c:Int)⟩
def zvG (S:System)(d:Nat):NR:=zvD S.zuT S.cases (d+1) U S.rows S.box d
theorem zpW {n m q rows a b S}{d:Nat}(h:SysD n m q rows a b S)(hn:4294967296<=n)(hS:zvn m)(hd:d<=65536)(hc:zh n m q rows=O (S,0)):zcm n m q (d:Int) rows=O (zyL d<|zvG S d,0):=by
 obtain⟨hg,hr,hrl⟩:=h.g;have hpi:=h.pi;have hbl:S.box.length=(boxM m).length:=hpi.len;have hlen:=h.len;obtain⟨w,e,hw⟩:=zfz hg (d+1) n d ⟨S,S.rows,(d:Int),0⟩ S.box (-1) (by omega) (by omega) rfl (by grind) (by grind) (by grind) hr (by grind) (λ_=>rfl) (λh0=>h.void hn hS h0) hpi;rw[show Z ((-1:Int)<0)=U from rfl]at hw;have hsh:=zhO (G:=S.zuT) (cs:=S.cases) (f:=d+1) (root:=U) (R:=S.rows) (b:=S.box) (d:=d);have hrange:(Z ((d:Int)<0)||decide (65536<(d:Int)))=false:=by grind
 have hfind:zgg n S (d:Int)=O (if(zvG S d).k=2 then⟨2,0,[],zvZ,(d:Int)⟩else if(zvG S d).k=0 then⟨0,(w.getD J).1.index,(zvG S d).v,zvZ,((zvG S d).c:Int)⟩else⟨1,0,[],(zvG S d).t,((zvG S d).c:Int)⟩,0):=by
  unfold zgg;rw[(h.zzK<|by omega).1,ya,if_neg<|by simp,hrange,if_neg<|by simp,zl<|by grind,ya,yN,e,ya];change OutW _ _ _ _ (zvG S d) w at hw;change((zvG S d).k=0->(zvG S d).t=zvZ)/\((zvG S d).k≠0->(zvG S d).v=[])at hsh;generalize zvG S d=xe at*;rcases hw with⟨h2,rfl⟩|⟨h2,hsol,ix,rows',rfl,-⟩;·rw[if_pos h2];rfl
  ·rw[if_neg h2];simp only[ppk];by_cases h0:xe.k=0;·obtain⟨hv1,hv2⟩:=hsol h0;rw[if_pos h0];rw[if_pos<|by cases hv:xe.v with|nil=>exact absurd hv hv2|cons x l=>rfl];simp[zvZ]
   grind
 unfold zcm;rw[hc,ya];simp only[show((0:Int)==1)=M from rfl,show((0:Int)==2)=M from rfl,show((0:Int)!=0)=M from rfl,hrange,uN,ye,if_false,hfind,ya];unfold zyL;generalize zvG S d=xe;by_cases h2:xe.k=2;·simp only[if_pos h2];rfl
 ·by_cases h0:xe.k=0
  ·simp only[if_neg h2,if_pos h0];rfl
  ·simp only[if_neg h2,if_neg h0];rfl
theorem zkc {bud kind index cell r st b}:st.length<=(zvY bud kind index cell r st b).st.length:=by
 unfold zvY;grind
theorem zor {p:PR}{f}(hf:∀st b,st.length<=(f st b).st.length):p.st.length<=(p.bind f).st.length:=by
 unfold PR.bind;grind
theorem zoP {bud i row}:∀{l}{p},p.st.length<=(rowT bud i row l p).st.length|[],_=>yk _|t::l,p=>by exact yI (zor λ_ _=>zkc)<|zoP (l:=l)
theorem zl2 {bud i row p}:p.st.length<=(zc9 bud i row p).st.length:=zor λst b=>by
 split;·grind
 ·exact zoP (p:=⟨0,st,b⟩)
theorem zka {bud}:∀{i}{l}{p},p.st.length<=(zwg bud i l p).st.length|_,[],_=>yk _|i,r::l,p=>by exact yI zl2<|zka (l:=l)
theorem zpc {bud i g}:∀{d k}{p},p.st.length<=(grT bud i g d k p).st.length|0,_,_=>yk _|d+1,k,p=>by exact yI (zor λ_ _=>zkc)<|zpc (d:=d)
theorem zg2 {bud}:∀{i}{l}{p},p.st.length<=(zb5 bud i l p).st.length|_,[],_=>yk _|i,g::l,p=>by exact yI zpc<|zg2 (l:=l)
theorem zok {n m q rows e}{zvh}(hc:zh n m q rows=O (⟨[],[],[],[]⟩,e))(he:e=1\/e=2\/e=8)(hb:0<=zvh/\zvh<=65536):zcm n m q zvh rows=O (if e=8 then(⟨2,[],zvZ,0⟩,0)else(⟨0,[],zvZ,0⟩,e)):=by
 have a:(Z (zvh<0)||decide (65536<zvh))=false:=by grind
 unfold zcm;rw[hc,ya];rcases he with rfl|rfl|rfl;·rfl
 ·rfl
 ·simp only[a];rfl
def valC (x:List Int)(c:Int):Int:=x.getD c.toNat 0
structure InB (b:List Range)(x:List Int):Prop where
 len:x.length=b.length
 mem:∀c:Int,0<=c->c<(b.length:Int)->(rgP b c).lo<=valC x c/\valC x c<=(rgP b c).hi
def zyr (x:List Int)(c:Int):List Term->Int|[]=>0|t::l=>(if t.cell=c then 0 else t.zuW*valC x t.cell)+zyr x c l
theorem zuv {f a b:Int}(h0:f<=0)(h:a<=b):f*b<=f*a:=Int.mul_le_mul_of_nonpos_left h0 h
theorem zrv {b}{x}(hx:InB b x)(c):∀{l},(∀t∈l,0<=t.cell/\t.cell<(b.length:Int))->zwB b c l<=zyr x c l
 |[],_=>Int.le_refl _|t::l,h=>by
  have f:=zrv hx c (l:=l) λy g=>h y<|by grind
  have a:=h t<|by simp
  have d:=hx.mem t.cell a.1 a.2;simp only[zwB,zyr];by_cases e:t.cell=c;·simp_all
  ·have:endP b t<=t.zuW*valC x t.cell:=by
    unfold endP;split;·simp_all
    ·exact zuv (by omega) d.2
   omega
theorem zru {b}{x}(hx:InB b x)(hs:∀r∈b,r.lo=r.hi)(c):∀{l},(∀t∈l,0<=t.cell/\t.cell<(b.length:Int))->zwB b c l=zyr x c l
 |[],_=>rfl|t::l,h=>by
  have f:=zru hx hs c (l:=l) λy e=>h y<|by grind
  have a:=h t<|by simp
  have g:=hx.mem t.cell a.1 a.2;simp only[zwB,zyr];by_cases d:t.cell=c;·simp_all
  ·grind[rgP,endP]
theorem zm6 {x}{c}:∀{l},(l.map (·.cell)).Nodup->sumP x l=zyr x c l+facP c l 0*valC x c
 |[],_=>by simp[sumP,zyr,facP]|t::l,h=>by
  simp only[yX,List.nodup_cons]at h;have d:=zm6 (x:=x) (c:=c) h.2;simp only[sumP,zyr,facP];by_cases b:t.cell=c
  ·have a:∀y∈l,y.cell≠c:=λy f e=>h.1<|by simp_all
   rw[if_pos b,if_pos b,zgy a,d,zgy a];grind[valC]
  ·grind[valC]
theorem zrX {o}{R f v}(h1:o.lo<=v)(h2:v<=o.hi)(h:f*v<=R):(zhz o R f).lo<=v/\v<=(zhz o R f).hi:=by
 unfold zhz;split;·simp_all
 ·have c:(if f<0 then max o.lo<|-(R/ -f)else o.lo)<=v:=by
   split<;>rename_i a
   ·have:-v<=R/ -f:=(w9<|by omega).2<|by grind
    omega
   simp_all
  have b:v<=if 0<f then min o.hi<|R/f else o.hi:=by
   split<;>rename_i a
   ·have:v<=R/f:=(w9 a).2<|by grind
    omega
   simp_all
  grind
theorem zqq {o}{R f v}(h1:o.lo=v)(h2:o.hi=v)(hf0:f≠0)(h:zhz o R f=o):f*v<=R:=by
 unfold zhz at h;rw[if_neg hf0]at h;by_cases a:(if 0<f then min o.hi<|R/f else o.hi)<if f<0 then max o.lo<|-(R/ -f)else o.lo;·grind
 ·rw[if_neg a]at h;have c:=congrArg Range.lo h;have d:=congrArg Range.hi h;by_cases b:0<f;·grind[w9]
  ·have:-v<=R/ -f:=by omega
   grind[w9]
theorem RwOK.nd {L r}(h:RwOK L r):(r.zuQ.map (·.cell)).Nodup:=by
 have:=h.fits;simp only[zxL,yc]at this;exact(zd0 (by omega) this.1).2
theorem RwOK.nz {L r}(h:RwOK L r):∀t∈r.zuQ,t.zuW≠0:=λt a=>by
 have:=h.fits;simp only[zxL,yc]at this;exact((zd0 (by omega) this.1).1 t a).2.2.2.1
theorem zrY {r}{b}{x}{c}(hr:RwOK b.length r)(hx:InB b x)(h:rowH x r=U)(h0:0<=c)(h1:c<(b.length:Int)):(zbW r b c).lo<=valC x c/\valC x c<=(zbW r b c).hi:=by
 have a:=hx.mem c h0 h1;refine zrX a.1 a.2 ?_;have e:=zm6 (x:=x) (c:=c) hr.nd;have d:=zrv hx c (l:=r.zuQ) hr.cells;simp only[rowH,yf]at h;omega
theorem ztN {r}{b}{x}(hr:RwOK b.length r)(hx:InB b x)(hs:∀r∈b,r.lo=r.hi)(hv:¬zwu r=U)(hf:∀t∈r.zuQ,zbW r b t.cell=rgP b t.cell):rowH x r=true:=by
 simp only[rowH,yf];cases i:r.zuQ with
 |nil=>
  simp only[zwu,i,u3,yA,yf]at hv;show 0<=r.bound;omega|cons t l=>
  have a:t∈r.zuQ:=by simp_all
  have e:=hr.cells t a;have k:=hx.mem t.cell e.1 e.2;have j:=hs _<|zhy e.1 e.2;have d:=zms (f:=0) hr.nd a rfl;have h:=zm6 (x:=x) (c:=t.cell) hr.nd;have g:=zru hx hs t.cell (l:=r.zuQ) hr.cells;have:=zqq (v:=valC x t.cell) (by omega) (by omega) (by rw[d];exact hr.nz t a)<|hf t a;grind
theorem zia {g}{K}{L}(hg:GrOK L g K){x}{a b}:zyz x g a b=Z (lstG g (a*K+b)<=valC x (g.first+((a*K+b:Nat):Int))):=by
 unfold zyz lstG valC;rw[hg.size,yr]
theorem Rch.cases {E}{K a v}(h:Rch E K a v):v=a\/∃u,Rch E K a u/\v<K/\E u v=true:=by refine(h (λv=>Rch E K a v/\(v=a\/∃u,Rch E K a u/\v<K/\E u v=U)) ⟨Rch.refl,.inl rfl⟩ λb c e f d=>⟨e.1.step f d,.inr ⟨b,e.1,f,d⟩⟩).2
theorem Rch.lt {E}{K a v}(ha:a<K)(h:Rch E K a v):v<K:=h (λv=>v<K) ha λ_ _ _ b _=>b
theorem Rch.mono {E F}{K a v}(ha:a<K)(hEF:∀u w,u<K->w<K->E u w=U->F u w=U)(h:Rch E K a v):Rch F K a v:=(h (λv=>v<K/\Rch F K a v) ⟨ha,Rch.refl⟩ λb c e d f=>⟨d,e.2.step d<|hEF b c e.1 d f⟩).2
theorem ztL {E}{K a b}(hb:b<K)(h:Rch E K b a)(he:E a b=U):zwZ E K=false:=by
 have f:=h.lt hb;obtain⟨x,g⟩:=zlH (E:=E) (K:=K) (S:=λv=>Rch E K b v) (λv i c=>by
  rcases c.cases with rfl|⟨u,d,_,e⟩;·grind
  ·exact⟨u,d.lt hb,d,e⟩) hb Rch.refl;grind[zfG]
theorem ztk {E}{K}(h:zwZ E K=M):∃a b,a<K/\b<K/\Rch E K b a/\E a b=true:=by
 have:∃x,x∈cycP E K:=by grind[zfG]
 obtain⟨l,f⟩:=this;have j:=zgw f;have k:=zmp f;have g:=j.pos;have d:∀i,i<l.length->vtx l i<K:=λi c=>by
  have:=j.mem (l[i])<|yg c;grind[vtx]
 have m:∀i,i<l.length->Rch E K (vtx l 0) (vtx l i):=by
  intro i;induction i with
  |zero=>grind[Rch.refl]|succ i ih=>
   intro c;have:=k i<|by omega
   rw[wd c]at this;exact(ih<|by omega).step (d _ c) this
 have e:=k (l.length-1)<|by omega
 grind[ti]
theorem znM {L K}{g}{b}(hg:GrOK L g K){u w}(hu:u<K)(hw:w<K):hasP ⟨g.size,zxp g b⟩ u w=Z (lstG g (u*K+w)<=(rgP b<|g.first+((u*K+w:Nat):Int)).lo):=by
 have a:=ze1 hu hw;unfold hasP zxp;simp only[hg.size,yr,yO,y6,td<|show u*K+w<g.least.length by rw[hg.len];grind,yQ,yj]
theorem zsm {K a b:Nat}(hb:b<K):(a*K+b)/K=a/\(a*K+b)%K=b:=by
 have c:0<K:=by omega
 constructor;·rw[Nat.add_comm,Nat.add_mul_div_right _ _ c,Nat.div_eq_of_lt hb,ug]
 grind[Nat.add_mul_mod_self_right,wd]
theorem zti {K}{g}{b}{x}{k}(hg:GrOK b.length g K)(hx:InB b x)(hL:b.length<=1000)(h:zcd x g=U)(hk:k<K*K):(cutP g b k).lo<=valC x (g.first+(k:Int))/\valC x (g.first+(k:Int))<=(cutP g b k).hi:=by
 have m:=hg.cell (show b.length<=1000000 by omega) hk;have q:=hx.mem _ m.2.1 m.2.2;unfold cutP;split<;>rename_i a
 ·simp only[yc]at a;refine⟨q.1,?_⟩;show valC x (g.first+k)<=lstG g k-1;refine xG λr=>?_;have o:=hg.pos;have c:k%K<K:=wX _ o;have d:=a.2;unfold zet at d;rw[hg.size,yr]at d;have p:Rch (hasP ⟨K,zxp g b⟩) K (k%K)<|k/K:=(zkT c).1<|by simp_all
  have j:Rch (zyz x g) K (k%K)<|k/K:=p.mono c λu w l n i=>by
   rw[<-hg.size,znM hg l n,yf]at i;rw[zia hg,yf];have e:=hg.cell (show b.length<=1000000 by omega)<|ze1 l n;have:=(hx.mem _ e.2.1 e.2.2).1;omega
  have f:k/K*K+k%K=k:=by grind[Nat.div_add_mod]
  have i:zyz x g (k/K) (k%K)=true:=by rw[zia hg,f,yf];omega
  have:=ztL c j i;unfold zcd at h;rw[hg.size,yr,this]at h;cases h
 simp_all
theorem zq1 {K}{g}{b}{x}(hg:GrOK b.length g K)(hx:InB b x)(hL:b.length<=1000)(hs:∀r∈b,r.lo=r.hi)(hf:∀k,k<K*K->cutP g b k=rgP b (g.first+(k:Int))):zcd x g=true:=by
 refine xG λf=>?_;rw[yR]at f;unfold zcd at f;rw[hg.size,yr]at f;obtain⟨a,c,q,i,o,h⟩:=ztk f;have l:∀k,k<K*K->(rgP b<|g.first+k).lo=valC x (g.first+k)/\(rgP b<|g.first+k).hi=valC x (g.first+k):=λk m=>by
  have e:=hg.cell (show b.length<=1000000 by omega) m;have j:=hx.mem _ e.2.1 e.2.2;grind[zhy]
 have p:=ze1 q i;have d:=zsm (a:=a) i;have s:Rch (hasP ⟨K,zxp g b⟩) K c a:=o.mono i λu w t v h=>by
  rw[zia hg,yf]at h;rw[<-hg.size,znM hg t v,yf];grind[ze1]
 rw[zia hg,yf]at h;have n:zet g b (a*K+c)=true:=by
  unfold zet;rw[hg.size,yr,d.1,d.2];grind[zkT]
 have j:=hf _ p;unfold cutP at j;grind
theorem zk0 {b}{c d}{r}(hc0:0<=c)(hc:c<(b.length:Int))(hd0:0<=d):rgP (zvu b c r) d=if d=c then r else rgP b d:=by grind[zvu,rgP]
theorem InB.with_ {b}{x}{c}{r}(h:InB b x)(h0:0<=c)(h1:c<(b.length:Int))(hr:r.lo<=valC x c/\valC x c<=r.hi):InB (zvu b c r) x:=by
 refine⟨by rw[zby];exact h.len,λd f a=>?_⟩;rw[zby]at a;rw[zk0 h0 h1 f];split<;>rename_i e;·grind
 ·exact h.mem d f a
def zw4 (L:Nat)(x:List Int)(p:PR):Prop:=(p.k=0->InB p.b x/\p.b.length=L)/\(p.k=0\/p.k=2)
theorem zw4.bind {L x p f}(h:zw4 L x p)(hf:∀st b,InB b x->b.length=L->zw4 L x (f st b)):zw4 L x<|p.bind f:=by
 unfold PR.bind;split<;>rename_i a;·exact hf _ _ (h.1 a).1 (h.1 a).2
 grind
theorem zl6 {L bud kind index cell r st b x}(hx:InB b x)(hl:b.length=L)(h0:0<=cell)(h1:cell<(L:Int))(hr:r.lo<=valC x cell/\valC x cell<=r.hi):zw4 L x<|zvY bud kind index cell r st b:=by
 unfold zvY;split;·exact⟨λ_=>⟨hx,hl⟩,.inl rfl⟩
 ·split;·exact⟨λh=>absurd h<|by simp,.inr rfl⟩
  ·rw[if_neg<|by omega];exact⟨λ_=>⟨hx.with_ h0 (by omega) hr,by grind[zby]⟩,.inl rfl⟩
theorem zn3 {L bud i}{row}{x}(hr:RwOK L row)(hrow:rowH x row=U):∀{l}{p},(∀t∈l,0<=t.cell/\t.cell<(L:Int))->zw4 L x p->zw4 L x (rowT bud i row l p)
 |[],_,_,h=>h|t::l,p,a,h=>by
  refine zn3 hr hrow (l:=l) (λy d=>a y<|by grind)<|h.bind λe b f c=>?_;grind[zl6,zrY]
theorem zuL {x}{row}(h:rowH x row=U):¬zwu row=true:=λe=>by
 simp only[zwu,yc,List.isEmpty_iff,yf]at e;simp only[rowH,e.1,yf,sumP]at h;omega
theorem zl3 {L bud}{x}:∀{i}{l}{p},(∀r∈l,RwOK L r/\rowH x r=U)->zw4 L x p->zw4 L x (zwg bud i l p)
 |_,[],_,_,h=>h|i,r::l,p,c,h=>by
  have a:=c r<|by simp
  refine zl3 (l:=l) (λy f=>c y<|by grind) ?_;refine h.bind λg b e d=>?_;rw[if_neg<|zuL a.2];exact zn3 a.1 a.2 a.1.cells ⟨λ_=>⟨e,d⟩,.inl rfl⟩
theorem zpd {L bud i K}{g}{x}(hg:GrOK L g K)(hL:L<=1000)(hgr:zcd x g=U):∀{d k}{p},k+d<=K*K->zw4 L x p->zw4 L x (grT bud i g d k p)
 |0,_,_,_,h=>h|d+1,k,p,c,h=>by
  refine zpd hg hL hgr (d:=d) (k:=k+1) (by omega)<|h.bind λe b f j=>?_;have a:=hg.cell (show L<=1000000 by omega) (k:=k)<|by omega
  grind[zl6,zti]
theorem zjA {L bud}{x}(hL:L<=1000):∀{i}{l}{p},(∀g∈l,(∃K,GrOK L g K)/\zcd x g=U)->zw4 L x p->zw4 L x (zb5 bud i l p)
 |_,[],_,_,h=>h|i,g::l,p,b,h=>by
  obtain⟨⟨K,a⟩,c⟩:=b g<|by simp
  exact zjA (l:=l) hL (λy d=>b y<|by grind)<|zpd a hL c (by rw[a.len];omega) h
theorem zqh {L bud R G st b x}(hL:L<=1000)(hR:∀r∈R,RwOK L r/\rowH x r=U)(hG:∀g∈G,(∃K,GrOK L g K)/\zcd x g=U)(hx:InB b x)(hl:b.length=L):zw4 L x<|zv6 bud R G st b:=zjA hL hG<|zl3 hR ⟨λ_=>⟨hx,hl⟩,.inl rfl⟩
theorem zk4 {L bud R G x}(hL:L<=1000)(hR:∀r∈R,RwOK L r/\rowH x r=U)(hG:∀g∈G,(∃K,GrOK L g K)/\zcd x g=U):∀{f}{st b},InB b x->b.length=L->zw4 L x (runU bud R G f st b)
 |0,_,_,c,a=>⟨λ_=>⟨c,a⟩,.inl rfl⟩|f+1,st,b,c,a=>by
  have e:=zqh (bud:=bud) (st:=st) hL hR hG c a;unfold runU;split<;>rename_i d;·exact zk4 hL hR hG (e.1 d.1).1 (e.1 d.1).2
  grind
theorem zl7 {bud kind index cell r st b}(hk:(zvY bud kind index cell r st b).k=0)(hl:(zvY bud kind index cell r st b).st.length=st.length):r=rgP b cell/\zvY bud kind index cell r st b=⟨0,st,b⟩:=by grind[zqm,zoR,zqn,zsD]
theorem zzI {F:PR->PR}(hs:∀p,p.k≠0->F p=p){p}(h:(F p).k=0):p.k=0:=xG λe=>e<|by grind
theorem zn4 {bud i row st b}:∀{l},(rowT bud i row l ⟨0,st,b⟩).k=0->(rowT bud i row l ⟨0,st,b⟩).st.length=st.length->(∀t∈l,zbW row b t.cell=rgP b t.cell)/\rowT bud i row l ⟨0,st,b⟩=⟨0,st,b⟩
 |[],_,_=>⟨by simp,rfl⟩|t::l,a,c=>by
  unfold rowT at a c|-;rw[PR.zw6]at a c|-;have d:=zzI (F:=rowT bud i row l) (λp h=>ziC h) a;have m:=zoP (bud:=bud) (i:=i) (row:=row) (l:=l) (p:=zvY bud 0 i t.cell (zbW row b t.cell) st b);have g:=zkc (bud:=bud) (kind:=0) (index:=i) (cell:=t.cell) (r:=zbW row b t.cell) (st:=st) (b:=b);obtain⟨j,e⟩:=zl7 d<|by omega
  rw[e]at a c|-;obtain⟨n,f⟩:=zn4 (l:=l) a c;grind
theorem zn2 {bud i row st b}(hk:(zc9 bud i row ⟨0,st,b⟩).k=0)(hl:(zc9 bud i row ⟨0,st,b⟩).st.length=st.length):(¬zwu row=U/\∀t∈row.zuQ,zbW row b t.cell=rgP b t.cell)/\zc9 bud i row ⟨0,st,b⟩=⟨0,st,b⟩:=by
 unfold zc9 at hk hl|-;rw[PR.zw6]at hk hl|-;by_cases a:zwu row=U;·grind
 grind[zn4]
theorem zl4 {bud st b}:∀{i}{l},(zwg bud i l ⟨0,st,b⟩).k=0->(zwg bud i l ⟨0,st,b⟩).st.length=st.length->(∀r∈l,¬zwu r=U/\∀t∈r.zuQ,zbW r b t.cell=rgP b t.cell)/\zwg bud i l ⟨0,st,b⟩=⟨0,st,b⟩
 |_,[],_,_=>⟨by simp,rfl⟩|i,r::l,a,c=>by
  unfold zwg at a c|-;have d:=zzI (F:=zwg bud (i+1) l) (λp h=>zeR h) a;have m:=zka (bud:=bud) (i:=i+1) (l:=l) (p:=zc9 bud i r ⟨0,st,b⟩);have g:=zl2 (bud:=bud) (i:=i) (row:=r) (p:=⟨0,st,b⟩);obtain⟨j,e⟩:=zn2 d<|by grind
  rw[e]at a c|-;obtain⟨n,f⟩:=zl4 (l:=l) a c;grind
theorem zpe {bud i g st b}:∀{d k},(grT bud i g d k ⟨0,st,b⟩).k=0->(grT bud i g d k ⟨0,st,b⟩).st.length=st.length->(∀j,k<=j->j<k+d->cutP g b j=rgP b (g.first+(j:Int)))/\grT bud i g d k ⟨0,st,b⟩=⟨0,st,b⟩
 |0,_,_,_=>⟨λj f l=>by omega,rfl⟩|d+1,k,a,c=>by
  unfold grT at a c|-;rw[PR.zw6]at a c|-;have e:=zzI (F:=grT bud i g d<|k+1) (λp h=>zid h) a;have f:=zpc (bud:=bud) (i:=i) (g:=g) (d:=d) (k:=k+1) (p:=zvY bud 1 i (g.first+k) (cutP g b k) st b);have l:=zkc (bud:=bud) (kind:=1) (index:=i) (cell:=g.first+k) (r:=cutP g b k) (st:=st) (b:=b);obtain⟨n,m⟩:=zl7 e<|by omega
  rw[m]at a c|-;obtain⟨q,o⟩:=zpe (d:=d) a c;grind
theorem zjB {bud st b}:∀{i}{l},(zb5 bud i l ⟨0,st,b⟩).k=0->(zb5 bud i l ⟨0,st,b⟩).st.length=st.length->(∀g∈l,∀j,j<g.least.length->cutP g b j=rgP b (g.first+(j:Int)))/\zb5 bud i l ⟨0,st,b⟩=⟨0,st,b⟩
 |_,[],_,_=>⟨by simp,rfl⟩|i,g::l,a,c=>by
  unfold zb5 at a c|-;have e:=zzI (F:=zb5 bud (i+1) l) (λp h=>zdw h) a;have q:=zg2 (bud:=bud) (i:=i+1) (l:=l) (p:=grT bud i g g.least.length 0 ⟨0,st,b⟩);have n:=zpc (bud:=bud) (i:=i) (g:=g) (d:=g.least.length) (k:=0) (p:=⟨0,st,b⟩);obtain⟨o,f⟩:=zpe e<|by grind
  rw[f]at a c|-;obtain⟨r,m⟩:=zjB (l:=l) a c;grind
structure RestB (R:List Row)(G:List zvg)(b:List Range):Prop where
 rows:∀r∈R,¬zwu r=U/\∀t∈r.zuQ,zbW r b t.cell=rgP b t.cell
 zuT:∀g∈G,∀j,j<g.least.length->cutP g b j=rgP b (g.first+(j:Int))
theorem zqi {bud R G st b}(hk:(zv6 bud R G st b).k=0)(hl:(zv6 bud R G st b).st.length=st.length):RestB R G b/\(zv6 bud R G st b).b=b:=by
 unfold zv6 at hk hl|-;have c:=zzI (F:=zb5 bud 0 G) (λp h=>zdw h) hk;have g:=zg2 (bud:=bud) (i:=0) (l:=G) (p:=zwg bud 0 R ⟨0,st,b⟩);have j:=zka (bud:=bud) (i:=0) (l:=R) (p:=⟨0,st,b⟩);obtain⟨d,f⟩:=zl4 c<|by grind
 rw[f]at hk hl|-;obtain⟨e,a⟩:=zjB hk hl;exact⟨⟨d,e⟩,by rw[a]⟩
theorem zn5 {bud R G}:∀{f}{st b},st.length<=bud->bud<f+st.length->(runU bud R G f st b).k=0->RestB R G (runU bud R G f st b).b
 |0,st,b,d,g,_=>by omega|f+1,st,b,d,g,a=>by
  have c:(zv6 bud R G st b).st.length<=bud:=zi5<|zm2 d;have h:st.length<=(zv6 bud R G st b).st.length:=yI (zka (bud:=bud) (i:=0) (l:=R) (p:=⟨0,st,b⟩)) zg2;unfold runU at a|-;by_cases e:(zv6 bud R G st b).k=0/\st.length<(zv6 bud R G st b).st.length
  ·rw[if_pos e]at a|-;exact zn5 c (by omega) a
  ·rw[if_neg e]at a|-;obtain⟨m,j⟩:=zqi a<|by omega
   grind
def PJ (xf:List Range->Prop)(p:PR):Prop:=p.k=0->xf p.b
theorem PJ.bind {xf p f}(h:PJ xf p)(hf:∀st b,xf b->PJ xf (f st b)):PJ xf<|p.bind f:=by
 unfold PR.bind;split<;>rename_i a;·exact hf _ _<|h a
 grind
theorem zrM {xf}{bud kind index cell r st b}(h:xf b)(hw:¬r.hi<r.lo->xf (zvu b cell r)):PJ xf<|zvY bud kind index cell r st b:=by
 unfold zvY;split;·exactλ_=>h
 ·split;·exactλa=>absurd a<|by simp
  ·split<;>rename_i c;·exactλa=>absurd a<|by simp
   ·exactλ_=>hw c
theorem zs6 {xf}{bud i}{row}:∀{l}{p},(∀t∈l,∀b,xf b->¬(zbW row b t.cell).hi<(zbW row b t.cell).lo->xf (zvu b t.cell<|zbW row b t.cell))->PJ xf p->PJ xf (rowT bud i row l p)|[],_,_,h=>h|t::l,p,c,h=>by exact zs6 (l:=l) (λy d=>c y<|by grind)<|h.bind λe b a=>zrM a<|c t (by simp) b a
theorem zrB {xf}{bud}:∀{i}{l}{p},(∀r∈l,∀t∈r.zuQ,∀b,xf b->¬(zbW r b t.cell).hi<(zbW r b t.cell).lo->xf (zvu b t.cell<|zbW r b t.cell))->PJ xf p->PJ xf (zwg bud i l p)
 |_,[],_,_,h=>h|i,r::l,p,a,h=>by
  refine zrB (l:=l) (λy e=>a y<|by grind)<|h.bind λf b d=>?_;split;·split<;>exactλc=>absurd c<|by simp
  ·exact zs6 (a r<|by simp) λ_=>d
theorem grT_J {xf}{bud i}{g}:∀{d k}{p},(∀j,k<=j->j<k+d->∀b,xf b->¬(cutP g b j).hi<(cutP g b j).lo->xf (zvu b (g.first+(j:Int))<|cutP g b j))->PJ xf p->PJ xf (grT bud i g d k p)|0,_,_,_,h=>h|d+1,k,p,c,h=>by exact grT_J (d:=d) (k:=k+1) (λj e f=>c j (by omega)<|by omega)<|h.bind λl b a=>zrM a<|c k (yk _) (by omega) b a
theorem znw {xf}{bud}:∀{i}{l}{p},(∀g∈l,∀j,j<g.least.length->∀b,xf b->¬(cutP g b j).hi<(cutP g b j).lo->xf (zvu b (g.first+(j:Int))<|cutP g b j))->PJ xf p->PJ xf (zb5 bud i l p)|_,[],_,_,h=>h|i,g::l,p,a,h=>by exact znw (l:=l) (λy d=>a y<|by grind)<|grT_J (λj _ c=>a g (by simp) j<|by omega) h
theorem zrH {xf}{bud R G}(hR:∀r∈R,∀t∈r.zuQ,∀b,xf b->¬(zbW r b t.cell).hi<(zbW r b t.cell).lo->xf (zvu b t.cell<|zbW r b t.cell))(hG:∀g∈G,∀j,j<g.least.length->∀b,xf b->¬(cutP g b j).hi<(cutP g b j).lo->xf (zvu b (g.first+(j:Int))<|cutP g b j)):∀{f}{st b},xf b->PJ xf (runU bud R G f st b)
 |0,_,_,h=>λ_=>h|f+1,st,b,h=>by
  have c:PJ xf<|zv6 bud R G st b:=znw hG<|zrB hR λ_=>h;unfold runU;split<;>rename_i a;·exact zrH hR hG<|c a.1
  grind
theorem InB.zzB {b}{x}{c}{r}(h:InB (zvu b c r) x)(h0:0<=c)(h1:c<(b.length:Int))(hr:(rgP b c).lo<=r.lo/\r.hi<=(rgP b c).hi):InB b x:=by
 refine⟨by have:=h.len;grind[zby],λd a e=>?_⟩;have f:=h.mem d a<|by grind[zby]
 grind[zk0]
theorem zsB {L bud R G f st b}(hL:L<=1000)(hR:∀r∈R,RwOK L r)(hG:∀g∈G,∃K,GrOK L g K)(hb:b.length=L)(hk:(runU bud R G f st b).k=0):∀x,InB (runU bud R G f st b).b x->InB b x:=by
 refine(zrH (xf:=λc=>c.length=L/\∀x,InB c x->InB b x) (λr m t l c⟨o,a⟩d=>⟨by grind[zby],λx h=>a x ?_⟩) (λg n j p c⟨o,a⟩d=>⟨by grind[zby],λx h=>a x ?_⟩) ⟨hb,λx h=>h⟩ hk).2;·have e:=(hR r m).cells t l;exact h.zzB e.1 (by omega)<|zfV<|by omega
 ·obtain⟨K,i⟩:=hG g n;have e:=i.cell (show L<=1000000 by omega) (k:=j)<|by rw[<-i.len];grind
  exact h.zzB e.2.1 (by omega)<|zh7<|by omega
structure SolN (G:List zvg)(cs:List<|List Row)(root:Bool)(R:List Row)(b:List Range)(x:List Int):Prop where
 box:InB b x
 rows:∀r∈R,rowH x r=U
 zuT:∀g∈G,zcd x g=U
 case_:root=U->cs≠[]->∃l∈cs,∀r∈l,rowH x r=U
theorem zj6 {α}{self}{tr ix d}:∀{i}{l:List α}{kids}{c},(zvH self tr ix d i l kids c).k=0->∃x∈l,∃e,(self x e).k=0/\(zvH self tr ix d i l kids c).v=(self x e).v
 |_,[],_,_,h=>absurd h<|by simp[zvH]|i,x::l,kids,c,h=>by
  unfold zvH at h|-;split at h<;>rename_i b;·grind[zeD]
  ·split at h<;>rename_i f;·grind
   ·obtain⟨y,g,e,j,a⟩:=zj6 (l:=l) h;grind
theorem zmI {α}{self}{tr ix d}:∀{i}{l:List α}{kids}{c},(zvH self tr ix d i l kids c).k≠0->(zvH self tr ix d i l kids c).k≠2->∀x∈l,∃e,(self x e).k≠0/\(self x e).k≠2
 |_,[],_,_,_,_=>by simp|i,x::l,kids,c,b,a=>by
  unfold zvH at b a;split at a<;>rename_i g;·exact absurd rfl a
  ·rw[if_neg g]at b;split at a<;>rename_i h;·grind
   ·rw[if_neg h]at b;intro y f;rcases yF.1 f with rfl|f;·grind
    ·exact zmI (l:=l) b a y f
theorem ztx {b}(hne:∀r∈b,r.lo<=r.hi):InB b<|b.map (·.lo):=by
 refine⟨by simp,λc d a=>?_⟩;have e:valC (b.map (·.lo)) c=(rgP b c).lo:=by grind[valC,rgP]
 rw[e];exact⟨Int.le_refl _,hne _<|zhy d a⟩
theorem zlJ {b}(hne:∀r∈b,r.lo<=r.hi)(h:zu3 b<0):∀r∈b,r.lo=r.hi:=by
 have c:∀(l:List Range)(k:Nat),ixA zxj l k<0->∀r∈l,¬r.lo<r.hi:=by
  intro l;induction l with
  |nil=>grind|cons x l ih=>
   intro k d r a;unfold ixA at d;by_cases e:zxj x=U;·grind
   ·rcases yF.1 a with rfl|a;·grind[zxj]
    grind
 intro r a;have:=c b 0 h r a;grind
theorem ztu {r}{v}(h1:r.lo<=v)(h2:v<=r.hi):∃x∈zvM r,x.lo<=v/\v<=x.hi:=by
 by_cases h:v<=midP r;·exact⟨⟨r.lo,midP r⟩,by simp[zvM],h1,h⟩
 ·exact⟨⟨midP r+1,r.hi⟩,by simp[zvM],by grind,h2⟩
theorem zgc {L G cs}(hG:SysG L G cs):∀{f}{root R b d},(∀r∈R,RwOK L r)->PI 0 L 0 [] b->(zvD G cs f root R b d).k≠0->(zvD G cs f root R b d).k≠2->∀x,¬SolN G cs root R b x
 |0,_,_,_,_,_,_,_,h=>absurd rfl h|f+1,root,R,b,d,q,B,j,c=>by
  intro x m;have xf:=hG.le;unfold zvD at j c;split at c<;>rename_i u;·exact absurd rfl c
  ·rw[if_neg u]at j;dsimp only at j c;have s:=ziD (bud:=d-1) (f:=d) (show L<=1000 by omega) q hG.gr<|zh1 (d:=d-1) B;have i:=zk4 (bud:=d-1) (f:=d) (st:=[]) (show L<=1000 by omega) (λr a=>⟨q r a,m.rows r a⟩) (λg A=>⟨hG.gr g A,m.zuT g A⟩) m.box B.len;split at c<;>rename_i o;·exact absurd rfl c
   ·rw[if_neg o]at j;have E:=i.2.elim id λh=>absurd h o;rw[if_neg<|by omega]at j c;have s:=s E;have n:=(i.1 E).1;split at c<;>rename_i a
    ·rw[if_pos a]at j;simp only[yc,yz,vg]at a;obtain⟨l,H,t⟩:=m.case_ a.1 a.2;obtain⟨e,v,y⟩:=zmI j c l H;exact zgc hG (λr a=>(yu.1 a).elim (q r)<|(hG.ca l H).2 r) (zh1 s) v y x ⟨n,λr a=>(yu.1 a).elim (m.rows r)<|t r,m.zuT,λh=>by cases h⟩
    ·rw[if_neg a]at j;split at c<;>rename_i z;·grind
     ·rw[if_neg z]at j;obtain⟨C,F,K⟩:=zfc z;have I:=n.mem _ C F;obtain⟨r,a,w⟩:=ztu I.1 I.2;obtain⟨e,v,y⟩:=zmI j c r a;exact zgc hG q (zgq s z a) v y x ⟨n.with_ C F w,m.rows,m.zuT,λh=>by cases h⟩
theorem zgb {L G cs}(hG:SysG L G cs):∀{f}{root R b d},(∀r∈R,RwOK L r)->PI 0 L 0 [] b->(zvD G cs f root R b d).k=0->SolN G cs root R b (zvD G cs f root R b d).v
 |0,_,_,_,_,_,_,h=>absurd h<|by simp[zvD,zeD]|f+1,root,R,b,d,w,H,h=>by
  have Q:=hG.le;unfold zvD at h|-;split at h<;>rename_i A;·grind[zeD]
  ·rw[if_neg A];dsimp only at h|-;have n:=ziD (bud:=d-1) (f:=d) (show L<=1000 by omega) w hG.gr<|zh1 (d:=d-1) H;have a:=zn5 (bud:=d-1) (R:=R) (G:=G) (f:=d) (st:=[]) (b:=b) (by simp)<|by grind
   have i:∀x,(runU (d-1) R G d [] b).k=0->InB (runU (d-1) R G d [] b).b x->InB b x:=λx s=>zsB (show L<=1000 by omega) w hG.gr H.len s x;generalize runU (d-1) R G d [] b=p at*;split at h<;>rename_i B;·grind[zeD]
   ·rw[if_neg B];split at h<;>rename_i q;·grind
    ·have s:p.k=0:=by omega
     have n:=n s;have a:=a s;have i:=λx=>i x s;rw[if_neg q];split at h<;>rename_i j
     ·rw[if_pos j];obtain⟨l,I,e,z,ev⟩:=zj6 h;rw[ev];have:=zgb hG (λr j=>(yu.1 j).elim (w r)<|(hG.ca l I).2 r) (zh1 n) z;exact⟨i _ this.box,λr j=>this.rows r<|wm _ j,this.zuT,λ_ _=>⟨l,I,λr j=>this.rows r<|wC _ j⟩⟩
     ·rw[if_neg j];have m:root=U->cs≠[]->False:=λq y=>j<|by grind
      split at h<;>rename_i t
      ·rw[if_pos t];have F:=zlJ n.ne t;have o:=ztx n.ne;refine⟨i _ o,λr j=>ztN (by rw[n.len];grind) o F (a.rows r j).1 (a.rows r j).2,λg E=>?_,λq y=>(m q y).elim⟩;obtain⟨K,xd⟩:=hG.gr g E;exact zq1 (K:=K) (by rw[n.len];grind) o (by rw[n.len];omega) F λk s=>a.zuT g E k<|by rw[xd.len];grind
      ·rw[if_neg t];obtain⟨r,j,e,z,ev⟩:=zj6 h;rw[ev];obtain⟨xf,N,xa⟩:=zfc t;have:=zgb hG w (zgq n t j) z;refine⟨i _ ⟨by have:=this.box.len;grind[zby],λc u P=>?_⟩,this.rows,this.zuT,λq y=>(m q y).elim⟩;have C:=this.box.mem c u<|by grind[zby]
       rw[zk0 xf N u]at C;split at C<;>rename_i e
       ·subst e;have:=zpf j xa;omega
       grind
theorem zpK (x):∀l m,sumP x (l++m)=sumP x l+sumP x m|[],_=>by simp[sumP]|t::l,m=>by simp only[uu,sumP,zpK x l m];omega
theorem zny {α}{p}:∀(l:List α)(k),(ixP p l k=-1/\∀x∈l,p x=M)\/∃i,∃hi:i<l.length,p l[i]=U/\ixP p l k=((k+i:Nat):Int)
 |[],k=>.inl ⟨rfl,by simp⟩|x::l,k=>by
  simp only[ixP];cases h:p x with
  |true=>grind|false=>
   rcases zny (p:=p) l<|k+1 with⟨b,a⟩|⟨i,hi,b,a⟩;·simp_all
   ·exact .inr ⟨i+1,by simp_all,by simp_all,by grind⟩
structure StB (b:List Range)(x:List Int):Prop where
 inb:InB b x
 box:boxP b=U
theorem StB.val {b x}(h:StB b x){c}(h0:0<=c)(h1:c<(b.length:Int)):-1000000<=valC x c/\valC x c<=1000000/\idx x c=O (valC x c):=by
 have d:=h.inb.mem c h0 h1;have e:=zkl h.box _<|zhy h0 h1;refine⟨by omega,by omega,?_⟩;have a:=h.inb.len;exact zj4 h0<|by omega
theorem zgV {n}{b}{x}{r}(h:StB b x)(hr:RwOK b.length r)(hn:1000000<=n):zeq n r x=O (rowH x r):=by
 have p:=hr.few;have a:∀t∈r.zuQ,-1000<=t.zuW/\t.zuW<=1000:=λt e=>by
  have:=hr.fits;simp only[zxL,yc]at this;have:=(zd0 (by omega) this.1).1 t e;simp_all
 have s:∀(l:List Term),(∀t∈l,t∈r.zuQ)->-(1000000000*l.length)<=sumP x l/\sumP x l<=1000000000*l.length:=by
  intro l;induction l with
  |nil=>grind[sumP]|cons t l ih=>
   intro o;have c:=hr.cells t<|o t<|by simp
   have k:=h.val c.1 c.2;have d:=a t<|o t<|by simp
   have q:=zho (B:=1000000) d.1 d.2 (by omega) k.2.1;grind[sumP,valC]
 have:=zy (body:=zci.l1 n r x) (len:=r.zuQ.length) (st:=λi=>(sumP x<|r.zuQ.take i,i)) (g:=λ_=>O<|sumP x r.zuQ) (λj i m f=>?_) (λj=>?_) n 0 (ym _)<|by omega
 ·unfold zeq zci;rw[show zuR (zci.l1 n r x) n (0,0)=_ from this];rfl
 ·have e:=yg m;have c:=hr.cells _ e;have k:=h.val c.1 c.2;have d:=a _ e;have q:=zho (B:=1000000) d.1 d.2 (by omega) k.2.1;rw[yv m,zpK]at f;simp only[zci.l1,zb m];grind[zuZ,valC,z9,zuN,sumP]
 ·simp[zci.l1]
theorem zoj {n}{b}{x}(h:StB b x)(hn:1000000<=n):zaD n b x=O true:=by
 have j:=h.inb.len;have e:=zmk h.box;unfold zaD;have:=zy (body:=zaD.l1 n b x) (len:=b.length) (st:=λi=>i) (g:=λ_=>O U) (λa i f k=>?_) (λa=>?_) n 0 (ym _)<|by omega
 ·grind
 ·have l:=h.inb.mem i (by omega)<|by omega
  have d:=h.val (c:=i) (by omega)<|by omega
  simp only[zaD.l1,zB f,if_true,d.2.2,ya,yp,yw,grd,ze (i:=i)<|by omega];rw[zfJ (by omega)<|by omega,ya,if_neg<|by simp_all];grind
 ·simp[zaD.l1]
def numU (K:Nat):List Int:=(xn K).map λ(i:Nat)=>(i:Int)
theorem zg5 (K):(numU K).length=K:=by simp[numU]
theorem zio {K}{y}:y∈numU K↔∃u:Nat,u<K/\(u:Int)=y:=by simp[numU]
theorem zpv {K i}(h:i<(numU K).length):(numU K)[i]=(i:Int):=by simp[numU]
theorem zqg {n K:Nat}(hK:K<=6)(hn:1000000<=n):zaY n (K:Int)=O (numU K):=by
 have e:=zg5 K;unfold zaY;rw[mkl_0<|by omega,ya];have:=zbf (body:=zaY.l1 n<|xy K 0) (len:=K) (st:=λs i=>(s,i)) (g:=λ_ _=>O<|numU K) (λi s=>s=(numU K).take i++xy (K-i) 0) (λc i s l f j=>?_) (λc s f=>?_) n 0 (xy K 0) (ym _) (by omega)<|by simp
 ·grind
 ·have d:Z (i<((xy K (0:Int)).length:Int))=true:=by simp_all
  have b:((numU K).take i).length=i:=by grind
  have a:i<s.length:=by grind
  simp only[zaY.l1,d];rw[zb a,ya,zjP a,ya,ze (i:=i)<|by omega];refine j _ ?_;have k:i<(numU K).length:=by omega
  rw[f,yv k,show K-i=K-(i+1)+1 by omega,vw,uJ _ _<|by omega,b,uw,wP,yM];grind[zpv]
 ·have h:Z (K<(xy K 0).length)=false:=by simp
  simp only[zaY.l1];grind
theorem zpZ {n K:Nat}{b:List Range}{x:List Int}{g:zvg}(h:StB b x)(hg:GrOK b.length g K)(hn:1000000<=n):zbl n g x=O (zcd x g):=by
 have hK:=hg.le;have hsq:=hg.sq;have hbl:=zmk h.box;obtain⟨E,hE⟩:∃E,E=zyz x g:=⟨_,rfl⟩;have hgH:zcd x g=zwZ E K:=by unfold zcd;rw[hg.size,yr,hE]
 have hedge:∀(s:List Bool)(u v:Nat),s.length=K->u<K->v<K->zbM n (u:Int) s x g (v:Int)=O (!s.getD u M&&E u v):=λs u v hs hu hv=>by
  have hp:=ze1 hu hv;have hc:=hg.cell (show b.length<=1000000 by omega) hp;have e1:zuZ (u:Int) g.size=((u*K:Nat):Int):=by
   rw[hg.size];unfold zuZ;rw[z9 (by rw[<-ux];omega)<|by rw[<-ux];omega];simp
  have e2:zuN ((u*K:Nat):Int) (v:Int)=((u*K+v:Nat):Int):=zcL<|by omega
  have e3:zuN (zuN g.first ((u*K:Nat):Int)) (v:Int)=g.first+((u*K+v:Nat):Int):=by
   have hf:=hg.fst;have:zuN g.first ((u*K:Nat):Int)=g.first+((u*K:Nat):Int):=z9 (by omega)<|by omega
   rw[this];unfold zuN;rw[z9 (by omega)<|by omega];omega
  have hv2:=h.val hc.2.1 hc.2.2;have hs1:idx s (u:Int)=O (s.getD u M):=by rw[zb<|by omega];simp[yO,show u<s.length by omega]
  unfold zbM;simp only[hs1,ya,e1,e2,e3,hv2.2.2,zj7<|show u*K+v<g.least.length by rw[hg.len];exact hp,yp,yw,grd,if_true,yj];rw[hE,zia hg]
 have hnum:=zqg (n:=n) hK hn;have hfree:∀(s:List Bool)(v:Nat),s.length=K->v<K->zdq n (v:Int) s g x=O (!s.getD v M&&!(numU K).any λu=>!s.getD u.toNat M&&E u.toNat v):=λs v hs hv=>by
  have hs1:idx s (v:Int)=O (s.getD v M):=by rw[zb<|by omega];simp[yO,show v<s.length by omega]
  have hany:=zbt (n:=n) (l:=numU K) (f:=λq0=>zbM n q0 s x g (v:Int)) (p:=λu=>!s.getD u.toNat M&&E u.toNat v) (λy hy=>by
   obtain⟨u,hu,rfl⟩:=zio.1 hy;exact hedge s u v hs hu hv) (by rw[zg5];omega)<|by rw[zg5];omega
  unfold zdq;simp only[hs1,ya,hg.size,hnum,hany,yp,yw,grd,if_true,yj]
 have hmk:mkl 1 g.size (M:Bool)=O (xy K M):=by rw[hg.size];unfold mkl;rw[if_pos<|by omega];simp
 unfold zbl;rw[hmk,ya,hgH];have:=zdI (body:=zbl.l1 n g x) (k:=K) (n:=n) (st:=λ(s:List Bool)i=>(s,(i:Int))) (λi s=>s.length=K/\s.count U=i/\∀S,zza E K S->∀a,a<K->S a->s.getD a M=M) (λv:Bool=>v=zwZ E K) (λrec i s hi hI hr=>?_) (λrec s hI=>?_) (by omega) (xy K M) ⟨by simp,by rw[List.count_replicate];simp,λS _ a ha _=>by simp[yO,List.getElem?_replicate,ha]⟩
 ·obtain⟨r,h1,h2⟩:=this;rw[<-h2];exact h1
 ·obtain⟨I1,I2,I3⟩:=hI;have hlt:Z ((i:Int)<(K:Int))=true:=by simp;omega
  simp only[zbl.l1,hg.size,hlt,if_true,hnum,ya];rw[zfD (p:=λv=>!s.getD v.toNat M&&!(numU K).any λu=>!s.getD u.toNat M&&E u.toNat v.toNat) (λy hy=>by
   obtain⟨v,hv,rfl⟩:=zio.1 hy;exact hfree s v I1 hv) (by rw[zg5];omega)<|by rw[zg5];omega,ya];rcases zny (p:=λv:Int=>!s.getD v.toNat M&&!(numU K).any λu=>!s.getD u.toNat M&&E u.toNat v.toNat) (numU K) 0 with⟨e,hall⟩|⟨v,hv,hp,e⟩
  ·rw[e,if_pos<|by decide];refine⟨M,rfl,?_⟩;have hex:∃a,a<K/\s.getD a M=false:=by
    refine xG λhn=>?_;have:s.count U=s.length:=by
     rw[List.count_eq_length];intro y hy;obtain⟨j,hj,rfl⟩:=wh hy;have hjK:j<K:=by rw[<-I1];exact hj
     have:¬s.getD j M=false:=λh=>hn ⟨j,hjK,h⟩;simp only[yO,yB hj,yj,Bool.not_eq_false]at this;exact this.symm
    omega
   obtain⟨a,ha,hsa⟩:=hex;obtain⟨y,hy⟩:=zlH (E:=E) (K:=K) (S:=λv=>s.getD v M=M) (λv hv hv2=>by
    have:=hall (v:Int)<|zio.2 ⟨v,hv,rfl⟩;simp only[yr,hv2,ur,yA,vH,ut,yc,yz]at this;obtain⟨z,hz,h1,h2⟩:=this;obtain⟨u,hu,rfl⟩:=zio.1 hz;simp only[yr]at h1 h2;exact⟨u,hu,h1,h2⟩) ha hsa;symm;rw[uT];exactλe=>zfG.1 e y hy
  ·have hvK:v<K:=by rw[zg5]at hv;exact hv
   rw[zpv]at hp;simp only[yr,yc,yz,vM]at hp;rw[e,ug,if_neg<|by simp,zb<|show v<s.length by omega,ya,zjP<|show v<s.length by omega,ya,ze (i:=i)<|by omega];refine hr _ ⟨by grind,by rw[zj3 (by omega) hp.1,I2],λS hS a ha hSa=>?_⟩;rw[zgA<|by omega];have h1:=I3 S hS a ha hSa;split<;>rename_i e
   ·exfalso;subst e;obtain⟨u,hu,hSu,hEu⟩:=hS a ha hSa;have h2:=hp.2 (u:Int)<|zio.2 ⟨u,hu,rfl⟩;grind[Int.toNat_natCast]
   simp_all
 ·obtain⟨I1,I2,I3⟩:=hI;have hge:Z ((K:Int)<g.size)=false:=by rw[hg.size];simp
  simp only[zbl.l1,hge,ye,if_false];refine⟨U,rfl,?_⟩;symm;rw[zfG];intro y hy;obtain⟨hB,a,ha,haS⟩:=zp4 hy;have h1:=I3 _ hB a ha haS;have h2:s.count U=s.length:=by omega
  grind[List.count_eq_length,List.getElem_mem,List.getElem?_eq_getElem]
def elemP (s:Swap)(x:Int):Int:=if x=s.a then s.b else if x=s.b then s.a else x
structure zyN (sizes:List Int)(s:Swap):Prop where
 sort:zvJ sizes s.sort=U
 a:0<=s.a
 ab:s.a<s.b
 b:s.b<sizes.getD s.sort.toNat 0
def nK (sizes:List Int)(c:Int):Nat:=(sizes.getD c.toNat 0).toNat
def colS (s:Swap)(c:Int)(x:Nat):Nat:=if c=s.sort then(elemP s (x:Int)).toNat else x
section
variable{sizes:List Int}{s:Swap}(h:zyN sizes s)
include h
end
def digP (sizes:List Int)(s:Swap):List Int->Nat->Nat|[],_=>0|c::cs,r=>colS s c (r%nK sizes c)+nK sizes c*digP sizes s cs (r/nK sizes c)
def mvT (sizes:List Int)(s:Swap)(strict:Bool):List Table->Int->Int|[],_=>-1|t::l,c=>if(zbB t.kind==strict&&(Z (t.first<=c)&&Z (c<t.first+zau sizes t.zuO 1)))=U then t.first+((digP sizes s t.zuO.reverse (c-t.first).toNat:Nat):Int)else mvT sizes s strict l c
def mvS (sizes:List Int)(s:Swap)(strict:Bool):List Table->Int->Int|[],_=>-1|t::l,c=>if(zbB t.kind==strict&&(Z (0<=zuY c t.first)&&Z (zuY c t.first<zau sizes t.zuO 1)))=U then t.first+((digP sizes s t.zuO.reverse (zuY c t.first).toNat:Nat):Int)else mvS sizes s strict l c
section
variable{sizes:List Int}{s:Swap}(h:zyN sizes s)(hs:sizes.all zcO=U)
include h hs
end
def mvC (m:Model)(s:Swap)(c:Int):Int:=mvT m.zuU s U m.tables c
structure Swp (m:Model)(s:Swap):Prop where
 ok:zyN m.zuU s
 lay:zbx m.zuU m.tables=U
theorem zph:∀{box}{x},x.length=box.length->(∀(i)(h1)(h2:i<x.length),box[i].lo<=x[i]/\x[i]<=box[i].hi)->zvl box x=U
 |[],[],_,_=>rfl|[],_::_,h,_=>by grind|_::_,[],h,_=>by grind|r::box,v::x,h,hi=>by
  have b:=hi 0 (by simp) (by simp);have a:=zph (box:=box) (x:=x) (by simp_all) λi h1 h2=>by have:=hi (i+1) (by simp_all) (by simp_all);simp_all
  grind[zvl]
def insT (t:Term):List Term->List Term|[]=>[t]|u::l=>if t.cell<u.cell then t::u::l else u::insT t l
def mvt (m:Model)(s:Swap)(t:Term):Term:=⟨mvC m s t.cell,t.zuW⟩
def rowL (m:Model)(s:Swap)(l:List Term)(acc:List Term):List Term:=l.foldl (λacc t=>insT (mvt m s t) acc) acc
def rowM (m:Model)(s:Swap)(r:Row):Row:=⟨rowL m s r.zuQ [],r.bound⟩
def solB (S:System)(x:List Int):Bool:=S.rows.all (rowH x)&&S.zuT.all (zcd x)&&(S.cases.isEmpty||S.cases.any λl=>l.all<|rowH x)
theorem zrO {n:Nat}{L:Nat}{S:System}{x:List Int}(hG:SysG L S.zuT S.cases)(hR:∀r∈S.rows,RwOK L r)(hRl:S.rows.length<=1024)(h:StB S.box x)(hL:S.box.length=L)(hn:1000000<=n):zeK n S x=O (solB S x):=by
 subst hL;obtain⟨bad,hbad⟩:∃bad:List Int,bad=(xn S.rows.length).flatMap λi=>if rowH x (S.rows.getD i J)=U then[]else[(i:Int)]:=⟨_,rfl⟩;obtain⟨badG,hbadG⟩:∃bad:List Int,bad=(xn S.zuT.length).flatMap λi=>if zcd x (S.zuT.getD i J)=U then[]else[(i:Int)]:=⟨_,rfl⟩;have hgl:=hG.gl;have hcl:=hG.cl;have hbl:bad.length<=1024:=by
  have:=zcZ (f:=λi=>if rowH x (S.rows.getD i J)=U then([]:List Int)else[(i:Int)]) (B:=1) (l:=xn S.rows.length) λi _=>by split<;>simp
  rw[hbad];simp only[uM]at this;omega
 have hbgl:badG.length<=64:=by
  have:=zcZ (f:=λi=>if zcd x (S.zuT.getD i J)=U then([]:List Int)else[(i:Int)]) (B:=1) (l:=xn S.zuT.length) λi _=>by split<;>simp
  rw[hbadG];simp only[uM]at this;omega
 have hfails:zaz n S x=O (bad,badG):=by
  unfold zaz;have h1:=zcw (body:=zaz.l1 n S x) (k:=S.rows.length) (n:=n) (st:=λ(o:List Int)i=>(o,(i:Int))) (λi=>if rowH x (S.rows.getD i J)=U then([]:List Int)else[(i:Int)]) (λo=>zuR (zaz.l2 n S x o) n (([]:List Int),0)) 1 [] (λi _=>by split<;>simp) (λrec o i hi hI=>?_) (λrec o hI=>?_)<|by omega
  ·refine(show zuR (zaz.l1 n S x) n (([]:List Int),0)=_ from h1).trans ?_;rw[yN,<-hbad];have h2:=zcw (body:=zaz.l2 n S x bad) (k:=S.zuT.length) (n:=n) (st:=λ(o:List Int)i=>(o,(i:Int))) (λi=>if zcd x (S.zuT.getD i J)=U then([]:List Int)else[(i:Int)]) (λo=>O (bad,o)) 1 [] (λi _=>by split<;>simp) (λrec o i hi hI=>?_) (λrec o hI=>?_)<|by omega
   ·refine(show zuR (zaz.l2 n S x bad) n (([]:List Int),0)=_ from h2).trans ?_;rw[yN,<-hbadG]
   ·obtain⟨K,hK⟩:=hG.gr _<|yg hi;have e:S.zuT.getD i J=S.zuT[i]:=by simp[yO,hi]
    simp only[zaz.l2,zB hi,if_true,jn,zb hi,ya,zpZ h hK hn,ze (i:=i)<|by omega,e];cases zcd x S.zuT[i]with|true=>simp|false=>simp only[ur,if_true,ye,if_false];rw[zl<|by simp at hI;simp;omega,ya]
   ·simp only[zaz.l2,zat,ye,if_false]
  ·have e:S.rows.getD i J=S.rows[i]:=by simp[yO,hi]
   simp only[zaz.l1,zB hi,if_true,jn,zb hi,ya,zgV h (hR _<|yg hi) hn,ze (i:=i)<|by omega,e];cases rowH x S.rows[i]with|true=>simp|false=>simp only[ur,if_true,ye,if_false];rw[zl<|by simp at hI;simp;omega,ya]
  ·simp only[zaz.l1,zat,ye,if_false]
 have hrows:bad=[]↔S.rows.all (rowH x)=true:=by
  rw[hbad,List.flatMap_eq_nil_iff,yq];constructor
  ·intro hh r hr;obtain⟨i,hi,rfl⟩:=wh hr;have:=hh i<|yU.2 hi;rw[show S.rows.getD i J=S.rows[i]by simp[yO,hi]]at this;split at this;·assumption
   ·simp at this
  ·intro hh i hi;have hi:=yU.1 hi;rw[show S.rows.getD i J=S.rows[i]by simp[yO,hi],if_pos<|hh _<|yg hi]
 have hgraphs:badG=[]↔S.zuT.all (zcd x)=true:=by
  rw[hbadG,List.flatMap_eq_nil_iff,yq];constructor
  ·intro hh r hr;obtain⟨i,hi,rfl⟩:=wh hr;have:=hh i<|yU.2 hi;rw[show S.zuT.getD i J=S.zuT[i]by simp[yO,hi]]at this;split at this;·assumption
   ·simp at this
  ·intro hh i hi;have hi:=yU.1 hi;rw[show S.zuT.getD i J=S.zuT[i]by simp[yO,hi],if_pos<|hh _<|yg hi]
 have halt:∃k,zaP n S x=O (k,S.cases.any λl=>l.all<|rowH x):=by
  unfold zaP;have:=zdI (body:=zaP.l1 n S x) (k:=S.cases.length) (n:=n) (st:=λ(_:Unit)i=>(i:Int)) (λi _=>(S.cases.drop i).any (λl=>l.all<|rowH x)=S.cases.any λl=>l.all<|rowH x) (λr:Int×Bool=>r.2=S.cases.any λl=>l.all<|rowH x) (λrec i _ hi hI hr=>?_) (λrec _ hI=>?_) (by omega) ()<|by simp
  ·obtain⟨⟨k,v⟩,h1,h2⟩:=this;simp only at h2;exact⟨k,by rw[<-h2];exact h1⟩
  ·have hl:=hG.ca _<|yg hi;have hc:=zhh (n:=n) (l:=S.cases[i]) (f:=λq0=>zcs n q0 x) (p:=λr=>!rowH x r) (λr hr=>by simp only[zcs,zgV h (hl.2 r hr) hn,ya]) (by omega) hn;rw[zk hi,List.any_cons]at hI;simp only[zaP.l1,zB hi,if_true,zb hi,ya,hc,ze (i:=i)<|by omega];have e:(!S.cases[i].any λr=>!rowH x r)=S.cases[i].all (rowH x):=by rw[List.all_eq_not_any_not]
   rw[e];cases ha:S.cases[i].all<|rowH x with
   |true=>rw[if_pos rfl];exact⟨_,rfl,by rw[ha]at hI;simpa using hI⟩|false=>rw[if_neg<|by simp];exact hr ()<|by rw[ha]at hI;simpa using hI
  ·simp only[zaP.l1,zat,ye,if_false];exact⟨_,rfl,by simpa using hI⟩
 obtain⟨k,halt⟩:=halt;have hadd:zuN (bad.length:Int) (badG.length:Int)=((bad.length+badG.length:Nat):Int):=zcL<|by omega
 unfold zeK;rw[hfails,ya];simp only[hadd,halt,ya];unfold solB;have hce:((S.cases.length:Int)==0)=S.cases.isEmpty:=by rw[we];simp
 rw[hce];by_cases hz:bad=[]/\badG=[];·rw[if_neg<|by rw[hz.1,hz.2];simp,hrows.1 hz.1,hgraphs.1 hz.2,yA,yA,Bool.or_comm]
 ·rw[if_pos<|by
   simp only[yf];have:0<bad.length+badG.length:=by refine xG λhn=>hz ⟨List.length_eq_zero_iff.1<|by omega,List.length_eq_zero_iff.1<|by omega⟩
   omega];have:(S.rows.all (rowH x)&&S.zuT.all (zcd x))=false:=by
   rw[uT];intro e;simp only[yc]at e;exact hz ⟨hrows.2 e.1,hgraphs.2 e.2⟩
  rw[this,uh]
theorem zqv {n m q rows a b S}{x}(hD:SysD n m q rows a b S)(hx:InB S.box x)(hn:1000000<=n):zfq n S x=O (solB S x):=by
 obtain⟨r,t,h⟩:=hD.g;have g:=hD.pi;have e:StB S.box x:=⟨hx,g.box⟩;have j:=g.len;have k:=hD.len;have s:=hx.len;have d:zeJ n S x=O true:=by
  have u:=zbt (n:=n) (l:=x) (f:=λv=>zdW n v) (p:=λy=>Z (y< -4000000)||decide (4000000<y)) (λy _=>rfl) (by omega)<|by omega
  have o:(x.any λy=>Z (y< -4000000)||decide (4000000<y))=false:=by
   rw[vM];intro y w;obtain⟨i,z,rfl⟩:=wh w;have:=e.val (c:=i) (by omega)<|by omega
   grind[zb]
  unfold zeJ;rw[(hD.zzK hn).1,ya,u];simp only[grd];simp_all
 unfold zfq;rw[d,ya];simp only[zoj e hn,yp,yw,grd,if_true,yj,uf,uN,ye,if_false,zrO r t h e j hn,ya]
theorem zpX {n}(hn:1000000<=n):zar n zvZ zvZ=O true:=by
 obtain⟨n,rfl⟩:∃m,n=m+1:=⟨n-1,by omega⟩;have b:zN n [] []=O true:=by
  unfold zN;rw[if_neg<|by simp,zev<|by omega];simp[zN.l1]
 have a:∀f,zm n [] [] f=O true:=λf=>by
  unfold zm;rw[if_neg<|by simp,zev<|by omega];simp[zm.l1]
 grind[zar,zar.body,zvZ,grd]
theorem zjR {n m q rows a b S}{x}{c:Nat}(hD:SysD n m q rows a b S)(hc:zh n m q rows=O (S,0))(hx:InB S.box x)(hcb:c<=65536)(hn:1000000<=n):zaF n m q ⟨0,x,zvZ,(c:Int)⟩ rows=O (solB S x):=by
 have d:=zpX hn;unfold zaF;rw[hc,ya];rw[if_neg<|by grind,if_pos<|by simp,zqv hD hx hn,ya];change grd (!solB S x||(zar n zvZ zvZ).isSome) (O<|solB S x&&(zar n zvZ zvZ).getD J)=_;grind[grd]
theorem zmE {b}{x}:zvl b x=U↔InB b x:=by
 constructor
 ·intro h;have e:=zeV h;refine⟨e,λc f a=>?_⟩;have d:c.toNat<b.length:=by omega
  have:=zfK h c.toNat d<|by omega
  grind[rgP,valC]
 ·intro h;refine zph h.len λi a g=>?_;have:=h.mem i (by omega)<|by omega
  grind[rgP,valC]
theorem ziI {n m q rows a b S}{x}(hD:SysD n m q rows a b S)(hn:4294967296<=n)(hS:zvn m)(hx:InB (boxM m) x):solB S x=zdS m q rows a b x:=by
 have f:=hD.len;have d:zvQ n m q a b x:=⟨hS,hD.valid,hD.zyq,hD.ha,hD.hb,zmE.2 hx,by omega,hn⟩;obtain⟨xe,e,c⟩:=hD.tgt;rw[<-znG d e<|zoq hD.bad,<-c,<-hD.zuT];rfl
theorem zm4 {S}{x}{b}(hx:InB b x):SolN S.zuT S.cases U S.rows b x↔solB S x=true:=by
 unfold solB;simp only[yc,yG,yq,ut,List.isEmpty_iff];constructor
 ·intro h;refine⟨⟨h.rows,h.zuT⟩,?_⟩;by_cases a:S.cases=[];·simp_all
  ·exact .inr<|h.case_ rfl a
 ·rintro⟨⟨d,e⟩,c⟩;exact⟨hx,d,e,λ_ a=>c.elim (λh=>absurd h a) id⟩
theorem zmu {n m q rows a b S}{d}(hD:SysD n m q rows a b S)(hn:4294967296<=n)(hS:zvn m)(hk:(zvG S d).k=0):InB (boxM m) (zvG S d).v/\zdS m q rows a b (zvG S d).v=true:=by
 obtain⟨i,g,e⟩:=hD.g;have h:=zgb i (f:=d+1) (root:=U) (d:=d) g hD.pi hk;change SolN S.zuT S.cases U S.rows S.box (zvG S d).v at h;have c:=h.box;have j:=(zm4 c).1 h;rw[hD.box]at c;grind[ziI]
theorem zqS {n m q rows a b S}{d}(hD:SysD n m q rows a b S)(hn:4294967296<=n)(hS:zvn m)(h0:(zvG S d).k≠0)(h2:(zvG S d).k≠2){x}(hx:InB (boxM m) x):zdS m q rows a b x=false:=by
 obtain⟨g,i,c⟩:=hD.g;have h:=zgc g (f:=d+1) (root:=U) (d:=d) i hD.pi h0 h2 x;rw[<-ziI hD hn hS hx,uT];exactλe=>h<|(zm4<|by rw[hD.box];grind).2 e
theorem zuK {d y}(h:y.k=2):zyL d y=⟨2,[],zvZ,(d:Int)⟩:=if_pos h
theorem zuI {d y}(h:y.k=0):zyL d y=⟨0,y.v,zvZ,(y.c:Int)⟩:=by unfold zyL;simp_all
theorem zuJ {d y}(h2:y.k≠2)(h0:y.k≠0):zyL d y=⟨1,[],y.t,(y.c:Int)⟩:=by unfold zyL;simp_all
def zup (m:Model)(s:Swap)(e f:zvL):Bool:=e.delta.all λd=>f.delta.any λg=>g.cell==mvC m s d.cell&&g.add==d.add
def holdB (m:Model)(s:Swap)(e f:zvL):Bool:=e.hold.all λr=>Z<|e.hold.count r=f.hold.count (rowM m s r)
def updB (m:Model)(s:Swap)(e f:zvL):Bool:=e.zuX.all λu=>Z<|e.zuX.count u=f.zuX.count ⟨u.kind,mvS m.zuU s M m.tables u.cell,u.value⟩
def zuc (m:Model)(s:Swap)(e f:zvL):Bool:=Z (e.delta.length=f.delta.length)&&(Z (e.hold.length=f.hold.length)&&Z (e.zuX.length=f.zuX.length))&&(zup m s e f&&(holdB m s e f&&updB m s e f))
structure EffS (e:zvL):Prop where
 delta:e.delta.length<=1000/\∀d∈e.delta,-1000000<=d.cell/\d.cell<=1000000
 hold:e.hold.length<=1000/\∀r∈e.hold,r.zuQ.length<=500/\∀t∈r.zuQ,-1000000<=t.cell/\t.cell<=1000000
 upd:e.zuX.length<=1000
def argM (s:Swap)(zuU args:List Int):List Int:=(xn args.length).map λi:Nat=>if zuU.getD i 0=s.sort then elemP s<|args.getD i 0 else args.getD i 0
def actB (m:Model)(s:Swap)(a b:Action):Bool:=b.operation==a.operation&&Z (b.arguments=argM s (opAt m a).zuU a.arguments)&&zuc m s a.effect b.effect
structure ActS (m:Model):Prop where
 len:m.zuP.length<=1000
 act:∀a∈m.zuP,EffS a.effect/\(∃o,idx m.zuS a.operation=O o/\o.zuU.length=a.arguments.length)/\a.arguments.length<=100
