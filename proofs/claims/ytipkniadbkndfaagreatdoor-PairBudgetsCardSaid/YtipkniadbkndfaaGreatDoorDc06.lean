/- Part of the proof of one law of the seat. -/
import Derived.Test.YtipkniadbkndfaaGreatDoorDc05
set_option linter.unusedVariables false
set_option linter.unusedSectionVars false
set_option linter.unusedSimpArgs false
set_option maxRecDepth 100000
set_option maxHeartbeats 40000000
namespace Go.Proofs.YtipkniadbkndfaaGreatDoor
open Go Go.RowKit
abbrev yY:=@_root_.List.getD_eq_getElem?_getD
abbrev ue:=@_root_.List.mem_flatMap
abbrev uf:=@_root_.Nat.mul_le_mul
abbrev ux:=@_root_.Nat.pow_le_pow_right
abbrev uL:=@_root_.Bool.and_self
abbrev uN:=@_root_.List.set_append_right
abbrev uO:=@_root_.bne_self_eq_false
structure zuz (m:Model):Prop where
 ztR:m.ztR.length≤8
 tables:m.tables.length≤6
 tab:∀ t∈m.tables,t.name.length≤40∧t.ztK.length≤12
 ztX:m.ztX.length≤20
 fam:∀ s∈m.ztX,s.length≤40
 constraints:m.constraints.length≤60
 con:∀ c∈m.constraints,c.row.ztP.length≤20
 ztN:m.ztN.length≤8
 op:∀ o∈m.ztN,o.name.length≤40∧o.ztR.length≤6
 ztL:m.ztL.length≤30
 act:∀ a∈m.ztL,a.arguments.length≤6∧a.effect.delta.length≤20∧a.effect.hold.length≤10∧a.effect.ztU.length≤40∧∀ r∈a.effect.hold,r.ztP.length≤20
 zt3:m.zt3.length≤12
def zd1 (l:List Range) (i:Nat):Row:=⟨[⟨((i / 2:Nat):Int),if i % 2=0 then -1 else 1⟩],if i % 2=0 then zuH ((idx l ((i / 2:Nat):Int)).getD default).lo else ((idx l ((i / 2:Nat):Int)).getD default).hi⟩
def famP (m:Model) (c:Constraint):Bool:=decide (0≤c.family)&&decide (c.family<(m.ztX.length:Int))
def zfk (K:Nat) (c:Constraint):Bool:=(((c.kind==0)&&(c.first==0))&&(c.size==0))&&zuI K c.row
def acyP (m:Model) (c:Constraint):Bool:=c.kind==1&&zhN m c
def conP (m:Model) (l:List Range) (i:Nat) (c:Constraint):Bool:=famP m c&&(zfk l.length c||acyP m c)&&(!decide (i / 2<l.length)||(c.kind==0&&decide (c.row=zd1 l i)))
def zxh (m:Model) (l:List Range):Bool:=decide (m.constraints.length≤512)&&decide (2*l.length≤m.constraints.length)&&allR (λi=>conP m l i ((idx m.constraints (i:Int)).getD default)) 0 m.constraints.length
theorem quo2 {i:Nat} (h:i<1000000):zvm (i:Int) 2=some ((i / 2:Nat):Int):=by
 unfold zvm;rw [if_neg (by decide),Int.tdiv_eq_ediv_of_nonneg (by omega),zaK (by omega) (by omega)];congr 1
theorem rem2 {i:Nat}:zvg (i:Int) 2=some ((i % 2:Nat):Int):=by
 unfold zvg
 grind
theorem mul2 {i:Nat} (h:i<1000000):ztZ 2 (i:Int)=((2*i:Nat):Int):=by
 grind [ztZ,zaK]
theorem zhB {n} {m} {l} (hS:zuz m) (hc:∀ t∈m.tables,t.ztK.all (zuK m.ztR)=true) (hK:l.length<100000) (hn:1000000≤n):z0 n ⟨m,l⟩=some (zxh m l):=by
 have hcl:=hS.constraints;have htl:=hS.tables;unfold z0 zxh;simp only [mul2 (show l.length<1000000 by omega)];by_cases h0:(decide (m.constraints.length≤512)&&decide (2*l.length≤m.constraints.length))=true
 ·rw [h0,yE];simp only [yd,yg] at h0;rw [if_neg (by grind)];have:=zgV (body:=z0.l1 n ⟨m,l⟩) (len:=m.constraints.length) (n:=n) (st:=λi=>(i:Int)) (λi=>conP m l i ((idx m.constraints (i:Int)).getD default)) (some false) (some true) (λrec i hi=>?_) (λrec=>?_) (by omega)
  ·grind
  ·have hterms:=hS.con _ (ym hi);simp only [z0.l1,jn,zw hi,if_true,zb hi,ya,zao,yi,zko (j:=⟨m,l⟩) (r:=m.constraints[i].row) (show m.constraints[i].row.ztP.length<1000000 by omega) hn,zml (j:=⟨m,l⟩) (c:=m.constraints[i]) hc (show m.tables.length<1000000 by omega) hn,yo,yy,grd,quo2 (show i<1000000 by omega),rem2,zrM (r:=m.constraints[i].row) (show m.constraints[i].row.ztP.length<1000000 by omega) hn,zd (i:=i) (by omega)];have hfam:(decide (0≤m.constraints[i].family)&&decide (m.constraints[i].family<(m.ztX.length:Int)))=famP m m.constraints[i]:=rfl;rw [hfam];cases hf:famP m m.constraints[i] with
   | false=>grind [conP]
   | true=>
    simp only [ui,ye,if_false];have hrest:∀ (X:Bool),X=(zfk l.length m.constraints[i]||acyP m m.constraints[i]) →
      (if X=true then (if decide (((i / 2:Nat):Int)<(l.length:Int))=true then (idx l ((i / 2:Nat):Int)).bind λx81=>(if (((i % 2:Nat):Int)==0)=true then (if (m.constraints[i].kind != 0||!decide (m.constraints[i].row=(⟨[⟨((i / 2:Nat):Int),-1⟩],zuH x81.lo⟩:Row)))=true then some false else rec ((i+1:Nat):Int)) else (if (m.constraints[i].kind != 0||!decide (m.constraints[i].row=(⟨[⟨((i / 2:Nat):Int),1⟩],x81.hi⟩:Row)))=true then some false else rec ((i+1:Nat):Int))) else rec ((i+1:Nat):Int)) else some false)=if conP m l i m.constraints[i]=true then rec ((i+1:Nat):Int) else some false:=by
     intro X hX;unfold conP;rw [hf,← hX];cases X with
     | false=>simp
     | true=>
      simp only [if_true,yE];by_cases hlt:i / 2<l.length
      ·rw [if_pos (zlB hlt),zb hlt,ya];simp only [hlt,decide_true,ui,ur,zd1,zb hlt,yi]
       grind
      grind
    by_cases hk:m.constraints[i].kind=0
    ·rw [if_pos (by simp [hk])]
     grind [zfk,acyP,zuI,bne]
    ·rw [if_neg (by simp [hk])];have hX:(zfk l.length m.constraints[i]||acyP m m.constraints[i])=(m.constraints[i].kind==1&&zhN m m.constraints[i]):=by
      simp [zfk,acyP,hk]
     rw [← hrest _ hX.symm];cases h1:(m.constraints[i].kind==1) <;> cases h3:zhN m m.constraints[i] <;> simp [bne,h1]
  ·simp [z0.l1]
 grind
theorem zqZ {m l} (h2:2*l.length≤m.constraints.length) :
  allR (λi=>conP m l i ((idx m.constraints (i:Int)).getD default)) 0 m.constraints.length=(allR (λi=>decide (((idx m.constraints ((2*i:Nat):Int)).getD default).row=zd1 l (2*i))&&decide (((idx m.constraints ((2*i+1:Nat):Int)).getD default).row=zd1 l (2*i+1))) 0 l.length
   && allR (λi=>famP m ((idx m.constraints (i:Int)).getD default)&&(zfk l.length ((idx m.constraints (i:Int)).getD default)||(decide (2*l.length≤i)&&acyP m ((idx m.constraints (i:Int)).getD default)))) 0 m.constraints.length):=by
 rw [Bool.eq_iff_iff,yd,zj9,zj9,zj9];constructor
 ·intro h;refine ⟨λj hj=>?_,λi hi=>?_⟩
  ·have ha:=h (2*j) (by omega);have hb:=h (2*j+1) (by omega);simp only [conP,yd,yK,yB,yH,yg] at ha hb ⊢
   grind
  ·have ha:=h i hi;simp only [conP,yd,yK,yB,yH,yg] at ha ⊢;refine ⟨ha.1.1,?_⟩;rcases ha.1.2 with e | e
   ·grind
   ·refine .inr ⟨?_,e⟩;rcases ha.2 with f | f
    ·omega
    ·simp only [acyP,yd,beq_iff_eq] at e
     grind
 ·rintro ⟨ha,hb⟩ i hi;have hb:=hb i hi;simp only [conP,yd,yK,yB,yH,yg] at hb ⊢;refine ⟨⟨hb.1,hb.2.imp id (·.2)⟩,?_⟩;by_cases hlt:i / 2<l.length
  ·right;have ha:=ha (i / 2) hlt;simp only [yd,yg] at ha;rcases hb.2 with e | e
   ·refine ⟨?_,?_⟩
    ·simp only [zfk,yd] at e;exact e.1.1.1
    ·by_cases hm:i % 2=0
     ·have:=ha.1
      rwa [show 2*(i / 2)=i by omega] at this
     ·have:=ha.2
      rwa [show 2*(i / 2)+1=i by omega] at this
   ·omega
  ·exact .inl hlt
theorem zhD {n} {m} (hS:zuz m) (hL:zbv m.ztR m.tables=true) (hn:1000000≤n):zY n m=some (zxh m (zW m.ztR true m.tables)):=by
 have hcl:=hS.constraints;have htl:=hS.tables;have hsl:=hS.ztR;obtain ⟨l1,l2,l3,l4⟩:=zb7 hL;have hlen:=zd0 (sizes:=m.ztR) (s:=true) (l:=m.tables) λx hx=>(l4 x hx).2.2.2.2
 unfold zY zcm zxh;rw [ze3 hn (by omega) (by omega) (λt ht=>by have:=hS.tab t ht;omega),hL,if_pos rfl];generalize zW m.ztR true m.tables=l at hlen;simp only [ya,mul2 (show l.length<1000000 by omega)];by_cases h0:(decide (m.constraints.length≤512)&&decide (2*l.length≤m.constraints.length))=true
 ·rw [h0,yE];simp only [yd,yg] at h0;rw [if_neg (by grind),zqZ h0.2];have first:=zgV (body:=zY.l1 n m l) (len:=l.length) (n:=n) (st:=λi=>(i:Int)) (λi=>decide (((idx m.constraints ((2*i:Nat):Int)).getD default).row=zd1 l (2*i))&&decide (((idx m.constraints ((2*i+1:Nat):Int)).getD default).row=zd1 l (2*i+1))) (some false) (ztO (zY.l2 n m l) n 0) (λrec i hi=>?_) (λrec=>?_) (by omega)
  ·simp only [Int.natCast_zero] at first
   rw [first];have second:=zgV (body:=zY.l2 n m l) (len:=m.constraints.length) (n:=n) (st:=λi=>(i:Int)) (λi=>famP m ((idx m.constraints (i:Int)).getD default)&&(zfk l.length ((idx m.constraints (i:Int)).getD default)||(decide (2*l.length≤i)&&acyP m ((idx m.constraints (i:Int)).getD default)))) (some false) (some true) (λrec i hi=>?_) (λrec=>?_) (by omega)
   ·grind
   ·have hterms:=hS.con _ (ym hi);have hd:decide (ztZ 2 (l.length:Int)≤(i:Int))=decide (2*l.length≤i):=by rw [mul2 (by omega)];exact decide_eq_decide.2 (by omega)
    simp only [zY.l2,zw hi,if_true,zb hi,ya,yi,zmT (r:=m.constraints[i].row) (show m.constraints[i].row.ztP.length<1000000 by omega) hn,zoA (m:=m) (c:=m.constraints[i]) (λt ht=>(l4 t ht).2.2.2.1) (show m.tables.length<1000000 by omega) hn,yo,yy,grd,zd (i:=i) (by omega),hd];have hfam:(decide (m.constraints[i].family<0)||decide ((m.ztX.length:Int)≤m.constraints[i].family)) = !famP m m.constraints[i]:=by
     unfold famP;rw [Bool.not_and,← decide_not,← decide_not];congr 1
     ·exact decide_eq_decide.2 (by omega)
     ·exact decide_eq_decide.2 (by omega)
    rw [hfam];cases famP m m.constraints[i] with
    | false=>simp
    | true=>
     have hp:((((m.constraints[i].kind==0)&&(m.constraints[i].first==0))&&(m.constraints[i].size==0))&&zuI l.length m.constraints[i].row)=zfk l.length m.constraints[i]:=rfl;rw [hp];unfold acyP;cases zfk l.length m.constraints[i] <;> cases decide (2*l.length≤i) <;> cases (m.constraints[i].kind==1) <;> cases zhN m m.constraints[i] <;> simp
   ·simp [zY.l2]
  ·have h2i:2*i<m.constraints.length:=by omega
   have h2j:2*i+1<m.constraints.length:=by omega
   have t1:=hS.con _ (ym h2i);have t2:=hS.con _ (ym h2j);have e1:zd1 l (2*i)=⟨[⟨(i:Int),-1⟩],zuH l[i].lo⟩:=by
    unfold zd1;rw [show 2*i / 2=i by omega,if_pos (by omega),if_pos (by omega),zb hi];rfl
   have e2:zd1 l (2*i+1)=⟨[⟨(i:Int),1⟩],l[i].hi⟩:=by
    unfold zd1;rw [show (2*i+1) / 2=i by omega,if_neg (by omega),if_neg (by omega),zb hi];rfl
   have hadd:ztJ ((2*i:Nat):Int) 1=((2*i+1:Nat):Int):=zd (by omega);simp only [zY.l1,zw hi,if_true,zb hi,mul2 (show i<1000000 by omega),zb h2i,hadd,zb h2j,ya,yi,zmy (show m.constraints[2*i].row.ztP.length<1000000 by omega) hn,zmy (show m.constraints[2*i+1].row.ztP.length<1000000 by omega) hn,yo,yy,grd,zd (i:=i) (by omega),e1,e2];cases decide (m.constraints[2*i].row=⟨[⟨(i:Int),-1⟩],zuH l[i].lo⟩) <;> cases decide (m.constraints[2*i+1].row=⟨[⟨(i:Int),1⟩],l[i].hi⟩) <;> simp
  ·simp [zY.l1]
 grind
theorem zat {α S R:Type} {body} {l:List α} {n} {st:Nat→S} (p) (F T:Option R)
  (hb:∀ rec i (hi),body rec (st i)=if p l[i]=true then rec (st (i+1)) else F) (he:∀ rec,body rec (st l.length)=T) (hn:l.length<n):ztO body n (st 0)=if l.all p=true then T else F:=by
 have:=zM (body:=body) (len:=l.length) (st:=st) (g:=λi=>if (l.drop i).all p=true then T else F) (λrec i hi a=>?_) (λrec=>?_) n 0 (yp _) (by omega)
 ·grind
 ·grind [zo]
 grind
def zc8 (sizes:List Int) (c:Int):Int:=sizes.getD c.toNat 0
def digR (sizes:List Int):List Int→Int→List Int
 | [],_=>[]
 | c::l,k=>k.tmod (zc8 sizes c)::digR sizes l (w64 (k.tdiv (zc8 sizes c)))
def zqf (sizes cols:List Int) (k:Int):List Int:=(digR sizes cols.reverse k).reverse
theorem zjc {sizes} (hs:sizes.all zcx=true) {c} (hc:zuK sizes c=true):1≤zc8 sizes c∧zc8 sizes c≤6:=by
 simp only [zuK,yd,yg] at hc;obtain ⟨k,rfl⟩:=yW hc.1;have b:k<sizes.length:=by omega
 have a:=yq.1 hs _ (ym b);simp only [zcx] at a
 grind [zc8]
theorem zrO {r} {done} {x:Int}:sto (List.replicate (r+1) 0++done) (r:Int) x=some (List.replicate r 0++x::done):=by
 unfold sto;rw [if_pos (by grind)]
 grind [Int.toNat_natCast,List.replicate_succ']
theorem zrg {r} {done:List Int}:∃ x,idx (List.replicate (r+1) 0++done) (r:Int)=some x:=⟨_,zb (by grind)⟩
theorem zqd {α:Type} {l:List α} {r} (h):(l.take (r+1)).reverse=l[r]::(l.take r).reverse:=by
 simp_all
theorem zkf {n} {sizes} {t} {i} (hs:sizes.all zcx=true) (hc:t.ztK.all (zuK sizes)=true) (hl:t.ztK.length<1000000):∀ (m r) (done) (k),r<m→r≤t.ztK.length →
  ztO (za9.l2 n sizes i t) m (List.replicate r 0++done,k,(r:Int) - 1)=some (i,(digR sizes (t.ztK.take r).reverse k).reverse++done,true)
 | 0,_,_,_,h,_=>by omega
 | m+1,0,done,k,_,_=>by simp [ztO,za9.l2,digR]
 | m+1,r+1,done,k,h,o=>by
  have d :=by omega
  have a:=yq.1 hc _ (ym d);have j:=zjc hs a;have e:(((r+1:Nat))) - 1=(r:Int):=by omega
  obtain ⟨x,p⟩:=zrg (r:=r) (done:=done);have b:zvg k (zc8 sizes t.ztK[r])=some (k.tmod (zc8 sizes t.ztK[r])):=by unfold zvg;grind
  have c:zvm k (zc8 sizes t.ztK[r])=some (w64 (k.tdiv (zc8 sizes t.ztK[r]))):=by unfold zvm;grind
  have g:=zf6 a;have f:zt2 r 1=r - 1:=by grind [zt2,zaK]
  have l:decide (0≤r)=true:=by simp
  unfold zc8 at b c;simp only [ztO,za9.l2,e,zb d,g,b,c,zrO,ya,f];rw [zkf hs hc hl m r _ _ (by omega) (by omega),zqd d]
  grind [digR,zc8]
theorem zmS {n} {sizes cols} (hs:sizes.all zcx=true) (hc:cols.all (zuK sizes)=true) (hl:cols.length<1000000):∀ (m r) (done) (k),r<m→r≤cols.length →
  ztO (zej.l1 n sizes cols) m (List.replicate r 0++done,k,(r:Int) - 1)=some ((digR sizes (cols.take r).reverse k).reverse++done)
 | 0,_,_,_,h,_=>by omega
 | m+1,0,done,k,_,_=>by simp [ztO,zej.l1,digR]
 | m+1,r+1,done,k,h,l=>by
  have d :=by omega
  have a:=yq.1 hc _ (ym d);have i:=zjc hs a;have e:(((r+1:Nat))) - 1=(r:Int):=by omega
  obtain ⟨x,o⟩:=zrg (r:=r) (done:=done);have b:zvg k (zc8 sizes cols[r])=some (k.tmod (zc8 sizes cols[r])):=by unfold zvg;grind
  have c:zvm k (zc8 sizes cols[r])=some (w64 (k.tdiv (zc8 sizes cols[r]))):=by unfold zvm;grind
  have g:=zf6 a;have f:zt2 r 1=r - 1:=by grind [zt2,zaK]
  have j:decide (0≤r)=true:=by simp
  unfold zc8 at b c;simp only [ztO,zej.l1,e,zb d,g,b,c,zrO,ya,f];rw [zmS hs hc hl m r _ _ (by omega) (by omega),zqd d]
  grind [digR,zc8]
theorem mkl_0 {b k:Nat} (h:k*b≤140737488355328):mkl b (k:Int) (0:Int)=some (List.replicate k 0):=by
 unfold mkl;grind
theorem zoR {k:Nat} (h:k<1000000):zt2 (k:Int) 1=(k:Int) - 1:=by
 grind [zt2,zaK]
theorem zot {n} {sizes cols} {k} (hs:sizes.all zcx=true) (hc:cols.all (zuK sizes)=true) (hl:cols.length≤1000) (hn:1000000≤n):zej n sizes cols k=some (zqf sizes cols k):=by
 unfold zej;rw [mkl_0 (by omega),ya,zoR (by omega)];have:=zmS (n:=n) hs hc (by omega) n cols.length [] k (by omega) (yk _)
 grind [zqf]
def hitP (sizes:List Int) (s:Bool) (cell:Int) (t:Table):Bool:=(zb9 t.kind==s)&&(decide (0≤zt2 cell t.first)&&decide (zt2 cell t.first<zar sizes t.ztK 1))
def resT (sizes:List Int) (s:Bool) (cell:Int):List Table→Nat→Int×List Int×Bool
 | [],_=>(0,[],false)
 | t::l,i=>if hitP sizes s cell t=true then ((i:Int),zqf sizes t.ztK (zt2 cell t.first),true) else resT sizes s cell l (i+1)
def zwf (sizes:List Int) (tables:List Table) (s:Bool) (cell:Int):Int×List Int×Bool:=if (zbv sizes tables&&decide (0≤cell))=true then resT sizes s cell tables 0 else (0,[],false)
theorem zmd {n} {sizes} {tables} {s} {cell} (hF:Fuel n) (hs:sizes.length≤1000) (ht:tables.length≤1000) (hc:∀ t∈tables,t.ztK.length≤1000):za9 n sizes tables s cell=some (zwf sizes tables s cell):=by
 have hn:=hF.big;unfold za9 zwf;rw [zft hF hs ht hc,ya];cases hL:zbv sizes tables with
 | false=>simp
 | true=>
  obtain ⟨l1,l2,l3,l4⟩:=zb7 hL;by_cases h0:0≤cell
  ·have:=zM (body:=za9.l1 n sizes tables s cell) (len:=tables.length) (st:=λi=>i) (g:=λi=>some (resT sizes s cell (tables.drop i) i)) (λrec i hi hr=>?_) (λrec=>?_) n 0 (yp _) (by omega)
   ·grind
   ·obtain ⟨-,-,c1,c2,c3,c4⟩:=l4 _ (ym hi);simp only [za9.l1,zw hi,zb hi,ya,zb6,zfv c2 (show tables[i].ztK.length<4611686018427387904 by omega) (show tables[i].ztK.length<n by omega),grd,zd (i:=i) (by omega),mkl_0 (b:=8) (k:=tables[i].ztK.length) (by omega),uz,zoR (show tables[i].ztK.length<1000000 by omega)];have hdig:=zkf (n:=n) (i:=(i:Int)) l3 c2 (by omega) n tables[i].ztK.length [] (zt2 cell tables[i].first) (by omega) (yk _);simp only [y8,List.take_length] at hdig;rw [hdig,zo hi,resT];have hh:(((tables[i].kind==0||tables[i].kind==1) != s||decide (zt2 cell tables[i].first<0))||decide (zar sizes tables[i].ztK 1≤zt2 cell tables[i].first)) = !hitP sizes s cell tables[i]:=by
     unfold hitP zb9
     grind
    grind [hitP,zqf]
   ·simp [za9.l1,resT]
  grind
theorem zmo {n} {sizes} {tables} {s} {cell} (hn:1000000≤n) (hs:sizes.length≤1000) (ht:tables.length≤1000) (hc:∀ t∈tables,t.ztK.length≤1000∧t.name.length≤4096):zcV n sizes tables s cell=some (zwf sizes tables s cell):=by
 unfold zcV zwf;rw [zfy hn hs ht hc,ya];cases d:zbv sizes tables with
 | false=>simp
 | true=>
  obtain ⟨m,j,e,f⟩:=zb7 d;have:=zM (body:=zcV.l1 n sizes tables s cell) (len:=tables.length) (st:=λi=>i) (g:=λi=>some (if decide (0≤cell)=true then resT sizes s cell (tables.drop i) i else (0,[],false))) (λa i b k=>?_) (λa=>?_) n 0 (yp _) (by omega)
  ·grind
  ·obtain ⟨-,-,l,h,o,p⟩:=f _ (ym b);have c:=ze4 (n:=n) (sizes:=sizes) (cols:=tables[i].ztK) (by omega) (by omega) (by omega) (by omega);simp only [zcV.l1,zb b,ya,zb4,grd,zd (i:=i) (by omega),zot e h (show tables[i].ztK.length≤1000 by omega) hn];rw [zo b,resT];unfold hitP zb9
   grind
  ·simp [zcV.l1,resT]
theorem zrC {sizes} {s} {cell}:∀ (l) (i),(resT sizes s cell l i).2.2=true→∃ k:Nat,(resT sizes s cell l i).1=(k:Int)∧i≤k∧k<i+l.length
 | [],_,h=>by grind [resT]
 | t::l,i,h=>by
  rw [resT] at h ⊢;split at h
  ·grind
  ·rename_i b;obtain ⟨k,e,c,a⟩:=zrC l (i+1) h
   grind
theorem zn5 {sizes} {tables} {s} {cell} (h:(zwf sizes tables s cell).2.2=true):∃ t,idx tables (zwf sizes tables s cell).1=some t:=by
 unfold zwf at h ⊢;split at h
 ·rename_i a;rw [if_pos a];obtain ⟨k,e,-,b⟩:=zrC tables 0 h;rw [e];exact ⟨_,zb (by omega)⟩
 grind
theorem zqU {sizes} {tables} {s} {cell} (h:cell<0):(zwf sizes tables s cell).2.2=false:=by
 unfold zwf
 grind
def updT (t:Table) (u:zvd):Bool:=if (t.kind==2||t.kind==3)=true then ((u.kind==0)||(u.kind==1))&&(u.value==0) else ((u.kind==2)&&decide (t.range.lo≤u.value))&&decide (u.value≤t.range.hi)
def updP (m:Model) (u:zvd):Bool:=(zwf m.ztR m.tables false u.cell).2.2&&updT ((idx m.tables (zwf m.ztR m.tables false u.cell).1).getD default) u
def zv3 (m:Model):Int→List zvd→Bool
 | _,[]=>true
 | last,u::l=>(decide (last<u.cell)&&updP m u)&&zv3 m u.cell l
theorem zlK {n} {m} {l} {u} (hF:Fuel n) (hS:zuz m):zby n ⟨m,l⟩ u=some (updP m u):=by
 unfold zby updP;have c:=hS.ztR;have b:=hS.tables;simp only [];rw [zmd hF (by omega) (by omega) (λt h=>by have:=hS.tab t h;omega),ya];cases a:(zwf m.ztR m.tables false u.cell).2.2 with
 | false=>simp
 | true=>
  obtain ⟨t,b⟩:=zn5 a;simp only [jn,updT]
  grind
def opP (m:Model) (o:zul):Bool:=decide (o.ztR.length≤3)&&o.ztR.all λs=>decide (-1≤s)&&decide (s<(m.ztR.length:Int))
def opsP (m:Model):Bool:=m.ztN.all (opP m)&&(decide (m.ztN.length≤8)&&zvI [] (m.ztN.map (·.name)))
theorem zeD {α β:Type} {f:α→β} {l:List α} {i} (hi):(l.take i).map f++[f l[i]]=(l.take (i+1)).map f:=by
 grind [List.take_succ_eq_append_getElem]
theorem zif {n} {m} {l} (hF:Fuel n) (hS:zuz m):zK n ⟨m,l⟩=some (opsP m):=by
 have hn:=hF.big;have hol:=hS.ztN;unfold zK opsP;have:=zat (body:=zK.l1 n ⟨m,l⟩) (l:=m.ztN) (n:=n) (st:=λi=>((m.ztN.take i).map (·.name),(i:Int))) (opP m) (some false) (some (decide (m.ztN.length≤8)&&zvI [] (m.ztN.map (·.name)))) (λrec i hi=>?_) (λrec=>?_) (by omega)
 ·grind
 ·have hop:=hS.op _ (ym hi);simp only [zK.l1,zb hi,ya];rw [zp (by grind),ya,zca (p:=λs=>!(decide (-1≤s)&&decide (s<(m.ztR.length:Int)))) (λx _=>by
   simp only [za3,Bool.not_and,← decide_not]
   grind) (by omega) (by omega)]
  simp only [grd,zd (i:=i) (by omega),zeD hi];have h3:decide (3<(m.ztN[i].ztR.length:Int)) = !decide (m.ztN[i].ztR.length≤3):=by grind
  grind [opP]
 ·simp only [zK.l1,ye,if_false,List.take_length];rw [zfL hF (by grind)];simp only [yo,yy,grd,if_true,yi,yL,yj]
  grind
def zhK (K:Nat):Int→List Change→Bool
 | _,[]=>true
 | last,d::l=>(decide (last<d.cell)&&decide (d.cell<(K:Int))&&(d.add != 0)&&zaQ d.add 1000000000)&&zhK K d.cell l
def effP (m:Model) (K:Nat) (x:zur):Bool:=zhK K (-1) x.delta&&(zv3 m (-1) x.ztU&&(decide (x.hold.length≤8)&&decide (x.ztU.length≤32)&&x.hold.all (zuI K)))
theorem zlG {n m l x} (hF:Fuel n) (hS:zuz m) (h1:x.delta.length≤1000) (h2:x.ztU.length≤1000) (h3:x.hold.length≤1000) (h4:∀ r∈x.hold,r.ztP.length≤1000):zR n ⟨m,l⟩ x=some (effP m l.length x):=by
 have hn:=hF.big;have T:ztO (zR.l2 n ⟨m,l⟩ x) n (-1,0)=some (zv3 m (-1) x.ztU&&(decide (x.hold.length≤8)&&decide (x.ztU.length≤32)&&x.hold.all (zuI l.length))):=by
  have:=zbn (body:=zR.l2 n ⟨m,l⟩ x) (len:=x.ztU.length) (st:=λ(s:Int) i=>(s,(i:Int))) (g:=λi s=>some (zv3 m s (x.ztU.drop i)&&(decide (x.hold.length≤8)&&decide (x.ztU.length≤32)&&x.hold.all (zuI l.length)))) (λ_ _=>True) (λrec i s hi _ hr=>?_) (λrec s _=>?_) n 0 (-1) (yp _) (by omega) trivial
  ·simpa using this
  ·simp only [zR.l2,zw hi,if_true,zb hi,ya,zlK hF hS,yo,yy,grd,yi,zd (i:=i) (by omega),hr x.ztU[i].cell trivial];rw [zo hi,zv3];by_cases hlt:s<x.ztU[i].cell
   ·have hd:decide (x.ztU[i].cell≤s)=false:=by simp;omega
    rw [hd];cases updP m x.ztU[i] <;> simp [hlt]
   ·have hd:decide (x.ztU[i].cell≤s)=true:=by simp;omega
    rw [hd];simp [hlt]
  ·have hc:zk n x.hold (λq0=>zbi n q0 ⟨m,l⟩)=some (x.hold.any λr=>!zuI l.length r):=zcG (λr hr=>by
    unfold zbi;rw [zko (by have:=h4 r hr;omega) (by omega)];rfl) (by omega) (by omega)
   simp only [zR.l2,zaw,ye,if_false,hc,yo,yy,grd,if_true,yi,zm8,List.drop_length,zv3,yE,yj];congr 2
   ·exact decide_eq_decide.2 (by omega)
   ·exact decide_eq_decide.2 (by omega)
 have:=zbn (body:=zR.l1 n ⟨m,l⟩ x) (len:=x.delta.length) (st:=λ(s:Int) i=>(s,(i:Int))) (g:=λi s=>some (zhK l.length s (x.delta.drop i)&&(zv3 m (-1) x.ztU&&(decide (x.hold.length≤8)&&decide (x.ztU.length≤32)&&x.hold.all (zuI l.length))))) (λ_ _=>True) (λrec i s hi _ hr=>?_) (λrec s _=>?_) n 0 (-1) (yp _) (by omega) trivial
 ·simpa [zR,effP] using this
 ·simp only [zR.l1,zw hi,if_true,zb hi,ya,zx1,yo,yy,grd,yi,zd (i:=i) (by omega),hr x.delta[i].cell trivial];rw [zo hi,zhK];by_cases h:(decide (s<x.delta[i].cell)&&decide (x.delta[i].cell<(l.length:Int))&&(x.delta[i].add != 0)&&zaQ x.delta[i].add 1000000000)=true
  ·rw [h,yE];simp only [yd,yg,bne_iff_ne] at h;rw [if_neg (by simp [h.2,h.1.2];omega)]
  ·rw [if_pos (by
    simp only [yd,yg,bne_iff_ne,ne_eq] at h;simp only [yK,yg,beq_iff_eq,yB,← yO];by_cases ha:zaQ x.delta[i].add 1000000000=true
    ·left;simp only [ha,and_true] at h;omega
    ·exact .inr ha)]
   simp only [yO] at h;rw [h];rfl
 ·simp only [zR.l1,zaw,ye,if_false,T,List.drop_length,zhK,yE]
theorem znH {n m x} (hn:1000000≤n) (hS:zuz m) (hL:zbv m.ztR m.tables=true) (h1:x.delta.length≤1000) (h2:x.ztU.length≤1000) (h3:x.hold.length≤1000) (h4:∀ r∈x.hold,r.ztP.length≤1000):zaa n m x=some (effP m (zW m.ztR true m.tables).length x):=by
 have htl:=hS.tables;have hsl:=hS.ztR;have hcs:∀ t∈m.tables,t.ztK.length≤1000∧t.name.length≤4096:=λt ht=>by have:=hS.tab t ht;omega
 unfold zaa zcm;rw [ze3 hn (by omega) (by omega) hcs,hL,if_pos rfl];generalize zW m.ztR true m.tables=l;simp only [ya];have T3:ztO (zaa.l3 n m x) n 0=some (zv3 m (-1) x.ztU&&(decide (x.hold.length≤8)&&decide (x.ztU.length≤32))):=by
  have:=zbn (body:=zaa.l3 n m x) (len:=x.ztU.length) (st:=λ(_:Int) i=>(i:Int)) (g:=λi s=>some (zv3 m s (x.ztU.drop i)&&(decide (x.hold.length≤8)&&decide (x.ztU.length≤32)))) (λi s=>-1≤s∧((i=0∧s = -1)∨(0<i∧∃ y,idx x.ztU (zt2 (i:Int) 1)=some y∧y.cell=s))) (λrec i s hi hI hr=>?_) (λrec s _=>?_) n 0 (-1) (yp _) (by omega) ⟨by omega,.inl ⟨rfl,rfl⟩⟩
  ·simpa using this
  ·obtain ⟨h1,h2⟩:=hI;have hprev:(decide (0<(i:Int))&&decide (x.ztU[i].cell≤((idx x.ztU (zt2 (i:Int) 1)).getD default).cell))=(decide (0<i)&&decide (x.ztU[i].cell≤s))∧(!(decide (0<(i:Int)))||(idx x.ztU (zt2 (i:Int) 1)).isSome)=true:=by
    rcases h2 with ⟨h2,h3⟩ | ⟨h2,y,h3,h4⟩
    ·subst h2;simp
    ·rw [h3];simp [h4,h2]
   have hnext:(-1≤x.ztU[i].cell)→rec ((i+1:Nat):Int)=some (zv3 m x.ztU[i].cell (x.ztU.drop (i+1))&&(decide (x.hold.length≤8)&&decide (x.ztU.length≤32))):=λh=>hr x.ztU[i].cell ⟨h,.inr ⟨by omega,x.ztU[i],by
     rw [zgh (by omega) (by omega),show i+1 - 1=i by omega,zb hi],rfl⟩⟩
   simp only [zaa.l3,zw hi,if_true,zb hi,ya,zmo (cell:=x.ztU[i].cell) (s:=false) hn (show m.ztR.length≤1000 by omega) (show m.tables.length≤1000 by omega) hcs,hprev.1,hprev.2,yy,grd,zlR,zd (i:=i) (by omega)];rw [zo hi,zv3];unfold updP;cases hok:(zwf m.ztR m.tables false x.ztU[i].cell).2.2 with
   | false=>simp
   | true=>
    obtain ⟨t,ht⟩:=zn5 hok;have hge:0≤x.ztU[i].cell:=by
     by_cases h:x.ztU[i].cell<0
     ·rw [zqU h] at hok;cases hok
     ·omega
    have hasc:(decide (0<i)&&decide (x.ztU[i].cell≤s)) = !decide (s<x.ztU[i].cell):=by
     rw [← decide_not,← Bool.decide_and];refine decide_eq_decide.2 ?_;rcases h2 with ⟨h2,h3⟩ | ⟨h2,-⟩ <;> omega
    rw [hasc,hnext (by omega)];simp only [ht,ui,ur,ya,yi,yE];cases decide (s<x.ztU[i].cell) with
    | false=>simp
    | true=>
     simp only [ui,ye,if_false,yE];unfold updT;by_cases hset:(t.kind==2||t.kind==3)=true
     ·rw [hset];simp only [if_true,yE,ui,uh,ye,if_false];cases hk0:(x.ztU[i].kind==0) <;> cases hk1:(x.ztU[i].kind==1) <;> cases hv:(x.ztU[i].value==0) <;> simp [bne,hk0,hk1,hv]
     ·simp only [yO] at hset;rw [hset];simp only [uh,ye,if_false,uE,yE];have e1:decide (x.ztU[i].value<t.range.lo) = !decide (t.range.lo≤x.ztU[i].value):=by rw [← decide_not];exact decide_eq_decide.2 (by omega)
      have e2:decide (t.range.hi<x.ztU[i].value) = !decide (x.ztU[i].value≤t.range.hi):=by rw [← decide_not];exact decide_eq_decide.2 (by omega)
      rw [e1,e2];cases hk0:(x.ztU[i].kind==2) <;> cases decide (t.range.lo≤x.ztU[i].value) <;> cases decide (x.ztU[i].value≤t.range.hi) <;> simp [bne,hk0]
  ·simp only [zaa.l3,zaw,ye,if_false,List.drop_length,zv3,yE,yj];congr 1
   ·exact decide_eq_decide.2 (by omega)
   ·exact decide_eq_decide.2 (by omega)
 have T2:ztO (zaa.l2 n m x l) n 0=if x.hold.all (zuI l.length)=true then some (zv3 m (-1) x.ztU&&(decide (x.hold.length≤8)&&decide (x.ztU.length≤32))) else some false:=by
  have:=zat (body:=zaa.l2 n m x l) (l:=x.hold) (n:=n) (st:=λi=>(i:Int)) (zuI l.length) (some false) (some (zv3 m (-1) x.ztU&&(decide (x.hold.length≤8)&&decide (x.ztU.length≤32)))) (λrec i hi=>?_) (λrec=>?_) (by omega)
  ·simpa using this
  ·simp only [zaa.l2,zw hi,if_true,zb hi,ya,zmT (show x.hold[i].ztP.length<1000000 by have:=h4 _ (ym hi);omega) hn,zd (i:=i) (by omega)];cases zuI l.length x.hold[i] <;> simp
  ·simp only [zaa.l2,zaw,ye,if_false,T3]
 have:=zbn (body:=zaa.l1 n m x l) (len:=x.delta.length) (st:=λ(_:Int) i=>(i:Int)) (g:=λi s=>some (zhK l.length s (x.delta.drop i)&&(zv3 m (-1) x.ztU&&(decide (x.hold.length≤8)&&decide (x.ztU.length≤32)&&x.hold.all (zuI l.length))))) (λi s=>-1≤s∧((i=0∧s = -1)∨(0<i∧∃ y,idx x.delta (zt2 (i:Int) 1)=some y∧y.cell=s))) (λrec i s hi hI hr=>?_) (λrec s _=>?_) n 0 (-1) (yp _) (by omega) ⟨by omega,.inl ⟨rfl,rfl⟩⟩
 ·simpa [effP] using this
 ·obtain ⟨h1,h2⟩:=hI;have hprev:(decide (0<(i:Int))&&decide (x.delta[i].cell≤((idx x.delta (zt2 (i:Int) 1)).getD default).cell))=(decide (0<i)&&decide (x.delta[i].cell≤s))∧(!(decide (0<(i:Int)))||(idx x.delta (zt2 (i:Int) 1)).isSome)=true:=by
   rcases h2 with ⟨h2,h3⟩ | ⟨h2,y,h3,h4⟩
   ·subst h2;simp
   ·rw [h3];simp [h4,h2]
  simp only [zaa.l1,zw hi,if_true,zb hi,ya,zxE,yo,yy,grd,yi,hprev.1,hprev.2,zd (i:=i) (by omega)];rw [zo hi,zhK];by_cases h:(decide (s<x.delta[i].cell)&&decide (x.delta[i].cell<(l.length:Int))&&(x.delta[i].add != 0)&&zaQ x.delta[i].add 1000000000)=true
  ·rw [h,yE];simp only [yd,yg,bne_iff_ne] at h;rw [if_neg (by simp [h.2,h.1.2];omega),hr x.delta[i].cell ⟨by omega,.inr ⟨by omega,x.delta[i],by
    rw [zgh (by omega) (by omega),show i+1 - 1=i by omega,zb hi],rfl⟩⟩]
  ·rw [if_pos (by
    simp only [yd,yg,bne_iff_ne,ne_eq] at h;simp only [yK,yd,yg,beq_iff_eq,yB,← yO];by_cases ha:zaQ x.delta[i].add 1000000000=true
    ·left;simp only [ha,and_true] at h;rcases h2 with ⟨h2,h3⟩ | ⟨h2,-⟩ <;> omega
    ·exact .inr ha)]
   simp only [yO] at h;rw [h];rfl
 ·simp only [zaa.l1,zaw,ye,if_false,T2,List.drop_length,zhK,yE];cases x.hold.all (zuI l.length) <;> simp
def cmpP:List Int→List Int→Int
 | [],[]=>0
 | [],_::_=>-1
 | _::_,[]=>1
 | x::l,y::k=>if x<y then -1 else if y<x then 1 else cmpP l k
def zwo:List Int→List Int→Bool
 | [],[]=>false
 | [],_::_=>true
 | _::_,[]=>false
 | x::l,y::k=>if x=y then zwo l k else decide (x<y)
theorem zpz:∀ a b:List Int,decide (0≤cmpP a b) = !zwo a b
 | [],[]=>rfl
 | [],_::_=>rfl
 | _::_,[]=>rfl
 | x::l,y::k=>by
  simp only [cmpP,zwo];by_cases h:x=y
  ·subst h;simp [zpz l k]
  ·by_cases h2:x<y
   ·simp [h,h2]
   ·have:y<x:=by omega
    simp [h,h2,this]
theorem zqi {n a b} (hl:a.length<1000000) (hn:1000000≤n):zn n a b=some (cmpP a b):=by
 have:=zM (body:=zn.l1 n a b) (len:=a.length) (st:=λi=>(i:Int)) (g:=λi=>some (cmpP (a.drop i) (b.drop i))) (λrec i hi hr=>?_) (λrec=>?_) n 0 (yp _) (by omega)
 ·simpa [zn] using this
 ·simp only [zn.l1,zw hi,if_true,zb hi,ya,zd (i:=i) (by omega),hr];rw [zo hi];by_cases hb:i<b.length
  ·rw [if_neg (by simp;omega),zb hb,zo hb];simp only [ya,zcf,zdz,uO,ye,if_false,cmpP,yg];by_cases h1:a[i]<b[i]
   ·simp [h1]
   ·by_cases h2:b[i]<a[i]
    ·simp [h1,h2]
    ·simp [h1,h2]
  ·rw [if_pos (by simp;omega),show b.drop i=[] from List.drop_eq_nil_of_le (by omega)];rfl
 ·simp only [zn.l1,zaw,ye,if_false,List.drop_length];by_cases hb:a.length<b.length
  ·rw [if_pos (by simpa using hb),zo hb];rfl
  ·rw [if_neg (by simpa using hb),List.drop_eq_nil_of_le (by omega)];rfl
theorem zpm {n a b} (hl:a.length<1000000) (hn:1000000≤n):zc6 n a b=some (zwo a b):=by
 have:=zM (body:=zc6.l1 n a b) (len:=min a.length b.length) (st:=λi=>(i:Int)) (g:=λi=>some (zwo (a.drop i) (b.drop i))) (λrec i hi hr=>?_) (λrec=>?_) n 0 (yp _) (by omega)
 ·simpa [zc6] using this
 ·have ha:i<a.length:=by omega
  have hb:i<b.length:=by omega
  simp only [zc6.l1,zw ha,zw hb,uL,if_true,zb ha,zb hb,ya,zd (i:=i) (by omega),hr];rw [zo ha,zo hb];by_cases h:a[i]=b[i]
  ·simp [h,zwo]
  ·simp [h,zwo]
 ·simp only [zc6.l1];rw [if_neg (by simp;omega)];by_cases ha:a.length≤b.length
  ·rw [Nat.min_eq_left ha,List.drop_length];by_cases hb:a.length<b.length
   ·rw [zo hb];simp [zwo,hb]
   ·rw [List.drop_eq_nil_of_le (by omega)];simp [zwo];omega
  ·rw [Nat.min_eq_right (by omega),List.drop_length,zo (by omega)];simp [zwo];omega
def argP (m:Model) (s x:Int):Bool:=(!decide (s<0)||zaQ x 9999)&&(!decide (0≤s)||(decide (0≤x)&&decide (x<(idx m.ztR s).getD default)))
def zxe (m:Model):List Int→List Int→Bool
 | s::l,x::k=>argP m s x&&zxe m l k
 | _,_=>true
def opAt (m:Model) (a:Action):zul:=(idx m.ztN a.operation).getD default
def ordP (b a:Action):Bool:=!decide (a.operation<b.operation)&&(!(b.operation==a.operation)||zwo b.arguments a.arguments)
def actP (m:Model) (K:Nat) (i:Nat) (a:Action):Bool:=
 (decide (0≤a.operation)&&decide (a.operation<(m.ztN.length:Int)))&&(a.arguments.length==(opAt m a).ztR.length)&&zxe m (opAt m a).ztR a.arguments&&(decide (i=0)||ordP ((idx m.ztL ((i - 1:Nat):Int)).getD default) a)&&effP m K a.effect
def zxq (m:Model) (K:Nat):Bool:=decide (m.ztL.length≤256)&&allR (λi=>actP m K i ((idx m.ztL (i:Int)).getD default)) 0 m.ztL.length
theorem zmC {m} {s x:List Int} {k} (h1) (h2:k<x.length):zxe m (s.drop k) (x.drop k)=(argP m s[k] x[k]&&zxe m (s.drop (k+1)) (x.drop (k+1))):=by
 rw [zo h1,zo h2];rfl
theorem zp2 {m a} (h:(decide (0≤a.operation)&&decide (a.operation<(m.ztN.length:Int)))=true):idx m.ztN a.operation=some (opAt m a)∧opAt m a∈m.ztN:=by
 simp only [yd,yg] at h;obtain ⟨o,b⟩:=za7 h.1 h.2
 grind [opAt,zbb]
theorem zr6 {m:Model} {s} (h0:0≤s) (h:s<(m.ztR.length:Int)):idx m.ztR s=some ((idx m.ztR s).getD default):=by
 obtain ⟨x,a⟩:=za7 h0 h
 grind
theorem zmM {m} (h:opsP m=true):∀ o∈m.ztN,o.ztR.length≤3∧∀ s∈o.ztR,-1≤s∧s<(m.ztR.length:Int):=by
 simp only [opsP,yd,yq] at h;intro o a;have:=h.1 o a;simp only [opP] at this
 grind
theorem zrx {b a}:((decide (a.operation<b.operation))||((b.operation==a.operation)&&(decide (0≤cmpP b.arguments a.arguments)))) = !ordP b a:=by
 grind [zpz,ordP]
theorem zs2 {b a}:((decide (a.operation<b.operation))||((b.operation==a.operation)&&(!zwo b.arguments a.arguments))) = !ordP b a:=by
 grind [ordP]
theorem zkF {n} {m} {l} (hF:Fuel n) (hS:zuz m) (hO:opsP m=true):zC n ⟨m,l⟩=some (zxq m l.length):=by
 have hn:=hF.big;have hal:=hS.ztL;unfold zC zxq;by_cases h0:m.ztL.length≤256
 ·rw [if_neg (by grind),decide_eq_true h0,yE];have:=zgV (body:=zC.l1 n ⟨m,l⟩) (len:=m.ztL.length) (n:=n) (st:=λi=>(i:Int)) (λi=>actP m l.length i ((idx m.ztL (i:Int)).getD default)) (some false) (some true) (λrec i hi=>?_) (λrec=>?_) (by omega)
  ·grind
  ·have hmem:=ym hi;obtain ⟨a1,a2,a3,a4,a5⟩:=hS.act _ hmem;simp only [zC.l1,zw hi,if_true,zb hi,ya,zao,yi];unfold actP;cases hop:(decide (0≤m.ztL[i].operation)&&decide (m.ztL[i].operation<(m.ztN.length:Int))) with
   | false=>simp [grd]
   | true=>
    obtain ⟨ho,hom⟩:=zp2 hop;obtain ⟨o1,o2⟩:=zmM hO _ hom;simp only [ho,yo,yy,grd,if_true,yi,ui,ur,yE,ya];by_cases hlen:m.ztL[i].arguments.length=(opAt m m.ztL[i]).ztR.length
    ·rw [if_neg (by grind)];have hle:(m.ztL[i].arguments.length==(opAt m m.ztL[i]).ztR.length)=true:=by grind
     rw [hle,yE];have inner:=zM (body:=zC.l2 n ⟨m,l⟩ i rec m.ztL[i] (opAt m m.ztL[i])) (len:=(opAt m m.ztL[i]).ztR.length) (st:=λk=>(k:Int)) (g:=λk=>if zxe m ((opAt m m.ztL[i]).ztR.drop k) (m.ztL[i].arguments.drop k)=true then (if ((decide (i=0)||ordP ((idx m.ztL ((i - 1:Nat):Int)).getD default) m.ztL[i])&&effP m l.length m.ztL[i].effect)=true then rec ((i+1:Nat):Int) else some false) else some false) (λrec' k hk hr'=>?_) (λrec'=>?_) n 0 (yp _) (by omega)
     ·grind
     ·have hk2:k<m.ztL[i].arguments.length:=by omega
      have hs2:=o2 _ (ym hk);simp only [zC.l2,zw hk,if_true,zb hk,zb hk2,ya,around4,yo,yy,grd,yi,zd (i:=k) (by omega),hr',zao];rw [zmC hk hk2];unfold argP;by_cases hneg:(opAt m m.ztL[i]).ztR[k]<0
      ·grind
      ·have hd1:decide ((opAt m m.ztL[i]).ztR[k]<0)=false:=by simp;omega
       have hd2:decide (0≤(opAt m m.ztL[i]).ztR[k])=true:=by simp;omega
       obtain ⟨z,hz⟩:=za7 (l:=m.ztR) (i:=(opAt m m.ztL[i]).ztR[k]) (by omega) hs2.2;rw [hz,hd1,hd2];by_cases h1:0≤m.ztL[i].arguments[k]
       ·by_cases h2:m.ztL[i].arguments[k]<z
        ·have h2':¬ z≤m.ztL[i].arguments[k]:=by omega
         simp [h1,h2,h2']
        ·have h2':z≤m.ztL[i].arguments[k]:=by omega
         simp [h1,h2,h2']
       ·simp [h1]
     ·simp only [zC.l2,zaw,ye,if_false,jn,List.drop_length];rw [zlG hF hS (by omega) (by omega) (by omega) (λr hr=>by have:=a5 r hr;omega)];simp only [ya,zd (i:=i) (by omega)];have hargs:zxe m [] (m.ztL[i].arguments.drop (opAt m m.ztL[i]).ztR.length)=true:=rfl;rw [hargs,if_pos rfl];by_cases h0i:i=0
      ·subst h0i;rw [if_neg (by simp)];cases effP m l.length m.ztL[0].effect <;> simp
      ·rw [if_pos (by simp;omega),zgh (by omega) (by omega)];have hi1:i - 1<m.ztL.length:=by omega
       have b1:=(hS.act _ (ym hi1)).1;simp only [zb hi1,ya,zrx,yi,zqi (a:=m.ztL[i - 1].arguments) (b:=m.ztL[i].arguments) (show m.ztL[i - 1].arguments.length<1000000 by omega) (show 1000000≤n by omega),yo,yy,if_true,h0i,decide_false,ur];cases ordP m.ztL[i - 1] m.ztL[i] <;> cases effP m l.length m.ztL[i].effect <;> simp [grd]
    grind
  ·simp [zC.l1]
 grind
theorem zkM {n} {m} (hn:1000000≤n) (hS:zuz m) (hL:zbv m.ztR m.tables=true):zE n m=some (opsP m&&zxq m (zW m.ztR true m.tables).length):=by
 have hal:=hS.ztL;have hol:=hS.ztN;have hef:∀ a∈m.ztL,zaa n m a.effect=some (effP m (zW m.ztR true m.tables).length a.effect):=λa ha=>by
  obtain ⟨a1,a2,a3,a4,a5⟩:=hS.act _ ha
  grind [znH]
 generalize (zW m.ztR true m.tables).length=K at hef;have T:opsP m=true→ztO (zE.l3 n m) n 0=some (allR (λi=>actP m K i ((idx m.ztL (i:Int)).getD default)) 0 m.ztL.length):=λhO=>by
  have:=zgV (body:=zE.l3 n m) (len:=m.ztL.length) (n:=n) (st:=λi=>(i:Int)) (λi=>actP m K i ((idx m.ztL (i:Int)).getD default)) (some false) (some true) (λrec i hi=>?_) (λrec=>?_) (by omega)
  ·grind
  ·have hmem:=ym hi;obtain ⟨a1,a2,a3,a4,a5⟩:=hS.act _ hmem;simp only [zE.l3,zw hi,if_true,zb hi,ya,yi];have hneg:(decide (m.ztL[i].operation<0)||decide ((m.ztN.length:Int)≤m.ztL[i].operation)) = !(decide (0≤m.ztL[i].operation)&&decide (m.ztL[i].operation<(m.ztN.length:Int))):=by
    grind
   rw [hneg];unfold actP;cases hop:(decide (0≤m.ztL[i].operation)&&decide (m.ztL[i].operation<(m.ztN.length:Int))) with
   | false=>simp [grd]
   | true=>
    obtain ⟨ho,hom⟩:=zp2 hop;obtain ⟨o1,o2⟩:=zmM hO _ hom;simp only [ho,yo,yy,grd,if_true,yi,ui,ur,yE];by_cases hlen:m.ztL[i].arguments.length=(opAt m m.ztL[i]).ztR.length
    ·rw [if_neg (by grind)];have hle:(m.ztL[i].arguments.length==(opAt m m.ztL[i]).ztR.length)=true:=by grind
     rw [hle,yE];have inner:=zM (body:=zE.l4 n m i rec m.ztL[i]) (len:=m.ztL[i].arguments.length) (st:=λk=>(k:Int)) (g:=λk=>if zxe m ((opAt m m.ztL[i]).ztR.drop k) (m.ztL[i].arguments.drop k)=true then (if ((decide (i=0)||ordP ((idx m.ztL ((i - 1:Nat):Int)).getD default) m.ztL[i])&&effP m K m.ztL[i].effect)=true then rec ((i+1:Nat):Int) else some false) else some false) (λrec' k hk2 hr'=>?_) (λrec'=>?_) n 0 (yp _) (by omega)
     ·grind
     ·have hk:k<(opAt m m.ztL[i]).ztR.length:=by omega
      have hs2:=o2 _ (ym hk);simp only [zE.l4,zw hk2,if_true,ho,zb hk,zb hk2,ya,between4,yo,yy,grd,yi,zd (i:=k) (by omega),hr'];rw [zmC hk hk2];unfold argP;by_cases hneg:(opAt m m.ztL[i]).ztR[k]<0
      ·have hd1:decide ((opAt m m.ztL[i]).ztR[k]<0)=true:=by simp [hneg]
       have hd2:decide (0≤(opAt m m.ztL[i]).ztR[k])=false:=by simp;omega
       rw [hd1,hd2];cases zaQ m.ztL[i].arguments[k] 9999 <;> simp
      ·have hd1:decide ((opAt m m.ztL[i]).ztR[k]<0)=false:=by simp;omega
       have hd2:decide (0≤(opAt m m.ztL[i]).ztR[k])=true:=by simp;omega
       rw [zr6 (m:=m) (s:=(opAt m m.ztL[i]).ztR[k]) (by omega) hs2.2,hd1,hd2];simp only [yi];generalize (idx m.ztR (opAt m m.ztL[i]).ztR[k]).getD default=z;by_cases h1:m.ztL[i].arguments[k]<0
       ·have h1':¬ 0≤m.ztL[i].arguments[k]:=by omega
        simp [h1,h1']
       ·have h1':0≤m.ztL[i].arguments[k]:=by omega
        by_cases h2:z≤m.ztL[i].arguments[k]
        ·have h2':¬ m.ztL[i].arguments[k]<z:=by omega
         simp [h1,h1',h2,h2']
        ·have h2':m.ztL[i].arguments[k]<z:=by omega
         simp [h1,h1',h2,h2']
     ·simp only [zE.l4,zaw,ye,if_false,jn,List.drop_length,hef _ hmem];simp only [ya,zd (i:=i) (by omega)];have hargs:zxe m ((opAt m m.ztL[i]).ztR.drop m.ztL[i].arguments.length) []=true:=by cases (opAt m m.ztL[i]).ztR.drop m.ztL[i].arguments.length <;> rfl
      rw [hargs,if_pos rfl];by_cases h0i:i=0
      ·subst h0i;rw [if_neg (by simp)];cases effP m K m.ztL[0].effect <;> simp
      ·rw [if_pos (by simp;omega),zgh (by omega) (by omega)];have hi1:i - 1<m.ztL.length:=by omega
       have b1:=(hS.act _ (ym hi1)).1;simp only [zb hi1,ya,zs2,yi,zpm (a:=m.ztL[i - 1].arguments) (b:=m.ztL[i].arguments) (show m.ztL[i - 1].arguments.length<1000000 by omega) (show 1000000≤n by omega),yo,yy,if_true,h0i,decide_false,ur];cases ordP m.ztL[i - 1] m.ztL[i] <;> cases effP m K m.ztL[i].effect <;> simp [grd]
    grind
  ·simp [zE.l3]
 unfold zE;have:=zat (body:=zE.l1 n m) (l:=m.ztN) (n:=n) (st:=λi=>((m.ztN.take i).map (·.name),(i:Int))) (opP m) (some false) (if (decide (m.ztN.length≤8)&&zvI [] (m.ztN.map (·.name))&&decide (m.ztL.length≤256))=true then ztO (zE.l3 n m) n 0 else some false) (λrec i hi=>?_) (λrec=>?_) (by omega)
 ·simp only [List.take_zero,List.map_nil,Int.natCast_zero] at this;rw [this];unfold zxq;cases hO:opsP m with
  | true=>
   have hO':=hO;simp only [opsP,yd] at hO';rw [hO'.1,hO'.2.1,hO'.2.2,T hO];cases decide (m.ztL.length≤256) <;> rfl
  | false=>
   unfold opsP at hO;cases h1:m.ztN.all (opP m) with
   | false=>simp
   | true=>
    rw [h1,yE] at hO;rw [hO];simp
 ·have hop:=hS.op _ (ym hi);simp only [zE.l1,zw hi,if_true,zb hi,ya];rw [zp (by simp;omega),ya,zeD hi];generalize hX:(m.ztN.take (i+1)).map (·.name)=X;have inner:=zat (body:=zE.l2 n m i rec m.ztN[i] X) (l:=m.ztN[i].ztR) (n:=n) (st:=λk=>(k:Int)) (λs=>decide (-1≤s)&&decide (s<(m.ztR.length:Int))) (some false) (if decide (m.ztN[i].ztR.length≤3)=true then rec (X,((i+1:Nat):Int)) else some false) (λrec' k hk=>?_) (λrec'=>?_) (by omega)
  ·simp only [Int.natCast_zero] at inner;rw [inner];unfold opP;cases decide (m.ztN[i].ztR.length≤3) <;> cases (m.ztN[i].ztR.all λs=>decide (-1≤s)&&decide (s<(m.ztR.length:Int))) <;> simp
  ·simp only [zE.l2,zw hk,if_true,zb hk,ya,yo,yy,grd,yi,zd (i:=k) (by omega)];have e1:decide (m.ztN[i].ztR[k] < -1) = !decide (-1≤m.ztN[i].ztR[k]):=by rw [← decide_not];exact decide_eq_decide.2 (by omega)
   have e2:decide ((m.ztR.length:Int)≤m.ztN[i].ztR[k]) = !decide (m.ztN[i].ztR[k]<(m.ztR.length:Int)):=by rw [← decide_not];exact decide_eq_decide.2 (by omega)
   rw [e1,e2];cases decide (-1≤m.ztN[i].ztR[k]) <;> cases decide (m.ztN[i].ztR[k]<(m.ztR.length:Int)) <;> simp
  ·simp only [zE.l2,zaw,ye,if_false,zd (i:=i) (by omega)];by_cases h3:m.ztN[i].ztR.length≤3
   ·rw [if_neg (by simp;omega),if_pos (by simp [h3])]
   ·rw [if_pos (by simp;omega),if_neg (by simp [h3])]
 ·simp only [zE.l1,zaw,ye,if_false,List.take_length];rw [zfO hn (by simp;omega) (λw hw=>by
   simp only [yZ] at hw;obtain ⟨o,ho,rfl⟩:=hw;have:=(hS.op o ho).1;omega)]
  simp only [yo,yy,grd,if_true,yi];have e1:decide (8<(m.ztN.length:Int)) = !decide (m.ztN.length≤8):=by rw [← decide_not];exact decide_eq_decide.2 (by omega)
  have e2:decide (256<(m.ztL.length:Int)) = !decide (m.ztL.length≤256):=by rw [← decide_not];exact decide_eq_decide.2 (by omega)
  rw [e1,e2];cases decide (m.ztN.length≤8) <;> cases zvI [] (m.ztN.map (·.name)) <;> cases decide (m.ztL.length≤256) <;> simp
def zaL (hs:List Hide):Nat→Int→Int→Bool
 | 0,a,b=>a==b
 | k+1,a,b=>a==b||hs.any λh=>h.table==a&&zaL hs k h.to b
def zv8 (m:Model) (h:Hide):Bool:=
 (((decide (0≤h.table)&&decide (h.table<(m.tables.length:Int)))&&(decide (0≤h.to)&&decide (h.to<(m.tables.length:Int))))&&(h.table != h.to)) &&
 (((((idx m.tables h.table).getD default).kind==0)&&(((idx m.tables h.to).getD default).kind==0))&&((decide (0≤h.column)&&decide (h.column<(((idx m.tables h.table).getD default).ztK.length:Int)))&&(((((idx m.tables h.to).getD default).ztK.length:Int)==1)&&((idx ((idx m.tables h.to).getD default).ztK 0).getD default==(idx ((idx m.tables h.table).getD default).ztK h.column).getD default))))
def zmI (m:Model):Bool:=decide (m.zt3.length≤12)&&(m.zt3.all (zv8 m)&&m.zt3.all λh=>!zaL m.zt3 m.tables.length h.to h.table)
theorem zqy {m n self a b k} (hl:m.zt3.length<n) (hl2:m.zt3.length<1000000) (hk:k+1<1000000) (hself:∀ x,self m x b (k:Int)=some (zaL m.zt3 k x b)) :
  ztO (zaS.l1 n self m a b ((k+1:Nat):Int)) n 0=some (m.zt3.any λh=>h.table==a&&zaL m.zt3 k h.to b):=by
 have:=zM (body:=zaS.l1 n self m a b ((k+1:Nat):Int)) (len:=m.zt3.length) (st:=λi=>(i:Int)) (g:=λi=>some ((m.zt3.drop i).any λh=>h.table==a&&zaL m.zt3 k h.to b)) (λrec i hi hr=>?_) (λrec=>?_) n 0 (yp _) (by omega)
 ·simpa using this
 ·have h0:decide (0<((k+1:Nat):Int))=true:=by simp
  have hsub:zt2 ((k+1:Nat):Int) 1=(k:Int):=by rw [zgh (by omega) (by omega)];simp
  simp only [zaS.l1,zw hi,h0,uL,if_true,zb hi,ya,yo,yy,grd,yi,hsub,hself,zd (i:=i) (by omega),hr];rw [zo hi,uQ];cases (m.zt3[i].table==a&&zaL m.zt3 k m.zt3[i].to b) <;> simp
 ·simp [zaS.l1]
theorem zoB {m} (hl:m.zt3.length<1000000):∀ (k n:Nat) (a b:Int),k<1000000→1000000+k<n→zaS n m a b (k:Int)=some (zaL m.zt3 k a b)
 | 0,0,_,_,_,h=>by omega
 | 0,n+1,a,b,_,h=>by
  simp only [zaS,zaS.body,zaL];by_cases e:a=b
  ·simp [e]
  ·rw [if_neg (by simpa using e)];have hh:(a==b)=false:=by simpa using e
   rw [zgU (by omega),hh];simp [zaS.l1]
 | k+1,0,_,_,_,h=>by omega
 | k+1,n+1,a,b,hk,h=>by
  simp only [zaS,zaS.body,zaL];by_cases e:a=b
  ·simp [e]
  ·rw [if_neg (by simpa using e),zqy (by omega) hl hk λx=>zoB hl k n x b (by omega) (by omega)];have hh:(a==b)=false:=by simpa using e
   rw [hh,ur]
theorem zpP {m:Model} {h:Hide} (h0:0≤h.table∧h.table<(m.tables.length:Int)) (h1:0≤h.to∧h.to<(m.tables.length:Int)):∃ t u,idx m.tables h.table=some t∧idx m.tables h.to=some u:=by
 obtain ⟨t,ht⟩:=za7 h0.1 h0.2;obtain ⟨u,hu⟩:=za7 h1.1 h1.2;exact ⟨t,u,ht,hu⟩
theorem zlQ {n:Nat} {m:Model} (hn:4294967296≤n) (hS:zuz m):zaI n m=some (zmI m):=by
 have hhl:=hS.zt3;have htl:=hS.tables;unfold zaI zmI;rw [if_neg (by simp;omega),decide_eq_true hhl,yE];have T:ztO (zaI.l2 n m) n 0=some (m.zt3.all λh=>!zaL m.zt3 m.tables.length h.to h.table):=by
  have:=zat (body:=zaI.l2 n m) (l:=m.zt3) (n:=n) (st:=λi=>(i:Int)) (λh=>!zaL m.zt3 m.tables.length h.to h.table) (some false) (some true) (λrec i hi=>?_) (λrec=>?_) (by omega)
  ·simp only [Int.natCast_zero] at this;rw [this];cases (m.zt3.all λh=>!zaL m.zt3 m.tables.length h.to h.table) <;> rfl
  ·simp only [zaI.l2,zw hi,if_true,zb hi,ya,zoB (m:=m) (by omega) m.tables.length n m.zt3[i].to m.zt3[i].table (by omega) (by omega),zd (i:=i) (by omega)];cases zaL m.zt3 m.tables.length m.zt3[i].to m.zt3[i].table <;> simp
  ·simp [zaI.l2]
 have:=zat (body:=zaI.l1 n m) (l:=m.zt3) (n:=n) (st:=λi=>(i:Int)) (zv8 m) (some false) (some (m.zt3.all λh=>!zaL m.zt3 m.tables.length h.to h.table)) (λrec i hi=>?_) (λrec=>?_) (by omega)
 ·simp only [Int.natCast_zero] at this;rw [this];cases m.zt3.all (zv8 m) <;> simp
 ·simp only [zaI.l1,zw hi,if_true,zb hi,ya,zd (i:=i) (by omega)];generalize m.zt3[i]=h;by_cases hb:(((0≤h.table∧h.table<(m.tables.length:Int))∧(0≤h.to∧h.to<(m.tables.length:Int)))∧h.table≠h.to)
  ·rw [if_neg (by simp;omega)];obtain ⟨t,u,ht,hu⟩:=zpP hb.1.1 hb.1.2;have hhp:zv8 m h=(((t.kind==0)&&(u.kind==0))&&((decide (0≤h.column)&&decide (h.column<(t.ztK.length:Int)))&&(((u.ztK.length:Int)==1)&&((idx u.ztK 0).getD default==(idx t.ztK h.column).getD default)))):=by
    unfold zv8;rw [ht,hu];simp [hb]
   simp only [ht,hu,ya];rw [hhp];by_cases hk:(((t.kind==0)&&(u.kind==0))&&((decide (0≤h.column)&&decide (h.column<(t.ztK.length:Int)))&&((u.ztK.length:Int)==1)))=true
   ·have hk':=hk;simp only [yd,yg,beq_iff_eq] at hk';obtain ⟨⟨k1,k2⟩,⟨k3,k4⟩,k5⟩:=hk';obtain ⟨x,hx⟩:=za7 (l:=u.ztK) (i:=0) (by omega) (by omega);obtain ⟨y,hy⟩:=za7 k3 k4;have n1:¬ h.column<0:=by omega
    have n2:¬ (t.ztK.length:Int)≤h.column:=by omega
    simp only [k1,k2,k3,k4,k5,n1,n2,hx,hy,yi,decide_true,decide_false,beq_self_eq_true,uO,yo,yy,Bool.or_false,yE,grd,if_true];by_cases hxy:x=y
    ·simp [hxy]
    ·simp [hxy]
   ·have hf:(((((t.kind != 0)||(u.kind != 0))||(decide (h.column<0)))||(decide ((t.ztK.length:Int)≤h.column)))||((u.ztK.length:Int) != 1))=true:=by
     simp only [yd,yg,beq_iff_eq] at hk;simp only [yK,bne_iff_ne,yg];omega
    simp only [hf,uC,grd,if_true];rw [← Bool.and_assoc (decide (0≤h.column)&&decide (h.column<(t.ztK.length:Int))),← Bool.and_assoc];simp only [yO] at hk;rw [hk];rfl
  ·rw [if_pos (by simp;omega)];have hhp:zv8 m h=false:=by
    unfold zv8;cases hx:(((decide (0≤h.table)&&decide (h.table<(m.tables.length:Int)))&&(decide (0≤h.to)&&decide (h.to<(m.tables.length:Int))))&&(h.table != h.to)) with
    | false=>rfl
    | true=>
     simp only [yd,yg,bne_iff_ne] at hx;exact absurd hx hb
   rw [hhp];rfl
 ·simp only [zaI.l1,zaw,ye,if_false,T]
theorem zlM:∀ (T:Nat) (l:List Int),l.Nodup→(∀ x∈l,0≤x∧x<(T:Int))→l.length≤T
 | 0,l,_,h=>by
  cases l with
  | nil=>simp
  | cons x l=>have:=h x (by simp);omega
 | T+1,l,a,h=>by
  by_cases c:(T:Int)∈l
  ·have d:=zlM T (l.erase T) (a.erase _) (λx b=>by
    grind)
   grind
  ·have:=zlM T l a (λx b=>by
    grind)
   omega
theorem zls {hs}:∀ {k} {a b},zaL hs k a b=true→zaL hs (k+1) a b=true
 | 0,a,b,h=>by
  simp only [zaL] at h;simp only [zaL,h,uC]
 | k+1,a,b,h=>by
  rw [zaL] at h ⊢;simp only [yK,uD,yd] at h ⊢;rcases h with h | ⟨x,d,e,c⟩
  ·grind
  ·exact .inr ⟨x,d,e,zls c⟩
theorem zrk {hs k j a b} (h:zaL hs k a b=true) (hkj:k≤j):zaL hs j a b=true:=by
 obtain ⟨d,rfl⟩:=Nat.exists_eq_add_of_le hkj;clear hkj
 induction d with
 | zero=>exact h
 | succ d ih=>exact zls ih
theorem zf9 {hs k a}:zaL hs k a a=true:=by cases k <;> simp [zaL]
theorem zlt {hs h} (hh:h∈hs):∀ {k} {a},zaL hs k a h.table=true→zaL hs (k+1) a h.to=true
 | 0,a,e=>by
  simp only [zaL] at e;simp only [zaL]
  grind
 | k+1,a,e=>by
  rw [zaL] at e ⊢;simp only [yK,uD,yd] at e ⊢;rcases e with e | ⟨x,c,d,b⟩
  ·grind [zf9]
  ·exact .inr ⟨x,c,d,zlt hh b⟩
def zwM (f:Int→Hide) (s:Int):Nat→Int
 | 0=>s
 | k+1=>(f (zwM f s k)).to
theorem zs6 {hs} {T:Nat} {S} (hS:S≠[]) (hb:∀ t∈S,0≤t∧t<(T:Int)) (hac:∀ h∈hs,zaL hs T h.to h.table=false):∃ t∈S,∀ h∈hs,¬ (h.table=t∧h.to∈S):=by
 apply Classical.byContradiction;intro hno;have hedge:∀ t,t∈S→∃ h,h∈hs∧h.table=t∧h.to∈S:=λt ht=>by
  apply Classical.byContradiction;intro hn;exact hno ⟨t,ht,λh hh he=>hn ⟨h,hh,he.1,he.2⟩⟩
 obtain ⟨s,hs0⟩:∃ s,s∈S:=by
  cases S with
  | nil=>exact absurd rfl hS
  | cons x l=>exact ⟨x,by simp⟩
 obtain ⟨f,hf⟩:∃ f:Int→Hide,∀ t,t∈S→f t∈hs∧(f t).table=t∧(f t).to∈S:=by
  refine ⟨λt=>if ht:t∈S then Classical.choose (hedge t ht) else default,λt ht=>?_⟩;simp only [ht,dite_true];exact Classical.choose_spec (hedge t ht)
 have hw:∀ k,zwM f s k∈S:=λk=>by
  induction k with
  | zero=>exact hs0
  | succ k ih=>exact (hf _ ih).2.2
 have hlead:∀ d i,zaL hs d (zwM f s i) (zwM f s (i+d))=true:=λd=>by
  induction d with
  | zero=>intro i;exact zf9
  | succ d ih=>
   intro i;simp only [zaL,yK,uD,yd,beq_iff_eq];refine .inr ⟨f (zwM f s i),(hf _ (hw i)).1,(hf _ (hw i)).2.1,?_⟩;have:=ih (i+1);rw [show i+1+d=i+(d+1) by omega] at this;exact this
 have hne:∀ i j,i<j→j≤T→zwM f s i≠zwM f s j:=λi j hij hj e=>by
  have h1:=hlead (j - i - 1) (i+1);rw [show i+1+(j - i - 1)=j by omega,← e] at h1;have h2:=hac _ (hf _ (hw i)).1;rw [(hf _ (hw i)).2.1] at h2;have h3:zaL hs T (f (zwM f s i)).to (zwM f s i)=true:=zrk h1 (by omega);rw [h3] at h2;cases h2
 have hlen:=zlM T ((List.range (T+1)).map (zwM f s)) (by
  rw [List.Nodup,List.pairwise_map];exact List.Pairwise.imp_of_mem (λ{a b} _ hb hab=>hne a b hab (by have:=y7.1 hb;omega)) List.pairwise_lt_range) (λx hx=>by
  simp only [yZ] at hx;obtain ⟨k,-,rfl⟩:=hx;exact hb _ (hw k))
 simp at hlen;omega
def zci (m:GMap Int Bool):List Int:=m.es.map λe=>e.2.1
structure WfM (m:GMap Int Bool):Prop where
 tru:∀ e∈m.es,e.2.2=true
 nd:(m.es.map (·.1)).Nodup
 lt:∀ e∈m.es,e.1<m.clock
theorem WfM.get {m} (h:WfM m) (k):(m.get? k).getD false=decide (k∈zci m):=by
 unfold GMap.get?;rw [zll k m.es h.tru];rfl
theorem WfM.empty:WfM (GMap.empty:GMap Int Bool):=⟨λe a=>(by grind [GMap.empty]),by simp [GMap.empty],λe a=>(by grind [GMap.empty])⟩
theorem zpK (k):∀ (es:List (Nat×Int×Bool)) (p),zuR k es=some p→∃ h:p.1<es.length,es[p.1].2.1=k
 | [],_,h=>by grind [zuR]
 | e::es,p,h=>by
  simp only [zuR] at h;split at h
  ·grind
  ·simp only [Option.map_eq_some_iff] at h;obtain ⟨q,a,rfl⟩:=h;obtain ⟨c,b⟩:=zpK k es q a
   grind
theorem ziT (f) (hf:∀ e,(f e).1=e.1):∀ (es:List (Nat×Int×Bool)) (i),(es.modify i f).map (·.1)=es.map (·.1)
 | [],_=>by simp
 | e::es,0=>by simp [hf]
 | e::es,i+1=>by simp [ziT f hf es i]
theorem WfM.put {m} (h:WfM m) (k):WfM (m.put k true)∧(m.put k true).es.length≤m.es.length+1∧∀ t,t∈zci (m.put k true)↔t∈zci m∨t=k:=by
 unfold GMap.put zci;cases l:zuR k m.es with
 | none=>
  refine ⟨⟨λe c=>?_,?_,λe c=>?_⟩,by simp,λt=>by simp⟩
  ·simp only [yr,yG] at c;rcases c with c | rfl
   ·exact h.tru e c
   ·rfl
  ·simp only [uw,yV,List.map_nil];rw [uV];refine ⟨h.nd,by simp,λa f b d=>?_⟩;simp only [yG] at d;simp only [yZ] at f;obtain ⟨e,c,rfl⟩:=f;have:=h.lt e c;omega
  ·simp only [yr,yG] at c;rcases c with c | rfl
   ·have:=h.lt e c
    grind
   ·simp
 | some p=>
  obtain ⟨i,b⟩:=p;have d:=ziT (λe =>(e.1,e.2.1,true)) (λe=>rfl) m.es i;refine ⟨⟨zjO (p:=λe=>e.2.2=true) _ (λe=>rfl) m.es i h.tru,by rw [d];exact h.nd,λe c=>?_⟩,by simp,λt=>?_⟩
  ·have:e.1∈m.es.map (·.1):=by grind
   simp only [yZ] at this;obtain ⟨x,j,n⟩:=this;have:=h.lt x j
   grind
  ·rw [zig (λe =>(e.1,e.2.1,true)) (λe=>rfl) m.es i];constructor
   ·grind
   ·rintro (g | rfl)
    ·exact g
    grind [zlm]
theorem WfM.del {m} (h:WfM m) {e} (he:e∈m.es):WfM (m.del e.2.1)∧(m.del e.2.1).clock=m.clock∧(m.del e.2.1).es.length+1=m.es.length∧(m.del e.2.1).es.Sublist m.es∧∀ t,t∈zci m→t≠e.2.1→t∈zci (m.del e.2.1):=by
 unfold GMap.del zci;cases g:zuR e.2.1 m.es with
 | none=>exact absurd (List.mem_map_of_mem (f:=λe =>e.2.1) he) (zpL _ m.es g)
 | some p=>
  obtain ⟨i,b⟩:=p;obtain ⟨l,d⟩:=zpK _ m.es _ g;simp only [] at l d ⊢;have a:=List.eraseIdx_sublist m.es i;refine ⟨⟨λx c=>h.tru x (a.subset c),(a.map _).nodup h.nd,λx c=>h.lt x (a.subset c)⟩,trivial,?_,a,λt k n=>?_⟩
  ·grind
  ·simp only [yZ] at k ⊢;obtain ⟨x,c,rfl⟩:=k;obtain ⟨j,o,rfl⟩:=List.mem_iff_getElem.1 c;refine ⟨_,?_,rfl⟩;rw [List.mem_eraseIdx_iff_getElem]
   grind
theorem zog {m m':GMap Int Bool} {seen} {e} (he:e∈m.left seen) (hs:m'.es.Sublist m.es):(m'.left (seen++[e.1])).length<(m.left seen).length:=by
 unfold GMap.left at he ⊢;have b:(m.es.filter λx=>!(seen++[e.1]).contains x.1)=(m.es.filter λx=>!seen.contains x.1).filter λx=>!(x.1==e.1):=by
  rw [List.filter_filter];congr 1;funext x;simp
  grind
 have a:((m.es.filter λx=>!seen.contains x.1).filter λx=>!(x.1==e.1)).length<(m.es.filter λx=>!seen.contains x.1).length:=
  List.length_filter_lt_length_iff_exists.2 ⟨e,he,by simp⟩
 grind
theorem zkl {n} {j} {m0} {i} {rec} {r} (hn:1000000≤n) (hh:j.model.zt3.length<1000000) (J:GMap Int Bool→List Nat→Prop)
  (hwf:∀ m seen,J m seen→WfM m∧m.clock=m0.clock) (hover:∀ m seen,J m seen→m.left seen=[]→rec (m,ztJ i 1)=some r)
  (hstep:∀ m seen e,J m seen→e∈m.left seen→J (if (j.model.zt3.any λh=>h.table==e.2.1&&decide (h.to∈zci m))=true then m else m.del e.2.1) (seen++[e.1]))
  (h0:J m0 []) (hl:m0.es.length<1000000):ztO (zg.l4 n j m0 i rec) n (m0,[],m0.clock)=some r:=by
 refine zdF (body:=zg.l4 n j m0 i rec) (λs=>(s.1.left s.2.1).length) (λs=>J s.1 s.2.1∧s.2.2=m0.clock) (λ_ o=>o=some r) (λrec' s hI hr=>?_) n _ ⟨h0,rfl⟩ ?_
 ·obtain ⟨m,seen,last⟩:=s;obtain ⟨hJ,hlast⟩:=hI;simp only [] at hJ hlast hr;subst hlast;obtain ⟨hw,hc⟩:=hwf m seen hJ;simp only [zg.l4,stepM];have hold:m.old m0.clock m0.clock=true:=by
   simp only [GMap.old,yd,yq,yg];exact ⟨λe he=>by have:=hw.lt e he;omega,yk _⟩
  rw [hold];unfold grd;rw [if_pos rfl];cases hleft:m.left seen with
  | nil=>
   grind
  | cons x l=>
   rw [← hleft,if_neg (by grind)];refine znb (by rw [hleft];simp) (λe he=>?_);have hem:e∈m.es:=(List.mem_filter.1 he).1;rw [if_pos (by simpa using hw.nd),zd9 (p:=λh=>h.table==e.2.1&&decide (h.to∈zci m)) (λh _=>by
    unfold zdb;rw [hw.get]) hh hn,ya]
   have hst:=hstep m seen e hJ he;cases hb:(j.model.zt3.any λh=>h.table==e.2.1&&decide (h.to∈zci m)) with
   | true=>
    rw [hb] at hst;rw [if_neg (by simp)]
    grind [seen,zog]
   | false=>
    rw [hb] at hst;rw [if_pos (by simp)];exact hr (m.del e.2.1,seen++[e.1],m.clock) ⟨hst,hc⟩ (zog he (hw.del hem).2.2.2.1)
 ·have:(m0.left []).length≤m0.es.length:=List.length_filter_le _ _;simp only [];omega
theorem ziU {α β:Type} {f:α→β}:∀ {l:List α},(l.map f).Nodup→∀ x∈l,∀ y∈l,f x=f y→x=y
 | [],_,x,b,_,_,_=>by grind
 | a::l,h,x,b,y,c,e=>by
  simp only [yV,List.nodup_cons] at h;simp only [yI] at b c;rcases b with rfl | b <;> rcases c with rfl | c
  ·rfl
  ·grind
  ·grind
  ·exact ziU h.2 x b y c e
theorem zno {n} {j} {m} (hn:1000000≤n) (hh:j.model.zt3.length≤1000) (hok:∀ h∈j.model.zt3,(0≤h.table∧h.table<(j.model.tables.length:Int)))
  (hw:WfM m) (hlen:m.es.length≤j.model.zt3.length) (hk:∀ t,t∈zci m↔∃ h∈j.model.zt3,h.table=t) :
  ztO (zg.l3 n j) n (m,0)=some (j.model.zt3.all λh=>!zaL j.model.zt3 j.model.tables.length h.to h.table):=by
 cases hac:(j.model.zt3.all λh=>!zaL j.model.zt3 j.model.tables.length h.to h.table) with
 | true=>
  have hac':∀ h∈j.model.zt3,zaL j.model.zt3 j.model.tables.length h.to h.table=false:=λh hm=>by
   grind
  have hrange:∀ m':GMap Int Bool,(∀ t∈zci m',∃ h∈j.model.zt3,h.table=t)→m'.es≠[]→∃ e∈m'.es,∀ h∈j.model.zt3,¬ (h.table=e.2.1∧h.to∈zci m'):=λm' hm' hne=>by
   obtain ⟨t,ht,hs⟩:=zs6 (hs:=j.model.zt3) (T:=j.model.tables.length) (S:=zci m') (by simpa [zci] using hne) (λt ht=>by
    grind) hac'
   simp only [zci,yZ] at ht
   grind
  refine zbn (body:=zg.l3 n j) (len:=j.model.zt3.length) (st:=λm i=>(m,(i:Int))) (g:=λ_ _=>some true) (λi m=>WfM m∧m.es.length+i≤j.model.zt3.length∧∀ t∈zci m,∃ h∈j.model.zt3,h.table=t) (λrec i m hi hI hr=>?_) (λrec m hI=>?_) n 0 m (yp _) (by omega) ⟨hw,by omega,λt ht=>(hk t).1 ht⟩
  ·obtain ⟨h1,h2,h3⟩:=hI;simp only [zg.l3,zw hi,if_true];refine zkl (r:=true) (by omega) (by omega) (λm' seen=>(WfM m'∧m'.clock=m.clock∧∀ t∈zci m',∃ h∈j.model.zt3,h.table=t)∧(m'.es.length+i+1≤j.model.zt3.length∨(m'.es.length+i≤j.model.zt3.length∧∃ e∈m'.left seen,∀ h∈j.model.zt3,¬ (h.table=e.2.1∧h.to∈zci m')))) (λm' seen hJ=>⟨hJ.1.1,hJ.1.2.1⟩) (λm' seen hJ hl=>?_) (λm' seen e hJ he=>?_) ⟨⟨h1,rfl,h3⟩,?_⟩ (by omega)
   ·rw [zd (by omega)];refine hr m' ⟨hJ.1.1,?_,hJ.1.2.2⟩;rcases hJ.2 with h | ⟨-,e,he,-⟩
    ·omega
    grind
   ·obtain ⟨⟨w1,w2,w3⟩,hd⟩:=hJ;have hem:e∈m'.es:=(List.mem_filter.1 he).1;obtain ⟨d1,d2,d3,d4,-⟩:=w1.del hem;cases hb:(j.model.zt3.any λh=>h.table==e.2.1&&decide (h.to∈zci m')) with
    | true=>
     rw [if_pos rfl];refine ⟨⟨w1,w2,w3⟩,?_⟩;rcases hd with hd | ⟨hd,x,hx,hs⟩
     ·exact .inl hd
     ·refine .inr ⟨hd,x,?_,hs⟩;simp only [GMap.left,List.mem_filter] at hx ⊢;refine ⟨hx.1,?_⟩;have hne:x.1≠e.1:=λe1=>by
       have:x=e:=ziU w1.nd x hx.1 e hem e1;subst this;simp only [uD,yd,beq_iff_eq,yg] at hb;obtain ⟨h,hh,q⟩:=hb;exact hs h hh q
      simp only [yB,List.contains_eq_mem,yH,yr,yG,not_or] at hx ⊢;exact ⟨hx.2,hne⟩
    | false=>
     rw [if_neg (by simp)];refine ⟨⟨d1,by omega,λt ht=>?_⟩,.inl ?_⟩
     ·refine w3 t ?_;simp only [zci,yZ] at ht ⊢;obtain ⟨x,hx,rfl⟩:=ht;exact ⟨x,d4.subset hx,rfl⟩
     ·rcases hd with hd | ⟨hd,-⟩ <;> omega
   ·by_cases hne:m.es=[]
    ·left;rw [hne];simp;omega
    ·right;refine ⟨h2,?_⟩;obtain ⟨e,he,hs⟩:=hrange m h3 hne;exact ⟨e,by simp [GMap.left,he],hs⟩
  ·have:m.es.length=0:=by omega
   simp [zg.l3,this]
 | false=>
  obtain ⟨h0,hm0,hl0⟩:∃ h∈j.model.zt3,zaL j.model.zt3 j.model.tables.length h.to h.table=true:=by
   simp only [List.all_eq_false] at hac;obtain ⟨h,hm,hx⟩:=hac;exact ⟨h,hm,by simpa using hx⟩
  have hclosed:∀ t,((∃ k,zaL j.model.zt3 k h0.to t=true)∧∃ k,zaL j.model.zt3 k t h0.table=true)→∃ h∈j.model.zt3,h.table=t∧((∃ k,zaL j.model.zt3 k h0.to h.to=true)∧∃ k,zaL j.model.zt3 k h.to h0.table=true):=by
   rintro t ⟨⟨a,ha⟩,b,hb⟩;have hcase:t=h0.table∨∃ h∈j.model.zt3,h.table=t∧∃ k,zaL j.model.zt3 k h.to h0.table=true:=by
    cases b with
    | zero=>left;simpa [zaL] using hb
    | succ b=>
     simp only [zaL,yK,beq_iff_eq,uD,yd] at hb;rcases hb with hb | ⟨h,hm,e,hx⟩
     ·exact .inl hb
     ·exact .inr ⟨h,hm,e,b,hx⟩
   rcases hcase with rfl | ⟨h,hm,rfl,k,hx⟩
   ·exact ⟨h0,hm0,rfl,⟨0,zf9⟩,_,hl0⟩
   ·exact ⟨h,hm,rfl,⟨_,zlt hm ha⟩,k,hx⟩
  generalize hC:(λt=>(∃ k,zaL j.model.zt3 k h0.to t=true)∧∃ k,zaL j.model.zt3 k t h0.table=true)=C at *;have hC':∀ t,C t→∃ h∈j.model.zt3,h.table=t∧C h.to:=by
   intro t ht;rw [← hC] at ht ⊢;exact hclosed t ht
  have hCs:C h0.to:=by rw [← hC];exact ⟨⟨0,zf9⟩,_,hl0⟩
  refine zbn (body:=zg.l3 n j) (len:=j.model.zt3.length) (st:=λm i=>(m,(i:Int))) (g:=λ_ _=>some false) (λi m=>WfM m∧m.es.length≤1000∧∀ t,C t→t∈zci m) (λrec i m hi hI hr=>?_) (λrec m hI=>?_) n 0 m (yp _) (by omega) ⟨hw,by omega,λt ht=>(hk t).2 (by
   obtain ⟨h,hh,e,-⟩:=hC' t ht;exact ⟨h,hh,e⟩)⟩
  ·obtain ⟨h1,h2,h3⟩:=hI;simp only [zg.l3,zw hi,if_true];refine zkl (r:=false) (by omega) (by omega) (λm' seen=>WfM m'∧m'.clock=m.clock∧m'.es.length≤1000∧∀ t,C t→t∈zci m') (λm' seen hJ=>⟨hJ.1,hJ.2.1⟩) (λm' seen hJ hl=>?_) (λm' seen e hJ he=>?_) ⟨h1,rfl,h2,h3⟩ (by omega)
   ·rw [zd (by omega)];exact hr m' ⟨hJ.1,hJ.2.2⟩
   ·obtain ⟨w1,w2,w3,w4⟩:=hJ;have hem:e∈m'.es:=(List.mem_filter.1 he).1;obtain ⟨d1,d2,d3,-,d5⟩:=w1.del hem;cases hb:(j.model.zt3.any λh=>h.table==e.2.1&&decide (h.to∈zci m')) with
    | true=>
     rw [if_pos rfl];exact ⟨w1,w2,w3,w4⟩
    | false=>
     rw [if_neg (by simp)];refine ⟨d1,by omega,by omega,λt ht=>d5 t (w4 t ht) λe1=>?_⟩;obtain ⟨h,hh,hht,hto⟩:=hC' t ht;have:=List.any_eq_false.1 hb h hh;apply this;simp only [yd,beq_iff_eq,yg];exact ⟨by omega,w4 _ hto⟩
  ·obtain ⟨-,-,h3⟩:=hI;have:=h3 _ hCs;have hne:m.es.length≠0:=λe=>by
    simp only [zci,List.length_eq_zero_iff.1 e,List.map_nil,List.not_mem_nil] at this
   simp only [zg.l3,zaw,ye,if_false,yj,uq];omega
theorem zlH {n m l} (hn:1000000≤n) (hS:zuz m):zg n ⟨m,l⟩=some (zmI m):=by
 have hhl:=hS.zt3;have htl:=hS.tables;unfold zg zmI;rw [if_neg (by grind),decide_eq_true hhl,yE];have:=zat (body:=zg.l1 n ⟨m,l⟩) (l:=m.zt3) (n:=n) (st:=λi=>(i:Int)) (zv8 m) (some false) (ztO (zg.l2 n ⟨m,l⟩) n (GMap.empty,0)) (λrec i hi=>?_) (λrec=>?_) (by omega)
 ·simp only [Int.natCast_zero] at this;rw [this];cases hall:m.zt3.all (zv8 m) with
  | false=>simp
  | true=>
   rw [if_pos rfl,yE];have hok:∀ h∈m.zt3,(0≤h.table∧h.table<(m.tables.length:Int)):=λh hm=>by
    have:=yq.1 hall h hm;simp only [zv8,yd,yg] at this
    grind
   refine zbn (body:=zg.l2 n ⟨m,l⟩) (len:=m.zt3.length) (st:=λg i=>(g,(i:Int))) (g:=λ_ _=>some (m.zt3.all λh=>!zaL m.zt3 m.tables.length h.to h.table)) (λi g=>WfM g∧g.es.length≤i∧∀ t,t∈zci g↔∃ h∈m.zt3.take i,h.table=t) (λrec i g hi hI hr=>?_) (λrec g hI=>?_) n 0 GMap.empty (yp _) (by omega) ⟨WfM.empty,by simp [GMap.empty],λt=>by simp [zci,GMap.empty]⟩
   ·obtain ⟨h1,h2,h3⟩:=hI;obtain ⟨p1,p2,p3⟩:=h1.put m.zt3[i].table;simp only [zg.l2,zw hi,if_true,zb hi,ya,zd (i:=i) (by omega)];refine hr _ ⟨p1,by omega,λt=>?_⟩;rw [p3,h3,yA hi]
    grind
   ·obtain ⟨h1,h2,h3⟩:=hI;simp only [zg.l2,zaw,ye,if_false]
    grind [zno,List.take_length]
 ·simp only [zg.l1,zao,zw hi,if_true,zb hi,ya,yo,yy,yi,zd (i:=i) (by omega)];generalize m.zt3[i]=h;by_cases hb:(((0≤h.table∧h.table<(m.tables.length:Int))∧(0≤h.to∧h.to<(m.tables.length:Int)))∧h.table≠h.to)
  ·simp only [grd,if_true];rw [if_neg (by simp [hb])];obtain ⟨t,u,ht,hu⟩:=zpP hb.1.1 hb.1.2;have hhp:zv8 m h=(((t.kind==0)&&(u.kind==0))&&((decide (0≤h.column)&&decide (h.column<(t.ztK.length:Int)))&&(((u.ztK.length:Int)==1)&&((idx u.ztK 0).getD default==(idx t.ztK h.column).getD default)))):=by
    unfold zv8;rw [ht,hu];simp [hb]
   simp only [ht,hu,ya];rw [hhp];by_cases hk:(((t.kind==0)&&(u.kind==0))&&((decide (0≤h.column)&&decide (h.column<(t.ztK.length:Int)))&&((u.ztK.length:Int)==1)))=true
   ·have hk':=hk;simp only [yd,yg,beq_iff_eq] at hk';obtain ⟨⟨k1,k2⟩,⟨k3,k4⟩,k5⟩:=hk';obtain ⟨x,hx⟩:=za7 (l:=u.ztK) (i:=0) (by omega) (by omega);obtain ⟨y,hy⟩:=za7 k3 k4;simp only [k1,k2,k3,k4,k5,hx,hy,yi,decide_true,beq_self_eq_true,uO,yo,yy,Bool.or_false,yE,uL,ui,if_true];by_cases hxy:x=y
    ·simp [hxy]
    ·simp [hxy]
   ·have hf:(((((t.kind != 0)||(u.kind != 0))||(!(decide (0≤h.column)&&decide (h.column<(t.ztK.length:Int)))))||((u.ztK.length:Int) != 1)))=true:=by
     simp only [yd,yg,beq_iff_eq] at hk;simp only [yK,bne_iff_ne,yB,uy,yH];omega
    simp only [hf,uC,if_true];rw [← Bool.and_assoc (decide (0≤h.column)&&decide (h.column<(t.ztK.length:Int))),← Bool.and_assoc];simp only [yO] at hk;rw [hk];rfl
  ·have hhp:zv8 m h=false:=by
    unfold zv8;cases hx:(((decide (0≤h.table)&&decide (h.table<(m.tables.length:Int)))&&(decide (0≤h.to)&&decide (h.to<(m.tables.length:Int))))&&(h.table != h.to)) with
    | false=>rfl
    | true=>
     simp only [yd,yg,bne_iff_ne] at hx;exact absurd hx hb
   rw [hhp];simp only [grd,if_true];rw [if_pos (by
    simp only [yK,yB,uy,yH,beq_iff_eq];omega)]
   rfl
 ·simp [zg.l1]
def zfX (m:Model):Bool:=(zbv m.ztR m.tables&&(decide (m.ztX.length≤24)&&zvI [] m.ztX))&&(zxh m (zW m.ztR true m.tables)&&(opsP m&&(zxq m (zW m.ztR true m.tables).length&&zmI m)))
theorem zhP {n m} (hF:Fuel n) (hS:zuz m):zeX n m=some (zfX m):=by
 have u:=hF.big;have r:=hS.ztR;have d:=hS.tables;have q:=hS.ztX;have a:∀ t∈m.tables,t.ztK.length≤1000:=λt h=>by have:=hS.tab t h;omega
 unfold zeX zfX;rw [zft hF (by omega) (by omega) a,zfL hF (by omega)];simp only [ya,yo,yy,grd,if_true];have g:decide (24<(m.ztX.length:Int)) = !decide (m.ztX.length≤24):=by grind
 rw [g];cases c:zbv m.ztR m.tables with
 | false=>simp
 | true=>
  by_cases b:(decide (m.ztX.length≤24)&&zvI [] m.ztX)=true
  ·simp only [yd] at b;rw [b.1,b.2,if_neg (by simp),zgy hF (by omega) (by omega) a,c];simp only [if_true,ya];obtain ⟨k,o,p,e⟩:=zb7 c;have f:=zd0 (sizes:=m.ztR) (s:=true) (l:=m.tables) λx i=>(e x i).2.2.2.2
   rw [zhB hS (λt d=>(e t d).2.2.2.1) (by omega) (by omega),zif hF hS,zlH (by omega) hS];simp only [yi];cases zxh m (zW m.ztR true m.tables) with
   | false=>simp
   | true=>
    cases j:opsP m with
    | false=>simp
    | true=>
     grind [zkF]
  grind
theorem zmq {n m} (hn:4294967296≤n) (hS:zuz m):zil n m=some (zfX m):=by
 have f:=hS.ztR;have g:=hS.tables;have i:=hS.ztX;have b:∀ t∈m.tables,t.ztK.length≤1000∧t.name.length≤4096:=λt h=>by have:=hS.tab t h;omega
 unfold zil zfX;rw [zfy (by omega) (by omega) (by omega) b,zfO (by omega) (by omega) (λw d=>by have:=hS.fam w d;omega)];simp only [ya,yo,yy,grd,if_true];have e:decide (24<(m.ztX.length:Int)) = !decide (m.ztX.length≤24):=by grind
 rw [e];cases c:zbv m.ztR m.tables with
 | false=>simp
 | true=>
  by_cases a:(decide (m.ztX.length≤24)&&zvI [] m.ztX)=true
  ·simp only [yd] at a;rw [a.1,a.2,if_neg (by simp),zhD hS c (by omega),zkM (by omega) hS c,zlQ hn hS]
   grind
  grind
def zyf (m:Model):Bool:=(((((((decide (8<(m.ztR.length:Int)))||(decide (6<(m.tables.length:Int))))||(decide (20<(m.ztX.length:Int))))||(decide (60<(m.constraints.length:Int))))||(decide (8<(m.ztN.length:Int))))||(decide (30<(m.ztL.length:Int))))||(decide (12<(m.zt3.length:Int))))
def tabF (t:Table):Bool:=decide (t.name.length≤40)&&decide (t.ztK.length≤12)
def opF (o:zul):Bool:=decide (o.name.length≤40)&&decide (o.ztR.length≤6)
def actF (a:Action):Bool:=((decide (a.arguments.length≤6)&&decide (a.effect.delta.length≤20))&&(decide (a.effect.hold.length≤10)&&decide (a.effect.ztU.length≤40)))&&a.effect.hold.all λr=>decide (r.ztP.length≤20)
def zho (m:Model):Bool:=!zyf m&&(m.tables.all tabF&&(m.ztX.all (λs=>decide (s.length≤40))&&(m.constraints.all (λc=>decide (c.row.ztP.length≤20))&&(m.ztN.all opF&&m.ztL.all actF))))
theorem zom {a b:Nat}:decide ((a:Int)<(b:Int)) = !decide (b≤a):=by grind
theorem zkK {n} {m} (hn:1000000≤n):zu n m=some (zho m):=by
 unfold zu zho;have hl:(((((((decide (8<(m.ztR.length:Int)))||(decide (6<(m.tables.length:Int))))||(decide (20<(m.ztX.length:Int))))||(decide (60<(m.constraints.length:Int))))||(decide (8<(m.ztN.length:Int))))||(decide (30<(m.ztL.length:Int))))||(decide (12<(m.zt3.length:Int))))=zyf m:=rfl;rw [hl];cases hlen:zyf m with
 | true=>simp [grd]
 | false=>
  simp only [zyf,uc,yH] at hlen;obtain ⟨⟨⟨⟨⟨⟨b1,b2⟩,b3⟩,b4⟩,b5⟩,b6⟩,b7⟩:=hlen;have hfew:zcU n m.ztR m.tables=some (m.tables.all tabF):=by
   have:=zat (body:=zcU.l1 n m.ztR m.tables) (l:=m.tables) (n:=n) (st:=λi=>(i:Int)) tabF (some false) (some true) (λrec i hi=>?_) (λrec=>?_) (by omega)
   ·grind [Int.natCast_zero,zcU,tabF]
   ·simp only [zcU.l1,zw hi,if_true,zb hi,ya,yo,yy,grd,yi,zd (i:=i) (by omega)];unfold tabF
    grind
   grind [zcU.l1]
  rw [hfew];simp only [yo,yy,grd,if_true,yi,ur,uE,yE];cases m.tables.all tabF with
  | false=>simp
  | true=>
   rw [if_neg (by simp),yE];have h4:ztO (zu.l4 n m) n 0=some (m.ztL.all actF):=by
    have:=zat (body:=zu.l4 n m) (l:=m.ztL) (n:=n) (st:=λi=>(i:Int)) actF (some false) (some true) (λrec i hi=>?_) (λrec=>?_) (by omega)
    ·simp only [Int.natCast_zero] at this;rw [this];cases m.ztL.all actF <;> rfl
    ·simp only [zu.l4,zw hi,if_true,zb hi,ya];unfold actF;by_cases hx:((decide (m.ztL[i].arguments.length≤6)&&decide (m.ztL[i].effect.delta.length≤20))&&(decide (m.ztL[i].effect.hold.length≤10)&&decide (m.ztL[i].effect.ztU.length≤40)))=true
     ·rw [hx,yE];simp only [yd,yg] at hx;rw [if_neg (by simp;omega)];have:=zat (body:=zu.l5 n i rec m.ztL[i]) (l:=m.ztL[i].effect.hold) (n:=n) (st:=λk=>(k:Int)) (λr=>decide (r.ztP.length≤20)) (some false) (rec ((i+1:Nat):Int)) (λrec' k hk=>?_) (λrec'=>?_) (by omega)
      ·simpa using this
      ·simp only [zu.l5,zw hk,if_true,zb hk,ya,zd (i:=k) (by omega)];by_cases h:m.ztL[i].effect.hold[k].ztP.length≤20
       ·rw [if_neg (by simp;omega),if_pos (by simp [h])]
       ·rw [if_pos (by simp;omega),if_neg (by simp [h])]
      ·simp only [zu.l5,zaw,ye,if_false,zd (i:=i) (by omega)]
     ·rw [if_pos (by
       simp only [yd,yg] at hx;simp only [yK,yg];omega)]
      simp only [yO] at hx;rw [hx,uh,if_neg (by simp)]
    ·simp [zu.l4]
   have h3:ztO (zu.l3 n m) n 0=some (m.ztN.all opF&&m.ztL.all actF):=by
    have:=zat (body:=zu.l3 n m) (l:=m.ztN) (n:=n) (st:=λi=>(i:Int)) opF (some false) (some (m.ztL.all actF)) (λrec i hi=>?_) (λrec=>?_) (by omega)
    ·simp only [Int.natCast_zero] at this;rw [this];cases m.ztN.all opF <;> rfl
    ·simp only [zu.l3,zw hi,if_true,zb hi,ya,yo,yy,grd,yi,zd (i:=i) (by omega)];unfold opF;by_cases h1:m.ztN[i].name.length≤40
     ·by_cases h2:m.ztN[i].ztR.length≤6
      ·rw [if_neg (by simp;omega),if_pos (by simp [h1,h2])]
      ·rw [if_pos (by simp;omega),if_neg (by simp [h2])]
     ·rw [if_pos (by simp;omega),if_neg (by simp [h1])]
    ·simp only [zu.l3,zaw,ye,if_false,h4]
   have h2:ztO (zu.l2 n m) n 0=some (m.constraints.all (λc=>decide (c.row.ztP.length≤20))&&(m.ztN.all opF&&m.ztL.all actF)):=by
    have:=zat (body:=zu.l2 n m) (l:=m.constraints) (n:=n) (st:=λi=>(i:Int)) (λc=>decide (c.row.ztP.length≤20)) (some false) (some (m.ztN.all opF&&m.ztL.all actF)) (λrec i hi=>?_) (λrec=>?_) (by omega)
    ·simp only [Int.natCast_zero] at this;rw [this];cases m.constraints.all (λc=>decide (c.row.ztP.length≤20)) <;> rfl
    ·simp only [zu.l2,zw hi,if_true,zb hi,ya,zd (i:=i) (by omega)];by_cases h:m.constraints[i].row.ztP.length≤20
     ·rw [if_neg (by simp;omega),if_pos (by simp [h])]
     ·rw [if_pos (by simp;omega),if_neg (by simp [h])]
    ·simp only [zu.l2,zaw,ye,if_false,h3]
   have:=zat (body:=zu.l1 n m) (l:=m.ztX) (n:=n) (st:=λi=>(i:Int)) (λs=>decide (s.length≤40)) (some false) (some (m.constraints.all (λc=>decide (c.row.ztP.length≤20))&&(m.ztN.all opF&&m.ztL.all actF))) (λrec i hi=>?_) (λrec=>?_) (by omega)
   ·simp only [Int.natCast_zero] at this;rw [this];cases m.ztX.all (λs=>decide (s.length≤40)) <;> rfl
   ·simp only [zu.l1,zw hi,if_true,zb hi,ya,zd (i:=i) (by omega)];by_cases h:m.ztX[i].length≤40
    ·rw [if_neg (by simp;omega),if_pos (by simp [h])]
    ·rw [if_pos (by simp;omega),if_neg (by simp [h])]
   ·simp only [zu.l1,zaw,ye,if_false,h2]
theorem zhI {m} (h:zho m=true):zuz m:=by
 simp only [zho,zyf,tabF,opF,actF,yd,yB,uc,yH,yq,yg] at h;obtain ⟨⟨⟨⟨⟨⟨⟨j,k⟩,l⟩,n⟩,g⟩,b6⟩,i⟩,c,d,b,e,o⟩:=h;exact ⟨by omega,by omega,c,by omega,d,by omega,b,by omega,e,by omega,λa f=>by
  grind,by omega⟩
def zxx:Int→List Range→Bool
 | _,[]=>true
 | p,r::l=>!decide (4096<ztZ p (ztJ (zt2 r.hi r.lo) 1))&&zxx (ztZ p (ztJ (zt2 r.hi r.lo) 1)) l
def zdL (m:Model):List Range:=if zbv m.ztR m.tables=true then zW m.ztR true m.tables else []
def fewP (m:Model):Bool:=((zho m&&decide (m.ztL.length≤12))&&decide (m.constraints.length≤40))&&(m.ztL.all (λa=>decide (a.effect.hold.length≤4))&&(decide ((zdL m).length≤12)&&zxx 1 (zdL m)))
theorem zlS {n} {m} (hn:1000000≤n) (hS:zuz m):zcm n m=some (zdL m):=by
 have b:=hS.ztR;have a:=hS.tables;unfold zcm;rw [ze3 hn (by omega) (by omega) (λt h=>by have:=hS.tab t h;omega)];rfl
theorem zou {n} {m} (hn:1000000≤n):zbR n m=some (fewP m):=by
 unfold zbR fewP;rw [zkK hn,ya];have f:decide (12<(m.ztL.length:Int)) = !decide (m.ztL.length≤12):=zom (a:=12);have j:decide (40<(m.constraints.length:Int)) = !decide (m.constraints.length≤40):=zom (a:=40);rw [f,j,← Bool.not_and,← Bool.not_and];cases d:(zho m&&decide (m.ztL.length≤12)&&decide (m.constraints.length≤40)) with
 | false=>simp
 | true=>
  simp only [yd,yg] at d;have e:=zhI d.1.1;have T:(if (decide (12<((zdL m).length:Int)))=true then some false else ztO (zbR.l2 n (zdL m)) n (1,0))=some (decide ((zdL m).length≤12)&&zxx 1 (zdL m)):=by
   by_cases h:(zdL m).length≤12
   ·rw [if_neg (by grind),decide_eq_true h,yE];refine zbn (body:=zbR.l2 n (zdL m)) (len:=(zdL m).length) (st:=λp i=>(p,i)) (g:=λi p=>some (zxx p ((zdL m).drop i))) (λ_ _=>True) (λb i p c _ k=>?_) (λb p _=>?_) n 0 1 (yp _) (by omega) trivial
    ·simp only [zbR.l2,zb c,zd (i:=i) (by omega)]
     grind [zo,zxx]
    ·simp [zbR.l2,zxx]
   grind
  have:=zat (body:=zbR.l1 n m) (l:=m.ztL) (n:=n) (st:=λi=>i) (λa=>decide (a.effect.hold.length≤4)) (some false) (some (decide ((zdL m).length≤12)&&zxx 1 (zdL m))) (λb i c=>?_) (λb=>?_) (by omega)
  ·grind
  ·simp only [zbR.l1,zb c,zd (i:=i) (by omega)]
   grind
  ·simp only [zbR.l1,zaw,ye,if_false,zlS hn e,ya,T]
theorem zmF {m} (h:fewP m=true):zuz m:=by
 simp only [fewP] at h
 grind [zhI]
structure zvt (m:Model):Prop where
 lay:zbv m.ztR m.tables=true
 fams:m.ztX.length≤24∧zvI [] m.ztX=true
 cons:zxh m (zW m.ztR true m.tables)=true
 ops:opsP m=true
 acts:zxq m (zW m.ztR true m.tables).length=true
 hid:zmI m=true
theorem zfY {m}:zfX m=true↔zvt m:=by
 simp only [zfX,yd,yg];exact ⟨λ⟨⟨a,b,c⟩,d,e,f,g⟩=>⟨a,⟨b,c⟩,d,e,f,g⟩,λ⟨a,⟨b,c⟩,d,e,f,g⟩=>⟨⟨a,b,c⟩,d,e,f,g⟩⟩
def stepT (s:Nat) (L:List (List Int)):List (List Int):=L.flatMap λl=>(List.range s).map λe:Nat=>l++[(e:Int)]
def zfD (sizes:List Int):List Int→List (List Int)→List (List Int)
 | [],L=>L
 | c::cols,L=>zfD sizes cols (stepT (zc8 sizes c).toNat L)
def zev (sizes cols:List Int):List (List Int):=zfD sizes cols [[]]
theorem zh1 (sizes):∀ (a b) (L),zfD sizes (a++b) L=zfD sizes b (zfD sizes a L)
 | [],_,_=>rfl
 | _::a,b,L=>by exact zh1 sizes a b _
theorem zoP {s L}:(stepT s L).length=L.length*s:=by
 induction L with
 | nil=>simp [stepT]
 | cons l L ih=>
  grind [stepT]
theorem zrN {s L k} (h:∀ l∈L,l.length=k):∀ l∈stepT s L,l.length=k+1:=λl a=>by
 simp only [stepT] at a
 grind
theorem zqF {s} {L:List (List Int)} {i} (hi):stepT s (L.take (i+1))=stepT s (L.take i)++(List.range s).map λe:Nat=>L[i]++[(e:Int)]:=by
 grind [List.take_succ_eq_append_getElem,stepT]
def zei (i:Nat) (L:List (List Int)):List Place:=L.map λl=>⟨(i:Int),l⟩
def zcS (sizes:List Int) (s:Bool):List Table→Nat→List Place
 | [],_=>[]
 | t::l,i=>(if decide (t.kind≤1)=s then zei i (zev sizes t.ztK) else [])++zcS sizes s l (i+1)
theorem zhR (sizes s):∀ (a b) (i),zcS sizes s (a++b) i=zcS sizes s a i++zcS sizes s b (i+a.length)
 | [],b,i=>by simp [zcS]
 | t::a,b,i=>by
  simp only [ug,zcS,zhR sizes s a b]
  grind
theorem zkp {sizes} {s} {l:List Table} {i} (hi):zcS sizes s (l.take (i+1)) 0=zcS sizes s (l.take i) 0++(if decide (l[i].kind≤1)=s then zei i (zev sizes l[i].ztK) else []):=by
 rw [yA hi,zhR];simp only [zcS]
 grind
theorem zsZ {n} {x40} {rec} {l} {s:Nat} {b} {k:Nat} (hk:ztJ x40 1=(k:Int)) (hs:s≤6) (hl:l.length≤100) (hb:b.length≤100000) (hn:1000000≤n) :
  ztO (zq.l4 n x40 rec l (s:Int)) n (b,0)=rec (b++(List.range s).map λe:Nat=>l++[(e:Int)],(k:Int)):=by
 have:=zM (body:=zq.l4 n x40 rec l s) (len:=s) (st:=λi=>(b++(List.range i).map λe:Nat=>l++[(e:Int)],i)) (g:=λ_=>rec (b++(List.range s).map λe:Nat=>l++[(e:Int)],k)) (λa i d c=>?_) (λa=>?_) n 0 (yp _) (by omega)
 ·grind
 ·rw [uK,uw,← yM] at c;simp only [zq.l4,zd (i:=i) (by omega)]
  grind [zp]
 ·simp only [zq.l4,zhL (yk s),ye,if_false,hk]
theorem zsY {n} {m} {L} {x34 x36} {rec} {s k:Nat} (hk:ztJ x34 1=(k:Int)) (hx:idx m.ztR x36=some (s:Int)) (hs:s≤6) (hl:∀ l∈L,l.length≤100) (hL:L.length≤1000) (hn:1000000≤n) :
  ztO (zq.l3 n m L x34 rec x36) n ([],0)=rec (stepT s L,(k:Int)):=by
 have:=zM (body:=zq.l3 n m L x34 rec x36) (len:=L.length) (st:=λi=>(stepT s (L.take i),i)) (g:=λ_=>rec (stepT s L,k)) (λb i c d=>?_) (λb=>?_) n 0 (yp _) (by omega)
 ·grind [stepT]
 ·rw [zqF c] at d;simp only [zq.l3,zw c,zb c,ya,hx];have a:(stepT s (L.take i)).length≤100000:=by
   rw [zoP,ub];have:min i L.length*s≤1000*6:=uf (by omega) hs;omega
  rw [zsZ (k:=i+1) (zd (by omega)) hs (hl _ (ym c)) a hn];exact d
 ·simp only [zq.l3,zaw,ye,if_false,hk,List.take_length]
theorem zs0 {n} {i:Nat} {rec} {t} {L} {b1 b2} (hi:i<1000000) (hL:L.length≤1000) (h1:b1.length≤100000) (h2:b2.length≤100000) (hn:1000000≤n) :
  ztO (zq.l5 n (i:Int) rec t L) n (b1,b2,0)=rec (b1++(if decide (t.kind≤1)=true then zei i L else []),b2++(if decide (t.kind≤1)=false then zei i L else []),((i+1:Nat):Int)):=by
 cases hk:decide (t.kind≤1) with
 | true=>
  have:=zM (body:=zq.l5 n (i:Int) rec t L) (len:=L.length) (st:=λk=>(b1++zei i (L.take k),b2,(k:Int))) (g:=λ_=>rec (b1++zei i L,b2,((i+1:Nat):Int))) (λrec' k hk' hr=>?_) (λrec'=>?_) n 0 (yp _) (by omega)
  ·grind [zei]
  ·simp only [zei] at hr ⊢;rw [← zeD hk',← yM] at hr;simp only [zq.l5,jn,zb hk',zd (i:=k) (by omega)]
   grind [zp]
  ·simp only [zq.l5,zaw,ye,if_false,List.take_length,zd (i:=i) (by omega)]
 | false=>
  have:=zM (body:=zq.l5 n (i:Int) rec t L) (len:=L.length) (st:=λk=>(b1,b2++zei i (L.take k),(k:Int))) (g:=λ_=>rec (b1,b2++zei i L,((i+1:Nat):Int))) (λrec' k hk' hr=>?_) (λrec'=>?_) n 0 (yp _) (by omega)
  ·grind [zei]
  ·simp only [zei] at hr ⊢;rw [← zeD hk',← yM] at hr;simp only [zq.l5,jn,zw hk',if_true,zb hk',ya,hk,ye,if_false,zd (i:=k) (by omega)]
   grind [zp]
  ·simp only [zq.l5,zaw,ye,if_false,List.take_length,zd (i:=i) (by omega)]
theorem zjk {sizes} (hs:sizes.all zcx=true):∀ (cols) (L) (A k),cols.all (zuK sizes)=true→L.length≤A→(∀ l∈L,l.length=k)→(zfD sizes cols L).length≤A*6 ^ cols.length∧∀ l∈zfD sizes cols L,l.length=k+cols.length
 | [],L,A,k,_,h1,h2=>by grind [zfD]
 | c::cols,L,A,k,hc,h1,h2=>by
  simp only [uj,yd] at hc;have hz:=zjc hs hc.1;have hlen:(stepT (zc8 sizes c).toNat L).length≤A*6:=by
   rw [zoP];exact uf h1 (by omega)
  obtain ⟨p1,p2⟩:=zjk hs cols (stepT (zc8 sizes c).toNat L) (A*6) (k+1) hc.2 hlen (zrN h2)
  grind [zfD,List.length_cons,Nat.pow_succ,Nat.mul_comm,Nat.mul_assoc]
theorem zgk {sizes cols} (hs:sizes.all zcx=true) (hc:cols.all (zuK sizes)=true) (h3:cols.length≤3):(zev sizes cols).length≤216∧∀ l∈zev sizes cols,l.length=cols.length:=by
 obtain ⟨b,c⟩:=zjk hs cols [[]] 1 0 hc (by simp) (by simp);refine ⟨yJ b ?_,λl a=>by simpa using c l a⟩;have:6 ^ cols.length≤6 ^ 3:=ux (by decide) h3;omega
theorem zsX {n} {m} {b1 b2} {i:Nat} {rec} {t} (hs:m.ztR.all zcx=true) (hc:t.ztK.all (zuK m.ztR)=true) (h3:t.ztK.length≤3) (hi:i<1000000) (h1:b1.length≤100000) (h2:b2.length≤100000) (hn:1000000≤n) :
  ztO (zq.l2 n m b1 b2 (i:Int) rec t) n ([[]],0)=rec (b1++(if decide (t.kind≤1)=true then zei i (zev m.ztR t.ztK) else []),b2++(if decide (t.kind≤1)=false then zei i (zev m.ztR t.ztK) else []),((i+1:Nat):Int)):=by
 have hpre:∀ k,(t.ztK.take k).all (zuK m.ztR)=true:=λk=>yq.2 λc hm=>yq.1 hc c (List.mem_of_mem_take hm)
 have:=zM (body:=zq.l2 n m b1 b2 (i:Int) rec t) (len:=t.ztK.length) (st:=λk=>(zev m.ztR (t.ztK.take k),(k:Int))) (g:=λ_=>rec (b1++(if decide (t.kind≤1)=true then zei i (zev m.ztR t.ztK) else []),b2++(if decide (t.kind≤1)=false then zei i (zev m.ztR t.ztK) else []),((i+1:Nat):Int))) (λrec' k hk hr=>?_) (λrec'=>?_) n 0 (yp _) (by omega)
 ·grind [zev,zfD]
 ·have hcol:=yq.1 hc _ (ym hk);have hz:=zjc hs hcol;obtain ⟨p1,p2⟩:=zgk hs (hpre k) (by grind);have hsz:idx m.ztR t.ztK[k]=some (((zc8 m.ztR t.ztK[k]).toNat:Nat):Int):=by
   grind [zf6,zc8]
  simp only [zq.l2,zw hk,if_true,zb hk,ya];rw [zsY (k:=k+1) (zd (by omega)) hsz (by omega) (λl hl=>by grind) (by omega) hn,← hr];unfold zev;rw [yA hk,zh1];rfl
 ·obtain ⟨p1,-⟩:=zgk hs hc h3;simp only [zq.l2,zaw,ye,if_false,List.take_length];exact zs0 hi (by omega) h1 h2 hn
theorem zii {sizes s}:∀ {l} {i},(∀ t∈l,(zev sizes t.ztK).length≤216)→(zcS sizes s l i).length≤l.length*216
 | [],_,_=>by simp [zcS]
 | t::l,i,h=>by
  have b:=zii (s:=s) (l:=l) (i:=i+1) λx a=>h x (by simp [a])
  grind [zcS,zei]
def znr (m:Model):zu7:=⟨m,zcS m.ztR true m.tables 0,zcS m.ztR false m.tables 0⟩
theorem zkQ {n} {m} (hF:Fuel n) (hS:zuz m):zq n m=some (if zfX m=true then (some (znr m),true) else (none,false)):=by
 have v:=hF.big;unfold zq;rw [zhP hF hS,ya];cases p:zfX m with
 | false=>simp
 | true=>
  have q:=zfY.1 p;obtain ⟨w,x,h,e⟩:=zb7 q.lay;have f :=λt a=>(zgk h (e t a).2.2.2.1 (e t a).2.2.1).1
  have:=zM (body:=zq.l1 n m) (len:=m.tables.length) (st:=λi=>(zcS m.ztR true (m.tables.take i) 0,zcS m.ztR false (m.tables.take i) 0,i)) (g:=λ_=>some (some (znr m),true)) (λd i b j=>?_) (λd=>?_) n 0 (yp _) (by omega)
  ·grind [zcS]
  ·have c:=ym b;obtain ⟨-,-,o,r,-⟩:=e _ c;have u:=zii (s:=true) (l:=m.tables.take i) (i:=0) λt a=>f t (List.mem_of_mem_take a)
   have k:=zii (s:=false) (l:=m.tables.take i) (i:=0) λt a=>f t (List.mem_of_mem_take a)
   simp only [ub] at u k;rw [zkp b,zkp b] at j;simp only [zq.l1,zw b,zb b,ya];rw [zsX h r o (by omega) (by omega) (by omega) (by omega)];exact j
  ·simp [zq.l1,znr]
def zgp (m:Model) (q:Question):Bool:=
 (((decide (0≤q.e)&&decide (q.e<(m.ztL.length:Int)))&&(decide (0≤q.f)&&decide (q.f<(m.ztL.length:Int))))&&decide (0≤q.target.index)) &&
 (if q.target.hold=true then decide (q.target.index<(((idx m.ztL q.e).getD default).effect.hold.length:Int)) else decide (q.e≤q.f)&&decide (q.target.index<(m.constraints.length:Int)))
theorem zwO {m q}:(if (((((decide (q.e<0))||(decide (q.f<0)))||(decide ((m.ztL.length:Int)≤q.e)))||(decide ((m.ztL.length:Int)≤q.f)))||(decide (q.target.index<0)))=true then some false
 else if q.target.hold=true then (idx m.ztL q.e).bind λx=>some (decide (q.target.index<(x.effect.hold.length:Int))) else some ((decide (q.e≤q.f))&&(decide (q.target.index<(m.constraints.length:Int)))))=some (zgp m q):=by
 unfold zgp;by_cases h:((0≤q.e∧q.e<m.ztL.length)∧(0≤q.f∧q.f<m.ztL.length))∧0≤q.target.index
 ·obtain ⟨a,b⟩:=za7 h.1.1.1 h.1.1.2
  grind
 grind
theorem zfU {n m q} (hF:Fuel n) (hS:zuz m):zd6 n m q=some (zfX m&&zgp m q):=by
 unfold zd6;rw [zkQ hF hS,ya];cases zfX m with
 | false=>simp [grd]
 | true=>
  have:zbx n (znr m) q=some (zgp m q):=zwO
  grind [grd]
theorem zhW {n m q} (hn:4294967296≤n) (hS:zuz m):zim n m q=some (zfX m&&zgp m q):=by
 unfold zim;rw [zmq hn hS,ya];cases zfX m with
 | false=>simp
 | true=>
  exact zwO
theorem zqm:zie 18446744073709551616=some true:=by decide +kernel
theorem znq:(zbH 18446744073709551616).map (λm=>m.es.map (λe=>e.2))=some (kwL.map λk=>(k,true)):=by decide +kernel
theorem ztv:Fuel 18446744073709551616:=by
 refine ⟨by decide,?_⟩;have h:=znq;cases hk:zbH 18446744073709551616 with
 | none=>rw [hk] at h;cases h
 | some m=>
  rw [hk] at h;simp only [yT,yj] at h;refine ⟨m,rfl,λe he=>?_,λk=>?_⟩
  ·have:e.2∈m.es.map (λe=>e.2):=List.mem_map_of_mem he;rw [h] at this;simp only [yZ] at this;obtain ⟨x,-,hx⟩:=this;rw [← hx]
  ·have:m.es.map (λe=>e.2.1)=kwL:=by
    have e1:m.es.map (λe=>e.2.1)=(m.es.map (λe=>e.2)).map (·.1):=by rw [uU];rfl
    rw [e1,h,uU];exact List.map_id kwL
   rw [this]
theorem zh9 {K}:∀ (l:List Change) (last:Int),zhK K last l=true→(∀ d∈l,last<d.cell∧d.cell<(K:Int)∧d.add≠0∧-1000000000≤d.add∧d.add≤1000000000)∧(l.map (·.cell)).Nodup
 | [],_,_=>by simp
 | d::l,last,h=>by
  simp only [zhK,zaQ,yd,yg,bne_iff_ne] at h;obtain ⟨⟨⟨⟨h1,h2⟩,h3⟩,h4,h5⟩,h6⟩:=h;obtain ⟨p1,p2⟩:=zh9 l d.cell h6;refine ⟨λx hx=>?_,?_⟩
  ·simp only [yI] at hx;rcases hx with rfl | hx
   ·exact ⟨h1,h2,h3,h4,h5⟩
   ·obtain ⟨q1,q2⟩:=p1 x hx;exact ⟨by omega,q2⟩
  ·simp only [yV,List.nodup_cons,yZ,not_exists,not_and];exact ⟨λx hx e=>by have:=(p1 x hx).1;omega,p2⟩
theorem zoT {m} (hV:zvt m) {a} (ha:a∈m.ztL):effP m (zW m.ztR true m.tables).length a.effect=true∧(0≤a.operation∧a.operation<(m.ztN.length:Int)):=by
 have h:=hV.acts;simp only [zxq,yd] at h;obtain ⟨i,hi,rfl⟩:=List.mem_iff_getElem.1 ha;have:=zj9.1 h.2 i hi;simp only [zb hi,yi,actP,yd,yg] at this;exact ⟨this.2,this.1.1.1.1⟩
theorem zl9 {m} (hV:zvt m) {c} (hc:c∈m.constraints):zfk (zW m.ztR true m.tables).length c=true∨acyP m c=true:=by
 have h:=hV.cons;simp only [zxh,yd] at h;obtain ⟨i,hi,rfl⟩:=List.mem_iff_getElem.1 hc;have:=zj9.1 h.2 i hi;simp only [zb hi,yi,conP,yd,yK] at this;exact this.1.2
theorem zm6 {m} (hV:zvt m) {c} (h:acyP m c=true):c.kind=1∧1≤c.size∧c.size≤6:=by
 obtain ⟨l1,l2,l3,l4⟩:=zb7 hV.lay;simp only [acyP,zhN,yd,uD,beq_iff_eq] at h;obtain ⟨h1,-,t,ht,hg⟩:=h;simp only [ziI,yd,beq_iff_eq] at hg;obtain ⟨⟨g1,g2⟩,⟨g3,g4⟩,g5⟩:=hg;obtain ⟨⟨x,hx⟩,-,z,hz⟩:=zhq (l4 t ht).2.2.2.1 g2;refine ⟨h1,?_⟩;rw [hz] at g5;simp only [yi] at g5;have:=yq.1 l3 z (zbb hz);simp only [zcx,yd,yg] at this;omega
theorem znk {n m} (hn:4294967296≤n) (hS:zuz m) (hV:zvt m):Good n m:=by
 refine ⟨λa ha=>?_,λc hc=>?_⟩
 ·obtain ⟨a1,a2,a3,a4,a5⟩:=hS.act a ha;have he:=(zoT hV ha).1;simp only [effP,yd] at he;obtain ⟨p1,p2⟩:=zh9 _ _ he.1;exact ⟨by omega,by omega,λk=>zk4 k _ p2 λd hd=>by have:=p1 d hd;omega,λr hr=>by have:=a5 r hr;omega⟩
 ·have hl:=hS.con c hc;rcases zl9 hV hc with h | h
  ·simp only [zfk,yd,beq_iff_eq] at h;refine ⟨.inl h.1.1.1,by omega,by omega,0,?_,by decide,by omega⟩;rw [h.1.2];rfl
  ·obtain ⟨k1,s1,s2⟩:=zm6 hV h;refine ⟨.inr k1,by omega,by omega,c.size.toNat*c.size.toNat,?_,?_,?_⟩
   ·have:c.size*c.size≤6*6:=Int.mul_le_mul s2 s2 (by omega) (by omega);have h0:0≤c.size*c.size:=Int.mul_nonneg (by omega) (by omega);unfold ztZ;rw [zaK (by omega) (by omega),uv,Int.toNat_of_nonneg (by omega)]
   ·have:c.size.toNat*c.size.toNat≤6*6:=uf (by omega) (by omega);omega
   ·have:c.size.toNat*c.size.toNat≤6*6:=uf (by omega) (by omega);omega
theorem zlN {m q} (h:zgp m q=true):(0≤q.e∧q.e<(m.ztL.length:Int))∧(0≤q.f∧q.f<(m.ztL.length:Int))∧0≤q.target.index∧(q.target.hold=true→∀ a,idx m.ztL q.e=some a→q.target.index<(a.effect.hold.length:Int))∧(q.target.hold=false→q.e≤q.f∧q.target.index<(m.constraints.length:Int)):=by
 simp only [zgp,yd,yg] at h;obtain ⟨⟨⟨h1,h2⟩,h3⟩,h4⟩:=h;refine ⟨h1,h2,h3,λhh a ha=>?_,λhh=>?_⟩
 ·rw [if_pos hh,ha] at h4;simpa using h4
 ·rw [if_neg (by simp [hh])] at h4;simpa using h4
def nextL:List Range→List Int→Option (List Int)
 | r::rs,x::xs=>match nextL rs xs with
  | some ys=>some (x::ys)
  | none=>if x<r.hi then some ((x+1)::rs.map (·.lo)) else none
 | _,_=>none
def zwn:List Range→List Int→Bool
 | r::rs,x::xs=>(decide (r.lo≤x)&&decide (x≤r.hi))&&zwn rs xs
 | [],[]=>true
 | _,_=>false
def zw1 (box:List Range):Bool:=box.all λr=>decide (r.lo≤r.hi)&&(decide (-9999≤r.lo)&&decide (r.hi≤9999))
theorem zlr:∀ {box:List Range} {s:List Int},zwn box s=true→s.length=box.length
 | [],[],_=>rfl
 | [],_::_,h=>by simp [zwn] at h
 | _::_,[],h=>by simp [zwn] at h
 | _::rs,_::xs,h=>by
  simp only [zwn,yd] at h;simp [zlr h.2]
theorem zlq:∀ {box:List Range} {s:List Int} (h:zwn box s=true) (i:Nat) (hi:i<box.length) (hs:i<s.length),box[i].lo≤s[i]∧s[i]≤box[i].hi
 | [],_,_,i,hi,_=>by simp at hi
 | _::_,[],h,_,_,_=>by simp [zwn] at h
 | r::rs,x::xs,h,0,_,_=>by
  simp only [zwn,yd,yg] at h;exact h.1
 | r::rs,x::xs,h,i+1,hi,hs=>by
  simp only [zwn,yd] at h;simpa using zlq h.2 i (by simpa using hi) (by simpa using hs)
def sumP (s:List Int):List Term→Int
 | []=>0
 | t::l=>t.ztV*s.getD t.cell.toNat 0+sumP s l
def zhi (k:Nat) (t:Term):Prop:=0≤t.cell∧t.cell<(k:Int)∧-1000≤t.ztV∧t.ztV≤1000
theorem zmL {f x B:Int} (h1 : -1000≤f) (h2:f≤1000) (h3 : -B≤x) (h4:x≤B) : -(1000*B)≤f*x∧f*x≤1000*B:=by
 have hB:0≤B:=by omega
 have a1:f.natAbs≤1000:=by omega
 have a2:x.natAbs≤B.toNat:=by omega
 have a3:(f*x).natAbs≤1000*B.toNat:=by rw [Int.natAbs_mul];exact uf a1 a2
 omega
def anyR (p:Nat→Bool) (i:Nat):Nat→Bool
 | 0=>false
 | k+1=>p i||anyR p (i+1) k
theorem zn2 {p q}:∀ {k i:Nat},(∀ j,i≤j→j<i+k→p j=true→q j=true)→anyR p i k=true→anyR q i k=true
 | 0,_,_,h=>by simp [anyR] at h
 | k+1,i,hpq,h=>by
  simp only [anyR,yK] at h ⊢;rcases h with h | h
  ·exact .inl (hpq i (yk _) (by omega) h)
  ·exact .inr (zn2 (λj h1 h2=>hpq j (by omega) (by omega)) h)
def neP (E:Nat→Nat→Bool) (size:Nat):Nat→List Int→Nat→Nat→Bool
 | 0,_,first,last=>E last first
 | d+1,path,first,last=>anyR (λx=>!(decide ((x:Int)∈path)||!E last x)&&neP E size d (path++[(x:Int)]) first x) (first+1) (size - (first+1))
theorem zp0 {E F size} (h:∀ a b,a<size→b<size→E a b=true→F a b=true):∀ (d:Nat) (path:List Int) (first last:Nat),first<size→last<size→neP E size d path first last=true→neP F size d path first last=true
 | 0,_,first,last,h1,h2,he=>h _ _ h2 h1 he
 | d+1,path,first,last,h1,h2,he=>by
  rw [neP] at he ⊢;refine zn2 (λj hj hk hp=>?_) he;simp only [yd,yB,uc,Bool.not_eq_false'] at hp ⊢;exact ⟨⟨hp.1.1,h _ _ h2 (by omega) hp.1.2⟩,zp0 h d _ first j h1 (by omega) hp.2⟩
def zwg (s:List Int) (c:Constraint) (a b:Nat):Bool:=decide (1≤s.getD (c.first+(a:Int)*c.size+(b:Int)).toNat 0)
structure GraphIn (c:Constraint) (s:List Int) (size:Nat):Prop where
 sz:c.size=(size:Int)
 pos:1≤size
 six:size≤6
 first:0≤c.first
 fits:c.first+(size*size:Nat)≤(s.length:Int)
 len:s.length≤1000
def zwG (E:Nat→Nat→Bool) (size:Nat):Bool:=allR (λlen=>allR (λa=>!neP E size (len - 1) [(a:Int)] a a) 0 size) 1 size
theorem zjq {E F size} (h:∀ a b,a<size→b<size→E a b=true→F a b=true) (hF:zwG F size=true):zwG E size=true:=by
 unfold zwG at hF ⊢;rw [zkU] at hF ⊢;intro len h1 h2;have:=hF len h1 h2;rw [zj9] at this ⊢;intro a ha;have hn:=this a ha;cases hx:neP E size (len - 1) [(a:Int)] a a with
 | false=>rfl
 | true=>rw [zp0 h _ _ _ _ ha ha hx] at hn;exact hn
inductive ConIn (c:Constraint) (k:Nat):Prop
 | row:c.kind=0→(∀ t∈c.row.ztP,zhi k t)→c.row.ztP.length≤1000→(-4000000000≤c.row.bound∧c.row.bound≤4000000000)→ConIn c k
 | graph (size:Nat):c.kind=1→c.size=(size:Int)→1≤size→size≤6→0≤c.first→c.first+(size*size:Nat)≤(k:Int)→ConIn c k
def zav (c:Constraint) (s:List Int):Bool:=if c.kind=1 then zwG (zwg s c) c.size.toNat else decide (sumP s c.row.ztP≤c.row.bound)
theorem zjS {β:Type} (g:Nat→List β) (k:Nat):(List.range (k+1)).flatMap g=(List.range k).flatMap g++g k:=by
 rw [uK,List.flatMap_append];simp
def boxM (m:Model):List Range:=zW m.ztR true m.tables
theorem zik {sizes s}:∀ {l:List Table} {r:Range},r∈zW sizes s l→∃ t∈l,r=t.range
 | [],r,h=>by simp [zW] at h
 | t::l,r,h=>by
  rw [zW] at h;split at h
  ·rcases yr.1 h with h | h
   ·exact ⟨t,by simp,(List.mem_replicate.1 h).2⟩
   ·obtain ⟨u,hu,e⟩:=zik h;exact ⟨u,by simp [hu],e⟩
  ·obtain ⟨u,hu,e⟩:=zik h;exact ⟨u,by simp [hu],e⟩
theorem zix {m} (hL:zbv m.ztR m.tables=true):zw1 (boxM m)=true:=by
 unfold zw1;rw [yq];intro r hr;obtain ⟨t,ht,rfl⟩:=zik hr;have hL':=hL;simp only [zbv,yd] at hL';have:=ziL hL'.2 t ht;simp only [tabP,yd] at this;have hrg:=this.2;unfold zg4 at hrg;split at hrg
 ·simp only [yd,yg] at hrg ⊢;omega
 ·simp only [yg] at hrg;rw [hrg];decide
theorem zpf {sizes} (hs:sizes.all zcx=true):∀ {l:List Table} {seen:List (List UInt8)} {a b:Int},layP sizes seen a b l=true→0≤a→a+216*(l.length:Int)≤1000000→∀ t∈l,zb9 t.kind=true→a≤t.first∧t.first+zar sizes t.ztK 1≤a+((zW sizes true l).length:Int)
 | [],_,_,_,_,_,_,t,ht,_=>by simp at ht
 | x::l,seen,a,b,h,ha,hb,t,ht,hst=>by
  have htab:=ziL h x (by simp);simp only [tabP,yd,yg] at htab;have hw:=zhl hs htab.1.2.2 htab.1.2.1;simp only [layP,yd] at h;have h2:=h.2;simp only [yR] at hb;have hcast:((l.length+1:Nat):Int)=(l.length:Int)+1:=by omega
  rw [hcast] at hb;by_cases hx:zb9 x.kind=true
  ·rw [if_pos hx] at h2;simp only [yd,beq_iff_eq] at h2;have hadd:ztJ a (zar sizes x.ztK 1)=a+zar sizes x.ztK 1:=by unfold ztJ;exact zaK (by omega) (by omega)
   rw [hadd] at h2;have hlen:((zW sizes true (x::l)).length:Int)=zar sizes x.ztK 1+((zW sizes true l).length:Int):=by
    rw [zW,hx,if_pos (by rfl),yQ,uz];omega
   rw [hlen];rcases yI.1 ht with rfl | ht
   ·omega
   ·have:=zpf hs h2.2 (by omega) (by omega) t ht hst;omega
  ·rw [if_neg hx] at h2;simp only [yd,beq_iff_eq] at h2;have hx':zb9 x.kind=false:=by simpa using hx
   have hlen:(zW sizes true (x::l))=zW sizes true l:=by
    rw [zW,hx',if_neg (by decide)]
   rw [hlen];rcases yI.1 ht with rfl | ht
   ·rw [hst] at hx';cases hx'
   ·exact zpf hs h2.2 ha (by omega) t ht hst
theorem zjV {K}:∀ {l:List Term} {last:Int},rowP K last l=true→-1≤last→∀ t∈l,zhi K t
 | [],_,_,_,t,ht=>by simp at ht
 | x::l,last,h,hl,t,ht=>by
  simp only [rowP,zaQ,yd,yg] at h;rcases yI.1 ht with rfl | ht
  ·exact ⟨by omega,h.1.1.1.2,by omega,by omega⟩
  ·exact zjV h.2 (by omega) t ht
theorem zsw {m} (hS:zuz m) (hV:zvt m) {c} (hc:c∈m.constraints):ConIn c (boxM m).length:=by
 have hl:=hS.con c hc;rcases zl9 hV hc with h | h
 ·simp only [zfk,yd,beq_iff_eq] at h;have h2:=h.2;simp only [zuI,zaQ,yd,yg] at h2;exact .row h.1.1.1 (zjV h2.1 (by decide)) (by omega) (by omega)
 ·obtain ⟨l1,l2,l3,l4⟩:=zb7 hV.lay;obtain ⟨hk,s1,s2⟩:=zm6 hV h;have hL:=hV.lay;simp only [zbv,yd] at hL;simp only [acyP,zhN,yd,uD,beq_iff_eq] at h;obtain ⟨-,-,t,ht,hg⟩:=h;simp only [ziI,yd,beq_iff_eq] at hg;obtain ⟨⟨g1,g2⟩,⟨g3,g4⟩,g5⟩:=hg;have hfit:=zpf l3 hL.2 (Int.le_refl _) (by omega) t ht (by simp [zb9,g1]);have hcols:=(l4 t ht).2.2.2.1;obtain ⟨⟨x,hx⟩,⟨y,hy⟩,-⟩:=zhq hcols g2;obtain ⟨p,q,hpq⟩:∃ p q,t.ztK=[p,q]:=by
   match hcs:t.ztK with
   | []=>rw [hcs] at g2;simp at g2
   | [_]=>rw [hcs] at g2;simp at g2
   | [p,q]=>exact ⟨p,q,rfl⟩
   | _::_::_::_=>rw [hcs] at g2;simp at g2;omega
  have hp0:idx t.ztK 0=some p:=by rw [hpq];rfl
  have hq0:idx t.ztK 1=some q:=by rw [hpq];rfl
  rw [hp0,hq0] at g3;rw [hp0] at g5;simp only [yi] at g3 g5;subst g3;have hcp:=yq.1 hcols p (by rw [hpq];simp);rw [zf6 hcp] at g5;simp only [yi] at g5;have hw:zar m.ztR t.ztK 1=c.size*c.size:=by
   rw [hpq];simp only [zar,g5];have:c.size*c.size≤6*6:=Int.mul_le_mul s2 s2 (by omega) (by omega);have h0:0≤c.size*c.size:=Int.mul_nonneg (by omega) (by omega);unfold ztZ;rw [Int.one_mul,zaK (x:=c.size) (by omega) (by omega),zaK (by omega) (by omega)]
  rw [hw] at hfit;have hsz:c.size=((c.size.toNat:Nat):Int):=by omega
  refine .graph c.size.toNat hk hsz (by omega) (by omega) (by omega) ?_;have e:((c.size.toNat*c.size.toNat:Nat):Int)=c.size*c.size:=by rw [uv,← hsz]
  rw [e];unfold boxM;omega
def zun (s:List Int) (d:List Change):List Int:=(List.range s.length).map λi=>s.getD i 0+zB d (i:Int)
theorem zkZ (s d):(zun s d).length=s.length:=by simp [zun]
theorem zhu {s d c} (h0:0≤c) (h1:c<(s.length:Int)):(zun s d).getD c.toNat 0=s.getD c.toNat 0+zB d c:=by
 obtain ⟨k,rfl⟩:=yW h0;have hk:k<s.length:=by omega
 simp [zun,List.getD,hk]
def zfT (d:List Change):Prop:=∀ x∈d,-1000000000≤x.add∧x.add≤1000000000
theorem zcK {d} (h:zfT d) (c) : -1000000000≤zB d c∧zB d c≤1000000000:=by
 induction d with
 | nil=>simp [zB]
 | cons x l ih=>
  simp only [zB];split
  ·exact h x (by simp)
  ·exact ih λy hy=>h y (by simp [hy])
def chgP (d:List Change):List Term→Int
 | []=>0
 | t::l=>t.ztV*zB d t.cell+chgP d l
theorem zgi {s d}:∀ {l:List Term},(∀ t∈l,zhi s.length t)→sumP (zun s d) l=sumP s l+chgP d l
 | [],_=>rfl
 | t::l,h=>by
  obtain ⟨t1,t2,-⟩:=h t (by simp);have ih:=zgi (s:=s) (d:=d) (l:=l) λx hx=>h x (by simp [hx])
  simp only [sumP,chgP,zhu t1 t2,ih,Int.mul_add];omega
set_option maxRecDepth 20000 in
theorem zkg {d} (hd:zfT d):∀ {l:List Term} {s:Int},(∀ t∈l,-1000≤t.ztV∧t.ztV≤1000)→(l.length:Int)≤1000→-(1000000000000*(1000 - (l.length:Int)))≤s∧s≤1000000000000*(1000 - (l.length:Int))→zcq (zB d) l s=s+chgP d l
 | [],s,_,_,_=>by simp [zcq,chgP]
 | t::l,s,ht,hl,hs=>by
  have hf:=ht t (by simp);have ha:=zcK hd t.cell;have hm:=zmL hf.1 hf.2 ha.1 ha.2;simp only [yR] at hl hs;have hc:((l.length+1:Nat):Int)=(l.length:Int)+1:=by omega
  rw [hc] at hl hs;have e1:ztZ t.ztV (zB d t.cell)=t.ztV*zB d t.cell:=by unfold ztZ;exact zaK (by omega) (by omega)
  have e2:ztJ s (t.ztV*zB d t.cell)=s+t.ztV*zB d t.cell:=by unfold ztJ;exact zaK (by omega) (by omega)
  rw [zcq,e1,e2,zkg hd (λx hx=>ht x (by simp [hx])) (by omega) (by omega),chgP];omega
theorem zld {d} (hd:zfT d) {l} (ht:∀ t∈l,-1000≤t.ztV∧t.ztV≤1000) (hl:l.length≤1000):zcq (zB d) l 0=chgP d l:=by
 rw [zkg hd ht (by omega) (by omega)];omega
theorem zmr {n m t} (hc:t.ztK.all (zuK m.ztR)=true) (hl:t.ztK.length≤1000) (hn:1000000≤n):zcX n m t=some (zar m.ztR t.ztK 1):=by
 have:=zM (body:=zcX.l1 n m t) (len:=t.ztK.length) (st:=λi=>(zar m.ztR (t.ztK.take i) 1,(i:Int))) (g:=λ_=>some (zar m.ztR t.ztK 1)) (λrec i hi hr=>?_) (λrec=>?_) n 0 (yp _) (by omega)
 ·simpa [zcX,zar] using this
 ·rw [yA hi,zdO] at hr;simp only [zar] at hr;simp only [zcX.l1,zw hi,if_true,zb hi,ya,zf6 (yq.1 hc _ (ym hi)),zd (i:=i) (by omega),hr]
 ·simp [zcX.l1]
theorem zox {n m} (hS:zuz m) (hL:zbv m.ztR m.tables=true) (hn:1000000≤n):zcj n m=some (boxM m):=by
 obtain ⟨l1,l2,l3,l4⟩:=zb7 hL;unfold zcj;have:=zM (body:=zcj.l1 n m) (len:=m.tables.length) (st:=λi=>(zW m.ztR true (m.tables.take i),(i:Int))) (g:=λ_=>some (boxM m)) (λrec i hi hr=>?_) (λrec=>?_) n 0 (yp _) (by omega)
 ·simpa [zW] using this
 ·obtain ⟨-,-,c1,c2,c3,c4⟩:=l4 _ (ym hi);have hlen:=zd0 (sizes:=m.ztR) (s:=true) (l:=m.tables.take i) λx hx=>(l4 x (List.mem_of_mem_take hx)).2.2.2.2
  simp only [ub] at hlen;rw [zg5 hi] at hr;obtain ⟨W,hW⟩:=yW (show 0≤zar m.ztR m.tables[i].ztK 1 by omega);have hcell:=zmr (n:=n) (m:=m) (t:=m.tables[i]) c2 (by omega) hn;rw [hW] at hcell hr;simp only [zcj.l1,jn,zw hi,if_true,zb hi,ya,zkr,zd (i:=i) (by omega)];by_cases hst:(m.tables[i].kind==0||m.tables[i].kind==1)=true
  ·have hst':(zb9 m.tables[i].kind==true)=true:=by simpa [zb9] using hst
   rw [if_pos hst'] at hr;rw [if_pos hst];have inner:=zM (body:=zcj.l2 n m (i:Int) (λv=>rec (v,((i+1:Nat):Int)))) (len:=W) (st:=λk=>(zW m.ztR true (m.tables.take i)++List.replicate k m.tables[i].range,(k:Int))) (g:=λ_=>some (boxM m)) (λrec' k hk hr'=>?_) (λrec'=>?_) n 0 (yp _) (by omega)
   ·simpa using inner
   ·simp only [zcj.l2,zb hi,ya,hcell,zlB hk,if_true,zd (i:=k) (by omega)];rw [zp (by simp only [yQ,uz,uA];omega),ya,yM,← List.replicate_succ',hr']
   ·simp only [zcj.l2,zb hi,ya,hcell,zhL (yk W),ye,if_false];simpa using hr
  ·have hst':¬ (zb9 m.tables[i].kind==true)=true:=by simpa [zb9] using hst
   rw [if_neg hst'] at hr;rw [if_neg hst];exact hr
 ·simp [zcj.l1,boxM]
def zxS (m:Model) (e:zur) (s:List Int):Bool:=m.constraints.all (λc=>zav c s&&zav c (zun s e.delta))&&e.hold.all λr=>zav ⟨0,0,r,0,0⟩ s
structure zxX (m:Model) (s:List Int):Prop where
 len:s.length=(boxM m).length
 small:∀ x∈s,-9999≤x∧x≤9999
theorem zsi {m} (hL:zbv m.ztR m.tables=true) {s} (h:zwn (boxM m) s=true):zxX m s:=by
 have hlen:=zlr h;refine ⟨hlen,λx hx=>?_⟩;obtain ⟨i,hi,rfl⟩:=List.mem_iff_getElem.1 hx;have hb:i<(boxM m).length:=by omega
 have h1:=zlq h i hb hi;have h2:=yq.1 (zix hL) _ (ym hb);simp only [yd,yg] at h2;omega
theorem znZ {m} (hV:zvt m) {a} (ha:a∈m.ztL):zfT a.effect.delta∧∀ r∈a.effect.hold,zuI (boxM m).length r=true:=by
 have h:=(zoT hV ha).1;simp only [effP,yd,yq] at h;obtain ⟨p1,-⟩:=zh9 _ _ h.1;exact ⟨λx hx=>by have:=p1 x hx;omega,h.2.2.2⟩
theorem zpd {c s d size} (hk:c.kind=1) (hG:GraphIn c s size) (hch:∀ k:Nat,k<size*size→zB d (c.first+(k:Int))≤0) (h:zav c s=true):zav c (zun s d)=true:=by
 unfold zav at h ⊢;rw [if_pos hk] at h ⊢;have hsz:c.size.toNat=size:=by have:=hG.sz;omega
 rw [hsz] at h ⊢;refine zjq (λa b ha hb he=>?_) h;have hm:a*size+b<size*size:=by
  have:=yS size (show a+1≤size by omega);rw [uo] at this;omega
 have hf:=hG.fits;have h0:=hG.first
 have hc:(a:Int)*c.size=((a*size:Nat):Int):=by rw [hG.sz,uv]
 unfold zwg at he ⊢;rw [hc] at he ⊢;rw [zhu (by omega) (by omega)] at he;have:=hch (a*size+b) hm;have e:c.first+((a*size+b:Nat):Int)=c.first+((a*size:Nat):Int)+(b:Int):=by omega
 rw [e] at this;simp only [yg] at he ⊢;omega
theorem zmR {p}:∀ {k i:Nat},¬ 0<(zbW p i k).length→∀ j,i≤j→j<i+k→p (j:Int)=false
 | 0,i,_,j,h1,h2=>by omega
 | k+1,i,h,j,h1,h2=>by
  rw [zbW] at h;by_cases hp:p (i:Int)=true
  ·rw [if_pos hp] at h;simp at h
  ·rw [if_neg hp] at h;by_cases e:j=i
   ·subst e;simpa using hp
   ·exact zmR h j (by omega) (by omega)

theorem zcQ {γ S R:Type} {body} {k n} {st:List γ→Nat→S} (g) (fin:List γ→Option R) (B) (b0) (hB:∀ i,i<k→(g i).length≤B)
  (step:∀ rec (b) i,i<k→b.length≤b0.length+i*B→body rec (st b i)=rec (st (b++g i) (i+1))) (done:∀ rec (b),b.length≤b0.length+k*B→body rec (st b k)=fin b) (hn:k<n) :
  ztO body n (st b0 0)=fin (b0++(List.range k).flatMap g):=by
 have:=zbn (σ:=List γ) (body:=body) (len:=k) (st:=st) (g:=λi b=>fin (b++(List.range' i (k - i)).flatMap g)) (λi b=>b.length≤b0.length+i*B) (λrec i b d a c=>?_) (λrec b a=>?_) n 0 b0 (yp _) (by omega) (by simp)
 ·grind [List.range_eq_range']
 ·have:List.range' i (k - i)=i::List.range' (i+1) (k - (i+1)):=by rw [show k - i=(k - (i+1))+1 by omega,List.range'_succ]
  grind
 grind
theorem zeh {α γ S R:Type} {body} {l:List α} {n} {st:List γ→Nat→S} (h) (fin:List γ→Option R) (b0)
  (step:∀ rec (b) i (hi),b.length=b0.length+i→body rec (st b i)=rec (st (b++[h l[i]]) (i+1))) (done:∀ rec (b),b.length=b0.length+l.length→body rec (st b l.length)=fin b) (hn:l.length<n) :
  ztO body n (st b0 0)=fin (b0++l.map h):=by
 have:=zM (body:=body) (len:=l.length) (st:=λi=>st (b0++(l.take i).map h) i) (g:=λ_=>fin (b0++l.map h)) (λrec i hi a=>?_) (λrec=>?_) n 0 (yp _) (by omega)
 ·grind
 ·grind [List.take_succ_eq_append_getElem]
 grind
theorem zeT {σ S R:Type} {body} {k n} {st:σ→Nat→S} (I:Nat→σ→Prop) (Q:R→Prop) (hb:∀ rec i s,i<k→I i s→(∀ s',I (i+1) s'→∃ r,rec (st s' (i+1))=some r∧Q r)→∃ r,body rec (st s i)=some r∧Q r)
  (he:∀ rec s,I k s→∃ r,body rec (st s k)=some r∧Q r) (hn:k<n) (s0) (h0:I 0 s0):∃ r,ztO body n (st s0 0)=some r∧Q r:=by
 have b:∀ m i s,i≤k→k - i<m→I i s→∃ r,ztO body m (st s i)=some r∧Q r:=by
  intro m
  induction m with
  | zero=>grind
  | succ m ih=>
   intro i s d f c;simp only [ztO];by_cases e:i=k
   ·simp_all
   ·exact hb _ i s (by omega) c λs' a=>ih (i+1) s' (by omega) (by omega) a
 simp_all
theorem zm4 {n l x} (hl:l.length<1000000) (hn:1000000≤n):∃ k,zas n l x=some k∧(decide (0≤k)=decide (x∈l)):=by
 have:=zM (body:=zas.l1 n l x) (len:=l.length) (st:=λi=>i) (g:=λi=>some (ixP (λy=>decide (x=y)) (l.drop i) i)) (λa i b c=>?_) (λa=>?_) n 0 (yp _) (by omega)
 ·refine ⟨_,this,?_⟩;rw [List.drop_zero,zgO]
  grind
 ·simp only [zas.l1,zb b]
  grind [zd,zo,ixP]
 ·simp only [zas.l1];simp [ixP]
theorem zep {n l x} (hl:l.length<1000000) (hn:1000000≤n):zaE n l x=some (decide (x∈l)):=by
 obtain ⟨k,b,a⟩:=zm4 (x:=x) hl hn
 grind [zaE]
structure zvb (g:zuQ) (K:Nat):Prop where
 size:g.size=(K:Int)
 le:K≤6
 len:g.zt9.length=K*K
def hasP (g:zuQ) (a b:Nat):Bool:=g.zt9.getD (a*g.size.toNat+b) false
theorem zjR {K a b:Nat} (ha:a<K) (hb:b<K):a*K+b<K*K:=by
 have:(a+1)*K≤K*K:=yS _ ha
 grind
theorem zmH {n} {g} {K a b} (hg:zvb g K) (ha:a<K) (hb:b<K):zaO n g (a:Int) (b:Int)=some (hasP g a b):=by
 have d:=zjR ha hb;have f :=uf hg.le hg.le;have e:ztJ (ztZ a g.size) b=((a*K+b:Nat)):=by
  rw [hg.size];have c:ztZ a K=((a*K:Nat)):=by
   grind [ztZ,zaK]
  rw [c,zea (by omega)]
 unfold zaO;rw [e,zb (by rw [hg.len];exact d),ya];simp only [hasP,hg.size]
 grind
def zvZ (K:Nat) (l:List Int):Prop:=1≤l.length∧l.length≤K∧∀ x∈l,0≤x∧x<(K:Int)
theorem zvZ.get {K l} (h:zvZ K l) {i} (hi:i<l.length):∃ a:Nat,l[i]=(a:Int)∧a<K:=by
 obtain ⟨c,b⟩:=h.2.2 _ (ym hi);exact ⟨l[i].toNat,by omega,by omega⟩
theorem zkY:∀ {K:Nat} {l:List Int},l.Nodup→(∀ x∈l,0≤x∧x<(K:Int))→l.length≤K
 | 0,l,_,h=>by
  cases l with
  | nil=>simp
  | cons x l=>have:=h x (by simp);omega
 | K+1,l,a,h=>by
  by_cases c:(K:Int)∈l
  ·have d:=zkY (K:=K) (a.erase (K:Int)) λx b=>by
    grind
   grind
  ·have:=zkY (K:=K) a λx b=>by
    grind
   omega
theorem zrU {n} {g} {K} (hg:zvb g K) (hn:1000000≤n):∀ (d k) (l) (out),l.Nodup→zvZ K l→K - l.length=d→d<k→out.length≤1000000 - 7 ^ (d+1)→d≤5→(∀ c∈out,zvZ K c) →
  ∃ r,zD n g k l out=some r∧r.length≤out.length+7 ^ (d+1)∧∀ c∈r,zvZ K c:=by
 intro d
 induction d using Nat.strongRecOn with
 | ind d ih=>
  intro k l out hnd hv hd hk ho hd5 hc;obtain ⟨k,rfl⟩:∃ k',k=k'+1:=⟨k - 1,by omega⟩
  have hK:=hg.le;have hl1:=hv.1;have hl2:=hv.2.1;have hp:7≤7 ^ (d+1):=by grind
  have hp2:7 ^ (d+1)≤117649:=by
   have:7 ^ (d+1)≤7 ^ 6:=ux (by omega) (by omega)
   grind
  obtain ⟨last,hlast,hlK⟩:=hv.get (i:=l.length - 1) (by omega);obtain ⟨first,hfirst,hfK⟩:=hv.get (i:=0) (by omega);have e1:idx l (zt2 (l.length:Int) 1)=some (last:Int):=by
   rw [zgh (by omega) (by omega),zb (by omega),hlast]
  have e2:idx l 0=some (first:Int):=by
   have:=zb (l:=l) (i:=0) (by omega)
   grind
  simp only [zD,e1,e2,ya,zmH hg hlK hfK];have loop:∀ out1:List (List Int),out1.length≤out.length+1→(∀ c∈out1,zvZ K c)→∃ r,ztO (zD.l1 n g (zD n g k) l (last:Int)) n (ztJ (first:Int) 1,out1)=some r∧r.length≤out.length+7 ^ (d+1)∧∀ c∈r,zvZ K c:=by
   intro out1 ho1 hc1;rw [zd (by omega)];have:=zeT (body:=zD.l1 n g (zD n g k) l (last:Int)) (k:=K - (first+1)) (n:=n) (st:=λ(o:List (List Int)) i=>(((first+1+i:Nat):Int),o)) (λi o=>o.length≤out.length+1+i*7 ^ d∧∀ c∈o,zvZ K c) (λr=>r.length≤out.length+7 ^ (d+1)∧∀ c∈r,zvZ K c)
    (λrec i o hi hI hr=>?_) (λrec o hI=>?_) (by omega) out1 ⟨by simpa using ho1,hc1⟩
   ·simpa using this
   ·have hb:first+1+i<K:=by omega
    have hlt:decide (((first+1+i:Nat):Int)<g.size)=true:=by rw [hg.size];simp;omega
    have hnx:ztJ ((first+1+i:Nat):Int) 1=((first+1+(i+1):Nat):Int):=by rw [zd (by omega)];rfl
    simp only [zD.l1,hlt,if_true,zmH hg hlK hb,ya,hnx];have keep:∃ r,rec (((first+1+(i+1):Nat):Int),o)=some r∧r.length≤out.length+7 ^ (d+1)∧∀ c∈r,zvZ K c:=hr o ⟨by have:=hI.1;rw [uo];omega,hI.2⟩;by_cases hh:hasP g last (first+1+i)=true
    ·rw [if_pos hh,zep (by omega) hn,ya];by_cases hm:((first+1+i:Nat):Int)∈l
     ·rw [if_pos (by simpa using hm)];exact keep
     ·rw [if_neg (by simpa using hm),zp (by simp;omega),ya,yU,zp (by simp;omega),ya];have hnd2:(l++[((first+1+i:Nat):Int)]).Nodup:=by
       rw [uV];exact ⟨hnd,by simp,λa ha b hb e=>by simp at hb;subst hb;subst e;exact hm ha⟩
      have hall:∀ x∈l++[((first+1+i:Nat):Int)],0≤x∧x<(K:Int):=λx hx=>by
       rcases yr.1 hx with hx | hx
       ·exact hv.2.2 x hx
       ·simp at hx;subst hx;omega
      have hlen:=zkY hnd2 hall;simp only [yQ,yR,un] at hlen;have hd1:1≤d:=by omega
      have hpow:7 ^ d≤7 ^ (d+1):=ux (by omega) (by omega);have h6:i*7 ^ d≤5*7 ^ d:=yS _ (by omega);have h7:7 ^ (d+1)=7*7 ^ d:=by rw [Nat.pow_succ];omega
      have hone:1≤7 ^ d:=Nat.one_le_pow _ _ (by omega);obtain ⟨r,hr1,hr2,hr3⟩:=ih (d - 1) (by omega) k (l++[((first+1+i:Nat):Int)]) o hnd2 ⟨by simp,by simpa using hlen,hall⟩ (by simp;omega) (by omega) (by rw [show d - 1+1=d by omega];have:=hI.1;omega) (by omega) hI.2;rw [show d - 1+1=d by omega] at hr2;rw [hr1,ya];exact hr r ⟨by have:=hI.1;rw [uo];omega,hr3⟩
    ·rw [if_neg hh];exact keep
   ·have hge:decide (((first+1+(K - (first+1)):Nat):Int)<g.size)=false:=by rw [hg.size];simp;omega
    simp only [zD.l1,hge,ye,if_false];have hone:1≤7 ^ d:=Nat.one_le_pow _ _ (by omega);have h7:7 ^ (d+1)=7*7 ^ d:=by rw [Nat.pow_succ];omega
    have h5:(K - (first+1))*7 ^ d≤5*7 ^ d:=yS _ (by omega);exact ⟨o,rfl,by have:=hI.1;omega,hI.2⟩
  by_cases hh:hasP g last first=true
  ·rw [if_pos hh,zp (by simp;omega),ya,yU,zp (by simp;omega),ya];exact loop _ (by simp) λc hc'=>by
    rcases yr.1 hc' with h | h
    ·exact hc c h
    ·simp at h;subst h;exact hv
  grind
theorem zqq {n} {g} {K} (hg:zvb g K) (hn:1000000≤n):∃ r,ztO (zuk.l1 n g) n (0,[])=some r∧r.length≤900000∧∀ c∈r,zvZ K c:=by
 have p:=hg.le;have:=zeT (body:=zuk.l1 n g) (k:=K) (n:=n) (st:=λo i=>(i,o)) (λi o=>o.length≤i*117649∧∀ c∈o,zvZ K c) (λr=>r.length≤900000∧∀ c∈r,zvZ K c)
  (λa i o l b m=>?_) (λa o b=>?_) (by omega) [] ⟨by simp,by simp⟩
 ·grind
 ·have f:decide (i<g.size)=true:=by rw [hg.size];grind
  have q:7 ^ (K - 1+1)≤117649:=by
   have:7 ^ (K - 1+1)≤7 ^ 6:=ux (by omega) (by omega)
   grind
  obtain ⟨r,h,e,j⟩:=zrU hg hn (K - 1) n [i] o (by simp) ⟨by simp,by grind,by grind⟩ (by simp) (by omega) (by grind) (by omega) b.2;simp only [zuk.l1];rw [zd (by omega)]
  grind
 ·have d:decide (K<g.size)=false:=by rw [hg.size];simp
  simp only [zuk.l1]
  grind
def lexP:List Int→List Int→Int
 | [],[]=>0
 | [],_::_=>-1
 | _::_,[]=>1
 | a::l,b::m=>if a<b then -1 else if b<a then 1 else lexP l m
theorem zrn:∀ (a b:List Int),lexP b a = -lexP a b
 | [],[]=>rfl
 | [],_::_=>rfl
 | _::_,[]=>rfl
 | a::l,b::m=>by
  have:=zrn l m;simp only [lexP];split <;> split <;> omega
theorem zpV:∀ {a b:List Int},lexP a b=0→a=b
 | [],[],_=>rfl
 | [],_::_,h=>by simp [lexP] at h
 | _::_,[],h=>by simp [lexP] at h
 | a::l,b::m,h=>by
  simp only [lexP] at h;split at h
  ·omega
  ·split at h
   ·omega
   ·rw [zpV h,show a=b by omega]
theorem zoi:∀ {a b c:List Int},lexP a b<0→lexP b c<0→lexP a c<0
 | [],[],c,h,_=>by simp [lexP] at h
 | [],_::_,[],_,h=>by simp [lexP] at h
 | [],_::_,_::_,_,_=>by simp [lexP]
 | _::_,[],_,h,_=>by simp [lexP] at h
 | _::_,_::_,[],_,h=>by simp [lexP] at h
 | a::l,b::m,c::k,h1,h2=>by
  simp only [lexP] at *;have ih:=@zoi l m k;by_cases e1:a<b
  ·by_cases e2:b<c
   ·rw [if_pos (by omega)];omega
   ·by_cases e3:c<b
    ·rw [if_neg e2,if_pos e3] at h2;omega
    ·rw [if_pos (by omega)];omega
  ·by_cases e1':b<a
   ·rw [if_neg e1,if_pos e1'] at h1;omega
   ·rw [if_neg e1,if_neg e1'] at h1;by_cases e2:b<c
    ·rw [if_pos (by omega)];omega
    ·by_cases e3:c<b
     ·rw [if_neg e2,if_pos e3] at h2;omega
     ·rw [if_neg e2,if_neg e3] at h2;rw [if_neg (by omega),if_neg (by omega)];exact ih h1 h2
def cmpI (a b:Int):Int:=if a<b then -1 else if b<a then 1 else 0
def cmpC (a b:List Int):Int:=if cmpI a.length b.length≠0 then cmpI a.length b.length else lexP a b
theorem zf3 (a b):cmpC b a = -cmpC a b:=by
 have:=zrn a b;unfold cmpC cmpI;split <;> split <;> (try split) <;> (try split) <;> simp_all <;> omega
theorem zlf {a b} (h:cmpC a b=0):a=b:=by
 unfold cmpC at h;split at h
 ·rename_i hne;exact absurd h hne
 ·exact zpV h
theorem zjv {a b c} (h1:cmpC a b<0) (h2:cmpC b c<0):cmpC a c<0:=by
 have k:∀ (x y:List Int),cmpC x y<0↔(x.length<y.length∨(x.length=y.length∧lexP x y<0)):=by
  intro x y;unfold cmpC cmpI;by_cases e:(x.length:Int)<y.length
  ·simp [e];omega
  ·by_cases e2:(y.length:Int)<x.length
   ·simp [e,e2];omega
   ·simp [e,e2];omega
 rw [k] at *;rcases h1 with h1 | ⟨h1,h1'⟩ <;> rcases h2 with h2 | ⟨h2,h2'⟩
 ·left;omega
 ·left;omega
 ·left;omega
 ·exact .inr ⟨by omega,zoi h1' h2'⟩
theorem zle {a b c} (h1:¬ cmpC a b<0) (h2:¬ cmpC b c<0):¬ cmpC a c<0:=by
 intro h;have n1:=zf3 a b;have n2:=zf3 b c;by_cases e1:cmpC a b=0
 ·rw [zlf e1] at h;exact h2 h
 ·by_cases e2:cmpC b c=0
  ·rw [← zlf e2] at h;exact h1 h
  ·have:=zjv (a:=c) (b:=b) (c:=a) (by omega) (by omega);have n3:=zf3 a c;omega
theorem zhH {n} (a b):zcf n a b=some (cmpI a b):=by
 unfold zcf zdz cmpI;simp;split <;> (try split) <;> rfl
theorem znS {n a b} (ha:a.length<1000000) (hn:1000000≤n):zn n a b=some (lexP a b):=by
 unfold zn;have:=zbn (σ:=Unit) (body:=zn.l1 n a b) (len:=a.length) (st:=λ_ i=>(i:Int)) (g:=λi _=>some (lexP (a.drop i) (b.drop i))) (λi _=>i≤b.length) (λrec i s hi hI hr=>?_) (λrec s hI=>?_) n 0 () (yp _) (by omega) (yp _)
 ·simpa using this
 ·simp only [zn.l1,zw hi,if_true,zb hi,ya];by_cases hb:b.length≤i
  ·have e:b.drop i=[]:=List.drop_eq_nil_of_le hb;rw [if_pos (by simp;omega),e,zo hi];rfl
  ·rw [if_neg (by simp;omega),zb (show i<b.length by omega),ya,zhH,ya,zd (by omega),hr () (by omega),zo hi,zo (show i<b.length by omega)];simp only [lexP,cmpI];split
   ·simp
   ·split
    ·simp
    ·simp
 ·simp only [zn.l1,zaw,ye,if_false];rw [List.drop_length];by_cases hb:a.length<b.length
  ·rw [if_pos (by simp;omega),zo hb];rfl
  ·rw [if_neg (by simp;omega),List.drop_eq_nil_of_le (by omega)];rfl
theorem Or_eq {n} (x y) (hn:1000000≤n):zc2 n [x,y]=some (if x≠0 then x else y):=by
 unfold zc2;rw [zgU (by omega)];have e0:idx [x,y] 0=some x:=rfl;have e1:idx [x,y] 1=some y:=rfl;simp only [zc2.l1,e0,ya,yR,un];rw [if_pos (by simp)];by_cases hx:x=0
 ·rw [if_neg (by simp [hx]),show ztJ 0 1=1 from rfl,zgU (by omega)];simp only [zc2.l1,e1,ya,yR,un];rw [if_pos (by simp)];by_cases hy:y=0
  ·rw [if_neg (by simp [hy]),show ztJ 1 1=2 from rfl,zgU (by omega)];simp [zc2.l1,hx,hy]
  ·rw [if_pos (by simp [hy])];simp [hx]
 ·rw [if_pos (by simp [hx])];simp [hx]
theorem zjw {n a b} (ha:a.length<1000000) (hn:1000000≤n):zcg n a b=some (cmpC a b):=by
 unfold zcg;rw [zhH,ya,znS ha hn,ya,Or_eq _ _ hn];rfl
theorem zqb {α:Type} {f:α→α→Option Int} {c:α→α→Int} {l:List α} (h1:∀ x∈l,∀ y∈l,f x y=some (c x y)) (irr:∀ x,¬ c x x<0) (tr:∀ x y z,c x y<0→c y z<0→c x z<0) (nt:∀ x y z,¬ c x y<0→¬ c y z<0→¬ c x z<0) (hl:l.length<4611686018427387904) :
  zxA f l=some (zwD (λx y=>(f x y).getD 0) l)∧swoB (λx y=>(f x y).getD 0) l=true:=by
 have hs:swoB (λx y=>(f x y).getD 0) l=true:=by
  unfold swoB;rw [yq];intro x hx;rw [yd,yq];refine ⟨by simpa [h1 x hx x hx] using irr x,λy hy=>?_⟩;rw [yq];intro z hz;simp only [h1 x hx y hy,h1 y hy z hz,h1 x hx z hz,yi,yd,yK,yB,uy,yg,yH];have a1:=tr x y z;have a2:=nt x y z;constructor
  ·by_cases p:c x y<0
   ·by_cases q:c y z<0
    ·exact .inr (a1 p q)
    ·exact .inl (.inr q)
   ·exact .inl (.inl p)
  ·by_cases p:c x y<0
   ·exact .inl (.inl p)
   ·by_cases q:c y z<0
    ·exact .inl (.inr q)
    ·exact .inr (a2 p q)
 refine ⟨?_,hs⟩;unfold zxA;rw [if_pos];simp only [yd,yq,yg];exact ⟨⟨λx hx y hy=>by rw [h1 x hx y hy];rfl,hs⟩,hl⟩
theorem zmx {n:Nat} {size:Int} {zt9:List Bool} {K:Nat} (hs:size=(K:Int)) (h1:1≤K) (h6:K≤6) (hl:zt9.length=K*K) (hn:1000000≤n):∃ r,zbF n size zt9=some r∧r.length≤900000∧∀ c∈r,zvZ K c:=by
 have hg:zvb ⟨size,zt9⟩ K:=⟨hs,h6,hl⟩
 obtain ⟨out,ho,hol,hov⟩:=zqq hg hn;have h4:K*K≤36:=uf h6 h6;have e:ztZ size size=((K*K:Nat):Int):=by
  rw [hs];unfold ztZ;rw [zaK (by rw [← uv];omega) (by rw [← uv];omega)];simp
 have hopen:zb2 n size zt9=some (⟨size,zt9⟩,true):=by
  unfold zb2;rw [e,hl];simp [hs];omega
 unfold zbF;rw [hopen,ya,if_neg (by simp),ho,ya];obtain ⟨s1,s2⟩:=zqb (f:=zcg n) (c:=cmpC) (l:=out) (λx hx y _=>zjw (by have:=(hov x hx).2.1;omega) hn) (λx=>by have:=zf3 x x;omega) (λ_ _ _=>zjv) (λ_ _ _=>zle) (by omega);have hp:=zjY s2;exact ⟨_,s1,by rw [hp.length_eq];exact hol,λc hc=>hov c (hp.mem_iff.1 hc)⟩
theorem zcp {x y} (h1 : -9223372036854775808≤x+y) (h2:x+y≤9223372036854775807):ztJ x y=x+y:=zaK h1 h2
theorem zht {x y} (h1 : -9223372036854775808≤x*y) (h2:x*y≤9223372036854775807):ztZ x y=x*y:=zaK h1 h2
theorem zk2 {x y} (h1 : -9223372036854775808≤x - y) (h2:x - y≤9223372036854775807):zt2 x y=x - y:=zaK h1 h2
def zgw (r:List (List Row)):Prop:=r.length≤900000∧∀ rows∈r,rows.length≤6∧∀ row∈rows,row.ztP.length≤1
theorem zla {n c e f} (k) (he:e.effect.delta.length≤20) (hf:f.effect.delta.length≤20) (hn:1000000≤n):∃ r,zaM n k e c f=some r:=by
 unfold zaM;rw [zah _ (by omega) (by omega),ya,zah _ (by omega) (by omega),ya];exact ⟨_,rfl⟩
theorem zqn {n c e f K cyc b1 k} {Q:List (List Row)→Prop} (hv:zvZ K cyc) (h6:K≤6) (he:e.effect.delta.length≤20) (hf:f.effect.delta.length≤20) (hn:1000000≤n) (hb:b1.length≤900000)
  (hk:∀ b:List (List Row),b.length≤b1.length+1→(∀ rows∈b,rows∈b1∨(rows.length≤6∧∀ row∈rows,row.ztP.length≤1))→∃ r,k b=some r∧Q r):∃ r,ztO (zl.l3 n c e f b1 k cyc) n (([]:List Row),false,false,0)=some r∧Q r:=by
 have hl:=hv.2.1;have hl1:=hv.1;have:=zeT (body:=zl.l3 n c e f b1 k cyc) (k:=cyc.length) (n:=n) (st:=λ(s:List Row×Bool×Bool) i=>(s.1,s.2.1,s.2.2,(i:Int))) (λi s=>s.1.length≤i∧∀ row∈s.1,row.ztP.length≤1) Q
  (λrec i s hi hI hr=>?_) (λrec s hI=>?_) (by omega) ([],false,false) ⟨by simp,by simp⟩
 ·simpa using this
 ·obtain ⟨b2,x,y⟩:=s;simp only at hI;have hmod:∃ r:Nat,zvg (ztJ (i:Int) 1) (cyc.length:Int)=some (r:Int)∧r<cyc.length:=by
   rw [zd (by omega)];refine ⟨(i+1) % cyc.length,?_,Nat.mod_lt _ (by omega)⟩;unfold zvg;rw [if_neg (by omega)];congr 1
  obtain ⟨r,hr1,hr2⟩:=hmod;simp only [zl.l3,zw hi,if_true,zb hi,ya,hr1,zb hr2];rw [zah _ (by omega) (by omega),zah _ (by omega) (by omega)];simp only [yo,yy,grd,if_true];obtain ⟨z,hz⟩:=zla (n:=n) (c:=c) (e:=e) (f:=f) (ztJ (ztZ cyc[i] c.size) cyc[r]) he hf hn;rw [hz,ya,zp (by have:=hI.1;simp;omega),ya,zd (by omega)];exact hr (_,_,_) ⟨by have:=hI.1;simp;omega,λrow hrow=>by
   rcases yr.1 hrow with h | h
   ·exact hI.2 row h
   ·simp at h;subst h;simp⟩
 ·obtain ⟨b2,x,y⟩:=s;simp only at hI;simp only [zl.l3,zaw,ye,if_false];split
  ·rw [zp (by simp;omega),ya];exact hk _ (by simp) λrows hrows=>by
    rcases yr.1 hrows with h | h
    ·exact .inl h
    ·simp at h;subst h;exact .inr ⟨by have:=hI.1;omega,hI.2⟩
  ·exact hk _ (by omega) λrows h=>.inl h
theorem zs8 {α:Type} {l:List α} {i:Nat} {x:α} (h:i<l.length):∃ r,sto l (i:Int) x=some r∧r.length=l.length:=by
 unfold sto;simp [h]
theorem zn4 {n:Nat} {box:List Range} {c e f} {K:Nat} (hs:c.size=(K:Int)) (h1:1≤K) (h6:K≤6) (h0:0≤c.first) (hbx:c.first+((K*K:Nat):Int)≤(box.length:Int)) (hbl:box.length≤1000) (he:e.effect.delta.length≤20) (hf:f.effect.delta.length≤20) (hn:1000000≤n) :
  ∃ r,zl n box c e f=some r∧zgw r:=by
 have h4:K*K≤36:=uf h6 h6;have em:ztZ c.size c.size=((K*K:Nat):Int):=by
  rw [hs,zht (by rw [← uv];omega) (by rw [← uv];omega)];simp
 have hmk:mkl 1 (ztZ c.size c.size) false=some (List.replicate (K*K) false):=by
  rw [em];unfold mkl;rw [if_pos (by omega),yz]
 unfold zl;rw [hmk,ya];have:=zeT (body:=zl.l1 n box c e f (List.replicate (K*K) false)) (k:=K*K) (n:=n) (st:=λ(s:List Bool) i=>(s,(i:Int))) (λi s=>s.length=K*K) zgw
  (λrec i s hi hI hr=>?_) (λrec s hI=>?_) (by omega) (List.replicate (K*K) false) (by simp)
 ·simpa using this
 ·have hlt:decide ((i:Int)<((List.replicate (K*K) false).length:Int))=true:=by simp;omega
  obtain ⟨z,hz⟩:=zla (n:=n) (c:=c) (e:=e) (f:=f) (i:Int) he hf hn;obtain ⟨w,hw⟩:=za7 (l:=box) (i:=ztJ c.first (i:Int)) (by rw [zcp (by omega) (by omega)];omega) (by rw [zcp (by omega) (by omega)];omega);obtain ⟨s',hs1,hs2⟩:=zs8 (l:=s) (i:=i) (x:=decide (1≤ztJ w.hi z)) (by omega);simp only [zl.l1,hlt,if_true,hw,ya,hz,zb (show i<s.length by omega),hs1];rw [zd (by omega)];exact hr s' (by omega)
 ·have hge:decide (((K*K:Nat):Int)<((List.replicate (K*K) false).length:Int))=false:=by simp
  simp only [zl.l1,hge,ye,if_false];obtain ⟨cyc,hc1,hc2,hc3⟩:=zmx (n:=n) (size:=c.size) (zt9:=s) hs h1 h6 hI hn;rw [hc1,ya];have:=zeT (body:=zl.l2 n c e f cyc) (k:=cyc.length) (n:=n) (st:=λ(s:List (List Row)) i=>(s,(i:Int))) (λi s=>s.length≤i∧∀ rows∈s,rows.length≤6∧∀ row∈rows,row.ztP.length≤1) zgw
   (λrec i s hi hI hr=>?_) (λrec s hI=>?_) (by omega) [] ⟨by simp,by simp⟩
  ·simpa using this
  ·simp only [zl.l2,zw hi,if_true,jn,zb hi,ya];refine zqn (K:=K) (hc3 _ (ym hi)) h6 he hf hn (by have:=hI.1;omega) λb hb hbr=>?_
   rw [zd (by omega)];exact hr b ⟨by have:=hI.1;omega,λrows hrows=>(hbr rows hrows).elim (hI.2 rows) id⟩
  ·simp only [zl.l2,zaw,ye,if_false];exact ⟨s,rfl,by have:=hI.1;omega,hI.2⟩
theorem zq4 {n K:Nat} {r} (hl:r.ztP.length<1000000) (hn:1000000≤n):zaD n (K:Int) r=some (zuI K r):=by
 have:=zbn (body:=zaD.l1 n K r) (len:=r.ztP.length) (st:=λs i=>(s,i)) (g:=λi s=>some (rowP K s (r.ztP.drop i)&&zaQ r.bound 1000000000)) (λ_ _=>True) (λb i s a _ c=>?_) (λb s _=>?_) n 0 (-1) (yp _) (by omega) trivial
 ·grind [zaD,zuI]
 ·simp only [zaD.l1,zw a,if_true,zb a,ya,zd (i:=i) (by omega)];rw [zo a,rowP];by_cases h:(decide (s<r.ztP[i].cell)&&decide (r.ztP[i].cell<K)&&(r.ztP[i].ztV != 0)&&zaQ r.ztP[i].ztV 1000)=true
  ·rw [h,yE];simp only [zaQ] at h
   grind
  ·rw [if_pos (by
    simp only [zaQ] at h
    grind)]
   grind
 ·simp [zaD.l1,zaQ,rowP]
theorem zow {n K:Nat} {r} (hl:r.ztP.length<1000000) (hn:1000000≤n):zek n r (K:Int)=some (zuI K r):=by
 have:=zbn (body:=zek.l1 n r K) (len:=r.ztP.length) (st:=λs i=>(s,i)) (g:=λi s=>some (rowP K s (r.ztP.drop i)&&zaQ r.bound 1000000000)) (λ_ _=>True) (λb i s a _ c=>?_) (λb s _=>?_) n 0 (-1) (yp _) (by omega) trivial
 ·grind [zek,zuI]
 ·simp only [zek.l1,zw a,if_true,zb a,ya,zb5,yo,yy,grd,zd (i:=i) (by omega)];rw [zo a,rowP];by_cases h:(decide (s<r.ztP[i].cell)&&decide (r.ztP[i].cell<K)&&(r.ztP[i].ztV != 0)&&zaQ r.ztP[i].ztV 1000)=true
  ·rw [h,yE];simp only [zaQ] at h
   grind
  ·rw [if_pos (by
    simp only [zaQ] at h
    grind)]
   grind
 ·simp [zek.l1,zb5,zaQ,rowP]
def zoL (R:List Row):Prop:=R.length<1000000∧∀ r∈R,r.ztP.length<1000000
theorem zhX {n} {box} {R} (hg:zw1 box=true) (hl:box.length≤100) (hR:zoL R) (hn:1000000≤n):zaJ n box R=some (R.all (zuI box.length)):=by
 unfold zaJ;have:=zM (body:=zaJ.l1 n box R) (len:=box.length) (st:=λi=>i) (g:=λ_=>some (R.all (zuI box.length))) (λa i hi c=>?_) (λa=>?_) n 0 (yp _) (by omega)
 ·grind
 ·have:=yq.1 hg _ (ym hi);have d:(decide (-1000000≤box[i].lo)&&decide (box[i].lo≤1000000))=true:=by grind
  have e:(decide (-1000000≤box[i].hi)&&decide (box[i].hi≤1000000))=true:=by grind
  simp only [zaJ.l1,zw hi,if_true,zb hi,ya,zb5,d,e,yo,yy,grd,yi,ui,Bool.or_self,ye,if_false,zd (i:=i) (by omega),c]
 ·simp only [zaJ.l1];have b:=hR.1;have:=zat (body:=zaJ.l2 n box R) (l:=R) (n:=n) (st:=λi=>i) (zuI box.length) (some false) (some true) (λa i hi=>?_) (λa=>?_) (by omega)
  ·grind
  ·simp only [zaJ.l2,zb hi,ya,zow (hR.2 _ (ym hi)) hn,zd (i:=i) (by omega)]
   grind
  ·simp [zaJ.l2]
theorem zms {n box} (hg:zw1 box=true) (hl:box.length≤100) (hn:1000000≤n):zcu n box=some false:=by
 unfold zcu;have:=zM (body:=zcu.l1 n box) (len:=box.length) (st:=λi=>i) (g:=λ_=>some false) (λb i a c=>?_) (λb=>?_) n 0 (yp _) (by omega)
 ·grind
 ·have:=yq.1 hg _ (ym a);simp only [zcu.l1,zw a,if_true,zb a,ya];rw [if_neg (by grind),zd (by omega),c]
 ·simp [zcu.l1]
theorem zh2 {n l f p} (hf:∀ x∈l,f x=some (p x)) (hl:l.length<1000000) (hn:1000000≤n):zaq n l f=some (l.any p):=by
 unfold zaq zh;have:=zM (body:=zh.l1 n l f) (len:=l.length) (st:=λi=>i) (g:=λi=>some (ixP p (l.drop i) i)) (λa i b c=>?_) (λa=>?_) n 0 (yp _) (by omega)
 ·rw [show ((0))=0 from rfl] at this
  grind [zgO]
 ·simp only [zh.l1,if_true,zb b,zd (i:=i) (by omega)]
  grind [zo,ixP]
 ·simp [zh.l1,ixP]
theorem zgx {n l f p} (hf:∀ x∈l,f x=some (p x)) (hl:l.length<1000000) (hn:1000000≤n):zaX n l f=some (l.any p):=by
 unfold zaX zX;have:=zM (body:=zX.l1 n l f) (len:=l.length) (st:=λi=>i) (g:=λi=>some (ixP p (l.drop i) i)) (λa i b c=>?_) (λa=>?_) n 0 (yp _) (by omega)
 ·grind [zgO]
 ·simp only [zX.l1,zb b,zd (i:=i) (by omega)]
  grind [zo,ixP]
 ·simp [zX.l1,ixP]
theorem zfI {n box R} (hg:zw1 box=true) (hl:box.length≤100) (hR:zoL R) (hn:1000000≤n):zaZ n box R=some (R.all (zuI box.length)):=by
 have f:zaF n box=some true:=by
  unfold zaF;have:=zM (body:=zaF.l1 n box) (len:=box.length) (st:=λi=>i) (g:=λ_=>some true) (λb i a e=>?_) (λb=>?_) n 0 (yp _) (by omega)
  ·grind
  ·have:=yq.1 hg _ (ym a);simp only [zaF.l1,zw a,if_true,zb a,ya];rw [if_neg (by grind),zd (by omega),e]
  grind [zaF.l1]
 have h:zk n R (λd=>zbk n d box)=some (R.any λr=>!zuI box.length r):=zcG (λx c=>by
  unfold zbk;rw [zq4 (hR.2 x c) hn];rfl) hR.1 hn
 grind [zaZ,grd]
theorem zjG {n box} (hg:zw1 box=true) (hl:box.length≤100) (hn:1000000≤n):zbG n box=some false:=by
 unfold zbG;rw [zh2 (f:=λb=>zdd n b) (p:=λr=>decide (r.hi<r.lo)) (λx _=>rfl) (by omega) hn,ya];congr 1;rw [List.any_eq_false];intro r a;have:=yq.1 hg _ a
 grind
def zgP (x:Int):Bool:=decide (x < -4000000)||decide (4000000<x)
def zkj (K:Nat) (g:zuc):Bool:=(((decide (g.size<1)||decide (6<g.size))||decide (g.first<0))||decide (zt2 (K:Int) (ztZ g.size g.size)<g.first))||((g.least.length:Int) != ztZ g.size g.size)
def zez (K:Nat) (g:zuc):Bool:=!zkj K g&&!g.least.any zgP
def zwH (K:Nat) (rows:List Row):Bool:=decide (rows.length≤64)&&rows.all (zuI K)
def sysP (K:Nat) (R:List Row) (G:List zuc) (cs:List (List Row)):Bool:=(decide (R.length≤1024)&&R.all (zuI K)&&decide (G.length≤64)&&decide (cs.length≤1024))&&(G.all (zez K)&&cs.all (zwH K))
structure SysOK (R:List Row) (G:List zuc) (cs:List (List Row)):Prop where
 rows:zoL R
 ztQ:G.length<1000000∧∀ g∈G,g.least.length<1000000
 cases:cs.length<1000000∧∀ rows∈cs,zoL rows
theorem zl6 {n K:Nat} {g} (hl:g.least.length<1000000) (hn:1000000≤n):zfq n (K:Int) g=some (zez K g):=by
 unfold zfq zez;by_cases h:zkj K g=true
 ·have a:=h;unfold zkj at a
  grind
 ·have a:=h;unfold zkj at a;rw [if_neg a,zca (f:=λb=>zfC n b) (p:=zgP) (λx _=>rfl) (by omega) (by omega),ya]
  grind
theorem ze7 {n} {box} {R} {G} {cs} (hg:zw1 box=true) (hl:box.length≤100) (hS:SysOK R G cs) (hn:1000000≤n):zak n ⟨box,R,G,cs⟩=some (sysP box.length R G cs):=by
 unfold zak;have hrows:∀ (rows:List Row) (k:Int),zoL rows→zdn n ⟨box,R,G,cs⟩ rows k=some (decide ((rows.length:Int)≤k)&&rows.all (zuI box.length)):=λrows k hr=>by
  unfold zdn;simp only [zfI hg hl hr hn,yo,yy,grd,if_true,yi]
 have hbox:zaZ n box []=some true:=by rw [zfI hg hl ⟨by simp,by simp⟩ hn];rfl
 simp only [hbox,ya,zjG hg hl hn,hrows R 1024 hS.rows,yo,yy,grd,if_true,yi,ui,ur];have hloop:ztO (zak.l1 n ⟨box,R,G,cs⟩) n 0=some (G.all (zez box.length)&&cs.all (zwH box.length)):=by
  have:=zat (body:=zak.l1 n ⟨box,R,G,cs⟩) (l:=G) (n:=n) (st:=λi=>(i:Int)) (zez box.length) (some false) (some (cs.all (zwH box.length))) (λrec i hi=>?_) (λrec=>?_) (by have:=hS.ztQ.1;omega)
  ·grind
  ·simp only [zak.l1,zw hi,if_true,zb hi,ya,zl6 (hS.ztQ.2 _ (ym hi)) hn,zd (show i<4611686018427387904 by have:=hS.ztQ.1;omega)]
   grind
  ·simp only [zak.l1,zaw,ye,if_false];rw [zgx (p:=λrows=>!zwH box.length rows) (λx hx=>by
    unfold zfB;rw [hrows x 64 (hS.cases.2 x hx),ya];congr 2;unfold zwH;congr 1;exact decide_eq_decide.2 (by omega)) hS.cases.1 hn,ya]
   grind
 have e1:decide ((R.length:Int)≤1024)=decide (R.length≤1024):=decide_eq_decide.2 (by omega);have e2:decide (64<(G.length:Int)) = !decide (G.length≤64):=by rw [← decide_not];exact decide_eq_decide.2 (by omega)
 have e3:decide (1024<(cs.length:Int)) = !decide (cs.length≤1024):=by rw [← decide_not];exact decide_eq_decide.2 (by omega)
 rw [hloop,e1,e2,e3];unfold sysP
 grind
theorem zhY {n box R G cs} (hg:zw1 box=true) (hl:box.length≤100) (hS:SysOK R G cs) (hn:1000000≤n):zad n ⟨box,R,G,cs⟩=some (sysP box.length R G cs):=by
 unfold zad;simp only [zhX hg hl hS.rows hn,zms hg hl hn,yo,yy,grd,if_true,yi,Bool.or_false];have hgr:∀ i (rec:Int→Option Bool) (hi:i<G.length),zad.l2 n ⟨box,R,G,cs⟩ rec (i:Int)=if zez box.length G[i]=true then rec ((i+1:Nat):Int) else some false:=λi rec hi=>by
  have hgl:=hS.ztQ.2 _ (ym hi);have h3:=zat (body:=zad.l3 n (i:Int) rec G[i]) (l:=G[i].least) (n:=n) (st:=λj=>(j:Int)) (λx=>!zgP x) (some false) (rec (ztJ (i:Int) 1)) (λrec' j hj=>?_) (λrec'=>?_) (by omega)
  ·rw [show ((0:Nat):Int)=0 from rfl] at h3;simp only [zad.l2,zw hi,if_true,zb hi,ya,h3,zd (show i<4611686018427387904 by have:=hS.ztQ.1;omega)];by_cases h:zkj box.length G[i]=true
   ·have h':=h;unfold zkj at h';rw [if_pos h',if_neg (by grind [zez])]
   ·have h':=h;unfold zkj at h';rw [if_neg h'];have e:zez box.length G[i]=G[i].least.all λx=>!zgP x:=by
     unfold zez;simp only [yO] at h;rw [h,uE,yE,List.all_eq_not_any_not];simp
    rw [e]
  ·simp only [zad.l3,zw hj,if_true,zb hj,ya,yo,yy,grd,yi,zd (i:=j) (by omega)];by_cases h:zgP G[i].least[j]=true
   ·have h':=h;unfold zgP at h';rw [if_pos h',h];rfl
   ·have h':=h;unfold zgP at h';simp only [yO] at h;rw [if_neg h',h];rfl
  ·simp [zad.l3]
 have hloop:ztO (zad.l1 n ⟨box,R,G,cs⟩) n 0=some (G.all (zez box.length)&&cs.all (zwH box.length)):=by
  have:=zat (body:=zad.l1 n ⟨box,R,G,cs⟩) (l:=cs) (n:=n) (st:=λi=>(i:Int)) (zwH box.length) (some false) (some (G.all (zez box.length))) (λrec i hi=>?_) (λrec=>?_) (by have:=hS.cases.1;omega)
  ·rw [show ((0:Nat):Int)=0 from rfl] at this;rw [this];cases cs.all (zwH box.length) <;> cases G.all (zez box.length) <;> rfl
  ·simp only [zad.l1,zw hi,if_true,zb hi,ya,zhX hg hl (hS.cases.2 _ (ym hi)) hn,yo,yy,grd,yi,zd (show i<4611686018427387904 by have:=hS.cases.1;omega)];unfold zwH;by_cases h:cs[i].length≤64
   ·rw [decide_eq_true h,decide_eq_false (by omega),yE,ur];cases cs[i].all (zuI box.length) <;> rfl
   ·rw [decide_eq_false h,decide_eq_true (show (64:Int)<(cs[i].length:Int) by omega)];rfl
  ·simp only [zad.l1,zaw,ye,if_false];have:=zat (body:=zad.l2 n ⟨box,R,G,cs⟩) (l:=G) (n:=n) (st:=λi=>(i:Int)) (zez box.length) (some false) (some true) (λrec i hi=>hgr i rec hi) (λrec=>?_) (by have:=hS.ztQ.1;omega)
   ·rw [show ((0:Nat):Int)=0 from rfl] at this;rw [this];cases G.all (zez box.length) <;> rfl
   ·simp [zad.l2]
 have e1:decide (1024<(R.length:Int)) = !decide (R.length≤1024):=by rw [← decide_not];exact decide_eq_decide.2 (by omega)
 have e2:decide (64<(G.length:Int)) = !decide (G.length≤64):=by rw [← decide_not];exact decide_eq_decide.2 (by omega)
 have e3:decide (1024<(cs.length:Int)) = !decide (cs.length≤1024):=by rw [← decide_not];exact decide_eq_decide.2 (by omega)
 grind [sysP,decide,zuI]
theorem zeG {n} {r} {f g} {fP:Int→Int} {B} (hf:∀ x,f x=some (fP x)) (hg:g r.bound=some B) (hl:r.ztP.length≤1000) (hn:1000000≤n):zU n r f g=some ⟨r.ztP.map λt=>⟨t.cell,fP t.ztV⟩,B⟩:=by
 unfold zU;have:=zeh (body:=zU.l1 n r f B) (l:=r.ztP) (n:=n) (st:=λb i=>(b,i)) (λt=>(⟨t.cell,fP t.ztV⟩)) (λb=>some (⟨b,B⟩)) [] (λa b i d c=>?_) (λa b c=>?_) (by omega)
 ·grind
 ·simp only [zU.l1,zb d]
  grind [zp,zd]
 ·simp [zU.l1]
theorem zrL {n} {r} (hl:r.ztP.length≤1000) (hn:1000000≤n):zU n r (λq0=>zbr n q0) (λq0=>zbr n q0)=some r:=by
 rw [zeG (f:=λq0=>zbr n q0) (g:=λq0=>zbr n q0) (fP:=id) (B:=r.bound) (λ_=>rfl) rfl hl hn];simp
theorem zre {n K:Nat} {c} {f} (hK:ztZ c.size c.size=(K:Int)) (hK2:K≤36) (hf:∀ x,∃ y,f x=some y) (hn:1000000≤n):∃ g,zH n c f=some g∧g.least.length≤36:=by
 unfold zH;have:=zeT (body:=zH.l1 n c f) (k:=K) (n:=n) (st:=λb i=>(b,i)) (λi b=>b.length≤i) (λg =>g.least.length≤36) (λa i b h e j=>?_) (λa b e=>?_) (by omega) [] (by simp)
 ·grind
 ·obtain ⟨y,d⟩:=hf (ztJ c.first i);simp only [zH.l1,d,ya];rw [zp (by grind),ya,zd (by omega)];simp_all
 ·simp only [zH.l1,hK]
  grind
structure zvp (K:Nat) (c:Constraint):Prop where
 kind:c.kind=0∨c.kind=1
 len:c.row.ztP.length≤1000
 sz:c.kind=1→∃ s:Nat,c.size=(s:Int)∧1≤s∧s≤6∧0≤c.first∧c.first+((s*s:Nat):Int)≤(K:Int)
theorem zvp.mul {K c} (h:zvp K c) (hk:c.kind=1):∃ k:Nat,ztZ c.size c.size=(k:Int)∧k≤36:=by
 obtain ⟨s,d,e,a,-⟩:=h.sz hk;have b :=uf a a;refine ⟨s*s,?_,b⟩
 grind [zht]
structure zuV (a:Action):Prop where
 delta:a.effect.delta.length≤20
 hold:a.effect.hold.length≤10
 ztP:∀ r∈a.effect.hold,r.ztP.length≤1000
theorem zhv {n K a c} (ha:zuV a) (hc:zvp K c) (hk:c.kind=1) (hn:1000000≤n):∃ l,zz n a c=some l:=by
 obtain ⟨k,b,d⟩:=hc.mul hk;have:=ha.delta;exact ⟨_,zdk b (by omega) (by omega) (by omega) (by omega)⟩
theorem zhp {n a r} (ha:zuV a) (hr:r.ztP.length≤1000) (hn:1000000≤n):∃ x,zI n a r=some x:=by
 have:=ha.delta;exact ⟨_,zcr (by omega) (by omega) (by omega) (by omega)⟩
noncomputable def gr (n:Nat) (c:Constraint) (f:Int→Option Int):zuc:=(zH n c f).getD default
noncomputable def gS (n:Nat) (ef:Bool) (a b:Action) (c:Constraint):List zuc:=
 if (c.kind != 1)=true then [] else
  [gr n c λq0=>zaT n q0]++((if (decide (0<(((zz n a c).getD []).length:Int)))=true then [gr n c λq0=>zP n q0 a] else []) ++
   (if (ef&&decide (0<(((zz n b c).getD default).length:Int)))=true then [gr n c λq0=>zac n q0 b] else []))
noncomputable def finS (n:Nat) (box:List Range) (a b:Action) (R:List Row) (c:Constraint) (G:List zuc):Option (System×Int):=
  jn (λ(v:(List Row)×(List (List Row)))=>
   let b6_150:=v.1
   let c3_3_151:=v.2
   (zak n (⟨box,b6_150,G,c3_3_151⟩:System)).bind λx267_155=>
   if (!x267_155)=true then
    some ((⟨[],[],[],[]⟩:System),8)
   else
    some ((⟨box,b6_150,G,c3_3_151⟩:System),0)) λk_152=>
  if (c.kind==1)=true then
   (zl n box c a b).bind λx254_153=>
   if ((x254_153.length:Int)==0)=true then
    (app 32 R [(⟨[],(-1)⟩:Row)]).bind λx264_154=>
    k_152 (x264_154,x254_153)
   else
    k_152 (R,x254_153)
  else
   k_152 (R,[])
theorem zee {n K} {c} {f} (hc:zvp K c) (hk:c.kind=1) (hf:∀ x,∃ y,f x=some y) (hn:1000000≤n):zH n c f=some (gr n c f)∧(gr n c f).least.length≤36:=by
 obtain ⟨k,b,a⟩:=hc.mul hk;obtain ⟨g,e,d⟩:=zre b a hf hn;unfold gr
 grind
theorem zpN {n K ef a b c} (ha:zuV a) (hb:zuV b) (hc:zvp K c) (hn:1000000≤n):(gS n ef a b c).length≤3∧∀ g∈gS n ef a b c,g.least.length≤36:=by
 unfold gS;split
 ·simp
 ·rename_i hk;have hk:c.kind=1:=by simpa using hk
  have f3:∀ x,∃ y,zP n x a=some y:=λx=>by
   unfold zP;have:=ha.delta;rw [zah _ (by omega) (by omega)];exact ⟨_,rfl⟩
  have f4:∀ x,∃ y,zac n x b=some y:=λx=>by
   unfold zac;have:=hb.delta;rw [zah _ (by omega) (by omega)];exact ⟨_,rfl⟩
  have g2:=(zee (f:=λq0=>zaT n q0) hc hk (λx=>⟨_,rfl⟩) hn).2;have g3:=(zee (f:=λq0=>zP n q0 a) hc hk f3 hn).2;have g4:=(zee (f:=λq0=>zac n q0 b) hc hk f4 hn).2;constructor
  ·split <;> split <;> simp
  grind [List.mem_singleton]
theorem zkW {n K m q a b box R c} (ha:zuV a) (hb:zuV b) (hc:∀ c∈m.constraints,zvp K c) (hl:m.constraints.length≤1000) (hn:1000000≤n) :
  ztO (zf.l4 n m q a b box R c.kind c.family c.row.ztP c.row.bound c.first c.size) n ([],0)=finS n box a b R c ((List.range m.constraints.length).flatMap λi=>gS n (q.e != q.f) a b (m.constraints.getD i default)):=by
 have:=zcQ (body:=zf.l4 n m q a b box R c.kind c.family c.row.ztP c.row.bound c.first c.size) (k:=m.constraints.length) (n:=n) (st:=λb i=>(b,(i:Int))) (λi=>gS n (q.e != q.f) a b (m.constraints.getD i default)) (finS n box a b R c) 3 []
  (λi hi=>?_) (λrec b7 i hi hI=>?_) (λrec b7 hI=>?_) (by omega)
 ·grind
 ·grind [default,List.getD,zpN,List.getElem_mem]
 ·have e:m.constraints.getD i default=m.constraints[i]:=by grind
  have hci:=hc _ (ym hi);have hI':b7.length≤3000:=by grind
  simp only [zf.l4,zw hi,if_true,jn,zb hi,ya,e,zd (i:=i) (by omega)];unfold gS;by_cases hk:(m.constraints[i].kind != 1)=true
  ·grind
  ·rw [if_neg hk,if_neg hk];have hk:m.constraints[i].kind=1:=by grind
   have f3:∀ x,∃ y,zP n x a=some y:=λx=>by
    unfold zP;have:=ha.delta;rw [zah _ (by omega) (by omega)];exact ⟨_,rfl⟩
   have f4:∀ x,∃ y,zac n x b=some y:=λx=>by
    unfold zac;have:=hb.delta;rw [zah _ (by omega) (by omega)];exact ⟨_,rfl⟩
   obtain ⟨ra,hra⟩:=zhv ha hci hk hn;obtain ⟨rb,hrb⟩:=zhv hb hci hk hn;rw [(zee (f:=λq0=>zaT n q0) hci hk (λx=>⟨_,rfl⟩) hn).1,(zee (f:=λq0=>zP n q0 a) hci hk f3 hn).1,(zee (f:=λq0=>zac n q0 b) hci hk f4 hn).1,hra,hrb];simp only [ya,yi,yo,yy,grd,if_true];rw [zp (by simp;omega),ya];by_cases h3:(decide (0<(ra.length:Int)))=true
   ·rw [if_pos h3,if_pos h3,zp (by simp;omega),ya];by_cases h4:((q.e != q.f)&&decide (0<(rb.length:Int)))=true
    ·rw [if_pos h4,if_pos h4,zp (by simp;omega),ya];simp only [yM]
    ·rw [if_neg h4,if_neg h4];simp only [yM,y8]
   ·rw [if_neg h3,if_neg h3];by_cases h4:((q.e != q.f)&&decide (0<(rb.length:Int)))=true
    ·rw [if_pos h4,if_pos h4,zp (by simp;omega),ya];simp only [yM,yU]
    ·rw [if_neg h4,if_neg h4];simp only [y8]
 ·simp only [zf.l4,zaw,ye,if_false];rfl
noncomputable def zdy (n:Nat) (m:Model) (q:Question) (a b:Action) (box:List Range) (R:List Row):Option (System×Int):=
  jn (λ(v:(List Row)×Int×Int×(List Term)×Int×Int×Int)=>
   let b6_84:=v.1
   let c9_0_85:=v.2.1
   let c9_1_86:=v.2.2.1
   let c9_2_87:=v.2.2.2.1
   let c9_3_88:=v.2.2.2.2.1
   let c9_4_89:=v.2.2.2.2.2.1
   let c9_5_90:=v.2.2.2.2.2.2
   ztO (zf.l4 n m q a b box b6_84 c9_0_85 c9_1_86 c9_2_87 c9_3_88 c9_4_89 c9_5_90) n (([]:List zuc),0)) λk_91=>
  if q.target.hold=true then
   (idx a.effect.hold q.target.index).bind λx164_92=>
   (zI n b x164_92).bind λx170_93=>
   (zU n x164_92 (λq0=>zaN n q0) (λq0=>zam n q0 x170_93)).bind λx9_94=>
   (app 32 R [x9_94]).bind λx11_95=>
   k_91 (x11_95,0,0,[],0,0,0)
  else
   (idx m.constraints q.target.index).bind λx177_96=>
   if (x177_96.kind==0)=true then
    (zI n a x177_96.row).bind λx188_97=>
    (zI n b x177_96.row).bind λx192_98=>
    (zU n x177_96.row (λq0=>zaN n q0) (λq0=>zam n q0 (ztJ x188_97 x192_98))).bind λx9_99=>
    (app 32 R [x9_99]).bind λx11_100=>
    k_91 (x11_100,x177_96.kind,x177_96.family,x177_96.row.ztP,x177_96.row.bound,x177_96.first,x177_96.size)
   else
    k_91 (R,x177_96.kind,x177_96.family,x177_96.row.ztP,x177_96.row.bound,x177_96.first,x177_96.size)
noncomputable def zwK (n:Nat) (m:Model) (q:Question) (a b:Action) (box:List Range) (R:List Row):Option (System×Int):=
  (app 32 [] a.effect.hold).bind λx128_64=>
  jn (λ(v:(List Row))=>
   let b8_65:=v
   ztO (zf.l3 n m q a b box b8_65) n (R,0)) λk_66=>
  if (q.e != q.f)=true then
   (app 32 x128_64 b.effect.hold).bind λx138_67=>
   k_66 x138_67
  else
   k_66 x128_64
def endS (n:Nat) (S:System) (v:Option Bool):Option (System×Int):=v.bind λv=>if (!v)=true then some ((⟨[],[],[],[]⟩:System),8) else some (S,0)
noncomputable def chgN (n:Nat) (a:Action) (r:Row):Int:=(zI n a r).getD 0
noncomputable def kS (n:Nat) (q:Question) (rows:List Int) (a b:Action) (i:Nat) (c:Constraint):Int:=
 if (decide ((i:Int)∈rows)&&(q.target.hold||(q.target.index != (i:Int))))=true then gmax (gmax (gmax 0 (chgN n a c.row)) (chgN n b c.row)) (ztJ (chgN n a c.row) (chgN n b c.row)) else gmax (gmax 0 (chgN n a c.row)) (chgN n b c.row)
noncomputable def rowS (n:Nat) (q:Question) (rows:List Int) (a b:Action) (i:Nat) (c:Constraint):List Row:=if (c.kind != 0)=true then [] else [⟨c.row.ztP,zt2 c.row.bound (kS n q rows a b i c)⟩]
noncomputable def zvD (n:Nat) (m:Model) (q:Question) (rows:List Int) (a b:Action):List Row:=(List.range m.constraints.length).flatMap λi=>rowS n q rows a b i (m.constraints.getD i default)
theorem zeF {n a r} (ha:zuV a) (hr:r.ztP.length≤1000) (hn:1000000≤n):zI n a r=some (chgN n a r):=by
 obtain ⟨x,hx⟩:=zhp ha hr hn;unfold chgN;rw [hx];rfl
theorem zrI {n m q rows a b box} (ha:zuV a) (hb:zuV b) (hc:∀ c∈m.constraints,zvp box.length c) (hl:m.constraints.length≤1000) (hr:rows.length≤1000) (hn:1000000≤n) :
  ztO (zf.l2 n m q rows a b box) n ([],0)=zwK n m q a b box (zvD n m q rows a b):=by
 have:=zcQ (body:=zf.l2 n m q rows a b box) (k:=m.constraints.length) (n:=n) (st:=λb i=>(b,(i:Int))) (λi=>rowS n q rows a b i (m.constraints.getD i default)) (zwK n m q a b box) 1 []
  (λi hi=>?_) (λrec b6 i hi hI=>?_) (λrec b6 hI=>?_) (by omega)
 ·simpa [zvD] using this
 ·unfold rowS;split <;> simp
 ·have e:m.constraints.getD i default=m.constraints[i]:=by simp [List.getD,hi]
  have hci:=hc _ (ym hi);have hI':b6.length≤3000:=by simp at hI;omega
  rw [e];simp only [zf.l2,zw hi,if_true,jn,zb hi,ya,zeF ha hci.len hn,zeF hb hci.len hn,zep (show rows.length<1000000 by omega) hn];unfold rowS;by_cases hk:(m.constraints[i].kind != 0)=true
  ·rw [if_pos hk,if_pos hk,y8,zd (by omega)]
  ·rw [if_neg hk,if_neg hk];have hch:=λk:Int=>zeG (n:=n) (r:=m.constraints[i].row) (f:=λq0=>zbr n q0) (g:=λq0=>zer n q0 k) (fP:=id) (B:=zt2 m.constraints[i].row.bound k) (λ_=>rfl) rfl hci.len hn
   have hid:(m.constraints[i].row.ztP.map λt=>(⟨t.cell,id t.ztV⟩:Term))=m.constraints[i].row.ztP:=by simp
   simp only [hid] at hch;unfold kS;split <;> (rw [hch,ya,zp (by first | omega | (simp;omega)),ya,zd (by omega)])
 ·simp only [zf.l2,zaw,ye,if_false];rfl
def badR (m:Model) (x:Int):Bool:=(decide (x<0)||decide ((m.constraints.length:Int)≤x))||(((idx m.constraints x).getD default).kind != 0)
theorem zm5 {n m q rows a b} (hF:Fuel n) (hS:zuz m) (hV:zvt m) (hq:zgp m q=true) (ha:idx m.ztL q.e=some a) (hb:idx m.ztL q.f=some b) (hA:zuV a) (hB:zuV b) (hc:∀ c∈m.constraints,zvp (boxM m).length c) (hr:rows.length≤1000) :
  zf n m q rows=if (rows.all λx=>!badR m x)=true then zwK n m q a b (boxM m) (zvD n m q rows a b) else some (⟨[],[],[],[]⟩,2):=by
 have hn:=hF.big;have hn:1000000≤n:=by omega
 have hcl:=hS.constraints;have hst:zfh n m=some (boxM m):=by
  unfold zfh zg1;rw [zhP hF hS,zfY.2 hV,ya,if_neg (by simp),zgy hF (by have:=hS.ztR;omega) (by have:=hS.tables;omega) (λt ht=>by have:=(hS.tab t ht).2;omega),if_pos hV.lay];rfl
 unfold zf;rw [zfU hF hS,zfY.2 hV,hq,ya,if_neg (by simp)];have:=zat (body:=zf.l1 n m q rows) (l:=rows) (n:=n) (st:=λi=>(i:Int)) (λx=>!badR m x) (some (⟨[],[],[],[]⟩,2)) (zwK n m q a b (boxM m) (zvD n m q rows a b)) (λrec i hi=>?_) (λrec=>?_) (by omega)
 ·simpa using this
 ·simp only [zf.l1,zw hi,if_true,zb hi,ya];by_cases h1:(decide (rows[i]<0)||decide ((m.constraints.length:Int)≤rows[i]))=true
  ·have hbad:badR m rows[i]=true:=by unfold badR;rw [h1];rfl
   rw [hbad];simp only [h1,uC,grd,if_true,ui,ye,if_false]
  ·have h2:=h1;simp only [yK,yg,not_or,Int.not_le,Int.not_lt] at h2;obtain ⟨c,hcx⟩:=za7 h2.1 h2.2;simp only [yO] at h1;unfold badR;simp only [h1,hcx,ur,yo,grd,if_true,yi,zd (i:=i) (by omega)];cases c.kind != 0 <;> simp
 ·simp only [zf.l1,zaw,ye,if_false,ha,hb,hst,ya];exact zrI hA hB hc (by omega) hr hn
def zxr (x:Int):Prop:=-4611686018427387904≤x∧x≤4611686018427387904
theorem zrR {a b:Int} (ha:zxr a):zxr (a.tdiv b):=by
 have h1:=Int.natAbs_tdiv_le_natAbs a b
 obtain ⟨h2,h3⟩:=ha
 unfold zxr
 omega
theorem zs4 {a b:Int} (hb:0<b) (ha:zxr a):zvm a b=some (a.tdiv b):=by
 have h:=zrR (b:=b) ha
 unfold zvm
 rw [if_neg (by omega),zaK (by have:=h.1;omega) (by have:=h.2;omega)]
theorem zs5 {a b:Int} (hb:0<b):zvg a b=some (a.tmod b):=by
 unfold zvg
 rw [if_neg (by omega)]
theorem zq3 {a b:Int} (hb:0<b):a / b=if a.tmod b<0 then a.tdiv b - 1 else a.tdiv b:=by
 have h1:=Int.mul_tdiv_add_tmod a b
 have h3:=Int.tmod_lt_of_pos a hb
 have h4 : -b<a.tmod b:=Int.lt_tmod_of_pos a hb
 generalize a.tdiv b=q at *
 generalize a.tmod b=r at *
 split
 ·exact ((Int.ediv_emod_unique hb (r:=r+b) (q:=q - 1)).2 ⟨by rw [Int.mul_sub,Int.mul_one];omega,by omega,by omega⟩).1
 ·exact ((Int.ediv_emod_unique hb (r:=r) (q:=q)).2 ⟨by omega,by omega,by omega⟩).1
theorem znh {n:Nat} {a b:Int} (hb:0<b) (ha:zxr a):zcz n a b=some (a / b):=by
 have h:=zrR (b:=b) ha
 unfold zcz
 rw [zs4 hb ha,ya,zs5 hb]
 simp only [jn,ya]
 rw [zq3 hb]
 have hq:zt2 (a.tdiv b) 1=a.tdiv b - 1:=zaK (by have:=h.1;omega) (by have:=h.2;omega)
 have hs:(a.tmod b != 0&&(decide (a<0) != decide (b<0)))=decide (a.tmod b<0):=by
  have hb':decide (b<0)=false:=by simp;omega
  rw [hb',Bool.bne_false]
  by_cases ha0:a<0
  ·have h1:a.tmod b≤0:=by
    have:=Int.tmod_nonneg (a:=-a) b (by omega)
    rw [Int.neg_tmod] at this;omega
   by_cases h0:a.tmod b=0
   ·simp [h0]
   ·rw [Bool.eq_iff_iff];simp [ha0];omega
  ·have h1:0≤a.tmod b:=Int.tmod_nonneg b (by omega)
   simp [ha0];omega
 rw [hs]
 by_cases hr:a.tmod b<0
 ·simp [hr,hq]
 ·simp [hr]
def boxS (b:List Range):Prop:=∀ r∈b,-1000000≤r.lo∧r.lo≤1000000∧-1000000≤r.hi∧r.hi≤1000000
def rgP (b:List Range) (c:Int):Range:=b.getD c.toNat default
def endP (b:List Range) (t:Term):Int:=if 0<t.ztV then t.ztV*(rgP b t.cell).lo else t.ztV*(rgP b t.cell).hi
def zvP (b:List Range) (c:Int):List Term→Int
 | []=>0
 | t::l=>(if t.cell=c then 0 else endP b t)+zvP b c l
theorem zku (b c):∀ l m:List Term,zvP b c (l++m)=zvP b c l+zvP b c m
 | [],m=>by simp [zvP]
 | t::l,m=>by simp only [ug,zvP,zku b c l m];omega
theorem zkm {b:List Range} {c:Int} (h0:0≤c) (h1:c<(b.length:Int)):idx b c=some (rgP b c):=by
 unfold idx rgP
 rw [if_pos h0]
 have h:c.toNat<b.length:=by omega
 simp [h]
theorem zoE {b:List Range} {c:Int} (h0:0≤c) (h1:c<(b.length:Int)):rgP b c∈b:=by
 have h:c.toNat<b.length:=by omega
 unfold rgP
 rw [yY,yC h]
 exact ym h
theorem zsP {b:List Range} {t:Term} (hb:boxS b) (ht:zhi b.length t) : -1000000000≤endP b t∧endP b t≤1000000000:=by
 obtain ⟨h0,h1,h2,h3⟩:=ht
 obtain ⟨a1,a2,a3,a4⟩:=hb _ (zoE h0 h1)
 unfold endP
 split
 ·exact zmL h2 h3 a1 a2
 ·exact zmL h2 h3 a3 a4
theorem znJ {b:List Range} {c:Int} (hb:boxS b):∀ {l:List Term},(∀ t∈l,zhi b.length t)→-(1000000000*(l.length:Int))≤zvP b c l∧zvP b c l≤1000000000*(l.length:Int)
 | [],_=>by simp [zvP]
 | t::l,ht=>by
  have h1:=zsP hb (ht t (by simp))
  have h2:=znJ (c:=c) hb λx hx=>ht x (yX _ hx)
  simp only [zvP,yR]
  split <;> omega
theorem zrW {n:Nat} {r:Row} {b:List Range} {c:Int} (hb:boxS b) (ht:∀ t∈r.ztP,zhi b.length t) (hl:r.ztP.length≤1000) (hn:1000000≤n):zbs n r b c 1=some (zvP b c r.ztP):=by
 have:=zM (body:=zbs.l1 n r b c 1) (len:=r.ztP.length) (st:=λi=>(zvP b c (r.ztP.take i),(i:Int))) (g:=λ_=>some (zvP b c r.ztP)) (λrec i hi hr=>?_) (λrec=>?_) n 0 (yp _) (by omega)
 ·simpa [zbs,zvP] using this
 ·rw [yA hi,zku] at hr
  obtain ⟨h0,h1,h2,h3⟩:=ht _ (ym hi)
  obtain ⟨a1,a2,a3,a4⟩:=hb _ (zoE h0 h1)
  have hp:=znJ (c:=c) hb (l:=r.ztP.take i) λt h=>ht t (List.mem_of_mem_take h)
  have hpl:(r.ztP.take i).length≤1000:=by simp;omega
  have m1:=zmL h2 h3 a1 a2
  have m2:=zmL h2 h3 a3 a4
  have hf:ztZ r.ztP[i].ztV 1=r.ztP[i].ztV:=by unfold ztZ;rw [zaK (by omega) (by omega)];omega
  have e1:ztZ r.ztP[i].ztV (rgP b r.ztP[i].cell).lo=r.ztP[i].ztV*(rgP b r.ztP[i].cell).lo:=zaK (by omega) (by omega)
  have e2:ztZ r.ztP[i].ztV (rgP b r.ztP[i].cell).hi=r.ztP[i].ztV*(rgP b r.ztP[i].cell).hi:=zaK (by omega) (by omega)
  simp only [zvP,endP] at hr
  simp only [zbs.l1,zw hi,if_true,zb hi,zkm h0 h1,ya,jn,zd (i:=i) (by omega),beq_iff_eq,hf,e1,e2,yg]
  split at hr <;> rename_i h
  ·rw [if_pos h]
   simpa using hr
  ·rw [if_neg h]
   split at hr <;> rename_i h'
   ·rw [if_pos h']
    unfold ztJ
    rw [zaK (by omega) (by omega)]
    simpa using hr
   ·rw [if_neg h']
    unfold ztJ
    rw [zaK (by omega) (by omega)]
    simpa using hr
 ·simp [zbs.l1]
def facP (c:Int):List Term→Int→Int
 | [],f=>f
 | t::l,f=>facP c l (if t.cell=c then t.ztV else f)
def zoS (o:Range) (rest f:Int):Range:=
 if f=0 then o else
  let lo:=if f<0 then max o.lo (-(rest / (-f))) else o.lo
  let hi:=if 0<f then min o.hi (rest / f) else o.hi
  if hi<lo then ⟨1,0⟩ else ⟨lo,hi⟩
def zgt (r:Row) (b:List Range) (c:Int):Range:=zoS (rgP b c) (r.bound - zvP b c r.ztP) (facP c r.ztP 0)
theorem zrb (x y:Int):gmin x y=min x y:=by unfold gmin;split <;> omega
theorem zra (x y:Int):gmax x y=max x y:=by unfold gmax;split <;> omega
theorem zlk {c:Int}:∀ {l:List Term} {f:Int},(∀ t∈l,t.cell≠c)→facP c l f=f
 | [],_,_=>rfl
 | t::l,f,h=>by
  simp only [facP]
  rw [if_neg (h t (by simp))]
  exact zlk λx hx=>h x (yX _ hx)
theorem zpH {c:Int}:∀ {l:List Term} {f:Int} {t:Term},(l.map (·.cell)).Nodup→t∈l→t.cell=c→facP c l f=t.ztV
 | [],_,_,_,h,_=>by simp at h
 | x::l,f,t,hn,h,hc=>by
  simp only [yV,List.nodup_cons] at hn
  simp only [facP]
  rcases yI.1 h with rfl | h
  ·rw [if_pos hc]
   exact zlk λy hy e=>hn.1 (by rw [hc,← e];exact yZ.2 ⟨y,hy,rfl⟩)
  ·exact zpH hn.2 h hc
def ixT (c:Int):List Term→Nat→Int
 | [],_=>-1
 | t::l,i=>if t.cell=c then (i:Int) else ixT c l (i+1)
theorem znV {n:Nat} {l:List Term} {c:Int} (hl:l.length≤1000) (hn:1000000≤n):zG n l (λq0=>zb3 n q0 c)=some (ixT c l 0):=by
 have:=zM (body:=zG.l1 n l (λq0=>zb3 n q0 c)) (len:=l.length) (st:=λi=>(i:Int)) (g:=λi=>some (ixT c (l.drop i) i)) (λrec i hi hr=>?_) (λrec=>?_) n 0 (yp _) (by omega)
 ·simpa [zG] using this
 ·rw [zo hi]
  simp only [zG.l1,zw hi,if_true,zb hi,ya,zb3,beq_iff_eq,zd (i:=i) (by omega),ixT]
  split <;> simp_all
 ·simp [zG.l1,ixT]
theorem zoe {c:Int}:∀ (l:List Term) (k:Nat),((∀ t∈l,t.cell≠c)∧ixT c l k = -1)∨∃ i,∃ hi:i<l.length,l[i].cell=c∧ixT c l k=((k+i:Nat):Int)
 | [],k=>.inl ⟨by simp,rfl⟩
 | t::l,k=>by
  simp only [ixT]
  by_cases h:t.cell=c
  ·exact .inr ⟨0,by simp,h,by rw [if_pos h];simp⟩
  ·rw [if_neg h]
   rcases zoe (c:=c) l (k+1) with ⟨h1,h2⟩ | ⟨i,hi,h1,h2⟩
   ·exact .inl ⟨λx hx=>(yI.1 hx).elim (λe=>e▸h) (h1 x),h2⟩
   ·exact .inr ⟨i+1,by simpa using hi,by simpa using h1,by rw [h2];congr 1;omega⟩
theorem zqI {n:Nat} {r:Row} {b:List Range} {c:Int} (hb:boxS b) (ht:∀ t∈r.ztP,zhi b.length t) (hf0:∀ t∈r.ztP,t.ztV≠0) (hnd:(r.ztP.map (·.cell)).Nodup) (hl:r.ztP.length≤1000) (hB : -1000000000≤r.bound∧r.bound≤1000000000) (h0:0≤c) (h1:c<(b.length:Int)) (hn:1000000≤n) :
  zdg n r b c=some (zgt r b c):=by
 unfold zdg
 rw [zkm h0 h1,ya,znV hl hn,ya]
 rcases zoe (c:=c) r.ztP 0 with ⟨hx,he⟩ | ⟨i,hi,hx,he⟩
 ·rw [he]
  simp [zgt,zlk hx,zoS]
 ·rw [he]
  have hm:r.ztP[i]∈r.ztP:=ym hi
  have hfac:=zpH (f:=0) hnd hm hx
  have hp:=znJ (c:=c) hb ht
  obtain ⟨-,-,q1,q2⟩:=ht _ hm
  have q0:=hf0 _ hm
  simp only [uk]
  rw [if_neg (by simp),zb hi,ya,zrW hb ht hl hn,ya]
  unfold zgt zoS
  rw [hfac]
  generalize r.ztP[i].ztV=f at *
  generalize zvP b c r.ztP=R at *
  have hbig:zxr (r.bound - R):=⟨by omega,by omega⟩
  have hs:zt2 r.bound R=r.bound - R:=zaK (by omega) (by omega)
  simp only [hs,jn,zdd,ya,zrb,zra,yg]
  by_cases h:0<f
  ·have h2:¬ f<0:=by omega
   have hd:=znh (n:=n) (a:=r.bound - R) (b:=f) h hbig
   simp only [h,h2,hd,if_true,if_false,ya,q0]
   split <;> rfl
  ·have h2:f<0:=by omega
   have hneg:zuH f = -f:=zaK (by omega) (by omega)
   have hd:=znh (n:=n) (a:=r.bound - R) (b:=-f) (by omega) hbig
   have hq:zxr ((r.bound - R) / (-f)):=⟨Int.le_trans (by omega) ((Int.le_ediv_iff_mul_le (by omega)).2 (show -4611686018427387904*(-f)≤r.bound - R by omega)),Int.ediv_le_of_le_mul (by omega) (by omega)⟩
   have hn2:zuH ((r.bound - R) / (-f)) = -((r.bound - R) / (-f)):=zaK (by have:=hq.2;omega) (by have:=hq.1;omega)
   generalize (r.bound - R) / (-f)=q at *
   simp only [h,h2,hneg,hd,hn2,if_true,if_false,ya,q0]
   split <;> rfl
def zxt (k last:Int):List Term→Bool
 | []=>true
 | t::l=>!(decide (t.cell≤last)||decide (k≤t.cell)||t.ztV==0||decide (t.ztV < -1000)||decide (1000<t.ztV))&&zxt k t.cell l
def zxi (k:Int) (r:Row):Bool:=zxt k (-1) r.ztP&&(decide (-1000000000≤r.bound)&&decide (r.bound≤1000000000))
def zyd (l:List Term) (i:Nat):Int:=match i with
 | 0=>-1
 | i+1=>(l.getD i default).cell
theorem zqx {l:List Term} {i:Nat} (h:i<l.length):zyd l (i+1)=l[i].cell:=by
 simp [zyd,h]
theorem zpM {n:Nat} {k:Int} {r:Row} (hl:r.ztP.length≤1000) (hn:1000000≤n):zaD n k r=some (zxi k r):=by
 have:=zM (body:=zaD.l1 n k r) (len:=r.ztP.length) (st:=λi=>(zyd r.ztP i,(i:Int))) (g:=λi=>some (zxt k (zyd r.ztP i) (r.ztP.drop i)&&(decide (-1000000000≤r.bound)&&decide (r.bound≤1000000000)))) (λrec i hi hr=>?_) (λrec=>?_) n 0 (yp _) (by omega)
 ·simpa [zaD,zyd,zxi] using this
 ·rw [zo hi]
  rw [zqx hi] at hr
  simp only [zaD.l1,zw hi,if_true,zb hi,ya,zd (i:=i) (by omega),zxt]
  split <;> rename_i h
  ·rw [h];simp
  ·rw [yO] at h
   rw [hr,h];simp
 ·simp [zaD.l1,zxt]
def boxP (b:List Range):Bool:=b.all (λr=>!(decide (r.lo < -1000000)||decide (1000000<r.lo)||decide (r.hi < -1000000)||decide (1000000<r.hi)))&&decide ((b.length:Int)≤128)
theorem zpw {b:List Range} (h:boxP b=true):boxS b:=λr hr=>by
 simp only [boxP,yd,yq] at h
 have:=h.1 r hr
 simp at this
 omega
theorem zsv {n:Nat} {b:List Range} (hl:b.length≤1000) (hn:1000000≤n):zaF n b=some (boxP b):=by
 have:=zM (body:=zaF.l1 n b) (len:=b.length) (st:=λi=>(i:Int)) (g:=λi=>some ((b.drop i).all (λr=>!(decide (r.lo < -1000000)||decide (1000000<r.lo)||decide (r.hi < -1000000)||decide (1000000<r.hi)))&&decide ((b.length:Int)≤128))) (λrec i hi hr=>?_) (λrec=>?_) n 0 (yp _) (by omega)
 ·simpa [zaF,boxP] using this
 ·rw [zo hi]
  simp only [zaF.l1,zw hi,if_true,zb hi,ya,zd (i:=i) (by omega),uj]
  split <;> rename_i h
  ·rw [h];simp
  ·rw [yO] at h
   rw [hr,h];simp
 ·simp [zaF.l1]
def ixA {α:Type} (p:α→Bool):List α→Nat→Int
 | [],_=>-1
 | t::l,i=>if p t=true then (i:Int) else ixA p l (i+1)
theorem zrh {α:Type} (p:α→Bool):∀ (l:List α) (k:Nat),0≤ixA p l k↔l.any p=true
 | [],k=>by simp [ixA]
 | t::l,k=>by
  simp only [ixA,uQ,yK]
  by_cases h:p t=true
  ·rw [if_pos h];simp [h]
  ·rw [if_neg h,zrh p l (k+1)];simp [h]
theorem zmc {n:Nat} {l:List Row} {f:Row→Option Bool} {p:Row→Bool} (hp:∀ x∈l,f x=some (p x)) (hl:l.length≤100000) (hn:1000000≤n):zk n l f=some (l.any p):=by
 have:=zM (body:=zm.l1 n l f) (len:=l.length) (st:=λi=>(i:Int)) (g:=λi=>some (ixA p (l.drop i) i)) (λrec i hi hr=>?_) (λrec=>?_) n 0 (yp _) (by omega)
 ·unfold zk zm
  have h2:ztO (zm.l1 n l f) n 0=some (ixA p l 0):=by simpa using this
  rw [h2,ya]
  congr 1
  rw [Bool.eq_iff_iff,yg]
  exact zrh p l 0
 ·rw [zo hi]
  simp only [zm.l1,zw hi,if_true,zb hi,ya,hp _ (ym hi),zd (i:=i) (by omega),ixA]
  split <;> simp_all
 ·simp [zm.l1,ixA]
theorem zql {n:Nat} {b:List Range} {rows:List Row} (hb:b.length≤1000) (hr:∀ r∈rows,r.ztP.length≤1000) (hl:rows.length≤100000) (hn:1000000≤n):zaZ n b rows=some (boxP b&&rows.all (zxi (b.length:Int))):=by
 unfold zaZ
 rw [zsv hb hn,ya]
 have hc:=zmc (n:=n) (l:=rows) (f:=λq0=>zbk n q0 b) (p:=λr=>!zxi (b.length:Int) r) (λx hx=>by simp only [zbk,zpM (hr x hx) hn,ya]) hl hn
 rw [hc]
 simp [grd,List.all_eq_not_any_not]
theorem zia {k:Int}:∀ {l:List Term} {last:Int},-1≤last→zxt k last l=true→(∀ t∈l,last<t.cell∧0≤t.cell∧t.cell<k∧t.ztV≠0∧-1000≤t.ztV∧t.ztV≤1000)∧(l.map (·.cell)).Nodup
 | [],_,_,_=>by simp
 | t::l,last,hlast,h=>by
  simp only [zxt,yd] at h
  obtain ⟨h1,h2⟩:=h
  simp at h1
  have hc:last<t.cell∧0≤t.cell∧t.cell<k∧t.ztV≠0∧-1000≤t.ztV∧t.ztV≤1000:=⟨by omega,by omega,by omega,by omega,by omega,by omega⟩
  obtain ⟨i1,i2⟩:=zia (l:=l) (last:=t.cell) (by omega) h2
  refine ⟨λx hx=>?_,?_⟩
  ·rcases yI.1 hx with rfl | hx
   ·exact hc
   ·have:=i1 x hx
    exact ⟨by omega,this.2⟩
  ·simp only [yV,List.nodup_cons]
   refine ⟨λhm=>?_,i2⟩
   obtain ⟨x,hx,e⟩:=yZ.1 hm
   have:=(i1 x hx).1
   omega
theorem zqk {n:Nat} {r:Row} {b:List Range} {c:Int} (hb:boxP b=true) (hf:zxi (b.length:Int) r=true) (hl:r.ztP.length≤1000) (h0:0≤c) (h1:c<(b.length:Int)) (hn:1000000≤n):zcw n r b c=some (zgt r b c):=by
 have hlen:b.length≤128:=by
  simp only [boxP,yd,yg] at hb
  omega
 unfold zcw
 rw [zql (by omega) (λx hx=>by simp at hx;subst hx;exact hl) (by simp) hn,ya]
 simp only [hb,hf,uj,List.all_nil,ul,ui,ur]
 rw [if_neg (by simp;omega)]
 simp only [zxi,yd,yg] at hf
 obtain ⟨ht,hB⟩:=hf
 obtain ⟨t1,t2⟩:=zia (by omega) ht
 rw [zqI (zpw hb) (λt h=>⟨(t1 t h).2.1,(t1 t h).2.2.1,(t1 t h).2.2.2.2.1,(t1 t h).2.2.2.2.2⟩) (λt h=>(t1 t h).2.2.2.1) t2 hl hB h0 h1 hn]
 rfl

def midP (r:Range):Int:=(r.lo+r.hi) / 2
theorem box1 {b:List Range} {r:Range} (hb:boxP b=true) (hr:r∈b):boxP [r]=true:=by
 have h:=zpw hb r hr
 simp [boxP]
 omega
theorem zqO {n:Nat} {r:Range} (hr:boxP [r]=true) (hn:1000000≤n):zcN n r=some (midP r):=by
 have h:=zpw hr r (by simp)
 unfold zcN
 rw [zsv (by simp) hn,ya,hr]
 have hs:ztJ r.lo r.hi=r.lo+r.hi:=zaK (by omega) (by omega)
 simp only [ui,ye,if_false,hs]
 rw [znh (by omega) ⟨by omega,by omega⟩,ya]
 rfl
theorem app1 {α:Type} {k:Nat} {l:List α} {x:α} (h:(l.length+1)*k≤140737488355328):Go.Proofs.YtipkniadbkndfaaGreatDoor.app k l [x]=some (l++[x]):=by
 unfold Go.Proofs.YtipkniadbkndfaaGreatDoor.app
 rw [if_pos (by simpa using h)]
def zvQ (b:List Range) (c:Int) (r:Range):List Range:=if 0≤c then b.set c.toNat r else b
theorem zjm (b c r):(zvQ b c r).length=b.length:=by
 unfold zvQ;split <;> simp
inductive zxY:List Row→List Row→Prop
 | nil:zxY [] []
 | cons {r s:Row} {R S:List Row}:r.ztP=s.ztP→r.bound≤s.bound→zxY R S→zxY (r::R) (s::S)
theorem zqN {n l} (hl:l.length<1000000) (hn:1000000≤n):zbZ n l l=some true:=by
 unfold zbZ;rw [if_neg (by simp)];have:=zM (body:=zbZ.l1 n l l) (len:=l.length) (st:=λi=>(i:Int)) (g:=λ_=>some true) (λrec i hi hr=>?_) (λrec=>?_) n 0 (yp _) (by omega)
 ·simpa using this
 ·simp only [zbZ.l1,zw hi,if_true,zb hi,ya,uO,ye,if_false,zd (i:=i) (by omega),hr]
 ·simp [zbZ.l1]
theorem zqV {d} (hd:zfT d):∀ {l:List Term},(∀ t∈l,-1000≤t.ztV∧t.ztV≤1000)→-(1000000000000*(l.length:Int))≤chgP d l∧chgP d l≤1000000000000*(l.length:Int)
 | [],_=>by simp [chgP]
 | t::l,h=>by
  have ih:=zqV hd (l:=l) λt ht=>h t (by simp [ht])
  obtain ⟨f1,f2⟩:=h t (by simp);obtain ⟨a1,a2⟩:=zcK hd t.cell;have:=zmL f1 f2 a1 a2;simp only [chgP,yR];omega
theorem zo6 {n a r} (ha:zuV a) (hd:zfT a.effect.delta) (ht:∀ t∈r.ztP,-1000≤t.ztV∧t.ztV≤1000) (hl:r.ztP.length≤1000) (hn:1000000≤n) : -1000000000000000≤chgN n a r∧chgN n a r≤1000000000000000:=by
 have h1:=ha.delta;unfold chgN;rw [zcr (by omega) (by omega) (by omega) (by omega),zld hd ht hl];have:=zqV hd ht;simp only [yi];omega
theorem zni (x y):x≤gmax x y∧y≤gmax x y:=by unfold gmax;split <;> omega
theorem znj {x y B} (h1:x≤B) (h2:y≤B):gmax x y≤B:=by unfold gmax;split <;> omega
theorem zr7 {n:Nat} {q} {rows less:List Int} {a b} {i:Nat} {c} (hx : -1000000000000000≤chgN n a c.row∧chgN n a c.row≤1000000000000000) (hy : -1000000000000000≤chgN n b c.row∧chgN n b c.row≤1000000000000000) (hsub:(i:Int)∈less→(i:Int)∈rows) :
  0≤kS n q less a b i c∧kS n q less a b i c≤kS n q rows a b i c∧kS n q rows a b i c≤2000000000000000:=by
 have hs:ztJ (chgN n a c.row) (chgN n b c.row)=chgN n a c.row+chgN n b c.row:=zcp (by omega) (by omega);unfold kS;rw [hs];generalize chgN n a c.row=x at *;generalize chgN n b c.row=y at *;have g1:=zni 0 x;have g2:=zni (gmax 0 x) y;have g3:=zni (gmax (gmax 0 x) y) (x+y);have u1:gmax 0 x≤1000000000000000:=znj (by omega) (by omega);have u2:gmax (gmax 0 x) y≤1000000000000000:=znj u1 (by omega);have u3:gmax (gmax (gmax 0 x) y) (x+y)≤2000000000000000:=znj (by omega) (by omega);by_cases h1:(i:Int)∈less
 ·have h2:=hsub h1;simp only [h1,h2,decide_true,yE];split <;> omega
 ·simp only [h1,decide_false,uh,ye,if_false];split <;> omega
theorem zpp {n m q rows a b} (hl:m.constraints.length≤60) (hc:∀ c∈m.constraints,c.row.ztP.length≤1000):(zvD n m q rows a b).length≤60∧∀ r∈zvD n m q rows a b,r.ztP.length≤1000:=by
 unfold zvD;constructor
 ·have:∀ k,((List.range k).flatMap λi=>rowS n q rows a b i (m.constraints.getD i default)).length≤k:=by
   intro k
   induction k with
   | zero=>simp
   | succ k ih=>
    rw [zjS,yQ];have:(rowS n q rows a b k (m.constraints.getD k default)).length≤1:=by unfold rowS;split <;> simp
    omega
  have:=this m.constraints.length;omega
 ·intro r hr;obtain ⟨i,hi,hri⟩:=ue.1 hr;have hi:=y7.1 hi;have e:m.constraints.getD i default=m.constraints[i]:=by simp [List.getD,hi]
  rw [e] at hri;unfold rowS at hri;split at hri
  ·simp at hri
  ·simp at hri;subst hri;exact hc _ (ym hi)
theorem zmz {m} (hS:zuz m) {a} (ha:a∈m.ztL):zuV a:=by
 obtain ⟨-,h1,h2,-,h4⟩:=hS.act a ha;exact ⟨h1,h2,λr hr=>by have:=h4 r hr;omega⟩
theorem zsx {m} (hS:zuz m) (hV:zvt m) {c} (hc:c∈m.constraints):zvp (boxM m).length c:=by
 have hl:=hS.con c hc;rcases zsw hS hV hc with ⟨h1,-,-,-⟩ | ⟨s,h1,h2,h3,h4,h5,h6⟩
 ·exact ⟨.inl h1,by omega,λh=>by omega⟩
 ·exact ⟨.inr h1,by omega,λ_=>⟨s,h2,h3,h4,h5,h6⟩⟩
theorem zqY {m} (hV:zvt m) {c} (hc:c∈m.constraints) (hk:c.kind=0):zuI (zW m.ztR true m.tables).length c.row=true:=by
 rcases zl9 hV hc with h | h
 ·simp only [zfk,yd] at h;exact h.2
 ·have:=(zm6 hV h).1;omega
theorem zqc {R X G cs} (hR:R.length≤60∧∀ r∈R,r.ztP.length≤1000) (hX:X.length≤30∧∀ r∈X,r.ztP.length≤1000) (hG:G.length≤3000∧∀ g∈G,g.least.length≤36) (hc:zgw cs):SysOK (R++X) G cs:=by
 refine ⟨⟨by rw [yQ];omega,λr hr=>?_⟩,⟨by omega,λg hg=>by have:=hG.2 g hg;omega⟩,⟨by have:=hc.1;omega,λrows hrows=>?_⟩⟩
 ·rcases yr.1 hr with hr | hr
  ·have:=hR.2 r hr;omega
  ·have:=hX.2 r hr;omega
 ·obtain ⟨h1,h2⟩:=hc.2 rows hrows;exact ⟨by omega,λr hr=>by have:=h2 r hr;omega⟩
section
variable (E:Nat→Nat→Bool) (K:Nat)
def fstN (l:List Int):Nat:=(l.headD 0).toNat
def lstN (l:List Int):Nat:=(l.getLastD 0).toNat
def zec (l:List Int):Bool:=E (lstN l) (fstN l)
def ext1 (l:List Int) (i:Nat):List (List Int):=if (E (lstN l) (fstN l+1+i)&&!decide (((fstN l+1+i:Nat):Int)∈l))=true then [l++[((fstN l+1+i:Nat):Int)]] else []
def ext (l:List Int):List (List Int):=(List.range (K - (fstN l+1))).flatMap (ext1 E l)
def dfs:Nat→List Int→List (List Int)
 | 0,_=>[]
 | d+1,l=>(if zec E l=true then [l] else [])++(ext E K l).flatMap (dfs d)
def lev:Nat→List (List Int)→List (List Int)
 | 0,ls=>ls
 | r+1,ls=>lev r (ls.flatMap (ext E K))
theorem zkX:∀ (r:Nat) (ls:List (List Int)),lev E K (r+1) ls=(lev E K r ls).flatMap (ext E K)
 | 0,_=>rfl
 | r+1,ls=>zkX r (ls.flatMap (ext E K))
theorem zgn {α β:Type} (f g:α→List β):∀ l:List α,(l.flatMap λx=>f x++g x).Perm (l.flatMap f++l.flatMap g)
 | []=>by simp
 | x::l=>by
  simp only [uG,yM];refine .append_left _ ?_;exact ((zgn f g l).append_left _).trans (List.perm_append_comm_assoc _ _ _)
theorem zjD {α:Type} (p):∀ l:List α,(l.flatMap λx=>if p x=true then [x] else [])=l.filter p
 | []=>rfl
 | x::l=>by rw [uG,zjD p l,List.filter_cons];split <;> rfl
theorem zpD:∀ (d:Nat) (ls:List (List Int)),(ls.flatMap (dfs E K d)).Perm ((List.range d).flatMap λr=>(lev E K r ls).filter (zec E))
 | 0,ls=>by
  have:(ls.flatMap (dfs E K 0))=[]:=List.flatMap_eq_nil_iff.2 λ_ _=>rfl
  rw [this];exact .refl _
 | d+1,ls=>by
  have e:ls.flatMap (dfs E K (d+1))=ls.flatMap λl=>(if zec E l=true then [l] else [])++(ext E K l).flatMap (dfs E K d):=rfl
  rw [e,List.range_succ_eq_map,uG,List.flatMap_map];refine (zgn _ _ ls).trans ?_;rw [zjD];refine .append_left _ ?_;have:=zpD d (ls.flatMap (ext E K));rw [List.flatMap_assoc] at this;exact this
theorem zkn:∀ (l x y:List Int),lexP (l++x) (l++y)=lexP x y
 | [],_,_=>rfl
 | a::l,x,y=>by simp only [ug,lexP];rw [if_neg (by omega),if_neg (by omega)];exact zkn l x y
theorem zmJ:∀ {l m:List Int} (x y:List Int),l.length=m.length→lexP l m<0→lexP (l++x) (m++y)<0
 | [],[],_,_,_,h=>by simp [lexP] at h
 | [],_::_,_,_,h,_=>by simp at h
 | _::_,[],_,_,h,_=>by simp at h
 | a::l,b::m,x,y,hl,h=>by
  simp only [ug,lexP] at h ⊢;split
  ·omega
  ·rename_i h1;rw [if_neg h1] at h;split
   ·rename_i h2;rw [if_pos h2] at h;omega
   ·rename_i h2;rw [if_neg h2] at h;exact zmJ x y (by simpa using hl) h
theorem znx {l x i} (h:x∈ext1 E l i):E (lstN l) (fstN l+1+i)=true∧((fstN l+1+i:Nat):Int)∉l∧x=l++[((fstN l+1+i:Nat):Int)]:=by
 unfold ext1 at h;split at h
 ·rename_i hc;simp only [yd,yB,yH] at hc;exact ⟨hc.1,hc.2,by simpa using h⟩
 ·simp at h
theorem zjN {l x} (h:x∈ext E K l):∃ i,i<K - (fstN l+1)∧E (lstN l) (fstN l+1+i)=true∧((fstN l+1+i:Nat):Int)∉l∧x=l++[((fstN l+1+i:Nat):Int)]:=by
 obtain ⟨i,hi,hx⟩:=ue.1 h;exact ⟨i,y7.1 hi,znx E hx⟩
theorem ztu (l):(ext E K l).Pairwise λx y=>lexP x y<0:=by
 unfold ext;rw [List.pairwise_flatMap];refine ⟨λi _=>?_,List.pairwise_lt_range.imp λ{i j} hij x hx y hy=>?_⟩
 ·unfold ext1;split <;> simp
 ·obtain ⟨-,-,rfl⟩:=znx E hx;obtain ⟨-,-,rfl⟩:=znx E hy;rw [zkn];simp only [lexP];rw [if_pos (by omega)];omega
theorem zpT:∀ (r c:Nat) (ls:List (List Int)),(∀ l∈ls,l.length=c)→(ls.Pairwise λx y=>lexP x y<0)→(∀ l∈lev E K r ls,l.length=c+r)∧(lev E K r ls).Pairwise λx y=>lexP x y<0
 | 0,c,ls,h1,h2=>⟨h1,h2⟩
 | r+1,c,ls,h1,h2=>by
  have:=zpT r (c+1) (ls.flatMap (ext E K)) (λx hx=>?_) ?_
  ·exact ⟨λl hl=>by rw [this.1 l hl];omega,this.2⟩
  ·obtain ⟨l,hl,hx⟩:=ue.1 hx;obtain ⟨i,-,-,-,rfl⟩:=zjN E K hx;simp [h1 l hl]
  ·rw [List.pairwise_flatMap];refine ⟨λl _=>ztu E K l,?_⟩;refine List.Pairwise.imp_of_mem (λ{a b} ha hb hab x hx y hy=>?_) h2;obtain ⟨i,-,-,-,rfl⟩:=zjN E K hx;obtain ⟨j,-,-,-,rfl⟩:=zjN E K hy;exact zmJ _ _ (by rw [h1 a ha,h1 b hb]) hab
theorem zqX (x y):cmpC x y<0↔(x.length<y.length∨(x.length=y.length∧lexP x y<0)):=by
 unfold cmpC cmpI;by_cases e:(x.length:Int)<y.length
 ·simp [e];omega
 ·by_cases e2:(y.length:Int)<x.length
  ·simp [e,e2];omega
  ·simp [e,e2];omega
theorem zti (d c ls) (h1:∀ l∈ls,l.length=c) (h2:ls.Pairwise λx y=>lexP x y<0):((List.range d).flatMap λr=>(lev E K r ls).filter (zec E)).Pairwise λx y=>cmpC x y<0:=by
 rw [List.pairwise_flatMap];refine ⟨λr _=>?_,List.pairwise_lt_range.imp λ{i j} hij x hx y hy=>?_⟩
 ·have:=zpT E K r c ls h1 h2;refine List.Pairwise.imp_of_mem (λ{a b} ha hb hab=>?_) (this.2.filter (zec E));rw [zqX];exact .inr ⟨by rw [this.1 a (List.mem_filter.1 ha).1,this.1 b (List.mem_filter.1 hb).1],hab⟩
 ·have hi:=(zpT E K i c ls h1 h2).1 x (List.mem_filter.1 hx).1;have hj:=(zpT E K j c ls h1 h2).1 y (List.mem_filter.1 hy).1;rw [zqX];exact .inl (by omega)
end
theorem zop {α:Type} {R:α→α→Prop} (hanti:∀ a b,R a b→R b a→a=b):∀ {l m:List α},l.Perm m→l.Pairwise R→m.Pairwise R→l=m
 | [],m,h,_,_=>by simpa using h.length_eq.symm
 | a::l,[],h,_,_=>by simpa using h.length_eq
 | a::l,b::m,h,h1,h2=>by
  have e:a=b:=by
   rw [uT] at h1 h2;have ha:=h.mem_iff.1 (uM (a:=a) (l:=l));have hb:=h.mem_iff.2 (uM (a:=b) (l:=m));rcases yI.1 ha with ha | ha
   ·exact ha
   ·rcases yI.1 hb with hb | hb
    ·exact hb.symm
    ·exact hanti _ _ (h1.1 b hb) (h2.1 a ha)
  subst e;rw [zop hanti ((List.perm_cons a).1 h) (uT.1 h1).2 (uT.1 h2).2]
def ones (K:Nat):List (List Int):=(List.range K).map λ(i:Nat)=>[(i:Int)]
theorem zrw (K):(∀ l∈ones K,l.length=1)∧(ones K).Pairwise λx y=>lexP x y<0:=by
 unfold ones;refine ⟨λl hl=>?_,?_⟩
 ·obtain ⟨i,-,rfl⟩:=yZ.1 hl;rfl
 ·rw [List.pairwise_map];refine List.pairwise_lt_range.imp λ{i j} hij=>?_
  simp only [lexP];rw [if_pos (by omega)];omega
def cycP (E:Nat→Nat→Bool) (K:Nat):List (List Int):=(List.range K).flatMap λr=>(lev E K r (ones K)).filter (zec E)
theorem zdU {α β:Type} {f:α→List β} {B}:∀ {l:List α},(∀ x∈l,(f x).length≤B)→(l.flatMap f).length≤l.length*B
 | [],_=>by simp
 | x::l,h=>by
  have b:=zdU (l:=l) λy a=>h y (by simp [a])
  grind [Nat.succ_mul]
theorem zpa {E} {K} (hK:K≤6) (l):(ext E K l).length≤6:=by
 have:=zdU (f:=ext1 E l) (B:=1) (l:=List.range (K - (fstN l+1))) λi _=>by grind [ext1]
 unfold ext
 grind
theorem znf {E} {K} (hK:K≤6):∀ (d) (l),(dfs E K d l).length≤7 ^ d
 | 0,_=>by simp [dfs]
 | d+1,l=>by
  have a:=zpa (E:=E) hK l;have c:=zdU (f:=dfs E K d) (B:=7 ^ d) (l:=ext E K l) λx _=>znf hK d x
  have b:(ext E K l).length*7 ^ d≤6*7 ^ d:=yS _ a;simp only [dfs]
  grind
structure zuW (K:Nat) (l:List Int):Prop where
 nd:l.Nodup
 pos:1≤l.length
 mem:∀ x∈l,0≤x∧x<(K:Int)
theorem zuW.len {K l} (h:zuW K l):l.length≤K:=zkY h.nd h.mem
theorem zuW.snoc {K l} (h:zuW K l) {b} (hb:b<K) (hm:(b:Int)∉l):zuW K (l++[(b:Int)]):=by
 refine ⟨?_,by simp,λx c=>?_⟩
 ·rw [uV];exact ⟨h.nd,by simp,λa f g d e=>by grind⟩
 ·rcases yr.1 c with c | c
  ·exact h.mem x c
  grind
theorem zuW.fst {K l} (h:zuW K l):idx l 0=some ((fstN l:Nat):Int)∧fstN l<K:=by
 cases l with
 | nil=>have:=h.pos;grind
 | cons x t=>
  have:=h.mem x (by simp);have e:fstN (x::t)=x.toNat:=rfl;have:idx (x::t) 0=some x:=rfl
  grind
theorem zuW.lst {K l} (h:zuW K l) (h6:K≤6):idx l (zt2 (l.length:Int) 1)=some ((lstN l:Nat):Int)∧lstN l<K:=by
 have d:=h.pos;have c:=h.len;have a:l.length - 1<l.length:=by omega
 have e:=h.mem _ (ym a);have b:lstN l=l[l.length - 1].toNat:=by grind [lstN]
 rw [zgh (by omega) (by omega),zb a,b];grind
theorem zsn {n} {g} {K} (hg:zvb g K) (hn:1000000≤n):∀ (d k) (l) (out),zuW K l→K - l.length=d→d<k→out.length≤1000000 - 7 ^ (d+1)→d≤5 →
  zD n g k l out=some (out++dfs (hasP g) K (d+1) l):=by
 intro d
 induction d using Nat.strongRecOn with
 | ind d ih=>
  intro k l out hp hd hk ho hd5;obtain ⟨k,rfl⟩:∃ k',k=k'+1:=⟨k - 1,by omega⟩
  have hK:=hg.le;have hl1:=hp.pos;have hl2:=hp.len;have hp7:7≤7 ^ (d+1):=Nat.le_self_pow (by omega) 7;obtain ⟨e2,hfK⟩:=hp.fst;obtain ⟨e1,hlK⟩:=hp.lst hK;have h7:7 ^ (d+1)=7*7 ^ d:=by grind
  have hone:1≤7 ^ d:=Nat.one_le_pow _ _ (by omega);have h77:7 ^ (d+1)≤117649:=by
   have:7 ^ (d+1)≤7 ^ 6:=ux (by omega) (by omega)
   grind
  simp only [zD,e1,e2,ya,zmH hg hlK hfK];have loop:∀ out1:List (List Int),out1.length≤out.length+1→ztO (zD.l1 n g (zD n g k) l ((lstN l:Nat):Int)) n (ztJ ((fstN l:Nat):Int) 1,out1)=some (out1++(ext (hasP g) K l).flatMap (dfs (hasP g) K d)):=by
   intro out1 ho1;rw [zd (by omega)];have:=zcQ (body:=zD.l1 n g (zD n g k) l ((lstN l:Nat):Int)) (k:=K - (fstN l+1)) (n:=n) (st:=λ(o:List (List Int)) i=>(((fstN l+1+i:Nat):Int),o)) (λi=>(ext1 (hasP g) l i).flatMap (dfs (hasP g) K d)) some (7 ^ d) out1
    (λi hi=>?_) (λrec o i hi hI=>?_) (λrec o hI=>?_) (by omega)
   ·simp only [ut] at this;rw [this];unfold ext;rw [List.flatMap_assoc]
   ·have h1:=zdU (f:=dfs (hasP g) K d) (B:=7 ^ d) (l:=ext1 (hasP g) l i) λx _=>znf hK d x
    have h2:(ext1 (hasP g) l i).length≤1:=by unfold ext1;split <;> simp
    have h3:(ext1 (hasP g) l i).length*7 ^ d≤1*7 ^ d:=yS _ h2;omega
   ·have hb:fstN l+1+i<K:=by omega
    have hlt:decide (((fstN l+1+i:Nat):Int)<g.size)=true:=by rw [hg.size];simp;omega
    have hnx:ztJ ((fstN l+1+i:Nat):Int) 1=((fstN l+1+(i+1):Nat):Int):=by rw [zd (by omega)];rfl
    simp only [zD.l1,hlt,if_true,zmH hg hlK hb,ya,hnx];unfold ext1;by_cases hh:hasP g (lstN l) (fstN l+1+i)=true
    ·rw [if_pos hh,zep (by omega) hn,ya];by_cases hm:((fstN l+1+i:Nat):Int)∈l
     ·rw [if_pos (by simpa using hm),if_neg (by simp only [hm,decide_true,ui,Bool.and_false];simp)];simp
     ·rw [if_neg (by simpa using hm),zp (by simp;omega),ya,yU,zp (by simp;omega),ya,if_pos (by simp only [hh,hm,decide_false,uE,uL])];have hp2:=hp.snoc hb hm;have hlen:=hp2.len;simp only [yQ,yR,un] at hlen;have hd1:1≤d:=by omega
      have h6:i*7 ^ d≤5*7 ^ d:=yS _ (by omega);have:=ih (d - 1) (by omega) k (l++[((fstN l+1+i:Nat):Int)]) o hp2 (by simp;omega) (by omega) (by rw [show d - 1+1=d by omega];omega) (by omega);rw [show d - 1+1=d by omega] at this;rw [this,ya];simp
    ·rw [if_neg hh,if_neg (by simp only [yO] at hh;simp [hh])];simp
   ·have hge:decide (((fstN l+1+(K - (fstN l+1)):Nat):Int)<g.size)=false:=by rw [hg.size];simp;omega
    simp only [zD.l1,hge,ye,if_false]
  have hcl:zec (hasP g) l=hasP g (lstN l) (fstN l):=rfl;simp only [dfs,hcl];by_cases hh:hasP g (lstN l) (fstN l)=true
  ·rw [if_pos hh,if_pos hh,zp (by simp;omega),ya,yU,zp (by simp;omega),ya,loop _ (by simp),yM]
  grind
theorem zq2 {n g K} (hg:zvb g K) (hn:1000000≤n):ztO (zuk.l1 n g) n (0,[])=some ((ones K).flatMap (dfs (hasP g) K K)):=by
 have e:=hg.le;have c:7 ^ K≤117649:=by
  have:7 ^ K≤7 ^ 6:=ux (by omega) (by omega)
  grind
 have:=zcQ (body:=zuk.l1 n g) (k:=K) (n:=n) (st:=λo i=>(i,o)) (λi=>dfs (hasP g) K K [i]) some 117649 []
  (λi d=>yJ (znf e K _) c) (λb o i d f=>?_) (λb o f=>?_) (by omega)
 ·grind [ones,List.flatMap_map]
 ·have h:decide (i<g.size)=true:=by rw [hg.size];grind
  have j:=zsn hg hn (K - 1) n [i] o ⟨by simp,by simp,by grind⟩ (by simp) (by omega) (by grind) (by omega);simp only [zuk.l1]
  grind [zd]
 ·have a:decide (K<g.size)=false:=by rw [hg.size];simp
  simp only [zuk.l1,a,ye,if_false]
theorem zrr {E K}:∀ (d) {l x},zuW K l→x∈dfs E K d l→zuW K x
 | 0,_,_,_,h=>by grind [dfs]
 | d+1,l,x,b,h=>by
  simp only [dfs,yr,ue] at h;rcases h with h | ⟨y,c,e⟩
  ·grind
  ·obtain ⟨i,f,-,a,rfl⟩:=zjN E K c;exact zrr d (b.snoc (by omega) a) e
theorem znA {K i} (hi:i<K):zuW K [(i:Int)]:=⟨by simp,by simp,by grind⟩
theorem zjz {n} {zt9} {K:Nat} (h1:1≤K) (h6:K≤6) (hl:zt9.length=K*K) (hn:1000000≤n):zbF n (K:Int) zt9=some (cycP (hasP ⟨(K:Int),zt9⟩) K):=by
 have hg:zvb ⟨(K:Int),zt9⟩ K:=⟨rfl,h6,hl⟩
 have h4:K*K≤36:=uf h6 h6;have e:ztZ (K:Int) (K:Int)=((K*K:Nat):Int):=by
  grind [ztZ,zaK,Int.natCast_mul]
 have hopen:zb2 n (K:Int) zt9=some (⟨(K:Int),zt9⟩,true):=by
  unfold zb2;rw [e,hl]
  grind
 have hd:7 ^ K≤117649:=by
  have:7 ^ K≤7 ^ 6:=ux (by omega) (by omega)
  grind
 unfold zbF;rw [hopen,ya,if_neg (by simp),zq2 hg hn,ya];have hmem:∀ x∈(ones K).flatMap (dfs (hasP ⟨(K:Int),zt9⟩) K K),zuW K x:=λx hx=>by
  obtain ⟨l,hl,hx⟩:=ue.1 hx;obtain ⟨i,hi,rfl⟩:=yZ.1 hl;exact zrr K (znA (y7.1 hi)) hx
 have hlen:((ones K).flatMap (dfs (hasP ⟨(K:Int),zt9⟩) K K)).length≤6*117649:=by
  have:=zdU (f:=dfs (hasP ⟨(K:Int),zt9⟩) K K) (B:=117649) (l:=ones K) λx _=>yJ (znf h6 K x) hd
  grind [ones,Nat.le_trans,Nat.mul_le_mul_right]
 obtain ⟨s1,s2⟩:=zqb (f:=zcg n) (c:=cmpC) (l:=(ones K).flatMap (dfs (hasP ⟨(K:Int),zt9⟩) K K)) (λx hx y _=>zjw (by have:=(hmem x hx).len;omega) hn) (λx=>by grind [zf3]) (λ_ _ _=>zjv) (λ_ _ _=>zle) (by omega);rw [s1];refine congrArg some ?_;have hp:=zjY s2;have hs:=zoN s2;refine zop (R:=λx y=>¬ cmpC y x<0) (λa b h1 h2=>?_) (hp.trans (zpD _ K K (ones K))) ?_ ?_
 ·grind [zf3,zlf]
 ·refine List.Pairwise.imp_of_mem (λ{a b} ha hb hab=>?_) hs;have ha':=hmem a (hp.mem_iff.1 ha);have hb':=hmem b (hp.mem_iff.1 hb);rw [zjw (by have:=hb'.len;omega) hn] at hab;exact hab
 ·refine (zti _ K K 1 (ones K) (zrw K).1 (zrw K).2).imp λ{a b} h=>?_
  have:=zf3 a b;omega
theorem zqz {γ δ S R:Type} {body} {k n} {st:List γ→List δ→Nat→S} (g) (h) (fin:List γ→List δ→Option R) (B) (b0) (c0) (hB:∀ i,i<k→(g i).length≤B) (hC:∀ i,i<k→(h i).length≤B)
  (step:∀ rec (b) (c) i,i<k→b.length≤b0.length+i*B→c.length≤c0.length+i*B→body rec (st b c i)=rec (st (b++g i) (c++h i) (i+1))) (done:∀ rec (b) (c),b.length≤b0.length+k*B→c.length≤c0.length+k*B→body rec (st b c k)=fin b c) (hn:k<n) :
  ztO body n (st b0 c0 0)=fin (b0++(List.range k).flatMap g) (c0++(List.range k).flatMap h):=by
 have:=zbn (σ:=List γ×List δ) (body:=body) (len:=k) (st:=λs i=>st s.1 s.2 i) (g:=λi s=>fin (s.1++(List.range' i (k - i)).flatMap g) (s.2++(List.range' i (k - i)).flatMap h)) (λi s=>s.1.length≤b0.length+i*B∧s.2.length≤c0.length+i*B) (λrec i s e a d=>?_) (λrec s a=>?_) n 0 (b0,c0) (yp _) (by omega) (by simp)
 ·grind [List.range_eq_range']
 ·rw [step rec s.1 s.2 i e a.1 a.2,d (s.1++g i,s.2++h i) ⟨by grind,by grind⟩];have:List.range' i (k - i)=i::List.range' (i+1) (k - (i+1)):=by rw [show k - i=(k - (i+1))+1 by omega,List.range'_succ]
  grind
 grind
theorem zks {n l v} (hl:l.length<1000000) (hn:1000000≤n):zde n l v=some (decide (v∈l)):=by
 unfold zde;have:=zat (body:=zde.l1 n l v) (l:=l) (n:=n) (st:=λi=>i) (λx=>!(x==v)) (some true) (some false) (λa i b=>?_) (λa=>?_) (by omega)
 ·grind
 ·simp only [zde.l1,zb b]
  grind [zd]
 ·simp only [zde.l1,zaw,ye,if_false]
theorem znG {n l v} (hl:l.length<1000000) (hn:1000000≤n):zdt n l v=some (l++[v]):=by
 unfold zdt;have:=zeh (body:=zdt.l1 n l v) (l:=l) (n:=n) (st:=λb i=>(b,i)) (λx =>x) (λb=>some (b++[v])) [] (λa b i d c=>?_) (λa b c=>?_) (by omega)
 ·simp_all
 ·simp only [zdt.l1,zb d]
  grind [zp,zd]
 ·simp only [zdt.l1]
  grind [zp]
theorem zpE {zt9} {K a b:Nat} (hg:zvb ⟨(K:Int),zt9⟩ K) (ha:a<K) (hb:b<K):idx zt9 (ztJ (ztZ (a:Int) (K:Int)) (b:Int))=some (hasP ⟨(K:Int),zt9⟩ a b):=by
 have:=zmH (n:=0) hg ha hb
 grind [zaO]
theorem ziO {E K}:∀ (r) {ls},(∀ l∈ls,zuW K l)→∀ l∈lev E K r ls,zuW K l
 | 0,_,h=>h
 | r+1,ls,h=>ziO r λx a=>by
  obtain ⟨l,c,a⟩:=ue.1 a;obtain ⟨i,d,-,b,rfl⟩:=zjN E K a;exact (h l c).snoc (by omega) b
theorem zrm {E K} (h6:K≤6):∀ (r) (ls),(lev E K r ls).length≤ls.length*7 ^ r
 | 0,ls=>by simp [lev]
 | r+1,ls=>by
  have b:=zrm (E:=E) h6 r (ls.flatMap (ext E K));have c:=zdU (f:=ext E K) (B:=6) (l:=ls) λx _=>zpa h6 x
  have a:(ls.flatMap (ext E K)).length*7 ^ r≤ls.length*7*7 ^ r:=yS _ (by omega);rw [Nat.pow_succ,Nat.mul_comm (7 ^ r) 7,← Nat.mul_assoc];exact yJ b a
theorem ziV {K}:∀ l∈ones K,zuW K l:=λl a=>by
 obtain ⟨i,b,rfl⟩:=yZ.1 a
 grind [znA]
theorem zn8 {α:Type} (p) (l:List α) (d):(List.range l.length).flatMap (λi=>if p (l.getD i d)=true then [l.getD i d] else [])=l.filter p:=by
 rw [← zjD p l];have e:l=(List.range l.length).map λi=>l.getD i d:=by
  refine List.ext_getElem (by simp) λi b a=>?_
  grind
 grind [List.flatMap_map]
theorem zjE {α β:Type} (f:α→List β) (l:List α) (d):(List.range l.length).flatMap (λi=>f (l.getD i d))=l.flatMap f:=by
 have e:l=(List.range l.length).map λi=>l.getD i d:=by
  refine List.ext_getElem (by simp) λi b a=>?_
  grind
 grind [List.flatMap_map]
theorem zpj {n} {zt9} {K} (h6:K≤6) (hl:zt9.length=K*K) (hn:1000000≤n) {ls out} {r} {rec} (hp:∀ l∈ls,zuW K l) (hlen:ls.length≤800000) (ho:out.length≤100000000) :
  ztO (zJ.l3 n (K:Int) zt9 ls r rec) n (out,([]:List (List Int)),0)=rec (out++ls.filter (zec (hasP ⟨(K:Int),zt9⟩)),ls.flatMap (ext (hasP ⟨(K:Int),zt9⟩) K),ztJ r 1):=by
 have hg:zvb ⟨(K:Int),zt9⟩ K:=⟨rfl,h6,hl⟩
 have:=zqz (body:=zJ.l3 n (K:Int) zt9 ls r rec) (k:=ls.length) (n:=n) (st:=λb c i=>(b,c,(i:Int))) (λi=>if zec (hasP ⟨(K:Int),zt9⟩) (ls.getD i [])=true then [ls.getD i []] else []) (λi=>ext (hasP ⟨(K:Int),zt9⟩) K (ls.getD i []))
  (λb c=>rec (b,c,ztJ r 1)) 6 out [] (λi _=>by grind) (λi _=>zpa h6 _) (λrec2 b c i hi hb hc=>?_) (λrec2 b c hb hc=>?_) (by omega)
 ·rw [zn8,zjE] at this
  grind
 ·have e:ls.getD i []=ls[i]:=by grind
  have hpl:=hp _ (ym hi);obtain ⟨e2,hfK⟩:=hpl.fst;obtain ⟨e1,hlK⟩:=hpl.lst h6;have hlK6:=hpl.len;rw [e];have inner:∀ b1:List (List Int),ztO (zJ.l4 n (K:Int) zt9 ls (i:Int) rec2 ((lstN ls[i]:Nat):Int) b1) n (c,ztJ ((fstN ls[i]:Nat):Int) 1)=rec2 (b1,c++ext (hasP ⟨(K:Int),zt9⟩) K ls[i],((i+1:Nat):Int)):=by
   intro b1;rw [zd (by omega)];have:=zcQ (body:=zJ.l4 n (K:Int) zt9 ls (i:Int) rec2 ((lstN ls[i]:Nat):Int) b1) (k:=K - (fstN ls[i]+1)) (n:=n) (st:=λ(o:List (List Int)) j=>(o,((fstN ls[i]+1+j:Nat):Int))) (λj=>ext1 (hasP ⟨(K:Int),zt9⟩) ls[i] j) (λo=>rec2 (b1,o,ztJ (i:Int) 1)) 1 c
    (λj _=>by unfold ext1;split <;> simp) (λrec3 o j hj hI=>?_) (λrec3 o hI=>?_) (by omega)
   ·simp only [ut] at this;rw [this,zd (i:=i) (by omega)];rfl
   ·have hb:fstN ls[i]+1+j<K:=by omega
    have hlt:decide (((fstN ls[i]+1+j:Nat):Int)<(K:Int))=true:=by simp;omega
    have hnx:ztJ ((fstN ls[i]+1+j:Nat):Int) 1=((fstN ls[i]+1+(j+1):Nat):Int):=by rw [zd (by omega)];rfl
    simp only [zJ.l4,hlt,if_true,jn,zpE hg hlK hb,zb hi,ya,yo,yi,zks (show ls[i].length<1000000 by omega) hn,znG (show ls[i].length<1000000 by omega) hn,yy,grd,hnx];unfold ext1;split
    ·rw [zp (by simp at hI hc;simp;omega),ya]
    ·simp
   ·have hge:decide (((fstN ls[i]+1+(K - (fstN ls[i]+1)):Nat):Int)<(K:Int))=false:=by simp;omega
    simp only [zJ.l4,hge,ye,if_false]
  have hcl:zec (hasP ⟨(K:Int),zt9⟩) ls[i]=hasP ⟨(K:Int),zt9⟩ (lstN ls[i]) (fstN ls[i]):=rfl;simp only [zJ.l3,zw hi,if_true,jn,zb hi,ya,e1,e2,zpE hg hlK hfK,hcl]
  grind [zp]
 ·simp only [zJ.l3,zaw,ye,if_false]
theorem zlU {n} {zt9} {K:Nat} (h1:1≤K) (h6:K≤6) (hl:zt9.length=K*K) (hn:1000000≤n):zJ n (K:Int) zt9=some (cycP (hasP ⟨(K:Int),zt9⟩) K):=by
 have h4:K*K≤36:=uf h6 h6;have e:ztZ (K:Int) (K:Int)=((K*K:Nat):Int):=by
  grind [ztZ,zaK,Int.natCast_mul]
 have hv:zin n (K:Int) zt9=some true:=by
  unfold zin;rw [e,hl]
  grind
 unfold zJ;rw [hv,ya,if_neg (by simp)];have hones:(ones K).length=K:=by simp [ones]
 have rounds:ztO (zJ.l2 n (K:Int) zt9) n (([]:List (List Int)),ones K,0)=some (cycP (hasP ⟨(K:Int),zt9⟩) K):=by
  have:=zbn (σ:=List (List Int)×List (List Int)) (body:=zJ.l2 n (K:Int) zt9) (len:=K) (st:=λs i=>(s.1,s.2,(i:Int))) (g:=λ_ _=>some (cycP (hasP ⟨(K:Int),zt9⟩) K))
   (λi s=>s.1=(List.range i).flatMap (λr=>(lev (hasP ⟨(K:Int),zt9⟩) K r (ones K)).filter (zec (hasP ⟨(K:Int),zt9⟩)))∧s.2=lev (hasP ⟨(K:Int),zt9⟩) K i (ones K)∧s.1.length≤i*800000) (λrec i s hi hI hr=>?_) (λrec s hI=>?_) n 0 ([],ones K) (yp _) (by omega) ⟨rfl,rfl,by simp⟩
  ·exact this
  ·obtain ⟨s1,s2⟩:=s;obtain ⟨i1,i2,i3⟩:=hI;simp only at i1 i2 i3;have hlen:s2.length≤800000:=by
    have:=zrm (E:=hasP ⟨(K:Int),zt9⟩) h6 i (ones K);rw [hones] at this;have h7:7 ^ i≤7 ^ 5:=ux (by omega) (by omega);have h8:K*7 ^ i≤6*7 ^ 5:=uf h6 h7;rw [i2];simp only [Nat.reducePow,Nat.reduceMul] at h8;omega
   have hpath:∀ l∈s2,zuW K l:=by rw [i2];exact ziO i ziV
   simp only [zJ.l2,zlB hi,if_true];rw [zpj h6 hl hn hpath hlen (by omega),zd (by omega)];refine hr (_,_) ⟨?_,?_,?_⟩
   ·simp only;rw [uK,List.flatMap_append,← i1,i2];simp
   ·rw [zkX,← i2];rfl
   ·simp only [yQ];have:=List.length_filter_le (zec (hasP ⟨(K:Int),zt9⟩)) s2;rw [uo];omega
  ·obtain ⟨s1,s2⟩:=s;obtain ⟨i1,-,-⟩:=hI;simp only at i1;simp only [zJ.l2,zhL (yk K),ye,if_false];rw [i1];rfl
 have:=zcQ (body:=zJ.l1 n (K:Int) zt9) (k:=K) (n:=n) (st:=λ(b:List (List Int)) i=>(b,(i:Int))) (λi=>[[(i:Int)]]) (λb=>ztO (zJ.l2 n (K:Int) zt9) n (([]:List (List Int)),b,0)) 1 []
  (λi _=>by simp) (λrec b i hi hb=>?_) (λrec b hb=>?_) (by omega)
 ·have eo:(List.range K).flatMap (λi:Nat=>[[(i:Int)]])=ones K:=by
   unfold ones;rw [List.map_eq_flatMap]
  rw [eo,yU,rounds] at this;exact this
 ·simp only [zJ.l1,zlB hi,if_true];rw [zp (by simp at hb;simp;omega),ya,zd (by omega)]
 ·simp only [zJ.l1,zhL (yk K),ye,if_false]
theorem zh3 (a b c):ztJ (ztJ a b) c=ztJ a (ztJ b c):=by
 grind [ztJ,w64,IntKind.wrap_i64]
theorem zro (x y):ztJ (ztJ (-1) x) y=zt2 (ztJ x y) 1:=by
 grind [ztJ,zt2,w64,IntKind.wrap_i64]
structure zuY (a:Action):Prop where
 add:∀ c,addP c a.effect.delta 0=zB a.effect.delta c
 len:a.effect.delta.length≤20
theorem zuY.Add {n a} (h:zuY a) (hn:1000000≤n) (c):za5 n a.effect c=some (zB a.effect.delta c):=by
 have:=h.len;rw [zfl c (by omega) (by omega),h.add]
theorem zuY.added {n a} (h:zuY a) (hn:1000000≤n) (c):zL n a c=some (zB a.effect.delta c):=by
 have:=h.len
 grind [zah]
theorem zoj {S R} {body} {k n} {st:List Row→Bool→Bool→Nat→S} (Rr) (p q) (fin:List Row→Bool→Bool→Option R)
  (step:∀ rec rows x y i,i<k→rows.length≤i→body rec (st rows x y i)=rec (st (rows++[Rr i]) (x||p i) (y||q i) (i+1))) (done:∀ rec rows x y,rows.length≤k→body rec (st rows x y k)=fin rows x y) (hn:k<n) :
  ztO body n (st [] false false 0)=fin ((List.range k).map Rr) ((List.range k).any p) ((List.range k).any q):=by
 have:=zbn (σ:=List Row×Bool×Bool) (body:=body) (len:=k) (st:=λs i=>st s.1 s.2.1 s.2.2 i) (g:=λ_ _=>fin ((List.range k).map Rr) ((List.range k).any p) ((List.range k).any q)) (λi s=>s=((List.range i).map Rr,(List.range i).any p,(List.range i).any q)) (λrec i s c a b=>?_) (λrec s a=>?_) n 0 ([],false,false) (yp _) (by omega) rfl
 ·grind
 ·subst a;rw [step rec _ _ _ i c (by simp)];refine b (_,_,_) ?_;simp only [uK,List.any_append,uQ]
  grind
 grind
def zcF (c:Constraint) (cyc:List Int) (i:Nat):Int:=ztJ c.first (ztJ (ztZ (cyc.getD i 0) c.size) (cyc.getD ((i+1) % cyc.length) 0))
def zjB (A B:Int→Int) (c:Constraint) (cyc:List Int) (i:Nat):Row:=⟨[⟨zcF c cyc i,-1⟩],zt2 (ztJ (A (zcF c cyc i)) (B (zcF c cyc i))) 1⟩
def zdT (A B:Int→Int) (c:Constraint) (cyc:List Int):List (List Row):=
 if ((List.range cyc.length).any (λi=>decide (0<A (zcF c cyc i)))&&(List.range cyc.length).any (λi=>decide (0<B (zcF c cyc i))))=true then [(List.range cyc.length).map (zjB A B c cyc)] else []
def ziy (A B:Int→Int) (box:List Range) (c:Constraint) (K:Nat):List (List Row):=
 (cycP (hasP ⟨(K:Int),(List.range (K*K)).map λi:Nat=>decide (1≤ztJ ((idx box (ztJ c.first (i:Int))).getD default).hi (ztJ (A (ztJ c.first (i:Int))) (B (ztJ c.first (i:Int)))))⟩) K).flatMap (zdT A B c)
theorem zpC {K cyc} (hp:zuW K cyc) (h6:K≤6) {i} (hi:i<cyc.length):∃ r:Nat,zvg (ztJ (i:Int) 1) (cyc.length:Int)=some (r:Int)∧r<cyc.length∧r=(i+1) % cyc.length:=by
 have:=hp.len;rw [zd (by omega)];refine ⟨(i+1) % cyc.length,?_,Nat.mod_lt _ (by omega),rfl⟩;unfold zvg
 grind
theorem zq9 {l:List Int} {i} (hi):l.getD i 0=l[i]:=by grind
section
variable {n:Nat} {c:Constraint} {a b:Action} {K:Nat} (ha:zuY a) (hb:zuY b) (h6:K≤6) (hn:1000000≤n)
include ha hb h6 hn
theorem zqT {cyc} {b1} {k} (hp:zuW K cyc) (hb1:b1.length≤1000000) :
  ztO (zl.l3 n c a b b1 k cyc) n (([]:List Row),false,false,0)=k (b1++zdT (zB a.effect.delta) (zB b.effect.delta) c cyc):=by
 have m:=hp.len;have:=zoj (body:=zl.l3 n c a b b1 k cyc) (k:=cyc.length) (n:=n) (st:=λd x y i=>(d,x,y,i)) (zjB (zB a.effect.delta) (zB b.effect.delta) c cyc) (λi=>decide (0<zB a.effect.delta (zcF c cyc i))) (λi=>decide (0<zB b.effect.delta (zcF c cyc i)))
  (λd x y=>if (x&&y)=true then k (b1++[d]) else k b1) (λg d x y i f q=>?_) (λg d x y q=>?_) (by omega)
 ·unfold zdT
  grind
 ·obtain ⟨r,j,h,o⟩:=zpC hp h6 f;have e:ztJ c.first (ztJ (ztZ cyc[i] c.size) cyc[r])=zcF c cyc i:=by
   grind [zcF]
  have p:zaM n (ztJ (ztZ cyc[i] c.size) cyc[r]) a c b=some (ztJ (zB a.effect.delta (zcF c cyc i)) (zB b.effect.delta (zcF c cyc i))):=by
   unfold zaM;rw [e,ha.added hn,ya,hb.added hn,ya]
  simp only [zl.l3,zw f,zb f,ya,j,zb h,e,ha.added hn,hb.added hn,p,yo,yy];rw [zp (by grind),ya,zd (by omega)];rfl
 ·simp only [zl.l3]
  grind [zp]
theorem zqB {cs} {j:Nat} (hj) {b1} {k} (hp:zuW K cs[j]) (hb1:b1.length≤1000000) :
  ztO (zaf.l3 n c a.effect b.effect cs b1 (j:Int) k) n (([]:List Row),false,false,0)=k (b1++zdT (zB a.effect.delta) (zB b.effect.delta) c cs[j]):=by
 have hlen:=hp.len;have:=zoj (body:=zaf.l3 n c a.effect b.effect cs b1 (j:Int) k) (k:=cs[j].length) (n:=n) (st:=λrows x y i=>(rows,x,y,(i:Int))) (zjB (zB a.effect.delta) (zB b.effect.delta) c cs[j]) (λi=>decide (0<zB a.effect.delta (zcF c cs[j] i))) (λi=>decide (0<zB b.effect.delta (zcF c cs[j] i)))
  (λrows x y=>if (x&&y)=true then k (b1++[rows]) else k b1) (λrec rows x y i hi hr=>?_) (λrec rows x y hr=>?_) (by omega)
 ·grind [zdT]
 ·obtain ⟨r,hr1,hr2,hr3⟩:=zpC hp h6 hi;have hcell:ztJ (ztJ c.first (ztZ cs[j][i] c.size)) cs[j][r]=zcF c cs[j] i:=by
   rw [zh3];unfold zcF;rw [zq9 hi,← hr3,zq9 hr2]
  simp only [zaf.l3,zb hj,zw hi,if_true,zb hi,ya,hr1,zb hr2,hcell,ha.Add hn,hb.Add hn,yo,yi,yy,grd,zro];rw [zp (by simp;omega),ya,zd (by omega)];rfl
 ·simp only [zaf.l3,zb hj,ya,zaw,ye,if_false];split
  ·grind [zp]
  ·rfl
theorem zmD {box} (hs:c.size=(K:Int)) (h1:1≤K) (h0:0≤c.first) (hbx:c.first+((K*K:Nat):Int)≤(box.length:Int)) (hbl:box.length≤1000) :
  zl n box c a b=some (ziy (zB a.effect.delta) (zB b.effect.delta) box c K)∧zaf n box c a.effect b.effect=some (ziy (zB a.effect.delta) (zB b.effect.delta) box c K):=by
 have h4:K*K≤36:=uf h6 h6;have em:ztZ c.size c.size=((K*K:Nat):Int):=by
  grind [zht,Int.natCast_mul]
 have hmk:mkl 1 (ztZ c.size c.size) false=some (List.replicate (K*K) false):=by
  rw [em];unfold mkl;rw [if_pos (by omega),yz]
 obtain ⟨V,hV⟩:∃ V:Nat→Bool,V=λi:Nat=>decide (1≤ztJ ((idx box (ztJ c.first (i:Int))).getD default).hi (ztJ (zB a.effect.delta (ztJ c.first (i:Int))) (zB b.effect.delta (ztJ c.first (i:Int))))):=⟨_,rfl⟩
 obtain ⟨zt9,hE⟩:∃ zt9,zt9=(List.range (K*K)).map V:=⟨_,rfl⟩
 have hEl:zt9.length=K*K:=by grind
 have hbox:∀ i,i<K*K→∃ w,idx box (ztJ c.first (i:Int))=some w:=λi hi=>za7 (by grind [zcp]) (by grind [zcp])
 have hcyc:zbF n (K:Int) zt9=some (cycP (hasP ⟨(K:Int),zt9⟩) K):=zjz h1 h6 hEl hn;have hrcyc:zJ n (K:Int) zt9=some (cycP (hasP ⟨(K:Int),zt9⟩) K):=zlU h1 h6 hEl hn;obtain ⟨cyc,hcy⟩:∃ cyc,cyc=cycP (hasP ⟨(K:Int),zt9⟩) K:=⟨_,rfl⟩
 have hcl:cyc.length≤900000:=by
  obtain ⟨r,r1,r2,-⟩:=zmx (n:=n) (size:=(K:Int)) (zt9:=zt9) rfl h1 h6 hEl hn
  grind
 have hcp:∀ l∈cyc,zuW K l:=λl hl=>by
  rw [hcy] at hl;obtain ⟨r,-,hl⟩:=ue.1 hl
  grind [ziO,ziV]
 have hres:ziy (zB a.effect.delta) (zB b.effect.delta) box c K=cyc.flatMap (zdT (zB a.effect.delta) (zB b.effect.delta) c):=by
  grind [ziy]
 rw [← hcy] at hcyc hrcyc;rw [hres];have hgl:∀ x:List Int,(zdT (zB a.effect.delta) (zB b.effect.delta) c x).length≤1:=λx=>by grind [zdT]
 constructor
 ·unfold zl;rw [hmk,ya];have:=zM (body:=zl.l1 n box c a b (List.replicate (K*K) false)) (len:=K*K) (st:=λi=>((List.range i).map V++List.replicate (K*K - i) false,(i:Int))) (g:=λ_=>some (cyc.flatMap (zdT (zB a.effect.delta) (zB b.effect.delta) c))) (λrec i hi hr=>?_) (λrec=>?_) n 0 (yp _) (by omega)
  ·simpa using this
  ·have hlt:decide ((i:Int)<((List.replicate (K*K) false).length:Int))=true:=by simp;omega
   obtain ⟨w,hw⟩:=hbox i hi;have hz:zaM n (i:Int) a c b=some (ztJ (zB a.effect.delta (ztJ c.first (i:Int))) (zB b.effect.delta (ztJ c.first (i:Int)))):=by
    unfold zaM;rw [ha.added hn,ya,hb.added hn,ya]
   have hvi:V i=decide (1≤ztJ w.hi (ztJ (zB a.effect.delta (ztJ c.first (i:Int))) (zB b.effect.delta (ztJ c.first (i:Int))))):=by rw [hV];simp only [hw,yi]
   have hin:i<((List.range i).map V++List.replicate (K*K - i) false).length:=by simp;omega
   have hst:sto ((List.range i).map V++List.replicate (K*K - i) false) (i:Int) (V i)=some ((List.range (i+1)).map V++List.replicate (K*K - (i+1)) false):=by
    unfold sto;rw [if_pos ⟨by omega,by omega⟩,yz];congr 1;rw [uN _ _ (by simp),show K*K - i=(K*K - (i+1))+1 by omega,List.replicate_succ];simp [uK]
   simp only [zl.l1,hlt,if_true,hw,ya,hz,zb hin];rw [← hvi,hst,ya,zd (by omega)];exact hr
  ·have hge:decide (((K*K:Nat):Int)<((List.replicate (K*K) false).length:Int))=false:=by simp
   have e0:(List.range (K*K)).map V++List.replicate (K*K - K*K) false=zt9:=by rw [hE];simp
   simp only [zl.l1,hge,ye,if_false,e0];rw [hs,hcyc,ya];have:=zcQ (body:=zl.l2 n c a b cyc) (k:=cyc.length) (n:=n) (st:=λ(s:List (List Row)) i=>(s,(i:Int))) (λi=>zdT (zB a.effect.delta) (zB b.effect.delta) c (cyc.getD i [])) some 1 [] (λi _=>hgl _) (λrec s i hi hI=>?_) (λrec s hI=>?_) (by omega)
   ·rw [zjE] at this;simpa using this
   ·have e:cyc.getD i []=cyc[i]:=by simp [yY,hi]
    rw [e];simp only [zl.l2,zw hi,if_true,jn,zb hi,ya];rw [zqT ha hb h6 hn (hcp _ (ym hi)) (by simp at hI;omega),zd (by omega)]
   ·simp only [zl.l2,zaw,ye,if_false]
 ·unfold zaf;have:=zcQ (body:=zaf.l1 n box c a.effect b.effect) (k:=K*K) (n:=n) (st:=λ(s:List Bool) i=>(s,(i:Int))) (λi=>[V i]) (λs=>(zJ n c.size s).bind λx59_21=>ztO (zaf.l2 n c a.effect b.effect x59_21) n (([]:List (List Row)),0)) 1 [] (λi _=>by simp) (λrec s i hi hI=>?_) (λrec s hI=>?_) (by omega)
  ·have e0:(List.range (K*K)).flatMap (λi=>[V i])=zt9:=by rw [hE,List.map_eq_flatMap]
   rw [e0,yU,hs,hrcyc,ya] at this;refine this.trans ?_;have:=zcQ (body:=zaf.l2 n c a.effect b.effect cyc) (k:=cyc.length) (n:=n) (st:=λ(s:List (List Row)) i=>(s,(i:Int))) (λi=>zdT (zB a.effect.delta) (zB b.effect.delta) c (cyc.getD i [])) some 1 [] (λi _=>hgl _) (λrec s i hi hI=>?_) (λrec s hI=>?_) (by omega)
   ·rw [zjE] at this;simpa using this
   ·have e:cyc.getD i []=cyc[i]:=by simp [yY,hi]
    rw [e];simp only [zaf.l2,zw hi,if_true,jn];rw [zqB ha hb h6 hn hi (hcp _ (ym hi)) (by simp at hI;omega),zd (by omega)]
   ·simp only [zaf.l2,zaw,ye,if_false]
  ·have hlt:decide ((i:Int)<ztZ c.size c.size)=true:=by rw [em];simp;omega
   obtain ⟨w,hw⟩:=hbox i hi;have hvi:V i=decide (1≤ztJ (ztJ w.hi (zB a.effect.delta (ztJ c.first (i:Int)))) (zB b.effect.delta (ztJ c.first (i:Int)))):=by rw [hV,zh3];simp only [hw,yi]
   simp only [zaf.l1,hlt,if_true,hw,ya,ha.Add hn,hb.Add hn];rw [← hvi,zp (by simp at hI;simp;omega),ya,zd (by omega)]
  ·have hge:decide (((K*K:Nat):Int)<ztZ c.size c.size)=false:=by rw [em];simp
   simp only [zaf.l1,hge,ye,if_false]
end
theorem zuY.zxC {n a r x} (h:zuY a) (ha:zuV a) (hr:r.ztP.length≤1000) (hx:zI n a r=some x) (hn:1000000≤n):zbw n a.effect r=some x:=by
 have:=ha.delta;rw [← hx,zoy (by omega) (by omega) (by omega) (by omega),zcr (by omega) (by omega) (by omega) (by omega),ziz h.add]
theorem zuY.Sum {n a r} (h:zuY a) (ha:zuV a) (hr:r.ztP.length≤1000) (hn:1000000≤n):zbw n a.effect r=some (chgN n a r):=h.zxC ha hr (zeF ha hr hn) hn
theorem zoG {n c e f} (h:∀ x,za5 n e x=f x):zbB n c e=zH n c f:=by
 have:zbB.l1 n c e=zH.l1 n c f:=by
  grind [zbB.l1,zH.l1]
 grind [zbB,zH]
theorem rgraph0 {n K c} (hc:zvp K c) (hk:c.kind=1) (hn:1000000≤n):zbB n c ⟨[],[],[]⟩=some (gr n c λq0=>zaT n q0):=by
 rw [zoG (f:=λq0=>zaT n q0) λx=>?_]
 ·exact (zee hc hk (λx=>⟨_,rfl⟩) hn).1
 ·rw [zfl x (by simp) (by grind)];rfl
theorem zym {n K a c} (sa:zuY a) (hc:zvp K c) (hk:c.kind=1) (hn:1000000≤n):zbB n c a.effect=some (gr n c λq0=>zP n q0 a):=by
 rw [zoG (f:=λq0=>zP n q0 a) λx=>?_]
 ·exact (zee hc hk (λx=>⟨zB a.effect.delta x,by unfold zP;rw [sa.added hn];rfl⟩) hn).1
 ·unfold zP;rw [sa.Add hn,sa.added hn];rfl
theorem rgraph4 {n K a c} (sa:zuY a) (hc:zvp K c) (hk:c.kind=1) (hn:1000000≤n):zbB n c a.effect=some (gr n c λq0=>zac n q0 a):=zym sa hc hk hn
theorem zmY {n K a c} (sa:zuY a) (hc:zvp K c) (hk:c.kind=1) (hn:1000000≤n):zbI n a.effect c=some (decide (0<(((zz n a c).getD []).length:Int))):=by
 obtain ⟨k,b,d⟩:=hc.mul hk;have:=sa.len;rw [zlW b (by omega) (by omega) (by omega) (by omega) sa.add,zdk b (by omega) (by omega) (by omega) (by omega)];simp
theorem zo9 {n r} (hl:r.ztP.length≤1000) (hn:1000000≤n):zcD n r=some r:=by
 unfold zcD;have:=zeh (body:=zcD.l1 n r) (l:=r.ztP) (n:=n) (st:=λb i=>(b,i)) (λt =>t) (λb=>some (⟨b,r.bound⟩)) [] (λa b i d c=>?_) (λa b c=>?_) (by omega)
 ·simp_all
 ·simp only [zcD.l1,zb d]
  grind [zp,zd]
 ·simp [zcD.l1]
theorem zrF {n r B} (hl:r.ztP.length≤1000) (hn:1000000≤n):zbf n r B=some ⟨r.ztP.map λt=>⟨t.cell,zuH t.ztV⟩,B⟩:=by
 unfold zbf;have:=zeh (body:=zbf.l1 n r B) (l:=r.ztP) (n:=n) (st:=λb i=>(b,i)) (λt =>(⟨t.cell,zuH t.ztV⟩)) (λb=>some (⟨b,B⟩)) [] (λa b i d c=>?_) (λa b c=>?_) (by omega)
 ·grind
 ·simp only [zbf.l1,zb d]
  grind [zp,zd]
 ·simp [zbf.l1]
theorem zoz {n l v} (hl:l.length<1000000) (hn:1000000≤n):zfP n l v=some (decide (v∈l)):=by
 have:zfP.l1 n l v=zde.l1 n l v:=rfl;unfold zfP;exact zks hl hn
noncomputable def zw6 (n:Nat) (m:Model) (q:Question) (a b:Action) (box:List Range) (R:List Row) (G:List zuc):Option (System×Int):=
  jn (λ(v:(List Row)×(List (List Row)))=>
   let b4_154:=v.1
   let c1_3_155:=v.2
   (zad n (⟨box,b4_154,G,c1_3_155⟩:System)).bind λx311_168=>
   if (!x311_168)=true then
    some ((⟨[],[],[],[]⟩:System),8)
   else
    some ((⟨box,b4_154,G,c1_3_155⟩:System),0)) λk_156=>
  if q.target.hold=true then
   (idx a.effect.hold q.target.index).bind λx243_157=>
   (zbw n b.effect x243_157).bind λx253_158=>
   (zbf n x243_157 (zt2 (ztJ (zuH x243_157.bound) x253_158) 1)).bind λx256_159=>
   (app 32 R [x256_159]).bind λx258_160=>
   k_156 (x258_160,[])
  else
   (idx m.constraints q.target.index).bind λx265_161=>
   if (x265_161.kind==0)=true then
    (zbw n a.effect x265_161.row).bind λx281_162=>
    (zbw n b.effect x265_161.row).bind λx286_163=>
    (zbf n x265_161.row (zt2 (ztJ (ztJ (zuH x265_161.row.bound) x281_162) x286_163) 1)).bind λx289_164=>
    (app 32 R [x289_164]).bind λx291_165=>
    k_156 (x291_165,[])
   else
    (zaf n box x265_161 a.effect b.effect).bind λx298_166=>
    if ((x298_166.length:Int)==0)=true then
     (app 32 R [(⟨[],(-1)⟩:Row)]).bind λx308_167=>
     k_156 (x308_167,x298_166)
    else
     k_156 (R,x298_166)
noncomputable def zkx (n:Nat) (m:Model) (q:Question) (a b:Action) (box:List Range) (R:List Row):Option (System×Int):=ztO (zt.l3 n m q a b box) n (R,0)
theorem zoF {n K m q a b box R} (ha:zuV a) (hb:zuV b) (hc:∀ c∈m.constraints,zvp K c) (sa:zuY a) (sb:zuY b) (hl:m.constraints.length≤1000) (hn:1000000≤n) :
  ztO (zt.l5 n m q a b box R) n ([],0)=zw6 n m q a b box R ((List.range m.constraints.length).flatMap λi=>gS n (q.e != q.f) a b (m.constraints.getD i default)):=by
 have:=zcQ (body:=zt.l5 n m q a b box R) (k:=m.constraints.length) (n:=n) (st:=λb i=>(b,(i:Int))) (λi=>gS n (q.e != q.f) a b (m.constraints.getD i default)) (zw6 n m q a b box R) 3 []
  (λi hi=>?_) (λrec b7 i hi hI=>?_) (λrec b7 hI=>?_) (by omega)
 ·grind
 ·grind [default,List.getD,zpN,List.getElem_mem]
 ·have e:m.constraints.getD i default=m.constraints[i]:=by grind
  have hci:=hc _ (ym hi);have hI':b7.length≤3000:=by grind
  simp only [zt.l5,zw hi,if_true,jn,zb hi,ya,e,zd (i:=i) (by omega)];unfold gS;by_cases hk:(m.constraints[i].kind != 1)=true
  ·grind
  ·rw [if_neg hk,if_neg hk];have hk:m.constraints[i].kind=1:=by grind
   obtain ⟨ra,hra⟩:=zhv ha hci hk hn;obtain ⟨rb,hrb⟩:=zhv hb hci hk hn;rw [rgraph0 hci hk hn,zmY sa hci hk hn,zmY sb hci hk hn,zym sa hci hk hn,rgraph4 sb hci hk hn,hra,hrb];simp only [ya,yi];rw [zp (by grind),ya,Bool.and_comm (decide (0<(rb.length:Int))) (q.e != q.f)];by_cases h3:(decide (0<(ra.length:Int)))=true
   ·rw [if_pos h3,if_pos h3,zp (by grind),ya];by_cases h4:((q.e != q.f)&&decide (0<(rb.length:Int)))=true
    ·rw [if_pos h4,if_pos h4,zp (by grind),ya]
     grind
    grind
   ·rw [if_neg h3,if_neg h3];by_cases h4:((q.e != q.f)&&decide (0<(rb.length:Int)))=true
    ·rw [if_pos h4,if_pos h4,zp (by simp;omega),ya];simp only [yM,yU]
    ·rw [if_neg h4,if_neg h4];simp only [y8]
 ·simp only [zt.l5,zaw,ye,if_false];rfl
theorem zsg {n K m q a b box R} (ha:zuV a) (hb:zuV b) (hc:∀ c∈m.constraints,zvp K c) (sa:zuY a) (sb:zuY b) (hl:m.constraints.length≤1000) (hR:R.length≤1000) (hn:1000000≤n) :
  zkx n m q a b box R=zw6 n m q a b box (R++(a.effect.hold++(if (q.e != q.f)=true then b.effect.hold else []))) ((List.range m.constraints.length).flatMap λi=>gS n (q.e != q.f) a b (m.constraints.getD i default)):=by
 have h1:=ha.hold;have h2:=hb.hold;have second:∀ R2:List Row,R2.length≤2000→ztO (zt.l4 n m q a b box) n (R2,0)=zw6 n m q a b box (R2++(if (q.e != q.f)=true then b.effect.hold else [])) ((List.range m.constraints.length).flatMap λi=>gS n (q.e != q.f) a b (m.constraints.getD i default)):=λR2 hR2=>by
  by_cases he:(q.e != q.f)=true
  ·rw [if_pos he,← zoF ha hb hc sa sb hl hn];have:=zeh (body:=zt.l4 n m q a b box) (l:=b.effect.hold) (n:=n) (st:=λb i=>(b,(i:Int))) (λr:Row=>r) (λR3=>ztO (zt.l5 n m q a b box R3) n (([]:List zuc),0)) R2 (λrec b6 i hi hb6=>?_) (λrec b6 hb6=>?_) (by omega)
   ·simp_all
   ·simp only [zt.l4,zw hi,he,uL,if_true,zb hi,ya,zo9 (hb.ztP _ (ym hi)) hn]
    grind [zp,zd]
   ·simp only [zt.l4,zaw,uh,ye,if_false]
  ·rw [if_neg he,y8,← zoF ha hb hc sa sb hl hn,zgU (by omega)];simp only [zt.l4,he,Bool.and_false,ye,if_false]
 unfold zkx;have:=zeh (body:=zt.l3 n m q a b box) (l:=a.effect.hold) (n:=n) (st:=λb i=>(b,(i:Int))) (λr:Row=>r) (λR2=>ztO (zt.l4 n m q a b box) n (R2,0)) R (λrec b6 i hi hb6=>?_) (λrec b6 hb6=>?_) (by omega)
 ·grind [List.map_id',List.append_assoc]
 ·simp only [zt.l3,zw hi,if_true,zb hi,ya,zo9 (ha.ztP _ (ym hi)) hn]
  grind [zp,zd]
 ·simp only [zt.l3,zaw,ye,if_false]
theorem zsk {n m q a b box} (ha:zuV a) (hb:zuV b) (hc:∀ c∈m.constraints,zvp box.length c) (hl:m.constraints.length≤1000) (hbx:box.length≤1000)
  (sa:zuY a) (sb:zuY b)
  (hh:q.target.hold=true→0≤q.target.index∧q.target.index<(a.effect.hold.length:Int)) (hh2:q.target.hold=false→0≤q.target.index∧q.target.index<(m.constraints.length:Int)) (hn:1000000≤n) :
  ∃ (X:List Row) (G:List zuc) (cs:List (List Row)),(X.length≤30∧∀ r∈X,r.ztP.length≤1000)∧(G.length≤3000∧∀ g∈G,g.least.length≤36)∧zgw cs ∧
   ∀ R ,R.length≤1000→zwK n m q a b box R=endS n ⟨box,R++X,G,cs⟩ (zak n ⟨box,R++X,G,cs⟩)∧zkx n m q a b box R=endS n ⟨box,R++X,G,cs⟩ (zad n ⟨box,R++X,G,cs⟩):=by
 obtain ⟨H,hH⟩:∃ H:List Row,H=a.effect.hold++(if (q.e != q.f)=true then b.effect.hold else []):=⟨_,rfl⟩
 have hHl:H.length≤20∧∀ r∈H,r.ztP.length≤1000:=by
  have h1:=ha.hold;have h2:=hb.hold;rw [hH];constructor
  ·grind
  ·intro r hr;rcases yr.1 hr with hr | hr
   ·exact ha.ztP r hr
   ·split at hr
    ·exact hb.ztP r hr
    ·simp at hr
 have hstep:∀ R:List Row,R.length≤1000→zwK n m q a b box R=zdy n m q a b box (R++H):=λR hR=>by
  have h1:=ha.hold;have h2:=hb.hold;have hloop:ztO (zf.l3 n m q a b box H) n (R,0)=zdy n m q a b box (R++H):=by
   have:=zeh (body:=zf.l3 n m q a b box H) (l:=H) (n:=n) (st:=λb i=>(b,(i:Int))) (λr:Row=>r) (zdy n m q a b box) R (λrec b6 i hi hb6=>?_) (λrec b6 hb6=>?_) (by omega)
   ·simpa using this
   ·simp only [zf.l3,zw hi,if_true,zb hi,ya,zrL (hHl.2 _ (ym hi)) hn];rw [zp (by first | omega | (simp;omega)),ya,zd (by omega)]
   ·simp only [zf.l3,zaw,ye,if_false];rfl
  unfold zwK;simp only [jn];rw [zp (by first | omega | (simp;omega)),ya,yU];by_cases he:(q.e != q.f)=true
  ·rw [if_pos he,zp (by first | omega | (simp;omega)),ya,← hloop,hH,if_pos he]
  ·rw [if_neg he,← hloop,hH,if_neg he,y8]
 obtain ⟨G,hG⟩:∃ G,G=(List.range m.constraints.length).flatMap λi=>gS n (q.e != q.f) a b (m.constraints.getD i default):=⟨_,rfl⟩
 have hGl:G.length≤3000∧∀ g∈G,g.least.length≤36:=by
  have key:∀ k,k≤m.constraints.length→((List.range k).flatMap λi=>gS n (q.e != q.f) a b (m.constraints.getD i default)).length≤3*k∧∀ g∈((List.range k).flatMap λi=>gS n (q.e != q.f) a b (m.constraints.getD i default)),g.least.length≤36:=by
   intro k
   induction k with
   | zero=>intro _;simp
   | succ k ih=>
    intro hk;obtain ⟨i1,i2⟩:=ih (by omega);have e:m.constraints.getD k default=m.constraints[k]'(by omega):=by simp [List.getD,show k<m.constraints.length by omega]
    obtain ⟨g1,g2⟩:=zpN (n:=n) (ef:=(q.e != q.f)) ha hb (hc _ (ym (show k<m.constraints.length by omega))) hn;rw [zjS,e];constructor
    ·rw [yQ];omega
    ·intro g hg;rcases yr.1 hg with hg | hg
     ·exact i2 g hg
     ·exact g2 g hg
  rw [hG];obtain ⟨k1,k2⟩:=key _ (yk _);exact ⟨by omega,k2⟩
 have h0:∀ (c:Constraint) (R:List Row),(c.kind==1)=false→finS n box a b R c G=endS n ⟨box,R,G,[]⟩ (zak n ⟨box,R,G,[]⟩):=λc R hk=>by
  unfold finS;simp only [jn,hk,ye,if_false];rfl
 have c0:zgw []:=⟨by simp,by simp⟩
 have rstep:∀ R:List Row,R.length≤1000→zkx n m q a b box R=zw6 n m q a b box (R++H) G:=λR hR=>by
  rw [zsg ha hb hc sa sb hl hR hn,hG,hH]
 cases hhold:q.target.hold with
 | true=>
  obtain ⟨i1,i2⟩:=hh hhold;obtain ⟨r,hr⟩:=za7 i1 i2;have hrl:=ha.ztP r (zbb hr);obtain ⟨x,hx⟩:=zhp hb hrl hn;have hsx:=sb.zxC hb hrl hx hn;have hnr:=zeG (n:=n) (r:=r) (f:=λq0=>zaN n q0) (g:=λq0=>zam n q0 x) (fP:=zuH) (B:=zt2 (ztJ (zuH r.bound) x) 1) (λ_=>rfl) rfl hrl hn;refine ⟨H++[⟨r.ztP.map λt=>⟨t.cell,zuH t.ztV⟩,zt2 (ztJ (zuH r.bound) x) 1⟩],G,[],⟨by first | omega | (simp;omega),λs hs=>?_⟩,hGl,c0,λR hR=>?_⟩
  ·rcases yr.1 hs with hs | hs
   ·exact hHl.2 s hs
   ·simp at hs;subst hs;simpa using hrl
  ·refine ⟨?_,?_⟩
   rotate_left
   ·rw [rstep R hR];unfold zw6;simp only [jn,hhold,if_true,hr,ya,hsx,zrF hrl hn];rw [zp (by first | omega | (simp;omega)),ya,yM];rfl
   rw [hstep R hR];unfold zdy;simp only [jn,hhold,if_true,hr,ya,hx,hnr];rw [zp (by first | omega | (simp;omega)),ya];have:=zkW (q:=q) (a:=a) (b:=b) (box:=box) (R:=R++H++[⟨r.ztP.map λt=>⟨t.cell,zuH t.ztV⟩,zt2 (ztJ (zuH r.bound) x) 1⟩]) (c:=⟨0,0,⟨[],0⟩,0,0⟩) ha hb hc hl hn;rw [← hG] at this;rw [yM] at this ⊢;exact this.trans (h0 _ _ rfl)
 | false=>
  obtain ⟨i1,i2⟩:=hh2 hhold;obtain ⟨c,hcx⟩:=za7 i1 i2;have hco:=hc c (zbb hcx);have hgl:=λR:List Row=>(zkW (q:=q) (a:=a) (b:=b) (box:=box) (R:=R) (c:=c) ha hb hc hl hn)
  rw [← hG] at hgl;rcases hco.kind with hk | hk
  ·obtain ⟨x,hx⟩:=zhp ha hco.len hn;obtain ⟨y,hy⟩:=zhp hb hco.len hn;have hsx:=sa.zxC ha hco.len hx hn;have hsy:=sb.zxC hb hco.len hy hn;have hnr:=zeG (n:=n) (r:=c.row) (f:=λq0=>zaN n q0) (g:=λq0=>zam n q0 (ztJ x y)) (fP:=zuH) (B:=zt2 (ztJ (zuH c.row.bound) (ztJ x y)) 1) (λ_=>rfl) rfl hco.len hn;refine ⟨H++[⟨c.row.ztP.map λt=>⟨t.cell,zuH t.ztV⟩,zt2 (ztJ (zuH c.row.bound) (ztJ x y)) 1⟩],G,[],⟨by first | omega | (simp;omega),λs hs=>?_⟩,hGl,c0,λR hR=>?_⟩
   ·rcases yr.1 hs with hs | hs
    ·exact hHl.2 s hs
    ·simp at hs;subst hs;simpa using hco.len
   ·have hk':(c.kind==0)=true:=by simp [hk]
    refine ⟨?_,?_⟩
    rotate_left
    ·rw [rstep R hR];unfold zw6;simp only [jn,hhold,ye,if_false,hcx,ya,hk',if_true,hsx,hsy,zrF hco.len hn,zh3];rw [zp (by first | omega | (simp;omega)),ya,yM];rfl
    rw [hstep R hR];unfold zdy;simp only [jn,hhold,ye,if_false,hcx,ya,hk',if_true,hx,hy,hnr];rw [zp (by first | omega | (simp;omega)),ya,yM];exact (hgl _).trans (h0 _ _ (by simp [hk]))
  ·obtain ⟨s,s1,s2,s3,s4,s5⟩:=hco.sz hk;obtain ⟨cs,hcs,hcsO⟩:=zn4 (n:=n) (box:=box) (e:=a) (f:=b) s1 s2 s3 s4 s5 hbx ha.delta hb.delta hn;have hrc:zaf n box c a.effect b.effect=some cs:=by
    have:=zmD (n:=n) (c:=c) sa sb s3 hn (box:=box) s1 s2 s4 s5 hbx;rw [this.2,← this.1,hcs]
   have hk0:(c.kind==0)=false:=by simp [hk]
   have hk1:(c.kind==1)=true:=by simp [hk]
   by_cases he:((cs.length:Int)==0)=true
   ·refine ⟨H++[⟨[],-1⟩],G,cs,⟨by first | omega | (simp;omega),λs hs=>?_⟩,hGl,hcsO,λR hR=>?_⟩
    ·rcases yr.1 hs with hs | hs
     ·exact hHl.2 s hs
     ·simp at hs;subst hs;simp
    ·refine ⟨?_,?_⟩
     rotate_left
     ·rw [rstep R hR];unfold zw6;simp only [jn,hhold,ye,if_false,hcx,ya,hk0,hrc,he,if_true];rw [zp (by first | omega | (simp;omega)),ya,yM];rfl
     rw [hstep R hR];unfold zdy;simp only [jn,hhold,ye,if_false,hcx,ya,hk0];refine (hgl _).trans ?_;unfold finS;simp only [jn,hk1,if_true,hcs,ya,he];rw [zp (by first | omega | (simp;omega)),ya,yM];rfl
   ·refine ⟨H,G,cs,⟨by omega,hHl.2⟩,hGl,hcsO,λR hR=>?_⟩;refine ⟨?_,?_⟩
    rotate_left
    ·rw [rstep R hR];unfold zw6;simp only [jn,hhold,ye,if_false,hcx,ya,hk0,hrc];rw [if_neg he];rfl
    rw [hstep R hR];unfold zdy;simp only [jn,hhold,ye,if_false,hcx,ya,hk0];refine (hgl _).trans ?_;unfold finS;simp only [jn,hk1,if_true,hcs,ya];rw [if_neg he];rfl
theorem zqE {n m q rows a b box} (ha:zuV a) (hb:zuV b) (hc:∀ c∈m.constraints,zvp box.length c) (sa:zuY a) (sb:zuY b) (hl:m.constraints.length≤1000) (hr:rows.length≤1000) (hn:1000000≤n) :
  ztO (zt.l2 n m q rows a b box) n ([],0)=zkx n m q a b box (zvD n m q rows a b):=by
 have:=zcQ (body:=zt.l2 n m q rows a b box) (k:=m.constraints.length) (n:=n) (st:=λb i=>(b,(i:Int))) (λi=>rowS n q rows a b i (m.constraints.getD i default)) (zkx n m q a b box) 1 []
  (λi hi=>?_) (λrec b6 i hi hI=>?_) (λrec b6 hI=>?_) (by omega)
 ·simpa [zvD] using this
 ·unfold rowS;split <;> simp
 ·have e:m.constraints.getD i default=m.constraints[i]:=by simp [List.getD,hi]
  have hci:=hc _ (ym hi);have hI':b6.length≤3000:=by simp at hI;omega
  rw [e];simp only [zt.l2,zw hi,if_true,jn,zb hi,ya,sa.Sum ha hci.len hn,sb.Sum hb hci.len hn,zoz (show rows.length<1000000 by omega) hn,zo9 hci.len hn];unfold rowS;by_cases hk:(m.constraints[i].kind != 0)=true
  ·rw [if_pos hk,if_pos hk,y8,zd (by omega)]
  ·rw [if_neg hk,if_neg hk];unfold kS;split <;> (rw [zp (by first | omega | (simp;omega)),ya,zd (by omega)])
 ·simp only [zt.l2,zaw,ye,if_false];rfl
theorem zmm {n m q rows a b} (hF:Fuel n) (hS:zuz m) (hV:zvt m) (hq:zgp m q=true) (ha:idx m.ztL q.e=some a) (hb:idx m.ztL q.f=some b) (hA:zuV a) (hB:zuV b) (hc:∀ c∈m.constraints,zvp (boxM m).length c) (sa:zuY a) (sb:zuY b) (hr:rows.length≤1000) :
  zt n m q rows=if (rows.all λx=>!badR m x)=true then zkx n m q a b (boxM m) (zvD n m q rows a b) else some (⟨[],[],[],[]⟩,2):=by
 have hn:=hF.big;have hn1:1000000≤n:=by omega
 have hcl:=hS.constraints;unfold zt;rw [zhW hn hS,zfY.2 hV,hq,ya,if_neg (by simp)];have:=zat (body:=zt.l1 n m q rows) (l:=rows) (n:=n) (st:=λi=>(i:Int)) (λx=>!badR m x) (some (⟨[],[],[],[]⟩,2)) (zkx n m q a b (boxM m) (zvD n m q rows a b)) (λrec i hi=>?_) (λrec=>?_) (by omega)
 ·simpa using this
 ·simp only [zt.l1,zw hi,if_true,zb hi,ya,yo,yi,yy,grd];by_cases h1:(decide (rows[i]<0)||decide ((m.constraints.length:Int)≤rows[i]))=true
  ·have hbad:badR m rows[i]=true:=by unfold badR;rw [h1];rfl
   rw [hbad];simp only [h1,uC,if_true,ui,ye,if_false]
  ·have h2:=h1;simp only [yK,yg,not_or,Int.not_le,Int.not_lt] at h2;obtain ⟨c,hcx⟩:=za7 h2.1 h2.2;simp only [yO] at h1;unfold badR;simp only [h1,hcx,ur,yo,if_true,yi,zd (i:=i) (by omega)];cases c.kind != 0 <;> simp
 ·simp only [zt.l1,zaw,ye,if_false,ha,hb,zox hS hV.lay hn1,ya];exact zqE hA hB hc sa sb (by omega) hr hn1
theorem zk1 {n m} (hn:4294967296≤n) (hS:zuz m) (hV:zvt m) {a} (ha:a∈m.ztL):zuY a:=
 ⟨((znk hn hS hV).acts a ha).2.2.1,by have:=(zmz hS ha).delta;omega⟩
section
variable {E:Nat→Nat→Bool} {K:Nat}
theorem zpv {p}:∀ {k i:Nat},anyR p i k=true↔∃ j,i≤j∧j<i+k∧p j=true
 | 0,i=>by simp [anyR];omega
 | k+1,i=>by
  simp only [anyR,yK,zpv (k:=k) (i:=i+1)];constructor
  ·rintro (h | ⟨j,h1,h2,h3⟩)
   ·exact ⟨i,yk _,by omega,h⟩
   ·exact ⟨j,by omega,by omega,h3⟩
  ·rintro ⟨j,h1,h2,h3⟩;by_cases e:i=j
   ·subst e;exact .inl h3
   ·exact .inr ⟨j,by omega,by omega,h3⟩
theorem ziN:∀ (r:Nat) (ls:List (List Int)),lev E K r ls=ls.flatMap λl=>lev E K r [l]
 | 0,ls=>by simp [lev]
 | r+1,ls=>by
  have e:∀ l,lev E K (r+1) [l]=(ext E K l).flatMap λx=>lev E K r [x]:=λl=>by
   have:lev E K (r+1) [l]=lev E K r (ext E K l):=by simp [lev]
   rw [this,ziN r]
  simp only [e];rw [lev,ziN r,List.flatMap_assoc]
theorem zod {l x} (h:l≠[]):fstN (l++[x])=fstN l:=by
 cases l with
 | nil=>exact absurd rfl h
 | cons a t=>rfl
theorem zeU {l:List Int} {x:Nat}:lstN (l++[(x:Int)])=x:=by simp [lstN]
theorem zeW {l x}:x∈ext E K l↔∃ j,fstN l+1≤j∧j<K∧E (lstN l) j=true∧(j:Int)∉l∧x=l++[(j:Int)]:=by
 constructor
 ·intro h;obtain ⟨i,h1,h2,h3,h4⟩:=zjN E K h;exact ⟨fstN l+1+i,by omega,by omega,h2,h3,h4⟩
 ·rintro ⟨j,h1,h2,h3,h4,rfl⟩;refine ue.2 ⟨j - (fstN l+1),y7.2 (by omega),?_⟩;have e:fstN l+1+(j - (fstN l+1))=j:=by omega
  unfold ext1;rw [e,if_pos (by simp [h3,h4])];simp
theorem znz:∀ (d:Nat) (path:List Int) (first last:Nat),path≠[]→fstN path=first→lstN path=last →
  (neP E K d path first last=true↔∃ x∈lev E K d [path],zec E x=true)
 | 0,path,first,last,_,h1,h2=>by
  subst h1 h2;simp [neP,lev,zec]
 | d+1,path,first,last,h0,h1,h2=>by
  subst h1 h2;have e:lev E K (d+1) [path]=lev E K d (ext E K path):=by simp [lev]
  rw [e,ziN,neP,zpv];simp only [ue];constructor
  ·rintro ⟨j,j1,j2,j3⟩;simp only [yd,yB,uc,yH,Bool.not_eq_false'] at j3;obtain ⟨⟨j3,j4⟩,j5⟩:=j3;obtain ⟨x,x1,x2⟩:=(znz d (path++[(j:Int)]) (fstN path) j (by simp) (zod h0) zeU).1 j5;exact ⟨x,⟨_,zeW.2 ⟨j,j1,by omega,j4,j3,rfl⟩,x1⟩,x2⟩
  ·rintro ⟨x,⟨y,y1,y2⟩,x2⟩;obtain ⟨j,j1,j2,j3,j4,rfl⟩:=zeW.1 y1;refine ⟨j,j1,by omega,?_⟩;simp only [yd,yB,uc,yH,Bool.not_eq_false'];exact ⟨⟨j4,j3⟩,(znz d (path++[(j:Int)]) (fstN path) j (by simp) (zod h0) zeU).2 ⟨x,y2,x2⟩⟩
theorem zhs {x}:x∈cycP E K↔∃ r,r<K∧x∈lev E K r (ones K)∧zec E x=true:=by
 simp only [cycP,ue,y7,List.mem_filter]
theorem zn0:zwG E K=true↔∀ x,x∉cycP E K:=by
 unfold zwG;rw [zkU];constructor
 ·intro h x hx;obtain ⟨r,r1,r2,r3⟩:=zhs.1 hx;rw [ziN] at r2;obtain ⟨l,l1,l2⟩:=ue.1 r2;obtain ⟨a,a1,rfl⟩:=yZ.1 l1;have:=zj9.1 (h (r+1) (by omega) (by omega)) a (y7.1 a1);rw [Nat.add_sub_cancel,(znz r [(a:Int)] a a (by simp) (by simp [fstN]) (by simp [lstN])).2 ⟨x,l2,r3⟩] at this;cases this
 ·intro h len h1 h2;refine zj9.2 λa ha=>?_
  cases hn:neP E K (len - 1) [(a:Int)] a a with
  | false=>rfl
  | true=>
   obtain ⟨x,x1,x2⟩:=(znz (len - 1) [(a:Int)] a a (by simp) (by simp [fstN]) (by simp [lstN])).1 hn;refine absurd (zhs.2 ⟨len - 1,by omega,?_,x2⟩) (h x);rw [ziN];exact ue.2 ⟨_,yZ.2 ⟨a,y7.2 ha,rfl⟩,x1⟩
def vtx (l:List Int) (i:Nat):Nat:=(l.getD i 0).toNat
def Chn (E:Nat→Nat→Bool) (l:List Int):Prop:=∀ j,j+1<l.length→E (vtx l j) (vtx l (j+1))=true
theorem zhy {l x i} (h:i<l.length):vtx (l++[x]) i=vtx l i:=by
 unfold vtx;rw [yY,yY,yh h]
theorem zoW {l:List Int} {x:Nat}:vtx (l++[(x:Int)]) l.length=x:=by
 unfold vtx;rw [yY];simp
theorem znw {l}:lstN l=vtx l (l.length - 1):=by
 unfold lstN vtx;rw [List.getLastD_eq_getLast?,List.getLast?_eq_getElem?,yY]
theorem zr3 {l}:fstN l=vtx l 0:=by
 cases l <;> rfl
theorem Chn.snoc {l:List Int} {b:Nat} (h0:l≠[]):Chn E (l++[(b:Int)])↔Chn E l∧E (lstN l) b=true:=by
 have hp:0<l.length:=List.length_pos_iff.2 h0;constructor
 ·intro h;refine ⟨λj hj=>?_,?_⟩
  ·have:=h j (by simp;omega)
   rwa [zhy (by omega),zhy (by omega)] at this
  ·have:=h (l.length - 1) (by simp;omega)
   rwa [zhy (by omega),show l.length - 1+1=l.length by omega,zoW,← znw] at this
 ·rintro ⟨h1,h2⟩ j hj;simp only [yQ,yR,un] at hj;by_cases e:j+1<l.length
  ·rw [zhy (by omega),zhy (by omega)];exact h1 j e
  ·have e2:j+1=l.length:=by omega
   rw [zhy (by omega),e2,zoW,show j=l.length - 1 by omega,← znw];exact h2
theorem zpS:∀ {r:Nat} {x:List Int},x∈lev E K r (ones K)→x≠[]:=λ{r x} h e=>by
 have:=(ziO r ziV x h).pos;rw [e] at this;simp at this
theorem zrl:∀ {r:Nat} {x:List Int},x∈lev E K r (ones K)→Chn E x
 | 0,x,h=>by
  obtain ⟨a,-,rfl⟩:=yZ.1 h;intro j hj;simp at hj
 | r+1,x,h=>by
  rw [zkX] at h;obtain ⟨y,y1,y2⟩:=ue.1 h;obtain ⟨j,-,-,j3,-,rfl⟩:=zeW.1 y2;exact (Chn.snoc (zpS y1)).2 ⟨zrl y1,j3⟩
theorem zpU {F}:∀ {r:Nat} {x:List Int},x∈lev F K r (ones K)→Chn E x→x∈lev E K r (ones K)
 | 0,x,h,_=>h
 | r+1,x,h,hc=>by
  rw [zkX] at h ⊢;obtain ⟨y,y1,y2⟩:=ue.1 h;obtain ⟨j,j1,j2,-,j4,rfl⟩:=zeW.1 y2;obtain ⟨c1,c2⟩:=(Chn.snoc (zpS y1)).1 hc;exact ue.2 ⟨y,zpU y1 c1,zeW.2 ⟨j,j1,j2,c2,j4,rfl⟩⟩
def zwP (E:Nat→Nat→Bool) (l:List Int):Prop:=∀ i,i<l.length→E (vtx l i) (vtx l ((i+1) % l.length))=true
theorem zn6 {l} (h0:l≠[]):zwP E l↔Chn E l∧zec E l=true:=by
 have hp:0<l.length:=List.length_pos_iff.2 h0;unfold zec;rw [znw,zr3];constructor
 ·intro h;refine ⟨λj hj=>?_,?_⟩
  ·have:=h j (by omega)
   rwa [Nat.mod_eq_of_lt hj] at this
  ·have:=h (l.length - 1) (by omega)
   rwa [show l.length - 1+1=l.length by omega,Nat.mod_self] at this
 ·rintro ⟨h1,h2⟩ i hi;by_cases e:i+1<l.length
  ·rw [Nat.mod_eq_of_lt e];exact h1 i e
  ·have e2:i+1=l.length:=by omega
   rw [e2,Nat.mod_self,show i=l.length - 1 by omega];exact h2
theorem zq1 {x} (h:x∈cycP E K):zwP E x:=by
 obtain ⟨r,-,r2,r3⟩:=zhs.1 h;exact (zn6 (zpS r2)).2 ⟨zrl r2,r3⟩
theorem zli {F x} (h:x∈cycP F K) (hc:zwP E x):x∈cycP E K:=by
 obtain ⟨r,r1,r2,-⟩:=zhs.1 h;obtain ⟨c1,c2⟩:=(zn6 (zpS r2)).1 hc;exact zhs.2 ⟨r,r1,zpU r2 c1,c2⟩
theorem zlh {x} (h:x∈cycP E K):zuW K x:=by
 obtain ⟨r,-,r2,-⟩:=zhs.1 h;exact ziO r ziV x r2
theorem zwP.mono {F x} (hp:zuW K x) (h:∀ a b,a<K→b<K→E a b=true→F a b=true) (hc:zwP E x):zwP F x:=λi hi=>by
 have hm:∀ j,j<x.length→vtx x j<K:=λj hj=>by
  have:=hp.mem x[j] (ym hj);unfold vtx;rw [yY,yC hj];simp only [yi];omega
 exact h _ _ (hm i hi) (hm _ (Nat.mod_lt _ (by omega))) (hc i hi)
structure Walk (E:Nat→Nat→Bool) (K p:Nat) (f:Nat→Nat):Prop where
 per:∀ i,f (i+p)=f i
 lt:∀ i,f i<K
 edge:∀ i,E (f i) (f (i+1))=true
end
theorem zoQ {α:Type} {l:List α} {i:Nat} {x:α} (h:i<l.length):sto l (i:Int) x=some (l.set i x):=by
 unfold sto;simp [h]
def Rch (E:Nat→Nat→Bool) (K a t:Nat):Prop:=∀ S:Nat→Prop,S a→(∀ b c,S b→c<K→E b c=true→S c)→S t
theorem Rch.refl {E K a}:Rch E K a a:=λ_ h _=>h
theorem Rch.step {E K a b c} (h:Rch E K a b) (hc:c<K) (he:E b c=true):Rch E K a c:=λS e d=>d b c (h S e d) hc he
theorem zrp {l} {j:Nat} (h:l.length<1000000):idx (l++[(j:Int)]) (zt2 ((l++[(j:Int)]).length:Int) 1)=some (j:Int):=by
 have a:(l++[(j:Int)]).length=l.length+1:=by simp
 grind [zgh,zb]
theorem zne {s:List Bool} {j} (hj:j<s.length) (h:s.getD j false=false):(s.set j true).count true=s.count true+1:=by
 grind
theorem ziG {s:List Bool} {j v} (hj:j<s.length):(s.set j true).getD v false=if v=j then true else s.getD v false:=by
 grind
structure BInv (E:Nat→Nat→Bool) (K a t:Nat) (s:List Bool) (ls:List (List Int)):Prop where
 len:s.length=K
 cnt:ls.length≤s.count true
 pl:∀ l∈ls,1≤l.length∧l.length≤s.count true∧idx l (zt2 (l.length:Int) 1)=some ((lstN l:Nat):Int)∧lstN l<K∧s.getD (lstN l) false=true
 rch:∀ v,v<K→s.getD v false=true→Rch E K a v
 fro:s.getD a false=true
 don:∀ v,v<K→s.getD v false=true→(∃ l∈ls,lstN l=v)∨(v≠t∧∀ c,c<K→E v c=true→s.getD c false=true)
theorem BInv.mark {E K a t s l r j} (h6:K≤6) (h:BInv E K a t s (l::r)) (hj:j<K) (he:E (lstN l) j=true) (hs:s.getD j false=false):BInv E K a t (s.set j true) (l::(r++[l++[(j:Int)]])):=by
 have hjl:j<s.length:=by rw [h.len];exact hj
 have hc:=zne hjl hs
 obtain ⟨p1,p2,p3,p4,p5⟩:=h.pl l (by simp)
 have hcl:s.count true≤s.length:=List.count_le_length
 have hlen:=h.len
 have hsn:∀ v,s.getD v false=true→(s.set j true).getD v false=true:=λv hv=>by
  grind
 refine ⟨by grind,?_,λx hx=>?_,λv hv hv2=>?_,hsn _ h.fro,λv hv hv2=>?_⟩
 ·have:=h.cnt
  grind
 ·have hold:∀ y∈l::r,1≤y.length∧y.length≤(s.set j true).count true∧idx y (zt2 (y.length:Int) 1)=some ((lstN y:Nat):Int)∧lstN y<K∧(s.set j true).getD (lstN y) false=true:=λy hy=>by
   obtain ⟨q1,q2,q3,q4,q5⟩:=h.pl y hy
   exact ⟨q1,by omega,q3,q4,hsn _ q5⟩
  rcases yI.1 hx with rfl | hx
  ·exact hold _ (by simp)
  ·rcases yr.1 hx with hx | hx
   ·grind
   ·simp only [yG] at hx
    subst hx
    rw [zrp (by omega),zeU]
    exact ⟨by simp,by simp;omega,rfl,hj,by rw [ziG hjl];simp⟩
 ·rw [ziG hjl] at hv2
  by_cases e:v=j
  ·subst e;exact (h.rch _ p4 p5).step hj he
  ·rw [if_neg e] at hv2;exact h.rch v hv hv2
 ·rw [ziG hjl] at hv2
  by_cases e:v=j
  ·subst e;exact .inl ⟨l++[(v:Int)],by simp,zeU⟩
  ·rw [if_neg e] at hv2
   rcases h.don v hv hv2 with ⟨x,hx,e⟩ | ⟨q1,q2⟩
   ·exact .inl ⟨x,by rcases yI.1 hx with rfl | hx <;> simp [*],e⟩
   ·exact .inr ⟨q1,λc hc he=>hsn c (q2 c hc he)⟩
theorem BInv.pop {E K a t s l r} (h:BInv E K a t s (l::r)) (hne:lstN l≠t) (hall:∀ c,c<K→E (lstN l) c=true→s.getD c false=true):BInv E K a t s r:=by
 refine ⟨h.len,by have:=h.cnt;grind,λx b=>h.pl x (by simp [b]),h.rch,h.fro,λv f d=>?_⟩
 rcases h.don v f d with ⟨x,b,e⟩ | q
 ·grind
 grind
def BQ (E:Nat→Nat→Bool) (K a t:Nat) (r:Option (List Int)):Prop:=∃ l,r=some l∧(l≠[]↔Rch E K a t)
theorem zs3 {n} {g} {K a t} (hg:zvb g K) (hn:1000000≤n) {l} {rec117} {M} (hrec:∀ s ls m,BInv (hasP g) K a t s ls→(K - s.count true)+ls.length<M→BQ (hasP g) K a t (rec117 (s,ls,m))) (hne:lstN l≠t)
  {s r m} (hB:BInv (hasP g) K a t s (l::r)) (hM:(K - s.count true)+(r.length+1)≤M):BQ (hasP g) K a t (ztO (zQ.l2 n g rec117 l ((lstN l:Nat):Int)) n (s,l::r,m,0)):=by
 have h6:=hg.le
 refine zdF (body:=zQ.l2 n g rec117 l ((lstN l:Nat):Int)) (λs=>K - s.2.2.2.toNat) (λs=>∃ (j:Nat) (r:List (List Int)),s.2.2.2=(j:Int)∧j≤K∧s.2.1=l::r∧BInv (hasP g) K a t s.1 (l::r)∧(K - s.1.count true)+(r.length+1)≤M∧∀ c,c<j→hasP g (lstN l) c=true→s.1.getD c false=true) (λ_ r=>BQ (hasP g) K a t r) (λrec s hI hr=>?_) n _ ⟨0,r,rfl,yp _,rfl,hB,hM,by simp⟩ (by grind)
 obtain ⟨s1,s2,s3,s4⟩:=s
 obtain ⟨j,r,e4,hj,e2,hB,hM,hd⟩:=hI
 simp only at e4 e2 hB hM hd
 subst e4 e2
 obtain ⟨p1,p2,p3,p4,p5⟩:=hB.pl l (by simp)
 have hcl:s1.count true≤s1.length:=List.count_le_length
 have hlen:=hB.len
 by_cases h:j<K
 ·have hlt:decide ((j:Int)<g.size)=true:=by rw [hg.size];grind
  have hjl:j<s1.length:=by omega
  have hx:idx s1 (j:Int)=some (s1.getD j false):=by grind [zb]
  have hcnt:=hB.cnt
  simp only [yR] at hcnt
  simp only [zQ.l2,hlt,if_true,jn,zmH hg p4 h,ya,hx,yo,yi,yy,grd,zd (i:=j) (by omega)]
  split <;> rename_i hc
  ·simp only [yd,yB] at hc
   rw [zoQ hjl,ya,zp (by simp;omega),ya,zp (by simp;omega),ya,zp (by simp;omega),ya]
   have hB':=hB.mark h6 h hc.1 hc.2
   have hcc:=zne hjl hc.2
   refine hr (s1.set j true,l::(r++[l++[(j:Int)]]),s3+1,((j+1:Nat):Int)) ⟨j+1,r++[l++[(j:Int)]],rfl,by omega,rfl,hB',?_,λc hcj he=>?_⟩ (by simp only [yz];omega)
   ·have:(s1.set j true).count true≤K:=by have:=List.count_le_length (a:=true) (l:=s1.set j true);simp at this;omega
    simp only [yQ,yR,un];omega
   ·rw [ziG hjl]
    by_cases e:c=j
    ·rw [if_pos e]
    ·rw [if_neg e];exact hd c (by omega) he
  ·refine hr (s1,l::r,s3,((j+1:Nat):Int)) ⟨j+1,r,rfl,by omega,rfl,hB,hM,λc hcj he=>?_⟩ (by simp only [yz];omega)
   by_cases e:c=j
   ·subst e
    cases hs:s1.getD c false with
    | true=>rfl
    | false=>simp only [yd,yB] at hc;exact absurd ⟨he,hs⟩ hc
   ·exact hd c (by omega) he
 ·have hjK:j=K:=by omega
  subst hjK
  have hge:decide ((j:Int)<g.size)=false:=by rw [hg.size];simp
  have hcut:cut (l::r) 1 ((l::r).length:Int)=some r:=zjy (l:=l::r) (a:=1) (by simp)
  simp only [zQ.l2,hge,ye,if_false,hcut,ya]
  exact hrec _ _ _ (hB.pop hne hd) (by omega)
theorem znm {n} {g} {K a t} (hg:zvb g K) (hn:1000000≤n) (ha:a<K) (ht:t<K):BQ (hasP g) K a t (zQ n g (a:Int) (t:Int)):=by
 have h6:=hg.le
 have hrep:a<(List.replicate K false).length:=by grind
 have hmk:mkl 1 g.size (false:Bool)=some (List.replicate K false):=by
  rw [hg.size];unfold mkl;grind
 have hf:(List.replicate K false).getD a false=false:=by grind
 have hcnt:=zne hrep hf
 rw [List.count_replicate] at hcnt
 simp only [beq_iff_eq,ye,if_false,uk] at hcnt
 have hget:∀ v,((List.replicate K false).set a true).getD v false=true→v=a:=λv hv=>by
  grind
 have hl1:lstN [(a:Int)]=a:=by simp [lstN]
 have h0:BInv (hasP g) K a t ((List.replicate K false).set a true) [[(a:Int)]]:=by
  refine ⟨by simp,by grind,λl hl=>?_,λv _ hv=>by grind [Rch.refl],by grind,λv _ hv=>.inl ⟨[(a:Int)],by simp,by grind⟩⟩
  simp only [yG] at hl
  subst hl
  rw [hl1]
  exact ⟨by simp,by grind,zrp (l:=[]) (by simp),ha,by grind⟩
 unfold zQ
 rw [hmk,ya,zb hrep,ya,zoQ hrep,ya]
 refine zdF (body:=zQ.l1 n g (t:Int)) (λs=>(K - s.1.count true)+s.2.1.length) (λs=>BInv (hasP g) K a t s.1 s.2.1) (λ_ r=>BQ (hasP g) K a t r) (λrec s hI hr=>?_) n _ h0 (by grind)
 obtain ⟨s1,s2,s3⟩:=s
 simp only at hI
 cases s2 with
 | nil=>
  simp only [zQ.l1,un,Int.ofNat_zero,Int.lt_irrefl,decide_false,ye,if_false]
  refine ⟨[],by simp,?_⟩
  simp only [ne_eq,not_true_eq_false,false_iff]
  intro hR
  have hd:∀ v,v<K→s1.getD v false=true→v≠t∧∀ c,c<K→hasP g v c=true→s1.getD c false=true:=λv hv hs=>by
   rcases hI.don v hv hs with ⟨x,hx,_⟩ | q
   ·simp at hx
   ·exact q
  have:=hR (λv=>v<K∧s1.getD v false=true) ⟨ha,hI.fro⟩ λb c hb hc he=>⟨hc,(hd b hb.1 hb.2).2 c hc he⟩
  exact (hd t this.1 this.2).1 rfl
 | cons l r=>
  obtain ⟨p1,p2,p3,p4,p5⟩:=hI.pl l (by simp)
  have hpos:decide ((0:Int)<((l::r).length:Int))=true:=decide_eq_true (by simp only [yR];omega)
  have hi0:idx (l::r) 0=some l:=rfl
  simp only [zQ.l1,hpos,if_true,hi0,ya,p3]
  split <;> rename_i hc
  ·refine ⟨l,rfl,?_⟩
   have e:lstN l=t:=by
    have:((lstN l:Nat):Int)=(t:Int):=by simpa using hc
    omega
   rw [e] at p4 p5
   exact ⟨λ_=>hI.rch t p4 p5,λ_ e=>by subst e;simp at p1⟩
  ·exact zs3 hg hn (M:=(K - s1.count true)+(r.length+1)) (λs ls m hB hM=>hr (s,ls,m) hB (by simpa using hM)) (λe=>hc (by rw [e];simp)) hI (yk _)
theorem zlj {n} {zt9} {K a t:Nat} (h6:K≤6) (hl:zt9.length=K*K) (hn:1000000≤n) (ha:a<K) (ht:t<K):BQ (hasP ⟨(K:Int),zt9⟩) K a t (zed n (K:Int) zt9 (a:Int) (t:Int)):=by
 have c:zvb ⟨K,zt9⟩ K:=⟨rfl,h6,hl⟩
 have d :=uf h6 h6
 have e:ztZ K K=((K*K)):=by
  grind [ztZ,zaK]
 have b:zb2 n K zt9=some (⟨K,zt9⟩,true):=by
  unfold zb2
  simp;omega
 unfold zed
 grind [znm]
end Go.Proofs.YtipkniadbkndfaaGreatDoor
