/- Part of the proof of one law of the seat. -/
import Derived.Test.YtehefbidnkfciaaGreatDoorGq05
set_option linter.unusedVariables false
set_option linter.unusedSectionVars false
set_option linter.unusedSimpArgs false
set_option maxHeartbeats 4000000
namespace Go.Proofs.YtehefbidnkfciaaGreatDoor
open Go Go.RowKit
abbrev uk:=@_root_.List.getD_eq_getElem?_getD
abbrev uN:=@_root_.Nat.pow_le_pow_right
abbrev uR:=@_root_.Nat.mul_le_mul
abbrev uS:=@_root_.bne_self_eq_false
abbrev uT:=@_root_.Bool.and_self
def zf4 (K:Nat):Int→List Change→Bool
 | _,[]=>true
 | last,d::l=>(decide (last<d.cell)&&decide (d.cell<(K:Int))&&(d.add != 0)&&zbB d.add 1000000000)&&zf4 K d.cell l
def effP (m:Model) (K:Nat) (x:Effect):Bool:=zf4 K (-1) x.delta&&(updsP m (-1) x.updates&&(decide (x.hold.length≤8)&&decide (x.updates.length≤32)&&x.hold.all (rowOK K)))
theorem zj2 {n m l x} (hF:Fuel n) (hS:SmallM m) (h1:x.delta.length≤1000) (h2:x.updates.length≤1000) (h3:x.hold.length≤1000) (h4:∀ r∈x.hold,r.terms.length≤1000):zU n ⟨m,l⟩ x=some (effP m l.length x):=by
 have hn:=hF.big;have T:loopF (zU.l2 n ⟨m,l⟩ x) n (-1,0)=some (updsP m (-1) x.updates&&(decide (x.hold.length≤8)&&decide (x.updates.length≤32)&&x.hold.all (rowOK l.length))):=by
  have:=zbi (body:=zU.l2 n ⟨m,l⟩ x) (len:=x.updates.length) (st:=λ(s:Int) i=>(s,(i:Int))) (g:=λi s=>some (updsP m s (x.updates.drop i)&&(decide (x.hold.length≤8)&&decide (x.updates.length≤32)&&x.hold.all (rowOK l.length)))) (λ_ _=>True) (λrec i s hi _ hr=>?_) (λrec s _=>?_) n 0 (-1) (yp _) (by omega) trivial
  ·simpa using this
  ·simp only [zU.l2,zn hi,if_true,za hi,ya,zj5 hF hS,yk,yC,grd,yh,zd (i:=i) (by omega),hr x.updates[i].cell trivial];rw [zh hi,updsP];by_cases hlt:s<x.updates[i].cell
   ·have hd:decide (x.updates[i].cell≤s)=false:=by simp;omega
    rw [hd];cases updP m x.updates[i] <;> simp [hlt]
   ·have hd:decide (x.updates[i].cell≤s)=true:=by simp;omega
    rw [hd];simp [hlt]
  ·have hc:zX n x.hold (λq0=>zbd n q0 ⟨m,l⟩)=some (x.hold.any λr=>!rowOK l.length r):=zee (λr hr=>by
    unfold zbd;rw [ziW (by have:=h4 r hr;omega) (by omega)];rfl) (by omega) (by omega)
   simp only [zU.l2,zaq,yf,if_false,hc,yk,yC,grd,if_true,yh,zjA,List.drop_length,updsP,yA,yi];congr 2
   ·exact decide_eq_decide.2 (by omega)
   ·exact decide_eq_decide.2 (by omega)
 have:=zbi (body:=zU.l1 n ⟨m,l⟩ x) (len:=x.delta.length) (st:=λ(s:Int) i=>(s,(i:Int))) (g:=λi s=>some (zf4 l.length s (x.delta.drop i)&&(updsP m (-1) x.updates&&(decide (x.hold.length≤8)&&decide (x.updates.length≤32)&&x.hold.all (rowOK l.length))))) (λ_ _=>True) (λrec i s hi _ hr=>?_) (λrec s _=>?_) n 0 (-1) (yp _) (by omega) trivial
 ·simpa [zU,effP] using this
 ·simp only [zU.l1,zn hi,if_true,za hi,ya,around9,yk,yC,grd,yh,zd (i:=i) (by omega),hr x.delta[i].cell trivial];rw [zh hi,zf4];by_cases h:(decide (s<x.delta[i].cell)&&decide (x.delta[i].cell<(l.length:Int))&&(x.delta[i].add != 0)&&zbB x.delta[i].add 1000000000)=true
  ·rw [h,yA];simp only [yc,ye,bne_iff_ne] at h;rw [if_neg (by simp [h.2,h.1.2];omega)]
  ·rw [if_pos (by
    simp only [yc,ye,bne_iff_ne,ne_eq] at h;simp only [yz,ye,beq_iff_eq,yG,← yF];by_cases ha:zbB x.delta[i].add 1000000000=true
    ·left;simp only [ha,and_true] at h;omega
    ·exact .inr ha)]
   simp only [yF] at h;rw [h];rfl
 ·simp only [zU.l1,zaq,yf,if_false,T,List.drop_length,zf4,yA]
theorem zlV {n m x} (hn:1000000≤n) (hS:SmallM m) (hL:zaN m.sorts m.tables=true) (h1:x.delta.length≤1000) (h2:x.updates.length≤1000) (h3:x.hold.length≤1000) (h4:∀ r∈x.hold,r.terms.length≤1000):zaa n m x=some (effP m (zI m.sorts true m.tables).length x):=by
 have htl:=hS.tables;have hsl:=hS.sorts;have hcs:∀ t∈m.tables,t.columns.length≤1000∧t.name.length≤4096:=λt ht=>by have:=hS.tab t ht;omega
 unfold zaa zcm;rw [zey hn (by omega) (by omega) hcs,hL,if_pos rfl];generalize zI m.sorts true m.tables=l;simp only [ya];have T3:loopF (zaa.l3 n m x) n 0=some (updsP m (-1) x.updates&&(decide (x.hold.length≤8)&&decide (x.updates.length≤32))):=by
  have:=zbi (body:=zaa.l3 n m x) (len:=x.updates.length) (st:=λ(_:Int) i=>(i:Int)) (g:=λi s=>some (updsP m s (x.updates.drop i)&&(decide (x.hold.length≤8)&&decide (x.updates.length≤32)))) (λi s=>-1≤s∧((i=0∧s = -1)∨(0<i∧∃ y,idx x.updates (sub64 (i:Int) 1)=some y∧y.cell=s))) (λrec i s hi hI hr=>?_) (λrec s _=>?_) n 0 (-1) (yp _) (by omega) ⟨by omega,.inl ⟨rfl,rfl⟩⟩
  ·simpa using this
  ·obtain ⟨h1,h2⟩:=hI;have hprev:(decide (0<(i:Int))&&decide (x.updates[i].cell≤((idx x.updates (sub64 (i:Int) 1)).getD default).cell))=(decide (0<i)&&decide (x.updates[i].cell≤s))∧(!(decide (0<(i:Int)))||(idx x.updates (sub64 (i:Int) 1)).isSome)=true:=by
    rcases h2 with ⟨h2,h3⟩ | ⟨h2,y,h3,h4⟩
    ·subst h2;simp
    ·rw [h3];simp [h4,h2]
   have hnext:(-1≤x.updates[i].cell)→rec ((i+1:Nat):Int)=some (updsP m x.updates[i].cell (x.updates.drop (i+1))&&(decide (x.hold.length≤8)&&decide (x.updates.length≤32))):=λh=>hr x.updates[i].cell ⟨h,.inr ⟨by omega,x.updates[i],by
     rw [ziw (by omega) (by omega),show i+1 - 1=i by omega,za hi],rfl⟩⟩
   simp only [zaa.l3,zn hi,if_true,za hi,ya,zkJ (cell:=x.updates[i].cell) (s:=false) hn (show m.sorts.length≤1000 by omega) (show m.tables.length≤1000 by omega) hcs,hprev.1,hprev.2,yC,grd,zhN,zd (i:=i) (by omega)];rw [zh hi,updsP];unfold updP;cases hok:(cellP m.sorts m.tables false x.updates[i].cell).2.2 with
   | false=>simp
   | true=>
    obtain ⟨t,ht⟩:=zmc hok;have hge:0≤x.updates[i].cell:=by
     by_cases h:x.updates[i].cell<0
     ·rw [zoM h] at hok;cases hok
     ·omega
    have hasc:(decide (0<i)&&decide (x.updates[i].cell≤s)) = !decide (s<x.updates[i].cell):=by
     rw [← decide_not,← Bool.decide_and];refine decide_eq_decide.2 ?_;rcases h2 with ⟨h2,h3⟩ | ⟨h2,-⟩ <;> omega
    rw [hasc,hnext (by omega)];simp only [ht,yW,ue,ya,yh,yA];cases decide (s<x.updates[i].cell) with
    | false=>simp
    | true=>
     simp only [yW,yf,if_false,yA];unfold updT;by_cases hset:(t.kind==2||t.kind==3)=true
     ·rw [hset];simp only [if_true,yA,yW,yU,yf,if_false];cases hk0:(x.updates[i].kind==0) <;> cases hk1:(x.updates[i].kind==1) <;> cases hv:(x.updates[i].value==0) <;> simp [bne,hk0,hk1,hv]
     ·simp only [yF] at hset;rw [hset];simp only [yU,yf,if_false,ui,yA];have e1:decide (x.updates[i].value<t.range.lo) = !decide (t.range.lo≤x.updates[i].value):=by rw [← decide_not];exact decide_eq_decide.2 (by omega)
      have e2:decide (t.range.hi<x.updates[i].value) = !decide (x.updates[i].value≤t.range.hi):=by rw [← decide_not];exact decide_eq_decide.2 (by omega)
      rw [e1,e2];cases hk0:(x.updates[i].kind==2) <;> cases decide (t.range.lo≤x.updates[i].value) <;> cases decide (x.updates[i].value≤t.range.hi) <;> simp [bne,hk0]
  ·simp only [zaa.l3,zaq,yf,if_false,List.drop_length,updsP,yA,yi];congr 1
   ·exact decide_eq_decide.2 (by omega)
   ·exact decide_eq_decide.2 (by omega)
 have T2:loopF (zaa.l2 n m x l) n 0=if x.hold.all (rowOK l.length)=true then some (updsP m (-1) x.updates&&(decide (x.hold.length≤8)&&decide (x.updates.length≤32))) else some false:=by
  have:=zaJ (body:=zaa.l2 n m x l) (l:=x.hold) (n:=n) (st:=λi=>(i:Int)) (rowOK l.length) (some false) (some (updsP m (-1) x.updates&&(decide (x.hold.length≤8)&&decide (x.updates.length≤32)))) (λrec i hi=>?_) (λrec=>?_) (by omega)
  ·simpa using this
  ·simp only [zaa.l2,zn hi,if_true,za hi,ya,zld (show x.hold[i].terms.length<1000000 by have:=h4 _ (yj hi);omega) hn,zd (i:=i) (by omega)];cases rowOK l.length x.hold[i] <;> simp
  ·simp only [zaa.l2,zaq,yf,if_false,T3]
 have:=zbi (body:=zaa.l1 n m x l) (len:=x.delta.length) (st:=λ(_:Int) i=>(i:Int)) (g:=λi s=>some (zf4 l.length s (x.delta.drop i)&&(updsP m (-1) x.updates&&(decide (x.hold.length≤8)&&decide (x.updates.length≤32)&&x.hold.all (rowOK l.length))))) (λi s=>-1≤s∧((i=0∧s = -1)∨(0<i∧∃ y,idx x.delta (sub64 (i:Int) 1)=some y∧y.cell=s))) (λrec i s hi hI hr=>?_) (λrec s _=>?_) n 0 (-1) (yp _) (by omega) ⟨by omega,.inl ⟨rfl,rfl⟩⟩
 ·simpa [effP] using this
 ·obtain ⟨h1,h2⟩:=hI;have hprev:(decide (0<(i:Int))&&decide (x.delta[i].cell≤((idx x.delta (sub64 (i:Int) 1)).getD default).cell))=(decide (0<i)&&decide (x.delta[i].cell≤s))∧(!(decide (0<(i:Int)))||(idx x.delta (sub64 (i:Int) 1)).isSome)=true:=by
   rcases h2 with ⟨h2,h3⟩ | ⟨h2,y,h3,h4⟩
   ·subst h2;simp
   ·rw [h3];simp [h4,h2]
  simp only [zaa.l1,zn hi,if_true,za hi,ya,between9,yk,yC,grd,yh,hprev.1,hprev.2,zd (i:=i) (by omega)];rw [zh hi,zf4];by_cases h:(decide (s<x.delta[i].cell)&&decide (x.delta[i].cell<(l.length:Int))&&(x.delta[i].add != 0)&&zbB x.delta[i].add 1000000000)=true
  ·rw [h,yA];simp only [yc,ye,bne_iff_ne] at h;rw [if_neg (by simp [h.2,h.1.2];omega),hr x.delta[i].cell ⟨by omega,.inr ⟨by omega,x.delta[i],by
    rw [ziw (by omega) (by omega),show i+1 - 1=i by omega,za hi],rfl⟩⟩]
  ·rw [if_pos (by
    simp only [yc,ye,bne_iff_ne,ne_eq] at h;simp only [yz,yc,ye,beq_iff_eq,yG,← yF];by_cases ha:zbB x.delta[i].add 1000000000=true
    ·left;simp only [ha,and_true] at h;rcases h2 with ⟨h2,h3⟩ | ⟨h2,-⟩ <;> omega
    ·exact .inr ha)]
   simp only [yF] at h;rw [h];rfl
 ·simp only [zaa.l1,zaq,yf,if_false,T2,List.drop_length,zf4,yA];cases x.hold.all (rowOK l.length) <;> simp
def cmpP:List Int→List Int→Int
 | [],[]=>0
 | [],_::_=>-1
 | _::_,[]=>1
 | x::l,y::k=>if x<y then -1 else if y<x then 1 else cmpP l k
def lessP:List Int→List Int→Bool
 | [],[]=>false
 | [],_::_=>true
 | _::_,[]=>false
 | x::l,y::k=>if x=y then lessP l k else decide (x<y)
theorem zns:∀ a b:List Int,decide (0≤cmpP a b) = !lessP a b
 | [],[]=>rfl
 | [],_::_=>rfl
 | _::_,[]=>rfl
 | x::l,y::k=>by
  simp only [cmpP,lessP];by_cases h:x=y
  ·subst h;simp [zns l k]
  ·by_cases h2:x<y
   ·simp [h,h2]
   ·have:y<x:=by omega
    simp [h,h2,this]
theorem zn5 {n a b} (hl:a.length<1000000) (hn:1000000≤n):zL n a b=some (cmpP a b):=by
 have:=zT (body:=zL.l1 n a b) (len:=a.length) (st:=λi=>(i:Int)) (g:=λi=>some (cmpP (a.drop i) (b.drop i))) (λrec i hi hr=>?_) (λrec=>?_) n 0 (yp _) (by omega)
 ·simpa [zL] using this
 ·simp only [zL.l1,zn hi,if_true,za hi,ya,zd (i:=i) (by omega),hr];rw [zh hi];by_cases hb:i<b.length
  ·rw [if_neg (by simp;omega),za hb,zh hb];simp only [ya,zR,zcp,uS,yf,if_false,cmpP,ye];by_cases h1:a[i]<b[i]
   ·simp [h1]
   ·by_cases h2:b[i]<a[i]
    ·simp [h1,h2]
    ·simp [h1,h2]
  ·rw [if_pos (by simp;omega),show b.drop i=[] from List.drop_eq_nil_of_le (by omega)];rfl
 ·simp only [zL.l1,zaq,yf,if_false,List.drop_length];by_cases hb:a.length<b.length
  ·rw [if_pos (by simpa using hb),zh hb];rfl
  ·rw [if_neg (by simpa using hb),List.drop_eq_nil_of_le (by omega)];rfl
theorem zna {n a b} (hl:a.length<1000000) (hn:1000000≤n):zbV n a b=some (lessP a b):=by
 have:=zT (body:=zbV.l1 n a b) (len:=min a.length b.length) (st:=λi=>(i:Int)) (g:=λi=>some (lessP (a.drop i) (b.drop i))) (λrec i hi hr=>?_) (λrec=>?_) n 0 (yp _) (by omega)
 ·simpa [zbV] using this
 ·have ha:i<a.length:=by omega
  have hb:i<b.length:=by omega
  simp only [zbV.l1,zn ha,zn hb,uT,if_true,za ha,za hb,ya,zd (i:=i) (by omega),hr];rw [zh ha,zh hb];by_cases h:a[i]=b[i]
  ·simp [h,lessP]
  ·simp [h,lessP]
 ·simp only [zbV.l1];rw [if_neg (by simp;omega)];by_cases ha:a.length≤b.length
  ·rw [Nat.min_eq_left ha,List.drop_length];by_cases hb:a.length<b.length
   ·rw [zh hb];simp [lessP,hb]
   ·rw [List.drop_eq_nil_of_le (by omega)];simp [lessP];omega
  ·rw [Nat.min_eq_right (by omega),List.drop_length,zh (by omega)];simp [lessP];omega
def argP (m:Model) (s x:Int):Bool:=(!decide (s<0)||zbB x 9999)&&(!decide (0≤s)||(decide (0≤x)&&decide (x<(idx m.sorts s).getD default)))
def argsP (m:Model):List Int→List Int→Bool
 | s::l,x::k=>argP m s x&&argsP m l k
 | _,_=>true
def opAt (m:Model) (a:Action):Operation:=(idx m.operations a.operation).getD default
def ordP (b a:Action):Bool:=!decide (a.operation<b.operation)&&(!(b.operation==a.operation)||lessP b.arguments a.arguments)
def actP (m:Model) (K:Nat) (i:Nat) (a:Action):Bool:=
 (decide (0≤a.operation)&&decide (a.operation<(m.operations.length:Int)))&&(a.arguments.length==(opAt m a).sorts.length)&&argsP m (opAt m a).sorts a.arguments&&(decide (i=0)||ordP ((idx m.actions ((i - 1:Nat):Int)).getD default) a)&&effP m K a.effect
def actsP (m:Model) (K:Nat):Bool:=decide (m.actions.length≤256)&&allR (λi=>actP m K i ((idx m.actions (i:Int)).getD default)) 0 m.actions.length
theorem zkY {m} {s x:List Int} {k:Nat} (h1:k<s.length) (h2:k<x.length):argsP m (s.drop k) (x.drop k)=(argP m s[k] x[k]&&argsP m (s.drop (k+1)) (x.drop (k+1))):=by
 rw [zh h1,zh h2];rfl
theorem znN {m a} (h:(decide (0≤a.operation)&&decide (a.operation<(m.operations.length:Int)))=true):idx m.operations a.operation=some (opAt m a)∧opAt m a∈m.operations:=by
 simp only [yc,ye] at h;obtain ⟨o,ho⟩:=zbw h.1 h.2;refine ⟨by rw [ho,opAt,ho];rfl,?_⟩;rw [opAt,ho];exact zd5 ho
theorem zp8 {m:Model} {s:Int} (h0:0≤s) (h:s<(m.sorts.length:Int)):idx m.sorts s=some ((idx m.sorts s).getD default):=by
 obtain ⟨x,hx⟩:=zbw h0 h;rw [hx];rfl
theorem zla {m} (h:opsP m=true):∀ o∈m.operations,o.sorts.length≤3∧∀ s∈o.sorts,-1≤s∧s<(m.sorts.length:Int):=by
 simp only [opsP,yc,yr] at h;intro o ho;have:=h.1 o ho;simp only [opP,yc,ye,yr] at this;exact this
theorem zpp {b a}:((decide (a.operation<b.operation))||((b.operation==a.operation)&&(decide (0≤cmpP b.arguments a.arguments)))) = !ordP b a:=by
 rw [zns];unfold ordP;cases decide (a.operation<b.operation) <;> cases (b.operation==a.operation) <;> cases lessP b.arguments a.arguments <;> rfl
theorem zrc {b a}:((decide (a.operation<b.operation))||((b.operation==a.operation)&&(!lessP b.arguments a.arguments))) = !ordP b a:=by
 unfold ordP;cases decide (a.operation<b.operation) <;> cases (b.operation==a.operation) <;> cases lessP b.arguments a.arguments <;> rfl
theorem zjb {n:Nat} {m} {l:List Range} (hF:Fuel n) (hS:SmallM m) (hO:opsP m=true):zC n ⟨m,l⟩=some (actsP m l.length):=by
 have hn:=hF.big;have hal:=hS.actions;unfold zC actsP;by_cases h0:m.actions.length≤256
 ·rw [if_neg (by simp;omega),decide_eq_true h0,yA];have:=zd0 (body:=zC.l1 n ⟨m,l⟩) (len:=m.actions.length) (n:=n) (st:=λi=>(i:Int)) (λi=>actP m l.length i ((idx m.actions (i:Int)).getD default)) (some false) (some true) (λrec i hi=>?_) (λrec=>?_) (by omega)
  ·simp only [Int.natCast_zero] at this;rw [this];cases allR (λi=>actP m l.length i ((idx m.actions (i:Int)).getD default)) 0 m.actions.length <;> rfl
  ·have hmem:=yj hi;obtain ⟨a1,a2,a3,a4,a5⟩:=hS.act _ hmem;simp only [zC.l1,zn hi,if_true,za hi,ya,zas,yh];unfold actP;cases hop:(decide (0≤m.actions[i].operation)&&decide (m.actions[i].operation<(m.operations.length:Int))) with
   | false=>simp [grd]
   | true=>
    obtain ⟨ho,hom⟩:=znN hop;obtain ⟨o1,o2⟩:=zla hO _ hom;simp only [ho,yk,yC,grd,if_true,yh,yW,ue,yA,ya];by_cases hlen:m.actions[i].arguments.length=(opAt m m.actions[i]).sorts.length
    ·rw [if_neg (by simp [hlen])];have hle:(m.actions[i].arguments.length==(opAt m m.actions[i]).sorts.length)=true:=by simp [hlen]
     rw [hle,yA];have inner:=zT (body:=zC.l2 n ⟨m,l⟩ i rec m.actions[i] (opAt m m.actions[i])) (len:=(opAt m m.actions[i]).sorts.length) (st:=λk=>(k:Int)) (g:=λk=>if argsP m ((opAt m m.actions[i]).sorts.drop k) (m.actions[i].arguments.drop k)=true then (if ((decide (i=0)||ordP ((idx m.actions ((i - 1:Nat):Int)).getD default) m.actions[i])&&effP m l.length m.actions[i].effect)=true then rec ((i+1:Nat):Int) else some false) else some false) (λrec' k hk hr'=>?_) (λrec'=>?_) n 0 (yp _) (by omega)
     ·simp only [Int.natCast_zero,List.drop_zero] at inner;rw [inner];cases argsP m (opAt m m.actions[i]).sorts m.actions[i].arguments <;> simp
     ·have hk2:k<m.actions[i].arguments.length:=by omega
      have hs2:=o2 _ (yj hk);simp only [zC.l2,zn hk,if_true,za hk,za hk2,ya,around4,yk,yC,grd,yh,zd (i:=k) (by omega),hr',zas];rw [zkY hk hk2];unfold argP;by_cases hneg:(opAt m m.actions[i]).sorts[k]<0
      ·have hd1:decide ((opAt m m.actions[i]).sorts[k]<0)=true:=by simp [hneg]
       have hd2:decide (0≤(opAt m m.actions[i]).sorts[k])=false:=by simp;omega
       rw [hd1,hd2];cases zbB m.actions[i].arguments[k] 9999 <;> simp
      ·have hd1:decide ((opAt m m.actions[i]).sorts[k]<0)=false:=by simp;omega
       have hd2:decide (0≤(opAt m m.actions[i]).sorts[k])=true:=by simp;omega
       obtain ⟨z,hz⟩:=zbw (l:=m.sorts) (i:=(opAt m m.actions[i]).sorts[k]) (by omega) hs2.2;rw [hz,hd1,hd2];by_cases h1:0≤m.actions[i].arguments[k]
       ·by_cases h2:m.actions[i].arguments[k]<z
        ·have h2':¬ z≤m.actions[i].arguments[k]:=by omega
         simp [h1,h2,h2']
        ·have h2':z≤m.actions[i].arguments[k]:=by omega
         simp [h1,h2,h2']
       ·simp [h1]
     ·simp only [zC.l2,zaq,yf,if_false,jn,List.drop_length];rw [zj2 hF hS (by omega) (by omega) (by omega) (λr hr=>by have:=a5 r hr;omega)];simp only [ya,zd (i:=i) (by omega)];have hargs:argsP m [] (m.actions[i].arguments.drop (opAt m m.actions[i]).sorts.length)=true:=rfl;rw [hargs,if_pos rfl];by_cases h0i:i=0
      ·subst h0i;rw [if_neg (by simp)];cases effP m l.length m.actions[0].effect <;> simp
      ·rw [if_pos (by simp;omega),ziw (by omega) (by omega)];have hi1:i - 1<m.actions.length:=by omega
       have b1:=(hS.act _ (yj hi1)).1;simp only [za hi1,ya,zpp,yh,zn5 (a:=m.actions[i - 1].arguments) (b:=m.actions[i].arguments) (show m.actions[i - 1].arguments.length<1000000 by omega) (show 1000000≤n by omega),yk,yC,if_true,h0i,decide_false,ue];cases ordP m.actions[i - 1] m.actions[i] <;> cases effP m l.length m.actions[i].effect <;> simp [grd]
    ·rw [if_pos (by simp;omega)];have hle:(m.actions[i].arguments.length==(opAt m m.actions[i]).sorts.length)=false:=by simp [hlen]
     rw [hle];simp
  ·simp [zC.l1]
 ·rw [if_pos (by simp;omega),decide_eq_false h0,yU]
theorem zjf {n:Nat} {m:Model} (hn:1000000≤n) (hS:SmallM m) (hL:zaN m.sorts m.tables=true):zA n m=some (opsP m&&actsP m (zI m.sorts true m.tables).length):=by
 have hal:=hS.actions;have hol:=hS.operations;have hef:∀ a∈m.actions,zaa n m a.effect=some (effP m (zI m.sorts true m.tables).length a.effect):=λa ha=>by
  obtain ⟨a1,a2,a3,a4,a5⟩:=hS.act _ ha;exact zlV hn hS hL (by omega) (by omega) (by omega) (λr hr=>by have:=a5 r hr;omega)
 generalize (zI m.sorts true m.tables).length=K at hef;have T:opsP m=true→loopF (zA.l3 n m) n 0=some (allR (λi=>actP m K i ((idx m.actions (i:Int)).getD default)) 0 m.actions.length):=λhO=>by
  have:=zd0 (body:=zA.l3 n m) (len:=m.actions.length) (n:=n) (st:=λi=>(i:Int)) (λi=>actP m K i ((idx m.actions (i:Int)).getD default)) (some false) (some true) (λrec i hi=>?_) (λrec=>?_) (by omega)
  ·simp only [Int.natCast_zero] at this;rw [this];cases allR (λi=>actP m K i ((idx m.actions (i:Int)).getD default)) 0 m.actions.length <;> rfl
  ·have hmem:=yj hi;obtain ⟨a1,a2,a3,a4,a5⟩:=hS.act _ hmem;simp only [zA.l3,zn hi,if_true,za hi,ya,yh];have hneg:(decide (m.actions[i].operation<0)||decide ((m.operations.length:Int)≤m.actions[i].operation)) = !(decide (0≤m.actions[i].operation)&&decide (m.actions[i].operation<(m.operations.length:Int))):=by
    rw [Bool.not_and,← decide_not,← decide_not];congr 1
    ·exact decide_eq_decide.2 (by omega)
    ·exact decide_eq_decide.2 (by omega)
   rw [hneg];unfold actP;cases hop:(decide (0≤m.actions[i].operation)&&decide (m.actions[i].operation<(m.operations.length:Int))) with
   | false=>simp [grd]
   | true=>
    obtain ⟨ho,hom⟩:=znN hop;obtain ⟨o1,o2⟩:=zla hO _ hom;simp only [ho,yk,yC,grd,if_true,yh,yW,ue,yA];by_cases hlen:m.actions[i].arguments.length=(opAt m m.actions[i]).sorts.length
    ·rw [if_neg (by simp [hlen])];have hle:(m.actions[i].arguments.length==(opAt m m.actions[i]).sorts.length)=true:=by simp [hlen]
     rw [hle,yA];have inner:=zT (body:=zA.l4 n m i rec m.actions[i]) (len:=m.actions[i].arguments.length) (st:=λk=>(k:Int)) (g:=λk=>if argsP m ((opAt m m.actions[i]).sorts.drop k) (m.actions[i].arguments.drop k)=true then (if ((decide (i=0)||ordP ((idx m.actions ((i - 1:Nat):Int)).getD default) m.actions[i])&&effP m K m.actions[i].effect)=true then rec ((i+1:Nat):Int) else some false) else some false) (λrec' k hk2 hr'=>?_) (λrec'=>?_) n 0 (yp _) (by omega)
     ·simp only [Int.natCast_zero,List.drop_zero] at inner;rw [inner];cases argsP m (opAt m m.actions[i]).sorts m.actions[i].arguments <;> simp
     ·have hk:k<(opAt m m.actions[i]).sorts.length:=by omega
      have hs2:=o2 _ (yj hk);simp only [zA.l4,zn hk2,if_true,ho,za hk,za hk2,ya,between4,yk,yC,grd,yh,zd (i:=k) (by omega),hr'];rw [zkY hk hk2];unfold argP;by_cases hneg:(opAt m m.actions[i]).sorts[k]<0
      ·have hd1:decide ((opAt m m.actions[i]).sorts[k]<0)=true:=by simp [hneg]
       have hd2:decide (0≤(opAt m m.actions[i]).sorts[k])=false:=by simp;omega
       rw [hd1,hd2];cases zbB m.actions[i].arguments[k] 9999 <;> simp
      ·have hd1:decide ((opAt m m.actions[i]).sorts[k]<0)=false:=by simp;omega
       have hd2:decide (0≤(opAt m m.actions[i]).sorts[k])=true:=by simp;omega
       rw [zp8 (m:=m) (s:=(opAt m m.actions[i]).sorts[k]) (by omega) hs2.2,hd1,hd2];simp only [yh];generalize (idx m.sorts (opAt m m.actions[i]).sorts[k]).getD default=z;by_cases h1:m.actions[i].arguments[k]<0
       ·have h1':¬ 0≤m.actions[i].arguments[k]:=by omega
        simp [h1,h1']
       ·have h1':0≤m.actions[i].arguments[k]:=by omega
        by_cases h2:z≤m.actions[i].arguments[k]
        ·have h2':¬ m.actions[i].arguments[k]<z:=by omega
         simp [h1,h1',h2,h2']
        ·have h2':m.actions[i].arguments[k]<z:=by omega
         simp [h1,h1',h2,h2']
     ·simp only [zA.l4,zaq,yf,if_false,jn,List.drop_length,hef _ hmem];simp only [ya,zd (i:=i) (by omega)];have hargs:argsP m ((opAt m m.actions[i]).sorts.drop m.actions[i].arguments.length) []=true:=by cases (opAt m m.actions[i]).sorts.drop m.actions[i].arguments.length <;> rfl
      rw [hargs,if_pos rfl];by_cases h0i:i=0
      ·subst h0i;rw [if_neg (by simp)];cases effP m K m.actions[0].effect <;> simp
      ·rw [if_pos (by simp;omega),ziw (by omega) (by omega)];have hi1:i - 1<m.actions.length:=by omega
       have b1:=(hS.act _ (yj hi1)).1;simp only [za hi1,ya,zrc,yh,zna (a:=m.actions[i - 1].arguments) (b:=m.actions[i].arguments) (show m.actions[i - 1].arguments.length<1000000 by omega) (show 1000000≤n by omega),yk,yC,if_true,h0i,decide_false,ue];cases ordP m.actions[i - 1] m.actions[i] <;> cases effP m K m.actions[i].effect <;> simp [grd]
    ·rw [if_pos (by simp;omega)];have hle:(m.actions[i].arguments.length==(opAt m m.actions[i]).sorts.length)=false:=by simp [hlen]
     rw [hle];simp
  ·simp [zA.l3]
 unfold zA;have:=zaJ (body:=zA.l1 n m) (l:=m.operations) (n:=n) (st:=λi=>((m.operations.take i).map (·.name),(i:Int))) (opP m) (some false) (if (decide (m.operations.length≤8)&&distP [] (m.operations.map (·.name))&&decide (m.actions.length≤256))=true then loopF (zA.l3 n m) n 0 else some false) (λrec i hi=>?_) (λrec=>?_) (by omega)
 ·simp only [List.take_zero,List.map_nil,Int.natCast_zero] at this;rw [this];unfold actsP;cases hO:opsP m with
  | true=>
   have hO':=hO;simp only [opsP,yc] at hO';rw [hO'.1,hO'.2.1,hO'.2.2,T hO];cases decide (m.actions.length≤256) <;> rfl
  | false=>
   unfold opsP at hO;cases h1:m.operations.all (opP m) with
   | false=>simp
   | true=>
    rw [h1,yA] at hO;rw [hO];simp
 ·have hop:=hS.op _ (yj hi);simp only [zA.l1,zn hi,if_true,za hi,ya];rw [zam (by simp;omega),ya,zei hi];generalize hX:(m.operations.take (i+1)).map (·.name)=X;have inner:=zaJ (body:=zA.l2 n m i rec m.operations[i] X) (l:=m.operations[i].sorts) (n:=n) (st:=λk=>(k:Int)) (λs=>decide (-1≤s)&&decide (s<(m.sorts.length:Int))) (some false) (if decide (m.operations[i].sorts.length≤3)=true then rec (X,((i+1:Nat):Int)) else some false) (λrec' k hk=>?_) (λrec'=>?_) (by omega)
  ·simp only [Int.natCast_zero] at inner;rw [inner];unfold opP;cases decide (m.operations[i].sorts.length≤3) <;> cases (m.operations[i].sorts.all λs=>decide (-1≤s)&&decide (s<(m.sorts.length:Int))) <;> simp
  ·simp only [zA.l2,zn hk,if_true,za hk,ya,yk,yC,grd,yh,zd (i:=k) (by omega)];have e1:decide (m.operations[i].sorts[k] < -1) = !decide (-1≤m.operations[i].sorts[k]):=by rw [← decide_not];exact decide_eq_decide.2 (by omega)
   have e2:decide ((m.sorts.length:Int)≤m.operations[i].sorts[k]) = !decide (m.operations[i].sorts[k]<(m.sorts.length:Int)):=by rw [← decide_not];exact decide_eq_decide.2 (by omega)
   rw [e1,e2];cases decide (-1≤m.operations[i].sorts[k]) <;> cases decide (m.operations[i].sorts[k]<(m.sorts.length:Int)) <;> simp
  ·simp only [zA.l2,zaq,yf,if_false,zd (i:=i) (by omega)];by_cases h3:m.operations[i].sorts.length≤3
   ·rw [if_neg (by simp;omega),if_pos (by simp [h3])]
   ·rw [if_pos (by simp;omega),if_neg (by simp [h3])]
 ·simp only [zA.l1,zaq,yf,if_false,List.take_length];rw [zfu hn (by simp;omega) (λw hw=>by
   simp only [yO] at hw;obtain ⟨o,ho,rfl⟩:=hw;have:=(hS.op o ho).1;omega)]
  simp only [yk,yC,grd,if_true,yh];have e1:decide (8<(m.operations.length:Int)) = !decide (m.operations.length≤8):=by rw [← decide_not];exact decide_eq_decide.2 (by omega)
  have e2:decide (256<(m.actions.length:Int)) = !decide (m.actions.length≤256):=by rw [← decide_not];exact decide_eq_decide.2 (by omega)
  rw [e1,e2];cases decide (m.operations.length≤8) <;> cases distP [] (m.operations.map (·.name)) <;> cases decide (m.actions.length≤256) <;> simp
def zaR (hs:List Hide):Nat→Int→Int→Bool
 | 0,a,b=>a==b
 | k+1,a,b=>a==b||hs.any λh=>h.table==a&&zaR hs k h.to b
def hideP (m:Model) (h:Hide):Bool:=
 (((decide (0≤h.table)&&decide (h.table<(m.tables.length:Int)))&&(decide (0≤h.to)&&decide (h.to<(m.tables.length:Int))))&&(h.table != h.to)) &&
 (((((idx m.tables h.table).getD default).kind==0)&&(((idx m.tables h.to).getD default).kind==0))&&((decide (0≤h.column)&&decide (h.column<(((idx m.tables h.table).getD default).columns.length:Int)))&&(((((idx m.tables h.to).getD default).columns.length:Int)==1)&&((idx ((idx m.tables h.to).getD default).columns 0).getD default==(idx ((idx m.tables h.table).getD default).columns h.column).getD default))))
def zk7 (m:Model):Bool:=decide (m.hides.length≤12)&&(m.hides.all (hideP m)&&m.hides.all λh=>!zaR m.hides m.tables.length h.to h.table)
theorem zoj {m n self a b k} (hl:m.hides.length<n) (hl2:m.hides.length<1000000) (hk:k+1<1000000) (hself:∀ x,self m x b (k:Int)=some (zaR m.hides k x b)) :
  loopF (zaz.l1 n self m a b ((k+1:Nat):Int)) n 0=some (m.hides.any λh=>h.table==a&&zaR m.hides k h.to b):=by
 have:=zT (body:=zaz.l1 n self m a b ((k+1:Nat):Int)) (len:=m.hides.length) (st:=λi=>(i:Int)) (g:=λi=>some ((m.hides.drop i).any λh=>h.table==a&&zaR m.hides k h.to b)) (λrec i hi hr=>?_) (λrec=>?_) n 0 (yp _) (by omega)
 ·simpa using this
 ·have h0:decide (0<((k+1:Nat):Int))=true:=by simp
  have hsub:sub64 ((k+1:Nat):Int) 1=(k:Int):=by rw [ziw (by omega) (by omega)];simp
  simp only [zaz.l1,zn hi,h0,uT,if_true,za hi,ya,yk,yC,grd,yh,hsub,hself,zd (i:=i) (by omega),hr];rw [zh hi,uL];cases (m.hides[i].table==a&&zaR m.hides k m.hides[i].to b) <;> simp
 ·simp [zaz.l1]
theorem zmM {m} (hl:m.hides.length<1000000):∀ (k n:Nat) (a b:Int),k<1000000→1000000+k<n→zaz n m a b (k:Int)=some (zaR m.hides k a b)
 | 0,0,_,_,_,h=>by omega
 | 0,n+1,a,b,_,h=>by
  simp only [zaz,zaz.body,zaR];by_cases e:a=b
  ·simp [e]
  ·rw [if_neg (by simpa using e)];have hh:(a==b)=false:=by simpa using e
   rw [zhi (by omega),hh];simp [zaz.l1]
 | k+1,0,_,_,_,h=>by omega
 | k+1,n+1,a,b,hk,h=>by
  simp only [zaz,zaz.body,zaR];by_cases e:a=b
  ·simp [e]
  ·rw [if_neg (by simpa using e),zoj (by omega) hl hk λx=>zmM hl k n x b (by omega) (by omega)];have hh:(a==b)=false:=by simpa using e
   rw [hh,ue]
theorem znD {m:Model} {h:Hide} (h0:0≤h.table∧h.table<(m.tables.length:Int)) (h1:0≤h.to∧h.to<(m.tables.length:Int)):∃ t u,idx m.tables h.table=some t∧idx m.tables h.to=some u:=by
 obtain ⟨t,ht⟩:=zbw h0.1 h0.2;obtain ⟨u,hu⟩:=zbw h1.1 h1.2;exact ⟨t,u,ht,hu⟩
theorem zkf {n:Nat} {m:Model} (hn:4294967296≤n) (hS:SmallM m):zax n m=some (zk7 m):=by
 have hhl:=hS.hides;have htl:=hS.tables;unfold zax zk7;rw [if_neg (by simp;omega),decide_eq_true hhl,yA];have T:loopF (zax.l2 n m) n 0=some (m.hides.all λh=>!zaR m.hides m.tables.length h.to h.table):=by
  have:=zaJ (body:=zax.l2 n m) (l:=m.hides) (n:=n) (st:=λi=>(i:Int)) (λh=>!zaR m.hides m.tables.length h.to h.table) (some false) (some true) (λrec i hi=>?_) (λrec=>?_) (by omega)
  ·simp only [Int.natCast_zero] at this;rw [this];cases (m.hides.all λh=>!zaR m.hides m.tables.length h.to h.table) <;> rfl
  ·simp only [zax.l2,zn hi,if_true,za hi,ya,zmM (m:=m) (by omega) m.tables.length n m.hides[i].to m.hides[i].table (by omega) (by omega),zd (i:=i) (by omega)];cases zaR m.hides m.tables.length m.hides[i].to m.hides[i].table <;> simp
  ·simp [zax.l2]
 have:=zaJ (body:=zax.l1 n m) (l:=m.hides) (n:=n) (st:=λi=>(i:Int)) (hideP m) (some false) (some (m.hides.all λh=>!zaR m.hides m.tables.length h.to h.table)) (λrec i hi=>?_) (λrec=>?_) (by omega)
 ·simp only [Int.natCast_zero] at this;rw [this];cases m.hides.all (hideP m) <;> simp
 ·simp only [zax.l1,zn hi,if_true,za hi,ya,zd (i:=i) (by omega)];generalize m.hides[i]=h;by_cases hb:(((0≤h.table∧h.table<(m.tables.length:Int))∧(0≤h.to∧h.to<(m.tables.length:Int)))∧h.table≠h.to)
  ·rw [if_neg (by simp;omega)];obtain ⟨t,u,ht,hu⟩:=znD hb.1.1 hb.1.2;have hhp:hideP m h=(((t.kind==0)&&(u.kind==0))&&((decide (0≤h.column)&&decide (h.column<(t.columns.length:Int)))&&(((u.columns.length:Int)==1)&&((idx u.columns 0).getD default==(idx t.columns h.column).getD default)))):=by
    unfold hideP;rw [ht,hu];simp [hb]
   simp only [ht,hu,ya];rw [hhp];by_cases hk:(((t.kind==0)&&(u.kind==0))&&((decide (0≤h.column)&&decide (h.column<(t.columns.length:Int)))&&((u.columns.length:Int)==1)))=true
   ·have hk':=hk;simp only [yc,ye,beq_iff_eq] at hk';obtain ⟨⟨k1,k2⟩,⟨k3,k4⟩,k5⟩:=hk';obtain ⟨x,hx⟩:=zbw (l:=u.columns) (i:=0) (by omega) (by omega);obtain ⟨y,hy⟩:=zbw k3 k4;have n1:¬ h.column<0:=by omega
    have n2:¬ (t.columns.length:Int)≤h.column:=by omega
    simp only [k1,k2,k3,k4,k5,n1,n2,hx,hy,yh,decide_true,decide_false,uP,uS,yk,yC,Bool.or_false,yA,grd,if_true];by_cases hxy:x=y
    ·simp [hxy]
    ·simp [hxy]
   ·have hf:(((((t.kind != 0)||(u.kind != 0))||(decide (h.column<0)))||(decide ((t.columns.length:Int)≤h.column)))||((u.columns.length:Int) != 1))=true:=by
     simp only [yc,ye,beq_iff_eq] at hk;simp only [yz,bne_iff_ne,ye];omega
    simp only [hf,uO,grd,if_true];rw [← Bool.and_assoc (decide (0≤h.column)&&decide (h.column<(t.columns.length:Int))),← Bool.and_assoc];simp only [yF] at hk;rw [hk];rfl
  ·rw [if_pos (by simp;omega)];have hhp:hideP m h=false:=by
    unfold hideP;cases hx:(((decide (0≤h.table)&&decide (h.table<(m.tables.length:Int)))&&(decide (0≤h.to)&&decide (h.to<(m.tables.length:Int))))&&(h.table != h.to)) with
    | false=>rfl
    | true=>
     simp only [yc,ye,bne_iff_ne] at hx;exact absurd hx hb
   rw [hhp];rfl
 ·simp only [zax.l1,zaq,yf,if_false,T]
theorem zj6:∀ (T:Nat) (l:List Int),l.Nodup→(∀ x∈l,0≤x∧x<(T:Int))→l.length≤T
 | 0,l,_,h=>by
  cases l with
  | nil=>simp
  | cons x l=>have:=h x (by simp);omega
 | T+1,l,hn,h=>by
  by_cases hm:(T:Int)∈l
  ·have h1:=zj6 T (l.erase (T:Int)) (hn.erase _) (λx hx=>by
    have:=(hn.mem_erase_iff).1 hx;have:=h x this.2;omega)
   rw [List.length_erase_of_mem hm] at h1;omega
  ·have:=zj6 T l hn (λx hx=>by
    have:=h x hx;have:x≠(T:Int):=λe=>hm (e▸hx)
    omega)
   omega
theorem zjP {hs}:∀ {k:Nat} {a b:Int},zaR hs k a b=true→zaR hs (k+1) a b=true
 | 0,a,b,h=>by
  simp only [zaR] at h;simp only [zaR,h,uO]
 | k+1,a,b,h=>by
  rw [zaR] at h ⊢;simp only [yz,ut,yc] at h ⊢;rcases h with h | ⟨x,hx,h1,h2⟩
  ·exact .inl h
  ·exact .inr ⟨x,hx,h1,zjP h2⟩
theorem zpa {hs k j a b} (h:zaR hs k a b=true) (hkj:k≤j):zaR hs j a b=true:=by
 obtain ⟨d,rfl⟩:=Nat.exists_eq_add_of_le hkj;clear hkj
 induction d with
 | zero=>exact h
 | succ d ih=>exact zjP ih
theorem zfI {hs k a}:zaR hs k a a=true:=by cases k <;> simp [zaR]
theorem zjQ {hs h} (hh:h∈hs):∀ {k:Nat} {a:Int},zaR hs k a h.table=true→zaR hs (k+1) a h.to=true
 | 0,a,e=>by
  simp only [zaR,beq_iff_eq] at e;simp only [zaR,yz,ut,yc,beq_iff_eq];exact .inr ⟨h,hh,e.symm,rfl⟩
 | k+1,a,e=>by
  rw [zaR] at e ⊢;simp only [yz,ut,yc,beq_iff_eq] at e ⊢;rcases e with e | ⟨x,hx,h1,h2⟩
  ·exact .inr ⟨h,hh,e.symm,zfI⟩
  ·exact .inr ⟨x,hx,h1,zjQ hh h2⟩
def walkP (f:Int→Hide) (s:Int):Nat→Int
 | 0=>s
 | k+1=>(f (walkP f s k)).to
theorem zrl {hs:List Hide} {T:Nat} {S:List Int} (hS:S≠[]) (hb:∀ t∈S,0≤t∧t<(T:Int)) (hac:∀ h∈hs,zaR hs T h.to h.table=false):∃ t∈S,∀ h∈hs,¬ (h.table=t∧h.to∈S):=by
 apply Classical.byContradiction;intro hno;have hedge:∀ t,t∈S→∃ h,h∈hs∧h.table=t∧h.to∈S:=λt ht=>by
  apply Classical.byContradiction;intro hn;exact hno ⟨t,ht,λh hh he=>hn ⟨h,hh,he.1,he.2⟩⟩
 obtain ⟨s,hs0⟩:∃ s,s∈S:=by
  cases S with
  | nil=>exact absurd rfl hS
  | cons x l=>exact ⟨x,by simp⟩
 obtain ⟨f,hf⟩:∃ f:Int→Hide,∀ t,t∈S→f t∈hs∧(f t).table=t∧(f t).to∈S:=by
  refine ⟨λt=>if ht:t∈S then Classical.choose (hedge t ht) else default,λt ht=>?_⟩;simp only [ht,dite_true];exact Classical.choose_spec (hedge t ht)
 have hw:∀ k,walkP f s k∈S:=λk=>by
  induction k with
  | zero=>exact hs0
  | succ k ih=>exact (hf _ ih).2.2
 have hlead:∀ d i,zaR hs d (walkP f s i) (walkP f s (i+d))=true:=λd=>by
  induction d with
  | zero=>intro i;exact zfI
  | succ d ih=>
   intro i;simp only [zaR,yz,ut,yc,beq_iff_eq];refine .inr ⟨f (walkP f s i),(hf _ (hw i)).1,(hf _ (hw i)).2.1,?_⟩;have:=ih (i+1);rw [show i+1+d=i+(d+1) by omega] at this;exact this
 have hne:∀ i j,i<j→j≤T→walkP f s i≠walkP f s j:=λi j hij hj e=>by
  have h1:=hlead (j - i - 1) (i+1);rw [show i+1+(j - i - 1)=j by omega,← e] at h1;have h2:=hac _ (hf _ (hw i)).1;rw [(hf _ (hw i)).2.1] at h2;have h3:zaR hs T (f (walkP f s i)).to (walkP f s i)=true:=zpa h1 (by omega);rw [h3] at h2;cases h2
 have hlen:=zj6 T ((List.range (T+1)).map (walkP f s)) (by
  rw [List.Nodup,List.pairwise_map];exact List.Pairwise.imp_of_mem (λ{a b} _ hb hab=>hne a b hab (by have:=ua.1 hb;omega)) List.pairwise_lt_range) (λx hx=>by
  simp only [yO] at hx;obtain ⟨k,-,rfl⟩:=hx;exact hb _ (hw k))
 simp at hlen;omega
def zcd (m:GMap Int Bool):List Int:=m.es.map λe=>e.2.1
structure WfM (m:GMap Int Bool):Prop where
 tru:∀ e∈m.es,e.2.2=true
 nd:(m.es.map (·.1)).Nodup
 lt:∀ e∈m.es,e.1<m.clock
theorem WfM.get {m} (h:WfM m) (k):(m.get? k).getD false=decide (k∈zcd m):=by
 unfold GMap.get?;rw [zjK k m.es h.tru];rfl
theorem WfM.empty:WfM (GMap.empty:GMap Int Bool):=⟨λe he=>(by simp [GMap.empty] at he),by simp [GMap.empty],λe he=>(by simp [GMap.empty] at he)⟩
theorem znx (k):∀ (es:List (Nat×Int×Bool)) (p:Nat×Bool),findK k es=some p→∃ h:p.1<es.length,es[p.1].2.1=k
 | [],_,h=>by simp [findK] at h
 | e::es,p,h=>by
  simp only [findK] at h;split at h
  ·rename_i hk;cases h;exact ⟨by simp,hk.symm⟩
  ·simp only [Option.map_eq_some_iff] at h;obtain ⟨q,h1,rfl⟩:=h;obtain ⟨h2,h3⟩:=znx k es q h1;exact ⟨by simp only [yQ];omega,by simpa using h3⟩
theorem zhG (f) (hf:∀ e,(f e).1=e.1):∀ (es:List (Nat×Int×Bool)) (i:Nat),(es.modify i f).map (·.1)=es.map (·.1)
 | [],_=>by simp
 | e::es,0=>by simp [hf]
 | e::es,i+1=>by simp [zhG f hf es i]
theorem WfM.put {m} (h:WfM m) (k):WfM (m.put k true)∧(m.put k true).es.length≤m.es.length+1∧∀ t,t∈zcd (m.put k true)↔t∈zcd m∨t=k:=by
 unfold GMap.put zcd;cases hk:findK k m.es with
 | none=>
  simp only [];refine ⟨⟨λe he=>?_,?_,λe he=>?_⟩,by simp,λt=>by simp⟩
  ·simp only [yE,yB] at he;rcases he with he | rfl
   ·exact h.tru e he
   ·rfl
  ·simp only [y8,yI,List.map_nil];rw [uM];refine ⟨h.nd,by simp,λa ha b hb=>?_⟩;simp only [yB] at hb;subst hb;simp only [yO] at ha;obtain ⟨e,he,rfl⟩:=ha;have:=h.lt e he;omega
  ·simp only [yE,yB] at he;rcases he with he | rfl
   ·have:=h.lt e he;simp only [];omega
   ·simp
 | some p=>
  obtain ⟨i,b⟩:=p;simp only [];have hb:=zhG (λe:Nat×Int×Bool=>(e.1,e.2.1,true)) (λe=>rfl) m.es i;refine ⟨⟨zio (p:=λe=>e.2.2=true) _ (λe=>rfl) m.es i h.tru,by rw [hb];exact h.nd,λe he=>?_⟩,by simp,λt=>?_⟩
  ·have:e.1∈m.es.map (·.1):=by rw [← hb];exact List.mem_map_of_mem he
   simp only [yO] at this;obtain ⟨x,hx,e1⟩:=this;have:=h.lt x hx;simp only [];omega
  ·rw [zhk (λe:Nat×Int×Bool=>(e.1,e.2.1,true)) (λe=>rfl) m.es i];constructor
   ·exact .inl
   ·rintro (h1 | rfl)
    ·exact h1
    ·exact zjL _ m.es _ hk
theorem WfM.del {m} (h:WfM m) {e} (he:e∈m.es):WfM (m.del e.2.1)∧(m.del e.2.1).clock=m.clock∧(m.del e.2.1).es.length+1=m.es.length∧(m.del e.2.1).es.Sublist m.es∧∀ t,t∈zcd m→t≠e.2.1→t∈zcd (m.del e.2.1):=by
 unfold GMap.del zcd;cases hk:findK e.2.1 m.es with
 | none=>exact absurd (List.mem_map_of_mem (f:=λe:Nat×Int×Bool=>e.2.1) he) (zny _ m.es hk)
 | some p=>
  obtain ⟨i,b⟩:=p;obtain ⟨hi,hik⟩:=znx _ m.es _ hk;simp only [] at hi hik ⊢;have hsub:=List.eraseIdx_sublist m.es i;refine ⟨⟨λx hx=>h.tru x (hsub.subset hx),(hsub.map _).nodup h.nd,λx hx=>h.lt x (hsub.subset hx)⟩,trivial,?_,hsub,λt ht hne=>?_⟩
  ·rw [List.length_eraseIdx_of_lt hi];omega
  ·simp only [yO] at ht ⊢;obtain ⟨x,hx,rfl⟩:=ht;obtain ⟨j,hj,rfl⟩:=List.mem_iff_getElem.1 hx;refine ⟨_,?_,rfl⟩;rw [List.mem_eraseIdx_iff_getElem];refine ⟨j,hj,λe1=>hne ?_,rfl⟩;subst e1;exact hik
theorem zmp {m m':GMap Int Bool} {seen:List Nat} {e:Nat×Int×Bool} (he:e∈m.left seen) (hs:m'.es.Sublist m.es):(m'.left (seen++[e.1])).length<(m.left seen).length:=by
 unfold GMap.left at he ⊢;have h1:(m'.es.filter λx=>!(seen++[e.1]).contains x.1).length≤(m.es.filter λx=>!(seen++[e.1]).contains x.1).length:=(hs.filter _).length_le;have h2:(m.es.filter λx=>!(seen++[e.1]).contains x.1)=(m.es.filter λx=>!seen.contains x.1).filter λx=>!(x.1==e.1):=by
  rw [List.filter_filter];congr 1;funext x;rw [Bool.eq_iff_iff];simp;constructor
  ·rintro ⟨a,b⟩;exact ⟨b,a⟩
  ·rintro ⟨a,b⟩;exact ⟨b,a⟩
 have h3:((m.es.filter λx=>!seen.contains x.1).filter λx=>!(x.1==e.1)).length<(m.es.filter λx=>!seen.contains x.1).length:=
  List.length_filter_lt_length_iff_exists.2 ⟨e,he,by simp⟩
 rw [h2] at h1;omega
theorem ziU {n:Nat} {j:Judge} {m0:GMap Int Bool} {i:Int} {rec:(GMap Int Bool×Int)→Option Bool} {r:Bool} (hn:1000000≤n) (hh:j.model.hides.length<1000000) (J:GMap Int Bool→List Nat→Prop)
  (hwf:∀ m seen,J m seen→WfM m∧m.clock=m0.clock) (hover:∀ m seen,J m seen→m.left seen=[]→rec (m,add64 i 1)=some r)
  (hstep:∀ m seen e,J m seen→e∈m.left seen→J (if (j.model.hides.any λh=>h.table==e.2.1&&decide (h.to∈zcd m))=true then m else m.del e.2.1) (seen++[e.1]))
  (h0:J m0 []) (hl:m0.es.length<1000000):loopF (zi.l4 n j m0 i rec) n (m0,[],m0.clock)=some r:=by
 refine zet (body:=zi.l4 n j m0 i rec) (λs=>(s.1.left s.2.1).length) (λs=>J s.1 s.2.1∧s.2.2=m0.clock) (λ_ o=>o=some r) (λrec' s hI hr=>?_) n _ ⟨h0,rfl⟩ ?_
 ·obtain ⟨m,seen,last⟩:=s;obtain ⟨hJ,hlast⟩:=hI;simp only [] at hJ hlast hr;subst hlast;obtain ⟨hw,hc⟩:=hwf m seen hJ;simp only [zi.l4,stepM];have hold:m.old m0.clock m0.clock=true:=by
   simp only [GMap.old,yc,yr,ye];exact ⟨λe he=>by have:=hw.lt e he;omega,yn _⟩
  rw [hold];unfold grd;rw [if_pos rfl];cases hleft:m.left seen with
  | nil=>
   simp only [List.isEmpty_nil,if_true];exact hover m seen hJ hleft
  | cons x l=>
   rw [← hleft,if_neg (by rw [hleft];simp)];refine zls (by rw [hleft];simp) (λe he=>?_);have hem:e∈m.es:=(List.mem_filter.1 he).1;rw [if_pos (by simpa using hw.nd),zdU (p:=λh=>h.table==e.2.1&&decide (h.to∈zcd m)) (λh _=>by
    unfold zc4;rw [hw.get]) hh hn,ya]
   have hst:=hstep m seen e hJ he;cases hb:(j.model.hides.any λh=>h.table==e.2.1&&decide (h.to∈zcd m)) with
   | true=>
    rw [hb] at hst;rw [if_neg (by simp)];exact hr (m,seen++[e.1],m.clock) ⟨hst,hc⟩ (zmp he (List.Sublist.refl _))
   | false=>
    rw [hb] at hst;rw [if_pos (by simp)];exact hr (m.del e.2.1,seen++[e.1],m.clock) ⟨hst,hc⟩ (zmp he (hw.del hem).2.2.2.1)
 ·have:(m0.left []).length≤m0.es.length:=List.length_filter_le _ _;simp only [];omega
theorem zhH {α β:Type} {f:α→β}:∀ {l:List α},(l.map f).Nodup→∀ x∈l,∀ y∈l,f x=f y→x=y
 | [],_,x,hx,_,_,_=>by simp at hx
 | a::l,h,x,hx,y,hy,e=>by
  simp only [yI,List.nodup_cons,yO,not_exists,not_and] at h;simp only [yD] at hx hy;rcases hx with rfl | hx <;> rcases hy with rfl | hy
  ·rfl
  ·exact absurd e.symm (h.1 y hy)
  ·exact absurd e (h.1 x hx)
  ·exact zhH h.2 x hx y hy e
theorem zlz {n:Nat} {j:Judge} {m:GMap Int Bool} (hn:1000000≤n) (hh:j.model.hides.length≤1000) (hok:∀ h∈j.model.hides,(0≤h.table∧h.table<(j.model.tables.length:Int)))
  (hw:WfM m) (hlen:m.es.length≤j.model.hides.length) (hk:∀ t,t∈zcd m↔∃ h∈j.model.hides,h.table=t) :
  loopF (zi.l3 n j) n (m,0)=some (j.model.hides.all λh=>!zaR j.model.hides j.model.tables.length h.to h.table):=by
 cases hac:(j.model.hides.all λh=>!zaR j.model.hides j.model.tables.length h.to h.table) with
 | true=>
  have hac':∀ h∈j.model.hides,zaR j.model.hides j.model.tables.length h.to h.table=false:=λh hm=>by
   have:=yr.1 hac h hm;simpa using this
  have hrange:∀ m':GMap Int Bool,(∀ t∈zcd m',∃ h∈j.model.hides,h.table=t)→m'.es≠[]→∃ e∈m'.es,∀ h∈j.model.hides,¬ (h.table=e.2.1∧h.to∈zcd m'):=λm' hm' hne=>by
   obtain ⟨t,ht,hs⟩:=zrl (hs:=j.model.hides) (T:=j.model.tables.length) (S:=zcd m') (by simpa [zcd] using hne) (λt ht=>by
    obtain ⟨h,hh,rfl⟩:=hm' t ht;exact hok h hh) hac'
   simp only [zcd,yO] at ht;obtain ⟨e,he,rfl⟩:=ht;exact ⟨e,he,hs⟩
  refine zbi (body:=zi.l3 n j) (len:=j.model.hides.length) (st:=λm i=>(m,(i:Int))) (g:=λ_ _=>some true) (λi m=>WfM m∧m.es.length+i≤j.model.hides.length∧∀ t∈zcd m,∃ h∈j.model.hides,h.table=t) (λrec i m hi hI hr=>?_) (λrec m hI=>?_) n 0 m (yp _) (by omega) ⟨hw,by omega,λt ht=>(hk t).1 ht⟩
  ·obtain ⟨h1,h2,h3⟩:=hI;simp only [zi.l3,zn hi,if_true];refine ziU (r:=true) (by omega) (by omega) (λm' seen=>(WfM m'∧m'.clock=m.clock∧∀ t∈zcd m',∃ h∈j.model.hides,h.table=t)∧(m'.es.length+i+1≤j.model.hides.length∨(m'.es.length+i≤j.model.hides.length∧∃ e∈m'.left seen,∀ h∈j.model.hides,¬ (h.table=e.2.1∧h.to∈zcd m')))) (λm' seen hJ=>⟨hJ.1.1,hJ.1.2.1⟩) (λm' seen hJ hl=>?_) (λm' seen e hJ he=>?_) ⟨⟨h1,rfl,h3⟩,?_⟩ (by omega)
   ·rw [zd (by omega)];refine hr m' ⟨hJ.1.1,?_,hJ.1.2.2⟩;rcases hJ.2 with h | ⟨-,e,he,-⟩
    ·omega
    ·rw [hl] at he;cases he
   ·obtain ⟨⟨w1,w2,w3⟩,hd⟩:=hJ;have hem:e∈m'.es:=(List.mem_filter.1 he).1;obtain ⟨d1,d2,d3,d4,-⟩:=w1.del hem;cases hb:(j.model.hides.any λh=>h.table==e.2.1&&decide (h.to∈zcd m')) with
    | true=>
     rw [if_pos rfl];refine ⟨⟨w1,w2,w3⟩,?_⟩;rcases hd with hd | ⟨hd,x,hx,hs⟩
     ·exact .inl hd
     ·refine .inr ⟨hd,x,?_,hs⟩;simp only [GMap.left,List.mem_filter] at hx ⊢;refine ⟨hx.1,?_⟩;have hne:x.1≠e.1:=λe1=>by
       have:x=e:=zhH w1.nd x hx.1 e hem e1;subst this;simp only [ut,yc,beq_iff_eq,ye] at hb;obtain ⟨h,hh,q⟩:=hb;exact hs h hh q
      simp only [yG,List.contains_eq_mem,yM,yE,yB,not_or] at hx ⊢;exact ⟨hx.2,hne⟩
    | false=>
     rw [if_neg (by simp)];refine ⟨⟨d1,by omega,λt ht=>?_⟩,.inl ?_⟩
     ·refine w3 t ?_;simp only [zcd,yO] at ht ⊢;obtain ⟨x,hx,rfl⟩:=ht;exact ⟨x,d4.subset hx,rfl⟩
     ·rcases hd with hd | ⟨hd,-⟩ <;> omega
   ·by_cases hne:m.es=[]
    ·left;rw [hne];simp;omega
    ·right;refine ⟨h2,?_⟩;obtain ⟨e,he,hs⟩:=hrange m h3 hne;exact ⟨e,by simp [GMap.left,he],hs⟩
  ·have:m.es.length=0:=by omega
   simp [zi.l3,this]
 | false=>
  obtain ⟨h0,hm0,hl0⟩:∃ h∈j.model.hides,zaR j.model.hides j.model.tables.length h.to h.table=true:=by
   simp only [List.all_eq_false] at hac;obtain ⟨h,hm,hx⟩:=hac;exact ⟨h,hm,by simpa using hx⟩
  have hclosed:∀ t,((∃ k,zaR j.model.hides k h0.to t=true)∧∃ k,zaR j.model.hides k t h0.table=true)→∃ h∈j.model.hides,h.table=t∧((∃ k,zaR j.model.hides k h0.to h.to=true)∧∃ k,zaR j.model.hides k h.to h0.table=true):=by
   rintro t ⟨⟨a,ha⟩,b,hb⟩;have hcase:t=h0.table∨∃ h∈j.model.hides,h.table=t∧∃ k,zaR j.model.hides k h.to h0.table=true:=by
    cases b with
    | zero=>left;simpa [zaR] using hb
    | succ b=>
     simp only [zaR,yz,beq_iff_eq,ut,yc] at hb;rcases hb with hb | ⟨h,hm,e,hx⟩
     ·exact .inl hb
     ·exact .inr ⟨h,hm,e,b,hx⟩
   rcases hcase with rfl | ⟨h,hm,rfl,k,hx⟩
   ·exact ⟨h0,hm0,rfl,⟨0,zfI⟩,_,hl0⟩
   ·exact ⟨h,hm,rfl,⟨_,zjQ hm ha⟩,k,hx⟩
  generalize hC:(λt=>(∃ k,zaR j.model.hides k h0.to t=true)∧∃ k,zaR j.model.hides k t h0.table=true)=C at *;have hC':∀ t,C t→∃ h∈j.model.hides,h.table=t∧C h.to:=by
   intro t ht;rw [← hC] at ht ⊢;exact hclosed t ht
  have hCs:C h0.to:=by rw [← hC];exact ⟨⟨0,zfI⟩,_,hl0⟩
  refine zbi (body:=zi.l3 n j) (len:=j.model.hides.length) (st:=λm i=>(m,(i:Int))) (g:=λ_ _=>some false) (λi m=>WfM m∧m.es.length≤1000∧∀ t,C t→t∈zcd m) (λrec i m hi hI hr=>?_) (λrec m hI=>?_) n 0 m (yp _) (by omega) ⟨hw,by omega,λt ht=>(hk t).2 (by
   obtain ⟨h,hh,e,-⟩:=hC' t ht;exact ⟨h,hh,e⟩)⟩
  ·obtain ⟨h1,h2,h3⟩:=hI;simp only [zi.l3,zn hi,if_true];refine ziU (r:=false) (by omega) (by omega) (λm' seen=>WfM m'∧m'.clock=m.clock∧m'.es.length≤1000∧∀ t,C t→t∈zcd m') (λm' seen hJ=>⟨hJ.1,hJ.2.1⟩) (λm' seen hJ hl=>?_) (λm' seen e hJ he=>?_) ⟨h1,rfl,h2,h3⟩ (by omega)
   ·rw [zd (by omega)];exact hr m' ⟨hJ.1,hJ.2.2⟩
   ·obtain ⟨w1,w2,w3,w4⟩:=hJ;have hem:e∈m'.es:=(List.mem_filter.1 he).1;obtain ⟨d1,d2,d3,-,d5⟩:=w1.del hem;cases hb:(j.model.hides.any λh=>h.table==e.2.1&&decide (h.to∈zcd m')) with
    | true=>
     rw [if_pos rfl];exact ⟨w1,w2,w3,w4⟩
    | false=>
     rw [if_neg (by simp)];refine ⟨d1,by omega,by omega,λt ht=>d5 t (w4 t ht) λe1=>?_⟩;obtain ⟨h,hh,hht,hto⟩:=hC' t ht;have:=List.any_eq_false.1 hb h hh;apply this;simp only [yc,beq_iff_eq,ye];exact ⟨by omega,w4 _ hto⟩
  ·obtain ⟨-,-,h3⟩:=hI;have:=h3 _ hCs;have hne:m.es.length≠0:=λe=>by
    simp only [zcd,List.length_eq_zero_iff.1 e,List.map_nil,List.not_mem_nil] at this
   simp only [zi.l3,zaq,yf,if_false,yi,ug];omega
theorem zj3 {n m l} (hn:1000000≤n) (hS:SmallM m):zi n ⟨m,l⟩=some (zk7 m):=by
 have hhl:=hS.hides;have htl:=hS.tables;unfold zi zk7;rw [if_neg (by simp;omega),decide_eq_true hhl,yA];have:=zaJ (body:=zi.l1 n ⟨m,l⟩) (l:=m.hides) (n:=n) (st:=λi=>(i:Int)) (hideP m) (some false) (loopF (zi.l2 n ⟨m,l⟩) n (GMap.empty,0)) (λrec i hi=>?_) (λrec=>?_) (by omega)
 ·simp only [Int.natCast_zero] at this;rw [this];cases hall:m.hides.all (hideP m) with
  | false=>simp
  | true=>
   rw [if_pos rfl,yA];have hok:∀ h∈m.hides,(0≤h.table∧h.table<(m.tables.length:Int)):=λh hm=>by
    have:=yr.1 hall h hm;simp only [hideP,yc,ye] at this;exact this.1.1.1
   refine zbi (body:=zi.l2 n ⟨m,l⟩) (len:=m.hides.length) (st:=λg i=>(g,(i:Int))) (g:=λ_ _=>some (m.hides.all λh=>!zaR m.hides m.tables.length h.to h.table)) (λi g=>WfM g∧g.es.length≤i∧∀ t,t∈zcd g↔∃ h∈m.hides.take i,h.table=t) (λrec i g hi hI hr=>?_) (λrec g hI=>?_) n 0 GMap.empty (yp _) (by omega) ⟨WfM.empty,by simp [GMap.empty],λt=>by simp [zcd,GMap.empty]⟩
   ·obtain ⟨h1,h2,h3⟩:=hI;obtain ⟨p1,p2,p3⟩:=h1.put m.hides[i].table;simp only [zi.l2,zn hi,if_true,za hi,ya,zd (i:=i) (by omega)];refine hr _ ⟨p1,by omega,λt=>?_⟩;rw [p3,h3,yv hi];simp only [yE,yB];constructor
    ·rintro (⟨h,hm,e⟩ | e)
     ·exact ⟨h,.inl hm,e⟩
     ·exact ⟨_,.inr rfl,e.symm⟩
    ·rintro ⟨h,hm | rfl,e⟩
     ·exact .inl ⟨h,hm,e⟩
     ·exact .inr e.symm
   ·obtain ⟨h1,h2,h3⟩:=hI;simp only [zi.l2,zaq,yf,if_false];exact zlz (j:=⟨m,l⟩) hn (by simp only [];omega) hok h1 h2 (λt=>by rw [h3,List.take_length])
 ·simp only [zi.l1,zas,zn hi,if_true,za hi,ya,yk,yC,yh,zd (i:=i) (by omega)];generalize m.hides[i]=h;by_cases hb:(((0≤h.table∧h.table<(m.tables.length:Int))∧(0≤h.to∧h.to<(m.tables.length:Int)))∧h.table≠h.to)
  ·simp only [grd,if_true];rw [if_neg (by simp [hb])];obtain ⟨t,u,ht,hu⟩:=znD hb.1.1 hb.1.2;have hhp:hideP m h=(((t.kind==0)&&(u.kind==0))&&((decide (0≤h.column)&&decide (h.column<(t.columns.length:Int)))&&(((u.columns.length:Int)==1)&&((idx u.columns 0).getD default==(idx t.columns h.column).getD default)))):=by
    unfold hideP;rw [ht,hu];simp [hb]
   simp only [ht,hu,ya];rw [hhp];by_cases hk:(((t.kind==0)&&(u.kind==0))&&((decide (0≤h.column)&&decide (h.column<(t.columns.length:Int)))&&((u.columns.length:Int)==1)))=true
   ·have hk':=hk;simp only [yc,ye,beq_iff_eq] at hk';obtain ⟨⟨k1,k2⟩,⟨k3,k4⟩,k5⟩:=hk';obtain ⟨x,hx⟩:=zbw (l:=u.columns) (i:=0) (by omega) (by omega);obtain ⟨y,hy⟩:=zbw k3 k4;simp only [k1,k2,k3,k4,k5,hx,hy,yh,decide_true,uP,uS,yk,yC,Bool.or_false,yA,uT,yW,if_true];by_cases hxy:x=y
    ·simp [hxy]
    ·simp [hxy]
   ·have hf:(((((t.kind != 0)||(u.kind != 0))||(!(decide (0≤h.column)&&decide (h.column<(t.columns.length:Int)))))||((u.columns.length:Int) != 1)))=true:=by
     simp only [yc,ye,beq_iff_eq] at hk;simp only [yz,bne_iff_ne,yG,uf,yM];omega
    simp only [hf,uO,if_true];rw [← Bool.and_assoc (decide (0≤h.column)&&decide (h.column<(t.columns.length:Int))),← Bool.and_assoc];simp only [yF] at hk;rw [hk];rfl
  ·have hhp:hideP m h=false:=by
    unfold hideP;cases hx:(((decide (0≤h.table)&&decide (h.table<(m.tables.length:Int)))&&(decide (0≤h.to)&&decide (h.to<(m.tables.length:Int))))&&(h.table != h.to)) with
    | false=>rfl
    | true=>
     simp only [yc,ye,bne_iff_ne] at hx;exact absurd hx hb
   rw [hhp];simp only [grd,if_true];rw [if_pos (by
    simp only [yz,yG,uf,yM,beq_iff_eq];omega)]
   rfl
 ·simp [zi.l1]
def zbb (m:Model):Bool:=(zaN m.sorts m.tables&&(decide (m.families.length≤24)&&distP [] m.families))&&(consP m (zI m.sorts true m.tables)&&(opsP m&&(actsP m (zI m.sorts true m.tables).length&&zk7 m)))
theorem zkF {n m} (hF:Fuel n) (hS:SmallM m):zfK n m=some (zbb m):=by
 have hn:=hF.big;have hs:=hS.sorts;have ht:=hS.tables;have hf:=hS.families;have hcs:∀ t∈m.tables,t.columns.length≤1000:=λt h=>by have:=hS.tab t h;omega
 unfold zfK zbb;rw [ze0 hF (by omega) (by omega) hcs,zfo hF (by omega)];simp only [ya,yk,yC,grd,if_true,yh];have e1:decide (24<(m.families.length:Int)) = !decide (m.families.length≤24):=by rw [← decide_not];exact decide_eq_decide.2 (by omega)
 rw [e1];cases hL:zaN m.sorts m.tables with
 | false=>simp
 | true=>
  by_cases hd:(decide (m.families.length≤24)&&distP [] m.families)=true
  ·rw [hd];simp only [yc] at hd;rw [hd.1,hd.2,if_neg (by simp),zjC hF (by omega) (by omega) hcs,hL];simp only [if_true,ya];obtain ⟨l1,l2,l3,l4⟩:=zbn hL;have hlen:=zcJ (sizes:=m.sorts) (s:=true) (l:=m.tables) λx hx=>(l4 x hx).2.2.2.2
   rw [zgS hS (λt ht=>(l4 t ht).2.2.2.1) (by omega) (by omega),zhj hF hS,zj3 (by omega) hS];simp only [ya,yk,yh,yC,if_true];cases consP m (zI m.sorts true m.tables) with
   | false=>simp
   | true=>
    cases hO:opsP m with
    | false=>simp
    | true=>
     rw [zjb hF hS hO];simp
  ·have h2:(!true||!decide (m.families.length≤24)||!distP [] m.families)=true:=by
    simp only [yc,not_and,yF] at hd;cases h1:decide (m.families.length≤24) with
    | false=>rfl
    | true=>rw [hd h1];rfl
   rw [if_pos h2];simp only [yF] at hd;rw [hd];rfl
theorem zfa {n m} (hn:4294967296≤n) (hS:SmallM m):zdJ n m=some (zbb m):=by
 have hs:=hS.sorts;have ht:=hS.tables;have hf:=hS.families;have hcs:∀ t∈m.tables,t.columns.length≤1000∧t.name.length≤4096:=λt h=>by have:=hS.tab t h;omega
 unfold zdJ zbb;rw [ze8 (by omega) (by omega) (by omega) hcs,zfu (by omega) (by omega) (λw hw=>by have:=hS.fam w hw;omega)];simp only [ya,yk,yC,grd,if_true,yh];have e1:decide (24<(m.families.length:Int)) = !decide (m.families.length≤24):=by rw [← decide_not];exact decide_eq_decide.2 (by omega)
 rw [e1];cases hL:zaN m.sorts m.tables with
 | false=>simp
 | true=>
  by_cases hd:(decide (m.families.length≤24)&&distP [] m.families)=true
  ·rw [hd];simp only [yc] at hd;rw [hd.1,hd.2,if_neg (by simp),zgU hS hL (by omega),zjf (by omega) hS hL,zkf hn hS];simp only [ya,yk,yh,yC,if_true,yA];simp only [Bool.and_assoc]
  ·have h2:(!true||!decide (m.families.length≤24)||!distP [] m.families)=true:=by
    simp only [yc,not_and,yF] at hd;cases h1:decide (m.families.length≤24) with
    | false=>rfl
    | true=>rw [hd h1];rfl
   rw [if_pos h2];simp only [yF] at hd;rw [hd];rfl
def lensP (m:Model):Bool:=(((((((decide (8<(m.sorts.length:Int)))||(decide (6<(m.tables.length:Int))))||(decide (20<(m.families.length:Int))))||(decide (60<(m.constraints.length:Int))))||(decide (8<(m.operations.length:Int))))||(decide (30<(m.actions.length:Int))))||(decide (12<(m.hides.length:Int))))
def tabF (t:Table):Bool:=decide (t.name.length≤40)&&decide (t.columns.length≤12)
def opF (o:Operation):Bool:=decide (o.name.length≤40)&&decide (o.sorts.length≤6)
def actF (a:Action):Bool:=((decide (a.arguments.length≤6)&&decide (a.effect.delta.length≤20))&&(decide (a.effect.hold.length≤10)&&decide (a.effect.updates.length≤40)))&&a.effect.hold.all λr=>decide (r.terms.length≤20)
def zgK (m:Model):Bool:=!lensP m&&(m.tables.all tabF&&(m.families.all (λs=>decide (s.length≤40))&&(m.constraints.all (λc=>decide (c.row.terms.length≤20))&&(m.operations.all opF&&m.actions.all actF))))
theorem zmx {a b:Nat}:decide ((a:Int)<(b:Int)) = !decide (b≤a):=by rw [← decide_not];exact decide_eq_decide.2 (by omega)
theorem zjd {n:Nat} {m:Model} (hn:1000000≤n):zt n m=some (zgK m):=by
 unfold zt zgK;have hl:(((((((decide (8<(m.sorts.length:Int)))||(decide (6<(m.tables.length:Int))))||(decide (20<(m.families.length:Int))))||(decide (60<(m.constraints.length:Int))))||(decide (8<(m.operations.length:Int))))||(decide (30<(m.actions.length:Int))))||(decide (12<(m.hides.length:Int))))=lensP m:=rfl;rw [hl];cases hlen:lensP m with
 | true=>simp [grd]
 | false=>
  simp only [lensP,un,yM] at hlen;obtain ⟨⟨⟨⟨⟨⟨b1,b2⟩,b3⟩,b4⟩,b5⟩,b6⟩,b7⟩:=hlen;have hfew:zcK n m.sorts m.tables=some (m.tables.all tabF):=by
   have:=zaJ (body:=zcK.l1 n m.sorts m.tables) (l:=m.tables) (n:=n) (st:=λi=>(i:Int)) tabF (some false) (some true) (λrec i hi=>?_) (λrec=>?_) (by omega)
   ·simp only [Int.natCast_zero] at this;unfold zcK;rw [this];cases m.tables.all tabF <;> rfl
   ·simp only [zcK.l1,zn hi,if_true,za hi,ya,yk,yC,grd,yh,zd (i:=i) (by omega)];unfold tabF;by_cases h1:m.tables[i].name.length≤40
    ·by_cases h2:m.tables[i].columns.length≤12
     ·rw [if_neg (by simp;omega),if_pos (by simp [h1,h2])]
     ·rw [if_pos (by simp;omega),if_neg (by simp [h2])]
    ·rw [if_pos (by simp;omega),if_neg (by simp [h1])]
   ·simp [zcK.l1];omega
  rw [hfew];simp only [yk,yC,grd,if_true,yh,ue,ui,yA];cases m.tables.all tabF with
  | false=>simp
  | true=>
   rw [if_neg (by simp),yA];have h4:loopF (zt.l4 n m) n 0=some (m.actions.all actF):=by
    have:=zaJ (body:=zt.l4 n m) (l:=m.actions) (n:=n) (st:=λi=>(i:Int)) actF (some false) (some true) (λrec i hi=>?_) (λrec=>?_) (by omega)
    ·simp only [Int.natCast_zero] at this;rw [this];cases m.actions.all actF <;> rfl
    ·simp only [zt.l4,zn hi,if_true,za hi,ya];unfold actF;by_cases hx:((decide (m.actions[i].arguments.length≤6)&&decide (m.actions[i].effect.delta.length≤20))&&(decide (m.actions[i].effect.hold.length≤10)&&decide (m.actions[i].effect.updates.length≤40)))=true
     ·rw [hx,yA];simp only [yc,ye] at hx;rw [if_neg (by simp;omega)];have:=zaJ (body:=zt.l5 n i rec m.actions[i]) (l:=m.actions[i].effect.hold) (n:=n) (st:=λk=>(k:Int)) (λr=>decide (r.terms.length≤20)) (some false) (rec ((i+1:Nat):Int)) (λrec' k hk=>?_) (λrec'=>?_) (by omega)
      ·simpa using this
      ·simp only [zt.l5,zn hk,if_true,za hk,ya,zd (i:=k) (by omega)];by_cases h:m.actions[i].effect.hold[k].terms.length≤20
       ·rw [if_neg (by simp;omega),if_pos (by simp [h])]
       ·rw [if_pos (by simp;omega),if_neg (by simp [h])]
      ·simp only [zt.l5,zaq,yf,if_false,zd (i:=i) (by omega)]
     ·rw [if_pos (by
       simp only [yc,ye] at hx;simp only [yz,ye];omega)]
      simp only [yF] at hx;rw [hx,yU,if_neg (by simp)]
    ·simp [zt.l4]
   have h3:loopF (zt.l3 n m) n 0=some (m.operations.all opF&&m.actions.all actF):=by
    have:=zaJ (body:=zt.l3 n m) (l:=m.operations) (n:=n) (st:=λi=>(i:Int)) opF (some false) (some (m.actions.all actF)) (λrec i hi=>?_) (λrec=>?_) (by omega)
    ·simp only [Int.natCast_zero] at this;rw [this];cases m.operations.all opF <;> rfl
    ·simp only [zt.l3,zn hi,if_true,za hi,ya,yk,yC,grd,yh,zd (i:=i) (by omega)];unfold opF;by_cases h1:m.operations[i].name.length≤40
     ·by_cases h2:m.operations[i].sorts.length≤6
      ·rw [if_neg (by simp;omega),if_pos (by simp [h1,h2])]
      ·rw [if_pos (by simp;omega),if_neg (by simp [h2])]
     ·rw [if_pos (by simp;omega),if_neg (by simp [h1])]
    ·simp only [zt.l3,zaq,yf,if_false,h4]
   have h2:loopF (zt.l2 n m) n 0=some (m.constraints.all (λc=>decide (c.row.terms.length≤20))&&(m.operations.all opF&&m.actions.all actF)):=by
    have:=zaJ (body:=zt.l2 n m) (l:=m.constraints) (n:=n) (st:=λi=>(i:Int)) (λc=>decide (c.row.terms.length≤20)) (some false) (some (m.operations.all opF&&m.actions.all actF)) (λrec i hi=>?_) (λrec=>?_) (by omega)
    ·simp only [Int.natCast_zero] at this;rw [this];cases m.constraints.all (λc=>decide (c.row.terms.length≤20)) <;> rfl
    ·simp only [zt.l2,zn hi,if_true,za hi,ya,zd (i:=i) (by omega)];by_cases h:m.constraints[i].row.terms.length≤20
     ·rw [if_neg (by simp;omega),if_pos (by simp [h])]
     ·rw [if_pos (by simp;omega),if_neg (by simp [h])]
    ·simp only [zt.l2,zaq,yf,if_false,h3]
   have:=zaJ (body:=zt.l1 n m) (l:=m.families) (n:=n) (st:=λi=>(i:Int)) (λs=>decide (s.length≤40)) (some false) (some (m.constraints.all (λc=>decide (c.row.terms.length≤20))&&(m.operations.all opF&&m.actions.all actF))) (λrec i hi=>?_) (λrec=>?_) (by omega)
   ·simp only [Int.natCast_zero] at this;rw [this];cases m.families.all (λs=>decide (s.length≤40)) <;> rfl
   ·simp only [zt.l1,zn hi,if_true,za hi,ya,zd (i:=i) (by omega)];by_cases h:m.families[i].length≤40
    ·rw [if_neg (by simp;omega),if_pos (by simp [h])]
    ·rw [if_pos (by simp;omega),if_neg (by simp [h])]
   ·simp only [zt.l1,zaq,yf,if_false,h2]
theorem zg1 {m:Model} (h:zgK m=true):SmallM m:=by
 simp only [zgK,lensP,tabF,opF,actF,yc,yG,un,yM,yr,ye] at h;obtain ⟨⟨⟨⟨⟨⟨⟨b1,b2⟩,b3⟩,b4⟩,b5⟩,b6⟩,b7⟩,c1,c2,c3,c4,c5⟩:=h;exact ⟨by omega,by omega,c1,by omega,c2,by omega,c3,by omega,c4,by omega,λa ha=>by
  obtain ⟨⟨⟨p1,p2⟩,p3,p4⟩,p5⟩:=c5 a ha;exact ⟨p1,p2,p3,p4,p5⟩,by omega⟩
def prodP:Int→List Range→Bool
 | _,[]=>true
 | p,r::l=>!decide (4096<mul64 p (add64 (sub64 r.hi r.lo) 1))&&prodP (mul64 p (add64 (sub64 r.hi r.lo) 1)) l
def zcN (m:Model):List Range:=if zaN m.sorts m.tables=true then zI m.sorts true m.tables else []
def fewP (m:Model):Bool:=((zgK m&&decide (m.actions.length≤12))&&decide (m.constraints.length≤40))&&(m.actions.all (λa=>decide (a.effect.hold.length≤4))&&(decide ((zcN m).length≤12)&&prodP 1 (zcN m)))
theorem zkh {n:Nat} {m:Model} (hn:1000000≤n) (hS:SmallM m):zcm n m=some (zcN m):=by
 have hs:=hS.sorts;have ht:=hS.tables;unfold zcm;rw [zey hn (by omega) (by omega) (λt h=>by have:=hS.tab t h;omega)];rfl
theorem znd {m:Model} (hS:SmallM m):(zcN m).length≤2592:=by
 have ht:=hS.tables;unfold zcN;split
 ·rename_i hL;obtain ⟨l1,l2,l3,l4⟩:=zbn hL;have:=zcJ (sizes:=m.sorts) (s:=true) (l:=m.tables) λx hx=>(l4 x hx).2.2.2.2
  omega
 ·simp
theorem zmJ {n:Nat} {m:Model} (hn:1000000≤n):zbM n m=some (fewP m):=by
 unfold zbM fewP;rw [zjd hn,ya];have e1:decide (12<(m.actions.length:Int)) = !decide (m.actions.length≤12):=zmx (a:=12);have e2:decide (40<(m.constraints.length:Int)) = !decide (m.constraints.length≤40):=zmx (a:=40);rw [e1,e2,← Bool.not_and,← Bool.not_and];cases hb:(zgK m&&decide (m.actions.length≤12)&&decide (m.constraints.length≤40)) with
 | false=>simp
 | true=>
  simp only [yc,ye] at hb;have hS:=zg1 hb.1.1;have hsl:=znd hS;have T:(if (decide (12<((zcN m).length:Int)))=true then some false else loopF (zbM.l2 n (zcN m)) n (1,0))=some (decide ((zcN m).length≤12)&&prodP 1 (zcN m)):=by
   by_cases h:(zcN m).length≤12
   ·rw [if_neg (by simp;omega),decide_eq_true h,yA];refine zbi (body:=zbM.l2 n (zcN m)) (len:=(zcN m).length) (st:=λ(p:Int) i=>(p,(i:Int))) (g:=λi p=>some (prodP p ((zcN m).drop i))) (λ_ _=>True) (λrec i p hi _ hr=>?_) (λrec p _=>?_) n 0 1 (yp _) (by omega) trivial
    ·simp only [zbM.l2,zn hi,if_true,za hi,ya,zd (i:=i) (by omega),hr _ trivial];rw [zh hi,prodP];cases decide (4096<mul64 p (add64 (sub64 (zcN m)[i].hi (zcN m)[i].lo) 1)) <;> simp
    ·simp [zbM.l2,prodP]
   ·rw [if_pos (by simp;omega),decide_eq_false h,yU]
  have:=zaJ (body:=zbM.l1 n m) (l:=m.actions) (n:=n) (st:=λi=>(i:Int)) (λa=>decide (a.effect.hold.length≤4)) (some false) (some (decide ((zcN m).length≤12)&&prodP 1 (zcN m))) (λrec i hi=>?_) (λrec=>?_) (by omega)
  ·simp only [Int.natCast_zero] at this;rw [if_neg (by simp),this];cases m.actions.all (λa=>decide (a.effect.hold.length≤4)) <;> simp
  ·simp only [zbM.l1,zn hi,if_true,za hi,ya,zd (i:=i) (by omega)];by_cases h:m.actions[i].effect.hold.length≤4
   ·rw [if_neg (by simp;omega),if_pos (by simp [h])]
   ·rw [if_pos (by simp;omega),if_neg (by simp [h])]
  ·simp only [zbM.l1,zaq,yf,if_false,zkh hn hS,ya,T]
theorem zod {m:Model} (h:fewP m=true):SmallM m:=by
 simp only [fewP,yc] at h;exact zg1 h.1.1.1
structure ValidM (m:Model):Prop where
 lay:zaN m.sorts m.tables=true
 fams:m.families.length≤24∧distP [] m.families=true
 cons:consP m (zI m.sorts true m.tables)=true
 ops:opsP m=true
 acts:actsP m (zI m.sorts true m.tables).length=true
 hid:zk7 m=true
theorem zcl {m}:zbb m=true↔ValidM m:=by
 simp only [zbb,yc,ye];exact ⟨λ⟨⟨a,b,c⟩,d,e,f,g⟩=>⟨a,⟨b,c⟩,d,e,f,g⟩,λ⟨a,⟨b,c⟩,d,e,f,g⟩=>⟨⟨a,b,c⟩,d,e,f,g⟩⟩
def stepT (s:Nat) (L:List (List Int)):List (List Int):=L.flatMap λl=>(List.range s).map λe:Nat=>l++[(e:Int)]
def zdN (sizes:List Int):List Int→List (List Int)→List (List Int)
 | [],L=>L
 | c::cols,L=>zdN sizes cols (stepT (zcC sizes c).toNat L)
def zc6 (sizes cols:List Int):List (List Int):=zdN sizes cols [[]]
theorem zfg (sizes):∀ (a b:List Int) (L:List (List Int)),zdN sizes (a++b) L=zdN sizes b (zdN sizes a L)
 | [],_,_=>rfl
 | _::a,b,L=>by simp only [ud,zdN];exact zfg sizes a b _
theorem zgD (s A B):stepT s (A++B)=stepT s A++stepT s B:=by simp [stepT]
theorem zmQ {s L}:(stepT s L).length=L.length*s:=by
 induction L with
 | nil=>simp [stepT]
 | cons l L ih=>
  have:stepT s (l::L)=stepT s [l]++stepT s L:=zgD s [l] L;rw [this,yL,ih];simp [stepT,uB,Nat.add_comm]
theorem zpI {s L k} (h:∀ l∈L,l.length=k):∀ l∈stepT s L,l.length=k+1:=λl hl=>by
 simp only [stepT,uH,yO] at hl;obtain ⟨x,hx,e,-,rfl⟩:=hl;simp [h x hx]
theorem zon {s:Nat} {L:List (List Int)} {i:Nat} (hi:i<L.length):stepT s (L.take (i+1))=stepT s (L.take i)++(List.range s).map λe:Nat=>L[i]++[(e:Int)]:=by
 rw [yv hi,zgD];congr 1;simp [stepT]
def zcZ (i:Nat) (L:List (List Int)):List Place:=L.map λl=>⟨(i:Int),l⟩
def za8 (sizes:List Int) (s:Bool):List Table→Nat→List Place
 | [],_=>[]
 | t::l,i=>(if decide (t.kind≤1)=s then zcZ i (zc6 sizes t.columns) else [])++za8 sizes s l (i+1)
theorem zg3 (sizes s):∀ (a b:List Table) (i:Nat),za8 sizes s (a++b) i=za8 sizes s a i++za8 sizes s b (i+a.length)
 | [],b,i=>by simp [za8]
 | t::a,b,i=>by
  simp only [ud,za8,zg3 sizes s a b,yQ,yT];rw [show i+1+a.length=i+(a.length+1) by omega]
theorem ziX {sizes:List Int} {s:Bool} {l:List Table} {i:Nat} (hi:i<l.length):za8 sizes s (l.take (i+1)) 0=za8 sizes s (l.take i) 0++(if decide (l[i].kind≤1)=s then zcZ i (zc6 sizes l[i].columns) else []):=by
 rw [yv hi,zg3];congr 1;simp only [za8,ur,yP,um];rw [show min i l.length=i by omega]
theorem zq7 {n:Nat} {x40:Int} {rec:((List (List Int))×Int)→Option ((Option Layout)×Bool)} {l:List Int} {s:Nat} {b:List (List Int)} {k:Nat} (hk:add64 x40 1=(k:Int)) (hs:s≤6) (hl:l.length≤100) (hb:b.length≤100000) (hn:1000000≤n) :
  loopF (zm.l4 n x40 rec l (s:Int)) n (b,0)=rec (b++(List.range s).map λe:Nat=>l++[(e:Int)],(k:Int)):=by
 have:=zT (body:=zm.l4 n x40 rec l (s:Int)) (len:=s) (st:=λi=>(b++(List.range i).map λe:Nat=>l++[(e:Int)],(i:Int))) (g:=λ_=>rec (b++(List.range s).map λe:Nat=>l++[(e:Int)],(k:Int))) (λrec' i hi hr=>?_) (λrec'=>?_) n 0 (yp _) (by omega)
 ·simpa using this
 ·rw [List.range_succ,y8,← yT] at hr;simp only [zm.l4,zgo hi,if_true,zd (i:=i) (by omega)];rw [zam (by simp;omega),ya,zam (by simp;omega),ya,zam (by simp;omega),ya];exact hr
 ·simp only [zm.l4,zeP (yn s),yf,if_false,hk]
theorem zq6 {n:Nat} {m} {L:List (List Int)} {x34 x36:Int} {rec:((List (List Int))×Int)→Option ((Option Layout)×Bool)} {s k:Nat} (hk:add64 x34 1=(k:Int)) (hx:idx m.sorts x36=some (s:Int)) (hs:s≤6) (hl:∀ l∈L,l.length≤100) (hL:L.length≤1000) (hn:1000000≤n) :
  loopF (zm.l3 n m L x34 rec x36) n ([],0)=rec (stepT s L,(k:Int)):=by
 have:=zT (body:=zm.l3 n m L x34 rec x36) (len:=L.length) (st:=λi=>(stepT s (L.take i),(i:Int))) (g:=λ_=>rec (stepT s L,(k:Int))) (λrec' i hi hr=>?_) (λrec'=>?_) n 0 (yp _) (by omega)
 ·simpa [stepT] using this
 ·rw [zon hi] at hr;simp only [zm.l3,zn hi,if_true,za hi,ya,hx];have hlen:(stepT s (L.take i)).length≤100000:=by
   rw [zmQ,yP];have:min i L.length*s≤1000*6:=uR (by omega) hs;omega
  rw [zq7 (k:=i+1) (zd (by omega)) hs (hl _ (yj hi)) hlen hn];exact hr
 ·simp only [zm.l3,zaq,yf,if_false,hk,List.take_length]
theorem zq8 {n:Nat} {i:Nat} {rec:((List Place)×(List Place)×Int)→Option ((Option Layout)×Bool)} {t:Table} {L:List (List Int)} {b1 b2:List Place} (hi:i<1000000) (hL:L.length≤1000) (h1:b1.length≤100000) (h2:b2.length≤100000) (hn:1000000≤n) :
  loopF (zm.l5 n (i:Int) rec t L) n (b1,b2,0)=rec (b1++(if decide (t.kind≤1)=true then zcZ i L else []),b2++(if decide (t.kind≤1)=false then zcZ i L else []),((i+1:Nat):Int)):=by
 cases hk:decide (t.kind≤1) with
 | true=>
  simp only [if_true,Bool.true_eq_false,if_false,ur];have:=zT (body:=zm.l5 n (i:Int) rec t L) (len:=L.length) (st:=λk=>(b1++zcZ i (L.take k),b2,(k:Int))) (g:=λ_=>rec (b1++zcZ i L,b2,((i+1:Nat):Int))) (λrec' k hk' hr=>?_) (λrec'=>?_) n 0 (yp _) (by omega)
  ·simpa [zcZ] using this
  ·simp only [zcZ] at hr ⊢;rw [← zei hk',← yT] at hr;simp only [zm.l5,jn,zn hk',if_true,za hk',ya,hk,zd (i:=k) (by omega)];rw [zam (by simp;omega),ya];exact hr
  ·simp only [zm.l5,zaq,yf,if_false,List.take_length,zd (i:=i) (by omega)]
 | false=>
  simp only [yf,if_true,if_false,ur];have:=zT (body:=zm.l5 n (i:Int) rec t L) (len:=L.length) (st:=λk=>(b1,b2++zcZ i (L.take k),(k:Int))) (g:=λ_=>rec (b1,b2++zcZ i L,((i+1:Nat):Int))) (λrec' k hk' hr=>?_) (λrec'=>?_) n 0 (yp _) (by omega)
  ·simpa [zcZ] using this
  ·simp only [zcZ] at hr ⊢;rw [← zei hk',← yT] at hr;simp only [zm.l5,jn,zn hk',if_true,za hk',ya,hk,yf,if_false,zd (i:=k) (by omega)];rw [zam (by simp;omega),ya];exact hr
  ·simp only [zm.l5,zaq,yf,if_false,List.take_length,zd (i:=i) (by omega)]
theorem zh5 {sizes} (hs:sizes.all zbm=true):∀ (cols:List Int) (L:List (List Int)) (A k:Nat),cols.all (colOK sizes)=true→L.length≤A→(∀ l∈L,l.length=k)→(zdN sizes cols L).length≤A*6 ^ cols.length∧∀ l∈zdN sizes cols L,l.length=k+cols.length
 | [],L,A,k,_,h1,h2=>by simpa [zdN] using ⟨h1,h2⟩
 | c::cols,L,A,k,hc,h1,h2=>by
  simp only [uw,yc] at hc;have hz:=zhW hs hc.1;have hlen:(stepT (zcC sizes c).toNat L).length≤A*6:=by
   rw [zmQ];exact uR h1 (by omega)
  obtain ⟨p1,p2⟩:=zh5 hs cols (stepT (zcC sizes c).toNat L) (A*6) (k+1) hc.2 hlen (zpI h2);simp only [zdN,yQ];refine ⟨?_,λl hl=>?_⟩
  ·rw [Nat.pow_succ,Nat.mul_comm (6 ^ cols.length) 6,← Nat.mul_assoc];exact p1
  ·rw [p2 l hl];omega
theorem zfY {sizes cols} (hs:sizes.all zbm=true) (hc:cols.all (colOK sizes)=true) (h3:cols.length≤3):(zc6 sizes cols).length≤216∧∀ l∈zc6 sizes cols,l.length=cols.length:=by
 obtain ⟨p1,p2⟩:=zh5 hs cols [[]] 1 0 hc (by simp) (by simp);refine ⟨ub p1 ?_,λl hl=>by simpa using p2 l hl⟩;have:6 ^ cols.length≤6 ^ 3:=uN (by decide) h3;omega
theorem zq5 {n:Nat} {m} {b1 b2:List Place} {i:Nat} {rec:((List Place)×(List Place)×Int)→Option ((Option Layout)×Bool)} {t:Table} (hs:m.sorts.all zbm=true) (hc:t.columns.all (colOK m.sorts)=true) (h3:t.columns.length≤3) (hi:i<1000000) (h1:b1.length≤100000) (h2:b2.length≤100000) (hn:1000000≤n) :
  loopF (zm.l2 n m b1 b2 (i:Int) rec t) n ([[]],0)=rec (b1++(if decide (t.kind≤1)=true then zcZ i (zc6 m.sorts t.columns) else []),b2++(if decide (t.kind≤1)=false then zcZ i (zc6 m.sorts t.columns) else []),((i+1:Nat):Int)):=by
 have hpre:∀ k,(t.columns.take k).all (colOK m.sorts)=true:=λk=>yr.2 λc hm=>yr.1 hc c (List.mem_of_mem_take hm)
 have:=zT (body:=zm.l2 n m b1 b2 (i:Int) rec t) (len:=t.columns.length) (st:=λk=>(zc6 m.sorts (t.columns.take k),(k:Int))) (g:=λ_=>rec (b1++(if decide (t.kind≤1)=true then zcZ i (zc6 m.sorts t.columns) else []),b2++(if decide (t.kind≤1)=false then zcZ i (zc6 m.sorts t.columns) else []),((i+1:Nat):Int))) (λrec' k hk hr=>?_) (λrec'=>?_) n 0 (yp _) (by omega)
 ·simpa [zc6,zdN] using this
 ·have hcol:=yr.1 hc _ (yj hk);have hz:=zhW hs hcol;obtain ⟨p1,p2⟩:=zfY hs (hpre k) (by simp;omega);have hsz:idx m.sorts t.columns[k]=some (((zcC m.sorts t.columns[k]).toNat:Nat):Int):=by
   rw [zdu hcol];unfold zcC at hz ⊢;congr 1;omega
  simp only [zm.l2,zn hk,if_true,za hk,ya];rw [zq6 (k:=k+1) (zd (by omega)) hsz (by omega) (λl hl=>by rw [p2 l hl];simp;omega) (by omega) hn,← hr];congr 2;unfold zc6;rw [yv hk,zfg];rfl
 ·obtain ⟨p1,-⟩:=zfY hs hc h3;simp only [zm.l2,zaq,yf,if_false,List.take_length];exact zq8 hi (by omega) h1 h2 hn
theorem zhm {sizes s}:∀ {l:List Table} {i:Nat},(∀ t∈l,(zc6 sizes t.columns).length≤216)→(za8 sizes s l i).length≤l.length*216
 | [],_,_=>by simp [za8]
 | t::l,i,h=>by
  have ih:=zhm (s:=s) (l:=l) (i:=i+1) λx hx=>h x (by simp [hx])
  have ht:=h t (by simp);simp only [za8,yL,yQ];split
  ·simp only [zcZ,yH];omega
  ·simp only [uA];omega
def zS (m:Model):Layout:=⟨m,za8 m.sorts true m.tables 0,za8 m.sorts false m.tables 0⟩
theorem zdf {n:Nat} {m} (hF:Fuel n) (hS:SmallM m):zm n m=some (if zbb m=true then (some (zS m),true) else (none,false)):=by
 have hn:=hF.big;have htl:=hS.tables;unfold zm;rw [zkF hF hS,ya];cases hv:zbb m with
 | false=>simp
 | true=>
  have hV:=zcl.1 hv;obtain ⟨l1,l2,l3,l4⟩:=zbn hV.lay;have hb:∀ t∈m.tables,(zc6 m.sorts t.columns).length≤216:=λt ht=>(zfY l3 (l4 t ht).2.2.2.1 (l4 t ht).2.2.1).1
  rw [if_neg (by simp),if_pos rfl];have:=zT (body:=zm.l1 n m) (len:=m.tables.length) (st:=λi=>(za8 m.sorts true (m.tables.take i) 0,za8 m.sorts false (m.tables.take i) 0,(i:Int))) (g:=λ_=>some (some (zS m),true)) (λrec i hi hr=>?_) (λrec=>?_) n 0 (yp _) (by omega)
  ·simpa [za8] using this
  ·have hmem:=yj hi;obtain ⟨-,-,c1,c2,-⟩:=l4 _ hmem;have hA:=zhm (s:=true) (l:=m.tables.take i) (i:=0) λt ht=>hb t (List.mem_of_mem_take ht)
   have hB:=zhm (s:=false) (l:=m.tables.take i) (i:=0) λt ht=>hb t (List.mem_of_mem_take ht)
   simp only [yP] at hA hB;rw [ziX hi,ziX hi] at hr;simp only [zm.l1,zn hi,if_true,za hi,ya];rw [zq5 l3 c2 c1 (by omega) (by omega) (by omega) (by omega)];exact hr
  ·simp [zm.l1,zS]
def zaK (m:Model) (q:Question):Bool:=
 (((decide (0≤q.e)&&decide (q.e<(m.actions.length:Int)))&&(decide (0≤q.f)&&decide (q.f<(m.actions.length:Int))))&&decide (0≤q.target.index)) &&
 (if q.target.hold=true then decide (q.target.index<(((idx m.actions q.e).getD default).effect.hold.length:Int)) else decide (q.e≤q.f)&&decide (q.target.index<(m.constraints.length:Int)))
theorem quest_body {m q}:(if (((((decide (q.e<0))||(decide (q.f<0)))||(decide ((m.actions.length:Int)≤q.e)))||(decide ((m.actions.length:Int)≤q.f)))||(decide (q.target.index<0)))=true then some false
 else if q.target.hold=true then (idx m.actions q.e).bind λx=>some (decide (q.target.index<(x.effect.hold.length:Int))) else some ((decide (q.e≤q.f))&&(decide (q.target.index<(m.constraints.length:Int)))))=some (zaK m q):=by
 unfold zaK;by_cases h:((0≤q.e∧q.e<(m.actions.length:Int))∧(0≤q.f∧q.f<(m.actions.length:Int)))∧0≤q.target.index
 ·rw [if_neg (by simp;omega)];obtain ⟨a,ha⟩:=zbw h.1.1.1 h.1.1.2;rw [ha];simp only [h,decide_true,uT,yA,ya,yh];split <;> rfl
 ·rw [if_pos (by simp;omega)];have:(((decide (0≤q.e)&&decide (q.e<(m.actions.length:Int)))&&(decide (0≤q.f)&&decide (q.f<(m.actions.length:Int))))&&decide (0≤q.target.index))=false:=by
   rw [← yF];simp only [yc,ye];exact h
  rw [this,yU]
theorem zkP {n m q} (hn:4294967296≤n) (hS:SmallM m):zfQ n m q=some (zbb m&&zaK m q):=by
 unfold zfQ;rw [zfa hn hS,ya];cases zbb m with
 | false=>simp
 | true=>
  simp only [yW,ue,yA];exact quest_body
theorem zob:zhh 18446744073709551616=some true:=by decide +kernel
theorem zlE:(zbH 18446744073709551616).map (λm=>m.es.map (λe=>e.2))=some (kwL.map λk=>(k,true)):=by decide +kernel
theorem zhy:Fuel 18446744073709551616:=by
 refine ⟨by decide,?_⟩;have h:=zlE;cases hk:zbH 18446744073709551616 with
 | none=>rw [hk] at h;cases h
 | some m=>
  rw [hk] at h;simp only [yK,yi] at h;refine ⟨m,rfl,λe he=>?_,λk=>?_⟩
  ·have:e.2∈m.es.map (λe=>e.2):=List.mem_map_of_mem he;rw [h] at this;simp only [yO] at this;obtain ⟨x,-,hx⟩:=this;rw [← hx]
  ·have:m.es.map (λe=>e.2.1)=kwL:=by
    have e1:m.es.map (λe=>e.2.1)=(m.es.map (λe=>e.2)).map (·.1):=by rw [uu];rfl
    rw [e1,h,uu];exact List.map_id kwL
   rw [this]
theorem zhf {K}:∀ (l:List Change) (last:Int),zf4 K last l=true→(∀ d∈l,last<d.cell∧d.cell<(K:Int)∧d.add≠0∧-1000000000≤d.add∧d.add≤1000000000)∧(l.map (·.cell)).Nodup
 | [],_,_=>by simp
 | d::l,last,h=>by
  simp only [zf4,zbB,yc,ye,bne_iff_ne] at h;obtain ⟨⟨⟨⟨h1,h2⟩,h3⟩,h4,h5⟩,h6⟩:=h;obtain ⟨p1,p2⟩:=zhf l d.cell h6;refine ⟨λx hx=>?_,?_⟩
  ·simp only [yD] at hx;rcases hx with rfl | hx
   ·exact ⟨h1,h2,h3,h4,h5⟩
   ·obtain ⟨q1,q2⟩:=p1 x hx;exact ⟨by omega,q2⟩
  ·simp only [yI,List.nodup_cons,yO,not_exists,not_and];exact ⟨λx hx e=>by have:=(p1 x hx).1;omega,p2⟩
theorem zh7 {m} (hV:ValidM m) {a} (ha:a∈m.actions):effP m (zI m.sorts true m.tables).length a.effect=true∧(0≤a.operation∧a.operation<(m.operations.length:Int)):=by
 have h:=hV.acts;simp only [actsP,yc] at h;obtain ⟨i,hi,rfl⟩:=List.mem_iff_getElem.1 ha;have:=zht.1 h.2 i hi;simp only [za hi,yh,actP,yc,ye] at this;exact ⟨this.2,this.1.1.1.1⟩
theorem zkr {m} (hV:ValidM m) {c} (hc:c∈m.constraints):zec (zI m.sorts true m.tables).length c=true∨acyP m c=true:=by
 have h:=hV.cons;simp only [consP,yc] at h;obtain ⟨i,hi,rfl⟩:=List.mem_iff_getElem.1 hc;have:=zht.1 h.2 i hi;simp only [za hi,yh,conP,yc,yz] at this;exact this.1.2
theorem zno {m} (hV:ValidM m) {c} (h:acyP m c=true):c.kind=1∧1≤c.size∧c.size≤6:=by
 obtain ⟨l1,l2,l3,l4⟩:=zbn hV.lay;simp only [acyP,zgi,yc,ut,beq_iff_eq] at h;obtain ⟨h1,-,t,ht,hg⟩:=h;simp only [zhz,yc,beq_iff_eq] at hg;obtain ⟨⟨g1,g2⟩,⟨g3,g4⟩,g5⟩:=hg;obtain ⟨⟨x,hx⟩,-,z,hz⟩:=zgL (l4 t ht).2.2.2.1 g2;refine ⟨h1,?_⟩;rw [hz] at g5;simp only [yh] at g5;have:=yr.1 l3 z (zd5 hz);simp only [zbm,yc,ye] at this;omega
theorem zdi {m q} (h:zaK m q=true):(0≤q.e∧q.e<(m.actions.length:Int))∧(0≤q.f∧q.f<(m.actions.length:Int))∧0≤q.target.index∧(q.target.hold=true→∀ a,idx m.actions q.e=some a→q.target.index<(a.effect.hold.length:Int))∧(q.target.hold=false→q.e≤q.f∧q.target.index<(m.constraints.length:Int)):=by
 simp only [zaK,yc,ye] at h;obtain ⟨⟨⟨h1,h2⟩,h3⟩,h4⟩:=h;refine ⟨h1,h2,h3,λhh a ha=>?_,λhh=>?_⟩
 ·rw [if_pos hh,ha] at h4;simpa using h4
 ·rw [if_neg (by simp [hh])] at h4;simpa using h4
def inBox:List Range→List Int→Bool
 | r::rs,x::xs=>(decide (r.lo≤x)&&decide (x≤r.hi))&&inBox rs xs
 | [],[]=>true
 | _,_=>false
def znZ (k:Nat) (t:Term):Prop:=0≤t.cell∧t.cell<(k:Int)∧-1000≤t.factor∧t.factor≤1000
structure GraphIn (c:Constraint) (s:List Int) (size:Nat):Prop where
 sz:c.size=(size:Int)
 pos:1≤size
 six:size≤6
 first:0≤c.first
 fits:c.first+(size*size:Nat)≤(s.length:Int)
 len:s.length≤1000
inductive ConIn (c:Constraint) (k:Nat):Prop
 | row:c.kind=0→(∀ t∈c.row.terms,znZ k t)→c.row.terms.length≤1000→(-4000000000≤c.row.bound∧c.row.bound≤4000000000)→ConIn c k
 | graph (size:Nat):c.kind=1→c.size=(size:Int)→1≤size→size≤6→0≤c.first→c.first+(size*size:Nat)≤(k:Int)→ConIn c k
theorem zgM {α:Type} (p):∀ (l:List α) (i:Nat),(ixP p l i = -1∧∀ x∈l,p x=false)∨∃ k,∃ h:k<l.length,ixP p l i=((i+k:Nat):Int)∧p l[k]=true∧∀ x∈l.take k,p x=false
 | [],i=>.inl ⟨rfl,λx hx=>by simp at hx⟩
 | x::l,i=>by
  rw [ixP];by_cases h:p x=true
  ·rw [if_pos h];exact .inr ⟨0,by simp,rfl,h,λy hy=>by simp at hy⟩
  ·rw [if_neg h];rcases zgM p l (i+1) with ⟨h1,h2⟩ | ⟨k,hk,h1,h2,h3⟩
   ·refine .inl ⟨h1,λy hy=>?_⟩;simp only [yD] at hy;rcases hy with rfl | hy
    ·simpa using h
    ·exact h2 y hy
   ·refine .inr ⟨k+1,by simpa using hk,by rw [h1];omega,by simpa using h2,λy hy=>?_⟩;simp only [List.take_succ_cons,yD] at hy;rcases hy with rfl | hy
    ·simpa using h
    ·exact h3 y hy
def boxM (m:Model):List Range:=zI m.sorts true m.tables
theorem zm3 {sizes} (hs:sizes.all zbm=true):∀ {l:List Table} {seen:List (List UInt8)} {a b:Int},layP sizes seen a b l=true→0≤a→a+216*(l.length:Int)≤1000000→∀ t∈l,zaw t.kind=true→a≤t.first∧t.first+zac sizes t.columns 1≤a+((zI sizes true l).length:Int)
 | [],_,_,_,_,_,_,t,ht,_=>by simp at ht
 | x::l,seen,a,b,h,ha,hb,t,ht,hst=>by
  have htab:=zcB h x (by simp);simp only [tabP,yc,ye] at htab;have hw:=zeY hs htab.1.2.2 htab.1.2.1;simp only [layP,yc] at h;have h2:=h.2;simp only [yQ] at hb;have hcast:((l.length+1:Nat):Int)=(l.length:Int)+1:=by omega
  rw [hcast] at hb;by_cases hx:zaw x.kind=true
  ·rw [if_pos hx] at h2;simp only [yc,beq_iff_eq] at h2;have hadd:add64 a (zac sizes x.columns 1)=a+zac sizes x.columns 1:=by unfold add64;exact zed (by omega) (by omega)
   rw [hadd] at h2;have hlen:((zI sizes true (x::l)).length:Int)=zac sizes x.columns 1+((zI sizes true l).length:Int):=by
    rw [zI,hx,if_pos (by rfl),yL,y0];omega
   rw [hlen];rcases yD.1 ht with rfl | ht
   ·omega
   ·have:=zm3 hs h2.2 (by omega) (by omega) t ht hst;omega
  ·rw [if_neg hx] at h2;simp only [yc,beq_iff_eq] at h2;have hx':zaw x.kind=false:=by simpa using hx
   have hlen:(zI sizes true (x::l))=zI sizes true l:=by
    rw [zI,hx',if_neg (by decide)]
   rw [hlen];rcases yD.1 ht with rfl | ht
   ·rw [hst] at hx';cases hx'
   ·exact zm3 hs h2.2 ha (by omega) t ht hst
theorem ziu {K}:∀ {l:List Term} {last:Int},rowP K last l=true→-1≤last→∀ t∈l,znZ K t
 | [],_,_,_,t,ht=>by simp at ht
 | x::l,last,h,hl,t,ht=>by
  simp only [rowP,zbB,yc,ye] at h;rcases yD.1 ht with rfl | ht
  ·exact ⟨by omega,h.1.1.1.2,by omega,by omega⟩
  ·exact ziu h.2 (by omega) t ht
theorem zrY {m} (hS:SmallM m) (hV:ValidM m) {c} (hc:c∈m.constraints):ConIn c (boxM m).length:=by
 have hl:=hS.con c hc;rcases zkr hV hc with h | h
 ·simp only [zec,yc,beq_iff_eq] at h;have h2:=h.2;simp only [rowOK,zbB,yc,ye] at h2;exact .row h.1.1.1 (ziu h2.1 (by decide)) (by omega) (by omega)
 ·obtain ⟨l1,l2,l3,l4⟩:=zbn hV.lay;obtain ⟨hk,s1,s2⟩:=zno hV h;have hL:=hV.lay;simp only [zaN,yc] at hL;simp only [acyP,zgi,yc,ut,beq_iff_eq] at h;obtain ⟨-,-,t,ht,hg⟩:=h;simp only [zhz,yc,beq_iff_eq] at hg;obtain ⟨⟨g1,g2⟩,⟨g3,g4⟩,g5⟩:=hg;have hfit:=zm3 l3 hL.2 (Int.le_refl _) (by omega) t ht (by simp [zaw,g1]);have hcols:=(l4 t ht).2.2.2.1;obtain ⟨⟨x,hx⟩,⟨y,hy⟩,-⟩:=zgL hcols g2;obtain ⟨p,q,hpq⟩:∃ p q,t.columns=[p,q]:=by
   match hcs:t.columns with
   | []=>rw [hcs] at g2;simp at g2
   | [_]=>rw [hcs] at g2;simp at g2
   | [p,q]=>exact ⟨p,q,rfl⟩
   | _::_::_::_=>rw [hcs] at g2;simp at g2;omega
  have hp0:idx t.columns 0=some p:=by rw [hpq];rfl
  have hq0:idx t.columns 1=some q:=by rw [hpq];rfl
  rw [hp0,hq0] at g3;rw [hp0] at g5;simp only [yh] at g3 g5;subst g3;have hcp:=yr.1 hcols p (by rw [hpq];simp);rw [zdu hcp] at g5;simp only [yh] at g5;have hw:zac m.sorts t.columns 1=c.size*c.size:=by
   rw [hpq];simp only [zac,g5];have:c.size*c.size≤6*6:=Int.mul_le_mul s2 s2 (by omega) (by omega);have h0:0≤c.size*c.size:=Int.mul_nonneg (by omega) (by omega);unfold mul64;rw [Int.one_mul,zed (x:=c.size) (by omega) (by omega),zed (by omega) (by omega)]
  rw [hw] at hfit;have hsz:c.size=((c.size.toNat:Nat):Int):=by omega
  refine .graph c.size.toNat hk hsz (by omega) (by omega) (by omega) ?_;have e:((c.size.toNat*c.size.toNat:Nat):Int)=c.size*c.size:=by rw [uj,← hsz]
  rw [e];unfold boxM;omega
def zse (d:List Change):Prop:=∀ x∈d,-1000000000≤x.add∧x.add≤1000000000
theorem zkM {n m t} (hc:t.columns.all (colOK m.sorts)=true) (hl:t.columns.length≤1000) (hn:1000000≤n):zbN n m t=some (zac m.sorts t.columns 1):=by
 have:=zT (body:=zbN.l1 n m t) (len:=t.columns.length) (st:=λi=>(zac m.sorts (t.columns.take i) 1,(i:Int))) (g:=λ_=>some (zac m.sorts t.columns 1)) (λrec i hi hr=>?_) (λrec=>?_) n 0 (yp _) (by omega)
 ·simpa [zbN,zac] using this
 ·rw [yv hi,zdF] at hr;simp only [zac] at hr;simp only [zbN.l1,zn hi,if_true,za hi,ya,zdu (yr.1 hc _ (yj hi)),zd (i:=i) (by omega),hr]
 ·simp [zbN.l1]
structure StateOK (m:Model) (s:List Int):Prop where
 len:s.length=(boxM m).length
 small:∀ x∈s,-9999≤x∧x≤9999
theorem zoF {m} (hV:ValidM m) {a} (ha:a∈m.actions):zse a.effect.delta∧∀ r∈a.effect.hold,rowOK (boxM m).length r=true:=by
 have h:=(zh7 hV ha).1;simp only [effP,yc,yr] at h;obtain ⟨p1,-⟩:=zhf _ _ h.1;exact ⟨λx hx=>by have:=p1 x hx;omega,h.2.2.2⟩

theorem zfm {γ S R:Type} {body:(S→Option R)→S→Option R} {k n:Nat} {st:List γ→Nat→S} (g:Nat→List γ) (fin:List γ→Option R) (B:Nat) (b0:List γ) (hB:∀ i,i<k→(g i).length≤B)
  (step:∀ rec (b:List γ) i,i<k→b.length≤b0.length+i*B→body rec (st b i)=rec (st (b++g i) (i+1))) (done:∀ rec (b:List γ),b.length≤b0.length+k*B→body rec (st b k)=fin b) (hn:k<n) :
  loopF body n (st b0 0)=fin (b0++(List.range k).flatMap g):=by
 have:=zbi (σ:=List γ) (body:=body) (len:=k) (st:=st) (g:=λi b=>fin (b++(List.range' i (k - i)).flatMap g)) (λi b=>b.length≤b0.length+i*B) (λrec i b hi hI hr=>?_) (λrec b hI=>?_) n 0 b0 (yp _) (by omega) (by simp)
 ·simpa [List.range_eq_range'] using this
 ·rw [step rec b i hi hI,hr _ (by rw [yL];have:=hB i hi;rw [uB];omega)];have:List.range' i (k - i)=i::List.range' (i+1) (k - (i+1)):=by rw [show k - i=(k - (i+1))+1 by omega,List.range'_succ]
  rw [this,uo,yT]
 ·rw [done rec b hI];simp
def lexP:List Int→List Int→Int
 | [],[]=>0
 | [],_::_=>-1
 | _::_,[]=>1
 | a::l,b::m=>if a<b then -1 else if b<a then 1 else lexP l m
theorem zpd:∀ (a b:List Int),lexP b a = -lexP a b
 | [],[]=>rfl
 | [],_::_=>rfl
 | _::_,[]=>rfl
 | a::l,b::m=>by
  have:=zpd l m;simp only [lexP];split <;> split <;> omega
theorem znG:∀ {a b:List Int},lexP a b=0→a=b
 | [],[],_=>rfl
 | [],_::_,h=>by simp [lexP] at h
 | _::_,[],h=>by simp [lexP] at h
 | a::l,b::m,h=>by
  simp only [lexP] at h;split at h
  ·omega
  ·split at h
   ·omega
   ·rw [znG h,show a=b by omega]
theorem zmr:∀ {a b c:List Int},lexP a b<0→lexP b c<0→lexP a c<0
 | [],[],c,h,_=>by simp [lexP] at h
 | [],_::_,[],_,h=>by simp [lexP] at h
 | [],_::_,_::_,_,_=>by simp [lexP]
 | _::_,[],_,h,_=>by simp [lexP] at h
 | _::_,_::_,[],_,h=>by simp [lexP] at h
 | a::l,b::m,c::k,h1,h2=>by
  simp only [lexP] at *;have ih:=@zmr l m k;by_cases e1:a<b
  ·by_cases e2:b<c
   ·rw [if_pos (by omega)];omega
   ·by_cases e3:c<b
    ·rw [if_neg e2,if_pos e3] at h2;omega
    ·rw [if_pos (by omega)];omega
  ·by_cases e1':b<a
   ·rw [if_neg e1,if_pos e1'] at h1;omega
   ·rw [if_neg e1,if_neg e1'] at h1;by_cases e2:b<c
    ·rw [if_pos (by omega)];omega
    ·by_cases e3:c<b
     ·rw [if_neg e2,if_pos e3] at h2;omega
     ·rw [if_neg e2,if_neg e3] at h2;rw [if_neg (by omega),if_neg (by omega)];exact ih h1 h2
def cmpI (a b:Int):Int:=if a<b then -1 else if b<a then 1 else 0
theorem zcy {n} (a b):zR n a b=some (cmpI a b):=by
 unfold zR zcp cmpI;simp;split <;> (try split) <;> rfl
theorem Or_eq {n} (x y) (hn:1000000≤n):zaW n [x,y]=some (if x≠0 then x else y):=by
 unfold zaW;rw [zhi (by omega)];have e0:idx [x,y] 0=some x:=rfl;have e1:idx [x,y] 1=some y:=rfl;simp only [zaW.l1,e0,ya,yQ,uA];rw [if_pos (by simp)];by_cases hx:x=0
 ·rw [if_neg (by simp [hx]),show add64 0 1=1 from rfl,zhi (by omega)];simp only [zaW.l1,e1,ya,yQ,uA];rw [if_pos (by simp)];by_cases hy:y=0
  ·rw [if_neg (by simp [hy]),show add64 1 1=2 from rfl,zhi (by omega)];simp [zaW.l1,hx,hy]
  ·rw [if_pos (by simp [hy])];simp [hx]
 ·rw [if_pos (by simp [hx])];simp [hx]
theorem znW {α:Type} {f:α→α→Option Int} {c:α→α→Int} {l:List α} (h1:∀ x∈l,∀ y∈l,f x y=some (c x y)) (irr:∀ x,¬ c x x<0) (tr:∀ x y z,c x y<0→c y z<0→c x z<0) (nt:∀ x y z,¬ c x y<0→¬ c y z<0→¬ c x z<0) (hl:l.length<4611686018427387904) :
  sortO f l=some (sortF (λx y=>(f x y).getD 0) l)∧swoB (λx y=>(f x y).getD 0) l=true:=by
 have hs:swoB (λx y=>(f x y).getD 0) l=true:=by
  unfold swoB;rw [yr];intro x hx;rw [yc,yr];refine ⟨by simpa [h1 x hx x hx] using irr x,λy hy=>?_⟩;rw [yr];intro z hz;simp only [h1 x hx y hy,h1 y hy z hz,h1 x hx z hz,yh,yc,yz,yG,uf,ye,yM];have a1:=tr x y z;have a2:=nt x y z;constructor
  ·by_cases p:c x y<0
   ·by_cases q:c y z<0
    ·exact .inr (a1 p q)
    ·exact .inl (.inr q)
   ·exact .inl (.inl p)
  ·by_cases p:c x y<0
   ·exact .inl (.inl p)
   ·by_cases q:c y z<0
    ·exact .inl (.inr q)
    ·exact .inr (a2 p q)
 refine ⟨?_,hs⟩;unfold sortO;rw [if_pos];simp only [yc,yr,ye];exact ⟨⟨λx hx y hy=>by rw [h1 x hx y hy];rfl,hs⟩,hl⟩
theorem zca {x y} (h1 : -9223372036854775808≤x+y) (h2:x+y≤9223372036854775807):add64 x y=x+y:=zed h1 h2
theorem zjp {x y} (h1 : -9223372036854775808≤x*y) (h2:x*y≤9223372036854775807):mul64 x y=x*y:=zed h1 h2
theorem zfV {x y} (h1 : -9223372036854775808≤x - y) (h2:x - y≤9223372036854775807):sub64 x y=x - y:=zed h1 h2


structure ConOK (K:Nat) (c:Constraint):Prop where
 kind:c.kind=0∨c.kind=1
 len:c.row.terms.length≤1000
 sz:c.kind=1→∃ s:Nat,c.size=(s:Int)∧1≤s∧s≤6∧0≤c.first∧c.first+((s*s:Nat):Int)≤(K:Int)
structure ActOK (a:Action):Prop where
 delta:a.effect.delta.length≤20
 hold:a.effect.hold.length≤10
 terms:∀ r∈a.effect.hold,r.terms.length≤1000


inductive Weaker:List Row→List Row→Prop
 | nil:Weaker [] []
 | cons {r s:Row} {R S:List Row}:r.terms=s.terms→r.bound≤s.bound→Weaker R S→Weaker (r::R) (s::S)

theorem zqu {m} (hS:SmallM m) (hV:ValidM m) {c} (hc:c∈m.constraints):ConOK (boxM m).length c:=by
 have hl:=hS.con c hc;rcases zrY hS hV hc with ⟨h1,-,-,-⟩ | ⟨s,h1,h2,h3,h4,h5,h6⟩
 ·exact ⟨.inl h1,by omega,λh=>by omega⟩
 ·exact ⟨.inr h1,by omega,λ_=>⟨s,h2,h3,h4,h5,h6⟩⟩
theorem zoQ {m} (hV:ValidM m) {c} (hc:c∈m.constraints) (hk:c.kind=0):rowOK (zI m.sorts true m.tables).length c.row=true:=by
 rcases zkr hV hc with h | h
 ·simp only [zec,yc] at h;exact h.2
 ·have:=(zno hV h).1;omega
section
variable (E:Nat→Nat→Bool) (K:Nat)
end
theorem zfs {α:Type} {R:α→α→Prop} (hanti:∀ a b,R a b→R b a→a=b):∀ {l m:List α},l.Perm m→l.Pairwise R→m.Pairwise R→l=m
 | [],m,h,_,_=>by simpa using h.length_eq.symm
 | a::l,[],h,_,_=>by simpa using h.length_eq
 | a::l,b::m,h,h1,h2=>by
  have e:a=b:=by
   rw [uv] at h1 h2;have ha:=h.mem_iff.1 (List.mem_cons_self (a:=a) (l:=l));have hb:=h.mem_iff.2 (List.mem_cons_self (a:=b) (l:=m));rcases yD.1 ha with ha | ha
   ·exact ha
   ·rcases yD.1 hb with hb | hb
    ·exact hb.symm
    ·exact hanti _ _ (h1.1 b hb) (h2.1 a ha)
  subst e;rw [zfs hanti ((List.perm_cons a).1 h) (uv.1 h1).2 (uv.1 h2).2]
def ones (K:Nat):List (List Int):=(List.range K).map λ(i:Nat)=>[(i:Int)]
structure PathL (K:Nat) (l:List Int):Prop where
 nd:l.Nodup
 pos:1≤l.length
 mem:∀ x∈l,0≤x∧x<(K:Int)

structure SameA (a:Action):Prop where
 add:∀ c,addP c a.effect.delta 0=zoI a.effect.delta c
 len:a.effect.delta.length≤20
section
variable {n:Nat} {c:Constraint} {a b:Action} {K:Nat} (ha:SameA a) (hb:SameA b) (h6:K≤6) (hn:1000000≤n)
include ha hb h6 hn
end


section
variable {E:Nat→Nat→Bool} {K:Nat}
structure Walk (E:Nat→Nat→Bool) (K p:Nat) (f:Nat→Nat):Prop where
 per:∀ i,f (i+p)=f i
 lt:∀ i,f i<K
 edge:∀ i,E (f i) (f (i+1))=true
end



section
variable {c:Constraint} {K:Nat} {box:List Range} {s:List Int} {da db:List Change}
end
structure Scene (n:Nat) (m:Model) (q:Question) (a b:Action) (s:List Int):Prop where
 small:SmallM m
 valid:ValidM m
 quest:zaK m q=true
 ha:idx m.actions q.e=some a
 hb:idx m.actions q.f=some b
 box:inBox (boxM m) s=true
 len:(boxM m).length≤100
 fuel:4294967296≤n
section
variable {n:Nat} {m:Model} {q:Question} {rows:List Int} {a b:Action} {s:List Int}
end

def elemP (s:Swap) (x:Int):Int:=if x=s.a then s.b else if x=s.b then s.a else x
theorem zk2 {n s x}:zcS n s x=some (elemP s x):=by
 unfold zcS elemP;simp only [beq_iff_eq];by_cases h:x=s.a
 ·rw [if_pos h,if_pos h]
 ·rw [if_neg h,if_neg h];by_cases h2:x=s.b
  ·rw [if_pos h2,if_pos h2]
  ·rw [if_neg h2,if_neg h2]
structure SwapOK (sizes:List Int) (s:Swap):Prop where
 sort:colOK sizes s.sort=true
 a:0≤s.a
 ab:s.a<s.b
 b:s.b<sizes.getD s.sort.toNat 0
def nK (sizes:List Int) (c:Int):Nat:=(sizes.getD c.toNat 0).toNat
def colS (s:Swap) (c:Int) (x:Nat):Nat:=if c=s.sort then (elemP s (x:Int)).toNat else x
theorem nK_ok {sizes:List Int} (hs:sizes.all zbm=true) {c} (hc:colOK sizes c=true):((nK sizes c:Nat):Int)=sizes.getD c.toNat 0∧1≤nK sizes c∧nK sizes c≤6:=by
 have:=yr.1 hs _ (zd5 (zdu hc));simp only [zbm,yc,ye] at this;unfold nK;omega
section
variable {sizes:List Int} {s:Swap} (h:SwapOK sizes s)
include h
theorem zlw (x:Nat):((elemP s (x:Int)).toNat:Int)=elemP s (x:Int):=by
 have h1:=h.a;have h2:=h.ab;unfold elemP;split
 ·omega
 ·split <;> omega
theorem zjG {c:Int} {x:Nat} (hx:x<nK sizes c):colS s c x<nK sizes c:=by
 have h1:=h.a;have h2:=h.ab;have h3:=h.b;unfold colS;by_cases e:c=s.sort
 ·rw [if_pos e];subst e;unfold nK elemP at *;split
  ·omega
  ·split <;> omega
 ·rw [if_neg e];exact hx
theorem zpZ {c:Int} {x:Nat}:colS s c (colS s c x)=x:=by
 have h1:=h.a;have h2:=h.ab;unfold colS;by_cases e:c=s.sort
 ·rw [if_pos e,if_pos e,zlw h];unfold elemP;by_cases e1:(x:Int)=s.a
  ·rw [if_pos e1,if_neg (by omega),if_pos rfl];omega
  ·rw [if_neg e1];by_cases e2:(x:Int)=s.b
   ·rw [if_pos e2,if_pos rfl];omega
   ·rw [if_neg e2,if_neg e1,if_neg e2];omega
 ·rw [if_neg e,if_neg e]
end
def digP (sizes:List Int) (s:Swap):List Int→Nat→Nat
 | [],_=>0
 | c::cs,r=>colS s c (r % nK sizes c)+nK sizes c*digP sizes s cs (r / nK sizes c)
def wN (sizes:List Int):List Int→Nat
 | []=>1
 | c::cs=>nK sizes c*wN sizes cs
theorem zmT (sizes:List Int):∀ l m:List Int,wN sizes (l++m)=wN sizes l*wN sizes m
 | [],m=>by simp [wN]
 | c::l,m=>by simp only [ud,wN,zmT sizes l m,Nat.mul_assoc]
theorem zlv {sizes:List Int} {c:Int} {cs:List Int} {r:Nat} (hr:r<wN sizes (c::cs)):0<nK sizes c∧r / nK sizes c<wN sizes cs:=by
 have h0:0<nK sizes c:=by
  rcases Nat.eq_zero_or_pos (nK sizes c) with e | e
  ·rw [wN,e] at hr;simp at hr
  ·exact e
 exact ⟨h0,Nat.div_lt_of_lt_mul hr⟩
theorem zmh {sizes:List Int} {s:Swap} (h:SwapOK sizes s):∀ (cs:List Int) (r:Nat),r<wN sizes cs→digP sizes s cs r<wN sizes cs
 | [],r,hr=>by simp [digP,wN]
 | c::cs,r,hr=>by
  obtain ⟨h0,h1⟩:=zlv hr;have h2:=zjG h (Nat.mod_lt r h0);have h3:=Nat.mul_le_mul_left (nK sizes c) (zmh h cs _ h1);rw [Nat.mul_succ] at h3;simp only [digP,wN];omega
theorem zoV {sizes:List Int} {s:Swap} (h:SwapOK sizes s):∀ (cs:List Int) (r:Nat),r<wN sizes cs→digP sizes s cs (digP sizes s cs r)=r
 | [],r,hr=>by simp [digP,wN] at hr ⊢;omega
 | c::cs,r,hr=>by
  obtain ⟨h0,h1⟩:=zlv hr;have h2:=zjG h (Nat.mod_lt r h0);simp only [digP];rw [Nat.add_mul_mod_self_left,Nat.mod_eq_of_lt h2,Nat.add_mul_div_left _ _ h0,Nat.div_eq_of_lt h2,um,zpZ h,zoV h cs _ h1];exact Nat.mod_add_div r _
theorem zpS {sizes:List Int} (hs:sizes.all zbm=true):∀ (cols:List Int) (x:Nat),cols.all (colOK sizes)=true→x*6 ^ cols.length≤1000000→zac sizes cols (x:Int)=((x*wN sizes cols.reverse:Nat):Int)
 | [],x,_,_=>by simp [zac,wN]
 | c::cols,x,hc,hx=>by
  simp only [uw,yc] at hc;obtain ⟨k1,k2,k3⟩:=nK_ok hs hc.1;rw [yQ,Nat.pow_succ] at hx;have hp:1≤6 ^ cols.length:=Nat.one_le_pow _ _ (by decide);have h1:x*nK sizes c*6 ^ cols.length≤1000000:=by
   refine ub ?_ hx;rw [Nat.mul_assoc];refine Nat.mul_le_mul_left _ ?_;rw [Nat.mul_comm];exact Nat.mul_le_mul_left _ k3
  have h2:x*nK sizes c≤1000000:=ub (Nat.le_mul_of_pos_right _ hp) h1;have e:mul64 (x:Int) (sizes.getD c.toNat 0)=((x*nK sizes c:Nat):Int):=by
   rw [← k1,zjp (by rw [← uj];omega) (by rw [← uj];omega),uj]
  rw [zac,e,zpS hs cols _ hc.2 h1,List.reverse_cons,zmT];simp only [wN,Nat.mul_one];rw [Nat.mul_assoc,Nat.mul_comm (nK sizes c)]
theorem zfZ {sizes:List Int} (hs:sizes.all zbm=true) {cols:List Int} (hc:cols.all (colOK sizes)=true) (h3:cols.length≤3):zac sizes cols 1=((wN sizes cols.reverse:Nat):Int)∧1≤wN sizes cols.reverse∧wN sizes cols.reverse≤216:=by
 have hp:6 ^ cols.length≤6 ^ 3:=uN (by decide) h3;have e:=zpS hs cols 1 hc (by omega);rw [Nat.one_mul] at e;have:=zeY hs hc h3;refine ⟨e,?_,?_⟩ <;> (rw [show ((1:Nat):Int)=1 from rfl] at e;omega)
theorem zpx {r k:Nat} (h0:0<k) (hr:r≤1000000):rem64 (r:Int) (k:Int)=some ((r % k:Nat):Int):=by
 unfold rem64;rw [if_neg (by omega),Int.tmod_eq_emod_of_nonneg (by omega)];congr 1
theorem zpt {r k:Nat} (h0:0<k) (hr:r≤1000000):quo64 (r:Int) (k:Int)=some ((r / k:Nat):Int):=by
 have:=Nat.div_le_self r k;have e:((r:Int) / (k:Int))=((r / k:Nat):Int):=by simp
 unfold quo64;rw [if_neg (by omega),Int.tdiv_eq_ediv_of_nonneg (by omega),e];generalize r / k=q at this;rw [zed (by omega) (by omega)]
theorem zqa {n m s t} {rest:Nat} (h:SwapOK m.sorts s) (hs:m.sorts.all zbm=true) (hc:t.columns.all (colOK m.sorts)=true) (h3:t.columns.length≤3) (hr:rest<wN m.sorts t.columns.reverse) (hn:1000000≤n) :
  loopF (zaT.l2 n m s t) n ((rest:Int),0,1,sub64 (t.columns.length:Int) 1)=some (add64 t.first ((digP m.sorts s t.columns.reverse rest:Nat):Int)):=by
 have hw:=(zfZ hs hc h3).2.2;have hd:=zmh h _ _ hr;have hlen:t.columns.reverse.length=t.columns.length:=List.length_reverse;have:=zbi (body:=zaT.l2 n m s t) (len:=t.columns.length) (st:=λ(x:Nat×Nat×Nat) i=>((x.1:Int),(x.2.1:Int),(x.2.2:Int),(t.columns.length:Int) - 1 - (i:Int))) (g:=λ_ _=>some (add64 t.first ((digP m.sorts s t.columns.reverse rest:Nat):Int)))
  (λi x=>x.2.1+x.2.2*digP m.sorts s (t.columns.reverse.drop i) x.1=digP m.sorts s t.columns.reverse rest∧x.1<wN m.sorts (t.columns.reverse.drop i)∧x.1≤216∧x.2.2≤6 ^ i) (λrec i x hi hI hrec=>?_) (λrec x hI=>?_) n 0 (rest,0,1) (yp _) (by omega) ⟨by simp,hr,by omega,by simp⟩
 ·have e:sub64 (t.columns.length:Int) 1=(t.columns.length:Int) - 1 - ((0:Nat):Int):=by rw [zfV (by omega) (by omega)];omega
  rw [e];exact this
 ·obtain ⟨r,out,unit⟩:=x;obtain ⟨I1,I2,I3,I4⟩:=hI;simp only at I1 I2 I3 I4;have hi':i<t.columns.reverse.length:=by omega
  rw [zh hi'] at I1 I2;obtain ⟨c,hcdef⟩:∃ c,c=t.columns.reverse[i]:=⟨_,rfl⟩
  rw [← hcdef] at I1 I2;have hidx:idx t.columns ((t.columns.length:Int) - 1 - (i:Int))=some c:=by
   have e:(t.columns.length:Int) - 1 - (i:Int)=((t.columns.length - 1 - i:Nat):Int):=by omega
   rw [e,za (by omega),hcdef,List.getElem_reverse]
  have hcol:=yr.1 hc c (zd5 hidx);obtain ⟨k1,k2,k3⟩:=nK_ok hs hcol;obtain ⟨p0,p1⟩:=zlv I2;simp only [digP] at I1;have hp6:6 ^ i≤6 ^ 2:=uN (by decide) (by omega);have hcs:=zjG h (Nat.mod_lt r p0);have hge:decide ((0:Int)≤(t.columns.length:Int) - 1 - (i:Int))=true:=by simp;omega
  have hm1:unit*colS s c (r % nK m.sorts c)≤216:=by
   rw [Nat.mul_add] at I1;omega
  have hm2:unit*nK m.sorts c≤36*6:=uR (by omega) k3;have hlast:sub64 ((t.columns.length:Int) - 1 - (i:Int)) 1=(t.columns.length:Int) - 1 - ((i+1:Nat):Int):=by rw [zfV (by omega) (by omega)];omega
  have ecol:(if (c==s.sort)=true then (zcS n s ((r % nK m.sorts c:Nat):Int)) else some ((r % nK m.sorts c:Nat):Int))=some ((colS s c (r % nK m.sorts c):Nat):Int):=by
   unfold colS;by_cases e:c=s.sort
   ·rw [if_pos (by simpa using e),if_pos e,zk2,zlw h]
   ·rw [if_neg (by simpa using e),if_neg e]
  have hnext:=hrec (r / nK m.sorts c,out+unit*colS s c (r % nK m.sorts c),unit*nK m.sorts c) ⟨by rw [← I1];simp only [];rw [Nat.mul_add,Nat.mul_assoc,Nat.add_assoc],p1,by have:=Nat.div_le_self r (nK m.sorts c);simp only [];omega,by
   rw [Nat.pow_succ];exact uR I4 k3⟩
  simp only [zaT.l2,hge,if_true,hidx,ya,zdu hcol,← k1,zpx p0 (show r≤1000000 by omega),jn,zpt p0 (show r≤1000000 by omega),hlast];have hfin:∀ y:Nat,y=colS s c (r % nK m.sorts c)→rec (((r / nK m.sorts c:Nat):Int),add64 (out:Int) (mul64 (y:Int) (unit:Int)),mul64 (unit:Int) (nK m.sorts c:Int),(t.columns.length:Int) - 1 - ((i+1:Nat):Int))=some (add64 t.first ((digP m.sorts s t.columns.reverse rest:Nat):Int)):=λy hy=>by
   subst hy;have e1:mul64 ((colS s c (r % nK m.sorts c):Nat):Int) (unit:Int)=((unit*colS s c (r % nK m.sorts c):Nat):Int):=by
    rw [zjp (by rw [← uj,Nat.mul_comm];omega) (by rw [← uj,Nat.mul_comm];omega),← uj,Nat.mul_comm]
   have e2:mul64 (unit:Int) (nK m.sorts c:Int)=((unit*nK m.sorts c:Nat):Int):=by
    rw [zjp (by rw [← uj];omega) (by rw [← uj];omega),← uj]
   rw [e1,e2,zdX (by omega)];exact hnext
  by_cases e:(c==s.sort)=true
  ·rw [if_pos e] at ecol;rw [if_pos e,ecol,ya];exact hfin _ rfl
  ·rw [if_neg e] at ecol;rw [if_neg e];have:=Option.some.inj ecol;exact hfin _ (by omega)
 ·obtain ⟨r,out,unit⟩:=x;obtain ⟨I1,-⟩:=hI;simp only [zaT.l2];rw [if_neg (by simp;omega)];rw [← hlen,List.drop_length] at I1;simp only [digP,Nat.mul_zero,ul] at I1;rw [I1]
def mvT (sizes:List Int) (s:Swap) (strict:Bool):List Table→Int→Int
 | [],_=>-1
 | t::l,c=>if (zaw t.kind==strict&&(decide (t.first≤c)&&decide (c<t.first+zac sizes t.columns 1)))=true then t.first+((digP sizes s t.columns.reverse (c - t.first).toNat:Nat):Int) else mvT sizes s strict l c
theorem zh2 {sizes:List Int} {t:Table} (h:tabP sizes t=true):t.columns.length≤3∧t.columns.all (colOK sizes)=true:=by
 simp only [tabP,yc,ye] at h;exact h.1.2
theorem zdx {sizes:List Int} (hs:sizes.all zbm=true):∀ {l:List Table} {seen:List (List UInt8)} {a b:Int},layP sizes seen a b l=true→0≤a→0≤b→a+216*(l.length:Int)≤1000000→b+216*(l.length:Int)≤1000000 →
  ∀ t∈l,0≤t.first∧t.first≤1000000∧(if zaw t.kind=true then a else b)≤t.first
 | [],_,_,_,_,_,_,_,_,t,ht=>by simp at ht
 | x::l,seen,a,b,h,ha,hb,h1,h2,t,ht=>by
  have hw:=zfZ hs (zh2 (zcB h x (by simp))).2 (zh2 (zcB h x (by simp))).1;simp only [layP,yc] at h;have h3:=h.2;simp only [yQ] at h1 h2;have hcast:((l.length+1:Nat):Int)=(l.length:Int)+1:=by omega
  rw [hcast] at h1 h2;by_cases hx:zaw x.kind=true
  ·rw [if_pos hx] at h3;simp only [yc,beq_iff_eq] at h3;rw [zca (by omega) (by omega)] at h3;rcases yD.1 ht with rfl | ht
   ·rw [if_pos hx];omega
   ·have:=zdx hs h3.2 (by omega) hb (by omega) (by omega) t ht;by_cases e2:zaw t.kind=true
    ·rw [if_pos e2] at this ⊢;omega
    ·rw [if_neg e2] at this ⊢;omega
  ·rw [if_neg hx] at h3;simp only [yc,beq_iff_eq] at h3;rw [zca (by omega) (by omega)] at h3;rcases yD.1 ht with rfl | ht
   ·rw [if_neg hx];omega
   ·have:=zdx hs h3.2 ha (by omega) (by omega) (by omega) t ht;by_cases e2:zaw t.kind=true
    ·rw [if_pos e2] at this ⊢;omega
    ·rw [if_neg e2] at this ⊢;omega
theorem ze4 {m:Model} (hL:zaN m.sorts m.tables=true):m.sorts.all zbm=true∧layP m.sorts [] 0 0 m.tables=true∧m.tables.length≤12:=by
 obtain ⟨-,l2,l3,-⟩:=zbn hL;simp only [zaN,yc] at hL;exact ⟨l3,hL.2,l2⟩
def mvS (sizes:List Int) (s:Swap) (strict:Bool):List Table→Int→Int
 | [],_=>-1
 | t::l,c=>if (zaw t.kind==strict&&(decide (0≤sub64 c t.first)&&decide (sub64 c t.first<zac sizes t.columns 1)))=true then t.first+((digP sizes s t.columns.reverse (sub64 c t.first).toNat:Nat):Int) else mvS sizes s strict l c
theorem zpi {sizes:List Int} {s:Swap} {strict:Bool} {c:Int} (hc : -1000000≤c∧c≤1000000):∀ {l:List Table},(∀ t∈l,0≤t.first∧t.first≤1000000)→mvS sizes s strict l c=mvT sizes s strict l c
 | [],_=>rfl
 | t::l,h=>by
  have ht:=h t (by simp);have e:sub64 c t.first=c - t.first:=zfV (by omega) (by omega)
  have e1:(decide (0≤c - t.first)&&decide (c - t.first<zac sizes t.columns 1))=(decide (t.first≤c)&&decide (c<t.first+zac sizes t.columns 1)):=by
   rw [Bool.eq_iff_iff];simp only [yc,ye];omega
  rw [mvS,mvT,e,e1,zpi hc λu hu=>h u (by simp [hu])]
theorem znK {m s n c strict} (h:SwapOK m.sorts s) (hL:zaN m.sorts m.tables=true) (hn:1000000≤n):zaT n m s c strict=some (mvS m.sorts s strict m.tables c):=by
 obtain ⟨hs,hlay,hl⟩:=ze4 hL;have:=zT (body:=zaT.l1 n m s c strict) (len:=m.tables.length) (st:=λi=>(i:Int)) (g:=λi=>some (mvS m.sorts s strict (m.tables.drop i) c)) (λrec i hi hr=>?_) (λrec=>?_) n 0 (yp _) (by omega)
 ·simpa [zaT] using this
 ·have ht:=yj hi;obtain ⟨f1,f2,-⟩:=zdx hs hlay (Int.le_refl _) (Int.le_refl _) (by omega) (by omega) _ ht;obtain ⟨t1,t2⟩:=zh2 (zcB hlay _ ht);obtain ⟨w1,w2,w3⟩:=zfZ hs t2 t1;have hst:zgy n m.tables[i].kind=some (zaw m.tables[i].kind):=rfl;rw [zh hi,mvS];simp only [zaT.l1,zn hi,if_true,za hi,ya,hst,zkM t2 (by omega) hn,yk,yC,grd,yh,zd (i:=i) (by omega)];generalize hd:sub64 c m.tables[i].first=d
  by_cases hcond:(zaw m.tables[i].kind==strict&&(decide (0≤d)&&decide (d<zac m.sorts m.tables[i].columns 1)))=true
  ·rw [if_pos hcond];simp only [yc,beq_iff_eq,ye] at hcond;obtain ⟨c1,c2,c3⟩:=hcond;rw [if_neg (by simp [c1];omega)];obtain ⟨rest,rfl⟩:=yS c2;have hlt:rest<wN m.sorts m.tables[i].columns.reverse:=by omega
   have hd:=zmh h _ _ hlt;rw [zqa h hs t2 t1 hlt hn,yx,zca (by omega) (by omega)]
  ·rw [if_neg hcond,if_pos,hr];simp only [yc,beq_iff_eq,ye,not_and,Int.not_lt] at hcond;by_cases e1:zaw m.tables[i].kind=strict
   ·by_cases e2:0≤d
    ·have:=hcond e1 e2;simp only [yz,ye];exact .inr (by omega)
    ·simp only [yz,ye];exact .inl (.inr (by omega))
   ·simp [e1]
 ·simp [zaT.l1,mvS]
theorem zq0 {m s n c strict} (h:SwapOK m.sorts s) (hL:zaN m.sorts m.tables=true) (hc : -1000000≤c∧c≤1000000) (hn:1000000≤n):zaT n m s c strict=some (mvT m.sorts s strict m.tables c):=by
 obtain ⟨hs,hlay,hl⟩:=ze4 hL;rw [znK h hL hn,zpi hc λt ht=>by
  have:=zdx hs hlay (Int.le_refl _) (Int.le_refl _) (by omega) (by omega) t ht;exact ⟨this.1,this.2.1⟩]
section
variable {sizes:List Int} {s:Swap} (h:SwapOK sizes s) (hs:sizes.all zbm=true)
include h hs
theorem zjq (strict:Bool):∀ {l:List Table} {seen:List (List UInt8)} {a b:Int},layP sizes seen a b l=true→0≤a→0≤b→a+216*(l.length:Int)≤1000000→b+216*(l.length:Int)≤1000000 →
  ∀ c,(if strict=true then a else b)≤c→c<(if strict=true then a else b)+((zI sizes strict l).length:Int) →
   ((if strict=true then a else b)≤mvT sizes s strict l c∧mvT sizes s strict l c<(if strict=true then a else b)+((zI sizes strict l).length:Int))∧mvT sizes s strict l (mvT sizes s strict l c)=c ∧
   (zI sizes strict l)[(mvT sizes s strict l c - (if strict=true then a else b)).toNat]? = (zI sizes strict l)[(c - (if strict=true then a else b)).toNat]?
 | [],_,_,_,_,_,_,_,_,c,h1,h2=>by simp [zI] at h2;omega
 | t::l,seen,a,b,hl,ha,hb,la,lb,c,h1,h2=>by
  obtain ⟨t1,t2⟩:=zh2 (zcB hl t (by simp));obtain ⟨w1,w2,w3⟩:=zfZ hs t2 t1;simp only [layP,yc] at hl;have h3:=hl.2;simp only [yQ] at la lb;have hcast:((l.length+1:Nat):Int)=(l.length:Int)+1:=by omega
  rw [hcast] at la lb;obtain ⟨w,hw⟩:∃ w,w=wN sizes t.columns.reverse:=⟨_,rfl⟩
  by_cases hk:zaw t.kind=strict
  ·have hfirst:t.first=if strict=true then a else b:=by
    rw [← hk];split at h3 <;> rename_i e
    ·simp only [yc,beq_iff_eq] at h3;rw [if_pos e];exact h3.1
    ·simp only [yc,beq_iff_eq] at h3;rw [if_neg e];exact h3.1
   have hnext:∃ seen' a' b',layP sizes seen' a' b' l=true∧(if strict=true then a' else b')=t.first+(w:Int)∧0≤a'∧0≤b'∧a'+216*(l.length:Int)≤1000000∧b'+216*(l.length:Int)≤1000000:=by
    rw [hfirst];split at h3 <;> rename_i e
    ·simp only [yc,beq_iff_eq] at h3;rw [w1,zca (by omega) (by omega)] at h3;rw [← hk,if_pos e];exact ⟨_,_,_,h3.2,by rw [if_pos e,hw],by omega,hb,by omega,by omega⟩
    ·simp only [yc,beq_iff_eq] at h3;rw [w1,zca (by omega) (by omega)] at h3;rw [← hk,if_neg e];exact ⟨_,_,_,h3.2,by rw [if_neg e,hw],ha,by omega,by omega,by omega⟩
   obtain ⟨seen',a',b',n1,n2,n3,n4,n5,n6⟩:=hnext;have hr:zI sizes strict (t::l)=List.replicate w t.range++zI sizes strict l:=by
    rw [zI,if_pos (by simp [hk]),w1,hw,yx]
   rw [← hfirst] at h1 h2 ⊢;rw [hr,yL,y0] at h2;rw [hr];have hcond:∀ x,(zaw t.kind==strict&&(decide (t.first≤x)&&decide (x<t.first+zac sizes t.columns 1)))=decide (t.first≤x∧x<t.first+(w:Int)):=λx=>by
    rw [hk,w1,← hw,Bool.eq_iff_iff];simp
   by_cases hc:c<t.first+(w:Int)
   ·obtain ⟨r,hrr⟩:=yS (show 0≤c - t.first by omega);have hrw:r<wN sizes t.columns.reverse:=by omega
    have hd:=zmh h _ _ hrw;have hm:mvT sizes s strict (t::l) c=t.first+((digP sizes s t.columns.reverse r:Nat):Int):=by
     rw [mvT,hcond,if_pos (by simp only [ye];omega),hrr,yx]
    have hm2:mvT sizes s strict (t::l) (t.first+((digP sizes s t.columns.reverse r:Nat):Int))=c:=by
     rw [mvT,hcond,if_pos (by simp only [ye];omega)];have e:(t.first+((digP sizes s t.columns.reverse r:Nat):Int) - t.first).toNat=digP sizes s t.columns.reverse r:=by omega
     rw [e,zoV h _ _ hrw];omega
    rw [hm,hm2];refine ⟨⟨by omega,by rw [yL,y0];omega⟩,rfl,?_⟩;rw [yg (by rw [y0];omega),yg (by rw [y0];omega),List.getElem?_replicate,List.getElem?_replicate,if_pos (by omega),if_pos (by omega)]
   ·have hskip:∀ x,t.first+(w:Int)≤x→mvT sizes s strict (t::l) x=mvT sizes s strict l x:=λx hx=>by
     rw [mvT,hcond,if_neg (by simp only [ye];omega)]
    obtain ⟨i1,i2,i3⟩:=zjq strict n1 n3 n4 n5 n6 c (by rw [n2];omega) (by rw [n2];omega);rw [n2] at i1 i3;rw [hskip c (by omega),hskip _ i1.1];refine ⟨⟨by omega,by rw [yL,y0];omega⟩,i2,?_⟩;rw [yq (by rw [y0];omega),yq (by rw [y0];omega),y0];have e1:(mvT sizes s strict l c - t.first).toNat - w=(mvT sizes s strict l c - (t.first+(w:Int))).toNat:=by omega
    have e2:(c - t.first).toNat - w=(c - (t.first+(w:Int))).toNat:=by omega
    rw [e1,e2,i3]
  ·have hnext:∃ seen' a' b',layP sizes seen' a' b' l=true∧(if strict=true then a' else b')=(if strict=true then a else b)∧0≤a'∧0≤b'∧a'+216*(l.length:Int)≤1000000∧b'+216*(l.length:Int)≤1000000:=by
    split at h3 <;> rename_i e
    ·simp only [yc,beq_iff_eq] at h3;rw [w1,zca (by omega) (by omega)] at h3;have hf:strict=false:=by cases strict <;> simp_all
     subst hf;exact ⟨_,_,_,h3.2,by simp,by omega,hb,by omega,by omega⟩
    ·simp only [yc,beq_iff_eq] at h3;rw [w1,zca (by omega) (by omega)] at h3;have hf:strict=true:=by cases strict <;> simp_all
     subst hf;exact ⟨_,_,_,h3.2,by simp,ha,by omega,by omega,by omega⟩
   obtain ⟨seen',a',b',n1,n2,n3,n4,n5,n6⟩:=hnext;have hr:zI sizes strict (t::l)=zI sizes strict l:=by
    rw [zI,if_neg (by simpa using hk)]
   have hskip:∀ x,mvT sizes s strict (t::l) x=mvT sizes s strict l x:=λx=>by
    rw [mvT,if_neg (by simp [hk])]
   rw [hr,← n2] at h2 ⊢;rw [← n2] at h1;rw [hskip,hskip];exact zjq strict n1 n3 n4 n5 n6 c h1 h2
theorem zpj (strict:Bool):∀ {l:List Table} {seen:List (List UInt8)} {a b:Int},layP sizes seen a b l=true→0≤a→0≤b→a+216*(l.length:Int)≤1000000→b+216*(l.length:Int)≤1000000 →
  ∀ t∈l,zaw t.kind=strict→∀ c,t.first≤c→c<t.first+zac sizes t.columns 1→mvT sizes s strict l c=t.first+((digP sizes s t.columns.reverse (c - t.first).toNat:Nat):Int)
 | [],_,_,_,_,_,_,_,_,t,ht,_,c,_,_=>by simp at ht
 | x::l,seen,a,b,hl,ha,hb,la,lb,t,ht,hk,c,h1,h2=>by
  rw [mvT];rcases yD.1 ht with rfl | ht'
  ·rw [if_pos (by rw [hk];simp [h1,h2])]
  ·obtain ⟨t1,t2⟩:=zh2 (zcB hl x (by simp));obtain ⟨w1,w2,w3⟩:=zfZ hs t2 t1;simp only [layP,yc] at hl;have h3:=hl.2;simp only [yQ] at la lb;have hcast:((l.length+1:Nat):Int)=(l.length:Int)+1:=by omega
   rw [hcast] at la lb;split at h3 <;> rename_i e
   ·simp only [yc,beq_iff_eq] at h3;rw [w1,zca (by omega) (by omega)] at h3;have:=(zdx hs h3.2 (by omega) hb (by omega) (by omega) t ht').2.2;rw [if_neg]
    ·exact zpj strict h3.2 (by omega) hb (by omega) (by omega) t ht' hk c h1 h2
    ·simp only [yc,beq_iff_eq,ye];rintro ⟨e1,e2,e3⟩;rw [hk,← e1,if_pos e] at this;omega
   ·simp only [yc,beq_iff_eq] at h3;rw [w1,zca (by omega) (by omega)] at h3;have:=(zdx hs h3.2 ha (by omega) (by omega) (by omega) t ht').2.2;rw [if_neg]
    ·exact zpj strict h3.2 ha (by omega) (by omega) (by omega) t ht' hk c h1 h2
    ·simp only [yc,beq_iff_eq,ye];rintro ⟨e1,e2,e3⟩;rw [hk,← e1,if_neg e] at this;omega
end
def mvC (m:Model) (s:Swap) (c:Int):Int:=mvT m.sorts s true m.tables c
theorem zsb {m s} (h:SwapOK m.sorts s) (hL:zaN m.sorts m.tables=true) {c:Int} (h0:0≤c) (h1:c<((boxM m).length:Int)):(0≤mvC m s c∧mvC m s c<((boxM m).length:Int))∧mvC m s (mvC m s c)=c∧(boxM m)[(mvC m s c).toNat]? = (boxM m)[c.toNat]?:=by
 obtain ⟨hs,hlay,hl⟩:=ze4 hL;have:=zjq h hs true hlay (Int.le_refl _) (Int.le_refl _) (by omega) (by omega) c (by simpa using h0) (by simpa [boxM] using h1);simpa [mvC,boxM] using this
structure Swp (m:Model) (s:Swap):Prop where
 ok:SwapOK m.sorts s
 lay:zaN m.sorts m.tables=true
theorem Swp.cell {m s} (h:Swp m s) {c:Int} (h0:0≤c) (h1:c<((boxM m).length:Int)):(0≤mvC m s c∧mvC m s c<((boxM m).length:Int))∧mvC m s (mvC m s c)=c∧(boxM m)[(mvC m s c).toNat]? = (boxM m)[c.toNat]?:=zsb h.ok h.lay h0 h1
theorem Swp.move {m s n} (h:Swp m s) {c:Int} (hc : -1000000≤c∧c≤1000000) (hn:1000000≤n):zaT n m s c true=some (mvC m s c):=zq0 h.ok h.lay hc hn
def insT (t:Term):List Term→List Term
 | []=>[t]
 | u::l=>if t.cell<u.cell then t::u::l else u::insT t l
def mvt (m:Model) (s:Swap) (t:Term):Term:=⟨mvC m s t.cell,t.factor⟩
def rowL (m:Model) (s:Swap) (l:List Term) (acc:List Term):List Term:=l.foldl (λacc t=>insT (mvt m s t) acc) acc
def rowM (m:Model) (s:Swap) (r:Row):Row:=⟨rowL m s r.terms [],r.bound⟩
theorem zgj (t:Term):∀ l,(insT t l).Perm (t::l)
 | []=>.refl _
 | u::l=>by
  rw [insT];split
  ·exact .refl _
  ·exact ((zgj t l).cons u).trans (.swap t u l)
theorem zmO (m s):∀ l acc,(rowL m s l acc).Perm (l.map (mvt m s)++acc)
 | [],acc=>.refl _
 | t::l,acc=>by
  have ih:=zmO m s l (insT (mvt m s t) acc);refine ih.trans ?_;refine ((zgj (mvt m s t) acc).append_left _).trans ?_;simp only [yI,ud];exact List.perm_middle
theorem zgB (m s r):(rowM m s r).terms.Perm (r.terms.map (mvt m s)):=by
 have:=zmO m s r.terms []
 rwa [ur] at this
theorem zo7 {n:Nat} {acc:List Term} {j:Int} {rec:List Term×Int→Option Row} {c:Int} {u:Term} (hl:acc.length≤1000) (hn:1000000≤n):loopF (zbD.l2 n acc j rec c u) n (([]:List Term),false,0)=rec (insT ⟨c,u.factor⟩ acc,add64 j 1):=by
 have:=zbi (body:=zbD.l2 n acc j rec c u) (len:=acc.length) (st:=λ(x:List Term×Bool) i=>(x.1,x.2,(i:Int))) (g:=λ_ _=>rec (insT ⟨c,u.factor⟩ acc,add64 j 1))
  (λi x=>x.1.length≤i+1∧(if x.2=true then x.1++acc.drop i=insT ⟨c,u.factor⟩ acc else x.1=acc.take i∧insT ⟨c,u.factor⟩ acc=acc.take i++insT ⟨c,u.factor⟩ (acc.drop i))) (λrec2 i x hi hI hr=>?_) (λrec2 x hI=>?_) n 0 ([],false) (yp _) (by omega) ⟨by simp,by simp⟩
 ·exact this
 ·obtain ⟨b,p⟩:=x;obtain ⟨I1,I2⟩:=hI;simp only at I1 I2;have htk:acc.take (i+1)=acc.take i++[acc[i]]:=yv hi;have hnext:∀ (b':List Term) (p':Bool),b'.length≤i+1+1→(if p'=true then b'++acc.drop (i+1)=insT ⟨c,u.factor⟩ acc else b'=acc.take (i+1)∧insT ⟨c,u.factor⟩ acc=acc.take (i+1)++insT ⟨c,u.factor⟩ (acc.drop (i+1)))→rec2 (b',p',((i+1:Nat):Int))=rec (insT ⟨c,u.factor⟩ acc,add64 j 1):=λb' p' h1 h2=>hr (b',p') ⟨h1,h2⟩
  simp only [zbD.l2,zn hi,if_true,jn,za hi,yk,yC,grd,yh,ya,zd (i:=i) (by omega)];cases p with
  | true=>
   simp only [yW,yU,yf,if_false];rw [zam (by simp;omega),ya];refine hnext _ true (by simp;omega) ?_;rw [if_pos rfl] at I2 ⊢;rw [← I2,zh hi,yT];rfl
  | false=>
   rw [if_neg (by simp)] at I2;obtain ⟨rfl,I3⟩:=I2;rw [zh hi,insT] at I3;simp only [ui,yA];have hlt:(acc.take i).length≤i:=by rw [yP];omega
   by_cases hc:c<acc[i].cell
   ·rw [if_pos (by simpa using hc)];rw [if_pos (show (⟨c,u.factor⟩:Term).cell<acc[i].cell from hc)] at I3;rw [zam (by simp;omega),ya,zam (by simp;omega),ya];refine hnext _ true (by simp;omega) ?_;rw [if_pos rfl,I3];simp
   ·rw [if_neg (by simpa using hc)];rw [if_neg (show ¬ (⟨c,u.factor⟩:Term).cell<acc[i].cell from hc)] at I3;rw [zam (by simp;omega),ya];refine hnext _ false (by simp;omega) ?_;rw [if_neg (by simp),htk,I3,yT];exact ⟨rfl,rfl⟩
 ·obtain ⟨b,p⟩:=x;obtain ⟨I1,I2⟩:=hI;simp only at I1 I2;simp only [zbD.l2,zaq,yf,if_false,jn];cases p with
  | true=>
   rw [if_pos rfl,List.drop_length,ur] at I2;simp only [yW,yf,if_false,I2]
  | false=>
   rw [if_neg (by simp),List.drop_length,List.take_length] at I2;simp only [ui,if_true];rw [zam (by simp;omega),ya,I2.2,I2.1];rfl
theorem zpC {m s n} {r:Row} (h:Swp m s) (ht:∀ t∈r.terms,-1000000≤t.cell∧t.cell≤1000000) (hl:r.terms.length≤500) (hn:1000000≤n):zbD n m s r=some (rowM m s r):=by
 have:=zbi (body:=zbD.l1 n m s r) (len:=r.terms.length) (st:=λ(x:List Term) i=>(x,(i:Int))) (g:=λ_ _=>some (rowM m s r)) (λi x=>rowL m s (r.terms.drop i) x=rowL m s r.terms []∧x.length≤i) (λrec i x hi hI hr=>?_) (λrec x hI=>?_) n 0 [] (yp _) (by omega) ⟨by simp,by simp⟩
 ·exact this
 ·obtain ⟨I1,I2⟩:=hI;simp only [zbD.l1,zn hi,if_true,za hi,ya,h.move (ht _ (yj hi)) hn];rw [zo7 (by omega) hn,zd (by omega)];refine hr _ ⟨?_,?_⟩
  ·rw [← I1,zh hi];rfl
  ·have:=(zgj ⟨mvC m s r.terms[i].cell,r.terms[i].factor⟩ x).length_eq;simp at this;omega
 ·obtain ⟨I1,-⟩:=hI;simp only [zbD.l1,zaq,yf,if_false];rw [List.drop_length] at I1;rw [rowM,← I1];rfl
theorem zhV {n} {r t:Row} (hl:r.terms.length≤100000) (hn:1000000≤n):zaj n r t=some (decide (r=t)):=by
 unfold zaj;have hrow:(r=t)↔(r.bound=t.bound∧r.terms=t.terms):=by
  cases r;cases t;simp [and_comm]
 by_cases h:((r.bound != t.bound)||((r.terms.length:Int) != (t.terms.length:Int)))=true
 ·rw [if_pos h];simp only [yz,bne_iff_ne] at h;congr 1;symm;rw [yM,hrow];rintro ⟨h1,h2⟩;rcases h with h | h
  ·exact h h1
  ·exact h (by rw [h2])
 ·rw [if_neg h];simp only [yz,bne_iff_ne,not_or,Decidable.not_not] at h;obtain ⟨hb,hlen⟩:=h;have hlen:r.terms.length=t.terms.length:=by omega
  have:=zT (body:=zaj.l1 n r t) (len:=r.terms.length) (st:=λi=>(i:Int)) (g:=λi=>some (decide (r.terms.drop i=t.terms.drop i))) (λrec i hi hr=>?_) (λrec=>?_) n 0 (yp _) (by omega)
  ·rw [List.drop_zero,List.drop_zero] at this;rw [show ((0:Nat):Int)=0 from rfl] at this;rw [this];congr 1;exact decide_eq_decide.2 (by rw [hrow];exact ⟨λh=>⟨hb,h⟩,λh=>h.2⟩)
  ·have hi':i<t.terms.length:=by omega
   simp only [zaj.l1,zn hi,if_true,za hi,za hi',ya,zd (i:=i) (by omega),hr];have e2:(r.terms.drop i=t.terms.drop i)↔(r.terms[i]=t.terms[i]∧r.terms.drop (i+1)=t.terms.drop (i+1)):=by rw [zh hi,zh hi',List.cons.injEq]
   rw [decide_eq_decide.2 e2,Bool.decide_and];by_cases e:r.terms[i]=t.terms[i]
   ·rw [if_neg (by simp [e]),decide_eq_true e,yA]
   ·rw [if_pos (by simp [e]),decide_eq_false e,yU]
  ·simp only [zaj.l1,zaq,yf,if_false];simp [hlen]
theorem zif {α:Type} [DecidableEq α] {l:List α} {i:Nat} (hi:i<l.length) (x:α):(l.take (i+1)).count x=(l.take i).count x+(if l[i]=x then 1 else 0):=by
 rw [yv hi,List.count_append,List.count_singleton];congr 1;by_cases e:l[i]=x <;> simp [e]
theorem zju {n} {l:List Row} {k:Nat} {r:Row} (hk:k≤l.length) (hl:l.length≤100000) (ht:∀ x∈l,x.terms.length≤100000) (hn:1000000≤n):zaV n l (k:Int) r=some (((l.take k).count r:Nat):Int):=by
 have:=zT (body:=zaV.l1 n l (k:Int) r) (len:=k) (st:=λi=>((((l.take i).count r:Nat):Int),(i:Int))) (g:=λ_=>some (((l.take k).count r:Nat):Int)) (λrec i hi hr=>?_) (λrec=>?_) n 0 (yp _) (by omega)
 ·simpa [zaV] using this
 ·have hi':i<l.length:=by omega
  have hcl:(l.take i).count r≤i:=ub List.count_le_length (by rw [yP];omega);rw [zif hi'] at hr;simp only [zaV.l1,zgo hi,if_true,jn,za hi',ya,zhV (ht _ (yj hi')) hn,zd (i:=i) (by omega),zd (show (l.take i).count r<4611686018427387904 by omega)];by_cases e:l[i]=r
  ·rw [if_pos (by simpa using e)];rw [if_pos e] at hr;exact hr
  ·rw [if_neg (by simpa using e)];rw [if_neg e] at hr;exact hr
 ·simp only [zaV.l1,zeP (yn k),yf,if_false]
theorem zlm {n} {l:List Update} {u:Update} (hl:l.length≤100000) (hn:1000000≤n):zbs n l u=some ((l.count u:Nat):Int):=by
 have:=zT (body:=zbs.l1 n l u) (len:=l.length) (st:=λi=>((((l.take i).count u:Nat):Int),(i:Int))) (g:=λ_=>some ((l.count u:Nat):Int)) (λrec i hi hr=>?_) (λrec=>?_) n 0 (yp _) (by omega)
 ·simpa [zbs] using this
 ·have hcl:(l.take i).count u≤i:=ub List.count_le_length (by rw [yP];omega);rw [zif hi] at hr;simp only [zbs.l1,zn hi,if_true,jn,za hi,ya,zd (i:=i) (by omega),zd (show (l.take i).count u<4611686018427387904 by omega)];by_cases e:l[i]=u
  ·rw [if_pos (by simpa using e)];rw [if_pos e] at hr;exact hr
  ·rw [if_neg (by simpa using e)];rw [if_neg e] at hr;exact hr
 ·simp only [zbs.l1,zaq,yf,if_false,List.take_length]
def zoU (m:Model) (s:Swap) (e f:Effect):Bool:=e.delta.all λd=>f.delta.any λg=>(g.cell==mvC m s d.cell)&&(g.add==d.add)
def holdB (m:Model) (s:Swap) (e f:Effect):Bool:=e.hold.all λr=>decide (e.hold.count r=f.hold.count (rowM m s r))
def updB (m:Model) (s:Swap) (e f:Effect):Bool:=e.updates.all λu=>decide (e.updates.count u=f.updates.count ⟨u.kind,mvS m.sorts s false m.tables u.cell,u.value⟩)
def zf2 (m:Model) (s:Swap) (e f:Effect):Bool:=(decide (e.delta.length=f.delta.length)&&(decide (e.hold.length=f.hold.length)&&decide (e.updates.length=f.updates.length)))&&(zoU m s e f&&(holdB m s e f&&updB m s e f))
structure EffS (e:Effect):Prop where
 delta:e.delta.length≤1000∧∀ d∈e.delta,-1000000≤d.cell∧d.cell≤1000000
 hold:e.hold.length≤1000∧∀ r∈e.hold,r.terms.length≤500∧∀ t∈r.terms,-1000000≤t.cell∧t.cell≤1000000
 upd:e.updates.length≤1000
theorem znp {m s n} {e f:Effect} (h:Swp m s) (he:EffS e) (hf:EffS f) (hn:1000000≤n):zV n m s e f=some (zf2 m s e f):=by
 obtain ⟨d1,d2⟩:=he.delta;obtain ⟨h1,h2⟩:=he.hold;have u1:=he.upd;obtain ⟨fd1,fd2⟩:=hf.delta;obtain ⟨fh1,fh2⟩:=hf.hold;have fu1:=hf.upd;have l4:loopF (zV.l4 n m s e f) n 0=some (updB m s e f):=by
  have:=zaJ (body:=zV.l4 n m s e f) (l:=e.updates) (n:=n) (st:=λi=>(i:Int)) (λu=>decide (e.updates.count u=f.updates.count ⟨u.kind,mvS m.sorts s false m.tables u.cell,u.value⟩)) (some false) (some true) (λrec i hi=>?_) (λrec=>?_) (by omega)
  ·rw [show ((0:Nat):Int)=0 from rfl] at this;rw [this];unfold updB;cases (e.updates.all λu=>decide (e.updates.count u=f.updates.count ⟨u.kind,mvS m.sorts s false m.tables u.cell,u.value⟩)) <;> simp
  ·simp only [zV.l4,zn hi,if_true,za hi,ya,znK h.ok h.lay hn,zlm (show e.updates.length≤100000 by omega) hn,zlm (show f.updates.length≤100000 by omega) hn,zd (i:=i) (by omega)];by_cases hc:e.updates.count e.updates[i]=f.updates.count ⟨e.updates[i].kind,mvS m.sorts s false m.tables e.updates[i].cell,e.updates[i].value⟩
   ·rw [if_neg (by simp [hc]),if_pos (by simpa using hc)]
   ·rw [if_pos (by simp;omega),if_neg (by simpa using hc)]
  ·simp only [zV.l4,zaq,yf,if_false]
 have l3:loopF (zV.l3 n m s e f) n 0=some (holdB m s e f&&updB m s e f):=by
  have:=zaJ (body:=zV.l3 n m s e f) (l:=e.hold) (n:=n) (st:=λi=>(i:Int)) (λr=>decide (e.hold.count r=f.hold.count (rowM m s r))) (some false) (some (updB m s e f)) (λrec i hi=>?_) (λrec=>?_) (by omega)
  ·rw [show ((0:Nat):Int)=0 from rfl] at this;rw [this];unfold holdB;cases (e.hold.all λr=>decide (e.hold.count r=f.hold.count (rowM m s r))) <;> simp
  ·obtain ⟨r1,r2⟩:=h2 _ (yj hi);have t1:=zju (n:=n) (l:=e.hold) (k:=e.hold.length) (r:=e.hold[i]) (yn _) (by omega) (λx hx=>by have:=(h2 x hx).1;omega) hn;have t2:=zju (n:=n) (l:=f.hold) (k:=f.hold.length) (r:=rowM m s e.hold[i]) (yn _) (by omega) (λx hx=>by have:=(fh2 x hx).1;omega) hn;rw [List.take_length] at t1 t2;simp only [zV.l3,zn hi,if_true,za hi,ya,zpC h r2 r1 hn,t1,t2,zd (i:=i) (by omega)];by_cases hc:e.hold.count e.hold[i]=f.hold.count (rowM m s e.hold[i])
   ·rw [if_neg (by simp [hc]),if_pos (by simpa using hc)]
   ·rw [if_pos (by simp;omega),if_neg (by simpa using hc)]
  ·simp only [zV.l3,zaq,yf,if_false];exact l4
 have l1:loopF (zV.l1 n m s e f) n 0=some (zoU m s e f&&(holdB m s e f&&updB m s e f)):=by
  have:=zaJ (body:=zV.l1 n m s e f) (l:=e.delta) (n:=n) (st:=λi=>(i:Int)) (λd=>f.delta.any λg=>(g.cell==mvC m s d.cell)&&(g.add==d.add)) (some false) (some (holdB m s e f&&updB m s e f)) (λrec i hi=>?_) (λrec=>?_) (by omega)
  ·rw [show ((0:Nat):Int)=0 from rfl] at this;rw [this];unfold zoU;cases (e.delta.all λd=>f.delta.any λg=>(g.cell==mvC m s d.cell)&&(g.add==d.add)) <;> simp
  ·simp only [zV.l1,zn hi,if_true];have inner:=zbi (body:=zV.l2 n m s e f (i:Int) rec) (len:=f.delta.length) (st:=λ(b:Bool) k=>(b,(k:Int))) (g:=λk b=>if (b||(f.delta.drop k).any λg=>(g.cell==mvC m s e.delta[i].cell)&&(g.add==e.delta[i].add))=true then rec ((i+1:Nat):Int) else some false) (λ_ _=>True) (λrec2 k b hk _ hr=>?_) (λrec2 b _=>?_) n 0 false (yp _) (by omega) trivial
   ·simpa using inner
   ·simp only [zV.l2,zn hk,if_true,jn,za hk,za hi,ya,h.move (d2 _ (yj hi)) hn,yk,yC,grd,yh,zd (i:=k) (by omega)];rw [zh hk,uL];by_cases hc:((f.delta[k].cell==mvC m s e.delta[i].cell)&&(f.delta[k].add==e.delta[i].add))=true
    ·rw [if_pos hc,hr true trivial,hc];simp
    ·rw [if_neg hc,hr b trivial];simp only [yF] at hc;rw [hc,ue]
   ·simp only [zV.l2,zaq,yf,if_false,zd (i:=i) (by omega)];cases b <;> simp
  ·simp only [zV.l1,zaq,yf,if_false];exact l3
 unfold zV zf2;by_cases hc:((((e.delta.length:Int) != (f.delta.length:Int))||((e.hold.length:Int) != (f.hold.length:Int)))||((e.updates.length:Int) != (f.updates.length:Int)))=true
 ·rw [if_pos hc];congr 1;symm;rw [uf];left;simp only [yz,bne_iff_ne] at hc;rw [Bool.eq_false_iff];simp only [ne_eq,yc,ye];omega
 ·rw [if_neg hc,l1];congr 1;simp only [yz,bne_iff_ne,not_or,Decidable.not_not] at hc;rw [decide_eq_true (by omega),decide_eq_true (by omega),decide_eq_true (by omega)];simp
def argM (s:Swap) (sorts args:List Int):List Int:=(List.range args.length).map λi:Nat=>if sorts.getD i 0=s.sort then elemP s (args.getD i 0) else args.getD i 0
def actB (m:Model) (s:Swap) (a b:Action):Bool:=(b.operation==a.operation&&decide (b.arguments=argM s (opAt m a).sorts a.arguments))&&zf2 m s a.effect b.effect
structure ActS (m:Model):Prop where
 len:m.actions.length≤1000
 act:∀ a∈m.actions,EffS a.effect∧(∃ o,idx m.operations a.operation=some o∧o.sorts.length=a.arguments.length)∧a.arguments.length≤100
theorem zek {m s n} {k:Int} {a:Action} (h:Swp m s) (hA:ActS m) (ha:idx m.actions k=some a) (hn:1000000≤n):zP n m s k=some (if 0≤ixP (actB m s a) m.actions 0 then (ixP (actB m s a) m.actions 0,true) else (0,false)):=by
 obtain ⟨he,⟨o,ho,hol⟩,hal⟩:=hA.act a (zd5 ha);have hml:=hA.len;have hop:opAt m a=o:=by unfold opAt;rw [ho];rfl
 unfold zP;rw [ha,ya,ho,ya];have:=zT (body:=zP.l1 n m s a o) (len:=m.actions.length) (st:=λi=>(i:Int)) (g:=λi=>some (if 0≤ixP (actB m s a) (m.actions.drop i) i then (ixP (actB m s a) (m.actions.drop i) i,true) else (0,false))) (λrec i hi hr=>?_) (λrec=>?_) n 0 (yp _) (by omega)
 ·simpa using this
 ·obtain ⟨b,hb⟩:∃ b,b=m.actions[i]:=⟨_,rfl⟩
  obtain ⟨hbe,-,-⟩:=hA.act _ (yj hi);have hidx:idx m.actions (i:Int)=some b:=by rw [za hi,hb]
  rw [zh hi,← hb,ixP];rw [← hb] at hbe;simp only [zP.l1,zn hi,if_true,hidx,ya];have hargl:(argM s o.sorts a.arguments).length=a.arguments.length:=by simp [argM]
  have hget:∀ j,(hj:j<a.arguments.length)→(argM s o.sorts a.arguments)[j]'(by omega)=if o.sorts.getD j 0=s.sort then elemP s (a.arguments.getD j 0) else a.arguments.getD j 0:=λj hj=>by simp [argM]
  have inner:=zbi (body:=zP.l2 n m s a o (i:Int) rec b) (len:=a.arguments.length) (st:=λ(x:Bool) j=>(x,(j:Int))) (g:=λj x=>if (x&&(decide (b.arguments.drop j=(argM s o.sorts a.arguments).drop j)&&zf2 m s a.effect b.effect))=true then some ((i:Int),true) else rec ((i+1:Nat):Int)) (λj x=>x=true→b.arguments.length=a.arguments.length) (λrec2 j x hj hI hr2=>?_) (λrec2 x hI=>?_) n 0 ((b.operation==a.operation)&&((b.arguments.length:Int)==(a.arguments.length:Int))) (yp _) (by omega) (λhx=>by
    simp only [yc,beq_iff_eq] at hx;omega)
  ·rw [show ((0:Nat):Int)=0 from rfl] at inner;rw [inner,List.drop_zero,List.drop_zero,hr];have hact:(((b.operation==a.operation)&&((b.arguments.length:Int)==(a.arguments.length:Int)))&&(decide (b.arguments=argM s o.sorts a.arguments)&&zf2 m s a.effect b.effect))=actB m s a b:=by
    unfold actB;rw [hop,Bool.eq_iff_iff];simp only [yc,beq_iff_eq,ye];constructor
    ·rintro ⟨⟨x1,x2⟩,x3,x4⟩;exact ⟨⟨x1,x3⟩,x4⟩
    ·rintro ⟨⟨x1,x3⟩,x4⟩;exact ⟨⟨x1,by rw [x3,hargl]⟩,x3,x4⟩
   rw [hact];by_cases hc:actB m s a b=true
   ·rw [if_pos hc,if_pos hc,if_pos (by omega)]
   ·rw [if_neg hc,if_neg hc]
  ·simp only [zP.l2,zn hj,uC];cases x with
   | false=>simp [znp h he hbe hn,grd,zd (i:=i) (by omega)]
   | true=>
    have hbl:=hI rfl;have hj':j<b.arguments.length:=by omega
    have hjo:j<o.sorts.length:=by omega
    have hjm:j<(argM s o.sorts a.arguments).length:=by omega
    have eo:o.sorts.getD j 0=o.sorts[j]:=by simp [uk,hjo]
    have ea:a.arguments.getD j 0=a.arguments[j]:=by simp [uk,hj]
    have hg:=hget j hj;rw [eo,ea] at hg;have hstep:∀ w:Int,w=(argM s o.sorts a.arguments)[j]→rec2 (b.arguments[j]==w,((j+1:Nat):Int))=if (true&&(decide (b.arguments.drop j=(argM s o.sorts a.arguments).drop j)&&zf2 m s a.effect b.effect))=true then some ((i:Int),true) else rec ((i+1:Nat):Int):=λw hw=>by
     rw [hr2 _ λ_=>hbl,zh hj',zh hjm,hw];have hc:(b.arguments[j]::b.arguments.drop (j+1)=(argM s o.sorts a.arguments)[j]::(argM s o.sorts a.arguments).drop (j+1))↔(b.arguments[j]=(argM s o.sorts a.arguments)[j]∧b.arguments.drop (j+1)=(argM s o.sorts a.arguments).drop (j+1)):=by rw [List.cons.injEq]
     have hb2:(b.arguments[j]==(argM s o.sorts a.arguments)[j])=decide (b.arguments[j]=(argM s o.sorts a.arguments)[j]):=by rw [Bool.eq_iff_iff];simp
     rw [decide_eq_decide.2 hc,hb2,Bool.decide_and,yA,Bool.and_assoc]
    simp only [if_true,za hj,za hj',za hjo,ya,jn,zd (i:=j) (by omega)];by_cases e:o.sorts[j]=s.sort
    ·rw [if_pos (by simpa using e),zk2,ya];rw [if_pos e] at hg;exact hstep _ hg.symm
    ·rw [if_neg (by simpa using e)];rw [if_neg e] at hg;exact hstep _ hg.symm
  ·simp only [zP.l2,zaq,Bool.and_false,yf,if_false,znp h he hbe hn,yk,yC,grd,if_true,yh,zd (i:=i) (by omega)];cases x with
   | false=>simp
   | true=>
    have hbl:=hI rfl;have e1:b.arguments.drop a.arguments.length=[]:=by rw [← hbl,List.drop_length]
    have e2:(argM s o.sorts a.arguments).drop a.arguments.length=[]:=by rw [← hargl,List.drop_length]
    rw [e1,e2];simp
 ·simp [zP.l1,ixP]
def fstP (p:Nat→Bool):Nat→Nat→Option Nat
 | _,0=>none
 | i,k+1=>if p i=true then some i else fstP p (i+1) k
theorem zgh {p:Nat→Bool}:∀ {k i j:Nat},fstP p i k=some j→(i≤j∧j<i+k)∧p j=true∧∀ x,i≤x→x<j→p x=false
 | 0,i,j,h=>by simp [fstP] at h
 | k+1,i,j,h=>by
  rw [fstP] at h;by_cases hp:p i=true
  ·rw [if_pos hp] at h;cases h;exact ⟨by omega,hp,λx h1 h2=>by omega⟩
  ·rw [if_neg hp] at h;obtain ⟨h1,h2,h3⟩:=zgh h;refine ⟨by omega,h2,λx x1 x2=>?_⟩;by_cases e:x=i
   ·subst e;simpa using hp
   ·exact h3 x (by omega) x2
theorem zmm {p:Nat→Bool}:∀ {k i:Nat},fstP p i k=none→∀ x,i≤x→x<i+k→p x=false
 | 0,i,h,x,h1,h2=>by omega
 | k+1,i,h,x,h1,h2=>by
  rw [fstP] at h;by_cases hp:p i=true
  ·rw [if_pos hp] at h;cases h
  ·rw [if_neg hp] at h;by_cases e:x=i
   ·subst e;simpa using hp
   ·exact zmm h x (by omega) (by omega)
def conAt (m:Model) (i:Nat):Constraint:=m.constraints.getD i default
theorem zdb {m:Model} {i:Nat} (hi:i<m.constraints.length):conAt m i=m.constraints[i]:=by simp [conAt,hi]
def sameC (c d:Constraint):Bool:=((d.kind==c.kind)&&(d.family==c.family))&&decide (d.row=c.row)
def rankP (m:Model) (i:Nat):Nat:=(m.constraints.take i).countP (sameC (conAt m i))
def conB (m:Model) (s:Swap) (i j:Nat):Bool:=((((conAt m j).kind==(conAt m i).kind)&&((conAt m j).family==(conAt m i).family))&&decide ((conAt m j).row=rowM m s (conAt m i).row))&&decide (rankP m j=rankP m i)
structure ConS (m:Model):Prop where
 len:m.constraints.length≤1000
 con:∀ c∈m.constraints,c.row.terms.length≤500∧∀ t∈c.row.terms,-1000000≤t.cell∧t.cell≤1000000
theorem zpv {m n} {i:Nat} (hC:ConS m) (hi:i<m.constraints.length) (hn:1000000≤n):zby n m (i:Int)=some ((rankP m i:Nat):Int):=by
 have hl:=hC.len;unfold zby;rw [za hi,ya];have:=zT (body:=zby.l1 n m (i:Int) m.constraints[i]) (len:=i) (st:=λk=>((((m.constraints.take k).countP (sameC m.constraints[i]):Nat):Int),(k:Int))) (g:=λ_=>some ((rankP m i:Nat):Int)) (λrec k hk hr=>?_) (λrec=>?_) n 0 (yp _) (by omega)
 ·simpa using this
 ·have hk':k<m.constraints.length:=by omega
  have hcl:(m.constraints.take k).countP (sameC m.constraints[i])≤k:=ub List.countP_le_length (by rw [yP];omega);rw [yv hk',List.countP_append,List.countP_singleton] at hr;simp only [zby.l1,zgo hk,if_true,jn,za hk',ya,zhV (show m.constraints[k].row.terms.length≤100000 by have:=(hC.con _ (yj hk')).1;omega) hn,yk,yC,grd,yh,zd (i:=k) (by omega),zd (show (m.constraints.take k).countP (sameC m.constraints[i])<4611686018427387904 by omega)];by_cases e:sameC m.constraints[i] m.constraints[k]=true
  ·rw [if_pos e] at hr;rw [if_pos (by simpa [sameC] using e)];exact hr
  ·rw [if_neg e] at hr;rw [if_neg (by simpa [sameC] using e)];exact hr
 ·simp only [zby.l1,zeP (yn i),yf,if_false];rw [rankP,zdb hi]
theorem zfq {m s n} {i:Nat} (h:Swp m s) (hC:ConS m) (hi:i<m.constraints.length) (hn:1000000≤n):zab n m s (i:Int)=some (if (conAt m i).kind=1 then ((i:Int),true) else match fstP (conB m s i) 0 m.constraints.length with
  | some j=>((j:Int),true)
  | none=>(0,false)):=by
 have hl:=hC.len;unfold zab;rw [za hi,ya,← zdb hi];by_cases hk:(conAt m i).kind=1
 ·rw [if_pos hk,if_pos (by simpa using hk)]
 ·rw [if_neg hk,if_neg (by simpa using hk)];obtain ⟨c1,c2⟩:=hC.con _ (yj hi);rw [← zdb hi] at c1 c2;rw [zpC h c2 c1 hn,ya];have:=zT (body:=zab.l1 n m (i:Int) (conAt m i) (rowM m s (conAt m i).row)) (len:=m.constraints.length) (st:=λj=>(j:Int)) (g:=λj=>some (match fstP (conB m s i) j (m.constraints.length - j) with
   | some j=>((j:Int),true)
   | none=>((0:Int),false))) (λrec j hj hr=>?_) (λrec=>?_) n 0 (yp _) (by omega)
  ·rw [Nat.sub_zero] at this;exact this
  ·have hcj:=(hC.con _ (yj hj)).1;simp only [zab.l1,zn hj,if_true,za hj,ya];rw [← zdb hj] at hcj ⊢;simp only [zhV (show (conAt m j).row.terms.length≤100000 by omega) hn,zpv hC hj hn,zpv hC hi hn,yk,yC,grd,if_true,yh,zd (i:=j) (by omega)];rw [show m.constraints.length - j=(m.constraints.length - (j+1))+1 by omega,fstP];have hb:(((((conAt m j).kind==(conAt m i).kind)&&((conAt m j).family==(conAt m i).family))&&decide ((conAt m j).row=rowM m s (conAt m i).row))&&(((rankP m j:Nat):Int)==((rankP m i:Nat):Int)))=conB m s i j:=by
    unfold conB;congr 1;rw [Bool.eq_iff_iff];simp;omega
   rw [hb];by_cases hc:conB m s i j=true
   ·rw [if_pos hc,if_pos hc]
   ·rw [if_neg hc,if_neg hc,hr]
  ·simp [zab.l1,fstP]
def risT (l:List Term):Prop:=l.Pairwise λa b=>a.cell<b.cell
theorem zlA {t:Term}:∀ {l:List Term},risT l→(∀ u∈l,u.cell≠t.cell)→risT (insT t l)
 | [],_,_=>by simp [insT,risT]
 | u::l,h,hne=>by
  obtain ⟨h1,h2⟩:=uv.1 h;rw [insT];split
  ·rename_i hlt;exact uv.2 ⟨λv hv=>by
    rcases yD.1 hv with rfl | hv
    ·exact hlt
    ·have:=h1 v hv;omega,h⟩
  ·rename_i hge;refine uv.2 ⟨λv hv=>?_,zlA h2 λv hv=>hne v (by simp [hv])⟩;rcases yD.1 ((zgj t l).mem_iff.1 hv) with rfl | hv
   ·have:=hne u (by simp);omega
   ·exact h1 v hv
theorem znU {m s}:∀ {l acc:List Term},risT acc→((acc++l.map (mvt m s)).Pairwise λa b=>a.cell≠b.cell)→risT (rowL m s l acc)
 | [],acc,h,_=>h
 | t::l,acc,h,hp=>by
  have hp':=hp;simp only [yI] at hp;rw [List.pairwise_append] at hp;obtain ⟨p1,p2,p3⟩:=hp;obtain ⟨p4,p5⟩:=uv.1 p2;refine znU (l:=l) (acc:=insT (mvt m s t) acc) (zlA h λu hu=>p3 u hu _ (by simp)) ?_;rw [List.pairwise_append];refine ⟨?_,p5,λu hu v hv=>?_⟩
  ·refine List.Pairwise.imp (λ{a b} hab=>?_) (zlA h λu hu=>p3 u hu _ (by simp));omega
  ·rcases yD.1 ((zgj _ _).mem_iff.1 hu) with rfl | hu
   ·exact p4 v hv
   ·exact p3 u hu v (by simp [hv])
theorem znS {l k:List Term} (hp:l.Perm k) (h1:risT l) (h2:risT k):l=k:=
 zfs (R:=λa b:Term=>a.cell<b.cell) (λa b x y=>by omega) hp h1 h2
structure RowIn (m:Model) (r:Row):Prop where
 ris:risT r.terms
 term:∀ t∈r.terms,znZ (boxM m).length t
section
variable {m:Model} {s:Swap} (h:Swp m s)
include h
theorem zqD {c d:Int} (c0:0≤c) (c1:c<((boxM m).length:Int)) (d0:0≤d) (d1:d<((boxM m).length:Int)) (e:mvC m s c=mvC m s d):c=d:=by
 rw [← (h.cell c0 c1).2.1,e,(h.cell d0 d1).2.1]
theorem znL {l:List Term} (hr:risT l) (ht:∀ t∈l,znZ (boxM m).length t):(l.map (mvt m s)).Pairwise λa b=>a.cell≠b.cell:=by
 rw [List.pairwise_map];refine List.Pairwise.imp_of_mem (λ{a b} ha hb hab e=>?_) hr;obtain ⟨a1,a2,-⟩:=ht a ha;obtain ⟨b1,b2,-⟩:=ht b hb;have:=zqD h a1 a2 b1 b2 e;omega
theorem RowIn.mv {r:Row} (hr:RowIn m r):RowIn m (rowM m s r):=by
 refine ⟨znU (acc:=[]) (by simp [risT]) (by simpa using znL h hr.ris hr.term),λt ht=>?_⟩;obtain ⟨u,hu,rfl⟩:=yO.1 ((zgB m s r).mem_iff.1 ht);obtain ⟨u1,u2,u3,u4⟩:=hr.term u hu;obtain ⟨c,-⟩:=h.cell u1 u2;exact ⟨c.1,c.2,u3,u4⟩
theorem zhT {r:Row} (hr:RowIn m r):rowM m s (rowM m s r)=r:=by
 have h1:=hr.mv h;have h2:=h1.mv h;have hp:(rowM m s (rowM m s r)).terms.Perm r.terms:=by
  refine (zgB m s _).trans ?_;refine ((zgB m s r).map (mvt m s)).trans ?_;have:(r.terms.map (mvt m s)).map (mvt m s)=r.terms:=by
   rw [uu];refine (List.map_congr_left λt ht=>?_).trans (List.map_id _);obtain ⟨t1,t2,-⟩:=hr.term t ht;simp only [Function.comp_apply,mvt,id_eq,(h.cell t1 t2).2.1]
  rw [this]
 have e:=znS hp h2.ris hr.ris;have e2:(rowM m s (rowM m s r)).bound=r.bound:=rfl;cases hx:rowM m s (rowM m s r) with
 | mk a b=>rw [hx] at e e2;cases r;simp only at e e2;rw [e,e2]
theorem znb {r t:Row} (hr:RowIn m r) (ht:RowIn m t) (e:rowM m s r=rowM m s t):r=t:=by
 rw [← zhT h hr,e,zhT h ht]
end
theorem znV {K:Nat}:∀ {l:List Term} {last:Int},rowP K last l=true→risT l∧∀ t∈l,last<t.cell
 | [],_,_=>⟨by simp [risT],by simp⟩
 | t::l,last,h=>by
  simp only [rowP,yc,ye] at h;obtain ⟨i1,i2⟩:=znV h.2;refine ⟨uv.2 ⟨i2,i1⟩,λu hu=>?_⟩;rcases yD.1 hu with rfl | hu
  ·exact h.1.1.1.1
  ·have:=i2 u hu;have:=h.1.1.1.1;omega
theorem zlW {m:Model} {r:Row} (h:rowOK (boxM m).length r=true):RowIn m r:=by
 simp only [rowOK,yc] at h;exact ⟨(znV h.1).1,ziu h.1 (by decide)⟩
theorem zj7 {α:Type} [DecidableEq α]:∀ {A B:List α},A.Nodup→(∀ x∈A,x∈B)→A.length≤B.length
 | [],B,_,_=>by simp
 | x::A,B,hn,hs=>by
  obtain ⟨h1,h2⟩:=List.nodup_cons.1 hn;have hx:=hs x (by simp);have:=zj7 (A:=A) (B:=B.erase x) h2 λy hy=>(List.mem_erase_of_ne (show y≠x from λe=>h1 (by rw [← e];exact hy))).2 (hs y (by simp [hy]))
  rw [List.length_erase_of_mem hx] at this;have:=List.length_pos_of_mem hx;simp;omega
theorem zpl {α:Type} [DecidableEq α] {A B:List α} (hn:A.Nodup) (hs:∀ x∈A,x∈B) (hl:B.length≤A.length):∀ y∈B,y∈A:=λy hy=>by
 refine Classical.byContradiction λhno=>?_
 have:=zj7 (A:=A) (B:=B.erase y) hn λx hx=>(List.mem_erase_of_ne (show x≠y from λe=>hno (by rw [← e];exact hx))).2 (hs x hx)
 rw [List.length_erase_of_mem hy] at this;have:=List.length_pos_of_mem hy;omega
theorem ziq {α:Type} [DecidableEq α]:∀ {A B:List α},(∀ x∈A,A.count x=B.count x)→A.length=B.length→A.Perm B
 | [],B,_,hl=>by
  have:B=[]:=List.length_eq_zero_iff.1 hl.symm;rw [this]
 | x::A,B,hc,hl=>by
  have hx:x∈B:=by
   have:=hc x (by simp);rw [List.count_cons_self] at this;exact List.count_pos_iff.1 (by omega)
  have hp:=List.perm_cons_erase hx;refine (List.Perm.cons x (ziq (A:=A) (B:=B.erase x) (λy hy=>?_) ?_)).trans hp.symm
  ·have h1:=hc y (by simp [hy]);by_cases e:y=x
   ·subst e;rw [List.count_cons_self] at h1;rw [List.count_erase_self];omega
   ·rw [List.count_cons_of_ne (λh=>e h.symm)] at h1;rw [List.count_erase_of_ne e,h1]
  ·rw [List.length_erase_of_mem hx];simp at hl;omega
theorem zgf {α:Type} [DecidableEq α] {f:α→α} {x:α}:∀ {l:List α},(∀ y∈l,f y=f x→y=x)→(l.map f).count (f x)=l.count x
 | [],_=>by simp
 | y::l,h=>by
  rw [yI,List.count_cons,List.count_cons,zgf (λz hz=>h z (by simp [hz]))];congr 1;by_cases e:y=x
  ·subst e;simp
  ·have:f y≠f x:=λhe=>e (h y (by simp) he)
   simp [e,this]
structure EffIn (m:Model) (e:Effect):Prop where
 nd:(e.delta.map (·.cell)).Nodup
 cell:∀ d∈e.delta,0≤d.cell∧d.cell<((boxM m).length:Int)
 hold:∀ r∈e.hold,RowIn m r
theorem zoW {m:Model} (hV:ValidM m) {a:Action} (ha:a∈m.actions):EffIn m a.effect:=by
 have h:=(zh7 hV ha).1;simp only [effP,yc] at h;obtain ⟨h1,h2⟩:=zhf _ _ h.1;exact ⟨h2,λd hd=>by have:=h1 d hd;unfold boxM;omega,λr hr=>zlW ((zoF hV ha).2 r hr)⟩
section
variable {m:Model} {s:Swap} (h:Swp m s)
include h
theorem zqV {e f:Effect} (he:EffIn m e) (hf:EffIn m f) (hl:e.hold.length=f.hold.length) (hd:holdB m s e f=true):(e.hold.map (rowM m s)).Perm f.hold:=by
 refine ziq (λy hy=>?_) (by simp [hl]);obtain ⟨r,hr,rfl⟩:=yO.1 hy;rw [zgf λz hz e2=>znb h (he.hold z hz) (he.hold r hr) e2];exact of_decide_eq_true (yr.1 hd r hr)
end
theorem zoK {m:Model} (hS:SmallM m) (hL:zaN m.sorts m.tables=true):(boxM m).length≤2592:=by
 obtain ⟨l1,l2,l3,l4⟩:=zbn hL;have:=zcJ (sizes:=m.sorts) (s:=true) (l:=m.tables) λt ht=>(l4 t ht).2.2.2.2
 have:=hS.tables;unfold boxM;omega
theorem zoq {m:Model} (hV:ValidM m) {a:Action} (ha:a∈m.actions):a.arguments.length=(opAt m a).sorts.length∧(0≤a.operation∧a.operation<(m.operations.length:Int)):=by
 have h:=hV.acts;simp only [actsP,yc] at h;obtain ⟨i,hi,rfl⟩:=List.mem_iff_getElem.1 ha;have:=zht.1 h.2 i hi;simp only [za hi,yh,actP,yc,ye,beq_iff_eq] at this;exact ⟨this.1.1.1.2,this.1.1.1.1⟩
theorem zib {m:Model} (hS:SmallM m) (hV:ValidM m):ActS m:=by
 have hb:=zoK hS hV.lay;refine ⟨by have:=hS.actions;omega,λa ha=>⟨?_,?_,?_⟩⟩
 ·obtain ⟨-,d,ho,u,ht⟩:=hS.act a ha;have he:=zoW hV ha;refine ⟨⟨by omega,λd hd=>by have:=he.cell d hd;omega⟩,⟨by omega,λr hr=>⟨by have:=ht r hr;omega,λt htm=>by
   obtain ⟨t1,t2,-⟩:=(he.hold r hr).term t htm;omega⟩⟩,by omega⟩
 ·obtain ⟨h1,h2⟩:=zoq hV ha;obtain ⟨o,ho⟩:=zbw h2.1 h2.2;refine ⟨o,ho,?_⟩;rw [h1];unfold opAt;rw [ho];rfl
 ·have:=(hS.act a ha).1;omega
theorem zmf {m:Model} (hV:ValidM m) {c:Constraint} (hc:c∈m.constraints) (hk:c.kind=0):RowIn m c.row:=zlW (zoQ hV hc hk)
theorem zm1 {m:Model} (hS:SmallM m) (hV:ValidM m):ConS m:=by
 have hb:=zoK hS hV.lay;refine ⟨by have:=hS.constraints;omega,λc hc=>⟨by have:=hS.con c hc;omega,λt ht=>?_⟩⟩;rcases zkr hV hc with h | h
 ·simp only [zec,yc,beq_iff_eq] at h;obtain ⟨t1,t2,-⟩:=(zlW (m:=m) h.2).term t ht;omega
 ·simp only [acyP,zgi,yc,beq_iff_eq] at h;have:c.row.terms=[]:=List.length_eq_zero_iff.1 (by omega);rw [this] at ht;simp at ht
def rhoI (m:Model) (s:Swap) (a:Action):Int:=ixP (actB m s a) m.actions 0
def sigI (m:Model) (s:Swap) (i:Nat):Nat:=if (conAt m i).kind=1 then i else (fstP (conB m s i) 0 m.constraints.length).getD 0
def symB (m:Model) (s:Swap):Bool:=(m.actions.all λa=>decide (0≤rhoI m s a))&&allR (λi=>decide ((conAt m i).kind=1)||(fstP (conB m s i) 0 m.constraints.length).isSome) 0 m.constraints.length
theorem zi5 {m s n} (h:Swp m s) (hA:ActS m) (hC:ConS m) (hn:1000000≤n):zW n m s=some (symB m s):=by
 have hal:=hA.len;have hcl:=hC.len;have l2:loopF (zW.l2 n m s) n 0=some (allR (λi=>decide ((conAt m i).kind=1)||(fstP (conB m s i) 0 m.constraints.length).isSome) 0 m.constraints.length):=by
  have:=zd0 (body:=zW.l2 n m s) (len:=m.constraints.length) (n:=n) (st:=λi=>(i:Int)) (λi=>decide ((conAt m i).kind=1)||(fstP (conB m s i) 0 m.constraints.length).isSome) (some false) (some true) (λrec i hi=>?_) (λrec=>?_) (by omega)
  ·rw [show ((0:Nat):Int)=0 from rfl] at this;rw [this];cases allR (λi=>decide ((conAt m i).kind=1)||(fstP (conB m s i) 0 m.constraints.length).isSome) 0 m.constraints.length <;> simp
  ·simp only [zW.l2,zn hi,if_true,zfq h hC hi hn,ya,zd (i:=i) (by omega)];by_cases hk:(conAt m i).kind=1
   ·simp [hk]
   ·simp only [hk,if_false,decide_false,ue];cases fstP (conB m s i) 0 m.constraints.length <;> simp
  ·simp only [zW.l2,zaq,yf,if_false]
 unfold zW symB;have:=zaJ (body:=zW.l1 n m s) (l:=m.actions) (n:=n) (st:=λi=>(i:Int)) (λa=>decide (0≤rhoI m s a)) (some false) (loopF (zW.l2 n m s) n 0) (λrec i hi=>?_) (λrec=>?_) (by omega)
 ·rw [show ((0:Nat):Int)=0 from rfl] at this;rw [this,l2];cases (m.actions.all λa=>decide (0≤rhoI m s a)) <;> simp
 ·simp only [zW.l1,zn hi,if_true,zek h hA (za hi) hn,ya,zd (i:=i) (by omega)];have e:ixP (actB m s m.actions[i]) m.actions 0=rhoI m s m.actions[i]:=rfl;rw [e];by_cases hr:0≤rhoI m s m.actions[i]
  ·simp [hr]
  ·simp [hr]
 ·simp only [zW.l1,zaq,yf,if_false]
structure Sym (m:Model) (s:Swap):Prop where
 small:SmallM m
 valid:ValidM m
 swap:SwapOK m.sorts s
 sym:symB m s=true
def swpB (m:Model) (s:Swap):Bool:=(((decide (0≤s.sort)&&decide (s.sort<(m.sorts.length:Int)))&&decide (0≤s.a))&&decide (s.a<s.b))&&decide (s.b<((idx m.sorts s.sort).getD default))
theorem zkq {m s} (h:swpB m s=true):SwapOK m.sorts s:=by
 simp only [swpB,yc,ye] at h;obtain ⟨⟨⟨⟨h1,h2⟩,h3⟩,h4⟩,h5⟩:=h;have hc:colOK m.sorts s.sort=true:=by simp [colOK,h1,h2]
 rw [zdu hc,yh] at h5;exact ⟨hc,h3,h4,h5⟩
theorem zqH {m s n} (hn:4294967296≤n) (hS:SmallM m):zgO n m s=some (zbb m&&swpB m s):=by
 unfold zgO;rw [zfa hn hS,ya];unfold swpB;by_cases hc:((((zbb m&&decide (0≤s.sort))&&decide (s.sort<(m.sorts.length:Int)))&&decide (0≤s.a))&&decide (s.a<s.b))=true
 ·have hc':=hc;simp only [yc,ye] at hc';obtain ⟨⟨⟨⟨h0,h1⟩,h2⟩,h3⟩,h4⟩:=hc';obtain ⟨k,hk⟩:=zbw h1 h2;rw [hk];simp [h0,h1,h2,h3,h4,grd]
 ·simp only [yF] at hc;rw [hc];simp only [ui,uO,grd,if_true,yU];congr 1;symm;rw [uf] at hc ⊢;cases hv:zbb m with
  | false=>exact .inl rfl
  | true=>
   right;rw [hv] at hc;simp only [yA] at hc;rw [uf];left;rw [uf];exact hc
theorem zn7 {m s n} (hn:4294967296≤n) (hS:SmallM m):zeD n m s=some ((zbb m&&swpB m s)&&symB m s):=by
 unfold zeD;rw [zqH hn hS,ya];cases hc:(zbb m&&swpB m s) with
 | false=>simp [grd]
 | true=>
  simp only [yc] at hc;have hV:=zcl.1 hc.1;rw [zi5 ⟨zkq hc.2,hV.lay⟩ (zib hS hV) (zm1 hS hV) (by omega)];simp [grd]
section
variable {m:Model} {s:Swap} (h:Sym m s)
include h
theorem Sym.swp:Swp m s:=⟨h.swap,h.valid.lay⟩
theorem Sym.rho {a:Action} (ha:a∈m.actions):∃ (k:Nat) (hk:k<m.actions.length),rhoI m s a=(k:Int)∧actB m s a m.actions[k]=true:=by
 have:=h.sym;simp only [symB,yc,yr] at this;have hr:=of_decide_eq_true (this.1 a ha);unfold rhoI at *;rcases zgM (actB m s a) m.actions 0 with ⟨h1,-⟩ | ⟨k,hk,h1,h2,-⟩
 ·omega
 ·exact ⟨k,hk,by rw [h1];simp,h2⟩
theorem Sym.sig {i:Nat} (hi:i<m.constraints.length):sigI m s i<m.constraints.length∧(conAt m (sigI m s i)).kind=(conAt m i).kind∧(((conAt m i).kind=1∧sigI m s i=i)∨((conAt m i).kind=0∧conB m s i (sigI m s i)=true∧∀ x,x<sigI m s i→conB m s i x=false)):=by
 have:=h.sym;simp only [symB,yc] at this;have hc:=zht.1 this.2 i hi;have hkind:=(zqu h.small h.valid (yj hi)).kind;rw [← zdb hi] at hkind;unfold sigI;by_cases hk:(conAt m i).kind=1
 ·rw [if_pos hk];exact ⟨hi,rfl,.inl ⟨hk,rfl⟩⟩
 ·rw [if_neg hk];simp only [hk,decide_false,ue] at hc;obtain ⟨j,hj⟩:=Option.isSome_iff_exists.1 hc;rw [hj,yh];obtain ⟨j1,j2,j3⟩:=zgh hj;have j2':=j2;simp only [conB,yc,beq_iff_eq] at j2';exact ⟨by omega,j2'.1.1.1,.inr ⟨by omega,j2,λx hx=>j3 x (yp _) hx⟩⟩
theorem zqf {i j:Nat} (hi:i<m.constraints.length) (hj:j<m.constraints.length) (hs:sameC (conAt m i) (conAt m j)=true) (hr:rankP m i=rankP m j):i=j:=by
 have key:∀ {i j:Nat},i<j→j<m.constraints.length→sameC (conAt m i) (conAt m j)=true→rankP m i<rankP m j:=λ{i j} hij hj hs=>by
  have hs':=hs;simp only [sameC,yc,beq_iff_eq,ye] at hs';have hf:sameC (conAt m j)=sameC (conAt m i):=by
   funext d;simp only [sameC,hs'.1.1,hs'.1.2,hs'.2]
  unfold rankP;rw [hf];have hii:i<m.constraints.length:=by omega
  have h1:(m.constraints.take (i+1)).countP (sameC (conAt m i))=(m.constraints.take i).countP (sameC (conAt m i))+1:=by
   rw [yv hii,List.countP_append,List.countP_singleton,← zdb hii];rw [if_pos (by simp [sameC])]
  have h2:(m.constraints.take (i+1)).countP (sameC (conAt m i))≤(m.constraints.take j).countP (sameC (conAt m i)):=by
   have:m.constraints.take (i+1)=(m.constraints.take j).take (i+1):=by rw [List.take_take];congr 1;omega
   rw [this];exact (List.take_sublist _ _).countP_le
  omega
 rcases Nat.lt_trichotomy i j with hlt | e | hlt
 ·have:=key hlt hj hs;omega
 ·exact e
 ·have hs2:sameC (conAt m j) (conAt m i)=true:=by
   simp only [sameC,yc,beq_iff_eq,ye] at hs ⊢;exact ⟨⟨hs.1.1.symm,hs.1.2.symm⟩,hs.2.symm⟩
  have:=key hlt hi hs2;omega
theorem Sym.rowIn {i:Nat} (hi:i<m.constraints.length) (hk:(conAt m i).kind=0):RowIn m (conAt m i).row:=by
 rw [zdb hi] at hk ⊢;exact zmf h.valid (yj hi) hk
theorem Sym.sig_sig {i:Nat} (hi:i<m.constraints.length):sigI m s (sigI m s i)=i:=by
 obtain ⟨i1,i2,i3⟩:=h.sig hi;rcases i3 with ⟨ik,ie⟩ | ⟨ik,ie,-⟩
 ·rw [ie,ie]
 ·obtain ⟨j1,j2,j3⟩:=h.sig i1;rcases j3 with ⟨jk,-⟩ | ⟨jk,je,-⟩
  ·rw [i2] at jk;omega
  ·simp only [conB,yc,beq_iff_eq,ye] at ie je;refine zqf h j1 hi ?_ (by omega);simp only [sameC,yc,beq_iff_eq,ye];refine ⟨⟨by omega,by omega⟩,?_⟩;rw [je.1.2,ie.1.2,zhT h.swp (h.rowIn hi ik)]
end
structure TgtMv (m:Model) (s:Swap) (q p:Question) (a A:Action):Prop where
 hold:p.target.hold=q.target.hold
 con:q.target.hold=false→∃ i:Nat,i<m.constraints.length∧q.target.index=(i:Int)∧p.target.index=((sigI m s i:Nat):Int)
 row:q.target.hold=true→∃ r,idx a.effect.hold q.target.index=some r∧idx A.effect.hold p.target.index=some (rowM m s r)
section
variable {m:Model} {s:Swap} {q p:Question} {a b A B:Action} (h:Sym m s)
include h
end
structure QMv (m:Model) (s:Swap) (q p:Question) (a b:Action):Prop where
 out:∃ (k l:Nat) (hk:k<m.actions.length) (hl:l<m.actions.length),actB m s a m.actions[k]=true∧actB m s b m.actions[l]=true∧(q.e=q.f→k=l)∧TgtMv m s q p a m.actions[k] ∧
  (q.target.hold=true→p.e=(k:Int)∧p.f=(l:Int))∧(q.target.hold=false→p.e≤p.f∧((p.e=(k:Int)∧p.f=(l:Int))∨(p.e=(l:Int)∧p.f=(k:Int))))

structure Pair (m:Model) (s:Swap) (a b A B a' b':Action):Prop where
 ma:a∈m.actions
 mb:b∈m.actions
 mA:A∈m.actions
 mB:B∈m.actions
 aA:actB m s a A=true
 bB:actB m s b B=true
 or:(a'=A∧b'=B)∨(a'=B∧b'=A)
section
variable {n:Nat} {m:Model} {s:Swap} (h:Sym m s) (hn:4294967296≤n)
include h
include hn
end
theorem zo4 {α:Type} {l:List α} {c:Int} (h0:0≤c):idx l c=l[c.toNat]?:=by
 unfold idx;rw [if_pos h0]
section
variable {n:Nat} {m:Model} {s:Swap} (h:Sym m s) (hn:4294967296≤n) {a b A B a' b':Action} (hp:Pair m s a b A B a' b')
include h hp
end
section
variable {n:Nat} {m:Model} {s:Swap} (h:Sym m s) (hn:4294967296≤n) {a b A B a' b':Action} (hp:Pair m s a b A B a' b') {q p:Question} (ht:TgtMv m s q p a A)
include h hn hp
include ht in
end

theorem zhb {n:Nat} {a b:Int}:zR n a b=some (if a<b then -1 else if b<a then 1 else 0):=by
 have hN:∀ x,zcp n x=some false:=λx=>by simp [zcp]
 unfold zR
 simp only [hN,ya,yf,if_false,ye]
 split
 ·rfl
 ·split <;> rfl
theorem zrV {n:Nat} (hn:10≤n) {a b c d:Int}:zaW n [a,b,c,d]=some (if a≠0 then a else if b≠0 then b else if c≠0 then c else d):=by
 obtain ⟨k,rfl⟩:∃ k,n=k+5:=⟨n - 5,by omega⟩
 have e1:add64 0 1=1:=by decide
 have e2:add64 1 1=2:=by decide
 have e3:add64 2 1=3:=by decide
 have e4:add64 3 1=4:=by decide
 simp only [zaW,loopF,zaW.l1,idx,e1,e2,e3,e4]
 by_cases ha:a=0 <;> by_cases hb:b=0 <;> by_cases hc:c=0 <;> by_cases hd:d=0 <;> simp [ha,hb,hc,hd]
def lessQ (a b:Question):Bool:=
 if a.e≠b.e then decide (a.e<b.e) else if a.f≠b.f then decide (a.f<b.f) else if a.target.hold≠b.target.hold then !a.target.hold else decide (a.target.index<b.target.index)
def hI (q:Question):Int:=if q.target.hold=true then 1 else 0
def cI (a b:Int):Int:=if a<b then -1 else if b<a then 1 else 0
def compP (a b:Question):Int:=if cI a.e b.e≠0 then cI a.e b.e else if cI a.f b.f≠0 then cI a.f b.f else if cI (hI a) (hI b)≠0 then cI (hI a) (hI b) else cI a.target.index b.target.index
theorem zp0 {n:Nat} {q:Question}:zb2 n q=some (hI q):=by
 unfold zb2 hI
 split <;> rfl
theorem zk1 {n:Nat} {a b:Question} (hn:10≤n):zaZ n a b=some (compP a b):=by
 unfold zaZ
 simp only [zhb,zp0,ya,zrV hn]
 rfl
theorem zic {a b:Int}:cI a b=0↔a=b:=by
 unfold cI;split
 ·simp;omega
 ·split
  ·simp;omega
  ·simp;omega
theorem zkZ {a b:Int}:cI a b<0↔a<b:=by
 unfold cI;split
 ·simp;omega
 ·split
  ·simp;omega
  ·simp;omega
def LexQ (a b:Question):Prop:=a.e<b.e∨(a.e=b.e∧(a.f<b.f∨(a.f=b.f∧(hI a<hI b∨(hI a=hI b∧a.target.index<b.target.index)))))
theorem zjS {a b:Question}:lessQ a b=true↔LexQ a b:=by
 unfold lessQ LexQ hI
 by_cases h1:a.e=b.e
 ·simp only [h1,ne_eq,not_true_eq_false,if_false,Int.lt_irrefl,false_or,true_and]
  by_cases h2:a.f=b.f
  ·simp only [h2,not_true_eq_false,if_false,Int.lt_irrefl,false_or,true_and]
   cases ha:a.target.hold <;> cases hb:b.target.hold <;> simp
  ·simp only [h2,not_false_eq_true,if_true,false_and,or_false,ye]
 ·simp only [h1,ne_eq,not_false_eq_true,if_true,false_and,or_false,ye]
theorem zjH {a b:Question}:compP a b<0↔LexQ a b:=by
 unfold compP LexQ
 by_cases h1:a.e=b.e
 ·have e1:cI a.e b.e=0:=zic.2 h1
  simp only [e1,ne_eq,not_true_eq_false,if_false]
  by_cases h2:a.f=b.f
  ·have e2:cI a.f b.f=0:=zic.2 h2
   simp only [e2,not_true_eq_false,if_false]
   by_cases h3:hI a=hI b
   ·have e3:cI (hI a) (hI b)=0:=zic.2 h3
    simp only [e3,not_true_eq_false,if_false,zkZ];omega
   ·have e3:cI (hI a) (hI b)≠0:=λh=>h3 (zic.1 h)
    simp only [e3,not_false_eq_true,if_true,zkZ];omega
  ·have e2:cI a.f b.f≠0:=λh=>h2 (zic.1 h)
   simp only [e2,not_false_eq_true,if_true,zkZ];omega
 ·have e1:cI a.e b.e≠0:=λh=>h1 (zic.1 h)
  simp only [e1,ne_eq,not_false_eq_true,if_true,zkZ];omega
theorem zoO {a b:Question}:decide (compP a b<0)=lessQ a b:=by
 rw [Bool.eq_iff_iff,ye,zjH,zjS]
theorem zqe {n:Nat} {a b:Question}:zcf n a b=some (lessQ a b):=by
 unfold zcf lessQ
 by_cases h1:a.e=b.e <;> by_cases h2:a.f=b.f <;> by_cases h3:a.target.hold=b.target.hold <;> simp [h1,h2,h3]
theorem zjo (a:Question):lessQ a a=false:=by simp [lessQ]
theorem zgv {a b:Question} (h1:a.e=b.e) (h2:a.f=b.f) (h3:a.target.hold=b.target.hold) (h4:a.target.index=b.target.index):a=b:=by
 rcases a with ⟨_,_,⟨_,_⟩⟩;rcases b with ⟨_,_,⟨_,_⟩⟩
 simp only at h1 h2 h3 h4
 subst h1 h2 h3 h4;rfl
theorem zr7 {a b:Question} (h:hI a=hI b):a.target.hold=b.target.hold:=by
 unfold hI at h
 cases ha:a.target.hold <;> cases hb:b.target.hold <;> simp [ha,hb] at h ⊢
theorem zik {a b c:Question} (h1:lessQ a b=true) (h2:lessQ b c=true):lessQ a c=true:=by
 rw [zjS] at *
 unfold LexQ at *;omega
def tupN (sizes:List Int):List Int→Nat→List Nat
 | [],_=>[]
 | c::cs,r=>tupN sizes cs (r / nK sizes c)++[r % nK sizes c]
theorem zh4 {sizes:List Int}:∀ {cs:List Int} {r:Nat},(tupN sizes cs r).length=cs.length
 | [],_=>rfl
 | c::cs,r=>by simp [tupN,zh4 (cs:=cs)]
def castL (l:List Nat):List Int:=l.map λx:Nat=>(x:Int)
theorem zll {k:Nat} (f:Nat→List Int):∀ w,stepT k ((List.range w).map f)=(List.range (k*w)).map λr=>f (r / k)++[((r % k:Nat):Int)]
 | 0=>by simp [stepT]
 | w+1=>by
  rw [List.range_succ,y8,zgD,zll f w,Nat.mul_succ,List.range_add,y8]
  congr 1
  simp only [stepT,yI,List.map_nil,uo,List.flatMap_nil,ur,uu]
  apply List.map_congr_left
  intro e he
  have he:=ua.1 he
  simp only [Function.comp]
  rw [Nat.mul_add_div (by omega),Nat.mul_add_mod,Nat.div_eq_of_lt he,Nat.mod_eq_of_lt he,ul]
theorem ziB {sizes:List Int}:∀ {rc:List Int},zc6 sizes rc.reverse=(List.range (wN sizes rc)).map λr=>castL (tupN sizes rc r)
 | []=>by simp [zc6,zdN,wN,tupN,castL]
 | c::cs=>by
  have ih:=ziB (sizes:=sizes) (rc:=cs)
  unfold zc6 at ih ⊢
  rw [List.reverse_cons,zfg,ih]
  simp only [zdN]
  rw [show (zcC sizes c).toNat=nK sizes c from rfl,zll,wN]
  apply List.map_congr_left
  intro r _
  simp [castL,tupN]
def fD (sizes:List Int) (s:Swap) (l:List (Int×Nat)):Nat:=l.foldl (λa p=>a*nK sizes p.1+colS s p.1 p.2) 0
theorem zoY {sizes s l p}:fD sizes s (l++[p])=fD sizes s l*nK sizes p.1+colS s p.1 p.2:=by simp [fD]
theorem zqx {sizes:List Int} {s:Swap}:∀ {rc:List Int} {r:Nat},fD sizes s (rc.reverse.zip (tupN sizes rc r))=digP sizes s rc r
 | [],_=>by simp [fD,digP]
 | c::cs,r=>by
  rw [List.reverse_cons,tupN,List.zip_append (by simp [zh4])]
  simp only [List.zip_cons_cons,List.zip_nil_right]
  rw [zoY,zqx,digP,Nat.mul_comm,Nat.add_comm]
theorem zqG {sizes:List Int}:∀ {rc:List Int} {r:Nat},r<wN sizes rc→∀ p∈rc.reverse.zip (tupN sizes rc r),p.2<nK sizes p.1
 | [],_,_,p,hp=>by simp at hp
 | c::cs,r,hr,p,hp=>by
  obtain ⟨h0,h1⟩:=zlv hr
  rw [List.reverse_cons,tupN,List.zip_append (by simp [zh4])] at hp
  rcases yE.1 hp with hp | hp
  ·exact zqG h1 p hp
  ·simp only [List.zip_cons_cons,List.zip_nil_right,yB] at hp
   subst hp;exact Nat.mod_lt _ h0
theorem fD_lt {sizes:List Int} {s:Swap} (h:SwapOK sizes s) {l:List (Int×Nat)} (hl:∀ p∈l,p.2<nK sizes p.1∧nK sizes p.1≤6):fD sizes s l<6 ^ l.length:=by
 have key:∀ (l:List (Int×Nat)) (a:Nat),(∀ p∈l,p.2<nK sizes p.1∧nK sizes p.1≤6)→l.foldl (λa p=>a*nK sizes p.1+colS s p.1 p.2) a<(a+1)*6 ^ l.length:=by
  intro l
  induction l with
  | nil=>intro a _;simp
  | cons p l ih=>
   intro a hp
   have hp0:=hp p (by simp)
   have:=ih (a*nK sizes p.1+colS s p.1 p.2) λx hx=>hp x (by simp [hx])
   have hc:=zjG h (c:=p.1) hp0.1
   simp only [List.foldl_cons,yQ,Nat.pow_succ]
   have e1:a*nK sizes p.1+colS s p.1 p.2+1≤(a+1)*6:=by
    have:a*nK sizes p.1≤a*6:=Nat.mul_le_mul_left _ hp0.2
    omega
   calc _<_:=this
    _≤((a+1)*6)*6 ^ l.length:=uc _ e1
    _=(a+1)*(6 ^ l.length*6):=by rw [Nat.mul_assoc,Nat.mul_comm 6]
 have:=key l 0 hl
 simpa [fD] using this
theorem zks {n:Nat} {L:Layout} {s:Swap} {c x:Int}:zaY n ⟨L,s⟩ c x=some (if c=s.sort then elemP s x else x):=by
 unfold zaY elemP
 simp only [bne_iff_ne,beq_iff_eq,ne_eq]
 by_cases h:c=s.sort
 ·rw [if_neg (by simp [h]),if_pos h]
  by_cases h1:x=s.a
  ·rw [if_pos h1,if_pos h1]
  ·rw [if_neg h1,if_neg h1]
   by_cases h2:x=s.b
   ·rw [if_pos h2,if_pos h2]
   ·rw [if_neg h2,if_neg h2]
 ·rw [if_pos (by simpa using h),if_neg h]
theorem zpQ {n:Nat} {L:Layout} {s:Swap} {t:Table} {p:Place} {r:Nat} (h:SwapOK L.m.sorts s) (hs:L.m.sorts.all zbm=true) (hc:t.columns.all (colOK L.m.sorts)=true) (h3:t.columns.length≤3) (hr:r<wN L.m.sorts t.columns.reverse)
  (hp:p.tuple=castL (tupN L.m.sorts t.columns.reverse r)) (hn:1000000≤n):loopF (zu.l1 n ⟨L,s⟩ t p) n (0,0)=some (add64 t.first ((digP L.m.sorts s t.columns.reverse r:Nat):Int)):=by
 obtain ⟨Z,hZ⟩:∃ Z,Z=t.columns.zip (tupN L.m.sorts t.columns.reverse r):=⟨_,rfl⟩
 have hlen:(tupN L.m.sorts t.columns.reverse r).length=t.columns.length:=by simp [zh4]
 have hZl:Z.length=t.columns.length:=by rw [hZ,List.length_zip,hlen];omega
 have hpl:p.tuple.length=t.columns.length:=by rw [hp];simp [castL,zh4]
 have hlt:∀ q∈Z,q.2<nK L.m.sorts q.1∧nK L.m.sorts q.1≤6:=λq hq=>by
  refine ⟨zqG hr q (by rw [List.reverse_reverse,← hZ];exact hq),?_⟩
  rw [hZ] at hq
  exact (nK_ok hs (yr.1 hc _ (List.of_mem_zip hq).1)).2.2
 have:=zT (body:=zu.l1 n ⟨L,s⟩ t p) (len:=t.columns.length) (st:=λk=>(((fD L.m.sorts s (Z.take k):Nat):Int),(k:Int))) (g:=λ_=>some (add64 t.first ((digP L.m.sorts s t.columns.reverse r:Nat):Int))) (λrec i hi hr'=>?_) (λrec=>?_) n 0 (yp _) (by omega)
 ·simpa [fD] using this
 ·have hZi:i<Z.length:=by omega
  have hcol:=yr.1 hc _ (yj hi)
  have hx:idx p.tuple (i:Int)=some (((Z[i]).2:Nat):Int):=by
   rw [za (by omega)]
   simp [hp,castL,hZ]
  have hz1:(Z[i]).1=t.columns[i]:=by simp [hZ]
  simp only [zu.l1]
  rw [if_pos (by simp;omega),hx,ya,za hi,ya,zdu hcol,ya,ya,zks,ya,zd (by omega)]
  obtain ⟨k1,k2,k3⟩:=nK_ok hs hcol
  have hb:fD L.m.sorts s (Z.take i)<6 ^ 3:=by
   have:=fD_lt h (l:=Z.take i) λq hq=>hlt q (List.mem_of_mem_take hq)
   refine yJ this (uN (by decide) (by simp;omega))
  have hxl:=zjG h (c:=(Z[i]).1) (hlt _ (yj hZi)).1
  have he:(if t.columns[i]=s.sort then elemP s ((Z[i]).2:Int) else ((Z[i]).2:Int))=((colS s (Z[i]).1 (Z[i]).2:Nat):Int):=by
   rw [hz1,colS]
   split
   ·rw [zlw h]
   ·rfl
  rw [he,← k1]
  have hk6:fD L.m.sorts s (Z.take i)*nK L.m.sorts t.columns[i]≤216*6:=uR (by omega) k3
  rw [zjp (by rw [← uj];omega) (by rw [← uj];omega),← uj,zdX (by have:=(hlt _ (yj hZi)).2;omega)]
  have e:fD L.m.sorts s (Z.take i)*nK L.m.sorts t.columns[i]+colS s (Z[i]).1 (Z[i]).2=fD L.m.sorts s (Z.take (i+1)):=by
   rw [yv hZi,zoY,hz1]
  rw [e];exact hr'
 ·simp only [zu.l1]
  rw [if_neg (by simp;omega),List.take_of_length_le (by omega),hZ]
  have:=zqx (sizes:=L.m.sorts) (s:=s) (rc:=t.columns.reverse) (r:=r)
  rw [List.reverse_reverse] at this
  rw [this]
theorem zmR {k:Int} (h:0≤k):decide (k≤1)=zaw k:=by
 unfold zaw
 rw [Bool.eq_iff_iff];simp;omega
theorem znX {sizes:List Int} {t:Table} (h:tabP sizes t=true):0≤t.kind:=by
 simp only [tabP,yc,ye] at h
 exact h.1.1.2.1
theorem zlN {sizes:List Int} (hs:sizes.all zbm=true) (strict:Bool):∀ {l:List Table} {seen:List (List UInt8)} {a b:Int} (i0:Nat),layP sizes seen a b l=true→0≤a→0≤b→a+216*(l.length:Int)≤1000000→b+216*(l.length:Int)≤1000000 →
  ∀ k,k<(za8 sizes strict l i0).length→∃ (j:Nat) (t:Table) (r:Nat),l[j]? = some t∧zaw t.kind=strict∧r<wN sizes t.columns.reverse∧(za8 sizes strict l i0)[k]? = some ⟨((i0+j:Nat):Int),castL (tupN sizes t.columns.reverse r)⟩∧(if strict=true then a else b)+(k:Int)=t.first+(r:Int)
 | [],_,_,_,_,_,_,_,_,_,k,hk=>by simp [za8] at hk
 | t::l,seen,a,b,i0,hl,ha,hb,la,lb,k,hk=>by
  have htab:=zcB hl t (by simp)
  obtain ⟨t1,t2⟩:=zh2 htab
  obtain ⟨w1,w2,w3⟩:=zfZ hs t2 t1
  simp only [layP,yc] at hl
  have h3:=hl.2
  simp only [yQ] at la lb
  have hcast:((l.length+1:Nat):Int)=(l.length:Int)+1:=by omega
  rw [hcast] at la lb
  obtain ⟨w,hw⟩:∃ w,w=wN sizes t.columns.reverse:=⟨_,rfl⟩
  have hpl:za8 sizes strict (t::l) i0=(if zaw t.kind=strict then zcZ i0 ((List.range w).map λr=>castL (tupN sizes t.columns.reverse r)) else [])++za8 sizes strict l (i0+1):=by
   have e:=ziB (sizes:=sizes) (rc:=t.columns.reverse)
   rw [List.reverse_reverse] at e
   rw [za8,zmR (znX htab),e,hw]
  rw [hpl] at hk ⊢
  by_cases hkd:zaw t.kind=strict
  ·rw [if_pos hkd] at hk ⊢
   have hfirst:t.first=if strict=true then a else b:=by
    rw [← hkd]
    split at h3 <;> rename_i e
    ·simp only [yc,beq_iff_eq] at h3;rw [if_pos e];exact h3.1
    ·simp only [yc,beq_iff_eq] at h3;rw [if_neg e];exact h3.1
   have hnext:∃ seen' a' b',layP sizes seen' a' b' l=true∧(if strict=true then a' else b')=t.first+(w:Int)∧0≤a'∧0≤b'∧a'+216*(l.length:Int)≤1000000∧b'+216*(l.length:Int)≤1000000:=by
    rw [hfirst]
    split at h3 <;> rename_i e
    ·simp only [yc,beq_iff_eq] at h3
     rw [w1,zca (by omega) (by omega)] at h3
     rw [← hkd,if_pos e]
     exact ⟨_,_,_,h3.2,by rw [if_pos e,hw],by omega,hb,by omega,by omega⟩
    ·simp only [yc,beq_iff_eq] at h3
     rw [w1,zca (by omega) (by omega)] at h3
     rw [← hkd,if_neg e]
     exact ⟨_,_,_,h3.2,by rw [if_neg e,hw],ha,by omega,by omega,by omega⟩
   obtain ⟨seen',a',b',n1,n2,n3,n4,n5,n6⟩:=hnext
   have hlen:(zcZ i0 ((List.range w).map λr=>castL (tupN sizes t.columns.reverse r))).length=w:=by simp [zcZ]
   rw [yL,hlen] at hk
   by_cases hc:k<w
   ·refine ⟨0,t,k,rfl,hkd,by omega,?_,by rw [hfirst]⟩
    rw [yg (by omega),zcZ,uu,yR,List.getElem?_range hc]
    rfl
   ·obtain ⟨j,u,r,p1,p2,p3,p4,p5⟩:=zlN hs strict (i0+1) n1 n3 n4 n5 n6 (k - w) (by omega)
    refine ⟨j+1,u,r,by simpa using p1,p2,p3,?_,?_⟩
    ·rw [yq (by omega),hlen,p4,show i0+1+j=i0+(j+1) by omega]
    ·rw [n2] at p5;rw [← hfirst];omega
  ·rw [if_neg hkd,y9] at hk ⊢
   have hnext:∃ seen' a' b',layP sizes seen' a' b' l=true∧(if strict=true then a' else b')=(if strict=true then a else b)∧0≤a'∧0≤b'∧a'+216*(l.length:Int)≤1000000∧b'+216*(l.length:Int)≤1000000:=by
    split at h3 <;> rename_i e
    ·simp only [yc,beq_iff_eq] at h3
     rw [w1,zca (by omega) (by omega)] at h3
     have hf:strict=false:=by cases strict <;> simp_all
     subst hf
     exact ⟨_,_,_,h3.2,by simp,by omega,hb,by omega,by omega⟩
    ·simp only [yc,beq_iff_eq] at h3
     rw [w1,zca (by omega) (by omega)] at h3
     have hf:strict=true:=by cases strict <;> simp_all
     subst hf
     exact ⟨_,_,_,h3.2,by simp,ha,by omega,by omega,by omega⟩
   obtain ⟨seen',a',b',n1,n2,n3,n4,n5,n6⟩:=hnext
   obtain ⟨j,u,r,p1,p2,p3,p4,p5⟩:=zlN hs strict (i0+1) n1 n3 n4 n5 n6 k hk
   exact ⟨j+1,u,r,by simpa using p1,p2,p3,by rw [p4,show i0+1+j=i0+(j+1) by omega],by rw [← p5,n2]⟩
theorem zfN {sizes:List Int} (hs:sizes.all zbm=true) (strict:Bool):∀ {l:List Table} (i0:Nat),(∀ t∈l,tabP sizes t=true)→(za8 sizes strict l i0).length=(zI sizes strict l).length
 | [],_,_=>by simp [za8,zI]
 | t::l,i0,ht=>by
  have htab:=ht t (by simp)
  obtain ⟨t1,t2⟩:=zh2 htab
  obtain ⟨w1,w2,w3⟩:=zfZ hs t2 t1
  have e:=ziB (sizes:=sizes) (rc:=t.columns.reverse)
  rw [List.reverse_reverse] at e
  have ih:=zfN hs strict (l:=l) (i0+1) λx hx=>ht x (by simp [hx])
  rw [za8,zI,zmR (znX htab),e,yL,ih,w1]
  by_cases hk:zaw t.kind=strict
  ·rw [if_pos hk,if_pos (by simpa using hk)];simp [zcZ]
  ·rw [if_neg hk,if_neg (by simpa using hk)];simp
theorem zoo {m:Model} (hL:zaN m.sorts m.tables=true):(zS m).strict.length=(boxM m).length:=by
 obtain ⟨hs,hlay,hl⟩:=ze4 hL
 exact zfN hs true 0 (zcB hlay)
theorem zn3 {m:Model} {s:Swap} {n:Nat} {strict:Bool} {c:Int} (h:Swp m s) (h0:0≤c) (h1:c<((za8 m.sorts strict m.tables 0).length:Int)) (hn:1000000≤n):zu n ⟨zS m,s⟩ (za8 m.sorts strict m.tables 0) c=some (mvT m.sorts s strict m.tables c):=by
 obtain ⟨hs,hlay,hl⟩:=ze4 h.lay
 obtain ⟨k,rfl⟩:=yS h0
 obtain ⟨j,t,r,p1,p2,p3,p4,p5⟩:=zlN hs strict 0 hlay (by omega) (by omega) (by omega) (by omega) k (by omega)
 have hz:(if strict=true then (0:Int) else 0)=0:=by cases strict <;> rfl
 rw [hz,Int.zero_add] at p5
 have ht:t∈m.tables:=yt p1
 have htab:=zcB hlay t ht
 obtain ⟨t1,t2⟩:=zh2 htab
 obtain ⟨w1,w2,w3⟩:=zfZ hs t2 t1
 have hf:=zdx hs hlay (by omega) (by omega) (by omega) (by omega) t ht
 have hd:=zmh h.ok _ _ p3
 have hpl:idx (za8 m.sorts strict m.tables 0) ((k:Nat):Int)=some ⟨(j:Int),castL (tupN m.sorts t.columns.reverse r)⟩:=by
  rw [zo4 (by omega),yx,p4,um]
 have htb:idx m.tables (j:Int)=some t:=by rw [zo4 (by omega),yx,p1]
 unfold zu
 rw [hpl,ya,show (zS m).m=m from rfl,htb,ya,ya,zpQ (L:=zS m) h.ok hs t2 t1 p3 rfl hn,zca (by show -9223372036854775808≤t.first+((digP m.sorts s t.columns.reverse r:Nat):Int);omega) (by show t.first+((digP m.sorts s t.columns.reverse r:Nat):Int)≤9223372036854775807;omega)]
 rw [zpj h.ok hs strict hlay (by omega) (by omega) (by omega) (by omega) t ht p2 _ (by omega) (by omega),show ((k:Int) - t.first).toNat=r by omega]
 rfl
theorem zmU {m:Model} {s:Swap} {n:Nat} {c:Int} (h:Swp m s) (h0:0≤c) (h1:c<((boxM m).length:Int)) (hn:1000000≤n):zu n ⟨zS m,s⟩ (zS m).strict c=some (mvC m s c):=
 zn3 h h0 (by rw [← zoo h.lay] at h1;exact h1) hn
theorem zop {m:Model} {s:Swap} (hV:ValidM m) (h:swpB m s=true):Swp m s:=⟨zkq h,hV.lay⟩
theorem zrq {n:Nat} {m:Model} {s:Swap} (hF:Fuel n) (hS:SmallM m):zcX n m s=some (if (zbb m&&swpB m s)=true then (some ⟨zS m,s⟩,true) else (none,false)):=by
 unfold zcX
 rw [zdf hF hS,ya]
 cases hv:zbb m with
 | false=>simp [grd]
 | true=>
  have hf:zbf n (zS m) s=some (swpB m s):=by
   unfold zbf swpB
   rw [show (zS m).m=m from rfl]
   by_cases hc:((((decide (0≤s.sort))&&(decide (s.sort<(m.sorts.length:Int))))&&(decide (0≤s.a)))&&(decide (s.a<s.b)))=true
   ·obtain ⟨x,hx⟩:=zbw (l:=m.sorts) (i:=s.sort) (by simp only [yc,ye] at hc;exact hc.1.1.1) (by simp only [yc,ye] at hc;exact hc.1.1.2)
    rw [hx];simp [grd]
   ·simp only [yF] at hc
    rw [hc];simp [grd]
  simp only [if_true,yW,ue,yh,hf,yk,grd,yA]
  cases swpB m s <;> simp
structure TotC {α:Type} (c:α→α→Int):Prop where
 neg:∀ a b,c b a = -c a b
 zero:∀ a b,c a b=0→a=b
 tr:∀ a b d,c a b<0→c b d<0→c a d<0
theorem zlG {α:Type} {enc:α→List Int} (hi:∀ a b,enc a=enc b→a=b):TotC λa b=>lexP (enc a) (enc b):=
 ⟨λa b=>zpd _ _,λa b h=>hi _ _ (znG h),λa b d h1 h2=>zmr h1 h2⟩
theorem zjt {α:Type} {f:α→α→Option Int} {c:α→α→Int} {l:List α} (T:TotC c) (h1:∀ x∈l,∀ y∈l,f x y=some (c x y)) (hl:l.length<4611686018427387904):∃ r,sortO f l=some r∧r.Perm l∧r.Pairwise λx y=>c x y≤0:=by
 obtain ⟨s1,s2⟩:=znW (c:=c) h1 (λx=>by have:=T.neg x x;omega) T.tr (λx y z n1 n2 n3=>by
  have a1:=T.neg x y
  have a2:=T.neg y z
  have a3:=T.neg x z
  by_cases e1:c x y=0
  ·rw [T.zero _ _ e1] at n3;exact n2 n3
  ·by_cases e2:c y z=0
   ·rw [← T.zero _ _ e2] at n3;exact n1 n3
   ·have:=T.tr z y x (by omega) (by omega)
    have a4:=T.neg z x
    omega) hl
 refine ⟨_,s1,zgR s2,?_⟩
 have hp:=zgR s2
 refine List.Pairwise.imp_of_mem (λ{x y} hx hy hxy=>?_) (zi4 s2)
 have:=h1 y (hp.mem_iff.1 hy) x (hp.mem_iff.1 hx)
 rw [this,yh] at hxy
 have:=T.neg x y
 omega
theorem zlk {α:Type} {c:α→α→Int} {A B rA rB:List α} (T:TotC c) (a1:rA.Perm A) (a2:rA.Pairwise λx y=>c x y≤0) (b1:rB.Perm B) (b2:rB.Pairwise λx y=>c x y≤0):rA=rB↔A.Perm B:=
 ⟨λe=>a1.symm.trans (e▸b1),λhp=>zfs (R:=λx y=>c x y≤0) (λx y h1 h2=>T.zero _ _ (by have:=T.neg x y;omega)) ((a1.trans hp).trans b1.symm) a2 b2⟩
theorem zoL {α:Type} {f:α→α→Option Int} {k:α→Int} {l:List α} (h1:∀ x∈l,∀ y∈l,f x y=some (cI (k x) (k y))) (hl:l.length<4611686018427387904):∃ r,sortO f l=some r∧r.Perm l∧r.Pairwise λx y=>k x≤k y:=by
 have hneg:∀ {a b:Int},¬ cI a b<0↔b≤a:=λ{a b}=>by rw [zkZ];omega
 obtain ⟨s1,s2⟩:=znW (c:=λx y=>cI (k x) (k y)) h1 (λx=>by rw [hneg];omega) (λx y z p q=>by rw [zkZ] at *;omega) (λx y z p q=>by rw [hneg] at *;omega) hl
 have hp:=zgR s2
 refine ⟨_,s1,hp,?_⟩
 refine List.Pairwise.imp_of_mem (λ{x y} hx hy hxy=>?_) (zi4 s2)
 rw [h1 y (hp.mem_iff.1 hy) x (hp.mem_iff.1 hx),yh] at hxy
 exact hneg.1 hxy
theorem zfn {α R:Type} {body:(List α×Int→Option R)→List α×Int→Option R} {β:Type} {l:List β} {n:Nat} (h:β→α) (fin:Option R)
  (step:∀ rec (b:List α) i (hi:i<l.length),b.length=i→body rec (b,(i:Int))=rec (b++[h l[i]],((i+1:Nat):Int))) (done:∀ rec,body rec (l.map h,(l.length:Int))=fin) (hn:l.length<n) :
  loopF body n ([],0)=fin:=by
 have:=zT (body:=body) (len:=l.length) (st:=λi=>((l.take i).map h,(i:Int))) (g:=λ_=>fin) (λrec i hi hr=>?_) (λrec=>?_) n 0 (yp _) (by omega)
 ·simpa using this
 ·rw [step rec _ i hi (by simp;omega)]
  have e:(l.take i).map h++[h l[i]]=(l.take (i+1)).map h:=by rw [yv hi,y8];rfl
  rw [e];exact hr
 ·rw [List.take_length];exact done rec
theorem znj {m:Model} {s:Swap} {n:Nat} {r:Row} (h:Swp m s) (hr:RowIn m r) (hl:r.terms.length≤100000) (hn:1000000≤n):zah n ⟨zS m,s⟩ r=some (rowM m s r):=by
 unfold zah
 refine zfn (l:=r.terms) (mvt m s) _ (λrec b i hi hb=>?_) (λrec=>?_) (by omega)
 ·obtain ⟨t1,t2,-⟩:=hr.term _ (yj hi)
  simp only [zah.l1,zn hi,if_true,za hi,ya,zmU h t1 t2 hn]
  rw [zam (by simp;omega),ya,zd (by omega)]
  rfl
 ·simp only [zah.l1,zaq,yf,if_false]
  obtain ⟨q,s1,s2,s3⟩:=zoL (f:=λq0 q1=>zbE n q0 q1) (k:=λt:Term=>t.cell) (l:=r.terms.map (mvt m s)) (λx _ y _=>by unfold zbE;rw [zhb];rfl) (by simp;omega)
  rw [s1,ya]
  have hne:q.Pairwise λa b:Term=>a.cell≠b.cell:=(s2.pairwise_iff (λ{a b} hab=>Ne.symm hab)).2 (znL h hr.ris hr.term)
  have e:q=(rowM m s r).terms:=znS (s2.trans (zgB m s r).symm) (s3.imp₂ (λa b h1 h2=>by omega) hne) (RowIn.mv h hr).ris
  rw [e];rfl
def encT (t:Term):List Int:=[t.cell,t.factor]
def listT (l:List Term):List Int:=l.flatMap encT
def encR (r:Row):List Int:=r.bound::listT r.terms
def encU (u:Update):List Int:=[u.cell,u.kind,u.value]
theorem zms:∀ {a b:List Term},listT a=listT b→a=b
 | [],[],_=>rfl
 | [],_::_,h=>by simp [listT,encT] at h
 | _::_,[],h=>by simp [listT,encT] at h
 | x::a,y::b,h=>by
  simp only [listT,encT,uo,ud,y9,List.cons.injEq] at h
  obtain ⟨h1,h2,h3⟩:=h
  have ih:=zms (a:=a) (b:=b) h3
  cases x;cases y;simp_all
theorem encR_inj {a b:Row} (h:encR a=encR b):a=b:=by
 simp only [encR,List.cons.injEq] at h
 have:=zms h.2
 cases a;cases b;simp_all
theorem zp6 {a b:Update} (h:encU a=encU b):a=b:=by
 simp only [encU,List.cons.injEq] at h
 cases a;cases b;simp_all
theorem totR:TotC λa b:Row=>lexP (encR a) (encR b):=zlG λ_ _=>encR_inj
theorem totU:TotC λa b:Update=>lexP (encU a) (encU b):=zlG λ_ _=>zp6
theorem zpq {n:Nat} {a b:Term} (hn:1000000≤n):zbW n a b=some (lexP (encT a) (encT b)):=by
 unfold zbW
 rw [zcy,ya,zcy,ya,Or_eq _ _ hn,ya]
 simp only [encT,lexP,cmpI]
 congr 1
 split <;> split <;> (try split) <;> simp_all
theorem zpc {x y:Term} {a b:List Int}:lexP (encT x++a) (encT y++b)=if lexP (encT x) (encT y)≠0 then lexP (encT x) (encT y) else lexP a b:=by
 simp only [encT,lexP,ud,y9]
 repeat' split
 all_goals first | rfl | simp_all
theorem zmX {n:Nat} {a b:List Term} (ha:a.length<1000000) (hn:1000000≤n):zj n a b (λq0 q1=>zbW n q0 q1)=some (lexP (listT a) (listT b)):=by
 unfold zj
 have:=zbi (σ:=Unit) (body:=zj.l1 n a b (λq0 q1=>zbW n q0 q1)) (len:=a.length) (st:=λ_ i=>(i:Int)) (g:=λi _=>some (lexP (listT (a.drop i)) (listT (b.drop i)))) (λi _=>i≤b.length) (λrec i s hi hI hr=>?_) (λrec s hI=>?_) n 0 () (yp _) (by omega) (yp _)
 ·simpa using this
 ·simp only [zj.l1,zn hi,if_true,za hi,ya]
  by_cases hb:b.length≤i
  ·have e:b.drop i=[]:=List.drop_eq_nil_of_le hb
   rw [if_pos (by simp;omega),e,zh hi];rfl
  ·have hib:i<b.length:=by omega
   rw [if_neg (by simp;omega),za hib,ya,zpq hn,ya,zd (by omega),hr () (by omega),zh hi,zh hib]
   simp only [listT,uo,zpc,bne_iff_ne]
   split <;> rfl
 ·simp only [zj.l1,zaq,yf,if_false]
  rw [List.drop_length]
  by_cases hb:a.length<b.length
  ·rw [if_pos (by simp;omega),zh hb];rfl
  ·rw [if_neg (by simp;omega),List.drop_eq_nil_of_le (by omega)];rfl
theorem zqc {n:Nat} {a b:Row} (ha:a.terms.length<1000000) (hn:1000000≤n):zc9 n a b=some (lexP (encR a) (encR b)):=by
 unfold zc9
 rw [zcy,ya,zmX ha hn,ya,Or_eq _ _ hn,ya]
 simp only [encR,lexP,cmpI]
 congr 1
 split <;> (try split) <;> simp_all
theorem zrU {n:Nat} (hn:10≤n) {a b c:Int}:zaW n [a,b,c]=some (if a≠0 then a else if b≠0 then b else c):=by
 obtain ⟨k,rfl⟩:∃ k,n=k+4:=⟨n - 4,by omega⟩
 have e1:add64 0 1=1:=by decide
 have e2:add64 1 1=2:=by decide
 have e3:add64 2 1=3:=by decide
 simp only [zaW,loopF,zaW.l1,idx,e1,e2,e3]
 by_cases ha:a=0 <;> by_cases hb:b=0 <;> by_cases hc:c=0 <;> simp [ha,hb,hc]
theorem zom {n:Nat} {a b:Update} (hn:1000000≤n):zci n a b=some (lexP (encU a) (encU b)):=by
 unfold zci
 rw [zcy,ya,zcy,ya,zcy,ya,zrU (by omega),ya]
 simp only [encU,lexP,cmpI]
 congr 1
 repeat' split
 all_goals first | rfl | (simp_all;done) | omega
theorem zku {n:Nat} {a b:List Change} (hl:a.length<1000000) (hn:1000000≤n):zD n a b=some (decide (a=b)):=by
 unfold zD
 by_cases h:a.length=b.length
 ·rw [if_neg (by simp [h])]
  have:=zT (body:=zD.l1 n a b) (len:=a.length) (st:=λi=>(i:Int)) (g:=λi=>some (decide (a.drop i=b.drop i))) (λrec i hi hr=>?_) (λrec=>?_) n 0 (yp _) (by omega)
  ·simpa using this
  ·have hib:i<b.length:=by omega
   simp only [zD.l1,zn hi,if_true,za hi,za hib,ya,zd (i:=i) (by omega),hr]
   rw [zh hi,zh hib]
   by_cases e:a[i]=b[i]
   ·simp only [e,decide_true,yW,yf,if_false,List.cons.injEq,true_and]
   ·simp only [e,decide_false,ui,if_true,List.cons.injEq,false_and]
  ·simp [zD.l1,h]
 ·rw [if_pos (by simp;omega)]
  have:¬ a=b:=λe=>h (by rw [e])
  simp [this]
theorem zkv {n:Nat} {a b:List Update} (hl:a.length<1000000) (hn:1000000≤n):zr n a b=some (decide (a=b)):=by
 unfold zr
 by_cases h:a.length=b.length
 ·rw [if_neg (by simp [h])]
  have:=zT (body:=zr.l1 n a b) (len:=a.length) (st:=λi=>(i:Int)) (g:=λi=>some (decide (a.drop i=b.drop i))) (λrec i hi hr=>?_) (λrec=>?_) n 0 (yp _) (by omega)
  ·simpa using this
  ·have hib:i<b.length:=by omega
   simp only [zr.l1,zn hi,if_true,za hi,za hib,ya,zd (i:=i) (by omega),hr]
   rw [zh hi,zh hib]
   by_cases e:a[i]=b[i]
   ·simp only [e,decide_true,yW,yf,if_false,List.cons.injEq,true_and]
   ·simp only [e,decide_false,ui,if_true,List.cons.injEq,false_and]
  ·simp [zr.l1,h]
 ·rw [if_pos (by simp;omega)]
  have:¬ a=b:=λe=>h (by rw [e])
  simp [this]
theorem zjv {n:Nat} {a b:Row} (hl:a.terms.length<1000000) (hn:1000000≤n):zaH n a b=some (decide (a=b)):=by
 unfold zaH
 rw [ziF hl hn]
 simp only [yk,yC,grd,if_true,yh]
 congr 1
 cases a;cases b
 rw [Bool.eq_iff_iff]
 simp only [Row.mk.injEq,yc,beq_iff_eq,ye]
 exact ⟨λh=>⟨h.2,h.1⟩,λh=>⟨h.2,h.1⟩⟩
theorem zmZ {n:Nat} {a b:List Row} (hl:a.length<1000000) (ht:∀ r∈a,r.terms.length<1000000) (hn:1000000≤n):zg n a b (λq0 q1=>zaH n q0 q1)=some (decide (a=b)):=by
 unfold zg
 by_cases h:a.length=b.length
 ·rw [if_neg (by simp [h])]
  have:=zT (body:=zg.l1 n a b (λq0 q1=>zaH n q0 q1)) (len:=a.length) (st:=λi=>(i:Int)) (g:=λi=>some (decide (a.drop i=b.drop i))) (λrec i hi hr=>?_) (λrec=>?_) n 0 (yp _) (by omega)
  ·simpa using this
  ·have hib:i<b.length:=by omega
   simp only [zg.l1,zn hi,if_true,za hi,za hib,ya,zd (i:=i) (by omega),hr,zjv (ht _ (yj hi)) hn]
   rw [zh hi,zh hib]
   by_cases e:a[i]=b[i]
   ·simp only [e,decide_true,yW,yf,if_false,List.cons.injEq,true_and]
   ·simp only [e,decide_false,ui,if_true,List.cons.injEq,false_and]
  ·simp [zg.l1,h]
 ·rw [if_pos (by simp;omega)]
  have:¬ a=b:=λe=>h (by rw [e])
  simp [this]
structure EffZ (e:Effect):Prop where
 hold:e.hold.length≤1000
 upd:e.updates.length≤1000
 delta:e.delta.length≤1000
 term:∀ r∈e.hold,r.terms.length≤1000
theorem zkm {n:Nat} {e:Effect} (h:EffZ e) (hn:1000000≤n):∃ H U,zcO n e=some ⟨e.delta,H,U⟩∧(H.Perm e.hold∧H.Pairwise λx y=>lexP (encR x) (encR y)≤0)∧(U.Perm e.updates∧U.Pairwise λx y=>lexP (encU x) (encU y)≤0):=by
 have h1:=h.hold
 have h2:=h.upd
 unfold zcO
 rw [zam (by simp;omega),ya,zam (by simp;omega),ya,y9,y9]
 obtain ⟨H,a1,a2,a3⟩:=zjt (f:=λq0 q1=>zc9 n q0 q1) totR (λx hx y _=>zqc (by have:=h.term x hx;omega) hn) (by omega:e.hold.length<4611686018427387904)
 obtain ⟨U,b1,b2,b3⟩:=zjt (f:=λq0 q1=>zci n q0 q1) totU (λx _ y _=>zom hn) (by omega:e.updates.length<4611686018427387904)
 rw [a1,ya,b1,ya]
 exact ⟨H,U,rfl,⟨a2,a3⟩,b2,b3⟩
theorem znh {n:Nat} {e f:Effect} (he:EffZ e) (hf:EffZ f) (hn:1000000≤n):∃ b,zb8 n e f=some b∧(b=true↔e.delta=f.delta∧e.hold.Perm f.hold∧e.updates.Perm f.updates):=by
 obtain ⟨H,U,e1,⟨e2,e3⟩,e4,e5⟩:=zkm he hn
 obtain ⟨H',U',f1,⟨f2,f3⟩,f4,f5⟩:=zkm hf hn
 have l1:=e2.length_eq
 have l2:=e4.length_eq
 have:=he.hold
 have:=he.upd
 have:=he.delta
 unfold zb8
 rw [e1,ya,f1,ya,zku (by show e.delta.length<1000000;omega) hn,ya,zmZ (by show H.length<1000000;omega) (λr hr=>by have:=he.term r (e2.mem_iff.1 hr);omega) hn,zkv (by show U.length<1000000;omega) hn]
 simp only [yk,yC,grd,if_true,yh]
 refine ⟨_,rfl,?_⟩
 simp only [yc,ye,zlk totR e2 e3 f2 f3,zlk totU e4 e5 f4 f5,and_assoc]
def Rng (m:Model):Prop:=∀ a∈m.actions,∀ u∈a.effect.updates,-9223372036854775808≤u.cell∧u.cell≤9223372036854775807
theorem zlF {sizes:List Int} (hs:sizes.all zbm=true) (strict:Bool):∀ {l:List Table} {seen:List (List UInt8)} {a b:Int},layP sizes seen a b l=true→0≤a→0≤b→a+216*(l.length:Int)≤1000000→b+216*(l.length:Int)≤1000000 →
  ∀ t∈l,zaw t.kind=strict→t.first+zac sizes t.columns 1≤(if strict=true then a else b)+((zI sizes strict l).length:Int)
 | [],_,_,_,_,_,_,_,_,t,ht,_=>by simp at ht
 | x::l,seen,a,b,hl,ha,hb,la,lb,t,ht,hk=>by
  obtain ⟨t1,t2⟩:=zh2 (zcB hl x (by simp))
  obtain ⟨w1,w2,w3⟩:=zfZ hs t2 t1
  simp only [layP,yc] at hl
  have h3:=hl.2
  simp only [yQ] at la lb
  have hcast:((l.length+1:Nat):Int)=(l.length:Int)+1:=by omega
  rw [hcast] at la lb
  have hlen:(zI sizes strict (x::l)).length=(if zaw x.kind=strict then wN sizes x.columns.reverse else 0)+(zI sizes strict l).length:=by
   by_cases e:zaw x.kind=strict
   ·rw [zI,if_pos (by simp [e]),if_pos e,w1];simp
   ·rw [zI,if_neg (by simp [e]),if_neg e];simp
  rw [hlen]
  by_cases hx:zaw x.kind=true
  ·rw [if_pos hx] at h3
   simp only [yc,beq_iff_eq] at h3
   rw [w1,zca (by omega) (by omega)] at h3
   rw [hx]
   rcases yD.1 ht with rfl | ht
   ·rw [hx] at hk;subst hk
    simp only [if_true]
    omega
   ·have ih:=zlF hs strict h3.2 (by omega) hb (by omega) (by omega) t ht hk
    cases strict with
    | true=>simp only [if_true] at ih ⊢;omega
    | false=>simp only [yf,Bool.true_eq_false,if_false] at ih ⊢;omega
  ·rw [if_neg hx] at h3
   simp only [yc,beq_iff_eq] at h3
   rw [w1,zca (by omega) (by omega)] at h3
   have hx':zaw x.kind=false:=by simpa using hx
   rw [hx']
   rcases yD.1 ht with rfl | ht
   ·rw [hx'] at hk;subst hk
    simp only [yf,if_false,if_true]
    omega
   ·have ih:=zlF hs strict h3.2 ha (by omega) (by omega) (by omega) t ht hk
    cases strict with
    | true=>simp only [yf,if_true,if_false] at ih ⊢;omega
    | false=>simp only [yf,if_true,if_false] at ih ⊢;omega
theorem zpz {sizes:List Int} {s:Bool} {c:Int}:∀ {l:List Table} {i:Nat},(resT sizes s c l i).2.2=true→∃ t∈l,hitP sizes s c t=true
 | [],_,h=>by simp [resT] at h
 | t::l,i,h=>by
  by_cases e:hitP sizes s c t=true
  ·exact ⟨t,by simp,e⟩
  ·rw [resT,if_neg e] at h
   obtain ⟨u,h1,h2⟩:=zpz h
   exact ⟨u,by simp [h1],h2⟩
theorem zn1 {m:Model}:∀ {l:List Update} {last:Int},updsP m last l=true→∀ u∈l,updP m u=true
 | [],_,_,u,hu=>by simp at hu
 | x::l,last,h,u,hu=>by
  simp only [updsP,yc] at h
  rcases yD.1 hu with rfl | hu
  ·exact h.1.2
  ·exact zn1 h.2 u hu
def RoomU (m:Model) (c:Int):Prop:=0≤c∧c<((zI m.sorts false m.tables).length:Int)
theorem zqm {m:Model} (hV:ValidM m) (hR:Rng m) {a:Action} (ha:a∈m.actions):∀ u∈a.effect.updates,RoomU m u.cell:=λu hu=>by
 have h:=(zh7 hV ha).1
 simp only [effP,yc] at h
 have hu2:=zn1 h.2.1 u hu
 simp only [updP,yc] at hu2
 have hc:=hu2.1
 unfold cellP at hc
 by_cases hx:(zaN m.sorts m.tables&&decide (0≤u.cell))=true
 ·rw [if_pos hx] at hc
  simp only [yc,ye] at hx
  obtain ⟨t,ht,hh⟩:=zpz hc
  obtain ⟨hs,hlay,hl⟩:=ze4 hx.1
  obtain ⟨f1,f2,-⟩:=zdx hs hlay (Int.le_refl _) (Int.le_refl _) (by omega) (by omega) t ht
  simp only [hitP,yc,beq_iff_eq,ye] at hh
  have hr:=zlF hs false hlay (Int.le_refl _) (Int.le_refl _) (by omega) (by omega) t ht hh.1
  obtain ⟨r1,r2⟩:=hR a ha u hu
  rw [zfV (by omega) (by omega)] at hh
  simp only [yf,if_false] at hr
  exact ⟨hx.2,by omega⟩
 ·rw [if_neg hx] at hc;simp at hc
theorem zol {m:Model} (hL:zaN m.sorts m.tables=true) {c:Int} (h:RoomU m c):c≤2592:=by
 obtain ⟨l1,l2,l3,l4⟩:=zbn hL
 have:=zcJ (sizes:=m.sorts) (s:=false) (l:=m.tables) λt ht=>(l4 t ht).2.2.2.2
 have:=h.2
 omega
def mvU (m:Model) (s:Swap) (c:Int):Int:=mvT m.sorts s false m.tables c
theorem zqC {m s} (h:Swp m s) {c:Int} (hc:RoomU m c):RoomU m (mvU m s c)∧mvU m s (mvU m s c)=c:=by
 obtain ⟨hs,hlay,hl⟩:=ze4 h.lay
 obtain ⟨h0,h1⟩:=hc
 have:=zjq h.ok hs false hlay (Int.le_refl _) (Int.le_refl _) (by omega) (by omega) c (by simpa using h0) (by simpa using h1)
 simp only [yf,if_false,Int.zero_add] at this
 exact ⟨this.1,this.2.1⟩
theorem mvU_S {m s} (h:Swp m s) {c:Int} (hc:RoomU m c):mvS m.sorts s false m.tables c=mvU m s c:=by
 have:=zol h.lay hc
 have:=hc.1
 obtain ⟨hs,hlay,hl⟩:=ze4 h.lay
 exact zpi (by omega) λt ht=>by
  have:=zdx hs hlay (Int.le_refl _) (Int.le_refl _) (by omega) (by omega) t ht
  exact ⟨this.1,this.2.1⟩
def updM (m:Model) (s:Swap) (u:Update):Update:=⟨u.kind,mvU m s u.cell,u.value⟩
def chgM (m:Model) (s:Swap) (d:Change):Change:=⟨mvC m s d.cell,d.add⟩
theorem zql {m s} (h:Swp m s) {u v:Update} (hu:RoomU m u.cell) (hv:RoomU m v.cell) (e:updM m s u=updM m s v):u=v:=by
 have e1:=congrArg Update.kind e
 have e2:=congrArg Update.cell e
 have e3:=congrArg Update.value e
 simp only [updM] at e1 e2 e3
 have:u.cell=v.cell:=by rw [← (zqC h hu).2,e2,(zqC h hv).2]
 cases u;cases v;simp_all
theorem zpP {m:Model} {s:Swap} {n:Nat} {c:Int} (h:Swp m s) (hc:RoomU m c) (hn:1000000≤n):zu n ⟨zS m,s⟩ (zS m).merged c=some (mvU m s c):=by
 obtain ⟨hs,hlay,hl⟩:=ze4 h.lay
 exact zn3 (strict:=false) h hc.1 (by have:=zfN hs false 0 (zcB hlay);have:=hc.2;omega) hn
theorem zi6 {m s n} {e:Effect} (h:Swp m s) (he:EffIn m e) (hz:EffZ e) (hu:∀ u∈e.updates,RoomU m u.cell) (hn:1000000≤n):∃ D,zk n ⟨zS m,s⟩ e=some ⟨D,e.hold.map (rowM m s),e.updates.map (updM m s)⟩∧D.Perm (e.delta.map (chgM m s))∧D.Pairwise λx y=>x.cell≤y.cell:=by
 have z1:=hz.delta
 have z2:=hz.hold
 have z3:=hz.upd
 obtain ⟨D,s1,s2,s3⟩:=zoL (f:=λq0 q1=>zbk n q0 q1) (k:=λt:Change=>t.cell) (l:=e.delta.map (chgM m s)) (λx _ y _=>by unfold zbk;rw [zhb];rfl) (by simp;omega)
 refine ⟨D,?_,s2,s3⟩
 unfold zk
 refine zfn (l:=e.delta) (chgM m s) _ (λrec b i hi hb=>?_) (λrec=>?_) (by omega)
 ·obtain ⟨c1,c2⟩:=he.cell _ (yj hi)
  simp only [zk.l1,zn hi,if_true,za hi,ya,zmU h c1 c2 hn]
  rw [zam (by simp;omega),ya,zd (by omega)]
  rfl
 ·simp only [zk.l1,zaq,yf,if_false]
  rw [s1,ya]
  refine zfn (l:=e.hold) (rowM m s) _ (λrec b i hi hb=>?_) (λrec=>?_) (by omega)
  ·have hr:=he.hold _ (yj hi)
   have ht:=hz.term _ (yj hi)
   simp only [zk.l2,zn hi,if_true,za hi,ya,znj h hr (by omega) hn]
   rw [zam (by simp;omega),ya,zd (by omega)]
  ·simp only [zk.l2,zaq,yf,if_false]
   refine zfn (l:=e.updates) (updM m s) _ (λrec b i hi hb=>?_) (λrec=>?_) (by omega)
   ·have hr:=hu _ (yj hi)
    simp only [zk.l3,zn hi,if_true,za hi,ya,zpP h hr hn]
    rw [zam (by simp;omega),ya,zd (by omega)]
    rfl
   ·simp only [zk.l3,zaq,yf,if_false]
theorem zmg {K:Nat}:∀ {l:List Change} {last:Int},zf4 K last l=true→(l.Pairwise λa b=>a.cell<b.cell)∧∀ d∈l,last<d.cell
 | [],_,_=>⟨by simp,by simp⟩
 | x::l,last,h=>by
  simp only [zf4,yc,ye] at h
  obtain ⟨i1,i2⟩:=zmg h.2
  refine ⟨uv.2 ⟨i2,i1⟩,λd hd=>?_⟩
  rcases yD.1 hd with rfl | hd
  ·exact h.1.1.1.1
  ·have:=i2 d hd;have:=h.1.1.1.1;omega
structure EffV (m:Model) (e:Effect):Prop where
 inn:EffIn m e
 sz:EffZ e
 room:∀ u∈e.updates,RoomU m u.cell
 ris:e.delta.Pairwise λa b=>a.cell<b.cell
theorem zhg {m:Model} (hS:SmallM m) (hV:ValidM m) (hR:Rng m) {a:Action} (ha:a∈m.actions):EffV m a.effect:=by
 obtain ⟨-,d,ho,u,ht⟩:=hS.act a ha
 have h:=(zh7 hV ha).1
 simp only [effP,yc] at h
 exact ⟨zoW hV ha,⟨by omega,by omega,by omega,λr hr=>by have:=ht r hr;omega⟩,zqm hV hR ha,(zmg h.1).1⟩
theorem zpk {m s} (h:Swp m s) {e:Effect} (he:EffV m e):(e.delta.map (chgM m s)).Pairwise λa b=>a.cell≠b.cell:=by
 rw [List.pairwise_map]
 refine List.Pairwise.imp_of_mem (λ{a b} ha hb hab e2=>?_) he.ris
 obtain ⟨a1,a2⟩:=he.inn.cell a ha
 obtain ⟨b1,b2⟩:=he.inn.cell b hb
 have:=zqD h a1 a2 b1 b2 e2
 omega
theorem zl6 {m s} {e f:Effect} (h:Swp m s) (he:EffV m e) (hf:EffV m f) {D:List Change} (d1:D.Perm (e.delta.map (chgM m s))) (d2:D.Pairwise λx y=>x.cell≤y.cell) :
  zf2 m s e f=true↔f.delta=D∧f.hold.Perm (e.hold.map (rowM m s))∧f.updates.Perm (e.updates.map (updM m s)):=by
 have hupd:updB m s e f=true↔∀ u∈e.updates,e.updates.count u=f.updates.count (updM m s u):=by
  simp only [updB,yr,ye]
  refine forall_congr' λu=>forall_congr' λhu=>?_
  rw [mvU_S h (he.room u hu)];rfl
 have hcu:∀ u∈e.updates,(e.updates.map (updM m s)).count (updM m s u)=e.updates.count u:=λu hu=>zgf λz hz e2=>zql h (he.room z hz) (he.room u hu) e2
 have hcr:∀ u∈e.hold,(e.hold.map (rowM m s)).count (rowM m s u)=e.hold.count u:=λu hu=>zgf λz hz e2=>znb h (he.inn.hold z hz) (he.inn.hold u hu) e2
 have hne:D.Pairwise λa b=>a.cell≠b.cell:=(d1.pairwise_iff (λ{a b} hab=>Ne.symm hab)).2 (zpk h he)
 have hlt:D.Pairwise λa b=>a.cell<b.cell:=d2.imp₂ (λa b h1 h2=>by omega) hne
 have nd:∀ {l:List Change},(l.Pairwise λa b=>a.cell≠b.cell)→l.Nodup:=λ{l} hp=>hp.imp λ{a b} hab e2=>hab (by rw [e2])
 unfold zf2
 simp only [yc,ye]
 constructor
 ·rintro ⟨⟨l1,l2,l3⟩,q1,q2,q3⟩
  refine ⟨?_,(zqV h he.inn hf.inn l2 q2).symm,?_⟩
  ·have hsub:∀ x∈e.delta.map (chgM m s),x∈f.delta:=λx hx=>by
    obtain ⟨d,hd,rfl⟩:=yO.1 hx
    obtain ⟨g,hg,h2⟩:=ut.1 (yr.1 q1 d hd)
    simp only [yc,beq_iff_eq] at h2
    have:g=chgM m s d:=by cases g;simp only at h2;rw [chgM,← h2.1,← h2.2]
    rw [← this];exact hg
   have n1:(e.delta.map (chgM m s)).Nodup:=nd (zpk h he)
   have n2:f.delta.Nodup:=nd (hf.ris.imp λ{a b} hab=>by omega)
   have hp:f.delta.Perm (e.delta.map (chgM m s)):=(List.perm_ext_iff_of_nodup n2 n1).2 λx=>⟨λhx=>zpl n1 hsub (by simp;omega) x hx,hsub x⟩
   exact zfs (R:=λa b:Change=>a.cell<b.cell) (λa b x y=>by omega) (hp.trans d1.symm) hf.ris hlt
  ·refine (ziq (λy hy=>?_) (by simp [l3])).symm
   obtain ⟨u,hu,rfl⟩:=yO.1 hy
   rw [hcu u hu]
   exact hupd.1 q3 u hu
 ·rintro ⟨p1,p2,p3⟩
  refine ⟨⟨?_,?_,?_⟩,?_,?_,?_⟩
  ·rw [p1,d1.length_eq];simp
  ·rw [p2.length_eq];simp
  ·rw [p3.length_eq];simp
  ·refine yr.2 λd hd=>ut.2 ⟨chgM m s d,?_,by simp [chgM]⟩
   rw [p1,d1.mem_iff]
   exact yO.2 ⟨d,hd,rfl⟩
  ·refine yr.2 λr hr=>decide_eq_true ?_
   rw [p2.count_eq,hcr r hr]
  ·refine hupd.2 λu hu=>?_
   rw [p3.count_eq,hcu u hu]
theorem zpO {m s n} {e f:Effect} (h:Swp m s) (he:EffV m e) (hf:EffV m f) (hn:1000000≤n):∃ g,zk n ⟨zS m,s⟩ e=some g∧zb8 n f g=some (zf2 m s e f):=by
 obtain ⟨D,w1,w2,w3⟩:=zi6 h he.inn he.sz he.room hn
 have z1:=he.sz.delta
 have z2:=he.sz.hold
 have z3:=he.sz.upd
 have hg:EffZ ⟨D,e.hold.map (rowM m s),e.updates.map (updM m s)⟩:=by
  refine ⟨by simpa using z2,by simpa using z3,?_,λr hr=>?_⟩
  ·have:=w2.length_eq;simp at this ⊢;omega
  ·obtain ⟨x,hx,rfl⟩:=yO.1 hr
   have:=he.sz.term x hx
   have:=(zgB m s x).length_eq
   simp at this;omega
 obtain ⟨b,b1,b2⟩:=znh hf.sz hg hn
 refine ⟨_,w1,?_⟩
 rw [b1]
 congr 1
 rw [Bool.eq_iff_iff,b2,zl6 h he hf w2 w3]
theorem zjR:∀ a,lessP a a=false
 | []=>rfl
 | x::l=>by rw [lessP,if_pos rfl];exact zjR l
theorem znF:∀ {a b c:List Int},lessP a b=true→lessP b c=true→lessP a c=true
 | [],[],_,h,_=>by simp [lessP] at h
 | [],_::_,[],_,h=>by simp [lessP] at h
 | [],_::_,_::_,_,_=>rfl
 | _::_,[],_,h,_=>by simp [lessP] at h
 | _::_,_::_,[],_,h=>by simp [lessP] at h
 | x::a,y::b,z::c,h1,h2=>by
  simp only [lessP] at h1 h2 ⊢
  by_cases e1:x=y
  ·subst e1
   rw [if_pos rfl] at h1
   by_cases e2:x=z
   ·rw [if_pos e2] at h2 ⊢;exact znF h1 h2
   ·rw [if_neg e2] at h2 ⊢;exact h2
  ·rw [if_neg e1,ye] at h1
   by_cases e2:y=z
   ·subst e2;rw [if_neg e1];simpa using h1
   ·rw [if_neg e2,ye] at h2
    rw [if_neg (by omega)];simp;omega
def keyA (a:Action):List Int:=a.operation::a.arguments
theorem zrb {b a:Action} (h:ordP b a=true):lessP (keyA b) (keyA a)=true:=by
 unfold keyA
 rw [lessP]
 by_cases e:b.operation=a.operation
 ·rw [if_pos e]
  simp only [ordP,yc] at h
  simpa [e] using h.2
 ·rw [if_neg e]
  simp only [ordP,yc,yG,yM] at h
  rw [ye]
  have:=h.1
  omega
theorem znn {m:Model} (hV:ValidM m) {j:Nat} (hj:j+1<m.actions.length):lessP (keyA m.actions[j]) (keyA m.actions[j+1])=true:=by
 have h:=hV.acts
 simp only [actsP,yc] at h
 have:=zht.1 h.2 (j+1) hj
 simp only [za hj,yh,actP,yc,yz,ye] at this
 have h2:=this.1.2
 rw [show j+1 - 1=j by omega,za (show j<m.actions.length by omega),yh] at h2
 rcases h2 with h2 | h2
 ·omega
 ·exact zrb h2
theorem zlo {m:Model} (hV:ValidM m):∀ (d i:Nat) (h:i+d+1<m.actions.length),lessP (keyA m.actions[i]) (keyA m.actions[i+d+1])=true
 | 0,i,h=>znn hV h
 | d+1,i,h=>znF (zlo hV d i (by omega)) (znn hV (j:=i+d+1) (by omega))
theorem zqJ {m:Model} (hV:ValidM m) {i j:Nat} (hi:i<m.actions.length) (hj:j<m.actions.length) (e:keyA m.actions[i]=keyA m.actions[j]):i=j:=by
 rcases Nat.lt_trichotomy i j with h | h | h
 ·obtain ⟨d,rfl⟩:∃ d,j=i+d+1:=⟨j - i - 1,by omega⟩
  have:=zlo hV d i hj
  rw [e,zjR] at this;cases this
 ·exact h
 ·obtain ⟨d,rfl⟩:∃ d,i=j+d+1:=⟨i - j - 1,by omega⟩
  have:=zlo hV d j hi
  rw [e,zjR] at this;cases this
theorem zo6 {α:Type} {l:List α} {i:Int} {x:α} (h:idx l i=some x):0≤i∧i<(l.length:Int):=by
 obtain ⟨k,rfl,hk,-⟩:=idxS h
 omega
theorem zln {n:Nat} {l:List Action} {f:Action→Option Bool} {p} (hf:∀ x∈l,f x=some (p x)) (hl:l.length<1000000) (hn:1000000≤n):zw n l f=some (ixP p l 0):=by
 have:=zT (body:=zw.l1 n l f) (len:=l.length) (st:=λi=>(i:Int)) (g:=λi=>some (ixP p (l.drop i) i)) (λrec i hi hr=>?_) (λrec=>?_) n 0 (yp _) (by omega)
 ·simpa [zw] using this
 ·simp only [zw.l1,zn hi,if_true,za hi,ya,hf _ (yj hi),zd (i:=i) (by omega),hr]
  rw [zh hi]
  simp only [ixP]
  split <;> rfl
 ·simp [zw.l1,ixP]
theorem zmY {n:Nat} {a b:List Int} (hl:a.length<1000000) (hn:1000000≤n):zp n a b=some (decide (a=b)):=by
 unfold zp
 by_cases h:a.length=b.length
 ·rw [if_neg (by simp [h])]
  have:=zT (body:=zp.l1 n a b) (len:=a.length) (st:=λi=>(i:Int)) (g:=λi=>some (decide (a.drop i=b.drop i))) (λrec i hi hr=>?_) (λrec=>?_) n 0 (yp _) (by omega)
  ·simpa using this
  ·have hib:i<b.length:=by omega
   simp only [zp.l1,zn hi,if_true,za hi,za hib,ya,zd (i:=i) (by omega),hr]
   rw [zh hi,zh hib]
   by_cases e:a[i]=b[i]
   ·simp only [e,uS,yf,if_false,List.cons.injEq,true_and]
   ·simp only [bne_iff_ne,ne_eq,e,not_false_eq_true,if_true,List.cons.injEq,false_and,decide_false]
  ·simp [zp.l1,h]
 ·rw [if_pos (by simp;omega)]
  have:¬ a=b:=λe=>h (by rw [e])
  simp [this]
def keyB (m:Model) (s:Swap) (a b:Action):Bool:=b.operation==a.operation&&decide (b.arguments=argM s (opAt m a).sorts a.arguments)
theorem zfA {m s a b}:actB m s a b=(keyB m s a b&&zf2 m s a.effect b.effect):=rfl
theorem zqI {m:Model} {s:Swap} {n:Nat} {a b:Action} (hb:b.arguments.length<1000000) (hn:1000000≤n):zbj n b a (argM s (opAt m a).sorts a.arguments)=some (keyB m s a b):=by
 unfold zbj keyB
 rw [zmY hb hn]
 simp [grd]
theorem zqB {m:Model} {s:Swap} (hV:ValidM m) {a:Action} {k:Nat} (hk:k<m.actions.length) (h:keyB m s a m.actions[k]=true) {j:Nat} (hj:j<m.actions.length) (h2:keyB m s a m.actions[j]=true):j=k:=by
 simp only [keyB,yc,beq_iff_eq,ye] at h h2
 exact zqJ hV hj hk (by unfold keyA;rw [h.1,h.2,h2.1,h2.2])
theorem zor {m:Model} {s:Swap} {n:Nat} {k:Int} {a:Action} (h:Swp m s) (hS:SmallM m) (hV:ValidM m) (hR:Rng m) (ha:idx m.actions k=some a) (hn:1000000≤n):zH n ⟨zS m,s⟩ k=zP n m s k:=by
 have hA:=zib hS hV
 have ham:=zd5 ha
 obtain ⟨he,⟨o,ho,hol⟩,hal⟩:=hA.act a ham
 have hml:=hA.len
 have hop:opAt m a=o:=by unfold opAt;rw [ho];rfl
 have hsm:∀ {x},x∈m.actions→x.arguments.length<1000000:=λhx=>by have:=(hS.act _ hx).1;omega
 obtain ⟨k0,k1⟩:=zo6 ha
 rw [zek h hA ha hn]
 unfold zH
 simp only [show (zS m).m=m from rfl]
 rw [if_neg (by simp;omega),ha,ya]
 have hargl:(argM s (opAt m a).sorts a.arguments).length=a.arguments.length:=by simp [argM]
 have:=zT (body:=zH.l1 n ⟨zS m,s⟩ a) (len:=a.arguments.length) (st:=λi=>((argM s (opAt m a).sorts a.arguments).take i,(i:Int))) (g:=λ_=>some (if 0≤ixP (actB m s a) m.actions 0 then (ixP (actB m s a) m.actions 0,true) else (0,false))) (λrec i hi hr=>?_) (λrec=>?_) n 0 (yp _) (by omega)
 ·simpa using this
 ·have hio:i<o.sorts.length:=by omega
  have hia:i<(argM s (opAt m a).sorts a.arguments).length:=by omega
  simp only [zH.l1,zn hi,if_true,za hi,ya,show (zS m).m=m from rfl,ho,za hio,zks]
  rw [zam (by simp;omega),ya,zd (by omega)]
  have e:(argM s (opAt m a).sorts a.arguments).take i++[if o.sorts[i]=s.sort then elemP s a.arguments[i] else a.arguments[i]]=(argM s (opAt m a).sorts a.arguments).take (i+1):=by
   rw [yv hia]
   congr 2
   simp [argM,hop,hi,hio,uk]
  rw [e];exact hr
 ·simp only [zH.l1,zaq,yf,if_false,show (zS m).m=m from rfl]
  rw [List.take_of_length_le (by omega),zln (p:=keyB m s a) (λx hx=>zqI (hsm hx) hn) (by omega) hn,ya]
  rcases zgM (keyB m s a) m.actions 0 with ⟨i1,i2⟩ | ⟨j,hj,i1,i2,i3⟩
  ·have hno:ixP (actB m s a) m.actions 0 = -1:=by
    rcases zgM (actB m s a) m.actions 0 with ⟨j1,-⟩ | ⟨j,hj,-,j2,-⟩
    ·exact j1
    ·have:=i2 _ (yj hj)
     rw [zfA,this] at j2;simp at j2
   rw [i1,hno];rfl
  ·rw [um] at i1
   obtain ⟨g,g1,g2⟩:=zpO (n:=n) h (zhg hS hV hR ham) (zhg hS hV hR (yj hj)) hn
   have hneg:decide (((j:Nat):Int)<0)=false:=by simp
   rw [i1,za hj,g1]
   simp only [hneg,ue,yk,grd,if_true,yh,g2]
   rcases zgM (actB m s a) m.actions 0 with ⟨j1,j2⟩ | ⟨x,hx,j1,j2,-⟩
   ·have:=j2 _ (yj hj)
    rw [zfA,i2,yA] at this
    rw [this,j1];rfl
   ·have hxk:keyB m s a m.actions[x]=true:=by
     rw [zfA,yc] at j2;exact j2.1
    have e:=zqB hV hj i2 hx hxk
    subst e
    have:zf2 m s a.effect m.actions[x].effect=true:=by
     rw [zfA,yc] at j2;exact j2.2
    rw [this,j1,um]
    simp
def nthP {α:Type} (p:α→Bool):List α→Nat→Nat→Int×Bool
 | [],_,_=>(0,false)
 | x::l,c,i=>if p x=true then (match c with
  | 0=>((i:Int),true)
  | c+1=>nthP p l c (i+1)) else nthP p l c (i+1)
theorem zj8 {α:Type} {p:α→Bool} {x:α} {l:List α} {c i:Nat}:nthP p (x::l) c i=if p x=true then (match c with
  | 0=>((i:Int),true)
  | c+1=>nthP p l c (i+1)) else nthP p l c (i+1):=by rw [nthP.eq_def]
theorem zq2 {n:Nat} {l k:List Constraint} {t:Nat} {p q:Constraint→Option Bool} {P Q:Constraint→Bool} (ht:t≤l.length) (hp:∀ x∈l,p x=some (P x)) (hq:∀ x∈k,q x=some (Q x)) (hl:l.length<1000000) (hk:k.length<1000000) (hn:1000000≤n):zo n l (t:Int) p k q=some (nthP Q k ((l.take t).countP P) 0):=by
 unfold zo
 have hc:=ze3 (l:=l) (a:=0) (b:=t) (yp _) ht
 rw [show ((0:Nat):Int)=0 from rfl,List.drop_zero,Nat.sub_zero] at hc
 rw [hc,ya]
 have hlen:(l.take t).length=t:=by rw [yP];omega
 have:=zT (body:=zo.l1 n p k q (l.take t)) (len:=(l.take t).length) (st:=λi=>(((((l.take t).take i).countP P:Nat):Int),(i:Int))) (g:=λ_=>some (nthP Q k ((l.take t).countP P) 0)) (λrec i hi hr=>?_) (λrec=>?_) n 0 (yp _) (by omega)
 ·simpa using this
 ·have hcl:((l.take t).take i).countP P≤i:=ub List.countP_le_length (by rw [yP];omega)
  rw [yv hi,List.countP_append,List.countP_singleton] at hr
  simp only [zo.l1,zn hi,if_true,jn,za hi,ya,hp _ (List.mem_of_mem_take (yj hi)),zd (i:=i) (by omega),zd (show ((l.take t).take i).countP P<4611686018427387904 by omega)]
  by_cases e:P (l.take t)[i]=true
  ·rw [if_pos e] at hr ⊢;exact hr
  ·rw [if_neg e] at hr ⊢;exact hr
 ·simp only [zo.l1,zaq,yf,if_false,List.take_length]
  have inner:=zbi (body:=zo.l2 n k q) (len:=k.length) (st:=λ(c:Nat) i=>((c:Int),(i:Int))) (g:=λi c=>some (nthP Q (k.drop i) c i)) (λi c=>c≤1000000) (λrec i c hi hI hr=>?_) (λrec c hI=>?_) n 0 ((l.take t).countP P) (yp _) (by omega) (ub List.countP_le_length (by omega))
  ·simpa using inner
  ·simp only [zo.l2,zn hi,if_true,jn,za hi,ya,hq _ (yj hi),zd (i:=i) (by omega)]
   rw [zh hi,zj8]
   by_cases e:Q k[i]=true
   ·rw [if_neg (by simp [e]),if_pos e]
    cases c with
    | zero=>simp
    | succ c=>
     rw [if_neg (by simp;omega),show sub64 ((c+1:Nat):Int) 1=(c:Int) by rw [zfV (by omega) (by omega)];omega]
     exact hr c (by omega)
   ·rw [if_pos (by simpa using e),if_neg e]
    exact hr c hI
  ·simp [zo.l2,nthP]
theorem zq3 {n:Nat} {l k:List Row} {t:Nat} {p q:Row→Option Bool} {P Q:Row→Bool} (ht:t≤l.length) (hp:∀ x∈l,p x=some (P x)) (hq:∀ x∈k,q x=some (Q x)) (hl:l.length<1000000) (hk:k.length<1000000) (hn:1000000≤n):zO n l (t:Int) p k q=some (nthP Q k ((l.take t).countP P) 0):=by
 unfold zO
 have hc:=ze3 (l:=l) (a:=0) (b:=t) (yp _) ht
 rw [show ((0:Nat):Int)=0 from rfl,List.drop_zero,Nat.sub_zero] at hc
 rw [hc,ya]
 have hlen:(l.take t).length=t:=by rw [yP];omega
 have:=zT (body:=zO.l1 n p k q (l.take t)) (len:=(l.take t).length) (st:=λi=>(((((l.take t).take i).countP P:Nat):Int),(i:Int))) (g:=λ_=>some (nthP Q k ((l.take t).countP P) 0)) (λrec i hi hr=>?_) (λrec=>?_) n 0 (yp _) (by omega)
 ·simpa using this
 ·have hcl:((l.take t).take i).countP P≤i:=ub List.countP_le_length (by rw [yP];omega)
  rw [yv hi,List.countP_append,List.countP_singleton] at hr
  simp only [zO.l1,zn hi,if_true,jn,za hi,ya,hp _ (List.mem_of_mem_take (yj hi)),zd (i:=i) (by omega),zd (show ((l.take t).take i).countP P<4611686018427387904 by omega)]
  by_cases e:P (l.take t)[i]=true
  ·rw [if_pos e] at hr ⊢;exact hr
  ·rw [if_neg e] at hr ⊢;exact hr
 ·simp only [zO.l1,zaq,yf,if_false,List.take_length]
  have inner:=zbi (body:=zO.l2 n k q) (len:=k.length) (st:=λ(c:Nat) i=>((c:Int),(i:Int))) (g:=λi c=>some (nthP Q (k.drop i) c i)) (λi c=>c≤1000000) (λrec i c hi hI hr=>?_) (λrec c hI=>?_) n 0 ((l.take t).countP P) (yp _) (by omega) (ub List.countP_le_length (by omega))
  ·simpa using inner
  ·simp only [zO.l2,zn hi,if_true,jn,za hi,ya,hq _ (yj hi),zd (i:=i) (by omega)]
   rw [zh hi,zj8]
   by_cases e:Q k[i]=true
   ·rw [if_neg (by simp [e]),if_pos e]
    cases c with
    | zero=>simp
    | succ c=>
     rw [if_neg (by simp;omega),show sub64 ((c+1:Nat):Int) 1=(c:Int) by rw [zfV (by omega) (by omega)];omega]
     exact hr c (by omega)
   ·rw [if_pos (by simpa using e),if_neg e]
    exact hr c hI
  ·simp [zO.l2,nthP]
def fstR (o:Option Nat):Int×Bool:=match o with
 | some j=>((j:Int),true)
 | none=>(0,false)
def atP {α:Type} (p:α→Bool) (l:List α) (j:Nat):Bool:=match l[j]? with
 | some x=>p x
 | none=>false
theorem zpo {α:Type} {p:α→Bool}:∀ (rest pre:List α) (c c':Nat),c'+pre.countP p=c→nthP p rest c' pre.length=fstR (fstP (λj=>atP p (pre++rest) j&&decide (((pre++rest).take j).countP p=c)) pre.length rest.length)
 | [],pre,c,c',_=>rfl
 | x::rest,pre,c,c',h=>by
  have e1:atP p (pre++x::rest) pre.length=p x:=by
   unfold atP
   rw [yq (yn _),uD];rfl
  have e2:(pre++x::rest).take pre.length=pre:=by simp
  have e3:pre++x::rest=(pre++[x])++rest:=by simp
  have ih:=λc'' hc=>zpo (p:=p) rest (pre++[x]) c c'' hc
  simp only [yL,uq,List.countP_append,List.countP_singleton] at ih
  rw [yQ,fstP,zj8,e1,e2]
  by_cases hx:p x=true
  ·simp only [hx,if_true,yA] at ih ⊢
   cases c' with
   | zero=>rw [if_pos (by simpa using h)];rfl
   | succ c''=>
    rw [if_neg (by simp;omega)]
    show nthP p rest c'' (pre.length+1)=_
    rw [ih c'' (by omega),← e3]
  ·rw [if_neg hx] at ih
   simp only [yF] at hx
   rw [hx]
   simp only [yf,yU,if_false]
   rw [ih c' (by omega),← e3]
theorem zjr {α:Type} {p:α→Bool} {l:List α} {c:Nat}:nthP p l c 0=fstR (fstP (λj=>atP p l j&&decide ((l.take j).countP p=c)) 0 l.length):=by
 have:=zpo (p:=p) l [] c c (by simp)
 simpa using this
theorem zk6 {p q:Nat→Bool}:∀ {k i:Nat},(∀ x,i≤x→x<i+k→p x=q x)→fstP p i k=fstP q i k
 | 0,_,_=>rfl
 | k+1,i,h=>by
  rw [fstP,fstP,h i (yn _) (by omega),zk6 (k:=k) (i:=i+1) λx h1 h2=>h x (by omega) (by omega)]
def conR (m:Model) (s:Swap) (i:Nat):Int×Bool:=if (conAt m i).kind=1 then ((i:Int),true) else fstR (fstP (conB m s i) 0 m.constraints.length)
theorem zok {m s n} {i:Nat} (h:Swp m s) (hC:ConS m) (hi:i<m.constraints.length) (hn:1000000≤n):zab n m s (i:Int)=some (conR m s i):=by
 rw [zfq h hC hi hn,conR]
 rfl
theorem zoP {n:Nat} {x c:Constraint} {r:Row} (hl:x.row.terms.length<1000000) (hn:1000000≤n):zap n x c r=some (((x.kind==0)&&(x.family==c.family))&&decide (x.row=r)):=by
 unfold zap
 rw [zjv hl hn]
 simp [grd]
theorem zni {m:Model} {s:Swap} {n:Nat} {i:Nat} (h:Swp m s) (hS:SmallM m) (hV:ValidM m) (hi:i<m.constraints.length) (hn:1000000≤n):zaI n ⟨zS m,s⟩ (i:Int)=some (conR m s i):=by
 have hlen:=hS.constraints
 have hmem:=yj hi
 have hkind:=(zqu hS hV hmem).kind
 unfold zaI conR
 simp only [show (zS m).m=m from rfl]
 rw [if_neg (by simp;omega),za hi,ya,zdb hi]
 by_cases hk:m.constraints[i].kind=1
 ·rw [if_pos (by simp [hk]),if_pos hk]
 ·have hk0:m.constraints[i].kind=0:=by omega
  have hsm:∀ x∈m.constraints,x.row.terms.length<1000000:=λx hx=>by have:=hS.con x hx;omega
  rw [if_neg (by simp [hk0]),if_neg hk,znj h (zmf hV hmem hk0) (by have:=hS.con _ hmem;omega) hn,ya]
  rw [zq2 (P:=λx=>((x.kind==0)&&(x.family==m.constraints[i].family))&&decide (x.row=m.constraints[i].row)) (Q:=λx=>((x.kind==0)&&(x.family==m.constraints[i].family))&&decide (x.row=rowM m s m.constraints[i].row)) (by omega) (λx hx=>zoP (hsm x hx) hn) (λx hx=>zoP (hsm x hx) hn) (by omega) (by omega) hn,ya]
  rw [zjr]
  refine congrArg some (congrArg fstR (zk6 λj _ hj=>?_))
  have hj':j<m.constraints.length:=by omega
  unfold conB atP
  rw [yo hj',zdb hj',zdb hi]
  simp only []
  have hr:rankP m i=(m.constraints.take i).countP λx=>((x.kind==0)&&(x.family==m.constraints[i].family))&&decide (x.row=m.constraints[i].row):=by
   unfold rankP
   congr 1
   funext d
   rw [zdb hi,sameC,hk0]
  rw [hr,hk0]
  by_cases hc:(((m.constraints[j].kind==0)&&(m.constraints[j].family==m.constraints[i].family))&&decide (m.constraints[j].row=rowM m s m.constraints[i].row))=true
  ·rw [hc,yA,yA]
   have hf:rankP m j=(m.constraints.take j).countP λx=>((x.kind==0)&&(x.family==m.constraints[i].family))&&decide (x.row=rowM m s m.constraints[i].row):=by
    unfold rankP
    congr 1
    funext d
    simp only [yc,beq_iff_eq,ye] at hc
    rw [zdb hj',sameC,hc.1.1,hc.1.2,hc.2]
   rw [hf]
  ·simp only [yF] at hc
   rw [hc,yU,yU]
def actR (m:Model) (s:Swap) (a:Action):Int×Bool:=if 0≤rhoI m s a then (rhoI m s a,true) else (0,false)
theorem zlY {m:Model} {s:Swap} {n:Nat} {k:Int} {a:Action} (h:Swp m s) (hS:SmallM m) (hV:ValidM m) (hR:Rng m) (ha:idx m.actions k=some a) (hn:1000000≤n):zH n ⟨zS m,s⟩ k=some (actR m s a):=by
 rw [zor h hS hV hR ha hn,zek h (zib hS hV) ha hn];rfl
theorem zpu {m:Model} {s:Swap} {n:Nat} {k:Int} {a:Action} (h:Swp m s) (hS:SmallM m) (hV:ValidM m) (ha:idx m.actions k=some a) (hn:1000000≤n):zP n m s k=some (actR m s a):=
 zek h (zib hS hV) ha hn
theorem zjl {m:Model} {s:Swap} {a:Action} (h:(actR m s a).2=true):∃ (k:Nat) (hk:k<m.actions.length),(actR m s a).1=(k:Int)∧actB m s a m.actions[k]=true:=by
 unfold actR at h ⊢
 by_cases e:0≤rhoI m s a
 ·rw [if_pos e]
  unfold rhoI at e ⊢
  rcases zgM (actB m s a) m.actions 0 with ⟨h1,-⟩ | ⟨k,hk,h1,h2,-⟩
  ·omega
  ·exact ⟨k,hk,by rw [h1];simp,h2⟩
 ·rw [if_neg e] at h;simp at h
def noQ:Question:=⟨0,0,⟨false,0⟩⟩
def qmv (m:Model) (s:Swap) (q:Question):Question×Bool:=
  let a:=(idx m.actions q.e).getD default
  let b:=(idx m.actions q.f).getD default
  let x:=actR m s a
  let y:=actR m s b
  if (!x.2||!y.2)=true then (noQ,false)
  else if q.target.hold=false then
    (let c:=conR m s q.target.index.toNat
     if c.2=true then (⟨gmin x.1 y.1,gmax x.1 y.1,⟨false,c.1⟩⟩,true) else (noQ,false))
  else
    (let r:=(idx a.effect.hold q.target.index).getD default
     let c:=nthP (λz=>decide (z=rowM m s r)) ((idx m.actions x.1).getD default).effect.hold ((a.effect.hold.take q.target.index.toNat).countP λz=>decide (z=r)) 0
     if c.2=true then (⟨x.1,y.1,⟨true,c.1⟩⟩,true) else (noQ,false))
theorem zlu {α:Type} [DecidableEq α] {l:List α} {x:α}:l.countP (λz=>decide (z=x))=l.count x:=by
 unfold List.count
 congr 1
theorem q1_eq {n:Nat} {x r:Row} (hl:x.terms.length<1000000) (hn:1000000≤n):za2 n x r=some (decide (x=r)):=by
 unfold za2
 rw [zjv hl hn,ya]
theorem q2_eq {n:Nat} {x r:Row} (hl:x.terms.length<1000000) (hn:1000000≤n):za3 n x r=some (decide (x=r)):=by
 unfold za3
 rw [zjv hl hn,ya]
theorem zpT {m:Model} {s:Swap} {n:Nat} {q:Question} (h:Swp m s) (hS:SmallM m) (hV:ValidM m) (hR:Rng m) (hn:1000000≤n):zbl n ⟨zS m,s⟩ q=some (if zaK m q=true then qmv m s q else (noQ,false)):=by
 have hval:zJ n (zS m) q=some (zaK m q):=quest_body
 unfold zbl
 simp only [hval,ya,show (zS m).m=m from rfl]
 by_cases hq:zaK m q=true
 ·rw [if_neg (by simp [hq]),if_pos hq]
  obtain ⟨q1,q2,q3,q4,q5⟩:=zdi hq
  obtain ⟨a,ha⟩:=zbw q1.1 q1.2
  obtain ⟨b,hb⟩:=zbw q2.1 q2.2
  rw [zlY h hS hV hR ha hn,ya,zlY h hS hV hR hb hn,ya]
  unfold qmv
  simp only [ha,hb,yh]
  by_cases hc:(!(actR m s a).2||!(actR m s b).2)=true
  ·rw [if_pos hc,if_pos hc];rfl
  ·rw [if_neg hc,if_neg hc]
   simp only [yz,yG,not_or,Bool.not_eq_false] at hc
   obtain ⟨k,hk,k1,k2⟩:=zjl hc.1
   obtain ⟨t,ht⟩:=yS q3
   cases hh:q.target.hold with
   | false=>
    have hi:t<m.constraints.length:=by have:=(q5 hh).2;omega
    simp only [jn,ui,if_true,ht,zni h hS hV hi hn,ya,yx]
    cases hx:(conR m s t).2 <;> simp [noQ]
   | true=>
    have hidx:=q4 hh a ha
    have htl:t<a.effect.hold.length:=by omega
    have hra:=(zoW hV (zd5 ha)).hold _ (yj htl)
    have hza:=zhg hS hV hR (zd5 ha)
    have hzk:=zhg hS hV hR (yj hk)
    have l1:=hza.sz.hold
    have l2:=hzk.sz.hold
    simp only [jn,yW,yf,Bool.true_eq_false,if_false,ha,k1,za hk,ht,za htl,ya,yh,yx]
    rw [znj h hra (by have:=hza.sz.term _ (yj htl);omega) hn,ya,zq3 (P:=λz=>decide (z=a.effect.hold[t])) (Q:=λz=>decide (z=rowM m s a.effect.hold[t])) (by omega) (λx hx=>q1_eq (by have:=hza.sz.term x hx;omega) hn) (λx hx=>q2_eq (by have:=hzk.sz.term x hx;omega) hn) (by omega) (by omega) hn,ya]
    cases hx:(nthP (λz=>decide (z=rowM m s a.effect.hold[t])) m.actions[k].effect.hold ((a.effect.hold.take t).countP λz=>decide (z=a.effect.hold[t])) 0).2 <;> simp [noQ]
 ·rw [if_pos (by simpa using hq),if_neg hq];rfl
theorem zpD {m:Model} {s:Swap} {n:Nat} {q:Question} (h:Swp m s) (hS:SmallM m) (hV:ValidM m) (hR:Rng m) (hq:zaK m q=true) (hn:1000000≤n):zcR n m s q=some (qmv m s q):=by
 obtain ⟨q1,q2,q3,q4,q5⟩:=zdi hq
 obtain ⟨a,ha⟩:=zbw q1.1 q1.2
 obtain ⟨b,hb⟩:=zbw q2.1 q2.2
 unfold zcR
 rw [zpu h hS hV ha hn,ya,zpu h hS hV hb hn,ya]
 unfold qmv
 simp only [ha,hb,yh]
 by_cases hc:(!(actR m s a).2||!(actR m s b).2)=true
 ·rw [if_pos hc,if_pos hc];rfl
 ·rw [if_neg hc,if_neg hc]
  simp only [yz,yG,not_or,Bool.not_eq_false] at hc
  obtain ⟨k,hk,k1,k2⟩:=zjl hc.1
  obtain ⟨t,ht⟩:=yS q3
  cases hh:q.target.hold with
  | false=>
   have hi:t<m.constraints.length:=by have:=(q5 hh).2;omega
   simp only [ui,if_true,ht,zok h (zm1 hS hV) hi hn,ya,yx]
   cases hx:(conR m s t).2 <;> simp [noQ]
  | true=>
   have hidx:=q4 hh a ha
   have htl:t<a.effect.hold.length:=by omega
   have hza:=zhg hS hV hR (zd5 ha)
   have hzk:=zhg hS hV hR (yj hk)
   have hrs:=((zib hS hV).act a (zd5 ha)).1.hold.2 _ (yj htl)
   have l1:=hza.sz.hold
   have l2:=hzk.sz.hold
   simp only [yW,yf,Bool.true_eq_false,if_false,ha,k1,za hk,ht,za htl,ya,yh,yx]
   rw [zpC h hrs.2 hrs.1 hn,ya]
   have tq:=zju (n:=n) (l:=a.effect.hold) (k:=t) (r:=a.effect.hold[t]) (by omega) (by omega) (λx hx=>by have:=hza.sz.term x hx;omega) hn
   rw [zjr]
   have:=zT (body:=zcR.l1 n q (actR m s a) (actR m s b) a m.actions[k] (rowM m s a.effect.hold[t])) (len:=m.actions[k].effect.hold.length) (st:=λi=>(i:Int)) (g:=λi=>some (if (fstR (fstP (λj=>atP (λz=>decide (z=rowM m s a.effect.hold[t])) m.actions[k].effect.hold j&&decide ((m.actions[k].effect.hold.take j).countP (λz=>decide (z=rowM m s a.effect.hold[t]))=(a.effect.hold.take t).countP λz=>decide (z=a.effect.hold[t]))) i (m.actions[k].effect.hold.length - i))).2=true then ((⟨(actR m s a).1,(actR m s b).1,⟨true,(fstR (fstP (λj=>atP (λz=>decide (z=rowM m s a.effect.hold[t])) m.actions[k].effect.hold j&&decide ((m.actions[k].effect.hold.take j).countP (λz=>decide (z=rowM m s a.effect.hold[t]))=(a.effect.hold.take t).countP λz=>decide (z=a.effect.hold[t]))) i (m.actions[k].effect.hold.length - i))).1⟩⟩:Question),true) else (noQ,false))) (λrec i hi hr=>?_) (λrec=>?_) n 0 (yp _) (by omega)
   ·rw [Nat.sub_zero] at this;rw [← k1];exact this
   ·have ti:=zju (n:=n) (l:=m.actions[k].effect.hold) (k:=i) (r:=rowM m s a.effect.hold[t]) (by omega) (by omega) (λx hx=>by have:=hzk.sz.term x hx;omega) hn
    have hsame:=zhV (n:=n) (r:=m.actions[k].effect.hold[i]) (t:=rowM m s a.effect.hold[t]) (by have:=hzk.sz.term _ (yj hi);omega) hn
    have hat:atP (λz=>decide (z=rowM m s a.effect.hold[t])) m.actions[k].effect.hold i=decide (m.actions[k].effect.hold[i]=rowM m s a.effect.hold[t]):=by
     unfold atP;rw [yo hi]
    simp only [zcR.l1,zn hi,if_true,za hi,ya,hsame,ti,ht,za htl,yh,tq,yk,yC,grd,zd (i:=i) (by omega),hr]
    rw [show m.actions[k].effect.hold.length - i=(m.actions[k].effect.hold.length - (i+1))+1 by omega,fstP,hat,zlu,zlu]
    by_cases e:(decide (m.actions[k].effect.hold[i]=rowM m s a.effect.hold[t])&&decide ((m.actions[k].effect.hold.take i).count (rowM m s a.effect.hold[t])=(a.effect.hold.take t).count a.effect.hold[t]))=true
    ·rw [if_pos (by simp only [yc,ye,beq_iff_eq] at e ⊢;exact ⟨e.1,by omega⟩),if_pos e];rfl
    ·rw [if_neg (by simp only [yc,ye,beq_iff_eq] at e ⊢;exact λhh=>e ⟨hh.1,by omega⟩),if_neg e]
   ·simp [zcR.l1,fstP,fstR,noQ]
theorem big1:(1000000:Nat)≤18446744073709551616:=by decide
theorem big2:(4294967296:Nat)≤18446744073709551616:=by decide
section
variable {m:Model} {s:Swap} {n:Nat} (hF:Fuel n) (hn:4294967296≤n) (hS:SmallM m)
include hF hn hS
end
theorem zp5 {m:Model} {s:Swap} (h:SwapOK m.sorts s) (x:Int):elemP s (elemP s x)=x:=by
 have h2:=h.ab
 unfold elemP
 by_cases e1:x=s.a
 ·rw [if_pos e1,if_neg (by omega),if_pos rfl];exact e1.symm
 ·rw [if_neg e1]
  by_cases e2:x=s.b
  ·rw [if_pos e2,if_pos rfl];exact e2.symm
  ·rw [if_neg e2,if_neg e1,if_neg e2]
theorem zqK {m:Model} {s:Swap} (h:SwapOK m.sorts s) (sorts args:List Int):argM s sorts (argM s sorts args)=args:=by
 refine List.ext_getElem (by simp [argM]) λi h1 h2=>?_
 have hi:i<args.length:=h2
 simp only [argM,List.getElem_map,List.getElem_range,yH,uG]
 by_cases e:sorts.getD i 0=s.sort
 ·rw [if_pos e]
  simp [uk,hi] at e ⊢
  simp [e,zp5 h]
 ·rw [if_neg e]
  simp [uk,hi] at e ⊢
  simp [e]
theorem zqX {m:Model} {s:Swap} (h:SwapOK m.sorts s) {a b:Action} (hk:keyB m s a b=true):keyB m s b a=true:=by
 simp only [keyB,yc,beq_iff_eq,ye] at hk ⊢
 have e:opAt m b=opAt m a:=by unfold opAt;rw [hk.1]
 refine ⟨hk.1.symm,?_⟩
 rw [e,hk.2,zqK h]
theorem zoa {m:Model} {s:Swap} {e f:Effect} (h:Swp m s) (he:EffV m e) (hf:EffV m f):zf2 m s e f=true↔f.delta.Perm (e.delta.map (chgM m s))∧f.hold.Perm (e.hold.map (rowM m s))∧f.updates.Perm (e.updates.map (updM m s)):=by
 obtain ⟨D,-,d1,d2⟩:=zi6 (n:=1000000) h he.inn he.sz he.room (by omega)
 rw [zl6 h he hf d1 d2]
 have hne:D.Pairwise λa b=>a.cell≠b.cell:=(d1.pairwise_iff (λ{a b} hab=>Ne.symm hab)).2 (zpk h he)
 have hlt:D.Pairwise λa b=>a.cell<b.cell:=d2.imp₂ (λa b h1 h2=>by omega) hne
 refine and_congr_left λ_=>⟨λe2=>by rw [e2];exact d1,λhp=>?_⟩
 exact zfs (R:=λa b:Change=>a.cell<b.cell) (λa b x y=>by omega) (hp.trans d1.symm) hf.ris hlt
section
variable {m:Model} {s:Swap} (h:Sym m s) (hR:Rng m)
include h hR
theorem Sym.effV {a:Action} (ha:a∈m.actions):EffV m a.effect:=zhg h.small h.valid hR ha
theorem zoG {i:Nat} (hi:i<m.actions.length):∃ (k:Nat) (hk:k<m.actions.length),actR m s m.actions[i]=((k:Int),true)∧actR m s m.actions[k]=((i:Int),true)∧actB m s m.actions[i] m.actions[k]=true:=by
 obtain ⟨k,hk,k1,k2⟩:=h.rho (yj hi)
 obtain ⟨j,hj,j1,j2⟩:=h.rho (yj hk)
 have a1:=k2
 rw [zfA,yc] at a1
 have b1:=j2
 rw [zfA,yc] at b1
 have e:=zqB h.valid hi (zqX h.swap a1.1) hj b1.1
 refine ⟨k,hk,?_,?_,k2⟩
 ·unfold actR;rw [k1,if_pos (by omega)]
 ·unfold actR;rw [j1,if_pos (by omega),e]
end
theorem zoR {m:Model} {s:Swap} (h:Sym m s) {i:Nat} (hi:i<m.constraints.length):conR m s i=(((sigI m s i:Nat):Int),true):=by
 have:=h.sym
 simp only [symB,yc] at this
 have hc:=zht.1 this.2 i hi
 unfold conR sigI
 by_cases hk:(conAt m i).kind=1
 ·rw [if_pos hk,if_pos hk]
 ·rw [if_neg hk,if_neg hk]
  simp only [hk,decide_false,ue] at hc
  obtain ⟨j,hj⟩:=Option.isSome_iff_exists.1 hc
  rw [hj];rfl
theorem zqT {q:Nat→Bool} {k j:Nat} (hj:j<k) (h1:q j=true) (h2:∀ x,x<j→q x=false):fstP q 0 k=some j:=by
 cases h:fstP q 0 k with
 | none=>
  have:=zmm h j (yp _) (by omega)
  rw [h1] at this;cases this
 | some i=>
  obtain ⟨⟨-,i1⟩,i2,i3⟩:=zgh h
  rcases Nat.lt_trichotomy i j with hlt | e | hlt
  ·rw [h2 i hlt] at i2;cases i2
  ·rw [e]
  ·rw [i3 j (yp _) hlt] at h1;cases h1
section
variable {α:Type} {p:α→Bool}
theorem zqE {l:List α} {c j:Nat} (hj:j<l.length) (h1:p l[j]=true) (h2:(l.take j).countP p=c):nthP p l c 0=((j:Int),true):=by
 rw [zjr,zqT hj]
 ·rfl
 ·unfold atP
  rw [yo hj,h2];simp [h1]
 ·intro x hx
  have hxl:x<l.length:=by omega
  unfold atP
  rw [yo hxl]
  simp only []
  by_cases e:p l[x]=true
  ·have h3:(l.take (x+1)).countP p=(l.take x).countP p+1:=by
    rw [yv hxl,List.countP_append,List.countP_singleton,if_pos e]
   have h4:(l.take (x+1)).countP p≤(l.take j).countP p:=by
    have:l.take (x+1)=(l.take j).take (x+1):=by rw [List.take_take];congr 1;omega
    rw [this]
    exact (List.take_sublist _ _).countP_le
   rw [decide_eq_false (by omega),Bool.and_false]
  ·simp only [yF] at e
   rw [e,yU]
theorem zpn:∀ {l:List α} {c:Nat},c<l.countP p→∃ (j:Nat) (hj:j<l.length),p l[j]=true∧(l.take j).countP p=c
 | [],c,h=>by simp at h
 | x::l,c,h=>by
  by_cases e:p x=true
  ·cases c with
   | zero=>exact ⟨0,by simp,e,rfl⟩
   | succ c=>
    rw [List.countP_cons_of_pos e] at h
    obtain ⟨j,hj,h1,h2⟩:=zpn (l:=l) (c:=c) (by omega)
    exact ⟨j+1,by simpa using hj,by simpa using h1,by rw [List.take_succ_cons,List.countP_cons_of_pos e,h2]⟩
  ·rw [List.countP_cons_of_neg e] at h
   obtain ⟨j,hj,h1,h2⟩:=zpn (l:=l) (c:=c) h
   exact ⟨j+1,by simpa using hj,by simpa using h1,by rw [List.take_succ_cons,List.countP_cons_of_neg e,h2]⟩
theorem zq4 {l:List α} {c:Nat} (h:(nthP p l c 0).2=true):∃ (j:Nat) (hj:j<l.length),nthP p l c 0=((j:Int),true)∧p l[j]=true∧(l.take j).countP p=c:=by
 rw [zjr] at h ⊢
 cases hx:fstP (λj=>atP p l j&&decide ((l.take j).countP p=c)) 0 l.length with
 | none=>rw [hx] at h;simp [fstR] at h
 | some j=>
  obtain ⟨⟨-,i1⟩,i2,-⟩:=zgh hx
  have hj:j<l.length:=by omega
  unfold atP at i2
  rw [yo hj] at i2
  simp only [yc,ye] at i2
  exact ⟨j,hj,rfl,i2⟩
end
theorem gm_le (x y:Int):gmin x y≤gmax x y:=by
 unfold gmin gmax;split <;> split <;> omega
theorem gm_of (x y:Int):(gmin x y=x∧gmax x y=y)∨(gmin x y=y∧gmax x y=x):=by
 unfold gmin gmax
 split <;> split <;> omega
theorem znC {x y:Int} (h:x≤y):(gmin x y=x∧gmax x y=y)∧gmin y x=x∧gmax y x=y:=by
 unfold gmin gmax
 refine ⟨⟨?_,?_⟩,?_,?_⟩ <;> split <;> omega
theorem zmE {m:Model} {s:Swap} {q:Question} (hq:zaK m q=true) (h:(qmv m s q).2=true):zaK m (qmv m s q).1=true:=by
 obtain ⟨q1,q2,q3,q4,q5⟩:=zdi hq
 unfold qmv at h ⊢
 simp only [] at h ⊢
 by_cases hc:(!(actR m s ((idx m.actions q.e).getD default)).2||!(actR m s ((idx m.actions q.f).getD default)).2)=true
 ·rw [if_pos hc] at h;simp at h
 ·rw [if_neg hc] at h ⊢
  simp only [yz,yG,not_or,Bool.not_eq_false] at hc
  obtain ⟨k,hk,k1,-⟩:=zjl hc.1
  obtain ⟨l,hl,l1,-⟩:=zjl hc.2
  cases hh:q.target.hold with
  | false=>
   rw [hh,if_pos rfl] at h
   rw [if_pos rfl]
   by_cases hx:(conR m s q.target.index.toNat).2=true
   ·rw [if_pos hx]
    have hcon:0≤(conR m s q.target.index.toNat).1∧(conR m s q.target.index.toNat).1<(m.constraints.length:Int):=by
     unfold conR at hx ⊢
     by_cases hk1:(conAt m q.target.index.toNat).kind=1
     ·rw [if_pos hk1];have:=(q5 hh).2;simp only [];omega
     ·rw [if_neg hk1] at hx ⊢
      cases hy:fstP (conB m s q.target.index.toNat) 0 m.constraints.length with
      | none=>rw [hy] at hx;simp [fstR] at hx
      | some j=>obtain ⟨⟨-,i1⟩,-,-⟩:=zgh hy;simp only [fstR];omega
    have hle:=gm_le (k:Int) (l:Int)
    rw [k1,l1]
    unfold zaK
    simp only [yf,if_false,yc,ye]
    rcases gm_of (k:Int) (l:Int) with ⟨g1,g2⟩ | ⟨g1,g2⟩
    ·rw [g1,g2] at hle ⊢;omega
    ·rw [g1,g2] at hle ⊢;omega
   ·rw [if_neg hx] at h;simp at h
  | true=>
   rw [hh,if_neg (by simp)] at h
   rw [if_neg (by simp)]
   by_cases hx:(nthP (λz=>decide (z=rowM m s ((idx ((idx m.actions q.e).getD default).effect.hold q.target.index).getD default))) ((idx m.actions (actR m s ((idx m.actions q.e).getD default)).1).getD default).effect.hold ((((idx m.actions q.e).getD default).effect.hold.take q.target.index.toNat).countP λz=>decide (z=((idx ((idx m.actions q.e).getD default).effect.hold q.target.index).getD default))) 0).2=true
   ·rw [if_pos hx]
    obtain ⟨j,hj,j1,-,-⟩:=zq4 hx
    rw [j1,l1]
    unfold zaK
    simp only [if_true,yc,ye]
    rw [k1] at hj ⊢
    omega
   ·rw [if_neg hx] at h;simp at h
theorem zrd {m:Model} {s:Swap} {q:Question} (h:Sym m s) (hR:Rng m) (hq:zaK m q=true):(qmv m s q).2=true∧qmv m s (qmv m s q).1=(q,true):=by
 obtain ⟨q1,q2,q3,q4,q5⟩:=zdi hq
 obtain ⟨e,he⟩:=yS q1.1
 obtain ⟨f,hf⟩:=yS q2.1
 obtain ⟨t,ht⟩:=yS q3
 have hel:e<m.actions.length:=by omega
 have hfl:f<m.actions.length:=by omega
 obtain ⟨k,hk,k1,k2,k3⟩:=zoG h hR hel
 obtain ⟨l,hl,l1,l2,-⟩:=zoG h hR hfl
 have ie:idx m.actions q.e=some m.actions[e]:=by rw [he];exact za hel
 have iF:idx m.actions q.f=some m.actions[f]:=by rw [hf];exact za hfl
 have ik:idx m.actions (k:Int)=some m.actions[k]:=za hk
 have il:idx m.actions (l:Int)=some m.actions[l]:=za hl
 cases hh:q.target.hold with
 | false=>
  have hti:t<m.constraints.length:=by have:=(q5 hh).2;omega
  have hef:(e:Int)≤(f:Int):=by have:=(q5 hh).1;omega
  have c1:=zoR h hti
  have c2:=zoR h (h.sig hti).1
  rw [h.sig_sig hti] at c2
  have hone:qmv m s q=(⟨gmin k l,gmax k l,⟨false,((sigI m s t:Nat):Int)⟩⟩,true):=by
   unfold qmv
   simp only [ie,iF,yh,k1,l1,hh,ht,yx,c1]
   simp
  rw [hone]
  refine ⟨rfl,?_⟩
  have hq2:q=⟨(e:Int),(f:Int),⟨false,(t:Int)⟩⟩:=zgv he hf hh ht
  unfold qmv
  simp only []
  rcases gm_of (k:Int) (l:Int) with ⟨g1,g2⟩ | ⟨g1,g2⟩
  ·simp only [g1,g2,ik,il,yh,k2,l2,yx,c2,(znC hef).1.1,(znC hef).1.2]
   rw [hq2];simp
  ·simp only [g1,g2,ik,il,yh,k2,l2,yx,c2,(znC hef).2.1,(znC hef).2.2]
   rw [hq2];simp
 | true=>
  have htl:t<m.actions[e].effect.hold.length:=by have:=q4 hh _ ie;omega
  have hve:=h.effV hR (yj hel)
  have hvk:=h.effV hR (yj hk)
  have hab:=k3
  rw [zfA,yc] at hab
  obtain ⟨-,hperm,-⟩:=(zoa h.swp hve hvk).1 hab.2
  obtain ⟨r,hr⟩:∃ r,r=m.actions[e].effect.hold[t]:=⟨_,rfl⟩
  have hrm:r∈m.actions[e].effect.hold:=by rw [hr];exact yj htl
  have hri:=hve.inn.hold r hrm
  obtain ⟨c,hc⟩:∃ c,c=(m.actions[e].effect.hold.take t).countP λz=>decide (z=r):=⟨_,rfl⟩
  have hlt:c<m.actions[k].effect.hold.countP λz=>decide (z=rowM m s r):=by
   rw [zlu,hperm.count_eq,zgf λz hz e2=>znb h.swp (hve.inn.hold z hz) hri e2,hc,zlu]
   have h3:(m.actions[e].effect.hold.take (t+1)).count r=(m.actions[e].effect.hold.take t).count r+1:=by
    rw [zif htl,if_pos hr.symm]
   have h4:(m.actions[e].effect.hold.take (t+1)).count r≤m.actions[e].effect.hold.count r:=(List.take_sublist _ _).count_le _
   omega
  obtain ⟨j,hj,j1,j2⟩:=zpn hlt
  have n1:=zqE hj j1 j2
  have hone:qmv m s q=(⟨(k:Int),(l:Int),⟨true,(j:Int)⟩⟩,true):=by
   unfold qmv
   simp only [ie,iF,yh,k1,l1,hh,ht,yx,za htl,← hr,← hc,ik,n1]
   simp
  rw [hone]
  refine ⟨rfl,?_⟩
  have hq2:q=⟨(e:Int),(f:Int),⟨true,(t:Int)⟩⟩:=zgv he hf hh ht
  have hrow:m.actions[k].effect.hold[j]=rowM m s r:=of_decide_eq_true j1
  have ie':idx m.actions (e:Int)=some m.actions[e]:=za hel
  have n2:nthP (λz=>decide (z=rowM m s (rowM m s r))) m.actions[e].effect.hold ((m.actions[k].effect.hold.take j).countP λz=>decide (z=rowM m s r)) 0=((t:Int),true):=by
   rw [j2,zhT h.swp hri]
   exact zqE htl (by simp [hr]) hc.symm
  unfold qmv
  simp only [ik,il,yh,k2,l2,yx,za hj,hrow,ie',n2]
  rw [hq2];simp
theorem zn8 {m:Model} {s:Swap} {n:Nat} (hF:Fuel n) (hn:4294967296≤n) (hS:SmallM m) (hR:Rng m):zb6 n m s=some ((zbb m&&swpB m s)&&symB m s)∧zeD n m s=some ((zbb m&&swpB m s)&&symB m s):=by
 refine ⟨?_,zn7 hn hS⟩
 unfold zb6
 rw [zrq hF hS,ya]
 by_cases hv:(zbb m&&swpB m s)=true
 ·have hv2:=hv
  simp only [yc] at hv2
  have hV:=zcl.1 hv2.1
  have h:=zop hV hv2.2
  have hal:=hS.actions
  have hcl:=hS.constraints
  have hh:zc n ⟨zS m,s⟩=some (symB m s):=by
   have l2:loopF (zc.l2 n ⟨zS m,s⟩) n 0=some (allR (λi=>decide ((conAt m i).kind=1)||(fstP (conB m s i) 0 m.constraints.length).isSome) 0 m.constraints.length):=by
    have:=zd0 (body:=zc.l2 n ⟨zS m,s⟩) (len:=m.constraints.length) (n:=n) (st:=λi=>(i:Int)) (λi=>decide ((conAt m i).kind=1)||(fstP (conB m s i) 0 m.constraints.length).isSome) (some false) (some true) (λrec i hi=>?_) (λrec=>?_) (by omega)
    ·rw [show ((0:Nat):Int)=0 from rfl] at this
     rw [this]
     cases allR (λi=>decide ((conAt m i).kind=1)||(fstP (conB m s i) 0 m.constraints.length).isSome) 0 m.constraints.length <;> simp
    ·simp only [zc.l2,show (zS m).m=m from rfl,zn hi,if_true,zni h hS hV hi (show 1000000≤n by omega),ya,zd (i:=i) (by omega),conR]
     by_cases hk:(conAt m i).kind=1
     ·simp [hk]
     ·simp only [hk,if_false,decide_false,ue]
      cases fstP (conB m s i) 0 m.constraints.length <;> simp [fstR]
    ·simp only [zc.l2,show (zS m).m=m from rfl,zaq,yf,if_false]
   unfold zc symB
   have:=zaJ (body:=zc.l1 n ⟨zS m,s⟩) (l:=m.actions) (n:=n) (st:=λi=>(i:Int)) (λa=>decide (0≤rhoI m s a)) (some false) (loopF (zc.l2 n ⟨zS m,s⟩) n 0) (λrec i hi=>?_) (λrec=>?_) (by omega)
   ·rw [show ((0:Nat):Int)=0 from rfl] at this
    rw [this,l2]
    cases (m.actions.all λa=>decide (0≤rhoI m s a)) <;> simp
   ·simp only [zc.l1,show (zS m).m=m from rfl,zn hi,if_true,zlY h hS hV hR (za hi) (show 1000000≤n by omega),ya,zd (i:=i) (by omega),actR]
    by_cases hr:0≤rhoI m s m.actions[i]
    ·simp [hr]
    ·simp [hr]
   ·simp only [zc.l1,show (zS m).m=m from rfl,zaq,yf,if_false]
  rw [if_pos hv,hv]
  simp [grd,hh]
 ·rw [if_neg hv]
  simp only [yF] at hv
  rw [hv]
  simp [grd]
section
variable {m:Model} {s:Swap} {n:Nat} (hF:Fuel n) (hn:4294967296≤n) (hv:(zbb m&&swpB m s)=true)
include hF hn hv
end
end Go.Proofs.YtehefbidnkfciaaGreatDoor
